/- What the claim rests on, part 5: the abstract machine, contracts of the functions, plain data. -/
import Derived.Test.YtjeolbgpllbemaaGreatZp4
set_option linter.unusedVariables false
set_option linter.unusedSimpArgs false
set_option linter.unusedSectionVars false
namespace Go.Proofs.YtjeolbgpllbemaaGreat
open Go.AM
set_option maxHeartbeats 16000000
set_option maxRecDepth 20000
theorem ne_of_eq{a x y:List UInt8}(h:(a==x)=true)(h2:(x==y)=false):(a==y)=false:=by rw[eq_of_beq h];exact h2
def headOk(op name:ByteArray)(args:List ByteArray)(np ne nk:Nat):Bool:=
 match shapeOf op nk with
 |none=>false
 |some (e,m,q)=>termsOk op name args&&decide (ne=e)&&decide (nk=m)&&(decide (np=0)||q)
theorem partsOk_head(op name:ByteArray)(args:List ByteArray)(params:List Pm)(ne nk:Nat):partsOk op name args params ne nk=(headOk op name args params.length ne nk&&params.all pmOk):=by
 unfold partsOk headOk
 have e1:params.isEmpty=decide (params.length=0):=by cases params<;>simp
 cases shapeOf op nk with
 |none=>rfl
 |some p=>obtain⟨e,m,q⟩:=p;simp only[e1]
theorem drop_get{α:Type}{l:List α}{k:Nat}{x:α}(h:l[k]? =some x):l.drop k=x::l.drop (k+1):=by
 obtain⟨h1,h2⟩:=List.getElem?_eq_some_iff.1 h
 rw[List.drop_eq_getElem_cons h1,h2]
theorem formedMs_le: ∀ (l:List Ex)(d n:Nat),n≤4096→(formedMs l d n).1=true→(formedMs l d n).2≤4096
 |[],d,n,hn=>by simp[formedMs,hn]
 |e::l,d,n,hn=>by
  unfold formedMs
  have h1:=formedM_le e d n
  split
  ·rename_i c he
   rw[he]at h1
   exact formedMs_le l d c (h1 rfl)
  ·simp
mutual
theorem shapedM_le: ∀ (f:Fm)(d n:Nat),(shapedM f d n).1=true→(shapedM f d n).2≤4096
 | .mk op name args params exprs kids,d,n=>by
  unfold shapedM
  split
  ·rename_i hc
   split
   ·have h1:=formedMs_le exprs (d+1) (n+1) hc.1
    split
    ·rename_i c he
     rw[he]at h1
     exact shapedMs_le kids (d+1) c (h1 rfl)
    ·simp
   ·simp
  ·simp
theorem shapedMs_le: ∀ (l:List Fm)(d n:Nat),n≤4096→(shapedMs l d n).1=true→(shapedMs l d n).2≤4096
 |[],d,n,hn=>by simp[shapedMs,hn]
 |k::l,d,n,hn=>by
  unfold shapedMs
  have h1:=shapedM_le k d n
  split
  ·rename_i c he
   rw[he]at h1
   exact shapedMs_le l d c (h1 rfl)
  ·simp
end
theorem shaped_c: ∀ f:Fm,f.ok→ ∀ (d n:Nat),d≤33→n≤4096→ ∀ (id:Nat)(h:Heap),h.obj id=some (cntO n)→
  PCall Tryz.prog 97 [.agg f.cells,.sc (.int .i64 d),.ptr id 0 0] h fun r h'=>r= .sc (.bool (shapedM f d n).1)∧h'=h.set id (cntO (shapedM f d n).2):=by
 refine Fm.ind ?_
 intro op name args params exprs kids ih hok d n hd hn id h ho
 simp only[Fm.ok]at hok
 obtain⟨_,hnm,⟨hal,hargs⟩,⟨hpl,hps⟩,⟨hel,hes⟩,hkl,hks⟩:=hok
 rw[Ex.oks_iff]at hes
 rw[Fm.oks_iff]at hks
 have hnm':name.size≤9223372036854775807:=by unfold bigN at hnm;omega
 unfold bigN at hpl hel hkl
 have hlA:=strRows_len args
 have hlP:=pmRows_len params
 have hlE:=Ex.rows_len exprs
 have hlK:=Fm.rows_len kids
 refine pcall_wf Ty.hb_97 fun hwf=>?_
 have hid:id<h.next:=hwf id (by rw[ho];try rfl)
 refine PCall.quietX Ty.hb_97 ho (by simp[cntO,inNO,inNR,inNL,inN]) ?_
 generalize hF:shapedM (.mk op name args params exprs kids) d n=F
 unfold shapedM at hF
 by_cases hc:n+1≤4096∧d≤32
 rotate_left
 ·rw [if_neg hc]at hF
  subst hF
  have hT:=take_c (by omega) hn ho (decide_eq_false hc)
  simp only[Fm.cells]
  refine pcall_body (ow:=fun _=>false) (wf:=fun _=>false) Ty.mixed Tryz.func97 rfl Ty.hb_97 (by rw[Tryz.ntmps97];simp) ?_
  rw[Tryz.ntmps97,Tryz.results97]
  repeat'(first|refine a_seq fun K hK=>?_|(refine a_regionS ?_;simp(maxSteps:=2000000) only[Ty.w,simprocAttr])|(refine hK _ _ ?_;clear hK;try simp only[pst0,simprocAttr]))
  refine owp_useH (hT) (by(try simp only[Ty.w,simprocAttr,Bool.not_false]);try rfl) ?_;simp(maxSteps:=2000000) only[Ty.w,simprocAttr,Bool.not_false]
  repeat'(first|refine a_seq fun K hK=>?_|((first|refine a_regionS ?_|refine a_ret ?_);simp(maxSteps:=2000000) only[Ty.w,simprocAttr,Bool.not_false])|(refine hK _ _ ?_;clear hK;try simp only[pst0,simprocAttr]))
  exact(GrowX.refl ho).put
 rw[if_pos hc]at hF
 have hT:=take_c (by omega) hn ho (decide_eq_true hc)
 have wd:IntKind.i64.wrap ((d:Int)+1)=(d:Int)+1:=by rw[wrap64 (by omega) (by omega)]
 have G1:GrowX h id (cntO (n+1)) (h.set id (cntO (n+1))):=(GrowX.refl ho).put
 have hO1:(h.set id (cntO (n+1))).obj id=some (cntO (n+1)):=by simp[Heap.set]
 have hN1:(h.set id (cntO (n+1))).next=h.next:=rfl
 have hFf:partsOk op name args params exprs.length kids.length=false→F=(false,n+1):=fun hp=>by rw[← hF,if_neg (by rw[hp];simp)]
 have hFt:partsOk op name args params exprs.length kids.length=true→F=(match formedMs exprs (d+1) (n+1)with
  |(true,c')=>shapedMs kids (d+1) c'
  |(false,c')=>(false,c')):=fun hp=>by rw[← hF,if_pos hp];try rfl
 clear hF
 simp only[Fm.cells]
 refine pcall_body (ow:=fun _=>false) (wf:=fun _=>false) Ty.mixed Tryz.func97 rfl Ty.hb_97 (by rw[Tryz.ntmps97];simp) ?_
 rw[Tryz.ntmps97,Tryz.results97]
 repeat'(first|refine a_seq fun K hK=>?_|(refine a_regionS ?_;simp(maxSteps:=2000000) only[Ty.w,simprocAttr])|(refine hK _ _ ?_;clear hK;try simp only[pst0,simprocAttr]))
 refine owp_useH (hT) (by(try simp only[Ty.w,simprocAttr,Bool.not_true]);try rfl) ?_;simp(maxSteps:=2000000) only[Ty.w,simprocAttr,Bool.not_true]
 clear hT
 generalize h.set id (cntO (n+1))=H1 at G1 hO1 hN1⊢
 repeat'(first|(with_reducible refine a_hold 4 ?_)|refine a_seq fun K hK=>?_|(refine a_regionS ?_;simp(maxSteps:=2000000) only[Ty.w,simprocAttr,Bool.not_true])|(refine a_skip ?_;try simp only[pst0,simprocAttr])|(refine a_cond _ (by(try simp(maxSteps:=2000000) only[Ty.w,simprocAttr,Bool.not_true]);rfl) (fun hb=>?_) (fun hb=>?_)<;>(try simp only[hb0,decide_eq_true_eq,decide_eq_false_iff_not,simprocAttr]at hb)<;>(try(exfalso;omega)))|(refine hK _ _ ?_;clear hK;try simp only[pst0,simprocAttr]))
 refine⟨?_⟩
 refine a_cut (fun S h'=>h'=H1∧S 1= .sc (.int .i64 d)∧S 2= .ptr id 0 0∧S 3= .cptr (Fm.mk op name args params exprs kids).cells∧ ∃ (e m:Nat)(q:Bool),shapeOf op kids.length=some (e,m,q)∧((bEq op opAtom||bEq op opSame)=true→termsOk op name args=true)∧S 7= .sc (.int .i64 e)∧S 8= .sc (.bool q)∧S 9= .sc (.int .i64 m)) ?_ ?_
 ·have hfc: ∀ s∈args, ∀ h:Heap,PCall Tryz.prog 132 [sPV s] h fun r h'=>r= .sc (.bool (!termB s))∧h'=h:=fun s hs h=>fclosure2_c (hargs s hs)
  cases k1:(op.data.toList==(#[97,116,111,109]:Array UInt8).toList)with
  |true=>
   have k2:(op.data.toList==(#[115,97,109,101]:Array UInt8).toList)=false:=ne_of_eq k1 rfl
   cases q1:nameB name with
   |false=>
    have hp:=hFf (by simp[partsOk,shapeOf,termsOk,(show bEq op opAtom=true from k1),q1])
    subst hp
    repeat'(first|refine a_seq fun K hK=>?_|(refine a_regionS ?_;simp(maxSteps:=2000000) only[Ty.w,simprocAttr,k1,k2])|(refine a_skip ?_;try simp only[pst0,simprocAttr])|(refine a_cond _ (by(try simp(maxSteps:=2000000) only[Ty.w,simprocAttr,k1,k2]);rfl) (fun hb=>?_) (fun hb=>?_)<;>(try simp only[hb0,decide_eq_true_eq,decide_eq_false_iff_not,simprocAttr]at hb)<;>(try(exfalso;omega)))|(refine hK _ _ ?_;clear hK;try simp only[pst0,simprocAttr]))
    refine owp_useQ (fname_c (s:=name) hnm') (by(try simp only[Ty.w,simprocAttr,k1,k2,q1]);try rfl) ?_;simp(maxSteps:=2000000) only[Ty.w,simprocAttr,k1,k2,q1]
    repeat'(first|refine a_seq fun K hK=>?_|((first|refine a_regionS ?_|refine a_ret ?_);simp(maxSteps:=2000000) only[Ty.w,simprocAttr,k1,k2,q1,Bool.not_false])|(refine hK _ _ ?_;clear hK;try simp only[pst0,simprocAttr]))
    all_goals first|exact G1|exact⟨rfl,G1⟩
   |true=>
    cases q2:args.all termB with
    |false=>
     have hp:=hFf (by simp[partsOk,shapeOf,termsOk,(show bEq op opAtom=true from k1),q1,q2])
     subst hp
     repeat'(first|refine a_seq fun K hK=>?_|(refine a_regionS ?_;simp(maxSteps:=2000000) only[Ty.w,simprocAttr,k1,k2])|(refine a_skip ?_;try simp only[pst0,simprocAttr])|(refine a_cond _ (by(try simp(maxSteps:=2000000) only[Ty.w,simprocAttr,k1,k2]);rfl) (fun hb=>?_) (fun hb=>?_)<;>(try simp only[hb0,decide_eq_true_eq,decide_eq_false_iff_not,simprocAttr]at hb)<;>(try(exfalso;omega)))|(refine hK _ _ ?_;clear hK;try simp only[pst0,simprocAttr]))
     refine owp_useQ (fname_c (s:=name) hnm') (by(try simp only[Ty.w,simprocAttr,k1,k2,q1]);try rfl) ?_;simp(maxSteps:=2000000) only[Ty.w,simprocAttr,k1,k2,q1]
     skip
     refine owp_useQ (containsFunc_c hal hfc) (by(try simp only[Ty.w,simprocAttr,k1,k2,q1,q2]);try rfl) ?_;simp(maxSteps:=2000000) only[Ty.w,simprocAttr,k1,k2,q1,q2]
     repeat'(first|refine a_seq fun K hK=>?_|((first|refine a_regionS ?_|refine a_ret ?_);simp(maxSteps:=2000000) only[Ty.w,simprocAttr,k1,k2,q1,q2,Bool.not_false,Bool.not_true])|(refine hK _ _ ?_;clear hK;try simp only[pst0,simprocAttr]))
     all_goals first|exact G1|exact⟨rfl,G1⟩
    |true=>
     repeat'(first|refine a_seq fun K hK=>?_|(refine a_regionS ?_;simp(maxSteps:=2000000) only[Ty.w,simprocAttr,k1,k2])|(refine a_skip ?_;try simp only[pst0,simprocAttr])|(refine a_cond _ (by(try simp(maxSteps:=2000000) only[Ty.w,simprocAttr,k1,k2]);rfl) (fun hb=>?_) (fun hb=>?_)<;>(try simp only[hb0,decide_eq_true_eq,decide_eq_false_iff_not,simprocAttr]at hb)<;>(try(exfalso;omega)))|(refine hK _ _ ?_;clear hK;try simp only[pst0,simprocAttr]))
     refine owp_useQ (fname_c (s:=name) hnm') (by(try simp only[Ty.w,simprocAttr,k1,k2,q1]);try rfl) ?_;simp(maxSteps:=2000000) only[Ty.w,simprocAttr,k1,k2,q1]
     skip
     refine owp_useQ (containsFunc_c hal hfc) (by(try simp only[Ty.w,simprocAttr,k1,k2,q1,q2]);try rfl) ?_;simp(maxSteps:=2000000) only[Ty.w,simprocAttr,k1,k2,q1,q2]
     repeat'(first|(refine a_block ?_)|(refine a_skip ?_;try simp only[pst0,simprocAttr])|(refine hK _ _ ?_;clear hK;try simp only[pst0,simprocAttr]))
     simp(maxSteps:=2000000) only[Ty.w,simprocAttr,Ty.all,Fm.cells]
     exact⟨0,0,false,by simp[shapeOf,(show bEq op opAtom=true from k1)],fun _=>by simp[termsOk,(show bEq op opAtom=true from k1),q1,q2],rfl,rfl,rfl⟩
  |false=>
   cases k2:(op.data.toList==(#[115,97,109,101]:Array UInt8).toList)with
   |true=>
    cases q1:(name.data.toList==(#[]:Array UInt8).toList)with
    |false=>
     have hp:=hFf (by simp[partsOk,shapeOf,termsOk,(show bEq op opAtom=false from k1),(show bEq op opSame=true from k2),(show emptyB name=false from q1)])
     subst hp
     repeat'(first|refine a_seq fun K hK=>?_|((first|refine a_regionS ?_|refine a_ret ?_);simp(maxSteps:=2000000) only[Ty.w,simprocAttr,k1,k2,q1,Bool.not_false])|(refine a_cond _ (by(try simp(maxSteps:=2000000) only[Ty.w,simprocAttr,k1,k2,q1,Bool.not_false]);rfl) (fun hb=>?_) (fun hb=>?_)<;>(try simp only[hb0,decide_eq_true_eq,decide_eq_false_iff_not,simprocAttr]at hb)<;>(try(exfalso;omega)))|(refine hK _ _ ?_;clear hK;try simp only[pst0,simprocAttr]))
     all_goals first|exact G1|exact⟨rfl,G1⟩
    |true=>
     cases q2:((args.length:Int)==2)with
     |false=>
      have hp:=hFf (by simp[partsOk,shapeOf,termsOk,(show bEq op opAtom=false from k1),(show bEq op opSame=true from k2),(show emptyB name=true from q1),(show ¬ args.length=2 by simp at q2;omega)])
      subst hp
      have q2p:=eq_false (ne_of_beq_false q2)
      have q2i:¬ args.length=2:=by have:=ne_of_beq_false q2;omega
      repeat'(first|refine a_seq fun K hK=>?_|((first|refine a_regionS ?_|refine a_ret ?_);simp(maxSteps:=2000000) only[Ty.w,simprocAttr,k1,k2,q1,q2,q2p,hlA,Bool.not_true,Bool.not_false,not_false_eq_true,not_true_eq_false,if_true,if_false])|(refine a_cond _ (by(try simp(maxSteps:=2000000) only[Ty.w,simprocAttr,k1,k2,q1,q2,q2p,hlA,Bool.not_true,Bool.not_false,not_false_eq_true,not_true_eq_false,if_true,if_false]);rfl) (fun hb=>?_) (fun hb=>?_)<;>(try simp only[hb0,decide_eq_true_eq,decide_eq_false_iff_not,simprocAttr]at hb)<;>(try(exfalso;omega)))|(with_reducible refine ite_in (fun hb=>?_) (fun hb=>?_)<;>(try simp only[Decidable.not_not]at hb)<;>(try simp only[hb,if_true,if_false,not_false_eq_true,not_true_eq_false, ↓reduceIte])<;>(try simp only[hb0,decide_eq_true_eq,decide_eq_false_iff_not,simprocAttr]at hb)<;>(try(exfalso;omega)))|(refine hK _ _ ?_;clear hK;try simp only[pst0,simprocAttr]))
      all_goals first|exact G1|exact⟨rfl,G1⟩
     |true=>
      cases q3:args.all termB with
      |false=>
       have hp:=hFf (by simp[partsOk,shapeOf,termsOk,(show bEq op opAtom=false from k1),(show bEq op opSame=true from k2),(show emptyB name=true from q1),(show args.length=2 by simp at q2;omega),q3])
       subst hp
       have q2p:=eq_true (eq_of_beq q2)
       have q2i:args.length=2:=by have:=eq_of_beq q2;omega
       repeat'(first|refine a_seq fun K hK=>?_|(refine a_regionS ?_;simp(maxSteps:=2000000) only[Ty.w,simprocAttr,k1,k2,q1,q2,q2p,hlA,Bool.not_true,not_false_eq_true,not_true_eq_false,if_true,if_false])|(refine a_cond _ (by(try simp(maxSteps:=2000000) only[Ty.w,simprocAttr,k1,k2,q1,q2,q2p,hlA,Bool.not_true,not_false_eq_true,not_true_eq_false,if_true,if_false]);rfl) (fun hb=>?_) (fun hb=>?_)<;>(try simp only[hb0,decide_eq_true_eq,decide_eq_false_iff_not,simprocAttr]at hb)<;>(try(exfalso;omega)))|(with_reducible refine ite_in (fun hb=>?_) (fun hb=>?_)<;>(try simp only[Decidable.not_not]at hb)<;>(try simp only[hb,if_true,if_false,not_false_eq_true,not_true_eq_false, ↓reduceIte])<;>(try simp only[hb0,decide_eq_true_eq,decide_eq_false_iff_not,simprocAttr]at hb)<;>(try(exfalso;omega)))|(refine hK _ _ ?_;clear hK;try simp only[pst0,simprocAttr]))
       refine owp_useQ (containsFunc_c hal hfc) (by(try simp only[Ty.w,simprocAttr,k1,k2,q1,q2,q3]);try rfl) ?_;simp(maxSteps:=2000000) only[Ty.w,simprocAttr,k1,k2,q1,q2,q3]
       repeat'(first|refine a_seq fun K hK=>?_|((first|refine a_regionS ?_|refine a_ret ?_);simp(maxSteps:=2000000) only[Ty.w,simprocAttr,k1,k2,q1,q2,q2p,q3,Bool.not_false,Bool.not_true,not_false_eq_true,not_true_eq_false,if_true,if_false])|(refine hK _ _ ?_;clear hK;try simp only[pst0,simprocAttr]))
       all_goals first|exact G1|exact⟨rfl,G1⟩
      |true=>
       have q2p:=eq_true (eq_of_beq q2)
       have q2i:args.length=2:=by have:=eq_of_beq q2;omega
       repeat'(first|refine a_seq fun K hK=>?_|(refine a_regionS ?_;simp(maxSteps:=2000000) only[Ty.w,simprocAttr,k1,k2,q1,q2,q2p,hlA,Bool.not_true,not_false_eq_true,not_true_eq_false,if_true,if_false])|(refine a_cond _ (by(try simp(maxSteps:=2000000) only[Ty.w,simprocAttr,k1,k2,q1,q2,q2p,hlA,Bool.not_true,not_false_eq_true,not_true_eq_false,if_true,if_false]);rfl) (fun hb=>?_) (fun hb=>?_)<;>(try simp only[hb0,decide_eq_true_eq,decide_eq_false_iff_not,simprocAttr]at hb)<;>(try(exfalso;omega)))|(with_reducible refine ite_in (fun hb=>?_) (fun hb=>?_)<;>(try simp only[Decidable.not_not]at hb)<;>(try simp only[hb,if_true,if_false,not_false_eq_true,not_true_eq_false, ↓reduceIte])<;>(try simp only[hb0,decide_eq_true_eq,decide_eq_false_iff_not,simprocAttr]at hb)<;>(try(exfalso;omega)))|(refine hK _ _ ?_;clear hK;try simp only[pst0,simprocAttr]))
       refine owp_useQ (containsFunc_c hal hfc) (by(try simp only[Ty.w,simprocAttr,k1,k2,q1,q2,q3]);try rfl) ?_;simp(maxSteps:=2000000) only[Ty.w,simprocAttr,k1,k2,q1,q2,q3]
       repeat'(first|(refine a_block ?_)|(refine a_skip ?_;try simp only[pst0,simprocAttr])|(refine hK _ _ ?_;clear hK;try simp only[pst0,simprocAttr]))
       simp(maxSteps:=2000000) only[Ty.w,simprocAttr,Ty.all,Fm.cells]
       exact⟨0,0,false,by simp[shapeOf,(show bEq op opAtom=false from k1),(show bEq op opSame=true from k2)],fun _=>by simp[termsOk,(show bEq op opAtom=false from k1),(show bEq op opSame=true from k2),(show emptyB name=true from q1),(show args.length=2 by simp at q2;omega),q3],rfl,rfl,rfl⟩
   |false=>
    cases k3:(op.data.toList==(#[60]:Array UInt8).toList)with
    |true=>
     repeat'(first|refine a_seq fun K hK=>?_|(refine a_block ?_)|((first|refine a_regionS ?_|refine a_region (fun K hK=>?_));simp(maxSteps:=2000000) only[Ty.w,simprocAttr,k1,k2,k3,hlK])|(refine a_skip ?_;try simp only[pst0,simprocAttr])|(refine a_cond _ (by(try simp(maxSteps:=2000000) only[Ty.w,simprocAttr,k1,k2,k3,hlK]);rfl) (fun hb=>?_) (fun hb=>?_)<;>(try simp only[hb0,decide_eq_true_eq,decide_eq_false_iff_not,simprocAttr]at hb)<;>(try(exfalso;omega)))|(refine hK _ _ ?_;clear hK;try simp only[pst0,simprocAttr]))
     simp(maxSteps:=2000000) only[Ty.w,simprocAttr,Ty.all,Fm.cells]
     exact⟨2,0,false,by simp[shapeOf,(show bEq op opAtom=false from k1),(show bEq op opSame=false from k2),(show bEq op opLt=true from k3)],fun hh=>by simp[(show bEq op opAtom=false from k1),(show bEq op opSame=false from k2)]at hh,rfl,rfl,rfl⟩
    |false=>
     cases k4:(op.data.toList==(#[60,61]:Array UInt8).toList)with
     |true=>
      repeat'(first|refine a_seq fun K hK=>?_|(refine a_block ?_)|((first|refine a_regionS ?_|refine a_region (fun K hK=>?_));simp(maxSteps:=2000000) only[Ty.w,simprocAttr,k1,k2,k3,k4,hlK])|(refine a_skip ?_;try simp only[pst0,simprocAttr])|(refine a_cond _ (by(try simp(maxSteps:=2000000) only[Ty.w,simprocAttr,k1,k2,k3,k4,hlK]);rfl) (fun hb=>?_) (fun hb=>?_)<;>(try simp only[hb0,decide_eq_true_eq,decide_eq_false_iff_not,simprocAttr]at hb)<;>(try(exfalso;omega)))|(refine hK _ _ ?_;clear hK;try simp only[pst0,simprocAttr]))
      simp(maxSteps:=2000000) only[Ty.w,simprocAttr,Ty.all,Fm.cells]
      exact⟨2,0,false,by simp[shapeOf,(show bEq op opAtom=false from k1),(show bEq op opSame=false from k2),(show bEq op opLt=false from k3),(show bEq op opLe=true from k4)],fun hh=>by simp[(show bEq op opAtom=false from k1),(show bEq op opSame=false from k2)]at hh,rfl,rfl,rfl⟩
     |false=>
      cases k5:(op.data.toList==(#[61]:Array UInt8).toList)with
      |true=>
       repeat'(first|refine a_seq fun K hK=>?_|(refine a_block ?_)|((first|refine a_regionS ?_|refine a_region (fun K hK=>?_));simp(maxSteps:=2000000) only[Ty.w,simprocAttr,k1,k2,k3,k4,k5,hlK])|(refine a_cond _ (by(try simp(maxSteps:=2000000) only[Ty.w,simprocAttr,k1,k2,k3,k4,k5,hlK]);rfl) (fun hb=>?_) (fun hb=>?_)<;>(try simp only[hb0,decide_eq_true_eq,decide_eq_false_iff_not,simprocAttr]at hb)<;>(try(exfalso;omega)))|(refine hK _ _ ?_;clear hK;try simp only[pst0,simprocAttr]))
       simp(maxSteps:=2000000) only[Ty.w,simprocAttr,Ty.all,Fm.cells]
       exact⟨2,0,false,by simp[shapeOf,(show bEq op opAtom=false from k1),(show bEq op opSame=false from k2),(show bEq op opLt=false from k3),(show bEq op opLe=false from k4),(show bEq op opEq=true from k5)],fun hh=>by simp[(show bEq op opAtom=false from k1),(show bEq op opSame=false from k2)]at hh,rfl,rfl,rfl⟩
      |false=>
       cases k6:(op.data.toList==(#[97,110,100]:Array UInt8).toList)with
       |true=>
        repeat'(first|refine a_seq fun K hK=>?_|(refine a_block ?_)|((first|refine a_regionS ?_|refine a_region (fun K hK=>?_));simp(maxSteps:=2000000) only[Ty.w,simprocAttr,k1,k2,k3,k4,k5,k6,hlK])|(refine a_skip ?_;try simp only[pst0,simprocAttr])|(refine a_cond _ (by(try simp(maxSteps:=2000000) only[Ty.w,simprocAttr,k1,k2,k3,k4,k5,k6,hlK]);rfl) (fun hb=>?_) (fun hb=>?_)<;>(try simp only[hb0,decide_eq_true_eq,decide_eq_false_iff_not,simprocAttr]at hb)<;>(try(exfalso;omega)))|(refine hK _ _ ?_;clear hK;try simp only[pst0,simprocAttr]))
        simp(maxSteps:=2000000) only[Ty.w,simprocAttr,Ty.all,Fm.cells]
        exact⟨0,kids.length,false,by simp[shapeOf,(show bEq op opAtom=false from k1),(show bEq op opSame=false from k2),(show bEq op opLt=false from k3),(show bEq op opLe=false from k4),(show bEq op opEq=false from k5),(show bEq op opAnd=true from k6)],fun hh=>by simp[(show bEq op opAtom=false from k1),(show bEq op opSame=false from k2)]at hh,rfl,rfl,rfl⟩
       |false=>
        cases k7:(op.data.toList==(#[111,114]:Array UInt8).toList)with
        |true=>
         repeat'(first|refine a_seq fun K hK=>?_|(refine a_block ?_)|((first|refine a_regionS ?_|refine a_region (fun K hK=>?_));simp(maxSteps:=2000000) only[Ty.w,simprocAttr,k1,k2,k3,k4,k5,k6,k7,hlK])|(refine a_cond _ (by(try simp(maxSteps:=2000000) only[Ty.w,simprocAttr,k1,k2,k3,k4,k5,k6,k7,hlK]);rfl) (fun hb=>?_) (fun hb=>?_)<;>(try simp only[hb0,decide_eq_true_eq,decide_eq_false_iff_not,simprocAttr]at hb)<;>(try(exfalso;omega)))|(refine hK _ _ ?_;clear hK;try simp only[pst0,simprocAttr]))
         simp(maxSteps:=2000000) only[Ty.w,simprocAttr,Ty.all,Fm.cells]
         exact⟨0,kids.length,false,by simp[shapeOf,(show bEq op opAtom=false from k1),(show bEq op opSame=false from k2),(show bEq op opLt=false from k3),(show bEq op opLe=false from k4),(show bEq op opEq=false from k5),(show bEq op opAnd=false from k6),(show bEq op opOr=true from k7)],fun hh=>by simp[(show bEq op opAtom=false from k1),(show bEq op opSame=false from k2)]at hh,rfl,rfl,rfl⟩
        |false=>
         cases k8:(op.data.toList==(#[110,111,116]:Array UInt8).toList)with
         |true=>
          repeat'(first|refine a_seq fun K hK=>?_|(refine a_block ?_)|((first|refine a_regionS ?_|refine a_region (fun K hK=>?_));simp(maxSteps:=2000000) only[Ty.w,simprocAttr,k1,k2,k3,k4,k5,k6,k7,k8,hlK])|(refine a_cond _ (by(try simp(maxSteps:=2000000) only[Ty.w,simprocAttr,k1,k2,k3,k4,k5,k6,k7,k8,hlK]);rfl) (fun hb=>?_) (fun hb=>?_)<;>(try simp only[hb0,decide_eq_true_eq,decide_eq_false_iff_not,simprocAttr]at hb)<;>(try(exfalso;omega)))|(refine hK _ _ ?_;clear hK;try simp only[pst0,simprocAttr]))
          simp(maxSteps:=2000000) only[Ty.w,simprocAttr,Ty.all,Fm.cells]
          exact⟨0,1,false,by simp[shapeOf,(show bEq op opAtom=false from k1),(show bEq op opSame=false from k2),(show bEq op opLt=false from k3),(show bEq op opLe=false from k4),(show bEq op opEq=false from k5),(show bEq op opAnd=false from k6),(show bEq op opOr=false from k7),(show bEq op opNot=true from k8)],fun hh=>by simp[(show bEq op opAtom=false from k1),(show bEq op opSame=false from k2)]at hh,rfl,rfl,rfl⟩
         |false=>
          cases k9:(op.data.toList==(#[105,109,112,108,121]:Array UInt8).toList)with
          |true=>
           repeat'(first|refine a_seq fun K hK=>?_|(refine a_block ?_)|((first|refine a_regionS ?_|refine a_region (fun K hK=>?_));simp(maxSteps:=2000000) only[Ty.w,simprocAttr,k1,k2,k3,k4,k5,k6,k7,k8,k9,hlK])|(refine a_cond _ (by(try simp(maxSteps:=2000000) only[Ty.w,simprocAttr,k1,k2,k3,k4,k5,k6,k7,k8,k9,hlK]);rfl) (fun hb=>?_) (fun hb=>?_)<;>(try simp only[hb0,decide_eq_true_eq,decide_eq_false_iff_not,simprocAttr]at hb)<;>(try(exfalso;omega)))|(refine hK _ _ ?_;clear hK;try simp only[pst0,simprocAttr]))
           simp(maxSteps:=2000000) only[Ty.w,simprocAttr,Ty.all,Fm.cells]
           exact⟨0,2,false,by simp[shapeOf,(show bEq op opAtom=false from k1),(show bEq op opSame=false from k2),(show bEq op opLt=false from k3),(show bEq op opLe=false from k4),(show bEq op opEq=false from k5),(show bEq op opAnd=false from k6),(show bEq op opOr=false from k7),(show bEq op opNot=false from k8),(show bEq op opImp=true from k9)],fun hh=>by simp[(show bEq op opAtom=false from k1),(show bEq op opSame=false from k2)]at hh,rfl,rfl,rfl⟩
          |false=>
           cases k10:(op.data.toList==(#[102,111,114,97,108,108]:Array UInt8).toList)with
           |true=>
            repeat'(first|refine a_seq fun K hK=>?_|(refine a_block ?_)|((first|refine a_regionS ?_|refine a_region (fun K hK=>?_));simp(maxSteps:=2000000) only[Ty.w,simprocAttr,k1,k2,k3,k4,k5,k6,k7,k8,k9,k10,hlK])|(refine a_skip ?_;try simp only[pst0,simprocAttr])|(refine a_cond _ (by(try simp(maxSteps:=2000000) only[Ty.w,simprocAttr,k1,k2,k3,k4,k5,k6,k7,k8,k9,k10,hlK]);rfl) (fun hb=>?_) (fun hb=>?_)<;>(try simp only[hb0,decide_eq_true_eq,decide_eq_false_iff_not,simprocAttr]at hb)<;>(try(exfalso;omega)))|(refine hK _ _ ?_;clear hK;try simp only[pst0,simprocAttr]))
            simp(maxSteps:=2000000) only[Ty.w,simprocAttr,Ty.all,Fm.cells]
            exact⟨0,1,true,by simp[shapeOf,(show bEq op opAtom=false from k1),(show bEq op opSame=false from k2),(show bEq op opLt=false from k3),(show bEq op opLe=false from k4),(show bEq op opEq=false from k5),(show bEq op opAnd=false from k6),(show bEq op opOr=false from k7),(show bEq op opNot=false from k8),(show bEq op opImp=false from k9),(show bEq op opAll=true from k10)],fun hh=>by simp[(show bEq op opAtom=false from k1),(show bEq op opSame=false from k2)]at hh,rfl,rfl,rfl⟩
           |false=>
            cases k11:(op.data.toList==(#[101,120,105,115,116,115]:Array UInt8).toList)with
            |true=>
             repeat'(first|refine a_seq fun K hK=>?_|(refine a_block ?_)|((first|refine a_regionS ?_|refine a_region (fun K hK=>?_));simp(maxSteps:=2000000) only[Ty.w,simprocAttr,k1,k2,k3,k4,k5,k6,k7,k8,k9,k10,k11,hlK])|(refine a_cond _ (by(try simp(maxSteps:=2000000) only[Ty.w,simprocAttr,k1,k2,k3,k4,k5,k6,k7,k8,k9,k10,k11,hlK]);rfl) (fun hb=>?_) (fun hb=>?_)<;>(try simp only[hb0,decide_eq_true_eq,decide_eq_false_iff_not,simprocAttr]at hb)<;>(try(exfalso;omega)))|(refine hK _ _ ?_;clear hK;try simp only[pst0,simprocAttr]))
             simp(maxSteps:=2000000) only[Ty.w,simprocAttr,Ty.all,Fm.cells]
             exact⟨0,1,true,by simp[shapeOf,(show bEq op opAtom=false from k1),(show bEq op opSame=false from k2),(show bEq op opLt=false from k3),(show bEq op opLe=false from k4),(show bEq op opEq=false from k5),(show bEq op opAnd=false from k6),(show bEq op opOr=false from k7),(show bEq op opNot=false from k8),(show bEq op opImp=false from k9),(show bEq op opAll=false from k10),(show bEq op opSome=true from k11)],fun hh=>by simp[(show bEq op opAtom=false from k1),(show bEq op opSame=false from k2)]at hh,rfl,rfl,rfl⟩
            |false=>
             have hp:=hFf (by simp[partsOk,shapeOf,termsOk,(show bEq op opAtom=false from k1),(show bEq op opSame=false from k2),(show bEq op opLt=false from k3),(show bEq op opLe=false from k4),(show bEq op opEq=false from k5),(show bEq op opAnd=false from k6),(show bEq op opOr=false from k7),(show bEq op opNot=false from k8),(show bEq op opImp=false from k9),(show bEq op opAll=false from k10),(show bEq op opSome=false from k11)])
             subst hp
             repeat'(first|refine a_seq fun K hK=>?_|((first|refine a_regionS ?_|refine a_ret ?_);simp(maxSteps:=2000000) only[Ty.w,simprocAttr,k1,k2,k3,k4,k5,k6,k7,k8,k9,k10,k11])|(refine a_cond _ (by(try simp(maxSteps:=2000000) only[Ty.w,simprocAttr,k1,k2,k3,k4,k5,k6,k7,k8,k9,k10,k11]);rfl) (fun hb=>?_) (fun hb=>?_)<;>(try simp only[hb0,decide_eq_true_eq,decide_eq_false_iff_not,simprocAttr]at hb)<;>(try(exfalso;omega)))|(refine hK _ _ ?_;clear hK;try simp only[pst0,simprocAttr]))
             all_goals first|exact G1|exact⟨rfl,G1⟩
 ·rintro S h' ⟨rfl,g1,g2,g3,e,m,q,hs,ht,g7,g8,g9⟩
  simp only[Fm.cells]at g3
  have hO:headOk op name args params.length exprs.length kids.length=(termsOk op name args&&decide (exprs.length=e)&&decide (kids.length=m)&&(decide (params.length=0)||q)):=by unfold headOk;rw[hs]
  repeat'(with_reducible refine a_hold 24 ?_)
  refine⟨?_⟩
  refine a_cut (fun S h2=>h2=h'∧S 1= .sc (.int .i64 d)∧S 2= .ptr id 0 0∧S 3= .cptr (Fm.mk op name args params exprs kids).cells∧headOk op name args params.length exprs.length kids.length=true) ?_ ?_
  ·have hFh:headOk op name args params.length exprs.length kids.length=false→F=(false,n+1):=fun hh=>hFf (by rw[partsOk_head,hh];try rfl)
   have tA:bEq op opAtom=(op.data.toList==(#[97,116,111,109]:Array UInt8).toList):=rfl
   have tS:bEq op opSame=(op.data.toList==(#[115,97,109,101]:Array UInt8).toList):=rfl
   clear hFf hFt ih hs
   refine a_seq (fun K hK=>?_)
   refine a_regionS (lwn_cut 20 (fun S h2=>h2=h'∧S 1= .sc (.int .i64 d)∧S 2= .ptr id 0 0∧S 3= .cptr (Fm.mk op name args params exprs kids).cells∧S 7= .sc (.int .i64 e)∧S 8= .sc (.bool q)∧S 9= .sc (.int .i64 m)∧ ∃ b,S 91= .sc (.bool b)∧(b=true→F=(false,n+1))∧(b=false→termsOk op name args=true)) ?_ ?_)
   ·cases k1:(op.data.toList==(#[97,116,111,109]:Array UInt8).toList)with
    |true=>
     simp(maxSteps:=2000000) only[Ty.w,simprocAttr,Ty.all,g1,g2,g3,g7,g8,g9,hlA,k1,Bool.not_true,Bool.not_false,Fm.cells]
     exact⟨false,rfl,fun hh=>absurd hh (by simp),fun _=>ht (by rw[tA,k1];try rfl)⟩
    |false=>
     cases k2:(op.data.toList==(#[115,97,109,101]:Array UInt8).toList)with
     |true=>
      simp(maxSteps:=2000000) only[Ty.w,simprocAttr,Ty.all,g1,g2,g3,g7,g8,g9,hlA,k1,k2,Bool.not_true,Bool.not_false,Fm.cells]
      exact⟨false,rfl,fun hh=>absurd hh (by simp),fun _=>ht (by rw[tS,k2];simp)⟩
     |false=>
      cases q1:(name.data.toList==(#[]:Array UInt8).toList)with
      |false=>
       simp(maxSteps:=2000000) only[Ty.w,simprocAttr,Ty.all,g1,g2,g3,g7,g8,g9,hlA,k1,k2,q1,Bool.not_true,Bool.not_false,Fm.cells]
       exact⟨true,rfl,fun _=>hFh (by rw[hO];simp[termsOk,tA,tS,k1,k2,(show emptyB name=false from q1)]),fun hh=>absurd hh (by simp)⟩
      |true=>
       cases q2:decide ((args.length:Int)>0)with
       |true=>
        simp(maxSteps:=2000000) only[Ty.w,simprocAttr,Ty.all,g1,g2,g3,g7,g8,g9,hlA,k1,k2,q1,q2,Bool.not_true,Bool.not_false,Fm.cells]
        exact⟨true,rfl,fun _=>hFh (by rw[hO];cases args with|nil=>simp at q2|cons a l=>simp[termsOk,tA,tS,k1,k2]),fun hh=>absurd hh (by simp)⟩
       |false=>
        simp(maxSteps:=2000000) only[Ty.w,simprocAttr,Ty.all,g1,g2,g3,g7,g8,g9,hlA,k1,k2,q1,q2,Bool.not_true,Bool.not_false,Fm.cells]
        exact⟨false,rfl,fun hh=>absurd hh (by simp),fun _=>by cases args with|nil=>simp[termsOk,tA,tS,k1,k2,(show emptyB name=true from q1)]|cons a l=>simp at q2⟩
   ·clear g1 g2 g3 g7 g8 g9
    rintro S h2 ⟨rfl,g1,g2,g3,g7,g8,g9,b,g91,hbt,hbf⟩
    simp only[Fm.cells]at g3
    clear ht tA tS
    cases b with
    |true=>
     have hp:=hbt rfl
     subst hp
     simp(maxSteps:=2000000) only[Ty.w,simprocAttr,Ty.all,g1,g2,g3,g91,Bool.not_true,Bool.not_false]
     repeat'(first|refine a_seq fun K hK=>?_|((first|refine a_regionS ?_|refine a_ret ?_);simp(maxSteps:=2000000) only[Ty.w,simprocAttr,g1,g2,g3,g91])|(refine hK _ _ ?_;clear hK;try simp only[pst0,simprocAttr]))
     all_goals first|exact G1|exact⟨rfl,G1⟩
    |false=>
     have hts:=hbf rfl
     clear hbt hbf
     cases c1:((exprs.length:Int)==(e:Int))with
     |false=>
      have hp:=hFh (by rw[hO];simp[(show ¬ exprs.length=e by simp at c1;omega)])
      subst hp
      have c1p:=eq_false (ne_of_beq_false c1)
      have c1i:¬ exprs.length=e:=by have:=ne_of_beq_false c1;omega
      simp(maxSteps:=2000000) only[Ty.w,simprocAttr,Ty.all,g1,g2,g3,g7,g8,g9,hlA,hlP,hlE,hlK,g91,c1,c1p,Bool.not_true,Bool.not_false,not_false_eq_true,not_true_eq_false,if_true,if_false]
      repeat'(first|refine a_seq fun K hK=>?_|((first|refine a_regionS ?_|refine a_ret ?_);simp(maxSteps:=2000000) only[Ty.w,simprocAttr,g1,g2,g3,g7,g8,g9,hlA,hlP,hlE,hlK,g91,c1,c1p,Bool.not_true,Bool.not_false,not_false_eq_true,not_true_eq_false,if_true,if_false])|(with_reducible refine ite_in (fun hb=>?_) (fun hb=>?_)<;>(try simp only[Decidable.not_not]at hb)<;>(try simp only[hb,if_true,if_false,not_false_eq_true,not_true_eq_false, ↓reduceIte])<;>(try simp only[hb0,decide_eq_true_eq,decide_eq_false_iff_not,simprocAttr]at hb)<;>(try(exfalso;omega)))|(refine hK _ _ ?_;clear hK;try simp only[pst0,simprocAttr]))
      all_goals first|exact G1|exact⟨rfl,G1⟩
     |true=>
      have c1p:=eq_true (eq_of_beq c1)
      have c1i:exprs.length=e:=by have:=eq_of_beq c1;omega
      cases c2:((kids.length:Int)==(m:Int))with
      |false=>
       have c2p:=eq_false (ne_of_beq_false c2)
       have c2i:¬ kids.length=m:=by have:=ne_of_beq_false c2;omega
       have hp:=hFh (by rw[hO];simp[(show ¬ kids.length=m by simp at c2;omega)])
       subst hp
       simp(maxSteps:=2000000) only[Ty.w,simprocAttr,Ty.all,g1,g2,g3,g7,g8,g9,hlA,hlP,hlE,hlK,g91,c1,c2,c1p,c2p,Bool.not_true,Bool.not_false,not_false_eq_true,not_true_eq_false,if_true,if_false]
       repeat'(first|refine a_seq fun K hK=>?_|((first|refine a_regionS ?_|refine a_ret ?_);simp(maxSteps:=2000000) only[Ty.w,simprocAttr,g1,g2,g3,g7,g8,g9,hlA,hlP,hlE,hlK,g91,c1,c2,c1p,c2p,Bool.not_true,Bool.not_false,not_false_eq_true,not_true_eq_false,if_true,if_false])|(with_reducible refine ite_in (fun hb=>?_) (fun hb=>?_)<;>(try simp only[Decidable.not_not]at hb)<;>(try simp only[hb,if_true,if_false,not_false_eq_true,not_true_eq_false, ↓reduceIte])<;>(try simp only[hb0,decide_eq_true_eq,decide_eq_false_iff_not,simprocAttr]at hb)<;>(try(exfalso;omega)))|(refine hK _ _ ?_;clear hK;try simp only[pst0,simprocAttr]))
       all_goals first|exact G1|exact⟨rfl,G1⟩
      |true=>
       have c2p:=eq_true (eq_of_beq c2)
       have c2i:kids.length=m:=by have:=eq_of_beq c2;omega
       cases c3:decide ((params.length:Int)>0)with
       |false=>
        have c3e:params=[]:=List.eq_nil_of_length_eq_zero (by have:=of_decide_eq_false c3;omega)
        simp(maxSteps:=2000000) only[Ty.w,simprocAttr,Ty.all,g1,g2,g3,g7,g8,g9,hlA,hlP,hlE,hlK,g91,c1,c2,c3,c1p,c2p,Bool.not_true,Bool.not_false,not_false_eq_true,not_true_eq_false,if_true,if_false]
        repeat'(first|(refine a_skip ?_;try simp only[pst0,simprocAttr])|(refine a_cond _ (by(try simp(maxSteps:=2000000) only[Ty.w,simprocAttr,g1,g2,g3,g7,g8,g9,hlA,hlP,hlE,hlK,g91,c1,c2,c3,c1p,c2p,Bool.not_true,Bool.not_false,not_false_eq_true,not_true_eq_false,if_true,if_false]);rfl) (fun hb=>?_) (fun hb=>?_)<;>(try simp only[hb0,decide_eq_true_eq,decide_eq_false_iff_not,simprocAttr]at hb)<;>(try(exfalso;omega)))|(with_reducible refine ite_in (fun hb=>?_) (fun hb=>?_)<;>(try simp only[Decidable.not_not]at hb)<;>(try simp only[hb,if_true,if_false,not_false_eq_true,not_true_eq_false, ↓reduceIte])<;>(try simp only[hb0,decide_eq_true_eq,decide_eq_false_iff_not,simprocAttr]at hb)<;>(try(exfalso;omega)))|(refine hK _ _ ?_;clear hK;try simp only[pst0,simprocAttr]))
        simp(maxSteps:=2000000) only[Ty.w,simprocAttr,Ty.all,g1,g2,g3,Fm.cells]
        rw[hO,hts];simp[(show exprs.length=e by simp at c1;omega),(show kids.length=m by simp at c2;omega),c3e]
       |true=>
        cases q with
        |false=>
         have hp:=hFh (by rw[hO];simp[(show ¬ params.length=0 by have:=of_decide_eq_true c3;omega)])
         subst hp
         simp(maxSteps:=2000000) only[Ty.w,simprocAttr,Ty.all,g1,g2,g3,g7,g8,g9,hlA,hlP,hlE,hlK,g91,c1,c2,c3,c1p,c2p,Bool.not_true,Bool.not_false,not_false_eq_true,not_true_eq_false,if_true,if_false]
         repeat'(first|refine a_seq fun K hK=>?_|((first|refine a_regionS ?_|refine a_ret ?_);simp(maxSteps:=2000000) only[Ty.w,simprocAttr,g1,g2,g3,g7,g8,g9,hlA,hlP,hlE,hlK,g91,c1,c2,c3,c1p,c2p,Bool.not_true,Bool.not_false,not_false_eq_true,not_true_eq_false,if_true,if_false])|(with_reducible refine ite_in (fun hb=>?_) (fun hb=>?_)<;>(try simp only[Decidable.not_not]at hb)<;>(try simp only[hb,if_true,if_false,not_false_eq_true,not_true_eq_false, ↓reduceIte])<;>(try simp only[hb0,decide_eq_true_eq,decide_eq_false_iff_not,simprocAttr]at hb)<;>(try(exfalso;omega)))|(refine hK _ _ ?_;clear hK;try simp only[pst0,simprocAttr]))
         all_goals first|exact G1|exact⟨rfl,G1⟩
        |true=>
         simp(maxSteps:=2000000) only[Ty.w,simprocAttr,Ty.all,g1,g2,g3,g7,g8,g9,hlA,hlP,hlE,hlK,g91,c1,c2,c3,c1p,c2p,Bool.not_true,Bool.not_false,not_false_eq_true,not_true_eq_false,if_true,if_false]
         repeat'(first|(refine a_skip ?_;try simp only[pst0,simprocAttr])|(refine a_cond _ (by(try simp(maxSteps:=2000000) only[Ty.w,simprocAttr,g1,g2,g3,g7,g8,g9,hlA,hlP,hlE,hlK,g91,c1,c2,c3,c1p,c2p,Bool.not_true,Bool.not_false,not_false_eq_true,not_true_eq_false,if_true,if_false]);rfl) (fun hb=>?_) (fun hb=>?_)<;>(try simp only[hb0,decide_eq_true_eq,decide_eq_false_iff_not,simprocAttr]at hb)<;>(try(exfalso;omega)))|(with_reducible refine ite_in (fun hb=>?_) (fun hb=>?_)<;>(try simp only[Decidable.not_not]at hb)<;>(try simp only[hb,if_true,if_false,not_false_eq_true,not_true_eq_false, ↓reduceIte])<;>(try simp only[hb0,decide_eq_true_eq,decide_eq_false_iff_not,simprocAttr]at hb)<;>(try(exfalso;omega)))|(refine hK _ _ ?_;clear hK;try simp only[pst0,simprocAttr]))
         simp(maxSteps:=2000000) only[Ty.w,simprocAttr,Ty.all,g1,g2,g3,Fm.cells]
         rw[hO,hts];simp[(show exprs.length=e by simp at c1;omega),(show kids.length=m by simp at c2;omega)]
  ·clear g1 g2 g3 g7 g8 g9 ht hO hs
   rintro S h2 ⟨rfl,g1,g2,g3,hH⟩
   simp only[Fm.cells]at g3
   repeat'(with_reducible refine a_hold 26 ?_)
   refine⟨?_⟩
   refine a_cut (fun S h'=>S 1= .sc (.int .i64 d)∧S 2= .ptr id 0 0∧S 3= .cptr (Fm.mk op name args params exprs kids).cells∧GrowX h id (cntO (n+1)) h'∧params.all pmOk=true) ?_ ?_
   ·have hFp:params.all pmOk=false→F=(false,n+1):=fun hh=>hFf (by rw[partsOk_head,hh];simp)
    clear hFf hFt ih
    repeat'(first|refine a_seq fun K hK=>?_|(refine a_block ?_)|(refine a_regionS ?_;simp(maxSteps:=2000000) only[Ty.w,simprocAttr,g1,g2,g3,hlP])|(refine hK _ _ ?_;clear hK;try simp only[pst0,simprocAttr]))
    refine a_loop (fun c S h'=>S 1= .sc (.int .i64 d)∧S 2= .ptr id 0 0∧S 3= .cptr (Fm.mk op name args params exprs kids).cells∧S 116= .imm 2 (pmRows params)∧S 117= .sc (.int .i64 params.length)∧ ∃ k:Nat,S 118= .sc (.int .i64 k)∧k≤params.length∧c=params.length-k∧GrowX h id (cntO (n+1)) h'∧params.all pmOk=(params.drop k).all pmOk) params.length ?_ ?_
    ·simp only[Ty.w,simprocAttr,g1,g2,g3,Fm.cells]
     exact⟨0,rfl,by omega,rfl,G1,rfl⟩
    ·clear G1 hO1 g1 g2 g3
     rintro c S h' ⟨g1,g2,g3,g116,g117,k,g118,hk,rfl,hG,hall⟩
     simp only[Fm.cells]at g3
     by_cases hlt:k<params.length
     ·have hdk:decide ((k:Int)<(params.length:Int))=true:=by simp;omega
      have w7:IntKind.i64.wrap ((k:Int)+1)=k+1:=by rw[wrap64 (by omega) (by omega)]
      obtain⟨p,hx⟩: ∃ p,params[k]? =some p:=⟨_,List.getElem?_eq_getElem hlt⟩
      have hr:=pmRows_get hx
      have hpk:=hps p (List.mem_of_getElem? hx)
      obtain⟨hp1,hp2⟩:=hpk
      have hp1':p.name.size≤9223372036854775807:=by unfold bigN at hp1;omega
      have hG2:GrowX h id (cntO (n+1)) ((h'.new (.arr 2 [[.sc (.string ⟨#[]⟩),.sc (.string ⟨#[]⟩)]])).set h'.next (.arr 2 [[sPV p.name,sPV p.type]])):=(hG.new hid).set hid hG.le
      rw[drop_get hx]at hall
      simp only[List.all_cons,pmOk]at hall
      cases v1:varB p.name with
      |false=>
       have hp:=hFp (by rw[hall,v1];try rfl)
       subst hp
       have W:=And.intro g1 (And.intro g2 (And.intro g3 (And.intro g116 (And.intro g117 (And.intro g118 v1)))))
       repeat'(first|refine a_seq fun K hK=>?_|(refine a_regionS ?_;simp(maxSteps:=2000000) only[Ty.w,simprocAttr,W,hdk,hr])|(refine a_skip ?_;try simp only[pst0,simprocAttr])|(refine a_cond _ (by(try simp(maxSteps:=2000000) only[Ty.w,simprocAttr,W,hdk,hr]);rfl) (fun hb=>?_) (fun hb=>?_)<;>(try simp only[hb0,decide_eq_true_eq,decide_eq_false_iff_not,simprocAttr]at hb)<;>(try(exfalso;omega)))|(refine hK _ _ ?_;clear hK;try simp only[pst0,simprocAttr]))
       refine owp_useQ (fvariable_c (s:=p.name) hp1') (by(try simp only[Ty.w,simprocAttr,W]);try rfl) ?_;simp(maxSteps:=2000000) only[Ty.w,simprocAttr,W]
       repeat'(first|refine a_seq fun K hK=>?_|((first|refine a_regionS ?_|refine a_ret ?_);simp(maxSteps:=2000000) only[Ty.w,simprocAttr,W,Bool.not_false])|(refine hK _ _ ?_;clear hK;try simp only[pst0,simprocAttr]))
       first|exact hG2|exact⟨rfl,hG2⟩
      |true=>
       cases v2:typedB p.type with
       |false=>
        have hp:=hFp (by rw[hall,v1,v2];try rfl)
        subst hp
        have W:=And.intro g1 (And.intro g2 (And.intro g3 (And.intro g116 (And.intro g117 (And.intro g118 (And.intro v1 v2))))))
        repeat'(first|refine a_seq fun K hK=>?_|(refine a_regionS ?_;simp(maxSteps:=2000000) only[Ty.w,simprocAttr,W,hdk,hr])|(refine a_skip ?_;try simp only[pst0,simprocAttr])|(refine a_cond _ (by(try simp(maxSteps:=2000000) only[Ty.w,simprocAttr,W,hdk,hr]);rfl) (fun hb=>?_) (fun hb=>?_)<;>(try simp only[hb0,decide_eq_true_eq,decide_eq_false_iff_not,simprocAttr]at hb)<;>(try(exfalso;omega)))|(refine hK _ _ ?_;clear hK;try simp only[pst0,simprocAttr]))
        refine owp_useQ (fvariable_c (s:=p.name) hp1') (by(try simp only[Ty.w,simprocAttr,W]);try rfl) ?_;simp(maxSteps:=2000000) only[Ty.w,simprocAttr,W]
        skip
        refine owp_useQ (typed_c (s:=p.type) hp2) (by(try simp only[Ty.w,simprocAttr,W]);try rfl) ?_;simp(maxSteps:=2000000) only[Ty.w,simprocAttr,W]
        repeat'(first|refine a_seq fun K hK=>?_|((first|refine a_regionS ?_|refine a_ret ?_);simp(maxSteps:=2000000) only[Ty.w,simprocAttr,W,Bool.not_false,Bool.not_true])|(refine hK _ _ ?_;clear hK;try simp only[pst0,simprocAttr]))
        first|exact hG2|exact⟨rfl,hG2⟩
       |true=>
        rw[v1,v2]at hall
        have W:=And.intro g1 (And.intro g2 (And.intro g3 (And.intro g116 (And.intro g117 (And.intro g118 (And.intro v1 v2))))))
        repeat'(first|refine a_seq fun K hK=>?_|(refine a_regionS ?_;simp(maxSteps:=2000000) only[Ty.w,simprocAttr,W,hdk,hr])|(refine a_skip ?_;try simp only[pst0,simprocAttr])|(refine a_cond _ (by(try simp(maxSteps:=2000000) only[Ty.w,simprocAttr,W,hdk,hr]);rfl) (fun hb=>?_) (fun hb=>?_)<;>(try simp only[hb0,decide_eq_true_eq,decide_eq_false_iff_not,simprocAttr]at hb)<;>(try(exfalso;omega)))|(refine hK _ _ ?_;clear hK;try simp only[pst0,simprocAttr]))
        refine owp_useQ (fvariable_c (s:=p.name) hp1') (by(try simp only[Ty.w,simprocAttr,W]);try rfl) ?_;simp(maxSteps:=2000000) only[Ty.w,simprocAttr,W]
        skip
        refine owp_useQ (typed_c (s:=p.type) hp2) (by(try simp only[Ty.w,simprocAttr,W]);try rfl) ?_;simp(maxSteps:=2000000) only[Ty.w,simprocAttr,W]
        repeat'(first|(refine a_block ?_)|(refine a_regionS ?_;simp(maxSteps:=2000000) only[Ty.w,simprocAttr,W,w7,Bool.not_true])|(refine a_skip ?_;try simp only[pst0,simprocAttr])|(refine hK _ _ ?_;clear hK;try simp only[pst0,simprocAttr]))
        exact⟨params.length-(k+1),by omega,by simp only[Fm.cells],k+1,by simp,by omega,rfl,hG2,by simpa using hall⟩
     ·have hdk:decide ((k:Int)<(params.length:Int))=false:=by simp;omega
      rw[List.drop_eq_nil_of_le (by omega)]at hall
      repeat'(first|refine a_seq fun K hK=>?_|(refine a_regionS ?_;simp(maxSteps:=2000000) only[Ty.w,simprocAttr,g1,g2,g3,g116,g117,g118,hdk])|(refine a_exit ?_;try simp only[pst0,simprocAttr])|(refine a_cond _ (by(try simp(maxSteps:=2000000) only[Ty.w,simprocAttr,g1,g2,g3,g116,g117,g118,hdk]);rfl) (fun hb=>?_) (fun hb=>?_)<;>(try simp only[hb0,decide_eq_true_eq,decide_eq_false_iff_not,simprocAttr]at hb)<;>(try(exfalso;omega)))|(refine hK _ _ ?_;clear hK;try simp only[pst0,simprocAttr]))
      simp(maxSteps:=2000000) only[Ty.w,simprocAttr,Ty.all,g1,g2,g3,Fm.cells]
      exact⟨hG,hall⟩
   ·clear g1 g2 g3 G1 hO1
    rintro S h' ⟨g1,g2,g3,hG,hall⟩
    simp only[Fm.cells]at g3
    have hFe:=hFt (by rw[partsOk_head,hH,hall];try rfl)
    clear hFt hFf hH hall
    repeat'(with_reducible refine a_hold 32 ?_)
    refine⟨?_⟩
    refine a_cut (fun S h'=>S 1= .sc (.int .i64 d)∧S 2= .ptr id 0 0∧S 3= .cptr (Fm.mk op name args params exprs kids).cells∧ ∃ n':Nat,n'≤4096∧GrowX h id (cntO n') h'∧F=shapedMs kids (d+1) n') ?_ ?_
    ·clear ih
     repeat'(first|refine a_seq fun K hK=>?_|(refine a_block ?_)|(refine a_regionS ?_;simp(maxSteps:=2000000) only[Ty.w,simprocAttr,g1,g2,g3,hlE])|(refine hK _ _ ?_;clear hK;try simp only[pst0,simprocAttr]))
     refine a_loop (fun c S h'=>S 1= .sc (.int .i64 d)∧S 2= .ptr id 0 0∧S 3= .cptr (Fm.mk op name args params exprs kids).cells∧S 134= .imm 5 (Ex.rows exprs)∧S 135= .sc (.int .i64 exprs.length)∧ ∃ k n':Nat,S 136= .sc (.int .i64 k)∧k≤exprs.length∧c=exprs.length-k∧n'≤4096∧GrowX h id (cntO n') h'∧F=(match formedMs (exprs.drop k) (d+1) n' with
      |(true,c')=>shapedMs kids (d+1) c'
      |(false,c')=>(false,c'))) exprs.length ?_ ?_
     ·simp only[Ty.w,simprocAttr,g1,g2,g3,Fm.cells]
      exact⟨0,n+1,rfl,by omega,rfl,by omega,hG,hFe⟩
     ·clear g1 g2 g3 hG hFe
      rintro c S h' ⟨g1,g2,g3,g134,g135,k,n',g136,hk,rfl,hn',hG,hFe⟩
      simp only[Fm.cells]at g3
      by_cases hlt:k<exprs.length
      ·have hdk:decide ((k:Int)<(exprs.length:Int))=true:=by simp;omega
       have w7:IntKind.i64.wrap ((k:Int)+1)=k+1:=by rw[wrap64 (by omega) (by omega)]
       obtain⟨x,hx⟩: ∃ x,exprs[k]? =some x:=⟨_,List.getElem?_eq_getElem hlt⟩
       have hmem:=List.mem_of_getElem? hx
       have hr:=Ex.rows_get hx
       have hne:id≠h'.next:=by have:=hG.le;omega
       have hcx:=formed_c x (hes x hmem) (d+1) n' (by omega) hn' id ((h'.new (.arr 5 [[.sc (.string ⟨#[]⟩),.sc (.string ⟨#[]⟩),.sc (.int .i64 0),.sc (.slice none 0 0),.sc (.slice none 0 0)]])).set h'.next (.arr 5 [x.cells])) (by simp only[Heap.set,Heap.new];rw[if_neg hne,if_neg hne];exact hG.at_)
       have hG2:GrowX h id (cntO n') ((h'.new (.arr 5 [[.sc (.string ⟨#[]⟩),.sc (.string ⟨#[]⟩),.sc (.int .i64 0),.sc (.slice none 0 0),.sc (.slice none 0 0)]])).set h'.next (.arr 5 [x.cells])):=(hG.new hid).set hid hG.le
       have hle:=formedM_le x (d+1) n'
       rw[drop_get hx]at hFe
       simp only[formedMs]at hFe
       generalize formedM x (d+1) n'=V at hcx hle hFe
       obtain⟨b,n''⟩:=V
       simp only[natc]at hcx hle hFe
       obtain⟨xo,xn,xv,xa,xk⟩:=x
       simp only[Ex.cells]at hr hcx hG2
       repeat'(first|refine a_seq fun K hK=>?_|(refine a_regionS ?_;simp(maxSteps:=2000000) only[Ty.w,simprocAttr,g1,g2,g3,g134,g135,g136,hdk,hr,wd])|(refine a_skip ?_;try simp only[pst0,simprocAttr])|(refine a_cond _ (by(try simp(maxSteps:=2000000) only[Ty.w,simprocAttr,g1,g2,g3,g134,g135,g136,hdk,hr,wd]);rfl) (fun hb=>?_) (fun hb=>?_)<;>(try simp only[hb0,decide_eq_true_eq,decide_eq_false_iff_not,simprocAttr]at hb)<;>(try(exfalso;omega)))|(refine hK _ _ ?_;clear hK;try simp only[pst0,simprocAttr]))
       refine owp_useH (hcx) (by(try simp only[Ty.w,simprocAttr,g1,g2,g3,g134,g135,g136,hr,wd]);try rfl) ?_;simp(maxSteps:=2000000) only[Ty.w,simprocAttr,g1,g2,g3,g134,g135,g136,hr,wd]
       cases b with
       |false=>
        simp only at hFe
        subst hFe
        repeat'(first|refine a_seq fun K hK=>?_|((first|refine a_regionS ?_|refine a_ret ?_);simp(maxSteps:=2000000) only[Ty.w,simprocAttr,g1,g2,g3,g134,g135,g136,Bool.not_false])|(refine hK _ _ ?_;clear hK;try simp only[pst0,simprocAttr]))
        first|exact hG2.put|exact⟨rfl,hG2.put⟩
       |true=>
        simp only at hFe
        repeat'(first|(refine a_block ?_)|(refine a_regionS ?_;simp(maxSteps:=2000000) only[Ty.w,simprocAttr,g1,g2,g3,g134,g135,g136,w7,Bool.not_true])|(refine a_skip ?_;try simp only[pst0,simprocAttr])|(refine hK _ _ ?_;clear hK;try simp only[pst0,simprocAttr]))
        exact⟨exprs.length-(k+1),by omega,by simp only[Fm.cells],k+1,n'',by simp,by omega,rfl,hle rfl,hG2.put,hFe⟩
      ·have hdk:decide ((k:Int)<(exprs.length:Int))=false:=by simp;omega
       rw[List.drop_eq_nil_of_le (by omega)]at hFe
       simp only[formedMs]at hFe
       repeat'(first|refine a_seq fun K hK=>?_|(refine a_regionS ?_;simp(maxSteps:=2000000) only[Ty.w,simprocAttr,g1,g2,g3,g134,g135,g136,hdk])|(refine a_exit ?_;try simp only[pst0,simprocAttr])|(refine a_cond _ (by(try simp(maxSteps:=2000000) only[Ty.w,simprocAttr,g1,g2,g3,g134,g135,g136,hdk]);rfl) (fun hb=>?_) (fun hb=>?_)<;>(try simp only[hb0,decide_eq_true_eq,decide_eq_false_iff_not,simprocAttr]at hb)<;>(try(exfalso;omega)))|(refine hK _ _ ?_;clear hK;try simp only[pst0,simprocAttr]))
       simp(maxSteps:=2000000) only[Ty.w,simprocAttr,Ty.all,g1,g2,g3,Fm.cells]
       exact⟨n',hn',hG,hFe⟩
    ·clear g1 g2 g3 hG hFe
     rintro S h' ⟨g1,g2,g3,n0,hn0,hG,hFe⟩
     simp only[Fm.cells]at g3
     repeat'(first|refine a_seq fun K hK=>?_|(refine a_block ?_)|(refine a_regionS ?_;simp(maxSteps:=2000000) only[Ty.w,simprocAttr,g1,g2,g3,hlK])|(refine hK _ _ ?_;clear hK;try simp only[pst0,simprocAttr]))
     refine a_loop (fun c S h'=>S 1= .sc (.int .i64 d)∧S 2= .ptr id 0 0∧S 148= .imm 6 (Fm.rows kids)∧S 149= .sc (.int .i64 kids.length)∧ ∃ k n':Nat,S 150= .sc (.int .i64 k)∧k≤kids.length∧c=kids.length-k∧n'≤4096∧GrowX h id (cntO n') h'∧F=shapedMs (kids.drop k) (d+1) n') kids.length ?_ ?_
     ·simp only[Ty.w,simprocAttr,g1,g2]
      exact⟨0,n0,rfl,by omega,rfl,hn0,hG,hFe⟩
     ·clear g1 g2 g3 hG hFe
      rintro c S h' ⟨g1,g2,g148,g149,k,n',g150,hk,rfl,hn',hG,hFe⟩
      by_cases hlt:k<kids.length
      ·have hdk:decide ((k:Int)<(kids.length:Int))=true:=by simp;omega
       have w7:IntKind.i64.wrap ((k:Int)+1)=k+1:=by rw[wrap64 (by omega) (by omega)]
       obtain⟨x,hx⟩: ∃ x,kids[k]? =some x:=⟨_,List.getElem?_eq_getElem hlt⟩
       have hmem:=List.mem_of_getElem? hx
       have hr:=Fm.rows_get hx
       have hne:id≠h'.next:=by have:=hG.le;omega
       have hcx:=ih x hmem (hks x hmem) (d+1) n' (by omega) hn' id ((h'.new (.arr 6 [[.sc (.string ⟨#[]⟩),.sc (.string ⟨#[]⟩),.sc (.slice none 0 0),.sc (.slice none 0 0),.sc (.slice none 0 0),.sc (.slice none 0 0)]])).set h'.next (.arr 6 [x.cells])) (by simp only[Heap.set,Heap.new];rw[if_neg hne,if_neg hne];exact hG.at_)
       have hG2:GrowX h id (cntO n') ((h'.new (.arr 6 [[.sc (.string ⟨#[]⟩),.sc (.string ⟨#[]⟩),.sc (.slice none 0 0),.sc (.slice none 0 0),.sc (.slice none 0 0),.sc (.slice none 0 0)]])).set h'.next (.arr 6 [x.cells])):=(hG.new hid).set hid hG.le
       have hle:=shapedM_le x (d+1) n'
       rw[drop_get hx]at hFe
       simp only[shapedMs]at hFe
       generalize shapedM x (d+1) n'=V at hcx hle hFe
       obtain⟨b,n''⟩:=V
       simp only[natc]at hcx hle hFe
       obtain⟨xo,xn,xa,xp,xe,xk⟩:=x
       simp only[Fm.cells]at hr hcx hG2
       repeat'(first|refine a_seq fun K hK=>?_|(refine a_regionS ?_;simp(maxSteps:=2000000) only[Ty.w,simprocAttr,g1,g2,g148,g149,g150,hdk,hr,wd])|(refine a_skip ?_;try simp only[pst0,simprocAttr])|(refine a_cond _ (by(try simp(maxSteps:=2000000) only[Ty.w,simprocAttr,g1,g2,g148,g149,g150,hdk,hr,wd]);rfl) (fun hb=>?_) (fun hb=>?_)<;>(try simp only[hb0,decide_eq_true_eq,decide_eq_false_iff_not,simprocAttr]at hb)<;>(try(exfalso;omega)))|(refine hK _ _ ?_;clear hK;try simp only[pst0,simprocAttr]))
       refine owp_useH (hcx) (by(try simp only[Ty.w,simprocAttr,g1,g2,g148,g149,g150,hr,wd]);try rfl) ?_;simp(maxSteps:=2000000) only[Ty.w,simprocAttr,g1,g2,g148,g149,g150,hr,wd]
       cases b with
       |false=>
        simp only at hFe
        subst hFe
        repeat'(first|refine a_seq fun K hK=>?_|((first|refine a_regionS ?_|refine a_ret ?_);simp(maxSteps:=2000000) only[Ty.w,simprocAttr,g1,g2,g148,g149,g150,Bool.not_false])|(refine hK _ _ ?_;clear hK;try simp only[pst0,simprocAttr]))
        first|exact hG2.put|exact⟨rfl,hG2.put⟩
       |true=>
        simp only at hFe
        repeat'(first|(refine a_block ?_)|(refine a_regionS ?_;simp(maxSteps:=2000000) only[Ty.w,simprocAttr,g1,g2,g148,g149,g150,w7,Bool.not_true])|(refine a_skip ?_;try simp only[pst0,simprocAttr])|(refine hK _ _ ?_;clear hK;try simp only[pst0,simprocAttr]))
        exact⟨kids.length-(k+1),by omega,k+1,n'',by simp,by omega,rfl,hle rfl,hG2.put,hFe⟩
      ·have hdk:decide ((k:Int)<(kids.length:Int))=false:=by simp;omega
       rw[List.drop_eq_nil_of_le (by omega)]at hFe
       simp only[shapedMs]at hFe
       subst hFe
       repeat'(first|refine a_seq fun K hK=>?_|((first|refine a_regionS ?_|refine a_ret ?_);simp(maxSteps:=2000000) only[Ty.w,simprocAttr,g1,g2,g148,g149,g150,hdk])|(refine a_exit ?_;try simp only[pst0,simprocAttr])|(refine a_cond _ (by(try simp(maxSteps:=2000000) only[Ty.w,simprocAttr,g1,g2,g148,g149,g150,hdk]);rfl) (fun hb=>?_) (fun hb=>?_)<;>(try simp only[hb0,decide_eq_true_eq,decide_eq_false_iff_not,simprocAttr]at hb)<;>(try(exfalso;omega)))|((first|refine hK _ _ ?_|(clear hK;refine hK _ _ ?_));clear hK;try simp only[pst0,simprocAttr]))
       first|exact hG|exact⟨rfl,hG⟩
end Go.Proofs.YtjeolbgpllbemaaGreat
namespace Go.AM
mutual
def Fm.small:Fm→Prop
 | .mk _ _ args params exprs kids=>args.length≤1048576∧params.length≤1048576∧Ex.smalls exprs∧kids.length≤1048576∧Fm.smalls kids
def Fm.smalls:List Fm→Prop
 |[]=>True
 |k::ks=>k.small∧Fm.smalls ks
end
theorem Fm.smalls_iff:{l:List Fm}→(Fm.smalls l↔ ∀ k∈l,k.small)
 |[]=>by simp[Fm.smalls]
 |k::ks=>by simp[Fm.smalls,Fm.smalls_iff (l:=ks)]
end Go.AM
namespace Go.Proofs.YtjeolbgpllbemaaGreat
open Go.AM
set_option maxHeartbeats 4000000
set_option maxRecDepth 20000
structure WrI(h:Heap)(L:List Sx)(h':Heap):Prop where
 grow:Grow h h'
 ex: ∃ p H,h.next+1<h'.next∧h'.obj h.next=some (.arr 6 [[.sc (.int .i64 0),.sc (.int .i64 0),.sc (.int .i64 0),.sc (.int .i64 0),.sc (.string ⟨#[]⟩),.sc (.slice none 0 0)]])∧
  h'.obj (h.next+1)=some (.arr 6 [[.sc (.int .i64 3),.sc (.int .i64 0),.sc (.int .i64 0),.sc (.int .i64 0),.sc (.string ⟨#[]⟩),p]])∧Tl h' (h.next+2) 6 p (Sx.rows L)∧
  isTail h' p=some (H,Sx.rows L)∧zOk h' 6 p=true∧H.next=h'.next∧(∀ j,j<h.next+2→H.obj j=h'.obj j)∧Grow h H∧p.cells=[p]∧oneC p=true
theorem WrI.mk2{h h':Heap}{L:List Sx}{p:PV}(g:Grow h h')(hn:h.next+1<h'.next)(o1:h'.obj h.next=some (.arr 6 [[.sc (.int .i64 0),.sc (.int .i64 0),.sc (.int .i64 0),.sc (.int .i64 0),.sc (.string ⟨#[]⟩),.sc (.slice none 0 0)]]))(o2:h'.obj (h.next+1)=some (.arr 6 [[.sc (.int .i64 3),.sc (.int .i64 0),.sc (.int .i64 0),.sc (.int .i64 0),.sc (.string ⟨#[]⟩),p]]))(tl:Tl h' (h.next+2) 6 p (Sx.rows L)):WrI h L h':=by
 obtain⟨H,t1,t2,t3,t4,t5⟩:=tl.tail
 have hk:=t5 h ⟨g.le,g.old⟩ (by omega)
 refine⟨g,p,H,hn,o1,o2,tl,t1,t2,t3,t4,⟨hk.1,hk.2⟩,?_,?_⟩
 ·rcases tl with⟨_,rfl|rfl⟩|⟨_,_,_,rfl,_⟩<;>rfl
 ·rcases tl with⟨_,rfl|rfl⟩|⟨_,_,_,rfl,_⟩<;>rfl
theorem Tl.low{h:Heap}{a b z:Nat}{p:PV}{rows:List (List PV)}(t:Tl h a z p rows)(hab:b≤a):Tl h b z p rows:=by
 rcases t with ht|⟨id,h1,h2⟩
 ·exact .inl ht
 ·exact .inr ⟨id,by omega,h2⟩
theorem WrI.push{h h' H:Heap}{L:List Sx}{X:Sx}{m:Nat}(hn:h.next+1<h'.next)(o1:h'.obj h.next=some (.arr 6 [[.sc (.int .i64 0),.sc (.int .i64 0),.sc (.int .i64 0),.sc (.int .i64 0),.sc (.string ⟨#[]⟩),.sc (.slice none 0 0)]]))(t3:H.next=h'.next)(t4: ∀ j,j<h.next+2→H.obj j=h'.obj j)(g:Grow h H)(hm:m=L.length+1):
  WrI h (L++[X]) ((H.new (.arr 6 (Sx.rows L++[X.cells]))).set (h.next+1) (.arr 6 [[.sc (.int .i64 3),.sc (.int .i64 0),.sc (.int .i64 0),.sc (.int .i64 0),.sc (.string ⟨#[]⟩),.own h'.next 0 m]])):=by
 have e1:Sx.rows (L++[X])=Sx.rows L++[X.cells]:=by simp[Sx.rows_map]
 have n1:¬ h.next=h.next+1:=by omega
 have n2:¬ h.next=H.next:=by omega
 refine WrI.mk2 (p:= .own h'.next 0 m) ((g.new _).set (by omega) _) (by simp only[Heap.set,Heap.new];omega) ?_ ?_ ?_
 rotate_left
 ·simp only[Heap.set,if_true]
 ·rw [e1, ← t3]
  have:Tl (H.new (.arr 6 (Sx.rows L++[X.cells]))) (h.next+2) 6 (.own H.next 0 m) (Sx.rows L++[X.cells]):=Tl.grow (by omega) (by rw[hm];simp[Sx.rows_len])
  exact this.up (Nat.le_refl _) (fun j hj _=>by simp only[Heap.set];rw[if_neg (by omega)])
 ·simp only[Heap.set,Heap.new,n1,n2,if_false]
  rw[t4 _ (by omega)];exact o1
theorem a_heap{P:Program}{ow:Nat→Bool}{wf:FuncId→Bool}{n:Nat}{Q:Post}{s:Slots}{h0:Heap}{c:Code}(I:Heap→Prop)(hi:I h0)(hh: ∀ h',I h'→awp P ow wf n c Q s h'):awp P ow wf n c Q s h0:=hh _ hi
theorem write_c: ∀ f:Fm,f.small→shapedF f=true→ ∀ h:Heap,PCall Tryz.prog 58 [.agg f.cells] h fun r h'=>r= .agg (fmW f).cells∧h'=h:=by
 refine Fm.ind ?_
 intro op name args params exprs kids ih hsm hsh h
 simp only[Fm.small]at hsm
 obtain⟨hal,hpl,hes,hkl,hks⟩:=hsm
 rw[Ex.smalls_iff]at hes
 rw[Fm.smalls_iff]at hks
 simp only[shapedF,Bool.and_eq_true]at hsh
 obtain⟨⟨hpo,hse⟩,hsk⟩:=hsh
 rw[shapedFs_iff]at hsk
 rw[List.all_eq_true]at hse
 have hlK:=Fm.rows_len kids
 unfold fmW
 refine PCall.frz Ty.hb_58 ?_
 cases k1:(op.data.toList==(#[97,116,111,109]:Array UInt8).toList)with
 |true=>
  rw[if_pos (show bEq op opAtom=true from k1)]
  have hw: ∀ h:Heap,PCall Tryz.prog 98 [sPV name,.imm 1 (strRows args)] h fun r h'=>r= .agg (wordsM name args).cells∧h'=h:=fun h=>words_c hal
  have hfz:=fun(n:Nat)(h:Heap)=>sx_frz n h (wordsM name args)
  simp only[Fm.cells]
  generalize wordsM name args=X at hw hfz⊢
  obtain⟨ki,va,li,co,te,ks⟩:=X
  simp only[Sx.cells]at hw hfz⊢
  refine pcall_body (ow:=fun _=>false) (wf:=fun _=>false) Ty.mixed Tryz.func58 rfl Ty.hb_58 (by rw[Tryz.ntmps58];simp) ?_
  rw[Tryz.ntmps58,Tryz.results58]
  repeat'(first|refine a_seq fun K hK=>?_|(refine a_regionS ?_;simp(maxSteps:=2000000) only[Ty.w,simprocAttr,k1])|(refine hK _ _ ?_;clear hK;try simp only[pst0,simprocAttr]))
  refine owp_useQ (hw _) (by(try simp only[Ty.w,simprocAttr,k1]);try rfl) ?_;simp(maxSteps:=2000000) only[Ty.w,simprocAttr,k1]
  repeat'(first|(refine a_ret ?_;simp(maxSteps:=2000000) only[Ty.w,simprocAttr])|(refine hK _ _ ?_;clear hK;try simp only[pst0,simprocAttr]))
  refine⟨?_,((Grow.refl h).new _).set (Nat.le_refl _) _⟩
  simp only[FrzTo]
  exact⟨_,rfl,hfz _ _⟩
 |false=>
  cases k2:(op.data.toList==(#[115,97,109,101]:Array UInt8).toList)with
  |true=>
   rw[if_neg (by rw[(show bEq op opAtom=false from k1)];simp)]
   rw[if_pos (show bEq op opSame=true from k2)]
   have hw: ∀ h:Heap,PCall Tryz.prog 98 [sPV ⟨#[61]⟩,.imm 1 (strRows args)] h fun r h'=>r= .agg (wordsM opEq args).cells∧h'=h:=fun h=>words_c hal
   have hfz:=fun(n:Nat)(h:Heap)=>sx_frz n h (wordsM opEq args)
   simp only[Fm.cells]
   generalize wordsM opEq args=X at hw hfz⊢
   obtain⟨ki,va,li,co,te,ks⟩:=X
   simp only[Sx.cells]at hw hfz⊢
   refine pcall_body (ow:=fun _=>false) (wf:=fun _=>false) Ty.mixed Tryz.func58 rfl Ty.hb_58 (by rw[Tryz.ntmps58];simp) ?_
   rw[Tryz.ntmps58,Tryz.results58]
   repeat'(first|refine a_seq fun K hK=>?_|(refine a_regionS ?_;simp(maxSteps:=2000000) only[Ty.w,simprocAttr,k1,k2])|(refine hK _ _ ?_;clear hK;try simp only[pst0,simprocAttr]))
   refine owp_useQ (hw _) (by(try simp only[Ty.w,simprocAttr,k1,k2]);try rfl) ?_;simp(maxSteps:=2000000) only[Ty.w,simprocAttr,k1,k2]
   repeat'(first|(refine a_ret ?_;simp(maxSteps:=2000000) only[Ty.w,simprocAttr])|(refine hK _ _ ?_;clear hK;try simp only[pst0,simprocAttr]))
   refine⟨?_,((Grow.refl h).new _).set (Nat.le_refl _) _⟩
   simp only[FrzTo]
   exact⟨_,rfl,hfz _ _⟩
  |false=>
   rw[if_neg (by rw[(show bEq op opAtom=false from k1)];simp),if_neg (by rw[(show bEq op opSame=false from k2)];simp)]
   cases k3:(op.data.toList==(#[60]:Array UInt8).toList)with
   |true=>
    rw[if_pos (by simp[isCmp,(show bEq op opAtom=false from k1),(show bEq op opSame=false from k2),(show bEq op opLt=true from k3)])]
    have hx2:exprs.length=2:=by have q:=hpo;simp[partsOk,shapeOf,(show bEq op opAtom=false from k1),(show bEq op opSame=false from k2),(show bEq op opLt=true from k3)]at q;omega
    obtain⟨a,b,rfl⟩: ∃ a b,exprs=[a,b]:=by
     match exprs,hx2 with
     |[a,b],_=>exact⟨a,b,rfl⟩
    have ca:=writeE_c a (hes a (by simp)) (hse a (by simp))
    have cb:=writeE_c b (hes b (by simp)) (hse b (by simp))
    have hw:=fun h:Heap=>word_c (h:=h) (s:=op)
    simp only[List.map_cons,List.map_nil]
    have hfz:=fun(n:Nat)(h:Heap)=>sx_frz n h (listM [wordM op,exW a,exW b])
    have hl:=fun h:Heap=>list_c (h:=h) (p:= .imm 6 (Sx.rows [wordM op,exW a,exW b])) rfl (fun _=>frz_imm (sxs_in _ _))
    generalize exW a=xa at ca hfz hl⊢
    generalize exW b=xb at cb hfz hl⊢
    clear ih hks hpo hse hsk hes
    obtain⟨aop,aname,an,aargs,akids⟩:=a
    obtain⟨bop,bname,bn,bargs,bkids⟩:=b
    obtain⟨ki,va,li,co,te,ks⟩:=xa
    obtain⟨ki2,va2,li2,co2,te2,ks2⟩:=xb
    simp only[Fm.cells,Ex.cells,Ex.rows,listM,Sx.cells,Sx.rows,wordM]at ca cb hw hfz hl⊢
    refine pcall_body (ow:=fun _=>false) (wf:=fun _=>false) Ty.mixed Tryz.func58 rfl Ty.hb_58 (by rw[Tryz.ntmps58];simp) ?_
    rw[Tryz.ntmps58,Tryz.results58]
    repeat'(first|refine a_seq fun K hK=>?_|((first|refine a_regionS ?_|refine a_drawS (by decide+kernel) ?_);simp(maxSteps:=2000000) only[Ty.w,simprocAttr,k1,k2,k3])|(refine a_skip ?_;try simp only[pst0,simprocAttr])|(refine a_cond _ (by(try simp(maxSteps:=2000000) only[Ty.w,simprocAttr,k1,k2,k3]);rfl) (fun hb=>?_) (fun hb=>?_)<;>(try simp only[hb0,decide_eq_true_eq,decide_eq_false_iff_not,simprocAttr]at hb)<;>(try(exfalso;omega)))|(refine hK _ _ ?_;clear hK;try simp only[pst0,simprocAttr]))
    (first|refine a_dcall0 (hw _) (by(try simp only[Ty.w,simprocAttr,]);try rfl) ?_|refine a_dcallA (hw _) (by(try simp only[Ty.w,simprocAttr,]);try rfl) (by simp only[Ty.w,simprocAttr,];try trivial) ?_);simp(maxSteps:=2000000) only[Ty.w,simprocAttr,Option.getD_some,]
    skip
    (first|refine a_dcall0 (ca _) (by(try simp only[Ty.w,simprocAttr,]);try rfl) ?_|refine a_dcallA (ca _) (by(try simp only[Ty.w,simprocAttr,]);try rfl) (by simp only[Ty.w,simprocAttr,];try trivial) ?_);simp(maxSteps:=2000000) only[Ty.w,simprocAttr,Option.getD_some,]
    skip
    (first|refine a_dcall0 (cb _) (by(try simp only[Ty.w,simprocAttr,]);try rfl) ?_|refine a_dcallA (cb _) (by(try simp only[Ty.w,simprocAttr,]);try rfl) (by simp only[Ty.w,simprocAttr,];try trivial) ?_);simp(maxSteps:=2000000) only[Ty.w,simprocAttr,Option.getD_some,]
    skip
    (first|refine a_dcall0 (hl _) (by(try simp only[Ty.w,simprocAttr,]);try rfl) ?_|refine a_dcallA (hl _) (by(try simp only[Ty.w,simprocAttr,]);try rfl) (by simp only[Ty.w,simprocAttr,];try trivial) ?_);simp(maxSteps:=2000000) only[Ty.w,simprocAttr,Option.getD_some,]
    repeat'(first|(refine a_ret ?_;simp(maxSteps:=2000000) only[Ty.w,simprocAttr])|(refine hK _ _ ?_;clear hK;try simp only[pst0,simprocAttr])|(with_reducible refine a_past2 (by simp only[List.forall_mem_cons,Ty.w,simprocAttr]<;>(repeat' apply And.intro)<;>first|trivial|exact .inl (by decide+kernel)) ?_;try simp(maxSteps:=2000000) only[Ty.w,simprocAttr]))
    refine⟨?_,((Grow.refl h).new _).set (Nat.le_refl _) _⟩
    simp only[FrzTo]
    exact⟨_,rfl,hfz _ _⟩
   |false=>
    cases k4:(op.data.toList==(#[60,61]:Array UInt8).toList)with
    |true=>
     rw[if_pos (by simp[isCmp,(show bEq op opAtom=false from k1),(show bEq op opSame=false from k2),(show bEq op opLt=false from k3),(show bEq op opLe=true from k4)])]
     have hx2:exprs.length=2:=by have q:=hpo;simp[partsOk,shapeOf,(show bEq op opAtom=false from k1),(show bEq op opSame=false from k2),(show bEq op opLt=false from k3),(show bEq op opLe=true from k4)]at q;omega
     obtain⟨a,b,rfl⟩: ∃ a b,exprs=[a,b]:=by
      match exprs,hx2 with
      |[a,b],_=>exact⟨a,b,rfl⟩
     have ca:=writeE_c a (hes a (by simp)) (hse a (by simp))
     have cb:=writeE_c b (hes b (by simp)) (hse b (by simp))
     have hw:=fun h:Heap=>word_c (h:=h) (s:=op)
     simp only[List.map_cons,List.map_nil]
     have hfz:=fun(n:Nat)(h:Heap)=>sx_frz n h (listM [wordM op,exW a,exW b])
     have hl:=fun h:Heap=>list_c (h:=h) (p:= .imm 6 (Sx.rows [wordM op,exW a,exW b])) rfl (fun _=>frz_imm (sxs_in _ _))
     generalize exW a=xa at ca hfz hl⊢
     generalize exW b=xb at cb hfz hl⊢
     clear ih hks hpo hse hsk hes
     obtain⟨aop,aname,an,aargs,akids⟩:=a
     obtain⟨bop,bname,bn,bargs,bkids⟩:=b
     obtain⟨ki,va,li,co,te,ks⟩:=xa
     obtain⟨ki2,va2,li2,co2,te2,ks2⟩:=xb
     simp only[Fm.cells,Ex.cells,Ex.rows,listM,Sx.cells,Sx.rows,wordM]at ca cb hw hfz hl⊢
     refine pcall_body (ow:=fun _=>false) (wf:=fun _=>false) Ty.mixed Tryz.func58 rfl Ty.hb_58 (by rw[Tryz.ntmps58];simp) ?_
     rw[Tryz.ntmps58,Tryz.results58]
     repeat'(first|refine a_seq fun K hK=>?_|((first|refine a_regionS ?_|refine a_drawS (by decide+kernel) ?_);simp(maxSteps:=2000000) only[Ty.w,simprocAttr,k1,k2,k3,k4])|(refine a_skip ?_;try simp only[pst0,simprocAttr])|(refine a_cond _ (by(try simp(maxSteps:=2000000) only[Ty.w,simprocAttr,k1,k2,k3,k4]);rfl) (fun hb=>?_) (fun hb=>?_)<;>(try simp only[hb0,decide_eq_true_eq,decide_eq_false_iff_not,simprocAttr]at hb)<;>(try(exfalso;omega)))|(refine hK _ _ ?_;clear hK;try simp only[pst0,simprocAttr]))
     (first|refine a_dcall0 (hw _) (by(try simp only[Ty.w,simprocAttr,]);try rfl) ?_|refine a_dcallA (hw _) (by(try simp only[Ty.w,simprocAttr,]);try rfl) (by simp only[Ty.w,simprocAttr,];try trivial) ?_);simp(maxSteps:=2000000) only[Ty.w,simprocAttr,Option.getD_some,]
     skip
     (first|refine a_dcall0 (ca _) (by(try simp only[Ty.w,simprocAttr,]);try rfl) ?_|refine a_dcallA (ca _) (by(try simp only[Ty.w,simprocAttr,]);try rfl) (by simp only[Ty.w,simprocAttr,];try trivial) ?_);simp(maxSteps:=2000000) only[Ty.w,simprocAttr,Option.getD_some,]
     skip
     (first|refine a_dcall0 (cb _) (by(try simp only[Ty.w,simprocAttr,]);try rfl) ?_|refine a_dcallA (cb _) (by(try simp only[Ty.w,simprocAttr,]);try rfl) (by simp only[Ty.w,simprocAttr,];try trivial) ?_);simp(maxSteps:=2000000) only[Ty.w,simprocAttr,Option.getD_some,]
     skip
     (first|refine a_dcall0 (hl _) (by(try simp only[Ty.w,simprocAttr,]);try rfl) ?_|refine a_dcallA (hl _) (by(try simp only[Ty.w,simprocAttr,]);try rfl) (by simp only[Ty.w,simprocAttr,];try trivial) ?_);simp(maxSteps:=2000000) only[Ty.w,simprocAttr,Option.getD_some,]
     repeat'(first|(refine a_ret ?_;simp(maxSteps:=2000000) only[Ty.w,simprocAttr])|(refine hK _ _ ?_;clear hK;try simp only[pst0,simprocAttr])|(with_reducible refine a_past2 (by simp only[List.forall_mem_cons,Ty.w,simprocAttr]<;>(repeat' apply And.intro)<;>first|trivial|exact .inl (by decide+kernel)) ?_;try simp(maxSteps:=2000000) only[Ty.w,simprocAttr]))
     refine⟨?_,((Grow.refl h).new _).set (Nat.le_refl _) _⟩
     simp only[FrzTo]
     exact⟨_,rfl,hfz _ _⟩
    |false=>
     cases k5:(op.data.toList==(#[61]:Array UInt8).toList)with
     |true=>
      rw[if_pos (by simp[isCmp,(show bEq op opAtom=false from k1),(show bEq op opSame=false from k2),(show bEq op opLt=false from k3),(show bEq op opLe=false from k4),(show bEq op opEq=true from k5)])]
      have hx2:exprs.length=2:=by have q:=hpo;simp[partsOk,shapeOf,(show bEq op opAtom=false from k1),(show bEq op opSame=false from k2),(show bEq op opLt=false from k3),(show bEq op opLe=false from k4),(show bEq op opEq=true from k5)]at q;omega
      obtain⟨a,b,rfl⟩: ∃ a b,exprs=[a,b]:=by
       match exprs,hx2 with
       |[a,b],_=>exact⟨a,b,rfl⟩
      have ca:=writeE_c a (hes a (by simp)) (hse a (by simp))
      have cb:=writeE_c b (hes b (by simp)) (hse b (by simp))
      have hw:=fun h:Heap=>word_c (h:=h) (s:=op)
      simp only[List.map_cons,List.map_nil]
      have hfz:=fun(n:Nat)(h:Heap)=>sx_frz n h (listM [wordM op,exW a,exW b])
      have hl:=fun h:Heap=>list_c (h:=h) (p:= .imm 6 (Sx.rows [wordM op,exW a,exW b])) rfl (fun _=>frz_imm (sxs_in _ _))
      generalize exW a=xa at ca hfz hl⊢
      generalize exW b=xb at cb hfz hl⊢
      clear ih hks hpo hse hsk hes
      obtain⟨aop,aname,an,aargs,akids⟩:=a
      obtain⟨bop,bname,bn,bargs,bkids⟩:=b
      obtain⟨ki,va,li,co,te,ks⟩:=xa
      obtain⟨ki2,va2,li2,co2,te2,ks2⟩:=xb
      simp only[Fm.cells,Ex.cells,Ex.rows,listM,Sx.cells,Sx.rows,wordM]at ca cb hw hfz hl⊢
      refine pcall_body (ow:=fun _=>false) (wf:=fun _=>false) Ty.mixed Tryz.func58 rfl Ty.hb_58 (by rw[Tryz.ntmps58];simp) ?_
      rw[Tryz.ntmps58,Tryz.results58]
      repeat'(first|refine a_seq fun K hK=>?_|((first|refine a_regionS ?_|refine a_drawS (by decide+kernel) ?_);simp(maxSteps:=2000000) only[Ty.w,simprocAttr,k1,k2,k3,k4,k5])|(refine a_cond _ (by(try simp(maxSteps:=2000000) only[Ty.w,simprocAttr,k1,k2,k3,k4,k5]);rfl) (fun hb=>?_) (fun hb=>?_)<;>(try simp only[hb0,decide_eq_true_eq,decide_eq_false_iff_not,simprocAttr]at hb)<;>(try(exfalso;omega)))|(refine hK _ _ ?_;clear hK;try simp only[pst0,simprocAttr]))
      (first|refine a_dcall0 (hw _) (by(try simp only[Ty.w,simprocAttr,]);try rfl) ?_|refine a_dcallA (hw _) (by(try simp only[Ty.w,simprocAttr,]);try rfl) (by simp only[Ty.w,simprocAttr,];try trivial) ?_);simp(maxSteps:=2000000) only[Ty.w,simprocAttr,Option.getD_some,]
      skip
      (first|refine a_dcall0 (ca _) (by(try simp only[Ty.w,simprocAttr,]);try rfl) ?_|refine a_dcallA (ca _) (by(try simp only[Ty.w,simprocAttr,]);try rfl) (by simp only[Ty.w,simprocAttr,];try trivial) ?_);simp(maxSteps:=2000000) only[Ty.w,simprocAttr,Option.getD_some,]
      skip
      (first|refine a_dcall0 (cb _) (by(try simp only[Ty.w,simprocAttr,]);try rfl) ?_|refine a_dcallA (cb _) (by(try simp only[Ty.w,simprocAttr,]);try rfl) (by simp only[Ty.w,simprocAttr,];try trivial) ?_);simp(maxSteps:=2000000) only[Ty.w,simprocAttr,Option.getD_some,]
      skip
      (first|refine a_dcall0 (hl _) (by(try simp only[Ty.w,simprocAttr,]);try rfl) ?_|refine a_dcallA (hl _) (by(try simp only[Ty.w,simprocAttr,]);try rfl) (by simp only[Ty.w,simprocAttr,];try trivial) ?_);simp(maxSteps:=2000000) only[Ty.w,simprocAttr,Option.getD_some,]
      repeat'(first|(refine a_ret ?_;simp(maxSteps:=2000000) only[Ty.w,simprocAttr])|(refine hK _ _ ?_;clear hK;try simp only[pst0,simprocAttr])|(with_reducible refine a_past2 (by simp only[List.forall_mem_cons,Ty.w,simprocAttr]<;>(repeat' apply And.intro)<;>first|trivial|exact .inl (by decide+kernel)) ?_;try simp(maxSteps:=2000000) only[Ty.w,simprocAttr]))
      refine⟨?_,((Grow.refl h).new _).set (Nat.le_refl _) _⟩
      simp only[FrzTo]
      exact⟨_,rfl,hfz _ _⟩
     |false=>
      rw[if_neg (by simp[isCmp,(show bEq op opLt=false from k3),(show bEq op opLe=false from k4),(show bEq op opEq=false from k5)])]
      clear hse hes hpo
      simp only[Fm.cells]
      refine pcall_body (ow:=fun _=>false) (wf:=fun _=>false) Ty.mixed Tryz.func58 rfl Ty.hb_58 (by rw[Tryz.ntmps58];simp) ?_
      rw[Tryz.ntmps58,Tryz.results58]
      repeat'(first|refine a_seq fun K hK=>?_|(refine a_block ?_)|(refine a_regionS ?_;simp(maxSteps:=2000000) only[Ty.w,simprocAttr,k1,k2,k3,k4,k5])|(refine a_skip ?_;try simp only[pst0,simprocAttr])|(refine a_cond _ (by(try simp(maxSteps:=2000000) only[Ty.w,simprocAttr,k1,k2,k3,k4,k5]);rfl) (fun hb=>?_) (fun hb=>?_)<;>(try simp only[hb0,decide_eq_true_eq,decide_eq_false_iff_not,simprocAttr]at hb)<;>(try(exfalso;omega)))|(refine hK _ _ ?_;clear hK;try simp only[pst0,simprocAttr]))
      refine owp_useQ (list_c (p:= .sc (.slice none 0 0)) rfl (fun _=>by simp only[FrzTo])) (by(try simp only[Ty.w,simprocAttr,k1]);try rfl) ?_;simp(maxSteps:=2000000) only[Ty.w,simprocAttr,k1]
      repeat'(first|(with_reducible refine a_hold 11 ?_)|(refine hK _ _ ?_;clear hK;try simp only[pst0,simprocAttr]))
      refine⟨?_⟩
      refine a_heap (WrI h []) ?_ (fun H0 hI=>?_)
      ·refine WrI.mk2 (p:= .sc (.slice none 0 0)) ((((Grow.refl h).new _).new _).set (by omega) _) (by simp[Heap.new,Heap.set]) (by simp[Heap.new,Heap.set]) (by simp[Heap.new,Heap.set]) Tl.nil
      refine a_cut (fun S h'=>S 1= .cptr (Fm.mk op name args params exprs kids).cells∧S 2= .ptr h.next 0 0∧S 3= .ptr (h.next+1) 0 0∧WrI h (if(bEq op opAnd&&kids.isEmpty)=true then[]else[wordM op]) h') ?_ ?_
      ·have n6:bEq op opAnd=(op.data.toList==(#[97,110,100]:Array UInt8).toList):=rfl
       cases k6:(op.data.toList==(#[97,110,100]:Array UInt8).toList)with
       |false=>
        rw[if_neg (by rw[n6,k6];simp)]
        obtain⟨hg,p,H,hn,o1,o2,tl,t1,t2,t3,t4,hgH,hpc,hp1⟩:=hI
        have hw: ∀ (s:ByteArray)(h:Heap),PCall Tryz.prog 63 [sPV s] h fun r h'=>r= .agg (wordM s).cells∧h'=h:=fun s h=>word_c
        simp only[wordM,Sx.cells,Sx.rows]at hw
        have o2H:H.obj (h.next+1)=_:=(t4 _ (by omega)).trans o2
        have n2:(h.next+1=H.next)=False:=by simp;omega
        have hpr:(Sx.rows ([]:List Sx)).length=0:=rfl
        have hpush:=fun X:Sx=>WrI.push (L:=[]) (X:=X) (m:=1) hn o1 t3 t4 hgH rfl
        generalize Sx.rows []=R at t1 hpr hpush
        have W:=And.intro k6 (And.intro o2 (And.intro o2H (And.intro n2 (And.intro t1 (And.intro t2 (And.intro hpr (And.intro hpc hp1)))))))
        repeat'(first|refine a_seq fun K hK=>?_|((first|refine a_regionS ?_|refine a_drawS (by decide+kernel) ?_);simp(maxSteps:=2000000) only[Ty.w,simprocAttr,W,Bool.not_false])|(refine a_cond _ (by(try simp(maxSteps:=2000000) only[Ty.w,simprocAttr,W,Bool.not_false]);rfl) (fun hb=>?_) (fun hb=>?_)<;>(try simp only[hb0,decide_eq_true_eq,decide_eq_false_iff_not,simprocAttr]at hb)<;>(try(exfalso;omega)))|(refine hK _ _ ?_;clear hK;try simp only[pst0,simprocAttr]))
        (first|refine a_dcall0 (hw op _) (by(try simp only[Ty.w,simprocAttr,W,Bool.not_false]);try rfl) ?_|refine a_dcallA (hw op _) (by(try simp only[Ty.w,simprocAttr,W,Bool.not_false]);try rfl) (by simp only[Ty.w,simprocAttr,W,Bool.not_false];try trivial) ?_);simp(maxSteps:=2000000) only[Ty.w,simprocAttr,W,Option.getD_some,Bool.not_false]
        repeat'(first|(with_reducible refine a_past2 (by simp only[List.forall_mem_cons,Ty.w,simprocAttr,k6,Bool.not_false,o2,o2H,n2,t1,t2,hpr,hpc,hp1]<;>(repeat' apply And.intro)<;>first|trivial|exact .inl (by decide+kernel)) ?_;try simp(maxSteps:=2000000) only[Ty.w,simprocAttr,W,Bool.not_false])|(rw[if_pos];rotate_left 1;omega;simp(maxSteps:=2000000) only[Ty.w,simprocAttr,W,Bool.not_false]))
        (simp(maxSteps:=2000000) only[Ty.w,simprocAttr,Ty.all,Fm.cells])
        exact hpush (wordM op)
       |true=>
        cases q6:decide ((kids.length:Int)>0)with
        |false=>
         have hk0:kids.isEmpty=true:=by cases kids with|nil=>rfl|cons a l=>simp at q6
         rw[if_pos (by rw[n6,k6,hk0];try rfl)]
         repeat'(first|refine a_seq fun K hK=>?_|(refine a_regionS ?_;simp(maxSteps:=2000000) only[Ty.w,simprocAttr,k6,q6,hlK,Bool.not_true])|(refine a_skip ?_;try simp only[pst0,simprocAttr])|(refine a_cond _ (by(try simp(maxSteps:=2000000) only[Ty.w,simprocAttr,k6,q6,hlK,Bool.not_true]);rfl) (fun hb=>?_) (fun hb=>?_)<;>(try simp only[hb0,decide_eq_true_eq,decide_eq_false_iff_not,simprocAttr]at hb)<;>(try(exfalso;omega)))|(refine hK _ _ ?_;clear hK;try simp only[pst0,simprocAttr]))
         (simp(maxSteps:=2000000) only[Ty.w,simprocAttr,Ty.all,Fm.cells])
         exact hI
        |true=>
         have hk0:kids.isEmpty=false:=by cases kids with|nil=>simp at q6|cons a l=>rfl
         rw[if_neg (by rw[hk0];simp)]
         obtain⟨hg,p,H,hn,o1,o2,tl,t1,t2,t3,t4,hgH,hpc,hp1⟩:=hI
         have hw: ∀ (s:ByteArray)(h:Heap),PCall Tryz.prog 63 [sPV s] h fun r h'=>r= .agg (wordM s).cells∧h'=h:=fun s h=>word_c
         simp only[wordM,Sx.cells,Sx.rows]at hw
         have o2H:H.obj (h.next+1)=_:=(t4 _ (by omega)).trans o2
         have n2:(h.next+1=H.next)=False:=by simp;omega
         have hpr:(Sx.rows ([]:List Sx)).length=0:=rfl
         have hpush:=fun X:Sx=>WrI.push (L:=[]) (X:=X) (m:=1) hn o1 t3 t4 hgH rfl
         generalize Sx.rows []=R at t1 hpr hpush
         have W:=And.intro k6 (And.intro q6 (And.intro hlK (And.intro o2 (And.intro o2H (And.intro n2 (And.intro t1 (And.intro t2 (And.intro hpr (And.intro hpc hp1)))))))))
         repeat'(first|refine a_seq fun K hK=>?_|((first|refine a_regionS ?_|refine a_drawS (by decide+kernel) ?_);simp(maxSteps:=2000000) only[Ty.w,simprocAttr,W,Bool.not_true])|(refine a_cond _ (by(try simp(maxSteps:=2000000) only[Ty.w,simprocAttr,W,Bool.not_true]);rfl) (fun hb=>?_) (fun hb=>?_)<;>(try simp only[hb0,decide_eq_true_eq,decide_eq_false_iff_not,simprocAttr]at hb)<;>(try(exfalso;omega)))|(refine hK _ _ ?_;clear hK;try simp only[pst0,simprocAttr]))
         (first|refine a_dcall0 (hw op _) (by(try simp only[Ty.w,simprocAttr,W,Bool.not_true]);try rfl) ?_|refine a_dcallA (hw op _) (by(try simp only[Ty.w,simprocAttr,W,Bool.not_true]);try rfl) (by simp only[Ty.w,simprocAttr,W,Bool.not_true];try trivial) ?_);simp(maxSteps:=2000000) only[Ty.w,simprocAttr,W,Option.getD_some,Bool.not_true]
         repeat'(first|(with_reducible refine a_past2 (by simp only[List.forall_mem_cons,Ty.w,simprocAttr,k6,q6,hlK,Bool.not_true,o2,o2H,n2,t1,t2,hpr,hpc,hp1]<;>(repeat' apply And.intro)<;>first|trivial|exact .inl (by decide+kernel)) ?_;try simp(maxSteps:=2000000) only[Ty.w,simprocAttr,W,Bool.not_true])|(rw[if_pos];rotate_left 1;omega;simp(maxSteps:=2000000) only[Ty.w,simprocAttr,W,Bool.not_true]))
         (simp(maxSteps:=2000000) only[Ty.w,simprocAttr,Ty.all,Fm.cells])
         exact hpush (wordM op)
      ·clear hI
       obtain⟨L0,hL0,hl0⟩: ∃ L0:List Sx,(if(bEq op opAnd&&kids.isEmpty)=true then[]else[wordM op])=L0∧L0.length≤1:=⟨_,rfl,by split<;>simp⟩
       rw[hL0]
       rintro S h' ⟨g1,g2,g3,hI⟩
       simp only[Fm.cells]at g1
       repeat'(with_reducible refine a_hold 13 ?_)
       refine⟨?_⟩
       refine a_cut (fun S h'=>S 1= .cptr (Fm.mk op name args params exprs kids).cells∧S 2= .ptr h.next 0 0∧S 3= .ptr (h.next+1) 0 0∧WrI h (L0++(if isQ op=true then[listM (paramsW params)]else[])) h') ?_ ?_
       ·have n7:bEq op opAll=(op.data.toList==(#[102,111,114,97,108,108]:Array UInt8).toList):=rfl
        have n8:bEq op opSome=(op.data.toList==(#[101,120,105,115,116,115]:Array UInt8).toList):=rfl
        cases k7:(op.data.toList==(#[102,111,114,97,108,108]:Array UInt8).toList)with
        |true=>
         rw[if_pos (by simp[isQ,n7,n8,k7])]
         obtain⟨hg,p,H,hn,o1,o2,tl,t1,t2,t3,t4,hgH,hpc,hp1⟩:=hI
         have hwp:=writeParams_c (l:=params) hpl
         have hli: ∀ h:Heap,PCall Tryz.prog 99 [.imm 6 (Sx.rows (paramsW params))] h fun r h'=>r= .agg (listM (paramsW params)).cells∧h'=h:=fun h=>list_c rfl (fun _=>frz_imm (sxs_in _ _))
         generalize hX:listM (paramsW params)=X at hli⊢
         clear hX
         generalize Sx.rows (paramsW params)=PR at hwp hli
         have o2H:H.obj (h.next+1)=_:=(t4 _ (by omega)).trans o2
         have n2:(h.next+1=H.next)=False:=by simp;omega
         have hpr:=Sx.rows_len L0
         have hpush:=WrI.push (L:=L0) (X:=X) (m:=L0.length+1) hn o1 t3 t4 hgH rfl
         generalize Sx.rows L0=R at t1 hpr hpush
         have hb:(L0.length+1)*72≤140737488355328:=by omega
         obtain⟨ki,va,li,co,te,ks⟩:=X
         simp only[Sx.cells]at hli hpush
         have W:=And.intro g1 (And.intro g2 (And.intro g3 (And.intro k7 (And.intro o2 (And.intro o2H (And.intro n2 (And.intro t1 (And.intro t2 (And.intro hpr (And.intro hpc (And.intro hp1 hb)))))))))))
         repeat'(first|refine a_seq fun K hK=>?_|((first|refine a_regionS ?_|refine a_drawS (by decide+kernel) ?_);simp(maxSteps:=2000000) only[Ty.w,simprocAttr,W])|(refine a_cond _ (by(try simp(maxSteps:=2000000) only[Ty.w,simprocAttr,W]);rfl) (fun hb=>?_) (fun hb=>?_)<;>(try simp only[hb0,decide_eq_true_eq,decide_eq_false_iff_not,simprocAttr]at hb)<;>(try(exfalso;omega)))|(refine hK _ _ ?_;clear hK;try simp only[pst0,simprocAttr]))
         (first|refine a_dcall0 (hwp _) (by(try simp only[Ty.w,simprocAttr,W]);try rfl) ?_|refine a_dcallA (hwp _) (by(try simp only[Ty.w,simprocAttr,W]);try rfl) (by simp only[Ty.w,simprocAttr,W];try trivial) ?_);simp(maxSteps:=2000000) only[Ty.w,simprocAttr,W,Option.getD_some]
         skip
         (first|refine a_dcall0 (hli _) (by(try simp only[Ty.w,simprocAttr,W]);try rfl) ?_|refine a_dcallA (hli _) (by(try simp only[Ty.w,simprocAttr,W]);try rfl) (by simp only[Ty.w,simprocAttr,W];try trivial) ?_);simp(maxSteps:=2000000) only[Ty.w,simprocAttr,W,Option.getD_some]
         repeat'(first|(with_reducible refine a_past2 (by simp only[List.forall_mem_cons,Ty.w,simprocAttr,g1,g2,g3,k7,o2,o2H,n2,t1,t2,hpr,hpc,hp1,hb]<;>(repeat' apply And.intro)<;>first|trivial|exact .inl (by decide+kernel)) ?_;try simp(maxSteps:=2000000) only[Ty.w,simprocAttr,W])|(rw[if_pos];rotate_left 1;omega;simp(maxSteps:=2000000) only[Ty.w,simprocAttr,W]))
         (simp(maxSteps:=2000000) only[Ty.w,simprocAttr,W,Ty.all,Fm.cells])
         exact hpush
        |false=>
         cases k8:(op.data.toList==(#[101,120,105,115,116,115]:Array UInt8).toList)with
         |true=>
          rw[if_pos (by simp[isQ,n7,n8,k8])]
          obtain⟨hg,p,H,hn,o1,o2,tl,t1,t2,t3,t4,hgH,hpc,hp1⟩:=hI
          have hwp:=writeParams_c (l:=params) hpl
          have hli: ∀ h:Heap,PCall Tryz.prog 99 [.imm 6 (Sx.rows (paramsW params))] h fun r h'=>r= .agg (listM (paramsW params)).cells∧h'=h:=fun h=>list_c rfl (fun _=>frz_imm (sxs_in _ _))
          generalize hX:listM (paramsW params)=X at hli⊢
          clear hX
          generalize Sx.rows (paramsW params)=PR at hwp hli
          have o2H:H.obj (h.next+1)=_:=(t4 _ (by omega)).trans o2
          have n2:(h.next+1=H.next)=False:=by simp;omega
          have hpr:=Sx.rows_len L0
          have hpush:=WrI.push (L:=L0) (X:=X) (m:=L0.length+1) hn o1 t3 t4 hgH rfl
          generalize Sx.rows L0=R at t1 hpr hpush
          have hb:(L0.length+1)*72≤140737488355328:=by omega
          obtain⟨ki,va,li,co,te,ks⟩:=X
          simp only[Sx.cells]at hli hpush
          have W:=And.intro g1 (And.intro g2 (And.intro g3 (And.intro k7 (And.intro k8 (And.intro o2 (And.intro o2H (And.intro n2 (And.intro t1 (And.intro t2 (And.intro hpr (And.intro hpc (And.intro hp1 hb))))))))))))
          repeat'(first|refine a_seq fun K hK=>?_|((first|refine a_regionS ?_|refine a_drawS (by decide+kernel) ?_);simp(maxSteps:=2000000) only[Ty.w,simprocAttr,W])|(refine a_cond _ (by(try simp(maxSteps:=2000000) only[Ty.w,simprocAttr,W]);rfl) (fun hb=>?_) (fun hb=>?_)<;>(try simp only[hb0,decide_eq_true_eq,decide_eq_false_iff_not,simprocAttr]at hb)<;>(try(exfalso;omega)))|(refine hK _ _ ?_;clear hK;try simp only[pst0,simprocAttr]))
          (first|refine a_dcall0 (hwp _) (by(try simp only[Ty.w,simprocAttr,W]);try rfl) ?_|refine a_dcallA (hwp _) (by(try simp only[Ty.w,simprocAttr,W]);try rfl) (by simp only[Ty.w,simprocAttr,W];try trivial) ?_);simp(maxSteps:=2000000) only[Ty.w,simprocAttr,W,Option.getD_some]
          skip
          (first|refine a_dcall0 (hli _) (by(try simp only[Ty.w,simprocAttr,W]);try rfl) ?_|refine a_dcallA (hli _) (by(try simp only[Ty.w,simprocAttr,W]);try rfl) (by simp only[Ty.w,simprocAttr,W];try trivial) ?_);simp(maxSteps:=2000000) only[Ty.w,simprocAttr,W,Option.getD_some]
          repeat'(first|(with_reducible refine a_past2 (by simp only[List.forall_mem_cons,Ty.w,simprocAttr,g1,g2,g3,k7,k8,o2,o2H,n2,t1,t2,hpr,hpc,hp1,hb]<;>(repeat' apply And.intro)<;>first|trivial|exact .inl (by decide+kernel)) ?_;try simp(maxSteps:=2000000) only[Ty.w,simprocAttr,W])|(rw[if_pos];rotate_left 1;omega;simp(maxSteps:=2000000) only[Ty.w,simprocAttr,W]))
          (simp(maxSteps:=2000000) only[Ty.w,simprocAttr,W,Ty.all,Fm.cells])
          exact hpush
         |false=>
          rw[if_neg (by simp[isQ,n7,n8,k7,k8]),List.append_nil]
          repeat'(first|refine a_seq fun K hK=>?_|(refine a_regionS ?_;simp(maxSteps:=2000000) only[Ty.w,simprocAttr,g1,g2,g3,k7,k8])|(refine a_skip ?_;try simp only[pst0,simprocAttr])|(refine a_cond _ (by(try simp(maxSteps:=2000000) only[Ty.w,simprocAttr,g1,g2,g3,k7,k8]);rfl) (fun hb=>?_) (fun hb=>?_)<;>(try simp only[hb0,decide_eq_true_eq,decide_eq_false_iff_not,simprocAttr]at hb)<;>(try(exfalso;omega)))|(refine hK _ _ ?_;clear hK;try simp only[pst0,simprocAttr]))
          (simp(maxSteps:=2000000) only[Ty.w,simprocAttr,Ty.all,g1,g2,g3,Fm.cells])
          exact hI
       ·clear hI g1 g2 g3
        obtain⟨L1,hL1,hl1⟩: ∃ L1:List Sx,L0++(if isQ op=true then[listM (paramsW params)]else[])=L1∧L1.length≤2:=⟨_,rfl,by split<;>simp<;>omega⟩
        rw[hL1]
        rw[fmWs_map]
        clear hL1 hL0 hl0
        rintro S h' ⟨g1,g2,g3,hI⟩
        simp only[Fm.cells]at g1
        have hrl: ∀ k,(L1++(kids.take k).map fmW).length≤1048578:=fun k=>by simp;omega
        repeat'(first|refine a_seq fun K hK=>?_|(refine a_block ?_)|(refine a_regionS ?_;simp(maxSteps:=2000000) only[Ty.w,simprocAttr,g1,g2,g3,hlK])|(refine hK _ _ ?_;clear hK;try simp only[pst0,simprocAttr]))
        refine a_loop (fun c S h'=>S 2= .ptr h.next 0 0∧S 3= .ptr (h.next+1) 0 0∧S 75= .imm 6 (Fm.rows kids)∧S 76= .sc (.int .i64 kids.length)∧ ∃ k:Nat,S 77= .sc (.int .i64 k)∧k≤kids.length∧c=kids.length-k∧WrI h (L1++(kids.take k).map fmW) h') kids.length ?_ ?_
        ·simp only[Ty.w,simprocAttr,g2,g3]
         refine⟨0,rfl,by omega,rfl,?_⟩
         simpa using hI
        ·clear hI g1 g2 g3
         rintro c S h' ⟨g2,g3,g75,g76,k,g77,hk,rfl,hI⟩
         by_cases hlt:k<kids.length
         ·have hdk:decide ((k:Int)<(kids.length:Int))=true:=by simp;omega
          have w7:IntKind.i64.wrap ((k:Int)+1)=k+1:=by rw[wrap64 (by omega) (by omega)]
          obtain⟨x,hx⟩: ∃ x,kids[k]? =some x:=⟨_,List.getElem?_eq_getElem hlt⟩
          have hmem:=List.mem_of_getElem? hx
          have hr:=Fm.rows_get hx
          have hcx:=ih x hmem (hks x hmem) (hsk x hmem)
          have hL:L1++(kids.take (k+1)).map fmW=L1++(kids.take k).map fmW++[fmW x]:=by rw[List.take_add_one,hx];simp
          have hrk:=hrl k
          generalize L1++(kids.take k).map fmW=L2 at hI hrk hL
          obtain⟨hg,p,H,hn,o1,o2,tl,t1,t2,t3,t4,hgH,hpc,hp1⟩:=hI
          generalize fmW x=X at hcx hL
          obtain⟨xo,xn,xa,xp,xe,xk⟩:=x
          obtain⟨ki,va,li,co,te,ks⟩:=X
          simp only[Fm.cells,Sx.cells]at hr hcx
          clear t1 t2 t3 t4 hgH H
          have hG2:Grow h ((h'.new (.arr 6 [[.sc (.string ⟨#[]⟩),.sc (.string ⟨#[]⟩),.sc (.slice none 0 0),.sc (.slice none 0 0),.sc (.slice none 0 0),.sc (.slice none 0 0)]])).set h'.next (.arr 6 [[sPV xo,sPV xn,.imm 1 (strRows xa),.imm 2 (pmRows xp),.imm 5 (Ex.rows xe),.imm 6 (Fm.rows xk)]])):=(hg.new _).set hg.le _
          have m1:¬ h.next=h'.next:=by omega
          have m2:¬ h.next+1=h'.next:=by omega
          have m2':(h.next+1=h'.next)=False:=eq_false m2
          have tl2:=tl.up (h':=((h'.new (.arr 6 [[.sc (.string ⟨#[]⟩),.sc (.string ⟨#[]⟩),.sc (.slice none 0 0),.sc (.slice none 0 0),.sc (.slice none 0 0),.sc (.slice none 0 0)]])).set h'.next (.arr 6 [[sPV xo,sPV xn,.imm 1 (strRows xa),.imm 2 (pmRows xp),.imm 5 (Ex.rows xe),.imm 6 (Fm.rows xk)]]))) (by simp[Heap.set,Heap.new]) fun j _ hj=>by simp only[Heap.set,Heap.new];rw[if_neg (by omega),if_neg (by omega)]
          obtain⟨H,t1,t2,t3,t4,t5⟩:=tl2.tail
          have hgH:=t5 h ⟨hG2.le,hG2.old⟩ (by omega)
          have o1x:((h'.new (.arr 6 [[.sc (.string ⟨#[]⟩),.sc (.string ⟨#[]⟩),.sc (.slice none 0 0),.sc (.slice none 0 0),.sc (.slice none 0 0),.sc (.slice none 0 0)]])).set h'.next (.arr 6 [[sPV xo,sPV xn,.imm 1 (strRows xa),.imm 2 (pmRows xp),.imm 5 (Ex.rows xe),.imm 6 (Fm.rows xk)]])).obj h.next=some (.arr 6 [[.sc (.int .i64 0),.sc (.int .i64 0),.sc (.int .i64 0),.sc (.int .i64 0),.sc (.string ⟨#[]⟩),.sc (.slice none 0 0)]]):=by simp only[Heap.set,Heap.new,m1,if_false];exact o1
          have o2H:H.obj (h.next+1)=_:=(t4 _ (by omega)).trans (show((h'.new (.arr 6 [[.sc (.string ⟨#[]⟩),.sc (.string ⟨#[]⟩),.sc (.slice none 0 0),.sc (.slice none 0 0),.sc (.slice none 0 0),.sc (.slice none 0 0)]])).set h'.next (.arr 6 [[sPV xo,sPV xn,.imm 1 (strRows xa),.imm 2 (pmRows xp),.imm 5 (Ex.rows xe),.imm 6 (Fm.rows xk)]])).obj (h.next+1)=_ by simp only[Heap.set,Heap.new,m2,if_false];exact o2)
          have t3':H.next=h'.next+1:=by rw[t3];simp[Heap.new,Heap.set]
          have n2:(h.next+1=H.next)=False:=by simp;omega
          have hpr:=Sx.rows_len L2
          have hpush:=WrI.push (h':=((h'.new (.arr 6 [[.sc (.string ⟨#[]⟩),.sc (.string ⟨#[]⟩),.sc (.slice none 0 0),.sc (.slice none 0 0),.sc (.slice none 0 0),.sc (.slice none 0 0)]])).set h'.next (.arr 6 [[sPV xo,sPV xn,.imm 1 (strRows xa),.imm 2 (pmRows xp),.imm 5 (Ex.rows xe),.imm 6 (Fm.rows xk)]]))) (L:=L2) (X:= .mk ki va li co te ks) (m:=L2.length+1) (by simp only[Heap.set,Heap.new];omega) o1x t3 t4 ⟨hgH.1,hgH.2⟩ rfl
          have hb:(L2.length+1)*72≤140737488355328:=by omega
          simp only[Sx.cells]at hpush
          clear tl tl2 t5
          generalize Sx.rows L2=R at t1 hpr hpush
          have W:=And.intro g2 (And.intro g3 (And.intro g75 (And.intro g76 (And.intro g77 (And.intro w7 (And.intro m2' (And.intro o2 (And.intro o2H (And.intro n2 (And.intro t1 (And.intro t2 (And.intro hpr (And.intro hpc (And.intro hp1 hb))))))))))))))
          repeat'(first|refine a_seq fun K hK=>?_|((first|refine a_regionS ?_|refine a_draw (by decide+kernel) (fun K hK=>?_));simp(maxSteps:=2000000) only[Ty.w,simprocAttr,W,hdk,hr])|(refine a_skip ?_;try simp only[pst0,simprocAttr])|(refine a_cond _ (by(try simp(maxSteps:=2000000) only[Ty.w,simprocAttr,W,hdk,hr]);rfl) (fun hb=>?_) (fun hb=>?_)<;>(try simp only[hb0,decide_eq_true_eq,decide_eq_false_iff_not,simprocAttr]at hb)<;>(try(exfalso;omega)))|(refine hK _ _ ?_;clear hK;try simp only[pst0,simprocAttr]))
          (first|refine a_dcall0 (hcx _) (by(try simp only[Ty.w,simprocAttr,W]);try rfl) ?_|refine a_dcallA (hcx _) (by(try simp only[Ty.w,simprocAttr,W]);try rfl) (by simp only[Ty.w,simprocAttr,W];try trivial) ?_);simp(maxSteps:=2000000) only[Ty.w,simprocAttr,W,Option.getD_some]
          repeat'(first|(refine a_regionS ?_;simp(maxSteps:=2000000) only[Ty.w,simprocAttr,W])|(refine hK _ _ ?_;clear hK;try simp only[pst0,simprocAttr])|(with_reducible refine a_past2 (by simp only[List.forall_mem_cons,Ty.w,simprocAttr,g2,g3,g75,g76,g77,w7,m2',o2,o2H,n2,t1,t2,hpr,hpc,hp1,hb]<;>(repeat' apply And.intro)<;>first|trivial|exact .inl (by decide+kernel)) ?_;try simp(maxSteps:=2000000) only[Ty.w,simprocAttr,W])|(rw[if_pos];rotate_left 1;omega;simp(maxSteps:=2000000) only[Ty.w,simprocAttr,W]))
          exact⟨kids.length-(k+1),by omega,k+1,by simp,by omega,rfl,by rw[hL];exact hpush⟩
         ·have hdk:decide ((k:Int)<(kids.length:Int))=false:=by simp;omega
          have hke:k=kids.length:=by omega
          subst hke
          rw[List.take_length]at hI
          obtain⟨hg,p,H,hn,o1,o2,tl,t1,t2,t3,t4,hgH,hpc,hp1⟩:=hI
          repeat'(first|refine a_seq fun K hK=>?_|((first|refine a_regionS ?_|refine a_ret ?_);simp(maxSteps:=2000000) only[Ty.w,simprocAttr,g2,g3,g75,g76,g77,hdk,o1,o2,hpc])|(refine a_exit ?_;try simp only[pst0,simprocAttr])|(refine a_cond _ (by(try simp(maxSteps:=2000000) only[Ty.w,simprocAttr,g2,g3,g75,g76,g77,hdk,o1,o2,hpc]);rfl) (fun hb=>?_) (fun hb=>?_)<;>(try simp only[hb0,decide_eq_true_eq,decide_eq_false_iff_not,simprocAttr]at hb)<;>(try(exfalso;omega)))|((first|refine hK _ _ ?_|(clear hK;refine hK _ _ ?_));clear hK;try simp only[pst0,simprocAttr])|(rw[if_pos];rotate_left 1;omega;simp(maxSteps:=2000000) only[Ty.w,simprocAttr,g2,g3,g75,g76,g77,hdk,o1,o2,hpc]))
          refine⟨?_,hg.set (Nat.le_refl _) _⟩
          have tl2:Tl (h'.set h.next (.arr 6 [[.sc (.int .i64 3),.sc (.int .i64 0),.sc (.int .i64 0),.sc (.int .i64 0),.sc (.string ⟨#[]⟩),p]])) (h.next+2) 6 p (Sx.rows (L1++kids.map fmW)):=tl.up (Nat.le_refl _) fun j hj _=>by simp only[Heap.set];rw[if_neg (by omega)]
          simp only[listM,Sx.cells,FrzTo,FrzL]
          exact⟨_,rfl,rfl,rfl,rfl,rfl,rfl,by have:=tl_frzX (Tl.low tl2 (show h.next≤h.next+2 by omega));simpa only[FrzTo]using this,trivial⟩
theorem paramsW_ok: ∀ l:List Pm,(∀ p∈l,p.ok)→Sx.oks (paramsW l)
 |[],_=>by simp[paramsW,Sx.oks]
 |p::l,h=>by
  have hp:=h p (by simp)
  simp only[paramsW,Sx.oks]
  exact⟨wordM_ok hp.1,wordM_ok (by simp[bigN,ByteArray.size]),wordM_ok hp.2,paramsW_ok l fun q hq=>h q (by simp[hq])⟩
theorem parts_cmp{op name:ByteArray}{args:List ByteArray}{params:List Pm}{ne nk:Nat}(h1:¬ bEq op opAtom=true)(h2:¬ bEq op opSame=true)(h3:isCmp op=true)(hp:partsOk op name args params ne nk=true):ne=2:=by
 unfold partsOk shapeOf at hp
 rw[if_neg h1,if_neg h2]at hp
 simp only[isCmp,Bool.or_eq_true]at h3
 by_cases k1:bEq op opLt=true
 ·simp [k1]at hp;omega
 by_cases k2:bEq op opLe=true
 ·simp [k1,k2]at hp;omega
 have k3:bEq op opEq=true:=by rcases h3 with(h3|h3)|h3<;>simp_all
 simp[k1,k2,k3]at hp;omega
theorem fmW_ok: ∀ f:Fm,f.ok→f.small→shapedF f=true→(fmW f).ok:=by
 refine Fm.ind ?_
 intro op name args params exprs kids ih hok hsm hsh
 simp only[Fm.ok]at hok
 simp only[Fm.small]at hsm
 simp only[shapedF,Bool.and_eq_true]at hsh
 obtain⟨⟨hpo,_⟩,hsh⟩:=hsh
 rw[shapedFs_iff]at hsh
 obtain⟨hop,hname,hargs,⟨_,hps⟩,⟨_,hes⟩,_,hks⟩:=hok
 obtain⟨hal,hpl,hse,hkl,hsk⟩:=hsm
 rw[Fm.oks_iff]at hks
 rw[Ex.oks_iff]at hes
 have hse:=Ex.smalls_iff.1 hse
 have hsk:=Fm.smalls_iff.1 hsk
 unfold fmW
 split
 ·exact wordsM_ok hname hal hargs.2
 split
 ·exact wordsM_ok (by simp[opEq,bigN,ByteArray.size]) hal hargs.2
 split
 ·rename_i c1 c2 c3
  have h2:=parts_cmp c1 c2 c3 hpo
  refine listM_ok (by simp only[List.length_cons,List.length_map];unfold bigN;omega) (Sx.oks_iff.2 ?_)
  intro k hk
  simp only[List.mem_cons,List.mem_map]at hk
  rcases hk with rfl|⟨e,he,rfl⟩
  ·exact wordM_ok hop
  ·exact exW_ok e (hes e he) (hse e he)
 ·rw [fmWs_map]
  refine listM_ok ?_ (Sx.oks_iff.2 ?_)
  ·simp only[List.length_append,List.length_map]
   have a1:(if(bEq op opAnd&&kids.isEmpty)=true then[]else[wordM op]).length≤1:=by split<;>simp
   have a2:(if isQ op=true then[listM (paramsW params)]else[]).length≤1:=by split<;>simp
   unfold bigN;omega
  ·intro k hk
   simp only[List.mem_append,List.mem_map]at hk
   rcases hk with(hk|hk)|⟨e,he,rfl⟩
   ·split at hk
    ·simp at hk
    ·simp only[List.mem_singleton]at hk;subst hk;exact wordM_ok hop
   ·split at hk
    ·simp only[List.mem_singleton]at hk;subst hk
     exact listM_ok (by rw[paramsW_len];unfold bigN;omega) (paramsW_ok _ hps)
    ·simp at hk
   ·exact ih e he (hks e he) (hsk e he) (hsh e he)
theorem formedMs_shaped: ∀ (l:List Ex)(d n:Nat),(formedMs l d n).1=true→ ∀ e∈l,shapedE e=true
 |[],_,_,_=>by simp
 |e::l,d,n,h=>by
  unfold formedMs at h
  have h1:=formedM_shaped e d n
  split at h
  ·rename_i c he
   rw[he]at h1
   intro x hx
   rcases List.mem_cons.1 hx with rfl|hx
   ·exact h1 rfl
   ·exact formedMs_shaped l d c h x hx
  ·simp at h
mutual
theorem shapedM_F: ∀ (f:Fm)(d n:Nat),(shapedM f d n).1=true→shapedF f=true
 | .mk op name args params exprs kids,d,n,h=>by
  unfold shapedM at h
  split at h
  ·split at h
   ·rename_i hp
    have h1:=formedMs_shaped exprs (d+1) (n+1)
    split at h
    ·rename_i c he
     rw[he]at h1
     simp only[shapedF,Bool.and_eq_true,List.all_eq_true]
     exact⟨⟨hp,h1 rfl⟩,shapedMs_F kids (d+1) c h⟩
    ·simp at h
   ·simp at h
  ·simp at h
theorem shapedMs_F: ∀ (l:List Fm)(d n:Nat),(shapedMs l d n).1=true→shapedFs l=true
 |[],_,_,_=>by simp[shapedFs]
 |k::l,d,n,h=>by
  unfold shapedMs at h
  have h1:=shapedM_F k d n
  split at h
  ·rename_i c he
   rw[he]at h1
   simp only[shapedFs,Bool.and_eq_true]
   exact⟨h1 rfl,shapedMs_F l d c h⟩
  ·simp at h
end
theorem fvalid_c{f:Fm}(hok:f.ok)(hsm:f.small)(h:Heap):PCall Tryz.prog 57 [.agg f.cells] h fun r h'=>r= .sc (.bool (validF f))∧h'=h:=by
 have hf:=shaped_c f hok 0 0 (by omega) (by omega) h.next (h.new (.arr 1 [[.sc (.int .i64 0)]])) (by simp[Heap.new,cntO])
 have hsh:=shapedM_F f 0 0
 have hx:=fmW_ok f hok hsm
 have hw0:=write_c f hsm
 have hv:validF f=((shapedM f 0 0).1&&(svalid (fmW f) 0 0).1):=rfl
 rw[hv]
 refine PCall.quiet Ty.hb_57 ?_
 generalize shapedM f 0 0=V at hf hsh⊢
 obtain⟨b,c⟩:=V
 cases b with
 |false=>
  obtain⟨op,name,args,params,exprs,kids⟩:=f
  simp only[Fm.cells,Int.natCast_zero]at hf⊢
  refine pcall_body (ow:=fun t=>t==5) (wf:=fun _=>false) Ty.mixed Tryz.func57 rfl Ty.hb_57 (by rw[Tryz.ntmps57];simp) ?_
  rw[Tryz.ntmps57,Tryz.results57]
  repeat'(first|refine a_seq fun K hK=>?_|(refine a_regionS ?_;simp(maxSteps:=2000000) only[Ty.w,simprocAttr])|(refine hK _ _ ?_;clear hK;try simp only[pst0,simprocAttr]))
  refine owp_useH (hf) (by(try simp only[Ty.w,simprocAttr,]);try rfl) ?_;simp(maxSteps:=2000000) only[Ty.w,simprocAttr,]
  repeat'(first|(refine a_ret ?_;simp(maxSteps:=2000000) only[Ty.w,simprocAttr])|(refine hK _ _ ?_;clear hK;try simp only[pst0,simprocAttr]))
  exact((Grow.refl h).new _).set (Nat.le_refl _) _
 |true=>
  have hw:=hw0 (hsh rfl)
  have hvv:=svalid_c (hx (hsh rfl))
  clear hw0
  generalize fmW f=X at hw hvv⊢
  obtain⟨op,name,args,params,exprs,kids⟩:=f
  obtain⟨ki,va,li,co,te,ks⟩:=X
  simp only[Fm.cells,Sx.cells,Int.natCast_zero]at hf hw hvv⊢
  refine pcall_body (ow:=fun t=>t==5) (wf:=fun _=>false) Ty.mixed Tryz.func57 rfl Ty.hb_57 (by rw[Tryz.ntmps57];simp) ?_
  rw[Tryz.ntmps57,Tryz.results57]
  repeat'(first|refine a_seq fun K hK=>?_|(refine a_regionS ?_;simp(maxSteps:=2000000) only[Ty.w,simprocAttr])|(refine hK _ _ ?_;clear hK;try simp only[pst0,simprocAttr]))
  refine owp_useH (hf) (by(try simp only[Ty.w,simprocAttr,]);try rfl) ?_;simp(maxSteps:=2000000) only[Ty.w,simprocAttr,]
  skip
  refine owp_useQ (hw _) (by(try simp only[Ty.w,simprocAttr,]);try rfl) ?_;simp(maxSteps:=2000000) only[Ty.w,simprocAttr,]
  skip
  refine owp_useQ (hvv _) (by(try simp only[Ty.w,simprocAttr,]);try rfl) ?_;simp(maxSteps:=2000000) only[Ty.w,simprocAttr,]
  repeat'(first|(refine a_ret ?_;simp(maxSteps:=2000000) only[Ty.w,simprocAttr])|(refine hK _ _ ?_;clear hK;try simp only[pst0,simprocAttr]))
  exact((Grow.refl h).new _).set (Nat.le_refl _) _
theorem fWrite_c{f:Fm}(hok:f.ok)(hsm:f.small)(h:Heap):PCall Tryz.prog 24 [.agg f.cells] h fun r h'=>r=(if validF f then .tup [.agg (fmW f).cells,.sc .nilIface]else .tup [.agg zeroSx.cells,errV 2])∧h'=h:=by
 have hv:=fvalid_c hok hsm
 refine PCall.frz Ty.hb_24 ?_
 cases hb:validF f with
 |false=>
  rw[hb]at hv
  obtain⟨op,name,args,params,exprs,kids⟩:=f
  simp only[Fm.cells,Bool.false_eq_true,if_false]at hv⊢
  refine pcall_body (ow:=fun _=>false) (wf:=fun _=>false) Ty.mixed Tryz.func24 rfl Ty.hb_24 (by rw[Tryz.ntmps24];simp) ?_
  rw[Tryz.ntmps24,Tryz.results24]
  repeat'(first|refine a_seq fun K hK=>?_|(refine a_regionS ?_;simp(maxSteps:=2000000) only[Ty.w,simprocAttr])|(refine hK _ _ ?_;clear hK;try simp only[pst0,simprocAttr]))
  refine owp_useQ (hv _) (by(try simp only[Ty.w,simprocAttr,Bool.not_false]);try rfl) ?_;simp(maxSteps:=2000000) only[Ty.w,simprocAttr,Bool.not_false]
  repeat'(first|refine a_seq fun K hK=>?_|((first|refine a_regionS ?_|refine a_ret ?_);simp(maxSteps:=2000000) only[Ty.w,simprocAttr,Bool.not_false])|(refine hK _ _ ?_;clear hK;try simp only[pst0,simprocAttr]))
  refine⟨?_,((Grow.refl h).new _).set (Nat.le_refl _) _⟩
  simp only[zeroSx,errV,Sx.cells,Sx.rows,FrzTo,FrzL]
  exact⟨_,rfl,⟨_,rfl,rfl,rfl,rfl,rfl,rfl,.inr (.inl ⟨rfl,.inr rfl⟩),trivial⟩,rfl,trivial⟩
 |true=>
  rw[hb]at hv
  have hsh:=shapedM_F f 0 0 (by unfold validF at hb;simp only[Bool.and_eq_true]at hb;exact hb.1)
  have hw:=write_c f hsm hsh
  have hfz:=fun(n:Nat)(h:Heap)=>sx_frz n h (fmW f)
  generalize fmW f=X at hw hfz⊢
  obtain⟨op,name,args,params,exprs,kids⟩:=f
  obtain⟨ki,va,li,co,te,ks⟩:=X
  simp only[Fm.cells,Sx.cells,if_true]at hv hw hfz⊢
  refine pcall_body (ow:=fun _=>false) (wf:=fun _=>false) Ty.mixed Tryz.func24 rfl Ty.hb_24 (by rw[Tryz.ntmps24];simp) ?_
  rw[Tryz.ntmps24,Tryz.results24]
  repeat'(first|refine a_seq fun K hK=>?_|(refine a_regionS ?_;simp(maxSteps:=2000000) only[Ty.w,simprocAttr])|(refine hK _ _ ?_;clear hK;try simp only[pst0,simprocAttr]))
  refine owp_useQ (hv _) (by(try simp only[Ty.w,simprocAttr,Bool.not_true]);try rfl) ?_;simp(maxSteps:=2000000) only[Ty.w,simprocAttr,Bool.not_true]
  repeat'(first|refine a_seq fun K hK=>?_|(refine a_regionS ?_;simp(maxSteps:=2000000) only[Ty.w,simprocAttr,Bool.not_true])|(refine a_skip ?_;try simp only[pst0,simprocAttr])|(refine a_cond _ (by(try simp(maxSteps:=2000000) only[Ty.w,simprocAttr,Bool.not_true]);rfl) (fun hb=>?_) (fun hb=>?_)<;>(try simp only[hb0,decide_eq_true_eq,decide_eq_false_iff_not,simprocAttr]at hb)<;>(try(exfalso;omega)))|(refine hK _ _ ?_;clear hK;try simp only[pst0,simprocAttr]))
  refine owp_useQ (hw _) (by(try simp only[Ty.w,simprocAttr,]);try rfl) ?_;simp(maxSteps:=2000000) only[Ty.w,simprocAttr,]
  repeat'(first|(refine a_ret ?_;simp(maxSteps:=2000000) only[Ty.w,simprocAttr])|(refine hK _ _ ?_;clear hK;try simp only[pst0,simprocAttr]))
  refine⟨?_,((Grow.refl h).new _).set (Nat.le_refl _) _⟩
  simp only[FrzTo,FrzL]
  exact⟨_,rfl,⟨_,rfl,hfz _ _⟩,rfl,trivial⟩
end Go.Proofs.YtjeolbgpllbemaaGreat
namespace Go.Proofs.YtjeolbgpllbemaaGreat
open Go.AM
set_option maxHeartbeats 2000000
set_option maxRecDepth 20000
theorem pword_c{h:Heap}{s:ByteArray}:PCall Tryz.prog 27 [sPV s] h fun r h'=>r= .agg (wordM s).cells∧h'=h:=by
 refine PCall.frz Ty.hb_27 ?_
 refine pcall_body (ow:=fun _=>false) (wf:=fun _=>false) Ty.mixed Tryz.func27 rfl Ty.hb_27 (by rw[Tryz.ntmps27];simp) ?_
 rw[Tryz.ntmps27,Tryz.results27]
 repeat'(first|refine a_seq fun K hK=>?_|((first|refine a_regionS ?_|refine a_ret ?_);simp(maxSteps:=2000000) only[Ty.w,simprocAttr])|(refine hK _ _ ?_;clear hK;try simp only[pst0,simprocAttr]))
 refine⟨?_,((Grow.refl h).new _).set (Nat.le_refl _) _⟩
 simp only[wordM,Sx.cells,Sx.rows,FrzTo,FrzL]
 exact⟨_,rfl,rfl,rfl,rfl,rfl,rfl,.inr (.inl ⟨rfl,.inr rfl⟩),trivial⟩
theorem plist_c{h:Heap}{p:PV}(h1:oneC p=true)(hf: ∀ h',FrzTo h.next h' p p):PCall Tryz.prog 26 [p] h fun r h'=>r= .agg [.sc (.int .i64 3),.sc (.int .i64 0),.sc (.int .i64 0),.sc (.int .i64 0),.sc (.string ⟨#[]⟩),p]∧h'=h:=by
 refine PCall.frz Ty.hb_26 ?_
 have hc:p.cells=[p]:=by cases p<;>simp[oneC]at h1<;>rfl
 refine pcall_body (ow:=fun _=>false) (wf:=fun _=>false) Ty.mixed Tryz.func26 rfl Ty.hb_26 (by rw[Tryz.ntmps26];simp) ?_
 rw[Tryz.ntmps26,Tryz.results26]
 repeat'(first|refine a_seq fun K hK=>?_|((first|refine a_regionS ?_|refine a_ret ?_);simp(maxSteps:=2000000) only[Ty.w,simprocAttr,hc,h1])|(refine hK _ _ ?_;clear hK;try simp only[pst0,simprocAttr]))
 refine⟨?_,((Grow.refl h).new _).set (Nat.le_refl _) _⟩
 simp only[FrzTo,FrzL]
 exact⟨_,rfl,rfl,rfl,rfl,rfl,rfl,hf _,trivial⟩
theorem writeAtom_c{h:Heap}{first:ByteArray}{l:List ByteArray}(hl:l.length≤1048576):PCall Tryz.prog 29 [.agg [sPV first,.imm 1 (strRows l)]] h fun r h'=>r= .agg (wordsM first l).cells∧h'=h:=by
 refine PCall.frz Ty.hb_29 ?_
 have hll:=strRows_len l
 have hw: ∀ (s:ByteArray)(h:Heap),PCall Tryz.prog 27 [sPV s] h fun r h'=>r= .agg (wordM s).cells∧h'=h:=fun s h=>pword_c
 simp only[wordM,Sx.cells,Sx.rows]at hw
 refine pcall_body (ow:=fun t=>t==9) (wf:=fun _=>false) Ty.mixed Tryz.func29 rfl Ty.hb_29 (by rw[Tryz.ntmps29];simp) ?_
 rw[Tryz.ntmps29,Tryz.results29]
 repeat'(first|refine a_seq fun K hK=>?_|(refine a_regionS ?_;simp(maxSteps:=2000000) only[Ty.w,simprocAttr])|(refine hK _ _ ?_;clear hK;try simp only[pst0,simprocAttr]))
 refine owp_useQ (hw first _) (by(try simp only[Ty.w,simprocAttr,]);try rfl) ?_;simp(maxSteps:=2000000) only[Ty.w,simprocAttr,]
 skip
 refine owp_useQ (plist_c (p:= .own (h.next+1) 0 1) rfl (fun _=>frz_own (by simp[Heap.new]))) (by(try simp only[Ty.w,simprocAttr,]);try rfl) ?_;simp(maxSteps:=2000000) only[Ty.w,simprocAttr,]
 repeat'(first|refine a_seq fun K hK=>?_|(refine a_block ?_)|(refine a_regionS ?_;simp(maxSteps:=2000000) only[Ty.w,simprocAttr,hll])|(refine hK _ _ ?_;clear hK;try simp only[pst0,simprocAttr]))
 refine a_loop (fun m S h'=>S 2= .ptr h.next 0 0∧S 3= .ptr (h.next+1+1) 0 0∧S 12= .imm 1 (strRows l)∧S 13= .sc (.int .i64 l.length)∧ ∃ k:Nat,S 14= .sc (.int .i64 k)∧k≤l.length∧m=l.length-k∧WordsI h first l k h') l.length ?_ ?_
 ·simp only[Ty.w,simprocAttr]
  refine⟨0,rfl,by omega,rfl,?_⟩
  have e1:¬ h.next=h.next+1+1:=by omega
  refine⟨(((((Grow.refl h).new _).new _).new _).set (show h.next≤h.next+1+1 by omega) _),h.next+1,by simp[Heap.new,Heap.set],by omega,by omega,by simp[Heap.new,Heap.set],?_,?_,?_⟩
  ·simp [Heap.new,Heap.set,e1]
  ·simp [Heap.new,Heap.set]
  ·simp [Heap.new,Heap.set,wordM,Sx.rows,Sx.cells]
 ·rintro m S h' ⟨g2,g3,g12,g13,k,g14,hk,rfl,hI⟩
  obtain⟨hg,id,hn2,hne,hlo,hhi,o1,o2,o3⟩:=hI
  by_cases hlt:k<l.length
  ·have hd:decide ((k:Int)<(l.length:Int))=true:=by simp;omega
   have w7:IntKind.i64.wrap ((k:Int)+1)=k+1:=by rw[wrap64 (by omega) (by omega)]
   obtain⟨s,hx⟩: ∃ s,l[k]? =some s:=⟨_,List.getElem?_eq_getElem hlt⟩
   have hr:=strRows_get hx
   have hrl:(Sx.rows ((first::l.take k).map wordM)).length=k+1:=by rw[Sx.rows_len];simp;omega
   generalize hR:Sx.rows ((first::l.take k).map wordM)=R at o3 hrl
   have n1:(h.next+1+1=id)=False:=by simp;omega
   have n2:(h.next+1+1=h'.next)=False:=by simp;omega
   have htk:List.take (k+1) R=R:=List.take_of_length_le (by omega)
   have hb:(k+1+1)*72≤140737488355328:=by omega
   have W:=And.intro g2 (And.intro g3 (And.intro g12 (And.intro g13 (And.intro g14 (And.intro w7 (And.intro o2 (And.intro n1 (And.intro o3 (And.intro n2 (And.intro hrl (And.intro htk hb)))))))))))
   repeat'(first|refine a_seq fun K hK=>?_|((first|refine a_regionS ?_|refine a_draw (by decide+kernel) (fun K hK=>?_));simp(maxSteps:=2000000) only[Ty.w,simprocAttr,W,hd,hr])|(refine a_skip ?_;try simp only[pst0,simprocAttr])|(refine a_cond _ (by(try simp(maxSteps:=2000000) only[Ty.w,simprocAttr,W,hd,hr]);rfl) (fun hb=>?_) (fun hb=>?_)<;>(try simp only[hb0,decide_eq_true_eq,decide_eq_false_iff_not,simprocAttr]at hb)<;>(try(exfalso;omega)))|(refine hK _ _ ?_;clear hK;try simp only[pst0,simprocAttr]))
   (first|refine a_dcall0 (hw s _) (by(try simp only[Ty.w,simprocAttr,W]);try rfl) ?_|refine a_dcallA (hw s _) (by(try simp only[Ty.w,simprocAttr,W]);try rfl) (by simp only[Ty.w,simprocAttr,W];try trivial) ?_);simp(maxSteps:=2000000) only[Ty.w,simprocAttr,W,Option.getD_some]
   repeat'(first|(refine a_regionS ?_;simp(maxSteps:=2000000) only[Ty.w,simprocAttr,W])|(refine hK _ _ ?_;clear hK;try simp only[pst0,simprocAttr])|(with_reducible refine a_past2 (by simp only[List.forall_mem_cons,Ty.w,simprocAttr,g2,g3,g12,g13,g14,w7,o2,o3,n1,n2,hrl,htk,hb]<;>(repeat' apply And.intro)<;>first|trivial|exact .inl (by decide+kernel)) ?_;try simp(maxSteps:=2000000) only[Ty.w,simprocAttr,W])|(rw[if_pos];rotate_left 1;omega;simp(maxSteps:=2000000) only[Ty.w,simprocAttr,W]))
   refine⟨l.length-(k+1),by omega,k+1,by simp,by omega,rfl,((hg.kill (by omega)).new _).set (by omega) _,h'.next,?_,?_,?_,?_,?_,?_,?_⟩
   ·simp only[Heap.set,Heap.new,Heap.kill];omega
   ·omega
   ·omega
   ·simp only[Heap.set,Heap.new,Heap.kill];omega
   ·have a1:¬ h.next=h.next+1+1:=by omega
    have a2:¬ h.next=h'.next:=by omega
    have a3:¬ h.next=id:=by omega
    simp only[Heap.set,Heap.new,Heap.kill,a1,a2,a3,if_false]
    exact o1
   ·simp only[Heap.set,if_true]
   ·have a1:¬ h'.next=h.next+1+1:=by omega
    simp only[Heap.set,Heap.new,Heap.kill,a1,if_false,if_true]
    rw[List.take_add_one,hx, ← hR]
    simp only[Sx.rows_map,List.map_cons,List.map_append,List.map_nil,Option.toList_some,List.cons_append,wordM,Sx.cells]
  ·have hd:decide ((k:Int)<(l.length:Int))=false:=by simp;omega
   have hke:k=l.length:=by omega
   subst hke
   rw[List.take_length]at o3
   have n1:(h.next+1+1=h.next)=False:=by simp;omega
   repeat'(first|refine a_seq fun K hK=>?_|((first|refine a_regionS ?_|refine a_ret ?_);simp(maxSteps:=2000000) only[Ty.w,simprocAttr,g2,g3,g12,g13,g14,hd,o1,o2,o3])|(refine a_exit ?_;try simp only[pst0,simprocAttr])|(refine a_cond _ (by(try simp(maxSteps:=2000000) only[Ty.w,simprocAttr,g2,g3,g12,g13,g14,hd,o1,o2,o3]);rfl) (fun hb=>?_) (fun hb=>?_)<;>(try simp only[hb0,decide_eq_true_eq,decide_eq_false_iff_not,simprocAttr]at hb)<;>(try(exfalso;omega)))|((first|refine hK _ _ ?_|(clear hK;refine hK _ _ ?_));clear hK;try simp only[pst0,simprocAttr]))
   refine⟨?_,hg.set (Nat.le_refl _) _⟩
   simp only[wordsM,listM,Sx.cells,FrzTo,FrzL]
   refine⟨_,rfl,rfl,rfl,rfl,rfl,rfl,.inr (.inr ⟨id,0,l.length+1,Sx.rows ((first::l).map wordM),rfl,by omega,?_,?_,?_⟩),trivial⟩
   ·simp only[Heap.set];rw[if_neg (by omega)];exact o3
   ·rw [Sx.rows_len];simp
   ·rw [List.drop_zero,List.take_of_length_le (by rw[Sx.rows_len];simp)]
    exact sxs_frz _ _ _
end Go.Proofs.YtjeolbgpllbemaaGreat
namespace Go.AM
end Go.AM
namespace Go.Proofs.YtjeolbgpllbemaaGreat
open Go.AM
set_option maxHeartbeats 2000000
set_option maxRecDepth 20000
def idxQ(q:ByteArray→Bool)(l:List ByteArray):Int:=match l.findIdx? q with
 |some i=>i
 |none=> -1
theorem idxQ_any(q:ByteArray→Bool)(l:List ByteArray):decide (idxQ q l≥0)=l.any q:=by
 unfold idxQ
 cases h:l.findIdx? q with
 |none=>
  rw[List.findIdx?_eq_none_iff]at h
  have:l.any q=false:=by
   rw[List.any_eq_false]
   intro s hs
   simpa using h s hs
  rw[this];try rfl
 |some i=>
  rw[List.findIdx?_eq_some_iff_getElem]at h
  obtain⟨hi,h1,_⟩:=h
  have:l.any q=true:=by
   rw[List.any_eq_true]
   exact⟨l[i],List.getElem_mem hi,by simpa using h1⟩
  rw[this];simp
theorem indexFuncQ_c{h:Heap}{g:FuncId}{l:List ByteArray}{q:ByteArray→Bool}(hl:l.length≤bigN)(hf: ∀ s∈l, ∀ h:Heap,PCall Tryz.prog g [sPV s] h fun r h'=>r= .sc (.bool (q s))∧h'=h):
  PCall Tryz.prog 137 [.imm 1 (strRows l),.sc (.func (.func g) #[] #[])] h fun r h'=>r= .sc (.int .i64 (idxQ q l))∧h'=h:=by
 unfold bigN at hl
 have hlen:=strRows_len l
 refine pcall_body (ow:=fun _=>false) (wf:=fun _=>false) Ty.mixed Tryz.func137 rfl Ty.hb_137 (by rw[Tryz.ntmps137];simp) ?_
 rw[Tryz.ntmps137,Tryz.results137]
 repeat'(first|refine a_seq fun K hK=>?_|(refine a_block ?_)|(refine a_regionS ?_;simp(maxSteps:=2000000) only[Ty.w,simprocAttr,hlen])|(refine hK _ _ ?_;clear hK;try simp only[pst0,simprocAttr]))
 refine a_loop (fun m S h'=>h'=h∧S 0= .imm 1 (strRows l)∧S 1= .sc (.func (.func g) #[] #[])∧S 7= .sc (.int .i64 l.length)∧ ∃ k:Nat,S 8= .sc (.int .i64 k)∧k≤l.length∧m=l.length-k∧ ∀ (i:Nat)(w:ByteArray),i<k→l[i]? =some w→q w=false) l.length ?_ ?_
 ·simp only[Ty.w,simprocAttr]
  exact⟨0,rfl,by omega,rfl,by omega⟩
 ·rintro m S h' ⟨rfl,g0,g1,g7,k,g8,hk,rfl,hall⟩
  by_cases hlt:k<l.length
  ·have hd:decide ((k:Int)<(l.length:Int))=true:=by simp;omega
   have w7:IntKind.i64.wrap ((k:Int)+1)=k+1:=by rw[wrap64 (by omega) (by omega)]
   obtain⟨w,hx⟩: ∃ w,l[k]? =some w:=⟨l[k],List.getElem?_eq_getElem hlt⟩
   have hr:=strRows_get hx
   have hc:=hf w (List.mem_of_getElem? hx)
   cases he:q w with
   |true=>
    rw[he]at hc
    repeat'(first|refine a_seq fun K hK=>?_|(refine a_regionS ?_;simp(maxSteps:=2000000) only[Ty.w,simprocAttr,g0,g1,g7,g8,hd,hr])|(refine a_skip ?_;try simp only[pst0,simprocAttr])|(refine a_cond _ (by(try simp(maxSteps:=2000000) only[Ty.w,simprocAttr,g0,g1,g7,g8,hd,hr]);rfl) (fun hb=>?_) (fun hb=>?_)<;>(try simp only[hb0,decide_eq_true_eq,decide_eq_false_iff_not,simprocAttr]at hb)<;>(try(exfalso;omega)))|(refine hK _ _ ?_;clear hK;try simp only[pst0,simprocAttr]))
    refine owp_useV (by simp only[Ty.w,simprocAttr,g1]) (hc _) (by simp only[Ty.w,simprocAttr,g0,g1,g7,g8];try rfl) ?_
    simp(maxSteps:=2000000) only[Ty.w,simprocAttr,Ty.all]
    repeat'(first|refine a_seq fun K hK=>?_|((first|refine a_regionS ?_|refine a_ret ?_);simp(maxSteps:=2000000) only[Ty.w,simprocAttr,g0,g1,g7,g8])|(refine hK _ _ ?_;clear hK;try simp only[pst0,simprocAttr]))
    have:l.findIdx? q=some k:=by
     rw[List.findIdx?_eq_some_iff_getElem]
     refine⟨hlt,?_,fun j hj=>?_⟩
     ·rw [List.getElem?_eq_getElem hlt]at hx
      simp only[Option.some.injEq]at hx
      rw[hx,he]
     ·rw [hall j l[j] hj (List.getElem?_eq_getElem (by omega))];simp
    simp only[idxQ,this]
   |false=>
    rw[he]at hc
    repeat'(first|refine a_seq fun K hK=>?_|(refine a_regionS ?_;simp(maxSteps:=2000000) only[Ty.w,simprocAttr,g0,g1,g7,g8,hd,hr])|(refine a_skip ?_;try simp only[pst0,simprocAttr])|(refine a_cond _ (by(try simp(maxSteps:=2000000) only[Ty.w,simprocAttr,g0,g1,g7,g8,hd,hr]);rfl) (fun hb=>?_) (fun hb=>?_)<;>(try simp only[hb0,decide_eq_true_eq,decide_eq_false_iff_not,simprocAttr]at hb)<;>(try(exfalso;omega)))|(refine hK _ _ ?_;clear hK;try simp only[pst0,simprocAttr]))
    refine owp_useV (by simp only[Ty.w,simprocAttr,g1]) (hc _) (by simp only[Ty.w,simprocAttr,g0,g1,g7,g8];try rfl) ?_
    simp(maxSteps:=2000000) only[Ty.w,simprocAttr,Ty.all]
    repeat'(first|(refine a_block ?_)|(refine a_regionS ?_;simp(maxSteps:=2000000) only[Ty.w,simprocAttr,g0,g1,g7,g8,w7])|(refine a_skip ?_;try simp only[pst0,simprocAttr])|(refine hK _ _ ?_;clear hK;try simp only[pst0,simprocAttr]))
    refine⟨l.length-(k+1),by omega,k+1,by simp,by omega,rfl,fun i w2 hi hw=>?_⟩
    by_cases hik:i=k
    ·subst hik;rw[hx]at hw;simp at hw;rw[← hw];exact he
    ·exact hall i w2 (by omega) hw
  ·have hd:decide ((k:Int)<(l.length:Int))=false:=by simp;omega
   repeat'(first|refine a_seq fun K hK=>?_|((first|refine a_regionS ?_|refine a_ret ?_);simp(maxSteps:=2000000) only[Ty.w,simprocAttr,g0,g1,g7,g8,hd])|(refine a_exit ?_;try simp only[pst0,simprocAttr])|(refine a_cond _ (by(try simp(maxSteps:=2000000) only[Ty.w,simprocAttr,g0,g1,g7,g8,hd]);rfl) (fun hb=>?_) (fun hb=>?_)<;>(try simp only[hb0,decide_eq_true_eq,decide_eq_false_iff_not,simprocAttr]at hb)<;>(try(exfalso;omega)))|((first|refine hK _ _ ?_|(clear hK;refine hK _ _ ?_));clear hK;try simp only[pst0,simprocAttr]))
   have:l.findIdx? q=none:=by
    rw[List.findIdx?_eq_none_iff]
    intro w hw
    obtain⟨i,hi⟩:=List.getElem?_of_mem hw
    have:i<l.length:=(List.getElem?_eq_some_iff.1 hi).1
    rw[hall i w (by omega) hi]
   simp only[idxQ,this]
theorem containsFuncQ_c{h:Heap}{g:FuncId}{l:List ByteArray}{q:ByteArray→Bool}(hl:l.length≤bigN)(hf: ∀ s∈l, ∀ h:Heap,PCall Tryz.prog g [sPV s] h fun r h'=>r= .sc (.bool (q s))∧h'=h):
  PCall Tryz.prog 103 [.imm 1 (strRows l),.sc (.func (.func g) #[] #[])] h fun r h'=>r= .sc (.bool (l.any q))∧h'=h:=by
 refine pcall_body (ow:=fun _=>false) (wf:=fun _=>false) Ty.mixed Tryz.func103 rfl Ty.hb_103 (by rw[Tryz.ntmps103];simp) ?_
 rw[Tryz.ntmps103,Tryz.results103]
 repeat'(first|refine a_seq fun K hK=>?_|(refine a_regionS ?_;simp(maxSteps:=2000000) only[Ty.w,simprocAttr])|(refine hK _ _ ?_;clear hK;try simp only[pst0,simprocAttr]))
 refine owp_useQ (indexFuncQ_c (l:=l) (g:=g) hl hf) (by(try simp only[Ty.w,simprocAttr,]);try rfl) ?_;simp(maxSteps:=2000000) only[Ty.w,simprocAttr,]
 repeat'(first|(refine a_ret ?_;simp(maxSteps:=2000000) only[Ty.w,simprocAttr])|(refine hK _ _ ?_;clear hK;try simp only[pst0,simprocAttr]))
 rw[← idxQ_any]
theorem pright1_c{h:Heap}{s:ByteArray}(hs:s.size≤bigN):PCall Tryz.prog 104 [sPV s] h fun r h'=>r= .sc (.bool (!nameB s))∧h'=h:=by
 have hs':s.size≤9223372036854775807:=by unfold bigN at hs;omega
 refine pcall_body (ow:=fun _=>false) (wf:=fun _=>false) Ty.mixed Tryz.func104 rfl Ty.hb_104 (by rw[Tryz.ntmps104];simp) ?_
 rw[Tryz.ntmps104,Tryz.results104]
 repeat'(first|refine a_seq fun K hK=>?_|(refine a_regionS ?_;simp(maxSteps:=2000000) only[Ty.w,simprocAttr])|(refine hK _ _ ?_;clear hK;try simp only[pst0,simprocAttr]))
 refine owp_useQ (fname_c (s:=s) hs') (by(try simp only[Ty.w,simprocAttr,]);try rfl) ?_;simp(maxSteps:=2000000) only[Ty.w,simprocAttr,]
 repeat'(first|(refine a_ret ?_;simp(maxSteps:=2000000) only[Ty.w,simprocAttr])|(refine hK _ _ ?_;clear hK;try simp only[pst0,simprocAttr]))
def rightB(name:ByteArray)(args:List ByteArray):Bool:=nameB name&&!(args.any fun s=>!nameB s)
theorem right_c{name:ByteArray}{args:List ByteArray}(hn:name.size≤bigN)(hl:args.length≤bigN)(ha: ∀ s∈args,s.size≤bigN)(h:Heap):PCall Tryz.prog 60 [.agg [sPV name,.imm 1 (strRows args)]] h fun r h'=>r= .sc (.bool (rightB name args))∧h'=h:=by
 have hn':name.size≤9223372036854775807:=by unfold bigN at hn;omega
 have hf: ∀ s∈args, ∀ h:Heap,PCall Tryz.prog 104 [sPV s] h fun r h'=>r= .sc (.bool (!nameB s))∧h'=h:=fun s hs h=>pright1_c (ha s hs)
 unfold rightB
 cases q1:nameB name with
 |false=>
  refine pcall_body (ow:=fun _=>false) (wf:=fun _=>false) Ty.mixed Tryz.func60 rfl Ty.hb_60 (by rw[Tryz.ntmps60];simp) ?_
  rw[Tryz.ntmps60,Tryz.results60]
  repeat'(first|refine a_seq fun K hK=>?_|(refine a_regionS ?_;simp(maxSteps:=2000000) only[Ty.w,simprocAttr])|(refine hK _ _ ?_;clear hK;try simp only[pst0,simprocAttr]))
  refine owp_useQ (fname_c (s:=name) hn') (by(try simp only[Ty.w,simprocAttr,q1]);try rfl) ?_;simp(maxSteps:=2000000) only[Ty.w,simprocAttr,q1]
  repeat'(first|(refine a_ret ?_;simp(maxSteps:=2000000) only[Ty.w,simprocAttr,q1,Bool.false_and])|(refine hK _ _ ?_;clear hK;try simp only[pst0,simprocAttr]))
 |true=>
  refine pcall_body (ow:=fun _=>false) (wf:=fun _=>false) Ty.mixed Tryz.func60 rfl Ty.hb_60 (by rw[Tryz.ntmps60];simp) ?_
  rw[Tryz.ntmps60,Tryz.results60]
  repeat'(first|refine a_seq fun K hK=>?_|(refine a_regionS ?_;simp(maxSteps:=2000000) only[Ty.w,simprocAttr])|(refine hK _ _ ?_;clear hK;try simp only[pst0,simprocAttr]))
  refine owp_useQ (fname_c (s:=name) hn') (by(try simp only[Ty.w,simprocAttr,q1]);try rfl) ?_;simp(maxSteps:=2000000) only[Ty.w,simprocAttr,q1]
  skip
  refine owp_useQ (containsFuncQ_c (q:=fun s=>!nameB s) hl hf) (by(try simp only[Ty.w,simprocAttr,q1]);try rfl) ?_;simp(maxSteps:=2000000) only[Ty.w,simprocAttr,q1]
  repeat'(first|(refine a_ret ?_;simp(maxSteps:=2000000) only[Ty.w,simprocAttr,q1,Bool.true_and])|(refine hK _ _ ?_;clear hK;try simp only[pst0,simprocAttr]))
end Go.Proofs.YtjeolbgpllbemaaGreat
namespace Go.AM
structure At where
 name:ByteArray
 args:List ByteArray
structure Vl where
 at_:At
 n:Int
structure Pb where
 name:ByteArray
 domain:ByteArray
 objects:List Pm
 init:List At
 values:List Vl
 goal:Fm
def atRow(a:At):List PV:=[sPV a.name,.imm 1 (strRows a.args)]
def atRows(l:List At):List (List PV):=l.map atRow
theorem atRows_len(l:List At):(atRows l).length=l.length:=by simp[atRows]
theorem atRows_get{l:List At}{i:Nat}{a:At}(h:l[i]? =some a):(atRows l)[i]? =some [sPV a.name,.imm 1 (strRows a.args)]:=by simp[atRows,h,atRow]
def vlRow(v:Vl):List PV:=[sPV v.at_.name,.imm 1 (strRows v.at_.args),.sc (.int .i64 v.n)]
def vlRows(l:List Vl):List (List PV):=l.map vlRow
theorem vlRows_len(l:List Vl):(vlRows l).length=l.length:=by simp[vlRows]
theorem vlRows_get{l:List Vl}{i:Nat}{v:Vl}(h:l[i]? =some v):(vlRows l)[i]? =some [sPV v.at_.name,.imm 1 (strRows v.at_.args),.sc (.int .i64 v.n)]:=by simp[vlRows,h,vlRow]
def Pb.cells(p:Pb):List PV:=[sPV p.name,sPV p.domain,.imm 2 (pmRows p.objects),.imm 2 (atRows p.init),.imm 3 (vlRows p.values)]++p.goal.cells
def At.ok(a:At):Prop:=a.name.size≤bigN∧a.args.length≤bigN∧ ∀ s∈a.args,s.size≤bigN
end Go.AM
namespace Go.Proofs.YtjeolbgpllbemaaGreat
open Go.AM
set_option maxHeartbeats 2000000
set_option maxRecDepth 20000
def idxA(q:At→Bool)(l:List At):Int:=match l.findIdx? q with
 |some i=>i
 |none=> -1
theorem idxA_any(q:At→Bool)(l:List At):decide (idxA q l≥0)=l.any q:=by
 unfold idxA
 cases h:l.findIdx? q with
 |none=>
  rw[List.findIdx?_eq_none_iff]at h
  have:l.any q=false:=by
   rw[List.any_eq_false]
   intro s hs
   simpa using h s hs
  rw[this];try rfl
 |some i=>
  rw[List.findIdx?_eq_some_iff_getElem]at h
  obtain⟨hi,h1,_⟩:=h
  have:l.any q=true:=by
   rw[List.any_eq_true]
   exact⟨l[i],List.getElem_mem hi,by simpa using h1⟩
  rw[this];simp
theorem indexFuncA_c{h:Heap}{g:FuncId}{l:List At}{q:At→Bool}(hl:l.length≤bigN)(hf: ∀ s∈l, ∀ h:Heap,PCall Tryz.prog g [.agg (atRow s)] h fun r h'=>r= .sc (.bool (q s))∧h'=h):
  PCall Tryz.prog 105 [.imm 2 (atRows l),.sc (.func (.func g) #[] #[])] h fun r h'=>r= .sc (.int .i64 (idxA q l))∧h'=h:=by
 unfold bigN at hl
 have hlen:=atRows_len l
 refine pcall_body (ow:=fun _=>false) (wf:=fun _=>false) Ty.mixed Tryz.func105 rfl Ty.hb_105 (by rw[Tryz.ntmps105];simp) ?_
 rw[Tryz.ntmps105,Tryz.results105]
 repeat'(first|refine a_seq fun K hK=>?_|(refine a_block ?_)|(refine a_regionS ?_;simp(maxSteps:=2000000) only[Ty.w,simprocAttr,hlen])|(refine hK _ _ ?_;clear hK;try simp only[pst0,simprocAttr]))
 refine a_loop (fun m S h'=>h'=h∧S 0= .imm 2 (atRows l)∧S 1= .sc (.func (.func g) #[] #[])∧S 7= .sc (.int .i64 l.length)∧ ∃ k:Nat,S 8= .sc (.int .i64 k)∧k≤l.length∧m=l.length-k∧ ∀ (i:Nat)(w:At),i<k→l[i]? =some w→q w=false) l.length ?_ ?_
 ·simp only[Ty.w,simprocAttr]
  exact⟨0,rfl,by omega,rfl,by omega⟩
 ·rintro m S h' ⟨rfl,g0,g1,g7,k,g8,hk,rfl,hall⟩
  by_cases hlt:k<l.length
  ·have hd:decide ((k:Int)<(l.length:Int))=true:=by simp;omega
   have w7:IntKind.i64.wrap ((k:Int)+1)=k+1:=by rw[wrap64 (by omega) (by omega)]
   obtain⟨w,hx⟩: ∃ w,l[k]? =some w:=⟨l[k],List.getElem?_eq_getElem hlt⟩
   have hr:=atRows_get hx
   have hc:=hf w (List.mem_of_getElem? hx)
   simp only[atRow]at hc
   cases he:q w with
   |true=>
    rw[he]at hc
    repeat'(first|refine a_seq fun K hK=>?_|(refine a_regionS ?_;simp(maxSteps:=2000000) only[Ty.w,simprocAttr,g0,g1,g7,g8,hd,hr])|(refine a_skip ?_;try simp only[pst0,simprocAttr])|(refine a_cond _ (by(try simp(maxSteps:=2000000) only[Ty.w,simprocAttr,g0,g1,g7,g8,hd,hr]);rfl) (fun hb=>?_) (fun hb=>?_)<;>(try simp only[hb0,decide_eq_true_eq,decide_eq_false_iff_not,simprocAttr]at hb)<;>(try(exfalso;omega)))|(refine hK _ _ ?_;clear hK;try simp only[pst0,simprocAttr]))
    refine owp_useV (by simp only[Ty.w,simprocAttr,g1]) (hc _) (by simp only[Ty.w,simprocAttr,g0,g1,g7,g8];try rfl) ?_
    simp(maxSteps:=2000000) only[Ty.w,simprocAttr,Ty.all]
    repeat'(first|refine a_seq fun K hK=>?_|((first|refine a_regionS ?_|refine a_ret ?_);simp(maxSteps:=2000000) only[Ty.w,simprocAttr,g0,g1,g7,g8])|(refine hK _ _ ?_;clear hK;try simp only[pst0,simprocAttr]))
    have:l.findIdx? q=some k:=by
     rw[List.findIdx?_eq_some_iff_getElem]
     refine⟨hlt,?_,fun j hj=>?_⟩
     ·rw [List.getElem?_eq_getElem hlt]at hx
      simp only[Option.some.injEq]at hx
      rw[hx,he]
     ·rw [hall j l[j] hj (List.getElem?_eq_getElem (by omega))];simp
    simp only[idxA,this]
   |false=>
    rw[he]at hc
    repeat'(first|refine a_seq fun K hK=>?_|(refine a_regionS ?_;simp(maxSteps:=2000000) only[Ty.w,simprocAttr,g0,g1,g7,g8,hd,hr])|(refine a_skip ?_;try simp only[pst0,simprocAttr])|(refine a_cond _ (by(try simp(maxSteps:=2000000) only[Ty.w,simprocAttr,g0,g1,g7,g8,hd,hr]);rfl) (fun hb=>?_) (fun hb=>?_)<;>(try simp only[hb0,decide_eq_true_eq,decide_eq_false_iff_not,simprocAttr]at hb)<;>(try(exfalso;omega)))|(refine hK _ _ ?_;clear hK;try simp only[pst0,simprocAttr]))
    refine owp_useV (by simp only[Ty.w,simprocAttr,g1]) (hc _) (by simp only[Ty.w,simprocAttr,g0,g1,g7,g8];try rfl) ?_
    simp(maxSteps:=2000000) only[Ty.w,simprocAttr,Ty.all]
    repeat'(first|(refine a_block ?_)|(refine a_regionS ?_;simp(maxSteps:=2000000) only[Ty.w,simprocAttr,g0,g1,g7,g8,w7])|(refine a_skip ?_;try simp only[pst0,simprocAttr])|(refine hK _ _ ?_;clear hK;try simp only[pst0,simprocAttr]))
    refine⟨l.length-(k+1),by omega,k+1,by simp,by omega,rfl,fun i w2 hi hw=>?_⟩
    by_cases hik:i=k
    ·subst hik;rw[hx]at hw;simp at hw;rw[← hw];exact he
    ·exact hall i w2 (by omega) hw
  ·have hd:decide ((k:Int)<(l.length:Int))=false:=by simp;omega
   repeat'(first|refine a_seq fun K hK=>?_|((first|refine a_regionS ?_|refine a_ret ?_);simp(maxSteps:=2000000) only[Ty.w,simprocAttr,g0,g1,g7,g8,hd])|(refine a_exit ?_;try simp only[pst0,simprocAttr])|(refine a_cond _ (by(try simp(maxSteps:=2000000) only[Ty.w,simprocAttr,g0,g1,g7,g8,hd]);rfl) (fun hb=>?_) (fun hb=>?_)<;>(try simp only[hb0,decide_eq_true_eq,decide_eq_false_iff_not,simprocAttr]at hb)<;>(try(exfalso;omega)))|((first|refine hK _ _ ?_|(clear hK;refine hK _ _ ?_));clear hK;try simp only[pst0,simprocAttr]))
   have:l.findIdx? q=none:=by
    rw[List.findIdx?_eq_none_iff]
    intro w hw
    obtain⟨i,hi⟩:=List.getElem?_of_mem hw
    have:i<l.length:=(List.getElem?_eq_some_iff.1 hi).1
    rw[hall i w (by omega) hi]
   simp only[idxA,this]
theorem containsFuncA_c{h:Heap}{g:FuncId}{l:List At}{q:At→Bool}(hl:l.length≤bigN)(hf: ∀ s∈l, ∀ h:Heap,PCall Tryz.prog g [.agg (atRow s)] h fun r h'=>r= .sc (.bool (q s))∧h'=h):
  PCall Tryz.prog 61 [.imm 2 (atRows l),.sc (.func (.func g) #[] #[])] h fun r h'=>r= .sc (.bool (l.any q))∧h'=h:=by
 refine pcall_body (ow:=fun _=>false) (wf:=fun _=>false) Ty.mixed Tryz.func61 rfl Ty.hb_61 (by rw[Tryz.ntmps61];simp) ?_
 rw[Tryz.ntmps61,Tryz.results61]
 repeat'(first|refine a_seq fun K hK=>?_|(refine a_regionS ?_;simp(maxSteps:=2000000) only[Ty.w,simprocAttr])|(refine hK _ _ ?_;clear hK;try simp only[pst0,simprocAttr]))
 refine owp_useQ (indexFuncA_c (l:=l) (g:=g) hl hf) (by(try simp only[Ty.w,simprocAttr,]);try rfl) ?_;simp(maxSteps:=2000000) only[Ty.w,simprocAttr,]
 repeat'(first|(refine a_ret ?_;simp(maxSteps:=2000000) only[Ty.w,simprocAttr])|(refine hK _ _ ?_;clear hK;try simp only[pst0,simprocAttr]))
 rw[← idxA_any]
def rightA(a:At):Bool:=rightB a.name a.args
theorem pexpr1_c{h:Heap}{a:At}(ha:a.ok):PCall Tryz.prog 62 [.agg (atRow a)] h fun r h'=>r= .sc (.bool (!rightA a))∧h'=h:=by
 have hr:=right_c ha.1 ha.2.1 ha.2.2
 unfold rightA
 simp only[atRow]
 generalize rightB a.name a.args=b at hr⊢
 refine pcall_body (ow:=fun _=>false) (wf:=fun _=>false) Ty.mixed Tryz.func62 rfl Ty.hb_62 (by rw[Tryz.ntmps62];simp) ?_
 rw[Tryz.ntmps62,Tryz.results62]
 repeat'(first|refine a_seq fun K hK=>?_|(refine a_regionS ?_;simp(maxSteps:=2000000) only[Ty.w,simprocAttr])|(refine hK _ _ ?_;clear hK;try simp only[pst0,simprocAttr]))
 refine owp_useQ (hr _) (by(try simp only[Ty.w,simprocAttr,]);try rfl) ?_;simp(maxSteps:=2000000) only[Ty.w,simprocAttr,]
 repeat'(first|(refine a_ret ?_;simp(maxSteps:=2000000) only[Ty.w,simprocAttr])|(refine hK _ _ ?_;clear hK;try simp only[pst0,simprocAttr]))
end Go.Proofs.YtjeolbgpllbemaaGreat
namespace Go.AM
def Vl.ok(v:Vl):Prop:=v.at_.ok∧ -9223372036854775808≤v.n∧v.n≤9223372036854775807
def Pb.ok(p:Pb):Prop:=p.name.size≤bigN∧p.domain.size≤bigN∧(p.objects.length≤bigN∧ ∀ o∈p.objects,o.ok)∧(p.init.length≤bigN∧ ∀ a∈p.init,a.ok)∧(p.values.length≤bigN∧ ∀ v∈p.values,v.ok)∧p.goal.ok
end Go.AM
namespace Go.Proofs.YtjeolbgpllbemaaGreat
open Go.AM
set_option maxHeartbeats 4000000
set_option maxRecDepth 20000
def objB(o:Pm):Bool:=nameB o.name&&typedB o.type
def vlB(v:Vl):Bool:=rightA v.at_&&inNum v.n
def expressB(p:Pb):Bool:=nameB p.name&&nameB p.domain&&p.objects.all objB&&p.values.all vlB&&!(p.init.any fun a=>!rightA a)
theorem expressible_c{p:Pb}(hok:p.ok)(h:Heap):PCall Tryz.prog 25 [.agg p.cells] h fun r h'=>r= .sc (.bool (expressB p))∧h'=h:=by
 obtain⟨hn,hd,⟨hol,hos⟩,⟨hil,his⟩,⟨hvl,hvs⟩,_⟩:=hok
 obtain⟨name,domain,objects,init,values,goal⟩:=p
 simp only at hn hd hol hos hil his hvl hvs
 have hn':name.size≤9223372036854775807:=by unfold bigN at hn;omega
 have hd':domain.size≤9223372036854775807:=by unfold bigN at hd;omega
 have hlO:=pmRows_len objects
 have hlV:=vlRows_len values
 obtain⟨gop,gname,gargs,gparams,gexprs,gkids⟩:=goal
 refine PCall.quiet Ty.hb_25 ?_
 generalize hF:expressB _=F
 simp only[expressB]at hF
 simp only[Pb.cells,Fm.cells,List.cons_append,List.nil_append]
 cases q1:nameB name with
 |false=>
  rw[q1]at hF
  simp only[Bool.false_and]at hF
  subst hF
  refine pcall_body (ow:=fun _=>false) (wf:=fun _=>false) Ty.mixed Tryz.func25 rfl Ty.hb_25 (by rw[Tryz.ntmps25];simp) ?_
  rw[Tryz.ntmps25,Tryz.results25]
  repeat'(first|refine a_seq fun K hK=>?_|(refine a_regionS ?_;simp(maxSteps:=2000000) only[Ty.w,simprocAttr])|(refine hK _ _ ?_;clear hK;try simp only[pst0,simprocAttr]))
  refine owp_useQ (fname_c (s:=name) hn') (by(try simp only[Ty.w,simprocAttr,q1]);try rfl) ?_;simp(maxSteps:=2000000) only[Ty.w,simprocAttr,q1]
  repeat'(first|refine a_seq fun K hK=>?_|((first|refine a_regionS ?_|refine a_ret ?_);simp(maxSteps:=2000000) only[Ty.w,simprocAttr,q1,Bool.not_false])|(refine hK _ _ ?_;clear hK;try simp only[pst0,simprocAttr]))
  exact Grow.refl h
 |true=>
  cases q2:nameB domain with
  |false=>
   rw[q1,q2]at hF
   simp only[Bool.true_and,Bool.false_and]at hF
   subst hF
   refine pcall_body (ow:=fun _=>false) (wf:=fun _=>false) Ty.mixed Tryz.func25 rfl Ty.hb_25 (by rw[Tryz.ntmps25];simp) ?_
   rw[Tryz.ntmps25,Tryz.results25]
   repeat'(first|refine a_seq fun K hK=>?_|(refine a_regionS ?_;simp(maxSteps:=2000000) only[Ty.w,simprocAttr])|(refine hK _ _ ?_;clear hK;try simp only[pst0,simprocAttr]))
   refine owp_useQ (fname_c (s:=name) hn') (by(try simp only[Ty.w,simprocAttr,q1]);try rfl) ?_;simp(maxSteps:=2000000) only[Ty.w,simprocAttr,q1]
   skip
   refine owp_useQ (fname_c (s:=domain) hd') (by(try simp only[Ty.w,simprocAttr,q1,q2]);try rfl) ?_;simp(maxSteps:=2000000) only[Ty.w,simprocAttr,q1,q2]
   repeat'(first|refine a_seq fun K hK=>?_|((first|refine a_regionS ?_|refine a_ret ?_);simp(maxSteps:=2000000) only[Ty.w,simprocAttr,q1,q2,Bool.not_true,Bool.not_false])|(refine hK _ _ ?_;clear hK;try simp only[pst0,simprocAttr]))
   exact Grow.refl h
  |true=>
   rw[q1,q2]at hF
   simp only[Bool.true_and]at hF
   unfold bigN at hol hvl
   refine pcall_body (ow:=fun _=>false) (wf:=fun _=>false) Ty.mixed Tryz.func25 rfl Ty.hb_25 (by rw[Tryz.ntmps25];simp) ?_
   rw[Tryz.ntmps25,Tryz.results25]
   repeat'(first|refine a_seq fun K hK=>?_|(refine a_regionS ?_;simp(maxSteps:=2000000) only[Ty.w,simprocAttr])|(refine hK _ _ ?_;clear hK;try simp only[pst0,simprocAttr]))
   refine owp_useQ (fname_c (s:=name) hn') (by(try simp only[Ty.w,simprocAttr,q1]);try rfl) ?_;simp(maxSteps:=2000000) only[Ty.w,simprocAttr,q1]
   skip
   refine owp_useQ (fname_c (s:=domain) hd') (by(try simp only[Ty.w,simprocAttr,q1,q2]);try rfl) ?_;simp(maxSteps:=2000000) only[Ty.w,simprocAttr,q1,q2]
   repeat'(first|(with_reducible refine a_hold 3 ?_)|(refine a_skip ?_;try simp only[pst0,simprocAttr])|(refine a_cond _ (by(try simp(maxSteps:=2000000) only[Ty.w,simprocAttr,q1,q2,Bool.not_true]);rfl) (fun hb=>?_) (fun hb=>?_)<;>(try simp only[hb0,decide_eq_true_eq,decide_eq_false_iff_not,simprocAttr]at hb)<;>(try(exfalso;omega)))|(refine hK _ _ ?_;clear hK;try simp only[pst0,simprocAttr]))
   refine⟨?_⟩
   refine a_cut (fun S h'=>S 1= .cptr (Pb.mk name domain objects init values (.mk gop gname gargs gparams gexprs gkids)).cells∧Grow h h'∧objects.all objB=true) ?_ ?_
   ·have hFp:objects.all objB=false→F=false:=fun hh=>by rw[← hF,hh];try rfl
    clear hF
    repeat'(first|refine a_seq fun K hK=>?_|(refine a_block ?_)|(refine a_regionS ?_;simp(maxSteps:=2000000) only[Ty.w,simprocAttr,hlO])|(refine hK _ _ ?_;clear hK;try simp only[pst0,simprocAttr]))
    refine a_loop (fun c S h'=>S 1= .cptr (Pb.mk name domain objects init values (.mk gop gname gargs gparams gexprs gkids)).cells∧S 18= .imm 2 (pmRows objects)∧S 19= .sc (.int .i64 objects.length)∧ ∃ k:Nat,S 20= .sc (.int .i64 k)∧k≤objects.length∧c=objects.length-k∧Grow h h'∧objects.all objB=(objects.drop k).all objB) objects.length ?_ ?_
    ·simp only[Ty.w,simprocAttr,Pb.cells,Fm.cells,List.cons_append,List.nil_append]
     exact⟨0,rfl,by omega,rfl,Grow.refl h,rfl⟩
    ·rintro c S h' ⟨g1,g18,g19,k,g20,hk,rfl,hG,hall⟩
     simp only[Pb.cells,Fm.cells,List.cons_append,List.nil_append]at g1
     by_cases hlt:k<objects.length
     ·have hdk:decide ((k:Int)<(objects.length:Int))=true:=by simp;omega
      have w7:IntKind.i64.wrap ((k:Int)+1)=k+1:=by rw[wrap64 (by omega) (by omega)]
      obtain⟨o,hx⟩: ∃ o,objects[k]? =some o:=⟨_,List.getElem?_eq_getElem hlt⟩
      have hr:=pmRows_get hx
      obtain⟨ho1,ho2⟩:=hos o (List.mem_of_getElem? hx)
      have ho1':o.name.size≤9223372036854775807:=by unfold bigN at ho1;omega
      have ho2':o.type.size≤9223372036854775807:=by unfold bigN at ho2;omega
      have hG2:Grow h ((h'.new (.arr 2 [[.sc (.string ⟨#[]⟩),.sc (.string ⟨#[]⟩)]])).set h'.next (.arr 2 [[sPV o.name,sPV o.type]])):=(hG.new _).set hG.le _
      have tT:typedB o.type=(nameB o.type||(o.type.data.toList==(#[111,98,106,101,99,116]:Array UInt8).toList)):=rfl
      rw[drop_get hx]at hall
      simp only[List.all_cons,objB,tT]at hall
      cases v1:nameB o.name with
      |false=>
       have hp:=hFp (by rw[hall,v1];try rfl)
       subst hp
       repeat'(first|refine a_seq fun K hK=>?_|(refine a_regionS ?_;simp(maxSteps:=2000000) only[Ty.w,simprocAttr,g1,g18,g19,g20,hdk,hr])|(refine a_skip ?_;try simp only[pst0,simprocAttr])|(refine a_cond _ (by(try simp(maxSteps:=2000000) only[Ty.w,simprocAttr,g1,g18,g19,g20,hdk,hr]);rfl) (fun hb=>?_) (fun hb=>?_)<;>(try simp only[hb0,decide_eq_true_eq,decide_eq_false_iff_not,simprocAttr]at hb)<;>(try(exfalso;omega)))|(refine hK _ _ ?_;clear hK;try simp only[pst0,simprocAttr]))
       refine owp_useQ (fname_c (s:=o.name) ho1') (by(try simp only[Ty.w,simprocAttr,g1,g18,g19,g20,v1]);try rfl) ?_;simp(maxSteps:=2000000) only[Ty.w,simprocAttr,g1,g18,g19,g20,v1]
       repeat'(first|refine a_seq fun K hK=>?_|((first|refine a_regionS ?_|refine a_ret ?_);simp(maxSteps:=2000000) only[Ty.w,simprocAttr,g1,g18,g19,g20,v1,Bool.not_false])|(refine hK _ _ ?_;clear hK;try simp only[pst0,simprocAttr]))
       all_goals first|exact hG2|exact⟨rfl,hG2⟩
      |true=>
       cases v2:nameB o.type with
       |true=>
        rw[v1,v2]at hall
        have W:=And.intro g1 (And.intro g18 (And.intro g19 (And.intro g20 (And.intro v1 v2))))
        repeat'(first|refine a_seq fun K hK=>?_|(refine a_regionS ?_;simp(maxSteps:=2000000) only[Ty.w,simprocAttr,W,hdk,hr])|(refine a_skip ?_;try simp only[pst0,simprocAttr])|(refine a_cond _ (by(try simp(maxSteps:=2000000) only[Ty.w,simprocAttr,W,hdk,hr]);rfl) (fun hb=>?_) (fun hb=>?_)<;>(try simp only[hb0,decide_eq_true_eq,decide_eq_false_iff_not,simprocAttr]at hb)<;>(try(exfalso;omega)))|(refine hK _ _ ?_;clear hK;try simp only[pst0,simprocAttr]))
        refine owp_useQ (fname_c (s:=o.name) ho1') (by(try simp only[Ty.w,simprocAttr,W]);try rfl) ?_;simp(maxSteps:=2000000) only[Ty.w,simprocAttr,W]
        skip
        refine owp_useQ (fname_c (s:=o.type) ho2') (by(try simp only[Ty.w,simprocAttr,W]);try rfl) ?_;simp(maxSteps:=2000000) only[Ty.w,simprocAttr,W]
        repeat'(first|(refine a_block ?_)|(refine a_regionS ?_;simp(maxSteps:=2000000) only[Ty.w,simprocAttr,W,w7,Bool.not_true])|(refine a_skip ?_;try simp only[pst0,simprocAttr])|(refine hK _ _ ?_;clear hK;try simp only[pst0,simprocAttr]))
        exact⟨objects.length-(k+1),by omega,by simp only[Pb.cells,Fm.cells,List.cons_append,List.nil_append],k+1,by simp,by omega,rfl,hG2,by simpa using hall⟩
       |false=>
        cases v3:(o.type.data.toList==(#[111,98,106,101,99,116]:Array UInt8).toList)with
        |true=>
         rw[v1,v2,v3]at hall
         have W:=And.intro g1 (And.intro g18 (And.intro g19 (And.intro g20 (And.intro v1 v2))))
         repeat'(first|refine a_seq fun K hK=>?_|(refine a_regionS ?_;simp(maxSteps:=2000000) only[Ty.w,simprocAttr,W,hdk,hr])|(refine a_skip ?_;try simp only[pst0,simprocAttr])|(refine a_cond _ (by(try simp(maxSteps:=2000000) only[Ty.w,simprocAttr,W,hdk,hr]);rfl) (fun hb=>?_) (fun hb=>?_)<;>(try simp only[hb0,decide_eq_true_eq,decide_eq_false_iff_not,simprocAttr]at hb)<;>(try(exfalso;omega)))|(refine hK _ _ ?_;clear hK;try simp only[pst0,simprocAttr]))
         refine owp_useQ (fname_c (s:=o.name) ho1') (by(try simp only[Ty.w,simprocAttr,W]);try rfl) ?_;simp(maxSteps:=2000000) only[Ty.w,simprocAttr,W]
         skip
         refine owp_useQ (fname_c (s:=o.type) ho2') (by(try simp only[Ty.w,simprocAttr,W]);try rfl) ?_;simp(maxSteps:=2000000) only[Ty.w,simprocAttr,W]
         repeat'(first|(refine a_regionS ?_;simp(maxSteps:=2000000) only[Ty.w,simprocAttr,W,v3,w7,Bool.not_true,Bool.not_false])|(refine a_skip ?_;try simp only[pst0,simprocAttr])|(refine a_cond _ (by(try simp(maxSteps:=2000000) only[Ty.w,simprocAttr,W,v3,w7,Bool.not_true,Bool.not_false]);rfl) (fun hb=>?_) (fun hb=>?_)<;>(try simp only[hb0,decide_eq_true_eq,decide_eq_false_iff_not,simprocAttr]at hb)<;>(try(exfalso;omega)))|(refine hK _ _ ?_;clear hK;try simp only[pst0,simprocAttr]))
         exact⟨objects.length-(k+1),by omega,by simp only[Pb.cells,Fm.cells,List.cons_append,List.nil_append],k+1,by simp,by omega,rfl,hG2,by simpa using hall⟩
        |false=>
         have hp:=hFp (by rw[hall,v1,v2,v3];try rfl)
         subst hp
         have W:=And.intro g1 (And.intro g18 (And.intro g19 (And.intro g20 (And.intro v1 v2))))
         repeat'(first|refine a_seq fun K hK=>?_|(refine a_regionS ?_;simp(maxSteps:=2000000) only[Ty.w,simprocAttr,W,hdk,hr])|(refine a_skip ?_;try simp only[pst0,simprocAttr])|(refine a_cond _ (by(try simp(maxSteps:=2000000) only[Ty.w,simprocAttr,W,hdk,hr]);rfl) (fun hb=>?_) (fun hb=>?_)<;>(try simp only[hb0,decide_eq_true_eq,decide_eq_false_iff_not,simprocAttr]at hb)<;>(try(exfalso;omega)))|(refine hK _ _ ?_;clear hK;try simp only[pst0,simprocAttr]))
         refine owp_useQ (fname_c (s:=o.name) ho1') (by(try simp only[Ty.w,simprocAttr,W]);try rfl) ?_;simp(maxSteps:=2000000) only[Ty.w,simprocAttr,W]
         skip
         refine owp_useQ (fname_c (s:=o.type) ho2') (by(try simp only[Ty.w,simprocAttr,W]);try rfl) ?_;simp(maxSteps:=2000000) only[Ty.w,simprocAttr,W]
         repeat'(first|refine a_seq fun K hK=>?_|((first|refine a_regionS ?_|refine a_ret ?_);simp(maxSteps:=2000000) only[Ty.w,simprocAttr,W,v3,w7,Bool.not_true,Bool.not_false])|(refine a_cond _ (by(try simp(maxSteps:=2000000) only[Ty.w,simprocAttr,W,v3,w7,Bool.not_true,Bool.not_false]);rfl) (fun hb=>?_) (fun hb=>?_)<;>(try simp only[hb0,decide_eq_true_eq,decide_eq_false_iff_not,simprocAttr]at hb)<;>(try(exfalso;omega)))|(refine hK _ _ ?_;clear hK;try simp only[pst0,simprocAttr]))
         all_goals first|exact hG2|exact⟨rfl,hG2⟩
     ·have hdk:decide ((k:Int)<(objects.length:Int))=false:=by simp;omega
      rw[List.drop_eq_nil_of_le (by omega)]at hall
      repeat'(first|refine a_seq fun K hK=>?_|(refine a_regionS ?_;simp(maxSteps:=2000000) only[Ty.w,simprocAttr,g1,g18,g19,g20,hdk])|(refine a_exit ?_;try simp only[pst0,simprocAttr])|(refine a_cond _ (by(try simp(maxSteps:=2000000) only[Ty.w,simprocAttr,g1,g18,g19,g20,hdk]);rfl) (fun hb=>?_) (fun hb=>?_)<;>(try simp only[hb0,decide_eq_true_eq,decide_eq_false_iff_not,simprocAttr]at hb)<;>(try(exfalso;omega)))|(refine hK _ _ ?_;clear hK;try simp only[pst0,simprocAttr]))
      simp(maxSteps:=2000000) only[Ty.w,simprocAttr,Ty.all,g1,Pb.cells,Fm.cells,List.cons_append,List.nil_append]
      exact⟨hG,hall⟩
   ·rintro S h' ⟨g1,hG,hall⟩
    simp only[Pb.cells,Fm.cells,List.cons_append,List.nil_append]at g1
    rw[hall]at hF
    simp only[Bool.true_and]at hF
    clear hall
    repeat'(with_reducible refine a_hold 9 ?_)
    refine⟨?_⟩
    refine a_cut (fun S h'=>S 1= .cptr (Pb.mk name domain objects init values (.mk gop gname gargs gparams gexprs gkids)).cells∧Grow h h'∧values.all vlB=true) ?_ ?_
    ·have hFp:values.all vlB=false→F=false:=fun hh=>by rw[← hF,hh];try rfl
     clear hF
     repeat'(first|refine a_seq fun K hK=>?_|(refine a_block ?_)|(refine a_regionS ?_;simp(maxSteps:=2000000) only[Ty.w,simprocAttr,g1,hlV])|(refine hK _ _ ?_;clear hK;try simp only[pst0,simprocAttr]))
     refine a_loop (fun c S h'=>S 1= .cptr (Pb.mk name domain objects init values (.mk gop gname gargs gparams gexprs gkids)).cells∧S 41= .imm 3 (vlRows values)∧S 42= .sc (.int .i64 values.length)∧ ∃ k:Nat,S 43= .sc (.int .i64 k)∧k≤values.length∧c=values.length-k∧Grow h h'∧values.all vlB=(values.drop k).all vlB) values.length ?_ ?_
     ·simp only[Ty.w,simprocAttr,g1,Pb.cells,Fm.cells,List.cons_append,List.nil_append]
      exact⟨0,rfl,by omega,rfl,hG,rfl⟩
     ·clear g1 hG
      rintro c S h' ⟨g1,g41,g42,k,g43,hk,rfl,hG,hall⟩
      simp only[Pb.cells,Fm.cells,List.cons_append,List.nil_append]at g1
      by_cases hlt:k<values.length
      ·have hdk:decide ((k:Int)<(values.length:Int))=true:=by simp;omega
       have w7:IntKind.i64.wrap ((k:Int)+1)=k+1:=by rw[wrap64 (by omega) (by omega)]
       obtain⟨v,hx⟩: ∃ v,values[k]? =some v:=⟨_,List.getElem?_eq_getElem hlt⟩
       have hr:=vlRows_get hx
       obtain⟨ho1,_⟩:=hvs v (List.mem_of_getElem? hx)
       have hrc:=right_c ho1.1 ho1.2.1 ho1.2.2
       rw[drop_get hx]at hall
       simp only[List.all_cons,vlB,rightA,inNum]at hall
       obtain⟨⟨vname,vargs⟩,vn⟩:=v
       simp only at hr hrc hall
       have hG2:Grow h ((h'.new (.arr 3 [[.sc (.string ⟨#[]⟩),.sc (.slice none 0 0),.sc (.int .i64 0)]])).set h'.next (.arr 3 [[sPV vname,.imm 1 (strRows vargs),.sc (.int .i64 vn)]])):=(hG.new _).set hG.le _
       generalize rightB vname vargs=b at hrc hall
       cases b with
       |false=>
        have hp:=hFp (by rw[hall];try rfl)
        subst hp
        repeat'(first|refine a_seq fun K hK=>?_|(refine a_regionS ?_;simp(maxSteps:=2000000) only[Ty.w,simprocAttr,g1,g41,g42,g43,hdk,hr])|(refine a_skip ?_;try simp only[pst0,simprocAttr])|(refine a_cond _ (by(try simp(maxSteps:=2000000) only[Ty.w,simprocAttr,g1,g41,g42,g43,hdk,hr]);rfl) (fun hb=>?_) (fun hb=>?_)<;>(try simp only[hb0,decide_eq_true_eq,decide_eq_false_iff_not,simprocAttr]at hb)<;>(try(exfalso;omega)))|(refine hK _ _ ?_;clear hK;try simp only[pst0,simprocAttr]))
        refine owp_useQ (hrc _) (by(try simp only[Ty.w,simprocAttr,g1,g41,g42,g43]);try rfl) ?_;simp(maxSteps:=2000000) only[Ty.w,simprocAttr,g1,g41,g42,g43]
        repeat'(first|refine a_seq fun K hK=>?_|((first|refine a_regionS ?_|refine a_ret ?_);simp(maxSteps:=2000000) only[Ty.w,simprocAttr,g1,g41,g42,g43,Bool.not_false])|(refine hK _ _ ?_;clear hK;try simp only[pst0,simprocAttr]))
        all_goals first|exact hG2|exact⟨rfl,hG2⟩
       |true=>
        cases v1:decide (vn< -1099511627776)with
        |true=>
         have v1i:=of_decide_eq_true v1
         have hp:=hFp (by rw[hall,decide_eq_false (show ¬-1099511627776≤vn by have:=of_decide_eq_true v1;omega)];try rfl)
         subst hp
         repeat'(first|refine a_seq fun K hK=>?_|(refine a_regionS ?_;simp(maxSteps:=2000000) only[Ty.w,simprocAttr,g1,g41,g42,g43,hdk,hr])|(refine a_skip ?_;try simp only[pst0,simprocAttr])|(refine a_cond _ (by(try simp(maxSteps:=2000000) only[Ty.w,simprocAttr,g1,g41,g42,g43,hdk,hr]);rfl) (fun hb=>?_) (fun hb=>?_)<;>(try simp only[hb0,decide_eq_true_eq,decide_eq_false_iff_not,simprocAttr]at hb)<;>(try(exfalso;omega)))|(refine hK _ _ ?_;clear hK;try simp only[pst0,simprocAttr]))
         refine owp_useQ (hrc _) (by(try simp only[Ty.w,simprocAttr,g1,g41,g42,g43]);try rfl) ?_;simp(maxSteps:=2000000) only[Ty.w,simprocAttr,g1,g41,g42,g43]
         repeat'(first|refine a_seq fun K hK=>?_|((first|refine a_regionS ?_|refine a_ret ?_);simp(maxSteps:=2000000) only[Ty.w,simprocAttr,g1,g41,g42,g43,v1,Bool.not_true])|(with_reducible refine ite_in (fun hb=>?_) (fun hb=>?_)<;>(try simp only[Decidable.not_not]at hb)<;>(try simp only[hb,if_true,if_false,not_false_eq_true,not_true_eq_false, ↓reduceIte])<;>(try simp only[hb0,decide_eq_true_eq,decide_eq_false_iff_not,simprocAttr]at hb)<;>(try(exfalso;omega)))|(refine hK _ _ ?_;clear hK;try simp only[pst0,simprocAttr]))
         all_goals first|exact hG2|exact⟨rfl,hG2⟩
        |false=>
         have v1i:=of_decide_eq_false v1
         cases v2:decide (vn>1099511627776)with
         |true=>
          have v2i:=of_decide_eq_true v2
          have hp:=hFp (by rw[hall,decide_eq_false (show ¬ vn≤1099511627776 by have:=of_decide_eq_true v2;omega)];simp)
          subst hp
          repeat'(first|refine a_seq fun K hK=>?_|(refine a_regionS ?_;simp(maxSteps:=2000000) only[Ty.w,simprocAttr,g1,g41,g42,g43,hdk,hr])|(refine a_skip ?_;try simp only[pst0,simprocAttr])|(refine a_cond _ (by(try simp(maxSteps:=2000000) only[Ty.w,simprocAttr,g1,g41,g42,g43,hdk,hr]);rfl) (fun hb=>?_) (fun hb=>?_)<;>(try simp only[hb0,decide_eq_true_eq,decide_eq_false_iff_not,simprocAttr]at hb)<;>(try(exfalso;omega)))|(refine hK _ _ ?_;clear hK;try simp only[pst0,simprocAttr]))
          refine owp_useQ (hrc _) (by(try simp only[Ty.w,simprocAttr,g1,g41,g42,g43]);try rfl) ?_;simp(maxSteps:=2000000) only[Ty.w,simprocAttr,g1,g41,g42,g43]
          repeat'(first|refine a_seq fun K hK=>?_|((first|refine a_regionS ?_|refine a_ret ?_);simp(maxSteps:=2000000) only[Ty.w,simprocAttr,g1,g41,g42,g43,v1,v2,Bool.not_true])|(refine a_cond _ (by(try simp(maxSteps:=2000000) only[Ty.w,simprocAttr,g1,g41,g42,g43,v1,v2,Bool.not_true]);rfl) (fun hb=>?_) (fun hb=>?_)<;>(try simp only[hb0,decide_eq_true_eq,decide_eq_false_iff_not,simprocAttr]at hb)<;>(try(exfalso;omega)))|(with_reducible refine ite_in (fun hb=>?_) (fun hb=>?_)<;>(try simp only[Decidable.not_not]at hb)<;>(try simp only[hb,if_true,if_false,not_false_eq_true,not_true_eq_false, ↓reduceIte])<;>(try simp only[hb0,decide_eq_true_eq,decide_eq_false_iff_not,simprocAttr]at hb)<;>(try(exfalso;omega)))|(refine hK _ _ ?_;clear hK;try simp only[pst0,simprocAttr]))
          all_goals first|exact hG2|exact⟨rfl,hG2⟩
         |false=>
          have v2i:=of_decide_eq_false v2
          rw[decide_eq_true (show-1099511627776≤vn by have:=of_decide_eq_false v1;omega),decide_eq_true (show vn≤1099511627776 by have:=of_decide_eq_false v2;omega)]at hall
          repeat'(first|refine a_seq fun K hK=>?_|(refine a_regionS ?_;simp(maxSteps:=2000000) only[Ty.w,simprocAttr,g1,g41,g42,g43,hdk,hr])|(refine a_skip ?_;try simp only[pst0,simprocAttr])|(refine a_cond _ (by(try simp(maxSteps:=2000000) only[Ty.w,simprocAttr,g1,g41,g42,g43,hdk,hr]);rfl) (fun hb=>?_) (fun hb=>?_)<;>(try simp only[hb0,decide_eq_true_eq,decide_eq_false_iff_not,simprocAttr]at hb)<;>(try(exfalso;omega)))|(refine hK _ _ ?_;clear hK;try simp only[pst0,simprocAttr]))
          refine owp_useQ (hrc _) (by(try simp only[Ty.w,simprocAttr,g1,g41,g42,g43]);try rfl) ?_;simp(maxSteps:=2000000) only[Ty.w,simprocAttr,g1,g41,g42,g43]
          repeat'(first|(refine a_regionS ?_;simp(maxSteps:=2000000) only[Ty.w,simprocAttr,g1,g41,g42,g43,v1,v2,w7,Bool.not_true])|(refine a_skip ?_;try simp only[pst0,simprocAttr])|(refine a_cond _ (by(try simp(maxSteps:=2000000) only[Ty.w,simprocAttr,g1,g41,g42,g43,v1,v2,w7,Bool.not_true]);rfl) (fun hb=>?_) (fun hb=>?_)<;>(try simp only[hb0,decide_eq_true_eq,decide_eq_false_iff_not,simprocAttr]at hb)<;>(try(exfalso;omega)))|(with_reducible refine ite_in (fun hb=>?_) (fun hb=>?_)<;>(try simp only[Decidable.not_not]at hb)<;>(try simp only[hb,if_true,if_false,not_false_eq_true,not_true_eq_false, ↓reduceIte])<;>(try simp only[hb0,decide_eq_true_eq,decide_eq_false_iff_not,simprocAttr]at hb)<;>(try(exfalso;omega)))|(refine hK _ _ ?_;clear hK;try simp only[pst0,simprocAttr]))
          exact⟨values.length-(k+1),by omega,by simp only[Pb.cells,Fm.cells,List.cons_append,List.nil_append],k+1,by simp,by omega,rfl,hG2,by simpa using hall⟩
      ·have hdk:decide ((k:Int)<(values.length:Int))=false:=by simp;omega
       rw[List.drop_eq_nil_of_le (by omega)]at hall
       repeat'(first|refine a_seq fun K hK=>?_|(refine a_regionS ?_;simp(maxSteps:=2000000) only[Ty.w,simprocAttr,g1,g41,g42,g43,hdk])|(refine a_exit ?_;try simp only[pst0,simprocAttr])|(refine a_cond _ (by(try simp(maxSteps:=2000000) only[Ty.w,simprocAttr,g1,g41,g42,g43,hdk]);rfl) (fun hb=>?_) (fun hb=>?_)<;>(try simp only[hb0,decide_eq_true_eq,decide_eq_false_iff_not,simprocAttr]at hb)<;>(try(exfalso;omega)))|(refine hK _ _ ?_;clear hK;try simp only[pst0,simprocAttr]))
       simp(maxSteps:=2000000) only[Ty.w,simprocAttr,Ty.all,g1,Pb.cells,Fm.cells,List.cons_append,List.nil_append]
       exact⟨hG,hall⟩
    ·clear g1 hG
     rintro S h' ⟨g1,hG,hall⟩
     simp only[Pb.cells,Fm.cells,List.cons_append,List.nil_append]at g1
     rw[hall]at hF
     simp only[Bool.true_and]at hF
     subst hF
     have hf: ∀ a∈init, ∀ h:Heap,PCall Tryz.prog 62 [.agg (atRow a)] h fun r h'=>r= .sc (.bool (!rightA a))∧h'=h:=fun a ha h=>pexpr1_c (his a ha)
     repeat'(first|refine a_seq fun K hK=>?_|(refine a_regionS ?_;simp(maxSteps:=2000000) only[Ty.w,simprocAttr,g1]))
     refine owp_useQ (containsFuncA_c (q:=fun a=>!rightA a) hil hf) (by(try simp only[Ty.w,simprocAttr,g1]);try rfl) ?_;simp(maxSteps:=2000000) only[Ty.w,simprocAttr,g1]
     repeat'(first|(refine a_ret ?_;simp(maxSteps:=2000000) only[Ty.w,simprocAttr,g1])|(refine hK _ _ ?_;clear hK;try simp only[pst0,simprocAttr]))
     all_goals first|exact hG|exact⟨rfl,hG⟩
end Go.Proofs.YtjeolbgpllbemaaGreat
namespace Go.AM
end Go.AM
namespace Go.Proofs.YtjeolbgpllbemaaGreat
open Go.AM
theorem validF_shaped{f:Fm}(h:validF f=true):shapedF f=true:=by
 unfold validF at h
 simp only[Bool.and_eq_true]at h
 exact shapedM_F f 0 0 h.1
theorem zeroFm_ok:zeroFm.ok∧zeroFm.small:=by
 simp only[zeroFm,Fm.ok,Fm.oks,Ex.oks,Fm.small,Fm.smalls,Ex.smalls,List.length_nil]
 refine⟨⟨by simp[bigN,ByteArray.size],by simp[bigN,ByteArray.size],⟨by simp,by simp⟩,⟨by simp,by simp⟩,⟨by simp,trivial⟩,by simp,trivial⟩,by omega,by omega,trivial,by omega,trivial⟩
theorem textOf_ok{x:Sx}(h:x.ok):(textOf x).size≤bigN:=by
 obtain⟨_,_,_,_,t,_⟩:=x
 simp only[Sx.ok]at h
 exact h.2.2.1
theorem pmsOf_ok{t:ByteArray}{l:List ByteArray}(ht:t.size≤bigN)(hl: ∀ s∈l,s.size≤bigN): ∀ p∈pmsOf t l,p.ok:=by
 intro p hp
 simp only[pmsOf,List.mem_map]at hp
 obtain⟨s,hs,rfl⟩:=hp
 exact⟨hl s hs,ht⟩
theorem pmsOf_len(t:ByteArray)(l:List ByteArray):(pmsOf t l).length=l.length:=by simp[pmsOf]
theorem opObj_size:opObj.size≤bigN:=by simp[opObj,bigN,ByteArray.size]
theorem paramsL_ok(vars:Bool): ∀ (n:Nat)(l:List Sx),l.length≤n→(∀ x∈l,x.ok)→ ∀ (don:List Pm)(pen:List ByteArray),(∀ p∈don,p.ok)→(∀ s∈pen,s.size≤bigN)→
  (∀ p∈(paramsL vars l don pen).1,p.ok)∧(paramsL vars l don pen).1.length≤don.length+pen.length+l.length:=by
 intro n
 induction n with
 |zero=>
  intro l hl _ don pen hd hp
  match l,hl with
  |[],_=>
   unfold paramsL
   simp only[List.mem_append,List.length_append,pmsOf_len,List.length_nil]
   exact⟨fun p h=>h.elim (hd p) (pmsOf_ok opObj_size hp p),by omega⟩
 |succ n ihn=>
  intro l hl hx don pen hd hp
  match l,hl,hx with
  |[],_,_=>
   unfold paramsL
   simp only[List.mem_append,List.length_append,pmsOf_len,List.length_nil]
   exact⟨fun p h=>h.elim (hd p) (pmsOf_ok opObj_size hp p),by omega⟩
  |x::l,hl,hx=>
   have hxo:=hx x (by simp)
   have hlo: ∀ y∈l,y.ok:=fun y hy=>hx y (by simp[hy])
   unfold paramsL
   cases isWrd x with
   |false=>simp
   |true=>
    simp only[cond_true]
    cases bEq (textOf x) opMin with
    |true=>
     simp only[cond_true]
     cases l with
     |nil=>simp
     |cons t l'=>
      simp only
      cases(!pen.isEmpty&&isWrd t)with
      |false=>simp
      |true=>
       cases typedB (textOf t)with
       |false=>simp
       |true=>
        simp only[cond_true]
        have:=ihn l' (by simp at hl;omega) (fun y hy=>hlo y (by simp[hy])) (don++pmsOf (textOf t) pen) [] (fun p h=>(List.mem_append.1 h).elim (hd p) (pmsOf_ok (textOf_ok (hlo t (by simp))) hp p)) (by simp)
        refine⟨this.1,Nat.le_trans this.2 ?_⟩
        simp only[List.length_append,pmsOf_len,List.length_nil,List.length_cons];omega
    |false=>
     simp only[cond_false]
     cases(bif vars then varB (textOf x)else nameB (textOf x))with
     |false=>simp
     |true=>
      simp only[cond_true]
      have:=ihn l (by simp at hl;omega) hlo don (pen++[textOf x]) hd (fun s h=>(List.mem_append.1 h).elim (hp s) (fun h=>by simp at h;rw[h];exact textOf_ok hxo))
      refine⟨this.1,Nat.le_trans this.2 ?_⟩
      simp only[List.length_append,List.length_nil,List.length_cons];omega
theorem fm_mk_ok{op name:ByteArray}{args:List ByteArray}{params:List Pm}{exprs:List Ex}{kids:List Fm}(h1:op.size≤bigN)(h2:name.size≤bigN)(h3:args.length≤1048576)(h4: ∀ s∈args,s.size≤bigN)(h5:params.length≤1048576)(h6: ∀ p∈params,p.ok)
  (h7:exprs.length≤2)(h8: ∀ e∈exprs,e.ok∧e.small)(h9:kids.length≤1048576)(h10: ∀ k∈kids,k.ok∧k.small):(Fm.mk op name args params exprs kids).ok∧(Fm.mk op name args params exprs kids).small:=by
 simp only[Fm.ok,Fm.small]
 rw[Fm.oks_iff,Ex.oks_iff,Ex.smalls_iff,Fm.smalls_iff]
 refine⟨⟨h1,h2,⟨by unfold bigN;omega,h4⟩,⟨by unfold bigN;omega,h6⟩,⟨by unfold bigN;omega,fun e he=>(h8 e he).1⟩,by unfold bigN;omega,fun k hk=>(h10 k hk).1⟩,h3,h5,fun e he=>(h8 e he).2,h9,fun k hk=>(h10 k hk).2⟩
theorem empty_size:(⟨#[]⟩:ByteArray).size≤bigN:=by simp[bigN,ByteArray.size]
theorem fin_ok{r:Fm × Int}(h:r.1.ok∧r.1.small):(fin r).1.ok∧(fin r).1.small:=by
 unfold fin
 cases r.2==0 with
 |true=>exact h
 |false=>exact zeroFm_ok
theorem compareP_ok{w:ByteArray}{x y:Sx}(hw:w.size≤bigN)(hx:x.ok)(hy:y.ok)(sx:x.small)(sy:y.small):(compareP w x y).1.ok∧(compareP w x y).1.small:=by
 have ex:=exprP_ok x hx sx
 have ey:=exprP_ok y hy sy
 unfold compareP
 cases(bEq w opEq&&kindOf x==1&&kindOf y==1)with
 |true=>
  have ht:=termsM_ok (l:=[x,y]) (by simp[hx,hy])
  simp only[List.length_cons,List.length_nil]at ht
  exact fm_mk_ok (by simp[opSame,bigN,ByteArray.size]) empty_size (by omega) ht.1 (by simp) (by simp) (by simp) (by simp) (by simp) (by simp)
 |false=>
  simp only[cond_false]
  cases(exprP x).2==0 with
  |false=>exact zeroFm_ok
  |true=>
   cases(exprP y).2==0 with
   |false=>exact zeroFm_ok
   |true=>
    simp only[cond_true]
    have h2: ∀ a b:Ex,(a.ok∧a.small)→(b.ok∧b.small)→ ∀ o:ByteArray,o.size≤bigN→(Fm.mk o ⟨#[]⟩ [] [] [a,b] []).ok∧(Fm.mk o ⟨#[]⟩ [] [] [a,b] []).small:=fun a b ha hb o ho=>
     fm_mk_ok ho empty_size (by simp) (by simp) (by simp) (by simp) (by simp) (by simp only[List.mem_cons,List.not_mem_nil,or_false];rintro e (rfl|rfl);exact ha;exact hb) (by simp) (by simp)
    split
    ·exact h2 _ _ ey ex _ (by simp[opLt,bigN,ByteArray.size])
    ·split
     ·exact h2 _ _ ey ex _ (by simp[opLe,bigN,ByteArray.size])
     ·exact h2 _ _ ex ey _ hw
theorem fmPs_ok: ∀ (l:List Sx),(∀ k∈l,(fmP k).1.ok∧(fmP k).1.small)→(∀ f∈(fmPs l).1,f.ok∧f.small)∧(fmPs l).1.length≤l.length
 |[],_=>by simp[fmPs]
 |x::l,h=>by
  have h1:=fmPs_ok l fun k hk=>h k (by simp[hk])
  have h2:=h x (by simp)
  simp only[fmPs]
  generalize fmP x=r at h2
  obtain⟨f,c⟩:=r
  simp only at h2⊢
  cases c==0 with
  |false=>simp
  |true=>
   simp only[cond_true]
   generalize fmPs l=r at h1
   obtain⟨fs,c'⟩:=r
   simp only at h1⊢
   cases c'==0 with
   |false=>simp
   |true=>
    simp only[cond_true,List.mem_cons,List.length_cons]
    exact⟨fun g hg=>hg.elim (fun e=>by rw[e];exact h2) (h1.1 g),by omega⟩
theorem fmP_ok: ∀ x:Sx,x.ok→x.small→(fmP x).1.ok∧(fmP x).1.small:=by
 refine Sx.ind ?_
 intro kind value line col text kids ih hok hsm
 simp only[Sx.ok]at hok
 obtain⟨_,_,_,hkl,hks⟩:=hok
 clear hkl
 rw[Sx.oks_iff]at hks
 simp only[Sx.small]at hsm
 obtain⟨hl,hss⟩:=hsm
 rw[Sx.smalls_iff]at hss
 have sub: ∀ l:List Sx,(∀ k∈l,k∈kids)→(∀ f∈(fmPs l).1,f.ok∧f.small)∧(fmPs l).1.length≤l.length:=fun l h=>fmPs_ok l fun k hk=>ih k (h k hk) (hks k (h k hk)) (hss k (h k hk))
 unfold fmP
 split
 ·cases kids with
  |nil=>exact fm_mk_ok (by simp[opAnd,bigN,ByteArray.size]) empty_size (by simp) (by simp) (by simp) (by simp) (by simp) (by simp) (by simp) (by simp)
  |cons x rest=>
   simp only
   have hxt:=textOf_ok (hks x (by simp))
   simp only[List.length_cons]at hl
   cases kindOf x==1 with
   |false=>exact zeroFm_ok
   |true=>
    simp only[cond_true]
    cases(decide (countW (textOf x)≥0)&&!(decide (countW (textOf x)=rest.length)))with
    |true=>exact zeroFm_ok
    |false=>
     simp only[cond_false]
     cases isQ (textOf x)with
     |true=>
      simp only[cond_true]
      cases rest with
      |nil=>exact zeroFm_ok
      |cons p body=>
       simp only
       cases kindOf p==3 with
       |false=>exact zeroFm_ok
       |true=>
        simp only[cond_true]
        have hpo:=hks p (by simp)
        have hps:=hss p (by simp)
        have hb:=sub body fun k hk=>by simp[hk]
        simp only[List.length_cons]at hl
        have hpp:(∀ q∈(paramsP true (kidsOf p)).1,q.ok)∧(paramsP true (kidsOf p)).1.length≤1048576:=by
         obtain⟨_,_,_,_,_,pk⟩:=p
         simp only[Sx.ok]at hpo
         simp only[Sx.small]at hps
         have:=paramsL_ok true pk.length pk (Nat.le_refl _) (Sx.oks_iff.1 hpo.2.2.2.2) [] [] (by simp) (by simp)
         simp only[List.length_nil]at this
         exact⟨this.1,by have:=this.2;simp only[paramsP,kidsOf];omega⟩
        cases(paramsP true (kidsOf p)).2==0 with
        |false=>exact zeroFm_ok
        |true=>
         simp only[cond_true]
         generalize fmPs body=r at hb
         obtain⟨ks,c⟩:=r
         simp only at hb⊢
         cases c==0 with
         |false=>exact zeroFm_ok
         |true=>exact fm_mk_ok hxt empty_size (by simp) (by simp) hpp.2 hpp.1 (by simp) (by simp) (by omega) hb.1
     |false=>
      simp only[cond_false]
      cases isLst (textOf x)with
      |true=>
       simp only[cond_true]
       have hb:=sub rest fun k hk=>by simp[hk]
       generalize fmPs rest=r at hb
       obtain⟨ks,c⟩:=r
       simp only at hb⊢
       cases c==0 with
       |false=>exact zeroFm_ok
       |true=>exact fm_mk_ok hxt empty_size (by simp) (by simp) (by simp) (by simp) (by simp) (by simp) (by omega) hb.1
      |false=>
       simp only[cond_false]
       cases isCmp5 (textOf x)with
       |true=>
        simp only[cond_true]
        split
        ·rename_i a b
         exact fin_ok (compareP_ok hxt (hks a (by simp)) (hks b (by simp)) (hss a (by simp)) (hss b (by simp)))
        ·exact zeroFm_ok
       |false=>
        simp only[cond_false]
        cases nameB (textOf x)with
        |false=>exact zeroFm_ok
        |true=>
         have ht:=termsM_ok (l:=rest) fun y hy=>hks y (by simp[hy])
         simp only[cond_true]
         cases(termsM rest).2==0 with
         |false=>exact zeroFm_ok
         |true=>exact fm_mk_ok (by simp[opAtom,bigN,ByteArray.size]) hxt (by omega) ht.1 (by simp) (by simp) (by simp) (by simp) (by simp) (by simp)
 ·exact zeroFm_ok
def parseF(x:Sx):Fm × Int:=
 if(svalid x 0 0).1=true then(if(fmP x).2=0 then(if validF (fmP x).1=true then((fmP x).1,0)else(zeroFm,5))else(zeroFm,(fmP x).2))else(zeroFm,2)
theorem parseF_ok{x:Sx}(hok:x.ok):(parseF x).1.ok∧(parseF x).1.small:=by
 unfold parseF
 split
 ·rename_i h
  split
  ·split
   ·exact fmP_ok x hok (svalid_small h)
   ·exact zeroFm_ok
  ·exact zeroFm_ok
 ·exact zeroFm_ok
theorem parseF_fmW{f:Fm}(h:validF f=true):parseF (fmW f)=(f,0):=by
 have hs:=validF_shaped h
 have h2:=h
 unfold validF at h2
 simp only[Bool.and_eq_true]at h2
 unfold parseF
 rw[if_pos h2.2,fmP_fmW f hs]
 simp[h]
end Go.Proofs.YtjeolbgpllbemaaGreat
namespace Go.Proofs.YtjeolbgpllbemaaGreat
open Go.AM
def opDef:ByteArray:=⟨#[100,101,102,105,110,101]⟩
def opPrb:ByteArray:=⟨#[112,114,111,98,108,101,109]⟩
def opDom:ByteArray:=⟨#[58,100,111,109,97,105,110]⟩
def opObjs:ByteArray:=⟨#[58,111,98,106,101,99,116,115]⟩
def opInit:ByteArray:=⟨#[58,105,110,105,116]⟩
def opGoal:ByteArray:=⟨#[58,103,111,97,108]⟩
def atW(a:At):Sx:=wordsM a.name a.args
def numM(n:Int):Sx:= .mk 2 n 0 0 ⟨#[]⟩ []
def vlW(v:Vl):Sx:=listM [wordM opEq,atW v.at_,numM v.n]
def objsS(l:List Pm):Sx:=listM (wordM opObjs::paramsW l)
def initS(a:List At)(v:List Vl):Sx:=listM (wordM opInit::(a.map atW++v.map vlW))
def goalS(g:Fm):Sx:=listM [wordM opGoal,fmW g]
def goalE(g:Fm):Bool:=match g with
 | .mk op _ _ _ _ kids=>bEq op opAnd&&kids.isEmpty
def objsW(l:List Pm):List Sx:=if l.isEmpty then[]else[objsS l]
def initW(a:List At)(v:List Vl):List Sx:=if a.isEmpty&&v.isEmpty then[]else[initS a v]
def goalW(g:Fm):List Sx:=if goalE g then[]else[goalS g]
def nameS(w s:ByteArray):Sx:=listM [wordM w,wordM s]
def pbW(p:Pb):Sx:=listM ([wordM opDef,nameS opPrb p.name,nameS opDom p.domain]++(objsW p.objects++(initW p.init p.values++goalW p.goal)))
def writeB(p:Pb):Bool:=validF p.goal&&expressB p&&(svalid (pbW p) 0 0).1
def valOf:Sx→Int
 | .mk _ v _ _ _ _=>v
def namedP(x:Sx)(want:ByteArray):ByteArray × Int:=match headM x with
 |some (w,rest)=>bif bEq w want then(match rest with
  |[r]=>bif kindOf r==1 then(bif nameB (textOf r)then(textOf r,0)else(⟨#[]⟩,8))else(⟨#[]⟩,2)
  |_=>(⟨#[]⟩,2))else(⟨#[]⟩,2)
 |none=>(⟨#[]⟩,2)
def namesM:List Sx→List ByteArray × Int
 |[]=>([],0)
 |x::l=>bif kindOf x==1 then(bif nameB (textOf x)then(match namesM l with
  |(t,c)=>bif c==0 then(textOf x::t,0)else([],c))else([],8))else([],2)
def zeroAt:At:=⟨⟨#[]⟩,[]⟩
def atomP(w:ByteArray)(rest:List Sx):At × Int:=
 bif nameB w then(bif (namesM rest).2==0 then(⟨w,(namesM rest).1⟩,0)else(zeroAt,(namesM rest).2))else(zeroAt,8)
def elemP(a:List At)(v:List Vl)(x:Sx):List At × List Vl × Int:=match headM x with
 |none=>(a,v,2)
 |some (w,rest)=>bif bEq w opEq then(match rest with
   |[f,n]=>bif kindOf n==2 then(match headM f with
    |none=>(a,v,2)
    |some (name,args)=>bif (atomP name args).2==0 then(a,v++[⟨(atomP name args).1,valOf n⟩],0)else(a,v,(atomP name args).2))else(a,v,2)
   |_=>(a,v,2))
  else bif (atomP w rest).2==0 then(a++[(atomP w rest).1],v,0)else(a,v,(atomP w rest).2)
def elemsP:List At→List Vl→List Sx→List At × List Vl × Int
 |a,v,[]=>(a,v,0)
 |a,v,x::l=>match elemP a v x with
  |(a',v',c)=>bif c==0 then elemsP a' v' l else(a',v',c)
def zeroPb:Pb:=⟨⟨#[]⟩,⟨#[]⟩,[],[],[],zeroFm⟩
def andFm:Fm:= .mk opAnd ⟨#[]⟩ [] [] [] []
def sectP(p:Pb)(w:ByteArray)(rest:List Sx):Pb × Int:=
 bif bEq w opObjs then(⟨p.name,p.domain,(paramsP false rest).1,p.init,p.values,p.goal⟩,(paramsP false rest).2)
 else bif bEq w opInit then(⟨p.name,p.domain,p.objects,(elemsP p.init p.values rest).1,(elemsP p.init p.values rest).2.1,p.goal⟩,(elemsP p.init p.values rest).2.2)
 else(match rest with
  |[g]=>(⟨p.name,p.domain,p.objects,p.init,p.values,(parseF g).1⟩,(parseF g).2)
  |_=>(p,2))
def afterB:List ByteArray→ByteArray→Option (List ByteArray)
 |[],_=>none
 |o::l,w=>bif bEq o w then some l else afterB l w
def sectsP:List ByteArray→Pb→List Sx→Pb × Int
 |_,p,[]=>(p,0)
 |o,p,s::l=>match headM s with
  |none=>(p,2)
  |some (w,rest)=>match afterB o w with
   |none=>(p,2)
   |some o'=>bif (sectP p w rest).2==0 then sectsP o' (sectP p w rest).1 l else sectP p w rest
def pbOrder:List ByteArray:=[opObjs,opInit,opGoal]
def pb0(n d:ByteArray):Pb:=⟨n,d,[],[],[],andFm⟩
def pbP(x:Sx):Pb × Int:=match headM x with
 |none=>(pb0 ⟨#[]⟩ ⟨#[]⟩,2)
 |some (w,rest)=>bif bEq w opDef then(match rest with
  |[]=>(pb0 ⟨#[]⟩ ⟨#[]⟩,2)
  |n::rest1=>bif (namedP n opPrb).2==0 then(match rest1 with
   |[]=>(pb0 (namedP n opPrb).1 ⟨#[]⟩,2)
   |d::rest2=>bif (namedP d opDom).2==0 then sectsP pbOrder (pb0 (namedP n opPrb).1 (namedP d opDom).1) rest2 else(pb0 (namedP n opPrb).1 ⟨#[]⟩,(namedP d opDom).2))
   else(pb0 ⟨#[]⟩ ⟨#[]⟩,(namedP n opPrb).2))
  else(pb0 ⟨#[]⟩ ⟨#[]⟩,2)
def parsePb(x:Sx):Pb × Int:=
 if(svalid x 0 0).1=true then(if(pbP x).2=0 then(if writeB (pbP x).1=true then((pbP x).1,0)else(zeroPb,5))else(zeroPb,(pbP x).2))else(zeroPb,2)
theorem kW(s:ByteArray):kindOf (wordM s)=1:=rfl
theorem tW(s:ByteArray):textOf (wordM s)=s:=rfl
theorem headM_list{w:ByteArray}{l:List Sx}:headM (listM (wordM w::l))=some (w,l):=by
 simp[headM,listM,kW,tW]
theorem bEq_self(s:ByteArray):bEq s s=true:=by simp[bEq]
theorem namedP_S{w s:ByteArray}(h:nameB s=true):namedP (nameS w s) w=(s,0):=by
 unfold namedP nameS
 rw[headM_list]
 simp[bEq_self,kW,tW,h]
theorem namesM_words: ∀ l:List ByteArray,(∀ s∈l,nameB s=true)→namesM (l.map wordM)=(l,0)
 |[],_=>rfl
 |s::l,h=>by
  simp only[List.map_cons,namesM,kW,tW,h s (by simp),namesM_words l (fun t ht=>h t (by simp[ht])),beq_self_eq_true,cond_true]
theorem rightA_iff{a:At}:rightA a=true↔nameB a.name=true∧ ∀ s∈a.args,nameB s=true:=by
 unfold rightA rightB
 rw[Bool.and_eq_true,Bool.not_eq_true',List.any_eq_false]
 simp
theorem atomP_W{a:At}(h:rightA a=true):atomP a.name (a.args.map wordM)=(a,0):=by
 obtain⟨h1,h2⟩:=rightA_iff.1 h
 unfold atomP
 rw[h1,namesM_words _ h2];try rfl
theorem elemP_at{a:List At}{v:List Vl}{x:At}(h:rightA x=true):elemP a v (atW x)=(a++[x],v,0):=by
 have h1:=(rightA_iff.1 h).1
 unfold elemP atW wordsM
 rw[List.map_cons,headM_list]
 simp only[name_ne h1 (w:=opEq) (by decide),cond_false,atomP_W h,beq_self_eq_true,cond_true]
theorem elemP_vl{a:List At}{v:List Vl}{x:Vl}(h:rightA x.at_=true):elemP a v (vlW x)=(a,v++[x],0):=by
 unfold elemP vlW
 rw[headM_list]
 simp only[bEq_self,cond_true,numM,kindOf,valOf,beq_self_eq_true]
 unfold atW wordsM
 rw[List.map_cons,headM_list]
 simp only[atomP_W h,beq_self_eq_true,cond_true]
theorem expressB_iff{p:Pb}:expressB p=true↔nameB p.name=true∧nameB p.domain=true∧(∀ o∈p.objects,objB o=true)∧(∀ v∈p.values,vlB v=true)∧ ∀ a∈p.init,rightA a=true:=by
 unfold expressB
 simp only[Bool.and_eq_true,List.all_eq_true,Bool.not_eq_true',List.any_eq_false]
 simp[and_assoc]
theorem paramsL_Wn: ∀ (l:List Pm)(don:List Pm),(∀ o∈l,objB o=true)→paramsL false (paramsW l) don []=(don++l,0)
 |[],don,_=>by simp[paramsW,paramsL,pmsOf]
 |p::l,don,h=>by
  have h1:=h p (by simp)
  have h2: ∀ o∈l,objB o=true:=fun o ho=>h o (by simp[ho])
  unfold objB at h1
  simp only[Bool.and_eq_true]at h1
  have g1:=name_word h1.1
  have g2:bEq p.name opMin=false:=name_ne h1.1 (by decide)
  have t1: ∀ s:ByteArray,textOf (wordM s)=s:=fun _=>rfl
  have w1:isWrd (wordM ⟨#[45]⟩)=true:=isWrd_word (by decide)
  have w2:bEq (⟨#[45]⟩:ByteArray) opMin=true:=by decide
  simp only[paramsW]
  rw[paramsL,isWrd_word g1,t1,g2,h1.1]
  simp only[cond_true,cond_false,List.nil_append]
  rw[paramsL,w1,t1,w2]
  simp only[cond_true,isWrd_word (typed_word h1.2),t1,h1.2]
  simp only[List.isEmpty_cons,Bool.not_false,Bool.true_and,cond_true,pmsOf,List.map_cons,List.map_nil]
  rw[paramsL_Wn l _ h2]
  simp
theorem paramsP_Wn{l:List Pm}(h: ∀ o∈l,objB o=true):paramsP false (paramsW l)=(l,0):=by
 unfold paramsP
 rw[paramsL_Wn l [] h];rfl
theorem goalE_eq{g:Fm}(h:validF g=true)(he:goalE g=true):g=andFm:=by
 have hs:=validF_shaped h
 obtain⟨op,name,args,params,exprs,kids⟩:=g
 simp only[goalE,Bool.and_eq_true,List.isEmpty_iff]at he
 obtain⟨e1,rfl⟩:=he
 obtain rfl:=bEq_eq e1
 unfold shapedF at hs
 simp only[Bool.and_eq_true]at hs
 rcases partsOk_cases hs.1.1 with⟨h1,_⟩|⟨h1,_⟩|⟨h1,_⟩|⟨_,rfl,rfl,rfl,he⟩|⟨h1,_⟩
 ·exact absurd h1 (by decide)
 ·exact absurd h1 (by decide)
 ·rcases h1 with h1|h1|h1<;>exact absurd h1 (by decide)
 ·obtain rfl:=List.length_eq_zero_iff.1 he
  rfl
 ·rcases h1 with h1|h1<;>exact absurd h1 (by decide)
end Go.Proofs.YtjeolbgpllbemaaGreat
namespace Go.Proofs.YtjeolbgpllbemaaGreat
open Go.AM
set_option maxHeartbeats 4000000
set_option maxRecDepth 20000
theorem phead_c{x:Sx}(hok:x.ok)(h:Heap):PCall Tryz.prog 75 [.agg x.cells] h fun r h'=>r=headV (headM x)∧h'=h:=by
 obtain⟨kind,value,line,col,text,kids⟩:=x
 simp only[Sx.ok]at hok
 obtain⟨_,_,_,hk,_⟩:=hok
 generalize hF:headM (.mk kind value line col text kids)=F
 simp only[headM]at hF
 simp only[Sx.cells]
 have hlen:=Sx.rows_len kids
 cases k3:(kind !=3)with
 |true=>
  rw[if_neg (by simpa using k3)]at hF
  subst hF
  refine pcall_body (ow:=fun _=>false) (wf:=fun _=>false) Ty.mixed Tryz.func75 rfl Ty.hb_75 (by rw[Tryz.ntmps75];simp) ?_
  rw[Tryz.ntmps75,Tryz.results75]
  repeat'(first|refine a_seq fun K hK=>?_|((first|refine a_regionS ?_|refine a_ret ?_);simp(maxSteps:=2000000) only[Ty.w,simprocAttr,k3])|(refine hK _ _ ?_;clear hK;try simp only[pst0,simprocAttr]))
  all_goals rfl
 |false=>
  rw[if_pos (by simpa using k3)]at hF
  cases kids with
  |nil=>
   simp only at hF
   subst hF
   have q:(((Sx.rows []).length:Int)==0)=true:=rfl
   generalize Sx.rows []=R at q hlen
   refine pcall_body (ow:=fun _=>false) (wf:=fun _=>false) Ty.mixed Tryz.func75 rfl Ty.hb_75 (by rw[Tryz.ntmps75];simp) ?_
   rw[Tryz.ntmps75,Tryz.results75]
   repeat'(first|refine a_seq fun K hK=>?_|((first|refine a_regionS ?_|refine a_ret ?_);simp(maxSteps:=2000000) only[Ty.w,simprocAttr,k3,q])|(refine hK _ _ ?_;clear hK;try simp only[pst0,simprocAttr]))
   all_goals rfl
  |cons y rest=>
   simp only at hF
   have q:(((Sx.rows (y::rest)).length:Int)==0)=false:=by rw[hlen];simp;omega
   have r0:=Sx.rows_get (l:=y::rest) (i:=0) rfl
   have q1:(1:Int)≤((Sx.rows (y::rest)).length:Int):=by rw[hlen];simp;omega
   have ht:List.take (((Sx.rows (y::rest)).length:Int)-1).toNat (List.drop 1 (Sx.rows (y::rest)))=Sx.rows rest:=by
    simp only[Sx.rows,List.drop_succ_cons,List.drop_zero,List.length_cons]
    rw[List.take_of_length_le (by omega)]
   generalize Sx.rows (y::rest)=R at q r0 q1 ht hlen⊢
   obtain⟨ki,va,li,co,te,ks⟩:=y
   simp only[Sx.cells,kindOf,textOf]at r0 hF
   cases k1:(ki !=1)with
   |true=>
    rw[show(ki==1)=false by simpa using k1]at hF
    simp only[cond_false]at hF
    subst hF
    refine pcall_body (ow:=fun _=>false) (wf:=fun _=>false) Ty.mixed Tryz.func75 rfl Ty.hb_75 (by rw[Tryz.ntmps75];simp) ?_
    rw[Tryz.ntmps75,Tryz.results75]
    repeat'(first|refine a_seq fun K hK=>?_|((first|refine a_regionS ?_|refine a_ret ?_);simp(maxSteps:=2000000) only[Ty.w,simprocAttr,k3,q,r0,k1])|(refine hK _ _ ?_;clear hK;try simp only[pst0,simprocAttr]))
    all_goals rfl
   |false=>
    rw[show(ki==1)=true by simpa using k1]at hF
    simp only[cond_true]at hF
    subst hF
    refine pcall_body (ow:=fun _=>false) (wf:=fun _=>false) Ty.mixed Tryz.func75 rfl Ty.hb_75 (by rw[Tryz.ntmps75];simp) ?_
    rw[Tryz.ntmps75,Tryz.results75]
    repeat'(first|refine a_seq fun K hK=>?_|((first|refine a_regionS ?_|refine a_drawS (by decide+kernel) ?_|refine a_ret ?_);simp(maxSteps:=2000000) only[Ty.w,simprocAttr,k3,q,r0,k1,q1,ht,Option.getD_some,Option.getD_none,Int.le_refl,Int.toNat_one])|(refine a_skip ?_;try simp only[pst0,simprocAttr])|(refine a_cond _ (by(try simp(maxSteps:=2000000) only[Ty.w,simprocAttr,k3,q,r0,k1,q1,ht,Option.getD_some,Option.getD_none,Int.le_refl,Int.toNat_one]);rfl) (fun hb=>?_) (fun hb=>?_)<;>(try simp only[hb0,decide_eq_true_eq,decide_eq_false_iff_not,simprocAttr]at hb)<;>(try(exfalso;omega)))|(refine hK _ _ ?_;clear hK;try simp only[pst0,simprocAttr]))
    all_goals rfl
theorem headM_ok2{x:Sx}(hok:x.ok){w:ByteArray}{l:List Sx}(h:headM x=some (w,l)):w.size≤bigN∧l.length≤bigN∧ ∀ y∈l,y.ok:=by
 obtain⟨kind,value,line,col,text,kids⟩:=x
 simp only[Sx.ok]at hok
 obtain⟨_,_,_,hk,hks⟩:=hok
 simp only[headM]at h
 split at h
 ·cases kids with
  |nil=>simp at h
  |cons y rest=>
   simp only at h
   rw[Sx.oks_iff]at hks
   cases hh:kindOf y==1 with
   |false=>rw[hh]at h;simp at h
   |true=>
    rw[hh]at h
    simp only[cond_true,Option.some.injEq,Prod.mk.injEq]at h
    obtain⟨rfl,rfl⟩:=h
    have hy:=hks y (by simp)
    refine⟨?_,by simp at hk;omega,fun z hz=>hks z (by simp[hz])⟩
    obtain⟨ki,va,li,co,te,ks⟩:=y
    simp only[Sx.ok]at hy
    exact hy.2.2.1
 ·simp at h
theorem pnamed_c{x:Sx}{want:ByteArray}(hok:x.ok)(h:Heap):PCall Tryz.prog 76 [.agg x.cells,sPV want] h fun r h'=>r= .tup [sPV (namedP x want).1,errP (namedP x want).2]∧h'=h:=by
 have hc:=phead_c hok
 generalize hF:namedP x want=F
 unfold namedP at hF
 have ho:=fun w l=>headM_ok2 hok (w:=w) (l:=l)
 obtain⟨kind,value,line,col,text,kids⟩:=x
 simp only[Sx.cells]at hc⊢
 generalize headM (.mk kind value line col text kids)=D at hF hc ho
 have e2:errP 2=errV 2:=rfl
 have e8:errP 8=errV 8:=rfl
 have e0:errP 0= .sc .nilIface:=rfl
 cases D with
 |none=>
  simp only at hF
  subst hF
  simp only[headV]at hc
  refine pcall_body (ow:=fun _=>false) (wf:=fun _=>false) Ty.mixed Tryz.func76 rfl Ty.hb_76 (by rw[Tryz.ntmps76];simp) ?_
  rw[Tryz.ntmps76,Tryz.results76]
  repeat'(first|refine a_seq fun K hK=>?_|(refine a_regionS ?_;simp(maxSteps:=2000000) only[Ty.w,simprocAttr])|(refine hK _ _ ?_;clear hK;try simp only[pst0,simprocAttr]))
  refine owp_useQ (hc _) (by(try simp only[Ty.w,simprocAttr,]);try rfl) ?_;simp(maxSteps:=2000000) only[Ty.w,simprocAttr,]
  repeat'(first|refine a_seq fun K hK=>?_|((first|refine a_regionS ?_|refine a_ret ?_);simp(maxSteps:=2000000) only[Ty.w,simprocAttr,Bool.not_false])|(refine hK _ _ ?_;clear hK;try simp only[pst0,simprocAttr]))
  all_goals rfl
 |some wr=>
  obtain⟨w,rest⟩:=wr
  obtain⟨o1,o2,o3⟩:=ho w rest rfl
  simp only[headV]at hc
  simp only at hF
  have hl:=Sx.rows_len rest
  cases q1:(w.data.toList==want.data.toList)with
  |false=>
   rw[show bEq w want=false from q1]at hF
   simp only[cond_false]at hF
   subst hF
   refine pcall_body (ow:=fun _=>false) (wf:=fun _=>false) Ty.mixed Tryz.func76 rfl Ty.hb_76 (by rw[Tryz.ntmps76];simp) ?_
   rw[Tryz.ntmps76,Tryz.results76]
   repeat'(first|refine a_seq fun K hK=>?_|(refine a_regionS ?_;simp(maxSteps:=2000000) only[Ty.w,simprocAttr])|(refine hK _ _ ?_;clear hK;try simp only[pst0,simprocAttr]))
   refine owp_useQ (hc _) (by(try simp only[Ty.w,simprocAttr,]);try rfl) ?_;simp(maxSteps:=2000000) only[Ty.w,simprocAttr,]
   repeat'(first|refine a_seq fun K hK=>?_|((first|refine a_regionS ?_|refine a_ret ?_);simp(maxSteps:=2000000) only[Ty.w,simprocAttr,Bool.not_true,Bool.not_false,q1])|(refine hK _ _ ?_;clear hK;try simp only[pst0,simprocAttr]))
   all_goals rfl
  |true=>
   rw[show bEq w want=true from q1]at hF
   simp only[cond_true]at hF
   cases q2:((rest.length:Int) !=1)with
   |true=>
    have e:F=(⟨#[]⟩,2):=by
     rw[← hF]
     match rest,q2 with
     |[],_=>rfl
     |[a],q=>simp at q
     |_::_::_,_=>rfl
    subst e
    refine pcall_body (ow:=fun _=>false) (wf:=fun _=>false) Ty.mixed Tryz.func76 rfl Ty.hb_76 (by rw[Tryz.ntmps76];simp) ?_
    rw[Tryz.ntmps76,Tryz.results76]
    repeat'(first|refine a_seq fun K hK=>?_|(refine a_regionS ?_;simp(maxSteps:=2000000) only[Ty.w,simprocAttr])|(refine hK _ _ ?_;clear hK;try simp only[pst0,simprocAttr]))
    refine owp_useQ (hc _) (by(try simp only[Ty.w,simprocAttr,]);try rfl) ?_;simp(maxSteps:=2000000) only[Ty.w,simprocAttr,]
    repeat'(first|refine a_seq fun K hK=>?_|((first|refine a_regionS ?_|refine a_ret ?_);simp(maxSteps:=2000000) only[Ty.w,simprocAttr,Bool.not_true,Bool.not_false,q1,q2,hl])|(refine hK _ _ ?_;clear hK;try simp only[pst0,simprocAttr]))
    all_goals rfl
   |false=>
    obtain⟨r,rfl⟩: ∃ r,rest=[r]:=by
     match rest,q2 with
     |[],q=>simp at q
     |[a],_=>exact⟨a,rfl⟩
     |_::_::l,q=>simp at q;omega
    have hr:=Sx.rows_get (l:=[r]) (i:=0) rfl
    have hro:=o3 r (by simp)
    simp only[List.length_cons,List.length_nil,Nat.zero_add]at hl q2
    clear o1 o2 o3 ho
    simp only at hF
    generalize Sx.rows [r]=R at hc hl hr
    obtain⟨ki,va,li,co,te,ks⟩:=r
    simp only[Sx.ok]at hro
    simp only[Sx.cells,kindOf,textOf]at hr hF
    have hte:te.size≤9223372036854775807:=by have:=hro.2.2.1;unfold bigN at this;omega
    have hn:=fun h:Heap=>fname_c (h:=h) hte
    cases q3:(ki !=1)with
    |true=>
     rw[show(ki==1)=false by simpa using q3]at hF
     simp only[cond_false]at hF
     subst hF
     refine pcall_body (ow:=fun _=>false) (wf:=fun _=>false) Ty.mixed Tryz.func76 rfl Ty.hb_76 (by rw[Tryz.ntmps76];simp) ?_
     rw[Tryz.ntmps76,Tryz.results76]
     repeat'(first|refine a_seq fun K hK=>?_|(refine a_regionS ?_;simp(maxSteps:=2000000) only[Ty.w,simprocAttr])|(refine hK _ _ ?_;clear hK;try simp only[pst0,simprocAttr]))
     refine owp_useQ (hc _) (by(try simp only[Ty.w,simprocAttr,]);try rfl) ?_;simp(maxSteps:=2000000) only[Ty.w,simprocAttr,]
     repeat'(first|refine a_seq fun K hK=>?_|((first|refine a_regionS ?_|refine a_ret ?_);simp(maxSteps:=2000000) only[Ty.w,simprocAttr,Bool.not_true,Bool.not_false,q1,q2,q3,hl,hr])|(refine hK _ _ ?_;clear hK;try simp only[pst0,simprocAttr]))
     all_goals rfl
    |false=>
     rw[show(ki==1)=true by simpa using q3]at hF
     simp only[cond_true]at hF
     generalize nameB te=b at hF hn
     cases b with
     |false=>
      simp only[cond_false]at hF
      subst hF
      refine pcall_body (ow:=fun _=>false) (wf:=fun _=>false) Ty.mixed Tryz.func76 rfl Ty.hb_76 (by rw[Tryz.ntmps76];simp) ?_
      rw[Tryz.ntmps76,Tryz.results76]
      repeat'(first|refine a_seq fun K hK=>?_|(refine a_regionS ?_;simp(maxSteps:=2000000) only[Ty.w,simprocAttr])|(refine hK _ _ ?_;clear hK;try simp only[pst0,simprocAttr]))
      refine owp_useQ (hc _) (by(try simp only[Ty.w,simprocAttr,]);try rfl) ?_;simp(maxSteps:=2000000) only[Ty.w,simprocAttr,]
      repeat'(first|refine a_seq fun K hK=>?_|(refine a_regionS ?_;simp(maxSteps:=2000000) only[Ty.w,simprocAttr,Bool.not_true,Bool.not_false,q1,q2,q3,hl,hr])|(refine a_skip ?_;try simp only[pst0,simprocAttr])|(refine a_cond _ (by(try simp(maxSteps:=2000000) only[Ty.w,simprocAttr,Bool.not_true,Bool.not_false,q1,q2,q3,hl,hr]);rfl) (fun hb=>?_) (fun hb=>?_)<;>(try simp only[hb0,decide_eq_true_eq,decide_eq_false_iff_not,simprocAttr]at hb)<;>(try(exfalso;omega)))|(refine hK _ _ ?_;clear hK;try simp only[pst0,simprocAttr]))
      refine owp_useQ (hn _) (by(try simp only[Ty.w,simprocAttr,hr,hl]);try rfl) ?_;simp(maxSteps:=2000000) only[Ty.w,simprocAttr,hr,hl]
      repeat'(first|refine a_seq fun K hK=>?_|((first|refine a_regionS ?_|refine a_ret ?_);simp(maxSteps:=2000000) only[Ty.w,simprocAttr,Bool.not_false])|(refine hK _ _ ?_;clear hK;try simp only[pst0,simprocAttr]))
      all_goals rfl
     |true=>
      simp only[cond_true]at hF
      subst hF
      refine pcall_body (ow:=fun _=>false) (wf:=fun _=>false) Ty.mixed Tryz.func76 rfl Ty.hb_76 (by rw[Tryz.ntmps76];simp) ?_
      rw[Tryz.ntmps76,Tryz.results76]
      repeat'(first|refine a_seq fun K hK=>?_|(refine a_regionS ?_;simp(maxSteps:=2000000) only[Ty.w,simprocAttr])|(refine hK _ _ ?_;clear hK;try simp only[pst0,simprocAttr]))
      refine owp_useQ (hc _) (by(try simp only[Ty.w,simprocAttr,]);try rfl) ?_;simp(maxSteps:=2000000) only[Ty.w,simprocAttr,]
      repeat'(first|refine a_seq fun K hK=>?_|(refine a_regionS ?_;simp(maxSteps:=2000000) only[Ty.w,simprocAttr,Bool.not_true,Bool.not_false,q1,q2,q3,hl,hr])|(refine a_skip ?_;try simp only[pst0,simprocAttr])|(refine a_cond _ (by(try simp(maxSteps:=2000000) only[Ty.w,simprocAttr,Bool.not_true,Bool.not_false,q1,q2,q3,hl,hr]);rfl) (fun hb=>?_) (fun hb=>?_)<;>(try simp only[hb0,decide_eq_true_eq,decide_eq_false_iff_not,simprocAttr]at hb)<;>(try(exfalso;omega)))|(refine hK _ _ ?_;clear hK;try simp only[pst0,simprocAttr]))
      refine owp_useQ (hn _) (by(try simp only[Ty.w,simprocAttr,hr,hl]);try rfl) ?_;simp(maxSteps:=2000000) only[Ty.w,simprocAttr,hr,hl]
      repeat'(first|refine a_seq fun K hK=>?_|((first|refine a_regionS ?_|refine a_ret ?_);simp(maxSteps:=2000000) only[Ty.w,simprocAttr,Bool.not_true,hr,hl])|(refine a_skip ?_;try simp only[pst0,simprocAttr])|(refine a_cond _ (by(try simp(maxSteps:=2000000) only[Ty.w,simprocAttr,Bool.not_true,hr,hl]);rfl) (fun hb=>?_) (fun hb=>?_)<;>(try simp only[hb0,decide_eq_true_eq,decide_eq_false_iff_not,simprocAttr]at hb)<;>(try(exfalso;omega)))|(refine hK _ _ ?_;clear hK;try simp only[pst0,simprocAttr]))
      all_goals rfl
theorem namesM_code: ∀ l:List Sx,(namesM l).2=0∨((namesM l).1=[]∧((namesM l).2=2∨(namesM l).2=8))
 |[]=> .inl rfl
 |x::l=>by
  have:=namesM_code l
  simp only[namesM]
  cases kindOf x==1 with
  |false=>simp
  |true=>
   cases nameB (textOf x)with
   |false=>simp
   |true=>
    simp only[cond_true]
    cases hq:(namesM l).2==0 with
    |false=>
     rcases this with h|h
     ·rw [h]at hq;simp at hq
     ·simp only[cond_false,true_and];exact .inr h.2
    |true=>simp
theorem sx_frz'(n:Nat)(h:Heap)(ki va li co:Int)(te:ByteArray)(ks:List Sx):FrzL n h [.sc (.int .i64 ki),.sc (.int .i64 va),.sc (.int .i64 li),.sc (.int .i64 co),sPV te,.imm 6 (Sx.rows ks)] [.sc (.int .i64 ki),.sc (.int .i64 va),.sc (.int .i64 li),.sc (.int .i64 co),sPV te,.imm 6 (Sx.rows ks)]:=sx_frz n h (.mk ki va li co te ks)
abbrev atZ:List PV:=[.sc (.string ⟨#[]⟩),.sc (.slice none 0 0)]
theorem parseAtom_c{w:ByteArray}{l:List Sx}(hw:w.size≤bigN)(hl:l.length≤1048576)(hok: ∀ x∈l,x.ok)(h:Heap):PCall Tryz.prog 141 [sPV w,.imm 6 (Sx.rows l)] h fun r h'=>r= .tup [.agg (atRow (atomP w l).1),errP (atomP w l).2]∧h'=h:=by
 refine PCall.frz Ty.hb_141 ?_
 have hw':w.size≤9223372036854775807:=by unfold bigN at hw;omega
 have hll:=Sx.rows_len l
 have hn:=fun h:Heap=>fname_c (h:=h) hw'
 generalize hF:atomP w l=F
 unfold atomP at hF
 have bad: ∀ (c:Int)(h':Heap),c=2∨c=8→F=(zeroAt,c)→FrzTo h.next h' (.tup [.agg (atRow F.1),errP F.2]) (.tup [.agg atZ,errV c]):=by
  intro c h' hc hf
  subst hf
  have e:errP c=errV c:=by rcases hc with rfl|rfl<;>rfl
  simp only[e]
  simp only[errV,zeroAt,atRow,strRows,List.map_nil,FrzTo,FrzL]
  exact⟨_,rfl,⟨_,rfl,rfl,.inr (.inl ⟨rfl,.inr rfl⟩),trivial⟩,rfl,trivial⟩
 simp only[errV]at bad
 cases q1:nameB w with
 |false=>
  rw[q1]at hF hn
  simp only[cond_false]at hF
  refine pcall_body (ow:=fun _=>false) (wf:=fun _=>false) Ty.mixed Tryz.func141 rfl Ty.hb_141 (by rw[Tryz.ntmps141];simp) ?_
  rw[Tryz.ntmps141,Tryz.results141]
  repeat'(first|refine a_seq fun K hK=>?_|(refine a_regionS ?_;simp(maxSteps:=2000000) only[Ty.w,simprocAttr])|(refine hK _ _ ?_;clear hK;try simp only[pst0,simprocAttr]))
  refine owp_useQ (hn _) (by(try simp only[Ty.w,simprocAttr,Bool.not_false]);try rfl) ?_;simp(maxSteps:=2000000) only[Ty.w,simprocAttr,Bool.not_false]
  repeat'(first|refine a_seq fun K hK=>?_|((first|refine a_regionS ?_|refine a_ret ?_);simp(maxSteps:=2000000) only[Ty.w,simprocAttr,Bool.not_false])|(refine hK _ _ ?_;clear hK;try simp only[pst0,simprocAttr]))
  exact⟨bad 8 _ (.inr rfl) hF.symm,((Grow.refl h).new _).set (Nat.le_refl _) _⟩
 |true=>
  rw[q1]at hF hn
  simp only[cond_true]at hF
  refine pcall_body (ow:=fun _=>false) (wf:=fun _=>false) Ty.mixed Tryz.func141 rfl Ty.hb_141 (by rw[Tryz.ntmps141];simp) ?_
  rw[Tryz.ntmps141,Tryz.results141]
  repeat'(first|refine a_seq fun K hK=>?_|(refine a_regionS ?_;simp(maxSteps:=2000000) only[Ty.w,simprocAttr])|(refine hK _ _ ?_;clear hK;try simp only[pst0,simprocAttr]))
  refine owp_useQ (hn _) (by(try simp only[Ty.w,simprocAttr,Bool.not_true]);try rfl) ?_;simp(maxSteps:=2000000) only[Ty.w,simprocAttr,Bool.not_true]
  repeat'(first|(with_reducible refine a_hold 4 ?_)|refine a_seq fun K hK=>?_|(refine a_regionS ?_;simp(maxSteps:=2000000) only[Ty.w,simprocAttr,Bool.not_true])|(refine a_skip ?_;try simp only[pst0,simprocAttr])|(refine a_cond _ (by(try simp(maxSteps:=2000000) only[Ty.w,simprocAttr,Bool.not_true]);rfl) (fun hb=>?_) (fun hb=>?_)<;>(try simp only[hb0,decide_eq_true_eq,decide_eq_false_iff_not,simprocAttr]at hb)<;>(try(exfalso;omega)))|(refine hK _ _ ?_;clear hK;try simp only[pst0,simprocAttr]))
  refine⟨?_⟩
  refine a_heap (GrI h h.next (h.next+1) (h.next+2) 2 2 1 atZ [sPV w] [] []) ?_ (fun H0 hI=>?_)
  ·exact GrI.mk2 (p:= .sc (.slice none 0 0)) ((((Grow.refl h).new _).new _).set (by simp[Heap.new]) _) (by simp[Heap.new,Heap.set]) (by simp[Heap.new,Heap.set]) (by simp[Heap.new,Heap.set]) Tl.nil
  repeat'(first|refine a_seq fun K hK=>?_|(refine a_block ?_)|(refine a_regionS ?_;simp(maxSteps:=2000000) only[Ty.w,simprocAttr,hll])|(refine hK _ _ ?_;clear hK;try simp only[pst0,simprocAttr]))
  refine a_loop (fun m S h'=>S 4= .ptr h.next 0 0∧S 6= .ptr (h.next+1) 0 0∧S 16= .imm 6 (Sx.rows l)∧S 17= .sc (.int .i64 l.length)∧ ∃ (k:Nat)(pre:List ByteArray),S 18= .sc (.int .i64 k)∧k≤l.length∧m=l.length-k∧pre.length=k∧GrI h h.next (h.next+1) (h.next+2) 2 2 1 atZ [sPV w] [] (strRows pre) h'∧
   F=(match namesM (l.drop k)with|(t,c)=>bif c==0 then(⟨w,pre++t⟩,0)else(zeroAt,c))) l.length ?_ ?_
  ·simp only[Ty.w,simprocAttr]
   refine⟨0,[],rfl,by omega,rfl,rfl,hI,?_⟩
   rw[List.drop_zero, ← hF]
   try rfl
  ·clear hI hF
   rintro m S h' ⟨g4,g6,g16,g17,k,pre,g18,hk,rfl,hpl,hI,hinv⟩
   by_cases hlt:k<l.length
   ·have hd:decide ((k:Int)<(l.length:Int))=true:=by simp;omega
    have w7:IntKind.i64.wrap ((k:Int)+1)=k+1:=by rw[wrap64 (by omega) (by omega)]
    obtain⟨x,hx⟩: ∃ x,l[k]? =some x:=⟨_,List.getElem?_eq_getElem hlt⟩
    have hr:=Sx.rows_get hx
    have hxk:=hok x (List.mem_of_getElem? hx)
    rw[drop_of_get hx]at hinv
    simp only[namesM]at hinv
    obtain⟨ki,va,li,co,te,ks⟩:=x
    simp only[Sx.ok]at hxk
    have hte:te.size≤9223372036854775807:=by have:=hxk.2.2.1;unfold bigN at this;omega
    clear hxk
    simp only[Sx.cells]at hr
    simp only[kindOf,textOf]at hinv
    repeat'(first|(with_reducible refine a_hold 7 ?_)|refine a_seq fun K hK=>?_|(refine a_regionS ?_;simp(maxSteps:=2000000) only[Ty.w,simprocAttr,g4,g6,g16,g17,g18,hd,hr])|(refine a_skip ?_;try simp only[pst0,simprocAttr])|(refine a_cond _ (by(try simp(maxSteps:=2000000) only[Ty.w,simprocAttr,g4,g6,g16,g17,g18,hd,hr]);rfl) (fun hb=>?_) (fun hb=>?_)<;>(try simp only[hb0,decide_eq_true_eq,decide_eq_false_iff_not,simprocAttr]at hb)<;>(try(exfalso;omega)))|(refine hK _ _ ?_;clear hK;try simp only[pst0,simprocAttr]))
    refine⟨?_⟩
    refine a_tmp 8 rfl (by simp only[Ty.w,simprocAttr]) (sx_frz' · · ki va li co te ks) ?_
    refine a_gen (fun S H=>S 4= .ptr h.next 0 0∧S 6= .ptr (h.next+1) 0 0∧S 16= .imm 6 (Sx.rows l)∧S 17= .sc (.int .i64 l.length)∧S 18= .sc (.int .i64 k)∧S 8= .cptr [.sc (.int .i64 ki),.sc (.int .i64 va),.sc (.int .i64 li),.sc (.int .i64 co),sPV te,.imm 6 (Sx.rows ks)]∧GrI h h.next (h.next+1) (h.next+2) 2 2 1 atZ [sPV w] [] (strRows pre) H) ⟨by simp only[Ty.w,simprocAttr,g4],by simp only[Ty.w,simprocAttr,g6],by simp only[Ty.w,simprocAttr,g16],by simp only[Ty.w,simprocAttr,g17],by simp only[Ty.w,simprocAttr,g18],by simp only[Ty.w,simprocAttr],hI.tmp _ _⟩ ?_
    clear hI g4 g6 g16 g17 g18 hr hd
    rintro S h' ⟨g4,g6,g16,g17,g18,g8,hI⟩
    obtain⟨hg,ids,o1,p,H,o2,tl,t1,t2,t3,t4,hgH,hpc,hp1⟩:=hI
    simp only[List.cons_append,List.nil_append]at o2
    cases q2:(ki !=1)with
    |true=>
     rw[show(ki==1)=false by simpa using q2]at hinv
     simp only[cond_false]at hinv
     repeat'(first|refine a_seq fun K hK=>?_|((first|refine a_regionS ?_|refine a_ret ?_);simp(maxSteps:=2000000) only[Ty.w,simprocAttr,g4,g6,g8,g16,g17,g18,q2,o1])|(refine hK _ _ ?_;clear hK;try simp only[pst0,simprocAttr]))
     exact⟨bad 2 _ (.inl rfl) hinv,hg.set (Nat.le_refl _) _⟩
    |false=>
     rw[show(ki==1)=true by simpa using q2]at hinv
     simp only[cond_true]at hinv
     have hc:=fun h:Heap=>fname_c (h:=h) hte
     generalize nameB te=b at hc hinv
     cases b with
     |false=>
      simp only[cond_false]at hinv
      repeat'(first|refine a_seq fun K hK=>?_|(refine a_regionS ?_;simp(maxSteps:=2000000) only[Ty.w,simprocAttr,g4,g6,g8,g16,g17,g18,q2])|(refine a_skip ?_;try simp only[pst0,simprocAttr])|(refine a_cond _ (by(try simp(maxSteps:=2000000) only[Ty.w,simprocAttr,g4,g6,g8,g16,g17,g18,q2]);rfl) (fun hb=>?_) (fun hb=>?_)<;>(try simp only[hb0,decide_eq_true_eq,decide_eq_false_iff_not,simprocAttr]at hb)<;>(try(exfalso;omega)))|(refine hK _ _ ?_;clear hK;try simp only[pst0,simprocAttr]))
      refine owp_useQ (hc _) (by(try simp only[Ty.w,simprocAttr,g4,g6,g8,g16,g17,g18,Bool.not_false]);try rfl) ?_;simp(maxSteps:=2000000) only[Ty.w,simprocAttr,g4,g6,g8,g16,g17,g18,Bool.not_false]
      repeat'(first|refine a_seq fun K hK=>?_|((first|refine a_regionS ?_|refine a_ret ?_);simp(maxSteps:=2000000) only[Ty.w,simprocAttr,g4,g6,g8,g16,g17,g18,Bool.not_false,o1])|(refine hK _ _ ?_;clear hK;try simp only[pst0,simprocAttr]))
      exact⟨bad 8 _ (.inr rfl) hinv,hg.set (Nat.le_refl _) _⟩
     |true=>
      simp only[cond_true]at hinv
      have hpr:(strRows pre).length=k:=by rw[strRows_len];exact hpl
      have hb:(k+1)*16≤140737488355328:=by omega
      have n2:(h.next+1=H.next)=False:=by simp;omega
      have n3:(h.next+1=h'.next)=False:=by simp;omega
      have o2H:H.obj (h.next+1)=_:=(t4 _ (by omega)).trans o2
      have hpush:=GrI.push (m:=k+1) (zo:=2) (zl:=1) (pre:=[sPV w]) (post:=[]) (R:=strRows pre) [sPV te] hgH ids o1 t3 t4 (by omega)
      have hap:strRows pre++[[sPV te]]=strRows (pre++[te]):=by simp[strRows]
      simp only[hap,List.cons_append,List.nil_append]at hpush
      have hap2:strRows pre++[[PV.sc (.string te)]]=strRows (pre++[te]):=hap
      have W:=And.intro g4 (And.intro g6 (And.intro g8 (And.intro g16 (And.intro g17 (And.intro g18 (And.intro o2 (And.intro o2H (And.intro n2 (And.intro n3 (And.intro t1 (And.intro t2 (And.intro t3 (And.intro hpr (And.intro hpc (And.intro hp1 (And.intro hb (And.intro hap2 w7)))))))))))))))))
      repeat'(first|refine a_seq fun K hK=>?_|(refine a_regionS ?_;simp(maxSteps:=2000000) only[Ty.w,simprocAttr,W,q2])|(refine a_skip ?_;try simp only[pst0,simprocAttr])|(refine a_cond _ (by(try simp(maxSteps:=2000000) only[Ty.w,simprocAttr,W,q2]);rfl) (fun hb=>?_) (fun hb=>?_)<;>(try simp only[hb0,decide_eq_true_eq,decide_eq_false_iff_not,simprocAttr]at hb)<;>(try(exfalso;omega)))|(refine hK _ _ ?_;clear hK;try simp only[pst0,simprocAttr]))
      refine owp_useQ (hc _) (by(try simp only[Ty.w,simprocAttr,W,Bool.not_true]);try rfl) ?_;simp(maxSteps:=2000000) only[Ty.w,simprocAttr,W,Bool.not_true]
      repeat'(first|((first|refine a_regionS ?_|refine a_region (fun K hK=>?_));simp(maxSteps:=2000000) only[Ty.w,simprocAttr,W,Bool.not_true])|(refine a_skip ?_;try simp only[pst0,simprocAttr])|(refine a_cond _ (by(try simp(maxSteps:=2000000) only[Ty.w,simprocAttr,W,Bool.not_true]);rfl) (fun hb=>?_) (fun hb=>?_)<;>(try simp only[hb0,decide_eq_true_eq,decide_eq_false_iff_not,simprocAttr]at hb)<;>(try(exfalso;omega)))|(refine hK _ _ ?_;clear hK;try simp only[pst0,simprocAttr])|(rw[if_pos];rotate_left 1;omega;simp(maxSteps:=2000000) only[Ty.w,simprocAttr,W,Bool.not_true]))
      refine⟨l.length-(k+1),by omega,k+1,pre++[te],by simp,by omega,rfl,by simp[hpl],hpush,?_⟩
      rw[hinv]
      generalize namesM (List.drop (k+1) l)=W
      obtain⟨t,c⟩:=W
      cases hq:c==0 with
      |false=>simp only[hq,cond_false]
      |true=>simp only[hq,cond_true,beq_self_eq_true,List.append_assoc,List.cons_append,List.nil_append]
   ·have hd:decide ((k:Int)<(l.length:Int))=false:=by simp;omega
    rw[List.drop_eq_nil_of_le (by omega)]at hinv
    simp only[namesM,beq_self_eq_true,cond_true,List.append_nil]at hinv
    subst hinv
    obtain⟨hg,ids,o1,p,H,o2,tl,t1,t2,t3,t4,hgH,hpc,hp1⟩:=hI
    simp only[List.cons_append,List.nil_append]at o2
    have n2:(h.next+1=h.next)=False:=by simp
    repeat'(first|refine a_seq fun K hK=>?_|((first|refine a_regionS ?_|refine a_ret ?_);simp(maxSteps:=2000000) only[Ty.w,simprocAttr,g4,g6,g16,g17,g18,hd,o1,o2,n2,hpc,hp1])|(refine a_exit ?_;try simp only[pst0,simprocAttr])|(refine a_cond _ (by(try simp(maxSteps:=2000000) only[Ty.w,simprocAttr,g4,g6,g16,g17,g18,hd,o1,o2,n2,hpc,hp1]);rfl) (fun hb=>?_) (fun hb=>?_)<;>(try simp only[hb0,decide_eq_true_eq,decide_eq_false_iff_not,simprocAttr]at hb)<;>(try(exfalso;omega)))|((first|refine hK _ _ ?_|(clear hK;refine hK _ _ ?_));clear hK;try simp only[pst0,simprocAttr]))
    refine⟨?_,hg.set (Nat.le_refl _) _⟩
    have tl2:Tl (h'.set h.next (.arr 2 [[sPV w,p]])) (h.next+2) 1 p (strRows pre):=tl.up (Nat.le_refl _) fun j hj _=>by simp only[Heap.set];rw[if_neg (by omega)]
    simp only[atRow,errP,beq_self_eq_true,cond_true,FrzTo,FrzL]
    exact⟨_,rfl,⟨_,rfl,rfl,by have:=tl_frzS (Tl.low tl2 (show h.next≤h.next+2 by omega));simpa only[FrzTo]using this,trivial⟩,rfl,trivial⟩
end Go.Proofs.YtjeolbgpllbemaaGreat
namespace Go.Proofs.YtjeolbgpllbemaaGreat
open Go.AM
set_option maxHeartbeats 8000000
set_option maxRecDepth 20000
def fmBody(w:ByteArray)(rest:List Sx):Fm × Int:=
 bif isQ w then(match rest with
  |[]=>(zeroFm,2)
  |p::body=>bif kindOf p==3 then(bif (paramsP true (kidsOf p)).2==0 then(match fmPs body with
    |(ks,c)=>bif c==0 then(.mk w ⟨#[]⟩ [] (paramsP true (kidsOf p)).1 [] ks,0)else(zeroFm,c))
   else(zeroFm,(paramsP true (kidsOf p)).2))else(zeroFm,2))
 else bif isLst w then(match fmPs rest with
  |(ks,c)=>bif c==0 then(.mk w ⟨#[]⟩ [] [] [] ks,0)else(zeroFm,c))
 else bif isCmp5 w then(match rest with
  |[a,b]=>fin (compareP w a b)
  |_=>(zeroFm,2))
 else bif nameB w then(bif (termsM rest).2==0 then(.mk opAtom w (termsM rest).1 [] [] [],0)else(zeroFm,(termsM rest).2))
 else(zeroFm,8)
theorem fmP_head(x:Sx):fmP x=(bif kindOf x==3&&(kidsOf x).isEmpty then(.mk opAnd ⟨#[]⟩ [] [] [] [],0)else(match headM x with
  |none=>(zeroFm,2)
  |some (w,rest)=>bif decide (countW w≥0)&&!(decide (countW w=rest.length))then(zeroFm,2)else fmBody w rest)):=by
 obtain⟨kind,value,line,col,text,kids⟩:=x
 conv=>lhs;unfold fmP
 have kk:kindOf (.mk kind value line col text kids)=kind:=rfl
 have k5:kidsOf (.mk kind value line col text kids)=kids:=rfl
 rw[kk,k5]
 simp only[headM]
 by_cases h3:kind=3
 ·rw [if_pos h3,if_pos h3]
  cases kids with
  |nil=>simp[h3]
  |cons y rest=>
   simp only[List.isEmpty_cons,Bool.and_false,cond_false]
   cases hk:kindOf y==1<;>simp only[hk,cond_true,cond_false]<;>rfl
 ·rw [if_neg h3,if_neg h3]
  rw[show(kind==3)=false by simpa using h3]
  try rfl
theorem count_two{w:ByteArray}{n:Nat}(hw:isQ w=true∨isCmp5 w=true)(hc:(decide (countW w≥0)&&!(decide (countW w=n)))=false):n=2:=by
 have:countW w=2:=by
  rw[countW_eq]
  unfold isQ isCmp5 isCmp at hw
  simp only[Bool.or_eq_true]at hw
  rcases hw with(h|h)|(((h|h)|h)|h)|h<;>(have h:=bEq_eq h;subst h;decide)
 rw[this]at hc
 simp at hc
 omega
def fmZ:AObj:= .arr 6 [[.sc (.string ⟨#[]⟩),.sc (.string ⟨#[]⟩),.sc (.slice none 0 0),.sc (.slice none 0 0),.sc (.slice none 0 0),.sc (.slice none 0 0)]]
structure PI(h:Heap)(w:ByteArray)(h':Heap):Prop where
 grow:Grow h h'
 nxt:h'.next=h.next+2
 o1:h'.obj h.next=some fmZ
 o2:h'.obj (h.next+1)=some (.arr 6 [[sPV w,.sc (.string ⟨#[]⟩),.sc (.slice none 0 0),.sc (.slice none 0 0),.sc (.slice none 0 0),.sc (.slice none 0 0)]])
def PJ(h:Heap)(F:Fm × Int)(S:Slots)(h':Heap):Prop:=S 2= .ptr h.next 0 0∧S 8= .ptr (h.next+1) 0 0∧Grow h h'∧ ∃ (c:Int)(a b:ByteArray)(p2 p3 p4 p5:PV),S 9=errP c∧h'.obj h.next=some fmZ∧h'.obj (h.next+1)=some (.arr 6 [[sPV a,sPV b,p2,p3,p4,p5]])∧
 (oneC p2=true∧oneC p3=true∧oneC p4=true∧oneC p5=true)∧((c==0)=false→F=(zeroFm,c))∧((c==0)=true→F.2=0∧ ∀ hh,FrzL h.next hh F.1.cells [sPV a,sPV b,p2,p3,p4,p5])
theorem PJ.mk2{h h':Heap}{w:ByteArray}{F:Fm × Int}{S:Slots}(hp:PI h w h')(c:Int)(a b:ByteArray)(p2 p3 p4 p5:PV)(g2:S 2= .ptr h.next 0 0)(g8:S 8= .ptr (h.next+1) 0 0)(g9:S 9=errP c)
  (ho:oneC p2=true∧oneC p3=true∧oneC p4=true∧oneC p5=true)(hc:(c==0)=false→F=(zeroFm,c))(hd:(c==0)=true→F.2=0∧ ∀ hh,FrzL h.next hh F.1.cells [sPV a,sPV b,p2,p3,p4,p5]):
  PJ h F S (h'.set (h.next+1) (.arr 6 [[sPV a,sPV b,p2,p3,p4,p5]])):=by
 refine⟨g2,g8,hp.grow.set (Nat.le_succ _) _,c,a,b,p2,p3,p4,p5,g9,?_,by simp[Heap.set],ho,hc,hd⟩
 simp only[Heap.set]
 rw[if_neg (by omega)]
 exact hp.o1
theorem errRet{h h':Heap}{c:Int}{F:Fm × Int}(hc:c=2∨c=8)(hg:Grow h h')(hF:F=(zeroFm,c)):
  FrzTo h.next h' (.tup [.agg F.1.cells,errP F.2]) (.tup [.agg [.sc (.string ⟨#[]⟩),.sc (.string ⟨#[]⟩),.sc (.slice none 0 0),.sc (.slice none 0 0),.sc (.slice none 0 0),.sc (.slice none 0 0)],errV c])∧Grow h h':=by
 subst hF
 have:errP c=errV c:=by rcases hc with rfl|rfl<;>rfl
 simp only[this]
 refine⟨?_,hg⟩
 simp only[errV,zeroFm,Fm.cells,Ex.rows,Fm.rows,pmRows,strRows,List.map_nil,FrzTo,FrzL]
 exact⟨_,rfl,⟨_,rfl,rfl,rfl,.inr (.inl ⟨rfl,.inr rfl⟩),.inr (.inl ⟨rfl,.inr rfl⟩),.inr (.inl ⟨rfl,.inr rfl⟩),.inr (.inl ⟨rfl,.inr rfl⟩),trivial⟩,rfl,trivial⟩
end Go.Proofs.YtjeolbgpllbemaaGreat
namespace Go.Proofs.YtjeolbgpllbemaaGreat
open Go.AM
set_option maxHeartbeats 8000000
set_option maxRecDepth 20000
theorem parse_step{kind value line col:Int}{text:ByteArray}{kids:List Sx}(hok:(Sx.mk kind value line col text kids).ok)(hsm:(Sx.mk kind value line col text kids).small)
  (ih: ∀ x∈kids, ∀ h:Heap,PCall Tryz.prog 142 [.agg x.cells] h fun r h'=>r= .tup [.agg (fmP x).1.cells,errP (fmP x).2]∧h'=h)(h:Heap):
  PCall Tryz.prog 142 [.agg (Sx.mk kind value line col text kids).cells] h fun r h'=>r= .tup [.agg (fmP (.mk kind value line col text kids)).1.cells,errP (fmP (.mk kind value line col text kids)).2]∧h'=h:=by
 refine PCall.frz Ty.hb_142 ?_
 have hok':=hok
 simp only[Sx.ok]at hok'
 obtain⟨_,_,_,hkl,hks⟩:=hok'
 rw[Sx.oks_iff]at hks
 simp only[Sx.small]at hsm
 obtain⟨hl,hss⟩:=hsm
 rw[Sx.smalls_iff]at hss
 have hh:=head_c hok
 have hX:=fmP_head (.mk kind value line col text kids)
 generalize fmP (.mk kind value line col text kids)=F at hX
 have hMo:=fun w rest e=>headM_ok (w:=w) (rest:=rest) hok e
 have hMr:=fun w rest e=>headM_rest (kind:=kind) (value:=value) (line:=line) (col:=col) (text:=text) (kids:=kids) (w:=w) (rest:=rest) e
 generalize headM (.mk kind value line col text kids)=M at hh hX hMo hMr
 have kk:kindOf (.mk kind value line col text kids)=kind:=rfl
 have k5:kidsOf (.mk kind value line col text kids)=kids:=rfl
 rw[kk,k5]at hX
 have hlk:=Sx.rows_len kids
 have hg1: ∀ r,Grow h ((h.new (.arr 6 [[.sc (.string ⟨#[]⟩),.sc (.string ⟨#[]⟩),.sc (.slice none 0 0),.sc (.slice none 0 0),.sc (.slice none 0 0),.sc (.slice none 0 0)]])).set h.next r):=fun r=>((Grow.refl h).new _).set (Nat.le_refl _) _
 refine pcall_body (ow:=fun _=>false) (wf:=fun _=>false) Ty.mixed Tryz.func142 rfl Ty.hb_142 (by rw[Tryz.ntmps142];simp) ?_
 rw[Tryz.ntmps142,Tryz.results142]
 simp only[Sx.cells]at hh⊢
 repeat'(first|(with_reducible refine a_hold 1 ?_)|refine a_seq fun K hK=>?_|(refine a_regionS ?_;simp(maxSteps:=2000000) only[Ty.w,simprocAttr])|(refine hK _ _ ?_;clear hK;try simp only[pst0,simprocAttr]))
 refine⟨?_⟩
 refine a_cut (fun S h'=>S 1= .cptr (Sx.mk kind value line col text kids).cells∧S 2= .ptr h.next 0 0∧h'=h.new fmZ∧(kind==3&&kids.isEmpty)=false) ?_ ?_
 ·clear hh
  simp only[Sx.cells,fmZ]
  cases k3:(kind==3)with
  |false=>
   repeat'(first|refine a_seq fun K hK=>?_|(refine a_regionS ?_;simp(maxSteps:=2000000) only[Ty.w,simprocAttr,k3])|(refine a_skip ?_;try simp only[pst0,simprocAttr])|(refine a_cond _ (by(try simp(maxSteps:=2000000) only[Ty.w,simprocAttr,k3]);rfl) (fun hb=>?_) (fun hb=>?_)<;>(try simp only[hb0,decide_eq_true_eq,decide_eq_false_iff_not,simprocAttr]at hb)<;>(try(exfalso;omega)))|(refine hK _ _ ?_;clear hK;try simp only[pst0,simprocAttr]))
   all_goals first|rfl|(simp only[Ty.w,simprocAttr,Bool.false_and];done)
  |true=>
   cases q:(((Sx.rows kids).length:Int)==0)with
   |false=>
    have q':kids.isEmpty=false:=by
     cases kids with
     |nil=>simp[Sx.rows]at q
     |cons _ _=>rfl
    repeat'(first|refine a_seq fun K hK=>?_|(refine a_regionS ?_;simp(maxSteps:=2000000) only[Ty.w,simprocAttr,k3,q])|(refine a_skip ?_;try simp only[pst0,simprocAttr])|(refine a_cond _ (by(try simp(maxSteps:=2000000) only[Ty.w,simprocAttr,k3,q]);rfl) (fun hb=>?_) (fun hb=>?_)<;>(try simp only[hb0,decide_eq_true_eq,decide_eq_false_iff_not,simprocAttr]at hb)<;>(try(exfalso;omega)))|(refine hK _ _ ?_;clear hK;try simp only[pst0,simprocAttr]))
    all_goals first|rfl|(simp only[Ty.w,simprocAttr,q',Bool.true_and];done)
   |true=>
    have q':kids.isEmpty=true:=by
     cases kids with
     |nil=>rfl
     |cons _ _=>simp[Sx.rows]at q;omega
    rw[k3,q']at hX
    simp only[Bool.and_self,cond_true]at hX
    subst hX
    repeat'(first|refine a_seq fun K hK=>?_|((first|refine a_regionS ?_|refine a_ret ?_);simp(maxSteps:=2000000) only[Ty.w,simprocAttr,k3,q])|(refine hK _ _ ?_;clear hK;try simp only[pst0,simprocAttr]))
    refine⟨?_,hg1 _⟩
    have e2:errP 0= .sc .nilIface:=rfl
    simp only[e2,opAnd,Fm.cells,Ex.rows,Fm.rows,pmRows,strRows,List.map_nil,FrzTo,FrzL]
    exact⟨_,rfl,⟨_,rfl,rfl,rfl,.inr (.inl ⟨rfl,.inr rfl⟩),.inr (.inl ⟨rfl,.inr rfl⟩),.inr (.inl ⟨rfl,.inr rfl⟩),.inr (.inl ⟨rfl,.inr rfl⟩),trivial⟩,rfl,trivial⟩
 ·rintro S h' ⟨g1,g2,rfl,hq⟩
  rw[hq]at hX
  simp only[cond_false]at hX
  simp only[Sx.cells]at g1
  simp only[fmZ]
  clear hq
  cases M with
  |none=>
   simp only at hX
   simp only[headV]at hh
   repeat'(first|refine a_seq fun K hK=>?_|(refine a_regionS ?_;simp(maxSteps:=2000000) only[Ty.w,simprocAttr,g1,g2]))
   refine owp_useQ (hh _) (by(try simp only[Ty.w,simprocAttr,g1,g2]);try rfl) ?_;simp(maxSteps:=2000000) only[Ty.w,simprocAttr,g1,g2]
   repeat'(first|refine a_seq fun K hK=>?_|((first|refine a_regionS ?_|refine a_ret ?_);simp(maxSteps:=2000000) only[Ty.w,simprocAttr,g1,g2,Bool.not_false])|(refine hK _ _ ?_;clear hK;try simp only[pst0,simprocAttr]))
   exact errRet (.inl rfl) (hg1 _) hX
  |some wr=>
   obtain⟨w,rest⟩:=wr
   obtain⟨hw,hro⟩:=hMo w rest rfl
   obtain⟨y0,hy0⟩:=hMr w rest rfl
   have hrl:rest.length≤1048576:=by rw[hy0]at hl;simp at hl;omega
   have ihr: ∀ x∈rest, ∀ h:Heap,PCall Tryz.prog 142 [.agg x.cells] h fun r h'=>r= .tup [.agg (fmP x).1.cells,errP (fmP x).2]∧h'=h:=fun x hx=>ih x (by rw[hy0];simp[hx])
   have hsr: ∀ x∈rest,x.small:=fun x hx=>hss x (by rw[hy0];simp[hx])
   clear ih hMo hMr hks hss hl hkl hlk hy0 y0
   simp only at hX
   simp only[headV]at hh
   have hlr:=Sx.rows_len rest
   repeat'(first|(with_reducible refine a_hold 6 ?_)|refine a_seq fun K hK=>?_|(refine a_regionS ?_;simp(maxSteps:=2000000) only[Ty.w,simprocAttr,g1,g2]))
   refine owp_useQ (hh _) (by(try simp only[Ty.w,simprocAttr,g1,g2]);try rfl) ?_;simp(maxSteps:=2000000) only[Ty.w,simprocAttr,g1,g2]
   repeat'(first|(with_reducible refine a_hold 6 ?_)|refine a_seq fun K hK=>?_|(refine a_regionS ?_;simp(maxSteps:=2000000) only[Ty.w,simprocAttr,g1,g2,Bool.not_true])|(refine a_skip ?_;try simp only[pst0,simprocAttr])|(refine a_cond _ (by(try simp(maxSteps:=2000000) only[Ty.w,simprocAttr,g1,g2,Bool.not_true]);rfl) (fun hb=>?_) (fun hb=>?_)<;>(try simp only[hb0,decide_eq_true_eq,decide_eq_false_iff_not,simprocAttr]at hb)<;>(try(exfalso;omega)))|(refine hK _ _ ?_;clear hK;try simp only[pst0,simprocAttr]))
   refine⟨?_⟩
   refine a_cut (fun S h'=>S 2= .ptr h.next 0 0∧S 4=sPV w∧S 5= .imm 6 (Sx.rows rest)∧h'=h.new fmZ∧(decide (countW w≥0)&&!(decide (countW w=rest.length)))=false) ?_ ?_
   ·have hcn:=fun h:Heap=>count_c (h:=h) (op:=w)
    simp only[fmZ]
    generalize countW w=n at hcn hX
    cases c1:decide (n≥0)with
    |false=>
     repeat'(first|refine a_seq fun K hK=>?_|(refine a_regionS ?_;simp(maxSteps:=2000000) only[Ty.w,simprocAttr,g1,g2]))
     refine owp_useQ (hcn _) (by(try simp only[Ty.w,simprocAttr,g1,g2]);try rfl) ?_;simp(maxSteps:=2000000) only[Ty.w,simprocAttr,g1,g2]
     repeat'(first|refine a_seq fun K hK=>?_|(refine a_regionS ?_;simp(maxSteps:=2000000) only[Ty.w,simprocAttr,g1,g2,c1])|(refine a_skip ?_;try simp only[pst0,simprocAttr])|(refine a_cond _ (by(try simp(maxSteps:=2000000) only[Ty.w,simprocAttr,g1,g2,c1]);rfl) (fun hb=>?_) (fun hb=>?_)<;>(try simp only[hb0,decide_eq_true_eq,decide_eq_false_iff_not,simprocAttr]at hb)<;>(try(exfalso;omega)))|(refine hK _ _ ?_;clear hK;try simp only[pst0,simprocAttr]))
     all_goals first|rfl|(simp only[Ty.w,simprocAttr,g2,Bool.false_and];done)
    |true=>
     cases c2:(n !=(rest.length:Int))with
     |false=>
      have c2':decide (n=(rest.length:Int))=true:=by simpa using c2
      repeat'(first|refine a_seq fun K hK=>?_|(refine a_regionS ?_;simp(maxSteps:=2000000) only[Ty.w,simprocAttr,g1,g2]))
      refine owp_useQ (hcn _) (by(try simp only[Ty.w,simprocAttr,g1,g2]);try rfl) ?_;simp(maxSteps:=2000000) only[Ty.w,simprocAttr,g1,g2]
      repeat'(first|refine a_seq fun K hK=>?_|(refine a_regionS ?_;simp(maxSteps:=2000000) only[Ty.w,simprocAttr,g1,g2,c1,hlr,c2])|(refine a_skip ?_;try simp only[pst0,simprocAttr])|(refine a_cond _ (by(try simp(maxSteps:=2000000) only[Ty.w,simprocAttr,g1,g2,c1,hlr,c2]);rfl) (fun hb=>?_) (fun hb=>?_)<;>(try simp only[hb0,decide_eq_true_eq,decide_eq_false_iff_not,simprocAttr]at hb)<;>(try(exfalso;omega)))|(refine hK _ _ ?_;clear hK;try simp only[pst0,simprocAttr]))
      all_goals first|rfl|(simp only[Ty.w,simprocAttr,g2,c2',Bool.true_and,Bool.not_true];done)
     |true=>
      have c2':decide (n=(rest.length:Int))=false:=by simpa using c2
      rw[c1,c2']at hX
      simp only[Bool.not_false,Bool.and_self,cond_true]at hX
      repeat'(first|refine a_seq fun K hK=>?_|(refine a_regionS ?_;simp(maxSteps:=2000000) only[Ty.w,simprocAttr,g1,g2]))
      refine owp_useQ (hcn _) (by(try simp only[Ty.w,simprocAttr,g1,g2]);try rfl) ?_;simp(maxSteps:=2000000) only[Ty.w,simprocAttr,g1,g2]
      repeat'(first|refine a_seq fun K hK=>?_|((first|refine a_regionS ?_|refine a_ret ?_);simp(maxSteps:=2000000) only[Ty.w,simprocAttr,g1,g2,c1,hlr,c2])|(refine hK _ _ ?_;clear hK;try simp only[pst0,simprocAttr]))
      exact errRet (.inl rfl) (hg1 _) hX
   ·clear g1 g2 hh
    rintro S h' ⟨g2,g4,g5,rfl,hcnt⟩
    rw[hcnt]at hX
    simp only[cond_false]at hX
    simp only[fmZ]
    have n1:(h.next=h.next+1)=False:=by simp
    repeat'(first|(with_reducible refine a_hold 11 ?_)|refine a_seq fun K hK=>?_|(refine a_regionS ?_;simp(maxSteps:=2000000) only[Ty.w,simprocAttr,g2,g4,g5])|(refine hK _ _ ?_;clear hK;try simp only[pst0,simprocAttr]))
    refine⟨?_⟩
    refine a_gen (fun S h'=>S 2= .ptr h.next 0 0∧S 4=sPV w∧S 5= .imm 6 (Sx.rows rest)∧S 8= .ptr (h.next+1) 0 0∧S 9= .sc .nilIface∧PI h w h') ?_ ?_
    ·simp only[Ty.w,simprocAttr,g2,g4,g5]
     refine⟨(((Grow.refl h).new _).new _).set (Nat.le_succ _) _,rfl,?_,?_⟩
     ·simp [Heap.new,Heap.set,fmZ]
     ·simp [Heap.new,Heap.set]
    ·clear g2 g4 g5
     rintro S h' ⟨g2,g4,g5,g8,g9,hpi⟩
     refine a_cut (PJ h F) ?_ ?_
     ·have o1:=hpi.o1
      have o2:=hpi.o2
      simp only[fmZ]at o1
      have hN:=hpi.nxt
      have n1:(h.next=h.next+1)=False:=by simp
      have n2:(h.next+1=h.next)=False:=by simp
      have hz2:errP 0= .sc .nilIface:=rfl
      repeat'(refine a_hold 16 ?_)
      refine⟨?_⟩
      refine a_cut (fun S h2=>h2=h'∧S 2= .ptr h.next 0 0∧S 4=sPV w∧S 5= .imm 6 (Sx.rows rest)∧S 8= .ptr (h.next+1) 0 0∧S 9= .sc .nilIface∧S 44=sPV w∧S 59= .sc (.bool (isQ w))) ?_ ?_
      ·cases u1:(w.data.toList==(#[102,111,114,97,108,108]:Array UInt8).toList)with
       |true=>
        have hq:isQ w=true:=by unfold isQ;simp[show bEq w opAll=true from u1]
        rw[hq]
        repeat'(first|refine a_seq fun K hK=>?_|(refine a_regionS ?_;simp(maxSteps:=2000000) only[Ty.w,simprocAttr,g2,g4,g5,g8,g9,u1])|(refine a_skip ?_;try simp only[pst0,simprocAttr])|(refine a_cond _ (by(try simp(maxSteps:=2000000) only[Ty.w,simprocAttr,g2,g4,g5,g8,g9,u1]);rfl) (fun hb=>?_) (fun hb=>?_)<;>(try simp only[hb0,decide_eq_true_eq,decide_eq_false_iff_not,simprocAttr]at hb)<;>(try(exfalso;omega)))|(refine hK _ _ ?_;clear hK;try simp only[pst0,simprocAttr]))
        all_goals first|rfl|(simp only[Ty.w,simprocAttr,g2,g4,g5,g8,g9];done)
       |false=>
        cases u2:(w.data.toList==(#[101,120,105,115,116,115]:Array UInt8).toList)with
        |true=>
         have hq:isQ w=true:=by unfold isQ;simp[show bEq w opAll=false from u1,show bEq w opSome=true from u2]
         rw[hq]
         repeat'(first|refine a_seq fun K hK=>?_|(refine a_regionS ?_;simp(maxSteps:=2000000) only[Ty.w,simprocAttr,g2,g4,g5,g8,g9,u1,u2])|(refine a_cond _ (by(try simp(maxSteps:=2000000) only[Ty.w,simprocAttr,g2,g4,g5,g8,g9,u1,u2]);rfl) (fun hb=>?_) (fun hb=>?_)<;>(try simp only[hb0,decide_eq_true_eq,decide_eq_false_iff_not,simprocAttr]at hb)<;>(try(exfalso;omega)))|(refine hK _ _ ?_;clear hK;try simp only[pst0,simprocAttr]))
         all_goals first|rfl|(simp only[Ty.w,simprocAttr,g2,g4,g5,g8,g9];done)
        |false=>
         have hq:isQ w=false:=by unfold isQ;simp[show bEq w opAll=false from u1,show bEq w opSome=false from u2]
         rw[hq]
         repeat'(first|refine a_seq fun K hK=>?_|(refine a_regionS ?_;simp(maxSteps:=2000000) only[Ty.w,simprocAttr,g2,g4,g5,g8,g9,u1,u2])|(refine a_cond _ (by(try simp(maxSteps:=2000000) only[Ty.w,simprocAttr,g2,g4,g5,g8,g9,u1,u2]);rfl) (fun hb=>?_) (fun hb=>?_)<;>(try simp only[hb0,decide_eq_true_eq,decide_eq_false_iff_not,simprocAttr]at hb)<;>(try(exfalso;omega)))|(refine hK _ _ ?_;clear hK;try simp only[pst0,simprocAttr]))
         all_goals first|rfl|(simp only[Ty.w,simprocAttr,g2,g4,g5,g8,g9];done)
      ·clear g2 g4 g5 g8 g9
       rintro S h' ⟨rfl,g2,g4,g5,g8,g9,g44,g59⟩
       cases hQ:isQ w with
       |true=>
        rw[hQ]at g59
        simp only[fmBody,hQ,cond_true]at hX
        obtain⟨p,b,rfl⟩: ∃ p b,rest=[p,b]:=by
         have h2:=count_two (.inl hQ) hcnt
         match rest,h2 with
         |[p,b],_=>exact⟨p,b,rfl⟩
        simp only at hX
        have hpo:=hro p (by simp)
        have hps:=hsr p (by simp)
        have hck:=fun h=>kids_c (l:=[b]) (by simp) (fun x hx=>ihr x (by simp at hx⊢;exact .inr hx)) h
        obtain⟨pk,pv,pl,pc,pt,pks⟩:=p
        simp only[kindOf,kidsOf]at hX
        simp only[Sx.ok]at hpo
        simp only[Sx.small]at hps
        have hcp:=fun h=>parseParams_c (vars:=true) (l:=pks) hps.1 (Sx.oks_iff.1 hpo.2.2.2.2) h
        have r0:=Sx.rows_get (l:=[.mk pk pv pl pc pt pks,b]) (i:=0) rfl
        have hq1:(1:Int)≤((Sx.rows [.mk pk pv pl pc pt pks,b]).length:Int):=by rw[hlr];simp
        have ht:List.take (((Sx.rows [.mk pk pv pl pc pt pks,b]).length:Int)-1).toNat (List.drop 1 (Sx.rows [.mk pk pv pl pc pt pks,b]))=Sx.rows [b]:=by rw[hlr];try rfl
        generalize Sx.rows [.mk pk pv pl pc pt pks,b]=R at g5 r0 hq1 ht hlr
        generalize Sx.rows [b]=R1 at ht hck
        simp only[Sx.cells]at r0
        cases q3:(pk !=3)with
        |true=>
         rw[show(pk==3)=false by simpa using q3]at hX
         simp only[cond_false]at hX
         repeat'(first|refine a_seq fun K hK=>?_|((first|refine a_regionS ?_|refine a_ret ?_);simp(maxSteps:=2000000) only[Ty.w,simprocAttr,g2,g4,g5,g8,g9,g44,g59,r0,q3,o1,o2])|(refine a_cond _ (by(try simp(maxSteps:=2000000) only[Ty.w,simprocAttr,g2,g4,g5,g8,g9,g44,g59,r0,q3,o1,o2]);rfl) (fun hb=>?_) (fun hb=>?_)<;>(try simp only[hb0,decide_eq_true_eq,decide_eq_false_iff_not,simprocAttr]at hb)<;>(try(exfalso;omega)))|(refine hK _ _ ?_;clear hK;try simp only[pst0,simprocAttr]))
         exact errRet (.inl rfl) (hpi.grow.set (Nat.le_refl _) _) hX
        |false=>
         rw[show(pk==3)=true by simpa using q3]at hX
         simp only[cond_true]at hX
         generalize paramsP true pks=PP at hcp hX
         obtain⟨pms,c⟩:=PP
         simp only at hcp hX
         cases hc:c==0 with
         |false=>
          rw[hc]at hX
          simp only[cond_false]at hX
          have e0:errP c=errV c:=by simp only[errP,hc,cond_false]
          rw[e0]at hcp
          simp only[errV]at hcp e0
          repeat'(first|refine a_seq fun K hK=>?_|(refine a_regionS ?_;simp(maxSteps:=2000000) only[Ty.w,simprocAttr,g2,g4,g5,g8,g9,g44,g59,r0,q3,o1,o2])|(refine a_skip ?_;try simp only[pst0,simprocAttr])|(refine a_cond _ (by(try simp(maxSteps:=2000000) only[Ty.w,simprocAttr,g2,g4,g5,g8,g9,g44,g59,r0,q3,o1,o2]);rfl) (fun hb=>?_) (fun hb=>?_)<;>(try simp only[hb0,decide_eq_true_eq,decide_eq_false_iff_not,simprocAttr]at hb)<;>(try(exfalso;omega)))|(refine hK _ _ ?_;clear hK;try simp only[pst0,simprocAttr]))
          refine owp_useQ (hcp _) (by(try simp only[Ty.w,simprocAttr,g2,g4,g5,g8,g9,g44,r0,o1,o2,n1,n2,set_set]);try rfl) ?_;simp(maxSteps:=2000000) only[Ty.w,simprocAttr,g2,g4,g5,g8,g9,g44,r0,o1,o2,n1,n2,set_set]
          repeat'(first|refine a_seq fun K hK=>?_|(refine a_block ?_)|(refine a_regionS ?_;simp(maxSteps:=2000000) only[Ty.w,simprocAttr,g2,g4,g5,g8,g9,g44,r0,o1,o2,n1,n2])|(refine a_skip ?_;try simp only[pst0,simprocAttr])|(refine hK _ _ ?_;clear hK;try simp only[pst0,simprocAttr]))
          refine PJ.mk2 hpi c w ⟨#[]⟩ _ _ _ _ ?_ ?_ ?_ ?_ ?_ ?_
          ·simp only[Ty.w,simprocAttr,g2]
          ·simp only[Ty.w,simprocAttr,g8]
          ·simp only[Ty.w,simprocAttr];first|exact e0.symm|rfl
          ·exact ⟨rfl,rfl,rfl,rfl⟩
          ·exact fun _=>hX
          ·intro hh;rw[hc]at hh;exact absurd hh (by simp)
         |true=>
          rw[hc]at hX
          simp only[cond_true]at hX
          have e0:errP c= .sc .nilIface:=by simp only[errP,hc,cond_true]
          rw[e0]at hcp
          clear e0
          generalize fmPs [b]=KK at hck hX
          obtain⟨ks,c2⟩:=KK
          simp only at hck hX
          cases hc2:c2==0 with
          |false=>
           rw[hc2]at hX
           simp only[cond_false]at hX
           have e0:errP c2=errV c2:=by simp only[errP,hc2,cond_false]
           rw[e0]at hck
           simp only[errV]at hck e0
           have W:=And.intro g2 (And.intro g4 (And.intro g5 (And.intro g8 (And.intro g9 (And.intro g44 (And.intro r0 (And.intro o1 (And.intro n1 (And.intro o2 (And.intro n2 (And.intro hq1 ht)))))))))))
           repeat'(first|refine a_seq fun K hK=>?_|(refine a_regionS ?_;simp(maxSteps:=2000000) only[Ty.w,simprocAttr,W,g59,q3])|(refine a_skip ?_;try simp only[pst0,simprocAttr])|(refine a_cond _ (by(try simp(maxSteps:=2000000) only[Ty.w,simprocAttr,W,g59,q3]);rfl) (fun hb=>?_) (fun hb=>?_)<;>(try simp only[hb0,decide_eq_true_eq,decide_eq_false_iff_not,simprocAttr]at hb)<;>(try(exfalso;omega)))|(refine hK _ _ ?_;clear hK;try simp only[pst0,simprocAttr]))
           refine owp_useQ (hcp _) (by(try simp only[Ty.w,simprocAttr,W,set_set]);try rfl) ?_;simp(maxSteps:=2000000) only[Ty.w,simprocAttr,W,set_set]
           repeat'(first|refine a_seq fun K hK=>?_|(refine a_block ?_)|((first|refine a_regionS ?_|refine a_region (fun K hK=>?_));simp(maxSteps:=2000000) only[Ty.w,simprocAttr,W,Option.getD_some,Option.getD_none,Int.le_refl,Int.toNat_one])|(refine hK _ _ ?_;clear hK;try simp only[pst0,simprocAttr]))
           refine owp_useQ (hck _) (by(try simp only[Ty.w,simprocAttr,W,Option.getD_some,Option.getD_none,Int.le_refl,Int.toNat_one,set_set]);try rfl) ?_;simp(maxSteps:=2000000) only[Ty.w,simprocAttr,W,Option.getD_some,Option.getD_none,Int.le_refl,Int.toNat_one,set_set]
           repeat'(refine hK _ _ ?_;clear hK;try simp only[pst0,simprocAttr])
           try rw[set_set]
           refine PJ.mk2 hpi c2 w ⟨#[]⟩ _ _ _ _ ?_ ?_ ?_ ?_ ?_ ?_
           ·simp only[Ty.w,simprocAttr,g2]
           ·simp only[Ty.w,simprocAttr,g8]
           ·simp only[Ty.w,simprocAttr];first|exact e0.symm|rfl
           ·exact ⟨rfl,rfl,rfl,rfl⟩
           ·exact fun _=>hX
           ·intro hh;rw[hc2]at hh;exact absurd hh (by simp)
          |true=>
           rw[hc2]at hX
           simp only[cond_true]at hX
           have e0:errP c2= .sc .nilIface:=by simp only[errP,hc2,cond_true]
           rw[e0]at hck
           have W:=And.intro g2 (And.intro g4 (And.intro g5 (And.intro g8 (And.intro g9 (And.intro g44 (And.intro r0 (And.intro o1 (And.intro n1 (And.intro o2 (And.intro n2 (And.intro hq1 ht)))))))))))
           repeat'(first|refine a_seq fun K hK=>?_|(refine a_regionS ?_;simp(maxSteps:=2000000) only[Ty.w,simprocAttr,W,g59,q3])|(refine a_skip ?_;try simp only[pst0,simprocAttr])|(refine a_cond _ (by(try simp(maxSteps:=2000000) only[Ty.w,simprocAttr,W,g59,q3]);rfl) (fun hb=>?_) (fun hb=>?_)<;>(try simp only[hb0,decide_eq_true_eq,decide_eq_false_iff_not,simprocAttr]at hb)<;>(try(exfalso;omega)))|(refine hK _ _ ?_;clear hK;try simp only[pst0,simprocAttr]))
           refine owp_useQ (hcp _) (by(try simp only[Ty.w,simprocAttr,W,set_set]);try rfl) ?_;simp(maxSteps:=2000000) only[Ty.w,simprocAttr,W,set_set]
           repeat'(first|refine a_seq fun K hK=>?_|(refine a_block ?_)|((first|refine a_regionS ?_|refine a_region (fun K hK=>?_));simp(maxSteps:=2000000) only[Ty.w,simprocAttr,W,Option.getD_some,Option.getD_none,Int.le_refl,Int.toNat_one])|(refine hK _ _ ?_;clear hK;try simp only[pst0,simprocAttr]))
           refine owp_useQ (hck _) (by(try simp only[Ty.w,simprocAttr,W,Option.getD_some,Option.getD_none,Int.le_refl,Int.toNat_one,set_set]);try rfl) ?_;simp(maxSteps:=2000000) only[Ty.w,simprocAttr,W,Option.getD_some,Option.getD_none,Int.le_refl,Int.toNat_one,set_set]
           repeat'(refine hK _ _ ?_;clear hK;try simp only[pst0,simprocAttr])
           try rw[set_set]
           refine PJ.mk2 hpi c2 w ⟨#[]⟩ _ _ _ _ ?_ ?_ ?_ ?_ ?_ ?_
           ·simp only[Ty.w,simprocAttr,g2]
           ·simp only[Ty.w,simprocAttr,g8]
           ·simp only[Ty.w,simprocAttr];first|exact e0.symm|rfl
           ·exact ⟨rfl,rfl,rfl,rfl⟩
           ·intro hh;rw[hc2]at hh;exact absurd hh (by simp)
           ·subst hX;refine fun _=>⟨rfl,fun hh=>?_⟩;simp only[Fm.cells,FrzL];refine⟨?_,?_,?_,?_,?_,?_,trivial⟩<;>(unfold FrzTo;first|rfl|exact .inr (.inl ⟨rfl,.inr rfl⟩)|exact .inl ⟨rfl,strs_in _ _⟩|exact .inl ⟨rfl,pms_in _ _⟩|exact .inl ⟨rfl,fms_in _ _⟩)
       |false=>
        rw[hQ]at g59
        simp only[fmBody,hQ,cond_false]at hX
        repeat'(first|(refine a_hold 23 ?_)|(refine a_cond _ (by(try simp(maxSteps:=2000000) only[Ty.w,simprocAttr,g2,g4,g5,g8,g9,g44,g59]);rfl) (fun hb=>?_) (fun hb=>?_)<;>(try simp only[hb0,decide_eq_true_eq,decide_eq_false_iff_not,simprocAttr]at hb)<;>(try(exfalso;omega))))
        refine⟨?_⟩
        refine a_cut (fun S h2=>h2=h'∧S 2= .ptr h.next 0 0∧S 4=sPV w∧S 5= .imm 6 (Sx.rows rest)∧S 8= .ptr (h.next+1) 0 0∧S 9= .sc .nilIface∧S 44=sPV w∧S 87= .sc (.bool (isLst w))) ?_ ?_
        ·cases u1:(w.data.toList==(#[110,111,116]:Array UInt8).toList)with
         |true=>
          have hq:isLst w=true:=by unfold isLst;simp[show bEq w opNot=true from u1]
          rw[hq]
          repeat'(first|refine a_seq fun K hK=>?_|(refine a_regionS ?_;simp(maxSteps:=2000000) only[Ty.w,simprocAttr,g2,g4,g5,g8,g9,g44,g59,u1])|(refine a_skip ?_;try simp only[pst0,simprocAttr])|(refine a_cond _ (by(try simp(maxSteps:=2000000) only[Ty.w,simprocAttr,g2,g4,g5,g8,g9,g44,g59,u1]);rfl) (fun hb=>?_) (fun hb=>?_)<;>(try simp only[hb0,decide_eq_true_eq,decide_eq_false_iff_not,simprocAttr]at hb)<;>(try(exfalso;omega)))|(refine hK _ _ ?_;clear hK;try simp only[pst0,simprocAttr]))
          all_goals first|rfl|(simp only[Ty.w,simprocAttr,g2,g4,g5,g8,g9,g44];done)
         |false=>
          cases u2:(w.data.toList==(#[105,109,112,108,121]:Array UInt8).toList)with
          |true=>
           have hq:isLst w=true:=by unfold isLst;simp[show bEq w opNot=false from u1,show bEq w opImp=true from u2]
           rw[hq]
           repeat'(first|refine a_seq fun K hK=>?_|(refine a_regionS ?_;simp(maxSteps:=2000000) only[Ty.w,simprocAttr,g2,g4,g5,g8,g9,g44,g59,u1,u2])|(refine a_skip ?_;try simp only[pst0,simprocAttr])|(refine a_cond _ (by(try simp(maxSteps:=2000000) only[Ty.w,simprocAttr,g2,g4,g5,g8,g9,g44,g59,u1,u2]);rfl) (fun hb=>?_) (fun hb=>?_)<;>(try simp only[hb0,decide_eq_true_eq,decide_eq_false_iff_not,simprocAttr]at hb)<;>(try(exfalso;omega)))|(refine hK _ _ ?_;clear hK;try simp only[pst0,simprocAttr]))
           all_goals first|rfl|(simp only[Ty.w,simprocAttr,g2,g4,g5,g8,g9,g44];done)
          |false=>
           cases u3:(w.data.toList==(#[97,110,100]:Array UInt8).toList)with
           |true=>
            have hq:isLst w=true:=by unfold isLst;simp[show bEq w opNot=false from u1,show bEq w opImp=false from u2,show bEq w opAnd=true from u3]
            rw[hq]
            repeat'(first|refine a_seq fun K hK=>?_|(refine a_regionS ?_;simp(maxSteps:=2000000) only[Ty.w,simprocAttr,g2,g4,g5,g8,g9,g44,g59,u1,u2,u3])|(refine a_skip ?_;try simp only[pst0,simprocAttr])|(refine a_cond _ (by(try simp(maxSteps:=2000000) only[Ty.w,simprocAttr,g2,g4,g5,g8,g9,g44,g59,u1,u2,u3]);rfl) (fun hb=>?_) (fun hb=>?_)<;>(try simp only[hb0,decide_eq_true_eq,decide_eq_false_iff_not,simprocAttr]at hb)<;>(try(exfalso;omega)))|(refine hK _ _ ?_;clear hK;try simp only[pst0,simprocAttr]))
            all_goals first|rfl|(simp only[Ty.w,simprocAttr,g2,g4,g5,g8,g9,g44];done)
           |false=>
            cases u4:(w.data.toList==(#[111,114]:Array UInt8).toList)with
            |true=>
             have hq:isLst w=true:=by unfold isLst;simp[show bEq w opNot=false from u1,show bEq w opImp=false from u2,show bEq w opAnd=false from u3,show bEq w opOr=true from u4]
             rw[hq]
             repeat'(first|refine a_seq fun K hK=>?_|(refine a_regionS ?_;simp(maxSteps:=2000000) only[Ty.w,simprocAttr,g2,g4,g5,g8,g9,g44,g59,u1,u2,u3,u4])|(refine a_cond _ (by(try simp(maxSteps:=2000000) only[Ty.w,simprocAttr,g2,g4,g5,g8,g9,g44,g59,u1,u2,u3,u4]);rfl) (fun hb=>?_) (fun hb=>?_)<;>(try simp only[hb0,decide_eq_true_eq,decide_eq_false_iff_not,simprocAttr]at hb)<;>(try(exfalso;omega)))|(refine hK _ _ ?_;clear hK;try simp only[pst0,simprocAttr]))
             all_goals first|rfl|(simp only[Ty.w,simprocAttr,g2,g4,g5,g8,g9,g44];done)
            |false=>
             have hq:isLst w=false:=by unfold isLst;simp[show bEq w opNot=false from u1,show bEq w opImp=false from u2,show bEq w opAnd=false from u3,show bEq w opOr=false from u4]
             rw[hq]
             repeat'(first|refine a_seq fun K hK=>?_|(refine a_regionS ?_;simp(maxSteps:=2000000) only[Ty.w,simprocAttr,g2,g4,g5,g8,g9,g44,g59,u1,u2,u3,u4])|(refine a_cond _ (by(try simp(maxSteps:=2000000) only[Ty.w,simprocAttr,g2,g4,g5,g8,g9,g44,g59,u1,u2,u3,u4]);rfl) (fun hb=>?_) (fun hb=>?_)<;>(try simp only[hb0,decide_eq_true_eq,decide_eq_false_iff_not,simprocAttr]at hb)<;>(try(exfalso;omega)))|(refine hK _ _ ?_;clear hK;try simp only[pst0,simprocAttr]))
             all_goals first|rfl|(simp only[Ty.w,simprocAttr,g2,g4,g5,g8,g9,g44];done)
        ·clear g2 g4 g5 g8 g9 g44 g59
         rintro S h' ⟨rfl,g2,g4,g5,g8,g9,g44,g87⟩
         cases hL:isLst w with
         |true=>
          rw[hL]at g87 hX
          simp only[cond_true]at hX
          have hck:=fun h=>kids_c (l:=rest) hrl ihr h
          generalize fmPs rest=KK at hck hX
          obtain⟨ks,c2⟩:=KK
          simp only at hck hX
          cases hc2:c2==0 with
          |false=>
           rw[hc2]at hX
           simp only[cond_false]at hX
           have e0:errP c2=errV c2:=by simp only[errP,hc2,cond_false]
           rw[e0]at hck
           simp only[errV]at hck e0
           repeat'(first|(refine a_region (fun K hK=>?_);simp(maxSteps:=2000000) only[Ty.w,simprocAttr,g2,g4,g5,g8,g9,g44,g87,o1,o2])|(refine a_cond _ (by(try simp(maxSteps:=2000000) only[Ty.w,simprocAttr,g2,g4,g5,g8,g9,g44,g87,o1,o2]);rfl) (fun hb=>?_) (fun hb=>?_)<;>(try simp only[hb0,decide_eq_true_eq,decide_eq_false_iff_not,simprocAttr]at hb)<;>(try(exfalso;omega))))
           refine owp_useQ (hck _) (by(try simp only[Ty.w,simprocAttr,g2,g4,g5,g8,g9,g44,g87,o1,o2,n1,n2,set_set]);try rfl) ?_;simp(maxSteps:=2000000) only[Ty.w,simprocAttr,g2,g4,g5,g8,g9,g44,g87,o1,o2,n1,n2,set_set]
           repeat'(refine hK _ _ ?_;clear hK;try simp only[pst0,simprocAttr])
           refine PJ.mk2 hpi c2 w ⟨#[]⟩ _ _ _ _ ?_ ?_ ?_ ?_ ?_ ?_
           ·simp only[Ty.w,simprocAttr,g2]
           ·simp only[Ty.w,simprocAttr,g8]
           ·simp only[Ty.w,simprocAttr];first|exact e0.symm|rfl
           ·exact ⟨rfl,rfl,rfl,rfl⟩
           ·exact fun _=>hX
           ·intro hh;rw[hc2]at hh;exact absurd hh (by simp)
          |true=>
           rw[hc2]at hX
           simp only[cond_true]at hX
           have e0:errP c2= .sc .nilIface:=by simp only[errP,hc2,cond_true]
           rw[e0]at hck
           repeat'(first|(refine a_region (fun K hK=>?_);simp(maxSteps:=2000000) only[Ty.w,simprocAttr,g2,g4,g5,g8,g9,g44,g87,o1,o2])|(refine a_cond _ (by(try simp(maxSteps:=2000000) only[Ty.w,simprocAttr,g2,g4,g5,g8,g9,g44,g87,o1,o2]);rfl) (fun hb=>?_) (fun hb=>?_)<;>(try simp only[hb0,decide_eq_true_eq,decide_eq_false_iff_not,simprocAttr]at hb)<;>(try(exfalso;omega))))
           refine owp_useQ (hck _) (by(try simp only[Ty.w,simprocAttr,g2,g4,g5,g8,g9,g44,g87,o1,o2,n1,n2,set_set]);try rfl) ?_;simp(maxSteps:=2000000) only[Ty.w,simprocAttr,g2,g4,g5,g8,g9,g44,g87,o1,o2,n1,n2,set_set]
           repeat'(refine hK _ _ ?_;clear hK;try simp only[pst0,simprocAttr])
           refine PJ.mk2 hpi c2 w ⟨#[]⟩ _ _ _ _ ?_ ?_ ?_ ?_ ?_ ?_
           ·simp only[Ty.w,simprocAttr,g2]
           ·simp only[Ty.w,simprocAttr,g8]
           ·simp only[Ty.w,simprocAttr];first|exact e0.symm|rfl
           ·exact ⟨rfl,rfl,rfl,rfl⟩
           ·intro hh;rw[hc2]at hh;exact absurd hh (by simp)
           ·subst hX;refine fun _=>⟨rfl,fun hh=>?_⟩;simp only[Fm.cells,FrzL];refine⟨?_,?_,?_,?_,?_,?_,trivial⟩<;>(unfold FrzTo;first|rfl|exact .inr (.inl ⟨rfl,.inr rfl⟩)|exact .inl ⟨rfl,strs_in _ _⟩|exact .inl ⟨rfl,pms_in _ _⟩|exact .inl ⟨rfl,fms_in _ _⟩)
         |false=>
          rw[hL]at g87 hX
          simp only[cond_false]at hX
          repeat'(first|(refine a_hold 28 ?_)|(refine a_cond _ (by(try simp(maxSteps:=2000000) only[Ty.w,simprocAttr,g2,g4,g5,g8,g9,g44,g87]);rfl) (fun hb=>?_) (fun hb=>?_)<;>(try simp only[hb0,decide_eq_true_eq,decide_eq_false_iff_not,simprocAttr]at hb)<;>(try(exfalso;omega))))
          refine⟨?_⟩
          refine a_cut (fun S h2=>h2=h'∧S 2= .ptr h.next 0 0∧S 4=sPV w∧S 5= .imm 6 (Sx.rows rest)∧S 8= .ptr (h.next+1) 0 0∧S 9= .sc .nilIface∧S 44=sPV w∧S 98= .sc (.bool (isCmp5 w))) ?_ ?_
          ·cases u1:(w.data.toList==(#[61]:Array UInt8).toList)with
           |true=>
            have hq:isCmp5 w=true:=by unfold isCmp5 isCmp;simp[show bEq w opEq=true from u1]
            rw[hq]
            repeat'(first|refine a_seq fun K hK=>?_|(refine a_regionS ?_;simp(maxSteps:=2000000) only[Ty.w,simprocAttr,g2,g4,g5,g8,g9,g44,g87,u1])|(refine a_skip ?_;try simp only[pst0,simprocAttr])|(refine a_cond _ (by(try simp(maxSteps:=2000000) only[Ty.w,simprocAttr,g2,g4,g5,g8,g9,g44,g87,u1]);rfl) (fun hb=>?_) (fun hb=>?_)<;>(try simp only[hb0,decide_eq_true_eq,decide_eq_false_iff_not,simprocAttr]at hb)<;>(try(exfalso;omega)))|(refine hK _ _ ?_;clear hK;try simp only[pst0,simprocAttr]))
            all_goals first|rfl|(simp only[Ty.w,simprocAttr,g2,g4,g5,g8,g9,g44];done)
           |false=>
            cases u2:(w.data.toList==(#[60]:Array UInt8).toList)with
            |true=>
             have hq:isCmp5 w=true:=by unfold isCmp5 isCmp;simp[show bEq w opEq=false from u1,show bEq w opLt=true from u2]
             rw[hq]
             repeat'(first|refine a_seq fun K hK=>?_|(refine a_regionS ?_;simp(maxSteps:=2000000) only[Ty.w,simprocAttr,g2,g4,g5,g8,g9,g44,g87,u1,u2])|(refine a_skip ?_;try simp only[pst0,simprocAttr])|(refine a_cond _ (by(try simp(maxSteps:=2000000) only[Ty.w,simprocAttr,g2,g4,g5,g8,g9,g44,g87,u1,u2]);rfl) (fun hb=>?_) (fun hb=>?_)<;>(try simp only[hb0,decide_eq_true_eq,decide_eq_false_iff_not,simprocAttr]at hb)<;>(try(exfalso;omega)))|(refine hK _ _ ?_;clear hK;try simp only[pst0,simprocAttr]))
             all_goals first|rfl|(simp only[Ty.w,simprocAttr,g2,g4,g5,g8,g9,g44];done)
            |false=>
             cases u3:(w.data.toList==(#[60,61]:Array UInt8).toList)with
             |true=>
              have hq:isCmp5 w=true:=by unfold isCmp5 isCmp;simp[show bEq w opEq=false from u1,show bEq w opLt=false from u2,show bEq w opLe=true from u3]
              rw[hq]
              repeat'(first|refine a_seq fun K hK=>?_|(refine a_regionS ?_;simp(maxSteps:=2000000) only[Ty.w,simprocAttr,g2,g4,g5,g8,g9,g44,g87,u1,u2,u3])|(refine a_skip ?_;try simp only[pst0,simprocAttr])|(refine a_cond _ (by(try simp(maxSteps:=2000000) only[Ty.w,simprocAttr,g2,g4,g5,g8,g9,g44,g87,u1,u2,u3]);rfl) (fun hb=>?_) (fun hb=>?_)<;>(try simp only[hb0,decide_eq_true_eq,decide_eq_false_iff_not,simprocAttr]at hb)<;>(try(exfalso;omega)))|(refine hK _ _ ?_;clear hK;try simp only[pst0,simprocAttr]))
              all_goals first|rfl|(simp only[Ty.w,simprocAttr,g2,g4,g5,g8,g9,g44];done)
             |false=>
              cases u4:(w.data.toList==(#[62]:Array UInt8).toList)with
              |true=>
               have hq:isCmp5 w=true:=by unfold isCmp5 isCmp;simp[show bEq w opEq=false from u1,show bEq w opLt=false from u2,show bEq w opLe=false from u3,show bEq w opGt=true from u4]
               rw[hq]
               repeat'(first|refine a_seq fun K hK=>?_|(refine a_regionS ?_;simp(maxSteps:=2000000) only[Ty.w,simprocAttr,g2,g4,g5,g8,g9,g44,g87,u1,u2,u3,u4])|(refine a_skip ?_;try simp only[pst0,simprocAttr])|(refine a_cond _ (by(try simp(maxSteps:=2000000) only[Ty.w,simprocAttr,g2,g4,g5,g8,g9,g44,g87,u1,u2,u3,u4]);rfl) (fun hb=>?_) (fun hb=>?_)<;>(try simp only[hb0,decide_eq_true_eq,decide_eq_false_iff_not,simprocAttr]at hb)<;>(try(exfalso;omega)))|(refine hK _ _ ?_;clear hK;try simp only[pst0,simprocAttr]))
               all_goals first|rfl|(simp only[Ty.w,simprocAttr,g2,g4,g5,g8,g9,g44];done)
              |false=>
               cases u5:(w.data.toList==(#[62,61]:Array UInt8).toList)with
               |true=>
                have hq:isCmp5 w=true:=by unfold isCmp5 isCmp;simp[show bEq w opEq=false from u1,show bEq w opLt=false from u2,show bEq w opLe=false from u3,show bEq w opGt=false from u4,show bEq w opGe=true from u5]
                rw[hq]
                repeat'(first|refine a_seq fun K hK=>?_|(refine a_regionS ?_;simp(maxSteps:=2000000) only[Ty.w,simprocAttr,g2,g4,g5,g8,g9,g44,g87,u1,u2,u3,u4,u5])|(refine a_cond _ (by(try simp(maxSteps:=2000000) only[Ty.w,simprocAttr,g2,g4,g5,g8,g9,g44,g87,u1,u2,u3,u4,u5]);rfl) (fun hb=>?_) (fun hb=>?_)<;>(try simp only[hb0,decide_eq_true_eq,decide_eq_false_iff_not,simprocAttr]at hb)<;>(try(exfalso;omega)))|(refine hK _ _ ?_;clear hK;try simp only[pst0,simprocAttr]))
                all_goals first|rfl|(simp only[Ty.w,simprocAttr,g2,g4,g5,g8,g9,g44];done)
               |false=>
                have hq:isCmp5 w=false:=by unfold isCmp5 isCmp;simp[show bEq w opEq=false from u1,show bEq w opLt=false from u2,show bEq w opLe=false from u3,show bEq w opGt=false from u4,show bEq w opGe=false from u5]
                rw[hq]
                repeat'(first|refine a_seq fun K hK=>?_|(refine a_regionS ?_;simp(maxSteps:=2000000) only[Ty.w,simprocAttr,g2,g4,g5,g8,g9,g44,g87,u1,u2,u3,u4,u5])|(refine a_cond _ (by(try simp(maxSteps:=2000000) only[Ty.w,simprocAttr,g2,g4,g5,g8,g9,g44,g87,u1,u2,u3,u4,u5]);rfl) (fun hb=>?_) (fun hb=>?_)<;>(try simp only[hb0,decide_eq_true_eq,decide_eq_false_iff_not,simprocAttr]at hb)<;>(try(exfalso;omega)))|(refine hK _ _ ?_;clear hK;try simp only[pst0,simprocAttr]))
                all_goals first|rfl|(simp only[Ty.w,simprocAttr,g2,g4,g5,g8,g9,g44];done)
          ·clear g2 g4 g5 g8 g9 g44 g87
           rintro S h' ⟨rfl,g2,g4,g5,g8,g9,g44,g98⟩
           cases hC:isCmp5 w with
           |true=>
            rw[hC]at g98 hX
            simp only[cond_true]at hX
            obtain⟨x,y,rfl⟩: ∃ x y,rest=[x,y]:=by
             have h2:=count_two (.inr hC) hcnt
             match rest,h2 with
             |[p,b],_=>exact⟨p,b,rfl⟩
            simp only at hX
            have hcc:=fun h=>compare_c (w:=w) (hro x (by simp)) (hro y (by simp)) (expr_c x (hro x (by simp)) (hsr x (by simp))) (expr_c y (hro y (by simp)) (hsr y (by simp))) h
            have hfz:=fun hh=>fm_frz h.next hh (compareP w x y).1
            generalize compareP w x y=CC at hcc hX hfz
            obtain⟨f,c⟩:=CC
            simp only at hcc hfz
            have r0:=Sx.rows_get (l:=[x,y]) (i:=0) rfl
            have r1:=Sx.rows_get (l:=[x,y]) (i:=1) rfl
            generalize Sx.rows [x,y]=R at g5 r0 r1 hlr
            obtain⟨xk,xv,xl,xc,xt,xks⟩:=x
            obtain⟨yk,yv,yl,yc,yt,yks⟩:=y
            obtain⟨fop,fna,far,fpa,fex,fki⟩:=f
            simp only[Sx.cells]at r0 r1 hcc
            simp only[Fm.cells]at hcc hfz
            cases hc2:c==0 with
            |false=>
             simp only[fin,hc2,cond_false]at hX
             have e0:errP c=errV c:=by simp only[errP,hc2,cond_false]
             rw[e0]at hcc
             simp only[errV]at hcc e0
             have W:=And.intro g2 (And.intro g4 (And.intro g5 (And.intro g8 (And.intro g9 (And.intro g44 (And.intro g98 (And.intro r0 (And.intro r1 (And.intro o1 (And.intro o2 (And.intro n1 n2)))))))))))
             repeat'(first|(refine a_draw (by decide+kernel) (fun K hK=>?_);simp(maxSteps:=2000000) only[Ty.w,simprocAttr,W])|(refine a_cond _ (by(try simp(maxSteps:=2000000) only[Ty.w,simprocAttr,W]);rfl) (fun hb=>?_) (fun hb=>?_)<;>(try simp only[hb0,decide_eq_true_eq,decide_eq_false_iff_not,simprocAttr]at hb)<;>(try(exfalso;omega))))
             (first|refine a_dcall0 (hcc _) (by(try simp only[Ty.w,simprocAttr,W,set_set]);try rfl) ?_|refine a_dcallA (hcc _) (by(try simp only[Ty.w,simprocAttr,W,set_set]);try rfl) (by simp only[Ty.w,simprocAttr,W,set_set];try trivial) ?_);simp(maxSteps:=2000000) only[Ty.w,simprocAttr,W,Option.getD_some,set_set]
             repeat'(first|(refine hK _ _ ?_;clear hK;try simp only[pst0,simprocAttr])|(with_reducible refine a_past2 (by simp only[List.forall_mem_cons,Ty.w,simprocAttr,g2,g4,g5,g8,g9,g44,g98,o1,o2,n1,n2]<;>(repeat' apply And.intro)<;>first|trivial|exact .inl (by decide+kernel)) ?_;try simp(maxSteps:=2000000) only[Ty.w,simprocAttr,W]))
             refine PJ.mk2 hpi c fop fna _ _ _ _ ?_ ?_ ?_ ?_ ?_ ?_
             ·simp only[Ty.w,simprocAttr,g2]
             ·simp only[Ty.w,simprocAttr,g8]
             ·simp only[Ty.w,simprocAttr];first|exact e0.symm|rfl
             ·exact ⟨rfl,rfl,rfl,rfl⟩
             ·exact fun _=>hX
             ·intro hh;rw[hc2]at hh;exact absurd hh (by simp)
            |true=>
             simp only[fin,hc2,cond_true]at hX
             have e0:errP c= .sc .nilIface:=by simp only[errP,hc2,cond_true]
             rw[e0]at hcc
             have W:=And.intro g2 (And.intro g4 (And.intro g5 (And.intro g8 (And.intro g9 (And.intro g44 (And.intro g98 (And.intro r0 (And.intro r1 (And.intro o1 (And.intro o2 (And.intro n1 n2)))))))))))
             repeat'(first|(refine a_draw (by decide+kernel) (fun K hK=>?_);simp(maxSteps:=2000000) only[Ty.w,simprocAttr,W])|(refine a_cond _ (by(try simp(maxSteps:=2000000) only[Ty.w,simprocAttr,W]);rfl) (fun hb=>?_) (fun hb=>?_)<;>(try simp only[hb0,decide_eq_true_eq,decide_eq_false_iff_not,simprocAttr]at hb)<;>(try(exfalso;omega))))
             (first|refine a_dcall0 (hcc _) (by(try simp only[Ty.w,simprocAttr,W,set_set]);try rfl) ?_|refine a_dcallA (hcc _) (by(try simp only[Ty.w,simprocAttr,W,set_set]);try rfl) (by simp only[Ty.w,simprocAttr,W,set_set];try trivial) ?_);simp(maxSteps:=2000000) only[Ty.w,simprocAttr,W,Option.getD_some,set_set]
             repeat'(first|(refine hK _ _ ?_;clear hK;try simp only[pst0,simprocAttr])|(with_reducible refine a_past2 (by simp only[List.forall_mem_cons,Ty.w,simprocAttr,g2,g4,g5,g8,g9,g44,g98,o1,o2,n1,n2]<;>(repeat' apply And.intro)<;>first|trivial|exact .inl (by decide+kernel)) ?_;try simp(maxSteps:=2000000) only[Ty.w,simprocAttr,W]))
             refine PJ.mk2 hpi c fop fna _ _ _ _ ?_ ?_ ?_ ?_ ?_ ?_
             ·simp only[Ty.w,simprocAttr,g2]
             ·simp only[Ty.w,simprocAttr,g8]
             ·simp only[Ty.w,simprocAttr];first|exact e0.symm|rfl
             ·exact ⟨rfl,rfl,rfl,rfl⟩
             ·intro hh;rw[hc2]at hh;exact absurd hh (by simp)
             ·subst hX;exact fun _=>⟨by simpa using hc2,fun hh=>by simpa only[Fm.cells]using hfz hh⟩
           |false=>
            rw[hC]at g98 hX
            simp only[cond_false]at hX
            have hw':w.size≤9223372036854775807:=by unfold bigN at hw;omega
            have hn:=fun h:Heap=>fname_c (h:=h) hw'
            cases hN1:nameB w with
            |false=>
             rw[hN1]at hn hX
             simp only[cond_false]at hX
             repeat'(first|refine a_seq fun K hK=>?_|(refine a_regionS ?_;simp(maxSteps:=2000000) only[Ty.w,simprocAttr,g2,g4,g5,g8,g9,g44,g98,o1,o2])|(refine a_cond _ (by(try simp(maxSteps:=2000000) only[Ty.w,simprocAttr,g2,g4,g5,g8,g9,g44,g98,o1,o2]);rfl) (fun hb=>?_) (fun hb=>?_)<;>(try simp only[hb0,decide_eq_true_eq,decide_eq_false_iff_not,simprocAttr]at hb)<;>(try(exfalso;omega))))
             refine owp_useQ (hn _) (by(try simp only[Ty.w,simprocAttr,g2,g4,g5,g8,g9,g44,g98]);try rfl) ?_;simp(maxSteps:=2000000) only[Ty.w,simprocAttr,g2,g4,g5,g8,g9,g44,g98]
             repeat'(first|refine a_seq fun K hK=>?_|((first|refine a_regionS ?_|refine a_ret ?_);simp(maxSteps:=2000000) only[Ty.w,simprocAttr,g2,g4,g5,g8,g9,g44,g98,o1,o2,Bool.not_false])|(refine hK _ _ ?_;clear hK;try simp only[pst0,simprocAttr]))
             exact errRet (.inr rfl) (hpi.grow.set (Nat.le_refl _) _) hX
            |true=>
             rw[hN1]at hn hX
             simp only[cond_true]at hX
             have ht:=fun h:Heap=>terms_c hrl hro h
             generalize termsM rest=T at ht hX
             obtain⟨t,c⟩:=T
             simp only at ht hX
             cases hc2:c==0 with
             |false=>
              rw[hc2]at hX
              simp only[cond_false]at hX
              have e0:errP c=errV c:=by simp only[errP,hc2,cond_false]
              rw[e0]at ht
              simp only[errV]at ht e0
              have W:=And.intro g2 (And.intro g4 (And.intro g5 (And.intro g8 (And.intro g9 (And.intro g44 (And.intro g98 (And.intro o1 (And.intro o2 (And.intro n1 n2)))))))))
              repeat'(first|refine a_seq fun K hK=>?_|(refine a_regionS ?_;simp(maxSteps:=2000000) only[Ty.w,simprocAttr,W])|(refine a_cond _ (by(try simp(maxSteps:=2000000) only[Ty.w,simprocAttr,W]);rfl) (fun hb=>?_) (fun hb=>?_)<;>(try simp only[hb0,decide_eq_true_eq,decide_eq_false_iff_not,simprocAttr]at hb)<;>(try(exfalso;omega))))
              refine owp_useQ (hn _) (by(try simp only[Ty.w,simprocAttr,W]);try rfl) ?_;simp(maxSteps:=2000000) only[Ty.w,simprocAttr,W]
              repeat'(first|refine a_seq fun K hK=>?_|((first|refine a_regionS ?_|refine a_region (fun K hK=>?_));simp(maxSteps:=2000000) only[Ty.w,simprocAttr,W,Bool.not_true])|(refine a_skip ?_;try simp only[pst0,simprocAttr])|(refine a_cond _ (by(try simp(maxSteps:=2000000) only[Ty.w,simprocAttr,W,Bool.not_true]);rfl) (fun hb=>?_) (fun hb=>?_)<;>(try simp only[hb0,decide_eq_true_eq,decide_eq_false_iff_not,simprocAttr]at hb)<;>(try(exfalso;omega)))|(refine hK _ _ ?_;clear hK;try simp only[pst0,simprocAttr]))
              refine owp_useQ (ht _) (by(try simp only[Ty.w,simprocAttr,W,set_set]);try rfl) ?_;simp(maxSteps:=2000000) only[Ty.w,simprocAttr,W,set_set]
              repeat'(refine hK _ _ ?_;clear hK;try simp only[pst0,simprocAttr])
              try simp only[set_set]
              refine PJ.mk2 hpi c ⟨#[97,116,111,109]⟩ w _ _ _ _ ?_ ?_ ?_ ?_ ?_ ?_
              ·simp only[Ty.w,simprocAttr,g2]
              ·simp only[Ty.w,simprocAttr,g8]
              ·simp only[Ty.w,simprocAttr];first|exact e0.symm|rfl
              ·exact ⟨rfl,rfl,rfl,rfl⟩
              ·exact fun _=>hX
              ·intro hh;rw[hc2]at hh;exact absurd hh (by simp)
             |true=>
              rw[hc2]at hX
              simp only[cond_true]at hX
              have e0:errP c= .sc .nilIface:=by simp only[errP,hc2,cond_true]
              rw[e0]at ht
              have W:=And.intro g2 (And.intro g4 (And.intro g5 (And.intro g8 (And.intro g9 (And.intro g44 (And.intro g98 (And.intro o1 (And.intro o2 (And.intro n1 n2)))))))))
              repeat'(first|refine a_seq fun K hK=>?_|(refine a_regionS ?_;simp(maxSteps:=2000000) only[Ty.w,simprocAttr,W])|(refine a_cond _ (by(try simp(maxSteps:=2000000) only[Ty.w,simprocAttr,W]);rfl) (fun hb=>?_) (fun hb=>?_)<;>(try simp only[hb0,decide_eq_true_eq,decide_eq_false_iff_not,simprocAttr]at hb)<;>(try(exfalso;omega))))
              refine owp_useQ (hn _) (by(try simp only[Ty.w,simprocAttr,W]);try rfl) ?_;simp(maxSteps:=2000000) only[Ty.w,simprocAttr,W]
              repeat'(first|refine a_seq fun K hK=>?_|((first|refine a_regionS ?_|refine a_region (fun K hK=>?_));simp(maxSteps:=2000000) only[Ty.w,simprocAttr,W,Bool.not_true])|(refine a_skip ?_;try simp only[pst0,simprocAttr])|(refine a_cond _ (by(try simp(maxSteps:=2000000) only[Ty.w,simprocAttr,W,Bool.not_true]);rfl) (fun hb=>?_) (fun hb=>?_)<;>(try simp only[hb0,decide_eq_true_eq,decide_eq_false_iff_not,simprocAttr]at hb)<;>(try(exfalso;omega)))|(refine hK _ _ ?_;clear hK;try simp only[pst0,simprocAttr]))
              refine owp_useQ (ht _) (by(try simp only[Ty.w,simprocAttr,W,set_set]);try rfl) ?_;simp(maxSteps:=2000000) only[Ty.w,simprocAttr,W,set_set]
              repeat'(refine hK _ _ ?_;clear hK;try simp only[pst0,simprocAttr])
              try simp only[set_set]
              refine PJ.mk2 hpi c ⟨#[97,116,111,109]⟩ w _ _ _ _ ?_ ?_ ?_ ?_ ?_ ?_
              ·simp only[Ty.w,simprocAttr,g2]
              ·simp only[Ty.w,simprocAttr,g8]
              ·simp only[Ty.w,simprocAttr];first|exact e0.symm|rfl
              ·exact ⟨rfl,rfl,rfl,rfl⟩
              ·intro hh;rw[hc2]at hh;exact absurd hh (by simp)
              ·subst hX;refine fun _=>⟨rfl,fun hh=>?_⟩;simp only[Fm.cells,FrzL];refine⟨?_,?_,?_,?_,?_,?_,trivial⟩<;>(unfold FrzTo;first|rfl|exact .inr (.inl ⟨rfl,.inr rfl⟩)|exact .inl ⟨rfl,strs_in _ _⟩|exact .inl ⟨rfl,pms_in _ _⟩|exact .inl ⟨rfl,fms_in _ _⟩)
     ·clear g2 g4 g5 g8 g9 hpi
      rintro S h' ⟨g2,g8,hg,c,a,b,p2,p3,p4,p5,g9,o1,o2,⟨z2,z3,z4,z5⟩,hc,hd⟩
      simp only[fmZ]at o1
      cases hcc:c==0 with
      |false=>
       have hF:=hc hcc
       have e0:errP c=errV c:=by simp only[errP,hcc,cond_false]
       rw[e0]at g9
       simp only[errV]at g9
       subst hF
       rw[e0]
       simp only[errV]
       repeat'(first|refine a_seq fun K hK=>?_|((first|refine a_regionS ?_|refine a_ret ?_);simp(maxSteps:=2000000) only[Ty.w,simprocAttr,g2,g8,g9,o1,o2])|(refine hK _ _ ?_;clear hK;try simp only[pst0,simprocAttr]))
       refine⟨?_,hg.set (Nat.le_refl _) _⟩
       simp only[zeroFm,Fm.cells,Ex.rows,Fm.rows,pmRows,strRows,List.map_nil,FrzTo,FrzL]
       exact⟨_,rfl,⟨_,rfl,rfl,rfl,.inr (.inl ⟨rfl,.inr rfl⟩),.inr (.inl ⟨rfl,.inr rfl⟩),.inr (.inl ⟨rfl,.inr rfl⟩),.inr (.inl ⟨rfl,.inr rfl⟩),trivial⟩,rfl,trivial⟩
      |true=>
       have hF:=hd hcc
       have e0:errP c= .sc .nilIface:=by simp only[errP,hcc,cond_true]
       rw[e0]at g9
       have e2:errP F.2= .sc .nilIface:=by rw[hF.1];try rfl
       rw[e2]
       repeat'(first|refine a_seq fun K hK=>?_|((first|refine a_regionS ?_|refine a_ret ?_);simp(maxSteps:=2000000) only[Ty.w,simprocAttr,g2,g8,g9,o1,o2,z2,z3,z4,z5])|(refine a_skip ?_;try simp only[pst0,simprocAttr])|(refine a_cond _ (by(try simp(maxSteps:=2000000) only[Ty.w,simprocAttr,g2,g8,g9,o1,o2,z2,z3,z4,z5]);rfl) (fun hb=>?_) (fun hb=>?_)<;>(try simp only[hb0,decide_eq_true_eq,decide_eq_false_iff_not,simprocAttr]at hb)<;>(try(exfalso;omega)))|(refine hK _ _ ?_;clear hK;try simp only[pst0,simprocAttr]))
       refine⟨?_,hg.set (Nat.le_refl _) _⟩
       have h1:=hF.2 (h'.set h.next (.arr 6 [[sPV a,sPV b,p2,p3,p4,p5]]))
       unfold FrzTo
       refine⟨_,rfl,?_⟩
       unfold FrzL
       refine⟨?_,by unfold FrzL;exact⟨by simp only[FrzTo],by simp only[FrzL]⟩⟩
       unfold FrzTo
       exact⟨_,rfl,h1⟩
end Go.Proofs.YtjeolbgpllbemaaGreat
