/- What the claim rests on, part 7: the abstract machine, contracts of the functions, plain data. -/
import Derived.OpenShut
import Derived.ChangeShapes
import Derived.SizedLaws
import Derived.Test.YtjeolbgpllbemaaRows
import Derived.Test.YtjeolbgpllbemaaZo6
set_option linter.unusedVariables false
set_option linter.unusedSimpArgs false
set_option linter.unusedSectionVars false
namespace Go.Proofs.Ytjeolbgpllbemaa
open Go.AM
set_option maxHeartbeats 8000000
set_option maxRecDepth 20000
abbrev sxZ:List PV:=[.sc (.int .i64 0),.sc (.int .i64 0),.sc (.int .i64 0),.sc (.int .i64 0),.sc (.string ⟨#[]⟩),.sc (.slice none 0 0)]
abbrev sxP:List PV:=[.sc (.int .i64 3),.sc (.int .i64 0),.sc (.int .i64 0),.sc (.int .i64 0),.sc (.string ⟨#[]⟩)]
structure PbSm(p:Pb):Prop where
 g:p.goal.small
 o:p.objects.length≤1048576
 i:p.init.length≤1048576
 v:p.values.length≤1048576
 ia: ∀ a∈p.init,a.args.length≤1048576
 va: ∀ v∈p.values,v.at_.args.length≤1048576
abbrev PwI(h:Heap)(L:List Sx)(H:Heap):Prop:=GrI h h.next (h.next+17) (h.next+18) 6 6 6 sxZ sxP [] (Sx.rows L) H
abbrev PwJ(h:Heap)(L:List Sx)(H:Heap):Prop:=GrJ h h.next (h.next+17) (h.next+18) 6 6 6 sxZ sxP [] (Sx.rows L) H
theorem atW_ok{a:At}(ha:a.ok)(hl:a.args.length≤1048576):(atW a).ok:=wordsM_ok ha.1 hl ha.2.2
theorem listM_okL{l:List Sx}(hl:l.length≤bigN)(h: ∀ x∈l,x.ok):(listM l).ok:=by
 simp only[listM,Sx.ok]
 exact⟨by omega,by omega,by simp[bigN,ByteArray.size],hl,Sx.oks_iff.2 h⟩
theorem nameS_ok{w s:ByteArray}(hw:w.size≤bigN)(hs:s.size≤bigN):(nameS w s).ok:=listM_okL (by simp[bigN]) (by
 intro x hx
 simp only[List.mem_cons,List.not_mem_nil,or_false]at hx
 rcases hx with rfl|rfl
 ·exact wordM_ok hw
 ·exact wordM_ok hs)
theorem pbW_ok{p:Pb}(hok:p.ok)(hsm:PbSm p)(hv:validF p.goal=true):(pbW p).ok:=by
 obtain⟨k1,k2,⟨k3,k4⟩,⟨k5,k6⟩,⟨k7,k8⟩,k9⟩:=hok
 have so:=hsm.o
 have si:=hsm.i
 have sv:=hsm.v
 refine listM_okL ?_ ?_
 ·have h1:(objsW p.objects).length≤1:=by unfold objsW;split<;>simp
  have h2:(initW p.init p.values).length≤1:=by unfold initW;split<;>simp
  have h3:(goalW p.goal).length≤1:=by unfold goalW;split<;>simp
  simp only[List.length_append,List.length_cons,List.length_nil,bigN]
  omega
 ·intro x hx
  simp only[List.mem_append,List.mem_cons,List.not_mem_nil,or_false]at hx
  rcases hx with(rfl|rfl|rfl)|hx|hx|hx
  ·exact wordM_ok (by decide)
  ·exact nameS_ok (by decide) k1
  ·exact nameS_ok (by decide) k2
  ·unfold objsW at hx
   split at hx
   ·cases hx
   ·simp only[List.mem_singleton]at hx
    subst hx
    refine listM_okL (by simp only[List.length_cons,paramsW_len,bigN];omega) ?_
    intro y hy
    rcases List.mem_cons.1 hy with rfl|hy
    ·exact wordM_ok (by decide)
    ·exact Sx.oks_iff.1 (paramsW_ok _ k4) y hy
  ·unfold initW at hx
   split at hx
   ·cases hx
   ·simp only[List.mem_singleton]at hx
    subst hx
    refine listM_okL (by simp only[List.length_cons,List.length_append,List.length_map,bigN];omega) ?_
    intro y hy
    simp only[List.mem_cons,List.mem_append,List.mem_map]at hy
    rcases hy with rfl|⟨a,ha,rfl⟩|⟨v,hv,rfl⟩
    ·exact wordM_ok (by decide)
    ·exact atW_ok (k6 a ha) (hsm.ia a ha)
    ·refine listM_okL (by simp[bigN]) ?_
     intro z hz
     simp only[List.mem_cons,List.not_mem_nil,or_false]at hz
     rcases hz with rfl|rfl|rfl
     ·exact wordM_ok (by decide)
     ·exact atW_ok (k8 v hv).1 (hsm.va v hv)
     ·simp only[numM,Sx.ok,Sx.oks,List.length_nil]
      exact⟨by omega,⟨(k8 v hv).2.1,(k8 v hv).2.2⟩,by simp[bigN,ByteArray.size],by simp[bigN],trivial⟩
  ·unfold goalW at hx
   split at hx
   ·cases hx
   ·simp only[List.mem_singleton]at hx
    subst hx
    refine listM_okL (by simp[bigN]) ?_
    intro y hy
    simp only[List.mem_cons,List.not_mem_nil,or_false]at hy
    rcases hy with rfl|rfl
    ·exact wordM_ok (by decide)
    ·exact fmW_ok _ k9 hsm.g (validF_shaped hv)
theorem pWrite_c{p:Pb}(hok:p.ok)(hsm:PbSm p)(h:Heap):PCall Try.prog 8 [.agg p.cells] h fun r h'=>r=(if writeB p then .tup [.agg (pbW p).cells,.sc .nilIface]else .tup [.agg zeroSx.cells,errV 2])∧h'=h:=by
 refine PCall.frz Ty.hb_8 ?_
 have hW:=fun h:Heap=>fWrite_c hok.2.2.2.2.2 hsm.g h
 have hE:=expressible_c hok
 generalize hF:writeB p=F
 unfold writeB at hF
 have bad: ∀ (h':Heap),F=false→FrzTo h.next h' (if F=true then .tup [.agg (pbW p).cells,.sc .nilIface]else .tup [.agg zeroSx.cells,errV 2]) (.tup [.agg sxZ,errV 2]):=by
  intro h' hf
  rw[hf,if_neg (by simp)]
  simp only[zeroSx,errV,Sx.cells,Sx.rows,FrzTo,FrzL]
  exact⟨_,rfl,⟨_,rfl,rfl,rfl,rfl,rfl,rfl,.inr (.inl ⟨rfl,.inr rfl⟩),trivial⟩,rfl,trivial⟩
 simp only[errV]at bad
 have hgW: ∀ a b,Grow h (((h.new a).new b).set h.next a):=fun a b=>(((Grow.refl h).new a).new b).set (Nat.le_refl _) a
 have hlO:=pmRows_len p.objects
 have hlI:=atRows_len p.init
 have hlV:=vlRows_len p.values
 obtain⟨name,domain,objects,init,values,goal⟩:=p
 simp only at hlO hlI hlV
 cases v1:validF goal with
 |false=>
  simp only[v1,Bool.false_eq_true,if_false]at hW
  simp only[v1,Bool.false_and]at hF
  clear hE hok hsm
  obtain⟨gop,gname,gargs,gparams,gexprs,gkids⟩:=goal
  simp only[Pb.cells,Fm.cells,List.cons_append,List.nil_append,zeroSx,Sx.cells,Sx.rows,errV]at hW⊢
  refine pcall_body (ow:=fun t=>t==40||t==49||t==67) (wf:=fun _=>false) Ty.mixed Try.func8 rfl Ty.hb_8 (by rw[Try.ntmps8];simp) ?_
  rw[Try.ntmps8,Try.results8]
  repeat'(first|refine a_seq fun K hK=>?_|(refine a_regionS ?_;simp(maxSteps:=2000000) only[Ty.w,simprocAttr])|(refine hK _ _ ?_;clear hK;try simp only[pst0,simprocAttr]))
  refine owp_useQ (hW _) (by(try simp only[Ty.w,simprocAttr,]);try rfl) ?_;simp(maxSteps:=2000000) only[Ty.w,simprocAttr,]
  repeat'(first|refine a_seq fun K hK=>?_|((first|refine a_regionS ?_|refine a_ret ?_);simp(maxSteps:=2000000) only[Ty.w,simprocAttr,nsucc])|(refine hK _ _ ?_;clear hK;try simp only[pst0,simprocAttr]))
  exact⟨bad _ hF.symm,((((Grow.refl h).new _).new _).set (Nat.le_succ _) _).set (Nat.le_refl _) _⟩
 |true=>
  simp only[v1,if_true]at hW
  simp only[v1,Bool.true_and]at hF
  generalize hV2:expressB _=ex at hF hE
  cases ex with
  |false=>
   simp only[Bool.false_and]at hF
   clear hok hsm
   generalize fmW goal=X at hW
   obtain⟨gop,gname,gargs,gparams,gexprs,gkids⟩:=goal
   obtain⟨ki,va,li,co,te,ks⟩:=X
   simp only[Pb.cells,Fm.cells,List.cons_append,List.nil_append,Sx.cells]at hW hE⊢
   refine pcall_body (ow:=fun t=>t==40||t==49||t==67) (wf:=fun _=>false) Ty.mixed Try.func8 rfl Ty.hb_8 (by rw[Try.ntmps8];simp) ?_
   rw[Try.ntmps8,Try.results8]
   repeat'(first|refine a_seq fun K hK=>?_|(refine a_regionS ?_;simp(maxSteps:=2000000) only[Ty.w,simprocAttr])|(refine hK _ _ ?_;clear hK;try simp only[pst0,simprocAttr]))
   refine owp_useQ (hW _) (by(try simp only[Ty.w,simprocAttr,]);try rfl) ?_;simp(maxSteps:=2000000) only[Ty.w,simprocAttr,]
   repeat'(first|refine a_seq fun K hK=>?_|(refine a_regionS ?_;simp(maxSteps:=2000000) only[Ty.w,simprocAttr,nsucc])|(refine hK _ _ ?_;clear hK;try simp only[pst0,simprocAttr]))
   refine owp_useQ (hE _) (by(try simp only[Ty.w,simprocAttr,Bool.not_false]);try rfl) ?_;simp(maxSteps:=2000000) only[Ty.w,simprocAttr,Bool.not_false]
   repeat'(first|refine a_seq fun K hK=>?_|((first|refine a_regionS ?_|refine a_ret ?_);simp(maxSteps:=2000000) only[Ty.w,simprocAttr,Bool.not_false,nsucc])|(refine hK _ _ ?_;clear hK;try simp only[pst0,simprocAttr]))
   exact⟨bad _ hF.symm,((((Grow.refl h).new _).new _).set (Nat.le_succ _) _).set (Nat.le_refl _) _⟩
  |true=>
   simp only[Bool.true_and]at hF
   have hpw:pbW ⟨name,domain,objects,init,values,goal⟩=listM ([wordM opDef,nameS opPrb name,nameS opDom domain]++(objsW objects++(initW init values++goalW goal))):=rfl
   have hPWo:=pbW_ok hok hsm v1
   generalize pbW _=PW at hpw hF hPWo⊢
   have hgE:goalW goal=if goalE goal then[]else[listM [wordM opGoal,fmW goal]]:=rfl
   generalize hX:fmW goal=X at hW hgE
   obtain⟨gop,gname,gargs,gparams,gexprs,gkids⟩:=goal
   obtain⟨ki,va,li,co,te,ks⟩:=X
   simp only[Pb.cells,Fm.cells,List.cons_append,List.nil_append,Sx.cells]at hW hE⊢
   have hwd: ∀ (s:ByteArray)(h:Heap),PCall Try.prog 22 [sPV s] h fun r h'=>r= .agg (wordM s).cells∧h'=h:=fun s h=>pword_c
   simp only[wordM,Sx.cells,Sx.rows]at hwd
   have hl2:=fun(a b:ByteArray)(h:Heap)=>plist_c (h:=h) (p:= .imm 6 (Sx.rows [wordM a,wordM b])) rfl (fun _=>frz_imm (sxs_in _ _))
   simp only[wordM,Sx.cells,Sx.rows]at hl2
   refine pcall_body (ow:=fun t=>t==40||t==49||t==67) (wf:=fun _=>false) Ty.mixed Try.func8 rfl Ty.hb_8 (by rw[Try.ntmps8];simp) ?_
   rw[Try.ntmps8,Try.results8]
   repeat'(first|refine a_seq fun K hK=>?_|(refine a_regionS ?_;simp(maxSteps:=2000000) only[Ty.w,simprocAttr])|(refine hK _ _ ?_;clear hK;try simp only[pst0,simprocAttr]))
   refine owp_useQ (hW _) (by(try simp only[Ty.w,simprocAttr,]);try rfl) ?_;simp(maxSteps:=2000000) only[Ty.w,simprocAttr,]
   repeat'(first|(with_reducible refine a_hold 2 ?_)|(refine hK _ _ ?_;clear hK;try simp only[pst0,simprocAttr]))
   refine⟨?_⟩
   refine a_tmp (h:=h.new (.arr 6 [sxZ])) 4 rfl (by simp only[Ty.w,simprocAttr]) (sx_frz' · · ki va li co te ks) ?_
   refine a_gen (fun S H=>S 1= .cptr [sPV name,sPV domain,.imm 2 (pmRows objects),.imm 2 (atRows init),.imm 3 (vlRows values),sPV gop,sPV gname,.imm 1 (strRows gargs),.imm 2 (pmRows gparams),.imm 5 (Ex.rows gexprs),.imm 6 (Fm.rows gkids)]∧S 2= .ptr h.next 0 0∧S 4= .cptr [.sc (.int .i64 ki),.sc (.int .i64 va),.sc (.int .i64 li),.sc (.int .i64 co),sPV te,.imm 6 (Sx.rows ks)]∧S 5= .sc .nilIface∧H=tmpH (h.new (.arr 6 [sxZ])) (.arr 6 [sxZ]) (.arr 6 [[.sc (.int .i64 ki),.sc (.int .i64 va),.sc (.int .i64 li),.sc (.int .i64 co),sPV te,.imm 6 (Sx.rows ks)]])) ⟨by simp only[Ty.w,simprocAttr],by simp only[Ty.w,simprocAttr],by simp only[Ty.w,simprocAttr],by simp only[Ty.w,simprocAttr],rfl⟩ ?_
   clear hW
   rintro S H ⟨s1,s2,s4,s5,hH⟩
   have hn:H.next=h.next+2:=by rw[hH];try rfl
   have hg:Grow h H:=by rw[hH];exact((Grow.refl h).new _).tmp _ _
   have ho:H.obj h.next=some (.arr 6 [sxZ]):=by rw[hH,tmpH_obj (Nat.lt_succ_self _)];simp[Heap.new]
   have hno: ∀ j,h.next<j→H.obj j=none:=fun j hj=>by
    rw[hH]
    simp only[tmpH,below]
    split
    ·rename_i hjj;simp only[Heap.new]at hjj;omega
    ·rfl
   clear hH
   repeat'(first|refine a_seq fun K hK=>?_|(refine a_regionS ?_;simp(maxSteps:=2000000) only[Ty.w,simprocAttr,s1,s2,s4,s5]))
   refine owp_useQ (hE _) (by(try simp only[Ty.w,simprocAttr,s1,s2,s4,s5,Bool.not_true]);try rfl) ?_;simp(maxSteps:=2000000) only[Ty.w,simprocAttr,s1,s2,s4,s5,Bool.not_true]
   repeat'(first|(with_reducible refine a_holdR 4 ?_)|(refine a_skip ?_;try simp only[pst0,simprocAttr])|(refine a_cond _ (by(try simp(maxSteps:=2000000) only[Ty.w,simprocAttr,s1,s2,s4,s5,Bool.not_true]);rfl) (fun hb=>?_) (fun hb=>?_)<;>(try simp only[hb0,decide_eq_true_eq,decide_eq_false_iff_not,simprocAttr]at hb)<;>(try(exfalso;omega)))|(refine hK _ _ ?_;clear hK;try simp only[pst0,simprocAttr]))
   refine⟨?_⟩
   refine a_gen (fun S H'=>S 1= .cptr [sPV name,sPV domain,.imm 2 (pmRows objects),.imm 2 (atRows init),.imm 3 (vlRows values),sPV gop,sPV gname,.imm 1 (strRows gargs),.imm 2 (pmRows gparams),.imm 5 (Ex.rows gexprs),.imm 6 (Fm.rows gkids)]∧S 2= .ptr h.next 0 0∧S 4= .cptr [.sc (.int .i64 ki),.sc (.int .i64 va),.sc (.int .i64 li),.sc (.int .i64 co),sPV te,.imm 6 (Sx.rows ks)]∧H'=H) ⟨by simp only[Ty.w,simprocAttr,s1],by simp only[Ty.w,simprocAttr,s2],by simp only[Ty.w,simprocAttr,s4],rfl⟩ ?_
   clear s1 s2 s4 s5 hE
   rintro S H' ⟨s1,s2,s4,rfl⟩
   refine a_seq (fun K hK=>?_)
   refine a_draw2S [15] (by decide+kernel) (by decide+kernel) ?_
   have hn15:H'.obj (H'.next+15)=none:=hno _ (by omega)
   have u1:(H'.next=H'.next+2)=False:=eq_false (by omega)
   simp(maxSteps:=4000000) only[drn2,Ty.w,simprocAttr,Ty.all,List.forall_mem_cons,s1,s2,s4,hn15,u1]
   first
    |refine a_dcall2 [15] (by decide+kernel) (hwd _ _) (by(try simp only[Ty.w,simprocAttr,s1,s2,s4,hn15,u1]);try rfl) ?_
    |refine a_dcall2A [15] (by decide+kernel) (hwd _ _) (by(try simp only[Ty.w,simprocAttr,s1,s2,s4,hn15,u1]);try rfl) (by simp only[Ty.w,simprocAttr,Ty.all,s1,s2,s4,hn15,u1];try trivial) ?_
   simp(maxSteps:=4000000) only[drn2,Ty.w,simprocAttr,Ty.all,List.forall_mem_cons,List.nil_append,s1,s2,s4,hn15,u1]
   first
    |refine a_dcall2 [15] (by decide+kernel) (hwd _ _) (by(try simp only[Ty.w,simprocAttr,s1,s2,s4,hn15,u1]);try rfl) ?_
    |refine a_dcall2A [15] (by decide+kernel) (hwd _ _) (by(try simp only[Ty.w,simprocAttr,s1,s2,s4,hn15,u1]);try rfl) (by simp only[Ty.w,simprocAttr,Ty.all,s1,s2,s4,hn15,u1];try trivial) ?_
   simp(maxSteps:=4000000) only[drn2,Ty.w,simprocAttr,Ty.all,List.forall_mem_cons,List.nil_append,s1,s2,s4,hn15,u1]
   first
    |refine a_dcall2 [15] (by decide+kernel) (hwd _ _) (by(try simp only[Ty.w,simprocAttr,s1,s2,s4,hn15,u1]);try rfl) ?_
    |refine a_dcall2A [15] (by decide+kernel) (hwd _ _) (by(try simp only[Ty.w,simprocAttr,s1,s2,s4,hn15,u1]);try rfl) (by simp only[Ty.w,simprocAttr,Ty.all,s1,s2,s4,hn15,u1];try trivial) ?_
   simp(maxSteps:=4000000) only[drn2,Ty.w,simprocAttr,Ty.all,List.forall_mem_cons,List.nil_append,s1,s2,s4,hn15,u1]
   first
    |refine a_dcall2 [15] (by decide+kernel) (hl2 _ _ _) (by(try simp only[Ty.w,simprocAttr,s1,s2,s4,hn15,u1]);try rfl) ?_
    |refine a_dcall2A [15] (by decide+kernel) (hl2 _ _ _) (by(try simp only[Ty.w,simprocAttr,s1,s2,s4,hn15,u1]);try rfl) (by simp only[Ty.w,simprocAttr,Ty.all,s1,s2,s4,hn15,u1];try trivial) ?_
   simp(maxSteps:=4000000) only[drn2,Ty.w,simprocAttr,Ty.all,List.forall_mem_cons,List.nil_append,s1,s2,s4,hn15,u1]
   first
    |refine a_dcall2 [15] (by decide+kernel) (hwd _ _) (by(try simp only[Ty.w,simprocAttr,s1,s2,s4,hn15,u1]);try rfl) ?_
    |refine a_dcall2A [15] (by decide+kernel) (hwd _ _) (by(try simp only[Ty.w,simprocAttr,s1,s2,s4,hn15,u1]);try rfl) (by simp only[Ty.w,simprocAttr,Ty.all,s1,s2,s4,hn15,u1];try trivial) ?_
   simp(maxSteps:=4000000) only[drn2,Ty.w,simprocAttr,Ty.all,List.forall_mem_cons,List.nil_append,s1,s2,s4,hn15,u1]
   first
    |refine a_dcall2 [15] (by decide+kernel) (hwd _ _) (by(try simp only[Ty.w,simprocAttr,s1,s2,s4,hn15,u1]);try rfl) ?_
    |refine a_dcall2A [15] (by decide+kernel) (hwd _ _) (by(try simp only[Ty.w,simprocAttr,s1,s2,s4,hn15,u1]);try rfl) (by simp only[Ty.w,simprocAttr,Ty.all,s1,s2,s4,hn15,u1];try trivial) ?_
   simp(maxSteps:=4000000) only[drn2,Ty.w,simprocAttr,Ty.all,List.forall_mem_cons,List.nil_append,s1,s2,s4,hn15,u1]
   first
    |refine a_dcall2 [15] (by decide+kernel) (hl2 _ _ _) (by(try simp only[Ty.w,simprocAttr,s1,s2,s4,hn15,u1]);try rfl) ?_
    |refine a_dcall2A [15] (by decide+kernel) (hl2 _ _ _) (by(try simp only[Ty.w,simprocAttr,s1,s2,s4,hn15,u1]);try rfl) (by simp only[Ty.w,simprocAttr,Ty.all,s1,s2,s4,hn15,u1];try trivial) ?_
   simp(maxSteps:=4000000) only[drn2,Ty.w,simprocAttr,Ty.all,List.forall_mem_cons,List.nil_append,s1,s2,s4,hn15,u1]
   refine⟨?_,?_⟩
   ·(repeat' apply And.intro)<;>exact .inl (by decide+kernel)
   refine a_dcall2A [15] (by decide+kernel) (plist_c (p:= .own (H'.next+17) 0 3) rfl (fun _=>frz_own (by simp[Heap.new]))) (by(try simp only[Ty.w,simprocAttr,s1,s2,s4,hn15,u1]);try rfl) (.inl (by decide+kernel)) ?_
   simp(maxSteps:=4000000) only[drn2,Ty.w,simprocAttr,Ty.all,List.forall_mem_cons,List.nil_append,s1,s2,s4,hn15,u1]
   have hl3: ∀ h:Heap,H'.next+17<h.next→PCall Try.prog 21 [.own (H'.next+17) 0 3] h fun r h'=>r= .agg [.sc (.int .i64 3),.sc (.int .i64 0),.sc (.int .i64 0),.sc (.int .i64 0),.sc (.string ⟨#[]⟩),.own (H'.next+17) 0 3]∧h'=h:=fun h hh=>plist_c rfl (fun _=>frz_own hh)
   refine⟨?_,?_⟩
   ·(repeat' apply And.intro)<;>first
     |exact .inl (by decide+kernel)
     |exact .inr (Does_use (hwd _ _) (by(try simp only[Ty.w,simprocAttr,s1,s2,s4,hn15,u1]);try rfl))
     |exact .inr (Does_use (hl2 _ _ _) (by(try simp only[Ty.w,simprocAttr,s1,s2,s4,hn15,u1]);try rfl))
     |exact .inr (Does_use (hl3 _ (by simp[Heap.new,Heap.set])) (by(try simp only[Ty.w,simprocAttr,s1,s2,s4,hn15,u1]);try rfl))
   refine⟨?_,?_⟩
   ·(repeat' apply And.intro)<;>first
     |exact .inl (by decide+kernel)
     |exact .inr (Does_use (hwd _ _) (by(try simp only[Ty.w,simprocAttr,s1,s2,s4,hn15,u1]);try rfl))
   refine hK _ _ ?_
   clear hK
   have e15:H'.next+15=h.next+17:=by omega
   refine a_gen (fun S H=>S 1= .cptr [sPV name,sPV domain,.imm 2 (pmRows objects),.imm 2 (atRows init),.imm 3 (vlRows values),sPV gop,sPV gname,.imm 1 (strRows gargs),.imm 2 (pmRows gparams),.imm 5 (Ex.rows gexprs),.imm 6 (Fm.rows gkids)]∧S 2= .ptr h.next 0 0∧S 4= .cptr [.sc (.int .i64 ki),.sc (.int .i64 va),.sc (.int .i64 li),.sc (.int .i64 co),sPV te,.imm 6 (Sx.rows ks)]∧S 6= .ptr (h.next+17) 0 0∧PwI h [wordM opDef,nameS opPrb name,nameS opDom domain] H) ⟨by simp only[Ty.w,simprocAttr,s1],by simp only[Ty.w,simprocAttr,s2],by simp only[Ty.w,simprocAttr,s4],by simp only[Ty.w,simprocAttr,e15],?_⟩ ?_
   ·have hgx:Grow h ⟨H'.next+17,H'.obj⟩:=⟨by simp only;omega,hg.old⟩
    refine GrI.mk2 (p:= .own (H'.next+17) 0 3) (((hgx.new _).set (by omega) _).set (by omega) _) ⟨Nat.le_refl _,by omega,by omega,by omega,by simp only[Heap.set,Heap.new];omega,by omega⟩ ?_ ?_ ?_
    ·simp only[Heap.set,Heap.new]
     repeat rw[if_neg (by omega)]
     exact ho
    ·simp only[Heap.set]
     rw[if_pos e15.symm];try rfl
    ·refine .inr ⟨H'.next+17,by omega,by simp[Heap.set,Heap.new],rfl,?_⟩
     simp only[Heap.set,Heap.new]
     repeat rw[if_neg (by omega)]
     rw[if_pos trivial];try rfl
   clear s1 s2 s4 hn15 u1 e15 hn hg ho hno hl3 hl2
   rintro S H ⟨s1,s2,s4,s6,hI⟩
   refine a_cut (fun S H=>S 1= .cptr [sPV name,sPV domain,.imm 2 (pmRows objects),.imm 2 (atRows init),.imm 3 (vlRows values),sPV gop,sPV gname,.imm 1 (strRows gargs),.imm 2 (pmRows gparams),.imm 5 (Ex.rows gexprs),.imm 6 (Fm.rows gkids)]∧S 2= .ptr h.next 0 0∧S 4= .cptr [.sc (.int .i64 ki),.sc (.int .i64 va),.sc (.int .i64 li),.sc (.int .i64 co),sPV te,.imm 6 (Sx.rows ks)]∧S 6= .ptr (h.next+17) 0 0∧(PwI h ([wordM opDef,nameS opPrb name,nameS opDom domain]++objsW objects) H∨PwJ h ([wordM opDef,nameS opPrb name,nameS opDom domain]++objsW objects) H)) ?_ ?_
   ·cases dO:decide ((objects.length:Int)>0)with
    |false=>
     have e:objects=[]:=by
      cases objects with
      |nil=>rfl
      |cons=>simp at dO
     subst e
     repeat'(first|refine a_seq fun K hK=>?_|(refine a_regionS ?_;simp(maxSteps:=2000000) only[Ty.w,simprocAttr,s1,s2,s4,s6,hlO,dO])|(refine a_skip ?_;try simp only[pst0,simprocAttr])|(refine a_cond _ (by(try simp(maxSteps:=2000000) only[Ty.w,simprocAttr,s1,s2,s4,s6,hlO,dO]);rfl) (fun hb=>?_) (fun hb=>?_)<;>(try simp only[hb0,decide_eq_true_eq,decide_eq_false_iff_not,simprocAttr]at hb)<;>(try(exfalso;omega)))|(refine hK _ _ ?_;clear hK;try simp only[pst0,simprocAttr]))
     exact⟨s1,s2,s4,s6,.inl hI⟩
    |true=>
     have hob:objsW objects=[objsS objects]:=by
      cases objects with
      |nil=>simp at dO
      |cons=>rfl
     have hWP:=fun h:Heap=>writeParams_c (l:=objects) hsm.o h
     have hpl:(Sx.rows (paramsW objects)).length=3*objects.length:=by rw[Sx.rows_len,paramsW_len]
     have hos:=hsm.o
     simp only at hos
     rw[hob]
     obtain⟨hg,ids,o1,p,Hk,o2,tl,t1,t2,t3,t4,hgH,hpc,hp1⟩:=hI
     simp only[sxP,List.cons_append,List.nil_append]at o2
     have hrow:objsS objects=listM (wordM opObjs::paramsW objects):=rfl
     generalize hPR:paramsW objects=PR at hWP hpl hrow
     have hb1:(1+3*objects.length)*72≤140737488355328:=by omega
     have n1:(h.next+17=H.next)=False:=eq_false (by omega)
     have n2:(h.next+17=H.next+1)=False:=eq_false (by omega)
     have hwr:(PV.sc (.int .i64 1)::PV.sc (.int .i64 0)::PV.sc (.int .i64 0)::PV.sc (.int .i64 0)::sPV ⟨#[58,111,98,106,101,99,116,115]⟩::[PV.imm 6 []])::Sx.rows PR=Sx.rows (wordM opObjs::PR):=rfl
     obtain⟨RX,hRX⟩: ∃ RX,RX=Sx.rows (wordM opObjs::PR):=⟨_,rfl⟩
     rw[← hRX]at hwr
     have hl5:RX.length=1+3*objects.length:=by rw[hRX,Sx.rows_len,List.length_cons, ← hpl,Sx.rows_len];omega
     have tl2:=fun a=>tl.up (h':=(((H.new a).kill H.next).new (.arr 6 RX))) (show H.next≤H.next+1+1 by omega) (fun j _ hj=>obj_lit hj)
     have hg2:=fun a=>(((hg.new a).kill (show h.next≤H.next by omega)).new (.arr 6 RX))
     have hl3: ∀ (k:Nat)(h:Heap),k<h.next→PCall Try.prog 21 [.own k 0 (1+3*objects.length)] h fun r h'=>r= .agg [.sc (.int .i64 3),.sc (.int .i64 0),.sc (.int .i64 0),.sc (.int .i64 0),.sc (.string ⟨#[]⟩),.own k 0 (1+3*objects.length)]∧h'=h:=fun k h hh=>plist_c rfl (fun _=>frz_own hh)
     have hL3:(Sx.rows [wordM opDef,nameS opPrb name,nameS opDom domain]).length=3:=rfl
     generalize hLL:[wordM opDef,nameS opPrb name,nameS opDom domain]=L3 at tl tl2 t1 hL3⊢
     have W:=And.intro s1 (And.intro s2 (And.intro s4 (And.intro s6 (And.intro o2 (And.intro n1 n2)))))
     repeat'(first|refine a_seq fun K hK=>?_|((first|refine a_regionS ?_|refine a_drawS (by decide+kernel) ?_);simp(maxSteps:=2000000) only[Ty.w,simprocAttr,W,hlO,dO])|(refine a_cond _ (by(try simp(maxSteps:=2000000) only[Ty.w,simprocAttr,W,hlO,dO]);rfl) (fun hb=>?_) (fun hb=>?_)<;>(try simp only[hb0,decide_eq_true_eq,decide_eq_false_iff_not,simprocAttr]at hb)<;>(try(exfalso;omega)))|(refine hK _ _ ?_;clear hK;try simp only[pst0,simprocAttr]))
     (first|refine a_dcall0 (hwd _ _) (by(try simp only[Ty.w,simprocAttr,W]);try rfl) ?_|refine a_dcallA (hwd _ _) (by(try simp only[Ty.w,simprocAttr,W]);try rfl) (by simp only[Ty.w,simprocAttr,W];try trivial) ?_);simp(maxSteps:=2000000) only[Ty.w,simprocAttr,W,Option.getD_some]
     repeat'(with_reducible refine a_past2 (by simp only[List.forall_mem_cons,Ty.w,simprocAttr,s1,s2,s4,s6,o2,n1,n2]<;>(repeat' apply And.intro)<;>first|trivial|exact .inl (by decide+kernel)) ?_;try simp(maxSteps:=2000000) only[Ty.w,simprocAttr,W])
     refine a_dcallA (hWP _) (by(try simp only[Ty.w,simprocAttr,W]);try rfl) (by intro x hx;exact .inr (Does_use (hWP _) (by(try simp only[Ty.w,simprocAttr,W]);try rfl))) ?_
     simp(maxSteps:=2000000) only[Ty.w,simprocAttr,W,Ty.all,Option.getD_some,hpl,hb1]
     repeat'(with_reducible refine a_past2 (by simp only[List.forall_mem_cons,Ty.w,simprocAttr,s1,s2,s4,s6,o2,n1,n2,hpl,hb1,hwr]<;>(repeat' apply And.intro)<;>first|trivial|exact .inl (by decide+kernel)) ?_;try simp(maxSteps:=2000000) only[Ty.w,simprocAttr,W,hpl,hb1,hwr])
     generalize hA:AObj.arr 6 [[PV.sc (.int .i64 1),PV.sc (.int .i64 0),PV.sc (.int .i64 0),PV.sc (.int .i64 0),sPV ⟨#[58,111,98,106,101,99,116,115]⟩,PV.imm 6 []]]=A1
     have tl2:=tl2 A1
     have hg2:=hg2 A1
     obtain⟨H3,u1,u2,u3,u4,u5⟩:=tl2.tail
     have hgH3:=u5 h ⟨hg2.le,hg2.old⟩ (by omega)
     have u3':H3.next=H.next+2:=u3
     have o2H:H3.obj (h.next+17)=_:=(u4 _ (by omega)).trans (show _=some (AObj.arr 6 [[.sc (.int .i64 3),.sc (.int .i64 0),.sc (.int .i64 0),.sc (.int .i64 0),.sc (.string ⟨#[]⟩),p]])from(obj_lit (by omega)).trans o2)
     have n3:(h.next+17=H3.next)=False:=eq_false (by omega)
     have n4:(h.next+17=H.next+2)=False:=eq_false (by omega)
     refine a_dcallA (hl3 (H.next+1) _ (Nat.lt_succ_self _)) (by(try simp only[Ty.w,simprocAttr,s1,s2,s4,s6,o2,n1,n2]);try rfl) (by simp only[List.forall_mem_cons];exact⟨.inl (by decide+kernel),.inl (by decide+kernel),fun _ h=>by cases h⟩) ?_
     simp(maxSteps:=2000000) only[Ty.w,simprocAttr,Ty.all,Option.getD_some,s1,s2,s4,s6,o2,n1,n2,hpl,hb1,u1,u2,u3',hL3,o2H,n3,n4,hpc,hp1]
     repeat'(with_reducible refine a_past2 (by simp only[List.forall_mem_cons,Ty.w,simprocAttr,s1,s2,s4,s6,o2,n1,n2,hpl,hb1,u1,u2,u3',hL3,o2H,n3,n4,hpc,hp1]<;>(repeat' apply And.intro)<;>first|trivial|exact .inl (by decide+kernel)) ?_;try simp(maxSteps:=2000000) only[Ty.w,simprocAttr,s1,s2,s4,s6,o2,n1,n2,hpl,hb1,u1,u2,u3',hL3,o2H,n3,n4,hpc,hp1])
     refine .inr (GrJ.push (X:=H.next+1) (z:=6) (RX:=RX) (m:=4) (r':=(objsS objects).cells) ⟨hgH3.1,hgH3.2⟩ ⟨ids.1,ids.2.1,ids.2.2.1,ids.2.2.2.1,by omega,ids.2.2.2.2.2⟩ (by rw[u4 _ (by omega),obj_lit (by omega)];exact o1) ?_ (by omega) (by omega) u3' (by rw[hL3]) (by simp[Sx.rows_map]) ?_)
     ·rw [isTail_keep tl u1 (Nat.le_succ _)]
      simp only[Heap.new,Heap.kill,if_true]
     ·rw [hrow]
      simp only[listM,Sx.cells,GvL]
      exact⟨.inl rfl,.inl rfl,.inl rfl,.inl rfl,.inl rfl,.inr ⟨by rw[hl5],by rw[hRX]⟩,trivial⟩
   ·clear s1 s2 s4 s6 hI
    rintro S H ⟨s1,s2,s4,s6,hI⟩
    refine a_giveO rfl hI ?_
    clear hI
    intro H hI
    generalize hL1:[wordM opDef,nameS opPrb name,nameS opDom domain]++objsW objects=L1 at hI
    have hL1n:L1.length≤4:=by
     rw[← hL1]
     unfold objsW
     split<;>simp
    refine a_cut (fun S H=>S 1= .cptr [sPV name,sPV domain,.imm 2 (pmRows objects),.imm 2 (atRows init),.imm 3 (vlRows values),sPV gop,sPV gname,.imm 1 (strRows gargs),.imm 2 (pmRows gparams),.imm 5 (Ex.rows gexprs),.imm 6 (Fm.rows gkids)]∧S 2= .ptr h.next 0 0∧S 4= .cptr [.sc (.int .i64 ki),.sc (.int .i64 va),.sc (.int .i64 li),.sc (.int .i64 co),sPV te,.imm 6 (Sx.rows ks)]∧S 6= .ptr (h.next+17) 0 0∧PwI h (L1++initW init values) H) ?_ ?_
    ·have wl:IntKind.i64.wrap ((init.length:Int)+values.length)=init.length+values.length:=by
      have h1:=hsm.i
      have h2:=hsm.v
      simp only at h1 h2
      rw[wrap64 (by omega) (by omega)]
     cases dI:decide ((init.length:Int)+values.length>0)with
     |false=>
      have e1:init=[]:=by
       cases init with
       |nil=>rfl
       |cons=>simp at dI;omega
      have e2:values=[]:=by
       cases values with
       |nil=>rfl
       |cons=>simp at dI;omega
      have hin:initW init values=[]:=by rw[e1,e2];try rfl
      repeat'(first|refine a_seq fun K hK=>?_|(refine a_regionS ?_;simp(maxSteps:=2000000) only[Ty.w,simprocAttr,s1,s2,s4,s6,hlI,hlV,wl,dI])|(refine a_skip ?_;try simp only[pst0,simprocAttr])|(refine a_cond _ (by(try simp(maxSteps:=2000000) only[Ty.w,simprocAttr,s1,s2,s4,s6,hlI,hlV,wl,dI]);rfl) (fun hb=>?_) (fun hb=>?_)<;>(try simp only[hb0,decide_eq_true_eq,decide_eq_false_iff_not,simprocAttr]at hb)<;>(try(exfalso;omega)))|(refine hK _ _ ?_;clear hK;try simp only[pst0,simprocAttr]))
      refine⟨s1,s2,s4,s6,?_⟩
      rw[hin,List.append_nil]
      exact hI
     |true=>
      have hin:initW init values=[initS init values]:=by
       unfold initW
       rw[if_neg]
       intro hh
       simp only[Bool.and_eq_true,List.isEmpty_iff]at hh
       obtain⟨rfl,rfl⟩:=hh
       simp at dI
      repeat'(first|refine a_seq fun K hK=>?_|(refine a_regionS ?_;simp(maxSteps:=2000000) only[Ty.w,simprocAttr,s1,s2,s4,s6,hlI,hlV,wl,dI])|(refine hK _ _ ?_;clear hK;try simp only[pst0,simprocAttr]))
      refine owp_useQ (hwd _ _) (by(try simp only[Ty.w,simprocAttr,]);try rfl) ?_;simp(maxSteps:=2000000) only[Ty.w,simprocAttr,]
      skip
      refine owp_useQ (plist_c (p:= .own H.next 0 1) rfl (fun _=>frz_own (Nat.lt_succ_self _))) (by(try simp only[Ty.w,simprocAttr,]);try rfl) ?_;simp(maxSteps:=2000000) only[Ty.w,simprocAttr,]
      repeat'(first|(with_reducible refine a_hold 9 ?_)|(refine hK _ _ ?_;clear hK;try simp only[pst0,simprocAttr]))
      refine⟨?_⟩
      refine a_gen (fun S H'=>S 1= .cptr [sPV name,sPV domain,.imm 2 (pmRows objects),.imm 2 (atRows init),.imm 3 (vlRows values),sPV gop,sPV gname,.imm 1 (strRows gargs),.imm 2 (pmRows gparams),.imm 5 (Ex.rows gexprs),.imm 6 (Fm.rows gkids)]∧S 2= .ptr h.next 0 0∧S 4= .cptr [.sc (.int .i64 ki),.sc (.int .i64 va),.sc (.int .i64 li),.sc (.int .i64 co),sPV te,.imm 6 (Sx.rows ks)]∧S 6= .ptr (h.next+17) 0 0∧S 7= .ptr (H.next+1) 0 0∧GrV H (H.next+1) H.next 6 6 sxP [] (Sx.rows ([wordM opInit])) H') ⟨by simp only[Ty.w,simprocAttr,s1],by simp only[Ty.w,simprocAttr,s2],by simp only[Ty.w,simprocAttr,s4],by simp only[Ty.w,simprocAttr,s6],by simp only[Ty.w,simprocAttr],?_⟩ ?_
      ·refine GrV.mk2 (p:= .own H.next 0 1) ((((Grow.refl H).new _).new _).set (Nat.le_succ _) _) ⟨Nat.le_succ _,Nat.le_refl _,show H.next+1<H.next+2 by omega⟩ obj_at (.inr ⟨H.next,Nat.le_refl _,show H.next<H.next+2 by omega,rfl,?_⟩) ?_
       ·rw [obj_set (by omega),obj_new (show H.next<H.next+1 by omega)]
        simp only[Heap.new,if_true];rfl
       ·intro id he
        simp only[PV.own.injEq]at he
        omega
      clear s1 s2 s4 s6
      rintro S H1 ⟨s1,s2,s4,s6,s7,hV⟩
      repeat'(first|refine a_seq fun K hK=>?_|(refine a_block ?_)|(refine a_regionS ?_;simp(maxSteps:=2000000) only[Ty.w,simprocAttr,s1,hlI])|(refine hK _ _ ?_;clear hK;try simp only[pst0,simprocAttr]))
      refine a_loop (fun m S h'=>S 1= .cptr [sPV name,sPV domain,.imm 2 (pmRows objects),.imm 2 (atRows init),.imm 3 (vlRows values),sPV gop,sPV gname,.imm 1 (strRows gargs),.imm 2 (pmRows gparams),.imm 5 (Ex.rows gexprs),.imm 6 (Fm.rows gkids)]∧S 2= .ptr h.next 0 0∧S 4= .cptr [.sc (.int .i64 ki),.sc (.int .i64 va),.sc (.int .i64 li),.sc (.int .i64 co),sPV te,.imm 6 (Sx.rows ks)]∧S 6= .ptr (h.next+17) 0 0∧S 7= .ptr (H.next+1) 0 0∧S 70= .imm 2 (atRows init)∧S 71= .sc (.int .i64 init.length)∧ ∃ k:Nat,S 72= .sc (.int .i64 k)∧k≤init.length∧m=init.length-k∧GrV H (H.next+1) H.next 6 6 sxP [] (Sx.rows (wordM opInit::(init.take k).map atW)) h') init.length ?_ ?_
      ·simp only[Ty.w,simprocAttr,s1,s2,s4,s6,s7]
       exact⟨0,rfl,by omega,rfl,hV⟩
      ·clear hV s1 s2 s4 s6 s7
       rintro m S h' ⟨s1,s2,s4,s6,s7,s70,s71,k,s72,hk,rfl,hV⟩
       by_cases hlt:k<init.length
       ·have hd:decide ((k:Int)<(init.length:Int))=true:=by simp;omega
        have w7:IntKind.i64.wrap ((k:Int)+1)=k+1:=by have:=hsm.i;simp only at this;rw[wrap64 (by omega) (by omega)]
        obtain⟨a,hx⟩: ∃ a,init[k]? =some a:=⟨_,List.getElem?_eq_getElem hlt⟩
        have hr:=atRows_get hx
        have hwa:=fun h:Heap=>writeAtom_c (h:=h) (first:=a.name) (l:=a.args) (hsm.ia a (List.mem_of_getElem? hx))
        have hR2:Sx.rows (wordM opInit::(init.take (k+1)).map atW)=Sx.rows (wordM opInit::(init.take k).map atW)++[(wordsM a.name a.args).cells]:=by
         rw[List.take_add_one,hx]
         simp[Sx.rows_map,atW]
        have hpr:(Sx.rows (wordM opInit::(init.take k).map atW)).length=k+1:=by rw[Sx.rows_len];simp;omega
        generalize Sx.rows (wordM opInit::(init.take k).map atW)=R at hV hR2 hpr
        generalize wordsM a.name a.args=X at hwa hR2
        obtain⟨ki2,va2,li2,co2,te2,ks2⟩:=X
        simp only[Sx.cells]at hwa hR2
        repeat'(first|(with_reducible refine a_holdB 12 ?_)|refine a_seq fun K hK=>?_|(refine a_regionS ?_;simp(maxSteps:=2000000) only[Ty.w,simprocAttr,s1,s2,s4,s6,s7,s70,s71,s72,hd,hr])|(refine a_skip ?_;try simp only[pst0,simprocAttr])|(refine a_cond _ (by(try simp(maxSteps:=2000000) only[Ty.w,simprocAttr,s1,s2,s4,s6,s7,s70,s71,s72,hd,hr]);rfl) (fun hb=>?_) (fun hb=>?_)<;>(try simp only[hb0,decide_eq_true_eq,decide_eq_false_iff_not,simprocAttr]at hb)<;>(try(exfalso;omega)))|(refine hK _ _ ?_;clear hK;try simp only[pst0,simprocAttr]))
        refine⟨?_⟩
        refine a_tmp 9 rfl (by simp only[Ty.w,simprocAttr]) (fun n H=>by simp only[FrzL,FrzTo,and_true,true_and];exact .inl (strs_in _ _)) ?_
        refine a_gen (fun S H'=>S 1= .cptr [sPV name,sPV domain,.imm 2 (pmRows objects),.imm 2 (atRows init),.imm 3 (vlRows values),sPV gop,sPV gname,.imm 1 (strRows gargs),.imm 2 (pmRows gparams),.imm 5 (Ex.rows gexprs),.imm 6 (Fm.rows gkids)]∧S 2= .ptr h.next 0 0∧S 4= .cptr [.sc (.int .i64 ki),.sc (.int .i64 va),.sc (.int .i64 li),.sc (.int .i64 co),sPV te,.imm 6 (Sx.rows ks)]∧S 6= .ptr (h.next+17) 0 0∧S 7= .ptr (H.next+1) 0 0∧S 70= .imm 2 (atRows init)∧S 71= .sc (.int .i64 init.length)∧S 72= .sc (.int .i64 k)∧S 9= .cptr [sPV a.name,.imm 1 (strRows a.args)]∧GrV H (H.next+1) H.next 6 6 sxP [] R H') ⟨by simp only[Ty.w,simprocAttr,s1],by simp only[Ty.w,simprocAttr,s2],by simp only[Ty.w,simprocAttr,s4],by simp only[Ty.w,simprocAttr,s6],by simp only[Ty.w,simprocAttr,s7],by simp only[Ty.w,simprocAttr,s70],by simp only[Ty.w,simprocAttr,s71],by simp only[Ty.w,simprocAttr,s72],by simp only[Ty.w,simprocAttr],hV.tmp _ _⟩ ?_
        clear hV s1 s2 s4 s6 s7 s70 s71 s72 hr hd
        rintro S h' ⟨s1,s2,s4,s6,s7,s70,s71,s72,s9,hV⟩
        obtain⟨hg,ids,p,Hk,o2,tl,t1,t2,t3,t4,hgH,hpc,hp1⟩:=hV
        simp only[sxP,List.cons_append,List.nil_append]at o2
        have o2H:=t4.trans o2
        have n1:(H.next+1=h'.next)=False:=eq_false (by omega)
        have hb:(k+1+1)*72≤140737488355328:=by have:=hsm.i;simp only at this;omega
        have hpush:=GrV.push (m:=k+1+1) (zo:=6) (zl:=6) (pre:=sxP) (post:=[]) (R:=R) [.sc (.int .i64 ki2),.sc (.int .i64 va2),.sc (.int .i64 li2),.sc (.int .i64 co2),sPV te2,.imm 6 (Sx.rows ks2)] hgH ids (by omega) t3 (by omega)
        rw[← hR2]at hpush
        simp only[sxP,List.cons_append,List.nil_append]at hpush
        have W:=And.intro s1 (And.intro s7 (And.intro s2 (And.intro s9 (And.intro s4 (And.intro s70 (And.intro s6 (And.intro s71 (And.intro s72 (And.intro o2 (And.intro o2H (And.intro n1 (And.intro t1 (And.intro t2 (And.intro t3 (And.intro hpr (And.intro hb (And.intro hpc (And.intro hp1 w7))))))))))))))))))
        repeat'(refine a_draw (by decide+kernel) (fun K hK=>?_);simp(maxSteps:=2000000) only[Ty.w,simprocAttr,W])
        (first|refine a_dcall0 (hwa _) (by(try simp only[Ty.w,simprocAttr,W]);try rfl) ?_|refine a_dcallA (hwa _) (by(try simp only[Ty.w,simprocAttr,W]);try rfl) (by simp only[Ty.w,simprocAttr,W];try trivial) ?_);simp(maxSteps:=2000000) only[Ty.w,simprocAttr,W,Option.getD_some]
        repeat'(first|(refine a_regionS ?_;simp(maxSteps:=2000000) only[Ty.w,simprocAttr,W, ← hR2])|(refine hK _ _ ?_;clear hK;try simp only[pst0,simprocAttr])|(with_reducible refine a_past2 (by simp only[List.forall_mem_cons,Ty.w,simprocAttr,s1,s2,s4,s6,s7,s70,s71,s72,o2,o2H,n1,t1,t2,t3,hpr,hb,hpc,hp1, ← hR2,w7]<;>(repeat' apply And.intro)<;>first|trivial|exact .inl (by decide+kernel)) ?_;try simp(maxSteps:=2000000) only[Ty.w,simprocAttr,W, ← hR2])|(rw[if_pos];rotate_left 1;omega;simp(maxSteps:=2000000) only[Ty.w,simprocAttr,W, ← hR2]))
        exact⟨init.length-(k+1),by omega,k+1,by simp,by omega,rfl,hpush⟩
       ·have hd:decide ((k:Int)<(init.length:Int))=false:=by simp;omega
        have hke:k=init.length:=by omega
        subst hke
        rw[List.take_length]at hV
        repeat'(first|(with_reducible refine a_hold 14 ?_)|refine a_seq fun K hK=>?_|(refine a_regionS ?_;simp(maxSteps:=2000000) only[Ty.w,simprocAttr,s1,s2,s4,s6,s7,s70,s71,s72,hd])|(refine a_exit ?_;try simp only[pst0,simprocAttr])|(refine a_cond _ (by(try simp(maxSteps:=2000000) only[Ty.w,simprocAttr,s1,s2,s4,s6,s7,s70,s71,s72,hd]);rfl) (fun hb=>?_) (fun hb=>?_)<;>(try simp only[hb0,decide_eq_true_eq,decide_eq_false_iff_not,simprocAttr]at hb)<;>(try(exfalso;omega)))|((first|refine hK _ _ ?_|(clear hK;refine hK _ _ ?_));clear hK;try simp only[pst0,simprocAttr]))
        refine⟨?_⟩
        refine a_gen (fun S H'=>S 1= .cptr [sPV name,sPV domain,.imm 2 (pmRows objects),.imm 2 (atRows init),.imm 3 (vlRows values),sPV gop,sPV gname,.imm 1 (strRows gargs),.imm 2 (pmRows gparams),.imm 5 (Ex.rows gexprs),.imm 6 (Fm.rows gkids)]∧S 2= .ptr h.next 0 0∧S 4= .cptr [.sc (.int .i64 ki),.sc (.int .i64 va),.sc (.int .i64 li),.sc (.int .i64 co),sPV te,.imm 6 (Sx.rows ks)]∧S 6= .ptr (h.next+17) 0 0∧S 7= .ptr (H.next+1) 0 0∧H'=h') ⟨by simp only[Ty.w,simprocAttr,s1],by simp only[Ty.w,simprocAttr,s2],by simp only[Ty.w,simprocAttr,s4],by simp only[Ty.w,simprocAttr,s6],by simp only[Ty.w,simprocAttr,s7],rfl⟩ ?_
        clear s1 s2 s4 s6 s7 s70 s71 s72 hd hlt hk
        rintro S h' ⟨s1,s2,s4,s6,s7,rfl⟩
        repeat'(first|refine a_seq fun K hK=>?_|(refine a_block ?_)|(refine a_regionS ?_;simp(maxSteps:=2000000) only[Ty.w,simprocAttr,s1,hlV])|(refine hK _ _ ?_;clear hK;try simp only[pst0,simprocAttr]))
        refine a_loop (fun m S h'=>S 1= .cptr [sPV name,sPV domain,.imm 2 (pmRows objects),.imm 2 (atRows init),.imm 3 (vlRows values),sPV gop,sPV gname,.imm 1 (strRows gargs),.imm 2 (pmRows gparams),.imm 5 (Ex.rows gexprs),.imm 6 (Fm.rows gkids)]∧S 2= .ptr h.next 0 0∧S 4= .cptr [.sc (.int .i64 ki),.sc (.int .i64 va),.sc (.int .i64 li),.sc (.int .i64 co),sPV te,.imm 6 (Sx.rows ks)]∧S 6= .ptr (h.next+17) 0 0∧S 7= .ptr (H.next+1) 0 0∧S 85= .imm 3 (vlRows values)∧S 86= .sc (.int .i64 values.length)∧ ∃ k:Nat,S 87= .sc (.int .i64 k)∧k≤values.length∧m=values.length-k∧GrV H (H.next+1) H.next 6 6 sxP [] (Sx.rows (wordM opInit::(init.map atW++(values.take k).map vlW))) h') values.length ?_ ?_
        ·simp only[Ty.w,simprocAttr,s1,s2,s4,s6,s7]
         exact⟨0,rfl,by omega,rfl,by simpa using hV⟩
        ·clear hV s1 s2 s4 s6 s7
         rintro m S h' ⟨s1,s2,s4,s6,s7,s85,s86,k,s87,hk,rfl,hV⟩
         by_cases hlt:k<values.length
         ·have hd:decide ((k:Int)<(values.length:Int))=true:=by simp;omega
          have w7:IntKind.i64.wrap ((k:Int)+1)=k+1:=by have:=hsm.v;simp only at this;rw[wrap64 (by omega) (by omega)]
          obtain⟨⟨⟨an,aa⟩,vn⟩,hx⟩: ∃ a,values[k]? =some a:=⟨_,List.getElem?_eq_getElem hlt⟩
          have hr:=vlRows_get hx
          have hwa:=fun h:Heap=>writeAtom_c (h:=h) (first:=an) (l:=aa) (hsm.va _ (List.mem_of_getElem? hx))
          have hR2:Sx.rows (wordM opInit::(init.map atW++(values.take (k+1)).map vlW))=Sx.rows (wordM opInit::(init.map atW++(values.take k).map vlW))++[(listM [wordM opEq,wordsM an aa,numM vn]).cells]:=by
           rw[List.take_add_one,hx]
           simp[Sx.rows_map,vlW,atW]
          have hpr:(Sx.rows (wordM opInit::(init.map atW++(values.take k).map vlW))).length=init.length+k+1:=by rw[Sx.rows_len];simp;omega
          generalize Sx.rows (wordM opInit::(init.map atW++(values.take k).map vlW))=R at hV hR2 hpr
          generalize wordsM an aa=X at hwa hR2
          obtain⟨ki2,va2,li2,co2,te2,ks2⟩:=X
          have hl3: ∀ h:Heap,PCall Try.prog 21 [.imm 6 [[.sc (.int .i64 1),.sc (.int .i64 0),.sc (.int .i64 0),.sc (.int .i64 0),sPV opEq,.imm 6 []],[.sc (.int .i64 ki2),.sc (.int .i64 va2),.sc (.int .i64 li2),.sc (.int .i64 co2),sPV te2,.imm 6 (Sx.rows ks2)],[.sc (.int .i64 2),.sc (.int .i64 vn),.sc (.int .i64 0),.sc (.int .i64 0),.sc (.string ⟨#[]⟩),.sc (.slice none 0 0)]]] h fun r h'=>r= .agg (listM [wordM opEq,Sx.mk ki2 va2 li2 co2 te2 ks2,numM vn]).cells∧h'=h:=
           fun h=>PCall.nz (plist_c (p:= .imm 6 (Sx.rows [wordM opEq,.mk ki2 va2 li2 co2 te2 ks2,numM vn])) rfl (fun _=>frz_imm (sxs_in _ _))) (nz_cons (nz_imm (nzr_cons (NzL.refl _) (nzr_cons (NzL.refl _) (nzr_cons (nz_cons (Nz.refl _) (nz_cons (Nz.refl _) (nz_cons (Nz.refl _) (nz_cons (Nz.refl _) (nz_cons (Nz.refl _) (nz_cons nz_nil (NzL.refl []))))))) (NzR.refl []))))) (NzL.refl []))
          simp only[Sx.cells,listM,Sx.rows,wordM,numM]at hwa hR2 hl3
          simp only at hr
          repeat'(first|(with_reducible refine a_holdB 17 ?_)|refine a_seq fun K hK=>?_|(refine a_regionS ?_;simp(maxSteps:=2000000) only[Ty.w,simprocAttr,s1,s2,s4,s6,s7,s85,s86,s87,hd,hr])|(refine a_skip ?_;try simp only[pst0,simprocAttr])|(refine a_cond _ (by(try simp(maxSteps:=2000000) only[Ty.w,simprocAttr,s1,s2,s4,s6,s7,s85,s86,s87,hd,hr]);rfl) (fun hb=>?_) (fun hb=>?_)<;>(try simp only[hb0,decide_eq_true_eq,decide_eq_false_iff_not,simprocAttr]at hb)<;>(try(exfalso;omega)))|(refine hK _ _ ?_;clear hK;try simp only[pst0,simprocAttr]))
          refine⟨?_⟩
          refine a_tmp 11 rfl (by simp only[Ty.w,simprocAttr]) (fun n H=>by simp only[FrzL,FrzTo,and_true,true_and];exact .inl (strs_in _ _)) ?_
          refine a_gen (fun S H'=>S 1= .cptr [sPV name,sPV domain,.imm 2 (pmRows objects),.imm 2 (atRows init),.imm 3 (vlRows values),sPV gop,sPV gname,.imm 1 (strRows gargs),.imm 2 (pmRows gparams),.imm 5 (Ex.rows gexprs),.imm 6 (Fm.rows gkids)]∧S 2= .ptr h.next 0 0∧S 4= .cptr [.sc (.int .i64 ki),.sc (.int .i64 va),.sc (.int .i64 li),.sc (.int .i64 co),sPV te,.imm 6 (Sx.rows ks)]∧S 6= .ptr (h.next+17) 0 0∧S 7= .ptr (H.next+1) 0 0∧S 85= .imm 3 (vlRows values)∧S 86= .sc (.int .i64 values.length)∧S 87= .sc (.int .i64 k)∧S 11= .cptr [sPV an,.imm 1 (strRows aa),.sc (.int .i64 vn)]∧GrV H (H.next+1) H.next 6 6 sxP [] R H') ⟨by simp only[Ty.w,simprocAttr,s1],by simp only[Ty.w,simprocAttr,s2],by simp only[Ty.w,simprocAttr,s4],by simp only[Ty.w,simprocAttr,s6],by simp only[Ty.w,simprocAttr,s7],by simp only[Ty.w,simprocAttr,s85],by simp only[Ty.w,simprocAttr,s86],by simp only[Ty.w,simprocAttr,s87],by simp only[Ty.w,simprocAttr],hV.tmp _ _⟩ ?_
          clear hV s1 s2 s4 s6 s7 s85 s86 s87 hr hd
          rintro S h' ⟨s1,s2,s4,s6,s7,s85,s86,s87,s11,hV⟩
          obtain⟨hg,ids,p,Hk,o2,tl,t1,t2,t3,t4,hgH,hpc,hp1⟩:=hV
          simp only[sxP,List.cons_append,List.nil_append]at o2
          have o2H:=t4.trans o2
          have n1:(H.next+1=h'.next)=False:=eq_false (by omega)
          have hb:(init.length+k+1+1)*72≤140737488355328:=by have:=hsm.i;have:=hsm.v;simp only at*;omega
          have hpush:=GrV.push (m:=init.length+k+1+1) (zo:=6) (zl:=6) (pre:=sxP) (post:=[]) (R:=R) [.sc (.int .i64 3),.sc (.int .i64 0),.sc (.int .i64 0),.sc (.int .i64 0),sPV ⟨#[]⟩,.imm 6 [[.sc (.int .i64 1),.sc (.int .i64 0),.sc (.int .i64 0),.sc (.int .i64 0),sPV opEq,.imm 6 []],[.sc (.int .i64 ki2),.sc (.int .i64 va2),.sc (.int .i64 li2),.sc (.int .i64 co2),sPV te2,.imm 6 (Sx.rows ks2)],[.sc (.int .i64 2),.sc (.int .i64 vn),.sc (.int .i64 0),.sc (.int .i64 0),sPV ⟨#[]⟩,.imm 6 []]]] hgH ids (by omega) t3 (by omega)
          rw[← hR2]at hpush
          simp only[sxP,List.cons_append,List.nil_append]at hpush
          have W:=And.intro s1 (And.intro s7 (And.intro s2 (And.intro s11 (And.intro s4 (And.intro s85 (And.intro s6 (And.intro s86 (And.intro s87 (And.intro o2 (And.intro o2H (And.intro n1 (And.intro t1 (And.intro t2 (And.intro t3 (And.intro hpr (And.intro hb (And.intro hpc (And.intro hp1 w7))))))))))))))))))
          repeat'(refine a_draw (by decide+kernel) (fun K hK=>?_);simp(maxSteps:=2000000) only[Ty.w,simprocAttr,W])
          (first|refine a_dcall0 (hwd _ _) (by(try simp only[Ty.w,simprocAttr,W]);try rfl) ?_|refine a_dcallA (hwd _ _) (by(try simp only[Ty.w,simprocAttr,W]);try rfl) (by simp only[Ty.w,simprocAttr,W];try trivial) ?_);simp(maxSteps:=2000000) only[Ty.w,simprocAttr,W,Option.getD_some]
          skip
          (first|refine a_dcall0 (hwa _) (by(try simp only[Ty.w,simprocAttr,W]);try rfl) ?_|refine a_dcallA (hwa _) (by(try simp only[Ty.w,simprocAttr,W]);try rfl) (by simp only[Ty.w,simprocAttr,W];try trivial) ?_);simp(maxSteps:=2000000) only[Ty.w,simprocAttr,W,Option.getD_some]
          skip
          (first|refine a_dcall0 (hl3 _) (by(try simp only[Ty.w,simprocAttr,W]);try rfl) ?_|refine a_dcallA (hl3 _) (by(try simp only[Ty.w,simprocAttr,W]);try rfl) (by simp only[Ty.w,simprocAttr,W];try trivial) ?_);simp(maxSteps:=2000000) only[Ty.w,simprocAttr,W,Option.getD_some]
          repeat'(first|(refine a_regionS ?_;simp(maxSteps:=2000000) only[Ty.w,simprocAttr,W, ← hR2])|(refine hK _ _ ?_;clear hK;try simp only[pst0,simprocAttr])|(with_reducible refine a_past2 (by simp only[List.forall_mem_cons,Ty.w,simprocAttr,s1,s2,s4,s6,s7,s85,s86,s87,o2,o2H,n1,t1,t2,t3,hpr,hb,hpc,hp1, ← hR2,w7]<;>(repeat' apply And.intro)<;>first|trivial|exact .inl (by decide+kernel)) ?_;try simp(maxSteps:=2000000) only[Ty.w,simprocAttr,W, ← hR2])|(rw[if_pos];rotate_left 1;omega;simp(maxSteps:=2000000) only[Ty.w,simprocAttr,W, ← hR2]))
          exact⟨values.length-(k+1),by omega,k+1,by simp,by omega,rfl,hpush⟩
         ·have hd:decide ((k:Int)<(values.length:Int))=false:=by simp;omega
          have hke:k=values.length:=by omega
          subst hke
          rw[List.take_length]at hV
          have hin2:initS init values=listM (wordM opInit::(init.map atW++values.map vlW)):=rfl
          repeat'(first|(with_reducible refine a_holdB 19 ?_)|refine a_seq fun K hK=>?_|(refine a_regionS ?_;simp(maxSteps:=2000000) only[Ty.w,simprocAttr,s1,s2,s4,s6,s7,s85,s86,s87,hd])|(refine a_exit ?_;try simp only[pst0,simprocAttr])|(refine a_cond _ (by(try simp(maxSteps:=2000000) only[Ty.w,simprocAttr,s1,s2,s4,s6,s7,s85,s86,s87,hd]);rfl) (fun hb=>?_) (fun hb=>?_)<;>(try simp only[hb0,decide_eq_true_eq,decide_eq_false_iff_not,simprocAttr]at hb)<;>(try(exfalso;omega)))|((first|refine hK _ _ ?_|(clear hK;refine hK _ _ ?_));clear hK;try simp only[pst0,simprocAttr]))
          refine⟨?_⟩
          refine a_dropV 7 rfl hV (by simp only[Ty.w,simprocAttr,s7]) (fun n H=>sxs_frz n H _) (fun n H p q hpq=>by simp only[sxP,List.cons_append,List.nil_append,FrzL,FrzTo,and_true,true_and];exact hpq) ?_
          refine a_gen (fun S H'=>S 1= .cptr [sPV name,sPV domain,.imm 2 (pmRows objects),.imm 2 (atRows init),.imm 3 (vlRows values),sPV gop,sPV gname,.imm 1 (strRows gargs),.imm 2 (pmRows gparams),.imm 5 (Ex.rows gexprs),.imm 6 (Fm.rows gkids)]∧S 2= .ptr h.next 0 0∧S 4= .cptr [.sc (.int .i64 ki),.sc (.int .i64 va),.sc (.int .i64 li),.sc (.int .i64 co),sPV te,.imm 6 (Sx.rows ks)]∧S 6= .ptr (h.next+17) 0 0∧S 7= .cptr (initS init values).cells∧PwI h L1 H') ⟨by simp only[Ty.w,simprocAttr,s1],by simp only[Ty.w,simprocAttr,s2],by simp only[Ty.w,simprocAttr,s4],by simp only[Ty.w,simprocAttr,s6],by simp only[Ty.w,simprocAttr];rfl,hI.up (below_grow hV.grow)⟩ ?_
          clear hV s1 s2 s4 s6 s7 s85 s86 s87 hd hI
          rintro S H ⟨s1,s2,s4,s6,s7,hI⟩
          obtain⟨hg,ids,o1,p,Hk,o2,tl,t1,t2,t3,t4,hgH,hpc,hp1⟩:=hI
          simp only[sxP,List.cons_append,List.nil_append]at o2
          have o2H:=(t4 _ (show h.next+17<h.next+18 by omega)).trans o2
          have n1:(h.next+17=H.next)=False:=eq_false (by omega)
          have hL1r:=Sx.rows_len L1
          have hb:(L1.length+1)*72≤140737488355328:=by omega
          rw[hin]
          generalize initS init values=X at s7
          obtain⟨ki2,va2,li2,co2,te2,ks2⟩:=X
          simp only[Sx.cells]at s7
          have hpush:=GrI.push (m:=L1.length+1) (zr:=6) (Z:=sxZ) (zo:=6) (zl:=6) (pre:=sxP) (post:=[]) (R:=Sx.rows L1) [.sc (.int .i64 ki2),.sc (.int .i64 va2),.sc (.int .i64 li2),.sc (.int .i64 co2),sPV te2,.imm 6 (Sx.rows ks2)] hgH ids o1 t3 t4 (by rw[hL1r])
          simp only[sxP,List.cons_append,List.nil_append]at hpush
          repeat'(refine a_regionS ?_;simp(maxSteps:=2000000) only[Ty.w,simprocAttr,s1,s2,s4,s6,s7,o2,o2H,n1,t1,t2,t3,hL1r,hb,hpc,hp1])
          have hap:Sx.rows (L1++[Sx.mk ki2 va2 li2 co2 te2 ks2])=Sx.rows L1++[[.sc (.int .i64 ki2),.sc (.int .i64 va2),.sc (.int .i64 li2),.sc (.int .i64 co2),sPV te2,.imm 6 (Sx.rows ks2)]]:=by simp[Sx.rows_map,Sx.cells]
          rw[← hap]at hpush⊢
          exact hpush
    ·clear s1 s2 s4 s6 hI
     rintro S H ⟨s1,s2,s4,s6,hI⟩
     generalize hL2:L1++initW init values=L2 at hI
     have hL2n:L2.length≤5:=by
      rw[← hL2]
      unfold initW
      split<;>simp<;>omega
     refine a_cut (fun S H=>S 2= .ptr h.next 0 0∧S 6= .ptr (h.next+17) 0 0∧PwI h (L2++goalW (.mk gop gname gargs gparams gexprs gkids)) H) ?_ ?_
     ·have hlK:=Fm.rows_len gkids
      have hgE2:goalE (.mk gop gname gargs gparams gexprs gkids)=(bEq gop opAnd&&gkids.isEmpty):=rfl
      rw[hgE,hgE2]
      obtain⟨hg,ids,o1,p,Hk,o2,tl,t1,t2,t3,t4,hgH,hpc,hp1⟩:=id hI
      simp only[sxP,List.cons_append,List.nil_append]at o2
      have o2H:=(t4 _ (show h.next+17<h.next+18 by omega)).trans o2
      have n1:(h.next+17=H.next)=False:=eq_false (by omega)
      have hL1r:=Sx.rows_len L2
      have hb:(L2.length+1)*72≤140737488355328:=by omega
      have hl2:=fun(h:Heap)=>plist_c (h:=h) (p:= .imm 6 (Sx.rows [wordM opGoal,Sx.mk ki va li co te ks])) rfl (fun _=>frz_imm (sxs_in _ _))
      have hpush:=GrI.push (m:=L2.length+1) (zr:=6) (Z:=sxZ) (zo:=6) (zl:=6) (pre:=sxP) (post:=[]) (R:=Sx.rows L2) (listM [wordM opGoal,Sx.mk ki va li co te ks]).cells hgH ids o1 t3 t4 (by rw[hL1r])
      have hap:Sx.rows (L2++[listM [wordM opGoal,Sx.mk ki va li co te ks]])=Sx.rows L2++[(listM [wordM opGoal,Sx.mk ki va li co te ks]).cells]:=by simp[Sx.rows_map]
      rw[← hap]at hpush
      simp only[listM,wordM,Sx.cells,Sx.rows,sxP,List.cons_append,List.nil_append]at hl2 hap hpush
      cases k1:(gop.data.toList==(#[97,110,100]:Array UInt8).toList)with
      |true=>
       rw[show bEq gop opAnd=true from k1,Bool.true_and]
       cases k2:decide ((gkids.length:Int)>0)with
       |false=>
        have e:gkids.isEmpty=true:=by
         cases gkids with
         |nil=>rfl
         |cons=>simp at k2
        rw[e,if_pos rfl,List.append_nil]
        repeat'(first|refine a_seq fun K hK=>?_|(refine a_regionS ?_;simp(maxSteps:=2000000) only[Ty.w,simprocAttr,s1,s2,s4,s6,k1,k2,hlK,Bool.not_true,Bool.not_false])|(refine a_skip ?_;try simp only[pst0,simprocAttr])|(refine a_cond _ (by(try simp(maxSteps:=2000000) only[Ty.w,simprocAttr,s1,s2,s4,s6,k1,k2,hlK,Bool.not_true,Bool.not_false]);rfl) (fun hb=>?_) (fun hb=>?_)<;>(try simp only[hb0,decide_eq_true_eq,decide_eq_false_iff_not,simprocAttr]at hb)<;>(try(exfalso;omega)))|(refine hK _ _ ?_;clear hK;try simp only[pst0,simprocAttr]))
        exact⟨s2,s6,hI⟩
       |true=>
        have e:gkids.isEmpty=false:=by
         cases gkids with
         |nil=>simp at k2
         |cons=>rfl
        rw[e,if_neg (by simp)]
        have W:=And.intro s1 (And.intro s2 (And.intro s4 (And.intro s6 o2)))
        repeat'(first|refine a_seq fun K hK=>?_|((first|refine a_regionS ?_|refine a_drawS (by decide+kernel) ?_);simp(maxSteps:=2000000) only[Ty.w,simprocAttr,W,k1,k2,hlK,Bool.not_true,Bool.not_false])|(refine a_cond _ (by(try simp(maxSteps:=2000000) only[Ty.w,simprocAttr,W,k1,k2,hlK,Bool.not_true,Bool.not_false]);rfl) (fun hb=>?_) (fun hb=>?_)<;>(try simp only[hb0,decide_eq_true_eq,decide_eq_false_iff_not,simprocAttr]at hb)<;>(try(exfalso;omega)))|(refine hK _ _ ?_;clear hK;try simp only[pst0,simprocAttr]))
        (first|refine a_dcall0 (hwd _ _) (by(try simp only[Ty.w,simprocAttr,W]);try rfl) ?_|refine a_dcallA (hwd _ _) (by(try simp only[Ty.w,simprocAttr,W]);try rfl) (by simp only[Ty.w,simprocAttr,W];try trivial) ?_);simp(maxSteps:=2000000) only[Ty.w,simprocAttr,W,Option.getD_some]
        skip
        (first|refine a_dcall0 (hl2 _) (by(try simp only[Ty.w,simprocAttr,W]);try rfl) ?_|refine a_dcallA (hl2 _) (by(try simp only[Ty.w,simprocAttr,W]);try rfl) (by simp only[Ty.w,simprocAttr,W];try trivial) ?_);simp(maxSteps:=2000000) only[Ty.w,simprocAttr,W,Option.getD_some]
        repeat'(first|(with_reducible refine a_past2 (by simp only[List.forall_mem_cons,Ty.w,simprocAttr,s1,s2,s4,s6,o2,o2H,n1,t1,t2,t3,hL1r,hb,hpc,hp1]<;>(repeat' apply And.intro)<;>first|trivial|exact .inl (by decide+kernel)) ?_;try simp(maxSteps:=2000000) only[Ty.w,simprocAttr,W,o2H,n1,t1,t2,t3,hL1r,hb,hpc,hp1])|(rw[if_pos];rotate_left 1;omega;simp(maxSteps:=2000000) only[Ty.w,simprocAttr,W,o2H,n1,t1,t2,t3,hL1r,hb,hpc,hp1]))
        rw[← hap]
        exact hpush
      |false=>
       rw[show bEq gop opAnd=false from k1,Bool.false_and,if_neg (by simp)]
       have W:=And.intro s1 (And.intro s2 (And.intro s4 (And.intro s6 o2)))
       repeat'(first|refine a_seq fun K hK=>?_|((first|refine a_regionS ?_|refine a_drawS (by decide+kernel) ?_);simp(maxSteps:=2000000) only[Ty.w,simprocAttr,W,k1,hlK,Bool.not_true,Bool.not_false])|(refine a_cond _ (by(try simp(maxSteps:=2000000) only[Ty.w,simprocAttr,W,k1,hlK,Bool.not_true,Bool.not_false]);rfl) (fun hb=>?_) (fun hb=>?_)<;>(try simp only[hb0,decide_eq_true_eq,decide_eq_false_iff_not,simprocAttr]at hb)<;>(try(exfalso;omega)))|(refine hK _ _ ?_;clear hK;try simp only[pst0,simprocAttr]))
       (first|refine a_dcall0 (hwd _ _) (by(try simp only[Ty.w,simprocAttr,W]);try rfl) ?_|refine a_dcallA (hwd _ _) (by(try simp only[Ty.w,simprocAttr,W]);try rfl) (by simp only[Ty.w,simprocAttr,W];try trivial) ?_);simp(maxSteps:=2000000) only[Ty.w,simprocAttr,W,Option.getD_some]
       skip
       (first|refine a_dcall0 (hl2 _) (by(try simp only[Ty.w,simprocAttr,W]);try rfl) ?_|refine a_dcallA (hl2 _) (by(try simp only[Ty.w,simprocAttr,W]);try rfl) (by simp only[Ty.w,simprocAttr,W];try trivial) ?_);simp(maxSteps:=2000000) only[Ty.w,simprocAttr,W,Option.getD_some]
       repeat'(first|(with_reducible refine a_past2 (by simp only[List.forall_mem_cons,Ty.w,simprocAttr,s1,s2,s4,s6,o2,o2H,n1,t1,t2,t3,hL1r,hb,hpc,hp1]<;>(repeat' apply And.intro)<;>first|trivial|exact .inl (by decide+kernel)) ?_;try simp(maxSteps:=2000000) only[Ty.w,simprocAttr,W,o2H,n1,t1,t2,t3,hL1r,hb,hpc,hp1])|(rw[if_pos];rotate_left 1;omega;simp(maxSteps:=2000000) only[Ty.w,simprocAttr,W,o2H,n1,t1,t2,t3,hL1r,hb,hpc,hp1]))
       rw[← hap]
       exact hpush
     ·clear s1 s2 s4 s6 hI
      rintro S H ⟨s2,s6,hI⟩
      have hPW:PW=listM (L2++goalW (.mk gop gname gargs gparams gexprs gkids)):=by
       rw[hpw, ← hL2, ← hL1]
       simp[List.append_assoc]
      generalize L2++goalW (.mk gop gname gargs gparams gexprs gkids)=L3 at hI hPW
      have hVal:=fun h:Heap=>svalid_c hPWo h
      rw[hF]at hVal
      obtain⟨hg,ids,o1,p,Hk,o2,tl,t1,t2,t3,t4,hgH,hpc,hp1⟩:=hI
      refine a_drop (h.next+17) [(6,.cptr PW.cells)] rfl (by omega) ?_ ?_
      ·intro x hx
       simp only[List.mem_cons,List.not_mem_nil,or_false]at hx
       subst hx
       rw[hPW]
       simp only[s6,listM,Sx.cells,FrzTo]
       exact .inr ⟨h.next+17,0,0,6,_,_,rfl,Nat.le_refl _,o2,rfl,by simp only[sxP,List.cons_append,List.nil_append,List.drop_zero,FrzL];exact⟨by simp only[FrzTo],by simp only[FrzTo],by simp only[FrzTo],by simp only[FrzTo],by simp only[FrzTo],tl.frzR (Nat.le_succ _) (sxs_frz _ _ _),trivial⟩⟩
      refine a_gen (fun S H=>S 2= .ptr h.next 0 0∧S 6= .cptr PW.cells∧Grow h H∧H.obj h.next=some (.arr 6 [sxZ])) ⟨by simp only[frzS,Ty.w,simprocAttr,s2],by simp only[frzS,Ty.w,simprocAttr],⟨hg.le,fun j hj=>by simp only[below];rw[if_pos (by omega)];exact hg.old j hj⟩,by simp only[below];rw[if_pos (by omega)];exact o1⟩ ?_
      clear hg ids o1 o2 tl t1 t2 t3 t4 hgH hpc hp1 s2 s6 hPW
      rintro S H ⟨s2,s6,hg,o1⟩
      have hfz:=fun n hh=>sx_frz n hh PW
      generalize PW=X at hVal s6 hfz bad⊢
      obtain⟨ki2,va2,li2,co2,te2,ks2⟩:=X
      simp only[Sx.cells]at hVal s6 hfz
      cases F with
      |false=>
       repeat'(first|refine a_seq fun K hK=>?_|(refine a_regionS ?_;simp(maxSteps:=2000000) only[Ty.w,simprocAttr,s2,s6]))
       refine owp_useQ (hVal _) (by(try simp only[Ty.w,simprocAttr,s2,s6]);try rfl) ?_;simp(maxSteps:=2000000) only[Ty.w,simprocAttr,s2,s6]
       repeat'(first|refine a_seq fun K hK=>?_|((first|refine a_regionS ?_|refine a_ret ?_);simp(maxSteps:=2000000) only[Ty.w,simprocAttr,s2,s6,o1,Bool.not_false])|(refine hK _ _ ?_;clear hK;try simp only[pst0,simprocAttr]))
       exact⟨bad _ rfl,hg.set (Nat.le_refl _) _⟩
      |true=>
       repeat'(first|refine a_seq fun K hK=>?_|(refine a_regionS ?_;simp(maxSteps:=2000000) only[Ty.w,simprocAttr,s2,s6]))
       refine owp_useQ (hVal _) (by(try simp only[Ty.w,simprocAttr,s2,s6]);try rfl) ?_;simp(maxSteps:=2000000) only[Ty.w,simprocAttr,s2,s6]
       repeat'(first|refine a_seq fun K hK=>?_|((first|refine a_regionS ?_|refine a_ret ?_);simp(maxSteps:=2000000) only[Ty.w,simprocAttr,s2,s6,o1,Bool.not_true])|(refine a_skip ?_;try simp only[pst0,simprocAttr])|(refine a_cond _ (by(try simp(maxSteps:=2000000) only[Ty.w,simprocAttr,s2,s6,o1,Bool.not_true]);rfl) (fun hb=>?_) (fun hb=>?_)<;>(try simp only[hb0,decide_eq_true_eq,decide_eq_false_iff_not,simprocAttr]at hb)<;>(try(exfalso;omega)))|(refine hK _ _ ?_;clear hK;try simp only[pst0,simprocAttr]))
       refine⟨?_,hg.set (Nat.le_refl _) _⟩
       simp only[if_true,Sx.cells,FrzTo]
       exact⟨_,rfl,by simp only[FrzL,FrzTo,and_true,true_and];exact⟨_,rfl,hfz _ _⟩⟩
end Go.Proofs.Ytjeolbgpllbemaa
namespace Go.Proofs.Ytjeolbgpllbemaa
open Go.AM
set_option maxHeartbeats 4000000
set_option maxRecDepth 20000
theorem empty_ok:(⟨#[]⟩:ByteArray).size≤bigN:=by decide
theorem zeroAt_ok:zeroAt.ok∧zeroAt.args.length≤1048576:=⟨⟨empty_ok,by decide,by simp[zeroAt]⟩,by decide⟩
theorem len_nodess: ∀ l:List Sx,l.length≤Sx.nodess l
 |[]=>Nat.le_refl _
 |k::l=>by
  have:=len_nodess l
  have h1:1≤k.nodes:=by obtain⟨a,b,c,d,e,f⟩:=k;simp only[Sx.nodes];omega
  simp only[List.length_cons,Sx.nodess];omega
theorem headM_nodes{x:Sx}{w:ByteArray}{l:List Sx}(h:headM x=some (w,l)):Sx.nodess l+2≤x.nodes:=by
 obtain⟨kind,value,line,col,text,kids⟩:=x
 simp only[headM]at h
 split at h
 ·cases kids with
  |nil=>simp at h
  |cons y rest=>
   simp only at h
   cases hh:kindOf y==1 with
   |false=>rw[hh]at h;simp at h
   |true=>
    rw[hh]at h
    simp only[cond_true,Option.some.injEq,Prod.mk.injEq]at h
    obtain⟨rfl,rfl⟩:=h
    have h1:1≤y.nodes:=by obtain⟨a,b,c,d,e,f⟩:=y;simp only[Sx.nodes];omega
    simp only[Sx.nodes,Sx.nodess];omega
 ·simp at h
structure PbG(p:Pb):Prop where
 n:p.name.size≤bigN
 d:p.domain.size≤bigN
 o:p.objects.length≤1048576∧ ∀ o∈p.objects,o.ok
 i: ∀ a∈p.init,a.ok∧a.args.length≤1048576
 v: ∀ v∈p.values,v.ok∧v.at_.args.length≤1048576
 g:p.goal.ok∧p.goal.small
theorem namesM_ok: ∀ l:List Sx,(∀ x∈l,x.ok)→(namesM l).1.length≤l.length∧ ∀ s∈(namesM l).1,s.size≤bigN
 |[],_=>by simp[namesM]
 |x::l,h=>by
  have ih:=namesM_ok l fun y hy=>h y (by simp[hy])
  simp only[namesM]
  cases kindOf x==1 with
  |false=>simp
  |true=>
   cases nameB (textOf x)with
   |false=>simp
   |true=>
    simp only[cond_true]
    cases(namesM l).2==0 with
    |false=>simp
    |true=>
     have hx:=textOf_okQ (h x (by simp))
     simp only[cond_true,List.length_cons,List.mem_cons]
     refine⟨by omega,?_⟩
     rintro s (rfl|hs)
     ·exact hx
     ·exact ih.2 s hs
theorem atomP_ok{w:ByteArray}{l:List Sx}(hw:w.size≤bigN)(hl:l.length≤1048576)(h: ∀ x∈l,x.ok):(atomP w l).1.ok∧(atomP w l).1.args.length≤1048576:=by
 have hn:=namesM_ok l h
 unfold atomP
 cases nameB w with
 |false=>exact zeroAt_ok
 |true=>
  simp only[cond_true]
  cases(namesM l).2==0 with
  |false=>exact zeroAt_ok
  |true=>exact⟨⟨hw,by simp only[cond_true,bigN];omega,hn.2⟩,by simp only[cond_true];omega⟩
theorem valOf_ok{x:Sx}(h:x.ok): -9223372036854775808≤valOf x∧valOf x≤9223372036854775807:=by
 obtain⟨a,b,c,d,e,f⟩:=x
 simp only[Sx.ok]at h
 exact h.2.1
theorem elemP_ok{a:List At}{v:List Vl}{x:Sx}(hok:x.ok)(hsm:x.small)(ha: ∀ q∈a,q.ok∧q.args.length≤1048576)(hv: ∀ q∈v,q.ok∧q.at_.args.length≤1048576):
  (∀ q∈(elemP a v x).1,q.ok∧q.args.length≤1048576)∧ ∀ q∈(elemP a v x).2.1,q.ok∧q.at_.args.length≤1048576:=by
 unfold elemP
 cases h:headM x with
 |none=>exact⟨ha,hv⟩
 |some wr=>
  obtain⟨w,rest⟩:=wr
  obtain⟨o1,o2,o3⟩:=headM_ok2 hok h
  obtain⟨s2,s3⟩:=headM_small hsm h
  simp only
  cases bEq w opEq with
  |true=>
   simp only[cond_true]
   split
   ·rename_i f n
    cases kindOf n==2 with
    |false=>exact⟨ha,hv⟩
    |true=>
     simp only[cond_true]
     cases h2:headM f with
     |none=>exact⟨ha,hv⟩
     |some wr=>
      obtain⟨name,args⟩:=wr
      obtain⟨p1,p2,p3⟩:=headM_ok2 (o3 f (by simp)) h2
      obtain⟨q2,_⟩:=headM_small (s3 f (by simp)) h2
      have hA:=atomP_ok p1 q2 p3
      simp only
      cases(atomP name args).2==0 with
      |false=>exact⟨ha,hv⟩
      |true=>
       refine⟨ha,?_⟩
       intro q hq
       simp only[cond_true,List.mem_append,List.mem_singleton]at hq
       rcases hq with hq|rfl
       ·exact hv q hq
       ·exact ⟨⟨hA.1,valOf_ok (o3 n (by simp))⟩,hA.2⟩
   ·exact ⟨ha,hv⟩
  |false=>
   simp only[cond_false]
   have hA:=atomP_ok o1 s2 o3
   cases(atomP w rest).2==0 with
   |false=>exact⟨ha,hv⟩
   |true=>
    refine⟨?_,hv⟩
    intro q hq
    simp only[cond_true,List.mem_append,List.mem_singleton]at hq
    rcases hq with hq|rfl
    ·exact ha q hq
    ·exact hA
theorem elemsP_ok: ∀ (l:List Sx)(a:List At)(v:List Vl),(∀ x∈l,x.ok)→(∀ x∈l,x.small)→(∀ q∈a,q.ok∧q.args.length≤1048576)→(∀ q∈v,q.ok∧q.at_.args.length≤1048576)→
  (∀ q∈(elemsP a v l).1,q.ok∧q.args.length≤1048576)∧ ∀ q∈(elemsP a v l).2.1,q.ok∧q.at_.args.length≤1048576
 |[],a,v,_,_,ha,hv=>⟨ha,hv⟩
 |x::l,a,v,h1,h2,ha,hv=>by
  have h3:=elemP_ok (h1 x (by simp)) (h2 x (by simp)) ha hv
  simp only[elemsP]
  generalize elemP a v x=W at h3⊢
  obtain⟨a',v',c⟩:=W
  simp only at h3⊢
  cases c==0 with
  |true=>exact elemsP_ok l a' v' (fun y hy=>h1 y (by simp[hy])) (fun y hy=>h2 y (by simp[hy])) h3.1 h3.2
  |false=>exact h3
theorem sectP_ok{p:Pb}{w:ByteArray}{rest:List Sx}(hp:PbG p)(hl:rest.length≤1048576)(h1: ∀ x∈rest,x.ok)(h2: ∀ x∈rest,x.small):PbG (sectP p w rest).1:=by
 unfold sectP
 cases bEq w opObjs with
 |true=>
  simp only[cond_true]
  have hP:=paramsL_ok false rest.length rest (Nat.le_refl _) h1 [] [] (by simp) (by simp)
  refine⟨hp.n,hp.d,?_,hp.i,hp.v,hp.g⟩
  unfold paramsP
  simp only[List.length_nil]at hP
  exact⟨by simp only;omega,hP.1⟩
 |false=>
  simp only[cond_false]
  cases bEq w opInit with
  |true=>
   simp only[cond_true]
   have hE:=elemsP_ok rest p.init p.values h1 h2 hp.i hp.v
   exact⟨hp.n,hp.d,hp.o,hE.1,hE.2,hp.g⟩
  |false=>
   simp only[cond_false]
   split
   ·rename_i g
    exact⟨hp.n,hp.d,hp.o,hp.i,hp.v,parseF_ok (h1 g (by simp))⟩
   ·exact hp
theorem sectsP_ok: ∀ (l:List Sx)(o:List ByteArray)(p:Pb),PbG p→(∀ x∈l,x.ok)→(∀ x∈l,x.small)→PbG (sectsP o p l).1∧(sectsP o p l).1.init.length≤p.init.length+Sx.nodess l∧(sectsP o p l).1.values.length≤p.values.length+Sx.nodess l
 |[],o,p,hp,_,_=>⟨hp,by simp[sectsP],by simp[sectsP]⟩
 |s::l,o,p,hp,h1,h2=>by
  rw[sectsP]
  cases h:headM s with
  |none=>exact⟨hp,Nat.le_add_right _ _,Nat.le_add_right _ _⟩
  |some wr=>
   obtain⟨w,rest⟩:=wr
   simp only
   cases afterB o w with
   |none=>exact⟨hp,Nat.le_add_right _ _,Nat.le_add_right _ _⟩
   |some o'=>
    simp only
    obtain⟨o1,o2,o3⟩:=headM_ok2 (h1 s (by simp)) h
    obtain⟨s2,s3⟩:=headM_small (h2 s (by simp)) h
    have hs:=sectP_ok (w:=w) hp s2 o3 s3
    have hsl:=sectP_len p w rest
    have hn:=headM_nodes h
    have hn2:=len_nodess rest
    simp only[Sx.nodess]
    cases(sectP p w rest).2==0 with
    |false=>exact⟨hs,by simp only[cond_false];omega,by simp only[cond_false];omega⟩
    |true=>
     have ih:=sectsP_ok l o' (sectP p w rest).1 hs (fun y hy=>h1 y (by simp[hy])) (fun y hy=>h2 y (by simp[hy]))
     simp only[cond_true]
     exact⟨ih.1,by omega,by omega⟩
theorem namedP_ok{x:Sx}{want:ByteArray}(hok:x.ok):(namedP x want).1.size≤bigN:=by
 unfold namedP
 cases h:headM x with
 |none=>exact empty_ok
 |some wr=>
  obtain⟨w,rest⟩:=wr
  obtain⟨o1,o2,o3⟩:=headM_ok2 hok h
  simp only
  cases bEq w want with
  |false=>exact empty_ok
  |true=>
   simp only[cond_true]
   split
   ·rename_i r
    have:=textOf_okQ (o3 r (by simp))
    cases kindOf r==1 with
    |false=>exact empty_ok
    |true=>
     simp only[cond_true]
     cases nameB (textOf r)with
     |false=>exact empty_ok
     |true=>exact this
   ·exact empty_ok
theorem andFm_ok:andFm.ok∧andFm.small:=fm_mk_ok (by decide) (by decide) (by simp) (by simp) (by simp) (by simp) (by simp) (by simp) (by simp) (by simp)
theorem pb0_ok{n d:ByteArray}(hn:n.size≤bigN)(hd:d.size≤bigN):PbG (pb0 n d):=⟨hn,hd,⟨by simp[pb0],by simp[pb0]⟩,by simp[pb0],by simp[pb0],andFm_ok⟩
theorem ats_in(n:Nat): ∀ l:List At,inNR n (atRows l)
 |[]=>by simp only[atRows,List.map_nil,inNR]
 |a::l=>by
  have:=ats_in n l
  simp only[atRows,List.map_cons,inNR,atRow,inNL,inN,and_true,true_and]at this⊢
  exact⟨strs_in _ _,this⟩
theorem vls_in(n:Nat): ∀ l:List Vl,inNR n (vlRows l)
 |[]=>by simp only[vlRows,List.map_nil,inNR]
 |a::l=>by
  have:=vls_in n l
  simp only[vlRows,List.map_cons,inNR,vlRow,inNL,inN,and_true,true_and]at this⊢
  exact⟨strs_in _ _,this⟩
theorem pbP_ok{x:Sx}(hok:x.ok)(hsm:x.small):PbG (pbP x).1∧(pbP x).1.init.length≤x.nodes∧(pbP x).1.values.length≤x.nodes:=by
 have z0: ∀ n d:ByteArray,n.size≤bigN→d.size≤bigN→PbG (pb0 n d)∧(pb0 n d).init.length≤x.nodes∧(pb0 n d).values.length≤x.nodes:=fun n d hn hd=>⟨pb0_ok hn hd,by simp[pb0],by simp[pb0]⟩
 unfold pbP
 cases h:headM x with
 |none=>exact z0 _ _ empty_ok empty_ok
 |some wr=>
  obtain⟨w,rest⟩:=wr
  obtain⟨o1,o2,o3⟩:=headM_ok2 hok h
  obtain⟨s2,s3⟩:=headM_small hsm h
  have hnn:=headM_nodes h
  simp only
  cases bEq w opDef with
  |false=>exact z0 _ _ empty_ok empty_ok
  |true=>
   simp only[cond_true]
   cases rest with
   |nil=>exact z0 _ _ empty_ok empty_ok
   |cons n rest1=>
    simp only
    have hn:=namedP_ok (want:=opPrb) (o3 n (by simp))
    cases(namedP n opPrb).2==0 with
    |false=>exact z0 _ _ empty_ok empty_ok
    |true=>
     simp only[cond_true]
     cases rest1 with
     |nil=>exact z0 _ _ hn empty_ok
     |cons d rest2=>
      simp only
      have hd:=namedP_ok (want:=opDom) (o3 d (by simp))
      cases(namedP d opDom).2==0 with
      |false=>exact z0 _ _ hn empty_ok
      |true=>
       simp only[cond_true]
       have hS:=sectsP_ok rest2 pbOrder (pb0 (namedP n opPrb).1 (namedP d opDom).1) (pb0_ok hn hd) (fun y hy=>o3 y (by simp[hy])) (fun y hy=>s3 y (by simp[hy]))
       simp only[Sx.nodess]at hnn
       refine⟨hS.1,?_,?_⟩
       ·have:=hS.2.1;simp only[pb0,List.length_nil]at this⊢;omega
       ·have:=hS.2.2;simp only[pb0,List.length_nil]at this⊢;omega
theorem pbP_small{x:Sx}(hok:x.ok)(hv:(svalid x 0 0).1=true):(pbP x).1.ok∧PbSm (pbP x).1:=by
 obtain⟨h1,h2,h3⟩:=pbP_ok hok (svalid_small hv)
 have hn:x.nodes≤4096:=by
  have:=((svalid_iff x 0 0 (by omega) (by omega)).1.1 hv).2.2
  omega
 refine⟨⟨h1.n,h1.d,⟨by have:=h1.o.1;unfold bigN;omega,h1.o.2⟩,⟨by unfold bigN;omega,fun a ha=>(h1.i a ha).1⟩,⟨by unfold bigN;omega,fun v hv=>(h1.v v hv).1⟩,h1.g.1⟩,⟨h1.g.2,h1.o.1,by omega,by omega,fun a ha=>(h1.i a ha).2,fun v hv=>(h1.v v hv).2⟩⟩
theorem pParse_c{x:Sx}(hok:x.ok)(h:Heap):PCall Try.prog 9 [.agg x.cells] h fun r h'=>r= .tup [.agg (parsePb x).1.cells,errP (parsePb x).2]∧h'=h:=by
 refine PCall.frz Ty.hb_9 ?_
 have hv:=fun h:Heap=>svalid_c hok h
 have hX:parsePb x=(if(svalid x 0 0).1=true then(if(pbP x).2=0 then(if writeB (pbP x).1=true then((pbP x).1,0)else(zeroPb,5))else(zeroPb,(pbP x).2))else(zeroPb,2)):=rfl
 generalize parsePb x=F at hX
 have bad: ∀ (c:Int)(h':Heap),(c==0)=false→Grow h h'→F=(zeroPb,c)→FrzTo h.next h' (.tup [.agg F.1.cells,errP F.2]) (.tup [.agg pbZ,errV c])∧Grow h h':=by
  intro c h' hc hg hF
  subst hF
  have:errP c=errV c:=by simp only[errP,hc,cond_false]
  simp only[this]
  refine⟨?_,hg⟩
  simp only[errV,zeroPb,zeroFm,Pb.cells,Fm.cells,Ex.rows,Fm.rows,pmRows,strRows,atRows,vlRows,List.map_nil,List.cons_append,List.nil_append,FrzTo,FrzL]
  exact⟨_,rfl,⟨_,rfl,rfl,rfl,.inr (.inl ⟨rfl,.inr rfl⟩),.inr (.inl ⟨rfl,.inr rfl⟩),.inr (.inl ⟨rfl,.inr rfl⟩),rfl,rfl,.inr (.inl ⟨rfl,.inr rfl⟩),.inr (.inl ⟨rfl,.inr rfl⟩),.inr (.inl ⟨rfl,.inr rfl⟩),.inr (.inl ⟨rfl,.inr rfl⟩),trivial⟩,rfl,trivial⟩
 simp only[errV]at bad
 cases v1:(svalid x 0 0).1 with
 |false=>
  rw[v1]at hv
  rw[if_neg (by rw[v1];simp)]at hX
  obtain⟨kind,value,line,col,text,kids⟩:=x
  simp only[Sx.cells]at hv⊢
  refine pcall_body (ow:=fun _=>false) (wf:=fun _=>false) Ty.mixed Try.func9 rfl Ty.hb_9 (by rw[Try.ntmps9];simp) ?_
  rw[Try.ntmps9,Try.results9]
  repeat'(first|refine a_seq fun K hK=>?_|(refine a_regionS ?_;simp(maxSteps:=2000000) only[Ty.w,simprocAttr])|(refine hK _ _ ?_;clear hK;try simp only[pst0,simprocAttr]))
  refine owp_useQ (hv _) (by(try simp only[Ty.w,simprocAttr,]);try rfl) ?_;simp(maxSteps:=2000000) only[Ty.w,simprocAttr,]
  repeat'(first|refine a_seq fun K hK=>?_|((first|refine a_regionS ?_|refine a_ret ?_);simp(maxSteps:=2000000) only[Ty.w,simprocAttr,Bool.not_false])|(refine hK _ _ ?_;clear hK;try simp only[pst0,simprocAttr]))
  exact bad 2 _ rfl (((Grow.refl h).new _).set (Nat.le_refl _) _) hX
 |true=>
  have hp:=pparse_c hok (svalid_small v1)
  obtain⟨gok,gsm⟩:=pbP_small hok v1
  rw[v1]at hv
  rw[if_pos v1]at hX
  generalize pbP x=E at hp hX gok gsm
  obtain⟨p,c⟩:=E
  simp only at hp hX gok gsm
  obtain⟨kind,value,line,col,text,kids⟩:=x
  simp only[Sx.cells]at hv hp⊢
  have n1:(h.next=h.next+1)=False:=by simp
  have n2:(h.next=h.next+1+1)=False:=eq_false (by omega)
  have n3:(h.next+1=h.next+1+1)=False:=by simp
  cases hc:c==0 with
  |false=>
   rw[if_neg (by simpa using hc)]at hX
   have e0:errP c=errV c:=by simp only[errP,hc,cond_false]
   rw[e0]at hp
   simp only[errV]at hp
   obtain⟨pn,pd,po,pi,pv,⟨gop,gna,gar,gpa,gex,gki⟩⟩:=p
   simp only[Pb.cells,Fm.cells,List.cons_append,List.nil_append]at hp
   refine pcall_body (ow:=fun _=>false) (wf:=fun _=>false) Ty.mixed Try.func9 rfl Ty.hb_9 (by rw[Try.ntmps9];simp) ?_
   rw[Try.ntmps9,Try.results9]
   repeat'(first|refine a_seq fun K hK=>?_|(refine a_regionS ?_;simp(maxSteps:=2000000) only[Ty.w,simprocAttr])|(refine hK _ _ ?_;clear hK;try simp only[pst0,simprocAttr]))
   refine owp_useQ (hv _) (by(try simp only[Ty.w,simprocAttr,]);try rfl) ?_;simp(maxSteps:=2000000) only[Ty.w,simprocAttr,]
   repeat'(first|refine a_seq fun K hK=>?_|(refine a_regionS ?_;simp(maxSteps:=2000000) only[Ty.w,simprocAttr,Bool.not_true])|(refine a_skip ?_;try simp only[pst0,simprocAttr])|(refine a_cond _ (by(try simp(maxSteps:=2000000) only[Ty.w,simprocAttr,Bool.not_true]);rfl) (fun hb=>?_) (fun hb=>?_)<;>(try simp only[hb0,decide_eq_true_eq,decide_eq_false_iff_not,simprocAttr]at hb)<;>(try(exfalso;omega)))|(refine hK _ _ ?_;clear hK;try simp only[pst0,simprocAttr]))
   refine owp_useQ (hp _) (by(try simp only[Ty.w,simprocAttr,]);try rfl) ?_;simp(maxSteps:=2000000) only[Ty.w,simprocAttr,]
   repeat'(first|refine a_seq fun K hK=>?_|((first|refine a_regionS ?_|refine a_ret ?_);simp(maxSteps:=2000000) only[Ty.w,simprocAttr,n1,n2,n3,nsucc])|(refine hK _ _ ?_;clear hK;try simp only[pst0,simprocAttr]))
   exact bad c _ hc (((((Grow.refl h).new _).new _).set (Nat.le_succ _) _).set (Nat.le_refl _) _) hX
  |true=>
   rw[if_pos (by simpa using hc)]at hX
   have e0:errP c= .sc .nilIface:=by simp only[errP,hc,cond_true]
   rw[e0]at hp
   have hW:=fun h:Heap=>pWrite_c gok gsm h
   cases v2:writeB p with
   |false=>
    rw[if_neg (by rw[v2];simp)]at hX
    simp only[v2,Bool.false_eq_true,if_false]at hW
    obtain⟨pn,pd,po,pi,pv,⟨gop,gna,gar,gpa,gex,gki⟩⟩:=p
    simp only[Pb.cells,Fm.cells,List.cons_append,List.nil_append,zeroSx,Sx.cells,Sx.rows,errV]at hp hW
    refine pcall_body (ow:=fun _=>false) (wf:=fun _=>false) Ty.mixed Try.func9 rfl Ty.hb_9 (by rw[Try.ntmps9];simp) ?_
    rw[Try.ntmps9,Try.results9]
    repeat'(first|refine a_seq fun K hK=>?_|(refine a_regionS ?_;simp(maxSteps:=2000000) only[Ty.w,simprocAttr])|(refine hK _ _ ?_;clear hK;try simp only[pst0,simprocAttr]))
    refine owp_useQ (hv _) (by(try simp only[Ty.w,simprocAttr,]);try rfl) ?_;simp(maxSteps:=2000000) only[Ty.w,simprocAttr,]
    repeat'(first|refine a_seq fun K hK=>?_|(refine a_regionS ?_;simp(maxSteps:=2000000) only[Ty.w,simprocAttr,Bool.not_true])|(refine a_skip ?_;try simp only[pst0,simprocAttr])|(refine a_cond _ (by(try simp(maxSteps:=2000000) only[Ty.w,simprocAttr,Bool.not_true]);rfl) (fun hb=>?_) (fun hb=>?_)<;>(try simp only[hb0,decide_eq_true_eq,decide_eq_false_iff_not,simprocAttr]at hb)<;>(try(exfalso;omega)))|(refine hK _ _ ?_;clear hK;try simp only[pst0,simprocAttr]))
    refine owp_useQ (hp _) (by(try simp only[Ty.w,simprocAttr,]);try rfl) ?_;simp(maxSteps:=2000000) only[Ty.w,simprocAttr,]
    repeat'(first|refine a_seq fun K hK=>?_|(refine a_regionS ?_;simp(maxSteps:=2000000) only[Ty.w,simprocAttr,n1,n2,n3,nsucc])|(refine a_skip ?_;try simp only[pst0,simprocAttr])|(refine a_cond _ (by(try simp(maxSteps:=2000000) only[Ty.w,simprocAttr,n1,n2,n3,nsucc]);rfl) (fun hb=>?_) (fun hb=>?_)<;>(try simp only[hb0,decide_eq_true_eq,decide_eq_false_iff_not,simprocAttr]at hb)<;>(try(exfalso;omega)))|(refine hK _ _ ?_;clear hK;try simp only[pst0,simprocAttr]))
    refine owp_useQ (hW _) (by(try simp only[Ty.w,simprocAttr,n1,n2,n3,nsucc]);try rfl) ?_;simp(maxSteps:=2000000) only[Ty.w,simprocAttr,n1,n2,n3,nsucc]
    repeat'(first|refine a_seq fun K hK=>?_|((first|refine a_regionS ?_|refine a_ret ?_);simp(maxSteps:=2000000) only[Ty.w,simprocAttr,n1,n2,n3,nsucc])|(refine hK _ _ ?_;clear hK;try simp only[pst0,simprocAttr]))
    exact bad 5 _ rfl (((((((Grow.refl h).new _).new _).set (Nat.le_succ _) _).new _).set (by omega) _).set (Nat.le_refl _) _) hX
   |true=>
    rw[if_pos v2]at hX
    simp only[v2,if_true]at hW
    have hfz: ∀ n hh,FrzL n hh p.cells p.cells:=fun n hh=>by
     obtain⟨pn,pd,po,pi,pv,g⟩:=p
     obtain⟨gop,gna,gar,gpa,gex,gki⟩:=g
     simp only[Pb.cells,Fm.cells,List.cons_append,List.nil_append,FrzL,FrzTo,true_and,and_true]
     exact⟨.inl (pms_in _ _),.inl (ats_in _ _),.inl (vls_in _ _),.inl (strs_in _ _),.inl (pms_in _ _),.inl (exs_in _ _),.inl (fms_in _ _)⟩
    generalize pbW p=X at hW
    obtain⟨ki,va,li,co,te,ks⟩:=X
    obtain⟨pn,pd,po,pi,pv,⟨gop,gna,gar,gpa,gex,gki⟩⟩:=p
    simp only[Pb.cells,Fm.cells,List.cons_append,List.nil_append,Sx.cells]at hp hW hfz
    refine pcall_body (ow:=fun _=>false) (wf:=fun _=>false) Ty.mixed Try.func9 rfl Ty.hb_9 (by rw[Try.ntmps9];simp) ?_
    rw[Try.ntmps9,Try.results9]
    repeat'(first|refine a_seq fun K hK=>?_|(refine a_regionS ?_;simp(maxSteps:=2000000) only[Ty.w,simprocAttr])|(refine hK _ _ ?_;clear hK;try simp only[pst0,simprocAttr]))
    refine owp_useQ (hv _) (by(try simp only[Ty.w,simprocAttr,]);try rfl) ?_;simp(maxSteps:=2000000) only[Ty.w,simprocAttr,]
    repeat'(first|refine a_seq fun K hK=>?_|(refine a_regionS ?_;simp(maxSteps:=2000000) only[Ty.w,simprocAttr,Bool.not_true])|(refine a_skip ?_;try simp only[pst0,simprocAttr])|(refine a_cond _ (by(try simp(maxSteps:=2000000) only[Ty.w,simprocAttr,Bool.not_true]);rfl) (fun hb=>?_) (fun hb=>?_)<;>(try simp only[hb0,decide_eq_true_eq,decide_eq_false_iff_not,simprocAttr]at hb)<;>(try(exfalso;omega)))|(refine hK _ _ ?_;clear hK;try simp only[pst0,simprocAttr]))
    refine owp_useQ (hp _) (by(try simp only[Ty.w,simprocAttr,]);try rfl) ?_;simp(maxSteps:=2000000) only[Ty.w,simprocAttr,]
    repeat'(first|refine a_seq fun K hK=>?_|(refine a_regionS ?_;simp(maxSteps:=2000000) only[Ty.w,simprocAttr,n1,n2,n3,nsucc])|(refine a_skip ?_;try simp only[pst0,simprocAttr])|(refine a_cond _ (by(try simp(maxSteps:=2000000) only[Ty.w,simprocAttr,n1,n2,n3,nsucc]);rfl) (fun hb=>?_) (fun hb=>?_)<;>(try simp only[hb0,decide_eq_true_eq,decide_eq_false_iff_not,simprocAttr]at hb)<;>(try(exfalso;omega)))|(refine hK _ _ ?_;clear hK;try simp only[pst0,simprocAttr]))
    refine owp_useQ (hW _) (by(try simp only[Ty.w,simprocAttr,n1,n2,n3,nsucc]);try rfl) ?_;simp(maxSteps:=2000000) only[Ty.w,simprocAttr,n1,n2,n3,nsucc]
    repeat'(first|refine a_seq fun K hK=>?_|((first|refine a_regionS ?_|refine a_ret ?_);simp(maxSteps:=2000000) only[Ty.w,simprocAttr,n1,n2,n3,nsucc])|(refine a_skip ?_;try simp only[pst0,simprocAttr])|(refine a_cond _ (by(try simp(maxSteps:=2000000) only[Ty.w,simprocAttr,n1,n2,n3,nsucc]);rfl) (fun hb=>?_) (fun hb=>?_)<;>(try simp only[hb0,decide_eq_true_eq,decide_eq_false_iff_not,simprocAttr]at hb)<;>(try(exfalso;omega)))|(refine hK _ _ ?_;clear hK;try simp only[pst0,simprocAttr]))
    refine⟨?_,((((((Grow.refl h).new _).new _).set (Nat.le_succ _) _).new _).set (by omega) _).set (Nat.le_refl _) _⟩
    rw[hX]
    simp only[errP,beq_self_eq_true,cond_true,Pb.cells,Fm.cells,List.cons_append,List.nil_append,FrzTo]
    exact⟨_,rfl,by simp only[FrzL,FrzTo,and_true,true_and];exact⟨_,rfl,hfz _ _⟩⟩
end Go.Proofs.Ytjeolbgpllbemaa
namespace Go.Proofs.Ytjeolbgpllbemaa
open Go.AM
def hW(x:Sx):ByteArray:=match headM x with
 |some (w,_)=>w
 |none=>⟨#[]⟩
def chainB:List ByteArray→List ByteArray→Bool
 |_,[]=>true
 |o,w::l=>match afterB o w with
  |none=>false
  |some o'=>chainB o' l
theorem sectsP_chain: ∀ (l:List Sx)(o:List ByteArray)(p:Pb),(sectsP o p l).2=0→chainB o (l.map hW)=true
 |[],_,_,_=>rfl
 |s::l,o,p,h=>by
  rw[sectsP]at h
  simp only[List.map_cons,chainB,hW]
  cases h1:headM s with
  |none=>rw[h1]at h;simp at h
  |some wr=>
   obtain⟨w,rest⟩:=wr
   rw[h1]at h
   simp only at h⊢
   cases h2:afterB o w with
   |none=>rw[h2]at h;simp at h
   |some o'=>
    rw[h2]at h
    simp only at h⊢
    cases h3:(sectP p w rest).2==0 with
    |true=>
     rw[h3]at h
     exact sectsP_chain l o' _ h
    |false=>
     rw[h3]at h
     simp only[cond_false]at h
     rw[h]at h3
     simp at h3
def wordsOk:List ByteArray→Bool
 |[]=>false
 |d::l=>bEq d opDom&&chainB pbOrder l
theorem pbP_words{a b:Sx}{T:List Sx}(h:(pbP (listM (a::b::T))).2=0):wordsOk (T.map hW)=true:=by
 unfold pbP at h
 cases h0:headM (listM (a::b::T))with
 |none=>rw[h0]at h;simp at h
 |some wr=>
  obtain⟨w,r⟩:=wr
  rw[h0]at h
  have hr:r=b::T:=by
   simp only[headM,listM,if_true]at h0
   cases hk:kindOf a==1 with
   |true=>rw[hk]at h0;simp only[cond_true,Option.some.injEq,Prod.mk.injEq]at h0;exact h0.2.symm
   |false=>rw[hk]at h0;simp at h0
  subst hr
  simp only at h
  cases h1:bEq w opDef with
  |false=>rw[h1]at h;simp at h
  |true=>
   rw[h1]at h
   simp only[cond_true]at h
   cases h2:(namedP b opPrb).2==0 with
   |false=>
    rw[h2]at h
    simp only[cond_false]at h
    rw[h]at h2;simp at h2
   |true=>
    rw[h2]at h
    simp only[cond_true]at h
    cases T with
    |nil=>simp at h
    |cons d T=>
     simp only at h
     cases h3:(namedP d opDom).2==0 with
     |false=>
      rw[h3]at h
      simp only[cond_false]at h
      rw[h]at h3;simp at h3
     |true=>
      rw[h3]at h
      simp only[cond_true]at h
      simp only[List.map_cons,wordsOk,sectsP_chain _ _ _ h,Bool.and_true]
      unfold namedP at h3
      unfold hW
      cases h4:headM d with
      |none=>rw[h4]at h3;simp at h3
      |some wr=>
       obtain⟨w2,r2⟩:=wr
       rw[h4]at h3
       simp only at h3⊢
       cases h5:bEq w2 opDom with
       |true=>rfl
       |false=>rw[h5]at h3;simp at h3
def ordT{α:Type}(T:List α)(j l:Nat):List α:=if j=l then T.take (j+1)++T.drop j else match T[j]?,T[l]? with
 |some a,some b=>(T.set j b).set l a
 |_,_=>T
theorem ordT_map{α β:Type}(f:α→β)(T:List α)(j l:Nat):(ordT T j l).map f=ordT (T.map f) j l:=by
 unfold ordT
 split
 ·simp [List.map_take,List.map_drop]
 ·simp only[List.getElem?_map]
  cases T[j]? with
  |none=>rfl
  |some a=>
   cases T[l]? with
   |none=>rfl
   |some b=>simp[List.map_set]
def secW(a b c:Bool):List ByteArray:=opDom::((if a then[opObjs]else[])++((if b then[opInit]else[])++(if c then[opGoal]else[])))
theorem secW_bad: ∀ a b c:Bool,2≤(secW a b c).length→ ∀ j,j<(secW a b c).length→ ∀ l,l<(secW a b c).length→wordsOk (ordT (secW a b c) j l)=false:=by
 intro a b c
 cases a<;>cases b<;>cases c<;>decide+kernel
def secsOf(p:Pb):List Sx:=nameS opDom p.domain::(objsW p.objects++(initW p.init p.values++goalW p.goal))
theorem pbW_eq(p:Pb):pbW p=listM (wordM opDef::nameS opPrb p.name::secsOf p):=rfl
theorem hW_list{w:ByteArray}{l:List Sx}:hW (listM (wordM w::l))=w:=by
 unfold hW
 rw[headM_list]
theorem secs_words(p:Pb):(secsOf p).map hW=secW (!p.objects.isEmpty) (!(p.init.isEmpty&&p.values.isEmpty)) (!(goalE p.goal)):=by
 unfold secsOf secW objsW initW goalW
 simp only[List.map_cons,List.map_append,nameS,hW_list]
 congr 1
 congr 1
 ·cases p.objects.isEmpty<;>simp[objsS,hW_list]
 ·congr 1
  ·cases (p.init.isEmpty&&p.values.isEmpty)<;>simp[initS,hW_list]
  ·cases goalE p.goal<;>simp[goalS,hW_list]
theorem order_bad{p:Pb}{j l:Nat}(hn:2≤(secsOf p).length)(hj:j<(secsOf p).length)(hl:l<(secsOf p).length):((parsePb (listM (wordM opDef::nameS opPrb p.name::ordT (secsOf p) j l))).2==0)=false:=by
 cases h:(parsePb (listM (wordM opDef::nameS opPrb p.name::ordT (secsOf p) j l))).2==0 with
 |false=>rfl
 |true=>
  exfalso
  have h1:(parsePb (listM (wordM opDef::nameS opPrb p.name::ordT (secsOf p) j l))).2=0:=by simpa using h
  have h2:(pbP (listM (wordM opDef::nameS opPrb p.name::ordT (secsOf p) j l))).2=0:=by
   unfold parsePb at h1
   split at h1
   ·split at h1
    ·assumption
    ·exact h1
   ·simp at h1
  have h3:=pbP_words h2
  have hlen:(secW (!p.objects.isEmpty) (!(p.init.isEmpty&&p.values.isEmpty)) (!(goalE p.goal))).length=(secsOf p).length:=by rw[← secs_words,List.length_map]
  rw[ordT_map,secs_words,secW_bad _ _ _ (by omega) j (by omega) l (by omega)]at h3
  cases h3
end Go.Proofs.Ytjeolbgpllbemaa
namespace Go.AM
open Go.ChangeShapes Go.WideShapes
def partsT(P:Program)(t:TypeId):List (Nat × TypeId):=match P.underlying t with
 |some (.struct fs)=>fs.toList.map fun f=>(f.offset,f.type)
 |some (.array n e)=>(List.range n).map fun i=>(i*P.cellsOf e,e)
 |_=>[]
def inRow(P:Program)(e:Nat):Nat→List (Nat × TypeId)→Bool
 |o,[]=>o==e
 |o,p::l=>p.1==o&&inRow P e (o+P.cellsOf p.2) l
def covB(P:Program):Nat→TypeId→Bool
 |0,_=>false
 |f+1,t=>match P.underlying t with
  |some .bool=>true
  |some (.int _)=>true
  |some .string=>true
  |some (.slice e)=>decide (0<P.cellsOf e)&&covB P f e
  |some (.struct _)=>inRow P (P.cellsOf t) 0 (partsT P t)&&(partsT P t).all fun p=>covB P f p.2
  |some (.array _ _)=>inRow P (P.cellsOf t) 0 (partsT P t)&&(partsT P t).all fun p=>covB P f p.2
  |_=>false
def Arg(P:Program):Nat→TypeId→List PV→Prop
 |0,_,_=>False
 |f+1,t,ps=>match P.underlying t with
  |some .bool=> ∃ b,ps=[.sc (.bool b)]
  |some (.int k)=> ∃ n,(Lit.int k n).wf=true∧ps=[.sc (.int k n)]
  |some .string=> ∃ s:ByteArray,s.size≤reachBytes∧ps=[.sc (.string s)]
  |some (.slice e)=> ∃ rows,ps=[.imm (P.cellsOf e) rows]∧rows.length*P.bytesOf e≤reachBytes∧rows.length≤maxLen∧ ∀ r∈rows,r.length=P.cellsOf e∧Arg P f e r
  |some (.struct _)=>ps.length=P.cellsOf t∧ ∀ p∈partsT P t,Arg P f p.2 ((ps.drop p.1).take (P.cellsOf p.2))
  |some (.array _ _)=>ps.length=P.cellsOf t∧ ∀ p∈partsT P t,Arg P f p.2 ((ps.drop p.1).take (P.cellsOf p.2))
  |_=>False
section
variable {H:Type}{enc:TypeId × Value→H}{P:Program}{w:World}{sp:Nat→Bool}{held:Bool}
def RA(w:World)(ps:List PV)(cs:List Value):Prop:=(∀ v∈cs,v.oneCell'=true)∧ ∀ β n,RepL β n (fun b=>b<w.heap.size) w ps cs
theorem RA.len{ps:List PV}{cs:List Value}(h:RA w ps cs):ps.length=cs.length:=(h.2 ⟨fun _=>⟨none,0,0,0⟩,fun _=>False⟩ 0).len
theorem RA.append{ps ps':List PV}{cs cs':List Value}(h:RA w ps cs)(k:RA w ps' cs'):RA w (ps++ps') (cs++cs'):=
 ⟨fun v hv=>by exact(List.mem_append.1 hv).elim (h.1 v) (k.1 v),fun β n=>(h.2 β n).append (k.2 β n)⟩
theorem inRow_le{e:Nat}:(l:List (Nat × TypeId))→(o:Nat)→inRow P e o l=true→o≤e∧ ∀ p∈l,o≤p.1∧p.1+P.cellsOf p.2≤e
 |[],o,h=>by simp[inRow]at h;simp[h]
 |p::l,o,h=>by
  simp only[inRow,Bool.and_eq_true,beq_iff_eq]at h
  obtain⟨h1,h2⟩:=inRow_le l _ h.2
  refine⟨by omega,fun q hq=>?_⟩
  rcases List.mem_cons.1 hq with rfl|hq
  ·omega
  ·have:=h2 q hq;omega
theorem parts_rep{c:Nat}{cs:List Value}:(l:List (Nat × TypeId))→(o:Nat)→inRow P cs.length o l=true→
  (∀ p∈l, ∃ ps,Arg P c p.2 ps∧RA w ps ((cs.drop p.1).take (P.cellsOf p.2)))→
  ∃ ps,RA w ps (cs.drop o)∧ ∀ p∈l,Arg P c p.2 ((ps.drop (p.1-o)).take (P.cellsOf p.2))
 |[],o,h,_=>by
  simp[inRow]at h
  refine⟨[],⟨?_,fun β n=>?_⟩,by simp⟩
  ·rw [List.drop_of_length_le (by omega)];simp
  ·rw [List.drop_of_length_le (by omega)];simp[RepL]
 |p::l,o,h,hp=>by
  have hle:=(inRow_le (p::l) o h).2 p (by simp)
  simp only[inRow,Bool.and_eq_true,beq_iff_eq]at h
  obtain⟨ps,h1,h2⟩:=parts_rep l _ h.2 (fun q hq=>hp q (by simp[hq]))
  obtain⟨ps0,h3,h4⟩:=hp p (by simp)
  have hl2:=(inRow_le l _ h.2).2
  have e0:p.1=o:=h.1
  have l0:ps0.length=P.cellsOf p.2:=by rw[h4.len,List.length_take,List.length_drop];omega
  refine⟨ps0++ps,?_,fun q hq=>?_⟩
  ·have:cs.drop o=(cs.drop p.1).take (P.cellsOf p.2)++cs.drop (o+P.cellsOf p.2):=by
    rw[e0, ← List.drop_drop,List.take_append_drop]
   rw[this]
   exact h4.append h1
  ·rcases List.mem_cons.1 hq with rfl|hq
   ·rw [e0,Nat.sub_self,List.drop_zero,List.take_append_of_le_length (by omega),List.take_of_length_le (by omega)]
    exact h3
   ·have h5:=hl2 q hq
    have:q.1-o=ps0.length+(q.1-(o+P.cellsOf p.2)):=by omega
    rw[this, ← List.drop_drop,List.drop_left]
    exact h2 q hq
theorem exists_list{α:Type}{R:Nat→α→Prop}:(n:Nat)→(∀ i,i<n→ ∃ x,R i x)→ ∃ l:List α,l.length=n∧ ∀ i x,l[i]? =some x→R i x
 |0,_=>⟨[],rfl,by simp⟩
 |n+1,h=>by
  obtain⟨l,h1,h2⟩:=exists_list n (fun i hi=>h i (by omega))
  obtain⟨x,hx⟩:=h n (by omega)
  refine⟨l++[x],by simp[h1],fun i y hy=>?_⟩
  rw[List.getElem?_append]at hy
  split at hy
  ·exact h2 i y hy
  ·rename_i hi
   have:i=n:=by
    have:=(List.getElem?_eq_some_iff.1 hy).1
    simp at this;omega
   subst this
   rw[h1]at hy
   simp at hy
   subst hy;exact hx
theorem weightsAll_mem{e:TypeId}{n:Nat}:{ds:List (DataW H)}→{i:Nat}→{d:DataW H}→ds[i]? =some d→n∈d.weights P e→n∈DataW.weightsAll P e ds
 |[],_,_,h,_=>by simp at h
 |d0::ds,0,d,h,hn=>by
  simp at h;subst h
  simp only[DataW.weightsAll,List.mem_append];exact .inl hn
 |d0::ds,i+1,d,h,hn=>by
  simp at h
  simp only[DataW.weightsAll,List.mem_append];exact .inr (weightsAll_mem h hn)
theorem sc_RA{v:Value}(h:v.oneCell'=true):RA w [.sc v] [v]:=
 ⟨fun u hu=>by simp at hu;subst hu;exact h,fun β n=>by simp only[RepL,Rep];exact⟨trivial,trivial⟩⟩
theorem arg_of: ∀ (c:Nat)(t:TypeId),covB P c t=true→ ∀ (fuel:Nat)(cs:List Value)(x:DataW H × List MemPlace),DataW.trod enc P w 0 sp held fuel t cs=some x→(∀ n∈x.1.weights P t,n≤reachBytes)→
  ∃ ps,Arg P c t ps∧RA w ps cs
 |0,_,h,_,_,_,_,_=>by simp[covB]at h
 |c+1,t,h,fuel,cs,x,hx,hw=>by
  unfold covB at h
  split at h
  ·rename_i hu
   obtain⟨b,rfl,rfl⟩:=DataW.trod_bool hu hx
   refine⟨[.sc (.bool b)],?_,sc_RA rfl⟩
   unfold Arg;rw[hu];exact⟨b,rfl⟩
  ·rename_i k hu
   obtain⟨n,rfl,rfl,hwf⟩:=DataW.trod_int hu hx
   refine⟨[.sc (.int k n)],?_,sc_RA rfl⟩
   unfold Arg;rw[hu];exact⟨n,hwf,rfl⟩
  ·rename_i hu
   obtain⟨s,rfl,rfl,hs⟩:=DataW.trod_string hu hx
   refine⟨[.sc (.string s)],?_,sc_RA rfl⟩
   unfold Arg;rw[hu]
   refine⟨s,?_,rfl⟩
   have:=hw s.data.toList.length (by simp[DataW.weights])
   simpa using this
  ·rename_i e hu
   simp only[Bool.and_eq_true,decide_eq_true_eq]at h
   obtain⟨hpos,hcov⟩:=h
   rcases DataW.trod_slice hu hx with⟨rfl,rfl⟩|⟨a,len,cap,elems,rest,n,rfl,rfl,rfl,hb,hl,hm,hlen,hel,hsp,hns⟩
   ·refine ⟨[.imm (P.cellsOf e) []],?_,fun v hv=>?_,fun β n=>?_⟩
    ·unfold Arg;rw[hu];exact⟨[],rfl,by simp,by simp,by simp⟩
    ·simp at hv;subst hv;rfl
    ·simp only[RepL,Rep]
     exact⟨⟨none,0,rfl,Nat.le_refl _,Nat.zero_le _,.inl (by trivial)⟩,trivial⟩
   ·have each: ∀ i,i<len→ ∃ r:List PV,(r.length=P.cellsOf e∧Arg P c e r)∧ ∃ ci,RA w r ci∧ci.length=P.cellsOf e∧ ∀ j,j<P.cellsOf e→w.cell? ((a.add (i*P.cellsOf e)).add j)=ci[j]?:=by
     intro i hi
     have h1:=hel i hi
     have h2:elems[i]? =some (elems[i]'(by omega)):=List.getElem?_eq_getElem _
     rw[h2,Option.bind_eq_some_iff]at h1
     obtain⟨ci,h3,h4⟩:=h1
     obtain⟨_,h5,h6⟩:=World.cells?_some h3
     obtain⟨r,h7,h8⟩:=arg_of c e hcov n ci _ h4 (fun m hm=>hw m (by
      simp only[DataW.weights,hu,List.mem_cons,List.mem_append]
      exact .inr (.inl (weightsAll_mem (i:=i) (by rw[List.getElem?_map,h2];try rfl) hm))))
     exact⟨r,⟨by rw[h8.len,h5],h7⟩,ci,h8,h5,h6⟩
    obtain⟨rows,hrl,hrows⟩:=exists_list len each
    refine⟨[.imm (P.cellsOf e) rows],?_,fun v hv=>?_,fun β m=>?_⟩
    ·unfold Arg;rw[hu]
     refine⟨rows,rfl,?_,by omega,fun r hr=>?_⟩
     ·have:=hw ((elems.map (·.1)).length*P.bytesOf e+(rest.map (·.1)).length*P.bytesOf e) (by
       simp only[DataW.weights,hu,List.mem_cons,Nat.add_mul,true_or])
      have h9:rows.length=(elems.map (·.1)).length:=by simp[hrl,hlen]
      rw[h9]
      exact Nat.le_trans (Nat.le_add_right _ _) this
     ·obtain ⟨i,hi⟩:=List.getElem?_of_mem hr
      exact(hrows i r hi).1
    ·simp at hv;subst hv;rfl
    ·simp only[RepL,Rep]
     refine⟨⟨some a,cap,by rw[hrl],by omega,hm,?_⟩,trivial⟩
     by_cases h0:len=0
     ·left;exact List.length_eq_zero_iff.1 (by omega)
     ·right
      obtain⟨_,_,c0,_,hc0,hcell0⟩:=each 0 (by omega)
      have h10:=hcell0 0 hpos
      rw[List.getElem?_eq_getElem (by omega)]at h10
      simp only[Nat.zero_mul,Addr.add,if_true]at h10
      have hs:a.spot=none:=by
       unfold World.cell? at h10
       split at h10
       ·split at h10
        ·simp at h10
        ·rename_i hsp;simpa using hsp
       ·simp at h10
      have hblk:a.block<w.heap.size:=by
       unfold World.cell? at h10
       split at h10
       ·rename_i hh;exact(Array.getElem?_eq_some_iff.1 hh).1
       ·simp at h10
      refine⟨a.block,a.off,hblk,by cases a;simp only at hs;subst hs;rfl,?_⟩
      rw[RepR_iff]
      intro i r hr
      obtain⟨⟨g1,_⟩,ci,g2,g3,g4⟩:=hrows i r hr
      refine⟨g1,?_⟩
      rw[RepS_iff]
      intro j p hp
      obtain⟨v,hv,hrep⟩:=(g2.2 β m).get hp
      have hj:j<P.cellsOf e:=by rw[← g3];exact(List.getElem?_eq_some_iff.1 hv).1
      refine⟨v,?_,g2.1 v (List.mem_of_getElem? hv),hrep⟩
      rw[← hv, ← g4 j hj]
      congr 1
      cases a
      simp only at hs;subst hs
      simp only[Addr.add]
      split<;>split<;>simp_all<;>omega
  ·rename_i fs hu
   simp only[Bool.and_eq_true,List.all_eq_true]at h
   obtain⟨xs,n,rfl,rfl,hcl,hxl,hp⟩:=DataW.trod_struct hu hx
   have hpt:partsT P t=fs.toList.map fun f=>(f.offset,f.type):=by unfold partsT;rw[hu]
   obtain⟨ps,h1,h2⟩:=parts_rep (w:=w) (c:=c) (cs:=cs) (partsT P t) 0 (by rw[hcl];exact h.1) (fun p hpm=>by
    have hcv:=h.2 p hpm
    rw[hpt]at hpm
    obtain⟨i,hi⟩:=List.getElem?_of_mem hpm
    rw[List.getElem?_map,Option.map_eq_some_iff]at hi
    obtain⟨f,hf,rfl⟩:=hi
    have hf':fs[i]? =some f:=by simpa using hf
    have hi':i<xs.length:=by
     rw[hxl]
     exact(Array.getElem?_eq_some_iff.1 hf').1
    have h3:=hp i f hf'
    rw[List.getElem?_eq_getElem hi']at h3
    exact arg_of c f.type hcv n _ _ h3 (fun m hm=>hw m (by
     simp only[DataW.weights,hu]
     exact DataW.weights_mem_each (j:=i) (t:=f.type) (d:=xs[i].1) (by rw[List.getElem?_map,hf];try rfl) (by rw[List.getElem?_map,List.getElem?_eq_getElem hi'];try rfl) m hm)))
   refine⟨ps,?_,by simpa using h1⟩
   unfold Arg;rw[hu]
   exact⟨by rw[h1.len,List.drop_zero,hcl],fun p hpm=>by simpa using h2 p hpm⟩
  ·rename_i k e hu
   simp only[Bool.and_eq_true,List.all_eq_true]at h
   obtain⟨xs,n,rfl,rfl,hcl,hxl,hp⟩:=DataW.trod_array hu hx
   have hpt:partsT P t=(List.range k).map fun i=>(i*P.cellsOf e,e):=by unfold partsT;rw[hu]
   obtain⟨ps,h1,h2⟩:=parts_rep (w:=w) (c:=c) (cs:=cs) (partsT P t) 0 (by rw[hcl];exact h.1) (fun p hpm=>by
    have hcv:=h.2 p hpm
    rw[hpt]at hpm
    obtain⟨i,hi,rfl⟩:=List.mem_map.1 hpm
    have hi':i<xs.length:=by rw[hxl];simpa using hi
    have h3:=hp i (by simpa using hi)
    rw[List.getElem?_eq_getElem hi']at h3
    exact arg_of c e hcv n _ _ h3 (fun m hm=>hw m (by
     simp only[DataW.weights,hu]
     exact weightsAll_mem (i:=i) (d:=xs[i].1) (by rw[List.getElem?_map,List.getElem?_eq_getElem hi'];try rfl) hm)))
   refine⟨ps,?_,by simpa using h1⟩
   unfold Arg;rw[hu]
   exact⟨by rw[h1.len,List.drop_zero,hcl],fun p hpm=>by simpa using h2 p hpm⟩
  ·simp at h
def ArgV(P:Program)(c:Nat)(t:TypeId)(p:PV):Prop:=match P.underlying t with
 |some (.struct _)=> ∃ ps,p= .agg ps∧Arg P c t ps
 |some (.array _ _)=> ∃ ps,p= .agg ps∧Arg P c t ps
 |_=>Arg P c t [p]
theorem arg_value{c:Nat}{t:TypeId}(hc:covB P c t=true){v:Value}{d:DataW H}{pl:List MemPlace}(h:DataW.Trod enc P w 0 sp held t v d pl)(hv: ∃ base,Value.okWide P w .any base t v)
  (hw: ∀ n∈d.weights P t,n≤reachBytes): ∃ p,ArgV P c t p∧ ∀ β n,Rep β n (fun b=>b<w.heap.size) w p v:=by
 obtain⟨fuel,hf⟩:=h
 obtain⟨ps,h1,h2⟩:=arg_of c t hc fuel _ _ hf hw
 obtain⟨base,hv⟩:=hv
 unfold Value.okWide at hv
 cases c with
 |zero=>simp[covB]at hc
 |succ c=>
  unfold covB at hc
  unfold ArgV
  have one:(∃ q,ps=[q])→(∃ u,v.cells.toList=[u]∧v=u)→ ∃ p,Arg P (c+1) t [p]∧ ∀ β n,Rep β n (fun b=>b<w.heap.size) w p v:=by
   rintro⟨q,rfl⟩ ⟨u,hu,rfl⟩
   refine⟨q,h1,fun β n=>?_⟩
   have:=h2.2 β n
   rw[hu]at this
   simp only[RepL]at this
   exact this.1
  have agg:(∃ cs,v= .agg cs)→ ∃ p,(∃ ps,p= .agg ps∧Arg P (c+1) t ps)∧ ∀ β n,Rep β n (fun b=>b<w.heap.size) w p v:=by
   rintro⟨cs,rfl⟩
   refine⟨.agg ps,⟨ps,rfl,h1⟩,fun β n=>?_⟩
   simp only[Rep]
   exact⟨cs.toList,by simp,h2.1,h2.2 β n⟩
  split at hc
  ·rename_i hu
   obtain⟨b,hb,_⟩:=DataW.trod_bool hu hf
   simp only[hu]at hv⊢
   refine one ?_ ⟨_,hb,?_⟩
   ·unfold Arg at h1;rw[hu]at h1;obtain⟨b,rfl⟩:=h1;exact⟨_,rfl⟩
   ·obtain ⟨b',rfl⟩:=okWide_bool hu (r:= .any) (base:=base) (v:=v) (w:=w) (by unfold Value.okWide;rw[hu];exact hv)
    simpa[Value.cells]using hb
  ·rename_i k hu
   obtain⟨n,hb,_⟩:=DataW.trod_int hu hf
   simp only[hu]at hv⊢
   refine one ?_ ⟨_,hb,?_⟩
   ·unfold Arg at h1;rw[hu]at h1;obtain⟨n,_,rfl⟩:=h1;exact⟨_,rfl⟩
   ·obtain ⟨b',rfl⟩:=okWide_int hu (r:= .any) (base:=base) (v:=v) (w:=w) (by unfold Value.okWide;rw[hu];exact hv)
    simpa[Value.cells]using hb
  ·rename_i hu
   obtain⟨n,hb,_⟩:=DataW.trod_string hu hf
   simp only[hu]at hv⊢
   refine one ?_ ⟨_,hb,?_⟩
   ·unfold Arg at h1;rw[hu]at h1;obtain⟨n,_,rfl⟩:=h1;exact⟨_,rfl⟩
   ·obtain ⟨b',rfl⟩:=okWide_string hu (r:= .any) (base:=base) (v:=v) (w:=w) (by unfold Value.okWide;rw[hu];exact hv)
    simpa[Value.cells]using hb
  ·rename_i e hu
   simp only[hu]at hv⊢
   obtain⟨a,len,cap,rfl⟩:=okWide_slice hu (r:= .any) (base:=base) (v:=v) (w:=w) (by unfold Value.okWide;rw[hu];exact hv)
   refine one ?_ ⟨_,rfl,rfl⟩
   unfold Arg at h1;rw[hu]at h1;obtain⟨n,rfl,_⟩:=h1;exact⟨_,rfl⟩
  ·rename_i fs hu
   simp only[hu]at hv⊢
   obtain⟨cs,rfl,_⟩:=hv
   exact agg ⟨_,rfl⟩
  ·rename_i n e hu
   simp only[hu]at hv⊢
   obtain⟨cs,rfl,_⟩:=hv
   exact agg ⟨_,rfl⟩
  ·simp at hc
end
end Go.AM
namespace Go.AM
open Go.ChangeShapes Go.WideShapes
section
variable {H:Type}{enc:TypeId × Value→H}{P:Program}{w:World}{sp:Nat→Bool}{held:Bool}
def covC(P:Program)(Ts:List TypeId):Bool:=Ts.all fun t=>match P.underlying t with
 |some .bool=>true
 |some (.int _)=>true
 |some .string=>true
 |some (.slice e)=>decide (0<P.cellsOf e)&&Ts.contains e
 |some (.struct _)=>inRow P (P.cellsOf t) 0 (partsT P t)&&(partsT P t).all fun p=>Ts.contains p.2
 |some (.array _ _)=>inRow P (P.cellsOf t) 0 (partsT P t)&&(partsT P t).all fun p=>Ts.contains p.2
 |_=>false
end
end Go.AM
namespace Go.AM
open Go.ChangeShapes Go.WideShapes
section
variable {P:Program}{c:Nat}{t e:TypeId}{ps:List PV}{a:PV}
theorem Arg_int{k:IntKind}(hu:P.underlying t=some (.int k))(h:Arg P (c+1) t ps): ∃ n,(Lit.int k n).wf=true∧ps=[.sc (.int k n)]:=by
 unfold Arg at h;rw[hu]at h;exact h
theorem Arg_slice(hu:P.underlying t=some (.slice e))(h:Arg P (c+1) t ps): ∃ rows,ps=[.imm (P.cellsOf e) rows]∧rows.length*P.bytesOf e≤reachBytes∧rows.length≤maxLen∧ ∀ r∈rows,r.length=P.cellsOf e∧Arg P c e r:=by
 unfold Arg at h;rw[hu]at h;exact h
theorem Arg_struct{fs:Array Field}(hu:P.underlying t=some (.struct fs))(h:Arg P (c+1) t ps):ps.length=P.cellsOf t∧ ∀ p∈partsT P t,Arg P c p.2 ((ps.drop p.1).take (P.cellsOf p.2)):=by
 unfold Arg at h;rw[hu]at h;exact h
theorem Arg_array{n:Nat}(hu:P.underlying t=some (.array n e))(h:Arg P (c+1) t ps):ps.length=P.cellsOf t∧ ∀ p∈partsT P t,Arg P c p.2 ((ps.drop p.1).take (P.cellsOf p.2)):=by
 unfold Arg at h;rw[hu]at h;exact h
theorem rows_map{α:Type}{Q:α→Prop}{f:α→List PV}:(rows:List (List PV))→(∀ r∈rows, ∃ x,Q x∧r=f x)→ ∃ xs:List α,rows=xs.map f∧ ∀ x∈xs,Q x
 |[],_=>⟨[],rfl,by simp⟩
 |r::rows,h=>by
  obtain⟨xs,h1,h2⟩:=rows_map rows (fun q hq=>h q (by simp[hq]))
  obtain⟨x,h3,h4⟩:=h r (by simp)
  refine⟨x::xs,by simp[h1,h4],fun y hy=>?_⟩
  rcases List.mem_cons.1 hy with rfl|hy
  ·exact h3
  ·exact h2 y hy
theorem arg_two{k:IntKind}(hu:P.underlying t=some (.array 2 e))(he:P.underlying e=some (.int k))(h1:P.cellsOf e=1)(h2:P.cellsOf t=2)(h:Arg P (c+2) t ps):
  ∃ x y,(Lit.int k x).wf=true∧(Lit.int k y).wf=true∧ps=[.sc (.int k x),.sc (.int k y)]:=by
 obtain⟨h3,h4⟩:=Arg_array hu h
 have hp:partsT P t=[(0,e),(1,e)]:=by unfold partsT;rw[hu];simp[h1,List.range_succ]
 rw[hp]at h4
 obtain⟨x,hx,ex⟩:=Arg_int he (h4 (0,e) (by simp))
 obtain⟨y,hy,ey⟩:=Arg_int he (h4 (1,e) (by simp))
 rw[h2]at h3
 match ps,h3 with
 |[u,v],_=>
  simp[h1]at ex ey
  exact⟨x,y,hx,hy,by rw[ex,ey]⟩
theorem i64_in{n:Int}(h:(Lit.int .i64 n).wf=true): -9223372036854775808≤n∧n≤9223372036854775807:=by
 simp[Lit.wf,IntKind.min,IntKind.max,IntKind.bits,IntKind.signed]at h
 omega
end
end Go.AM
namespace Go.Proofs.Ytjeolbgpllbemaa
open Go.AM
set_option maxHeartbeats 1000000
set_option maxRecDepth 20000
def recTs:List TypeId:=[29,78,59,9,3,25,22,26,27]
theorem parts57:partsT Try.prog 78=[(0,9),(1,9),(2,3),(3,25),(4,26)]:=by kernel_rfl
theorem parts29:partsT Try.prog 29=[(0,9),(1,9),(2,25),(3,22),(4,26),(5,27)]:=by kernel_rfl
theorem parts99:partsT Try.prog 59=[(0,9),(1,9)]:=by kernel_rfl
theorem co9:Try.prog.cellsOf 9=1:=by kernel_rfl
theorem co3:Try.prog.cellsOf 3=1:=by kernel_rfl
theorem co24:Try.prog.cellsOf 25=1:=by kernel_rfl
theorem co25:Try.prog.cellsOf 22=1:=by kernel_rfl
theorem co26:Try.prog.cellsOf 26=1:=by kernel_rfl
theorem co27:Try.prog.cellsOf 27=1:=by kernel_rfl
theorem co57:Try.prog.cellsOf 78=5:=by kernel_rfl
theorem co29:Try.prog.cellsOf 29=6:=by kernel_rfl
theorem co99:Try.prog.cellsOf 59=2:=by kernel_rfl
theorem by9:0<Try.prog.bytesOf 9:=by rw[show Try.prog.bytesOf 9=16 by kernel_rfl];omega
theorem by99:0<Try.prog.bytesOf 59:=by rw[show Try.prog.bytesOf 59=32 by kernel_rfl];omega
theorem by57:0<Try.prog.bytesOf 78:=by rw[show Try.prog.bytesOf 78=88 by kernel_rfl];omega
theorem by29:0<Try.prog.bytesOf 29:=by rw[show Try.prog.bytesOf 29=128 by kernel_rfl];omega
theorem len_le{n b:Nat}(h:n*b≤reachBytes)(hb:0<b):n≤bigN:=by
 have:=Nat.le_mul_of_pos_right n hb
 unfold reachBytes at h
 unfold bigN
 omega
theorem arg_str{c:Nat}{ps:List PV}(h:Arg Try.prog c 9 ps): ∃ s:ByteArray,s.size≤bigN∧ps=[sPV s]:=by
 cases c with
 |zero=>simp[Arg]at h
 |succ c=>
  unfold Arg at h
  rw[Try.underlying9]at h
  obtain⟨s,h1,h2⟩:=h
  exact⟨s,by unfold reachBytes at h1;unfold bigN;omega,h2⟩
theorem arg_i64{c:Nat}{ps:List PV}(h:Arg Try.prog c 3 ps): ∃ n:Int,(-9223372036854775808≤n∧n≤9223372036854775807)∧ps=[.sc (.int .i64 n)]:=by
 cases c with
 |zero=>simp[Arg]at h
 |succ c=>
  obtain⟨n,h1,h2⟩:=Arg_int Try.underlying3 h
  exact⟨n,i64_in h1,h2⟩
theorem arg_strs{c:Nat}{ps:List PV}(h:Arg Try.prog c 25 ps): ∃ l:List ByteArray,(l.length≤bigN∧ ∀ a∈l,a.size≤bigN)∧ps=[.imm 1 (strRows l)]:=by
 cases c with
 |zero=>simp[Arg]at h
 |succ c=>
  obtain⟨rows,rfl,h1,_,h2⟩:=Arg_slice Try.underlying25 h
  obtain⟨xs,rfl,h3⟩:=rows_map (Q:=fun s:ByteArray=>s.size≤bigN) (f:=fun s=>[sPV s]) rows (fun r hr=>arg_str (h2 r hr).2)
  refine⟨xs,⟨len_le (by simpa using h1) by9,h3⟩,?_⟩
  rw[co9];try rfl
theorem arg_pm{c:Nat}{ps:List PV}(h:Arg Try.prog c 59 ps): ∃ p:Pm,p.ok∧ps=pmRow p:=by
 cases c with
 |zero=>simp[Arg]at h
 |succ c=>
  obtain⟨h1,h2⟩:=Arg_struct Try.underlying59 h
  rw[co99]at h1
  rw[parts99]at h2
  match ps,h1,h2 with
  |[p0,p1],_,h2=>
   have a0:=h2 (0,9) (by simp)
   have a1:=h2 (1,9) (by simp)
   simp only[co9,List.drop_zero,List.drop_succ_cons,List.take_succ_cons,List.take_zero]at a0 a1
   obtain⟨s,hs,e1⟩:=arg_str a0
   obtain⟨t,ht,e2⟩:=arg_str a1
   simp at e1 e2
   exact⟨⟨s,t⟩,⟨hs,ht⟩,by simp[pmRow,e1,e2]⟩
theorem arg_pms{c:Nat}{ps:List PV}(h:Arg Try.prog c 22 ps): ∃ l:List Pm,(l.length≤bigN∧ ∀ a∈l,a.ok)∧ps=[.imm 2 (pmRows l)]:=by
 cases c with
 |zero=>simp[Arg]at h
 |succ c=>
  obtain⟨rows,rfl,h1,_,h2⟩:=Arg_slice Try.underlying22 h
  obtain⟨xs,rfl,h3⟩:=rows_map (Q:=Pm.ok) (f:=pmRow) rows (fun r hr=>arg_pm (h2 r hr).2)
  refine⟨xs,⟨len_le (by simpa using h1) by99,h3⟩,?_⟩
  rw[co99];try rfl
theorem arg_ex: ∀ (c:Nat){ps:List PV},Arg Try.prog c 78 ps→ ∃ e:Ex,e.ok∧ps=e.cells:=by
 intro c
 induction c using Nat.strongRecOn with
 |_ c ih=>
  intro ps h
  cases c with
  |zero=>simp[Arg]at h
  |succ c=>
   obtain⟨h1,h2⟩:=Arg_struct Try.underlying78 h
   rw[co57]at h1
   rw[parts57]at h2
   match ps,h1,h2 with
   |[p0,p1,p2,p3,p4],_,h2=>
    have a0:=h2 (0,9) (by simp)
    have a1:=h2 (1,9) (by simp)
    have a2:=h2 (2,3) (by simp)
    have a3:=h2 (3,25) (by simp)
    have a4:=h2 (4,26) (by simp)
    simp only[co9,co3,co24,co26,List.drop_zero,List.drop_succ_cons,List.take_succ_cons,List.take_zero]at a0 a1 a2 a3 a4
    obtain⟨op,hop,e0⟩:=arg_str a0
    obtain⟨name,hname,e1⟩:=arg_str a1
    obtain⟨n,hn,e2⟩:=arg_i64 a2
    obtain⟨args,hargs,e3⟩:=arg_strs a3
    cases c with
    |zero=>simp[Arg]at a4
    |succ c=>
     obtain⟨rows,e4,h3,_,h4⟩:=Arg_slice Try.underlying26 a4
     obtain⟨xs,rfl,h5⟩:=rows_map (Q:=Ex.ok) (f:=Ex.cells) rows (fun r hr=>ih c (by omega) (h4 r hr).2)
     rw[co57]at e4
     simp at e0 e1 e2 e3 e4
     refine⟨.mk op name n args xs,?_,?_⟩
     ·simp only[Ex.ok]
      exact⟨hop,hname,hn,hargs,len_le (by simpa using h3) by57,Ex.oks_iff.2 h5⟩
     ·simp only[Ex.cells,e0,e1,e2,e3,e4,Ex.rows_map]
theorem arg_exs{c:Nat}{ps:List PV}(h:Arg Try.prog c 26 ps): ∃ l:List Ex,(l.length≤bigN∧Ex.oks l)∧ps=[.imm 5 (Ex.rows l)]:=by
 cases c with
 |zero=>simp[Arg]at h
 |succ c=>
  obtain⟨rows,rfl,h1,_,h2⟩:=Arg_slice Try.underlying26 h
  obtain⟨xs,rfl,h3⟩:=rows_map (Q:=Ex.ok) (f:=Ex.cells) rows (fun r hr=>arg_ex c (h2 r hr).2)
  refine⟨xs,⟨len_le (by simpa using h1) by57,Ex.oks_iff.2 h3⟩,?_⟩
  rw[co57,Ex.rows_map]
theorem arg_fm: ∀ (c:Nat){ps:List PV},Arg Try.prog c 29 ps→ ∃ f:Fm,f.ok∧ps=f.cells:=by
 intro c
 induction c using Nat.strongRecOn with
 |_ c ih=>
  intro ps h
  cases c with
  |zero=>simp[Arg]at h
  |succ c=>
   obtain⟨h1,h2⟩:=Arg_struct Try.underlying29 h
   rw[co29]at h1
   rw[parts29]at h2
   match ps,h1,h2 with
   |[p0,p1,p2,p3,p4,p5],_,h2=>
    have a0:=h2 (0,9) (by simp)
    have a1:=h2 (1,9) (by simp)
    have a2:=h2 (2,25) (by simp)
    have a3:=h2 (3,22) (by simp)
    have a4:=h2 (4,26) (by simp)
    have a5:=h2 (5,27) (by simp)
    simp only[co9,co24,co25,co26,co27,List.drop_zero,List.drop_succ_cons,List.take_succ_cons,List.take_zero]at a0 a1 a2 a3 a4 a5
    obtain⟨op,hop,e0⟩:=arg_str a0
    obtain⟨name,hname,e1⟩:=arg_str a1
    obtain⟨args,hargs,e2⟩:=arg_strs a2
    obtain⟨params,hparams,e3⟩:=arg_pms a3
    obtain⟨exprs,hexprs,e4⟩:=arg_exs a4
    cases c with
    |zero=>simp[Arg]at a5
    |succ c=>
     obtain⟨rows,e5,h3,_,h4⟩:=Arg_slice Try.underlying27 a5
     obtain⟨xs,rfl,h5⟩:=rows_map (Q:=Fm.ok) (f:=Fm.cells) rows (fun r hr=>ih c (by omega) (h4 r hr).2)
     rw[co29]at e5
     simp at e0 e1 e2 e3 e4 e5
     refine⟨.mk op name args params exprs xs,?_,?_⟩
     ·simp only[Fm.ok]
      exact⟨hop,hname,hargs,hparams,hexprs,len_le (by simpa using h3) by29,Fm.oks_iff.2 h5⟩
     ·simp only[Fm.cells,e0,e1,e2,e3,e4,e5,Fm.rows_map]
end Go.Proofs.Ytjeolbgpllbemaa
namespace Go.Proofs.Ytjeolbgpllbemaa
open Go.AM
set_option maxHeartbeats 2000000
set_option maxRecDepth 20000
theorem rsizeE_c: ∀ (e:Ex),e.ok→ ∀ h:Heap,PCall Try.prog 33 [.agg e.cells] h fun r h'=>r= .sc (.int .i64 e.size)∧h'=h:=by
 refine Ex.ind ?_
 intro op name n args kids ih hok h
 simp only[Ex.ok]at hok
 obtain⟨_,_,_,_,hk,hks⟩:=hok
 rw[Ex.oks_iff]at hks
 have hlen:=Ex.rows_len kids
 simp only[Ex.cells,Ex.size]
 refine pcall_body (ow:=fun _=>false) (wf:=fun _=>false) Ty.mixed Try.func33 rfl Ty.hb_33 (by rw[Try.ntmps33];simp) ?_
 rw[Try.ntmps33,Try.results33]
 repeat'(first|refine a_seq fun K hK=>?_|(refine a_block ?_)|(refine a_regionS ?_;simp(maxSteps:=2000000) only[Ty.w,simprocAttr,hlen])|(refine hK _ _ ?_;clear hK;try simp only[pst0,simprocAttr]))
 refine a_loop (fun m S h'=>h'=h∧S 1= .cptr (Ex.mk op name n args kids).cells∧ ∃ k:Nat,S 4= .sc (.int .i64 k)∧k≤kids.length∧m=kids.length-k∧S 3= .sc (.int .i64 (Ex.sizes 1 (kids.take k)))) kids.length ?_ ?_
 ·simp only[Ty.w,simprocAttr]
  exact⟨rfl,0,rfl,by omega,rfl,by simp[Ex.sizes]⟩
 ·rintro m S h' ⟨rfl,g1,k,g4,hkl,rfl,g3⟩
  simp only[Ex.cells]at g1
  by_cases hlt:k<kids.length
  ·have hd:decide ((k:Int)<(kids.length:Int))=true:=by simp;omega
   have w7:IntKind.i64.wrap ((k:Int)+1)=k+1:=by unfold bigN at hk;rw[wrap64 (by omega) (by omega)]
   obtain⟨e,hx⟩: ∃ e,kids[k]? =some e:=⟨_,List.getElem?_eq_getElem hlt⟩
   have hmem:=List.mem_of_getElem? hx
   have hc:=ih e hmem (hks e hmem)
   have hsz:=Ex.sizes_take 1 hx
   have hr:=Ex.rows_get hx
   obtain⟨op2,name2,n2,args2,kids2⟩:=e
   simp only[Ex.cells]at hr hc
   repeat'(first|refine a_seq fun K hK=>?_|(refine a_block ?_)|((first|refine a_regionS ?_|refine a_region (fun K hK=>?_));simp(maxSteps:=2000000) only[Ty.w,simprocAttr,g1,g3,g4,hlen,hd,hr,w7])|(refine a_skip ?_;try simp only[pst0,simprocAttr])|(refine a_cond _ (by(try simp(maxSteps:=2000000) only[Ty.w,simprocAttr,g1,g3,g4,hlen,hd,hr,w7]);rfl) (fun hb=>?_) (fun hb=>?_)<;>(try simp only[hb0,decide_eq_true_eq,decide_eq_false_iff_not,simprocAttr]at hb)<;>(try(exfalso;omega)))|(refine hK _ _ ?_;clear hK;try simp only[pst0,simprocAttr]))
   refine owp_useQ (hc _) (by(try simp only[Ty.w,simprocAttr,g1,g3,g4,hlen,hd,hr]);try rfl) ?_;simp(maxSteps:=2000000) only[Ty.w,simprocAttr,g1,g3,g4,hlen,hd,hr]
   repeat'(first|(refine a_regionS ?_;simp(maxSteps:=2000000) only[Ty.w,simprocAttr,g1,g3,g4,w7])|(refine hK _ _ ?_;clear hK;try simp only[pst0,simprocAttr]))
   exact⟨kids.length-(k+1),by omega,rfl,k+1,by simp,by omega,rfl,by rw[hsz]⟩
  ·have hd:decide ((k:Int)<(kids.length:Int))=false:=by simp;omega
   have hke:k=kids.length:=by omega
   subst hke
   rw[List.take_length]at g3
   repeat'(first|refine a_seq fun K hK=>?_|((first|refine a_regionS ?_|refine a_ret ?_);simp(maxSteps:=2000000) only[Ty.w,simprocAttr,g1,g3,g4,hlen,hd])|(refine a_exit ?_;try simp only[pst0,simprocAttr])|(refine a_cond _ (by(try simp(maxSteps:=2000000) only[Ty.w,simprocAttr,g1,g3,g4,hlen,hd]);rfl) (fun hb=>?_) (fun hb=>?_)<;>(try simp only[hb0,decide_eq_true_eq,decide_eq_false_iff_not,simprocAttr]at hb)<;>(try(exfalso;omega)))|((first|refine hK _ _ ?_|(clear hK;refine hK _ _ ?_));clear hK;try simp only[pst0,simprocAttr]))
theorem rsize_c: ∀ (f:Fm),f.ok→ ∀ h:Heap,PCall Try.prog 16 [.agg f.cells] h fun r h'=>r= .sc (.int .i64 f.size)∧h'=h:=by
 refine Fm.ind ?_
 intro op name args params exprs kids ih hok h
 simp only[Fm.ok]at hok
 obtain⟨_,_,_,_,⟨he,hes⟩,hk,hks⟩:=hok
 rw[Ex.oks_iff]at hes
 rw[Fm.oks_iff]at hks
 have hlen:=Fm.rows_len kids
 have hlene:=Ex.rows_len exprs
 simp only[Fm.cells,Fm.size]
 refine pcall_body (ow:=fun _=>false) (wf:=fun _=>false) Ty.mixed Try.func16 rfl Ty.hb_16 (by rw[Try.ntmps16];simp) ?_
 rw[Try.ntmps16,Try.results16]
 repeat'(first|refine a_seq fun K hK=>?_|(refine a_block ?_)|(refine a_regionS ?_;simp(maxSteps:=2000000) only[Ty.w,simprocAttr,hlen])|(refine hK _ _ ?_;clear hK;try simp only[pst0,simprocAttr]))
 refine a_loop (fun m S h'=>h'=h∧S 1= .cptr (Fm.mk op name args params exprs kids).cells∧ ∃ k:Nat,S 4= .sc (.int .i64 k)∧k≤exprs.length∧m=exprs.length-k∧S 3= .sc (.int .i64 (Ex.sizes 1 (exprs.take k)))) exprs.length ?_ ?_
 ·simp only[Ty.w,simprocAttr]
  exact⟨rfl,0,rfl,by omega,rfl,by simp[Ex.sizes]⟩
 ·rintro m S h' ⟨rfl,g1,k,g4,hkl,rfl,g3⟩
  simp only[Fm.cells]at g1
  by_cases hlt:k<exprs.length
  ·have hd:decide ((k:Int)<(exprs.length:Int))=true:=by simp;omega
   have w7:IntKind.i64.wrap ((k:Int)+1)=k+1:=by unfold bigN at he;rw[wrap64 (by omega) (by omega)]
   obtain⟨e,hx⟩: ∃ e,exprs[k]? =some e:=⟨_,List.getElem?_eq_getElem hlt⟩
   have hmem:=List.mem_of_getElem? hx
   have hc:=rsizeE_c e (hes e hmem)
   have hsz:=Ex.sizes_take 1 hx
   have hr:=Ex.rows_get hx
   obtain⟨op2,name2,n2,args2,kids2⟩:=e
   simp only[Ex.cells]at hr hc
   repeat'(first|refine a_seq fun K hK=>?_|(refine a_block ?_)|((first|refine a_regionS ?_|refine a_region (fun K hK=>?_));simp(maxSteps:=2000000) only[Ty.w,simprocAttr,g1,g3,g4,hlene,hd,hr,w7])|(refine a_skip ?_;try simp only[pst0,simprocAttr])|(refine a_cond _ (by(try simp(maxSteps:=2000000) only[Ty.w,simprocAttr,g1,g3,g4,hlene,hd,hr,w7]);rfl) (fun hb=>?_) (fun hb=>?_)<;>(try simp only[hb0,decide_eq_true_eq,decide_eq_false_iff_not,simprocAttr]at hb)<;>(try(exfalso;omega)))|(refine hK _ _ ?_;clear hK;try simp only[pst0,simprocAttr]))
   refine owp_useQ (hc _) (by(try simp only[Ty.w,simprocAttr,g1,g3,g4,hlene,hd,hr]);try rfl) ?_;simp(maxSteps:=2000000) only[Ty.w,simprocAttr,g1,g3,g4,hlene,hd,hr]
   repeat'(first|(refine a_regionS ?_;simp(maxSteps:=2000000) only[Ty.w,simprocAttr,g1,g3,g4,w7])|(refine hK _ _ ?_;clear hK;try simp only[pst0,simprocAttr]))
   exact⟨exprs.length-(k+1),by omega,by simp only[Fm.cells],k+1,by simp,by omega,rfl,by rw[hsz]⟩
  ·have hd:decide ((k:Int)<(exprs.length:Int))=false:=by simp;omega
   have hke:k=exprs.length:=by omega
   subst hke
   rw[List.take_length]at g3
   repeat'(first|refine a_seq fun K hK=>?_|(refine a_block ?_)|(refine a_regionS ?_;simp(maxSteps:=2000000) only[Ty.w,simprocAttr,g1,g3,g4,hlene,hd])|(refine a_exit ?_;try simp only[pst0,simprocAttr])|(refine a_cond _ (by(try simp(maxSteps:=2000000) only[Ty.w,simprocAttr,g1,g3,g4,hlene,hd]);rfl) (fun hb=>?_) (fun hb=>?_)<;>(try simp only[hb0,decide_eq_true_eq,decide_eq_false_iff_not,simprocAttr]at hb)<;>(try(exfalso;omega)))|((first|refine hK _ _ ?_|(clear hK;refine hK _ _ ?_));clear hK;try simp only[pst0,simprocAttr]))
   refine a_loop (fun m S h2=>h2=h'∧S 1= .cptr (Fm.mk op name args params exprs kids).cells∧ ∃ k:Nat,S 5= .sc (.int .i64 k)∧k≤kids.length∧m=kids.length-k∧S 3= .sc (.int .i64 (Fm.sizes (Ex.sizes 1 exprs) (kids.take k)))) kids.length ?_ ?_
   ·simp only[Ty.w,simprocAttr,g1,g3]
    exact⟨by simp only[Fm.cells],0,rfl,by omega,rfl,by simp[Fm.sizes]⟩
   ·clear g1 g3 g4
    rintro m S h' ⟨rfl,g1,k,g5,hkl,rfl,g3⟩
    simp only[Fm.cells]at g1
    by_cases hlt:k<kids.length
    ·have hd:decide ((k:Int)<(kids.length:Int))=true:=by simp;omega
     have w7:IntKind.i64.wrap ((k:Int)+1)=k+1:=by unfold bigN at hk;rw[wrap64 (by omega) (by omega)]
     obtain⟨e,hx⟩: ∃ e,kids[k]? =some e:=⟨_,List.getElem?_eq_getElem hlt⟩
     have hmem:=List.mem_of_getElem? hx
     have hc:=ih e hmem (hks e hmem)
     have hsz:=Fm.sizes_take (Ex.sizes 1 exprs) hx
     have hr:=Fm.rows_get hx
     obtain⟨op2,name2,args2,params2,exprs2,kids2⟩:=e
     simp only[Fm.cells]at hr hc
     repeat'(first|refine a_seq fun K hK=>?_|(refine a_block ?_)|((first|refine a_regionS ?_|refine a_region (fun K hK=>?_));simp(maxSteps:=2000000) only[Ty.w,simprocAttr,g1,g3,g5,hlen,hd,hr,w7])|(refine a_skip ?_;try simp only[pst0,simprocAttr])|(refine a_cond _ (by(try simp(maxSteps:=2000000) only[Ty.w,simprocAttr,g1,g3,g5,hlen,hd,hr,w7]);rfl) (fun hb=>?_) (fun hb=>?_)<;>(try simp only[hb0,decide_eq_true_eq,decide_eq_false_iff_not,simprocAttr]at hb)<;>(try(exfalso;omega)))|(refine hK _ _ ?_;clear hK;try simp only[pst0,simprocAttr]))
     refine owp_useQ (hc _) (by(try simp only[Ty.w,simprocAttr,g1,g3,g5,hlen,hd,hr]);try rfl) ?_;simp(maxSteps:=2000000) only[Ty.w,simprocAttr,g1,g3,g5,hlen,hd,hr]
     repeat'(first|(refine a_regionS ?_;simp(maxSteps:=2000000) only[Ty.w,simprocAttr,g1,g3,g5,w7])|(refine hK _ _ ?_;clear hK;try simp only[pst0,simprocAttr]))
     exact⟨kids.length-(k+1),by omega,by simp only[Fm.cells],k+1,by simp,by omega,rfl,by rw[hsz]⟩
    ·have hd:decide ((k:Int)<(kids.length:Int))=false:=by simp;omega
     have hke:k=kids.length:=by omega
     subst hke
     rw[List.take_length]at g3
     repeat'(first|refine a_seq fun K hK=>?_|((first|refine a_regionS ?_|refine a_ret ?_);simp(maxSteps:=2000000) only[Ty.w,simprocAttr,g1,g3,g5,hlen,hd])|(refine a_exit ?_;try simp only[pst0,simprocAttr])|(refine a_cond _ (by(try simp(maxSteps:=2000000) only[Ty.w,simprocAttr,g1,g3,g5,hlen,hd]);rfl) (fun hb=>?_) (fun hb=>?_)<;>(try simp only[hb0,decide_eq_true_eq,decide_eq_false_iff_not,simprocAttr]at hb)<;>(try(exfalso;omega)))|((first|refine hK _ _ ?_|(clear hK;refine hK _ _ ?_));clear hK;try simp only[pst0,simprocAttr]))
end Go.Proofs.Ytjeolbgpllbemaa
namespace Go.AM
def Vl.okS(v:Vl):Prop:=v.at_.ok
structure Pb.okS(p:Pb):Prop where
 objects:p.objects.length≤bigN
 init:p.init.length≤bigN∧ ∀ a∈p.init,a.ok
 values:p.values.length≤bigN∧ ∀ v∈p.values,v.okS
 goal:p.goal.ok
end Go.AM
namespace Go.Proofs.Ytjeolbgpllbemaa
open Go.AM
set_option maxHeartbeats 4000000
set_option maxRecDepth 20000
end Go.Proofs.Ytjeolbgpllbemaa
namespace Go.Proofs.Ytjeolbgpllbemaa
open Go.AM
set_option maxHeartbeats 1000000
set_option maxRecDepth 20000
def pbTs:List TypeId:=recTs++[31,48,23,62,24]
theorem partsAt:partsT Try.prog 48=[(0,9),(1,25)]:=by kernel_rfl
theorem partsVl:partsT Try.prog 62=[(0,48),(2,3)]:=by kernel_rfl
theorem partsPb:partsT Try.prog 31=[(0,9),(1,9),(2,22),(3,23),(4,24),(5,29)]:=by kernel_rfl
theorem coAt:Try.prog.cellsOf 48=2:=by kernel_rfl
theorem coVl:Try.prog.cellsOf 62=3:=by kernel_rfl
theorem coPb:Try.prog.cellsOf 31=11:=by kernel_rfl
theorem coAts:Try.prog.cellsOf 23=1:=by kernel_rfl
theorem coVls:Try.prog.cellsOf 24=1:=by kernel_rfl
theorem byAt:0<Try.prog.bytesOf 48:=by rw[show Try.prog.bytesOf 48=40 by kernel_rfl];omega
theorem byVl:0<Try.prog.bytesOf 62:=by rw[show Try.prog.bytesOf 62=48 by kernel_rfl];omega
theorem arg_at{c:Nat}{ps:List PV}(h:Arg Try.prog c 48 ps): ∃ a:At,a.ok∧ps=atRow a:=by
 cases c with
 |zero=>simp[Arg]at h
 |succ c=>
  obtain⟨h1,h2⟩:=Arg_struct Try.underlying48 h
  rw[coAt]at h1
  rw[partsAt]at h2
  match ps,h1,h2 with
  |[p0,p1],_,h2=>
   have a0:=h2 (0,9) (by simp)
   have a1:=h2 (1,25) (by simp)
   simp only[co9,co24,List.drop_zero,List.drop_succ_cons,List.take_succ_cons,List.take_zero]at a0 a1
   obtain⟨s,hs,e1⟩:=arg_str a0
   obtain⟨t,ht,e2⟩:=arg_strs a1
   simp at e1 e2
   exact⟨⟨s,t⟩,⟨hs,ht⟩,by simp[atRow,e1,e2]⟩
theorem arg_ats{c:Nat}{ps:List PV}(h:Arg Try.prog c 23 ps): ∃ l:List At,(l.length≤bigN∧ ∀ a∈l,a.ok)∧ps=[.imm 2 (atRows l)]:=by
 cases c with
 |zero=>simp[Arg]at h
 |succ c=>
  obtain⟨rows,rfl,h1,_,h2⟩:=Arg_slice Try.underlying23 h
  obtain⟨xs,rfl,h3⟩:=rows_map (Q:=At.ok) (f:=atRow) rows (fun r hr=>arg_at (h2 r hr).2)
  refine⟨xs,⟨len_le (by simpa using h1) byAt,h3⟩,?_⟩
  rw[coAt];try rfl
end Go.Proofs.Ytjeolbgpllbemaa
namespace Go.AM
open Go.ChangeShapes Go.WideShapes
open Go.Proofs.Ytjeolbgpllbemaa
mutual
def PV.bulk:PV→Nat
 | .sc (.string s)=>s.size+1
 | .imm _ rows=>PV.bulkR rows+1
 |_=>1
def PV.bulkL:List PV→Nat
 |[]=>0
 |p::ps=>p.bulk+PV.bulkL ps
def PV.bulkR:List (List PV)→Nat
 |[]=>0
 |r::rs=>PV.bulkL r+PV.bulkR rs
end
theorem PV.bulkL_append: ∀ l m:List PV,PV.bulkL (l++m)=PV.bulkL l+PV.bulkL m
 |[],m=>by simp[PV.bulkL]
 |p::l,m=>by simp only[List.cons_append,PV.bulkL,PV.bulkL_append l m];omega
theorem List.getElem?_range_some{k i j:Nat}(h:(List.range k)[i]? =some j):i<k∧i=j:=by
 have h1:=(List.getElem?_eq_some_iff.1 h).1
 simp at h1
 rw[List.getElem?_range h1]at h
 simp at h
 exact⟨h1,h⟩
section
variable {H:Type}{enc:TypeId × Value→H}{P:Program}{w:World}{sp:Nat→Bool}{held:Bool}
theorem bulkR_le: ∀ (rows:List (List PV))(ds:List (DataW H)),rows.length=ds.length→(∀ (i:Nat)(r:List PV),rows[i]? =some r→ ∃ d,ds[i]? =some d∧PV.bulkL r≤Rows.uptoBulk d)→PV.bulkR rows≤Rows.uptoBulkAll ds
 |[],_,_,_=>by simp[PV.bulkR]
 |r::rows,[],h,_=>by simp at h
 |r::rows,d::ds,h,hb=>by
  have h1:=bulkR_le rows ds (by simpa using h) fun i q hq=>by simpa using hb (i+1) q (by simpa using hq)
  obtain⟨d',h2,h3⟩:=hb 0 r rfl
  simp at h2;subst h2
  simp only[PV.bulkR,Rows.uptoBulkAll];omega
theorem parts_rep5{c:Nat}{cs:List Value}:(l:List (Nat × TypeId))→(ds:List (DataW H))→(o:Nat)→inRow P cs.length o l=true→
  (∀ (i:Nat)(p:Nat × TypeId),l[i]? =some p→ ∃ d,ds[i]? =some d∧ ∃ ps,Arg P c p.2 ps∧RA w ps ((cs.drop p.1).take (P.cellsOf p.2))∧PV.bulkL ps≤Rows.uptoBulk d)→
  ∃ ps,RA w ps (cs.drop o)∧(∀ p∈l,Arg P c p.2 ((ps.drop (p.1-o)).take (P.cellsOf p.2)))∧PV.bulkL ps≤Rows.uptoBulkAll ds
 |[],ds,o,h,_=>by
  simp[inRow]at h
  refine⟨[],⟨?_,fun β n=>?_⟩,by simp,by simp[PV.bulkL]⟩
  ·rw [List.drop_of_length_le (by omega)];simp
  ·rw [List.drop_of_length_le (by omega)];simp[RepL]
 |p::l,[],o,h,hp=>by
  obtain⟨d,hd,_⟩:=hp 0 p rfl
  simp at hd
 |p::l,d::ds,o,h,hp=>by
  have hle:=(inRow_le (p::l) o h).2 p (by simp)
  simp only[inRow,Bool.and_eq_true,beq_iff_eq]at h
  obtain⟨ps,h1,h2,h20⟩:=parts_rep5 l ds _ h.2 (fun i q hq=>by simpa using hp (i+1) q (by simpa using hq))
  obtain⟨d',hd,ps0,h3,h4,h40⟩:=hp 0 p rfl
  simp at hd;subst hd
  have hl2:=(inRow_le l _ h.2).2
  have e0:p.1=o:=h.1
  have l0:ps0.length=P.cellsOf p.2:=by rw[h4.len,List.length_take,List.length_drop];omega
  refine⟨ps0++ps,?_,fun q hq=>?_,by rw[PV.bulkL_append];simp only[Rows.uptoBulkAll];omega⟩
  ·have:cs.drop o=(cs.drop p.1).take (P.cellsOf p.2)++cs.drop (o+P.cellsOf p.2):=by
    rw[e0, ← List.drop_drop,List.take_append_drop]
   rw[this]
   exact h4.append h1
  ·rcases List.mem_cons.1 hq with rfl|hq
   ·rw [e0,Nat.sub_self,List.drop_zero,List.take_append_of_le_length (by omega),List.take_of_length_le (by omega)]
    exact h3
   ·have h5:=hl2 q hq
    have:q.1-o=ps0.length+(q.1-(o+P.cellsOf p.2)):=by omega
    rw[this, ← List.drop_drop,List.drop_left]
    exact h2 q hq
theorem arg_rec5{Ts:List TypeId}(hT:covC P Ts=true): ∀ (fuel:Nat)(t:TypeId),Ts.contains t=true→ ∀ (cs:List Value)(x:DataW H × List MemPlace),DataW.trod enc P w 0 sp held fuel t cs=some x→(∀ n∈x.1.weights P t,n≤reachBytes)→
  ∃ ps,Arg P fuel t ps∧RA w ps cs∧PV.bulkL ps≤Rows.uptoBulk x.1
 |0,_,_,_,_,hx,_=>by simp[DataW.trod]at hx
 |c+1,t,ht,cs,x,hx,hw=>by
  have h:=List.all_eq_true.1 hT t (by simpa using ht)
  split at h
  ·rename_i hu
   obtain⟨b,rfl,rfl⟩:=DataW.trod_bool hu hx
   refine⟨[.sc (.bool b)],?_,sc_RA rfl,by simp[PV.bulkL,PV.bulk,Rows.uptoBulk]⟩
   unfold Arg;rw[hu];exact⟨b,rfl⟩
  ·rename_i k hu
   obtain⟨n,rfl,rfl,hwf⟩:=DataW.trod_int hu hx
   refine⟨[.sc (.int k n)],?_,sc_RA rfl,by simp[PV.bulkL,PV.bulk,Rows.uptoBulk]⟩
   unfold Arg;rw[hu];exact⟨n,hwf,rfl⟩
  ·rename_i hu
   obtain⟨s,rfl,rfl,hs⟩:=DataW.trod_string hu hx
   refine⟨[.sc (.string s)],?_,sc_RA rfl,by have e:s.data.toList.length=s.size:=by{rw[Array.length_toList];try rfl};simp only[PV.bulkL,PV.bulk,Rows.uptoBulk];omega⟩
   unfold Arg;rw[hu]
   refine⟨s,?_,rfl⟩
   have:=hw s.data.toList.length (by simp[DataW.weights])
   simpa using this
  ·rename_i e hu
   simp only[Bool.and_eq_true,decide_eq_true_eq]at h
   obtain⟨hpos,hcov⟩:=h
   rcases DataW.trod_slice hu hx with⟨rfl,rfl⟩|⟨a,len,cap,elems,rest,n,hfu,rfl,rfl,hb,hl,hm,hlen,hel,hsp,hns⟩
   ·refine ⟨[.imm (P.cellsOf e) []],?_,⟨fun v hv=>?_,fun β n=>?_⟩,by simp[PV.bulkL,PV.bulk,PV.bulkR,Rows.uptoBulk]⟩
    ·unfold Arg;rw[hu];exact⟨[],rfl,by simp,by simp,by simp⟩
    ·simp at hv;subst hv;rfl
    ·simp only[RepL,Rep]
     exact⟨⟨none,0,rfl,Nat.le_refl _,Nat.zero_le _,.inl (by trivial)⟩,trivial⟩
   ·obtain rfl:c=n:=by omega
    have each: ∀ i,i<len→ ∃ r:List PV,(r.length=P.cellsOf e∧Arg P c e r∧ ∃ d,(elems.map (·.1))[i]? =some d∧PV.bulkL r≤Rows.uptoBulk d)∧ ∃ ci,RA w r ci∧ci.length=P.cellsOf e∧ ∀ j,j<P.cellsOf e→w.cell? ((a.add (i*P.cellsOf e)).add j)=ci[j]?:=by
     intro i hi
     have h1:=hel i hi
     have h2:elems[i]? =some (elems[i]'(by omega)):=List.getElem?_eq_getElem _
     rw[h2,Option.bind_eq_some_iff]at h1
     obtain⟨ci,h3,h4⟩:=h1
     obtain⟨_,h5,h6⟩:=World.cells?_some h3
     obtain⟨r,h7,h8,h80⟩:=arg_rec5 hT c e hcov ci _ h4 (fun m hm=>hw m (by
      simp only[DataW.weights,hu,List.mem_cons,List.mem_append]
      exact .inr (.inl (weightsAll_mem (i:=i) (by rw[List.getElem?_map,h2];try rfl) hm))))
     exact⟨r,⟨by rw[h8.len,h5],h7,_,by rw[List.getElem?_map,h2];try rfl,h80⟩,ci,h8,h5,h6⟩
    obtain⟨rows,hrl,hrows⟩:=exists_list len each
    refine⟨[.imm (P.cellsOf e) rows],?_,⟨fun v hv=>?_,fun β m=>?_⟩,?_⟩
    ·unfold Arg;rw[hu]
     refine⟨rows,rfl,?_,by omega,fun r hr=>?_⟩
     ·have:=hw ((elems.map (·.1)).length*P.bytesOf e+(rest.map (·.1)).length*P.bytesOf e) (by
       simp only[DataW.weights,hu,List.mem_cons,Nat.add_mul,true_or])
      have h9:rows.length=(elems.map (·.1)).length:=by simp[hrl,hlen]
      rw[h9]
      exact Nat.le_trans (Nat.le_add_right _ _) this
     ·obtain ⟨i,hi⟩:=List.getElem?_of_mem hr
      exact⟨(hrows i r hi).1.1,(hrows i r hi).1.2.1⟩
    ·simp at hv;subst hv;rfl
    ·simp only[RepL,Rep]
     refine⟨⟨some a,cap,by rw[hrl],by omega,hm,?_⟩,trivial⟩
     by_cases h0:len=0
     ·left;exact List.length_eq_zero_iff.1 (by omega)
     ·right
      obtain⟨_,_,c0,_,hc0,hcell0⟩:=each 0 (by omega)
      have h10:=hcell0 0 hpos
      rw[List.getElem?_eq_getElem (by omega)]at h10
      simp only[Nat.zero_mul,Addr.add,if_true]at h10
      have hs:a.spot=none:=by
       unfold World.cell? at h10
       split at h10
       ·split at h10
        ·simp at h10
        ·rename_i hsp;simpa using hsp
       ·simp at h10
      have hblk:a.block<w.heap.size:=by
       unfold World.cell? at h10
       split at h10
       ·rename_i hh;exact(Array.getElem?_eq_some_iff.1 hh).1
       ·simp at h10
      refine⟨a.block,a.off,hblk,by cases a;simp only at hs;subst hs;rfl,?_⟩
      rw[RepR_iff]
      intro i r hr
      obtain⟨⟨g1,_⟩,ci,g2,g3,g4⟩:=hrows i r hr
      refine⟨g1,?_⟩
      rw[RepS_iff]
      intro j p hp
      obtain⟨v,hv,hrep⟩:=(g2.2 β m).get hp
      have hj:j<P.cellsOf e:=by rw[← g3];exact(List.getElem?_eq_some_iff.1 hv).1
      refine⟨v,?_,g2.1 v (List.mem_of_getElem? hv),hrep⟩
      rw[← hv, ← g4 j hj]
      congr 1
      cases a
      simp only at hs;subst hs
      simp only[Addr.add]
      split<;>split<;>simp_all<;>omega
    ·have hb5:=bulkR_le rows (elems.map (·.1)) (by simp[hrl,hlen]) fun i r hr=>(hrows i r hr).1.2.2
     simp only[PV.bulkL,PV.bulk,Rows.uptoBulk]
     omega
  ·rename_i fs hu
   simp only[Bool.and_eq_true,List.all_eq_true]at h
   obtain⟨xs,n,hfu,rfl,hcl,hxl,hp⟩:=DataW.trod_struct hu hx
   obtain rfl:c=n:=by omega
   have hpt:partsT P t=fs.toList.map fun f=>(f.offset,f.type):=by unfold partsT;rw[hu]
   obtain⟨ps,h1,h2,h30⟩:=parts_rep5 (w:=w) (c:=c) (cs:=cs) (partsT P t) (xs.map (·.1)) 0 (by rw[hcl];exact h.1) (fun i p hi=>by
    have hcv:=h.2 p (List.mem_of_getElem? hi)
    rw[hpt]at hi
    rw[List.getElem?_map,Option.map_eq_some_iff]at hi
    obtain⟨f,hf,rfl⟩:=hi
    have hf':fs[i]? =some f:=by simpa using hf
    have hi':i<xs.length:=by
     rw[hxl]
     exact(Array.getElem?_eq_some_iff.1 hf').1
    have h3:=hp i f hf'
    rw[List.getElem?_eq_getElem hi']at h3
    exact⟨xs[i].1,by rw[List.getElem?_map,List.getElem?_eq_getElem hi'];try rfl,arg_rec5 hT c f.type hcv _ _ h3 (fun m hm=>hw m (by
     simp only[DataW.weights,hu]
     exact DataW.weights_mem_each (j:=i) (t:=f.type) (d:=xs[i].1) (by rw[List.getElem?_map,hf];try rfl) (by rw[List.getElem?_map,List.getElem?_eq_getElem hi'];try rfl) m hm))⟩)
   refine⟨ps,?_,by simpa using h1,by simp only[Rows.uptoBulk];omega⟩
   unfold Arg;rw[hu]
   exact⟨by rw[h1.len,List.drop_zero,hcl],fun p hpm=>by simpa using h2 p hpm⟩
  ·rename_i k e hu
   simp only[Bool.and_eq_true,List.all_eq_true]at h
   obtain⟨xs,n,hfu,rfl,hcl,hxl,hp⟩:=DataW.trod_array hu hx
   obtain rfl:c=n:=by omega
   have hpt:partsT P t=(List.range k).map fun i=>(i*P.cellsOf e,e):=by unfold partsT;rw[hu]
   obtain⟨ps,h1,h2,h30⟩:=parts_rep5 (w:=w) (c:=c) (cs:=cs) (partsT P t) (xs.map (·.1)) 0 (by rw[hcl];exact h.1) (fun i p hi=>by
    have hcv:=h.2 p (List.mem_of_getElem? hi)
    rw[hpt,List.getElem?_map,Option.map_eq_some_iff]at hi
    obtain⟨j,hj,rfl⟩:=hi
    obtain⟨hjk,rfl⟩:=List.getElem?_range_some hj
    have hi':i<xs.length:=by rw[hxl];exact hjk
    have h3:=hp i hjk
    rw[List.getElem?_eq_getElem hi']at h3
    exact⟨xs[i].1,by rw[List.getElem?_map,List.getElem?_eq_getElem hi'];try rfl,arg_rec5 hT c e hcv _ _ h3 (fun m hm=>hw m (by
     simp only[DataW.weights,hu]
     exact weightsAll_mem (i:=i) (d:=xs[i].1) (by rw[List.getElem?_map,List.getElem?_eq_getElem hi'];try rfl) hm))⟩)
   refine⟨ps,?_,by simpa using h1,by simp only[Rows.uptoBulk];omega⟩
   unfold Arg;rw[hu]
   exact⟨by rw[h1.len,List.drop_zero,hcl],fun p hpm=>by simpa using h2 p hpm⟩
  ·simp at h
theorem arg_value5{Ts:List TypeId}(hT:covC P Ts=true){t:TypeId}(ht:Ts.contains t=true){fs:Array Field}(hu:P.underlying t=some (.struct fs)){v:Value}{d:DataW H}{pl:List MemPlace}
  (h:DataW.Trod enc P w 0 sp held t v d pl)(hv: ∃ base,Value.okWide P w .any base t v)(hw: ∀ n∈d.weights P t,n≤reachBytes):
  ∃ c ps,Arg P c t ps∧(∀ β n,Rep β n (fun b=>b<w.heap.size) w (.agg ps) v)∧PV.bulkL ps≤Rows.uptoBulk d:=by
 obtain⟨fuel,hf⟩:=h
 obtain⟨ps,h1,h2,h3⟩:=arg_rec5 hT fuel t ht _ _ hf hw
 obtain⟨base,hv⟩:=hv
 unfold Value.okWide at hv
 simp only[hu]at hv
 obtain⟨cs,rfl,_⟩:=hv
 refine⟨fuel,ps,h1,fun β n=>?_,h3⟩
 simp only[Rep]
 exact⟨cs.toList,by simp,h2.1,h2.2 β n⟩
end
end Go.AM
namespace Go.AM
theorem bulkR_strs: ∀ l:List ByteArray,l.length≤PV.bulkR (strRows l)
 |[]=>by simp
 |s::l=>by
  have:=bulkR_strs l
  simp only[strRows,List.map_cons,PV.bulkR,PV.bulkL,PV.bulk,List.length_cons]at this⊢
  omega
mutual
theorem Ex.small_bulk: ∀ (e:Ex),PV.bulkL e.cells≤1048576→e.small
 | .mk op name n args kids,h=>by
  simp only[Ex.cells,PV.bulkL,PV.bulk]at h
  simp only[Ex.small]
  have:=bulkR_strs args
  exact⟨by omega,Ex.smalls_bulk kids (by omega)⟩
theorem Ex.smalls_bulk: ∀ (l:List Ex),PV.bulkR (Ex.rows l)≤1048576→Ex.smalls l
 |[],_=>by simp[Ex.smalls]
 |k::ks,h=>by
  simp only[Ex.rows,PV.bulkR]at h
  simp only[Ex.smalls]
  exact⟨Ex.small_bulk k (by omega),Ex.smalls_bulk ks (by omega)⟩
end
end Go.AM
namespace Go.Proofs.Ytjeolbgpllbemaa
open Go.AM
end Go.Proofs.Ytjeolbgpllbemaa
namespace Go.AM
theorem bulkR_pms: ∀ l:List Pm,2*l.length≤PV.bulkR (pmRows l)
 |[]=>by simp
 |s::l=>by
  have:=bulkR_pms l
  simp only[pmRows,pmRow,List.map_cons,PV.bulkR,PV.bulkL,PV.bulk,List.length_cons]at this⊢
  omega
theorem bulkR_fms: ∀ l:List Fm,l.length≤PV.bulkR (Fm.rows l)
 |[]=>by simp
 |s::l=>by
  have:=bulkR_fms l
  cases s
  simp only[Fm.rows,Fm.cells,PV.bulkR,PV.bulkL,PV.bulk,List.length_cons]at this⊢
  omega
mutual
theorem Fm.small_bulk: ∀ (f:Fm),PV.bulkL f.cells≤1048576→f.small
 | .mk op name args params exprs kids,h=>by
  simp only[Fm.cells,PV.bulkL,PV.bulk]at h
  simp only[Fm.small]
  have:=bulkR_strs args
  have:=bulkR_pms params
  have:=bulkR_fms kids
  exact⟨by omega,by omega,Ex.smalls_bulk exprs (by omega),by omega,Fm.smalls_bulk kids (by omega)⟩
theorem Fm.smalls_bulk: ∀ (l:List Fm),PV.bulkR (Fm.rows l)≤1048576→Fm.smalls l
 |[],_=>by simp[Fm.smalls]
 |k::ks,h=>by
  simp only[Fm.rows,PV.bulkR]at h
  simp only[Fm.smalls]
  exact⟨Fm.small_bulk k (by omega),Fm.smalls_bulk ks (by omega)⟩
end
end Go.AM
namespace Go.Proofs.Ytjeolbgpllbemaa
open Go.AM
end Go.Proofs.Ytjeolbgpllbemaa
namespace Go.Proofs.Ytjeolbgpllbemaa
open Go.AM
set_option maxHeartbeats 4000000
set_option maxRecDepth 20000
theorem arg_vlO{c:Nat}{ps:List PV}(h:Arg Try.prog c 62 ps): ∃ a:Vl,a.ok∧ps=vlRow a:=by
 cases c with
 |zero=>simp[Arg]at h
 |succ c=>
  obtain⟨h1,h2⟩:=Arg_struct Try.underlying62 h
  rw[coVl]at h1
  rw[partsVl]at h2
  match ps,h1,h2 with
  |[p0,p1,p2],_,h2=>
   have a0:=h2 (0,48) (by simp)
   have a1:=h2 (2,3) (by simp)
   simp only[coAt,co3,List.drop_zero,List.drop_succ_cons,List.take_succ_cons,List.take_zero]at a0 a1
   obtain⟨s,hs,e1⟩:=arg_at a0
   obtain⟨n,hn,e2⟩:=arg_i64 a1
   simp[atRow]at e1 e2
   exact⟨⟨s,n⟩,⟨hs,hn⟩,by simp[vlRow,e1,e2]⟩
theorem arg_vlsO{c:Nat}{ps:List PV}(h:Arg Try.prog c 24 ps): ∃ l:List Vl,(l.length≤bigN∧ ∀ a∈l,a.ok)∧ps=[.imm 3 (vlRows l)]:=by
 cases c with
 |zero=>simp[Arg]at h
 |succ c=>
  obtain⟨rows,rfl,h1,_,h2⟩:=Arg_slice Try.underlying24 h
  obtain⟨xs,rfl,h3⟩:=rows_map (Q:=Vl.ok) (f:=vlRow) rows (fun r hr=>arg_vlO (h2 r hr).2)
  refine⟨xs,⟨len_le (by simpa using h1) byVl,h3⟩,?_⟩
  rw[coVl];try rfl
theorem arg_pbO(c:Nat){ps:List PV}(h:Arg Try.prog c 31 ps): ∃ p:Pb,p.ok∧ps=p.cells:=by
 cases c with
 |zero=>simp[Arg]at h
 |succ c=>
  obtain⟨h1,h2⟩:=Arg_struct Try.underlying31 h
  rw[coPb]at h1
  rw[partsPb]at h2
  match ps,h1,h2 with
  |[p0,p1,p2,p3,p4,p5,p6,p7,p8,p9,p10],_,h2=>
   have a0:=h2 (0,9) (by simp)
   have a1:=h2 (1,9) (by simp)
   have a2:=h2 (2,22) (by simp)
   have a3:=h2 (3,23) (by simp)
   have a4:=h2 (4,24) (by simp)
   have a5:=h2 (5,29) (by simp)
   simp only[co9,co25,coAts,coVls,co29,List.drop_zero,List.drop_succ_cons,List.take_succ_cons,List.take_zero]at a0 a1 a2 a3 a4 a5
   obtain⟨name,hname,e0⟩:=arg_str a0
   obtain⟨domain,hdomain,e1⟩:=arg_str a1
   obtain⟨objects,hobjects,e2⟩:=arg_pms a2
   obtain⟨init,hinit,e3⟩:=arg_ats a3
   obtain⟨values,hvalues,e4⟩:=arg_vlsO a4
   obtain⟨goal,hgoal,e5⟩:=arg_fm _ a5
   simp at e0 e1 e2 e3 e4
   refine⟨⟨name,domain,objects,init,values,goal⟩,⟨hname,hdomain,hobjects,hinit,hvalues,hgoal⟩,?_⟩
   simp only[Pb.cells,e0,e1,e2,e3,e4,List.cons_append,List.nil_append]
   rw[← e5]
theorem bulkR_ats: ∀ l:List At,l.length≤PV.bulkR (atRows l)∧ ∀ a∈l,a.args.length≤PV.bulkR (atRows l)
 |[]=>by simp
 |a::l=>by
  have ih:=bulkR_ats l
  have hs:=bulkR_strs a.args
  have e:PV.bulkR (atRows (a::l))=PV.bulkL (atRow a)+PV.bulkR (atRows l):=rfl
  have e2:PV.bulkR (strRows a.args)+1≤PV.bulkL (atRow a):=by simp only[atRow,PV.bulkL,PV.bulk];omega
  rw[e]
  refine⟨by simp only[List.length_cons];omega,?_⟩
  intro b hb
  rcases List.mem_cons.1 hb with rfl|hb
  ·omega
  ·have:=ih.2 b hb;omega
theorem bulkR_vls: ∀ l:List Vl,l.length≤PV.bulkR (vlRows l)∧ ∀ a∈l,a.at_.args.length≤PV.bulkR (vlRows l)
 |[]=>by simp
 |a::l=>by
  have ih:=bulkR_vls l
  have hs:=bulkR_strs a.at_.args
  have e:PV.bulkR (vlRows (a::l))=PV.bulkL (vlRow a)+PV.bulkR (vlRows l):=rfl
  have e2:PV.bulkR (strRows a.at_.args)+1≤PV.bulkL (vlRow a):=by simp only[vlRow,PV.bulkL,PV.bulk];omega
  rw[e]
  refine⟨by simp only[List.length_cons];omega,?_⟩
  intro b hb
  rcases List.mem_cons.1 hb with rfl|hb
  ·omega
  ·have:=ih.2 b hb;omega
theorem pb_small{p:Pb}(hb:PV.bulkL p.cells≤1048576):PbSm p:=by
 obtain⟨name,domain,objects,init,values,goal⟩:=p
 have h1:=bulkR_pms objects
 have h2:=bulkR_ats init
 have h3:=bulkR_vls values
 have hg:PV.bulkL goal.cells+PV.bulkR (pmRows objects)+PV.bulkR (atRows init)+PV.bulkR (vlRows values)≤PV.bulkL (Pb.cells ⟨name,domain,objects,init,values,goal⟩):=by
  obtain⟨op,gn,ga,gp,ge,gk⟩:=goal
  simp only[Pb.cells,Fm.cells,List.cons_append,List.nil_append,PV.bulkL,PV.bulk]
  omega
 exact⟨Fm.small_bulk goal (by omega),by simp only;omega,by simp only;omega,by simp only;omega,fun a ha=>by have:=h2.2 a ha;omega,fun a ha=>by have:=h3.2 a ha;omega⟩
end Go.Proofs.Ytjeolbgpllbemaa
namespace Go.Proofs.Ytjeolbgpllbemaa
open Go.AM
set_option maxHeartbeats 4000000
set_option maxRecDepth 20000
def argSumA(n:Int):List At→Int
 |[]=>n
 |a::l=>argSumA (IntKind.i64.wrap (n+a.args.length)) l
def argSumV(n:Int):List Vl→Int
 |[]=>n
 |v::l=>argSumV (IntKind.i64.wrap (n+v.at_.args.length)) l
def largeP(p:Pb):Bool:=decide (argSumV (argSumA (IntKind.i64.wrap (IntKind.i64.wrap ((p.objects.length:Int)+p.init.length)+p.values.length)) p.init) p.values>1000)||decide (p.goal.size>2000)
theorem plarge_c(p:Pb)(hp:p.okS)(h:Heap):PCall Try.prog 6 [.agg p.cells] h fun r h'=>r= .sc (.bool (largeP p))∧h'=h:=by
 obtain⟨ho,⟨hi,hia⟩,⟨hv,hva⟩,hg⟩:=hp
 obtain⟨name,domain,objects,init,values,goal⟩:=p
 simp only at ho hi hia hv hva hg
 have hz:=rsize_c goal hg
 unfold largeP
 simp only
 generalize goal.size=gs at hz⊢
 clear hg
 obtain⟨gop,gname,gargs,gparams,gexprs,gkids⟩:=goal
 have hlo:=pmRows_len objects
 have hli:=atRows_len init
 have hlv:=vlRows_len values
 unfold bigN at ho hi hv
 simp only[Fm.cells]at hz
 generalize hN0:IntKind.i64.wrap (IntKind.i64.wrap ((objects.length:Int)+init.length)+values.length)=n0
 generalize hNA:argSumA n0 init=nA
 generalize hNV:argSumV nA values=nV
 have hC: ∀ r,r=(Pb.mk name domain objects init values (.mk gop gname gargs gparams gexprs gkids)).cells→r=[sPV name,sPV domain,.imm 2 (pmRows objects),.imm 2 (atRows init),.imm 3 (vlRows values),sPV gop,sPV gname,.imm 1 (strRows gargs),.imm 2 (pmRows gparams),.imm 5 (Ex.rows gexprs),.imm 6 (Fm.rows gkids)]:=fun r e=>e
 have hC2:=hC _ rfl
 rw[hC2]
 refine pcall_body (ow:=fun _=>false) (wf:=fun _=>false) Ty.mixed Try.func6 rfl Ty.hb_6 (by rw[Try.ntmps6];simp) ?_
 rw[Try.ntmps6,Try.results6]
 repeat'(first|(with_reducible refine a_hold 2 ?_)|refine a_seq fun K hK=>?_|(refine a_regionS ?_;simp(maxSteps:=2000000) only[Ty.w,simprocAttr,hlo,hli,hlv,hN0])|(refine hK _ _ ?_;clear hK;try simp only[pst0,simprocAttr]))
 refine⟨?_⟩
 refine a_cut (fun S h'=>h'=h∧S 1= .cptr (Pb.mk name domain objects init values (.mk gop gname gargs gparams gexprs gkids)).cells∧S 3= .sc (.int .i64 nA)) ?_ ?_
 ·rw [hC2]
  repeat'(first|refine a_seq fun K hK=>?_|(refine a_block ?_)|(refine a_regionS ?_;simp(maxSteps:=2000000) only[Ty.w,simprocAttr])|(refine hK _ _ ?_;clear hK;try simp only[pst0,simprocAttr]))
  refine a_loop (fun c S h'=>h'=h∧S 1= .cptr (Pb.mk name domain objects init values (.mk gop gname gargs gparams gexprs gkids)).cells∧ ∃ (k:Nat)(n:Int),S 4= .sc (.int .i64 k)∧S 3= .sc (.int .i64 n)∧k≤init.length∧c=init.length-k∧nA=argSumA n (init.drop k)) init.length ?_ ?_
  ·simp only[Ty.w,simprocAttr,hC2]
   exact⟨0,n0,rfl,rfl,by omega,rfl,by rw[← hNA];try rfl⟩
  ·rintro c S h' ⟨rfl,g1,k,n,g4,g3,hk,rfl,hinv⟩
   rw[hC2]at g1
   by_cases hlt:k<init.length
   ·have hd:decide ((k:Int)<(init.length:Int))=true:=by simp;omega
    have w7:IntKind.i64.wrap ((k:Int)+1)=k+1:=by rw[wrap64 (by omega) (by omega)]
    obtain⟨a,hx⟩: ∃ a,init[k]? =some a:=⟨_,List.getElem?_eq_getElem hlt⟩
    have hr:=atRows_get hx
    have hls:=strRows_len a.args
    rw[drop_of_get hx]at hinv
    simp only[argSumA]at hinv
    repeat'(first|refine a_seq fun K hK=>?_|(refine a_block ?_)|((first|refine a_regionS ?_|refine a_region (fun K hK=>?_));simp(maxSteps:=2000000) only[Ty.w,simprocAttr,g1,g3,g4,hli,hd,hr,hls,w7])|(refine a_skip ?_;try simp only[pst0,simprocAttr])|(refine a_cond _ (by(try simp(maxSteps:=2000000) only[Ty.w,simprocAttr,g1,g3,g4,hli,hd,hr,hls,w7]);rfl) (fun hb=>?_) (fun hb=>?_)<;>(try simp only[hb0,decide_eq_true_eq,decide_eq_false_iff_not,simprocAttr]at hb)<;>(try(exfalso;omega)))|(refine hK _ _ ?_;clear hK;try simp only[pst0,simprocAttr]))
    exact⟨init.length-(k+1),by omega,by rw[hC2],k+1,_,by simp,rfl,by omega,rfl,hinv⟩
   ·have hd:decide ((k:Int)<(init.length:Int))=false:=by simp;omega
    rw[List.drop_eq_nil_of_le (by omega)]at hinv
    simp only[argSumA]at hinv
    repeat'(first|refine a_seq fun K hK=>?_|(refine a_regionS ?_;simp(maxSteps:=2000000) only[Ty.w,simprocAttr,g1,g3,g4,hli,hd])|(refine a_exit ?_;try simp only[pst0,simprocAttr])|(refine a_cond _ (by(try simp(maxSteps:=2000000) only[Ty.w,simprocAttr,g1,g3,g4,hli,hd]);rfl) (fun hb=>?_) (fun hb=>?_)<;>(try simp only[hb0,decide_eq_true_eq,decide_eq_false_iff_not,simprocAttr]at hb)<;>(try(exfalso;omega)))|(refine hK _ _ ?_;clear hK;try simp only[pst0,simprocAttr]))
    simp only[Ty.w,simprocAttr,g1,g3,hinv,hC2]
 ·rintro S h' ⟨rfl,g1,g3⟩
  rw[hC2]at g1
  clear hNA hN0
  repeat'(with_reducible refine a_hold 6 ?_)
  refine⟨?_⟩
  refine a_cut (fun S h2=>h2=h'∧S 1= .cptr (Pb.mk name domain objects init values (.mk gop gname gargs gparams gexprs gkids)).cells∧S 3= .sc (.int .i64 nV)) ?_ ?_
  ·rw [hC2]
   repeat'(first|refine a_seq fun K hK=>?_|(refine a_block ?_)|(refine a_regionS ?_;simp(maxSteps:=2000000) only[Ty.w,simprocAttr,g1,g3])|(refine hK _ _ ?_;clear hK;try simp only[pst0,simprocAttr]))
   refine a_loop (fun c S h2=>h2=h'∧S 1= .cptr (Pb.mk name domain objects init values (.mk gop gname gargs gparams gexprs gkids)).cells∧ ∃ (k:Nat)(n:Int),S 5= .sc (.int .i64 k)∧S 3= .sc (.int .i64 n)∧k≤values.length∧c=values.length-k∧nV=argSumV n (values.drop k)) values.length ?_ ?_
   ·simp only[Ty.w,simprocAttr,g1,g3,hC2]
    exact⟨0,nA,rfl,rfl,by omega,rfl,by rw[← hNV];try rfl⟩
   ·clear g1 g3
    rintro c S h2 ⟨rfl,g1,k,n,g5,g3,hk,rfl,hinv⟩
    rw[hC2]at g1
    by_cases hlt:k<values.length
    ·have hd:decide ((k:Int)<(values.length:Int))=true:=by simp;omega
     have w7:IntKind.i64.wrap ((k:Int)+1)=k+1:=by rw[wrap64 (by omega) (by omega)]
     obtain⟨a,hx⟩: ∃ a,values[k]? =some a:=⟨_,List.getElem?_eq_getElem hlt⟩
     have hr:=vlRows_get hx
     have hls:=strRows_len a.at_.args
     rw[drop_of_get hx]at hinv
     simp only[argSumV]at hinv
     repeat'(first|refine a_seq fun K hK=>?_|(refine a_block ?_)|((first|refine a_regionS ?_|refine a_region (fun K hK=>?_));simp(maxSteps:=2000000) only[Ty.w,simprocAttr,g1,g3,g5,hlv,hd,hr,hls,w7])|(refine a_skip ?_;try simp only[pst0,simprocAttr])|(refine a_cond _ (by(try simp(maxSteps:=2000000) only[Ty.w,simprocAttr,g1,g3,g5,hlv,hd,hr,hls,w7]);rfl) (fun hb=>?_) (fun hb=>?_)<;>(try simp only[hb0,decide_eq_true_eq,decide_eq_false_iff_not,simprocAttr]at hb)<;>(try(exfalso;omega)))|(refine hK _ _ ?_;clear hK;try simp only[pst0,simprocAttr]))
     exact⟨values.length-(k+1),by omega,by rw[hC2],k+1,_,by simp,rfl,by omega,rfl,hinv⟩
    ·have hd:decide ((k:Int)<(values.length:Int))=false:=by simp;omega
     rw[List.drop_eq_nil_of_le (by omega)]at hinv
     simp only[argSumV]at hinv
     repeat'(first|refine a_seq fun K hK=>?_|(refine a_regionS ?_;simp(maxSteps:=2000000) only[Ty.w,simprocAttr,g1,g3,g5,hlv,hd])|(refine a_exit ?_;try simp only[pst0,simprocAttr])|(refine a_cond _ (by(try simp(maxSteps:=2000000) only[Ty.w,simprocAttr,g1,g3,g5,hlv,hd]);rfl) (fun hb=>?_) (fun hb=>?_)<;>(try simp only[hb0,decide_eq_true_eq,decide_eq_false_iff_not,simprocAttr]at hb)<;>(try(exfalso;omega)))|(refine hK _ _ ?_;clear hK;try simp only[pst0,simprocAttr]))
     simp only[Ty.w,simprocAttr,g1,g3,hinv,hC2]
  ·clear g1 g3
   rintro S h2 ⟨rfl,g1,g3⟩
   rw[hC2]at g1
   cases l1:decide (nV>1000)with
   |true=>
    repeat'(first|refine a_seq fun K hK=>?_|((first|refine a_regionS ?_|refine a_ret ?_);simp(maxSteps:=2000000) only[Ty.w,simprocAttr,g1,g3,l1])|(refine hK _ _ ?_;clear hK;try simp only[pst0,simprocAttr]))
    all_goals simp only[Bool.true_or]
   |false=>
    repeat'(first|refine a_seq fun K hK=>?_|(refine a_regionS ?_;simp(maxSteps:=2000000) only[Ty.w,simprocAttr,g1,g3,l1]))
    refine owp_useQ (hz _) (by(try simp only[Ty.w,simprocAttr,g1,g3,l1]);try rfl) ?_;simp(maxSteps:=2000000) only[Ty.w,simprocAttr,g1,g3,l1]
    repeat'(first|(refine a_ret ?_;simp(maxSteps:=2000000) only[Ty.w,simprocAttr,g1,g3,l1])|(refine hK _ _ ?_;clear hK;try simp only[pst0,simprocAttr]))
    all_goals simp only[Bool.false_or]
end Go.Proofs.Ytjeolbgpllbemaa
namespace Go.AM
def mnO:Option Nat→Option Nat→Option Nat
 |none,b=>b
 |some a,none=>some a
 |some a,some b=>if a≤b then some a else some b
def Tch(q:Option Nat)(h h':Heap):Prop:=match q with
 |none=>h'=h
 |some m=>h.next≤h'.next∧ ∀ id,id<m→h'.obj id=h.obj id
theorem Tch.trans{q q':Option Nat}{h h1 h':Heap}(a:Tch q h h1)(b:Tch q' h1 h'):Tch (mnO q q') h h':=by
 cases q with
 |none=>simp only[Tch]at a;subst a;simpa only[mnO]using b
 |some m=>
  cases q' with
  |none=>simp only[Tch]at b;subst b;simpa only[mnO]using a
  |some m'=>
   simp only[Tch]at a b
   simp only[mnO]
   split<;>simp only[Tch]<;>refine⟨by omega,fun id hid=>?_⟩
   ·rw [b.2 id (by omega),a.2 id hid]
   ·rw [b.2 id hid,a.2 id (by omega)]
def ptrOf:PV→Nat
 | .ptr id _ _=>id
 |_=>0
def mapOf:PV→Nat
 | .mp id=>id
 |_=>0
def ownOf(n:Nat):PV→Nat
 | .own id _ _=>if id≤n then id else n
 |_=>n
def tchO(op:Op)(ρ:Operand→PV)(h:Heap):Nat:=match op with
 | .store _ a _=>ptrOf (ρ a)
 | .mapUpdate _ x _ _=>mapOf (ρ x)
 | .call {callee:= .builtin .append,args:=args,.. }=>(match args.toList with
  |x::_=>ownOf h.next (ρ x)
  |[]=>0)
 |_=>h.next
theorem tch_new{h:Heap}{o:AObj}:Tch (some h.next) h (h.new o):=by
 simp only[Tch,new_next]
 exact⟨by omega,fun id hid=>by rw[new_obj,if_neg (by omega)]⟩
theorem tch_set{h:Heap}{i:Nat}{o:AObj}:Tch (some i) h (h.set i o):=by
 simp only[Tch,set_next]
 exact⟨by omega,fun id hid=>by rw[set_obj,if_neg (by omega)]⟩
theorem tch_id{h:Heap}{m:Nat}:Tch (some m) h h:=⟨Nat.le_refl _,fun _ _=>rfl⟩
theorem app_tch{z bytes:Nat}{h h':Heap}{x y v:PV}(ha:app z bytes h x y=some (v,h')):Tch (some (ownOf h.next x)) h h':=by
 unfold app at ha
 split at ha
 case isFalse=>simp at ha
 split at ha
 case h_2=>simp at ha
 rename_i nw h1 old hv ht
 split at ha
 case isFalse=>simp at ha
 simp only[Option.some.injEq,Prod.mk.injEq]at ha
 obtain⟨_,rfl⟩:=ha
 unfold isTail at ht
 split at ht
 ·simp only[Option.some.injEq,Prod.mk.injEq]at ht;obtain⟨rfl,rfl⟩:=ht;exact tch_new
 ·simp only[Option.some.injEq,Prod.mk.injEq]at ht;obtain⟨rfl,rfl⟩:=ht;exact tch_new
 ·split at ht
  case h_2=>simp at ht
  split at ht
  case isFalse=>simp at ht
  simp only[Option.some.injEq,Prod.mk.injEq]at ht;obtain⟨rfl,rfl⟩:=ht
  simp only[Tch,new_next,kill_next,ownOf]
  refine⟨by omega,fun id hid=>?_⟩
  rw[new_obj,kill_next]
  split at hid
  ·rw [if_neg (by omega),kill_obj,if_neg (by omega)]
  ·rw [if_neg (by omega),kill_obj,if_neg (by omega)]
 ·simp at ht
theorem wr_tch{h h':Heap}{vc:List PV}{p:PV}(hw:wr h vc p=some h'):Tch (some (ptrOf p)) h h':=by
 cases p with
 |ptr id i f=>
  simp only[wr]at hw
  split at hw
  ·split at hw
   ·split at hw
    ·simp at hw;subst hw;exact tch_set
    ·simp at hw
   ·simp at hw
  ·simp at hw
 |_=>simp[wr]at hw
theorem eff_tch{P:Program}{ow:Bool}{op:Op}{ρ:Operand→PV}{h h':Heap}{v:PV}(he:eff P ow op ρ h=some (v,h')):Tch (some (tchO op ρ h)) h h':=by
  unfold eff at he
  split at he
  all_goals(repeat'(split at he))
  all_goals first
    |(simp[Option.bind_eq_some_iff,Option.map_eq_some_iff]at he;done)
    |(simp only[Option.some.injEq,Prod.mk.injEq]at he;obtain⟨_,rfl⟩:=he;exact tch_id)
    |(simp only[Option.some.injEq,Prod.mk.injEq]at he;obtain⟨_,rfl⟩:=he;exact tch_new)
    |(simp only[Option.map_eq_some_iff,Prod.mk.injEq]at he;obtain⟨_,_,_,rfl⟩:=he;exact tch_id)
    |(simp[Option.bind_eq_some_iff,Option.map_eq_some_iff]at he;grind [tch_id,tch_new,tch_set])
    | (simp only [Option.bind_eq_some_iff] at he
       obtain⟨_,_,he⟩:=he
       (first
         | (split at he
            · simp only[Option.some.injEq,Prod.mk.injEq]at he;obtain⟨_,rfl⟩:=he;exact tch_new
            · simp at he)
         | (obtain ⟨_, _, he⟩ := he
            split at he
            · simp only [Option.bind_eq_some_iff] at he
              obtain⟨_,_,he⟩:=he
              simp only[Option.some.injEq,Prod.mk.injEq]at he;obtain⟨_,rfl⟩:=he;exact tch_new
            · simp at he)
         | (obtain ⟨_, _, _, _, _, _, he⟩ := he
            split at he
            · simp only[Option.some.injEq,Prod.mk.injEq]at he;obtain⟨_,rfl⟩:=he;exact tch_new
            · simp at he)
         | (split at he
            · simp only [Option.map_eq_some_iff, Prod.mk.injEq] at he
              obtain⟨_,hw,_,rfl⟩:=he
              exact wr_tch hw
            · simp at he)))
    |skip
  · rename_i hid _ _ _ _
    simp only[Option.bind_eq_some_iff]at he
    obtain⟨_,_,he⟩:=he
    split at he
    · simp only [Option.map_eq_some_iff, Prod.mk.injEq] at he
      obtain⟨es',_,_,rfl⟩:=he
      simp only[tchO]
      simp only[*,mapOf]
      exact tch_set
    · simp at he
  · rename_i hl htu
    simp only[Option.bind_eq_some_iff]at he
    obtain⟨_,_,he⟩:=he
    have:=app_tch he
    simp only[tchO]
    simp only[*]
mutual
def inNb(n:Nat):PV→Bool
 | .sc _=>true
 | .ptr id _ _=>decide (id<n)
 | .cptr cs=>inNLb n cs
 | .own id _ _=>decide (id<n)
 | .imm _ rows=>inNRb n rows
 | .emp=>true
 | .mp id=>decide (id<n)
 | .agg cs=>inNLb n cs
 | .tup cs=>inNLb n cs
 | .fn _ a b=>inNLb n a&&inNLb n b
 | .ab _ _ _ _ _=>true
def inNLb(n:Nat):List PV→Bool
 |[]=>true
 |p::ps=>inNb n p&&inNLb n ps
def inNRb(n:Nat):List (List PV)→Bool
 |[]=>true
 |r::rs=>inNLb n r&&inNRb n rs
end
mutual
theorem inNb_ok{n:Nat}:(p:PV)→inNb n p=true→inN n p
 | .sc _,_=>by simp only[inN]
 | .ptr _ _ _,h=>by simp only[inNb,decide_eq_true_eq]at h;simpa only[inN]using h
 | .cptr cs,h=>by simp only[inNb]at h;simp only[inN];exact inNLb_ok cs h
 | .own _ _ _,h=>by simp only[inNb,decide_eq_true_eq]at h;simpa only[inN]using h
 | .imm _ rows,h=>by simp only[inNb]at h;simp only[inN];exact inNRb_ok rows h
 | .emp,_=>by simp only[inN]
 | .mp _,h=>by simp only[inNb,decide_eq_true_eq]at h;simpa only[inN]using h
 | .agg cs,h=>by simp only[inNb]at h;simp only[inN];exact inNLb_ok cs h
 | .tup cs,h=>by simp only[inNb]at h;simp only[inN];exact inNLb_ok cs h
 | .fn _ a b,h=>by simp only[inNb,Bool.and_eq_true]at h;simp only[inN];exact⟨inNLb_ok a h.1,inNLb_ok b h.2⟩
 | .ab _ _ _ _ _,_=>by simp only[inN]
theorem inNLb_ok{n:Nat}:(l:List PV)→inNLb n l=true→inNL n l
 |[],_=>by simp only[inNL]
 |p::ps,h=>by simp only[inNLb,Bool.and_eq_true]at h;simp only[inNL];exact⟨inNb_ok p h.1,inNLb_ok ps h.2⟩
theorem inNRb_ok{n:Nat}:(l:List (List PV))→inNRb n l=true→inNR n l
 |[],_=>by simp only[inNR]
 |p::ps,h=>by simp only[inNRb,Bool.and_eq_true]at h;simp only[inNR];exact⟨inNLb_ok p h.1,inNRb_ok ps h.2⟩
end
mutual
def frzP(h':Heap)(n:Nat):Nat→PV→Option PV
 |0,_=>none
 |k+1,p=>match p with
  | .sc v=>some (.sc v)
  | .ptr id i f=>if id<n then some (.ptr id i f)else match h'.obj id with
   |some (.arr _ rows)=>(match rows[i]? with
    |some q=>(frzL h' n k (q.drop f)).map .cptr
    |none=>none)
   |_=>none
  | .own id off len=>if id<n then some (.own id off len)else match h'.obj id with
   |some (.arr z rows)=>if off+len≤rows.length then(frzR h' n k ((rows.drop off).take len)).map (.imm z)else none
   |_=>none
  | .imm z rows=>if inNRb n rows=true then some (.imm z rows)else none
  | .cptr cs=>if inNLb n cs=true then some (.cptr cs)else none
  | .emp=>some .emp
  | .mp id=>if id<n then some (.mp id)else none
  | .agg cs=>(frzL h' n k cs).map .agg
  | .tup cs=>(frzL h' n k cs).map .tup
  | .fn f a b=>if(inNLb n a&&inNLb n b)=true then some (.fn f a b)else none
  | .ab k lo hi m r=>some (.ab k lo hi m r)
def frzL(h':Heap)(n:Nat):Nat→List PV→Option (List PV)
 |0,_=>none
 |_+1,[]=>some []
 |k+1,p::ps=>match frzP h' n k p with
  |some q=>(frzL h' n k ps).map (q::·)
  |none=>none
def frzR(h':Heap)(n:Nat):Nat→List (List PV)→Option (List (List PV))
 |0,_=>none
 |_+1,[]=>some []
 |k+1,p::ps=>match frzL h' n k p with
  |some q=>(frzR h' n k ps).map (q::·)
  |none=>none
end
mutual
theorem frzP_ok{h':Heap}{n:Nat}: ∀ (k:Nat)(p:PV){r:PV},frzP h' n k p=some r→FrzTo n h' r p
 |0,_,_,h=>by simp[frzP]at h
 |k+1,p,r,h=>by
  unfold frzP at h
  split at h
  ·simp at h;subst h;simp only[FrzTo]
  ·split at h
   ·rename_i hid;simp at h;subst h;simp only[FrzTo];exact⟨trivial,hid⟩
   ·rename_i id i f hid
    split at h
    ·rename_i z rows hob
     split at h
     ·rename_i q hq
      simp only[Option.map_eq_some_iff]at h
      obtain⟨cs,hc,rfl⟩:=h
      simp only[FrzTo]
      exact .inr ⟨id,i,f,z,rows,q,rfl,by omega,hob,hq,frzL_ok k _ hc⟩
     ·simp at h
    ·simp at h
  ·split at h
   ·rename_i hid;simp at h;subst h;simp only[FrzTo];exact⟨trivial,hid⟩
   ·rename_i id off len hid
    split at h
    ·rename_i z rows hob
     split at h
     ·rename_i hle
      simp only[Option.map_eq_some_iff]at h
      obtain⟨rs,hc,rfl⟩:=h
      simp only[FrzTo]
      exact .inr (.inr ⟨id,off,len,rows,rfl,by omega,hob,hle,frzR_ok k _ hc⟩)
     ·simp at h
    ·simp at h
  ·split at h
   ·rename_i hi;simp at h;subst h;simp only[FrzTo];exact .inl ⟨trivial,inNRb_ok _ hi⟩
   ·simp at h
  ·split at h
   ·rename_i hi;simp at h;subst h;simp only[FrzTo];exact .inl ⟨trivial,inNLb_ok _ hi⟩
   ·simp at h
  ·simp at h;subst h;simp only[FrzTo]
  ·split at h
   ·rename_i hid;simp at h;subst h;simp only[FrzTo];exact⟨trivial,hid⟩
   ·simp at h
  ·simp only[Option.map_eq_some_iff]at h
   obtain⟨cs,hc,rfl⟩:=h
   simp only[FrzTo]
   exact⟨_,rfl,frzL_ok k _ hc⟩
  ·simp only[Option.map_eq_some_iff]at h
   obtain⟨cs,hc,rfl⟩:=h
   simp only[FrzTo]
   exact⟨_,rfl,frzL_ok k _ hc⟩
  ·split at h
   ·rename_i hi
    simp only[Bool.and_eq_true]at hi
    simp at h;subst h;simp only[FrzTo];exact⟨trivial,inNLb_ok _ hi.1,inNLb_ok _ hi.2⟩
   ·simp at h
  ·simp at h;subst h;simp only[FrzTo]
theorem frzL_ok{h':Heap}{n:Nat}: ∀ (k:Nat)(l:List PV){r:List PV},frzL h' n k l=some r→FrzL n h' r l
 |0,_,_,h=>by simp[frzL]at h
 |k+1,[],r,h=>by simp[frzL]at h;subst h;simp only[FrzL]
 |k+1,p::ps,r,h=>by
  unfold frzL at h
  split at h
  ·rename_i q hq
   simp only[Option.map_eq_some_iff]at h
   obtain⟨qs,hc,rfl⟩:=h
   simp only[FrzL]
   exact⟨frzP_ok k p hq,frzL_ok k ps hc⟩
  ·simp at h
theorem frzR_ok{h':Heap}{n:Nat}: ∀ (k:Nat)(l:List (List PV)){r:List (List PV)},frzR h' n k l=some r→FrzR n h' r l
 |0,_,_,h=>by simp[frzR]at h
 |k+1,[],r,h=>by simp[frzR]at h;subst h;simp only[FrzR]
 |k+1,p::ps,r,h=>by
  unfold frzR at h
  split at h
  ·rename_i q hq
   simp only[Option.map_eq_some_iff]at h
   obtain⟨qs,hc,rfl⟩:=h
   simp only[FrzR]
   exact⟨frzL_ok k p hq,frzR_ok k ps hc⟩
  ·simp at h
end
def dropB(q:Option Nat)(n:Nat):Bool:=match q with
 |none=>true
 |some t=>decide (n≤t)
def endS:Option (Exit × Slots × Option Nat × Heap)→Option (Slots × Option Nat × Heap)
 |some (.normal,r)=>some r
 |some (.ret,r)=>some r
 |_=>none
theorem endS_some{x:Option (Exit × Slots × Option Nat × Heap)}{r:Slots × Option Nat × Heap}(h:endS x=some r): ∃ e,(e= .normal∨e= .ret)∧x=some (e,r):=by
 unfold endS at h
 split at h
 ·simp at h;subst h;exact⟨_,.inl rfl,rfl⟩
 ·simp at h;subst h;exact⟨_,.inr rfl,rfl⟩
 ·simp at h
abbrev CallR2:=FuncId→List PV→Heap→Option (PV × Option Nat × Heap)
section
variable (P:Program)(wf:FuncId→Bool)(own:FuncId→Nat→Bool)(ext:FuncId→List PV→Heap→Option PV)
def xop2(call:CallR2)(ow:Nat→Bool)(o:Oper)(ρ:Operand→PV)(h:Heap):Option (PV × Option Nat × Heap):=
 match callee ρ o.op with
 |some (f,args)=>call f args h
 |none=>match eff P (o.dst.any ow) o.op ρ h with
  |some (v,h')=>some (v,(if isW ow wf o=true then some (tchO o.op ρ h)else none),h')
  |none=>none
def xagain2(call:CallR2)(ow:Nat→Bool)(o:Oper)(ρ:Operand→PV)(h:Heap)(v:PV):Bool:=
 match xop2 P wf call ow o ρ h with
 |some (v',q,_)=>q.isNone&&pvEq v' v
 |none=>false
def xl2(call:CallR2)(ow:Nat→Bool)(n:Nat)(ops:List Oper):List Oper→Slots→Option Nat→Heap→Option (Slots × Option Nat × Heap)
 |[],s,q,h=>some (s,q,h)
 | o :: rest, s, q, h => if o.dst.all (fun d => decide (d < n)) = true then
   match wantedB ops s o with
   |none=>none
   |some false=>xl2 call ow n ops rest (updO s o.dst (.sc undef)) q h
   |some true=>match xop2 P wf call ow o (pev s) h with
    |some (v,q',h')=>xl2 call ow n ops rest (updO s o.dst v) (mnO q q') h'
    |none=>none
  else none
def xopR(call:CallR2)(ow:Nat→Bool)(id:Nat)(o:Oper)(ρ:Operand→PV)(h:Heap):Option (PV × Option Nat × Heap):=
 match o.op with
 | .alloc t=>match zeroT P t with
  |some zs=>if 0<zs.length then some (.ptr id 0 0,some id,h.set id (.arr zs.length [zs.map .sc]))else none
  |none=>none
 |_=>xop2 P wf call ow o ρ h
def xd2(call:CallR2)(ow:Nat→Bool)(n:Nat)(ops:List Oper):Nat→List Oper→List (Nat × Oper × Slots × PV)→List (Nat × Heap)→Slots→Option Nat→Heap→Option (Slots × Option Nat × Heap)
 |_,[],_,_,s,q,h=>some (s,q,h)
 | k, o :: rest, past, hist, s, q, h => if o.dst.all (fun d => decide (d < n)) = true then
   match wantedB ops s o with
   |none=>none
   |some false=>xd2 call ow n ops (k+1) rest past hist (updO s o.dst (.sc undef)) q h
   |some true=>match xop2 P wf call ow o (pev s) h with
    |none=>none
    |some (v,q',h')=>
     if isW ow wf o=true then
      (if past.all (fun x=>pre ops x.1 k||xagain2 P wf call ow x.2.1 (pev x.2.2.1) h' x.2.2.2)=true then xd2 call ow n ops (k+1) rest past ((k,h)::hist) (updO s o.dst v) (mnO q q') h' else none)
     else if q'.isNone=true then
      (if hist.all (fun x=>pre ops x.1 k||xagain2 P wf call ow o (pev s) x.2 v)=true then xd2 call ow n ops (k+1) rest ((k,o,s,v)::past) hist (updO s o.dst v) q h else none)
     else none
  else none
def xd3(call:CallR2)(ow:Nat→Bool)(n:Nat)(ops:List Oper)(base:Nat):Nat→List Oper→List (Nat × Oper × Slots × PV)→List (Nat × Heap)→Slots→Option Nat→Heap→Option (Slots × Option Nat × Heap)
 |_,[],_,_,s,q,h=>some (s,q,h)
 | k, o :: rest, past, hist, s, q, h => if o.dst.all (fun d => decide (d < n)) = true then
   match wantedB ops s o with
   |none=>none
   |some false=>xd3 call ow n ops base (k+1) rest past hist (updO s o.dst (.sc undef)) q h
   |some true=>match xopR P wf call ow (base+k) o (pev s) h with
    |none=>none
    |some (v,q',h')=>
     if isW ow wf o=true then
      (if(past.all (fun x=>pre ops x.1 k||xagain2 P wf call ow x.2.1 (pev x.2.2.1) h' x.2.2.2)&&((List.range ops.length).all fun f=>!(decide (k<f)&&alB ops f)||(h'.obj (base+f)).isNone))=true then xd3 call ow n ops base (k+1) rest past ((k,h)::hist) (updO s o.dst v) (mnO q q') h' else none)
     else if q'.isNone=true then
      (if hist.all (fun x=>pre ops x.1 k||xagain2 P wf call ow o (pev s) x.2 v)=true then xd3 call ow n ops base (k+1) rest ((k,o,s,v)::past) hist (updO s o.dst v) q h else none)
     else none
  else none
structure Rc where
 s:Slots
 h:Heap
 v:PV
 l:Option (Nat × AObj)
 b:Bool
def unoB(ops:List Oper)(x f:Nat):Bool:=!(x==f)&&!(pre ops x f)&&!(pre ops f x)
def laterA(ow:Nat→Bool)(ops:List Oper)(k:Nat):List Nat:=(List.range ops.length).filter fun f=>decide (k<f)&&(ops[f]?).any (isA ow)
def killsAt(ow:Nat→Bool)(ops:List Oper)(base k:Nat)(ls:List (Nat × Nat)):List Nat:=(ls.filterMap fun p=>if unoB ops k p.1=true then some p.2 else none)++(laterA ow ops k).map (base+·)
def x4(call:CallR2)(ow:Nat→Bool)(ops:List Oper)(base k:Nat)(ls:List (Nat × Nat))(o:Oper)(s:Slots)(h:Heap):Option (PV × Option Nat × Heap × Option (Nat × AObj)× Bool):=
 if isW ow wf o=true then
  (if isA ow o = true then (match aop P ow (base + k) o (pev s) with
   |some (v,ob)=>some (v,some (base+k),h.set (base+k) ob,some (base+k,ob),false)
   |none=>none)
  else match o.op with
   | .store t x y=>(match pev s x with
    | .ptr id _ _=>(match eff P (o.dst.any ow) (.store t x y) (pev s) h with
     |some (v,h')=>(match h'.obj id with
      |some ob=>some (v,some id,h.set id ob,some (id,ob),false)
      |none=>none)
     |none=>none)
    |_=>none)
   |_=>(match xop2 P wf call ow o (pev s) (killL h (killsAt ow ops base k ls))with
    |some (v,q,h')=>if((killsAt ow ops base k ls).all (fun id=>(h'.obj id).isNone)&&(laterA ow ops k).all (fun f=>(h.obj (base+f)).isNone))=true then some (v,q,putL h' h (killsAt ow ops base k ls),none,true)else none
    |none=>none))
 else match xop2 P wf call ow o (pev s) (killL h (killsAt ow ops base k ls))with
  |some (v,q,_)=>if q.isNone=true then some (v,none,h,none,false)else none
  |none=>none
def addL(k:Nat)(l:Option (Nat × AObj))(ls:List (Nat × Nat)):List (Nat × Nat):=match l with
 |some p=>(k,p.1)::ls
 |none=>ls
def xr4(call:CallR2)(ow:Nat→Bool)(n:Nat)(ops:List Oper)(base:Nat):Nat→List Oper→List (Nat × Nat)→Slots→Option Nat→Heap→Option (List Rc × Slots × Option Nat × Heap)
 |_,[],_,s,q,h=>some ([],s,q,h)
 | k, o :: rest, ls, s, q, h => if o.dst.all (fun d => decide (d < n)) = true then
   match wantedB ops s o with
   |none=>none
   |some false=>(xr4 call ow n ops base (k+1) rest ls (updO s o.dst (.sc undef)) q h).map fun r=>(⟨s,h,.emp,none,false⟩::r.1,r.2)
   |some true=>match x4 P wf call ow ops base k ls o s h with
    |none=>none
    |some (v,q',h',l,b)=>(xr4 call ow n ops base (k+1) rest (addL k l ls) (updO s o.dst v) (mnO q q') h').map fun r=>(⟨s,h,v,l,b⟩::r.1,r.2)
  else none
def gS(rs:List Rc)(sf:Slots)(j:Nat):Slots:=match rs[j]? with|some r=>r.s|none=>sf
def gH(rs:List Rc)(hf:Heap)(j:Nat):Heap:=match rs[j]? with|some r=>r.h|none=>hf
def gV(rs:List Rc)(j:Nat):PV:=match rs[j]? with|some r=>r.v|none=> .emp
def gL(rs:List Rc)(j:Nat):Option (Nat × AObj):=match rs[j]? with|some r=>r.l|none=>none
def gB(rs:List Rc)(j:Nat):Bool:=match rs[j]? with|some r=>r.b|none=>false
def rng(n:Nat)(p:Nat→Bool):Bool:=(List.range n).all p
def wwB(ow:Nat→Bool)(ops:List Oper)(lt:Nat→Option (Nat × AObj))(br:Nat→Bool):Bool:=
 rng ops.length fun j=>!(br j||(lt j).isSome)||rng j fun i=>!(br i||(lt i).isSome)||pre ops i j||(match lt i,lt j with|some p,some q=>!(p.1==q.1)|_,_=>false)||(br i&&(lt j).isSome&&(ops[j]?).any (isA ow))||((lt i).isSome&&br j&&(ops[i]?).any (isA ow))
def lateB(ow:Nat→Bool)(ops:List Oper)(base:Nat)(hk:Nat→Heap)(lt:Nat→Option (Nat × AObj))(br:Nat→Bool):Bool:=
 rng ops.length fun j=>(!(br j||(lt j).isSome))||rng ops.length fun f=>!(decide (j<f)&&(ops[f]?).any (isA ow))||(if br j=true then((hk (j+1)).obj (base+f)).isNone else match lt j with|some p=>!(base+f==p.1)|none=>true)
def isSt(o:Oper):Bool:=match o.op with
 | .store _ _ _=>true
 |_=>false
def lastBr(br:Nat→Bool)(k:Nat):Nat:=lastOf br k
def cutB(ops:List Oper)(br:Nat→Bool)(x M:Nat):Bool:=(M==0||br (M-1))&&rng ops.length fun b=>!(br b)||(if b<M then !(pre ops x b)else !(pre ops b x))
def noSt(ops:List Oper)(k:Nat):Bool:=rng ops.length fun f=>!(decide (k<f)&&(ops[f]?).any isSt&&unoB ops k f)
def quietB(call:CallR2)(ow:Nat→Bool)(ops:List Oper)(sk:Nat→Slots)(hk:Nat→Heap)(vk:Nat→PV)(lt:Nat→Option (Nat × AObj))(br:Nat→Bool):Bool:=
 rng ops.length fun k=>match ops[k]? with
  |none=>true
  |some o=>isW ow wf o||(match wantedB ops (sk k) o with
   |some true=>rng (ops.length+1) fun M=>!(cutB ops br k M)||((M==lastBr br k)&&noSt ops k)||xagain2 P wf call ow o (pev (sk k)) (gx ops lt hk k M (kx ow ops lt k)) (vk k)
   |_=>true)
def xd4(call:CallR2)(ow:Nat→Bool)(n:Nat)(ops:List Oper)(base:Nat)(s:Slots)(q:Option Nat)(h:Heap):Option (Slots × Option Nat × Heap):=
 match xr4 P wf call ow n ops base 0 ops [] s q h with
 |none=>none
 |some (rs,sf,qf,hf)=>if(wwB ow ops (gL rs) (gB rs)&&lateB ow ops base (gH rs hf) (gL rs) (gB rs)&&quietB P wf call ow ops (gS rs sf) (gH rs hf) (gV rs) (gL rs) (gB rs))=true then some (sf,qf,hf)else none
def xc2(call:CallR2)(ow:Nat→Bool)(n:Nat):Nat→Code→Slots→Option Nat→Heap→Option (Exit × Slots × Option Nat × Heap)
 |0,_,_,_,_=>none
 |k+1,c,s,q,h=>match c with
  | .skip=>some (.normal,s,q,h)
  | .region _ ops true => if dOk ow wf ops.toList = true then (xd2 P wf call ow n ops.toList 0 ops.toList [] [] s q h).map (Exit.normal, ·)
    else if dOk2 ow wf ops.toList=true then(xd3 P wf call ow n ops.toList h.next 0 ops.toList [] [] s (mnO q (some h.next)) ⟨h.next+ops.toList.length,h.obj⟩).map (Exit.normal,·)
    else if dOk3 ops.toList=true then(xd4 P wf call ow n ops.toList h.next s (mnO q (some h.next)) ⟨h.next+ops.toList.length,h.obj⟩).map (Exit.normal,·)else none
  | .region _ ops false=>(xl2 P wf call ow n ops.toList ops.toList s q h).map (Exit.normal,·)
  | .seq a b=>match xc2 call ow n k a s q h with
   |some (.normal,s',q',h')=>xc2 call ow n k b s' q' h'
   |r=>r
  | .cond c x y=>match pev s c with
   | .sc (.bool true)=>xc2 call ow n k x s q h
   | .sc (.bool false)=>xc2 call ow n k y s q h
   |_=>none
  | .block id c=>match xc2 call ow n k c s q h with
   |some (.exit id',s',q',h')=>some (if id'=id then .normal else .exit id',s',q',h')
   |r=>r
  | .loop c=>match xc2 call ow n k c s q h with
   |some (.normal,s',q',h')=>xc2 call ow n k (.loop c) s' q' h'
   |r=>r
  | .exit id=>some (.exit id,s,q,h)
  | .ret=>some (.ret,s,q,h)
  |_=>none
def xf2(keep:FuncId→Bool)(m:Nat):Nat→CallR2
  |0,_,_,_=>none
  |k+1,f,args,h=>match ext f args h with
   |some r=>some (r,none,h)
   |none=>match P.funcs[f]? with
    |none=>none
    |some fn=>if hasBody P f=true∧args.length≤fn.ntmps then match fn.body with
        |none=>none
        |some c=>match endS (xc2 P wf (xf2 keep m k) (own f) fn.ntmps m c (slots0 args) none h)with
          |some (s,q,h')=>match resAll P s h' fn.results.toList with
            |none=>none
            |some vs=>if(!(keep f)&&dropB q h.next)=true then(match frzP h' h.next 1000 (resV vs)with
                |some r=>some (r,none,h)
                |none=>some (resV vs,q,h'))else some (resV vs,q,h')
          |none=>none
      else none
end
section
variable {P:Program}{wf:FuncId→Bool}{own:FuncId→Nat→Bool}
def ExtOk2(P:Program)(ext:FuncId→List PV→Heap→Option PV):Prop:= ∀ f args r h,ext f args h=some r→PCall P f args h (fun r' h'=>r'=r∧h'=h)
def CallOk2(P:Program)(call:CallR2):Prop:= ∀ f args h v q h',call f args h=some (v,q,h')→PCall P f args h (fun r h''=>r=v∧h''=h')∧Tch q h h'
theorem xop_ok2{call:CallR2}(hk:CallOk2 P call){ow:Nat→Bool}{o:Oper}{ρ:Operand→PV}{h h':Heap}{v:PV}{q:Option Nat}(hx:xop2 P wf call ow o ρ h=some (v,q,h')):Does P ow o ρ h v h'∧Tch q h h':=by
 unfold xop2 at hx
 unfold Does
 split at hx
 ·rename_i f args hc
  rw[hc]
  exact hk _ _ _ _ _ _ hx
 ·rename_i hc
  rw[hc]
  split at hx
  ·rename_i v1 h1 he
   simp only[Option.some.injEq,Prod.mk.injEq]at hx
   obtain⟨rfl,rfl,rfl⟩:=hx
   refine⟨he,?_⟩
   split
   ·exact eff_tch he
   ·rename_i hw;exact eff_same (by simpa using hw) hc he
  ·simp at hx
theorem xagain_ok2{call:CallR2}(hk:CallOk2 P call){ow:Nat→Bool}{o:Oper}{ρ:Operand→PV}{h:Heap}{v:PV}(hx:xagain2 P wf call ow o ρ h v=true):Does P ow o ρ h v h:=by
 unfold xagain2 at hx
 split at hx
 ·rename_i v' q h' hp
  simp only[Bool.and_eq_true,Option.isNone_iff_eq_none]at hx
  obtain⟨rfl,hx⟩:=hx
  obtain⟨h1,h2⟩:=xop_ok2 hk hp
  simp only[Tch]at h2
  rw[h2,pvEq_eq _ _ hx]at h1
  exact h1
 ·simp at hx
theorem xl_ok2{call:CallR2}(hk:CallOk2 P call){ow:Nat→Bool}{n:Nat}{ops:List Oper}{K:Slots→Heap→Prop}: ∀ (l:List Oper){s s':Slots}{q q':Option Nat}{h h':Heap},xl2 P wf call ow n ops l s q h=some (s',q',h')→
  (K s' h'→lwp P ow n ops l K s h)∧(∀ h0,Tch q h0 h→Tch q' h0 h')
 |[],s,s',q,q',h,h',hx=>by
  simp only[xl2,Option.some.injEq,Prod.mk.injEq]at hx
  obtain⟨rfl,rfl,rfl⟩:=hx
  exact⟨fun hK=>hK,fun h0 hq=>hq⟩
 |o::rest,s,s',q,q',h,h',hx=>by
  unfold xl2 at hx
  split at hx
  ·rename_i hd
   unfold lwp
   split at hx
   ·simp at hx
   ·rename_i hw
    obtain⟨h1,h2⟩:=xl_ok2 hk rest hx
    rw[hw]
    exact⟨fun hK=>⟨hd,by simpa using h1 hK⟩,h2⟩
   ·rename_i hw
    split at hx
    ·rename_i v q1 h1 hp
     obtain⟨d1,d2⟩:=xop_ok2 hk hp
     obtain⟨g1,g2⟩:=xl_ok2 hk rest hx
     rw[hw]
     exact⟨fun hK=>⟨hd,by simpa using d1.owp (g1 hK)⟩,fun h0 hq=>g2 h0 (hq.trans d2)⟩
    ·simp at hx
  ·simp at hx
theorem xd_ok2{call:CallR2}(hk:CallOk2 P call){ow:Nat→Bool}{n:Nat}{ops:List Oper}{K:Slots→Heap→Prop}: ∀ (l:List Oper)(k:Nat){past:List (Nat × Oper × Slots × PV)}{hist:List (Nat × Heap)}{s s':Slots}{q q':Option Nat}{h h':Heap},xd2 P wf call ow n ops k l past hist s q h=some (s',q',h')→
  (K s' h'→drun P ow wf n ops k l (past.map fun x=>(x.1,fun h2=>Does P ow x.2.1 (pev x.2.2.1) h2 x.2.2.2 h2)) hist K s h)∧(∀ h0,Tch q h0 h→Tch q' h0 h')
 |[],k,past,hist,s,s',q,q',h,h',hx=>by
  simp only[xd2,Option.some.injEq,Prod.mk.injEq]at hx
  obtain⟨rfl,rfl,rfl⟩:=hx
  exact⟨fun hK=>hK,fun h0 hq=>hq⟩
 |o::rest,k,past,hist,s,s',q,q',h,h',hx=>by
  unfold xd2 at hx
  split at hx
  ·rename_i hd
   unfold drun
   split at hx
   ·simp at hx
   ·rename_i hw
    obtain⟨h1,h2⟩:=xd_ok2 hk rest (k+1) hx
    rw[hw]
    exact⟨fun hK=>⟨hd,by simpa using h1 hK⟩,h2⟩
   ·rename_i hw
    split at hx
    ·simp at hx
    ·rename_i v q1 h1 hp
     obtain⟨d1,d2⟩:=xop_ok2 hk hp
     rw[hw]
     split at hx
     ·rename_i hiw
      split at hx
      ·rename_i hpast
       obtain⟨g1,g2⟩:=xd_ok2 hk rest (k+1) hx
       refine⟨fun hK=>⟨hd,?_⟩,fun h0 hq=>g2 h0 (hq.trans d2)⟩
       ·simp only[hiw,if_true]
        refine⟨v,h1,d1,?_,g1 hK⟩
        intro x hx1
        obtain⟨y,hy,rfl⟩:=List.mem_map.1 hx1
        have:=List.all_eq_true.1 hpast y hy
        simp only[Bool.or_eq_true]at this
        exact this.imp id (fun t=>xagain_ok2 hk t)
      ·simp at hx
     ·rename_i hiw
      split at hx
      ·rename_i hq1
       split at hx
       ·rename_i hhist
        obtain⟨g1,g2⟩:=xd_ok2 hk rest (k+1) hx
        refine⟨fun hK=>⟨hd,?_⟩,g2⟩
        simp only[hiw,if_true,Bool.false_eq_true,if_false]
        have e1:h1=h:=by rw[Option.isNone_iff_eq_none]at hq1;subst hq1;exact d2
        subst e1
        refine⟨v,d1,?_,g1 hK⟩
        intro x hx1
        have:=List.all_eq_true.1 hhist x hx1
        simp only[Bool.or_eq_true]at this
        exact this.imp id (fun t=>xagain_ok2 hk t)
       ·simp at hx
      ·simp at hx
  ·simp at hx
theorem xopR_ok{call:CallR2}(hk:CallOk2 P call){ow:Nat→Bool}{id:Nat}{o:Oper}{ρ:Operand→PV}{h h':Heap}{v:PV}{q:Option Nat}(hx:xopR P wf call ow id o ρ h=some (v,q,h')):DoesR P ow id o ρ h v h'∧Tch q h h':=by
 unfold xopR at hx
 unfold DoesR
 split at hx
 ·rename_i t hop
  simp only[hop]
  split at hx
  ·rename_i zs hz
   split at hx
   ·rename_i hpos
    simp only[Option.some.injEq,Prod.mk.injEq]at hx
    obtain⟨rfl,rfl,rfl⟩:=hx
    exact⟨⟨zs,hz,hpos,rfl,rfl⟩,tch_set⟩
   ·simp at hx
  ·simp at hx
 ·rename_i hop
  obtain⟨d1,d2⟩:=xop_ok2 hk hx
  refine⟨?_,d2⟩
  split
  ·rename_i t he;exact(hop t he).elim
  ·exact d1
theorem xd_ok3{call:CallR2}(hk:CallOk2 P call){ow:Nat→Bool}{n base:Nat}{ops:List Oper}{K:Slots→Heap→Prop}: ∀ (l:List Oper)(k:Nat){past:List (Nat × Oper × Slots × PV)}{hist:List (Nat × Heap)}{s s':Slots}{q q':Option Nat}{h h':Heap},xd3 P wf call ow n ops base k l past hist s q h=some (s',q',h')→
  (K s' h'→drun2 P ow wf n ops base k l (past.map fun x=>(x.1,fun h2=>Does P ow x.2.1 (pev x.2.2.1) h2 x.2.2.2 h2)) hist K s h)∧(∀ h0,Tch q h0 h→Tch q' h0 h')
 |[],k,past,hist,s,s',q,q',h,h',hx=>by
  simp only[xd3,Option.some.injEq,Prod.mk.injEq]at hx
  obtain⟨rfl,rfl,rfl⟩:=hx
  exact⟨fun hK=>hK,fun h0 hq=>hq⟩
 |o::rest,k,past,hist,s,s',q,q',h,h',hx=>by
  unfold xd3 at hx
  split at hx
  ·rename_i hd
   unfold drun2
   split at hx
   ·simp at hx
   ·rename_i hw
    obtain⟨h1,h2⟩:=xd_ok3 hk rest (k+1) hx
    rw[hw]
    exact⟨fun hK=>⟨hd,by simpa using h1 hK⟩,h2⟩
   ·rename_i hw
    split at hx
    ·simp at hx
    ·rename_i v q1 h1 hp
     obtain⟨d1,d2⟩:=xopR_ok hk hp
     rw[hw]
     split at hx
     ·rename_i hiw
      split at hx
      ·rename_i hpn
       simp only[Bool.and_eq_true]at hpn
       obtain⟨hpast,hnone⟩:=hpn
       obtain⟨g1,g2⟩:=xd_ok3 hk rest (k+1) hx
       refine⟨fun hK=>⟨hd,?_⟩,fun h0 hq=>g2 h0 (hq.trans d2)⟩
       ·simp only[hiw,if_true]
        refine⟨v,h1,d1,fun f hf ha=>?_,?_,g1 hK⟩
        ·have hfl:f<ops.length:=by
          unfold alB at ha
          split at ha
          ·rename_i hq;exact(List.getElem?_eq_some_iff.1 hq).1
          ·simp at ha
         have:=List.all_eq_true.1 hnone f (List.mem_range.2 hfl)
         simpa[hf,ha]using this
        intro x hx1
        obtain⟨y,hy,rfl⟩:=List.mem_map.1 hx1
        have:=List.all_eq_true.1 hpast y hy
        simp only[Bool.or_eq_true]at this
        exact this.imp id (fun t=>xagain_ok2 hk t)
      ·simp at hx
     ·rename_i hiw
      split at hx
      ·rename_i hq1
       split at hx
       ·rename_i hhist
        obtain⟨g1,g2⟩:=xd_ok3 hk rest (k+1) hx
        refine⟨fun hK=>⟨hd,?_⟩,g2⟩
        simp only[hiw,if_true,Bool.false_eq_true,if_false]
        have e1:h1=h:=by rw[Option.isNone_iff_eq_none]at hq1;subst hq1;exact d2
        subst e1
        refine⟨v,(doesR_of (by simpa using hiw)).1 d1,?_,g1 hK⟩
        intro x hx1
        have:=List.all_eq_true.1 hhist x hx1
        simp only[Bool.or_eq_true]at this
        exact this.imp id (fun t=>xagain_ok2 hk t)
       ·simp at hx
      ·simp at hx
  ·simp at hx
theorem rng_iff{n:Nat}{p:Nat→Bool}:rng n p=true↔ ∀ i,i<n→p i=true:=by simp[rng]
structure S4(P:Program)(ow:Nat→Bool)(wf:FuncId→Bool)(n:Nat)(ops:List Oper)(base:Nat)(k:Nat)(o:Oper)(s s':Slots)(h h':Heap)(v:PV)(l:Option (Nat × AObj))(b:Bool)(ls:List (Nat × Nat)):Prop where
 dst:o.dst.all (fun d=>decide (d<n))=true
 ok: ∃ w,wantedB ops s o=some w∧(w=false→s'=updO s o.dst (.sc undef)∧h'=h∧l=none∧b=false)∧
  (w = true → s' = updO s o.dst v ∧
   (isW ow wf o=false→h'=h∧l=none∧b=false∧Does P ow o (pev s) (killL h (killsAt ow ops base k ls)) v (killL h (killsAt ow ops base k ls)))∧
   (isW ow wf o = true →
    (b=true∧l=none∧ ∃ H',Does P ow o (pev s) (killL h (killsAt ow ops base k ls)) v H'∧(∀ id∈killsAt ow ops base k ls,H'.obj id=none)∧h'=putL H' h (killsAt ow ops base k ls)∧ ∀ f∈laterA ow ops k,h.obj (base+f)=none)∨
    (b=false∧isA ow o=true∧ ∃ ob,l=some (base+k,ob)∧aop P ow (base+k) o (pev s)=some (v,ob)∧h'=h.set (base+k) ob)∨
    (b=false∧ ∃ t x y id r f ob,o.op= .store t x y∧pev s x= .ptr id r f∧l=some (id,ob)∧h'=h.set id ob∧eff P (o.dst.any ow) o.op (pev s) h=some (v,h'))))
theorem store_set{t:TypeId}{x y:Operand}{b:Bool}{ρ:Operand→PV}{H H':Heap}{id r f:Nat}{ob:AObj}{v:PV}(hx:ρ x= .ptr id r f)(he:eff P b (.store t x y) ρ H=some (v,H'))(ho:H'.obj id=some ob):H'=H.set id ob:=by
 simp only[eff,Option.bind_eq_some_iff]at he
 obtain⟨m,_,he⟩:=he
 split at he
 ·simp only[Option.map_eq_some_iff,Prod.mk.injEq,hx,wr]at he
  obtain⟨h2,hw,_,rfl⟩:=he
  split at hw
  ·split at hw
   ·split at hw
    ·simp at hw
     subst hw
     simp[Heap.set]at ho
     rw[ho]
    ·simp at hw
   ·simp at hw
  ·simp at hw
 ·simp at he
theorem tch_put{q:Option Nat}{h H':Heap}{l:List Nat}(hn: ∀ id∈l,H'.obj id=none)(ht:Tch q (killL h l) H'):Tch q h (putL H' h l):=by
 cases q with
 |none=>
  simp only[Tch]at ht⊢
  subst ht
  exact putL_killL
 |some m=>
  simp only[Tch]at ht⊢
  refine⟨ht.1,fun id hid=>?_⟩
  have h2:=ht.2 id hid
  simp only[killL]at h2
  simp only[putL]
  by_cases hc:id∈l
  ·have hc':l.contains id=true:=by simpa using hc
   cases ho:h.obj id with
   |none=>simp[hn id hc]
   |some o=>simp[hc]
  ·have hc':l.contains id=false:=by simpa using hc
   rw[if_neg (by simp[hc])]
   rw[hc']at h2
   simpa using h2
theorem x4_ok{call:CallR2}(hk:CallOk2 P call){ow:Nat→Bool}{n:Nat}{ops:List Oper}{base k:Nat}{ls:List (Nat × Nat)}{o:Oper}{s:Slots}{h h':Heap}{v:PV}{q:Option Nat}{l:Option (Nat × AObj)}{b:Bool}(hd:o.dst.all (fun d=>decide (d<n))=true)(hw:wantedB ops s o=some true)(hx:x4 P wf call ow ops base k ls o s h=some (v,q,h',l,b)):
  S4 P ow wf n ops base k o s (updO s o.dst v) h h' v l b ls∧Tch q h h':=by
 unfold x4 at hx
 split at hx
 ·rename_i hiw
  split at hx
  ·rename_i hA
   split at hx
   ·rename_i v1 ob ha
    simp only[Option.some.injEq,Prod.mk.injEq]at hx
    obtain⟨rfl,rfl,rfl,rfl,rfl⟩:=hx
    exact⟨⟨hd,true,hw,(fun hc=>by cases hc),fun _=>⟨rfl,(fun hc=>by rw[hiw]at hc;cases hc),fun _=> .inr (.inl ⟨rfl,hA,ob,rfl,ha,rfl⟩)⟩⟩,tch_set⟩
   ·simp at hx
  ·split at hx
   ·rename_i t x y hop
    split at hx
    ·rename_i id r f hp
     split at hx
     ·rename_i v1 h1 he
      split at hx
      ·rename_i ob hob
       simp only[Option.some.injEq,Prod.mk.injEq]at hx
       obtain⟨rfl,rfl,rfl,rfl,rfl⟩:=hx
       have hs:=store_set hp he hob
       refine⟨⟨hd,true,hw,(fun hc=>by cases hc),fun _=>⟨rfl,(fun hc=>by rw[hiw]at hc;cases hc),fun _=> .inr (.inr ⟨rfl,t,x,y,id,r,f,ob,hop,hp,rfl,rfl,?_⟩)⟩⟩,tch_set⟩
       rw[hop,he,hs]
      ·simp at hx
     ·simp at hx
    ·simp at hx
   ·split at hx
    ·rename_i v1 q1 h1 hp
     split at hx
     ·rename_i hno
      simp only[Bool.and_eq_true,List.all_eq_true,Option.isNone_iff_eq_none]at hno
      simp only[Option.some.injEq,Prod.mk.injEq]at hx
      obtain⟨rfl,rfl,rfl,rfl,rfl⟩:=hx
      obtain⟨d1,d2⟩:=xop_ok2 hk hp
      exact⟨⟨hd,true,hw,(fun hc=>by cases hc),fun _=>⟨rfl,(fun hc=>by rw[hiw]at hc;cases hc),fun _=> .inl ⟨rfl,rfl,h1,d1,hno.1,rfl,hno.2⟩⟩⟩,tch_put hno.1 d2⟩
     ·simp at hx
    ·simp at hx
 ·rename_i hiw
  split at hx
  ·rename_i v1 q1 h1 hp
   split at hx
   ·rename_i hq
    simp only[Option.some.injEq,Prod.mk.injEq]at hx
    obtain⟨rfl,rfl,rfl,rfl,rfl⟩:=hx
    obtain⟨d1,d2⟩:=xop_ok2 hk hp
    rw[Option.isNone_iff_eq_none]at hq
    subst hq
    simp only[Tch]at d2
    subst d2
    exact⟨⟨hd,true,hw,(fun hc=>by cases hc),fun _=>⟨rfl,fun _=>⟨rfl,rfl,rfl,d1⟩,fun hc=>by rw[hc]at hiw;simp at hiw⟩⟩,rfl⟩
   ·simp at hx
  ·simp at hx
def lsAt(rs:List Rc):Nat→List (Nat × Nat)→Nat→List (Nat × Nat)
 |_,ls,0=>ls
 |k,ls,i+1=>match rs with
  |r::rs=>lsAt rs (k+1) (addL k r.l ls) i
  |[]=>ls
theorem lsAt_mem: ∀ (rs:List Rc)(k:Nat)(ls:List (Nat × Nat))(i f:Nat)(q:Nat × AObj),i≤rs.length→f<i→gL rs f=some q→(k+f,q.1)∈lsAt rs k ls i:=by
 have keep: ∀ (rs:List Rc)(k:Nat)(ls:List (Nat × Nat))(i:Nat)(x:Nat × Nat),x∈ls→x∈lsAt rs k ls i:=by
  intro rs
  induction rs with
  |nil=>intro k ls i x hx;cases i<;>simpa only[lsAt]using hx
  |cons r rs ih=>
   intro k ls i x hx
   cases i with
   |zero=>simpa only[lsAt]using hx
   |succ i=>
    simp only[lsAt]
    refine ih _ _ _ _ ?_
    unfold addL
    split
    ·simp [hx]
    ·exact hx
 intro rs
 induction rs with
 |nil=>intro k ls i f q h1 h2 _;simp at h1;omega
 |cons r rs ih=>
  intro k ls i f q h1 h2 h3
  cases i with
  |zero=>omega
  |succ i=>
   simp only[lsAt]
   cases f with
   |zero=>
    refine keep _ _ _ _ _ ?_
    simp only[gL,List.getElem?_cons_zero]at h3
    unfold addL
    rw[h3]
    simp
   |succ f=>
    have:=ih (k+1) (addL k r.l ls) i f q (by simp at h1;omega) (by omega) (by simpa only[gL,List.getElem?_cons_succ]using h3)
    rw[show k+(f+1)=k+1+f by omega]
    exact this
theorem lsAt_inv: ∀ (rs:List Rc)(k:Nat)(ls:List (Nat × Nat))(i:Nat)(x:Nat × Nat),x∈lsAt rs k ls i→x∈ls∨ ∃ f q,f<i∧gL rs f=some q∧x=(k+f,q.1)
 |rs,k,ls,0,x,h=>by
  unfold lsAt at h
  exact .inl h
 |[],k,ls,i+1,x,h=>by
  simp only[lsAt]at h
  exact .inl h
 |r::rs,k,ls,i+1,x,h=>by
  simp only[lsAt]at h
  rcases lsAt_inv rs (k+1) _ i x h with h1|⟨f,q,h1,h2,h3⟩
  ·unfold addL at h1
   cases hl:r.l with
   |none=>rw[hl]at h1;exact .inl h1
   |some p=>
    rw[hl]at h1
    simp only[List.mem_cons]at h1
    rcases h1 with h1|h1
    ·exact .inr ⟨0,p,by omega,by simp only[gL,List.getElem?_cons_zero];exact hl,h1⟩
    ·exact .inl h1
  ·exact .inr ⟨f+1,q,by omega,by simpa only[gL,List.getElem?_cons_succ]using h2,by rw[h3];congr 1;omega⟩
theorem xr4_ok{call:CallR2}(hk:CallOk2 P call){ow:Nat→Bool}{n:Nat}{ops:List Oper}{base:Nat}: ∀ (l:List Oper)(k:Nat){ls:List (Nat × Nat)}{s sf:Slots}{q qf:Option Nat}{h hf:Heap}{rs:List Rc},xr4 P wf call ow n ops base k l ls s q h=some (rs,sf,qf,hf)→
  rs.length=l.length∧gS rs sf 0=s∧gH rs hf 0=h∧(∀ h0,Tch q h0 h→Tch qf h0 hf)∧
   ∀ i o,l[i]? =some o→S4 P ow wf n ops base (k+i) o (gS rs sf i) (gS rs sf (i+1)) (gH rs hf i) (gH rs hf (i+1)) (gV rs i) (gL rs i) (gB rs i) (lsAt rs k ls i)
 |[],k,ls,s,sf,q,qf,h,hf,rs,hx=>by
  simp only[xr4,Option.some.injEq,Prod.mk.injEq]at hx
  obtain⟨rfl,rfl,rfl,rfl⟩:=hx
  exact⟨rfl,rfl,rfl,fun _ hq=>hq,fun i o ho=>by simp at ho⟩
 |o::rest,k,ls,s,sf,q,qf,h,hf,rs,hx=>by
  unfold xr4 at hx
  split at hx
  case isFalse=>simp at hx
  rename_i hd
  have fin: ∀ (v:PV)(q':Option Nat)(h':Heap)(l:Option (Nat × AObj))(b:Bool)(s':Slots)(rs':List Rc),rs=⟨s,h,v,l,b⟩::rs'→xr4 P wf call ow n ops base (k+1) rest (addL k l ls) s' (mnO q q') h'=some (rs',sf,qf,hf)→S4 P ow wf n ops base k o s s' h h' v l b ls→Tch q' h h'→
    rs.length=(o::rest).length∧gS rs sf 0=s∧gH rs hf 0=h∧(∀ h0,Tch q h0 h→Tch qf h0 hf)∧
     ∀ i o',(o::rest)[i]? =some o'→S4 P ow wf n ops base (k+i) o' (gS rs sf i) (gS rs sf (i+1)) (gH rs hf i) (gH rs hf (i+1)) (gV rs i) (gL rs i) (gB rs i) (lsAt rs k ls i):=by
   intro v q' h' l b s' rs' hrs hrec hS ht
   obtain⟨g1,g2,g3,g4,g5⟩:=xr4_ok hk rest (k+1) hrec
   subst hrs
   refine⟨by simp[g1],rfl,rfl,fun h0 hq=>g4 h0 (hq.trans ht),fun i o' ho'=>?_⟩
   cases i with
   |zero=>
    simp at ho'
    subst ho'
    have e1:gS (⟨s,h,v,l,b⟩::rs') sf (0+1)=s':=g2
    have e2:gH (⟨s,h,v,l,b⟩::rs') hf (0+1)=h':=g3
    rw[e1,e2]
    exact hS
   |succ i=>
    have:=g5 i o' (by simpa using ho')
    rw[show k+(i+1)=k+1+i by omega]
    exact this
  split at hx
  ·simp at hx
  ·rename_i hw
   simp only[Option.map_eq_some_iff]at hx
   obtain⟨⟨rs',sf',qf',hf'⟩,hrec,he⟩:=hx
   simp only[Prod.mk.injEq]at he
   obtain⟨h1,rfl,rfl,rfl⟩:=he
   refine fin .emp none h none false _ rs' h1.symm (by
    have:mnO q none=q:=by cases q<;>rfl
    rw[this];exact hrec) ⟨hd,false,hw,(fun _=>⟨rfl,rfl,rfl,rfl⟩),fun hc=>by cases hc⟩ rfl
  ·rename_i hw
   split at hx
   ·simp at hx
   ·rename_i v q' h' l b hx4
    simp only[Option.map_eq_some_iff]at hx
    obtain⟨⟨rs',sf',qf',hf'⟩,hrec,he⟩:=hx
    simp only[Prod.mk.injEq]at he
    obtain⟨h1,rfl,rfl,rfl⟩:=he
    obtain⟨t1,t2⟩:=x4_ok hk hd hw hx4
    exact fin v q' h' l b _ rs' h1.symm hrec t1 t2
theorem xd4_ok{call:CallR2}(hk:CallOk2 P call){ow:Nat→Bool}{n:Nat}{ops:List Oper}{s sf:Slots}{q qf:Option Nat}{h hf:Heap}(hpre: ∀ i j,j<ops.length→pre ops i j=true→i<j)(hx:xd4 P wf call ow n ops h.next s q ⟨h.next+ops.length,h.obj⟩=some (sf,qf,hf)):
  (∀ K:Slots→Heap→Prop,K sf hf→ ∃ sk hk vk lt br,sk 0=s∧hk 0=⟨h.next+ops.length,h.obj⟩∧K (sk ops.length) (hk ops.length)∧Facts P ow wf n ops h.next sk hk vk lt br)∧(∀ h0,Tch q h0 ⟨h.next+ops.length,h.obj⟩→Tch qf h0 hf):=by
 unfold xd4 at hx
 split at hx
 ·simp at hx
 rename_i rs sf' qf' hf' hr
 split at hx
 case isFalse=>simp at hx
 rename_i hc
 simp only[Option.some.injEq,Prod.mk.injEq]at hx
 obtain⟨rfl,rfl,rfl⟩:=hx
 simp only[Bool.and_eq_true]at hc
 obtain⟨⟨hww,hlate⟩,hquiet⟩:=hc
 obtain⟨hlen,g2,g3,g4,g5⟩:=xr4_ok hk ops 0 hr
 refine⟨fun K hK=>⟨gS rs sf',gH rs hf',gV rs,gL rs,gB rs,g2,g3,?_,?_⟩,g4⟩
 ·have e1:gS rs sf' ops.length=sf':=by unfold gS;rw[List.getElem?_eq_none (by omega)]
  have e2:gH rs hf' ops.length=hf':=by unfold gH;rw[List.getElem?_eq_none (by omega)]
  rw[e1,e2];exact hK
 ·have late: ∀ j f o,j<ops.length→(gB rs j||(gL rs j).isSome)=true→j<f→ops[f]? =some o→isA ow o=true→(if gB rs j=true then((gH rs hf' (j+1)).obj (h.next+f)).isNone else match gL rs j with|some p=>!(h.next+f==p.1)|none=>true)=true:=by
   intro j f o hj hb hjf ho ha
   have h1:=rng_iff.1 hlate j hj
   rw[hb]at h1
   simp only[Bool.not_true,Bool.false_or]at h1
   have h2:=rng_iff.1 h1 f (List.getElem?_eq_some_iff.1 ho).1
   have h3:(decide (j<f)&&(ops[f]?).any (isA ow))=true:=by rw[ho];simp[hjf,ha]
   rw[h3]at h2
   simpa using h2
  have segA: ∀ (M d:Nat),M+d≤ops.length→(∀ j,M≤j→j<M+d→gB rs j=false)→gH rs hf' (M+d)=lob (gL rs) (fun f=>decide (M≤f)) (gH rs hf' M) (M+d):=by
   intro M d
   induction d with
   |zero=>
    intro _ _
    have:=lob_hi (lt:=gL rs) (p:=fun f=>decide (M≤f)) (H:=gH rs hf' M) (m:=0) M (fun f _ hf _=>by simp;omega)
    rw[Nat.zero_add]at this
    rw[Nat.add_zero,this];try rfl
   |succ d ih=>
    intro h1 h2
    have ih:=ih (by omega) (fun j a b=>h2 j a (by omega))
    have hS:=g5 (M+d) ops[M+d] (List.getElem?_eq_getElem (by omega))
    have hb:=h2 (M+d) (by omega) (by omega)
    obtain⟨w,_,k1,k2⟩:=hS.ok
    rw[show M+(d+1)=M+d+1 by omega,lob_succ]
    have key:gH rs hf' (M+d+1)=match gL rs (M+d)with|some q=>(gH rs hf' (M+d)).set q.1 q.2|none=>gH rs hf' (M+d):=by
     cases w with
     |false=>rw[(k1 rfl).2.2.1];exact(k1 rfl).2.1
     |true=>
      cases hiw:isW ow wf ops[M+d]with
      |false=>rw[((k2 rfl).2.1 hiw).2.1];exact((k2 rfl).2.1 hiw).1
      |true=>
       rcases(k2 rfl).2.2 hiw with k3|k3|k3
       ·rw [k3.1]at hb;simp at hb
       ·obtain ⟨_,_,ob,k4,_,k5⟩:=k3
        rw[k4];simpa using k5
       ·obtain ⟨_,_,_,_,_,_,_,ob,_,_,k4,k5,_⟩:=k3
        rw[k4];exact k5
    rw[key]
    cases hl:gL rs (M+d)with
    |none=>simp only;exact ih
    |some q=>simp only[show decide (M≤M+d)=true by simp,if_true];rw[ih]
  have wwP: ∀ i j,i<j→j<ops.length→(gB rs i=true∨(gL rs i).isSome=true)→(gB rs j=true∨(gL rs j).isSome=true)→
    pre ops i j=true∨(∃ p q,gL rs i=some p∧gL rs j=some q∧p.1≠q.1)∨(gB rs i=true∧(gL rs j).isSome=true∧ ∃ o,ops[j]? =some o∧isA ow o=true)∨((gL rs i).isSome=true∧gB rs j=true∧ ∃ o,ops[i]? =some o∧isA ow o=true):=by
   intro i j hij hj hi hj2
   have h1:=rng_iff.1 hww j hj
   have hj3:(gB rs j||(gL rs j).isSome)=true:=by simpa using hj2
   have hi3:(gB rs i||(gL rs i).isSome)=true:=by simpa using hi
   rw[hj3]at h1
   simp only[Bool.not_true,Bool.false_or]at h1
   have h2:=rng_iff.1 h1 i hij
   rw[hi3]at h2
   simp only[Bool.not_true,Bool.false_or,Bool.or_eq_true]at h2
   rcases h2 with((h2|h2)|h2)|h2
   ·exact .inl h2
   ·right;left
    split at h2
    ·rename_i p q e1 e2
     exact⟨p,q,e1,e2,by simpa using h2⟩
    ·simp at h2
   ·simp only[Bool.and_eq_true]at h2
    refine .inr (.inr (.inl ⟨h2.1.1,h2.1.2,ops[j],List.getElem?_eq_getElem hj,?_⟩))
    have:=h2.2
    rw[List.getElem?_eq_getElem hj]at this
    simpa using this
   ·simp only[Bool.and_eq_true]at h2
    refine .inr (.inr (.inr ⟨h2.1.1,h2.1.2,ops[i],List.getElem?_eq_getElem (by omega),?_⟩))
    have:=h2.2
    rw[List.getElem?_eq_getElem (by omega)]at this
    simpa using this
  have kxL: ∀ j,j<ops.length→(∀ f p,j<f→(hf:f<ops.length)→gL rs f=some p→isA ow ops[f]=false→pre ops j f=true)→ ∀ id∈kx ow ops (gL rs) j,id∈killsAt ow ops h.next j (lsAt rs 0 [] j):=by
   intro j hjl hst id hid
   obtain⟨f,p,m1,m2,m3,m4,m5,m6⟩:=kx_mem hid
   unfold killsAt
   rw[List.mem_append]
   rcases Nat.lt_trichotomy f j with m7|m7|m7
   ·left
    rw[List.mem_filterMap]
    have:=lsAt_mem rs 0 [] j f p (by omega) m7 m5
    rw[Nat.zero_add]at this
    have hjf:pre ops j f=false:=by
     cases hpp:pre ops j f with
     |false=>rfl
     |true=>have:=hpre j f m1 hpp;omega
    exact⟨_,this,by simp[unoB,m2,m3,hjf,m6]⟩
   ·exact (m2 m7.symm).elim
   ·right
    have hSf:=g5 f ops[f] (List.getElem?_eq_getElem m1)
    rw[Nat.zero_add]at hSf
    have fA:isA ow ops[f]=true:=by
     cases hA:isA ow ops[f]with
     |true=>rfl
     |false=>
      rcases m4 with m4|m4
      ·rw [hst f p m7 m1 m5 hA]at m4;simp at m4
      ·rw [hA]at m4;simp at m4
    obtain⟨wf',_,f1,f2⟩:=hSf.ok
    cases wf' with
    |false=>rw[(f1 rfl).2.2.1]at m5;simp at m5
    |true=>
     cases hiwf:isW ow wf ops[f]with
     |false=>rw[((f2 rfl).2.1 hiwf).2.1]at m5;simp at m5
     |true=>
      rcases(f2 rfl).2.2 hiwf with f3|f3|f3
      ·rw [f3.2.1]at m5;simp at m5
      ·obtain ⟨_,_,ob,f4,_⟩:=f3
       rw[f4]at m5
       simp at m5
       rw[List.mem_map]
       refine⟨f,?_,by rw[← m6, ← m5]⟩
       unfold laterA
       rw[List.mem_filter]
       exact⟨List.mem_range.2 m1,by rw[List.getElem?_eq_getElem m1];simp[m7,fA]⟩
      ·obtain ⟨_,_,_,_,_,_,_,_,f4,_⟩:=f3
       unfold isA at fA;rw[f4]at fA;simp at fA
  refine⟨fun j o ho=>?_,fun i j hij hj hi hj2=>?_⟩
  ·have hS:=g5 j o ho
   rw[Nat.zero_add]at hS
   have hjl:j<ops.length:=(List.getElem?_eq_some_iff.1 ho).1
   obtain⟨w,k0,k1,k2⟩:=hS.ok
   refine⟨hS.dst,w,k0,k1,fun hw=>?_⟩
   obtain⟨k3,k4,k5⟩:=k2 hw
   refine⟨k3,fun hiw=>?_,fun hiw=>?_⟩
   ·obtain ⟨t1,t2,t3,t4⟩:=k4 hiw
    refine⟨t1,t2,t3,fun M hM=>?_⟩
    have hq:=rng_iff.1 hquiet j hjl
    rw[ho]at hq
    simp only[hiw,Bool.false_or]at hq
    rw[hw]at k0
    rw[k0]at hq
    simp only at hq
    have hq2:=rng_iff.1 hq M (by have:=hM.1;omega)
    have hcut:cutB ops (gB rs) j M=true:=by
     unfold cutB
     simp only[Bool.and_eq_true,Bool.or_eq_true,beq_iff_eq]
     refine⟨hM.2.2.2,rng_iff.2 fun b hb=>?_⟩
     cases hbb:gB rs b with
     |false=>rfl
     |true=>
      simp only[Bool.not_true,Bool.false_or]
      split
      ·rename_i hbm;rw[hM.2.1 b hbm hbb];try rfl
      ·rename_i hbm;rw[hM.2.2.1 b (by omega) hbb];try rfl
    rw[hcut]at hq2
    simp only[Bool.not_true,Bool.false_or,Bool.or_eq_true]at hq2
    rcases hq2 with hq2|hq2
    ·simp only[Bool.and_eq_true,beq_iff_eq]at hq2
     obtain⟨hMl,hns⟩:=hq2
     refine⟨killsAt ow ops h.next j (lsAt rs 0 [] j),kxL j hjl (fun f p m1 m2 m3 m4=>?_),?_⟩
     ·have hSf:=g5 f ops[f] (List.getElem?_eq_getElem m2)
      obtain⟨wf',_,f1,f2⟩:=hSf.ok
      cases wf' with
      |false=>rw[(f1 rfl).2.2.1]at m3;simp at m3
      |true=>
       cases hiwf:isW ow wf ops[f]with
       |false=>rw[((f2 rfl).2.1 hiwf).2.1]at m3;simp at m3
       |true=>
        rcases(f2 rfl).2.2 hiwf with f3|f3|f3
        ·rw [f3.2.1]at m3;simp at m3
        ·obtain ⟨_,fA,_⟩:=f3
         rw[fA]at m4;simp at m4
        ·obtain ⟨_,_,_,_,_,_,_,_,f4,_⟩:=f3
         have:=rng_iff.1 hns f m2
         rw[List.getElem?_eq_getElem m2]at this
         simp[m1,isSt,f4,unoB,show ¬ j=f by omega]at this
         cases hpp:pre ops f j with
         |true=>have:=hpre f j hjl hpp;omega
         |false=>exact this.resolve_right (by rw[hpp];simp)
     ·-- the heap at k, with what stands apart hidden
      have hMj:M≤j:=by rw[hMl];exact(lastOf_spec _ _).1
      have hnb: ∀ b,M≤b→b<M+(j-M)→gB rs b=false:=by
       intro b b1 b2
       have:=(lastOf_spec (gB rs) j).2.2 b (by rw[hMl]at b1;exact b1) (by omega)
       simpa using this
      have hseg:=segA M (j-M) (by omega) hnb
      rw[show M+(j-M)=j by omega]at hseg
      have hgx:gx ops (gL rs) (gH rs hf') j M (killsAt ow ops h.next j (lsAt rs 0 [] j))=killL (gH rs hf' j) (killsAt ow ops h.next j (lsAt rs 0 [] j)):=by
       unfold gx
       obtain⟨d,hdd⟩: ∃ d,ops.length=j+d:=⟨ops.length-j,by omega⟩
       have h2:gH rs hf' j=lob (gL rs) (fun f=>decide (M≤f)&&decide (f<j)) (gH rs hf' M) ops.length:=by
        rw[hseg,hdd,lob_hi d (fun f a _ _=>by simp;omega)]
        exact lob_congr _ fun f hf _=>by simp[hf]
       rw[h2]
       refine lob_kill _ fun f p hf hl=>?_
       by_cases hMf:M≤f
       ·simp only[hMf,decide_true,Bool.true_and]
        cases hp:pre ops f j with
        |true=>
         rcases Nat.lt_or_ge f j with m7|m7
         ·left;simp[m7]
         ·right
          -- it stands behind and before: looked at as apart only when it is; else nothing is noted
          exact absurd hp (by
           have:=hpre f j hjl hp
           omega)
        |false=>
         rcases Nat.lt_or_ge f j with m7|m7
         ·right
          unfold killsAt
          rw[List.mem_append]
          left
          rw[List.mem_filterMap]
          have hm:=lsAt_mem rs 0 [] j f p (by omega) m7 hl
          rw[Nat.zero_add]at hm
          have hjf:pre ops j f=false:=by
           cases hpp:pre ops j f with
           |false=>rfl
           |true=>have:=hpre j f hf hpp;omega
          exact⟨_,hm,by simp[unoB,hp,hjf,show ¬ j=f by omega]⟩
         ·left;simp;omega
       ·left;simp[hMf]
      rw[hgx]
      exact t4
    ·exact ⟨kx ow ops (gL rs) j,fun id hid=>hid,xagain_ok2 hk hq2⟩
   ·rcases k5 hiw with⟨t1,t2,H',t3,t4,t5,t6⟩|⟨t1,t2,t3⟩|⟨t1,t,x,y,id,r,f,ob,u1,u2,u3,u4,u5⟩
    ·have hkL: ∀ id∈kx ow ops (gL rs) j,id∈killsAt ow ops h.next j (lsAt rs 0 [] j):=kxL j hjl (fun f p m1 m2 m3 m4=>by
      rcases wwP j f m1 m2 (.inl t1) (.inr (by rw[m3];try rfl))with h5|⟨_,_,h5,_⟩|⟨_,_,o2,h5,h6⟩|⟨h5,_⟩
      ·exact h5
      ·rw [t2]at h5;simp at h5
      ·rw [List.getElem?_eq_getElem m2]at h5;simp at h5;rw[h5,h6]at m4;simp at m4
      ·rw [t2]at h5;simp at h5)
     have hLk: ∀ id∈killsAt ow ops h.next j (lsAt rs 0 [] j),id∈kx ow ops (gL rs) j∨(gH rs hf' j).obj id=none:=fun id hid=>by
      unfold killsAt at hid
      rw[List.mem_append]at hid
      rcases hid with hid|hid
      ·rw [List.mem_filterMap]at hid
       obtain⟨x,m1,m2⟩:=hid
       rcases lsAt_inv _ _ _ _ _ m1 with m3|⟨f,p,m3,m4,rfl⟩
       ·simp at m3
       ·left
        split at m2
        ·rename_i hu
         simp at m2
         simp[unoB]at hu
         rw[← m2]
         exact mem_kx (show f<ops.length by omega) hu.1.1 hu.2 (.inl hu.1.2) m4
        ·simp at m2
      ·rw [List.mem_map]at hid
       obtain⟨f,m1,rfl⟩:=hid
       exact .inr (t6 f m1)
     have eK:killL (gH rs hf' j) (kx ow ops (gL rs) j)=killL (gH rs hf' j) (killsAt ow ops h.next j (lsAt rs 0 [] j)):=heap_ext rfl fun id=>by
      simp only[killL]
      by_cases m1:id∈kx ow ops (gL rs) j
      ·simp [m1,hkL id m1]
      ·by_cases m2:id∈killsAt ow ops h.next j (lsAt rs 0 [] j)
       ·have:=(hLk id m2).resolve_left m1
        simp[m1,m2,this]
       ·simp [m1,m2]
     have eP:putL H' (gH rs hf' j) (kx ow ops (gL rs) j)=putL H' (gH rs hf' j) (killsAt ow ops h.next j (lsAt rs 0 [] j)):=heap_ext rfl fun id=>by
      simp only[putL]
      by_cases m1:id∈kx ow ops (gL rs) j
      ·simp [m1,hkL id m1]
      ·by_cases m2:id∈killsAt ow ops h.next j (lsAt rs 0 [] j)
       ·have:=(hLk id m2).resolve_left m1
        simp[m1,m2,this]
       ·simp [m1,m2]
     refine .inl ⟨t1,t2,⟨H',by rw[eK];exact t3,fun id hid=>t4 id (hkL id hid),by rw[eP];exact t5⟩,fun f q hjf hq ha=>?_⟩
     have:=late j f q hjl (by simp[t1]) hjf hq ha
     rw[if_pos t1]at this
     simpa using this
    ·exact .inr (.inl ⟨t1,t2,t3⟩)
    ·refine .inr (.inr ⟨t1,t,x,y,id,r,f,ob,u1,u2,u3,u4,fun f' q hjf hq ha=>?_,u5⟩)
     have:=late j f' q hjl (by simp[u3]) hjf hq ha
     rw[if_neg (by simp[t1]),u3]at this
     simpa using this
  ·exact wwP i j hij hj hi hj2
theorem xc_ok2{call:CallR2}(hk:CallOk2 P call){ow:Nat→Bool}{n:Nat}: ∀ (m:Nat)(c:Code){s s':Slots}{q q':Option Nat}{h h':Heap}{e:Exit},xc2 P wf call ow n m c s q h=some (e,s',q',h')→
  (∀ Q:Post,Q e s' h'→awp P ow wf n c Q s h)∧(∀ h0,Tch q h0 h→Tch q' h0 h')
 |0,c,s,s',q,q',h,h',e,hx=>by simp[xc2]at hx
 |m+1,c,s,s',q,q',h,h',e,hx=>by
  unfold xc2 at hx
  split at hx
  ·simp only[Option.some.injEq,Prod.mk.injEq]at hx
   obtain⟨rfl,rfl,rfl,rfl⟩:=hx
   exact⟨fun Q hQ=>by simpa only[awp]using hQ,fun h0 hq=>hq⟩
  ·rename_i id ops
   split at hx
   ·rename_i hdo
    simp only[Option.map_eq_some_iff,Prod.mk.injEq]at hx
    obtain⟨⟨s1,q1,h1⟩,hx,rfl,rfl,rfl,rfl⟩:=hx
    have:=fun(Q:Post)=>xd_ok2 (K:=Q .normal) hk _ _ hx
    exact⟨fun Q hQ=>by simp only[awp,if_true];exact⟨_,_,.refl,.inl ⟨hdo,(this Q).1 hQ⟩⟩,(this (fun _ _ _=>True)).2⟩
   ·split at hx
    ·rename_i hdo
     simp only[Option.map_eq_some_iff,Prod.mk.injEq]at hx
     obtain⟨⟨s1,q1,h1⟩,hx,rfl,rfl,rfl,rfl⟩:=hx
     have:=fun(Q:Post)=>xd_ok3 (K:=Q .normal) hk _ _ hx
     refine⟨fun Q hQ=>by simp only[awp,if_true];exact⟨_,_,.refl,.inr (.inl ⟨hdo,(this Q).1 hQ⟩)⟩,fun h0 hq=>(this (fun _ _ _=>True)).2 h0 (hq.trans ?_)⟩
     exact⟨Nat.le_add_right _ _,fun _ _=>rfl⟩
    ·split at hx
     ·rename_i hdo
      simp only[Option.map_eq_some_iff,Prod.mk.injEq]at hx
      obtain⟨⟨s1,q1,h1⟩,hx,rfl,rfl,rfl,rfl⟩:=hx
      obtain⟨t1,t2⟩:=xd4_ok hk (fun i j hj hp=>pre_lt3 (DOk3.of hdo) j i hj hp) hx
      refine⟨fun Q hQ=>by simp only[awp,if_true];exact⟨_,_,.refl,.inr (.inr ⟨hdo,t1 (Q .normal) hQ⟩)⟩,fun h0 hq=>t2 h0 (hq.trans ?_)⟩
      exact⟨Nat.le_add_right _ _,fun _ _=>rfl⟩
     ·simp at hx
  ·rename_i id ops
   simp only[Option.map_eq_some_iff,Prod.mk.injEq]at hx
   obtain⟨⟨s1,q1,h1⟩,hx,rfl,rfl,rfl,rfl⟩:=hx
   have:=fun(Q:Post)=>xl_ok2 (K:=Q .normal) hk _ hx
   exact⟨fun Q hQ=>by simp only[awp,Bool.false_eq_true,if_false];exact⟨_,_,.refl,(this Q).1 hQ⟩,(this (fun _ _ _=>True)).2⟩
  ·rename_i a b
   split at hx
   ·rename_i s1 q1 h1 ha
    obtain⟨a1,a2⟩:=xc_ok2 hk m a ha
    obtain⟨b1,b2⟩:=xc_ok2 hk m b hx
    exact⟨fun Q hQ=>by simp only[awp];exact a1 _ (b1 Q hQ),fun h0 hq=>b2 h0 (a2 h0 hq)⟩
   ·rename_i hne
    obtain⟨a1,a2⟩:=xc_ok2 hk m a hx
    refine⟨fun Q hQ=>?_,a2⟩
    simp only[awp]
    refine a1 _ ?_
    cases e<;>simp only[Post.seq]<;>first|exact hQ|exact(hne _ _ _ hx).elim
  ·rename_i c x y
   split at hx
   ·rename_i hc
    obtain⟨a1,a2⟩:=xc_ok2 hk m x hx
    exact⟨fun Q hQ=>by simp only[awp,hc,if_true];exact a1 Q hQ,a2⟩
   ·rename_i hc
    obtain⟨a1,a2⟩:=xc_ok2 hk m y hx
    exact⟨fun Q hQ=>by simp only[awp,hc,Bool.false_eq_true,if_false];exact a1 Q hQ,a2⟩
   ·simp at hx
  ·rename_i id c
   split at hx
   ·rename_i id' s1 q1 h1 ha
    obtain⟨a1,a2⟩:=xc_ok2 hk m c ha
    simp only[Option.some.injEq,Prod.mk.injEq]at hx
    obtain⟨rfl,rfl,rfl,rfl⟩:=hx
    refine⟨fun Q hQ=>?_,a2⟩
    simp only[awp]
    refine a1 _ ?_
    simp only[Post.block]
    split<;>rename_i hid<;>simpa only[hid,if_true,if_false]using hQ
   ·rename_i hne
    obtain⟨a1,a2⟩:=xc_ok2 hk m c hx
    refine⟨fun Q hQ=>?_,a2⟩
    simp only[awp]
    refine a1 _ ?_
    cases e<;>simp only[Post.block]<;>first|exact hQ|exact(hne _ _ _ _ hx).elim
  ·rename_i c
   split at hx
   ·rename_i s1 q1 h1 ha
    obtain⟨a1,a2⟩:=xc_ok2 hk m c ha
    obtain⟨b1,b2⟩:=xc_ok2 hk m (.loop c) hx
    refine⟨fun Q hQ=>?_,fun h0 hq=>b2 h0 (a2 h0 hq)⟩
    have:=b1 Q hQ
    simp only[awp]at this⊢
    obtain⟨j,hj⟩:=this
    exact⟨j+1,a1 _ hj⟩
   ·rename_i hne
    obtain⟨a1,a2⟩:=xc_ok2 hk m c hx
    refine⟨fun Q hQ=>?_,a2⟩
    simp only[awp]
    refine⟨1,a1 _ ?_⟩
    cases e<;>simp only[Post.seq]<;>first|exact hQ|exact(hne _ _ _ hx).elim
  ·simp only[Option.some.injEq,Prod.mk.injEq]at hx
   obtain⟨rfl,rfl,rfl,rfl⟩:=hx
   exact⟨fun Q hQ=>by simpa only[awp]using hQ,fun h0 hq=>hq⟩
  ·simp only[Option.some.injEq,Prod.mk.injEq]at hx
   obtain⟨rfl,rfl,rfl,rfl⟩:=hx
   exact⟨fun Q hQ=>by simpa only[awp]using hQ,fun h0 hq=>hq⟩
  ·simp at hx
theorem xf_ok2(hm:P.follows .mixedOrders=true){ext:FuncId→List PV→Heap→Option PV}(hext:ExtOk2 P ext){keep:FuncId→Bool}{m:Nat}: ∀ k,CallOk2 P (xf2 P wf own ext keep m k)
 |0,f,args,h,v,q,h',hx=>by simp[xf2]at hx
 |k+1,f,args,h,v,q,h',hx=>by
  unfold xf2 at hx
  split at hx
  ·rename_i r hr
   simp only[Option.some.injEq,Prod.mk.injEq]at hx
   obtain⟨rfl,rfl,rfl⟩:=hx
   exact⟨hext _ _ _ _ hr,rfl⟩
  split at hx
  ·simp at hx
  ·rename_i fn hf
   split at hx
   case isFalse=>simp at hx
   rename_i hh
   split at hx
   ·simp at hx
   ·rename_i c hb
    split at hx
    case h_2=>simp at hx
    rename_i s q1 h1 hc
    split at hx
    ·simp at hx
    ·rename_i vs hr
     have main:PCall P f args h (fun r h2=>r=resV vs∧h2=h1)∧Tch q1 h h1:=by
      obtain⟨e,he,hc⟩:=endS_some hc
      obtain⟨a1,a2⟩:=xc_ok2 (xf_ok2 hm hext k) m c hc
      refine⟨pcall_body hm hf hb hh.1 hh.2 (a1 _ ?_),a2 h rfl⟩
      rcases he with rfl|rfl<;>simp only[retPost,hr]<;>exact⟨trivial,trivial⟩
     split at hx
     ·rename_i hkp
      simp only[Bool.and_eq_true]at hkp
      split at hx
      ·rename_i r hfr
       simp only[Option.some.injEq,Prod.mk.injEq]at hx
       obtain⟨rfl,rfl,rfl⟩:=hx
       refine⟨pcall_wf hh.1 fun hwf=>PCall.drop (main.1.mono ?_),rfl⟩
       rintro r' h' ⟨rfl,rfl⟩
       have hold: ∀ id,id<h.next→h'.obj id=h.obj id:=by
        intro id hid
        have ht:=main.2
        cases q1 with
        |none=>simp only[Tch]at ht;rw[ht]
        |some t=>
         simp only[Tch]at ht
         have:=hkp.2
         simp[dropB]at this
         exact ht.2 id (by omega)
       refine⟨r,h,⟨rfl,rfl⟩,frzP_ok _ _ hfr,Nat.le_refl _,fun id o ho=>?_⟩
       have hid:=hwf id (by rw[ho];try rfl)
       exact⟨by rw[hold id hid];exact ho,hid,.inl ho⟩
      ·simp only[Option.some.injEq,Prod.mk.injEq]at hx
       obtain⟨rfl,rfl,rfl⟩:=hx
       exact main
     ·simp only[Option.some.injEq,Prod.mk.injEq]at hx
      obtain⟨rfl,rfl,rfl⟩:=hx
      exact main
def xgives2(r:Option (PV × Option Nat × Heap))(v:PV):Bool:=match r with
 |some (u,_,_)=>pvEq u v
 |none=>false
theorem pcall_run2(hm:P.follows .mixedOrders=true){ext:FuncId→List PV→Heap→Option PV}(hext:ExtOk2 P ext){keep:FuncId→Bool}{m k:Nat}{f:FuncId}{args:List PV}{h:Heap}{v:PV}(hx:xgives2 (xf2 P wf own ext keep m k f args h) v=true):PCall P f args h (fun r _=>r=v):=by
 unfold xgives2 at hx
 split at hx
 ·rename_i u q h' hr
  refine((xf_ok2 hm hext k _ _ _ _ _ _ hr).1).mono (fun r h'' hr=>?_)
  rw[hr.1,pvEq_eq _ _ hx]
 ·simp at hx
end
end Go.AM
namespace Go.Proofs.Ytjeolbgpllbemaa
open Go.AM
set_option maxHeartbeats 2000000
set_option maxRecDepth 100000
def pbOwn(f t:Nat):Bool:=([(34,5),(53,10),(999999,5),(8,40),(8,49),(8,67),(24,9)]:List (Nat × Nat)).contains (f,t)
def pbWf(f:Nat):Bool:=false
def pbExt(f:FuncId)(args:List PV)(_:Heap):Option PV:=ext f args
theorem pbExt_ok:ExtOk2 Try.prog pbExt:=fun f args r h hr=>ext_ok f args r h hr
theorem pbAwake_c:PCall Try.prog 7 [] Heap.nil fun r h'=>r= .sc (.bool true)∧h'=Heap.nil:=by
 have h1:PCall Try.prog 7 [] Heap.nil fun r _=>r= .sc (.bool true):=pcall_run2 (wf:=pbWf) (own:=pbOwn) (keep:=fun _=>false) Ty.mixed pbExt_ok (m:=2000) (k:=60) (by kernel_rfl)
 refine PCall.drop (h1.mono ?_)
 rintro r h' rfl
 refine⟨.sc (.bool true),Heap.nil,⟨rfl,rfl⟩,?_,Nat.le_refl _,fun id o ho=>by simp[Heap.nil]at ho⟩
 simp only[FrzTo]
end Go.Proofs.Ytjeolbgpllbemaa
namespace Go.Proofs.Ytjeolbgpllbemaa
open Go.AM
set_option maxHeartbeats 8000000
set_option maxRecDepth 20000
theorem okS_of{p:Pb}(h:p.ok):p.okS:=⟨h.2.2.1.1,h.2.2.2.1,⟨h.2.2.2.2.1.1,fun v hv=>(h.2.2.2.2.1.2 v hv).1⟩,h.2.2.2.2.2⟩
theorem writeB_goal{p:Pb}(h:writeB p=true):validF p.goal=true:=by
 unfold writeB at h
 simp only[Bool.and_eq_true]at h
 exact h.1.1
theorem rem_u(a n:Nat):((a:Nat):Int).tmod (n:Nat)=((a % n:Nat):Int):=(Int.ofNat_tmod a n).symm
theorem ordT_len{α:Type}{T:List α}{j l:Nat}(hj:j<T.length):(ordT T j l).length≤T.length+1:=by
 unfold ordT
 split
 ·simp;omega
 ·split<;>simp
theorem ordT_mem{α:Type}{T:List α}{j l:Nat}{x:α}(h:x∈ordT T j l):x∈T:=by
 unfold ordT at h
 split at h
 ·rcases List.mem_append.1 h with h|h
  ·exact List.mem_of_mem_take h
  ·exact List.mem_of_mem_drop h
 ·split at h
  ·rename_i a b ha hb
   rcases List.mem_or_eq_of_mem_set h with h|rfl
   ·rcases List.mem_or_eq_of_mem_set h with h|rfl
    ·exact h
    ·exact List.mem_of_getElem? hb
   ·exact List.mem_of_getElem? ha
  ·exact h
theorem ord_rows_eq(A B:Sx)(T:List Sx)(j:Nat):(Sx.rows (A::B::T)).take (2+j+1)++(Sx.rows (A::B::T)).drop (2+j)=Sx.rows (A::B::ordT T j j):=by
 have e1:2+j+1=(j+1)+1+1:=by omega
 have e2:2+j=j+1+1:=by omega
 rw[e1,e2]
 unfold ordT
 rw[if_pos rfl]
 simp only[Sx.rows_map,List.map_cons,List.take_succ_cons,List.drop_succ_cons,List.cons_append,List.map_append,List.map_take,List.map_drop]
theorem ord_rows_ne(A B:Sx)(T:List Sx){j l:Nat}{a b:Sx}(hne:j≠l)(ha:T[j]? =some a)(hb:T[l]? =some b):((Sx.rows (A::B::T)).set (2+j) b.cells).set (2+l) a.cells=Sx.rows (A::B::ordT T j l):=by
 have e1:2+j=j+1+1:=by omega
 have e2:2+l=l+1+1:=by omega
 rw[e1,e2]
 unfold ordT
 rw[if_neg hne,ha,hb]
 simp only[Sx.rows_map,List.map_cons,List.set_cons_succ,List.map_set]
theorem u8_in{n:Int}(h:(Lit.int .u8 n).wf=true):0≤n∧n≤255:=by
 simp[Lit.wf,IntKind.min,IntKind.max,IntKind.bits,IntKind.signed]at h
 omega
theorem problemOrder_c{p:Pb}(hok:p.ok)(hsm:PbSm p){a b:Nat}(ha:a≤255)(hb:b≤255):
  PCall Try.prog 3 [.agg p.cells,.agg [.sc (.int .u8 a),.sc (.int .u8 b)]] Heap.nil fun r _=>r= .sc (.bool true):=by
 have hL:=plarge_c p (okS_of hok)
 have hW:=fun h:Heap=>pWrite_c hok hsm h
 cases l1:largeP p with
 |true=>
  rw[l1]at hL
  clear hW hok hsm l1
  obtain⟨pn,pd,po,pi,pv,⟨gop,gna,gar,gpa,gex,gki⟩⟩:=p
  simp only[Pb.cells,Fm.cells,List.cons_append,List.nil_append]at hL⊢
  refine pcall_body (ow:=fun _=>false) (wf:=fun _=>false) Ty.mixed Try.func3 rfl Ty.hb_3 (by rw[Try.ntmps3];simp) ?_
  rw[Try.ntmps3,Try.results3]
  repeat'(first|refine a_seq fun K hK=>?_|(refine a_regionS ?_;simp(maxSteps:=2000000) only[Ty.w,simprocAttr])|(refine hK _ _ ?_;clear hK;try simp only[pst0,simprocAttr]))
  refine owp_useQ (hL _) (by(try simp only[Ty.w,simprocAttr,]);try rfl) ?_;simp(maxSteps:=2000000) only[Ty.w,simprocAttr,]
  repeat'(first|refine a_seq fun K hK=>?_|(refine a_regionS ?_;simp(maxSteps:=2000000) only[Ty.w,simprocAttr])|(refine hK _ _ ?_;clear hK;try simp only[pst0,simprocAttr]))
  refine owp_useQ (pbAwake_c) (by(try simp only[Ty.w,simprocAttr,]);try rfl) ?_;simp(maxSteps:=2000000) only[Ty.w,simprocAttr,]
  repeat'(first|(refine a_ret ?_;simp(maxSteps:=2000000) only[Ty.w,simprocAttr])|(refine hK _ _ ?_;clear hK;try simp only[pst0,simprocAttr]))
 |false=>
  rw[l1]at hL
  cases hw:writeB p with
  |false=>
   simp only[hw,Bool.false_eq_true,if_false]at hW
   clear hok hsm l1 hw
   obtain⟨pn,pd,po,pi,pv,⟨gop,gna,gar,gpa,gex,gki⟩⟩:=p
   simp only[Pb.cells,Fm.cells,List.cons_append,List.nil_append,zeroSx,Sx.cells,Sx.rows,errV]at hL hW⊢
   refine pcall_body (ow:=fun _=>false) (wf:=fun _=>false) Ty.mixed Try.func3 rfl Ty.hb_3 (by rw[Try.ntmps3];simp) ?_
   rw[Try.ntmps3,Try.results3]
   repeat'(first|refine a_seq fun K hK=>?_|(refine a_regionS ?_;simp(maxSteps:=2000000) only[Ty.w,simprocAttr])|(refine hK _ _ ?_;clear hK;try simp only[pst0,simprocAttr]))
   refine owp_useQ (hL _) (by(try simp only[Ty.w,simprocAttr,]);try rfl) ?_;simp(maxSteps:=2000000) only[Ty.w,simprocAttr,]
   skip
   refine owp_useQ (pbAwake_c) (by(try simp only[Ty.w,simprocAttr,Bool.not_true]);try rfl) ?_;simp(maxSteps:=2000000) only[Ty.w,simprocAttr,Bool.not_true]
   repeat'(first|refine a_seq fun K hK=>?_|(refine a_regionS ?_;simp(maxSteps:=2000000) only[Ty.w,simprocAttr,Bool.not_true])|(refine a_skip ?_;try simp only[pst0,simprocAttr])|(refine a_cond _ (by(try simp(maxSteps:=2000000) only[Ty.w,simprocAttr,Bool.not_true]);rfl) (fun hb=>?_) (fun hb=>?_)<;>(try simp only[hb0,decide_eq_true_eq,decide_eq_false_iff_not,simprocAttr]at hb)<;>(try(exfalso;omega)))|(refine hK _ _ ?_;clear hK;try simp only[pst0,simprocAttr]))
   refine owp_useQ (hW _) (by(try simp only[Ty.w,simprocAttr,]);try rfl) ?_;simp(maxSteps:=2000000) only[Ty.w,simprocAttr,]
   repeat'(first|refine a_seq fun K hK=>?_|((first|refine a_regionS ?_|refine a_ret ?_);simp(maxSteps:=2000000) only[Ty.w,simprocAttr])|(refine hK _ _ ?_;clear hK;try simp only[pst0,simprocAttr]))
  |true=>
   simp only[hw,if_true]at hW
   rw[pbW_eq]at hW
   have hXo:=pbW_ok hok hsm (writeB_goal hw)
   rw[pbW_eq]at hXo
   have hbad:=fun j l hn hj hl=>order_bad (p:=p) (j:=j) (l:=l) hn hj hl
   have hSl:(secsOf p).length≤4:=by
    have h1:(objsW p.objects).length≤1:=by unfold objsW;split<;>simp
    have h2:(initW p.init p.values).length≤1:=by unfold initW;split<;>simp
    have h3:(goalW p.goal).length≤1:=by unfold goalW;split<;>simp
    simp only[secsOf,List.length_cons,List.length_append]
    omega
   generalize secsOf p=T at hW hXo hbad hSl
   generalize wordM opDef=A at hW hXo hbad
   generalize nameS opPrb p.name=B at hW hXo hbad
   have hXk: ∀ x∈A::B::T,x.ok:=by
    simp only[listM,Sx.ok]at hXo
    exact Sx.oks_iff.1 hXo.2.2.2.2
   simp only[listM,Sx.cells]at hW
   have hR:=Sx.rows_len (A::B::T)
   have hRl:((Sx.rows (A::B::T)).length:Int)=(T.length:Int)+2:=by rw[hR];simp;omega
   clear hok hsm l1 hw hXo
   cases d4:decide ((T.length:Int)+2<4)with
   |true=>
    generalize Sx.rows (A::B::T)=R at hW hR hRl
    obtain⟨pn,pd,po,pi,pv,⟨gop,gna,gar,gpa,gex,gki⟩⟩:=p
    simp only[Pb.cells,Fm.cells,List.cons_append,List.nil_append]at hL hW⊢
    refine pcall_body (ow:=fun _=>false) (wf:=fun _=>false) Ty.mixed Try.func3 rfl Ty.hb_3 (by rw[Try.ntmps3];simp) ?_
    rw[Try.ntmps3,Try.results3]
    repeat'(first|refine a_seq fun K hK=>?_|(refine a_regionS ?_;simp(maxSteps:=2000000) only[Ty.w,simprocAttr])|(refine hK _ _ ?_;clear hK;try simp only[pst0,simprocAttr]))
    refine owp_useQ (hL _) (by(try simp only[Ty.w,simprocAttr,]);try rfl) ?_;simp(maxSteps:=2000000) only[Ty.w,simprocAttr,]
    skip
    refine owp_useQ (pbAwake_c) (by(try simp only[Ty.w,simprocAttr,Bool.not_true]);try rfl) ?_;simp(maxSteps:=2000000) only[Ty.w,simprocAttr,Bool.not_true]
    repeat'(first|refine a_seq fun K hK=>?_|(refine a_regionS ?_;simp(maxSteps:=2000000) only[Ty.w,simprocAttr,Bool.not_true])|(refine a_skip ?_;try simp only[pst0,simprocAttr])|(refine a_cond _ (by(try simp(maxSteps:=2000000) only[Ty.w,simprocAttr,Bool.not_true]);rfl) (fun hb=>?_) (fun hb=>?_)<;>(try simp only[hb0,decide_eq_true_eq,decide_eq_false_iff_not,simprocAttr]at hb)<;>(try(exfalso;omega)))|(refine hK _ _ ?_;clear hK;try simp only[pst0,simprocAttr]))
    refine owp_useQ (hW _) (by(try simp only[Ty.w,simprocAttr,]);try rfl) ?_;simp(maxSteps:=2000000) only[Ty.w,simprocAttr,]
    repeat'(first|refine a_seq fun K hK=>?_|((first|refine a_regionS ?_|refine a_ret ?_);simp(maxSteps:=2000000) only[Ty.w,simprocAttr,hRl,d4])|(refine hK _ _ ?_;clear hK;try simp only[pst0,simprocAttr]))
   |false=>
    have hT2:2≤T.length:=by
     have:=of_decide_eq_false d4
     omega
    have hja:a % T.length<T.length:=Nat.mod_lt _ (by omega)
    have hlb:b % T.length<T.length:=Nat.mod_lt _ (by omega)
    have ta:=rem_u a T.length
    have tb:=rem_u b T.length
    obtain⟨j,hj⟩: ∃ j,j=a % T.length:=⟨_,rfl⟩
    obtain⟨l,hl⟩: ∃ l,l=b % T.length:=⟨_,rfl⟩
    rw[← hj]at hja ta
    rw[← hl]at hlb tb
    have hn0:((T.length:Int)=0)=False:=eq_false (by omega)
    have wn:IntKind.i64.wrap ((T.length:Int)+2-2)=T.length:=by rw[wrap64 (by omega) (by omega)];omega
    have wa:IntKind.i64.wrap (a:Int)=a:=wrap64 (by omega) (by omega)
    have wb:IntKind.i64.wrap (b:Int)=b:=wrap64 (by omega) (by omega)
    have wj:IntKind.i64.wrap (2+(j:Int))=2+j:=wrap64 (by omega) (by omega)
    have wl:IntKind.i64.wrap (2+(l:Int))=2+l:=wrap64 (by omega) (by omega)
    have hordo: ∀ x∈A::B::ordT T j l,x.ok:=by
     intro x hx
     simp only[List.mem_cons]at hx
     rcases hx with rfl|rfl|hx
     ·exact hXk _ (by simp)
     ·exact hXk _ (by simp)
     ·exact hXk _ (by simp[ordT_mem hx])
    have hP:=fun h:Heap=>pParse_c (listM_okL (l:=A::B::ordT T j l) (by have:=ordT_len (T:=T) (l:=l) hja;simp only[List.length_cons,bigN];omega) hordo) h
    have hcb:=hbad j l hT2 hja hlb
    have hz:=parsePb_err hcb
    generalize parsePb (listM (A::B::ordT T j l))=F at hP hcb hz
    obtain⟨q,c⟩:=F
    simp only at hP hcb hz
    subst hz
    have e0:errP c=errV c:=by simp only[errP,hcb,cond_false]
    rw[e0]at hP
    simp only[errV,zeroPb,zeroFm,Pb.cells,Fm.cells,List.cons_append,List.nil_append,listM,Sx.cells]at hP
    have hbb:(T.length+2)*72≤140737488355328:=by omega
    have hRn:(Sx.rows (A::B::T)).length=T.length+2:=by rw[hR];try rfl
    obtain⟨pn,pd,po,pi,pv,⟨gop,gna,gar,gpa,gex,gki⟩⟩:=p
    simp only[Pb.cells,Fm.cells,List.cons_append,List.nil_append]at hL hW⊢
    have hrowe:=ord_rows_eq A B T j
    have hrown:=fun a b=>ord_rows_ne A B T (j:=j) (l:=l) (a:=a) (b:=b)
    have hgj:T[j]? =some T[j]:=List.getElem?_eq_getElem hja
    have hgl:T[l]? =some T[l]:=List.getElem?_eq_getElem hlb
    have hrj:(Sx.rows (A::B::T))[2+j]? =some (T[j]).cells:=Sx.rows_get (by rw[show 2+j=j+1+1 by omega];simp only[List.getElem?_cons_succ];exact hgj)
    have hrl:(Sx.rows (A::B::T))[2+l]? =some (T[l]).cells:=Sx.rows_get (by rw[show 2+l=l+1+1 by omega];simp only[List.getElem?_cons_succ];exact hgl)
    have hinn:=fun n H=>sxs_frz n H (A::B::ordT T j l)
    generalize hR2e:Sx.rows (A::B::ordT T j l)=R2 at hP hrown hinn
    have hrowe:l=j→(Sx.rows (A::B::T)).take (2+j+1)++(Sx.rows (A::B::T)).drop (2+j)=R2:=fun e=>by
     rw[hrowe, ← hR2e,e]
    have hLf:=fun n h=>sx_frz n h (listM (A::B::T))
    simp only[listM,Sx.cells]at hLf
    generalize Sx.rows (A::B::T)=R at hW hR hRl hRn hrown hrowe hrj hrl hLf
    have c0:((0:Int)<((2:Nat):Int))=True:=by simp
    have c1:((1:Int)<((2:Nat):Int))=True:=by simp
    refine pcall_body (ow:=fun _=>false) (wf:=fun _=>false) Ty.mixed Try.func3 rfl Ty.hb_3 (by rw[Try.ntmps3];simp) ?_
    rw[Try.ntmps3,Try.results3]
    repeat'(first|refine a_seq fun K hK=>?_|(refine a_regionS ?_;simp(maxSteps:=2000000) only[Ty.w,simprocAttr])|(refine hK _ _ ?_;clear hK;try simp only[pst0,simprocAttr]))
    refine owp_useQ (hL _) (by(try simp only[Ty.w,simprocAttr,]);try rfl) ?_;simp(maxSteps:=2000000) only[Ty.w,simprocAttr,]
    skip
    refine owp_useQ (pbAwake_c) (by(try simp only[Ty.w,simprocAttr,Bool.not_true]);try rfl) ?_;simp(maxSteps:=2000000) only[Ty.w,simprocAttr,Bool.not_true]
    repeat'(first|refine a_seq fun K hK=>?_|(refine a_regionS ?_;simp(maxSteps:=2000000) only[Ty.w,simprocAttr,Bool.not_true])|(refine a_skip ?_;try simp only[pst0,simprocAttr])|(refine a_cond _ (by(try simp(maxSteps:=2000000) only[Ty.w,simprocAttr,Bool.not_true]);rfl) (fun hb=>?_) (fun hb=>?_)<;>(try simp only[hb0,decide_eq_true_eq,decide_eq_false_iff_not,simprocAttr]at hb)<;>(try(exfalso;omega)))|(refine hK _ _ ?_;clear hK;try simp only[pst0,simprocAttr]))
    refine owp_useQ (hW _) (by(try simp only[Ty.w,simprocAttr,]);try rfl) ?_;simp(maxSteps:=2000000) only[Ty.w,simprocAttr,]
    repeat'(first|(with_reducible refine a_hold 4 ?_)|(refine hK _ _ ?_;clear hK;try simp only[pst0,simprocAttr]))
    refine⟨?_⟩
    refine a_drop 0 [(5,.cptr [.sc (.int .i64 3),.sc (.int .i64 0),.sc (.int .i64 0),.sc (.int .i64 0),sPV ⟨#[]⟩,.imm 6 R])] rfl (Nat.zero_le _) ?_ ?_
    ·intro x hx
     simp only[List.mem_cons,List.not_mem_nil,or_false]at hx
     subst hx
     simp only[FrzTo]
     exact .inr ⟨0,0,0,6,_,_,by(simp only[Ty.w,simprocAttr];try rfl),Nat.le_refl _,obj_at,rfl,hLf 0 _⟩
    refine a_gen (fun S H=>S 3= .cptr [.sc (.int .u8 a),.sc (.int .u8 b)]∧S 5= .cptr [.sc (.int .i64 3),.sc (.int .i64 0),.sc (.int .i64 0),.sc (.int .i64 0),sPV ⟨#[]⟩,.imm 6 R]∧S 6= .sc .nilIface) ⟨by simp only[frzS,Ty.w,simprocAttr],by simp only[frzS,Ty.w,simprocAttr],by simp only[frzS,Ty.w,simprocAttr]⟩ ?_
    clear hL hW
    rintro S H ⟨s3,s5,s6⟩
    cases hjl:(2+(j:Int)==2+(l:Int))with
    |true=>
     have e:l=j:=by have:=eq_of_beq hjl;omega
     have w1:IntKind.i64.wrap (2+(j:Int)+1)=2+j+1:=wrap64 (by omega) (by omega)
     have z1:zB (2+(j:Int)+1)=false:=decide_eq_false (by omega)
     have hcap:capP (2+(j:Int)+1) (2+j+1) (.own H.next 0 R.length)=some (.own H.next 0 (2+j+1)):=by
      simp only[capP]
      rw[if_pos ⟨by omega,trivial,by omega⟩]
      congr 2
     have b1:(0:Int)≤2+j:=by omega
     have b2:(2+(j:Int))≤T.length+2:=by omega
     have t1:(2+(j:Int)).toNat=2+j:=by omega
     have hO:(R.take (2+j+1)).length=2+j+1:=by rw[List.length_take];omega
     have hDl:(R.drop (2+j)).length≤T.length+2:=by rw[List.length_drop];omega
     have hdt:List.take ((T.length:Int)+2-(2+j)).toNat (R.drop (2+j))=R.drop (2+j):=List.take_of_length_le (by rw[List.length_drop];omega)
     have hrr:=hrowe e
     have b3:2+j+1≤R.length:=by omega
     obtain⟨D,hDe⟩: ∃ D,D=R.drop (2+j):=⟨_,rfl⟩
     rw[← hDe]at hDl hdt hrr
     obtain⟨O,hOe⟩: ∃ O,O=R.take (2+j+1):=⟨_,rfl⟩
     rw[← hOe]at hO hrr
     have hbb2:(O.length+D.length)*72≤140737488355328:=by omega
     have W:=And.intro s3 (And.intro s5 (And.intro s6 (And.intro hRl (And.intro d4 (And.intro wn (And.intro wa (And.intro wb (And.intro wj (And.intro wl (And.intro ta (And.intro tb (And.intro hn0 (And.intro hbb (And.intro hjl (And.intro c0 (And.intro c1 (And.intro w1 (And.intro z1 (And.intro hcap (And.intro b1 (And.intro b2 (And.intro b3 (And.intro t1 (And.intro hdt (And.intro hrr hbb2)))))))))))))))))))))))))
     repeat'(first|(with_reducible refine a_holdR 12 ?_)|refine a_seq fun K hK=>?_|((first|refine a_regionS ?_|refine a_drawS (by decide+kernel) ?_);simp(maxSteps:=2000000) only[Ty.w,simprocAttr,W,nsucc, ← hDe, ← hOe,Option.getD_some,Option.getD_none,Int.le_refl,Nat.zero_add,List.drop_zero])|(refine a_skip ?_;try simp only[pst0,simprocAttr])|(refine a_cond _ (by(try simp(maxSteps:=2000000) only[Ty.w,simprocAttr,W,nsucc, ← hDe, ← hOe,Option.getD_some,Option.getD_none,Int.le_refl,Nat.zero_add,List.drop_zero]);rfl) (fun hb=>?_) (fun hb=>?_)<;>(try simp only[hb0,decide_eq_true_eq,decide_eq_false_iff_not,simprocAttr]at hb)<;>(try(exfalso;omega)))|(refine hK _ _ ?_;clear hK;try simp only[pst0,simprocAttr])|(with_reducible refine a_past2 (by simp only[List.forall_mem_cons,Ty.w,simprocAttr,s3,s5,s6,hRl,d4,nsucc,wn,wa,wb,wj,wl,ta,tb,hn0,hbb,hjl,c0,c1,w1,z1,hcap,b1,b2,b3,t1, ← hDe,hdt, ← hOe,hrr,hbb2,Option.getD_some,Option.getD_none,Int.le_refl,Nat.zero_add,List.drop_zero]<;>(repeat' apply And.intro)<;>first|trivial|exact .inl (by decide+kernel)) ?_;try simp(maxSteps:=2000000) only[Ty.w,simprocAttr,W,nsucc, ← hDe, ← hOe,Option.getD_some,Option.getD_none,Int.le_refl,Nat.zero_add,List.drop_zero])|(rw[if_pos];rotate_left 1;omega;simp(maxSteps:=2000000) only[Ty.w,simprocAttr,W,nsucc, ← hDe, ← hOe,Option.getD_some,Option.getD_none,Int.le_refl,Nat.zero_add,List.drop_zero]))
     refine⟨?_⟩
     refine a_drop 0 [(10,.imm 6 R2)] rfl (Nat.zero_le _) ?_ ?_
     ·intro x hx
      simp only[List.mem_cons,List.not_mem_nil,or_false]at hx
      subst hx
      simp only[FrzTo]
      refine .inr (.inr ⟨H.next+1,0,O.length+D.length,R2,by simp only[Ty.w,simprocAttr],Nat.zero_le _,?_,?_,?_⟩)
      ·show (if H.next+1=H.next+1 then _ else _)=_
       rw[if_pos rfl]
      ·rw [← hrr,List.length_append];omega
      ·rw [List.drop_zero,List.take_of_length_le (by rw[← hrr,List.length_append];omega)]
       exact hinn _ _
     refine a_gen (fun S H=>S 10= .imm 6 R2) (by simp only[frzS,Ty.w,simprocAttr]) ?_
     rintro S H s10
     repeat'(first|refine a_seq fun K hK=>?_|(refine a_regionS ?_;simp(maxSteps:=2000000) only[Ty.w,simprocAttr,s10]))
     refine owp_useQ (hP _) (by(try simp only[Ty.w,simprocAttr,s10]);try rfl) ?_;simp(maxSteps:=2000000) only[Ty.w,simprocAttr,s10]
     repeat'(first|refine a_seq fun K hK=>?_|((first|refine a_regionS ?_|refine a_ret ?_);simp(maxSteps:=2000000) only[Ty.w,simprocAttr,nsucc])|(refine hK _ _ ?_;clear hK;try simp only[pst0,simprocAttr]))
    |false=>
     have e:j≠l:=by
      intro e
      subst e
      simp at hjl
     have b1:(0:Int)≤2+l:=by omega
     have b2:(0:Int)≤2+j:=by omega
     have b3:(2+(l:Int))<T.length+2:=by omega
     have b4:(2+(j:Int))<T.length+2:=by omega
     have t1:(2+(j:Int)).toNat=2+j:=by omega
     have t2:(2+(l:Int)).toNat=2+l:=by omega
     have hrr:=hrown _ _ e hgj hgl
     have hrl2:(R.set (2+j) (T[l]).cells)[2+l]? =some (T[l]).cells:=by
      rw[List.getElem?_set_ne (by omega)];exact hrl
     generalize T[j]=tj at hrj hrr
     generalize T[l]=tl at hrl hrl2 hrr
     obtain⟨tjk,tjn,tjt,tjc,tji,tjl⟩:=tj
     obtain⟨tlk,tln,tlt,tlc,tli,tll⟩:=tl
     simp only[Sx.cells]at hrj hrl hrl2 hrr
     have W:=And.intro s3 (And.intro s5 (And.intro s6 (And.intro hRl (And.intro d4 (And.intro wn (And.intro wa (And.intro wb (And.intro wj (And.intro wl (And.intro ta (And.intro tb (And.intro hn0 (And.intro hbb (And.intro hjl (And.intro c0 (And.intro c1 (And.intro b1 (And.intro b2 (And.intro b3 (And.intro b4 (And.intro t1 (And.intro t2 (And.intro hrj (And.intro hrl (And.intro hrl2 hrr)))))))))))))))))))))))))
     repeat'(first|(with_reducible refine a_holdR 12 ?_)|refine a_seq fun K hK=>?_|((first|refine a_regionS ?_|refine a_drawS (by decide+kernel) ?_);simp(maxSteps:=2000000) only[Ty.w,simprocAttr,W,nsucc])|(refine a_skip ?_;try simp only[pst0,simprocAttr])|(refine a_cond _ (by(try simp(maxSteps:=2000000) only[Ty.w,simprocAttr,W,nsucc]);rfl) (fun hb=>?_) (fun hb=>?_)<;>(try simp only[hb0,decide_eq_true_eq,decide_eq_false_iff_not,simprocAttr]at hb)<;>(try(exfalso;omega)))|(refine hK _ _ ?_;clear hK;try simp only[pst0,simprocAttr])|(with_reducible refine a_past2 (by simp only[List.forall_mem_cons,Ty.w,simprocAttr,s3,s5,s6,hRl,d4,nsucc,wn,wa,wb,wj,wl,ta,tb,hn0,hbb,hjl,c0,c1,b1,b2,b3,b4,t1,t2,hrj,hrl,hrl2,hrr]<;>(repeat' apply And.intro)<;>first|trivial|exact .inl (by decide+kernel)) ?_;try simp(maxSteps:=2000000) only[Ty.w,simprocAttr,W,nsucc])|(rw[if_pos];rotate_left 1;omega;simp(maxSteps:=2000000) only[Ty.w,simprocAttr,W,nsucc]))
     refine⟨?_⟩
     refine a_drop 0 [(10,.imm 6 R2)] rfl (Nat.zero_le _) ?_ ?_
     ·intro x hx
      simp only[List.mem_cons,List.not_mem_nil,or_false]at hx
      subst hx
      simp only[FrzTo]
      refine .inr (.inr ⟨H.next,0,R.length,R2,by simp only[Ty.w,simprocAttr],Nat.zero_le _,?_,?_,?_⟩)
      ·first
        |(show(if H.next=H.next then _ else _)=_;rw[if_pos rfl])
        |simp only[Ty.w,simprocAttr]
      ·rw [← hrr,List.length_set,List.length_set];omega
      ·rw [List.drop_zero,List.take_of_length_le (by rw[← hrr,List.length_set,List.length_set];omega)]
       exact hinn _ _
     refine a_gen (fun S H=>S 10= .imm 6 R2) (by simp only[frzS,Ty.w,simprocAttr]) ?_
     rintro S H s10
     repeat'(first|refine a_seq fun K hK=>?_|(refine a_regionS ?_;simp(maxSteps:=2000000) only[Ty.w,simprocAttr,s10]))
     refine owp_useQ (hP _) (by(try simp only[Ty.w,simprocAttr,s10]);try rfl) ?_;simp(maxSteps:=2000000) only[Ty.w,simprocAttr,s10]
     repeat'(first|refine a_seq fun K hK=>?_|((first|refine a_regionS ?_|refine a_ret ?_);simp(maxSteps:=2000000) only[Ty.w,simprocAttr,nsucc])|(refine hK _ _ ?_;clear hK;try simp only[pst0,simprocAttr]))
end Go.Proofs.Ytjeolbgpllbemaa
