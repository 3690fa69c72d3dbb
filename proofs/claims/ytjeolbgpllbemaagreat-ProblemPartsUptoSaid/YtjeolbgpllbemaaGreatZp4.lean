/- What the claim rests on, part 4: the abstract machine, contracts of the functions, plain data. -/
import Derived.Test.YtjeolbgpllbemaaGreatZp3
set_option linter.unusedVariables false
set_option linter.unusedSimpArgs false
set_option linter.unusedSectionVars false
namespace Go.Proofs.YtjeolbgpllbemaaGreat
open Go.AM
set_option maxHeartbeats 4000000
set_option maxRecDepth 20000
theorem exprP_head(x:Sx):exprP x=(bif kindOf x==2 then(match x with| .mk _ v _ _ _ _=>(.mk opNum ⟨#[]⟩ v [] [],0))else(match headM x with
  |none=>(zeroEx,2)
  |some (w,rest)=>bif isPm w then(match rest with
    |[a,b]=>(match exprP a with
     | (ea, ca) => bif ca == 0 then (match exprP b with
      |(eb,cb)=>bif cb==0 then(.mk w ⟨#[]⟩ 0 [] [ea,eb],0)else(zeroEx,cb))else(zeroEx,ca))
    |_=>(zeroEx,2))
   else bif nameB w then(match termsM rest with
    |(t,c)=>bif c==0 then(.mk opFlu w 0 t [],0)else(zeroEx,c))else(zeroEx,8))):=by
 obtain⟨kind,value,line,col,text,kids⟩:=x
 conv=>lhs;unfold exprP
 have kk:kindOf (.mk kind value line col text kids)=kind:=rfl
 rw[kk]
 simp only[headM]
 cases h2:kind==2 with
 |true=>
  rw[if_pos (by simpa using h2)];try rfl
 |false=>
  rw[if_neg (by simpa using h2)]
  simp only[cond_false]
  by_cases h3:kind=3
  ·rw [if_pos h3,if_pos h3]
   cases kids with
   |nil=>rfl
   |cons y rest=>cases hk:kindOf y==1<;>simp only[hk,cond_true,cond_false]<;>rfl
  ·rw [if_neg h3,if_neg h3]
theorem headM_ok{x:Sx}{w:ByteArray}{rest:List Sx}(hok:x.ok)(h:headM x=some (w,rest)):w.size≤bigN∧ ∀ y∈rest,y.ok:=by
 obtain⟨kind,value,line,col,text,kids⟩:=x
 simp only[Sx.ok]at hok
 obtain⟨_,_,_,_,hks⟩:=hok
 simp only[headM]at h
 split at h
 ·cases kids with
  |nil=>simp at h
  |cons y r=>
   simp only[Sx.oks]at hks
   simp only at h
   cases hk:kindOf y==1 with
   |false=>rw[hk]at h;simp at h
   |true=>
    rw[hk]at h
    simp only[cond_true,Option.some.injEq,Prod.mk.injEq]at h
    obtain⟨rfl,rfl⟩:=h
    refine⟨?_,Sx.oks_iff.1 hks.2⟩
    obtain⟨_,_,_,_,t,_⟩:=y
    simp only[Sx.ok]at hks
    exact hks.1.2.2.1
 ·simp at h
theorem ex_in(n:Nat): ∀ e:Ex,inNL n e.cells:=by
 have hs: ∀ l:List ByteArray,inNR n (strRows l):=by
  intro l
  induction l with
  |nil=>simp only[strRows,List.map_nil,inNR]
  |cons a l ih=>simp only[strRows,List.map_cons,inNR,inNL,inN,and_true,true_and]at ih⊢;exact ih
 refine Ex.ind ?_
 intro op name v args kids ih
 have:inNR n (Ex.rows kids):=by
  clear op name v args
  induction kids with
  |nil=>simp only[Ex.rows,inNR]
  |cons k ks ih2=>
   simp only[Ex.rows,inNR]
   exact⟨ih k (by simp),ih2 fun q hq=>ih q (by simp[hq])⟩
 simp only[Ex.cells,inNL,inN,and_true,true_and]
 exact⟨hs args,this⟩
theorem strs_in(n:Nat)(l:List ByteArray):inNR n (strRows l):=by
 induction l with
 |nil=>simp only[strRows,List.map_nil,inNR]
 |cons a l ih=>simp only[strRows,List.map_cons,inNR,inNL,inN,and_true,true_and]at ih⊢;exact ih
theorem expr_plain_c{x:Sx}(hok:x.ok)(hsm: ∀ w rest,headM x=some (w,rest)→rest.length≤1048576)(hpm:kindOf x=2∨ ∀ w rest,headM x=some (w,rest)→isPm w=false)(h:Heap):
  PCall Tryz.prog 165 [.agg x.cells] h fun r h'=>r= .tup [.agg (exprP x).1.cells,errP (exprP x).2]∧h'=h:=by
 refine PCall.frz Ty.hb_165 ?_
 have hh:=head_c hok
 have hX:=exprP_head x
 generalize exprP x=F at hX
 have hho:=fun w rest e=>headM_ok (w:=w) (rest:=rest) hok e
 generalize headM x=M at hh hX hsm hpm hho
 obtain⟨kind,value,line,col,text,kids⟩:=x
 have kk:kindOf (.mk kind value line col text kids)=kind:=rfl
 rw[kk]at hX hpm
 simp only[Sx.cells]at hh⊢
 cases k2:(kind==2)with
 |true=>
  simp only[k2,cond_true]at hX
  subst hX
  refine pcall_body (ow:=fun _=>false) (wf:=fun _=>false) Ty.mixed Tryz.func165 rfl Ty.hb_165 (by rw[Tryz.ntmps165];simp) ?_
  rw[Tryz.ntmps165,Tryz.results165]
  repeat'(first|refine a_seq fun K hK=>?_|((first|refine a_regionS ?_|refine a_ret ?_);simp(maxSteps:=2000000) only[Ty.w,simprocAttr,k2])|(refine hK _ _ ?_;clear hK;try simp only[pst0,simprocAttr]))
  refine⟨?_,((Grow.refl h).new _).set (Nat.le_refl _) _⟩
  simp only[errP,beq_self_eq_true,cond_true,opNum,Ex.cells,Ex.rows,strRows,List.map_nil,FrzTo,FrzL]
  exact⟨_,rfl,⟨_,rfl,rfl,rfl,rfl,.inr (.inl ⟨rfl,.inr rfl⟩),.inr (.inl ⟨rfl,.inr rfl⟩),trivial⟩,rfl,trivial⟩
 |false=>
  have hk2:¬ kind=2:=by simpa using k2
  simp only[k2,cond_false]at hX
  have hpm:=hpm.resolve_left hk2
  cases M with
  |none=>
   simp only at hX
   subst hX
   simp only[headV]at hh
   refine pcall_body (ow:=fun _=>false) (wf:=fun _=>false) Ty.mixed Tryz.func165 rfl Ty.hb_165 (by rw[Tryz.ntmps165];simp) ?_
   rw[Tryz.ntmps165,Tryz.results165]
   repeat'(first|refine a_seq fun K hK=>?_|(refine a_regionS ?_;simp(maxSteps:=2000000) only[Ty.w,simprocAttr,k2])|(refine a_skip ?_;try simp only[pst0,simprocAttr])|(refine a_cond _ (by(try simp(maxSteps:=2000000) only[Ty.w,simprocAttr,k2]);rfl) (fun hb=>?_) (fun hb=>?_)<;>(try simp only[hb0,decide_eq_true_eq,decide_eq_false_iff_not,simprocAttr]at hb)<;>(try(exfalso;omega)))|(refine hK _ _ ?_;clear hK;try simp only[pst0,simprocAttr]))
   refine owp_useQ (hh _) (by(try simp only[Ty.w,simprocAttr,k2,Bool.not_false]);try rfl) ?_;simp(maxSteps:=2000000) only[Ty.w,simprocAttr,k2,Bool.not_false]
   repeat'(first|refine a_seq fun K hK=>?_|((first|refine a_regionS ?_|refine a_ret ?_);simp(maxSteps:=2000000) only[Ty.w,simprocAttr,k2,Bool.not_false])|(refine hK _ _ ?_;clear hK;try simp only[pst0,simprocAttr]))
   refine⟨?_,((Grow.refl h).new _).set (Nat.le_refl _) _⟩
   have e2:errP 2=errV 2:=rfl
   simp only[e2,errV,zeroEx,Ex.cells,Ex.rows,strRows,List.map_nil,FrzTo,FrzL]
   exact⟨_,rfl,⟨_,rfl,rfl,rfl,rfl,.inr (.inl ⟨rfl,.inr rfl⟩),.inr (.inl ⟨rfl,.inr rfl⟩),trivial⟩,rfl,trivial⟩
  |some wr=>
   obtain⟨w,rest⟩:=wr
   have hp:=hpm w rest rfl
   obtain⟨hw,hr⟩:=hho w rest rfl
   have hl:=hsm w rest rfl
   have hw':w.size≤9223372036854775807:=by unfold bigN at hw;omega
   simp only[hp,cond_false]at hX
   simp only[headV]at hh
   have hp':=hp
   unfold isPm opPls opMin opTim bEq at hp'
   rw[Bool.or_eq_false_iff,Bool.or_eq_false_iff]at hp'
   obtain⟨⟨p1,p2⟩,p3⟩:=hp'
   have hn:=fun h:Heap=>fname_c (h:=h) hw'
   generalize nameB w=b at hn hX
   cases b with
   |false=>
    simp only[cond_false]at hX
    subst hX
    refine pcall_body (ow:=fun _=>false) (wf:=fun _=>false) Ty.mixed Tryz.func165 rfl Ty.hb_165 (by rw[Tryz.ntmps165];simp) ?_
    rw[Tryz.ntmps165,Tryz.results165]
    repeat'(first|refine a_seq fun K hK=>?_|(refine a_regionS ?_;simp(maxSteps:=2000000) only[Ty.w,simprocAttr,k2])|(refine a_skip ?_;try simp only[pst0,simprocAttr])|(refine a_cond _ (by(try simp(maxSteps:=2000000) only[Ty.w,simprocAttr,k2]);rfl) (fun hb=>?_) (fun hb=>?_)<;>(try simp only[hb0,decide_eq_true_eq,decide_eq_false_iff_not,simprocAttr]at hb)<;>(try(exfalso;omega)))|(refine hK _ _ ?_;clear hK;try simp only[pst0,simprocAttr]))
    refine owp_useQ (hh _) (by(try simp only[Ty.w,simprocAttr,k2,Bool.not_true]);try rfl) ?_;simp(maxSteps:=2000000) only[Ty.w,simprocAttr,k2,Bool.not_true]
    repeat'(first|refine a_seq fun K hK=>?_|(refine a_regionS ?_;simp(maxSteps:=2000000) only[Ty.w,simprocAttr,k2,p1,p2,p3,Bool.not_true,Bool.not_false])|(refine a_skip ?_;try simp only[pst0,simprocAttr])|(refine a_cond _ (by(try simp(maxSteps:=2000000) only[Ty.w,simprocAttr,k2,p1,p2,p3,Bool.not_true,Bool.not_false]);rfl) (fun hb=>?_) (fun hb=>?_)<;>(try simp only[hb0,decide_eq_true_eq,decide_eq_false_iff_not,simprocAttr]at hb)<;>(try(exfalso;omega)))|(refine hK _ _ ?_;clear hK;try simp only[pst0,simprocAttr]))
    refine owp_useQ (hn _) (by(try simp only[Ty.w,simprocAttr,k2,Bool.not_false]);try rfl) ?_;simp(maxSteps:=2000000) only[Ty.w,simprocAttr,k2,Bool.not_false]
    repeat'(first|refine a_seq fun K hK=>?_|((first|refine a_regionS ?_|refine a_ret ?_);simp(maxSteps:=2000000) only[Ty.w,simprocAttr,k2,Bool.not_false])|(refine hK _ _ ?_;clear hK;try simp only[pst0,simprocAttr]))
    refine⟨?_,((Grow.refl h).new _).set (Nat.le_refl _) _⟩
    have e2:errP 8=errV 8:=rfl
    simp only[e2,errV,zeroEx,Ex.cells,Ex.rows,strRows,List.map_nil,FrzTo,FrzL]
    exact⟨_,rfl,⟨_,rfl,rfl,rfl,rfl,.inr (.inl ⟨rfl,.inr rfl⟩),.inr (.inl ⟨rfl,.inr rfl⟩),trivial⟩,rfl,trivial⟩
   |true=>
    simp only[cond_true]at hX
    have ht:=terms_c hl hr
    generalize termsM rest=T at ht hX
    obtain⟨t,c⟩:=T
    simp only at ht hX
    cases hc:c==0 with
    |true=>
     rw[hc,cond_true]at hX
     subst hX
     have e0:errP c= .sc .nilIface:=by simp only[errP,hc,cond_true]
     rw[e0]at ht
     refine pcall_body (ow:=fun _=>false) (wf:=fun _=>false) Ty.mixed Tryz.func165 rfl Ty.hb_165 (by rw[Tryz.ntmps165];simp) ?_
     rw[Tryz.ntmps165,Tryz.results165]
     repeat'(first|refine a_seq fun K hK=>?_|(refine a_regionS ?_;simp(maxSteps:=2000000) only[Ty.w,simprocAttr,k2])|(refine a_skip ?_;try simp only[pst0,simprocAttr])|(refine a_cond _ (by(try simp(maxSteps:=2000000) only[Ty.w,simprocAttr,k2]);rfl) (fun hb=>?_) (fun hb=>?_)<;>(try simp only[hb0,decide_eq_true_eq,decide_eq_false_iff_not,simprocAttr]at hb)<;>(try(exfalso;omega)))|(refine hK _ _ ?_;clear hK;try simp only[pst0,simprocAttr]))
     refine owp_useQ (hh _) (by(try simp only[Ty.w,simprocAttr,k2,Bool.not_true]);try rfl) ?_;simp(maxSteps:=2000000) only[Ty.w,simprocAttr,k2,Bool.not_true]
     repeat'(first|refine a_seq fun K hK=>?_|(refine a_regionS ?_;simp(maxSteps:=2000000) only[Ty.w,simprocAttr,k2,p1,p2,p3,Bool.not_true,Bool.not_false])|(refine a_skip ?_;try simp only[pst0,simprocAttr])|(refine a_cond _ (by(try simp(maxSteps:=2000000) only[Ty.w,simprocAttr,k2,p1,p2,p3,Bool.not_true,Bool.not_false]);rfl) (fun hb=>?_) (fun hb=>?_)<;>(try simp only[hb0,decide_eq_true_eq,decide_eq_false_iff_not,simprocAttr]at hb)<;>(try(exfalso;omega)))|(refine hK _ _ ?_;clear hK;try simp only[pst0,simprocAttr]))
     refine owp_useQ (hn _) (by(try simp only[Ty.w,simprocAttr,k2,Bool.not_true]);try rfl) ?_;simp(maxSteps:=2000000) only[Ty.w,simprocAttr,k2,Bool.not_true]
     repeat'(first|refine a_seq fun K hK=>?_|(refine a_regionS ?_;simp(maxSteps:=2000000) only[Ty.w,simprocAttr,k2,Bool.not_true])|(refine a_skip ?_;try simp only[pst0,simprocAttr])|(refine a_cond _ (by(try simp(maxSteps:=2000000) only[Ty.w,simprocAttr,k2,Bool.not_true]);rfl) (fun hb=>?_) (fun hb=>?_)<;>(try simp only[hb0,decide_eq_true_eq,decide_eq_false_iff_not,simprocAttr]at hb)<;>(try(exfalso;omega)))|(refine hK _ _ ?_;clear hK;try simp only[pst0,simprocAttr]))
     refine owp_useQ (ht _) (by(try simp only[Ty.w,simprocAttr,k2]);try rfl) ?_;simp(maxSteps:=2000000) only[Ty.w,simprocAttr,k2]
     repeat'(first|refine a_seq fun K hK=>?_|((first|refine a_regionS ?_|refine a_ret ?_);simp(maxSteps:=2000000) only[Ty.w,simprocAttr,k2,Bool.not_true])|(refine a_skip ?_;try simp only[pst0,simprocAttr])|(refine a_cond _ (by(try simp(maxSteps:=2000000) only[Ty.w,simprocAttr,k2,Bool.not_true]);rfl) (fun hb=>?_) (fun hb=>?_)<;>(try simp only[hb0,decide_eq_true_eq,decide_eq_false_iff_not,simprocAttr]at hb)<;>(try(exfalso;omega)))|(refine hK _ _ ?_;clear hK;try simp only[pst0,simprocAttr]))
     refine⟨?_,((Grow.refl h).new _).set (Nat.le_refl _) _⟩
     have e2:errP 0= .sc .nilIface:=rfl
     rw[e2]
     simp only[opFlu,Ex.cells,Ex.rows,FrzTo,FrzL]
     exact⟨_,rfl,⟨_,rfl,rfl,rfl,rfl,.inl ⟨rfl,strs_in _ _⟩,.inr (.inl ⟨rfl,.inr rfl⟩),trivial⟩,rfl,trivial⟩
    |false=>
     rw[hc,cond_false]at hX
     subst hX
     have e0:errP c=errV c:=by simp only[errP,hc,cond_false]
     rw[e0]at ht⊢
     simp only[errV]at ht⊢
     refine pcall_body (ow:=fun _=>false) (wf:=fun _=>false) Ty.mixed Tryz.func165 rfl Ty.hb_165 (by rw[Tryz.ntmps165];simp) ?_
     rw[Tryz.ntmps165,Tryz.results165]
     repeat'(first|refine a_seq fun K hK=>?_|(refine a_regionS ?_;simp(maxSteps:=2000000) only[Ty.w,simprocAttr,k2])|(refine a_skip ?_;try simp only[pst0,simprocAttr])|(refine a_cond _ (by(try simp(maxSteps:=2000000) only[Ty.w,simprocAttr,k2]);rfl) (fun hb=>?_) (fun hb=>?_)<;>(try simp only[hb0,decide_eq_true_eq,decide_eq_false_iff_not,simprocAttr]at hb)<;>(try(exfalso;omega)))|(refine hK _ _ ?_;clear hK;try simp only[pst0,simprocAttr]))
     refine owp_useQ (hh _) (by(try simp only[Ty.w,simprocAttr,k2,Bool.not_true]);try rfl) ?_;simp(maxSteps:=2000000) only[Ty.w,simprocAttr,k2,Bool.not_true]
     repeat'(first|refine a_seq fun K hK=>?_|(refine a_regionS ?_;simp(maxSteps:=2000000) only[Ty.w,simprocAttr,k2,p1,p2,p3,Bool.not_true,Bool.not_false])|(refine a_skip ?_;try simp only[pst0,simprocAttr])|(refine a_cond _ (by(try simp(maxSteps:=2000000) only[Ty.w,simprocAttr,k2,p1,p2,p3,Bool.not_true,Bool.not_false]);rfl) (fun hb=>?_) (fun hb=>?_)<;>(try simp only[hb0,decide_eq_true_eq,decide_eq_false_iff_not,simprocAttr]at hb)<;>(try(exfalso;omega)))|(refine hK _ _ ?_;clear hK;try simp only[pst0,simprocAttr]))
     refine owp_useQ (hn _) (by(try simp only[Ty.w,simprocAttr,k2,Bool.not_true]);try rfl) ?_;simp(maxSteps:=2000000) only[Ty.w,simprocAttr,k2,Bool.not_true]
     repeat'(first|refine a_seq fun K hK=>?_|(refine a_regionS ?_;simp(maxSteps:=2000000) only[Ty.w,simprocAttr,k2,Bool.not_true])|(refine a_skip ?_;try simp only[pst0,simprocAttr])|(refine a_cond _ (by(try simp(maxSteps:=2000000) only[Ty.w,simprocAttr,k2,Bool.not_true]);rfl) (fun hb=>?_) (fun hb=>?_)<;>(try simp only[hb0,decide_eq_true_eq,decide_eq_false_iff_not,simprocAttr]at hb)<;>(try(exfalso;omega)))|(refine hK _ _ ?_;clear hK;try simp only[pst0,simprocAttr]))
     refine owp_useQ (ht _) (by(try simp only[Ty.w,simprocAttr,k2]);try rfl) ?_;simp(maxSteps:=2000000) only[Ty.w,simprocAttr,k2]
     repeat'(first|refine a_seq fun K hK=>?_|((first|refine a_regionS ?_|refine a_ret ?_);simp(maxSteps:=2000000) only[Ty.w,simprocAttr,k2,Bool.not_false])|(refine hK _ _ ?_;clear hK;try simp only[pst0,simprocAttr]))
     refine⟨?_,((Grow.refl h).new _).set (Nat.le_refl _) _⟩
     simp only[zeroEx,Ex.cells,Ex.rows,strRows,List.map_nil,FrzTo,FrzL]
     exact⟨_,rfl,⟨_,rfl,rfl,rfl,rfl,.inr (.inl ⟨rfl,.inr rfl⟩),.inr (.inl ⟨rfl,.inr rfl⟩),trivial⟩,rfl,trivial⟩
end Go.Proofs.YtjeolbgpllbemaaGreat
namespace Go.Proofs.YtjeolbgpllbemaaGreat
open Go.AM
set_option maxHeartbeats 4000000
set_option maxRecDepth 20000
theorem nsucc(n:Nat):(n=n+1)=False:=by simp
theorem fEqE_c{g:FuncId}{l m:List Ex}(hl:l.length≤bigN)(hf: ∀ a∈l, ∀ b∈m, ∀ h:Heap,PCall Tryz.prog g [.agg a.cells,.agg b.cells] h fun r h'=>r= .sc (.bool (a.same b))∧h'=h)(h:Heap):
  PCall Tryz.prog 88 [.imm 5 (Ex.rows l),.imm 5 (Ex.rows m),.sc (.func (.func g) #[] #[])] h fun r h'=>r= .sc (.bool (Ex.sames l m))∧h'=h:=by
 unfold bigN at hl
 have hll:=Ex.rows_len l
 have hlm:=Ex.rows_len m
 refine PCall.quiet Ty.hb_88 ?_
 refine pcall_body (ow:=fun _=>false) (wf:=fun _=>false) Ty.mixed Tryz.func88 rfl Ty.hb_88 (by rw[Tryz.ntmps88];simp) ?_
 rw[Tryz.ntmps88,Tryz.results88]
 cases hne:((l.length:Int) !=m.length)with
 |true=>
  have:Ex.sames l m=false:=Ex.sames_len (by simp at hne;omega)
  repeat'(first|refine a_seq fun K hK=>?_|((first|refine a_regionS ?_|refine a_ret ?_);simp(maxSteps:=2000000) only[Ty.w,simprocAttr,hll,hlm,hne])|(refine hK _ _ ?_;clear hK;try simp only[pst0,simprocAttr]))
  rw[this]
  exact⟨rfl,Grow.refl _⟩
 |false=>
  have hlen:l.length=m.length:=by simp at hne;omega
  repeat'(first|refine a_seq fun K hK=>?_|(refine a_block ?_)|(refine a_regionS ?_;simp(maxSteps:=2000000) only[Ty.w,simprocAttr,hll,hlm,hne])|(refine a_skip ?_;try simp only[pst0,simprocAttr])|(refine a_cond _ (by(try simp(maxSteps:=2000000) only[Ty.w,simprocAttr,hll,hlm,hne]);rfl) (fun hb=>?_) (fun hb=>?_)<;>(try simp only[hb0,decide_eq_true_eq,decide_eq_false_iff_not,simprocAttr]at hb)<;>(try(exfalso;omega)))|(refine hK _ _ ?_;clear hK;try simp only[pst0,simprocAttr]))
  refine a_loop (fun c S h'=>Grow h h'∧S 1= .imm 5 (Ex.rows m)∧S 2= .sc (.func (.func g) #[] #[])∧S 15= .imm 5 (Ex.rows l)∧S 16= .sc (.int .i64 l.length)∧ ∃ k:Nat,S 17= .sc (.int .i64 k)∧k≤l.length∧c=l.length-k∧Ex.sames l m=Ex.sames (l.drop k) (m.drop k)) l.length ?_ ?_
  ·simp only[Ty.w,simprocAttr]
   exact⟨Grow.refl _,0,rfl,by omega,rfl,by simp⟩
  ·rintro c S h' ⟨hg,g1,g2,g15,g16,k,gk,hkl,rfl,hinv⟩
   by_cases hlt:k<l.length
   ·have hd:decide ((k:Int)<(l.length:Int))=true:=by simp;omega
    have w7:IntKind.i64.wrap ((k:Int)+1)=k+1:=by rw[wrap64 (by omega) (by omega)]
    obtain⟨a,hx⟩: ∃ a,l[k]? =some a:=⟨_,List.getElem?_eq_getElem hlt⟩
    obtain⟨b,hy⟩: ∃ b,m[k]? =some b:=⟨_,List.getElem?_eq_getElem (by omega)⟩
    have hc:=hf a (List.mem_of_getElem? hx) b (List.mem_of_getElem? hy)
    rw[drop_of_get hx,drop_of_get hy]at hinv
    simp only[Ex.sames]at hinv
    have hr:=Ex.rows_get hx
    have hr2:=Ex.rows_get hy
    generalize he:a.same b=e at hc hinv
    clear he hf
    obtain⟨op2,name2,n2,args2,kids2⟩:=a
    obtain⟨op3,name3,n3,args3,kids3⟩:=b
    simp only[Ex.cells]at hr hr2 hc
    repeat'(first|refine a_seq fun K hK=>?_|(refine a_regionS ?_;simp(maxSteps:=2000000) only[Ty.w,simprocAttr,g1,g2,g15,g16,gk,hll,hlm,hd,hr,hr2,w7,nsucc])|(refine a_skip ?_;try simp only[pst0,simprocAttr])|(refine a_cond _ (by(try simp(maxSteps:=2000000) only[Ty.w,simprocAttr,g1,g2,g15,g16,gk,hll,hlm,hd,hr,hr2,w7,nsucc]);rfl) (fun hb=>?_) (fun hb=>?_)<;>(try simp only[hb0,decide_eq_true_eq,decide_eq_false_iff_not,simprocAttr]at hb)<;>(try(exfalso;omega)))|(refine hK _ _ ?_;clear hK;try simp only[pst0,simprocAttr]))
    refine owp_useV (by simp only[Ty.w,simprocAttr,g2]) (hc _) (by simp only[Ty.w,simprocAttr,g1,g2,g15,g16,gk];try rfl) ?_
    simp(maxSteps:=2000000) only[Ty.w,simprocAttr,Ty.all]
    cases e with
    |false=>
     repeat'(first|refine a_seq fun K hK=>?_|((first|refine a_regionS ?_|refine a_ret ?_);simp(maxSteps:=2000000) only[Ty.w,simprocAttr,g1,g2,g15,g16,gk,w7,Bool.not_false])|(refine hK _ _ ?_;clear hK;try simp only[pst0,simprocAttr]))
     rw[hinv]
     exact⟨rfl,(((hg.new _).set hg.le _).new _).set (Nat.le_succ_of_le hg.le) _⟩
    |true=>
     repeat'(first|(refine a_block ?_)|(refine a_regionS ?_;simp(maxSteps:=2000000) only[Ty.w,simprocAttr,g1,g2,g15,g16,gk,w7,Bool.not_true])|(refine a_skip ?_;try simp only[pst0,simprocAttr])|(refine hK _ _ ?_;clear hK;try simp only[pst0,simprocAttr]))
     rw[Bool.true_and]at hinv
     exact⟨l.length-(k+1),by omega,(((hg.new _).set hg.le _).new _).set (Nat.le_succ_of_le hg.le) _,k+1,by simp,by omega,rfl,hinv⟩
   ·have hd:decide ((k:Int)<(l.length:Int))=false:=by simp;omega
    rw[List.drop_eq_nil_of_le (by omega),List.drop_eq_nil_of_le (by omega)]at hinv
    simp only[Ex.sames]at hinv
    repeat'(first|refine a_seq fun K hK=>?_|((first|refine a_regionS ?_|refine a_ret ?_);simp(maxSteps:=2000000) only[Ty.w,simprocAttr,g1,g2,g15,g16,gk,hll,hd])|(refine a_exit ?_;try simp only[pst0,simprocAttr])|(refine a_cond _ (by(try simp(maxSteps:=2000000) only[Ty.w,simprocAttr,g1,g2,g15,g16,gk,hll,hd]);rfl) (fun hb=>?_) (fun hb=>?_)<;>(try simp only[hb0,decide_eq_true_eq,decide_eq_false_iff_not,simprocAttr]at hb)<;>(try(exfalso;omega)))|((first|refine hK _ _ ?_|(clear hK;refine hK _ _ ?_));clear hK;try simp only[pst0,simprocAttr]))
    rw[hinv]
    exact⟨rfl,hg⟩
theorem fsameE_c: ∀ a:Ex,a.ok→ ∀ b:Ex,b.ok→ ∀ h:Heap,PCall Tryz.prog 89 [.agg a.cells,.agg b.cells] h fun r h'=>r= .sc (.bool (a.same b))∧h'=h:=by
 refine Ex.ind ?_
 intro op name n args kids ih hok
 rintro⟨op3,name3,n3,args3,kids3⟩ hok3 h
 simp only[Ex.ok]at hok hok3
 obtain⟨_,_,_,⟨ha,_⟩,hk,hks⟩:=hok
 obtain⟨_,_,_,⟨ha3,_⟩,hk3,hks3⟩:=hok3
 rw[Ex.oks_iff]at hks hks3
 have hfk: ∀ a∈kids, ∀ b∈kids3, ∀ h:Heap,PCall Tryz.prog 89 [.agg a.cells,.agg b.cells] h fun r h'=>r= .sc (.bool (a.same b))∧h'=h:=fun a ha b hb=>ih a ha (hks a ha) b (hks3 b hb)
 clear ih
 simp only[Ex.cells]
 refine pcall_body (ow:=fun _=>false) (wf:=fun _=>false) Ty.mixed Tryz.func89 rfl Ty.hb_89 (by rw[Tryz.ntmps89];simp) ?_
 rw[Tryz.ntmps89,Tryz.results89]
 cases e0:(op.data.toList==op3.data.toList)with
 |false=>
  have hs:(Ex.mk op name n args kids).same (.mk op3 name3 n3 args3 kids3)=false:=by simp only[Ex.same,bEq,e0,Bool.false_and,Bool.and_false]
  repeat'(first|refine a_seq fun K hK=>?_|((first|refine a_regionS ?_|refine a_ret ?_);simp(maxSteps:=2000000) only[Ty.w,simprocAttr,e0])|(refine hK _ _ ?_;clear hK;try simp only[pst0,simprocAttr]))
  rw[hs]
 |true=>
  cases e1:(name.data.toList==name3.data.toList)with
  |false=>
   have hs:(Ex.mk op name n args kids).same (.mk op3 name3 n3 args3 kids3)=false:=by simp only[Ex.same,bEq,e0,e1,Bool.false_and,Bool.and_false]
   repeat'(first|refine a_seq fun K hK=>?_|((first|refine a_regionS ?_|refine a_ret ?_);simp(maxSteps:=2000000) only[Ty.w,simprocAttr,e0,e1])|(refine hK _ _ ?_;clear hK;try simp only[pst0,simprocAttr]))
   rw[hs]
  |true=>
   cases e2:(n==n3)with
   |false=>
    have hs:(Ex.mk op name n args kids).same (.mk op3 name3 n3 args3 kids3)=false:=by simp only[Ex.same,bEq,e0,e1,e2,Bool.false_and,Bool.and_false]
    repeat'(first|refine a_seq fun K hK=>?_|((first|refine a_regionS ?_|refine a_ret ?_);simp(maxSteps:=2000000) only[Ty.w,simprocAttr,e0,e1,e2])|(refine hK _ _ ?_;clear hK;try simp only[pst0,simprocAttr]))
    rw[hs]
   |true=>
    repeat'(first|refine a_seq fun K hK=>?_|(refine a_regionS ?_;simp(maxSteps:=2000000) only[Ty.w,simprocAttr,e0,e1,e2])|(refine hK _ _ ?_;clear hK;try simp only[pst0,simprocAttr]))
    cases e3:bsEq args args3 with
    |false=>
     have hs:(Ex.mk op name n args kids).same (.mk op3 name3 n3 args3 kids3)=false:=by simp only[Ex.same,bEq,e0,e1,e2,e3,Bool.false_and,Bool.and_false]
     refine owp_useQ (ftexts_c (l:=args) (m:=args3) ha ha3) (by(try simp only[Ty.w,simprocAttr,e0,e1,e2,e3]);try rfl) ?_;simp(maxSteps:=2000000) only[Ty.w,simprocAttr,e0,e1,e2,e3]
     repeat'(first|(refine a_ret ?_;simp(maxSteps:=2000000) only[Ty.w,simprocAttr,e0,e1,e2,e3])|(refine hK _ _ ?_;clear hK;try simp only[pst0,simprocAttr]))
     rw[hs]
    |true=>
     refine owp_useQ (ftexts_c (l:=args) (m:=args3) ha ha3) (by(try simp only[Ty.w,simprocAttr,e0,e1,e2,e3]);try rfl) ?_;simp(maxSteps:=2000000) only[Ty.w,simprocAttr,e0,e1,e2,e3]
     skip
     have hs:(Ex.mk op name n args kids).same (.mk op3 name3 n3 args3 kids3)=Ex.sames kids kids3:=by simp only[Ex.same,bEq,e0,e1,e2,e3,Bool.true_and]
     refine owp_useQ (fEqE_c hk hfk _) (by(try simp only[Ty.w,simprocAttr,e0,e1,e2,e3]);try rfl) ?_;simp(maxSteps:=2000000) only[Ty.w,simprocAttr,e0,e1,e2,e3]
     repeat'(first|(refine a_ret ?_;simp(maxSteps:=2000000) only[Ty.w,simprocAttr,e0,e1,e2,e3])|(refine hK _ _ ?_;clear hK;try simp only[pst0,simprocAttr]))
     rw[hs]
theorem fEqF_c{g:FuncId}{l m:List Fm}(hl:l.length≤bigN)(hf: ∀ a∈l, ∀ b∈m, ∀ h:Heap,PCall Tryz.prog g [.agg a.cells,.agg b.cells] h fun r h'=>r= .sc (.bool (a.same b))∧h'=h)(h:Heap):
  PCall Tryz.prog 90 [.imm 6 (Fm.rows l),.imm 6 (Fm.rows m),.sc (.func (.func g) #[] #[])] h fun r h'=>r= .sc (.bool (Fm.sames l m))∧h'=h:=by
 unfold bigN at hl
 have hll:=Fm.rows_len l
 have hlm:=Fm.rows_len m
 refine PCall.quiet Ty.hb_90 ?_
 refine pcall_body (ow:=fun _=>false) (wf:=fun _=>false) Ty.mixed Tryz.func90 rfl Ty.hb_90 (by rw[Tryz.ntmps90];simp) ?_
 rw[Tryz.ntmps90,Tryz.results90]
 cases hne:((l.length:Int) !=m.length)with
 |true=>
  have:Fm.sames l m=false:=Fm.sames_len (by simp at hne;omega)
  repeat'(first|refine a_seq fun K hK=>?_|((first|refine a_regionS ?_|refine a_ret ?_);simp(maxSteps:=2000000) only[Ty.w,simprocAttr,hll,hlm,hne])|(refine hK _ _ ?_;clear hK;try simp only[pst0,simprocAttr]))
  rw[this]
  exact⟨rfl,Grow.refl _⟩
 |false=>
  have hlen:l.length=m.length:=by simp at hne;omega
  repeat'(first|refine a_seq fun K hK=>?_|(refine a_block ?_)|(refine a_regionS ?_;simp(maxSteps:=2000000) only[Ty.w,simprocAttr,hll,hlm,hne])|(refine a_skip ?_;try simp only[pst0,simprocAttr])|(refine a_cond _ (by(try simp(maxSteps:=2000000) only[Ty.w,simprocAttr,hll,hlm,hne]);rfl) (fun hb=>?_) (fun hb=>?_)<;>(try simp only[hb0,decide_eq_true_eq,decide_eq_false_iff_not,simprocAttr]at hb)<;>(try(exfalso;omega)))|(refine hK _ _ ?_;clear hK;try simp only[pst0,simprocAttr]))
  refine a_loop (fun c S h'=>Grow h h'∧S 1= .imm 6 (Fm.rows m)∧S 2= .sc (.func (.func g) #[] #[])∧S 15= .imm 6 (Fm.rows l)∧S 16= .sc (.int .i64 l.length)∧ ∃ k:Nat,S 17= .sc (.int .i64 k)∧k≤l.length∧c=l.length-k∧Fm.sames l m=Fm.sames (l.drop k) (m.drop k)) l.length ?_ ?_
  ·simp only[Ty.w,simprocAttr]
   exact⟨Grow.refl _,0,rfl,by omega,rfl,by simp⟩
  ·rintro c S h' ⟨hg,g1,g2,g15,g16,k,gk,hkl,rfl,hinv⟩
   by_cases hlt:k<l.length
   ·have hd:decide ((k:Int)<(l.length:Int))=true:=by simp;omega
    have w7:IntKind.i64.wrap ((k:Int)+1)=k+1:=by rw[wrap64 (by omega) (by omega)]
    obtain⟨a,hx⟩: ∃ a,l[k]? =some a:=⟨_,List.getElem?_eq_getElem hlt⟩
    obtain⟨b,hy⟩: ∃ b,m[k]? =some b:=⟨_,List.getElem?_eq_getElem (by omega)⟩
    have hc:=hf a (List.mem_of_getElem? hx) b (List.mem_of_getElem? hy)
    rw[drop_of_get hx,drop_of_get hy]at hinv
    simp only[Fm.sames]at hinv
    have hr:=Fm.rows_get hx
    have hr2:=Fm.rows_get hy
    generalize he:a.same b=e at hc hinv
    clear he hf
    obtain⟨op2,name2,args2,params2,exprs2,kids2⟩:=a
    obtain⟨op3,name3,args3,params3,exprs3,kids3⟩:=b
    simp only[Fm.cells]at hr hr2 hc
    repeat'(first|refine a_seq fun K hK=>?_|(refine a_regionS ?_;simp(maxSteps:=2000000) only[Ty.w,simprocAttr,g1,g2,g15,g16,gk,hll,hlm,hd,hr,hr2,w7,nsucc])|(refine a_skip ?_;try simp only[pst0,simprocAttr])|(refine a_cond _ (by(try simp(maxSteps:=2000000) only[Ty.w,simprocAttr,g1,g2,g15,g16,gk,hll,hlm,hd,hr,hr2,w7,nsucc]);rfl) (fun hb=>?_) (fun hb=>?_)<;>(try simp only[hb0,decide_eq_true_eq,decide_eq_false_iff_not,simprocAttr]at hb)<;>(try(exfalso;omega)))|(refine hK _ _ ?_;clear hK;try simp only[pst0,simprocAttr]))
    refine owp_useV (by simp only[Ty.w,simprocAttr,g2]) (hc _) (by simp only[Ty.w,simprocAttr,g1,g2,g15,g16,gk];try rfl) ?_
    simp(maxSteps:=2000000) only[Ty.w,simprocAttr,Ty.all]
    cases e with
    |false=>
     repeat'(first|refine a_seq fun K hK=>?_|((first|refine a_regionS ?_|refine a_ret ?_);simp(maxSteps:=2000000) only[Ty.w,simprocAttr,g1,g2,g15,g16,gk,w7,Bool.not_false])|(refine hK _ _ ?_;clear hK;try simp only[pst0,simprocAttr]))
     rw[hinv]
     exact⟨rfl,(((hg.new _).set hg.le _).new _).set (Nat.le_succ_of_le hg.le) _⟩
    |true=>
     repeat'(first|(refine a_block ?_)|(refine a_regionS ?_;simp(maxSteps:=2000000) only[Ty.w,simprocAttr,g1,g2,g15,g16,gk,w7,Bool.not_true])|(refine a_skip ?_;try simp only[pst0,simprocAttr])|(refine hK _ _ ?_;clear hK;try simp only[pst0,simprocAttr]))
     rw[Bool.true_and]at hinv
     exact⟨l.length-(k+1),by omega,(((hg.new _).set hg.le _).new _).set (Nat.le_succ_of_le hg.le) _,k+1,by simp,by omega,rfl,hinv⟩
   ·have hd:decide ((k:Int)<(l.length:Int))=false:=by simp;omega
    rw[List.drop_eq_nil_of_le (by omega),List.drop_eq_nil_of_le (by omega)]at hinv
    simp only[Fm.sames]at hinv
    repeat'(first|refine a_seq fun K hK=>?_|((first|refine a_regionS ?_|refine a_ret ?_);simp(maxSteps:=2000000) only[Ty.w,simprocAttr,g1,g2,g15,g16,gk,hll,hd])|(refine a_exit ?_;try simp only[pst0,simprocAttr])|(refine a_cond _ (by(try simp(maxSteps:=2000000) only[Ty.w,simprocAttr,g1,g2,g15,g16,gk,hll,hd]);rfl) (fun hb=>?_) (fun hb=>?_)<;>(try simp only[hb0,decide_eq_true_eq,decide_eq_false_iff_not,simprocAttr]at hb)<;>(try(exfalso;omega)))|((first|refine hK _ _ ?_|(clear hK;refine hK _ _ ?_));clear hK;try simp only[pst0,simprocAttr]))
    rw[hinv]
    exact⟨rfl,hg⟩
theorem fsame_c: ∀ a:Fm,a.ok→ ∀ b:Fm,b.ok→ ∀ h:Heap,PCall Tryz.prog 49 [.agg a.cells,.agg b.cells] h fun r h'=>r= .sc (.bool (a.same b))∧h'=h:=by
 refine Fm.ind ?_
 intro op name args params exprs kids ih hok
 rintro⟨op3,name3,args3,params3,exprs3,kids3⟩ hok3 h
 simp only[Fm.ok]at hok hok3
 obtain⟨_,_,⟨ha,_⟩,⟨hp,_⟩,⟨he,hes⟩,hk,hks⟩:=hok
 obtain⟨_,_,⟨ha3,_⟩,⟨hp3,_⟩,⟨he3,hes3⟩,hk3,hks3⟩:=hok3
 rw[Fm.oks_iff]at hks hks3
 have hfk: ∀ a∈kids, ∀ b∈kids3, ∀ h:Heap,PCall Tryz.prog 49 [.agg a.cells,.agg b.cells] h fun r h'=>r= .sc (.bool (a.same b))∧h'=h:=fun a ha b hb=>ih a ha (hks a ha) b (hks3 b hb)
 rw[Ex.oks_iff]at hes hes3
 have hfe: ∀ a∈exprs, ∀ b∈exprs3, ∀ h:Heap,PCall Tryz.prog 89 [.agg a.cells,.agg b.cells] h fun r h'=>r= .sc (.bool (a.same b))∧h'=h:=fun a ha b hb=>fsameE_c a (hes a ha) b (hes3 b hb)
 clear ih
 simp only[Fm.cells]
 refine pcall_body (ow:=fun _=>false) (wf:=fun _=>false) Ty.mixed Tryz.func49 rfl Ty.hb_49 (by rw[Tryz.ntmps49];simp) ?_
 rw[Tryz.ntmps49,Tryz.results49]
 cases e0:(op.data.toList==op3.data.toList)with
 |false=>
  have hs:(Fm.mk op name args params exprs kids).same (.mk op3 name3 args3 params3 exprs3 kids3)=false:=by simp only[Fm.same,bEq,e0,Bool.false_and,Bool.and_false]
  repeat'(first|refine a_seq fun K hK=>?_|((first|refine a_regionS ?_|refine a_ret ?_);simp(maxSteps:=2000000) only[Ty.w,simprocAttr,e0])|(refine hK _ _ ?_;clear hK;try simp only[pst0,simprocAttr]))
  rw[hs]
 |true=>
  cases e1:(name.data.toList==name3.data.toList)with
  |false=>
   have hs:(Fm.mk op name args params exprs kids).same (.mk op3 name3 args3 params3 exprs3 kids3)=false:=by simp only[Fm.same,bEq,e0,e1,Bool.false_and,Bool.and_false]
   repeat'(first|refine a_seq fun K hK=>?_|((first|refine a_regionS ?_|refine a_ret ?_);simp(maxSteps:=2000000) only[Ty.w,simprocAttr,e0,e1])|(refine hK _ _ ?_;clear hK;try simp only[pst0,simprocAttr]))
   rw[hs]
  |true=>
   repeat'(first|refine a_seq fun K hK=>?_|(refine a_regionS ?_;simp(maxSteps:=2000000) only[Ty.w,simprocAttr,e0,e1])|(refine hK _ _ ?_;clear hK;try simp only[pst0,simprocAttr]))
   cases e2:bsEq args args3 with
   |false=>
    have hs:(Fm.mk op name args params exprs kids).same (.mk op3 name3 args3 params3 exprs3 kids3)=false:=by simp only[Fm.same,bEq,e0,e1,e2,Bool.false_and,Bool.and_false]
    refine owp_useQ (ftexts_c (l:=args) (m:=args3) ha ha3) (by(try simp only[Ty.w,simprocAttr,e0,e1,e2]);try rfl) ?_;simp(maxSteps:=2000000) only[Ty.w,simprocAttr,e0,e1,e2]
    repeat'(first|(refine a_ret ?_;simp(maxSteps:=2000000) only[Ty.w,simprocAttr,e0,e1,e2])|(refine hK _ _ ?_;clear hK;try simp only[pst0,simprocAttr]))
    rw[hs]
   |true=>
    refine owp_useQ (ftexts_c (l:=args) (m:=args3) ha ha3) (by(try simp only[Ty.w,simprocAttr,e0,e1,e2]);try rfl) ?_;simp(maxSteps:=2000000) only[Ty.w,simprocAttr,e0,e1,e2]
    skip
    cases e3:pmsEq params params3 with
    |false=>
     have hs:(Fm.mk op name args params exprs kids).same (.mk op3 name3 args3 params3 exprs3 kids3)=false:=by simp only[Fm.same,bEq,e0,e1,e2,e3,Bool.false_and,Bool.and_false]
     refine owp_useQ (fparams_c (l:=params) (m:=params3) hp hp3) (by(try simp only[Ty.w,simprocAttr,e0,e1,e2,e3]);try rfl) ?_;simp(maxSteps:=2000000) only[Ty.w,simprocAttr,e0,e1,e2,e3]
     repeat'(first|(refine a_ret ?_;simp(maxSteps:=2000000) only[Ty.w,simprocAttr,e0,e1,e2,e3])|(refine hK _ _ ?_;clear hK;try simp only[pst0,simprocAttr]))
     rw[hs]
    |true=>
     refine owp_useQ (fparams_c (l:=params) (m:=params3) hp hp3) (by(try simp only[Ty.w,simprocAttr,e0,e1,e2,e3]);try rfl) ?_;simp(maxSteps:=2000000) only[Ty.w,simprocAttr,e0,e1,e2,e3]
     skip
     cases e4:Ex.sames exprs exprs3 with
     |false=>
      have hs:(Fm.mk op name args params exprs kids).same (.mk op3 name3 args3 params3 exprs3 kids3)=false:=by simp only[Fm.same,bEq,e0,e1,e2,e3,e4,Bool.false_and,Bool.and_false]
      refine owp_useQ (fEqE_c he hfe _) (by(try simp only[Ty.w,simprocAttr,e0,e1,e2,e3,e4]);try rfl) ?_;simp(maxSteps:=2000000) only[Ty.w,simprocAttr,e0,e1,e2,e3,e4]
      repeat'(first|(refine a_ret ?_;simp(maxSteps:=2000000) only[Ty.w,simprocAttr,e0,e1,e2,e3,e4])|(refine hK _ _ ?_;clear hK;try simp only[pst0,simprocAttr]))
      rw[hs]
     |true=>
      refine owp_useQ (fEqE_c he hfe _) (by(try simp only[Ty.w,simprocAttr,e0,e1,e2,e3,e4]);try rfl) ?_;simp(maxSteps:=2000000) only[Ty.w,simprocAttr,e0,e1,e2,e3,e4]
      skip
      have hs:(Fm.mk op name args params exprs kids).same (.mk op3 name3 args3 params3 exprs3 kids3)=Fm.sames kids kids3:=by simp only[Fm.same,bEq,e0,e1,e2,e3,e4,Bool.true_and]
      refine owp_useQ (fEqF_c hk hfk _) (by(try simp only[Ty.w,simprocAttr,e0,e1,e2,e3,e4]);try rfl) ?_;simp(maxSteps:=2000000) only[Ty.w,simprocAttr,e0,e1,e2,e3,e4]
      repeat'(first|(refine a_ret ?_;simp(maxSteps:=2000000) only[Ty.w,simprocAttr,e0,e1,e2,e3,e4])|(refine hK _ _ ?_;clear hK;try simp only[pst0,simprocAttr]))
      rw[hs]
end Go.Proofs.YtjeolbgpllbemaaGreat
namespace Go.AM
mutual
def Sx.small:Sx→Prop
 | .mk _ _ _ _ _ kids=>kids.length≤1048576∧Sx.smalls kids
def Sx.smalls:List Sx→Prop
 |[]=>True
 |k::ks=>k.small∧Sx.smalls ks
end
theorem Sx.smalls_iff:{l:List Sx}→(Sx.smalls l↔ ∀ k∈l,k.small)
 |[]=>by simp[Sx.smalls]
 |k::ks=>by simp[Sx.smalls,Sx.smalls_iff (l:=ks)]
end Go.AM
namespace Go.Proofs.YtjeolbgpllbemaaGreat
open Go.AM
set_option maxHeartbeats 4000000
set_option maxRecDepth 20000
def exprsP:List Sx→List Ex × Int
 |[]=>([],0)
 |x::l=>bif (exprP x).2==0 then(match exprsP l with
  |(es,c)=>bif c==0 then((exprP x).1::es,0)else([],c))else([],(exprP x).2)
theorem exprsP_code: ∀ l:List Sx,((exprsP l).2==0)=true→(exprsP l).2=0:=fun l h=>by simpa using h
theorem exprsP_nil: ∀ l:List Sx,((exprsP l).2==0)=false→(exprsP l).1=[]
 |[],h=>by simp[exprsP]at h
 |x::l,h=>by
  simp only[exprsP]at h⊢
  cases hq:(exprP x).2==0 with
  |false=>rfl
  |true=>
   rw[hq]at h
   simp only[cond_true]at h⊢
   cases hr:(exprsP l).2==0 with
   |false=>rfl
   |true=>rw[hr]at h;simp at h
theorem exprsP_two(w:ByteArray)(rest:List Sx):rest.length=2→(match rest with
    |[a,b]=>(match exprP a with
     | (ea, ca) => bif ca == 0 then (match exprP b with
      |(eb,cb)=>bif cb==0 then((.mk w ⟨#[]⟩ 0 [] [ea,eb],0):Ex × Int)else(zeroEx,cb))else(zeroEx,ca))
    |_=>(zeroEx,2))=(bif (exprsP rest).2==0 then(.mk w ⟨#[]⟩ 0 [] (exprsP rest).1,0)else(zeroEx,(exprsP rest).2)):=by
 intro hl
 match rest,hl with
 |[a,b],_=>
  simp only[exprsP]
  cases ha:(exprP a).2==0
  ·simp only[ha,cond_false]
  ·cases hb:(exprP b).2==0
   ·simp only[ha,hb,cond_true,cond_false]
   ·simp [ha,hb]
theorem tl_one{h:Heap}{id0 z:Nat}{p:PV}{rows:List (List PV)}(t:Tl h id0 z p rows):oneC p=true∧p.cells=[p]:=by
 rcases t with⟨_,rfl|rfl⟩|⟨id,_,_,rfl,_⟩
 ·exact ⟨rfl,rfl⟩
 ·exact ⟨rfl,rfl⟩
 ·exact ⟨rfl,rfl⟩
theorem ex_frz(n:Nat)(h:Heap)(e:Ex):FrzL n h e.cells e.cells:=by
 have hi:=ex_in n e
 obtain⟨op,name,v,args,kids⟩:=e
 simp only[Ex.cells,inNL,inN,and_true,true_and]at hi
 simp only[Ex.cells,FrzL,FrzTo,and_true,true_and]
 exact⟨.inl hi.1,.inl hi.2⟩
theorem exs_frz(n:Nat)(h:Heap): ∀ l:List Ex,FrzR n h (Ex.rows l) (Ex.rows l)
 |[]=>by simp only[Ex.rows,FrzR]
 |k::ks=>by simp only[Ex.rows,FrzR];exact⟨ex_frz n h k,exs_frz n h ks⟩
theorem tl_frzE{h:Heap}{id0 n:Nat}{p:PV}{l:List Ex}(hn:n≤id0)(t:Tl h id0 5 p (Ex.rows l)):FrzTo n h (.imm 5 (Ex.rows l)) p:=by
 simp only[FrzTo]
 rcases t with⟨h1,h2⟩|⟨id,h1,h2,rfl,ho⟩
 ·exact .inr (.inl ⟨h1,h2.symm⟩)
 ·refine .inr (.inr ⟨id,0,_,_,rfl,by omega,ho,by omega,?_⟩)
  rw[List.drop_zero,List.take_of_length_le (by omega)]
  exact exs_frz _ _ _
theorem expr_pm_c{kind value line col:Int}{text:ByteArray}{kids:List Sx}{w:ByteArray}{rest:List Sx}(hok:(Sx.mk kind value line col text kids).ok)(hk2:¬ kind=2)(hM:headM (.mk kind value line col text kids)=some (w,rest))(hp:isPm w=true)
  (hf: ∀ x∈rest, ∀ h:Heap,PCall Tryz.prog 165 [.agg x.cells] h fun r h'=>r= .tup [.agg (exprP x).1.cells,errP (exprP x).2]∧h'=h)(hl:rest.length≤1048576)(h:Heap):
  PCall Tryz.prog 165 [.agg (Sx.mk kind value line col text kids).cells] h fun r h'=>r= .tup [.agg (exprP (.mk kind value line col text kids)).1.cells,errP (exprP (.mk kind value line col text kids)).2]∧h'=h:=by
 refine PCall.frz Ty.hb_165 ?_
 have hh:=head_c hok
 have hX:=exprP_head (.mk kind value line col text kids)
 generalize exprP (.mk kind value line col text kids)=F at hX
 have kk:kindOf (.mk kind value line col text kids)=kind:=rfl
 have k2:(kind==2)=false:=by simpa using hk2
 rw[kk,k2,hM]at hX
 simp only[cond_false,hp,cond_true]at hX
 rw[hM]at hh
 simp only[headV]at hh
 simp only[Sx.cells]at hh⊢
 have hlr:=Sx.rows_len rest
 refine pcall_body (ow:=fun _=>false) (wf:=fun _=>false) Ty.mixed Tryz.func165 rfl Ty.hb_165 (by rw[Tryz.ntmps165];simp) ?_
 rw[Tryz.ntmps165,Tryz.results165]
 repeat'(first|refine a_seq fun K hK=>?_|(refine a_regionS ?_;simp(maxSteps:=2000000) only[Ty.w,simprocAttr,k2])|(refine a_skip ?_;try simp only[pst0,simprocAttr])|(refine a_cond _ (by(try simp(maxSteps:=2000000) only[Ty.w,simprocAttr,k2]);rfl) (fun hb=>?_) (fun hb=>?_)<;>(try simp only[hb0,decide_eq_true_eq,decide_eq_false_iff_not,simprocAttr]at hb)<;>(try(exfalso;omega)))|(refine hK _ _ ?_;clear hK;try simp only[pst0,simprocAttr]))
 refine owp_useQ (hh _) (by(try simp only[Ty.w,simprocAttr,k2,Bool.not_true]);try rfl) ?_;simp(maxSteps:=2000000) only[Ty.w,simprocAttr,k2,Bool.not_true]
 iterate 9 (first|refine a_seq fun K hK=>?_|(refine a_regionS ?_;simp(maxSteps:=2000000) only[Ty.w,simprocAttr,k2,Bool.not_true])|(refine a_skip ?_;try simp only[pst0,simprocAttr])|(refine a_cond _ (by(try simp(maxSteps:=2000000) only[Ty.w,simprocAttr,k2,Bool.not_true]);rfl) (fun hb=>?_) (fun hb=>?_)<;>(try simp only[hb0,decide_eq_true_eq,decide_eq_false_iff_not,simprocAttr]at hb)<;>(try(exfalso;omega)))|(refine hK _ _ ?_;clear hK;try simp only[pst0,simprocAttr]))
 refine a_cutK (fun S h'=>h'=h.new (.arr 5 [[.sc (.string ⟨#[]⟩),.sc (.string ⟨#[]⟩),.sc (.int .i64 0),.sc (.slice none 0 0),.sc (.slice none 0 0)]])∧S 2= .ptr h.next 0 0∧S 4=sPV w∧S 5= .imm 6 (Sx.rows rest)) ?_ ?_
 ·have hp':=hp
  unfold isPm opPls opMin opTim bEq at hp'
  clear hX hf
  cases p1:(w.data.toList==(#[43]:Array UInt8).toList)with
  |true=>
   repeat'(first|refine a_seq fun K hK=>?_|(refine a_regionS ?_;simp(maxSteps:=2000000) only[Ty.w,simprocAttr,k2,p1,Bool.not_true])|(refine a_skip ?_;try simp only[pst0,simprocAttr])|(refine a_cond _ (by(try simp(maxSteps:=2000000) only[Ty.w,simprocAttr,k2,p1,Bool.not_true]);rfl) (fun hb=>?_) (fun hb=>?_)<;>(try simp only[hb0,decide_eq_true_eq,decide_eq_false_iff_not,simprocAttr]at hb)<;>(try(exfalso;omega)))|(refine hK _ _ ?_;clear hK;try simp only[pst0,simprocAttr]))
   all_goals(simp(maxSteps:=2000000) only[Ty.w,simprocAttr])
  |false=>
   cases p2:(w.data.toList==(#[45]:Array UInt8).toList)with
   |true=>
    repeat'(first|refine a_seq fun K hK=>?_|(refine a_regionS ?_;simp(maxSteps:=2000000) only[Ty.w,simprocAttr,k2,p1,p2,Bool.not_true,Bool.not_false])|(refine a_skip ?_;try simp only[pst0,simprocAttr])|(refine a_cond _ (by(try simp(maxSteps:=2000000) only[Ty.w,simprocAttr,k2,p1,p2,Bool.not_true,Bool.not_false]);rfl) (fun hb=>?_) (fun hb=>?_)<;>(try simp only[hb0,decide_eq_true_eq,decide_eq_false_iff_not,simprocAttr]at hb)<;>(try(exfalso;omega)))|(refine hK _ _ ?_;clear hK;try simp only[pst0,simprocAttr]))
    all_goals(simp(maxSteps:=2000000) only[Ty.w,simprocAttr])
   |false=>
    have p3:(w.data.toList==(#[42]:Array UInt8).toList)=true:=by
     rw[p1,p2]at hp';simpa using hp'
    repeat'(first|refine a_seq fun K hK=>?_|(refine a_regionS ?_;simp(maxSteps:=2000000) only[Ty.w,simprocAttr,k2,p1,p2,p3,Bool.not_true,Bool.not_false])|(refine a_skip ?_;try simp only[pst0,simprocAttr])|(refine a_cond _ (by(try simp(maxSteps:=2000000) only[Ty.w,simprocAttr,k2,p1,p2,p3,Bool.not_true,Bool.not_false]);rfl) (fun hb=>?_) (fun hb=>?_)<;>(try simp only[hb0,decide_eq_true_eq,decide_eq_false_iff_not,simprocAttr]at hb)<;>(try(exfalso;omega)))|(refine hK _ _ ?_;clear hK;try simp only[pst0,simprocAttr]))
    all_goals(simp(maxSteps:=2000000) only[Ty.w,simprocAttr])
 ·rintro S h' ⟨rfl,g2,g4,g5⟩
  refine hK _ _ ?_
  clear hK hh
  cases q:(((Sx.rows rest).length:Int) !=2)with
  |true=>
   have hF:F=(zeroEx,2):=by
    rw[hX]
    split
    ·rw [hlr]at q;simp at q
    ·rfl
   subst hF
   repeat'(first|refine a_seq fun K hK=>?_|((first|refine a_regionS ?_|refine a_ret ?_);simp(maxSteps:=2000000) only[Ty.w,simprocAttr,g2,g4,g5,q])|(refine hK _ _ ?_;clear hK;try simp only[pst0,simprocAttr]))
   refine⟨?_,((Grow.refl h).new _).set (Nat.le_refl _) _⟩
   have e2:errP 2=errV 2:=rfl
   simp only[e2,errV,zeroEx,Ex.cells,Ex.rows,strRows,List.map_nil,FrzTo,FrzL]
   exact⟨_,rfl,⟨_,rfl,rfl,rfl,rfl,.inr (.inl ⟨rfl,.inr rfl⟩),.inr (.inl ⟨rfl,.inr rfl⟩),trivial⟩,rfl,trivial⟩
  |false=>
   have q':(((Sx.rows rest).length:Int)=2):=by simpa using q
   have hF:F=(bif (exprsP rest).2==0 then(.mk w ⟨#[]⟩ 0 [] (exprsP rest).1,0)else(zeroEx,(exprsP rest).2)):=by
    rw[hX];exact exprsP_two w rest (by rw[hlr]at q';omega)
   clear hX
   repeat'(first|refine a_seq fun K hK=>?_|(refine a_block ?_)|(refine a_regionS ?_;simp(maxSteps:=2000000) only[Ty.w,simprocAttr,g2,g4,g5,q])|(refine a_skip ?_;try simp only[pst0,simprocAttr])|(refine a_cond _ (by(try simp(maxSteps:=2000000) only[Ty.w,simprocAttr,g2,g4,g5,q]);rfl) (fun hb=>?_) (fun hb=>?_)<;>(try simp only[hb0,decide_eq_true_eq,decide_eq_false_iff_not,simprocAttr]at hb)<;>(try(exfalso;omega)))|(refine hK _ _ ?_;clear hK;try simp only[pst0,simprocAttr]))
   refine a_loop (fun m S h'=>S 2= .ptr h.next 0 0∧S 9= .ptr (h.next+1) 0 0∧S 64= .imm 6 (Sx.rows rest)∧S 65= .sc (.int .i64 (Sx.rows rest).length)∧ ∃ (k:Nat)(o:PV)(pre:List Ex),S 66= .sc (.int .i64 k)∧k≤rest.length∧m=rest.length-k∧Grow h h'∧h.next+1<h'.next∧pre.length=k∧
    h'.obj h.next=some (.arr 5 [[.sc (.string ⟨#[]⟩),.sc (.string ⟨#[]⟩),.sc (.int .i64 0),.sc (.slice none 0 0),.sc (.slice none 0 0)]])∧h'.obj (h.next+1)=some (.arr 5 [[sPV w,.sc (.string ⟨#[]⟩),.sc (.int .i64 0),.sc (.slice none 0 0),o]])∧Tl h' (h.next+2) 5 o (Ex.rows pre)∧
    exprsP rest=(bif (exprsP (rest.drop k)).2==0 then(pre++(exprsP (rest.drop k)).1,0)else([],(exprsP (rest.drop k)).2))) rest.length ?_ ?_
   ·simp only[Ty.w,simprocAttr,g2]
    refine⟨0,_,[],rfl,by omega,rfl,?_,?_,rfl,?_,?_,Tl.nil,?_⟩
    ·exact ((Grow.refl h).new _).new _|>.set (show h.next≤h.next+1 by omega) _
    ·simp [Heap.new,Heap.set]
    ·have e1:¬ h.next=h.next+1:=by omega
     simp[Heap.new,Heap.set,e1]
    ·simp [Heap.new,Heap.set]
    ·rw [List.drop_zero]
     cases hq:(exprsP rest).2==0
     ·simp only[cond_false];rw[← exprsP_nil rest hq]
     ·simp only[cond_true,List.nil_append];rw[← exprsP_code rest hq]
   ·clear g2 g4 g5
    rintro m S h' ⟨g2,g9,g64,g65,k,o,pre,g66,hk,rfl,hg,hnx,hpl,o1,o2,tl,hinv⟩
    rw[hlr]at g65
    by_cases hlt:k<rest.length
    ·have hd:decide ((k:Int)<(rest.length:Int))=true:=by simp;omega
     have w7:IntKind.i64.wrap ((k:Int)+1)=k+1:=by rw[wrap64 (by omega) (by omega)]
     obtain⟨x,hx⟩: ∃ x,rest[k]? =some x:=⟨_,List.getElem?_eq_getElem hlt⟩
     have hr:=Sx.rows_get hx
     have hc:=hf x (List.mem_of_getElem? hx)
     rw[drop_of_get hx]at hinv
     simp only[exprsP]at hinv
     have hin:=ex_in
     generalize hE:exprP x=E at hc hinv
     obtain⟨e,c⟩:=E
     simp only at hc hinv
     clear hE hf
     obtain⟨ki,va,li,co,te,ks⟩:=x
     simp only[Sx.cells]at hr hc
     have her:=fun l=>Ex.rows_map (l++[e])
     have n1:(h.next=h'.next)=False:=by simp;omega
     have n2:(h.next+1=h'.next)=False:=by simp;omega
     have n3:(h.next=h'.next+1)=False:=by simp;omega
     have n4:(h.next=h'.next)=False:=by simp;omega
     have n5:(h.next+1=h'.next+1)=False:=by simp;omega
     cases hcc:c==0 with
     |false=>
      rw[hcc]at hinv
      simp only[cond_false]at hinv
      have e0:errP c=errV c:=by simp only[errP,hcc,cond_false]
      rw[e0]at hc
      simp only[errV]at hc
      have hq:exprsP rest=([],c):=by rw[hinv];simp only[hcc,cond_false]
      rw[hq]at hF
      simp only[hcc,cond_false]at hF
      subst hF
      obtain⟨eop,ena,en,ear,eki⟩:=e
      simp only[Ex.cells]at hc
      have W:=And.intro g2 (And.intro g9 (And.intro g64 (And.intro g65 (And.intro g66 (And.intro hd (And.intro hr (And.intro o1 (And.intro o2 (And.intro n1 (And.intro n2 (And.intro n3 n5)))))))))))
      repeat'(first|refine a_seq fun K hK=>?_|(refine a_regionS ?_;simp(maxSteps:=2000000) only[Ty.w,simprocAttr,W,nsucc])|(refine a_skip ?_;try simp only[pst0,simprocAttr])|(refine a_cond _ (by(try simp(maxSteps:=2000000) only[Ty.w,simprocAttr,W,nsucc]);rfl) (fun hb=>?_) (fun hb=>?_)<;>(try simp only[hb0,decide_eq_true_eq,decide_eq_false_iff_not,simprocAttr]at hb)<;>(try(exfalso;omega)))|(refine hK _ _ ?_;clear hK;try simp only[pst0,simprocAttr]))
      refine owp_useQ (hc _) (by(try simp only[Ty.w,simprocAttr,W,nsucc]);try rfl) ?_;simp(maxSteps:=2000000) only[Ty.w,simprocAttr,W,nsucc]
      repeat'(first|refine a_seq fun K hK=>?_|((first|refine a_regionS ?_|refine a_ret ?_);simp(maxSteps:=2000000) only[Ty.w,simprocAttr,W,nsucc])|(refine hK _ _ ?_;clear hK;try simp only[pst0,simprocAttr]))
      have e2:errP c= .sc (.iface 45 (.int .i64 c)):=by rw[e0];try rfl
      rw[e2]
      refine⟨?_,(((((hg.new _).set hg.le _).new _).set (show h.next≤h'.next+1 by have:=hg.le;omega) _).set (Nat.le_refl _) _)⟩
      simp only[zeroEx,Ex.cells,Ex.rows,strRows,List.map_nil,FrzTo,FrzL]
      exact⟨_,rfl,⟨_,rfl,rfl,rfl,rfl,.inr (.inl ⟨rfl,.inr rfl⟩),.inr (.inl ⟨rfl,.inr rfl⟩),trivial⟩,rfl,trivial⟩
     |true=>
      have e0:errP c= .sc .nilIface:=by simp only[errP,hcc,cond_true]
      rw[e0]at hc
      have hto:=tl_one tl
      have hrows:Ex.rows (pre++[e])=Ex.rows pre++[e.cells]:=by simp only[Ex.rows_map,List.map_append,List.map_cons,List.map_nil]
      obtain⟨eop,ena,en,ear,eki⟩:=e
      simp only[Ex.cells]at hc hrows
      have hold: ∀ j,j<h'.next→(((((h'.new (.arr 6 [[.sc (.int .i64 0),.sc (.int .i64 0),.sc (.int .i64 0),.sc (.int .i64 0),.sc (.string ⟨#[]⟩),.sc (.slice none 0 0)]])).set h'.next (.arr 6 [[.sc (.int .i64 ki),.sc (.int .i64 va),.sc (.int .i64 li),.sc (.int .i64 co),sPV te,.imm 6 (Sx.rows ks)]])).new (.arr 5 [[.sc (.string ⟨#[]⟩),.sc (.string ⟨#[]⟩),.sc (.int .i64 0),.sc (.slice none 0 0),.sc (.slice none 0 0)]])).set (h'.next+1) (.arr 5 [[sPV eop,sPV ena,.sc (.int .i64 en),.imm 1 (strRows ear),.imm 5 (Ex.rows eki)]])):Heap).obj j=h'.obj j:=fun j hj=>by
       have a1:¬ j=h'.next:=by omega
       have a2:¬ j=h'.next+1:=by omega
       simp only[Heap.new,Heap.set,a1,a2,if_false]
      have tl2:=tl.up (h':=((((h'.new (.arr 6 [[.sc (.int .i64 0),.sc (.int .i64 0),.sc (.int .i64 0),.sc (.int .i64 0),.sc (.string ⟨#[]⟩),.sc (.slice none 0 0)]])).set h'.next (.arr 6 [[.sc (.int .i64 ki),.sc (.int .i64 va),.sc (.int .i64 li),.sc (.int .i64 co),sPV te,.imm 6 (Sx.rows ks)]])).new (.arr 5 [[.sc (.string ⟨#[]⟩),.sc (.string ⟨#[]⟩),.sc (.int .i64 0),.sc (.slice none 0 0),.sc (.slice none 0 0)]])).set (h'.next+1) (.arr 5 [[sPV eop,sPV ena,.sc (.int .i64 en),.imm 1 (strRows ear),.imm 5 (Ex.rows eki)]]))) (by simp[Heap.new,Heap.set];omega) (fun j _ hj=>hold j hj)
      have hg2:Grow h ((((h'.new (.arr 6 [[.sc (.int .i64 0),.sc (.int .i64 0),.sc (.int .i64 0),.sc (.int .i64 0),.sc (.string ⟨#[]⟩),.sc (.slice none 0 0)]])).set h'.next (.arr 6 [[.sc (.int .i64 ki),.sc (.int .i64 va),.sc (.int .i64 li),.sc (.int .i64 co),sPV te,.imm 6 (Sx.rows ks)]])).new (.arr 5 [[.sc (.string ⟨#[]⟩),.sc (.string ⟨#[]⟩),.sc (.int .i64 0),.sc (.slice none 0 0),.sc (.slice none 0 0)]])).set (h'.next+1) (.arr 5 [[sPV eop,sPV ena,.sc (.int .i64 en),.imm 1 (strRows ear),.imm 5 (Ex.rows eki)]])):=(((hg.new _).set hg.le _).new _).set (show h.next≤h'.next+1 by have:=hg.le;omega) _
      have hnn:(((((h'.new (.arr 6 [[.sc (.int .i64 0),.sc (.int .i64 0),.sc (.int .i64 0),.sc (.int .i64 0),.sc (.string ⟨#[]⟩),.sc (.slice none 0 0)]])).set h'.next (.arr 6 [[.sc (.int .i64 ki),.sc (.int .i64 va),.sc (.int .i64 li),.sc (.int .i64 co),sPV te,.imm 6 (Sx.rows ks)]])).new (.arr 5 [[.sc (.string ⟨#[]⟩),.sc (.string ⟨#[]⟩),.sc (.int .i64 0),.sc (.slice none 0 0),.sc (.slice none 0 0)]])).set (h'.next+1) (.arr 5 [[sPV eop,sPV ena,.sc (.int .i64 en),.imm 1 (strRows ear),.imm 5 (Ex.rows eki)]])):Heap).next=h'.next+1+1:=by simp[Heap.new,Heap.set]
      obtain⟨H,t1,t2,t3,t4,t5⟩:=tl2.tail
      have u9:=t4 (h.next+1) (by omega)
      rw[hold _ hnx,o2]at u9
      have u0:=t4 h.next (by omega)
      rw[hold _ (by omega),o1]at u0
      rw[hnn]at t3
      have hkp:=t5 h ⟨hg2.le,hg2.old⟩ (by omega)
      have hgH:Grow h H:=⟨hkp.1,hkp.2⟩
      have hpr:(Ex.rows pre).length=k:=by rw[Ex.rows_len];exact hpl
      have hb:(k+1)*88≤140737488355328:=by omega
      have n6:(h.next+1=H.next)=False:=by simp;omega
      have n7:(h.next+1=h'.next+1+1)=False:=by simp;omega
      have W:=And.intro g2 (And.intro g9 (And.intro g64 (And.intro g65 (And.intro g66 (And.intro hd (And.intro hr (And.intro o1 (And.intro o2 (And.intro n1 (And.intro n2 (And.intro n3 (And.intro n6 (And.intro n5 (And.intro n7 (And.intro t1 (And.intro t2 (And.intro u9 (And.intro hpr (And.intro hb w7)))))))))))))))))))
      repeat'(first|refine a_seq fun K hK=>?_|(refine a_regionS ?_;simp(maxSteps:=2000000) only[Ty.w,simprocAttr,W,nsucc])|(refine a_skip ?_;try simp only[pst0,simprocAttr])|(refine a_cond _ (by(try simp(maxSteps:=2000000) only[Ty.w,simprocAttr,W,nsucc]);rfl) (fun hb=>?_) (fun hb=>?_)<;>(try simp only[hb0,decide_eq_true_eq,decide_eq_false_iff_not,simprocAttr]at hb)<;>(try(exfalso;omega)))|(refine hK _ _ ?_;clear hK;try simp only[pst0,simprocAttr]))
      refine owp_useQ (hc _) (by(try simp only[Ty.w,simprocAttr,W,nsucc]);try rfl) ?_;simp(maxSteps:=2000000) only[Ty.w,simprocAttr,W,nsucc]
      repeat'(first|refine a_seq fun K hK=>?_|((first|refine a_regionS ?_|refine a_region (fun K hK=>?_));simp(maxSteps:=2000000) only[Ty.w,simprocAttr,W,nsucc])|(refine a_skip ?_;try simp only[pst0,simprocAttr])|(refine a_cond _ (by(try simp(maxSteps:=2000000) only[Ty.w,simprocAttr,W,nsucc]);rfl) (fun hb=>?_) (fun hb=>?_)<;>(try simp only[hb0,decide_eq_true_eq,decide_eq_false_iff_not,simprocAttr]at hb)<;>(try(exfalso;omega)))|(refine hK _ _ ?_;clear hK;try simp only[pst0,simprocAttr])|(rw[if_pos];rotate_left 1;omega;simp(maxSteps:=2000000) only[Ty.w,simprocAttr,W,nsucc]))
      rw[← hrows]
      have hgr:=Tl.grow (H:=H) (id0:=h.next+2) (z:=5) (len:=k+1) (rows:=Ex.rows (pre++[Ex.mk eop ena en ear eki])) (by omega) (by rw[Ex.rows_len];simp[hpl])
      refine⟨rest.length-(k+1),by omega,by rw[hlr],k+1,.own H.next 0 (k+1),pre++[Ex.mk eop ena en ear eki],by simp,by omega,rfl,(hgH.new _).set (show h.next≤h.next+1 by omega) _,by omega,by simp[hpl],?_,by rw[t3],?_,?_⟩
      ·rw [if_neg (by omega)];exact u0
      ·exact hgr.up (Nat.le_refl _) (fun j hj _=>by simp only[Heap.set];rw[if_neg (by omega)])
      ·rw [hinv,hcc]
       simp only[cond_true]
       cases hq:(exprsP (List.drop (k+1) rest)).2==0 with
       |false=>simp only[hq,cond_false]
       |true=>simp only[cond_true,beq_self_eq_true,List.append_assoc,List.cons_append,List.nil_append]
    ·have hd:decide ((k:Int)<(rest.length:Int))=false:=by simp;omega
     rw[List.drop_eq_nil_of_le (by omega)]at hinv
     have hq:exprsP rest=(pre,0):=by rw[hinv];simp[exprsP]
     rw[hq]at hF
     have hF2:F=(.mk w ⟨#[]⟩ 0 [] pre,0):=hF
     clear hF
     subst hF2
     have ho:=(tl_one tl).1
     have n1:(h.next+1=h.next)=False:=by simp
     repeat'(first|refine a_seq fun K hK=>?_|((first|refine a_regionS ?_|refine a_ret ?_);simp(maxSteps:=2000000) only[Ty.w,simprocAttr,g2,g9,g64,g65,g66,hd,o1,o2,ho,n1])|(refine a_exit ?_;try simp only[pst0,simprocAttr])|(refine a_cond _ (by(try simp(maxSteps:=2000000) only[Ty.w,simprocAttr,g2,g9,g64,g65,g66,hd,o1,o2,ho,n1]);rfl) (fun hb=>?_) (fun hb=>?_)<;>(try simp only[hb0,decide_eq_true_eq,decide_eq_false_iff_not,simprocAttr]at hb)<;>(try(exfalso;omega)))|((first|refine hK _ _ ?_|(clear hK;refine hK _ _ ?_));clear hK;try simp only[pst0,simprocAttr]))
     refine⟨?_,hg.set (Nat.le_refl _) _⟩
     have e2:errP 0= .sc .nilIface:=rfl
     rw[e2]
     have h1:FrzTo h.next (h'.set h.next (.arr 5 [[sPV w,.sc (.string ⟨#[]⟩),.sc (.int .i64 0),.sc (.slice none 0 0),o]])) (.imm 5 (Ex.rows pre)) o:=tl_frzE (by omega) (tl.up (Nat.le_refl _) (fun j hj _=>by simp only[Heap.set];rw[if_neg (by omega)]))
     generalize h'.set h.next (.arr 5 [[sPV w,.sc (.string ⟨#[]⟩),.sc (.int .i64 0),.sc (.slice none 0 0),o]])=H at h1⊢
     simp only[Ex.cells,strRows,List.map_nil]
     unfold FrzTo
     refine⟨_,rfl,?_⟩
     unfold FrzL
     refine⟨?_,by unfold FrzL;exact⟨by simp only[FrzTo],by simp only[FrzL]⟩⟩
     unfold FrzTo
     refine⟨_,rfl,?_⟩
     unfold FrzL
     refine⟨by simp only[FrzTo],?_⟩
     unfold FrzL
     refine⟨by simp only[FrzTo],?_⟩
     unfold FrzL
     refine⟨by simp only[FrzTo],?_⟩
     unfold FrzL
     refine⟨by simp[FrzTo],?_⟩
     unfold FrzL
     exact⟨h1,by simp only[FrzL]⟩
theorem headM_rest{kind value line col:Int}{text:ByteArray}{kids:List Sx}{w:ByteArray}{rest:List Sx}(h:headM (.mk kind value line col text kids)=some (w,rest)): ∃ y,kids=y::rest:=by
 simp only[headM]at h
 split at h
 ·cases kids with
  |nil=>simp at h
  |cons y r=>
   simp only at h
   cases hk:kindOf y==1 with
   |false=>rw[hk]at h;simp at h
   |true=>
    rw[hk]at h
    simp only[cond_true,Option.some.injEq,Prod.mk.injEq]at h
    exact⟨y,by rw[h.2]⟩
 ·simp at h
theorem expr_c: ∀ x:Sx,x.ok→x.small→ ∀ h:Heap,PCall Tryz.prog 165 [.agg x.cells] h fun r h'=>r= .tup [.agg (exprP x).1.cells,errP (exprP x).2]∧h'=h:=by
 refine Sx.ind ?_
 intro kind value line col text kids ih hok hsm h
 have hok':=hok
 simp only[Sx.ok]at hok'
 obtain⟨_,_,_,_,hks⟩:=hok'
 rw[Sx.oks_iff]at hks
 simp only[Sx.small]at hsm
 obtain⟨hl,hss⟩:=hsm
 rw[Sx.smalls_iff]at hss
 have hrl: ∀ w rest,headM (.mk kind value line col text kids)=some (w,rest)→rest.length≤1048576:=fun w rest e=>by
  obtain⟨y,rfl⟩:=headM_rest e
  simp at hl;omega
 by_cases hk2:kind=2
 ·exact expr_plain_c hok hrl (.inl hk2) h
 ·cases hM:headM (.mk kind value line col text kids)with
  |none=>exact expr_plain_c hok hrl (.inr fun w rest e=>by rw[hM]at e;simp at e) h
  |some wr=>
   obtain⟨w,rest⟩:=wr
   cases hp:isPm w with
   |false=>exact expr_plain_c hok hrl (.inr fun w2 rest2 e=>by rw[hM]at e;simp at e;rw[← e.1];exact hp) h
   |true=>
    obtain⟨y,hy⟩:=headM_rest hM
    exact expr_pm_c hok hk2 hM hp (fun x hx=>ih x (by rw[hy];simp[hx]) (hks x (by rw[hy];simp[hx])) (hss x (by rw[hy];simp[hx]))) (hrl w rest hM) h
end Go.Proofs.YtjeolbgpllbemaaGreat
namespace Go.Proofs.YtjeolbgpllbemaaGreat
open Go.AM
set_option maxHeartbeats 2000000
set_option maxRecDepth 20000
theorem dig_cls(c:UInt8):(digB c=true∧decide ((c.toNat:Int)<48)=false∧decide ((c.toNat:Int)>57)=false)∨(digB c=false∧decide ((c.toNat:Int)<48)=true)∨(digB c=false∧decide ((c.toNat:Int)<48)=false∧decide ((c.toNat:Int)>57)=true):=by
 simp only[digB,Bool.and_eq_true,Bool.and_eq_false_iff,decide_eq_true_eq,decide_eq_false_iff_not]
 omega
theorem rdigits_c{h:Heap}{s:ByteArray}(hs:s.size≤bigN):PCall Tryz.prog 147 [sPV s] h fun r h'=>r= .sc (.bool (s.data.toList.all digB&&decide (0<s.size)))∧h'=h:=by
 unfold bigN at hs
 have htl:s.data.toList.length=s.size:=by rw[Array.length_toList];try rfl
 refine pcall_body (ow:=fun _=>false) (wf:=fun _=>false) Ty.mixed Tryz.func147 rfl Ty.hb_147 (by rw[Tryz.ntmps147];simp) ?_
 rw[Tryz.ntmps147,Tryz.results147]
 repeat'(first|refine a_seq fun K hK=>?_|(refine a_block ?_)|(refine a_regionS ?_;simp(maxSteps:=2000000) only[Ty.w,simprocAttr])|(refine hK _ _ ?_;clear hK;try simp only[pst0,simprocAttr]))
 refine a_loop (fun m S h'=>h'=h∧S 0=sPV s∧ ∃ k:Nat,S 3= .sc (.int .i64 k)∧k≤s.size∧m=s.size-k∧ ∀ (i:Nat)(c:UInt8),i<k→s.data.toList[i]? =some c→digB c=true) s.size ?_ ?_
 ·simp only[Ty.w,simprocAttr]
  exact⟨0,rfl,by omega,rfl,by omega⟩
 ·rintro m S h' ⟨rfl,g0,k,g3,hk,rfl,hall⟩
  by_cases hlt:k<s.size
  ·have hd:decide ((k:Int)<(s.size:Int))=true:=by simp;omega
   have w7:IntKind.i64.wrap ((k:Int)+1)=k+1:=by rw[wrap64 (by omega) (by omega)]
   obtain⟨c,hx⟩: ∃ c,s.data.toList[k]? =some c:=⟨_,List.getElem?_eq_getElem (by omega)⟩
   have hr:s[k]? =some c:=by rw[ba_get];exact hx
   have bad:digB c=false→s.data.toList.all digB=false:=fun hg=>by rw[List.all_eq_false];exact⟨c,List.mem_of_getElem? hx,by simp[hg]⟩
   rcases dig_cls c with⟨hg,c1,c2⟩|⟨hg,c1⟩|⟨hg,c1,c2⟩
   ·repeat' (first|refine a_seq fun K hK=>?_|(refine a_block ?_)|(refine a_regionS ?_;simp(maxSteps:=2000000) only[Ty.w,simprocAttr,g0,g3,hd,hr,c1,c2,w7])|(refine a_skip ?_;try simp only[pst0,simprocAttr])|(refine a_cond _ (by(try simp(maxSteps:=2000000) only[Ty.w,simprocAttr,g0,g3,hd,hr,c1,c2,w7]);rfl) (fun hb=>?_) (fun hb=>?_)<;>(try simp only[hb0,decide_eq_true_eq,decide_eq_false_iff_not,simprocAttr]at hb)<;>(try(exfalso;omega)))|(refine hK _ _ ?_;clear hK;try simp only[pst0,simprocAttr]))
    refine⟨s.size-(k+1),by omega,k+1,by simp,by omega,rfl,fun i c2 hi hw=>?_⟩
    by_cases hik:i=k
    ·subst hik;rw[hx]at hw;simp at hw;rw[← hw];exact hg
    ·exact hall i c2 (by omega) hw
   ·repeat' (first|refine a_seq fun K hK=>?_|((first|refine a_regionS ?_|refine a_ret ?_);simp(maxSteps:=2000000) only[Ty.w,simprocAttr,g0,g3,hd,hr,c1])|(refine a_skip ?_;try simp only[pst0,simprocAttr])|(refine a_cond _ (by(try simp(maxSteps:=2000000) only[Ty.w,simprocAttr,g0,g3,hd,hr,c1]);rfl) (fun hb=>?_) (fun hb=>?_)<;>(try simp only[hb0,decide_eq_true_eq,decide_eq_false_iff_not,simprocAttr]at hb)<;>(try(exfalso;omega)))|(refine hK _ _ ?_;clear hK;try simp only[pst0,simprocAttr]))
    rw[bad hg];try rfl
   ·repeat' (first|refine a_seq fun K hK=>?_|((first|refine a_regionS ?_|refine a_ret ?_);simp(maxSteps:=2000000) only[Ty.w,simprocAttr,g0,g3,hd,hr,c1,c2])|(refine a_skip ?_;try simp only[pst0,simprocAttr])|(refine a_cond _ (by(try simp(maxSteps:=2000000) only[Ty.w,simprocAttr,g0,g3,hd,hr,c1,c2]);rfl) (fun hb=>?_) (fun hb=>?_)<;>(try simp only[hb0,decide_eq_true_eq,decide_eq_false_iff_not,simprocAttr]at hb)<;>(try(exfalso;omega)))|(refine hK _ _ ?_;clear hK;try simp only[pst0,simprocAttr]))
    rw[bad hg];try rfl
  ·have hd:decide ((k:Int)<(s.size:Int))=false:=by simp;omega
   have hok:s.data.toList.all digB=true:=by
    rw[List.all_eq_true]
    intro c hc
    obtain⟨i,hi⟩:=List.getElem?_of_mem hc
    exact hall i c (by have:=(List.getElem?_eq_some_iff.1 hi).1;omega) hi
   have e1:decide ((s.size:Int)>0)=decide (0<s.size):=decide_eq_decide.2 (by omega)
   clear hall
   repeat'(first|refine a_seq fun K hK=>?_|((first|refine a_regionS ?_|refine a_ret ?_);simp(maxSteps:=2000000) only[Ty.w,simprocAttr,g0,g3,hd])|(refine a_exit ?_;try simp only[pst0,simprocAttr])|(refine a_cond _ (by(try simp(maxSteps:=2000000) only[Ty.w,simprocAttr,g0,g3,hd]);rfl) (fun hb=>?_) (fun hb=>?_)<;>(try simp only[hb0,decide_eq_true_eq,decide_eq_false_iff_not,simprocAttr]at hb)<;>(try(exfalso;omega)))|((first|refine hK _ _ ?_|(clear hK;refine hK _ _ ?_));clear hK;try simp only[pst0,simprocAttr]))
   rw[hok,e1];try rfl
theorem rnumeric_c{h:Heap}{s:ByteArray}(hs:s.size≤bigN):PCall Tryz.prog 119 [sPV s] h fun r h'=>r= .sc (.bool (numB s))∧h'=h:=by
 have htl:s.data.toList.length=s.size:=by rw[Array.length_toList];try rfl
 cases b1:decide ((s.size:Int)>0)with
 |false=>
  have ht:trimB s=s:=by
   have:s.data.toList=[]:=List.eq_nil_of_length_eq_zero (by have:=of_decide_eq_false b1;omega)
   unfold trimB;rw[this]
  have hd:=rdigits_c (h:=h) hs
  refine pcall_body (ow:=fun _=>false) (wf:=fun _=>false) Ty.mixed Tryz.func119 rfl Ty.hb_119 (by rw[Tryz.ntmps119];simp) ?_
  rw[Tryz.ntmps119,Tryz.results119]
  repeat'(first|refine a_seq fun K hK=>?_|(refine a_regionS ?_;simp(maxSteps:=2000000) only[Ty.w,simprocAttr,b1])|(refine a_skip ?_;try simp only[pst0,simprocAttr])|(refine a_cond _ (by(try simp(maxSteps:=2000000) only[Ty.w,simprocAttr,b1]);rfl) (fun hb=>?_) (fun hb=>?_)<;>(try simp only[hb0,decide_eq_true_eq,decide_eq_false_iff_not,simprocAttr]at hb)<;>(try(exfalso;omega)))|(refine hK _ _ ?_;clear hK;try simp only[pst0,simprocAttr]))
  refine owp_useQ (hd) (by(try simp only[Ty.w,simprocAttr,b1]);try rfl) ?_;simp(maxSteps:=2000000) only[Ty.w,simprocAttr,b1]
  repeat'(first|(refine a_ret ?_;simp(maxSteps:=2000000) only[Ty.w,simprocAttr])|(refine hK _ _ ?_;clear hK;try simp only[pst0,simprocAttr]))
  rw[show numB s=((trimB s).data.toList.all digB&&decide (0<(trimB s).size))from rfl,ht]
 |true=>
  have hpos:0<s.size:=by simp at b1;omega
  obtain⟨c,hx⟩: ∃ c,s.data.toList[0]? =some c:=⟨_,List.getElem?_eq_getElem (by omega)⟩
  have hr:s[0]? =some c:=by rw[ba_get];exact hx
  cases b2:((c.toNat:Int)==45)with
  |false=>
   have ht:trimB s=s:=by
    unfold trimB
    split
    ·rename_i l heq
     rw[heq]at hx
     simp at hx
     subst hx
     simp at b2
    ·rfl
   have hd:=rdigits_c (h:=h) hs
   refine pcall_body (ow:=fun _=>false) (wf:=fun _=>false) Ty.mixed Tryz.func119 rfl Ty.hb_119 (by rw[Tryz.ntmps119];simp) ?_
   rw[Tryz.ntmps119,Tryz.results119]
   repeat'(first|refine a_seq fun K hK=>?_|(refine a_regionS ?_;simp(maxSteps:=2000000) only[Ty.w,simprocAttr,b1,hr,b2])|(refine a_skip ?_;try simp only[pst0,simprocAttr])|(refine a_cond _ (by(try simp(maxSteps:=2000000) only[Ty.w,simprocAttr,b1,hr,b2]);rfl) (fun hb=>?_) (fun hb=>?_)<;>(try simp only[hb0,decide_eq_true_eq,decide_eq_false_iff_not,simprocAttr]at hb)<;>(try(exfalso;omega)))|(refine hK _ _ ?_;clear hK;try simp only[pst0,simprocAttr]))
   refine owp_useQ (hd) (by(try simp only[Ty.w,simprocAttr,b1,b2]);try rfl) ?_;simp(maxSteps:=2000000) only[Ty.w,simprocAttr,b1,b2]
   repeat'(first|(refine a_ret ?_;simp(maxSteps:=2000000) only[Ty.w,simprocAttr])|(refine hK _ _ ?_;clear hK;try simp only[pst0,simprocAttr]))
   rw[show numB s=((trimB s).data.toList.all digB&&decide (0<(trimB s).size))from rfl,ht]
  |true=>
   have hc:c=45:=by
    have:c.toNat=45:=by simp at b2;omega
    exact UInt8.toNat_inj.1 this
   have q1:(1:Int)≤(s.size:Int):=by omega
   have ht:trimB s=s.extract 1 s.size:=by
    cases hl:s.data.toList with
    |nil=>rw[hl]at hx;simp at hx
    |cons d l=>
     rw[hl]at hx
     simp at hx
     subst hx
     subst hc
     unfold trimB
     rw[hl]
     refine ba_ext ?_
     have hl2:=htl
     rw[hl]at hl2
     simp at hl2
     simp only[ByteArray.data_extract,Array.toList_extract,List.extract_eq_take_drop,hl]
     rw[List.drop_succ_cons,List.drop_zero,List.take_of_length_le (by omega)]
   have hsz:(s.extract 1 s.size).size≤bigN:=by simp only[ByteArray.size_extract];omega
   have hd:=rdigits_c (h:=h) hsz
   refine pcall_body (ow:=fun _=>false) (wf:=fun _=>false) Ty.mixed Tryz.func119 rfl Ty.hb_119 (by rw[Tryz.ntmps119];simp) ?_
   rw[Tryz.ntmps119,Tryz.results119]
   repeat'(first|refine a_seq fun K hK=>?_|(refine a_regionS ?_;simp(maxSteps:=2000000) only[Ty.w,simprocAttr,b1,hr,b2,q1,Option.getD_some,Option.getD_none,Int.le_refl,Int.toNat_one])|(refine hK _ _ ?_;clear hK;try simp only[pst0,simprocAttr]))
   refine owp_useQ (hd) (by(try simp only[Ty.w,simprocAttr,b1,b2,q1,Option.getD_some,Option.getD_none,Int.le_refl,Int.toNat_one]);try rfl) ?_;simp(maxSteps:=2000000) only[Ty.w,simprocAttr,b1,b2,q1,Option.getD_some,Option.getD_none,Int.le_refl,Int.toNat_one]
   repeat'(first|(refine a_ret ?_;simp(maxSteps:=2000000) only[Ty.w,simprocAttr])|(refine hK _ _ ?_;clear hK;try simp only[pst0,simprocAttr]))
   rw[show numB s=((trimB s).data.toList.all digB&&decide (0<(trimB s).size))from rfl,ht]
theorem let_cls(c:UInt8):(wB c=true∧decide ((c.toNat:Int)≥97)=true∧decide ((c.toNat:Int)≤122)=true)∨
  (letB c=false∧decide ((c.toNat:Int)≥97)=true∧decide ((c.toNat:Int)≤122)=false∧decide ((c.toNat:Int)≥48)=true∧decide ((c.toNat:Int)≤57)=false∧digB c=false)∨
  (letB c=false∧decide ((c.toNat:Int)≥97)=false∧decide ((c.toNat:Int)≥48)=false∧digB c=false)∨
  (wB c=true∧decide ((c.toNat:Int)≥97)=false∧decide ((c.toNat:Int)≥48)=true∧decide ((c.toNat:Int)≤57)=true)∨
  (letB c=false∧decide ((c.toNat:Int)≥97)=false∧decide ((c.toNat:Int)≥48)=true∧decide ((c.toNat:Int)≤57)=false∧digB c=false):=by
 simp only[wB,letB,digB,Bool.and_eq_true,Bool.or_eq_true,Bool.and_eq_false_iff,decide_eq_true_eq,decide_eq_false_iff_not]
 omega
theorem signs_c(c:UInt8):signs.contains c=(((c.toNat:Int)==45)||((c.toNat:Int)==95)||((c.toNat:Int)==63)||((c.toNat:Int)==58)||((c.toNat:Int)==60)||((c.toNat:Int)==62)||((c.toNat:Int)==61)||((c.toNat:Int)==43)||((c.toNat:Int)==42)):=by
 have hh: ∀ d:UInt8,(c==d)=((c.toNat:Int)==(d.toNat:Int)):=by
  intro d
  by_cases h:c=d
  ·subst h;simp
  ·have:¬ c.toNat=d.toNat:=fun e=>h (UInt8.toNat_inj.1 e)
   have:¬ (c.toNat:Int)=(d.toNat:Int):=by omega
   rw[beq_eq_false_iff_ne.2 h,beq_eq_false_iff_ne.2 this]
 have e:signs.contains c=(c==45||(c==95||(c==63||(c==58||(c==60||(c==62||(c==61||(c==43||(c==42||false))))))))):=rfl
 rw[e,hh,hh,hh,hh,hh,hh,hh,hh,hh]
 simp only[Bool.or_false,Bool.or_assoc]
 rfl
theorem letter_c{h:Heap}{c:UInt8}:PCall Tryz.prog 118 [.sc (.int .u8 c.toNat)] h fun r h'=>r= .sc (.bool (wB c))∧h'=h:=by
 refine pcall_body (ow:=fun _=>false) (wf:=fun _=>false) Ty.mixed Tryz.func118 rfl Ty.hb_118 (by rw[Tryz.ntmps118];simp) ?_
 rw[Tryz.ntmps118,Tryz.results118]
 rcases let_cls c with⟨hw,c1,c2⟩|⟨hlet,c1,c2,c3,c4,hdig⟩|⟨hlet,c1,c3,hdig⟩|⟨hw,c1,c3,c4⟩|⟨hlet,c1,c3,c4,hdig⟩
 ·repeat' (first|refine a_seq fun K hK=>?_|((first|refine a_regionS ?_|refine a_ret ?_);simp(maxSteps:=2000000) only[Ty.w,simprocAttr,c1,c2])|(refine hK _ _ ?_;clear hK;try simp only[pst0,simprocAttr]))
  all_goals(rw[hw])
 ·cases s0:((c.toNat:Int)==45)with
  |true=>
   have hw:wB c=true:=by simp only[wB,hlet,hdig,signs_c,s0,Bool.or_true,Bool.true_or,Bool.false_or]
   repeat'(first|refine a_seq fun K hK=>?_|((first|refine a_regionS ?_|refine a_ret ?_);simp(maxSteps:=2000000) only[Ty.w,simprocAttr,c1,c2,c3,c4,s0])|(refine a_skip ?_;try simp only[pst0,simprocAttr])|(refine a_cond _ (by(try simp(maxSteps:=2000000) only[Ty.w,simprocAttr,c1,c2,c3,c4,s0]);rfl) (fun hb=>?_) (fun hb=>?_)<;>(try simp only[hb0,decide_eq_true_eq,decide_eq_false_iff_not,simprocAttr]at hb)<;>(try(exfalso;omega)))|(refine hK _ _ ?_;clear hK;try simp only[pst0,simprocAttr]))
   all_goals(rw[hw])
  |false=>
   cases s1:((c.toNat:Int)==95)with
   |true=>
    have hw:wB c=true:=by simp only[wB,hlet,hdig,signs_c,s0,s1,Bool.or_true,Bool.true_or,Bool.false_or]
    repeat'(first|refine a_seq fun K hK=>?_|((first|refine a_regionS ?_|refine a_ret ?_);simp(maxSteps:=2000000) only[Ty.w,simprocAttr,c1,c2,c3,c4,s0,s1])|(refine a_skip ?_;try simp only[pst0,simprocAttr])|(refine a_cond _ (by(try simp(maxSteps:=2000000) only[Ty.w,simprocAttr,c1,c2,c3,c4,s0,s1]);rfl) (fun hb=>?_) (fun hb=>?_)<;>(try simp only[hb0,decide_eq_true_eq,decide_eq_false_iff_not,simprocAttr]at hb)<;>(try(exfalso;omega)))|(refine hK _ _ ?_;clear hK;try simp only[pst0,simprocAttr]))
    all_goals(rw[hw])
   |false=>
    cases s2:((c.toNat:Int)==63)with
    |true=>
     have hw:wB c=true:=by simp only[wB,hlet,hdig,signs_c,s0,s1,s2,Bool.or_true,Bool.true_or,Bool.false_or]
     repeat'(first|refine a_seq fun K hK=>?_|((first|refine a_regionS ?_|refine a_ret ?_);simp(maxSteps:=2000000) only[Ty.w,simprocAttr,c1,c2,c3,c4,s0,s1,s2])|(refine a_skip ?_;try simp only[pst0,simprocAttr])|(refine a_cond _ (by(try simp(maxSteps:=2000000) only[Ty.w,simprocAttr,c1,c2,c3,c4,s0,s1,s2]);rfl) (fun hb=>?_) (fun hb=>?_)<;>(try simp only[hb0,decide_eq_true_eq,decide_eq_false_iff_not,simprocAttr]at hb)<;>(try(exfalso;omega)))|(refine hK _ _ ?_;clear hK;try simp only[pst0,simprocAttr]))
     all_goals(rw[hw])
    |false=>
     cases s3:((c.toNat:Int)==58)with
     |true=>
      have hw:wB c=true:=by simp only[wB,hlet,hdig,signs_c,s0,s1,s2,s3,Bool.or_true,Bool.true_or,Bool.false_or]
      repeat'(first|refine a_seq fun K hK=>?_|((first|refine a_regionS ?_|refine a_ret ?_);simp(maxSteps:=2000000) only[Ty.w,simprocAttr,c1,c2,c3,c4,s0,s1,s2,s3])|(refine a_skip ?_;try simp only[pst0,simprocAttr])|(refine a_cond _ (by(try simp(maxSteps:=2000000) only[Ty.w,simprocAttr,c1,c2,c3,c4,s0,s1,s2,s3]);rfl) (fun hb=>?_) (fun hb=>?_)<;>(try simp only[hb0,decide_eq_true_eq,decide_eq_false_iff_not,simprocAttr]at hb)<;>(try(exfalso;omega)))|(refine hK _ _ ?_;clear hK;try simp only[pst0,simprocAttr]))
      all_goals(rw[hw])
     |false=>
      cases s4:((c.toNat:Int)==60)with
      |true=>
       have hw:wB c=true:=by simp only[wB,hlet,hdig,signs_c,s0,s1,s2,s3,s4,Bool.or_true,Bool.true_or,Bool.false_or]
       repeat'(first|refine a_seq fun K hK=>?_|((first|refine a_regionS ?_|refine a_ret ?_);simp(maxSteps:=2000000) only[Ty.w,simprocAttr,c1,c2,c3,c4,s0,s1,s2,s3,s4])|(refine a_skip ?_;try simp only[pst0,simprocAttr])|(refine a_cond _ (by(try simp(maxSteps:=2000000) only[Ty.w,simprocAttr,c1,c2,c3,c4,s0,s1,s2,s3,s4]);rfl) (fun hb=>?_) (fun hb=>?_)<;>(try simp only[hb0,decide_eq_true_eq,decide_eq_false_iff_not,simprocAttr]at hb)<;>(try(exfalso;omega)))|(refine hK _ _ ?_;clear hK;try simp only[pst0,simprocAttr]))
       all_goals(rw[hw])
      |false=>
       cases s5:((c.toNat:Int)==62)with
       |true=>
        have hw:wB c=true:=by simp only[wB,hlet,hdig,signs_c,s0,s1,s2,s3,s4,s5,Bool.or_true,Bool.true_or,Bool.false_or]
        repeat'(first|refine a_seq fun K hK=>?_|((first|refine a_regionS ?_|refine a_ret ?_);simp(maxSteps:=2000000) only[Ty.w,simprocAttr,c1,c2,c3,c4,s0,s1,s2,s3,s4,s5])|(refine a_skip ?_;try simp only[pst0,simprocAttr])|(refine a_cond _ (by(try simp(maxSteps:=2000000) only[Ty.w,simprocAttr,c1,c2,c3,c4,s0,s1,s2,s3,s4,s5]);rfl) (fun hb=>?_) (fun hb=>?_)<;>(try simp only[hb0,decide_eq_true_eq,decide_eq_false_iff_not,simprocAttr]at hb)<;>(try(exfalso;omega)))|(refine hK _ _ ?_;clear hK;try simp only[pst0,simprocAttr]))
        all_goals(rw[hw])
       |false=>
        cases s6:((c.toNat:Int)==61)with
        |true=>
         have hw:wB c=true:=by simp only[wB,hlet,hdig,signs_c,s0,s1,s2,s3,s4,s5,s6,Bool.or_true,Bool.true_or,Bool.false_or]
         repeat'(first|refine a_seq fun K hK=>?_|((first|refine a_regionS ?_|refine a_ret ?_);simp(maxSteps:=2000000) only[Ty.w,simprocAttr,c1,c2,c3,c4,s0,s1,s2,s3,s4,s5,s6])|(refine a_skip ?_;try simp only[pst0,simprocAttr])|(refine a_cond _ (by(try simp(maxSteps:=2000000) only[Ty.w,simprocAttr,c1,c2,c3,c4,s0,s1,s2,s3,s4,s5,s6]);rfl) (fun hb=>?_) (fun hb=>?_)<;>(try simp only[hb0,decide_eq_true_eq,decide_eq_false_iff_not,simprocAttr]at hb)<;>(try(exfalso;omega)))|(refine hK _ _ ?_;clear hK;try simp only[pst0,simprocAttr]))
         all_goals(rw[hw])
        |false=>
         cases s7:((c.toNat:Int)==43)with
         |true=>
          have hw:wB c=true:=by simp only[wB,hlet,hdig,signs_c,s0,s1,s2,s3,s4,s5,s6,s7,Bool.or_true,Bool.true_or,Bool.false_or]
          repeat'(first|refine a_seq fun K hK=>?_|((first|refine a_regionS ?_|refine a_ret ?_);simp(maxSteps:=2000000) only[Ty.w,simprocAttr,c1,c2,c3,c4,s0,s1,s2,s3,s4,s5,s6,s7])|(refine a_skip ?_;try simp only[pst0,simprocAttr])|(refine a_cond _ (by(try simp(maxSteps:=2000000) only[Ty.w,simprocAttr,c1,c2,c3,c4,s0,s1,s2,s3,s4,s5,s6,s7]);rfl) (fun hb=>?_) (fun hb=>?_)<;>(try simp only[hb0,decide_eq_true_eq,decide_eq_false_iff_not,simprocAttr]at hb)<;>(try(exfalso;omega)))|(refine hK _ _ ?_;clear hK;try simp only[pst0,simprocAttr]))
          all_goals(rw[hw])
         |false=>
          cases s8:((c.toNat:Int)==42)with
          |true=>
           have hw:wB c=true:=by simp only[wB,hlet,hdig,signs_c,s0,s1,s2,s3,s4,s5,s6,s7,s8,Bool.or_true,Bool.true_or,Bool.false_or]
           repeat'(first|refine a_seq fun K hK=>?_|((first|refine a_regionS ?_|refine a_ret ?_);simp(maxSteps:=2000000) only[Ty.w,simprocAttr,c1,c2,c3,c4,s0,s1,s2,s3,s4,s5,s6,s7,s8])|(refine a_skip ?_;try simp only[pst0,simprocAttr])|(refine a_cond _ (by(try simp(maxSteps:=2000000) only[Ty.w,simprocAttr,c1,c2,c3,c4,s0,s1,s2,s3,s4,s5,s6,s7,s8]);rfl) (fun hb=>?_) (fun hb=>?_)<;>(try simp only[hb0,decide_eq_true_eq,decide_eq_false_iff_not,simprocAttr]at hb)<;>(try(exfalso;omega)))|(refine hK _ _ ?_;clear hK;try simp only[pst0,simprocAttr]))
           all_goals(rw[hw])
          |false=>
           have hw:wB c=false:=by simp only[wB,hlet,hdig,signs_c,s0,s1,s2,s3,s4,s5,s6,s7,s8,Bool.or_false]
           repeat'(first|refine a_seq fun K hK=>?_|((first|refine a_regionS ?_|refine a_ret ?_);simp(maxSteps:=2000000) only[Ty.w,simprocAttr,c1,c2,c3,c4,s0,s1,s2,s3,s4,s5,s6,s7,s8])|(refine a_skip ?_;try simp only[pst0,simprocAttr])|(refine a_cond _ (by(try simp(maxSteps:=2000000) only[Ty.w,simprocAttr,c1,c2,c3,c4,s0,s1,s2,s3,s4,s5,s6,s7,s8]);rfl) (fun hb=>?_) (fun hb=>?_)<;>(try simp only[hb0,decide_eq_true_eq,decide_eq_false_iff_not,simprocAttr]at hb)<;>(try(exfalso;omega)))|(refine hK _ _ ?_;clear hK;try simp only[pst0,simprocAttr]))
           all_goals(rw[hw])
 ·cases s0:((c.toNat:Int)==45)with
  |true=>
   have hw:wB c=true:=by simp only[wB,hlet,hdig,signs_c,s0,Bool.or_true,Bool.true_or,Bool.false_or]
   repeat'(first|refine a_seq fun K hK=>?_|((first|refine a_regionS ?_|refine a_ret ?_);simp(maxSteps:=2000000) only[Ty.w,simprocAttr,c1,c3,s0])|(refine a_skip ?_;try simp only[pst0,simprocAttr])|(refine a_cond _ (by(try simp(maxSteps:=2000000) only[Ty.w,simprocAttr,c1,c3,s0]);rfl) (fun hb=>?_) (fun hb=>?_)<;>(try simp only[hb0,decide_eq_true_eq,decide_eq_false_iff_not,simprocAttr]at hb)<;>(try(exfalso;omega)))|(refine hK _ _ ?_;clear hK;try simp only[pst0,simprocAttr]))
   all_goals(rw[hw])
  |false=>
   cases s1:((c.toNat:Int)==95)with
   |true=>
    have hw:wB c=true:=by simp only[wB,hlet,hdig,signs_c,s0,s1,Bool.or_true,Bool.true_or,Bool.false_or]
    repeat'(first|refine a_seq fun K hK=>?_|((first|refine a_regionS ?_|refine a_ret ?_);simp(maxSteps:=2000000) only[Ty.w,simprocAttr,c1,c3,s0,s1])|(refine a_skip ?_;try simp only[pst0,simprocAttr])|(refine a_cond _ (by(try simp(maxSteps:=2000000) only[Ty.w,simprocAttr,c1,c3,s0,s1]);rfl) (fun hb=>?_) (fun hb=>?_)<;>(try simp only[hb0,decide_eq_true_eq,decide_eq_false_iff_not,simprocAttr]at hb)<;>(try(exfalso;omega)))|(refine hK _ _ ?_;clear hK;try simp only[pst0,simprocAttr]))
    all_goals(rw[hw])
   |false=>
    cases s2:((c.toNat:Int)==63)with
    |true=>
     have hw:wB c=true:=by simp only[wB,hlet,hdig,signs_c,s0,s1,s2,Bool.or_true,Bool.true_or,Bool.false_or]
     repeat'(first|refine a_seq fun K hK=>?_|((first|refine a_regionS ?_|refine a_ret ?_);simp(maxSteps:=2000000) only[Ty.w,simprocAttr,c1,c3,s0,s1,s2])|(refine a_skip ?_;try simp only[pst0,simprocAttr])|(refine a_cond _ (by(try simp(maxSteps:=2000000) only[Ty.w,simprocAttr,c1,c3,s0,s1,s2]);rfl) (fun hb=>?_) (fun hb=>?_)<;>(try simp only[hb0,decide_eq_true_eq,decide_eq_false_iff_not,simprocAttr]at hb)<;>(try(exfalso;omega)))|(refine hK _ _ ?_;clear hK;try simp only[pst0,simprocAttr]))
     all_goals(rw[hw])
    |false=>
     cases s3:((c.toNat:Int)==58)with
     |true=>
      have hw:wB c=true:=by simp only[wB,hlet,hdig,signs_c,s0,s1,s2,s3,Bool.or_true,Bool.true_or,Bool.false_or]
      repeat'(first|refine a_seq fun K hK=>?_|((first|refine a_regionS ?_|refine a_ret ?_);simp(maxSteps:=2000000) only[Ty.w,simprocAttr,c1,c3,s0,s1,s2,s3])|(refine a_skip ?_;try simp only[pst0,simprocAttr])|(refine a_cond _ (by(try simp(maxSteps:=2000000) only[Ty.w,simprocAttr,c1,c3,s0,s1,s2,s3]);rfl) (fun hb=>?_) (fun hb=>?_)<;>(try simp only[hb0,decide_eq_true_eq,decide_eq_false_iff_not,simprocAttr]at hb)<;>(try(exfalso;omega)))|(refine hK _ _ ?_;clear hK;try simp only[pst0,simprocAttr]))
      all_goals(rw[hw])
     |false=>
      cases s4:((c.toNat:Int)==60)with
      |true=>
       have hw:wB c=true:=by simp only[wB,hlet,hdig,signs_c,s0,s1,s2,s3,s4,Bool.or_true,Bool.true_or,Bool.false_or]
       repeat'(first|refine a_seq fun K hK=>?_|((first|refine a_regionS ?_|refine a_ret ?_);simp(maxSteps:=2000000) only[Ty.w,simprocAttr,c1,c3,s0,s1,s2,s3,s4])|(refine a_skip ?_;try simp only[pst0,simprocAttr])|(refine a_cond _ (by(try simp(maxSteps:=2000000) only[Ty.w,simprocAttr,c1,c3,s0,s1,s2,s3,s4]);rfl) (fun hb=>?_) (fun hb=>?_)<;>(try simp only[hb0,decide_eq_true_eq,decide_eq_false_iff_not,simprocAttr]at hb)<;>(try(exfalso;omega)))|(refine hK _ _ ?_;clear hK;try simp only[pst0,simprocAttr]))
       all_goals(rw[hw])
      |false=>
       cases s5:((c.toNat:Int)==62)with
       |true=>
        have hw:wB c=true:=by simp only[wB,hlet,hdig,signs_c,s0,s1,s2,s3,s4,s5,Bool.or_true,Bool.true_or,Bool.false_or]
        repeat'(first|refine a_seq fun K hK=>?_|((first|refine a_regionS ?_|refine a_ret ?_);simp(maxSteps:=2000000) only[Ty.w,simprocAttr,c1,c3,s0,s1,s2,s3,s4,s5])|(refine a_skip ?_;try simp only[pst0,simprocAttr])|(refine a_cond _ (by(try simp(maxSteps:=2000000) only[Ty.w,simprocAttr,c1,c3,s0,s1,s2,s3,s4,s5]);rfl) (fun hb=>?_) (fun hb=>?_)<;>(try simp only[hb0,decide_eq_true_eq,decide_eq_false_iff_not,simprocAttr]at hb)<;>(try(exfalso;omega)))|(refine hK _ _ ?_;clear hK;try simp only[pst0,simprocAttr]))
        all_goals(rw[hw])
       |false=>
        cases s6:((c.toNat:Int)==61)with
        |true=>
         have hw:wB c=true:=by simp only[wB,hlet,hdig,signs_c,s0,s1,s2,s3,s4,s5,s6,Bool.or_true,Bool.true_or,Bool.false_or]
         repeat'(first|refine a_seq fun K hK=>?_|((first|refine a_regionS ?_|refine a_ret ?_);simp(maxSteps:=2000000) only[Ty.w,simprocAttr,c1,c3,s0,s1,s2,s3,s4,s5,s6])|(refine a_skip ?_;try simp only[pst0,simprocAttr])|(refine a_cond _ (by(try simp(maxSteps:=2000000) only[Ty.w,simprocAttr,c1,c3,s0,s1,s2,s3,s4,s5,s6]);rfl) (fun hb=>?_) (fun hb=>?_)<;>(try simp only[hb0,decide_eq_true_eq,decide_eq_false_iff_not,simprocAttr]at hb)<;>(try(exfalso;omega)))|(refine hK _ _ ?_;clear hK;try simp only[pst0,simprocAttr]))
         all_goals(rw[hw])
        |false=>
         cases s7:((c.toNat:Int)==43)with
         |true=>
          have hw:wB c=true:=by simp only[wB,hlet,hdig,signs_c,s0,s1,s2,s3,s4,s5,s6,s7,Bool.or_true,Bool.true_or,Bool.false_or]
          repeat'(first|refine a_seq fun K hK=>?_|((first|refine a_regionS ?_|refine a_ret ?_);simp(maxSteps:=2000000) only[Ty.w,simprocAttr,c1,c3,s0,s1,s2,s3,s4,s5,s6,s7])|(refine a_skip ?_;try simp only[pst0,simprocAttr])|(refine a_cond _ (by(try simp(maxSteps:=2000000) only[Ty.w,simprocAttr,c1,c3,s0,s1,s2,s3,s4,s5,s6,s7]);rfl) (fun hb=>?_) (fun hb=>?_)<;>(try simp only[hb0,decide_eq_true_eq,decide_eq_false_iff_not,simprocAttr]at hb)<;>(try(exfalso;omega)))|(refine hK _ _ ?_;clear hK;try simp only[pst0,simprocAttr]))
          all_goals(rw[hw])
         |false=>
          cases s8:((c.toNat:Int)==42)with
          |true=>
           have hw:wB c=true:=by simp only[wB,hlet,hdig,signs_c,s0,s1,s2,s3,s4,s5,s6,s7,s8,Bool.or_true,Bool.true_or,Bool.false_or]
           repeat'(first|refine a_seq fun K hK=>?_|((first|refine a_regionS ?_|refine a_ret ?_);simp(maxSteps:=2000000) only[Ty.w,simprocAttr,c1,c3,s0,s1,s2,s3,s4,s5,s6,s7,s8])|(refine a_skip ?_;try simp only[pst0,simprocAttr])|(refine a_cond _ (by(try simp(maxSteps:=2000000) only[Ty.w,simprocAttr,c1,c3,s0,s1,s2,s3,s4,s5,s6,s7,s8]);rfl) (fun hb=>?_) (fun hb=>?_)<;>(try simp only[hb0,decide_eq_true_eq,decide_eq_false_iff_not,simprocAttr]at hb)<;>(try(exfalso;omega)))|(refine hK _ _ ?_;clear hK;try simp only[pst0,simprocAttr]))
           all_goals(rw[hw])
          |false=>
           have hw:wB c=false:=by simp only[wB,hlet,hdig,signs_c,s0,s1,s2,s3,s4,s5,s6,s7,s8,Bool.or_false]
           repeat'(first|refine a_seq fun K hK=>?_|((first|refine a_regionS ?_|refine a_ret ?_);simp(maxSteps:=2000000) only[Ty.w,simprocAttr,c1,c3,s0,s1,s2,s3,s4,s5,s6,s7,s8])|(refine a_skip ?_;try simp only[pst0,simprocAttr])|(refine a_cond _ (by(try simp(maxSteps:=2000000) only[Ty.w,simprocAttr,c1,c3,s0,s1,s2,s3,s4,s5,s6,s7,s8]);rfl) (fun hb=>?_) (fun hb=>?_)<;>(try simp only[hb0,decide_eq_true_eq,decide_eq_false_iff_not,simprocAttr]at hb)<;>(try(exfalso;omega)))|(refine hK _ _ ?_;clear hK;try simp only[pst0,simprocAttr]))
           all_goals(rw[hw])
 ·repeat' (first|refine a_seq fun K hK=>?_|((first|refine a_regionS ?_|refine a_ret ?_);simp(maxSteps:=2000000) only[Ty.w,simprocAttr,c1,c3,c4])|(refine hK _ _ ?_;clear hK;try simp only[pst0,simprocAttr]))
  all_goals(rw[hw])
 ·cases s0:((c.toNat:Int)==45)with
  |true=>
   have hw:wB c=true:=by simp only[wB,hlet,hdig,signs_c,s0,Bool.or_true,Bool.true_or,Bool.false_or]
   repeat'(first|refine a_seq fun K hK=>?_|((first|refine a_regionS ?_|refine a_ret ?_);simp(maxSteps:=2000000) only[Ty.w,simprocAttr,c1,c3,c4,s0])|(refine a_skip ?_;try simp only[pst0,simprocAttr])|(refine a_cond _ (by(try simp(maxSteps:=2000000) only[Ty.w,simprocAttr,c1,c3,c4,s0]);rfl) (fun hb=>?_) (fun hb=>?_)<;>(try simp only[hb0,decide_eq_true_eq,decide_eq_false_iff_not,simprocAttr]at hb)<;>(try(exfalso;omega)))|(refine hK _ _ ?_;clear hK;try simp only[pst0,simprocAttr]))
   all_goals(rw[hw])
  |false=>
   cases s1:((c.toNat:Int)==95)with
   |true=>
    have hw:wB c=true:=by simp only[wB,hlet,hdig,signs_c,s0,s1,Bool.or_true,Bool.true_or,Bool.false_or]
    repeat'(first|refine a_seq fun K hK=>?_|((first|refine a_regionS ?_|refine a_ret ?_);simp(maxSteps:=2000000) only[Ty.w,simprocAttr,c1,c3,c4,s0,s1])|(refine a_skip ?_;try simp only[pst0,simprocAttr])|(refine a_cond _ (by(try simp(maxSteps:=2000000) only[Ty.w,simprocAttr,c1,c3,c4,s0,s1]);rfl) (fun hb=>?_) (fun hb=>?_)<;>(try simp only[hb0,decide_eq_true_eq,decide_eq_false_iff_not,simprocAttr]at hb)<;>(try(exfalso;omega)))|(refine hK _ _ ?_;clear hK;try simp only[pst0,simprocAttr]))
    all_goals(rw[hw])
   |false=>
    cases s2:((c.toNat:Int)==63)with
    |true=>
     have hw:wB c=true:=by simp only[wB,hlet,hdig,signs_c,s0,s1,s2,Bool.or_true,Bool.true_or,Bool.false_or]
     repeat'(first|refine a_seq fun K hK=>?_|((first|refine a_regionS ?_|refine a_ret ?_);simp(maxSteps:=2000000) only[Ty.w,simprocAttr,c1,c3,c4,s0,s1,s2])|(refine a_skip ?_;try simp only[pst0,simprocAttr])|(refine a_cond _ (by(try simp(maxSteps:=2000000) only[Ty.w,simprocAttr,c1,c3,c4,s0,s1,s2]);rfl) (fun hb=>?_) (fun hb=>?_)<;>(try simp only[hb0,decide_eq_true_eq,decide_eq_false_iff_not,simprocAttr]at hb)<;>(try(exfalso;omega)))|(refine hK _ _ ?_;clear hK;try simp only[pst0,simprocAttr]))
     all_goals(rw[hw])
    |false=>
     cases s3:((c.toNat:Int)==58)with
     |true=>
      have hw:wB c=true:=by simp only[wB,hlet,hdig,signs_c,s0,s1,s2,s3,Bool.or_true,Bool.true_or,Bool.false_or]
      repeat'(first|refine a_seq fun K hK=>?_|((first|refine a_regionS ?_|refine a_ret ?_);simp(maxSteps:=2000000) only[Ty.w,simprocAttr,c1,c3,c4,s0,s1,s2,s3])|(refine a_skip ?_;try simp only[pst0,simprocAttr])|(refine a_cond _ (by(try simp(maxSteps:=2000000) only[Ty.w,simprocAttr,c1,c3,c4,s0,s1,s2,s3]);rfl) (fun hb=>?_) (fun hb=>?_)<;>(try simp only[hb0,decide_eq_true_eq,decide_eq_false_iff_not,simprocAttr]at hb)<;>(try(exfalso;omega)))|(refine hK _ _ ?_;clear hK;try simp only[pst0,simprocAttr]))
      all_goals(rw[hw])
     |false=>
      cases s4:((c.toNat:Int)==60)with
      |true=>
       have hw:wB c=true:=by simp only[wB,hlet,hdig,signs_c,s0,s1,s2,s3,s4,Bool.or_true,Bool.true_or,Bool.false_or]
       repeat'(first|refine a_seq fun K hK=>?_|((first|refine a_regionS ?_|refine a_ret ?_);simp(maxSteps:=2000000) only[Ty.w,simprocAttr,c1,c3,c4,s0,s1,s2,s3,s4])|(refine a_skip ?_;try simp only[pst0,simprocAttr])|(refine a_cond _ (by(try simp(maxSteps:=2000000) only[Ty.w,simprocAttr,c1,c3,c4,s0,s1,s2,s3,s4]);rfl) (fun hb=>?_) (fun hb=>?_)<;>(try simp only[hb0,decide_eq_true_eq,decide_eq_false_iff_not,simprocAttr]at hb)<;>(try(exfalso;omega)))|(refine hK _ _ ?_;clear hK;try simp only[pst0,simprocAttr]))
       all_goals(rw[hw])
      |false=>
       cases s5:((c.toNat:Int)==62)with
       |true=>
        have hw:wB c=true:=by simp only[wB,hlet,hdig,signs_c,s0,s1,s2,s3,s4,s5,Bool.or_true,Bool.true_or,Bool.false_or]
        repeat'(first|refine a_seq fun K hK=>?_|((first|refine a_regionS ?_|refine a_ret ?_);simp(maxSteps:=2000000) only[Ty.w,simprocAttr,c1,c3,c4,s0,s1,s2,s3,s4,s5])|(refine a_skip ?_;try simp only[pst0,simprocAttr])|(refine a_cond _ (by(try simp(maxSteps:=2000000) only[Ty.w,simprocAttr,c1,c3,c4,s0,s1,s2,s3,s4,s5]);rfl) (fun hb=>?_) (fun hb=>?_)<;>(try simp only[hb0,decide_eq_true_eq,decide_eq_false_iff_not,simprocAttr]at hb)<;>(try(exfalso;omega)))|(refine hK _ _ ?_;clear hK;try simp only[pst0,simprocAttr]))
        all_goals(rw[hw])
       |false=>
        cases s6:((c.toNat:Int)==61)with
        |true=>
         have hw:wB c=true:=by simp only[wB,hlet,hdig,signs_c,s0,s1,s2,s3,s4,s5,s6,Bool.or_true,Bool.true_or,Bool.false_or]
         repeat'(first|refine a_seq fun K hK=>?_|((first|refine a_regionS ?_|refine a_ret ?_);simp(maxSteps:=2000000) only[Ty.w,simprocAttr,c1,c3,c4,s0,s1,s2,s3,s4,s5,s6])|(refine a_skip ?_;try simp only[pst0,simprocAttr])|(refine a_cond _ (by(try simp(maxSteps:=2000000) only[Ty.w,simprocAttr,c1,c3,c4,s0,s1,s2,s3,s4,s5,s6]);rfl) (fun hb=>?_) (fun hb=>?_)<;>(try simp only[hb0,decide_eq_true_eq,decide_eq_false_iff_not,simprocAttr]at hb)<;>(try(exfalso;omega)))|(refine hK _ _ ?_;clear hK;try simp only[pst0,simprocAttr]))
         all_goals(rw[hw])
        |false=>
         cases s7:((c.toNat:Int)==43)with
         |true=>
          have hw:wB c=true:=by simp only[wB,hlet,hdig,signs_c,s0,s1,s2,s3,s4,s5,s6,s7,Bool.or_true,Bool.true_or,Bool.false_or]
          repeat'(first|refine a_seq fun K hK=>?_|((first|refine a_regionS ?_|refine a_ret ?_);simp(maxSteps:=2000000) only[Ty.w,simprocAttr,c1,c3,c4,s0,s1,s2,s3,s4,s5,s6,s7])|(refine a_skip ?_;try simp only[pst0,simprocAttr])|(refine a_cond _ (by(try simp(maxSteps:=2000000) only[Ty.w,simprocAttr,c1,c3,c4,s0,s1,s2,s3,s4,s5,s6,s7]);rfl) (fun hb=>?_) (fun hb=>?_)<;>(try simp only[hb0,decide_eq_true_eq,decide_eq_false_iff_not,simprocAttr]at hb)<;>(try(exfalso;omega)))|(refine hK _ _ ?_;clear hK;try simp only[pst0,simprocAttr]))
          all_goals(rw[hw])
         |false=>
          cases s8:((c.toNat:Int)==42)with
          |true=>
           have hw:wB c=true:=by simp only[wB,hlet,hdig,signs_c,s0,s1,s2,s3,s4,s5,s6,s7,s8,Bool.or_true,Bool.true_or,Bool.false_or]
           repeat'(first|refine a_seq fun K hK=>?_|((first|refine a_regionS ?_|refine a_ret ?_);simp(maxSteps:=2000000) only[Ty.w,simprocAttr,c1,c3,c4,s0,s1,s2,s3,s4,s5,s6,s7,s8])|(refine a_skip ?_;try simp only[pst0,simprocAttr])|(refine a_cond _ (by(try simp(maxSteps:=2000000) only[Ty.w,simprocAttr,c1,c3,c4,s0,s1,s2,s3,s4,s5,s6,s7,s8]);rfl) (fun hb=>?_) (fun hb=>?_)<;>(try simp only[hb0,decide_eq_true_eq,decide_eq_false_iff_not,simprocAttr]at hb)<;>(try(exfalso;omega)))|(refine hK _ _ ?_;clear hK;try simp only[pst0,simprocAttr]))
           all_goals(rw[hw])
          |false=>
           have hw:wB c=false:=by simp only[wB,hlet,hdig,signs_c,s0,s1,s2,s3,s4,s5,s6,s7,s8,Bool.or_false]
           repeat'(first|refine a_seq fun K hK=>?_|((first|refine a_regionS ?_|refine a_ret ?_);simp(maxSteps:=2000000) only[Ty.w,simprocAttr,c1,c3,c4,s0,s1,s2,s3,s4,s5,s6,s7,s8])|(refine a_skip ?_;try simp only[pst0,simprocAttr])|(refine a_cond _ (by(try simp(maxSteps:=2000000) only[Ty.w,simprocAttr,c1,c3,c4,s0,s1,s2,s3,s4,s5,s6,s7,s8]);rfl) (fun hb=>?_) (fun hb=>?_)<;>(try simp only[hb0,decide_eq_true_eq,decide_eq_false_iff_not,simprocAttr]at hb)<;>(try(exfalso;omega)))|(refine hK _ _ ?_;clear hK;try simp only[pst0,simprocAttr]))
           all_goals(rw[hw])
def wordR(s:ByteArray):Bool:=s.data.toList.all wB&&decide (1≤s.size)&&decide (s.size≤32)&&!(numB s)
theorem rword_c{h:Heap}{s:ByteArray}(hs:s.size≤bigN):PCall Tryz.prog 91 [sPV s] h fun r h'=>r= .sc (.bool (wordR s))∧h'=h:=by
 have hs':=hs
 unfold bigN at hs'
 have htl:s.data.toList.length=s.size:=by rw[Array.length_toList];try rfl
 refine pcall_body (ow:=fun _=>false) (wf:=fun _=>false) Ty.mixed Tryz.func91 rfl Ty.hb_91 (by rw[Tryz.ntmps91];simp) ?_
 rw[Tryz.ntmps91,Tryz.results91]
 repeat'(first|refine a_seq fun K hK=>?_|(refine a_block ?_)|(refine a_regionS ?_;simp(maxSteps:=2000000) only[Ty.w,simprocAttr])|(refine hK _ _ ?_;clear hK;try simp only[pst0,simprocAttr]))
 refine a_loop (fun m S h'=>h'=h∧S 0=sPV s∧ ∃ k:Nat,S 3= .sc (.int .i64 k)∧k≤s.size∧m=s.size-k∧ ∀ (i:Nat)(c:UInt8),i<k→s.data.toList[i]? =some c→wB c=true) s.size ?_ ?_
 ·simp only[Ty.w,simprocAttr]
  exact⟨0,rfl,by omega,rfl,by omega⟩
 ·rintro m S h' ⟨rfl,g0,k,g3,hk,rfl,hall⟩
  by_cases hlt:k<s.size
  ·have hd:decide ((k:Int)<(s.size:Int))=true:=by simp;omega
   have w7:IntKind.i64.wrap ((k:Int)+1)=k+1:=by rw[wrap64 (by omega) (by omega)]
   obtain⟨c,hx⟩: ∃ c,s.data.toList[k]? =some c:=⟨_,List.getElem?_eq_getElem (by omega)⟩
   have hr:s[k]? =some c:=by rw[ba_get];exact hx
   cases hg:wB c with
   |false=>
    have bad:s.data.toList.all wB=false:=by rw[List.all_eq_false];exact⟨c,List.mem_of_getElem? hx,by simp[hg]⟩
    have hw:wordR s=false:=by simp only[wordR,bad,Bool.false_and]
    repeat'(first|refine a_seq fun K hK=>?_|(refine a_regionS ?_;simp(maxSteps:=2000000) only[Ty.w,simprocAttr,g0,g3,hd,hr])|(refine a_skip ?_;try simp only[pst0,simprocAttr])|(refine a_cond _ (by(try simp(maxSteps:=2000000) only[Ty.w,simprocAttr,g0,g3,hd,hr]);rfl) (fun hb=>?_) (fun hb=>?_)<;>(try simp only[hb0,decide_eq_true_eq,decide_eq_false_iff_not,simprocAttr]at hb)<;>(try(exfalso;omega)))|(refine hK _ _ ?_;clear hK;try simp only[pst0,simprocAttr]))
    refine owp_useQ (letter_c (c:=c)) (by(try simp only[Ty.w,simprocAttr,g0,g3,hd,hr,hg,Bool.not_false]);try rfl) ?_;simp(maxSteps:=2000000) only[Ty.w,simprocAttr,g0,g3,hd,hr,hg,Bool.not_false]
    repeat'(first|refine a_seq fun K hK=>?_|((first|refine a_regionS ?_|refine a_ret ?_);simp(maxSteps:=2000000) only[Ty.w,simprocAttr,g0,g3,Bool.not_false])|(refine hK _ _ ?_;clear hK;try simp only[pst0,simprocAttr]))
    all_goals(rw[hw])
   |true=>
    repeat'(first|refine a_seq fun K hK=>?_|(refine a_regionS ?_;simp(maxSteps:=2000000) only[Ty.w,simprocAttr,g0,g3,hd,hr])|(refine a_skip ?_;try simp only[pst0,simprocAttr])|(refine a_cond _ (by(try simp(maxSteps:=2000000) only[Ty.w,simprocAttr,g0,g3,hd,hr]);rfl) (fun hb=>?_) (fun hb=>?_)<;>(try simp only[hb0,decide_eq_true_eq,decide_eq_false_iff_not,simprocAttr]at hb)<;>(try(exfalso;omega)))|(refine hK _ _ ?_;clear hK;try simp only[pst0,simprocAttr]))
    refine owp_useQ (letter_c (c:=c)) (by(try simp only[Ty.w,simprocAttr,g0,g3,hd,hr,hg,Bool.not_true]);try rfl) ?_;simp(maxSteps:=2000000) only[Ty.w,simprocAttr,g0,g3,hd,hr,hg,Bool.not_true]
    repeat'(first|(refine a_block ?_)|(refine a_regionS ?_;simp(maxSteps:=2000000) only[Ty.w,simprocAttr,g0,g3,w7,Bool.not_true])|(refine a_skip ?_;try simp only[pst0,simprocAttr])|(refine hK _ _ ?_;clear hK;try simp only[pst0,simprocAttr]))
    refine⟨s.size-(k+1),by omega,k+1,by simp,by omega,rfl,fun i c2 hi hw=>?_⟩
    by_cases hik:i=k
    ·subst hik;rw[hx]at hw;simp at hw;rw[← hw];exact hg
    ·exact hall i c2 (by omega) hw
  ·have hd:decide ((k:Int)<(s.size:Int))=false:=by simp;omega
   have hok:s.data.toList.all wB=true:=by
    rw[List.all_eq_true]
    intro c hc
    obtain⟨i,hi⟩:=List.getElem?_of_mem hc
    exact hall i c (by have:=(List.getElem?_eq_some_iff.1 hi).1;omega) hi
   have e1:decide ((s.size:Int)≥1)=decide (1≤s.size):=decide_eq_decide.2 (by omega)
   have e2:decide ((s.size:Int)≤32)=decide (s.size≤32):=decide_eq_decide.2 (by omega)
   have hW:wordR s=(decide ((s.size:Int)≥1)&&decide ((s.size:Int)≤32)&&!(numB s)):=by simp only[wordR,hok,e1,e2,Bool.true_and]
   clear hall e1 e2
   have hn:=fun h:Heap=>rnumeric_c (h:=h) hs
   cases q1:decide ((s.size:Int)≥1)with
   |false=>
    repeat'(first|refine a_seq fun K hK=>?_|((first|refine a_regionS ?_|refine a_ret ?_);simp(maxSteps:=2000000) only[Ty.w,simprocAttr,g0,g3,hd,q1])|(refine a_exit ?_;try simp only[pst0,simprocAttr])|(refine a_cond _ (by(try simp(maxSteps:=2000000) only[Ty.w,simprocAttr,g0,g3,hd,q1]);rfl) (fun hb=>?_) (fun hb=>?_)<;>(try simp only[hb0,decide_eq_true_eq,decide_eq_false_iff_not,simprocAttr]at hb)<;>(try(exfalso;omega)))|((first|refine hK _ _ ?_|(clear hK;refine hK _ _ ?_));clear hK;try simp only[pst0,simprocAttr]))
    all_goals(rw[hW,q1];try rfl)
   |true=>
    cases q2:decide ((s.size:Int)≤32)with
    |false=>
     repeat'(first|refine a_seq fun K hK=>?_|((first|refine a_regionS ?_|refine a_ret ?_);simp(maxSteps:=2000000) only[Ty.w,simprocAttr,g0,g3,hd,q1,q2])|(refine a_exit ?_;try simp only[pst0,simprocAttr])|(refine a_cond _ (by(try simp(maxSteps:=2000000) only[Ty.w,simprocAttr,g0,g3,hd,q1,q2]);rfl) (fun hb=>?_) (fun hb=>?_)<;>(try simp only[hb0,decide_eq_true_eq,decide_eq_false_iff_not,simprocAttr]at hb)<;>(try(exfalso;omega)))|((first|refine hK _ _ ?_|(clear hK;refine hK _ _ ?_));clear hK;try simp only[pst0,simprocAttr]))
     all_goals(rw[hW,q1,q2];try rfl)
    |true=>
     repeat'(first|refine a_seq fun K hK=>?_|(refine a_regionS ?_;simp(maxSteps:=2000000) only[Ty.w,simprocAttr,g0,g3,hd,q1,q2])|(refine a_exit ?_;try simp only[pst0,simprocAttr])|(refine a_cond _ (by(try simp(maxSteps:=2000000) only[Ty.w,simprocAttr,g0,g3,hd,q1,q2]);rfl) (fun hb=>?_) (fun hb=>?_)<;>(try simp only[hb0,decide_eq_true_eq,decide_eq_false_iff_not,simprocAttr]at hb)<;>(try(exfalso;omega)))|((first|refine hK _ _ ?_|(clear hK;refine hK _ _ ?_));clear hK;try simp only[pst0,simprocAttr]))
     refine owp_useQ (hn _) (by(try simp only[Ty.w,simprocAttr,q1,q2]);try rfl) ?_;simp(maxSteps:=2000000) only[Ty.w,simprocAttr,q1,q2]
     repeat'(first|(refine a_ret ?_;simp(maxSteps:=2000000) only[Ty.w,simprocAttr,q1,q2])|(refine hK _ _ ?_;clear hK;try simp only[pst0,simprocAttr]))
     all_goals(rw[hW,q1,q2];try rfl)
end Go.Proofs.YtjeolbgpllbemaaGreat
namespace Go.AM
mutual
def Sx.count:Sx→Int
 | .mk _ _ _ _ _ kids=>Sx.counts 1 kids
def Sx.counts(n:Int):List Sx→Int
 |[]=>n
 |k::ks=>Sx.counts (IntKind.i64.wrap (n+k.count)) ks
end
theorem Sx.counts_append: ∀ (l m:List Sx)(n:Int),Sx.counts n (l++m)=Sx.counts (Sx.counts n l) m
 |[],m,n=>by simp[Sx.counts]
 |k::l,m,n=>by simp only[List.cons_append,Sx.counts];exact Sx.counts_append l m _
theorem Sx.counts_take{l:List Sx}{i:Nat}{k:Sx}(n:Int)(h:l[i]? =some k):Sx.counts n (l.take (i+1))=IntKind.i64.wrap (Sx.counts n (l.take i)+k.count):=by
 rw[List.take_add_one,h,Sx.counts_append];try rfl
mutual
def Sx.depth:Sx→Nat
 | .mk kind _ _ _ _ kids=>if kind=3 then Sx.depths 0 kids+1 else Sx.depths 0 kids
def Sx.depths(n:Nat):List Sx→Nat
 |[]=>n
 |k::ks=>Sx.depths (max n k.depth) ks
end
theorem Sx.depths_append: ∀ (l m:List Sx)(n:Nat),Sx.depths n (l++m)=Sx.depths (Sx.depths n l) m
 |[],m,n=>by simp[Sx.depths]
 |k::l,m,n=>by simp only[List.cons_append,Sx.depths];exact Sx.depths_append l m _
theorem Sx.depths_take{l:List Sx}{i:Nat}{k:Sx}(n:Nat)(h:l[i]? =some k):Sx.depths n (l.take (i+1))=max (Sx.depths n (l.take i)) k.depth:=by
 rw[List.take_add_one,h,Sx.depths_append];try rfl
theorem Sx.depths_le: ∀ (l:List Sx)(n:Nat),n≤Sx.depths n l
 |[],n=>Nat.le_refl _
 |k::l,n=>by simp only[Sx.depths];exact Nat.le_trans (Nat.le_max_left _ _) (Sx.depths_le l _)
theorem Sx.depths_mem: ∀ {l:List Sx}{k:Sx}(n:Nat),k∈l→k.depth≤Sx.depths n l
 |k'::l,k,n,h=>by
  simp only[Sx.depths]
  rcases List.mem_cons.1 h with rfl|h
  ·exact Nat.le_trans (Nat.le_max_right _ _) (Sx.depths_le l _)
  ·exact Sx.depths_mem _ h
end Go.AM
namespace Go.Proofs.YtjeolbgpllbemaaGreat
open Go.AM
set_option maxHeartbeats 2000000
set_option maxRecDepth 20000
mutual
def shapedS:Sx→Bool
 | .mk kind value _ _ text kids=>
  if kind=1 then(value==0)&&kids.isEmpty&&wordR text
  else if kind=2 then(text.data.toList==(#[]:Array UInt8).toList)&&kids.isEmpty&&decide (value≥ -1099511627776)&&decide (value≤1099511627776)
  else if kind=3 then shapedSs kids&&((text.data.toList==(#[]:Array UInt8).toList)&&(value==0))
  else false
def shapedSs:List Sx→Bool
 |[]=>true
 |k::ks=>shapedS k&&shapedSs ks
end
theorem emp_lenS(l:List Sx):((l.length:Int)==0)=l.isEmpty:=by cases l<;>simp;omega
theorem rcount_c: ∀ (e:Sx),e.ok→ ∀ h:Heap,PCall Tryz.prog 13 [.agg e.cells] h fun r h'=>r= .sc (.int .i64 e.count)∧h'=h:=by
 refine Sx.ind ?_
 intro kind value line col text kids ih hok h
 simp only[Sx.ok]at hok
 obtain⟨_,_,_,hk,hks⟩:=hok
 rw[Sx.oks_iff]at hks
 have hlen:=Sx.rows_len kids
 simp only[Sx.cells,Sx.count]
 refine pcall_body (ow:=fun _=>false) (wf:=fun _=>false) Ty.mixed Tryz.func13 rfl Ty.hb_13 (by rw[Tryz.ntmps13];simp) ?_
 rw[Tryz.ntmps13,Tryz.results13]
 repeat'(first|refine a_seq fun K hK=>?_|(refine a_block ?_)|(refine a_regionS ?_;simp(maxSteps:=2000000) only[Ty.w,simprocAttr,hlen])|(refine hK _ _ ?_;clear hK;try simp only[pst0,simprocAttr]))
 refine a_loop (fun m S h'=>h'=h∧S 1= .cptr (Sx.mk kind value line col text kids).cells∧ ∃ k:Nat,S 4= .sc (.int .i64 k)∧k≤kids.length∧m=kids.length-k∧S 3= .sc (.int .i64 (Sx.counts 1 (kids.take k)))) kids.length ?_ ?_
 ·simp only[Ty.w,simprocAttr]
  exact⟨rfl,0,rfl,by omega,rfl,by simp[Sx.counts]⟩
 ·rintro m S h' ⟨rfl,g1,k,g4,hkl,rfl,g3⟩
  simp only[Sx.cells]at g1
  by_cases hlt:k<kids.length
  ·have hd:decide ((k:Int)<(kids.length:Int))=true:=by simp;omega
   have w7:IntKind.i64.wrap ((k:Int)+1)=k+1:=by unfold bigN at hk;rw[wrap64 (by omega) (by omega)]
   obtain⟨e,hx⟩: ∃ e,kids[k]? =some e:=⟨_,List.getElem?_eq_getElem hlt⟩
   have hmem:=List.mem_of_getElem? hx
   have hc:=ih e hmem (hks e hmem)
   have hsz:=Sx.counts_take 1 hx
   have hr:=Sx.rows_get hx
   obtain⟨ki,va,li,co,te,ks⟩:=e
   simp only[Sx.cells]at hr hc
   repeat'(first|refine a_seq fun K hK=>?_|(refine a_block ?_)|((first|refine a_regionS ?_|refine a_region (fun K hK=>?_));simp(maxSteps:=2000000) only[Ty.w,simprocAttr,g1,g3,g4,hlen,hd,hr,w7])|(refine a_skip ?_;try simp only[pst0,simprocAttr])|(refine a_cond _ (by(try simp(maxSteps:=2000000) only[Ty.w,simprocAttr,g1,g3,g4,hlen,hd,hr,w7]);rfl) (fun hb=>?_) (fun hb=>?_)<;>(try simp only[hb0,decide_eq_true_eq,decide_eq_false_iff_not,simprocAttr]at hb)<;>(try(exfalso;omega)))|(refine hK _ _ ?_;clear hK;try simp only[pst0,simprocAttr]))
   refine owp_useQ (hc _) (by(try simp only[Ty.w,simprocAttr,g1,g3,g4,hlen,hd,hr]);try rfl) ?_;simp(maxSteps:=2000000) only[Ty.w,simprocAttr,g1,g3,g4,hlen,hd,hr]
   repeat'(first|(refine a_regionS ?_;simp(maxSteps:=2000000) only[Ty.w,simprocAttr,g1,g3,g4,w7])|(refine hK _ _ ?_;clear hK;try simp only[pst0,simprocAttr]))
   exact⟨kids.length-(k+1),by omega,rfl,k+1,by simp,by omega,rfl,by rw[hsz]⟩
  ·have hd:decide ((k:Int)<(kids.length:Int))=false:=by simp;omega
   have hke:k=kids.length:=by omega
   subst hke
   rw[List.take_length]at g3
   repeat'(first|refine a_seq fun K hK=>?_|((first|refine a_regionS ?_|refine a_ret ?_);simp(maxSteps:=2000000) only[Ty.w,simprocAttr,g1,g3,g4,hlen,hd])|(refine a_exit ?_;try simp only[pst0,simprocAttr])|(refine a_cond _ (by(try simp(maxSteps:=2000000) only[Ty.w,simprocAttr,g1,g3,g4,hlen,hd]);rfl) (fun hb=>?_) (fun hb=>?_)<;>(try simp only[hb0,decide_eq_true_eq,decide_eq_false_iff_not,simprocAttr]at hb)<;>(try(exfalso;omega)))|((first|refine hK _ _ ?_|(clear hK;refine hK _ _ ?_));clear hK;try simp only[pst0,simprocAttr]))
theorem rdepth_c: ∀ (e:Sx),e.ok→e.depth≤bigN→ ∀ h:Heap,PCall Tryz.prog 51 [.agg e.cells] h fun r h'=>r= .sc (.int .i64 e.depth)∧h'=h:=by
 refine Sx.ind ?_
 intro kind value line col text kids ih hok hdp h
 simp only[Sx.ok]at hok
 obtain⟨_,_,_,hk,hks⟩:=hok
 rw[Sx.oks_iff]at hks
 have hlen:=Sx.rows_len kids
 simp only[Sx.depth]at hdp
 have hdb:Sx.depths 0 kids≤bigN:=by split at hdp<;>omega
 simp only[Sx.cells,Sx.depth]
 refine pcall_body (ow:=fun _=>false) (wf:=fun _=>false) Ty.mixed Tryz.func51 rfl Ty.hb_51 (by rw[Tryz.ntmps51];simp) ?_
 rw[Tryz.ntmps51,Tryz.results51]
 repeat'(first|refine a_seq fun K hK=>?_|(refine a_block ?_)|(refine a_regionS ?_;simp(maxSteps:=2000000) only[Ty.w,simprocAttr,hlen])|(refine hK _ _ ?_;clear hK;try simp only[pst0,simprocAttr]))
 refine a_loop (fun m S h'=>h'=h∧S 1= .cptr (Sx.mk kind value line col text kids).cells∧ ∃ k:Nat,S 4= .sc (.int .i64 k)∧k≤kids.length∧m=kids.length-k∧S 3= .sc (.int .i64 (Sx.depths 0 (kids.take k):Nat))) kids.length ?_ ?_
 ·simp only[Ty.w,simprocAttr]
  exact⟨rfl,0,rfl,by omega,rfl,by simp[Sx.depths]⟩
 ·rintro m S h' ⟨rfl,g1,k,g4,hkl,rfl,g3⟩
  simp only[Sx.cells]at g1
  by_cases hlt:k<kids.length
  ·have hd:decide ((k:Int)<(kids.length:Int))=true:=by simp;omega
   have w7:IntKind.i64.wrap ((k:Int)+1)=k+1:=by unfold bigN at hk;rw[wrap64 (by omega) (by omega)]
   obtain⟨e,hx⟩: ∃ e,kids[k]? =some e:=⟨_,List.getElem?_eq_getElem hlt⟩
   have hmem:=List.mem_of_getElem? hx
   have hc:=ih e hmem (hks e hmem) (Nat.le_trans (Sx.depths_mem 0 hmem) hdb)
   have hsz:=Sx.depths_take 0 hx
   have hr:=Sx.rows_get hx
   generalize Sx.depths 0 (kids.take k)=D at g3 hsz
   generalize e.depth=E at hc hsz
   obtain⟨ki,va,li,co,te,ks⟩:=e
   simp only[Sx.cells]at hr hc
   cases q:decide ((E:Int)>(D:Int))with
   |true=>
    have hm:max D E=E:=by have:=of_decide_eq_true q;omega
    repeat'(first|refine a_seq fun K hK=>?_|(refine a_regionS ?_;simp(maxSteps:=2000000) only[Ty.w,simprocAttr,g1,g3,g4,hlen,hd,hr,w7])|(refine a_skip ?_;try simp only[pst0,simprocAttr])|(refine a_cond _ (by(try simp(maxSteps:=2000000) only[Ty.w,simprocAttr,g1,g3,g4,hlen,hd,hr,w7]);rfl) (fun hb=>?_) (fun hb=>?_)<;>(try simp only[hb0,decide_eq_true_eq,decide_eq_false_iff_not,simprocAttr]at hb)<;>(try(exfalso;omega)))|(refine hK _ _ ?_;clear hK;try simp only[pst0,simprocAttr]))
    refine owp_useQ (hc _) (by(try simp only[Ty.w,simprocAttr,g1,g3,g4,hlen,hd,hr,q]);try rfl) ?_;simp(maxSteps:=2000000) only[Ty.w,simprocAttr,g1,g3,g4,hlen,hd,hr,q]
    repeat'(first|refine a_seq fun K hK=>?_|(refine a_block ?_)|((first|refine a_regionS ?_|refine a_region (fun K hK=>?_));simp(maxSteps:=2000000) only[Ty.w,simprocAttr,g1,g3,g4,w7,q])|(refine hK _ _ ?_;clear hK;try simp only[pst0,simprocAttr]))
    exact⟨kids.length-(k+1),by omega,rfl,k+1,by simp,by omega,rfl,by rw[hsz,hm]⟩
   |false=>
    have hm:max D E=D:=by have:=of_decide_eq_false q;omega
    repeat'(first|refine a_seq fun K hK=>?_|(refine a_regionS ?_;simp(maxSteps:=2000000) only[Ty.w,simprocAttr,g1,g3,g4,hlen,hd,hr,w7])|(refine a_skip ?_;try simp only[pst0,simprocAttr])|(refine a_cond _ (by(try simp(maxSteps:=2000000) only[Ty.w,simprocAttr,g1,g3,g4,hlen,hd,hr,w7]);rfl) (fun hb=>?_) (fun hb=>?_)<;>(try simp only[hb0,decide_eq_true_eq,decide_eq_false_iff_not,simprocAttr]at hb)<;>(try(exfalso;omega)))|(refine hK _ _ ?_;clear hK;try simp only[pst0,simprocAttr]))
    refine owp_useQ (hc _) (by(try simp only[Ty.w,simprocAttr,g1,g3,g4,hlen,hd,hr,q]);try rfl) ?_;simp(maxSteps:=2000000) only[Ty.w,simprocAttr,g1,g3,g4,hlen,hd,hr,q]
    repeat'(first|refine a_seq fun K hK=>?_|(refine a_block ?_)|(refine a_regionS ?_;simp(maxSteps:=2000000) only[Ty.w,simprocAttr,g1,g3,g4,w7,q])|(refine a_skip ?_;try simp only[pst0,simprocAttr])|(refine hK _ _ ?_;clear hK;try simp only[pst0,simprocAttr]))
    exact⟨kids.length-(k+1),by omega,rfl,k+1,by simp,by omega,rfl,by rw[hsz,hm]⟩
  ·have hd:decide ((k:Int)<(kids.length:Int))=false:=by simp;omega
   have hke:k=kids.length:=by omega
   subst hke
   rw[List.take_length]at g3
   generalize hD:Sx.depths 0 kids=D at g3 hdb
   have wd:IntKind.i64.wrap ((D:Int)+1)=(D:Int)+1:=by unfold bigN at hdb;rw[wrap64 (by omega) (by omega)]
   cases q:(kind==3)with
   |true=>
    have hk3:kind=3:=by simpa using q
    repeat'(first|refine a_seq fun K hK=>?_|((first|refine a_regionS ?_|refine a_ret ?_);simp(maxSteps:=2000000) only[Ty.w,simprocAttr,g1,g3,g4,hlen,hd,q,wd])|(refine a_exit ?_;try simp only[pst0,simprocAttr])|(refine a_cond _ (by(try simp(maxSteps:=2000000) only[Ty.w,simprocAttr,g1,g3,g4,hlen,hd,q,wd]);rfl) (fun hb=>?_) (fun hb=>?_)<;>(try simp only[hb0,decide_eq_true_eq,decide_eq_false_iff_not,simprocAttr]at hb)<;>(try(exfalso;omega)))|((first|refine hK _ _ ?_|(clear hK;refine hK _ _ ?_));clear hK;try simp only[pst0,simprocAttr]))
    rw[if_pos hk3,hD];simp
   |false=>
    have hk3:¬ kind=3:=by simpa using q
    repeat'(first|refine a_seq fun K hK=>?_|((first|refine a_regionS ?_|refine a_ret ?_);simp(maxSteps:=2000000) only[Ty.w,simprocAttr,g1,g3,g4,hlen,hd,q,wd])|((first|refine a_skip ?_|refine a_exit ?_);try simp only[pst0,simprocAttr])|(refine a_cond _ (by(try simp(maxSteps:=2000000) only[Ty.w,simprocAttr,g1,g3,g4,hlen,hd,q,wd]);rfl) (fun hb=>?_) (fun hb=>?_)<;>(try simp only[hb0,decide_eq_true_eq,decide_eq_false_iff_not,simprocAttr]at hb)<;>(try(exfalso;omega)))|((first|refine hK _ _ ?_|(clear hK;refine hK _ _ ?_));clear hK;try simp only[pst0,simprocAttr]))
    rw[if_neg hk3,hD]
theorem rshaped_c: ∀ (e:Sx),e.ok→ ∀ h:Heap,PCall Tryz.prog 50 [.agg e.cells] h fun r h'=>r= .sc (.bool (shapedS e))∧h'=h:=by
 refine Sx.ind ?_
 intro kind value line col text kids ih hok h
 simp only[Sx.ok]at hok
 obtain⟨_,_,ht,hk,hks⟩:=hok
 rw[Sx.oks_iff]at hks
 have hlen:=Sx.rows_len kids
 have e1:=emp_lenS kids
 have hw:=fun h:Heap=>rword_c (h:=h) ht
 generalize hF:shapedS (.mk kind value line col text kids)=F
 unfold shapedS at hF
 rw[← e1]at hF
 clear e1
 simp only[Sx.cells]
 cases k1:(kind==1)with
 |true=>
  rw[if_pos (by simpa using k1)]at hF
  cases q1:(value==0)with
  |false=>
   rw[q1]at hF
   simp only[Bool.false_and]at hF
   subst hF
   refine pcall_body (ow:=fun _=>false) (wf:=fun _=>false) Ty.mixed Tryz.func50 rfl Ty.hb_50 (by rw[Tryz.ntmps50];simp) ?_
   rw[Tryz.ntmps50,Tryz.results50]
   repeat'(first|refine a_seq fun K hK=>?_|((first|refine a_regionS ?_|refine a_ret ?_);simp(maxSteps:=2000000) only[Ty.w,simprocAttr,k1,q1,hlen])|(refine hK _ _ ?_;clear hK;try simp only[pst0,simprocAttr]))
  |true=>
   rw[q1]at hF
   cases q2:((kids.length:Int)==0)with
   |false=>
    rw[q2]at hF
    simp only[Bool.false_and,Bool.and_false]at hF
    subst hF
    refine pcall_body (ow:=fun _=>false) (wf:=fun _=>false) Ty.mixed Tryz.func50 rfl Ty.hb_50 (by rw[Tryz.ntmps50];simp) ?_
    rw[Tryz.ntmps50,Tryz.results50]
    repeat'(first|refine a_seq fun K hK=>?_|((first|refine a_regionS ?_|refine a_ret ?_);simp(maxSteps:=2000000) only[Ty.w,simprocAttr,k1,q1,q2,hlen])|(refine hK _ _ ?_;clear hK;try simp only[pst0,simprocAttr]))
   |true=>
    rw[q2]at hF
    simp only[Bool.true_and]at hF
    subst hF
    refine pcall_body (ow:=fun _=>false) (wf:=fun _=>false) Ty.mixed Tryz.func50 rfl Ty.hb_50 (by rw[Tryz.ntmps50];simp) ?_
    rw[Tryz.ntmps50,Tryz.results50]
    repeat'(first|refine a_seq fun K hK=>?_|(refine a_regionS ?_;simp(maxSteps:=2000000) only[Ty.w,simprocAttr,k1,q1,q2,hlen])|(refine hK _ _ ?_;clear hK;try simp only[pst0,simprocAttr]))
    refine owp_useQ (hw _) (by(try simp only[Ty.w,simprocAttr,k1,q1,q2,hlen]);try rfl) ?_;simp(maxSteps:=2000000) only[Ty.w,simprocAttr,k1,q1,q2,hlen]
    repeat'(first|(refine a_ret ?_;simp(maxSteps:=2000000) only[Ty.w,simprocAttr,k1,q1,q2,hlen])|(refine hK _ _ ?_;clear hK;try simp only[pst0,simprocAttr]))
 |false=>
  rw[if_neg (by simpa using k1)]at hF
  cases k2:(kind==2)with
  |true=>
   rw[if_pos (by simpa using k2)]at hF
   cases q1:(text.data.toList==(#[]:Array UInt8).toList)with
   |false=>
    rw[q1]at hF
    simp only[Bool.false_and]at hF
    subst hF
    refine pcall_body (ow:=fun _=>false) (wf:=fun _=>false) Ty.mixed Tryz.func50 rfl Ty.hb_50 (by rw[Tryz.ntmps50];simp) ?_
    rw[Tryz.ntmps50,Tryz.results50]
    repeat'(first|refine a_seq fun K hK=>?_|((first|refine a_regionS ?_|refine a_ret ?_);simp(maxSteps:=2000000) only[Ty.w,simprocAttr,k1,k2,q1,hlen])|(refine hK _ _ ?_;clear hK;try simp only[pst0,simprocAttr]))
   |true=>
    rw[q1]at hF
    cases q2:((kids.length:Int)==0)with
    |false=>
     rw[q2]at hF
     simp only[Bool.false_and,Bool.and_false]at hF
     subst hF
     refine pcall_body (ow:=fun _=>false) (wf:=fun _=>false) Ty.mixed Tryz.func50 rfl Ty.hb_50 (by rw[Tryz.ntmps50];simp) ?_
     rw[Tryz.ntmps50,Tryz.results50]
     repeat'(first|refine a_seq fun K hK=>?_|((first|refine a_regionS ?_|refine a_ret ?_);simp(maxSteps:=2000000) only[Ty.w,simprocAttr,k1,k2,q1,q2,hlen])|(refine hK _ _ ?_;clear hK;try simp only[pst0,simprocAttr]))
    |true=>
     rw[q2]at hF
     cases q3:decide (value≥ -1099511627776)with
     |false=>
      rw[q3]at hF
      simp only[Bool.false_and,Bool.and_false]at hF
      subst hF
      refine pcall_body (ow:=fun _=>false) (wf:=fun _=>false) Ty.mixed Tryz.func50 rfl Ty.hb_50 (by rw[Tryz.ntmps50];simp) ?_
      rw[Tryz.ntmps50,Tryz.results50]
      repeat'(first|refine a_seq fun K hK=>?_|((first|refine a_regionS ?_|refine a_ret ?_);simp(maxSteps:=2000000) only[Ty.w,simprocAttr,k1,k2,q1,q2,q3,hlen])|(refine hK _ _ ?_;clear hK;try simp only[pst0,simprocAttr]))
     |true=>
      rw[q3]at hF
      simp only[Bool.true_and]at hF
      subst hF
      refine pcall_body (ow:=fun _=>false) (wf:=fun _=>false) Ty.mixed Tryz.func50 rfl Ty.hb_50 (by rw[Tryz.ntmps50];simp) ?_
      rw[Tryz.ntmps50,Tryz.results50]
      repeat'(first|refine a_seq fun K hK=>?_|((first|refine a_regionS ?_|refine a_ret ?_);simp(maxSteps:=2000000) only[Ty.w,simprocAttr,k1,k2,q1,q2,q3,hlen])|(refine hK _ _ ?_;clear hK;try simp only[pst0,simprocAttr]))
  |false=>
   rw[if_neg (by simpa using k2)]at hF
   cases k3:(kind==3)with
   |false=>
    rw[if_neg (by simpa using k3)]at hF
    subst hF
    refine pcall_body (ow:=fun _=>false) (wf:=fun _=>false) Ty.mixed Tryz.func50 rfl Ty.hb_50 (by rw[Tryz.ntmps50];simp) ?_
    rw[Tryz.ntmps50,Tryz.results50]
    repeat'(first|refine a_seq fun K hK=>?_|(refine a_block ?_)|((first|refine a_regionS ?_|refine a_ret ?_);simp(maxSteps:=2000000) only[Ty.w,simprocAttr,k1,k2,k3])|(refine a_skip ?_;try simp only[pst0,simprocAttr])|(refine hK _ _ ?_;clear hK;try simp only[pst0,simprocAttr]))
   |true=>
    rw[if_pos (by simpa using k3)]at hF
    refine pcall_body (ow:=fun _=>false) (wf:=fun _=>false) Ty.mixed Tryz.func50 rfl Ty.hb_50 (by rw[Tryz.ntmps50];simp) ?_
    rw[Tryz.ntmps50,Tryz.results50]
    repeat'(first|refine a_seq fun K hK=>?_|(refine a_block ?_)|(refine a_regionS ?_;simp(maxSteps:=2000000) only[Ty.w,simprocAttr,k1,k2,k3,hlen])|(refine hK _ _ ?_;clear hK;try simp only[pst0,simprocAttr]))
    refine a_loop (fun m S h'=>h'=h∧S 1= .cptr (Sx.mk kind value line col text kids).cells∧ ∃ k:Nat,S 3= .sc (.int .i64 k)∧k≤kids.length∧m=kids.length-k∧shapedSs kids=shapedSs (kids.drop k)) kids.length ?_ ?_
    ·simp only[Ty.w,simprocAttr]
     exact⟨rfl,0,rfl,by omega,rfl,by simp⟩
    ·rintro m S h' ⟨rfl,g1,k,g3,hkl,rfl,hinv⟩
     simp only[Sx.cells]at g1
     by_cases hlt:k<kids.length
     ·have hd:decide ((k:Int)<(kids.length:Int))=true:=by simp;omega
      have w7:IntKind.i64.wrap ((k:Int)+1)=k+1:=by unfold bigN at hk;rw[wrap64 (by omega) (by omega)]
      obtain⟨e,hx⟩: ∃ e,kids[k]? =some e:=⟨_,List.getElem?_eq_getElem hlt⟩
      have hmem:=List.mem_of_getElem? hx
      have hc:=ih e hmem (hks e hmem)
      rw[drop_of_get hx]at hinv
      simp only[shapedSs]at hinv
      have hr:=Sx.rows_get hx
      generalize shapedS e=b at hc hinv
      obtain⟨ki,va,li,co,te,ks⟩:=e
      simp only[Sx.cells]at hr hc
      cases b with
      |false=>
       rw[hinv]at hF
       simp only[Bool.false_and]at hF
       subst hF
       repeat'(first|refine a_seq fun K hK=>?_|(refine a_regionS ?_;simp(maxSteps:=2000000) only[Ty.w,simprocAttr,g1,g3,hlen,hd,hr,w7])|(refine a_skip ?_;try simp only[pst0,simprocAttr])|(refine a_cond _ (by(try simp(maxSteps:=2000000) only[Ty.w,simprocAttr,g1,g3,hlen,hd,hr,w7]);rfl) (fun hb=>?_) (fun hb=>?_)<;>(try simp only[hb0,decide_eq_true_eq,decide_eq_false_iff_not,simprocAttr]at hb)<;>(try(exfalso;omega)))|(refine hK _ _ ?_;clear hK;try simp only[pst0,simprocAttr]))
       refine owp_useQ (hc _) (by(try simp only[Ty.w,simprocAttr,g1,g3,hlen,hd,hr,Bool.not_false]);try rfl) ?_;simp(maxSteps:=2000000) only[Ty.w,simprocAttr,g1,g3,hlen,hd,hr,Bool.not_false]
       repeat'(first|refine a_seq fun K hK=>?_|((first|refine a_regionS ?_|refine a_ret ?_);simp(maxSteps:=2000000) only[Ty.w,simprocAttr,g1,g3,w7,Bool.not_false])|(refine hK _ _ ?_;clear hK;try simp only[pst0,simprocAttr]))
      |true=>
       rw[Bool.true_and]at hinv
       repeat'(first|refine a_seq fun K hK=>?_|(refine a_regionS ?_;simp(maxSteps:=2000000) only[Ty.w,simprocAttr,g1,g3,hlen,hd,hr,w7])|(refine a_skip ?_;try simp only[pst0,simprocAttr])|(refine a_cond _ (by(try simp(maxSteps:=2000000) only[Ty.w,simprocAttr,g1,g3,hlen,hd,hr,w7]);rfl) (fun hb=>?_) (fun hb=>?_)<;>(try simp only[hb0,decide_eq_true_eq,decide_eq_false_iff_not,simprocAttr]at hb)<;>(try(exfalso;omega)))|(refine hK _ _ ?_;clear hK;try simp only[pst0,simprocAttr]))
       refine owp_useQ (hc _) (by(try simp only[Ty.w,simprocAttr,g1,g3,hlen,hd,hr,Bool.not_true]);try rfl) ?_;simp(maxSteps:=2000000) only[Ty.w,simprocAttr,g1,g3,hlen,hd,hr,Bool.not_true]
       repeat'(first|(refine a_block ?_)|(refine a_regionS ?_;simp(maxSteps:=2000000) only[Ty.w,simprocAttr,g1,g3,w7,Bool.not_true])|(refine a_skip ?_;try simp only[pst0,simprocAttr])|(refine hK _ _ ?_;clear hK;try simp only[pst0,simprocAttr]))
       exact⟨kids.length-(k+1),by omega,rfl,k+1,by simp,by omega,rfl,hinv⟩
     ·have hd:decide ((k:Int)<(kids.length:Int))=false:=by simp;omega
      rw[List.drop_eq_nil_of_le (by omega)]at hinv
      rw[hinv]at hF
      simp only[shapedSs,Bool.true_and]at hF
      cases q1:(text.data.toList==(#[]:Array UInt8).toList)with
      |false=>
       rw[q1]at hF
       simp only[Bool.false_and]at hF
       subst hF
       repeat'(first|refine a_seq fun K hK=>?_|((first|refine a_regionS ?_|refine a_ret ?_);simp(maxSteps:=2000000) only[Ty.w,simprocAttr,g1,g3,hlen,hd,q1])|(refine a_exit ?_;try simp only[pst0,simprocAttr])|(refine a_cond _ (by(try simp(maxSteps:=2000000) only[Ty.w,simprocAttr,g1,g3,hlen,hd,q1]);rfl) (fun hb=>?_) (fun hb=>?_)<;>(try simp only[hb0,decide_eq_true_eq,decide_eq_false_iff_not,simprocAttr]at hb)<;>(try(exfalso;omega)))|((first|refine hK _ _ ?_|(clear hK;refine hK _ _ ?_));clear hK;try simp only[pst0,simprocAttr]))
      |true=>
       rw[q1]at hF
       simp only[Bool.true_and]at hF
       subst hF
       repeat'(first|refine a_seq fun K hK=>?_|((first|refine a_regionS ?_|refine a_ret ?_);simp(maxSteps:=2000000) only[Ty.w,simprocAttr,g1,g3,hlen,hd,q1])|(refine a_exit ?_;try simp only[pst0,simprocAttr])|(refine a_cond _ (by(try simp(maxSteps:=2000000) only[Ty.w,simprocAttr,g1,g3,hlen,hd,q1]);rfl) (fun hb=>?_) (fun hb=>?_)<;>(try simp only[hb0,decide_eq_true_eq,decide_eq_false_iff_not,simprocAttr]at hb)<;>(try(exfalso;omega)))|((first|refine hK _ _ ?_|(clear hK;refine hK _ _ ?_));clear hK;try simp only[pst0,simprocAttr]))
theorem rvalid_c{x:Sx}(hok:x.ok)(hd:x.depth≤bigN)(h:Heap):PCall Tryz.prog 21 [.agg x.cells] h fun r h'=>r= .sc (.bool (shapedS x&&decide ((x.depth:Int)≤32)&&decide (x.count≤4096)))∧h'=h:=by
 have c1:=rshaped_c x hok
 have c2:=rdepth_c x hok hd
 have c3:=rcount_c x hok
 generalize shapedS x=b at c1⊢
 generalize x.depth=D at c2⊢
 generalize x.count=N at c3⊢
 obtain⟨ki,va,li,co,te,ks⟩:=x
 simp only[Sx.cells]at c1 c2 c3⊢
 cases b with
 |false=>
  refine pcall_body (ow:=fun _=>false) (wf:=fun _=>false) Ty.mixed Tryz.func21 rfl Ty.hb_21 (by rw[Tryz.ntmps21];simp) ?_
  rw[Tryz.ntmps21,Tryz.results21]
  repeat'(first|refine a_seq fun K hK=>?_|(refine a_regionS ?_;simp(maxSteps:=2000000) only[Ty.w,simprocAttr])|(refine hK _ _ ?_;clear hK;try simp only[pst0,simprocAttr]))
  refine owp_useQ (c1 _) (by(try simp only[Ty.w,simprocAttr,]);try rfl) ?_;simp(maxSteps:=2000000) only[Ty.w,simprocAttr,]
  repeat'(first|(refine a_ret ?_;simp(maxSteps:=2000000) only[Ty.w,simprocAttr])|(refine hK _ _ ?_;clear hK;try simp only[pst0,simprocAttr]))
  all_goals rfl
 |true=>
  cases q:decide ((D:Int)≤32)with
  |false=>
   refine pcall_body (ow:=fun _=>false) (wf:=fun _=>false) Ty.mixed Tryz.func21 rfl Ty.hb_21 (by rw[Tryz.ntmps21];simp) ?_
   rw[Tryz.ntmps21,Tryz.results21]
   repeat'(first|refine a_seq fun K hK=>?_|(refine a_regionS ?_;simp(maxSteps:=2000000) only[Ty.w,simprocAttr])|(refine hK _ _ ?_;clear hK;try simp only[pst0,simprocAttr]))
   refine owp_useQ (c1 _) (by(try simp only[Ty.w,simprocAttr,]);try rfl) ?_;simp(maxSteps:=2000000) only[Ty.w,simprocAttr,]
   skip
   refine owp_useQ (c2 _) (by(try simp only[Ty.w,simprocAttr,q]);try rfl) ?_;simp(maxSteps:=2000000) only[Ty.w,simprocAttr,q]
   repeat'(first|(refine a_ret ?_;simp(maxSteps:=2000000) only[Ty.w,simprocAttr,q])|(refine hK _ _ ?_;clear hK;try simp only[pst0,simprocAttr]))
   all_goals rfl
  |true=>
   refine pcall_body (ow:=fun _=>false) (wf:=fun _=>false) Ty.mixed Tryz.func21 rfl Ty.hb_21 (by rw[Tryz.ntmps21];simp) ?_
   rw[Tryz.ntmps21,Tryz.results21]
   repeat'(first|refine a_seq fun K hK=>?_|(refine a_regionS ?_;simp(maxSteps:=2000000) only[Ty.w,simprocAttr])|(refine hK _ _ ?_;clear hK;try simp only[pst0,simprocAttr]))
   refine owp_useQ (c1 _) (by(try simp only[Ty.w,simprocAttr,]);try rfl) ?_;simp(maxSteps:=2000000) only[Ty.w,simprocAttr,]
   skip
   refine owp_useQ (c2 _) (by(try simp only[Ty.w,simprocAttr,q]);try rfl) ?_;simp(maxSteps:=2000000) only[Ty.w,simprocAttr,q]
   skip
   refine owp_useQ (c3 _) (by(try simp only[Ty.w,simprocAttr,q]);try rfl) ?_;simp(maxSteps:=2000000) only[Ty.w,simprocAttr,q]
   repeat'(first|(refine a_ret ?_;simp(maxSteps:=2000000) only[Ty.w,simprocAttr,q])|(refine hK _ _ ?_;clear hK;try simp only[pst0,simprocAttr]))
   all_goals(simp only[Bool.true_and])
end Go.Proofs.YtjeolbgpllbemaaGreat
namespace Go.AM
mutual
def Sx.nodes:Sx→Nat
 | .mk _ _ _ _ _ kids=>Sx.nodess kids+1
def Sx.nodess:List Sx→Nat
 |[]=>0
 |k::ks=>k.nodes+Sx.nodess ks
end
mutual
theorem Sx.count_eq: ∀ (x:Sx),x.nodes≤bigN→x.count=x.nodes
 | .mk _ _ _ _ _ kids,h=>by
  simp only[Sx.nodes]at h
  simp only[Sx.count,Sx.nodes]
  have:=Sx.counts_eq kids 1 (by omega)
  simp only[Int.natCast_one]at this
  rw[this];congr 1;omega
theorem Sx.counts_eq: ∀ (l:List Sx)(n:Nat),n+Sx.nodess l≤bigN→Sx.counts n l=(n+Sx.nodess l:Nat)
 |[],n,h=>by simp[Sx.counts,Sx.nodess]
 |k::ks,n,h=>by
  simp only[Sx.nodess]at h
  simp only[Sx.counts,Sx.nodess]
  rw[Sx.count_eq k (by omega)]
  have hw:IntKind.i64.wrap ((n:Int)+(k.nodes:Int))=((n+k.nodes:Nat):Int):=by unfold bigN at h;rw[wrap64 (by omega) (by omega)];omega
  rw[hw,Sx.counts_eq ks (n+k.nodes) (by omega)]
  congr 1;omega
end
end Go.AM
namespace Go.Proofs.YtjeolbgpllbemaaGreat
open Go.AM
theorem lowB_self(c:UInt8):lowB c=some c↔wB c=true:=by
 unfold lowB
 cases hu:upB c with
 |true=>
  have h1:65≤c.toNat∧c.toNat≤90:=by simpa[upB]using hu
  have hw:wB c=false:=by
   have h2:letB c=false:=by simp[letB];omega
   have h3:digB c=false:=by simp[digB];omega
   have h4:signs.contains c=false:=by
    rw[signs_c]
    have: ∀ v:Int,v=45∨v=95∨v=63∨v=58∨v=60∨v=62∨v=61∨v=43∨v=42→((c.toNat:Int)==v)=false:=by
     intro v hv
     rw[beq_eq_false_iff_ne]
     omega
    simp[this]
   simp only[wB,h2,h3,h4,Bool.or_false]
  rw[hw]
  simp only[if_true,Option.some.injEq,Bool.false_eq_true,iff_false]
  intro e
  have:=congrArg UInt8.toNat e
  rw[UInt8.toNat_add]at this
  simp at this
  omega
 |false=>
  simp only[Bool.false_eq_true,if_false]
  cases wB c<;>simp
theorem lowL_self: ∀ l:List UInt8,lowL l=some l↔l.all wB=true
 |[]=>by simp[lowL]
 |c::l=>by
  have h1:=lowB_self c
  have h2:=lowL_self l
  simp only[lowL,List.all_cons,Bool.and_eq_true]
  cases hc:lowB c with
  |none=>rw[hc]at h1;simp at h1⊢;intro hw;rw[h1]at hw;simp at hw
  |some d=>
   rw[hc]at h1
   cases hl:lowL l with
   |none=>rw[hl]at h2;simp at h2⊢;intro _;simpa using h2
   |some p=>
    rw[hl]at h2
    simp only[Option.map_some,Option.some.injEq,List.cons.injEq]
    rw[← h1, ← h2]
    simp
theorem word_same(s:ByteArray):wordB s=wordR s:=by
 have hsl:s.data.toList.length=s.size:=by rw[Array.length_toList];try rfl
 have hself:=lowL_self s.data.toList
 unfold wordB wordR lowS
 by_cases hc:0<s.size∧s.size≤32
 ·rw [if_pos hc]
  have d1:decide (1≤s.size)=true:=by simp;omega
  have d2:decide (s.size≤32)=true:=by simp;omega
  rw[d1,d2]
  cases hl:lowL s.data.toList with
  |none=>
   rw[hl]at hself
   have:s.data.toList.all wB=false:=by
    cases h:s.data.toList.all wB with
    |false=>rfl
    |true=>rw[h]at hself;simp at hself
   simp only[this,Bool.false_and]
  |some p=>
   rw[hl]at hself
   cases h:s.data.toList.all wB with
   |true=>
    rw[h]at hself
    have hp:p=s.data.toList:=by simpa using hself
    subst hp
    have:(⟨s.data.toList.toArray⟩:ByteArray)=s:=ba_ext rfl
    simp only[this,bEq,beq_self_eq_true,Bool.true_and]
   |false=>
    rw[h]at hself
    have hp:¬ p=s.data.toList:=by simpa using hself
    have:bEq (⟨p.toArray⟩:ByteArray) s=false:=by simp only[bEq,beq_eq_false_iff_ne];exact hp
    simp only[this,Bool.and_false,Bool.false_and]
 ·rw [if_neg hc]
  have:(decide (1≤s.size)&&decide (s.size≤32))=false:=by
   cases h:(decide (1≤s.size)&&decide (s.size≤32))with
   |false=>rfl
   |true=>
    simp only[Bool.and_eq_true,decide_eq_true_eq]at h
    exact absurd ⟨by omega,h.2⟩ hc
  simp only[Bool.false_and]
  rw[Bool.and_assoc (s.data.toList.all wB),this];simp
mutual
theorem svalid_iff: ∀ (x:Sx)(d n:Nat),d≤32→n≤4096→((svalid x d n).1=true↔shapedS x=true∧d+x.depth≤32∧n+x.nodes≤4096)∧((svalid x d n).1=true→(svalid x d n).2=n+x.nodes)
 | .mk kind value line col text kids,d,n,hd,hn=>by
  have e1:(kids.isEmpty=true)↔kids=[]:=List.isEmpty_iff
  unfold svalid shapedS
  simp only[Sx.depth,Sx.nodes]
  by_cases h0:n+1>4096
  ·rw [if_pos h0]
   refine⟨⟨by simp,fun⟨_,_,h⟩=>by omega⟩,by simp⟩
  ·rw [if_neg h0]
   by_cases k1:kind=1
   ·rw [if_pos k1,if_pos k1,word_same]
    have k3:¬ kind=3:=by omega
    rw[if_neg k3]
    simp only[Bool.and_eq_true,e1,decide_eq_true_eq,beq_iff_eq]
    constructor
    ·constructor
     ·rintro ⟨⟨h1,h2⟩,rfl⟩
      exact⟨⟨⟨h2,rfl⟩,h1⟩,by simp only[Sx.depths];omega,by simp only[Sx.nodess];omega⟩
     ·rintro ⟨⟨⟨h1,h2⟩,h3⟩,_⟩
      exact⟨⟨h3,h1⟩,h2⟩
    ·rintro ⟨_,rfl⟩;simp[Sx.nodess]
   ·rw [if_neg k1,if_neg k1]
    by_cases k2:kind=2
    ·rw [if_pos k2,if_pos k2]
     have k3:¬ kind=3:=by omega
     rw[if_neg k3]
     simp only[Bool.and_eq_true,e1,decide_eq_true_eq,bEq,ge_iff_le]
     constructor
     ·constructor
      ·rintro ⟨⟨⟨h1,rfl⟩,h3⟩,h4⟩
       exact⟨⟨⟨⟨h1,rfl⟩,h3⟩,h4⟩,by simp only[Sx.depths];omega,by simp only[Sx.nodess];omega⟩
      ·rintro ⟨⟨⟨⟨h1,h2⟩,h3⟩,h4⟩,_⟩
       exact⟨⟨⟨h1,h2⟩,h3⟩,h4⟩
     ·rintro ⟨⟨⟨_,rfl⟩,_⟩,_⟩;simp[Sx.nodess]
    ·rw [if_neg k2,if_neg k2]
     by_cases k3:kind=3
     ·rw [if_pos k3,if_pos k3,if_pos k3]
      simp only[Bool.and_eq_true,beq_iff_eq]
      by_cases hc:bEq text ⟨#[]⟩=true∧value=0∧d≠32
      ·rw [if_pos hc]
       obtain⟨g1,g2⟩:=svalids_iff kids (d+1) (n+1) (by omega) (by omega)
       rw[g1]
       refine⟨⟨fun⟨h1,h2,h3⟩=>⟨⟨h1,by simpa[bEq]using hc.1,hc.2.1⟩,by omega,by omega⟩,fun⟨⟨h1,_,_⟩,h2,h3⟩=>⟨h1,by omega,by omega⟩⟩,fun h=>?_⟩
       rw[g2 (g1.2 h)];omega
      ·rw [if_neg hc]
       refine⟨⟨by simp,fun⟨⟨h1,h4,h5⟩,h2,h3⟩=>?_⟩,by simp⟩
       exact absurd ⟨by simp only[bEq,beq_iff_eq];exact h4,h5,by omega⟩ hc
     ·rw [if_neg k3,if_neg k3]
      simp
theorem svalids_iff: ∀ (l:List Sx)(d n:Nat),d≤32→n≤4096→((svalids l d n).1=true↔shapedSs l=true∧d+Sx.depths 0 l≤32∧n+Sx.nodess l≤4096)∧((svalids l d n).1=true→(svalids l d n).2=n+Sx.nodess l)
 |[],d,n,hd,hn=>by simp[svalids,shapedSs,Sx.depths,Sx.nodess,hd,hn]
 |k::ks,d,n,hd,hn=>by
  obtain⟨g1,g2⟩:=svalid_iff k d n hd hn
  have hdm: ∀ (m:Nat)(l:List Sx),Sx.depths m l=max m (Sx.depths 0 l):=by
   intro m l
   induction l generalizing m with
   |nil=>simp[Sx.depths]
   |cons k l ih=>simp only[Sx.depths];rw[ih (max m k.depth),ih (max 0 k.depth)];omega
  simp only[svalids,shapedSs,Sx.depths,Sx.nodess,Bool.and_eq_true]
  rw[hdm]
  cases hb:svalid k d n with
  |mk b n'=>
   rw[hb]at g1 g2
   cases b with
   |false=>
    simp only at g1⊢
    refine⟨⟨by simp,fun⟨⟨h1,_⟩,h2,h3⟩=>?_⟩,by simp⟩
    exact absurd (g1.2 ⟨h1,by omega,by omega⟩) (by simp)
   |true=>
    simp only at g1 g2⊢
    obtain⟨a1,a2,a3⟩:=g1.1 trivial
    have e:=g2 trivial
    obtain⟨f1,f2⟩:=svalids_iff ks d n' hd (by omega)
    rw[f1]
    refine⟨⟨fun⟨h1,h2,h3⟩=>⟨⟨a1,h1⟩,by omega,by omega⟩,fun⟨⟨_,h1⟩,h2,h3⟩=>⟨h1,by omega,by omega⟩⟩,fun h=>?_⟩
    rw[f2 (f1.2 h)];omega
end
def rvalidB(x:Sx):Bool:=shapedS x&&decide ((x.depth:Int)≤32)&&decide (x.count≤4096)
theorem valid_same{x:Sx}(h:x.nodes≤bigN):(svalid x 0 0).1=rvalidB x:=by
 have h1:=(svalid_iff x 0 0 (by omega) (by omega)).1
 unfold rvalidB
 rw[Sx.count_eq x h]
 rw[Bool.eq_iff_iff,h1]
 simp only[Bool.and_eq_true,decide_eq_true_eq]
 constructor
 ·rintro ⟨a,b,c⟩;exact⟨⟨a,by omega⟩,by omega⟩
 ·rintro ⟨⟨a,b⟩,c⟩;exact⟨a,by omega,by omega⟩
end Go.Proofs.YtjeolbgpllbemaaGreat
namespace Go.AM
mutual
theorem Sx.small_of: ∀ (x:Sx),x.nodes≤1048576→x.small
 | .mk _ _ _ _ _ kids,h=>by
  simp only[Sx.nodes]at h
  simp only[Sx.small]
  have:=Sx.smalls_of kids (by omega)
  exact⟨by omega,this.2⟩
theorem Sx.smalls_of: ∀ (l:List Sx),Sx.nodess l≤1048576→l.length≤Sx.nodess l∧Sx.smalls l
 |[],_=>by simp[Sx.nodess,Sx.smalls]
 |k::ks,h=>by
  simp only[Sx.nodess]at h
  have h1:=Sx.small_of k (by omega)
  have h2:=Sx.smalls_of ks (by omega)
  have h3:1≤k.nodes:=by cases k;simp only[Sx.nodes];omega
  simp only[Sx.nodess,Sx.smalls,List.length_cons]
  exact⟨by omega,h1,h2.2⟩
end
end Go.AM
namespace Go.Proofs.YtjeolbgpllbemaaGreat
open Go.AM
theorem svalid_small{x:Sx}(h:(svalid x 0 0).1=true):x.small:=by
 have:=(svalid_iff x 0 0 (by omega) (by omega)).1.1 h
 exact Sx.small_of x (by omega)
theorem termsM_ok: ∀ {l:List Sx},(∀ x∈l,x.ok)→(∀ s∈(termsM l).1,s.size≤bigN)∧(termsM l).1.length≤l.length
 |[],_=>by simp[termsM]
 |x::l,h=>by
  have h1:=termsM_ok (l:=l) fun y hy=>h y (by simp[hy])
  have h2:(textOf x).size≤bigN:=by
   have:=h x (by simp)
   obtain⟨_,_,_,_,t,_⟩:=x
   simp only[Sx.ok]at this
   exact this.2.2.1
  simp only[termsM]
  cases kindOf x==1 with
  |false=>simp
  |true=>
   cases termB (textOf x)with
   |false=>simp
   |true=>
    simp only[cond_true]
    cases hq:(termsM l).2==0 with
    |false=>simp
    |true=>
     simp only[cond_true,List.mem_cons,List.length_cons]
     exact⟨fun s hs=>hs.elim (fun e=>by rw[e];exact h2) (h1.1 s),by omega⟩
theorem zeroEx_ok:zeroEx.ok∧zeroEx.small:=by
 simp only[zeroEx,Ex.ok,Ex.oks,Ex.small,Ex.smalls,List.length_nil]
 refine⟨⟨by simp[bigN,ByteArray.size],by simp[bigN,ByteArray.size],by omega,⟨by simp,by simp⟩,by simp,trivial⟩,by omega,trivial⟩
theorem exprP_ok: ∀ x:Sx,x.ok→x.small→(exprP x).1.ok∧(exprP x).1.small:=by
 refine Sx.ind ?_
 intro kind value line col text kids ih hok hsm
 have hok':=hok
 simp only[Sx.ok]at hok'
 obtain⟨hq1,hv,hq3,hq4,hks⟩:=hok'
 rw[Sx.oks_iff]at hks
 simp only[Sx.small]at hsm
 obtain⟨hl,hss⟩:=hsm
 rw[Sx.smalls_iff]at hss
 rw[exprP_head]
 have kk:kindOf (.mk kind value line col text kids)=kind:=rfl
 rw[kk]
 cases hk:kind==2 with
 |true=>
  simp only[cond_true,Ex.ok,Ex.oks,Ex.small,Ex.smalls,List.length_nil]
  exact⟨⟨by simp[opNum,bigN,ByteArray.size],by simp[bigN,ByteArray.size],hv,⟨by simp,by simp⟩,by simp,trivial⟩,by omega,trivial⟩
 |false=>
  simp only[cond_false]
  cases hM:headM (.mk kind value line col text kids)with
  |none=>exact zeroEx_ok
  |some wr=>
   obtain⟨w,rest⟩:=wr
   obtain⟨hw,hr⟩:=headM_ok hok hM
   obtain⟨y,rfl⟩:=headM_rest hM
   simp only
   cases hp:isPm w with
   |true=>
    simp only[cond_true]
    split
    ·rename_i a b
     have ha:=ih a (by simp) (hks a (by simp)) (hss a (by simp))
     have hb:=ih b (by simp) (hks b (by simp)) (hss b (by simp))
     cases q1:(exprP a).2==0 with
     |false=>exact zeroEx_ok
     |true=>
      cases q2:(exprP b).2==0 with
      |false=>exact zeroEx_ok
      |true=>
       simp only[cond_true,Ex.ok,Ex.oks,Ex.small,Ex.smalls,List.length_nil,List.length_cons]
       exact⟨⟨hw,by simp[bigN,ByteArray.size],by omega,⟨by simp,by simp⟩,by simp[bigN],ha.1,hb.1,trivial⟩,by omega,ha.2,hb.2,trivial⟩
    ·exact zeroEx_ok
   |false=>
    simp only[cond_false]
    cases nameB w with
    |false=>exact zeroEx_ok
    |true=>
     have ht:=termsM_ok hr
     simp only[cond_true]
     cases q1:(termsM rest).2==0 with
     |false=>exact zeroEx_ok
     |true=>
      simp at hl
      simp only[cond_true,Ex.ok,Ex.oks,Ex.small,Ex.smalls,List.length_nil]
      exact⟨⟨by simp[opFlu,bigN,ByteArray.size],hw,by omega,⟨by have:=ht.2;unfold bigN;omega,ht.1⟩,by simp,trivial⟩,by have:=ht.2;omega,trivial⟩
end Go.Proofs.YtjeolbgpllbemaaGreat
namespace Go.Proofs.YtjeolbgpllbemaaGreat
open Go.AM
def opAtom:ByteArray:=⟨#[97,116,111,109]⟩
def opSame:ByteArray:=⟨#[115,97,109,101]⟩
def opAnd:ByteArray:=⟨#[97,110,100]⟩
def opOr:ByteArray:=⟨#[111,114]⟩
def opNot:ByteArray:=⟨#[110,111,116]⟩
def opImp:ByteArray:=⟨#[105,109,112,108,121]⟩
def opAll:ByteArray:=⟨#[102,111,114,97,108,108]⟩
def opSome:ByteArray:=⟨#[101,120,105,115,116,115]⟩
def opEq:ByteArray:=⟨#[61]⟩
def opLt:ByteArray:=⟨#[60]⟩
def opLe:ByteArray:=⟨#[60,61]⟩
def opGt:ByteArray:=⟨#[62]⟩
def opGe:ByteArray:=⟨#[62,61]⟩
def isCmp(op:ByteArray):Bool:=bEq op opLt||bEq op opLe||bEq op opEq
def isQ(op:ByteArray):Bool:=bEq op opAll||bEq op opSome
def zeroFm:Fm:= .mk ⟨#[]⟩ ⟨#[]⟩ [] [] [] []
def shapeOf(op:ByteArray)(nk:Nat):Option (Nat × Nat × Bool):=
 if bEq op opAtom then some (0,0,false)
 else if bEq op opSame then some (0,0,false)
 else if bEq op opLt then some (2,0,false)
 else if bEq op opLe then some (2,0,false)
 else if bEq op opEq then some (2,0,false)
 else if bEq op opAnd then some (0,nk,false)
 else if bEq op opOr then some (0,nk,false)
 else if bEq op opNot then some (0,1,false)
 else if bEq op opImp then some (0,2,false)
 else if bEq op opAll then some (0,1,true)
 else if bEq op opSome then some (0,1,true)
 else none
def termsOk(op name:ByteArray)(args:List ByteArray):Bool:=
 if bEq op opAtom then nameB name&&args.all termB
 else if bEq op opSame then emptyB name&&decide (args.length=2)&&args.all termB
 else emptyB name&&args.isEmpty
def pmOk(p:Pm):Bool:=varB p.name&&typedB p.type
def partsOk(op name:ByteArray)(args:List ByteArray)(params:List Pm)(ne nk:Nat):Bool:=
 match shapeOf op nk with
 |none=>false
 |some (e,m,q)=>termsOk op name args&&decide (ne=e)&&decide (nk=m)&&(params.isEmpty||q)&&params.all pmOk
def formedMs:List Ex→Nat→Nat→Bool × Nat
 |[],_,c=>(true,c)
 |e::l,d,c=>match formedM e d c with
  |(true,c')=>formedMs l d c'
  |(false,c')=>(false,c')
mutual
def shapedM:Fm→Nat→Nat→Bool × Nat
 | .mk op name args params exprs kids,d,c=>
  if c+1≤4096∧d≤32 then
   (if partsOk op name args params exprs.length kids.length = true then (match formedMs exprs (d + 1) (c + 1) with
    |(true,c')=>shapedMs kids (d+1) c'
    |(false,c')=>(false,c'))else(false,c+1))
  else(false,c+1)
def shapedMs:List Fm→Nat→Nat→Bool × Nat
 |[],_,c=>(true,c)
 |k::l,d,c=>match shapedM k d c with
  |(true,c')=>shapedMs l d c'
  |(false,c')=>(false,c')
end
mutual
def shapedF:Fm→Bool
 | .mk op name args params exprs kids=>partsOk op name args params exprs.length kids.length&&exprs.all shapedE&&shapedFs kids
def shapedFs:List Fm→Bool
 |[]=>true
 |k::l=>shapedF k&&shapedFs l
end
theorem shapedFs_iff: ∀ {l:List Fm},(shapedFs l=true↔ ∀ k∈l,shapedF k=true)
 |[]=>by simp[shapedFs]
 |k::l=>by simp[shapedFs,shapedFs_iff (l:=l)]
mutual
def fmW:Fm→Sx
 | .mk op name args params exprs kids=>
  if bEq op opAtom then wordsM name args
  else if bEq op opSame then wordsM opEq args
  else if isCmp op=true then listM (wordM op::exprs.map exW)
  else listM ((if(bEq op opAnd&&kids.isEmpty)=true then[]else[wordM op])++(if isQ op=true then[listM (paramsW params)]else[])++fmWs kids)
def fmWs:List Fm→List Sx
 |[]=>[]
 |k::l=>fmW k::fmWs l
end
theorem fmWs_map: ∀ l:List Fm,fmWs l=l.map fmW
 |[]=>rfl
 |k::l=>by simp[fmWs,fmWs_map l]
def validF(f:Fm):Bool:=(shapedM f 0 0).1&&(svalid (fmW f) 0 0).1
end Go.Proofs.YtjeolbgpllbemaaGreat
namespace Go.Proofs.YtjeolbgpllbemaaGreat
open Go.AM
def kidsOf:Sx→List Sx
 | .mk _ _ _ _ _ kids=>kids
def isWrd(x:Sx):Bool:=kindOf x==1&&(svalid x 0 0).1
def pmsOf(t:ByteArray)(l:List ByteArray):List Pm:=l.map (⟨·,t⟩)
def paramsL(vars:Bool):List Sx→List Pm→List ByteArray→List Pm × Int
 |[],don,pen=>(don++pmsOf opObj pen,0)
 | x :: l, don, pen => bif isWrd x then
   (bif bEq (textOf x) opMin then (match l with
    |[]=>([],2)
    |t::l'=>bif !pen.isEmpty&&isWrd t then(bif typedB (textOf t)then paramsL vars l' (don++pmsOf (textOf t) pen) []else([],8))else([],2))
   else bif (bif vars then varB (textOf x)else nameB (textOf x))then paramsL vars l don (pen++[textOf x])else([],8))
  else([],2)
def paramsP(vars:Bool)(l:List Sx):List Pm × Int:=paramsL vars l [] []
def compareP(w:ByteArray)(x y:Sx):Fm × Int:=
 bif bEq w opEq&&kindOf x==1&&kindOf y==1 then(.mk opSame ⟨#[]⟩ (termsM [x,y]).1 [] [] [],(termsM [x,y]).2)
 else bif (exprP x).2==0 then(bif (exprP y).2==0 then
   (if bEq w opGt then(.mk opLt ⟨#[]⟩ [] [] [(exprP y).1,(exprP x).1] [],0)
   else if bEq w opGe then(.mk opLe ⟨#[]⟩ [] [] [(exprP y).1,(exprP x).1] [],0)
   else(.mk w ⟨#[]⟩ [] [] [(exprP x).1,(exprP y).1] [],0))else(zeroFm,(exprP y).2))else(zeroFm,(exprP x).2)
def fin(r:Fm × Int):Fm × Int:=bif r.2==0 then r else(zeroFm,r.2)
def isCmp5(w:ByteArray):Bool:=isCmp w||bEq w opGt||bEq w opGe
def isLst(w:ByteArray):Bool:=bEq w opNot||bEq w opImp||bEq w opAnd||bEq w opOr
mutual
def fmP:Sx→Fm × Int
 | .mk kind _ _ _ _ kids=>
  if kind=3 then(match kids with
   |[]=>(.mk opAnd ⟨#[]⟩ [] [] [] [],0)
   |x::rest=>bif kindOf x==1 then
    (bif decide (countW (textOf x)≥0)&&!(decide (countW (textOf x)=rest.length))then(zeroFm,2)
    else bif isQ (textOf x)then(match rest with
     |[]=>(zeroFm,2)
     |p::body=>bif kindOf p==3 then(bif (paramsP true (kidsOf p)).2==0 then(match fmPs body with
       |(ks,c)=>bif c==0 then(.mk (textOf x) ⟨#[]⟩ [] (paramsP true (kidsOf p)).1 [] ks,0)else(zeroFm,c))
      else(zeroFm,(paramsP true (kidsOf p)).2))else(zeroFm,2))
    else bif isLst (textOf x)then(match fmPs rest with
     |(ks,c)=>bif c==0 then(.mk (textOf x) ⟨#[]⟩ [] [] [] ks,0)else(zeroFm,c))
    else bif isCmp5 (textOf x)then(match rest with
     |[a,b]=>fin (compareP (textOf x) a b)
     |_=>(zeroFm,2))
    else bif nameB (textOf x)then(bif (termsM rest).2==0 then(.mk opAtom (textOf x) (termsM rest).1 [] [] [],0)else(zeroFm,(termsM rest).2))
    else(zeroFm,8))
   else(zeroFm,2))else(zeroFm,2)
def fmPs:List Sx→List Fm × Int
 |[]=>([],0)
 |x::l=>match fmP x with
  | (f, c) => bif c == 0 then (match fmPs l with
   |(fs,c')=>bif c'==0 then(f::fs,0)else([],c'))else([],c)
end
end Go.Proofs.YtjeolbgpllbemaaGreat
namespace Go.Proofs.YtjeolbgpllbemaaGreat
open Go.AM
theorem name_ne{s w:ByteArray}(h:nameB s=true)(hw:nameB w=false):bEq s w=false:=by
 cases he:bEq s w with
 |false=>rfl
 |true=>rw[bEq_eq he,hw]at h;simp at h
theorem countW_eq(op:ByteArray):countW op=if bEq op opNot then 1 else if bEq op opImp then 2 else if bEq op opAll then 2 else if bEq op opSome then 2 else if bEq op opEq then 2 else if bEq op opLt then 2 else if bEq op opLe then 2 else if bEq op opGt then 2 else if bEq op opGe then 2 else-1:=rfl
theorem name_count{s:ByteArray}(h:nameB s=true):countW s= -1∧isQ s=false∧isLst s=false∧isCmp5 s=false:=by
 rw[countW_eq]
 unfold isQ isLst isCmp5 isCmp
 rw[name_ne h (w:=opNot) (by decide),name_ne h (w:=opImp) (by decide),name_ne h (w:=opAll) (by decide),name_ne h (w:=opSome) (by decide),name_ne h (w:=opEq) (by decide),name_ne h (w:=opLt) (by decide),name_ne h (w:=opLe) (by decide),name_ne h (w:=opGt) (by decide),name_ne h (w:=opGe) (by decide),name_ne h (w:=opAnd) (by decide),name_ne h (w:=opOr) (by decide)]
 exact⟨rfl,rfl,rfl,rfl⟩
theorem partsOk_cases{op name:ByteArray}{args:List ByteArray}{params:List Pm}{ne nk:Nat}(h:partsOk op name args params ne nk=true):
  (op=opAtom∧nameB name=true∧args.all termB=true∧params=[]∧ne=0∧nk=0)∨
  (op=opSame∧name=⟨#[]⟩∧args.length=2∧args.all termB=true∧params=[]∧ne=0∧nk=0)∨
  ((op=opLt∨op=opLe∨op=opEq)∧name=⟨#[]⟩∧args=[]∧params=[]∧ne=2∧nk=0)∨
  ((op=opAnd∨op=opOr∨(op=opNot∧nk=1)∨(op=opImp∧nk=2))∧name=⟨#[]⟩∧args=[]∧params=[]∧ne=0)∨
  ((op=opAll∨op=opSome)∧name=⟨#[]⟩∧args=[]∧ne=0∧nk=1∧params.all pmOk=true):=by
 unfold partsOk shapeOf at h
 have t1: ∀ o:ByteArray,bEq o opAtom=false→bEq o opSame=false→termsOk o name args=true→name=⟨#[]⟩∧args=[]:=by
  intro o h1 h2 h3
  unfold termsOk at h3
  rw[h1,h2]at h3
  simp only[Bool.false_eq_true,if_false,Bool.and_eq_true,List.isEmpty_iff]at h3
  exact⟨bEq_eq h3.1,h3.2⟩
 cases c1:bEq op opAtom with
 |true=>
  have:=bEq_eq c1
  subst this
  left
  simp[c1,termsOk,and_assoc]at h
  exact⟨rfl,h.1,by simpa using h.2.1,h.2.2.2.2.1,h.2.2.1,h.2.2.2.1⟩
 |false=>
 cases c2:bEq op opSame with
 |true=>
  have:=bEq_eq c2
  subst this
  right;left
  simp[c1,c2,termsOk,and_assoc]at h
  obtain⟨h1,h2,h3,h4,h5,h6,_⟩:=h
  exact⟨rfl,bEq_eq h1,h2,by simpa using h3,h6,h4,h5⟩
 |false=>
  have t2:=t1 op c1 c2
  rw[c1,c2]at h
  simp only[Bool.false_eq_true,if_false]at h
  right;right
  by_cases c3:bEq op opLt=true∨bEq op opLe=true∨bEq op opEq=true
  ·left
   have h':termsOk op name args=true∧ne=2∧nk=0∧params=[]:=by
    split at h
    ·simp at h
    ·rename_i e m q he
     have:(e,m,q)=(2,0,false):=by
      rcases c3 with c|c|c
      ·simp [c]at he;simp[he]
      ·by_cases c0:bEq op opLt=true
       ·simp [c0]at he;simp[he]
       ·simp [c0,c]at he;simp[he]
      ·by_cases c0:bEq op opLt=true
       ·simp [c0]at he;simp[he]
       ·by_cases c00:bEq op opLe=true
        ·simp [c0,c00]at he;simp[he]
        ·simp [c0,c00,c]at he;simp[he]
     simp at this
     obtain⟨rfl,rfl,rfl⟩:=this
     simp[and_assoc]at h
     exact⟨h.1,h.2.1,h.2.2.1,h.2.2.2.1⟩
   obtain⟨g1,g2,g3,g4⟩:=h'
   obtain⟨g5,g6⟩:=t2 g1
   exact⟨c3.imp bEq_eq (fun c=>c.imp bEq_eq bEq_eq),g5,g6,g4,g2,g3⟩
  ·simp only[not_or,Bool.not_eq_true]at c3
   rw[c3.1,c3.2.1,c3.2.2]at h
   simp only[Bool.false_eq_true,if_false]at h
   right
   cases c4:bEq op opAnd with
   |true=>
    left
    simp[c4,and_assoc]at h
    exact⟨.inl (bEq_eq c4),(t2 h.1).1,(t2 h.1).2,h.2.2.1,h.2.1⟩
   |false=>
   cases c5:bEq op opOr with
   |true=>
    left
    simp[c4,c5,and_assoc]at h
    exact⟨.inr (.inl (bEq_eq c5)),(t2 h.1).1,(t2 h.1).2,h.2.2.1,h.2.1⟩
   |false=>
   cases c6:bEq op opNot with
   |true=>
    left
    simp[c4,c5,c6,and_assoc]at h
    exact⟨.inr (.inr (.inl ⟨bEq_eq c6,h.2.2.1⟩)),(t2 h.1).1,(t2 h.1).2,h.2.2.2.1,h.2.1⟩
   |false=>
   cases c7:bEq op opImp with
   |true=>
    left
    simp[c4,c5,c6,c7,and_assoc]at h
    exact⟨.inr (.inr (.inr ⟨bEq_eq c7,h.2.2.1⟩)),(t2 h.1).1,(t2 h.1).2,h.2.2.2.1,h.2.1⟩
   |false=>
   cases c8:bEq op opAll with
   |true=>
    right
    simp[c4,c5,c6,c7,c8,and_assoc]at h
    exact⟨.inl (bEq_eq c8),(t2 h.1).1,(t2 h.1).2,h.2.1,h.2.2.1,by simpa using h.2.2.2⟩
   |false=>
   cases c9:bEq op opSome with
   |true=>
    right
    simp[c4,c5,c6,c7,c8,c9,and_assoc]at h
    exact⟨.inr (bEq_eq c9),(t2 h.1).1,(t2 h.1).2,h.2.1,h.2.2.1,by simpa using h.2.2.2⟩
   |false=>simp[c4,c5,c6,c7,c8,c9]at h
theorem midB_low{c:UInt8}(h:midB c=true):lowB c=some c:=by
 have h45:c.toNat=45→c=45:=fun e=>UInt8.toNat_inj.1 (by rw[e];try rfl)
 have h95:c.toNat=95→c=95:=fun e=>UInt8.toNat_inj.1 (by rw[e];try rfl)
 have hu:upB c=false:=by
  unfold midB letB at h
  unfold upB
  simp at h⊢
  omega
 have hw:wB c=true:=by
  unfold wB digB
  unfold midB at h
  simp only[Bool.or_eq_true]at h⊢
  rcases h with((h|h)|h)|h
  ·exact .inl (.inl h)
  ·exact .inl (.inr h)
  ·rw [h45 (by simpa using h)];exact .inr (by decide)
  ·rw [h95 (by simpa using h)];exact .inr (by decide)
 unfold lowB
 rw[hu,hw];try rfl
theorem lowL_mid: ∀ {l:List UInt8},l.all midB=true→lowL l=some l
 |[],_=>rfl
 |c::l,h=>by
  simp only[List.all_cons,Bool.and_eq_true]at h
  simp only[lowL,midB_low h.1,lowL_mid h.2,Option.map_some]
theorem bytesOk_mid{l:List UInt8}(h:bytesOkB l=true):l.all midB=true:=by
 cases l with
 |nil=>rfl
 |cons c l=>
  simp only[bytesOkB,Bool.and_eq_true]at h
  simp only[List.all_cons,Bool.and_eq_true]
  exact⟨letB_mid h.1,h.2⟩
theorem word_of{s:ByteArray}(h1:0<s.size)(h2:s.size≤32)(h3:lowL s.data.toList=some s.data.toList)(h4: ∀ c l,s.data.toList=c::l→digB c=false∧c≠45):wordB s=true:=by
 have hl:lowS s=(s,true):=by
  unfold lowS
  rw[if_pos ⟨h1,h2⟩,h3]
 unfold wordB
 rw[hl]
 have hn:numB s=false:=by
  have hsz:s.data.toList≠[]:=by
   intro e
   have:s.data.toList.length=0:=by rw[e];try rfl
   rw[Array.length_toList]at this
   have:s.size=0:=this
   omega
  unfold numB trimB
  cases he:s.data.toList with
  |nil=>exact(hsz he).elim
  |cons c l=>
   obtain⟨g1,g2⟩:=h4 c l he
   split
   ·rename_i e;simp at e;exact(g2 e.1).elim
   ·rw [he,List.all_cons,g1];try rfl
 simp[hn,bEq]
theorem name_word{s:ByteArray}(h:nameB s=true):wordB s=true:=by
 unfold nameB at h
 simp only[Bool.and_eq_true,decide_eq_true_eq]at h
 obtain⟨⟨⟨h1,h2⟩,h3⟩,_⟩:=h
 refine word_of h2 h3 (lowL_mid (bytesOk_mid h1)) ?_
 intro c l he
 rw[he]at h1
 simp only[bytesOkB,Bool.and_eq_true]at h1
 have h4:=h1.1
 unfold letB at h4
 simp at h4
 refine⟨by unfold digB;simp;omega,fun e=>?_⟩
 subst e
 simp at h4
theorem var_word{s:ByteArray}(h:varB s=true):wordB s=true∧bEq s opMin=false:=by
 unfold varB at h
 simp only[Bool.and_eq_true,decide_eq_true_eq]at h
 obtain⟨⟨⟨h1,h2⟩,h3⟩,h4⟩:=h
 cases he:s.data.toList with
 |nil=>rw[he]at h3;simp at h3
 |cons c l=>
  rw[he]at h3
  simp at h3
  have hc:c=63:=UInt8.toNat_inj.1 (by rw[h3];try rfl)
  subst hc
  have hx:(s.extract 1 s.size).data.toList=l:=by
   have:(s.extract 1 s.size).data.toList=(s.data.toList.take s.size).drop 1:=by
    simp[ByteArray.data_extract,List.drop_take]
   rw[this,List.take_of_length_le (by rw[Array.length_toList];exact Nat.le_refl _),he];rfl
  unfold nameB at h4
  simp only[Bool.and_eq_true]at h4
  have h5:=bytesOk_mid h4.1.1.1
  rw[hx]at h5
  refine⟨word_of (by omega) h2 ?_ ?_,?_⟩
  ·rw [he]
   simp only[lowL,lowL_mid h5]
   rfl
  ·intro d m hd
   rw[he]at hd
   simp at hd
   rw[← hd.1]
   exact⟨by decide,by decide⟩
  ·unfold bEq
   rw[he]
   simp[opMin]
theorem isWrd_word{s:ByteArray}(h:wordB s=true):isWrd (wordM s)=true:=by
 unfold isWrd wordM
 simp[kindOf,svalid,h]
theorem typed_word{s:ByteArray}(h:typedB s=true):wordB s=true:=by
 unfold typedB at h
 simp only[Bool.or_eq_true]at h
 rcases h with h|h
 ·exact name_word h
 ·rw [bEq_eq h];decide
theorem paramsL_W: ∀ (l:List Pm)(don:List Pm),l.all pmOk=true→paramsL true (paramsW l) don []=(don++l,0)
 |[],don,_=>by simp[paramsW,paramsL,pmsOf]
 |p::l,don,h=>by
  simp only[List.all_cons,Bool.and_eq_true]at h
  obtain⟨h1,h2⟩:=h
  unfold pmOk at h1
  simp only[Bool.and_eq_true]at h1
  obtain⟨g1,g2⟩:=var_word h1.1
  have t1: ∀ s:ByteArray,textOf (wordM s)=s:=fun _=>rfl
  have w1:isWrd (wordM ⟨#[45]⟩)=true:=isWrd_word (by decide)
  have w2:bEq (⟨#[45]⟩:ByteArray) opMin=true:=by decide
  simp only[paramsW]
  rw[paramsL,isWrd_word g1,t1,g2,h1.1]
  simp only[cond_true,cond_false,List.nil_append]
  rw[paramsL,w1,t1,w2]
  simp only[cond_true,isWrd_word (typed_word h1.2),t1,h1.2]
  simp only[List.isEmpty_cons,Bool.not_false,Bool.true_and,cond_true,pmsOf,List.map_cons,List.map_nil]
  rw[paramsL_W l _ h2]
  simp
theorem paramsP_W{l:List Pm}(h:l.all pmOk=true):paramsP true (paramsW l)=(l,0):=by
 unfold paramsP
 rw[paramsL_W l [] h];rfl
theorem fmPs_map: ∀ (l:List Fm),(∀ k∈l,fmP (fmW k)=(k,0))→fmPs (l.map fmW)=(l,0)
 |[],_=>rfl
 |k::l,h=>by
  simp only[List.map_cons,fmPs,h k (by simp),beq_self_eq_true,cond_true,fmPs_map l (fun q hq=>h q (by simp[hq]))]
theorem fmP_fmW: ∀ f:Fm,shapedF f=true→fmP (fmW f)=(f,0):=by
 refine Fm.ind ?_
 intro op name args params exprs kids ih hs
 unfold shapedF at hs
 simp only[Bool.and_eq_true]at hs
 obtain⟨⟨h1,h2⟩,h3⟩:=hs
 rw[shapedFs_iff]at h3
 have hk:=fmPs_map kids (fun k hk=>ih k hk (h3 k hk))
 have t1: ∀ s:ByteArray,textOf (wordM s)=s:=fun _=>rfl
 have t2: ∀ s:ByteArray,kindOf (wordM s)=1:=fun _=>rfl
 rcases partsOk_cases h1 with⟨rfl,hn,ha,rfl,he,hk0⟩|⟨rfl,rfl,hl,ha,rfl,he,hk0⟩|⟨ho,rfl,rfl,rfl,he,hk0⟩|⟨ho,rfl,rfl,rfl,he⟩|⟨ho,rfl,rfl,he,hk1,hp⟩
 ·obtain rfl:=List.length_eq_zero_iff.1 he
  obtain rfl:=List.length_eq_zero_iff.1 hk0
  obtain⟨n1,n2,n3,n4⟩:=name_count hn
  unfold fmW
  rw[if_pos (by decide)]
  unfold wordsM listM
  simp only[List.map_cons]
  unfold fmP
  simp only[t1,t2,n1,n2,n3,n4,hn,termsM_words args ha,beq_self_eq_true,cond_true,cond_false,if_true]
  rfl
 ·obtain rfl:=List.length_eq_zero_iff.1 he
  obtain rfl:=List.length_eq_zero_iff.1 hk0
  match args,hl with
  |[a,b],_=>
   unfold fmW
   rw[if_neg (by decide),if_pos (by decide)]
   have e:=termsM_words [a,b] ha
   simp only[List.map_cons,List.map_nil]at e
   unfold wordsM listM
   simp only[List.map_cons,List.map_nil]
   unfold fmP
   simp only[t1,t2]
   have c1:countW opEq=2:=by decide
   have c2:isQ opEq=false:=by decide
   have c3:isLst opEq=false:=by decide
   have c4:isCmp5 opEq=true:=by decide
   have c5:bEq opEq opEq=true:=by decide
   simp only[c1,c2,c3,c4,compareP,c5,t2,e,fin,beq_self_eq_true,cond_true,cond_false,if_true,List.length_cons,List.length_nil,Bool.and_self]
   rfl
 ·obtain rfl:=List.length_eq_zero_iff.1 hk0
  match exprs,he with
  |[a,b],_=>
   simp only[List.all_cons,Bool.and_eq_true]at h2
   have ea:=exprP_exW a h2.1
   have eb:=exprP_exW b h2.2.1
   have key: ∀ w:ByteArray,bEq w opAtom=false→bEq w opSame=false→isCmp w=true→countW w=2→isQ w=false→isLst w=false→bEq w opGt=false→bEq w opGe=false→(bEq w opEq&&kindOf (exW a)==1&&kindOf (exW b)==1)=false→
     fmP (fmW (.mk w ⟨#[]⟩ [] [] [a,b] []))=(.mk w ⟨#[]⟩ [] [] [a,b] [],0):=by
    intro w k1 k2 k3 k4 k5 k6 k7 k8 k9
    unfold fmW
    rw[k1,k2,k3]
    simp only[Bool.false_eq_true,if_false,if_true,List.map_cons,List.map_nil]
    unfold listM fmP
    have k10:isCmp5 w=true:=by unfold isCmp5;rw[k3];try rfl
    simp only[t1,t2,k4,k5,k6,k10,compareP,k9,ea,eb,k7,k8,fin,beq_self_eq_true,cond_true,cond_false,if_true,List.length_cons,List.length_nil,Bool.false_eq_true,if_false]
    rfl
   have hkn:kindOf (exW a)≠1:=by
    obtain⟨o,n,v,ar,ks⟩:=a
    unfold exW
    split
    ·simp [kindOf]
    ·split
     ·simp [wordsM,listM,kindOf]
     ·split<;>simp[listM,kindOf]
   have hkb:(kindOf (exW a)==1)=false:=by simpa using hkn
   rcases ho with rfl|rfl|rfl
   ·exact key opLt (by decide) (by decide) (by decide) (by decide) (by decide) (by decide) (by decide) (by decide) (by rw[hkb];simp)
   ·exact key opLe (by decide) (by decide) (by decide) (by decide) (by decide) (by decide) (by decide) (by decide) (by rw[hkb];simp)
   ·exact key opEq (by decide) (by decide) (by decide) (by decide) (by decide) (by decide) (by decide) (by decide) (by rw[hkb];simp)
 ·obtain rfl:=List.length_eq_zero_iff.1 he
  have key: ∀ w:ByteArray,bEq w opAtom=false→bEq w opSame=false→isCmp w=false→isQ w=false→(bEq w opAnd&&kids.isEmpty)=false→isLst w=true→(decide (countW w≥0)&&!(decide (countW w=kids.length)))=false→
    fmP (fmW (.mk w ⟨#[]⟩ [] [] [] kids))=(.mk w ⟨#[]⟩ [] [] [] kids,0):=by
   intro w k1 k2 k3 k4 k5 k6 k7
   unfold fmW
   rw[k1,k2,k3,k4,k5,fmWs_map]
   simp only[Bool.false_eq_true,if_false,List.append_nil,List.singleton_append]
   unfold listM fmP
   have k8:(decide (countW w≥0)&&!(decide (countW w=(kids.map fmW).length)))=false:=by rw[List.length_map];exact k7
   simp only[t1,t2,k8,k4,k6,hk,beq_self_eq_true,cond_true,cond_false,if_true]
  rcases ho with rfl|rfl|⟨rfl,hn⟩|⟨rfl,hn⟩
  ·cases kids with
   |nil=>rfl
   |cons k ks=>exact key opAnd (by decide) (by decide) (by decide) (by decide) (by simp) (by decide) (by rw[show decide (countW opAnd≥0)=false by decide];try rfl)
  ·exact key opOr (by decide) (by decide) (by decide) (by decide) (by rw[show bEq opOr opAnd=false by decide];try rfl) (by decide) (by rw[show decide (countW opOr≥0)=false by decide];try rfl)
  ·exact key opNot (by decide) (by decide) (by decide) (by decide) (by rw[show bEq opNot opAnd=false by decide];try rfl) (by decide) (by rw[hn];decide)
  ·exact key opImp (by decide) (by decide) (by decide) (by decide) (by rw[show bEq opImp opAnd=false by decide];try rfl) (by decide) (by rw[hn];decide)
 ·obtain rfl:=List.length_eq_zero_iff.1 he
  have t3: ∀ l,kindOf (listM l)=3:=fun _=>rfl
  have t4: ∀ l,kidsOf (listM l)=l:=fun _=>rfl
  have key: ∀ w:ByteArray,bEq w opAtom=false→bEq w opSame=false→isCmp w=false→isQ w=true→bEq w opAnd=false→countW w=2→
    fmP (fmW (.mk w ⟨#[]⟩ [] params [] kids))=(.mk w ⟨#[]⟩ [] params [] kids,0):=by
   intro w k1 k2 k3 k4 k5 k6
   unfold fmW
   rw[k1,k2,k3,k4,k5,fmWs_map]
   simp only[Bool.false_eq_true,if_false,if_true,Bool.false_and,List.cons_append,List.nil_append]
   generalize hm:kids.map fmW=M at hk
   have hml:M.length=1:=by rw[← hm,List.length_map];exact hk1
   unfold listM fmP
   have k8:(decide ((2:Int)≥0)&&!(decide ((2:Int)=((listM (paramsW params)::M).length:Int))))=false:=by rw[List.length_cons,hml];decide
   unfold listM at k8 t3 t4
   simp only[t1,t2,k6,k8,k4,t3,t4,paramsP_W hp,hk,beq_self_eq_true,cond_true,cond_false,if_true]
  rcases ho with rfl|rfl
  ·exact key opAll (by decide) (by decide) (by decide) (by decide) (by decide) (by decide)
  ·exact key opSome (by decide) (by decide) (by decide) (by decide) (by decide) (by decide)
end Go.Proofs.YtjeolbgpllbemaaGreat
namespace Go.Proofs.YtjeolbgpllbemaaGreat
open Go.AM
set_option maxHeartbeats 4000000
set_option maxRecDepth 20000
theorem textOf_okQ{x:Sx}(h:x.ok):(textOf x).size≤bigN:=by
 obtain⟨_,_,_,_,t,_⟩:=x
 simp only[Sx.ok]at h
 exact h.2.2.1
theorem pms_in(n:Nat)(l:List Pm):inNR n (pmRows l):=by
 induction l with
 |nil=>simp only[pmRows,List.map_nil,inNR]
 |cons a l ih=>simp only[pmRows,List.map_cons,inNR,pmRow,inNL,inN,and_true,true_and]at ih⊢;exact ih
theorem exs_in(n:Nat): ∀ l:List Ex,inNR n (Ex.rows l)
 |[]=>by simp only[Ex.rows,inNR]
 |k::ks=>by simp only[Ex.rows,inNR];exact⟨ex_in n k,exs_in n ks⟩
theorem fm_in(n:Nat): ∀ f:Fm,inNL n f.cells:=by
 refine Fm.ind ?_
 intro op name args params exprs kids ih
 have:inNR n (Fm.rows kids):=by
  clear op name args params exprs
  induction kids with
  |nil=>simp only[Fm.rows,inNR]
  |cons k ks ih2=>
   simp only[Fm.rows,inNR]
   exact⟨ih k (by simp),ih2 fun q hq=>ih q (by simp[hq])⟩
 simp only[Fm.cells,inNL,inN,and_true,true_and]
 exact⟨strs_in n args,pms_in n params,exs_in n exprs,this⟩
theorem fms_in(n:Nat): ∀ l:List Fm,inNR n (Fm.rows l)
 |[]=>by simp only[Fm.rows,inNR]
 |k::ks=>by simp only[Fm.rows,inNR];exact⟨fm_in n k,fms_in n ks⟩
theorem fm_frz(n:Nat)(h:Heap)(f:Fm):FrzL n h f.cells f.cells:=by
 have hi:=fm_in n f
 obtain⟨op,name,args,params,exprs,kids⟩:=f
 simp only[Fm.cells,inNL,inN,and_true,true_and]at hi
 simp only[Fm.cells,FrzL,FrzTo,and_true,true_and]
 exact⟨.inl hi.1,.inl hi.2.1,.inl hi.2.2.1,.inl hi.2.2.2⟩
theorem fms_frz(n:Nat)(h:Heap): ∀ l:List Fm,FrzR n h (Fm.rows l) (Fm.rows l)
 |[]=>by simp only[Fm.rows,FrzR]
 |k::ks=>by simp only[Fm.rows,FrzR];exact⟨fm_frz n h k,fms_frz n h ks⟩
theorem tl_frzF{h:Heap}{id0 n:Nat}{p:PV}{l:List Fm}(hn:n≤id0)(t:Tl h id0 6 p (Fm.rows l)):FrzTo n h (.imm 6 (Fm.rows l)) p:=by
 simp only[FrzTo]
 rcases t with⟨h1,h2⟩|⟨id,h1,h2,rfl,ho⟩
 ·exact .inr (.inl ⟨h1,h2.symm⟩)
 ·refine .inr (.inr ⟨id,0,_,_,rfl,by omega,ho,by omega,?_⟩)
  rw[List.drop_zero,List.take_of_length_le (by omega)]
  exact fms_frz _ _ _
theorem fmPs_nil: ∀ l:List Sx,((fmPs l).2==0)=false→(fmPs l).1=[]
 |[],h=>by simp[fmPs]at h
 |x::l,h=>by
  simp only[fmPs]at h⊢
  cases hq:(fmP x).2==0 with
  |false=>simp only[cond_false]
  |true=>
   rw[hq]at h
   simp only[cond_true]at h⊢
   cases hr:(fmPs l).2==0 with
   |false=>simp only[cond_false]
   |true=>rw[hr]at h;simp at h
theorem kids_c{l:List Sx}(hl:l.length≤1048576)(hf: ∀ x∈l, ∀ h:Heap,PCall Tryz.prog 142 [.agg x.cells] h fun r h'=>r= .tup [.agg (fmP x).1.cells,errP (fmP x).2]∧h'=h)(h:Heap):
  PCall Tryz.prog 158 [.imm 6 (Sx.rows l)] h fun r h'=>r= .tup [.imm 6 (Fm.rows (fmPs l).1),errP (fmPs l).2]∧h'=h:=by
 refine PCall.frz Ty.hb_158 ?_
 have hll:=Sx.rows_len l
 refine pcall_body (ow:=fun _=>false) (wf:=fun _=>false) Ty.mixed Tryz.func158 rfl Ty.hb_158 (by rw[Tryz.ntmps158];simp) ?_
 rw[Tryz.ntmps158,Tryz.results158]
 repeat'(first|refine a_seq fun K hK=>?_|(refine a_block ?_)|(refine a_regionS ?_;simp(maxSteps:=2000000) only[Ty.w,simprocAttr,hll])|(refine hK _ _ ?_;clear hK;try simp only[pst0,simprocAttr]))
 refine a_loop (fun m S h'=>S 9= .imm 6 (Sx.rows l)∧S 10= .sc (.int .i64 l.length)∧ ∃ (k:Nat)(o:PV)(pre:List Fm),S 11= .sc (.int .i64 k)∧S 4=o∧k≤l.length∧m=l.length-k∧Grow h h'∧pre.length=k∧Tl h' h.next 6 o (Fm.rows pre)∧
  fmPs l=(bif (fmPs (l.drop k)).2==0 then(pre++(fmPs (l.drop k)).1,0)else([],(fmPs (l.drop k)).2))) l.length ?_ ?_
 ·simp only[Ty.w,simprocAttr]
  refine⟨0,_,[],rfl,rfl,by omega,rfl,Grow.refl _,rfl,Tl.nil,?_⟩
  rw[List.drop_zero]
  cases hq:(fmPs l).2==0
  ·simp only[cond_false];rw[← fmPs_nil l hq]
  ·have h0:(fmPs l).2=0:=by simpa using hq
   simp only[cond_true,List.nil_append];rw[← h0]
 ·rintro m S h' ⟨g9,g10,k,o,pre,g11,g4,hk,rfl,hg,hpl,tl,hinv⟩
  by_cases hlt:k<l.length
  ·have hd:decide ((k:Int)<(l.length:Int))=true:=by simp;omega
   have w7:IntKind.i64.wrap ((k:Int)+1)=k+1:=by rw[wrap64 (by omega) (by omega)]
   obtain⟨x,hx⟩: ∃ x,l[k]? =some x:=⟨_,List.getElem?_eq_getElem hlt⟩
   have hr:=Sx.rows_get hx
   have hc:=hf x (List.mem_of_getElem? hx)
   rw[drop_of_get hx]at hinv
   simp only[fmPs]at hinv
   generalize hE:fmP x=E at hc hinv
   obtain⟨f,c⟩:=E
   simp only at hc hinv
   clear hE hf
   obtain⟨ki,va,li,co,te,ks⟩:=x
   simp only[Sx.cells]at hr hc
   have n3:(h'.next=h'.next+1)=False:=by simp
   cases hcc:c==0 with
   |false=>
    rw[hcc]at hinv
    simp only[cond_false]at hinv
    have e0:errP c=errV c:=by simp only[errP,hcc,cond_false]
    rw[e0]at hc
    simp only[errV]at hc
    have hq:fmPs l=([],c):=by rw[hinv];simp only[hcc,cond_false]
    rw[hq]
    obtain⟨fop,fna,far,fpa,fex,fki⟩:=f
    simp only[Fm.cells]at hc
    repeat'(first|refine a_seq fun K hK=>?_|(refine a_regionS ?_;simp(maxSteps:=2000000) only[Ty.w,simprocAttr,g9,g10,g11,g4,hd,hr])|(refine a_skip ?_;try simp only[pst0,simprocAttr])|(refine a_cond _ (by(try simp(maxSteps:=2000000) only[Ty.w,simprocAttr,g9,g10,g11,g4,hd,hr]);rfl) (fun hb=>?_) (fun hb=>?_)<;>(try simp only[hb0,decide_eq_true_eq,decide_eq_false_iff_not,simprocAttr]at hb)<;>(try(exfalso;omega)))|(refine hK _ _ ?_;clear hK;try simp only[pst0,simprocAttr]))
    refine owp_useQ (hc _) (by(try simp only[Ty.w,simprocAttr,g9,g10,g11,g4,hd,hr]);try rfl) ?_;simp(maxSteps:=2000000) only[Ty.w,simprocAttr,g9,g10,g11,g4,hd,hr]
    repeat'(first|refine a_seq fun K hK=>?_|((first|refine a_regionS ?_|refine a_ret ?_);simp(maxSteps:=2000000) only[Ty.w,simprocAttr,g9,g10,g11,g4,hd,hr,n3,nsucc])|(refine hK _ _ ?_;clear hK;try simp only[pst0,simprocAttr]))
    rw[e0]
    refine⟨?_,(((hg.new _).set hg.le _).new _).set (show h.next≤h'.next+1 by have:=hg.le;omega) _⟩
    simp only[errV,Fm.rows,FrzTo,FrzL]
    exact⟨_,rfl,.inr (.inl ⟨rfl,.inr rfl⟩),rfl,trivial⟩
   |true=>
    have e0:errP c= .sc .nilIface:=by simp only[errP,hcc,cond_true]
    rw[e0]at hc
    have hto:=tl_one tl
    have hrows:Fm.rows (pre++[f])=Fm.rows pre++[f.cells]:=by simp only[Fm.rows_map,List.map_append,List.map_cons,List.map_nil]
    obtain⟨fop,fna,far,fpa,fex,fki⟩:=f
    simp only[Fm.cells]at hc hrows
    generalize hH2:((((h'.new (.arr 6 [[.sc (.int .i64 0),.sc (.int .i64 0),.sc (.int .i64 0),.sc (.int .i64 0),.sc (.string ⟨#[]⟩),.sc (.slice none 0 0)]])).set h'.next (.arr 6 [[.sc (.int .i64 ki),.sc (.int .i64 va),.sc (.int .i64 li),.sc (.int .i64 co),sPV te,.imm 6 (Sx.rows ks)]])).new (.arr 6 [[.sc (.string ⟨#[]⟩),.sc (.string ⟨#[]⟩),.sc (.slice none 0 0),.sc (.slice none 0 0),.sc (.slice none 0 0),.sc (.slice none 0 0)]])).set (h'.next+1) (.arr 6 [[sPV fop,sPV fna,.imm 1 (strRows far),.imm 2 (pmRows fpa),.imm 5 (Ex.rows fex),.imm 6 (Fm.rows fki)]]))=H2
    have hnn:H2.next=h'.next+1+1:=by rw[← hH2];simp[Heap.new,Heap.set]
    have hold: ∀ j,j<h'.next→H2.obj j=h'.obj j:=fun j hj=>by
     have a1:¬ j=h'.next:=by omega
     have a2:¬ j=h'.next+1:=by omega
     rw[← hH2]
     simp only[Heap.new,Heap.set,a1,a2,if_false]
    have tl2:=tl.up (h':=H2) (by omega) (fun j _ hj=>hold j hj)
    have hg2:Grow h H2:=by rw[← hH2];exact(((hg.new _).set hg.le _).new _).set (show h.next≤h'.next+1 by have:=hg.le;omega) _
    obtain⟨H,t1,t2,t3,t4,t5⟩:=tl2.tail
    have hkp:=t5 h ⟨hg2.le,hg2.old⟩ (Nat.le_refl _)
    have hgH:Grow h H:=⟨hkp.1,hkp.2⟩
    have hpr:(Fm.rows pre).length=k:=by rw[Fm.rows_len];exact hpl
    have hb:(k+1)*128≤140737488355328:=by omega
    have hob:H2.obj (h'.next+1)=some (.arr 6 [[sPV fop,sPV fna,.imm 1 (strRows far),.imm 2 (pmRows fpa),.imm 5 (Ex.rows fex),.imm 6 (Fm.rows fki)]]):=by rw[← hH2];simp[Heap.set]
    repeat'(first|refine a_seq fun K hK=>?_|(refine a_regionS ?_;simp(maxSteps:=2000000) only[Ty.w,simprocAttr,g9,g10,g11,g4,hd,hr])|(refine a_skip ?_;try simp only[pst0,simprocAttr])|(refine a_cond _ (by(try simp(maxSteps:=2000000) only[Ty.w,simprocAttr,g9,g10,g11,g4,hd,hr]);rfl) (fun hb=>?_) (fun hb=>?_)<;>(try simp only[hb0,decide_eq_true_eq,decide_eq_false_iff_not,simprocAttr]at hb)<;>(try(exfalso;omega)))|(refine hK _ _ ?_;clear hK;try simp only[pst0,simprocAttr]))
    refine owp_useQ (hc _) (by(try simp only[Ty.w,simprocAttr,g9,g10,g11,g4,hd,hr]);try rfl) ?_;simp(maxSteps:=2000000) only[Ty.w,simprocAttr,g9,g10,g11,g4,hd,hr]
    repeat'(first|refine a_seq fun K hK=>?_|((first|refine a_regionS ?_|refine a_region (fun K hK=>?_));simp(maxSteps:=2000000) only[Ty.w,simprocAttr,g9,g10,g11,g4,n3,nsucc,hH2,hob,t1,t2,hpr,hb,w7])|(refine a_skip ?_;try simp only[pst0,simprocAttr])|(refine a_cond _ (by(try simp(maxSteps:=2000000) only[Ty.w,simprocAttr,g9,g10,g11,g4,n3,nsucc,hH2,hob,t1,t2,hpr,hb,w7]);rfl) (fun hb=>?_) (fun hb=>?_)<;>(try simp only[hb0,decide_eq_true_eq,decide_eq_false_iff_not,simprocAttr]at hb)<;>(try(exfalso;omega)))|(refine hK _ _ ?_;clear hK;try simp only[pst0,simprocAttr])|(rw[if_pos];rotate_left 1;omega;simp(maxSteps:=2000000) only[Ty.w,simprocAttr,g9,g10,g11,g4,n3,nsucc,hH2,hob,t1,t2,hpr,hb,w7]))
    rw[← hrows]
    have hgr:=Tl.grow (H:=H) (id0:=h.next) (z:=6) (len:=k+1) (rows:=Fm.rows (pre++[Fm.mk fop fna far fpa fex fki])) hkp.1 (by rw[Fm.rows_len];simp[hpl])
    refine⟨l.length-(k+1),by omega,k+1,.own H.next 0 (k+1),pre++[Fm.mk fop fna far fpa fex fki],by simp,by rw[t3,hnn],by omega,rfl,hgH.new _,by simp[hpl],hgr,?_⟩
    rw[hinv,hcc]
    simp only[cond_true]
    cases hq:(fmPs (List.drop (k+1) l)).2==0 with
    |false=>simp only[hq,cond_false]
    |true=>simp only[cond_true,beq_self_eq_true,List.append_assoc,List.cons_append,List.nil_append]
  ·have hd:decide ((k:Int)<(l.length:Int))=false:=by simp;omega
   rw[List.drop_eq_nil_of_le (by omega)]at hinv
   have hq:fmPs l=(pre,0):=by rw[hinv];simp[fmPs]
   repeat'(first|refine a_seq fun K hK=>?_|((first|refine a_regionS ?_|refine a_ret ?_);simp(maxSteps:=2000000) only[Ty.w,simprocAttr,g9,g10,g11,g4,hd])|(refine a_exit ?_;try simp only[pst0,simprocAttr])|(refine a_cond _ (by(try simp(maxSteps:=2000000) only[Ty.w,simprocAttr,g9,g10,g11,g4,hd]);rfl) (fun hb=>?_) (fun hb=>?_)<;>(try simp only[hb0,decide_eq_true_eq,decide_eq_false_iff_not,simprocAttr]at hb)<;>(try(exfalso;omega)))|((first|refine hK _ _ ?_|(clear hK;refine hK _ _ ?_));clear hK;try simp only[pst0,simprocAttr]))
   have e2:errP 0= .sc .nilIface:=rfl
   rw[hq]
   simp only[e2]
   refine⟨?_,hg⟩
   have h1:=tl_frzF (Nat.le_refl _) tl
   unfold FrzTo
   refine⟨_,rfl,?_⟩
   unfold FrzL
   refine⟨h1,?_⟩
   unfold FrzL
   exact⟨by simp only[FrzTo],by simp only[FrzL]⟩
end Go.Proofs.YtjeolbgpllbemaaGreat
namespace Go.Proofs.YtjeolbgpllbemaaGreat
open Go.AM
set_option maxHeartbeats 4000000
set_option maxRecDepth 20000
theorem compare_c{w:ByteArray}{x y:Sx}(hx:x.ok)(hy:y.ok)
  (cx: ∀ h:Heap,PCall Tryz.prog 165 [.agg x.cells] h fun r h'=>r= .tup [.agg (exprP x).1.cells,errP (exprP x).2]∧h'=h)
  (cy: ∀ h:Heap,PCall Tryz.prog 165 [.agg y.cells] h fun r h'=>r= .tup [.agg (exprP y).1.cells,errP (exprP y).2]∧h'=h)(h:Heap):
  PCall Tryz.prog 159 [sPV w,.agg x.cells,.agg y.cells] h fun r h'=>r= .tup [.agg (compareP w x y).1.cells,errP (compareP w x y).2]∧h'=h:=by
 refine PCall.frz Ty.hb_159 ?_
 have ht:=fun h:Heap=>terms_c (l:=[x,y]) (by simp) (by simp[hx,hy]) h
 generalize hF:compareP w x y=F
 unfold compareP at hF
 have hti:=strs_in
 generalize termsM [x,y]=T at ht hF
 obtain⟨t,c⟩:=T
 have hi1:=ex_in
 generalize exprP x=X at cx hF
 obtain⟨ex,c1⟩:=X
 generalize exprP y=Y at cy hF
 obtain⟨ey,c2⟩:=Y
 obtain⟨kx,vx,lx,ox,tx,sx⟩:=x
 obtain⟨ky,vy,ly,oy,ty,sy⟩:=y
 obtain⟨aop,ana,an,aar,aki⟩:=ex
 obtain⟨bop,bna,bn,bar,bki⟩:=ey
 simp only[kindOf]at hF
 simp only[Sx.rows,Sx.cells,Ex.cells]at ht cx cy⊢
 have hgr: ∀ r,Grow h ((h.new (.arr 6 [[.sc (.string ⟨#[]⟩),.sc (.string ⟨#[]⟩),.sc (.slice none 0 0),.sc (.slice none 0 0),.sc (.slice none 0 0),.sc (.slice none 0 0)]])).set h.next r):=fun r=>((Grow.refl h).new _).set (Nat.le_refl _) _
 refine pcall_body (ow:=fun _=>false) (wf:=fun _=>false) Ty.mixed Tryz.func159 rfl Ty.hb_159 (by rw[Tryz.ntmps159];simp) ?_
 rw[Tryz.ntmps159,Tryz.results159]
 repeat'(first|(with_reducible refine a_hold 1 ?_)|refine a_seq fun K hK=>?_|(refine a_regionS ?_;simp(maxSteps:=2000000) only[Ty.w,simprocAttr])|(refine hK _ _ ?_;clear hK;try simp only[pst0,simprocAttr]))
 refine⟨?_⟩
 refine a_cut (fun S h'=>S 0=sPV w∧S 4= .cptr (Sx.mk kx vx lx ox tx sx).cells∧S 5= .cptr (Sx.mk ky vy ly oy ty sy).cells∧S 6= .ptr h.next 0 0∧h'=h.new (.arr 6 [[.sc (.string ⟨#[]⟩),.sc (.string ⟨#[]⟩),.sc (.slice none 0 0),.sc (.slice none 0 0),.sc (.slice none 0 0),.sc (.slice none 0 0)]])∧(bEq w opEq&&kx==1&&ky==1)=false) ?_ ?_
 ·clear cx cy
  simp only[Sx.cells]
  cases q1:(w.data.toList==(#[61]:Array UInt8).toList)with
  |false=>
   have q1':bEq w opEq=false:=q1
   repeat'(first|refine a_seq fun K hK=>?_|(refine a_regionS ?_;simp(maxSteps:=2000000) only[Ty.w,simprocAttr,q1])|(refine a_skip ?_;try simp only[pst0,simprocAttr])|(refine a_cond _ (by(try simp(maxSteps:=2000000) only[Ty.w,simprocAttr,q1]);rfl) (fun hb=>?_) (fun hb=>?_)<;>(try simp only[hb0,decide_eq_true_eq,decide_eq_false_iff_not,simprocAttr]at hb)<;>(try(exfalso;omega)))|(refine hK _ _ ?_;clear hK;try simp only[pst0,simprocAttr]))
   all_goals first|rfl|(simp only[Ty.w,simprocAttr,q1',Bool.false_and];done)
  |true=>
   have q1':bEq w opEq=true:=q1
   cases q2:(kx==1)with
   |false=>
    repeat'(first|refine a_seq fun K hK=>?_|(refine a_regionS ?_;simp(maxSteps:=2000000) only[Ty.w,simprocAttr,q1,q2])|(refine a_skip ?_;try simp only[pst0,simprocAttr])|(refine a_cond _ (by(try simp(maxSteps:=2000000) only[Ty.w,simprocAttr,q1,q2]);rfl) (fun hb=>?_) (fun hb=>?_)<;>(try simp only[hb0,decide_eq_true_eq,decide_eq_false_iff_not,simprocAttr]at hb)<;>(try(exfalso;omega)))|(refine hK _ _ ?_;clear hK;try simp only[pst0,simprocAttr]))
    all_goals first|rfl|(simp only[Ty.w,simprocAttr,q1',q2,Bool.false_and,Bool.true_and];done)
   |true=>
    cases q3:(ky==1)with
    |false=>
     repeat'(first|refine a_seq fun K hK=>?_|(refine a_regionS ?_;simp(maxSteps:=2000000) only[Ty.w,simprocAttr,q1,q2,q3])|(refine a_skip ?_;try simp only[pst0,simprocAttr])|(refine a_cond _ (by(try simp(maxSteps:=2000000) only[Ty.w,simprocAttr,q1,q2,q3]);rfl) (fun hb=>?_) (fun hb=>?_)<;>(try simp only[hb0,decide_eq_true_eq,decide_eq_false_iff_not,simprocAttr]at hb)<;>(try(exfalso;omega)))|(refine hK _ _ ?_;clear hK;try simp only[pst0,simprocAttr]))
     all_goals first|rfl|(simp only[Ty.w,simprocAttr,q1',q2,q3,Bool.true_and];done)
    |true=>
     rw[q1',q2,q3]at hF
     simp only[Bool.and_true,cond_true]at hF
     subst hF
     cases hc:c==0 with
     |true=>
      have e0:errP c= .sc .nilIface:=by simp only[errP,hc,cond_true]
      rw[e0]at ht⊢
      repeat'(first|refine a_seq fun K hK=>?_|(refine a_regionS ?_;simp(maxSteps:=2000000) only[Ty.w,simprocAttr,q1,q2,q3])|(refine hK _ _ ?_;clear hK;try simp only[pst0,simprocAttr]))
      refine owp_useQ (ht _) (by(try simp only[Ty.w,simprocAttr,q1,q2,q3]);try rfl) ?_;simp(maxSteps:=2000000) only[Ty.w,simprocAttr,q1,q2,q3]
      repeat'(first|refine a_seq fun K hK=>?_|((first|refine a_regionS ?_|refine a_ret ?_);simp(maxSteps:=2000000) only[Ty.w,simprocAttr])|(refine hK _ _ ?_;clear hK;try simp only[pst0,simprocAttr]))
      refine⟨?_,hgr _⟩
      simp only[opSame,Fm.cells,Ex.rows,Fm.rows,pmRows,List.map_nil,FrzTo,FrzL]
      exact⟨_,rfl,⟨_,rfl,rfl,rfl,.inl ⟨rfl,hti _ _⟩,.inr (.inl ⟨rfl,.inr rfl⟩),.inr (.inl ⟨rfl,.inr rfl⟩),.inr (.inl ⟨rfl,.inr rfl⟩),trivial⟩,rfl,trivial⟩
     |false=>
      have e0:errP c=errV c:=by simp only[errP,hc,cond_false]
      rw[e0]at ht⊢
      simp only[errV]at ht⊢
      repeat'(first|refine a_seq fun K hK=>?_|(refine a_regionS ?_;simp(maxSteps:=2000000) only[Ty.w,simprocAttr,q1,q2,q3])|(refine hK _ _ ?_;clear hK;try simp only[pst0,simprocAttr]))
      refine owp_useQ (ht _) (by(try simp only[Ty.w,simprocAttr,q1,q2,q3]);try rfl) ?_;simp(maxSteps:=2000000) only[Ty.w,simprocAttr,q1,q2,q3]
      repeat'(first|refine a_seq fun K hK=>?_|((first|refine a_regionS ?_|refine a_ret ?_);simp(maxSteps:=2000000) only[Ty.w,simprocAttr])|(refine hK _ _ ?_;clear hK;try simp only[pst0,simprocAttr]))
      refine⟨?_,hgr _⟩
      simp only[opSame,Fm.cells,Ex.rows,Fm.rows,pmRows,List.map_nil,FrzTo,FrzL]
      exact⟨_,rfl,⟨_,rfl,rfl,rfl,.inl ⟨rfl,hti _ _⟩,.inr (.inl ⟨rfl,.inr rfl⟩),.inr (.inl ⟨rfl,.inr rfl⟩),.inr (.inl ⟨rfl,.inr rfl⟩),trivial⟩,rfl,trivial⟩
 ·rintro S h' ⟨g0,g4,g5,g6,rfl,hq⟩
  rw[hq]at hF
  clear ht hq
  simp only[cond_false]at hF
  simp only[Sx.cells]at g4 g5
  have n1:(h.next=h.next+1)=False:=by simp
  have n2:(h.next=h.next+1+1)=False:=by simp;omega
  have n3:(h.next+1=h.next+1+1)=False:=by simp
  have hgr2: ∀ o1 o2 r,Grow h ((((h.new (.arr 6 [[.sc (.string ⟨#[]⟩),.sc (.string ⟨#[]⟩),.sc (.slice none 0 0),.sc (.slice none 0 0),.sc (.slice none 0 0),.sc (.slice none 0 0)]])).new o1).set (h.next+1) o2).set h.next r):=fun o1 o2 r=>((((Grow.refl h).new _).new _).set (Nat.le_succ _) _).set (Nat.le_refl _) _
  have hgr3: ∀ o1 o2 o3 o4 r,Grow h ((((((h.new (.arr 6 [[.sc (.string ⟨#[]⟩),.sc (.string ⟨#[]⟩),.sc (.slice none 0 0),.sc (.slice none 0 0),.sc (.slice none 0 0),.sc (.slice none 0 0)]])).new o1).set (h.next+1) o2).new o3).set (h.next+1+1) o4).set h.next r):=fun o1 o2 o3 o4 r=>((((((Grow.refl h).new _).new _).set (Nat.le_succ _) _).new _).set (by omega) _).set (Nat.le_refl _) _
  cases hc1:c1==0 with
  |false=>
   rw[hc1]at hF
   simp only[cond_false]at hF
   subst hF
   have e0:errP c1=errV c1:=by simp only[errP,hc1,cond_false]
   rw[e0]at cx⊢
   simp only[errV]at cx⊢
   repeat'(first|refine a_seq fun K hK=>?_|(refine a_regionS ?_;simp(maxSteps:=2000000) only[Ty.w,simprocAttr,g0,g4,g5,g6]))
   refine owp_useQ (cx _) (by(try simp only[Ty.w,simprocAttr,g0,g4,g5,g6]);try rfl) ?_;simp(maxSteps:=2000000) only[Ty.w,simprocAttr,g0,g4,g5,g6]
   repeat'(first|refine a_seq fun K hK=>?_|((first|refine a_regionS ?_|refine a_ret ?_);simp(maxSteps:=2000000) only[Ty.w,simprocAttr,g0,g4,g5,g6,n1,nsucc])|(refine hK _ _ ?_;clear hK;try simp only[pst0,simprocAttr]))
   refine⟨?_,hgr2 _ _ _⟩
   simp only[zeroFm,Fm.cells,Ex.rows,Fm.rows,pmRows,strRows,List.map_nil,FrzTo,FrzL]
   exact⟨_,rfl,⟨_,rfl,rfl,rfl,.inr (.inl ⟨rfl,.inr rfl⟩),.inr (.inl ⟨rfl,.inr rfl⟩),.inr (.inl ⟨rfl,.inr rfl⟩),.inr (.inl ⟨rfl,.inr rfl⟩),trivial⟩,rfl,trivial⟩
  |true=>
   rw[hc1]at hF
   simp only[cond_true]at hF
   have e0:errP c1= .sc .nilIface:=by simp only[errP,hc1,cond_true]
   rw[e0]at cx
   cases hc2:c2==0 with
   |false=>
    rw[hc2]at hF
    simp only[cond_false]at hF
    subst hF
    have e1:errP c2=errV c2:=by simp only[errP,hc2,cond_false]
    rw[e1]at cy⊢
    simp only[errV]at cy⊢
    have W:=And.intro g0 (And.intro g4 (And.intro g5 (And.intro g6 n1)))
    repeat'(first|refine a_seq fun K hK=>?_|(refine a_regionS ?_;simp(maxSteps:=2000000) only[Ty.w,simprocAttr,W]))
    refine owp_useQ (cx _) (by(try simp only[Ty.w,simprocAttr,W]);try rfl) ?_;simp(maxSteps:=2000000) only[Ty.w,simprocAttr,W]
    repeat'(first|refine a_seq fun K hK=>?_|(refine a_regionS ?_;simp(maxSteps:=2000000) only[Ty.w,simprocAttr,W,nsucc])|(refine a_skip ?_;try simp only[pst0,simprocAttr])|(refine a_cond _ (by(try simp(maxSteps:=2000000) only[Ty.w,simprocAttr,W,nsucc]);rfl) (fun hb=>?_) (fun hb=>?_)<;>(try simp only[hb0,decide_eq_true_eq,decide_eq_false_iff_not,simprocAttr]at hb)<;>(try(exfalso;omega)))|(refine hK _ _ ?_;clear hK;try simp only[pst0,simprocAttr]))
    refine owp_useQ (cy _) (by(try simp only[Ty.w,simprocAttr,W]);try rfl) ?_;simp(maxSteps:=2000000) only[Ty.w,simprocAttr,W]
    repeat'(first|refine a_seq fun K hK=>?_|((first|refine a_regionS ?_|refine a_ret ?_);simp(maxSteps:=2000000) only[Ty.w,simprocAttr,W,n2,n3,nsucc])|(refine hK _ _ ?_;clear hK;try simp only[pst0,simprocAttr]))
    refine⟨?_,hgr3 _ _ _ _ _⟩
    simp only[zeroFm,Fm.cells,Ex.rows,Fm.rows,pmRows,strRows,List.map_nil,FrzTo,FrzL]
    exact⟨_,rfl,⟨_,rfl,rfl,rfl,.inr (.inl ⟨rfl,.inr rfl⟩),.inr (.inl ⟨rfl,.inr rfl⟩),.inr (.inl ⟨rfl,.inr rfl⟩),.inr (.inl ⟨rfl,.inr rfl⟩),trivial⟩,rfl,trivial⟩
   |true=>
    rw[hc2]at hF
    simp only[cond_true]at hF
    have e1:errP c2= .sc .nilIface:=by simp only[errP,hc2,cond_true]
    rw[e1]at cy
    have e2:errP 0= .sc .nilIface:=rfl
    cases p1:(w.data.toList==(#[62]:Array UInt8).toList)with
    |true=>
     rw[if_pos (show bEq w opGt=true from p1)]at hF
     subst hF
     have W:=And.intro g0 (And.intro g4 (And.intro g5 (And.intro g6 n1)))
     repeat'(first|refine a_seq fun K hK=>?_|(refine a_regionS ?_;simp(maxSteps:=2000000) only[Ty.w,simprocAttr,W]))
     refine owp_useQ (cx _) (by(try simp only[Ty.w,simprocAttr,W]);try rfl) ?_;simp(maxSteps:=2000000) only[Ty.w,simprocAttr,W]
     repeat'(first|refine a_seq fun K hK=>?_|(refine a_regionS ?_;simp(maxSteps:=2000000) only[Ty.w,simprocAttr,W,nsucc])|(refine a_skip ?_;try simp only[pst0,simprocAttr])|(refine a_cond _ (by(try simp(maxSteps:=2000000) only[Ty.w,simprocAttr,W,nsucc]);rfl) (fun hb=>?_) (fun hb=>?_)<;>(try simp only[hb0,decide_eq_true_eq,decide_eq_false_iff_not,simprocAttr]at hb)<;>(try(exfalso;omega)))|(refine hK _ _ ?_;clear hK;try simp only[pst0,simprocAttr]))
     refine owp_useQ (cy _) (by(try simp only[Ty.w,simprocAttr,W]);try rfl) ?_;simp(maxSteps:=2000000) only[Ty.w,simprocAttr,W]
     repeat'(first|refine a_seq fun K hK=>?_|((first|refine a_regionS ?_|refine a_ret ?_);simp(maxSteps:=2000000) only[Ty.w,simprocAttr,W,n2,n3,nsucc,p1])|(refine a_skip ?_;try simp only[pst0,simprocAttr])|(refine a_cond _ (by(try simp(maxSteps:=2000000) only[Ty.w,simprocAttr,W,n2,n3,nsucc,p1]);rfl) (fun hb=>?_) (fun hb=>?_)<;>(try simp only[hb0,decide_eq_true_eq,decide_eq_false_iff_not,simprocAttr]at hb)<;>(try(exfalso;omega)))|(refine hK _ _ ?_;clear hK;try simp only[pst0,simprocAttr]))
     refine⟨?_,hgr3 _ _ _ _ _⟩
     simp only[e2,opLt,Fm.cells,Ex.cells,Ex.rows,Fm.rows,pmRows,strRows,List.map_nil,FrzTo,FrzL]
     exact⟨_,rfl,⟨_,rfl,rfl,rfl,.inr (.inl ⟨rfl,.inr rfl⟩),.inr (.inl ⟨rfl,.inr rfl⟩),.inl ⟨rfl,exs_in _ [.mk bop bna bn bar bki,.mk aop ana an aar aki]⟩,.inr (.inl ⟨rfl,.inr rfl⟩),trivial⟩,rfl,trivial⟩
    |false=>
     rw[if_neg (show ¬ bEq w opGt=true by rw[show bEq w opGt=false from p1];simp)]at hF
     cases p2:(w.data.toList==(#[62,61]:Array UInt8).toList)with
     |true=>
      rw[if_pos (show bEq w opGe=true from p2)]at hF
      subst hF
      have W:=And.intro g0 (And.intro g4 (And.intro g5 (And.intro g6 n1)))
      repeat'(first|refine a_seq fun K hK=>?_|(refine a_regionS ?_;simp(maxSteps:=2000000) only[Ty.w,simprocAttr,W]))
      refine owp_useQ (cx _) (by(try simp only[Ty.w,simprocAttr,W]);try rfl) ?_;simp(maxSteps:=2000000) only[Ty.w,simprocAttr,W]
      repeat'(first|refine a_seq fun K hK=>?_|(refine a_regionS ?_;simp(maxSteps:=2000000) only[Ty.w,simprocAttr,W,nsucc])|(refine a_skip ?_;try simp only[pst0,simprocAttr])|(refine a_cond _ (by(try simp(maxSteps:=2000000) only[Ty.w,simprocAttr,W,nsucc]);rfl) (fun hb=>?_) (fun hb=>?_)<;>(try simp only[hb0,decide_eq_true_eq,decide_eq_false_iff_not,simprocAttr]at hb)<;>(try(exfalso;omega)))|(refine hK _ _ ?_;clear hK;try simp only[pst0,simprocAttr]))
      refine owp_useQ (cy _) (by(try simp only[Ty.w,simprocAttr,W]);try rfl) ?_;simp(maxSteps:=2000000) only[Ty.w,simprocAttr,W]
      repeat'(first|refine a_seq fun K hK=>?_|((first|refine a_regionS ?_|refine a_ret ?_);simp(maxSteps:=2000000) only[Ty.w,simprocAttr,W,n2,n3,nsucc,p1,p2])|(refine a_skip ?_;try simp only[pst0,simprocAttr])|(refine a_cond _ (by(try simp(maxSteps:=2000000) only[Ty.w,simprocAttr,W,n2,n3,nsucc,p1,p2]);rfl) (fun hb=>?_) (fun hb=>?_)<;>(try simp only[hb0,decide_eq_true_eq,decide_eq_false_iff_not,simprocAttr]at hb)<;>(try(exfalso;omega)))|(refine hK _ _ ?_;clear hK;try simp only[pst0,simprocAttr]))
      refine⟨?_,hgr3 _ _ _ _ _⟩
      simp only[e2,opLe,Fm.cells,Ex.cells,Ex.rows,Fm.rows,pmRows,strRows,List.map_nil,FrzTo,FrzL]
      exact⟨_,rfl,⟨_,rfl,rfl,rfl,.inr (.inl ⟨rfl,.inr rfl⟩),.inr (.inl ⟨rfl,.inr rfl⟩),.inl ⟨rfl,exs_in _ [.mk bop bna bn bar bki,.mk aop ana an aar aki]⟩,.inr (.inl ⟨rfl,.inr rfl⟩),trivial⟩,rfl,trivial⟩
     |false=>
      rw[if_neg (show ¬ bEq w opGe=true by rw[show bEq w opGe=false from p2];simp)]at hF
      subst hF
      have W:=And.intro g0 (And.intro g4 (And.intro g5 (And.intro g6 n1)))
      repeat'(first|refine a_seq fun K hK=>?_|(refine a_regionS ?_;simp(maxSteps:=2000000) only[Ty.w,simprocAttr,W]))
      refine owp_useQ (cx _) (by(try simp only[Ty.w,simprocAttr,W]);try rfl) ?_;simp(maxSteps:=2000000) only[Ty.w,simprocAttr,W]
      repeat'(first|refine a_seq fun K hK=>?_|(refine a_regionS ?_;simp(maxSteps:=2000000) only[Ty.w,simprocAttr,W,nsucc])|(refine a_skip ?_;try simp only[pst0,simprocAttr])|(refine a_cond _ (by(try simp(maxSteps:=2000000) only[Ty.w,simprocAttr,W,nsucc]);rfl) (fun hb=>?_) (fun hb=>?_)<;>(try simp only[hb0,decide_eq_true_eq,decide_eq_false_iff_not,simprocAttr]at hb)<;>(try(exfalso;omega)))|(refine hK _ _ ?_;clear hK;try simp only[pst0,simprocAttr]))
      refine owp_useQ (cy _) (by(try simp only[Ty.w,simprocAttr,W]);try rfl) ?_;simp(maxSteps:=2000000) only[Ty.w,simprocAttr,W]
      repeat'(first|refine a_seq fun K hK=>?_|(refine a_block ?_)|((first|refine a_regionS ?_|refine a_ret ?_);simp(maxSteps:=2000000) only[Ty.w,simprocAttr,W,n2,n3,nsucc,p1,p2])|(refine a_skip ?_;try simp only[pst0,simprocAttr])|(refine a_cond _ (by(try simp(maxSteps:=2000000) only[Ty.w,simprocAttr,W,n2,n3,nsucc,p1,p2]);rfl) (fun hb=>?_) (fun hb=>?_)<;>(try simp only[hb0,decide_eq_true_eq,decide_eq_false_iff_not,simprocAttr]at hb)<;>(try(exfalso;omega)))|(refine hK _ _ ?_;clear hK;try simp only[pst0,simprocAttr]))
      refine⟨?_,hgr3 _ _ _ _ _⟩
      simp only[e2,Fm.cells,Ex.cells,Ex.rows,Fm.rows,pmRows,strRows,List.map_nil,FrzTo,FrzL]
      exact⟨_,rfl,⟨_,rfl,rfl,rfl,.inr (.inl ⟨rfl,.inr rfl⟩),.inr (.inl ⟨rfl,.inr rfl⟩),.inl ⟨rfl,exs_in _ [.mk aop ana an aar aki,.mk bop bna bn bar bki]⟩,.inr (.inl ⟨rfl,.inr rfl⟩),trivial⟩,rfl,trivial⟩
end Go.Proofs.YtjeolbgpllbemaaGreat
namespace Go.Proofs.YtjeolbgpllbemaaGreat
open Go.AM
set_option maxHeartbeats 4000000
set_option maxRecDepth 20000
theorem pms_step{don:List Pm}{pen:List ByteArray}{t s:ByteArray}{j:Nat}(hj:pen[j]? =some s):
  (pmRows (don++pmsOf t (pen.take j)++pmsOf opObj (pen.drop j)))[don.length+j]? =some [sPV s,sPV opObj]∧
  (pmRows (don++pmsOf t (pen.take j)++pmsOf opObj (pen.drop j))).set (don.length+j) [sPV s,sPV t]=pmRows (don++pmsOf t (pen.take (j+1))++pmsOf opObj (pen.drop (j+1))):=by
 have hjl:j<pen.length:=(List.getElem?_eq_some_iff.1 hj).1
 have hA:(pmRows (don++pmsOf t (pen.take j))).length=don.length+j:=by simp[pmRows,pmsOf];omega
 have e1:pmRows (don++pmsOf t (pen.take j)++pmsOf opObj (pen.drop j))=pmRows (don++pmsOf t (pen.take j))++([sPV s,sPV opObj]::pmRows (pmsOf opObj (pen.drop (j+1)))):=by
  rw[drop_of_get hj];simp[pmRows,pmsOf,pmRow]
 have e2:pmRows (don++pmsOf t (pen.take (j+1))++pmsOf opObj (pen.drop (j+1)))=pmRows (don++pmsOf t (pen.take j))++([sPV s,sPV t]::pmRows (pmsOf opObj (pen.drop (j+1)))):=by
  rw[List.take_add_one,hj];simp[pmRows,pmsOf,pmRow]
 rw[e1,e2]
 constructor
 ·rw [List.getElem?_append_right (by omega),hA];simp
 ·rw [List.set_append_right _ _ (by omega),hA];simp
theorem paramsL_cons(vars:Bool)(x:Sx)(l:List Sx)(don:List Pm)(pen:List ByteArray):paramsL vars (x::l) don pen=(bif isWrd x then
   (bif bEq (textOf x) opMin then (match l with
    |[]=>([],2)
    |t::l'=>bif !pen.isEmpty&&isWrd t then(bif typedB (textOf t)then paramsL vars l' (don++pmsOf (textOf t) pen) []else([],8))else([],2))
   else bif (bif vars then varB (textOf x)else nameB (textOf x))then paramsL vars l don (pen++[textOf x])else([],8))
  else([],2)):=by
 cases l<;>(conv=>lhs;unfold paramsL)
theorem a_gen{P:Program}{ow:Nat→Bool}{wf:FuncId→Bool}{n:Nat}{Q:Post}{s:Slots}{h:Heap}{c:Code}(I:Slots→Heap→Prop)(hi:I s h)(hh: ∀ s h,I s h→awp P ow wf n c Q s h):awp P ow wf n c Q s h:=hh _ _ hi
theorem pms_scal(l:List Pm): ∀ r∈pmRows l, ∀ p∈r, ∃ v,p=PV.sc v:=by
 intro r hr p hp
 simp only[pmRows,List.mem_map]at hr
 obtain⟨x,_,rfl⟩:=hr
 simp only[pmRow,List.mem_cons,List.not_mem_nil,or_false]at hp
 rcases hp with rfl|rfl
 ·exact ⟨_,rfl⟩
 ·exact ⟨_,rfl⟩
theorem pms_frzP{h:Heap}{id0:Nat}{p:PV}{l:List Pm}(t:Tl h id0 2 p (pmRows l)):FrzTo id0 h (.imm 2 (pmRows l)) p:=t.frz (pms_scal l)
theorem parseParams_c{vars:Bool}{l:List Sx}(hl:l.length≤1048576)(hok: ∀ x∈l,x.ok)(h:Heap):
  PCall Tryz.prog 112 [.imm 6 (Sx.rows l),.sc (.bool vars)] h fun r h'=>r= .tup [.imm 2 (pmRows (paramsP vars l).1),errP (paramsP vars l).2]∧h'=h:=by
 refine PCall.frz Ty.hb_112 ?_
 have hll:=Sx.rows_len l
 generalize hF:paramsP vars l=F
 have bad: ∀ (c:Int)(h':Heap),c=2∨c=8→Grow h h'→F=([],c)→FrzTo h.next h' (.tup [.imm 2 (pmRows F.1),errP F.2]) (.tup [.sc (.slice none 0 0),errV c])∧Grow h h':=by
  intro c h' hc hg hf
  subst hf
  have:errP c=errV c:=by rcases hc with rfl|rfl<;>rfl
  simp only[this]
  refine⟨?_,hg⟩
  simp only[errV,pmRows,List.map_nil,FrzTo,FrzL]
  exact⟨_,rfl,.inr (.inl ⟨rfl,.inr rfl⟩),rfl,trivial⟩
 simp only[errV]at bad
 refine pcall_body (ow:=fun _=>false) (wf:=fun _=>false) Ty.mixed Tryz.func112 rfl Ty.hb_112 (by rw[Tryz.ntmps112];simp) ?_
 rw[Tryz.ntmps112,Tryz.results112]
 repeat'(first|refine a_seq fun K hK=>?_|(refine a_block ?_)|(refine a_regionS ?_;simp(maxSteps:=2000000) only[Ty.w,simprocAttr])|(refine hK _ _ ?_;clear hK;try simp only[pst0,simprocAttr]))
 refine a_loop (fun m S h'=>S 0= .imm 6 (Sx.rows l)∧S 1= .sc (.bool vars)∧ ∃ (k:Nat)(o:PV)(don:List Pm)(pen:List ByteArray),S 8= .sc (.int .i64 k)∧S 6=o∧S 7= .sc (.int .i64 don.length)∧k≤l.length∧m=l.length-k∧don.length+pen.length≤k∧Grow h h'∧Tl h' h.next 2 o (pmRows (don++pmsOf opObj pen))∧F=paramsL vars (l.drop k) don pen) l.length ?_ ?_
 ·simp only[Ty.w,simprocAttr]
  exact⟨0,_,[],[],rfl,rfl,rfl,by omega,rfl,by simp,Grow.refl _,Tl.nil,by rw[← hF];try rfl⟩
 ·rintro m S h' ⟨g0,g1,k,o,don,pen,g8,g6,g7,hk,rfl,hdp,hg,tl,hinv⟩
  clear hF
  by_cases hlt:k<l.length
  ·have hd:decide ((k:Int)<(l.length:Int))=true:=by simp;omega
   have w7:IntKind.i64.wrap ((k:Int)+1)=k+1:=by rw[wrap64 (by omega) (by omega)]
   obtain⟨x,hx⟩: ∃ x,l[k]? =some x:=⟨_,List.getElem?_eq_getElem hlt⟩
   have hr:=Sx.rows_get hx
   have hxk:=hok x (List.mem_of_getElem? hx)
   have hv:=fun h:Heap=>svalid_c hxk h
   have hte:=textOf_okQ hxk
   rw[drop_of_get hx]at hinv
   simp only[paramsL_cons,isWrd]at hinv
   generalize svalid x 0 0=V at hv hinv
   obtain⟨vb,vn⟩:=V
   obtain⟨ki,va,li,co,te,ks⟩:=x
   simp only[kindOf,textOf]at hinv hte
   simp only[Sx.cells]at hr hv
   have hte':te.size≤9223372036854775807:=by unfold bigN at hte;omega
   cases q1:(ki !=1)with
   |true=>
    rw[show(ki==1)=false by simpa using q1]at hinv
    simp only[Bool.false_and,cond_false]at hinv
    repeat'(first|refine a_seq fun K hK=>?_|((first|refine a_regionS ?_|refine a_ret ?_);simp(maxSteps:=2000000) only[Ty.w,simprocAttr,g0,g1,g6,g7,g8,hll,hd,hr,q1])|(refine a_skip ?_;try simp only[pst0,simprocAttr])|(refine a_cond _ (by(try simp(maxSteps:=2000000) only[Ty.w,simprocAttr,g0,g1,g6,g7,g8,hll,hd,hr,q1]);rfl) (fun hb=>?_) (fun hb=>?_)<;>(try simp only[hb0,decide_eq_true_eq,decide_eq_false_iff_not,simprocAttr]at hb)<;>(try(exfalso;omega)))|(refine hK _ _ ?_;clear hK;try simp only[pst0,simprocAttr]))
    exact bad 2 _ (.inl rfl) hg hinv
   |false=>
    rw[show(ki==1)=true by simpa using q1]at hinv
    cases vb with
    |false=>
     simp only[Bool.and_false,cond_false]at hinv
     repeat'(first|refine a_seq fun K hK=>?_|(refine a_regionS ?_;simp(maxSteps:=2000000) only[Ty.w,simprocAttr,g0,g1,g6,g7,g8,hll,hd,hr,q1])|(refine a_skip ?_;try simp only[pst0,simprocAttr])|(refine a_cond _ (by(try simp(maxSteps:=2000000) only[Ty.w,simprocAttr,g0,g1,g6,g7,g8,hll,hd,hr,q1]);rfl) (fun hb=>?_) (fun hb=>?_)<;>(try simp only[hb0,decide_eq_true_eq,decide_eq_false_iff_not,simprocAttr]at hb)<;>(try(exfalso;omega)))|(refine hK _ _ ?_;clear hK;try simp only[pst0,simprocAttr]))
     refine owp_useQ (hv _) (by(try simp only[Ty.w,simprocAttr,g0,g1,g6,g7,g8,hll,hd,hr,q1,Bool.not_false]);try rfl) ?_;simp(maxSteps:=2000000) only[Ty.w,simprocAttr,g0,g1,g6,g7,g8,hll,hd,hr,q1,Bool.not_false]
     repeat'(first|refine a_seq fun K hK=>?_|((first|refine a_regionS ?_|refine a_ret ?_);simp(maxSteps:=2000000) only[Ty.w,simprocAttr,g0,g1,g6,g7,g8,Bool.not_false])|(refine hK _ _ ?_;clear hK;try simp only[pst0,simprocAttr]))
     exact bad 2 _ (.inl rfl) hg hinv
    |true=>
     simp only[Bool.and_self,cond_true]at hinv
     have W:=And.intro g0 (And.intro g1 (And.intro g6 (And.intro g7 (And.intro g8 (And.intro hll (And.intro hd (And.intro hr q1)))))))
     repeat'(first|(with_reducible refine a_hold 9 ?_)|refine a_seq fun K hK=>?_|(refine a_regionS ?_;simp(maxSteps:=2000000) only[Ty.w,simprocAttr,W])|(refine a_skip ?_;try simp only[pst0,simprocAttr])|(refine a_cond _ (by(try simp(maxSteps:=2000000) only[Ty.w,simprocAttr,W]);rfl) (fun hb=>?_) (fun hb=>?_)<;>(try simp only[hb0,decide_eq_true_eq,decide_eq_false_iff_not,simprocAttr]at hb)<;>(try(exfalso;omega)))|(refine hK _ _ ?_;clear hK;try simp only[pst0,simprocAttr]))
     refine owp_useQ (hv _) (by(try simp only[Ty.w,simprocAttr,W,Bool.not_true]);try rfl) ?_;simp(maxSteps:=2000000) only[Ty.w,simprocAttr,W,Bool.not_true]
     repeat'(first|(with_reducible refine a_hold 9 ?_)|refine a_seq fun K hK=>?_|(refine a_regionS ?_;simp(maxSteps:=2000000) only[Ty.w,simprocAttr,W,Bool.not_true])|(refine a_skip ?_;try simp only[pst0,simprocAttr])|(refine a_cond _ (by(try simp(maxSteps:=2000000) only[Ty.w,simprocAttr,W,Bool.not_true]);rfl) (fun hb=>?_) (fun hb=>?_)<;>(try simp only[hb0,decide_eq_true_eq,decide_eq_false_iff_not,simprocAttr]at hb)<;>(try(exfalso;omega)))|(refine hK _ _ ?_;clear hK;try simp only[pst0,simprocAttr]))
     refine⟨?_⟩
     refine a_gen (fun S h2=>S 0= .imm 6 (Sx.rows l)∧S 1= .sc (.bool vars)∧S 6=o∧S 7= .sc (.int .i64 don.length)∧S 8= .sc (.int .i64 k)∧S 9=sPV te∧h2=h') ?_ ?_
     ·simp only[Ty.w,simprocAttr,g0,g1,g6,g7,g8]
     clear g0 g1 g6 g7 g8 hv hr q1
     rintro S h' ⟨g0,g1,g6,g7,g8,g9,rfl⟩
     have hrl:(pmRows (don++pmsOf opObj pen)).length=don.length+pen.length:=by rw[pmRows_len];simp[pmsOf]
     obtain⟨n,hn⟩: ∃ n,n=don.length+pen.length:=⟨_,rfl⟩
     rw[← hn]at hrl
     cases q2:(te.data.toList==(#[45]:Array UInt8).toList)with
     |false=>
      rw[show bEq te opMin=false from q2]at hinv
      simp only[cond_false]at hinv
      have hap:pmRows (don++pmsOf opObj pen)++[[.sc (.string te),.sc (.string ⟨#[111,98,106,101,99,116]⟩)]]=pmRows (don++pmsOf opObj (pen++[te])):=by simp[pmRows,pmsOf,pmRow,opObj]
      have hb:(n+1)*32≤140737488355328:=by omega
      obtain⟨H,t1,t2,t3,t4,t5⟩:=tl.tail
      have hkp:=t5 h ⟨hg.le,hg.old⟩ (Nat.le_refl _)
      have hgH:Grow h H:=⟨hkp.1,hkp.2⟩
      have fin2:Grow h (H.new (.arr 2 (pmRows (don++pmsOf opObj (pen++[te])))))∧Tl (H.new (.arr 2 (pmRows (don++pmsOf opObj (pen++[te]))))) h.next 2 (.own H.next 0 (n+1)) (pmRows (don++pmsOf opObj (pen++[te]))):=
       ⟨hgH.new _,Tl.grow hkp.1 (by rw[pmRows_len];simp[pmsOf];omega)⟩
      rw[t3]at fin2
      cases vars with
      |true=>
       simp only[cond_true]at hinv
       have hc:=fun h:Heap=>fvariable_c (h:=h) hte'
       cases v1:varB te with
       |false=>
        rw[v1]at hinv hc
        simp only[cond_false]at hinv
        repeat'(first|refine a_seq fun K hK=>?_|(refine a_regionS ?_;simp(maxSteps:=2000000) only[Ty.w,simprocAttr,g0,g1,g6,g7,g8,g9,q2,Bool.not_true,Bool.not_false])|(refine hK _ _ ?_;clear hK;try simp only[pst0,simprocAttr]))
        refine owp_useQ (hc _) (by(try simp only[Ty.w,simprocAttr,g0,g1,g6,g7,g8,g9,Bool.not_false]);try rfl) ?_;simp(maxSteps:=2000000) only[Ty.w,simprocAttr,g0,g1,g6,g7,g8,g9,Bool.not_false]
        repeat'(first|refine a_seq fun K hK=>?_|((first|refine a_regionS ?_|refine a_ret ?_);simp(maxSteps:=2000000) only[Ty.w,simprocAttr,g0,g1,g6,g7,g8,g9,Bool.not_false])|(refine hK _ _ ?_;clear hK;try simp only[pst0,simprocAttr]))
        exact bad 8 _ (.inr rfl) hg hinv
       |true=>
        rw[v1]at hinv hc
        simp only[cond_true]at hinv
        repeat'(first|refine a_seq fun K hK=>?_|(refine a_regionS ?_;simp(maxSteps:=2000000) only[Ty.w,simprocAttr,g0,g1,g6,g7,g8,g9,q2,Bool.not_true,Bool.not_false])|(refine hK _ _ ?_;clear hK;try simp only[pst0,simprocAttr]))
        refine owp_useQ (hc _) (by(try simp only[Ty.w,simprocAttr,g0,g1,g6,g7,g8,g9,Bool.not_true]);try rfl) ?_;simp(maxSteps:=2000000) only[Ty.w,simprocAttr,g0,g1,g6,g7,g8,g9,Bool.not_true]
        repeat'(first|refine a_seq fun K hK=>?_|(refine a_regionS ?_;simp(maxSteps:=2000000) only[Ty.w,simprocAttr,g0,g1,g6,g7,g8,g9,Bool.not_true,t1,t2,hrl,hb,hap,w7])|((first|refine a_skip ?_|refine a_exit ?_);try simp only[pst0,simprocAttr])|(refine a_cond _ (by(try simp(maxSteps:=2000000) only[Ty.w,simprocAttr,g0,g1,g6,g7,g8,g9,Bool.not_true,t1,t2,hrl,hb,hap,w7]);rfl) (fun hb=>?_) (fun hb=>?_)<;>(try simp only[hb0,decide_eq_true_eq,decide_eq_false_iff_not,simprocAttr]at hb)<;>(try(exfalso;omega)))|((first|refine hK _ _ ?_|(clear hK;refine hK _ _ ?_));clear hK;try simp only[pst0,simprocAttr])|(rw[if_pos];rotate_left 1;omega;simp(maxSteps:=2000000) only[Ty.w,simprocAttr,g0,g1,g6,g7,g8,g9,Bool.not_true,t1,t2,hrl,hb,hap,w7]))
        exact⟨l.length-(k+1),by omega,k+1,_,don,pen++[te],by simp,rfl,rfl,by omega,rfl,by simp;omega,fin2.1,fin2.2,hinv⟩
      |false=>
       simp only[cond_false]at hinv
       have hc:=fun h:Heap=>fname_c (h:=h) hte'
       cases v1:nameB te with
       |false=>
        rw[v1]at hinv hc
        simp only[cond_false]at hinv
        repeat'(first|refine a_seq fun K hK=>?_|(refine a_regionS ?_;simp(maxSteps:=2000000) only[Ty.w,simprocAttr,g0,g1,g6,g7,g8,g9,q2,Bool.not_true,Bool.not_false])|(refine hK _ _ ?_;clear hK;try simp only[pst0,simprocAttr]))
        refine owp_useQ (hc _) (by(try simp only[Ty.w,simprocAttr,g0,g1,g6,g7,g8,g9,Bool.not_false]);try rfl) ?_;simp(maxSteps:=2000000) only[Ty.w,simprocAttr,g0,g1,g6,g7,g8,g9,Bool.not_false]
        repeat'(first|refine a_seq fun K hK=>?_|((first|refine a_regionS ?_|refine a_ret ?_);simp(maxSteps:=2000000) only[Ty.w,simprocAttr,g0,g1,g6,g7,g8,g9,Bool.not_false])|(refine hK _ _ ?_;clear hK;try simp only[pst0,simprocAttr]))
        exact bad 8 _ (.inr rfl) hg hinv
       |true=>
        rw[v1]at hinv hc
        simp only[cond_true]at hinv
        repeat'(first|refine a_seq fun K hK=>?_|(refine a_regionS ?_;simp(maxSteps:=2000000) only[Ty.w,simprocAttr,g0,g1,g6,g7,g8,g9,q2,Bool.not_true,Bool.not_false])|(refine hK _ _ ?_;clear hK;try simp only[pst0,simprocAttr]))
        refine owp_useQ (hc _) (by(try simp only[Ty.w,simprocAttr,g0,g1,g6,g7,g8,g9,Bool.not_true]);try rfl) ?_;simp(maxSteps:=2000000) only[Ty.w,simprocAttr,g0,g1,g6,g7,g8,g9,Bool.not_true]
        repeat'(first|refine a_seq fun K hK=>?_|(refine a_regionS ?_;simp(maxSteps:=2000000) only[Ty.w,simprocAttr,g0,g1,g6,g7,g8,g9,Bool.not_true,t1,t2,hrl,hb,hap,w7])|((first|refine a_skip ?_|refine a_exit ?_);try simp only[pst0,simprocAttr])|(refine a_cond _ (by(try simp(maxSteps:=2000000) only[Ty.w,simprocAttr,g0,g1,g6,g7,g8,g9,Bool.not_true,t1,t2,hrl,hb,hap,w7]);rfl) (fun hb=>?_) (fun hb=>?_)<;>(try simp only[hb0,decide_eq_true_eq,decide_eq_false_iff_not,simprocAttr]at hb)<;>(try(exfalso;omega)))|((first|refine hK _ _ ?_|(clear hK;refine hK _ _ ?_));clear hK;try simp only[pst0,simprocAttr])|(rw[if_pos];rotate_left 1;omega;simp(maxSteps:=2000000) only[Ty.w,simprocAttr,g0,g1,g6,g7,g8,g9,Bool.not_true,t1,t2,hrl,hb,hap,w7]))
        exact⟨l.length-(k+1),by omega,k+1,_,don,pen++[te],by simp,rfl,rfl,by omega,rfl,by simp;omega,fin2.1,fin2.2,hinv⟩
     |true=>
      rw[show bEq te opMin=true from q2]at hinv
      simp only[cond_true]at hinv
      have hsl:=tl.sl
      have hlo:=hsl.len
      rw[hrl]at hlo
      have hlk:=hsl.lk
      repeat'(first|(with_reducible refine a_hold 14 ?_)|refine a_seq fun K hK=>?_|(refine a_regionS ?_;simp(maxSteps:=2000000) only[Ty.w,simprocAttr,g0,g1,g6,g7,g8,g9,q2,w7,Bool.not_true])|(refine a_skip ?_;try simp only[pst0,simprocAttr])|(refine a_cond _ (by(try simp(maxSteps:=2000000) only[Ty.w,simprocAttr,g0,g1,g6,g7,g8,g9,q2,w7,Bool.not_true]);rfl) (fun hb=>?_) (fun hb=>?_)<;>(try simp only[hb0,decide_eq_true_eq,decide_eq_false_iff_not,simprocAttr]at hb)<;>(try(exfalso;omega)))|(refine hK _ _ ?_;clear hK;try simp only[pst0,simprocAttr]))
      refine⟨?_⟩
      refine a_gen (fun S h2=>S 0= .imm 6 (Sx.rows l)∧S 1= .sc (.bool vars)∧S 6=o∧S 7= .sc (.int .i64 don.length)∧S 8= .sc (.int .i64 ((k:Int)+1))∧h2=h') ?_ ?_
      ·simp only[Ty.w,simprocAttr,g0,g1,g6,g7,g8]
      clear g0 g1 g6 g7 g8 g9 w7
      rintro S h' ⟨g0,g1,g6,g7,g8,rfl⟩
      obtain⟨k1,hk1⟩: ∃ k1:Int,k1=(k:Int)+1:=⟨_,rfl⟩
      rw[← hk1]at g8
      cases hpe:pen.isEmpty with
      |true=>
       have hpe':pen=[]:=List.isEmpty_iff.1 hpe
       have hF2:F=([],2):=by
        rw[hinv,hpe]
        split
        ·rfl
        ·rfl
       have hdd:((don.length:Int)==(n:Int))=true:=by rw[hn,hpe'];simp
       repeat'(first|refine a_seq fun K hK=>?_|((first|refine a_regionS ?_|refine a_ret ?_);simp(maxSteps:=2000000) only[Ty.w,simprocAttr,g0,g1,g6,g7,g8,hlo,hlk,hdd])|(refine hK _ _ ?_;clear hK;try simp only[pst0,simprocAttr]))
       exact bad 2 _ (.inl rfl) hg hF2
      |false=>
       rw[hpe]at hinv
       simp only[Bool.not_false,Bool.true_and]at hinv
       have hp0:0<pen.length:=by
        cases pen with
        |nil=>simp at hpe
        |cons _ _=>simp
       have hdd:((don.length:Int)==(n:Int))=false:=by rw[hn];simp;omega
       by_cases hl2:k+1<l.length
       ·have hd2:(k1==(l.length:Int))=false:=by rw[hk1];simp;omega
        obtain⟨y,hy⟩: ∃ y,l[k+1]? =some y:=⟨_,List.getElem?_eq_getElem hl2⟩
        have hyk:=hok y (List.mem_of_getElem? hy)
        have hvy:=fun h:Heap=>svalid_c hyk h
        have htey:=textOf_okQ hyk
        rw[drop_of_get hy]at hinv
        simp only at hinv
        have hry:(Sx.rows l)[k1.toNat]? =some y.cells:=by rw[hk1];exact Sx.rows_get hy
        generalize svalid y 0 0=V2 at hvy hinv
        obtain⟨vb2,vn2⟩:=V2
        obtain⟨ki2,va2,li2,co2,te2,ks2⟩:=y
        simp only[kindOf,textOf]at hinv htey
        simp only[Sx.cells]at hry hvy
        have hcy:=fun h:Heap=>typed_c (h:=h) htey
        have hk0:(0:Int)≤k1:=by omega
        cases q3:(ki2 !=1)with
        |true=>
         rw[show(ki2==1)=false by simpa using q3]at hinv
         simp only[Bool.false_and,cond_false]at hinv
         repeat'(first|refine a_seq fun K hK=>?_|((first|refine a_regionS ?_|refine a_ret ?_);simp(maxSteps:=2000000) only[Ty.w,simprocAttr,g0,g1,g6,g7,g8,hlo,hlk,hdd,hll,hd2,hry,hk0,q3])|(refine hK _ _ ?_;clear hK;try simp only[pst0,simprocAttr]))
         exact bad 2 _ (.inl rfl) hg hinv
        |false=>
         rw[show(ki2==1)=true by simpa using q3]at hinv
         simp only[Bool.true_and]at hinv
         cases vb2 with
         |false=>
          simp only[cond_false]at hinv
          repeat'(first|refine a_seq fun K hK=>?_|(refine a_regionS ?_;simp(maxSteps:=2000000) only[Ty.w,simprocAttr,g0,g1,g6,g7,g8,hlo,hlk,hdd,hll,hd2,hry,hk0,q3]))
          refine owp_useQ (hvy _) (by(try simp only[Ty.w,simprocAttr,g0,g1,g6,g7,g8,hry,hk0,Bool.not_false]);try rfl) ?_;simp(maxSteps:=2000000) only[Ty.w,simprocAttr,g0,g1,g6,g7,g8,hry,hk0,Bool.not_false]
          repeat'(first|refine a_seq fun K hK=>?_|((first|refine a_regionS ?_|refine a_ret ?_);simp(maxSteps:=2000000) only[Ty.w,simprocAttr,g0,g1,g6,g7,g8,Bool.not_false])|(refine hK _ _ ?_;clear hK;try simp only[pst0,simprocAttr]))
          exact bad 2 _ (.inl rfl) hg hinv
         |true=>
          simp only[cond_true]at hinv
          cases v3:typedB te2 with
          |false=>
           rw[v3]at hinv hcy
           simp only[cond_false]at hinv
           have W:=And.intro g0 (And.intro g1 (And.intro g6 (And.intro g7 (And.intro g8 (And.intro hry hk0)))))
           repeat'(first|refine a_seq fun K hK=>?_|(refine a_regionS ?_;simp(maxSteps:=2000000) only[Ty.w,simprocAttr,W,hlo,hlk,hdd,hll,hd2,q3]))
           refine owp_useQ (hvy _) (by(try simp only[Ty.w,simprocAttr,W,Bool.not_true]);try rfl) ?_;simp(maxSteps:=2000000) only[Ty.w,simprocAttr,W,Bool.not_true]
           repeat'(first|refine a_seq fun K hK=>?_|(refine a_regionS ?_;simp(maxSteps:=2000000) only[Ty.w,simprocAttr,W,Bool.not_true])|(refine a_skip ?_;try simp only[pst0,simprocAttr])|(refine a_cond _ (by(try simp(maxSteps:=2000000) only[Ty.w,simprocAttr,W,Bool.not_true]);rfl) (fun hb=>?_) (fun hb=>?_)<;>(try simp only[hb0,decide_eq_true_eq,decide_eq_false_iff_not,simprocAttr]at hb)<;>(try(exfalso;omega)))|(refine hK _ _ ?_;clear hK;try simp only[pst0,simprocAttr]))
           refine owp_useQ (hcy _) (by(try simp only[Ty.w,simprocAttr,W,Bool.not_false]);try rfl) ?_;simp(maxSteps:=2000000) only[Ty.w,simprocAttr,W,Bool.not_false]
           repeat'(first|refine a_seq fun K hK=>?_|((first|refine a_regionS ?_|refine a_ret ?_);simp(maxSteps:=2000000) only[Ty.w,simprocAttr,W,Bool.not_false])|(refine hK _ _ ?_;clear hK;try simp only[pst0,simprocAttr]))
           exact bad 8 _ (.inr rfl) hg hinv
          |true=>
           rw[v3]at hinv hcy
           simp only[cond_true]at hinv
           obtain⟨id,i1,i2,ho,i4⟩: ∃ id,h.next≤id∧id<h'.next∧o= .own id 0 n∧h'.obj id=some (.arr 2 (pmRows (don++pmsOf opObj pen))):=by
            rcases tl with⟨hn0,_⟩|⟨id,i1,i2,i3,i4⟩
            ·rw [hn0]at hrl;simp at hrl;omega
            ·rw [hrl]at i3;exact⟨id,i1,i2,i3,i4⟩
           subst ho
           clear tl hsl
           have W:=And.intro g0 (And.intro g1 (And.intro g6 (And.intro g7 (And.intro g8 (And.intro hry hk0)))))
           repeat'(first|refine a_seq fun K hK=>?_|(refine a_regionS ?_;simp(maxSteps:=2000000) only[Ty.w,simprocAttr,W,hlo,hlk,hdd,hll,hd2,q3]))
           refine owp_useQ (hvy _) (by(try simp only[Ty.w,simprocAttr,W,Bool.not_true]);try rfl) ?_;simp(maxSteps:=2000000) only[Ty.w,simprocAttr,W,Bool.not_true]
           repeat'(first|refine a_seq fun K hK=>?_|(refine a_regionS ?_;simp(maxSteps:=2000000) only[Ty.w,simprocAttr,W,Bool.not_true])|(refine a_skip ?_;try simp only[pst0,simprocAttr])|(refine a_cond _ (by(try simp(maxSteps:=2000000) only[Ty.w,simprocAttr,W,Bool.not_true]);rfl) (fun hb=>?_) (fun hb=>?_)<;>(try simp only[hb0,decide_eq_true_eq,decide_eq_false_iff_not,simprocAttr]at hb)<;>(try(exfalso;omega)))|(refine hK _ _ ?_;clear hK;try simp only[pst0,simprocAttr]))
           refine owp_useQ (hcy _) (by(try simp only[Ty.w,simprocAttr,W,Bool.not_true]);try rfl) ?_;simp(maxSteps:=2000000) only[Ty.w,simprocAttr,W,Bool.not_true]
           repeat'(first|(refine a_block ?_)|(refine a_skip ?_;try simp only[pst0,simprocAttr])|(refine a_cond _ (by(try simp(maxSteps:=2000000) only[Ty.w,simprocAttr,W,Bool.not_true]);rfl) (fun hb=>?_) (fun hb=>?_)<;>(try simp only[hb0,decide_eq_true_eq,decide_eq_false_iff_not,simprocAttr]at hb)<;>(try(exfalso;omega)))|(refine hK _ _ ?_;clear hK;try simp only[pst0,simprocAttr]))
           refine a_loop (fun m S h2=>S 0= .imm 6 (Sx.rows l)∧S 1= .sc (.bool vars)∧S 8= .sc (.int .i64 k1)∧S 6= .own id 0 n∧ ∃ j:Nat,S 7= .sc (.int .i64 ((don.length+j:Nat):Int))∧j≤pen.length∧m=pen.length-j∧Grow h h2∧h2.next=h'.next∧h2.obj id=some (.arr 2 (pmRows (don++pmsOf te2 (pen.take j)++pmsOf opObj (pen.drop j))))) pen.length ?_ ?_
           ·simp only[Ty.w,simprocAttr,g0,g1,g6,g7,g8]
            exact⟨0,by simp,by omega,rfl,hg,by simpa[pmsOf]using i4⟩
           ·clear g0 g1 g6 g7 g8 i4
            rintro m S h2 ⟨g0,g1,g8,g6,j,g7,hj,rfl,hg2,hn2,ob⟩
            by_cases hjl:j<pen.length
            ·obtain ⟨q,hqn⟩: ∃ q,q=don.length+j:=⟨_,rfl⟩
             obtain⟨s,hs⟩: ∃ s,pen[j]? =some s:=⟨_,List.getElem?_eq_getElem hjl⟩
             obtain⟨hp1,hp2⟩:=pms_step (don:=don) (t:=te2) hs
             rw[← hqn]at g7 hp1 hp2
             have hdj:decide ((q:Int)<(n:Int))=true:=by simp;omega
             have wj:IntKind.i64.wrap ((q:Int)+1)=((q+1:Nat):Int):=by rw[wrap64 (by omega) (by omega)];try rfl
             have hjl2:q<n:=by omega
             generalize hR:pmRows (don++pmsOf te2 (pen.take j)++pmsOf opObj (pen.drop j))=R at ob hp1 hp2
             repeat'(first|refine a_seq fun K hK=>?_|(refine a_block ?_)|((first|refine a_regionS ?_|refine a_region (fun K hK=>?_));simp(maxSteps:=2000000) only[Ty.w,simprocAttr,g0,g1,g6,g7,g8,hdj,wj,hry,hk0,ob,hp1,hp2,hjl2])|(refine a_skip ?_;try simp only[pst0,simprocAttr])|(refine a_cond _ (by(try simp(maxSteps:=2000000) only[Ty.w,simprocAttr,g0,g1,g6,g7,g8,hdj,wj,hry,hk0,ob,hp1,hp2,hjl2]);rfl) (fun hb=>?_) (fun hb=>?_)<;>(try simp only[hb0,decide_eq_true_eq,decide_eq_false_iff_not,simprocAttr]at hb)<;>(try(exfalso;omega)))|(refine hK _ _ ?_;clear hK;try simp only[pst0,simprocAttr]))
             refine⟨pen.length-(j+1),by omega,j+1,by rw[hqn];try rfl,by omega,rfl,hg2.set i1 _,hn2,?_⟩
             try simp[Heap.set]
            ·have hje:j=pen.length:=by omega
             subst hje
             rw[← hn]at g7
             have hdj:decide ((n:Int)<(n:Int))=false:=by simp
             have w8:IntKind.i64.wrap (k1+1)=((k+2:Nat):Int):=by rw[hk1,wrap64 (by omega) (by omega)];omega
             rw[List.take_length,List.drop_length]at ob
             have hz:pmRows (don++pmsOf te2 pen++pmsOf opObj [])=pmRows (don++pmsOf te2 pen):=by simp[pmsOf]
             rw[hz]at ob
             repeat'(first|refine a_seq fun K hK=>?_|(refine a_regionS ?_;simp(maxSteps:=2000000) only[Ty.w,simprocAttr,g0,g1,g6,g7,g8,hdj,w8])|(refine a_exit ?_;try simp only[pst0,simprocAttr])|(refine a_cond _ (by(try simp(maxSteps:=2000000) only[Ty.w,simprocAttr,g0,g1,g6,g7,g8,hdj,w8]);rfl) (fun hb=>?_) (fun hb=>?_)<;>(try simp only[hb0,decide_eq_true_eq,decide_eq_false_iff_not,simprocAttr]at hb)<;>(try(exfalso;omega)))|((first|refine hK _ _ ?_|(clear hK;refine hK _ _ ?_));clear hK;try simp only[pst0,simprocAttr]))
             refine⟨l.length-(k+2),by omega,k+2,_,don++pmsOf te2 pen,[],rfl,rfl,by rw[hn];simp[pmsOf],by omega,rfl,by simp[pmsOf];omega,hg2,?_,hinv⟩
             refine .inr ⟨id,i1,by omega,?_,?_⟩
             ·rw [pmRows_len,hn];simp[pmsOf]
             ·rw [ob];simp[pmsOf]
       ·have hke:k+1=l.length:=by omega
        have hd2:(k1==(l.length:Int))=true:=by rw[hk1];simp;omega
        rw[List.drop_eq_nil_of_le (by omega)]at hinv
        simp only at hinv
        repeat'(first|refine a_seq fun K hK=>?_|((first|refine a_regionS ?_|refine a_ret ?_);simp(maxSteps:=2000000) only[Ty.w,simprocAttr,g0,g1,g6,g7,g8,hlo,hlk,hdd,hll,hd2])|(refine hK _ _ ?_;clear hK;try simp only[pst0,simprocAttr]))
        exact bad 2 _ (.inl rfl) hg hinv
  ·have hd:decide ((k:Int)<(l.length:Int))=false:=by simp;omega
   rw[List.drop_eq_nil_of_le (by omega)]at hinv
   simp only[paramsL]at hinv
   subst hinv
   repeat'(first|refine a_seq fun K hK=>?_|((first|refine a_regionS ?_|refine a_ret ?_);simp(maxSteps:=2000000) only[Ty.w,simprocAttr,g0,g1,g6,g7,g8,hll,hd])|(refine a_exit ?_;try simp only[pst0,simprocAttr])|(refine a_cond _ (by(try simp(maxSteps:=2000000) only[Ty.w,simprocAttr,g0,g1,g6,g7,g8,hll,hd]);rfl) (fun hb=>?_) (fun hb=>?_)<;>(try simp only[hb0,decide_eq_true_eq,decide_eq_false_iff_not,simprocAttr]at hb)<;>(try(exfalso;omega)))|((first|refine hK _ _ ?_|(clear hK;refine hK _ _ ?_));clear hK;try simp only[pst0,simprocAttr]))
   have e2:errP 0= .sc .nilIface:=rfl
   simp only[e2]
   refine⟨?_,hg⟩
   have h1:=pms_frzP tl
   unfold FrzTo
   refine⟨_,rfl,?_⟩
   unfold FrzL
   refine⟨h1,?_⟩
   unfold FrzL
   exact⟨by simp only[FrzTo],by simp only[FrzL]⟩
end Go.Proofs.YtjeolbgpllbemaaGreat
namespace Go.AM
theorem obj_new{h:Heap}{o:AObj}{j:Nat}(hj:j<h.next):(h.new o).obj j=h.obj j:=by
 simp only[Heap.new];rw[if_neg (by omega)]
theorem obj_kill{h:Heap}{id j:Nat}(hj:j≠id):(h.kill id).obj j=h.obj j:=by
 simp only[Heap.kill];rw[if_neg hj]
theorem obj_set{h:Heap}{o:AObj}{id j:Nat}(hj:j≠id):(h.set id o).obj j=h.obj j:=by
 simp only[Heap.set];rw[if_neg hj]
theorem obj_at{h:Heap}{o:AObj}{id:Nat}:(h.set id o).obj id=some o:=by simp only[Heap.set,if_true]
theorem obj_lit{h:Heap}{a b:AObj}{j:Nat}(hj:j<h.next):(((h.new a).kill h.next).new b).obj j=h.obj j:=
 (obj_new (show j<h.next+1 by omega)).trans ((obj_kill (by omega)).trans (obj_new hj))
def tmpH(h:Heap)(o o':AObj):Heap:=below h.next ((h.new o).set h.next o')
theorem tmpH_next{h:Heap}{o o':AObj}:(tmpH h o o').next=h.next+1:=rfl
theorem tmpH_obj{h:Heap}{o o':AObj}{j:Nat}(hj:j<h.next):(tmpH h o o').obj j=h.obj j:=by
 simp only[tmpH,below,Heap.set,Heap.new]
 rw[if_pos hj,if_neg (by omega),if_neg (by omega)]
theorem a_tmp{P:Program}{ow:Nat→Bool}{wf:FuncId→Bool}{m z:Nat}{c:Code}{Q:Post}{s:Slots}{h:Heap}{o:AObj}{cells:List PV}(t:Nat)(hc:startsR c=true)(hs:s t= .ptr h.next 0 0)(hf: ∀ n H,FrzL n H cells cells)
  (hw:awp P ow wf m c Q (upd s t (.cptr cells)) (tmpH h o (.arr z [cells]))):awp P ow wf m c Q s ((h.new o).set h.next (.arr z [cells])):=by
 refine a_drop h.next [(t,.cptr cells)] hc (by simp[Heap.new,Heap.set]) ?_ hw
 intro x hx
 simp only[List.mem_cons,List.not_mem_nil,or_false]at hx
 subst hx
 simp only[hs,FrzTo]
 exact .inr ⟨h.next,0,0,z,[cells],cells,rfl,Nat.le_refl _,by simp[Heap.set],rfl,hf _ _⟩
theorem Grow.tmp{h h':Heap}(g:Grow h h')(o o':AObj):Grow h (tmpH h' o o'):=
 ⟨by rw[tmpH_next];have:=g.le;omega,fun id hid=>by rw[tmpH_obj (by have:=g.le;omega)];exact g.old id hid⟩
theorem Tl.tmp{h:Heap}{lo z:Nat}{p:PV}{R:List (List PV)}(t:Tl h lo z p R)(o o':AObj):Tl (tmpH h o o') lo z p R:=t.up (by rw[tmpH_next];omega) fun j _ hj=>tmpH_obj hj
theorem Tl.cell{h:Heap}{lo z:Nat}{p:PV}{R:List (List PV)}(t:Tl h lo z p R):p.cells=[p]∧oneC p=true:=by
 rcases t with⟨_,rfl|rfl⟩|⟨_,_,_,rfl,_⟩<;>exact⟨rfl,rfl⟩
theorem Tl.mid{h:Heap}{lo z:Nat}{p:PV}{R:List (List PV)}(t:Tl h lo z p R){id:Nat}(hid:id<lo)(o:AObj):Tl (h.set id o) lo z p R:=t.up (Nat.le_refl _) fun j hj _=>by simp only[Heap.set];rw[if_neg (by omega)]
theorem Tl.frzR{h:Heap}{id0 z:Nat}{p:PV}{rows:List (List PV)}(t:Tl h id0 z p rows){n:Nat}(hn:n≤id0)(hr:FrzR n h rows rows):FrzTo n h (.imm z rows) p:=by
 simp only[FrzTo]
 rcases t with⟨h1,h2⟩|⟨id,h1,h2,rfl,ho⟩
 ·exact .inr (.inl ⟨h1,h2.symm⟩)
 ·refine .inr (.inr ⟨id,0,_,_,rfl,by omega,ho,by omega,?_⟩)
  rw[List.drop_zero,List.take_of_length_le (by omega)]
  exact hr
theorem isTail_keep{h0 h H:Heap}{lo z j:Nat}{p:PV}{R R2:List (List PV)}(t:Tl h0 lo z p R)(t1:isTail h p=some (H,R2))(hj:h0.next≤j):H.obj j=h.obj j:=by
 rcases t with⟨_,rfl|rfl⟩|⟨id,b1,b2,rfl,b3⟩
 ·simp only[isTail,Option.some.injEq,Prod.mk.injEq]at t1;rw[← t1.1]
 ·simp only[isTail,Option.some.injEq,Prod.mk.injEq]at t1;rw[← t1.1]
 ·unfold isTail at t1
  simp only at t1
  split at t1
  ·split at t1
   ·simp only[Option.some.injEq,Prod.mk.injEq]at t1
    rw[← t1.1]
    exact obj_kill (by omega)
   ·cases t1
  ·cases t1
structure GrI(h:Heap)(ir io lo zr zo zl:Nat)(Z pre post:List PV)(R:List (List PV))(h':Heap):Prop where
 grow:Grow h h'
 ids:h.next≤ir∧h.next≤io∧ir<lo∧io<lo∧lo≤h'.next∧ir≠io
 ores:h'.obj ir=some (.arr zr [Z])
 ex: ∃ p H,h'.obj io=some (.arr zo [pre++p::post])∧Tl h' lo zl p R∧isTail h' p=some (H,R)∧zOk h' zl p=true∧H.next=h'.next∧(∀ j,j<lo→H.obj j=h'.obj j)∧Grow h H∧p.cells=[p]∧oneC p=true
theorem GrI.mk2{h h':Heap}{ir io lo zr zo zl:Nat}{Z pre post:List PV}{R:List (List PV)}{p:PV}(g:Grow h h')(ids:h.next≤ir∧h.next≤io∧ir<lo∧io<lo∧lo≤h'.next∧ir≠io)(o1:h'.obj ir=some (.arr zr [Z]))(o2:h'.obj io=some (.arr zo [pre++p::post]))(tl:Tl h' lo zl p R):
  GrI h ir io lo zr zo zl Z pre post R h':=by
 obtain⟨H,t1,t2,t3,t4,t5⟩:=tl.tail
 have hk:=t5 h ⟨g.le,g.old⟩ (by omega)
 exact⟨g,ids,o1,p,H,o2,tl,t1,t2,t3,t4,⟨hk.1,hk.2⟩,tl.cell.1,tl.cell.2⟩
theorem GrI.tmp{h h':Heap}{ir io lo zr zo zl:Nat}{Z pre post:List PV}{R:List (List PV)}(i:GrI h ir io lo zr zo zl Z pre post R h')(o o':AObj):GrI h ir io lo zr zo zl Z pre post R (tmpH h' o o'):=by
 obtain⟨g,ids,o1,p,H,o2,tl,_⟩:=i
 exact .mk2 (g.tmp o o') ⟨ids.1,ids.2.1,ids.2.2.1,ids.2.2.2.1,by rw[tmpH_next];omega,ids.2.2.2.2.2⟩ (by rw[tmpH_obj (by omega)];exact o1) (by rw[tmpH_obj (by omega)];exact o2) (tl.tmp o o')
theorem GrI.push{h h' H:Heap}{ir io lo zr zo zl m:Nat}{Z pre post:List PV}{R:List (List PV)}(X:List PV)(g:Grow h H)(ids:h.next≤ir∧h.next≤io∧ir<lo∧io<lo∧lo≤h'.next∧ir≠io)(o1:h'.obj ir=some (.arr zr [Z]))(t3:H.next=h'.next)(t4: ∀ j,j<lo→H.obj j=h'.obj j)(hm:m=R.length+1):
  GrI h ir io lo zr zo zl Z pre post (R++[X]) ((H.new (.arr zl (R++[X]))).set io (.arr zo [pre++ .own h'.next 0 m::post])):=by
 obtain⟨i1,i2,i3,i4,i5,i6⟩:=ids
 refine GrI.mk2 (p:= .own h'.next 0 m) ((g.new _).set i2 _) ⟨i1,i2,i3,i4,by simp only[Heap.set,Heap.new];omega,i6⟩ ?_ ?_ ?_
 ·simp only[Heap.set,Heap.new]
  rw[if_neg i6,if_neg (by omega),t4 _ i3];exact o1
 ·simp only[Heap.set,if_true]
 ·rw [← t3]
  have:Tl (H.new (.arr zl (R++[X]))) lo zl (.own H.next 0 m) (R++[X]):=Tl.grow (by omega) (by rw[hm];simp)
  exact this.up (Nat.le_refl _) (fun j hj _=>by simp only[Heap.set];rw[if_neg (by omega)])
def Gv(X z:Nat)(R:List (List PV))(p q:PV):Prop:=p=q∨(p= .own X 0 R.length∧q= .imm z R)
def GvL(X z:Nat)(R:List (List PV)):List PV→List PV→Prop
 |[],[]=>True
 |p::ps,q::qs=>Gv X z R p q∧GvL X z R ps qs
 |_,_=>False
def GvR(X z:Nat)(R:List (List PV)):List (List PV)→List (List PV)→Prop
 |[],[]=>True
 |p::ps,q::qs=>GvL X z R p q∧GvR X z R ps qs
 |_,_=>False
theorem GvL.refl{X z:Nat}{R:List (List PV)}: ∀ l:List PV,GvL X z R l l
 |[]=>trivial
 |_::l=>⟨.inl rfl,GvL.refl l⟩
theorem GvR.snoc{X z:Nat}{R:List (List PV)}{r r':List PV}(h:GvL X z R r r'): ∀ l:List (List PV),GvR X z R (l++[r]) (l++[r'])
 |[]=>⟨h,trivial⟩
 |a::l=>⟨GvL.refl a,GvR.snoc h l⟩
theorem GvL.len{X z:Nat}{R:List (List PV)}: ∀ l l':List PV,GvL X z R l l'→l.length=l'.length
 |[],[],_=>rfl
 |[],_::_,h=>h.elim
 |_::_,[],h=>h.elim
 |_::l,_::l',h=>by simp only[List.length_cons,GvL.len l l' h.2]
theorem GvR.len{X z:Nat}{R:List (List PV)}: ∀ l l':List (List PV),GvR X z R l l'→l.length=l'.length
 |[],[],_=>rfl
 |[],_::_,h=>h.elim
 |_::_,[],h=>h.elim
 |_::l,_::l',h=>by simp only[List.length_cons,GvR.len l l' h.2]
section
variable {β:Env}{h:Heap}{w:World}{X z:Nat}{R:List (List PV)}{F':Nat→Prop}
theorem Gv.rep(sm:Sim β h w)(hX:h.obj X=some (.arr z R))(mv:Mv β h.next (Fz β h w) w β h.next F' w)(hB: ∀ b,(β X).b=some b→F' b){p q:PV}{x:Value}(hg:Gv X z R p q)(hr:Rep β h.next (Fz β h w) w p x):Rep β h.next F' w q x:=by
 rcases hg with rfl|⟨rfl,rfl⟩
 ·exact Rep.mv mv _ _ hr
 ·simp only[Rep]at hr⊢
  obtain⟨_,a,cap,rfl,h1,h2,h3⟩:=hr
  refine⟨a,cap,rfl,h1,h2,?_⟩
  rcases h3 with h3|⟨b,g1,g2,g3⟩
  ·exact .inl (List.eq_nil_of_length_eq_zero (by omega))
  ·have hok:=sm.ok X _ hX
   simp only[ObjOk]at hok
   obtain⟨hz,hok⟩:=hok
   rcases hok with⟨k1,_⟩|⟨b',c,e,fr,k1,k2,k3,k4,k5,k6⟩
   ·rw [k1]at g1;cases g1
   ·rw [k1]at g1
    simp only[Option.some.injEq]at g1
    subst g1
    exact .inr ⟨b',_,hB b' k1,g2,by simpa using RepR.mvb mv rfl z R _ k6⟩
theorem GvL.rep(sm:Sim β h w)(hX:h.obj X=some (.arr z R))(mv:Mv β h.next (Fz β h w) w β h.next F' w)(hB: ∀ b,(β X).b=some b→F' b): ∀ (l l':List PV)(b o:Nat),GvL X z R l l'→RepS β h.next (Fz β h w) w l b o→RepS β h.next F' w l' b o
 |[],[],_,_,_,_=>by simp only[RepS]
 |[],_::_,_,_,h,_=>h.elim
 |_::_,[],_,_,h,_=>h.elim
 |p::l,q::l',b,o,hg,hr=>by
  simp only[RepS]at hr⊢
  obtain⟨⟨v,h1,h2,h3⟩,h4⟩:=hr
  exact⟨⟨v,h1,h2,Gv.rep sm hX mv hB hg.1 h3⟩,GvL.rep sm hX mv hB l l' b (o+1) hg.2 h4⟩
theorem GvR.rep(sm:Sim β h w)(hX:h.obj X=some (.arr z R))(mv:Mv β h.next (Fz β h w) w β h.next F' w)(hB: ∀ b,(β X).b=some b→F' b)(zY:Nat): ∀ (l l':List (List PV))(b o:Nat),GvR X z R l l'→RepR β h.next (Fz β h w) w zY l b o→RepR β h.next F' w zY l' b o
 |[],[],_,_,_,_=>by simp only[RepR]
 |[],_::_,_,_,h,_=>h.elim
 |_::_,[],_,_,h,_=>h.elim
 |p::l,q::l',b,o,hg,hr=>by
  simp only[RepR]at hr⊢
  obtain⟨⟨h1,h2⟩,h3⟩:=hr
  exact⟨⟨by rw[← GvL.len _ _ hg.1];exact h1,GvL.rep sm hX mv hB p q b o hg.1 h2⟩,GvR.rep sm hX mv hB zY l l' b (o+zY) hg.2 h3⟩
end
def giveH(h:Heap)(X Y zY:Nat)(R':List (List PV)):Heap:=(h.kill X).set Y (.arr zY R')
theorem Wk.give{s:Slots}{h:Heap}{X Y z zY:Nat}{R RY RY':List (List PV)}(hX:h.obj X=some (.arr z R))(hY:h.obj Y=some (.arr zY RY))(hne:X≠Y)(hg:GvR X z R RY RY'):Wk s h s (giveH h X Y zY RY'):=by
 intro β w sm
 have ho: ∀ j,(giveH h X Y zY RY').obj j=if j=Y then some (.arr zY RY')else if j=X then none else h.obj j:=fun j=>rfl
 have hsome: ∀ id,((giveH h X Y zY RY').obj id).isSome=true→id≠X∧(h.obj id).isSome=true:=fun id hid=>by
  rw[ho]at hid
  split at hid
  ·rename_i e;subst e;exact⟨fun e=>hne e.symm,by rw[hY];try rfl⟩
  ·split at hid
   ·simp at hid
   ·exact ⟨by assumption,hid⟩
 have hF: ∀ b,Fz β h w b→Fz β (giveH h X Y zY RY') w b:=fun b hb=>⟨hb.1,fun id hid=>hb.2.1 id (hsome id hid).2,hb.2.2⟩
 have hsX:(h.obj X).isSome=true:=by rw[hX];try rfl
 have hB: ∀ b,(β X).b=some b→Fz β (giveH h X Y zY RY') w b:=fun b hb=>
  ⟨sm.blk_lt hX hb,fun j hj hjb=>(hsome j hj).1 (sm.inj j X (hsome j hj).2 hsX b hjb hb),sm.nx X hsX b hb⟩
 have mv:Mv β h.next (Fz β h w) w β h.next (Fz β (giveH h X Y zY RY') w) w:=⟨Nat.le_refl _,fun _ _ _=>rfl,fun b hb=>⟨hF b hb,rfl⟩⟩
 refine⟨⟨fun id hid=>sm.lt id (hsome id hid).2,fun id o hoo=>?_,fun i j hi hj=>sm.inj i j (hsome i hi).2 (hsome j hj).2,sm.xs,fun id hid=>sm.nx id (hsome id hid).2⟩,
  ⟨rfl,rfl,rfl,Nat.le_refl _,Nat.le_refl _,fun _ _=>rfl,rfl,fun _ _ _=>rfl,fun b hb=>⟨hF b hb,rfl⟩⟩,fun t x hr=>Rep.mv mv _ _ hr⟩
 rw[ho]at hoo
 split at hoo
 ·rename_i e
  subst e
  simp only[Option.some.injEq]at hoo
  subst hoo
  have hok:=sm.ok id _ hY
  simp only[ObjOk]at hok⊢
  refine⟨hok.1,?_⟩
  rcases hok.2 with⟨k1,k2⟩|⟨b,c,e,fr,k1,k2,k3,k4,k5,k6⟩
  ·left
   refine⟨k1,?_⟩
   have:=hg.len
   rw[k2]at this
   exact List.eq_nil_of_length_eq_zero this.symm
  ·exact .inr ⟨b,c,e,fr,k1,k2,k3,by rw[← hg.len];exact k4,k5,GvR.rep sm hX mv hB zY RY RY' b _ hg k6⟩
 ·split at hoo
  ·cases hoo
  ·exact ObjOk.mv mv (fun _ _=>rfl) (sm.ok id o hoo)
theorem a_give{P:Program}{ow:Nat→Bool}{wf:FuncId→Bool}{m:Nat}{c:Code}{Q:Post}{s:Slots}{h:Heap}{X Y z zY:Nat}{R RY:List (List PV)}(RY':List (List PV))(hc:startsR c=true)(hX:h.obj X=some (.arr z R))(hY:h.obj Y=some (.arr zY RY))(hne:X≠Y)(hg:GvR X z R RY RY')
  (hw:awp P ow wf m c Q s (giveH h X Y zY RY')):awp P ow wf m c Q s h:=a_weak hc (Wk.give hX hY hne hg) hw
def GrJ(h:Heap)(ir io lo zr zo zl:Nat)(Z pre post:List PV)(R':List (List PV))(H:Heap):Prop:=
 ∃ X Y z RX R,Grow h H∧(h.next≤ir∧h.next≤io∧ir<lo∧io<lo∧lo≤H.next∧ir≠io)∧H.obj ir=some (.arr zr [Z])∧H.obj io=some (.arr zo [pre++ .own Y 0 R.length::post])∧
  H.obj Y=some (.arr zl R)∧H.obj X=some (.arr z RX)∧X≠Y∧lo≤X∧lo≤Y∧Y<H.next∧GvR X z RX R R'
theorem GrJ.push{h H3:Heap}{ir io lo zr zo zl X Y z m:Nat}{Z pre post r r':List PV}{RX R R':List (List PV)}(g:Grow h H3)(ids:h.next≤ir∧h.next≤io∧ir<lo∧io<lo∧lo≤H3.next∧ir≠io)(o1:H3.obj ir=some (.arr zr [Z]))(oX:H3.obj X=some (.arr z RX))(hx:lo≤X)(hxn:X<H3.next)
  (hY:H3.next=Y)(hm:m=R.length+1)(hr:R'=R++[r'])(hg:GvL X z RX r r'):GrJ h ir io lo zr zo zl Z pre post R' ((H3.new (.arr zl (R++[r]))).set io (.arr zo [pre++ .own Y 0 m::post])):=by
 subst hY;subst hr
 obtain⟨i1,i2,i3,i4,i5,i6⟩:=ids
 refine⟨X,H3.next,z,RX,R++[r],(g.new _).set i2 _,⟨i1,i2,i3,i4,show lo≤H3.next+1 by omega,i6⟩,?_,?_,?_,?_,by omega,hx,i5,show H3.next<H3.next+1 by omega,GvR.snoc hg R⟩
 ·rw [obj_set i6,obj_new (by omega)];exact o1
 ·rw [obj_at,hm];simp
 ·rw [obj_set (by omega)];simp only[Heap.new,if_true]
 ·rw [obj_set (by omega),obj_new hxn];exact oX
theorem a_giveO{P:Program}{ow:Nat→Bool}{wf:FuncId→Bool}{m:Nat}{c:Code}{Q:Post}{s:Slots}{h H:Heap}{ir io lo zr zo zl:Nat}{Z pre post:List PV}{R':List (List PV)}(hc:startsR c=true)
  (hI:GrI h ir io lo zr zo zl Z pre post R' H∨GrJ h ir io lo zr zo zl Z pre post R' H)(hw: ∀ H',GrI h ir io lo zr zo zl Z pre post R' H'→awp P ow wf m c Q s H'):awp P ow wf m c Q s H:=by
 rcases hI with hI|⟨X,Y,z,RX,R,g,ids,o1,o2,oY,oX,hne,hx,hy,hyn,hg⟩
 ·exact hw _ hI
 ·refine a_give R' hc oX oY hne hg (hw _ ?_)
  have ho: ∀ j,j<lo→(giveH H X Y zl R').obj j=H.obj j:=fun j hj=>by
   simp only[giveH,Heap.set,Heap.kill]
   rw[if_neg (by omega),if_neg (by omega)]
  refine GrI.mk2 (p:= .own Y 0 R.length) ⟨g.le,fun j hj=>by rw[ho j (by omega)];exact g.old j hj⟩ ids (by rw[ho _ ids.2.2.1];exact o1) (by rw[ho _ ids.2.2.2.1];exact o2) (.inr ⟨Y,hy,hyn,by rw[hg.len],?_⟩)
  simp only[giveH,Heap.set,if_true]
theorem Tl.old{h H:Heap}{lo z:Nat}{p:PV}{R:List (List PV)}(t:Tl h lo z p R)(g:Grow h H):Tl H lo z p R:=t.up g.le fun j _ hj=>g.old j hj
theorem GrI.up{h H H':Heap}{ir io lo zr zo zl:Nat}{Z pre post:List PV}{R:List (List PV)}(i:GrI h ir io lo zr zo zl Z pre post R H)(g:Grow H H'):GrI h ir io lo zr zo zl Z pre post R H':=by
 obtain⟨g0,ids,o1,p,Hk,o2,tl,_⟩:=i
 exact .mk2 (g0.trans g) ⟨ids.1,ids.2.1,ids.2.2.1,ids.2.2.2.1,Nat.le_trans ids.2.2.2.2.1 g.le,ids.2.2.2.2.2⟩ (by rw[g.old _ (by omega)];exact o1) (by rw[g.old _ (by omega)];exact o2) (tl.old g)
structure GrV(h:Heap)(io lo zo zl:Nat)(pre post:List PV)(R:List (List PV))(H:Heap):Prop where
 grow:Grow h H
 ids:h.next≤io∧h.next≤lo∧io<H.next
 ex: ∃ p Hk,H.obj io=some (.arr zo [pre++p::post])∧Tl H lo zl p R∧isTail H p=some (Hk,R)∧zOk H zl p=true∧Hk.next=H.next∧Hk.obj io=H.obj io∧Grow h Hk∧p.cells=[p]∧oneC p=true
theorem GrV.mk2{h H:Heap}{io lo zo zl:Nat}{pre post:List PV}{R:List (List PV)}{p:PV}(g:Grow h H)(ids:h.next≤io∧h.next≤lo∧io<H.next)(o2:H.obj io=some (.arr zo [pre++p::post]))(tl:Tl H lo zl p R)(sep: ∀ id,p= .own id 0 R.length→id≠io):
  GrV h io lo zo zl pre post R H:=by
 obtain⟨Hk,t1,t2,t3,t4,t5⟩:=tl.tail
 have hk:=t5 h ⟨g.le,g.old⟩ ids.2.1
 refine⟨g,ids,p,Hk,o2,tl,t1,t2,t3,?_,⟨hk.1,hk.2⟩,tl.cell.1,tl.cell.2⟩
 rcases tl with⟨_,rfl|rfl⟩|⟨id,b1,b2,rfl,b3⟩
 ·simp only[isTail,Option.some.injEq,Prod.mk.injEq]at t1;rw[← t1.1]
 ·simp only[isTail,Option.some.injEq,Prod.mk.injEq]at t1;rw[← t1.1]
 ·have:=sep id rfl
  simp only[isTail,b3]at t1
  split at t1
  ·simp only[Option.some.injEq,Prod.mk.injEq]at t1
   rw[← t1.1];exact obj_kill (by omega)
  ·cases t1
theorem GrV.tmp{h H:Heap}{io lo zo zl:Nat}{pre post:List PV}{R:List (List PV)}(i:GrV h io lo zo zl pre post R H)(o o':AObj):GrV h io lo zo zl pre post R (tmpH H o o'):=by
 obtain⟨g,ids,p,Hk,o2,tl,t1,t2,t3,t4,t5,t6,t7⟩:=i
 refine .mk2 (p:=p) (g.tmp o o') ⟨ids.1,ids.2.1,by rw[tmpH_next];omega⟩ (by rw[tmpH_obj ids.2.2];exact o2) (tl.tmp o o') ?_
 rintro id rfl
 rintro rfl
 rcases tl with⟨_,h1|h1⟩|⟨id,b1,b2,h1,b3⟩
 ·cases h1
 ·cases h1
 ·simp only[PV.own.injEq]at h1
  obtain⟨rfl,_⟩:=h1
  simp only[isTail,b3]at t1
  split at t1
  ·simp only[Option.some.injEq,Prod.mk.injEq]at t1
   rw[← t1.1]at t4
   simp only[Heap.kill,if_true]at t4
   rw[o2]at t4;cases t4
  ·cases t1
theorem GrV.push{h H Hk:Heap}{io lo zo zl m:Nat}{pre post:List PV}{R:List (List PV)}(X:List PV)(g:Grow h Hk)(ids:h.next≤io∧h.next≤lo∧io<H.next)(hlo:lo≤H.next)(t3:Hk.next=H.next)(hm:m=R.length+1):
  GrV h io lo zo zl pre post (R++[X]) ((Hk.new (.arr zl (R++[X]))).set io (.arr zo [pre++ .own H.next 0 m::post])):=by
 refine GrV.mk2 (p:= .own H.next 0 m) ((g.new _).set ids.1 _) ⟨ids.1,ids.2.1,show io<Hk.next+1 by omega⟩ obj_at ?_ ?_
 ·rw [← t3]
  exact .inr ⟨Hk.next,by omega,Nat.lt_succ_self _,by rw[hm];simp,by rw[obj_set (by omega)];simp only[Heap.new,if_true]⟩
 ·intro id he
  simp only[PV.own.injEq]at he
  omega
theorem below_grow{h H:Heap}(g:Grow h H):Grow h (below h.next H):=⟨g.le,fun j hj=>by simp only[below];rw[if_pos hj];exact g.old j hj⟩
theorem a_dropV{P:Program}{ow:Nat→Bool}{wf:FuncId→Bool}{m:Nat}{c:Code}{Q:Post}{s:Slots}{h H:Heap}{io lo zo zl:Nat}{pre post:List PV}{R:List (List PV)}(t:Nat)(hc:startsR c=true)(i:GrV h io lo zo zl pre post R H)(hs:s t= .ptr io 0 0)(hR: ∀ n H,FrzR n H R R)(h1: ∀ n H p q,FrzTo n H p q→FrzL n H (pre++p::post) (pre++q::post))
  (hw:awp P ow wf m c Q (upd s t (.cptr (pre++ .imm zl R::post))) (below h.next H)):awp P ow wf m c Q s H:=by
 obtain⟨g,ids,p,Hk,o2,tl,_⟩:=i
 refine a_drop h.next [(t,.cptr (pre++ .imm zl R::post))] hc g.le ?_ hw
 intro x hx
 simp only[List.mem_cons,List.not_mem_nil,or_false]at hx
 subst hx
 simp only[hs,FrzTo]
 exact .inr ⟨io,0,0,zo,_,_,rfl,ids.1,o2,rfl,h1 _ _ _ _ (tl.frzR ids.2.1 (hR _ _))⟩
end Go.AM
namespace Go.Proofs.YtjeolbgpllbemaaGreat
open Go.AM
theorem a_holdR{P:Program}{ow:Nat→Bool}{wf:FuncId→Bool}{n:Nat}{Q:Post}{s:Slots}{h:Heap}(id:Nat){ops:Array Oper}{d:Bool}{y:Code}(hh:Hold (awp P ow wf n (.seq (.region id ops d) y) Q s h)):awp P ow wf n (.seq (.region id ops d) y) Q s h:=hh.out
theorem a_holdB{P:Program}{ow:Nat→Bool}{wf:FuncId→Bool}{n:Nat}{Q:Post}{s:Slots}{h:Heap}(id:Nat){ops:Array Oper}{d:Bool}(hh:Hold (awp P ow wf n (.region id ops d) Q s h)):awp P ow wf n (.region id ops d) Q s h:=hh.out
end Go.Proofs.YtjeolbgpllbemaaGreat
namespace Go.AM
section
variable {P:Program}{ow:Nat→Bool}{n:Nat}{ops:List Oper}{I K:Slots→Heap→Prop}
theorem lwp_cut: ∀ (l:List Oper)(k:Nat){s:Slots}{h:Heap},lwp P ow n ops (l.take k) I s h→(∀ s h,I s h→lwp P ow n ops (l.drop k) K s h)→lwp P ow n ops l K s h
 |[],k,s,h,h1,hk=>by
  rw[List.take_nil]at h1
  have:=hk s h (by simpa only[lwp]using h1)
  rwa [List.drop_nil]at this
 |o::rest,0,s,h,h1,hk=>hk s h (by simpa only[lwp,List.take_zero]using h1)
 |o::rest,k+1,s,h,h1,hk=>by
  rw[List.take_succ_cons]at h1
  simp only[lwp]at h1⊢
  refine⟨h1.1,?_⟩
  have h3:=h1.2
  clear h1
  cases hw:wantedB ops s o with
  |none=>rw[hw]at h3;exact h3
  |some b=>
   rw[hw]at h3
   simp only at h3⊢
   split at h3
   ·rename_i hb
    rw[if_pos hb]
    exact owp_mono (fun s h hh=>lwp_cut rest k hh hk) h3
   ·rename_i hb
    rw[if_neg hb]
    exact lwp_cut rest k h3 hk
theorem lwn_cutl: ∀ (l:List Oper)(k:Nat){s:Slots}{h:Heap},lwn P ow n ops (l.take k) I s h→(∀ s h,I s h→lwn P ow n ops (l.drop k) K s h)→lwn P ow n ops l K s h
 |[],k,s,h,h1,hk=>by
  rw[List.take_nil]at h1
  have:=hk s h (by simpa only[lwn]using h1)
  rwa [List.drop_nil]at this
 |o::rest,0,s,h,h1,hk=>hk s h (by simpa only[lwn,List.take_zero]using h1)
 |o::rest,k+1,s,h,h1,hk=>by
  rw[List.take_succ_cons]at h1
  simp only[lwn]at h1⊢
  refine⟨h1.1,?_⟩
  have h3:=h1.2
  clear h1
  cases hw:wantedB ops s o with
  |none=>rw[hw]at h3;exact h3
  |some b=>
   rw[hw]at h3
   simp only at h3⊢
   split at h3
   ·rename_i hb
    rw[if_pos hb]
    cases hc:callee (pev s) o.op with
    |none=>
     rw[hc]at h3
     simp only at h3⊢
     cases he:eff P (o.dst.any ow) o.op (pev s) h with
     |none=>rw[he]at h3;exact h3
     |some r=>
      rw[he]at h3
      exact lwn_cutl rest k h3 hk
    |some f=>
     rw[hc]at h3
     simp only at h3⊢
     exact owp_mono (fun s h hh=>lwp_cut rest k hh fun s h hi=>lwn_lwp _ _ _ (hk s h hi)) h3
   ·rename_i hb
    rw[if_neg hb]
    exact lwn_cutl rest k h3 hk
theorem lwn_cut{l:List Oper}{s:Slots}{h:Heap}(k:Nat)(I:Slots→Heap→Prop)(h1:lwn P ow n ops (l.take k) I s h)(h2: ∀ s h,I s h→lwn P ow n ops (l.drop k) K s h):lwn P ow n ops l K s h:=lwn_cutl l k h1 h2
end
end Go.AM
