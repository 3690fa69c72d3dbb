/- What the claim rests on, part 6: the abstract machine, contracts of the functions, plain data. -/
import Derived.Test.YtjeolbgpllbemaaZo5
set_option linter.unusedVariables false
set_option linter.unusedSimpArgs false
set_option linter.unusedSectionVars false
namespace Go.AM
def Vl.ok(v:Vl):Prop:=v.at_.ok∧ -9223372036854775808≤v.n∧v.n≤9223372036854775807
def Pb.ok(p:Pb):Prop:=p.name.size≤bigN∧p.domain.size≤bigN∧(p.objects.length≤bigN∧ ∀ o∈p.objects,o.ok)∧(p.init.length≤bigN∧ ∀ a∈p.init,a.ok)∧(p.values.length≤bigN∧ ∀ v∈p.values,v.ok)∧p.goal.ok
end Go.AM
namespace Go.Proofs.Ytjeolbgpllbemaa
open Go.AM
set_option maxHeartbeats 4000000
set_option maxRecDepth 20000
def objB(o:Pm):Bool:=nameB o.name&&typedB o.type
def vlB(v:Vl):Bool:=rightA v.at_&&inNum v.n
def expressB(p:Pb):Bool:=nameB p.name&&nameB p.domain&&p.objects.all objB&&p.values.all vlB&&!(p.init.any fun a=>!rightA a)
theorem expressible_c{p:Pb}(hok:p.ok)(h:Heap):PCall Try.prog 20 [.agg p.cells] h fun r h'=>r= .sc (.bool (expressB p))∧h'=h:=by
 obtain⟨hn,hd,⟨hol,hos⟩,⟨hil,his⟩,⟨hvl,hvs⟩,_⟩:=hok
 obtain⟨name,domain,objects,init,values,goal⟩:=p
 simp only at hn hd hol hos hil his hvl hvs
 have hn':name.size≤9223372036854775807:=by unfold bigN at hn;omega
 have hd':domain.size≤9223372036854775807:=by unfold bigN at hd;omega
 have hlO:=pmRows_len objects
 have hlV:=vlRows_len values
 obtain⟨gop,gname,gargs,gparams,gexprs,gkids⟩:=goal
 refine PCall.quiet Ty.hb_20 ?_
 generalize hF:expressB _=F
 simp only[expressB]at hF
 simp only[Pb.cells,Fm.cells,List.cons_append,List.nil_append]
 cases q1:nameB name with
 |false=>
  rw[q1]at hF
  simp only[Bool.false_and]at hF
  subst hF
  refine pcall_body (ow:=fun _=>false) (wf:=fun _=>false) Ty.mixed Try.func20 rfl Ty.hb_20 (by rw[Try.ntmps20];simp) ?_
  rw[Try.ntmps20,Try.results20]
  repeat'(first|refine a_seq fun K hK=>?_|(refine a_regionS ?_;simp(maxSteps:=2000000) only[Ty.w,simprocAttr])|(refine hK _ _ ?_;clear hK;try simp only[pst0,simprocAttr]))
  refine owp_useQ (fname_c (s:=name) hn') (by(try simp only[Ty.w,simprocAttr,q1]);try rfl) ?_;simp(maxSteps:=2000000) only[Ty.w,simprocAttr,q1]
  repeat'(first|refine a_seq fun K hK=>?_|((first|refine a_regionS ?_|refine a_ret ?_);simp(maxSteps:=2000000) only[Ty.w,simprocAttr,q1,Bool.not_false])|(refine hK _ _ ?_;clear hK;try simp only[pst0,simprocAttr]))
  exact Grow.refl h
 |true=>
  cases q2:nameB domain with
  |false=>
   rw[q1,q2]at hF
   simp only[Bool.true_and,Bool.false_and]at hF
   subst hF
   refine pcall_body (ow:=fun _=>false) (wf:=fun _=>false) Ty.mixed Try.func20 rfl Ty.hb_20 (by rw[Try.ntmps20];simp) ?_
   rw[Try.ntmps20,Try.results20]
   repeat'(first|refine a_seq fun K hK=>?_|(refine a_regionS ?_;simp(maxSteps:=2000000) only[Ty.w,simprocAttr])|(refine hK _ _ ?_;clear hK;try simp only[pst0,simprocAttr]))
   refine owp_useQ (fname_c (s:=name) hn') (by(try simp only[Ty.w,simprocAttr,q1]);try rfl) ?_;simp(maxSteps:=2000000) only[Ty.w,simprocAttr,q1]
   skip
   refine owp_useQ (fname_c (s:=domain) hd') (by(try simp only[Ty.w,simprocAttr,q1,q2]);try rfl) ?_;simp(maxSteps:=2000000) only[Ty.w,simprocAttr,q1,q2]
   repeat'(first|refine a_seq fun K hK=>?_|((first|refine a_regionS ?_|refine a_ret ?_);simp(maxSteps:=2000000) only[Ty.w,simprocAttr,q1,q2,Bool.not_true,Bool.not_false])|(refine hK _ _ ?_;clear hK;try simp only[pst0,simprocAttr]))
   exact Grow.refl h
  |true=>
   rw[q1,q2]at hF
   simp only[Bool.true_and]at hF
   unfold bigN at hol hvl
   refine pcall_body (ow:=fun _=>false) (wf:=fun _=>false) Ty.mixed Try.func20 rfl Ty.hb_20 (by rw[Try.ntmps20];simp) ?_
   rw[Try.ntmps20,Try.results20]
   repeat'(first|refine a_seq fun K hK=>?_|(refine a_regionS ?_;simp(maxSteps:=2000000) only[Ty.w,simprocAttr])|(refine hK _ _ ?_;clear hK;try simp only[pst0,simprocAttr]))
   refine owp_useQ (fname_c (s:=name) hn') (by(try simp only[Ty.w,simprocAttr,q1]);try rfl) ?_;simp(maxSteps:=2000000) only[Ty.w,simprocAttr,q1]
   skip
   refine owp_useQ (fname_c (s:=domain) hd') (by(try simp only[Ty.w,simprocAttr,q1,q2]);try rfl) ?_;simp(maxSteps:=2000000) only[Ty.w,simprocAttr,q1,q2]
   repeat'(first|(with_reducible refine a_hold 3 ?_)|(refine a_skip ?_;try simp only[pst0,simprocAttr])|(refine a_cond _ (by(try simp(maxSteps:=2000000) only[Ty.w,simprocAttr,q1,q2,Bool.not_true]);rfl) (fun hb=>?_) (fun hb=>?_)<;>(try simp only[hb0,decide_eq_true_eq,decide_eq_false_iff_not,simprocAttr]at hb)<;>(try(exfalso;omega)))|(refine hK _ _ ?_;clear hK;try simp only[pst0,simprocAttr]))
   refine⟨?_⟩
   refine a_cut (fun S h'=>S 1= .cptr (Pb.mk name domain objects init values (.mk gop gname gargs gparams gexprs gkids)).cells∧Grow h h'∧objects.all objB=true) ?_ ?_
   ·have hFp:objects.all objB=false→F=false:=fun hh=>by rw[← hF,hh];try rfl
    clear hF
    repeat'(first|refine a_seq fun K hK=>?_|(refine a_block ?_)|(refine a_regionS ?_;simp(maxSteps:=2000000) only[Ty.w,simprocAttr,hlO])|(refine hK _ _ ?_;clear hK;try simp only[pst0,simprocAttr]))
    refine a_loop (fun c S h'=>S 1= .cptr (Pb.mk name domain objects init values (.mk gop gname gargs gparams gexprs gkids)).cells∧S 18= .imm 2 (pmRows objects)∧S 19= .sc (.int .i64 objects.length)∧ ∃ k:Nat,S 20= .sc (.int .i64 k)∧k≤objects.length∧c=objects.length-k∧Grow h h'∧objects.all objB=(objects.drop k).all objB) objects.length ?_ ?_
    ·simp only[Ty.w,simprocAttr,Pb.cells,Fm.cells,List.cons_append,List.nil_append]
     exact⟨0,rfl,by omega,rfl,Grow.refl h,rfl⟩
    ·rintro c S h' ⟨g1,g18,g19,k,g20,hk,rfl,hG,hall⟩
     simp only[Pb.cells,Fm.cells,List.cons_append,List.nil_append]at g1
     by_cases hlt:k<objects.length
     ·have hdk:decide ((k:Int)<(objects.length:Int))=true:=by simp;omega
      have w7:IntKind.i64.wrap ((k:Int)+1)=k+1:=by rw[wrap64 (by omega) (by omega)]
      obtain⟨o,hx⟩: ∃ o,objects[k]? =some o:=⟨_,List.getElem?_eq_getElem hlt⟩
      have hr:=pmRows_get hx
      obtain⟨ho1,ho2⟩:=hos o (List.mem_of_getElem? hx)
      have ho1':o.name.size≤9223372036854775807:=by unfold bigN at ho1;omega
      have ho2':o.type.size≤9223372036854775807:=by unfold bigN at ho2;omega
      have hG2:Grow h ((h'.new (.arr 2 [[.sc (.string ⟨#[]⟩),.sc (.string ⟨#[]⟩)]])).set h'.next (.arr 2 [[sPV o.name,sPV o.type]])):=(hG.new _).set hG.le _
      have tT:typedB o.type=(nameB o.type||(o.type.data.toList==(#[111,98,106,101,99,116]:Array UInt8).toList)):=rfl
      rw[drop_get hx]at hall
      simp only[List.all_cons,objB,tT]at hall
      cases v1:nameB o.name with
      |false=>
       have hp:=hFp (by rw[hall,v1];try rfl)
       subst hp
       repeat'(first|refine a_seq fun K hK=>?_|(refine a_regionS ?_;simp(maxSteps:=2000000) only[Ty.w,simprocAttr,g1,g18,g19,g20,hdk,hr])|(refine a_skip ?_;try simp only[pst0,simprocAttr])|(refine a_cond _ (by(try simp(maxSteps:=2000000) only[Ty.w,simprocAttr,g1,g18,g19,g20,hdk,hr]);rfl) (fun hb=>?_) (fun hb=>?_)<;>(try simp only[hb0,decide_eq_true_eq,decide_eq_false_iff_not,simprocAttr]at hb)<;>(try(exfalso;omega)))|(refine hK _ _ ?_;clear hK;try simp only[pst0,simprocAttr]))
       refine owp_useQ (fname_c (s:=o.name) ho1') (by(try simp only[Ty.w,simprocAttr,g1,g18,g19,g20,v1]);try rfl) ?_;simp(maxSteps:=2000000) only[Ty.w,simprocAttr,g1,g18,g19,g20,v1]
       repeat'(first|refine a_seq fun K hK=>?_|((first|refine a_regionS ?_|refine a_ret ?_);simp(maxSteps:=2000000) only[Ty.w,simprocAttr,g1,g18,g19,g20,v1,Bool.not_false])|(refine hK _ _ ?_;clear hK;try simp only[pst0,simprocAttr]))
       all_goals first|exact hG2|exact⟨rfl,hG2⟩
      |true=>
       cases v2:nameB o.type with
       |true=>
        rw[v1,v2]at hall
        have W:=And.intro g1 (And.intro g18 (And.intro g19 (And.intro g20 (And.intro v1 v2))))
        repeat'(first|refine a_seq fun K hK=>?_|(refine a_regionS ?_;simp(maxSteps:=2000000) only[Ty.w,simprocAttr,W,hdk,hr])|(refine a_skip ?_;try simp only[pst0,simprocAttr])|(refine a_cond _ (by(try simp(maxSteps:=2000000) only[Ty.w,simprocAttr,W,hdk,hr]);rfl) (fun hb=>?_) (fun hb=>?_)<;>(try simp only[hb0,decide_eq_true_eq,decide_eq_false_iff_not,simprocAttr]at hb)<;>(try(exfalso;omega)))|(refine hK _ _ ?_;clear hK;try simp only[pst0,simprocAttr]))
        refine owp_useQ (fname_c (s:=o.name) ho1') (by(try simp only[Ty.w,simprocAttr,W]);try rfl) ?_;simp(maxSteps:=2000000) only[Ty.w,simprocAttr,W]
        skip
        refine owp_useQ (fname_c (s:=o.type) ho2') (by(try simp only[Ty.w,simprocAttr,W]);try rfl) ?_;simp(maxSteps:=2000000) only[Ty.w,simprocAttr,W]
        repeat'(first|(refine a_block ?_)|(refine a_regionS ?_;simp(maxSteps:=2000000) only[Ty.w,simprocAttr,W,w7,Bool.not_true])|(refine a_skip ?_;try simp only[pst0,simprocAttr])|(refine hK _ _ ?_;clear hK;try simp only[pst0,simprocAttr]))
        exact⟨objects.length-(k+1),by omega,by simp only[Pb.cells,Fm.cells,List.cons_append,List.nil_append],k+1,by simp,by omega,rfl,hG2,by simpa using hall⟩
       |false=>
        cases v3:(o.type.data.toList==(#[111,98,106,101,99,116]:Array UInt8).toList)with
        |true=>
         rw[v1,v2,v3]at hall
         have W:=And.intro g1 (And.intro g18 (And.intro g19 (And.intro g20 (And.intro v1 v2))))
         repeat'(first|refine a_seq fun K hK=>?_|(refine a_regionS ?_;simp(maxSteps:=2000000) only[Ty.w,simprocAttr,W,hdk,hr])|(refine a_skip ?_;try simp only[pst0,simprocAttr])|(refine a_cond _ (by(try simp(maxSteps:=2000000) only[Ty.w,simprocAttr,W,hdk,hr]);rfl) (fun hb=>?_) (fun hb=>?_)<;>(try simp only[hb0,decide_eq_true_eq,decide_eq_false_iff_not,simprocAttr]at hb)<;>(try(exfalso;omega)))|(refine hK _ _ ?_;clear hK;try simp only[pst0,simprocAttr]))
         refine owp_useQ (fname_c (s:=o.name) ho1') (by(try simp only[Ty.w,simprocAttr,W]);try rfl) ?_;simp(maxSteps:=2000000) only[Ty.w,simprocAttr,W]
         skip
         refine owp_useQ (fname_c (s:=o.type) ho2') (by(try simp only[Ty.w,simprocAttr,W]);try rfl) ?_;simp(maxSteps:=2000000) only[Ty.w,simprocAttr,W]
         repeat'(first|(refine a_regionS ?_;simp(maxSteps:=2000000) only[Ty.w,simprocAttr,W,v3,w7,Bool.not_true,Bool.not_false])|(refine a_skip ?_;try simp only[pst0,simprocAttr])|(refine a_cond _ (by(try simp(maxSteps:=2000000) only[Ty.w,simprocAttr,W,v3,w7,Bool.not_true,Bool.not_false]);rfl) (fun hb=>?_) (fun hb=>?_)<;>(try simp only[hb0,decide_eq_true_eq,decide_eq_false_iff_not,simprocAttr]at hb)<;>(try(exfalso;omega)))|(refine hK _ _ ?_;clear hK;try simp only[pst0,simprocAttr]))
         exact⟨objects.length-(k+1),by omega,by simp only[Pb.cells,Fm.cells,List.cons_append,List.nil_append],k+1,by simp,by omega,rfl,hG2,by simpa using hall⟩
        |false=>
         have hp:=hFp (by rw[hall,v1,v2,v3];try rfl)
         subst hp
         have W:=And.intro g1 (And.intro g18 (And.intro g19 (And.intro g20 (And.intro v1 v2))))
         repeat'(first|refine a_seq fun K hK=>?_|(refine a_regionS ?_;simp(maxSteps:=2000000) only[Ty.w,simprocAttr,W,hdk,hr])|(refine a_skip ?_;try simp only[pst0,simprocAttr])|(refine a_cond _ (by(try simp(maxSteps:=2000000) only[Ty.w,simprocAttr,W,hdk,hr]);rfl) (fun hb=>?_) (fun hb=>?_)<;>(try simp only[hb0,decide_eq_true_eq,decide_eq_false_iff_not,simprocAttr]at hb)<;>(try(exfalso;omega)))|(refine hK _ _ ?_;clear hK;try simp only[pst0,simprocAttr]))
         refine owp_useQ (fname_c (s:=o.name) ho1') (by(try simp only[Ty.w,simprocAttr,W]);try rfl) ?_;simp(maxSteps:=2000000) only[Ty.w,simprocAttr,W]
         skip
         refine owp_useQ (fname_c (s:=o.type) ho2') (by(try simp only[Ty.w,simprocAttr,W]);try rfl) ?_;simp(maxSteps:=2000000) only[Ty.w,simprocAttr,W]
         repeat'(first|refine a_seq fun K hK=>?_|((first|refine a_regionS ?_|refine a_ret ?_);simp(maxSteps:=2000000) only[Ty.w,simprocAttr,W,v3,w7,Bool.not_true,Bool.not_false])|(refine a_cond _ (by(try simp(maxSteps:=2000000) only[Ty.w,simprocAttr,W,v3,w7,Bool.not_true,Bool.not_false]);rfl) (fun hb=>?_) (fun hb=>?_)<;>(try simp only[hb0,decide_eq_true_eq,decide_eq_false_iff_not,simprocAttr]at hb)<;>(try(exfalso;omega)))|(refine hK _ _ ?_;clear hK;try simp only[pst0,simprocAttr]))
         all_goals first|exact hG2|exact⟨rfl,hG2⟩
     ·have hdk:decide ((k:Int)<(objects.length:Int))=false:=by simp;omega
      rw[List.drop_eq_nil_of_le (by omega)]at hall
      repeat'(first|refine a_seq fun K hK=>?_|(refine a_regionS ?_;simp(maxSteps:=2000000) only[Ty.w,simprocAttr,g1,g18,g19,g20,hdk])|(refine a_exit ?_;try simp only[pst0,simprocAttr])|(refine a_cond _ (by(try simp(maxSteps:=2000000) only[Ty.w,simprocAttr,g1,g18,g19,g20,hdk]);rfl) (fun hb=>?_) (fun hb=>?_)<;>(try simp only[hb0,decide_eq_true_eq,decide_eq_false_iff_not,simprocAttr]at hb)<;>(try(exfalso;omega)))|(refine hK _ _ ?_;clear hK;try simp only[pst0,simprocAttr]))
      simp(maxSteps:=2000000) only[Ty.w,simprocAttr,Ty.all,g1,Pb.cells,Fm.cells,List.cons_append,List.nil_append]
      exact⟨hG,hall⟩
   ·rintro S h' ⟨g1,hG,hall⟩
    simp only[Pb.cells,Fm.cells,List.cons_append,List.nil_append]at g1
    rw[hall]at hF
    simp only[Bool.true_and]at hF
    clear hall
    repeat'(with_reducible refine a_hold 9 ?_)
    refine⟨?_⟩
    refine a_cut (fun S h'=>S 1= .cptr (Pb.mk name domain objects init values (.mk gop gname gargs gparams gexprs gkids)).cells∧Grow h h'∧values.all vlB=true) ?_ ?_
    ·have hFp:values.all vlB=false→F=false:=fun hh=>by rw[← hF,hh];try rfl
     clear hF
     repeat'(first|refine a_seq fun K hK=>?_|(refine a_block ?_)|(refine a_regionS ?_;simp(maxSteps:=2000000) only[Ty.w,simprocAttr,g1,hlV])|(refine hK _ _ ?_;clear hK;try simp only[pst0,simprocAttr]))
     refine a_loop (fun c S h'=>S 1= .cptr (Pb.mk name domain objects init values (.mk gop gname gargs gparams gexprs gkids)).cells∧S 41= .imm 3 (vlRows values)∧S 42= .sc (.int .i64 values.length)∧ ∃ k:Nat,S 43= .sc (.int .i64 k)∧k≤values.length∧c=values.length-k∧Grow h h'∧values.all vlB=(values.drop k).all vlB) values.length ?_ ?_
     ·simp only[Ty.w,simprocAttr,g1,Pb.cells,Fm.cells,List.cons_append,List.nil_append]
      exact⟨0,rfl,by omega,rfl,hG,rfl⟩
     ·clear g1 hG
      rintro c S h' ⟨g1,g41,g42,k,g43,hk,rfl,hG,hall⟩
      simp only[Pb.cells,Fm.cells,List.cons_append,List.nil_append]at g1
      by_cases hlt:k<values.length
      ·have hdk:decide ((k:Int)<(values.length:Int))=true:=by simp;omega
       have w7:IntKind.i64.wrap ((k:Int)+1)=k+1:=by rw[wrap64 (by omega) (by omega)]
       obtain⟨v,hx⟩: ∃ v,values[k]? =some v:=⟨_,List.getElem?_eq_getElem hlt⟩
       have hr:=vlRows_get hx
       obtain⟨ho1,_⟩:=hvs v (List.mem_of_getElem? hx)
       have hrc:=right_c ho1.1 ho1.2.1 ho1.2.2
       rw[drop_get hx]at hall
       simp only[List.all_cons,vlB,rightA,inNum]at hall
       obtain⟨⟨vname,vargs⟩,vn⟩:=v
       simp only at hr hrc hall
       have hG2:Grow h ((h'.new (.arr 3 [[.sc (.string ⟨#[]⟩),.sc (.slice none 0 0),.sc (.int .i64 0)]])).set h'.next (.arr 3 [[sPV vname,.imm 1 (strRows vargs),.sc (.int .i64 vn)]])):=(hG.new _).set hG.le _
       generalize rightB vname vargs=b at hrc hall
       cases b with
       |false=>
        have hp:=hFp (by rw[hall];try rfl)
        subst hp
        repeat'(first|refine a_seq fun K hK=>?_|(refine a_regionS ?_;simp(maxSteps:=2000000) only[Ty.w,simprocAttr,g1,g41,g42,g43,hdk,hr])|(refine a_skip ?_;try simp only[pst0,simprocAttr])|(refine a_cond _ (by(try simp(maxSteps:=2000000) only[Ty.w,simprocAttr,g1,g41,g42,g43,hdk,hr]);rfl) (fun hb=>?_) (fun hb=>?_)<;>(try simp only[hb0,decide_eq_true_eq,decide_eq_false_iff_not,simprocAttr]at hb)<;>(try(exfalso;omega)))|(refine hK _ _ ?_;clear hK;try simp only[pst0,simprocAttr]))
        refine owp_useQ (hrc _) (by(try simp only[Ty.w,simprocAttr,g1,g41,g42,g43]);try rfl) ?_;simp(maxSteps:=2000000) only[Ty.w,simprocAttr,g1,g41,g42,g43]
        repeat'(first|refine a_seq fun K hK=>?_|((first|refine a_regionS ?_|refine a_ret ?_);simp(maxSteps:=2000000) only[Ty.w,simprocAttr,g1,g41,g42,g43,Bool.not_false])|(refine hK _ _ ?_;clear hK;try simp only[pst0,simprocAttr]))
        all_goals first|exact hG2|exact⟨rfl,hG2⟩
       |true=>
        cases v1:decide (vn< -1099511627776)with
        |true=>
         have v1i:=of_decide_eq_true v1
         have hp:=hFp (by rw[hall,decide_eq_false (show ¬-1099511627776≤vn by have:=of_decide_eq_true v1;omega)];try rfl)
         subst hp
         repeat'(first|refine a_seq fun K hK=>?_|(refine a_regionS ?_;simp(maxSteps:=2000000) only[Ty.w,simprocAttr,g1,g41,g42,g43,hdk,hr])|(refine a_skip ?_;try simp only[pst0,simprocAttr])|(refine a_cond _ (by(try simp(maxSteps:=2000000) only[Ty.w,simprocAttr,g1,g41,g42,g43,hdk,hr]);rfl) (fun hb=>?_) (fun hb=>?_)<;>(try simp only[hb0,decide_eq_true_eq,decide_eq_false_iff_not,simprocAttr]at hb)<;>(try(exfalso;omega)))|(refine hK _ _ ?_;clear hK;try simp only[pst0,simprocAttr]))
         refine owp_useQ (hrc _) (by(try simp only[Ty.w,simprocAttr,g1,g41,g42,g43]);try rfl) ?_;simp(maxSteps:=2000000) only[Ty.w,simprocAttr,g1,g41,g42,g43]
         repeat'(first|refine a_seq fun K hK=>?_|((first|refine a_regionS ?_|refine a_ret ?_);simp(maxSteps:=2000000) only[Ty.w,simprocAttr,g1,g41,g42,g43,v1,Bool.not_true])|(with_reducible refine ite_in (fun hb=>?_) (fun hb=>?_)<;>(try simp only[Decidable.not_not]at hb)<;>(try simp only[hb,if_true,if_false,not_false_eq_true,not_true_eq_false, ↓reduceIte])<;>(try simp only[hb0,decide_eq_true_eq,decide_eq_false_iff_not,simprocAttr]at hb)<;>(try(exfalso;omega)))|(refine hK _ _ ?_;clear hK;try simp only[pst0,simprocAttr]))
         all_goals first|exact hG2|exact⟨rfl,hG2⟩
        |false=>
         have v1i:=of_decide_eq_false v1
         cases v2:decide (vn>1099511627776)with
         |true=>
          have v2i:=of_decide_eq_true v2
          have hp:=hFp (by rw[hall,decide_eq_false (show ¬ vn≤1099511627776 by have:=of_decide_eq_true v2;omega)];simp)
          subst hp
          repeat'(first|refine a_seq fun K hK=>?_|(refine a_regionS ?_;simp(maxSteps:=2000000) only[Ty.w,simprocAttr,g1,g41,g42,g43,hdk,hr])|(refine a_skip ?_;try simp only[pst0,simprocAttr])|(refine a_cond _ (by(try simp(maxSteps:=2000000) only[Ty.w,simprocAttr,g1,g41,g42,g43,hdk,hr]);rfl) (fun hb=>?_) (fun hb=>?_)<;>(try simp only[hb0,decide_eq_true_eq,decide_eq_false_iff_not,simprocAttr]at hb)<;>(try(exfalso;omega)))|(refine hK _ _ ?_;clear hK;try simp only[pst0,simprocAttr]))
          refine owp_useQ (hrc _) (by(try simp only[Ty.w,simprocAttr,g1,g41,g42,g43]);try rfl) ?_;simp(maxSteps:=2000000) only[Ty.w,simprocAttr,g1,g41,g42,g43]
          repeat'(first|refine a_seq fun K hK=>?_|((first|refine a_regionS ?_|refine a_ret ?_);simp(maxSteps:=2000000) only[Ty.w,simprocAttr,g1,g41,g42,g43,v1,v2,Bool.not_true])|(refine a_cond _ (by(try simp(maxSteps:=2000000) only[Ty.w,simprocAttr,g1,g41,g42,g43,v1,v2,Bool.not_true]);rfl) (fun hb=>?_) (fun hb=>?_)<;>(try simp only[hb0,decide_eq_true_eq,decide_eq_false_iff_not,simprocAttr]at hb)<;>(try(exfalso;omega)))|(with_reducible refine ite_in (fun hb=>?_) (fun hb=>?_)<;>(try simp only[Decidable.not_not]at hb)<;>(try simp only[hb,if_true,if_false,not_false_eq_true,not_true_eq_false, ↓reduceIte])<;>(try simp only[hb0,decide_eq_true_eq,decide_eq_false_iff_not,simprocAttr]at hb)<;>(try(exfalso;omega)))|(refine hK _ _ ?_;clear hK;try simp only[pst0,simprocAttr]))
          all_goals first|exact hG2|exact⟨rfl,hG2⟩
         |false=>
          have v2i:=of_decide_eq_false v2
          rw[decide_eq_true (show-1099511627776≤vn by have:=of_decide_eq_false v1;omega),decide_eq_true (show vn≤1099511627776 by have:=of_decide_eq_false v2;omega)]at hall
          repeat'(first|refine a_seq fun K hK=>?_|(refine a_regionS ?_;simp(maxSteps:=2000000) only[Ty.w,simprocAttr,g1,g41,g42,g43,hdk,hr])|(refine a_skip ?_;try simp only[pst0,simprocAttr])|(refine a_cond _ (by(try simp(maxSteps:=2000000) only[Ty.w,simprocAttr,g1,g41,g42,g43,hdk,hr]);rfl) (fun hb=>?_) (fun hb=>?_)<;>(try simp only[hb0,decide_eq_true_eq,decide_eq_false_iff_not,simprocAttr]at hb)<;>(try(exfalso;omega)))|(refine hK _ _ ?_;clear hK;try simp only[pst0,simprocAttr]))
          refine owp_useQ (hrc _) (by(try simp only[Ty.w,simprocAttr,g1,g41,g42,g43]);try rfl) ?_;simp(maxSteps:=2000000) only[Ty.w,simprocAttr,g1,g41,g42,g43]
          repeat'(first|(refine a_regionS ?_;simp(maxSteps:=2000000) only[Ty.w,simprocAttr,g1,g41,g42,g43,v1,v2,w7,Bool.not_true])|(refine a_skip ?_;try simp only[pst0,simprocAttr])|(refine a_cond _ (by(try simp(maxSteps:=2000000) only[Ty.w,simprocAttr,g1,g41,g42,g43,v1,v2,w7,Bool.not_true]);rfl) (fun hb=>?_) (fun hb=>?_)<;>(try simp only[hb0,decide_eq_true_eq,decide_eq_false_iff_not,simprocAttr]at hb)<;>(try(exfalso;omega)))|(with_reducible refine ite_in (fun hb=>?_) (fun hb=>?_)<;>(try simp only[Decidable.not_not]at hb)<;>(try simp only[hb,if_true,if_false,not_false_eq_true,not_true_eq_false, ↓reduceIte])<;>(try simp only[hb0,decide_eq_true_eq,decide_eq_false_iff_not,simprocAttr]at hb)<;>(try(exfalso;omega)))|(refine hK _ _ ?_;clear hK;try simp only[pst0,simprocAttr]))
          exact⟨values.length-(k+1),by omega,by simp only[Pb.cells,Fm.cells,List.cons_append,List.nil_append],k+1,by simp,by omega,rfl,hG2,by simpa using hall⟩
      ·have hdk:decide ((k:Int)<(values.length:Int))=false:=by simp;omega
       rw[List.drop_eq_nil_of_le (by omega)]at hall
       repeat'(first|refine a_seq fun K hK=>?_|(refine a_regionS ?_;simp(maxSteps:=2000000) only[Ty.w,simprocAttr,g1,g41,g42,g43,hdk])|(refine a_exit ?_;try simp only[pst0,simprocAttr])|(refine a_cond _ (by(try simp(maxSteps:=2000000) only[Ty.w,simprocAttr,g1,g41,g42,g43,hdk]);rfl) (fun hb=>?_) (fun hb=>?_)<;>(try simp only[hb0,decide_eq_true_eq,decide_eq_false_iff_not,simprocAttr]at hb)<;>(try(exfalso;omega)))|(refine hK _ _ ?_;clear hK;try simp only[pst0,simprocAttr]))
       simp(maxSteps:=2000000) only[Ty.w,simprocAttr,Ty.all,g1,Pb.cells,Fm.cells,List.cons_append,List.nil_append]
       exact⟨hG,hall⟩
    ·clear g1 hG
     rintro S h' ⟨g1,hG,hall⟩
     simp only[Pb.cells,Fm.cells,List.cons_append,List.nil_append]at g1
     rw[hall]at hF
     simp only[Bool.true_and]at hF
     subst hF
     have hf: ∀ a∈init, ∀ h:Heap,PCall Try.prog 39 [.agg (atRow a)] h fun r h'=>r= .sc (.bool (!rightA a))∧h'=h:=fun a ha h=>pexpr1_c (his a ha)
     repeat'(first|refine a_seq fun K hK=>?_|(refine a_regionS ?_;simp(maxSteps:=2000000) only[Ty.w,simprocAttr,g1]))
     refine owp_useQ (containsFuncA_c (q:=fun a=>!rightA a) hil hf) (by(try simp only[Ty.w,simprocAttr,g1]);try rfl) ?_;simp(maxSteps:=2000000) only[Ty.w,simprocAttr,g1]
     repeat'(first|(refine a_ret ?_;simp(maxSteps:=2000000) only[Ty.w,simprocAttr,g1])|(refine hK _ _ ?_;clear hK;try simp only[pst0,simprocAttr]))
     all_goals first|exact hG|exact⟨rfl,hG⟩
end Go.Proofs.Ytjeolbgpllbemaa
namespace Go.AM
end Go.AM
namespace Go.Proofs.Ytjeolbgpllbemaa
open Go.AM
theorem validF_shaped{f:Fm}(h:validF f=true):shapedF f=true:=by
 unfold validF at h
 simp only[Bool.and_eq_true]at h
 exact shapedM_F f 0 0 h.1
theorem zeroFm_ok:zeroFm.ok∧zeroFm.small:=by
 simp only[zeroFm,Fm.ok,Fm.oks,Ex.oks,Fm.small,Fm.smalls,Ex.smalls,List.length_nil]
 refine⟨⟨by simp[bigN,ByteArray.size],by simp[bigN,ByteArray.size],⟨by simp,by simp⟩,⟨by simp,by simp⟩,⟨by simp,trivial⟩,by simp,trivial⟩,by omega,by omega,trivial,by omega,trivial⟩
theorem textOf_ok{x:Sx}(h:x.ok):(textOf x).size≤bigN:=by
 obtain⟨_,_,_,_,t,_⟩:=x
 simp only[Sx.ok]at h
 exact h.2.2.1
theorem pmsOf_ok{t:ByteArray}{l:List ByteArray}(ht:t.size≤bigN)(hl: ∀ s∈l,s.size≤bigN): ∀ p∈pmsOf t l,p.ok:=by
 intro p hp
 simp only[pmsOf,List.mem_map]at hp
 obtain⟨s,hs,rfl⟩:=hp
 exact⟨hl s hs,ht⟩
theorem pmsOf_len(t:ByteArray)(l:List ByteArray):(pmsOf t l).length=l.length:=by simp[pmsOf]
theorem opObj_size:opObj.size≤bigN:=by simp[opObj,bigN,ByteArray.size]
theorem paramsL_ok(vars:Bool): ∀ (n:Nat)(l:List Sx),l.length≤n→(∀ x∈l,x.ok)→ ∀ (don:List Pm)(pen:List ByteArray),(∀ p∈don,p.ok)→(∀ s∈pen,s.size≤bigN)→
  (∀ p∈(paramsL vars l don pen).1,p.ok)∧(paramsL vars l don pen).1.length≤don.length+pen.length+l.length:=by
 intro n
 induction n with
 |zero=>
  intro l hl _ don pen hd hp
  match l,hl with
  |[],_=>
   unfold paramsL
   simp only[List.mem_append,List.length_append,pmsOf_len,List.length_nil]
   exact⟨fun p h=>h.elim (hd p) (pmsOf_ok opObj_size hp p),by omega⟩
 |succ n ihn=>
  intro l hl hx don pen hd hp
  match l,hl,hx with
  |[],_,_=>
   unfold paramsL
   simp only[List.mem_append,List.length_append,pmsOf_len,List.length_nil]
   exact⟨fun p h=>h.elim (hd p) (pmsOf_ok opObj_size hp p),by omega⟩
  |x::l,hl,hx=>
   have hxo:=hx x (by simp)
   have hlo: ∀ y∈l,y.ok:=fun y hy=>hx y (by simp[hy])
   unfold paramsL
   cases isWrd x with
   |false=>simp
   |true=>
    simp only[cond_true]
    cases bEq (textOf x) opMin with
    |true=>
     simp only[cond_true]
     cases l with
     |nil=>simp
     |cons t l'=>
      simp only
      cases(!pen.isEmpty&&isWrd t)with
      |false=>simp
      |true=>
       cases typedB (textOf t)with
       |false=>simp
       |true=>
        simp only[cond_true]
        have:=ihn l' (by simp at hl;omega) (fun y hy=>hlo y (by simp[hy])) (don++pmsOf (textOf t) pen) [] (fun p h=>(List.mem_append.1 h).elim (hd p) (pmsOf_ok (textOf_ok (hlo t (by simp))) hp p)) (by simp)
        refine⟨this.1,Nat.le_trans this.2 ?_⟩
        simp only[List.length_append,pmsOf_len,List.length_nil,List.length_cons];omega
    |false=>
     simp only[cond_false]
     cases(bif vars then varB (textOf x)else nameB (textOf x))with
     |false=>simp
     |true=>
      simp only[cond_true]
      have:=ihn l (by simp at hl;omega) hlo don (pen++[textOf x]) hd (fun s h=>(List.mem_append.1 h).elim (hp s) (fun h=>by simp at h;rw[h];exact textOf_ok hxo))
      refine⟨this.1,Nat.le_trans this.2 ?_⟩
      simp only[List.length_append,List.length_nil,List.length_cons];omega
theorem fm_mk_ok{op name:ByteArray}{args:List ByteArray}{params:List Pm}{exprs:List Ex}{kids:List Fm}(h1:op.size≤bigN)(h2:name.size≤bigN)(h3:args.length≤1048576)(h4: ∀ s∈args,s.size≤bigN)(h5:params.length≤1048576)(h6: ∀ p∈params,p.ok)
  (h7:exprs.length≤2)(h8: ∀ e∈exprs,e.ok∧e.small)(h9:kids.length≤1048576)(h10: ∀ k∈kids,k.ok∧k.small):(Fm.mk op name args params exprs kids).ok∧(Fm.mk op name args params exprs kids).small:=by
 simp only[Fm.ok,Fm.small]
 rw[Fm.oks_iff,Ex.oks_iff,Ex.smalls_iff,Fm.smalls_iff]
 refine⟨⟨h1,h2,⟨by unfold bigN;omega,h4⟩,⟨by unfold bigN;omega,h6⟩,⟨by unfold bigN;omega,fun e he=>(h8 e he).1⟩,by unfold bigN;omega,fun k hk=>(h10 k hk).1⟩,h3,h5,fun e he=>(h8 e he).2,h9,fun k hk=>(h10 k hk).2⟩
theorem empty_size:(⟨#[]⟩:ByteArray).size≤bigN:=by simp[bigN,ByteArray.size]
theorem fin_ok{r:Fm × Int}(h:r.1.ok∧r.1.small):(fin r).1.ok∧(fin r).1.small:=by
 unfold fin
 cases r.2==0 with
 |true=>exact h
 |false=>exact zeroFm_ok
theorem compareP_ok{w:ByteArray}{x y:Sx}(hw:w.size≤bigN)(hx:x.ok)(hy:y.ok)(sx:x.small)(sy:y.small):(compareP w x y).1.ok∧(compareP w x y).1.small:=by
 have ex:=exprP_ok x hx sx
 have ey:=exprP_ok y hy sy
 unfold compareP
 cases(bEq w opEq&&kindOf x==1&&kindOf y==1)with
 |true=>
  have ht:=termsM_ok (l:=[x,y]) (by simp[hx,hy])
  simp only[List.length_cons,List.length_nil]at ht
  exact fm_mk_ok (by simp[opSame,bigN,ByteArray.size]) empty_size (by omega) ht.1 (by simp) (by simp) (by simp) (by simp) (by simp) (by simp)
 |false=>
  simp only[cond_false]
  cases(exprP x).2==0 with
  |false=>exact zeroFm_ok
  |true=>
   cases(exprP y).2==0 with
   |false=>exact zeroFm_ok
   |true=>
    simp only[cond_true]
    have h2: ∀ a b:Ex,(a.ok∧a.small)→(b.ok∧b.small)→ ∀ o:ByteArray,o.size≤bigN→(Fm.mk o ⟨#[]⟩ [] [] [a,b] []).ok∧(Fm.mk o ⟨#[]⟩ [] [] [a,b] []).small:=fun a b ha hb o ho=>
     fm_mk_ok ho empty_size (by simp) (by simp) (by simp) (by simp) (by simp) (by simp only[List.mem_cons,List.not_mem_nil,or_false];rintro e (rfl|rfl);exact ha;exact hb) (by simp) (by simp)
    split
    ·exact h2 _ _ ey ex _ (by simp[opLt,bigN,ByteArray.size])
    ·split
     ·exact h2 _ _ ey ex _ (by simp[opLe,bigN,ByteArray.size])
     ·exact h2 _ _ ex ey _ hw
theorem fmPs_ok: ∀ (l:List Sx),(∀ k∈l,(fmP k).1.ok∧(fmP k).1.small)→(∀ f∈(fmPs l).1,f.ok∧f.small)∧(fmPs l).1.length≤l.length
 |[],_=>by simp[fmPs]
 |x::l,h=>by
  have h1:=fmPs_ok l fun k hk=>h k (by simp[hk])
  have h2:=h x (by simp)
  simp only[fmPs]
  generalize fmP x=r at h2
  obtain⟨f,c⟩:=r
  simp only at h2⊢
  cases c==0 with
  |false=>simp
  |true=>
   simp only[cond_true]
   generalize fmPs l=r at h1
   obtain⟨fs,c'⟩:=r
   simp only at h1⊢
   cases c'==0 with
   |false=>simp
   |true=>
    simp only[cond_true,List.mem_cons,List.length_cons]
    exact⟨fun g hg=>hg.elim (fun e=>by rw[e];exact h2) (h1.1 g),by omega⟩
theorem fmP_ok: ∀ x:Sx,x.ok→x.small→(fmP x).1.ok∧(fmP x).1.small:=by
 refine Sx.ind ?_
 intro kind value line col text kids ih hok hsm
 simp only[Sx.ok]at hok
 obtain⟨_,_,_,hkl,hks⟩:=hok
 clear hkl
 rw[Sx.oks_iff]at hks
 simp only[Sx.small]at hsm
 obtain⟨hl,hss⟩:=hsm
 rw[Sx.smalls_iff]at hss
 have sub: ∀ l:List Sx,(∀ k∈l,k∈kids)→(∀ f∈(fmPs l).1,f.ok∧f.small)∧(fmPs l).1.length≤l.length:=fun l h=>fmPs_ok l fun k hk=>ih k (h k hk) (hks k (h k hk)) (hss k (h k hk))
 unfold fmP
 split
 ·cases kids with
  |nil=>exact fm_mk_ok (by simp[opAnd,bigN,ByteArray.size]) empty_size (by simp) (by simp) (by simp) (by simp) (by simp) (by simp) (by simp) (by simp)
  |cons x rest=>
   simp only
   have hxt:=textOf_ok (hks x (by simp))
   simp only[List.length_cons]at hl
   cases kindOf x==1 with
   |false=>exact zeroFm_ok
   |true=>
    simp only[cond_true]
    cases(decide (countW (textOf x)≥0)&&!(decide (countW (textOf x)=rest.length)))with
    |true=>exact zeroFm_ok
    |false=>
     simp only[cond_false]
     cases isQ (textOf x)with
     |true=>
      simp only[cond_true]
      cases rest with
      |nil=>exact zeroFm_ok
      |cons p body=>
       simp only
       cases kindOf p==3 with
       |false=>exact zeroFm_ok
       |true=>
        simp only[cond_true]
        have hpo:=hks p (by simp)
        have hps:=hss p (by simp)
        have hb:=sub body fun k hk=>by simp[hk]
        simp only[List.length_cons]at hl
        have hpp:(∀ q∈(paramsP true (kidsOf p)).1,q.ok)∧(paramsP true (kidsOf p)).1.length≤1048576:=by
         obtain⟨_,_,_,_,_,pk⟩:=p
         simp only[Sx.ok]at hpo
         simp only[Sx.small]at hps
         have:=paramsL_ok true pk.length pk (Nat.le_refl _) (Sx.oks_iff.1 hpo.2.2.2.2) [] [] (by simp) (by simp)
         simp only[List.length_nil]at this
         exact⟨this.1,by have:=this.2;simp only[paramsP,kidsOf];omega⟩
        cases(paramsP true (kidsOf p)).2==0 with
        |false=>exact zeroFm_ok
        |true=>
         simp only[cond_true]
         generalize fmPs body=r at hb
         obtain⟨ks,c⟩:=r
         simp only at hb⊢
         cases c==0 with
         |false=>exact zeroFm_ok
         |true=>exact fm_mk_ok hxt empty_size (by simp) (by simp) hpp.2 hpp.1 (by simp) (by simp) (by omega) hb.1
     |false=>
      simp only[cond_false]
      cases isLst (textOf x)with
      |true=>
       simp only[cond_true]
       have hb:=sub rest fun k hk=>by simp[hk]
       generalize fmPs rest=r at hb
       obtain⟨ks,c⟩:=r
       simp only at hb⊢
       cases c==0 with
       |false=>exact zeroFm_ok
       |true=>exact fm_mk_ok hxt empty_size (by simp) (by simp) (by simp) (by simp) (by simp) (by simp) (by omega) hb.1
      |false=>
       simp only[cond_false]
       cases isCmp5 (textOf x)with
       |true=>
        simp only[cond_true]
        split
        ·rename_i a b
         exact fin_ok (compareP_ok hxt (hks a (by simp)) (hks b (by simp)) (hss a (by simp)) (hss b (by simp)))
        ·exact zeroFm_ok
       |false=>
        simp only[cond_false]
        cases nameB (textOf x)with
        |false=>exact zeroFm_ok
        |true=>
         have ht:=termsM_ok (l:=rest) fun y hy=>hks y (by simp[hy])
         simp only[cond_true]
         cases(termsM rest).2==0 with
         |false=>exact zeroFm_ok
         |true=>exact fm_mk_ok (by simp[opAtom,bigN,ByteArray.size]) hxt (by omega) ht.1 (by simp) (by simp) (by simp) (by simp) (by simp) (by simp)
 ·exact zeroFm_ok
def parseF(x:Sx):Fm × Int:=
 if(svalid x 0 0).1=true then(if(fmP x).2=0 then(if validF (fmP x).1=true then((fmP x).1,0)else(zeroFm,5))else(zeroFm,(fmP x).2))else(zeroFm,2)
theorem parseF_ok{x:Sx}(hok:x.ok):(parseF x).1.ok∧(parseF x).1.small:=by
 unfold parseF
 split
 ·rename_i h
  split
  ·split
   ·exact fmP_ok x hok (svalid_small h)
   ·exact zeroFm_ok
  ·exact zeroFm_ok
 ·exact zeroFm_ok
end Go.Proofs.Ytjeolbgpllbemaa
namespace Go.Proofs.Ytjeolbgpllbemaa
open Go.AM
def opDef:ByteArray:=⟨#[100,101,102,105,110,101]⟩
def opPrb:ByteArray:=⟨#[112,114,111,98,108,101,109]⟩
def opDom:ByteArray:=⟨#[58,100,111,109,97,105,110]⟩
def opObjs:ByteArray:=⟨#[58,111,98,106,101,99,116,115]⟩
def opInit:ByteArray:=⟨#[58,105,110,105,116]⟩
def opGoal:ByteArray:=⟨#[58,103,111,97,108]⟩
def atW(a:At):Sx:=wordsM a.name a.args
def numM(n:Int):Sx:= .mk 2 n 0 0 ⟨#[]⟩ []
def vlW(v:Vl):Sx:=listM [wordM opEq,atW v.at_,numM v.n]
def objsS(l:List Pm):Sx:=listM (wordM opObjs::paramsW l)
def initS(a:List At)(v:List Vl):Sx:=listM (wordM opInit::(a.map atW++v.map vlW))
def goalS(g:Fm):Sx:=listM [wordM opGoal,fmW g]
def goalE(g:Fm):Bool:=match g with
 | .mk op _ _ _ _ kids=>bEq op opAnd&&kids.isEmpty
def objsW(l:List Pm):List Sx:=if l.isEmpty then[]else[objsS l]
def initW(a:List At)(v:List Vl):List Sx:=if a.isEmpty&&v.isEmpty then[]else[initS a v]
def goalW(g:Fm):List Sx:=if goalE g then[]else[goalS g]
def nameS(w s:ByteArray):Sx:=listM [wordM w,wordM s]
def pbW(p:Pb):Sx:=listM ([wordM opDef,nameS opPrb p.name,nameS opDom p.domain]++(objsW p.objects++(initW p.init p.values++goalW p.goal)))
def writeB(p:Pb):Bool:=validF p.goal&&expressB p&&(svalid (pbW p) 0 0).1
def valOf:Sx→Int
 | .mk _ v _ _ _ _=>v
def namedP(x:Sx)(want:ByteArray):ByteArray × Int:=match headM x with
 |some (w,rest)=>bif bEq w want then(match rest with
  |[r]=>bif kindOf r==1 then(bif nameB (textOf r)then(textOf r,0)else(⟨#[]⟩,8))else(⟨#[]⟩,2)
  |_=>(⟨#[]⟩,2))else(⟨#[]⟩,2)
 |none=>(⟨#[]⟩,2)
def namesM:List Sx→List ByteArray × Int
 |[]=>([],0)
 |x::l=>bif kindOf x==1 then(bif nameB (textOf x)then(match namesM l with
  |(t,c)=>bif c==0 then(textOf x::t,0)else([],c))else([],8))else([],2)
def zeroAt:At:=⟨⟨#[]⟩,[]⟩
def atomP(w:ByteArray)(rest:List Sx):At × Int:=
 bif nameB w then(bif (namesM rest).2==0 then(⟨w,(namesM rest).1⟩,0)else(zeroAt,(namesM rest).2))else(zeroAt,8)
def elemP(a:List At)(v:List Vl)(x:Sx):List At × List Vl × Int:=match headM x with
 |none=>(a,v,2)
 |some (w,rest)=>bif bEq w opEq then(match rest with
   |[f,n]=>bif kindOf n==2 then(match headM f with
    |none=>(a,v,2)
    |some (name,args)=>bif (atomP name args).2==0 then(a,v++[⟨(atomP name args).1,valOf n⟩],0)else(a,v,(atomP name args).2))else(a,v,2)
   |_=>(a,v,2))
  else bif (atomP w rest).2==0 then(a++[(atomP w rest).1],v,0)else(a,v,(atomP w rest).2)
def elemsP:List At→List Vl→List Sx→List At × List Vl × Int
 |a,v,[]=>(a,v,0)
 |a,v,x::l=>match elemP a v x with
  |(a',v',c)=>bif c==0 then elemsP a' v' l else(a',v',c)
def zeroPb:Pb:=⟨⟨#[]⟩,⟨#[]⟩,[],[],[],zeroFm⟩
def andFm:Fm:= .mk opAnd ⟨#[]⟩ [] [] [] []
def sectP(p:Pb)(w:ByteArray)(rest:List Sx):Pb × Int:=
 bif bEq w opObjs then(⟨p.name,p.domain,(paramsP false rest).1,p.init,p.values,p.goal⟩,(paramsP false rest).2)
 else bif bEq w opInit then(⟨p.name,p.domain,p.objects,(elemsP p.init p.values rest).1,(elemsP p.init p.values rest).2.1,p.goal⟩,(elemsP p.init p.values rest).2.2)
 else(match rest with
  |[g]=>(⟨p.name,p.domain,p.objects,p.init,p.values,(parseF g).1⟩,(parseF g).2)
  |_=>(p,2))
def afterB:List ByteArray→ByteArray→Option (List ByteArray)
 |[],_=>none
 |o::l,w=>bif bEq o w then some l else afterB l w
def sectsP:List ByteArray→Pb→List Sx→Pb × Int
 |_,p,[]=>(p,0)
 |o,p,s::l=>match headM s with
  |none=>(p,2)
  |some (w,rest)=>match afterB o w with
   |none=>(p,2)
   |some o'=>bif (sectP p w rest).2==0 then sectsP o' (sectP p w rest).1 l else sectP p w rest
def pbOrder:List ByteArray:=[opObjs,opInit,opGoal]
def pb0(n d:ByteArray):Pb:=⟨n,d,[],[],[],andFm⟩
def pbP(x:Sx):Pb × Int:=match headM x with
 |none=>(pb0 ⟨#[]⟩ ⟨#[]⟩,2)
 |some (w,rest)=>bif bEq w opDef then(match rest with
  |[]=>(pb0 ⟨#[]⟩ ⟨#[]⟩,2)
  |n::rest1=>bif (namedP n opPrb).2==0 then(match rest1 with
   |[]=>(pb0 (namedP n opPrb).1 ⟨#[]⟩,2)
   |d::rest2=>bif (namedP d opDom).2==0 then sectsP pbOrder (pb0 (namedP n opPrb).1 (namedP d opDom).1) rest2 else(pb0 (namedP n opPrb).1 ⟨#[]⟩,(namedP d opDom).2))
   else(pb0 ⟨#[]⟩ ⟨#[]⟩,(namedP n opPrb).2))
  else(pb0 ⟨#[]⟩ ⟨#[]⟩,2)
def parsePb(x:Sx):Pb × Int:=
 if(svalid x 0 0).1=true then(if(pbP x).2=0 then(if writeB (pbP x).1=true then((pbP x).1,0)else(zeroPb,5))else(zeroPb,(pbP x).2))else(zeroPb,2)
theorem parsePb_err{x:Sx}(h:((parsePb x).2==0)=false):(parsePb x).1=zeroPb:=by
 unfold parsePb at h⊢
 split
 ·rename_i h1
  rw[if_pos h1]at h
  split
  ·rename_i h2
   rw[if_pos h2]at h
   split
   ·rename_i h3
    rw[if_pos h3]at h
    simp at h
   ·rfl
  ·rfl
 ·rfl
theorem kW(s:ByteArray):kindOf (wordM s)=1:=rfl
theorem tW(s:ByteArray):textOf (wordM s)=s:=rfl
theorem headM_list{w:ByteArray}{l:List Sx}:headM (listM (wordM w::l))=some (w,l):=by
 simp[headM,listM,kW,tW]
end Go.Proofs.Ytjeolbgpllbemaa
namespace Go.Proofs.Ytjeolbgpllbemaa
open Go.AM
set_option maxHeartbeats 4000000
set_option maxRecDepth 20000
theorem phead_c{x:Sx}(hok:x.ok)(h:Heap):PCall Try.prog 42 [.agg x.cells] h fun r h'=>r=headV (headM x)∧h'=h:=by
 obtain⟨kind,value,line,col,text,kids⟩:=x
 simp only[Sx.ok]at hok
 obtain⟨_,_,_,hk,_⟩:=hok
 generalize hF:headM (.mk kind value line col text kids)=F
 simp only[headM]at hF
 simp only[Sx.cells]
 have hlen:=Sx.rows_len kids
 cases k3:(kind !=3)with
 |true=>
  rw[if_neg (by simpa using k3)]at hF
  subst hF
  refine pcall_body (ow:=fun _=>false) (wf:=fun _=>false) Ty.mixed Try.func42 rfl Ty.hb_42 (by rw[Try.ntmps42];simp) ?_
  rw[Try.ntmps42,Try.results42]
  repeat'(first|refine a_seq fun K hK=>?_|((first|refine a_regionS ?_|refine a_ret ?_);simp(maxSteps:=2000000) only[Ty.w,simprocAttr,k3])|(refine hK _ _ ?_;clear hK;try simp only[pst0,simprocAttr]))
  all_goals rfl
 |false=>
  rw[if_pos (by simpa using k3)]at hF
  cases kids with
  |nil=>
   simp only at hF
   subst hF
   have q:(((Sx.rows []).length:Int)==0)=true:=rfl
   generalize Sx.rows []=R at q hlen
   refine pcall_body (ow:=fun _=>false) (wf:=fun _=>false) Ty.mixed Try.func42 rfl Ty.hb_42 (by rw[Try.ntmps42];simp) ?_
   rw[Try.ntmps42,Try.results42]
   repeat'(first|refine a_seq fun K hK=>?_|((first|refine a_regionS ?_|refine a_ret ?_);simp(maxSteps:=2000000) only[Ty.w,simprocAttr,k3,q])|(refine hK _ _ ?_;clear hK;try simp only[pst0,simprocAttr]))
   all_goals rfl
  |cons y rest=>
   simp only at hF
   have q:(((Sx.rows (y::rest)).length:Int)==0)=false:=by rw[hlen];simp;omega
   have r0:=Sx.rows_get (l:=y::rest) (i:=0) rfl
   have q1:(1:Int)≤((Sx.rows (y::rest)).length:Int):=by rw[hlen];simp;omega
   have ht:List.take (((Sx.rows (y::rest)).length:Int)-1).toNat (List.drop 1 (Sx.rows (y::rest)))=Sx.rows rest:=by
    simp only[Sx.rows,List.drop_succ_cons,List.drop_zero,List.length_cons]
    rw[List.take_of_length_le (by omega)]
   generalize Sx.rows (y::rest)=R at q r0 q1 ht hlen⊢
   obtain⟨ki,va,li,co,te,ks⟩:=y
   simp only[Sx.cells,kindOf,textOf]at r0 hF
   cases k1:(ki !=1)with
   |true=>
    rw[show(ki==1)=false by simpa using k1]at hF
    simp only[cond_false]at hF
    subst hF
    refine pcall_body (ow:=fun _=>false) (wf:=fun _=>false) Ty.mixed Try.func42 rfl Ty.hb_42 (by rw[Try.ntmps42];simp) ?_
    rw[Try.ntmps42,Try.results42]
    repeat'(first|refine a_seq fun K hK=>?_|((first|refine a_regionS ?_|refine a_ret ?_);simp(maxSteps:=2000000) only[Ty.w,simprocAttr,k3,q,r0,k1])|(refine hK _ _ ?_;clear hK;try simp only[pst0,simprocAttr]))
    all_goals rfl
   |false=>
    rw[show(ki==1)=true by simpa using k1]at hF
    simp only[cond_true]at hF
    subst hF
    refine pcall_body (ow:=fun _=>false) (wf:=fun _=>false) Ty.mixed Try.func42 rfl Ty.hb_42 (by rw[Try.ntmps42];simp) ?_
    rw[Try.ntmps42,Try.results42]
    repeat'(first|refine a_seq fun K hK=>?_|((first|refine a_regionS ?_|refine a_drawS (by decide+kernel) ?_|refine a_ret ?_);simp(maxSteps:=2000000) only[Ty.w,simprocAttr,k3,q,r0,k1,q1,ht,Option.getD_some,Option.getD_none,Int.le_refl,Int.toNat_one])|(refine a_skip ?_;try simp only[pst0,simprocAttr])|(refine a_cond _ (by(try simp(maxSteps:=2000000) only[Ty.w,simprocAttr,k3,q,r0,k1,q1,ht,Option.getD_some,Option.getD_none,Int.le_refl,Int.toNat_one]);rfl) (fun hb=>?_) (fun hb=>?_)<;>(try simp only[hb0,decide_eq_true_eq,decide_eq_false_iff_not,simprocAttr]at hb)<;>(try(exfalso;omega)))|(refine hK _ _ ?_;clear hK;try simp only[pst0,simprocAttr]))
    all_goals rfl
theorem headM_ok2{x:Sx}(hok:x.ok){w:ByteArray}{l:List Sx}(h:headM x=some (w,l)):w.size≤bigN∧l.length≤bigN∧ ∀ y∈l,y.ok:=by
 obtain⟨kind,value,line,col,text,kids⟩:=x
 simp only[Sx.ok]at hok
 obtain⟨_,_,_,hk,hks⟩:=hok
 simp only[headM]at h
 split at h
 ·cases kids with
  |nil=>simp at h
  |cons y rest=>
   simp only at h
   rw[Sx.oks_iff]at hks
   cases hh:kindOf y==1 with
   |false=>rw[hh]at h;simp at h
   |true=>
    rw[hh]at h
    simp only[cond_true,Option.some.injEq,Prod.mk.injEq]at h
    obtain⟨rfl,rfl⟩:=h
    have hy:=hks y (by simp)
    refine⟨?_,by simp at hk;omega,fun z hz=>hks z (by simp[hz])⟩
    obtain⟨ki,va,li,co,te,ks⟩:=y
    simp only[Sx.ok]at hy
    exact hy.2.2.1
 ·simp at h
theorem pnamed_c{x:Sx}{want:ByteArray}(hok:x.ok)(h:Heap):PCall Try.prog 43 [.agg x.cells,sPV want] h fun r h'=>r= .tup [sPV (namedP x want).1,errP (namedP x want).2]∧h'=h:=by
 have hc:=phead_c hok
 generalize hF:namedP x want=F
 unfold namedP at hF
 have ho:=fun w l=>headM_ok2 hok (w:=w) (l:=l)
 obtain⟨kind,value,line,col,text,kids⟩:=x
 simp only[Sx.cells]at hc⊢
 generalize headM (.mk kind value line col text kids)=D at hF hc ho
 have e2:errP 2=errV 2:=rfl
 have e8:errP 8=errV 8:=rfl
 have e0:errP 0= .sc .nilIface:=rfl
 cases D with
 |none=>
  simp only at hF
  subst hF
  simp only[headV]at hc
  refine pcall_body (ow:=fun _=>false) (wf:=fun _=>false) Ty.mixed Try.func43 rfl Ty.hb_43 (by rw[Try.ntmps43];simp) ?_
  rw[Try.ntmps43,Try.results43]
  repeat'(first|refine a_seq fun K hK=>?_|(refine a_regionS ?_;simp(maxSteps:=2000000) only[Ty.w,simprocAttr])|(refine hK _ _ ?_;clear hK;try simp only[pst0,simprocAttr]))
  refine owp_useQ (hc _) (by(try simp only[Ty.w,simprocAttr,]);try rfl) ?_;simp(maxSteps:=2000000) only[Ty.w,simprocAttr,]
  repeat'(first|refine a_seq fun K hK=>?_|((first|refine a_regionS ?_|refine a_ret ?_);simp(maxSteps:=2000000) only[Ty.w,simprocAttr,Bool.not_false])|(refine hK _ _ ?_;clear hK;try simp only[pst0,simprocAttr]))
  all_goals rfl
 |some wr=>
  obtain⟨w,rest⟩:=wr
  obtain⟨o1,o2,o3⟩:=ho w rest rfl
  simp only[headV]at hc
  simp only at hF
  have hl:=Sx.rows_len rest
  cases q1:(w.data.toList==want.data.toList)with
  |false=>
   rw[show bEq w want=false from q1]at hF
   simp only[cond_false]at hF
   subst hF
   refine pcall_body (ow:=fun _=>false) (wf:=fun _=>false) Ty.mixed Try.func43 rfl Ty.hb_43 (by rw[Try.ntmps43];simp) ?_
   rw[Try.ntmps43,Try.results43]
   repeat'(first|refine a_seq fun K hK=>?_|(refine a_regionS ?_;simp(maxSteps:=2000000) only[Ty.w,simprocAttr])|(refine hK _ _ ?_;clear hK;try simp only[pst0,simprocAttr]))
   refine owp_useQ (hc _) (by(try simp only[Ty.w,simprocAttr,]);try rfl) ?_;simp(maxSteps:=2000000) only[Ty.w,simprocAttr,]
   repeat'(first|refine a_seq fun K hK=>?_|((first|refine a_regionS ?_|refine a_ret ?_);simp(maxSteps:=2000000) only[Ty.w,simprocAttr,Bool.not_true,Bool.not_false,q1])|(refine hK _ _ ?_;clear hK;try simp only[pst0,simprocAttr]))
   all_goals rfl
  |true=>
   rw[show bEq w want=true from q1]at hF
   simp only[cond_true]at hF
   cases q2:((rest.length:Int) !=1)with
   |true=>
    have e:F=(⟨#[]⟩,2):=by
     rw[← hF]
     match rest,q2 with
     |[],_=>rfl
     |[a],q=>simp at q
     |_::_::_,_=>rfl
    subst e
    refine pcall_body (ow:=fun _=>false) (wf:=fun _=>false) Ty.mixed Try.func43 rfl Ty.hb_43 (by rw[Try.ntmps43];simp) ?_
    rw[Try.ntmps43,Try.results43]
    repeat'(first|refine a_seq fun K hK=>?_|(refine a_regionS ?_;simp(maxSteps:=2000000) only[Ty.w,simprocAttr])|(refine hK _ _ ?_;clear hK;try simp only[pst0,simprocAttr]))
    refine owp_useQ (hc _) (by(try simp only[Ty.w,simprocAttr,]);try rfl) ?_;simp(maxSteps:=2000000) only[Ty.w,simprocAttr,]
    repeat'(first|refine a_seq fun K hK=>?_|((first|refine a_regionS ?_|refine a_ret ?_);simp(maxSteps:=2000000) only[Ty.w,simprocAttr,Bool.not_true,Bool.not_false,q1,q2,hl])|(refine hK _ _ ?_;clear hK;try simp only[pst0,simprocAttr]))
    all_goals rfl
   |false=>
    obtain⟨r,rfl⟩: ∃ r,rest=[r]:=by
     match rest,q2 with
     |[],q=>simp at q
     |[a],_=>exact⟨a,rfl⟩
     |_::_::l,q=>simp at q;omega
    have hr:=Sx.rows_get (l:=[r]) (i:=0) rfl
    have hro:=o3 r (by simp)
    simp only[List.length_cons,List.length_nil,Nat.zero_add]at hl q2
    clear o1 o2 o3 ho
    simp only at hF
    generalize Sx.rows [r]=R at hc hl hr
    obtain⟨ki,va,li,co,te,ks⟩:=r
    simp only[Sx.ok]at hro
    simp only[Sx.cells,kindOf,textOf]at hr hF
    have hte:te.size≤9223372036854775807:=by have:=hro.2.2.1;unfold bigN at this;omega
    have hn:=fun h:Heap=>fname_c (h:=h) hte
    cases q3:(ki !=1)with
    |true=>
     rw[show(ki==1)=false by simpa using q3]at hF
     simp only[cond_false]at hF
     subst hF
     refine pcall_body (ow:=fun _=>false) (wf:=fun _=>false) Ty.mixed Try.func43 rfl Ty.hb_43 (by rw[Try.ntmps43];simp) ?_
     rw[Try.ntmps43,Try.results43]
     repeat'(first|refine a_seq fun K hK=>?_|(refine a_regionS ?_;simp(maxSteps:=2000000) only[Ty.w,simprocAttr])|(refine hK _ _ ?_;clear hK;try simp only[pst0,simprocAttr]))
     refine owp_useQ (hc _) (by(try simp only[Ty.w,simprocAttr,]);try rfl) ?_;simp(maxSteps:=2000000) only[Ty.w,simprocAttr,]
     repeat'(first|refine a_seq fun K hK=>?_|((first|refine a_regionS ?_|refine a_ret ?_);simp(maxSteps:=2000000) only[Ty.w,simprocAttr,Bool.not_true,Bool.not_false,q1,q2,q3,hl,hr])|(refine hK _ _ ?_;clear hK;try simp only[pst0,simprocAttr]))
     all_goals rfl
    |false=>
     rw[show(ki==1)=true by simpa using q3]at hF
     simp only[cond_true]at hF
     generalize nameB te=b at hF hn
     cases b with
     |false=>
      simp only[cond_false]at hF
      subst hF
      refine pcall_body (ow:=fun _=>false) (wf:=fun _=>false) Ty.mixed Try.func43 rfl Ty.hb_43 (by rw[Try.ntmps43];simp) ?_
      rw[Try.ntmps43,Try.results43]
      repeat'(first|refine a_seq fun K hK=>?_|(refine a_regionS ?_;simp(maxSteps:=2000000) only[Ty.w,simprocAttr])|(refine hK _ _ ?_;clear hK;try simp only[pst0,simprocAttr]))
      refine owp_useQ (hc _) (by(try simp only[Ty.w,simprocAttr,]);try rfl) ?_;simp(maxSteps:=2000000) only[Ty.w,simprocAttr,]
      repeat'(first|refine a_seq fun K hK=>?_|(refine a_regionS ?_;simp(maxSteps:=2000000) only[Ty.w,simprocAttr,Bool.not_true,Bool.not_false,q1,q2,q3,hl,hr])|(refine a_skip ?_;try simp only[pst0,simprocAttr])|(refine a_cond _ (by(try simp(maxSteps:=2000000) only[Ty.w,simprocAttr,Bool.not_true,Bool.not_false,q1,q2,q3,hl,hr]);rfl) (fun hb=>?_) (fun hb=>?_)<;>(try simp only[hb0,decide_eq_true_eq,decide_eq_false_iff_not,simprocAttr]at hb)<;>(try(exfalso;omega)))|(refine hK _ _ ?_;clear hK;try simp only[pst0,simprocAttr]))
      refine owp_useQ (hn _) (by(try simp only[Ty.w,simprocAttr,hr,hl]);try rfl) ?_;simp(maxSteps:=2000000) only[Ty.w,simprocAttr,hr,hl]
      repeat'(first|refine a_seq fun K hK=>?_|((first|refine a_regionS ?_|refine a_ret ?_);simp(maxSteps:=2000000) only[Ty.w,simprocAttr,Bool.not_false])|(refine hK _ _ ?_;clear hK;try simp only[pst0,simprocAttr]))
      all_goals rfl
     |true=>
      simp only[cond_true]at hF
      subst hF
      refine pcall_body (ow:=fun _=>false) (wf:=fun _=>false) Ty.mixed Try.func43 rfl Ty.hb_43 (by rw[Try.ntmps43];simp) ?_
      rw[Try.ntmps43,Try.results43]
      repeat'(first|refine a_seq fun K hK=>?_|(refine a_regionS ?_;simp(maxSteps:=2000000) only[Ty.w,simprocAttr])|(refine hK _ _ ?_;clear hK;try simp only[pst0,simprocAttr]))
      refine owp_useQ (hc _) (by(try simp only[Ty.w,simprocAttr,]);try rfl) ?_;simp(maxSteps:=2000000) only[Ty.w,simprocAttr,]
      repeat'(first|refine a_seq fun K hK=>?_|(refine a_regionS ?_;simp(maxSteps:=2000000) only[Ty.w,simprocAttr,Bool.not_true,Bool.not_false,q1,q2,q3,hl,hr])|(refine a_skip ?_;try simp only[pst0,simprocAttr])|(refine a_cond _ (by(try simp(maxSteps:=2000000) only[Ty.w,simprocAttr,Bool.not_true,Bool.not_false,q1,q2,q3,hl,hr]);rfl) (fun hb=>?_) (fun hb=>?_)<;>(try simp only[hb0,decide_eq_true_eq,decide_eq_false_iff_not,simprocAttr]at hb)<;>(try(exfalso;omega)))|(refine hK _ _ ?_;clear hK;try simp only[pst0,simprocAttr]))
      refine owp_useQ (hn _) (by(try simp only[Ty.w,simprocAttr,hr,hl]);try rfl) ?_;simp(maxSteps:=2000000) only[Ty.w,simprocAttr,hr,hl]
      repeat'(first|refine a_seq fun K hK=>?_|((first|refine a_regionS ?_|refine a_ret ?_);simp(maxSteps:=2000000) only[Ty.w,simprocAttr,Bool.not_true,hr,hl])|(refine a_skip ?_;try simp only[pst0,simprocAttr])|(refine a_cond _ (by(try simp(maxSteps:=2000000) only[Ty.w,simprocAttr,Bool.not_true,hr,hl]);rfl) (fun hb=>?_) (fun hb=>?_)<;>(try simp only[hb0,decide_eq_true_eq,decide_eq_false_iff_not,simprocAttr]at hb)<;>(try(exfalso;omega)))|(refine hK _ _ ?_;clear hK;try simp only[pst0,simprocAttr]))
      all_goals rfl
theorem namesM_code: ∀ l:List Sx,(namesM l).2=0∨((namesM l).1=[]∧((namesM l).2=2∨(namesM l).2=8))
 |[]=> .inl rfl
 |x::l=>by
  have:=namesM_code l
  simp only[namesM]
  cases kindOf x==1 with
  |false=>simp
  |true=>
   cases nameB (textOf x)with
   |false=>simp
   |true=>
    simp only[cond_true]
    cases hq:(namesM l).2==0 with
    |false=>
     rcases this with h|h
     ·rw [h]at hq;simp at hq
     ·simp only[cond_false,true_and];exact .inr h.2
    |true=>simp
theorem sx_frz'(n:Nat)(h:Heap)(ki va li co:Int)(te:ByteArray)(ks:List Sx):FrzL n h [.sc (.int .i64 ki),.sc (.int .i64 va),.sc (.int .i64 li),.sc (.int .i64 co),sPV te,.imm 6 (Sx.rows ks)] [.sc (.int .i64 ki),.sc (.int .i64 va),.sc (.int .i64 li),.sc (.int .i64 co),sPV te,.imm 6 (Sx.rows ks)]:=sx_frz n h (.mk ki va li co te ks)
abbrev atZ:List PV:=[.sc (.string ⟨#[]⟩),.sc (.slice none 0 0)]
theorem parseAtom_c{w:ByteArray}{l:List Sx}(hw:w.size≤bigN)(hl:l.length≤1048576)(hok: ∀ x∈l,x.ok)(h:Heap):PCall Try.prog 87 [sPV w,.imm 6 (Sx.rows l)] h fun r h'=>r= .tup [.agg (atRow (atomP w l).1),errP (atomP w l).2]∧h'=h:=by
 refine PCall.frz Ty.hb_87 ?_
 have hw':w.size≤9223372036854775807:=by unfold bigN at hw;omega
 have hll:=Sx.rows_len l
 have hn:=fun h:Heap=>fname_c (h:=h) hw'
 generalize hF:atomP w l=F
 unfold atomP at hF
 have bad: ∀ (c:Int)(h':Heap),c=2∨c=8→F=(zeroAt,c)→FrzTo h.next h' (.tup [.agg (atRow F.1),errP F.2]) (.tup [.agg atZ,errV c]):=by
  intro c h' hc hf
  subst hf
  have e:errP c=errV c:=by rcases hc with rfl|rfl<;>rfl
  simp only[e]
  simp only[errV,zeroAt,atRow,strRows,List.map_nil,FrzTo,FrzL]
  exact⟨_,rfl,⟨_,rfl,rfl,.inr (.inl ⟨rfl,.inr rfl⟩),trivial⟩,rfl,trivial⟩
 simp only[errV]at bad
 cases q1:nameB w with
 |false=>
  rw[q1]at hF hn
  simp only[cond_false]at hF
  refine pcall_body (ow:=fun _=>false) (wf:=fun _=>false) Ty.mixed Try.func87 rfl Ty.hb_87 (by rw[Try.ntmps87];simp) ?_
  rw[Try.ntmps87,Try.results87]
  repeat'(first|refine a_seq fun K hK=>?_|(refine a_regionS ?_;simp(maxSteps:=2000000) only[Ty.w,simprocAttr])|(refine hK _ _ ?_;clear hK;try simp only[pst0,simprocAttr]))
  refine owp_useQ (hn _) (by(try simp only[Ty.w,simprocAttr,Bool.not_false]);try rfl) ?_;simp(maxSteps:=2000000) only[Ty.w,simprocAttr,Bool.not_false]
  repeat'(first|refine a_seq fun K hK=>?_|((first|refine a_regionS ?_|refine a_ret ?_);simp(maxSteps:=2000000) only[Ty.w,simprocAttr,Bool.not_false])|(refine hK _ _ ?_;clear hK;try simp only[pst0,simprocAttr]))
  exact⟨bad 8 _ (.inr rfl) hF.symm,((Grow.refl h).new _).set (Nat.le_refl _) _⟩
 |true=>
  rw[q1]at hF hn
  simp only[cond_true]at hF
  refine pcall_body (ow:=fun _=>false) (wf:=fun _=>false) Ty.mixed Try.func87 rfl Ty.hb_87 (by rw[Try.ntmps87];simp) ?_
  rw[Try.ntmps87,Try.results87]
  repeat'(first|refine a_seq fun K hK=>?_|(refine a_regionS ?_;simp(maxSteps:=2000000) only[Ty.w,simprocAttr])|(refine hK _ _ ?_;clear hK;try simp only[pst0,simprocAttr]))
  refine owp_useQ (hn _) (by(try simp only[Ty.w,simprocAttr,Bool.not_true]);try rfl) ?_;simp(maxSteps:=2000000) only[Ty.w,simprocAttr,Bool.not_true]
  repeat'(first|(with_reducible refine a_hold 4 ?_)|refine a_seq fun K hK=>?_|(refine a_regionS ?_;simp(maxSteps:=2000000) only[Ty.w,simprocAttr,Bool.not_true])|(refine a_skip ?_;try simp only[pst0,simprocAttr])|(refine a_cond _ (by(try simp(maxSteps:=2000000) only[Ty.w,simprocAttr,Bool.not_true]);rfl) (fun hb=>?_) (fun hb=>?_)<;>(try simp only[hb0,decide_eq_true_eq,decide_eq_false_iff_not,simprocAttr]at hb)<;>(try(exfalso;omega)))|(refine hK _ _ ?_;clear hK;try simp only[pst0,simprocAttr]))
  refine⟨?_⟩
  refine a_heap (GrI h h.next (h.next+1) (h.next+2) 2 2 1 atZ [sPV w] [] []) ?_ (fun H0 hI=>?_)
  ·exact GrI.mk2 (p:= .sc (.slice none 0 0)) ((((Grow.refl h).new _).new _).set (by simp[Heap.new]) _) (by simp[Heap.new,Heap.set]) (by simp[Heap.new,Heap.set]) (by simp[Heap.new,Heap.set]) Tl.nil
  repeat'(first|refine a_seq fun K hK=>?_|(refine a_block ?_)|(refine a_regionS ?_;simp(maxSteps:=2000000) only[Ty.w,simprocAttr,hll])|(refine hK _ _ ?_;clear hK;try simp only[pst0,simprocAttr]))
  refine a_loop (fun m S h'=>S 4= .ptr h.next 0 0∧S 6= .ptr (h.next+1) 0 0∧S 16= .imm 6 (Sx.rows l)∧S 17= .sc (.int .i64 l.length)∧ ∃ (k:Nat)(pre:List ByteArray),S 18= .sc (.int .i64 k)∧k≤l.length∧m=l.length-k∧pre.length=k∧GrI h h.next (h.next+1) (h.next+2) 2 2 1 atZ [sPV w] [] (strRows pre) h'∧
   F=(match namesM (l.drop k)with|(t,c)=>bif c==0 then(⟨w,pre++t⟩,0)else(zeroAt,c))) l.length ?_ ?_
  ·simp only[Ty.w,simprocAttr]
   refine⟨0,[],rfl,by omega,rfl,rfl,hI,?_⟩
   rw[List.drop_zero, ← hF]
   try rfl
  ·clear hI hF
   rintro m S h' ⟨g4,g6,g16,g17,k,pre,g18,hk,rfl,hpl,hI,hinv⟩
   by_cases hlt:k<l.length
   ·have hd:decide ((k:Int)<(l.length:Int))=true:=by simp;omega
    have w7:IntKind.i64.wrap ((k:Int)+1)=k+1:=by rw[wrap64 (by omega) (by omega)]
    obtain⟨x,hx⟩: ∃ x,l[k]? =some x:=⟨_,List.getElem?_eq_getElem hlt⟩
    have hr:=Sx.rows_get hx
    have hxk:=hok x (List.mem_of_getElem? hx)
    rw[drop_of_get hx]at hinv
    simp only[namesM]at hinv
    obtain⟨ki,va,li,co,te,ks⟩:=x
    simp only[Sx.ok]at hxk
    have hte:te.size≤9223372036854775807:=by have:=hxk.2.2.1;unfold bigN at this;omega
    clear hxk
    simp only[Sx.cells]at hr
    simp only[kindOf,textOf]at hinv
    repeat'(first|(with_reducible refine a_hold 7 ?_)|refine a_seq fun K hK=>?_|(refine a_regionS ?_;simp(maxSteps:=2000000) only[Ty.w,simprocAttr,g4,g6,g16,g17,g18,hd,hr])|(refine a_skip ?_;try simp only[pst0,simprocAttr])|(refine a_cond _ (by(try simp(maxSteps:=2000000) only[Ty.w,simprocAttr,g4,g6,g16,g17,g18,hd,hr]);rfl) (fun hb=>?_) (fun hb=>?_)<;>(try simp only[hb0,decide_eq_true_eq,decide_eq_false_iff_not,simprocAttr]at hb)<;>(try(exfalso;omega)))|(refine hK _ _ ?_;clear hK;try simp only[pst0,simprocAttr]))
    refine⟨?_⟩
    refine a_tmp 8 rfl (by simp only[Ty.w,simprocAttr]) (sx_frz' · · ki va li co te ks) ?_
    refine a_gen (fun S H=>S 4= .ptr h.next 0 0∧S 6= .ptr (h.next+1) 0 0∧S 16= .imm 6 (Sx.rows l)∧S 17= .sc (.int .i64 l.length)∧S 18= .sc (.int .i64 k)∧S 8= .cptr [.sc (.int .i64 ki),.sc (.int .i64 va),.sc (.int .i64 li),.sc (.int .i64 co),sPV te,.imm 6 (Sx.rows ks)]∧GrI h h.next (h.next+1) (h.next+2) 2 2 1 atZ [sPV w] [] (strRows pre) H) ⟨by simp only[Ty.w,simprocAttr,g4],by simp only[Ty.w,simprocAttr,g6],by simp only[Ty.w,simprocAttr,g16],by simp only[Ty.w,simprocAttr,g17],by simp only[Ty.w,simprocAttr,g18],by simp only[Ty.w,simprocAttr],hI.tmp _ _⟩ ?_
    clear hI g4 g6 g16 g17 g18 hr hd
    rintro S h' ⟨g4,g6,g16,g17,g18,g8,hI⟩
    obtain⟨hg,ids,o1,p,H,o2,tl,t1,t2,t3,t4,hgH,hpc,hp1⟩:=hI
    simp only[List.cons_append,List.nil_append]at o2
    cases q2:(ki !=1)with
    |true=>
     rw[show(ki==1)=false by simpa using q2]at hinv
     simp only[cond_false]at hinv
     repeat'(first|refine a_seq fun K hK=>?_|((first|refine a_regionS ?_|refine a_ret ?_);simp(maxSteps:=2000000) only[Ty.w,simprocAttr,g4,g6,g8,g16,g17,g18,q2,o1])|(refine hK _ _ ?_;clear hK;try simp only[pst0,simprocAttr]))
     exact⟨bad 2 _ (.inl rfl) hinv,hg.set (Nat.le_refl _) _⟩
    |false=>
     rw[show(ki==1)=true by simpa using q2]at hinv
     simp only[cond_true]at hinv
     have hc:=fun h:Heap=>fname_c (h:=h) hte
     generalize nameB te=b at hc hinv
     cases b with
     |false=>
      simp only[cond_false]at hinv
      repeat'(first|refine a_seq fun K hK=>?_|(refine a_regionS ?_;simp(maxSteps:=2000000) only[Ty.w,simprocAttr,g4,g6,g8,g16,g17,g18,q2])|(refine a_skip ?_;try simp only[pst0,simprocAttr])|(refine a_cond _ (by(try simp(maxSteps:=2000000) only[Ty.w,simprocAttr,g4,g6,g8,g16,g17,g18,q2]);rfl) (fun hb=>?_) (fun hb=>?_)<;>(try simp only[hb0,decide_eq_true_eq,decide_eq_false_iff_not,simprocAttr]at hb)<;>(try(exfalso;omega)))|(refine hK _ _ ?_;clear hK;try simp only[pst0,simprocAttr]))
      refine owp_useQ (hc _) (by(try simp only[Ty.w,simprocAttr,g4,g6,g8,g16,g17,g18,Bool.not_false]);try rfl) ?_;simp(maxSteps:=2000000) only[Ty.w,simprocAttr,g4,g6,g8,g16,g17,g18,Bool.not_false]
      repeat'(first|refine a_seq fun K hK=>?_|((first|refine a_regionS ?_|refine a_ret ?_);simp(maxSteps:=2000000) only[Ty.w,simprocAttr,g4,g6,g8,g16,g17,g18,Bool.not_false,o1])|(refine hK _ _ ?_;clear hK;try simp only[pst0,simprocAttr]))
      exact⟨bad 8 _ (.inr rfl) hinv,hg.set (Nat.le_refl _) _⟩
     |true=>
      simp only[cond_true]at hinv
      have hpr:(strRows pre).length=k:=by rw[strRows_len];exact hpl
      have hb:(k+1)*16≤140737488355328:=by omega
      have n2:(h.next+1=H.next)=False:=by simp;omega
      have n3:(h.next+1=h'.next)=False:=by simp;omega
      have o2H:H.obj (h.next+1)=_:=(t4 _ (by omega)).trans o2
      have hpush:=GrI.push (m:=k+1) (zo:=2) (zl:=1) (pre:=[sPV w]) (post:=[]) (R:=strRows pre) [sPV te] hgH ids o1 t3 t4 (by omega)
      have hap:strRows pre++[[sPV te]]=strRows (pre++[te]):=by simp[strRows]
      simp only[hap,List.cons_append,List.nil_append]at hpush
      have hap2:strRows pre++[[PV.sc (.string te)]]=strRows (pre++[te]):=hap
      have W:=And.intro g4 (And.intro g6 (And.intro g8 (And.intro g16 (And.intro g17 (And.intro g18 (And.intro o2 (And.intro o2H (And.intro n2 (And.intro n3 (And.intro t1 (And.intro t2 (And.intro t3 (And.intro hpr (And.intro hpc (And.intro hp1 (And.intro hb (And.intro hap2 w7)))))))))))))))))
      repeat'(first|refine a_seq fun K hK=>?_|(refine a_regionS ?_;simp(maxSteps:=2000000) only[Ty.w,simprocAttr,W,q2])|(refine a_skip ?_;try simp only[pst0,simprocAttr])|(refine a_cond _ (by(try simp(maxSteps:=2000000) only[Ty.w,simprocAttr,W,q2]);rfl) (fun hb=>?_) (fun hb=>?_)<;>(try simp only[hb0,decide_eq_true_eq,decide_eq_false_iff_not,simprocAttr]at hb)<;>(try(exfalso;omega)))|(refine hK _ _ ?_;clear hK;try simp only[pst0,simprocAttr]))
      refine owp_useQ (hc _) (by(try simp only[Ty.w,simprocAttr,W,Bool.not_true]);try rfl) ?_;simp(maxSteps:=2000000) only[Ty.w,simprocAttr,W,Bool.not_true]
      repeat'(first|((first|refine a_regionS ?_|refine a_region (fun K hK=>?_));simp(maxSteps:=2000000) only[Ty.w,simprocAttr,W,Bool.not_true])|(refine a_skip ?_;try simp only[pst0,simprocAttr])|(refine a_cond _ (by(try simp(maxSteps:=2000000) only[Ty.w,simprocAttr,W,Bool.not_true]);rfl) (fun hb=>?_) (fun hb=>?_)<;>(try simp only[hb0,decide_eq_true_eq,decide_eq_false_iff_not,simprocAttr]at hb)<;>(try(exfalso;omega)))|(refine hK _ _ ?_;clear hK;try simp only[pst0,simprocAttr])|(rw[if_pos];rotate_left 1;omega;simp(maxSteps:=2000000) only[Ty.w,simprocAttr,W,Bool.not_true]))
      refine⟨l.length-(k+1),by omega,k+1,pre++[te],by simp,by omega,rfl,by simp[hpl],hpush,?_⟩
      rw[hinv]
      generalize namesM (List.drop (k+1) l)=W
      obtain⟨t,c⟩:=W
      cases hq:c==0 with
      |false=>simp only[hq,cond_false]
      |true=>simp only[hq,cond_true,beq_self_eq_true,List.append_assoc,List.cons_append,List.nil_append]
   ·have hd:decide ((k:Int)<(l.length:Int))=false:=by simp;omega
    rw[List.drop_eq_nil_of_le (by omega)]at hinv
    simp only[namesM,beq_self_eq_true,cond_true,List.append_nil]at hinv
    subst hinv
    obtain⟨hg,ids,o1,p,H,o2,tl,t1,t2,t3,t4,hgH,hpc,hp1⟩:=hI
    simp only[List.cons_append,List.nil_append]at o2
    have n2:(h.next+1=h.next)=False:=by simp
    repeat'(first|refine a_seq fun K hK=>?_|((first|refine a_regionS ?_|refine a_ret ?_);simp(maxSteps:=2000000) only[Ty.w,simprocAttr,g4,g6,g16,g17,g18,hd,o1,o2,n2,hpc,hp1])|(refine a_exit ?_;try simp only[pst0,simprocAttr])|(refine a_cond _ (by(try simp(maxSteps:=2000000) only[Ty.w,simprocAttr,g4,g6,g16,g17,g18,hd,o1,o2,n2,hpc,hp1]);rfl) (fun hb=>?_) (fun hb=>?_)<;>(try simp only[hb0,decide_eq_true_eq,decide_eq_false_iff_not,simprocAttr]at hb)<;>(try(exfalso;omega)))|((first|refine hK _ _ ?_|(clear hK;refine hK _ _ ?_));clear hK;try simp only[pst0,simprocAttr]))
    refine⟨?_,hg.set (Nat.le_refl _) _⟩
    have tl2:Tl (h'.set h.next (.arr 2 [[sPV w,p]])) (h.next+2) 1 p (strRows pre):=tl.up (Nat.le_refl _) fun j hj _=>by simp only[Heap.set];rw[if_neg (by omega)]
    simp only[atRow,errP,beq_self_eq_true,cond_true,FrzTo,FrzL]
    exact⟨_,rfl,⟨_,rfl,rfl,by have:=tl_frzS (Tl.low tl2 (show h.next≤h.next+2 by omega));simpa only[FrzTo]using this,trivial⟩,rfl,trivial⟩
end Go.Proofs.Ytjeolbgpllbemaa
namespace Go.Proofs.Ytjeolbgpllbemaa
open Go.AM
set_option maxHeartbeats 8000000
set_option maxRecDepth 20000
def fmBody(w:ByteArray)(rest:List Sx):Fm × Int:=
 bif isQ w then(match rest with
  |[]=>(zeroFm,2)
  |p::body=>bif kindOf p==3 then(bif (paramsP true (kidsOf p)).2==0 then(match fmPs body with
    |(ks,c)=>bif c==0 then(.mk w ⟨#[]⟩ [] (paramsP true (kidsOf p)).1 [] ks,0)else(zeroFm,c))
   else(zeroFm,(paramsP true (kidsOf p)).2))else(zeroFm,2))
 else bif isLst w then(match fmPs rest with
  |(ks,c)=>bif c==0 then(.mk w ⟨#[]⟩ [] [] [] ks,0)else(zeroFm,c))
 else bif isCmp5 w then(match rest with
  |[a,b]=>fin (compareP w a b)
  |_=>(zeroFm,2))
 else bif nameB w then(bif (termsM rest).2==0 then(.mk opAtom w (termsM rest).1 [] [] [],0)else(zeroFm,(termsM rest).2))
 else(zeroFm,8)
theorem fmP_head(x:Sx):fmP x=(bif kindOf x==3&&(kidsOf x).isEmpty then(.mk opAnd ⟨#[]⟩ [] [] [] [],0)else(match headM x with
  |none=>(zeroFm,2)
  |some (w,rest)=>bif decide (countW w≥0)&&!(decide (countW w=rest.length))then(zeroFm,2)else fmBody w rest)):=by
 obtain⟨kind,value,line,col,text,kids⟩:=x
 conv=>lhs;unfold fmP
 have kk:kindOf (.mk kind value line col text kids)=kind:=rfl
 have k5:kidsOf (.mk kind value line col text kids)=kids:=rfl
 rw[kk,k5]
 simp only[headM]
 by_cases h3:kind=3
 ·rw [if_pos h3,if_pos h3]
  cases kids with
  |nil=>simp[h3]
  |cons y rest=>
   simp only[List.isEmpty_cons,Bool.and_false,cond_false]
   cases hk:kindOf y==1<;>simp only[hk,cond_true,cond_false]<;>rfl
 ·rw [if_neg h3,if_neg h3]
  rw[show(kind==3)=false by simpa using h3]
  try rfl
theorem count_two{w:ByteArray}{n:Nat}(hw:isQ w=true∨isCmp5 w=true)(hc:(decide (countW w≥0)&&!(decide (countW w=n)))=false):n=2:=by
 have:countW w=2:=by
  rw[countW_eq]
  unfold isQ isCmp5 isCmp at hw
  simp only[Bool.or_eq_true]at hw
  rcases hw with(h|h)|(((h|h)|h)|h)|h<;>(have h:=bEq_eq h;subst h;decide)
 rw[this]at hc
 simp at hc
 omega
def fmZ:AObj:= .arr 6 [[.sc (.string ⟨#[]⟩),.sc (.string ⟨#[]⟩),.sc (.slice none 0 0),.sc (.slice none 0 0),.sc (.slice none 0 0),.sc (.slice none 0 0)]]
structure PI(h:Heap)(w:ByteArray)(h':Heap):Prop where
 grow:Grow h h'
 nxt:h'.next=h.next+2
 o1:h'.obj h.next=some fmZ
 o2:h'.obj (h.next+1)=some (.arr 6 [[sPV w,.sc (.string ⟨#[]⟩),.sc (.slice none 0 0),.sc (.slice none 0 0),.sc (.slice none 0 0),.sc (.slice none 0 0)]])
def PJ(h:Heap)(F:Fm × Int)(S:Slots)(h':Heap):Prop:=S 2= .ptr h.next 0 0∧S 8= .ptr (h.next+1) 0 0∧Grow h h'∧ ∃ (c:Int)(a b:ByteArray)(p2 p3 p4 p5:PV),S 9=errP c∧h'.obj h.next=some fmZ∧h'.obj (h.next+1)=some (.arr 6 [[sPV a,sPV b,p2,p3,p4,p5]])∧
 (oneC p2=true∧oneC p3=true∧oneC p4=true∧oneC p5=true)∧((c==0)=false→F=(zeroFm,c))∧((c==0)=true→F.2=0∧ ∀ hh,FrzL h.next hh F.1.cells [sPV a,sPV b,p2,p3,p4,p5])
theorem PJ.mk2{h h':Heap}{w:ByteArray}{F:Fm × Int}{S:Slots}(hp:PI h w h')(c:Int)(a b:ByteArray)(p2 p3 p4 p5:PV)(g2:S 2= .ptr h.next 0 0)(g8:S 8= .ptr (h.next+1) 0 0)(g9:S 9=errP c)
  (ho:oneC p2=true∧oneC p3=true∧oneC p4=true∧oneC p5=true)(hc:(c==0)=false→F=(zeroFm,c))(hd:(c==0)=true→F.2=0∧ ∀ hh,FrzL h.next hh F.1.cells [sPV a,sPV b,p2,p3,p4,p5]):
  PJ h F S (h'.set (h.next+1) (.arr 6 [[sPV a,sPV b,p2,p3,p4,p5]])):=by
 refine⟨g2,g8,hp.grow.set (Nat.le_succ _) _,c,a,b,p2,p3,p4,p5,g9,?_,by simp[Heap.set],ho,hc,hd⟩
 simp only[Heap.set]
 rw[if_neg (by omega)]
 exact hp.o1
theorem errRet{h h':Heap}{c:Int}{F:Fm × Int}(hc:c=2∨c=8)(hg:Grow h h')(hF:F=(zeroFm,c)):
  FrzTo h.next h' (.tup [.agg F.1.cells,errP F.2]) (.tup [.agg [.sc (.string ⟨#[]⟩),.sc (.string ⟨#[]⟩),.sc (.slice none 0 0),.sc (.slice none 0 0),.sc (.slice none 0 0),.sc (.slice none 0 0)],errV c])∧Grow h h':=by
 subst hF
 have:errP c=errV c:=by rcases hc with rfl|rfl<;>rfl
 simp only[this]
 refine⟨?_,hg⟩
 simp only[errV,zeroFm,Fm.cells,Ex.rows,Fm.rows,pmRows,strRows,List.map_nil,FrzTo,FrzL]
 exact⟨_,rfl,⟨_,rfl,rfl,rfl,.inr (.inl ⟨rfl,.inr rfl⟩),.inr (.inl ⟨rfl,.inr rfl⟩),.inr (.inl ⟨rfl,.inr rfl⟩),.inr (.inl ⟨rfl,.inr rfl⟩),trivial⟩,rfl,trivial⟩
end Go.Proofs.Ytjeolbgpllbemaa
namespace Go.Proofs.Ytjeolbgpllbemaa
open Go.AM
set_option maxHeartbeats 8000000
set_option maxRecDepth 20000
theorem parse_step{kind value line col:Int}{text:ByteArray}{kids:List Sx}(hok:(Sx.mk kind value line col text kids).ok)(hsm:(Sx.mk kind value line col text kids).small)
  (ih: ∀ x∈kids, ∀ h:Heap,PCall Try.prog 88 [.agg x.cells] h fun r h'=>r= .tup [.agg (fmP x).1.cells,errP (fmP x).2]∧h'=h)(h:Heap):
  PCall Try.prog 88 [.agg (Sx.mk kind value line col text kids).cells] h fun r h'=>r= .tup [.agg (fmP (.mk kind value line col text kids)).1.cells,errP (fmP (.mk kind value line col text kids)).2]∧h'=h:=by
 refine PCall.frz Ty.hb_88 ?_
 have hok':=hok
 simp only[Sx.ok]at hok'
 obtain⟨_,_,_,hkl,hks⟩:=hok'
 rw[Sx.oks_iff]at hks
 simp only[Sx.small]at hsm
 obtain⟨hl,hss⟩:=hsm
 rw[Sx.smalls_iff]at hss
 have hh:=head_c hok
 have hX:=fmP_head (.mk kind value line col text kids)
 generalize fmP (.mk kind value line col text kids)=F at hX
 have hMo:=fun w rest e=>headM_ok (w:=w) (rest:=rest) hok e
 have hMr:=fun w rest e=>headM_rest (kind:=kind) (value:=value) (line:=line) (col:=col) (text:=text) (kids:=kids) (w:=w) (rest:=rest) e
 generalize headM (.mk kind value line col text kids)=M at hh hX hMo hMr
 have kk:kindOf (.mk kind value line col text kids)=kind:=rfl
 have k5:kidsOf (.mk kind value line col text kids)=kids:=rfl
 rw[kk,k5]at hX
 have hlk:=Sx.rows_len kids
 have hg1: ∀ r,Grow h ((h.new (.arr 6 [[.sc (.string ⟨#[]⟩),.sc (.string ⟨#[]⟩),.sc (.slice none 0 0),.sc (.slice none 0 0),.sc (.slice none 0 0),.sc (.slice none 0 0)]])).set h.next r):=fun r=>((Grow.refl h).new _).set (Nat.le_refl _) _
 refine pcall_body (ow:=fun _=>false) (wf:=fun _=>false) Ty.mixed Try.func88 rfl Ty.hb_88 (by rw[Try.ntmps88];simp) ?_
 rw[Try.ntmps88,Try.results88]
 simp only[Sx.cells]at hh⊢
 repeat'(first|(with_reducible refine a_hold 1 ?_)|refine a_seq fun K hK=>?_|(refine a_regionS ?_;simp(maxSteps:=2000000) only[Ty.w,simprocAttr])|(refine hK _ _ ?_;clear hK;try simp only[pst0,simprocAttr]))
 refine⟨?_⟩
 refine a_cut (fun S h'=>S 1= .cptr (Sx.mk kind value line col text kids).cells∧S 2= .ptr h.next 0 0∧h'=h.new fmZ∧(kind==3&&kids.isEmpty)=false) ?_ ?_
 ·clear hh
  simp only[Sx.cells,fmZ]
  cases k3:(kind==3)with
  |false=>
   repeat'(first|refine a_seq fun K hK=>?_|(refine a_regionS ?_;simp(maxSteps:=2000000) only[Ty.w,simprocAttr,k3])|(refine a_skip ?_;try simp only[pst0,simprocAttr])|(refine a_cond _ (by(try simp(maxSteps:=2000000) only[Ty.w,simprocAttr,k3]);rfl) (fun hb=>?_) (fun hb=>?_)<;>(try simp only[hb0,decide_eq_true_eq,decide_eq_false_iff_not,simprocAttr]at hb)<;>(try(exfalso;omega)))|(refine hK _ _ ?_;clear hK;try simp only[pst0,simprocAttr]))
   all_goals first|rfl|(simp only[Ty.w,simprocAttr,Bool.false_and];done)
  |true=>
   cases q:(((Sx.rows kids).length:Int)==0)with
   |false=>
    have q':kids.isEmpty=false:=by
     cases kids with
     |nil=>simp[Sx.rows]at q
     |cons _ _=>rfl
    repeat'(first|refine a_seq fun K hK=>?_|(refine a_regionS ?_;simp(maxSteps:=2000000) only[Ty.w,simprocAttr,k3,q])|(refine a_skip ?_;try simp only[pst0,simprocAttr])|(refine a_cond _ (by(try simp(maxSteps:=2000000) only[Ty.w,simprocAttr,k3,q]);rfl) (fun hb=>?_) (fun hb=>?_)<;>(try simp only[hb0,decide_eq_true_eq,decide_eq_false_iff_not,simprocAttr]at hb)<;>(try(exfalso;omega)))|(refine hK _ _ ?_;clear hK;try simp only[pst0,simprocAttr]))
    all_goals first|rfl|(simp only[Ty.w,simprocAttr,q',Bool.true_and];done)
   |true=>
    have q':kids.isEmpty=true:=by
     cases kids with
     |nil=>rfl
     |cons _ _=>simp[Sx.rows]at q;omega
    rw[k3,q']at hX
    simp only[Bool.and_self,cond_true]at hX
    subst hX
    repeat'(first|refine a_seq fun K hK=>?_|((first|refine a_regionS ?_|refine a_ret ?_);simp(maxSteps:=2000000) only[Ty.w,simprocAttr,k3,q])|(refine hK _ _ ?_;clear hK;try simp only[pst0,simprocAttr]))
    refine⟨?_,hg1 _⟩
    have e2:errP 0= .sc .nilIface:=rfl
    simp only[e2,opAnd,Fm.cells,Ex.rows,Fm.rows,pmRows,strRows,List.map_nil,FrzTo,FrzL]
    exact⟨_,rfl,⟨_,rfl,rfl,rfl,.inr (.inl ⟨rfl,.inr rfl⟩),.inr (.inl ⟨rfl,.inr rfl⟩),.inr (.inl ⟨rfl,.inr rfl⟩),.inr (.inl ⟨rfl,.inr rfl⟩),trivial⟩,rfl,trivial⟩
 ·rintro S h' ⟨g1,g2,rfl,hq⟩
  rw[hq]at hX
  simp only[cond_false]at hX
  simp only[Sx.cells]at g1
  simp only[fmZ]
  clear hq
  cases M with
  |none=>
   simp only at hX
   simp only[headV]at hh
   repeat'(first|refine a_seq fun K hK=>?_|(refine a_regionS ?_;simp(maxSteps:=2000000) only[Ty.w,simprocAttr,g1,g2]))
   refine owp_useQ (hh _) (by(try simp only[Ty.w,simprocAttr,g1,g2]);try rfl) ?_;simp(maxSteps:=2000000) only[Ty.w,simprocAttr,g1,g2]
   repeat'(first|refine a_seq fun K hK=>?_|((first|refine a_regionS ?_|refine a_ret ?_);simp(maxSteps:=2000000) only[Ty.w,simprocAttr,g1,g2,Bool.not_false])|(refine hK _ _ ?_;clear hK;try simp only[pst0,simprocAttr]))
   exact errRet (.inl rfl) (hg1 _) hX
  |some wr=>
   obtain⟨w,rest⟩:=wr
   obtain⟨hw,hro⟩:=hMo w rest rfl
   obtain⟨y0,hy0⟩:=hMr w rest rfl
   have hrl:rest.length≤1048576:=by rw[hy0]at hl;simp at hl;omega
   have ihr: ∀ x∈rest, ∀ h:Heap,PCall Try.prog 88 [.agg x.cells] h fun r h'=>r= .tup [.agg (fmP x).1.cells,errP (fmP x).2]∧h'=h:=fun x hx=>ih x (by rw[hy0];simp[hx])
   have hsr: ∀ x∈rest,x.small:=fun x hx=>hss x (by rw[hy0];simp[hx])
   clear ih hMo hMr hks hss hl hkl hlk hy0 y0
   simp only at hX
   simp only[headV]at hh
   have hlr:=Sx.rows_len rest
   repeat'(first|(with_reducible refine a_hold 6 ?_)|refine a_seq fun K hK=>?_|(refine a_regionS ?_;simp(maxSteps:=2000000) only[Ty.w,simprocAttr,g1,g2]))
   refine owp_useQ (hh _) (by(try simp only[Ty.w,simprocAttr,g1,g2]);try rfl) ?_;simp(maxSteps:=2000000) only[Ty.w,simprocAttr,g1,g2]
   repeat'(first|(with_reducible refine a_hold 6 ?_)|refine a_seq fun K hK=>?_|(refine a_regionS ?_;simp(maxSteps:=2000000) only[Ty.w,simprocAttr,g1,g2,Bool.not_true])|(refine a_skip ?_;try simp only[pst0,simprocAttr])|(refine a_cond _ (by(try simp(maxSteps:=2000000) only[Ty.w,simprocAttr,g1,g2,Bool.not_true]);rfl) (fun hb=>?_) (fun hb=>?_)<;>(try simp only[hb0,decide_eq_true_eq,decide_eq_false_iff_not,simprocAttr]at hb)<;>(try(exfalso;omega)))|(refine hK _ _ ?_;clear hK;try simp only[pst0,simprocAttr]))
   refine⟨?_⟩
   refine a_cut (fun S h'=>S 2= .ptr h.next 0 0∧S 4=sPV w∧S 5= .imm 6 (Sx.rows rest)∧h'=h.new fmZ∧(decide (countW w≥0)&&!(decide (countW w=rest.length)))=false) ?_ ?_
   ·have hcn:=fun h:Heap=>count_c (h:=h) (op:=w)
    simp only[fmZ]
    generalize countW w=n at hcn hX
    cases c1:decide (n≥0)with
    |false=>
     repeat'(first|refine a_seq fun K hK=>?_|(refine a_regionS ?_;simp(maxSteps:=2000000) only[Ty.w,simprocAttr,g1,g2]))
     refine owp_useQ (hcn _) (by(try simp only[Ty.w,simprocAttr,g1,g2]);try rfl) ?_;simp(maxSteps:=2000000) only[Ty.w,simprocAttr,g1,g2]
     repeat'(first|refine a_seq fun K hK=>?_|(refine a_regionS ?_;simp(maxSteps:=2000000) only[Ty.w,simprocAttr,g1,g2,c1])|(refine a_skip ?_;try simp only[pst0,simprocAttr])|(refine a_cond _ (by(try simp(maxSteps:=2000000) only[Ty.w,simprocAttr,g1,g2,c1]);rfl) (fun hb=>?_) (fun hb=>?_)<;>(try simp only[hb0,decide_eq_true_eq,decide_eq_false_iff_not,simprocAttr]at hb)<;>(try(exfalso;omega)))|(refine hK _ _ ?_;clear hK;try simp only[pst0,simprocAttr]))
     all_goals first|rfl|(simp only[Ty.w,simprocAttr,g2,Bool.false_and];done)
    |true=>
     cases c2:(n !=(rest.length:Int))with
     |false=>
      have c2':decide (n=(rest.length:Int))=true:=by simpa using c2
      repeat'(first|refine a_seq fun K hK=>?_|(refine a_regionS ?_;simp(maxSteps:=2000000) only[Ty.w,simprocAttr,g1,g2]))
      refine owp_useQ (hcn _) (by(try simp only[Ty.w,simprocAttr,g1,g2]);try rfl) ?_;simp(maxSteps:=2000000) only[Ty.w,simprocAttr,g1,g2]
      repeat'(first|refine a_seq fun K hK=>?_|(refine a_regionS ?_;simp(maxSteps:=2000000) only[Ty.w,simprocAttr,g1,g2,c1,hlr,c2])|(refine a_skip ?_;try simp only[pst0,simprocAttr])|(refine a_cond _ (by(try simp(maxSteps:=2000000) only[Ty.w,simprocAttr,g1,g2,c1,hlr,c2]);rfl) (fun hb=>?_) (fun hb=>?_)<;>(try simp only[hb0,decide_eq_true_eq,decide_eq_false_iff_not,simprocAttr]at hb)<;>(try(exfalso;omega)))|(refine hK _ _ ?_;clear hK;try simp only[pst0,simprocAttr]))
      all_goals first|rfl|(simp only[Ty.w,simprocAttr,g2,c2',Bool.true_and,Bool.not_true];done)
     |true=>
      have c2':decide (n=(rest.length:Int))=false:=by simpa using c2
      rw[c1,c2']at hX
      simp only[Bool.not_false,Bool.and_self,cond_true]at hX
      repeat'(first|refine a_seq fun K hK=>?_|(refine a_regionS ?_;simp(maxSteps:=2000000) only[Ty.w,simprocAttr,g1,g2]))
      refine owp_useQ (hcn _) (by(try simp only[Ty.w,simprocAttr,g1,g2]);try rfl) ?_;simp(maxSteps:=2000000) only[Ty.w,simprocAttr,g1,g2]
      repeat'(first|refine a_seq fun K hK=>?_|((first|refine a_regionS ?_|refine a_ret ?_);simp(maxSteps:=2000000) only[Ty.w,simprocAttr,g1,g2,c1,hlr,c2])|(refine hK _ _ ?_;clear hK;try simp only[pst0,simprocAttr]))
      exact errRet (.inl rfl) (hg1 _) hX
   ·clear g1 g2 hh
    rintro S h' ⟨g2,g4,g5,rfl,hcnt⟩
    rw[hcnt]at hX
    simp only[cond_false]at hX
    simp only[fmZ]
    have n1:(h.next=h.next+1)=False:=by simp
    repeat'(first|(with_reducible refine a_hold 11 ?_)|refine a_seq fun K hK=>?_|(refine a_regionS ?_;simp(maxSteps:=2000000) only[Ty.w,simprocAttr,g2,g4,g5])|(refine hK _ _ ?_;clear hK;try simp only[pst0,simprocAttr]))
    refine⟨?_⟩
    refine a_gen (fun S h'=>S 2= .ptr h.next 0 0∧S 4=sPV w∧S 5= .imm 6 (Sx.rows rest)∧S 8= .ptr (h.next+1) 0 0∧S 9= .sc .nilIface∧PI h w h') ?_ ?_
    ·simp only[Ty.w,simprocAttr,g2,g4,g5]
     refine⟨(((Grow.refl h).new _).new _).set (Nat.le_succ _) _,rfl,?_,?_⟩
     ·simp [Heap.new,Heap.set,fmZ]
     ·simp [Heap.new,Heap.set]
    ·clear g2 g4 g5
     rintro S h' ⟨g2,g4,g5,g8,g9,hpi⟩
     refine a_cut (PJ h F) ?_ ?_
     ·have o1:=hpi.o1
      have o2:=hpi.o2
      simp only[fmZ]at o1
      have hN:=hpi.nxt
      have n1:(h.next=h.next+1)=False:=by simp
      have n2:(h.next+1=h.next)=False:=by simp
      have hz2:errP 0= .sc .nilIface:=rfl
      repeat'(refine a_hold 16 ?_)
      refine⟨?_⟩
      refine a_cut (fun S h2=>h2=h'∧S 2= .ptr h.next 0 0∧S 4=sPV w∧S 5= .imm 6 (Sx.rows rest)∧S 8= .ptr (h.next+1) 0 0∧S 9= .sc .nilIface∧S 44=sPV w∧S 59= .sc (.bool (isQ w))) ?_ ?_
      ·cases u1:(w.data.toList==(#[102,111,114,97,108,108]:Array UInt8).toList)with
       |true=>
        have hq:isQ w=true:=by unfold isQ;simp[show bEq w opAll=true from u1]
        rw[hq]
        repeat'(first|refine a_seq fun K hK=>?_|(refine a_regionS ?_;simp(maxSteps:=2000000) only[Ty.w,simprocAttr,g2,g4,g5,g8,g9,u1])|(refine a_skip ?_;try simp only[pst0,simprocAttr])|(refine a_cond _ (by(try simp(maxSteps:=2000000) only[Ty.w,simprocAttr,g2,g4,g5,g8,g9,u1]);rfl) (fun hb=>?_) (fun hb=>?_)<;>(try simp only[hb0,decide_eq_true_eq,decide_eq_false_iff_not,simprocAttr]at hb)<;>(try(exfalso;omega)))|(refine hK _ _ ?_;clear hK;try simp only[pst0,simprocAttr]))
        all_goals first|rfl|(simp only[Ty.w,simprocAttr,g2,g4,g5,g8,g9];done)
       |false=>
        cases u2:(w.data.toList==(#[101,120,105,115,116,115]:Array UInt8).toList)with
        |true=>
         have hq:isQ w=true:=by unfold isQ;simp[show bEq w opAll=false from u1,show bEq w opSome=true from u2]
         rw[hq]
         repeat'(first|refine a_seq fun K hK=>?_|(refine a_regionS ?_;simp(maxSteps:=2000000) only[Ty.w,simprocAttr,g2,g4,g5,g8,g9,u1,u2])|(refine a_cond _ (by(try simp(maxSteps:=2000000) only[Ty.w,simprocAttr,g2,g4,g5,g8,g9,u1,u2]);rfl) (fun hb=>?_) (fun hb=>?_)<;>(try simp only[hb0,decide_eq_true_eq,decide_eq_false_iff_not,simprocAttr]at hb)<;>(try(exfalso;omega)))|(refine hK _ _ ?_;clear hK;try simp only[pst0,simprocAttr]))
         all_goals first|rfl|(simp only[Ty.w,simprocAttr,g2,g4,g5,g8,g9];done)
        |false=>
         have hq:isQ w=false:=by unfold isQ;simp[show bEq w opAll=false from u1,show bEq w opSome=false from u2]
         rw[hq]
         repeat'(first|refine a_seq fun K hK=>?_|(refine a_regionS ?_;simp(maxSteps:=2000000) only[Ty.w,simprocAttr,g2,g4,g5,g8,g9,u1,u2])|(refine a_cond _ (by(try simp(maxSteps:=2000000) only[Ty.w,simprocAttr,g2,g4,g5,g8,g9,u1,u2]);rfl) (fun hb=>?_) (fun hb=>?_)<;>(try simp only[hb0,decide_eq_true_eq,decide_eq_false_iff_not,simprocAttr]at hb)<;>(try(exfalso;omega)))|(refine hK _ _ ?_;clear hK;try simp only[pst0,simprocAttr]))
         all_goals first|rfl|(simp only[Ty.w,simprocAttr,g2,g4,g5,g8,g9];done)
      ·clear g2 g4 g5 g8 g9
       rintro S h' ⟨rfl,g2,g4,g5,g8,g9,g44,g59⟩
       cases hQ:isQ w with
       |true=>
        rw[hQ]at g59
        simp only[fmBody,hQ,cond_true]at hX
        obtain⟨p,b,rfl⟩: ∃ p b,rest=[p,b]:=by
         have h2:=count_two (.inl hQ) hcnt
         match rest,h2 with
         |[p,b],_=>exact⟨p,b,rfl⟩
        simp only at hX
        have hpo:=hro p (by simp)
        have hps:=hsr p (by simp)
        have hck:=fun h=>kids_c (l:=[b]) (by simp) (fun x hx=>ihr x (by simp at hx⊢;exact .inr hx)) h
        obtain⟨pk,pv,pl,pc,pt,pks⟩:=p
        simp only[kindOf,kidsOf]at hX
        simp only[Sx.ok]at hpo
        simp only[Sx.small]at hps
        have hcp:=fun h=>parseParams_c (vars:=true) (l:=pks) hps.1 (Sx.oks_iff.1 hpo.2.2.2.2) h
        have r0:=Sx.rows_get (l:=[.mk pk pv pl pc pt pks,b]) (i:=0) rfl
        have hq1:(1:Int)≤((Sx.rows [.mk pk pv pl pc pt pks,b]).length:Int):=by rw[hlr];simp
        have ht:List.take (((Sx.rows [.mk pk pv pl pc pt pks,b]).length:Int)-1).toNat (List.drop 1 (Sx.rows [.mk pk pv pl pc pt pks,b]))=Sx.rows [b]:=by rw[hlr];try rfl
        generalize Sx.rows [.mk pk pv pl pc pt pks,b]=R at g5 r0 hq1 ht hlr
        generalize Sx.rows [b]=R1 at ht hck
        simp only[Sx.cells]at r0
        cases q3:(pk !=3)with
        |true=>
         rw[show(pk==3)=false by simpa using q3]at hX
         simp only[cond_false]at hX
         repeat'(first|refine a_seq fun K hK=>?_|((first|refine a_regionS ?_|refine a_ret ?_);simp(maxSteps:=2000000) only[Ty.w,simprocAttr,g2,g4,g5,g8,g9,g44,g59,r0,q3,o1,o2])|(refine a_cond _ (by(try simp(maxSteps:=2000000) only[Ty.w,simprocAttr,g2,g4,g5,g8,g9,g44,g59,r0,q3,o1,o2]);rfl) (fun hb=>?_) (fun hb=>?_)<;>(try simp only[hb0,decide_eq_true_eq,decide_eq_false_iff_not,simprocAttr]at hb)<;>(try(exfalso;omega)))|(refine hK _ _ ?_;clear hK;try simp only[pst0,simprocAttr]))
         exact errRet (.inl rfl) (hpi.grow.set (Nat.le_refl _) _) hX
        |false=>
         rw[show(pk==3)=true by simpa using q3]at hX
         simp only[cond_true]at hX
         generalize paramsP true pks=PP at hcp hX
         obtain⟨pms,c⟩:=PP
         simp only at hcp hX
         cases hc:c==0 with
         |false=>
          rw[hc]at hX
          simp only[cond_false]at hX
          have e0:errP c=errV c:=by simp only[errP,hc,cond_false]
          rw[e0]at hcp
          simp only[errV]at hcp e0
          repeat'(first|refine a_seq fun K hK=>?_|(refine a_regionS ?_;simp(maxSteps:=2000000) only[Ty.w,simprocAttr,g2,g4,g5,g8,g9,g44,g59,r0,q3,o1,o2])|(refine a_skip ?_;try simp only[pst0,simprocAttr])|(refine a_cond _ (by(try simp(maxSteps:=2000000) only[Ty.w,simprocAttr,g2,g4,g5,g8,g9,g44,g59,r0,q3,o1,o2]);rfl) (fun hb=>?_) (fun hb=>?_)<;>(try simp only[hb0,decide_eq_true_eq,decide_eq_false_iff_not,simprocAttr]at hb)<;>(try(exfalso;omega)))|(refine hK _ _ ?_;clear hK;try simp only[pst0,simprocAttr]))
          refine owp_useQ (hcp _) (by(try simp only[Ty.w,simprocAttr,g2,g4,g5,g8,g9,g44,r0,o1,o2,n1,n2,set_set]);try rfl) ?_;simp(maxSteps:=2000000) only[Ty.w,simprocAttr,g2,g4,g5,g8,g9,g44,r0,o1,o2,n1,n2,set_set]
          repeat'(first|refine a_seq fun K hK=>?_|(refine a_block ?_)|(refine a_regionS ?_;simp(maxSteps:=2000000) only[Ty.w,simprocAttr,g2,g4,g5,g8,g9,g44,r0,o1,o2,n1,n2])|(refine a_skip ?_;try simp only[pst0,simprocAttr])|(refine hK _ _ ?_;clear hK;try simp only[pst0,simprocAttr]))
          refine PJ.mk2 hpi c w ⟨#[]⟩ _ _ _ _ ?_ ?_ ?_ ?_ ?_ ?_
          ·simp only[Ty.w,simprocAttr,g2]
          ·simp only[Ty.w,simprocAttr,g8]
          ·simp only[Ty.w,simprocAttr];first|exact e0.symm|rfl
          ·exact ⟨rfl,rfl,rfl,rfl⟩
          ·exact fun _=>hX
          ·intro hh;rw[hc]at hh;exact absurd hh (by simp)
         |true=>
          rw[hc]at hX
          simp only[cond_true]at hX
          have e0:errP c= .sc .nilIface:=by simp only[errP,hc,cond_true]
          rw[e0]at hcp
          clear e0
          generalize fmPs [b]=KK at hck hX
          obtain⟨ks,c2⟩:=KK
          simp only at hck hX
          cases hc2:c2==0 with
          |false=>
           rw[hc2]at hX
           simp only[cond_false]at hX
           have e0:errP c2=errV c2:=by simp only[errP,hc2,cond_false]
           rw[e0]at hck
           simp only[errV]at hck e0
           have W:=And.intro g2 (And.intro g4 (And.intro g5 (And.intro g8 (And.intro g9 (And.intro g44 (And.intro r0 (And.intro o1 (And.intro n1 (And.intro o2 (And.intro n2 (And.intro hq1 ht)))))))))))
           repeat'(first|refine a_seq fun K hK=>?_|(refine a_regionS ?_;simp(maxSteps:=2000000) only[Ty.w,simprocAttr,W,g59,q3])|(refine a_skip ?_;try simp only[pst0,simprocAttr])|(refine a_cond _ (by(try simp(maxSteps:=2000000) only[Ty.w,simprocAttr,W,g59,q3]);rfl) (fun hb=>?_) (fun hb=>?_)<;>(try simp only[hb0,decide_eq_true_eq,decide_eq_false_iff_not,simprocAttr]at hb)<;>(try(exfalso;omega)))|(refine hK _ _ ?_;clear hK;try simp only[pst0,simprocAttr]))
           refine owp_useQ (hcp _) (by(try simp only[Ty.w,simprocAttr,W,set_set]);try rfl) ?_;simp(maxSteps:=2000000) only[Ty.w,simprocAttr,W,set_set]
           repeat'(first|refine a_seq fun K hK=>?_|(refine a_block ?_)|((first|refine a_regionS ?_|refine a_region (fun K hK=>?_));simp(maxSteps:=2000000) only[Ty.w,simprocAttr,W,Option.getD_some,Option.getD_none,Int.le_refl,Int.toNat_one])|(refine hK _ _ ?_;clear hK;try simp only[pst0,simprocAttr]))
           refine owp_useQ (hck _) (by(try simp only[Ty.w,simprocAttr,W,Option.getD_some,Option.getD_none,Int.le_refl,Int.toNat_one,set_set]);try rfl) ?_;simp(maxSteps:=2000000) only[Ty.w,simprocAttr,W,Option.getD_some,Option.getD_none,Int.le_refl,Int.toNat_one,set_set]
           repeat'(refine hK _ _ ?_;clear hK;try simp only[pst0,simprocAttr])
           try rw[set_set]
           refine PJ.mk2 hpi c2 w ⟨#[]⟩ _ _ _ _ ?_ ?_ ?_ ?_ ?_ ?_
           ·simp only[Ty.w,simprocAttr,g2]
           ·simp only[Ty.w,simprocAttr,g8]
           ·simp only[Ty.w,simprocAttr];first|exact e0.symm|rfl
           ·exact ⟨rfl,rfl,rfl,rfl⟩
           ·exact fun _=>hX
           ·intro hh;rw[hc2]at hh;exact absurd hh (by simp)
          |true=>
           rw[hc2]at hX
           simp only[cond_true]at hX
           have e0:errP c2= .sc .nilIface:=by simp only[errP,hc2,cond_true]
           rw[e0]at hck
           have W:=And.intro g2 (And.intro g4 (And.intro g5 (And.intro g8 (And.intro g9 (And.intro g44 (And.intro r0 (And.intro o1 (And.intro n1 (And.intro o2 (And.intro n2 (And.intro hq1 ht)))))))))))
           repeat'(first|refine a_seq fun K hK=>?_|(refine a_regionS ?_;simp(maxSteps:=2000000) only[Ty.w,simprocAttr,W,g59,q3])|(refine a_skip ?_;try simp only[pst0,simprocAttr])|(refine a_cond _ (by(try simp(maxSteps:=2000000) only[Ty.w,simprocAttr,W,g59,q3]);rfl) (fun hb=>?_) (fun hb=>?_)<;>(try simp only[hb0,decide_eq_true_eq,decide_eq_false_iff_not,simprocAttr]at hb)<;>(try(exfalso;omega)))|(refine hK _ _ ?_;clear hK;try simp only[pst0,simprocAttr]))
           refine owp_useQ (hcp _) (by(try simp only[Ty.w,simprocAttr,W,set_set]);try rfl) ?_;simp(maxSteps:=2000000) only[Ty.w,simprocAttr,W,set_set]
           repeat'(first|refine a_seq fun K hK=>?_|(refine a_block ?_)|((first|refine a_regionS ?_|refine a_region (fun K hK=>?_));simp(maxSteps:=2000000) only[Ty.w,simprocAttr,W,Option.getD_some,Option.getD_none,Int.le_refl,Int.toNat_one])|(refine hK _ _ ?_;clear hK;try simp only[pst0,simprocAttr]))
           refine owp_useQ (hck _) (by(try simp only[Ty.w,simprocAttr,W,Option.getD_some,Option.getD_none,Int.le_refl,Int.toNat_one,set_set]);try rfl) ?_;simp(maxSteps:=2000000) only[Ty.w,simprocAttr,W,Option.getD_some,Option.getD_none,Int.le_refl,Int.toNat_one,set_set]
           repeat'(refine hK _ _ ?_;clear hK;try simp only[pst0,simprocAttr])
           try rw[set_set]
           refine PJ.mk2 hpi c2 w ⟨#[]⟩ _ _ _ _ ?_ ?_ ?_ ?_ ?_ ?_
           ·simp only[Ty.w,simprocAttr,g2]
           ·simp only[Ty.w,simprocAttr,g8]
           ·simp only[Ty.w,simprocAttr];first|exact e0.symm|rfl
           ·exact ⟨rfl,rfl,rfl,rfl⟩
           ·intro hh;rw[hc2]at hh;exact absurd hh (by simp)
           ·subst hX;refine fun _=>⟨rfl,fun hh=>?_⟩;simp only[Fm.cells,FrzL];refine⟨?_,?_,?_,?_,?_,?_,trivial⟩<;>(unfold FrzTo;first|rfl|exact .inr (.inl ⟨rfl,.inr rfl⟩)|exact .inl ⟨rfl,strs_in _ _⟩|exact .inl ⟨rfl,pms_in _ _⟩|exact .inl ⟨rfl,fms_in _ _⟩)
       |false=>
        rw[hQ]at g59
        simp only[fmBody,hQ,cond_false]at hX
        repeat'(first|(refine a_hold 23 ?_)|(refine a_cond _ (by(try simp(maxSteps:=2000000) only[Ty.w,simprocAttr,g2,g4,g5,g8,g9,g44,g59]);rfl) (fun hb=>?_) (fun hb=>?_)<;>(try simp only[hb0,decide_eq_true_eq,decide_eq_false_iff_not,simprocAttr]at hb)<;>(try(exfalso;omega))))
        refine⟨?_⟩
        refine a_cut (fun S h2=>h2=h'∧S 2= .ptr h.next 0 0∧S 4=sPV w∧S 5= .imm 6 (Sx.rows rest)∧S 8= .ptr (h.next+1) 0 0∧S 9= .sc .nilIface∧S 44=sPV w∧S 87= .sc (.bool (isLst w))) ?_ ?_
        ·cases u1:(w.data.toList==(#[110,111,116]:Array UInt8).toList)with
         |true=>
          have hq:isLst w=true:=by unfold isLst;simp[show bEq w opNot=true from u1]
          rw[hq]
          repeat'(first|refine a_seq fun K hK=>?_|(refine a_regionS ?_;simp(maxSteps:=2000000) only[Ty.w,simprocAttr,g2,g4,g5,g8,g9,g44,g59,u1])|(refine a_skip ?_;try simp only[pst0,simprocAttr])|(refine a_cond _ (by(try simp(maxSteps:=2000000) only[Ty.w,simprocAttr,g2,g4,g5,g8,g9,g44,g59,u1]);rfl) (fun hb=>?_) (fun hb=>?_)<;>(try simp only[hb0,decide_eq_true_eq,decide_eq_false_iff_not,simprocAttr]at hb)<;>(try(exfalso;omega)))|(refine hK _ _ ?_;clear hK;try simp only[pst0,simprocAttr]))
          all_goals first|rfl|(simp only[Ty.w,simprocAttr,g2,g4,g5,g8,g9,g44];done)
         |false=>
          cases u2:(w.data.toList==(#[105,109,112,108,121]:Array UInt8).toList)with
          |true=>
           have hq:isLst w=true:=by unfold isLst;simp[show bEq w opNot=false from u1,show bEq w opImp=true from u2]
           rw[hq]
           repeat'(first|refine a_seq fun K hK=>?_|(refine a_regionS ?_;simp(maxSteps:=2000000) only[Ty.w,simprocAttr,g2,g4,g5,g8,g9,g44,g59,u1,u2])|(refine a_skip ?_;try simp only[pst0,simprocAttr])|(refine a_cond _ (by(try simp(maxSteps:=2000000) only[Ty.w,simprocAttr,g2,g4,g5,g8,g9,g44,g59,u1,u2]);rfl) (fun hb=>?_) (fun hb=>?_)<;>(try simp only[hb0,decide_eq_true_eq,decide_eq_false_iff_not,simprocAttr]at hb)<;>(try(exfalso;omega)))|(refine hK _ _ ?_;clear hK;try simp only[pst0,simprocAttr]))
           all_goals first|rfl|(simp only[Ty.w,simprocAttr,g2,g4,g5,g8,g9,g44];done)
          |false=>
           cases u3:(w.data.toList==(#[97,110,100]:Array UInt8).toList)with
           |true=>
            have hq:isLst w=true:=by unfold isLst;simp[show bEq w opNot=false from u1,show bEq w opImp=false from u2,show bEq w opAnd=true from u3]
            rw[hq]
            repeat'(first|refine a_seq fun K hK=>?_|(refine a_regionS ?_;simp(maxSteps:=2000000) only[Ty.w,simprocAttr,g2,g4,g5,g8,g9,g44,g59,u1,u2,u3])|(refine a_skip ?_;try simp only[pst0,simprocAttr])|(refine a_cond _ (by(try simp(maxSteps:=2000000) only[Ty.w,simprocAttr,g2,g4,g5,g8,g9,g44,g59,u1,u2,u3]);rfl) (fun hb=>?_) (fun hb=>?_)<;>(try simp only[hb0,decide_eq_true_eq,decide_eq_false_iff_not,simprocAttr]at hb)<;>(try(exfalso;omega)))|(refine hK _ _ ?_;clear hK;try simp only[pst0,simprocAttr]))
            all_goals first|rfl|(simp only[Ty.w,simprocAttr,g2,g4,g5,g8,g9,g44];done)
           |false=>
            cases u4:(w.data.toList==(#[111,114]:Array UInt8).toList)with
            |true=>
             have hq:isLst w=true:=by unfold isLst;simp[show bEq w opNot=false from u1,show bEq w opImp=false from u2,show bEq w opAnd=false from u3,show bEq w opOr=true from u4]
             rw[hq]
             repeat'(first|refine a_seq fun K hK=>?_|(refine a_regionS ?_;simp(maxSteps:=2000000) only[Ty.w,simprocAttr,g2,g4,g5,g8,g9,g44,g59,u1,u2,u3,u4])|(refine a_cond _ (by(try simp(maxSteps:=2000000) only[Ty.w,simprocAttr,g2,g4,g5,g8,g9,g44,g59,u1,u2,u3,u4]);rfl) (fun hb=>?_) (fun hb=>?_)<;>(try simp only[hb0,decide_eq_true_eq,decide_eq_false_iff_not,simprocAttr]at hb)<;>(try(exfalso;omega)))|(refine hK _ _ ?_;clear hK;try simp only[pst0,simprocAttr]))
             all_goals first|rfl|(simp only[Ty.w,simprocAttr,g2,g4,g5,g8,g9,g44];done)
            |false=>
             have hq:isLst w=false:=by unfold isLst;simp[show bEq w opNot=false from u1,show bEq w opImp=false from u2,show bEq w opAnd=false from u3,show bEq w opOr=false from u4]
             rw[hq]
             repeat'(first|refine a_seq fun K hK=>?_|(refine a_regionS ?_;simp(maxSteps:=2000000) only[Ty.w,simprocAttr,g2,g4,g5,g8,g9,g44,g59,u1,u2,u3,u4])|(refine a_cond _ (by(try simp(maxSteps:=2000000) only[Ty.w,simprocAttr,g2,g4,g5,g8,g9,g44,g59,u1,u2,u3,u4]);rfl) (fun hb=>?_) (fun hb=>?_)<;>(try simp only[hb0,decide_eq_true_eq,decide_eq_false_iff_not,simprocAttr]at hb)<;>(try(exfalso;omega)))|(refine hK _ _ ?_;clear hK;try simp only[pst0,simprocAttr]))
             all_goals first|rfl|(simp only[Ty.w,simprocAttr,g2,g4,g5,g8,g9,g44];done)
        ·clear g2 g4 g5 g8 g9 g44 g59
         rintro S h' ⟨rfl,g2,g4,g5,g8,g9,g44,g87⟩
         cases hL:isLst w with
         |true=>
          rw[hL]at g87 hX
          simp only[cond_true]at hX
          have hck:=fun h=>kids_c (l:=rest) hrl ihr h
          generalize fmPs rest=KK at hck hX
          obtain⟨ks,c2⟩:=KK
          simp only at hck hX
          cases hc2:c2==0 with
          |false=>
           rw[hc2]at hX
           simp only[cond_false]at hX
           have e0:errP c2=errV c2:=by simp only[errP,hc2,cond_false]
           rw[e0]at hck
           simp only[errV]at hck e0
           repeat'(first|(refine a_region (fun K hK=>?_);simp(maxSteps:=2000000) only[Ty.w,simprocAttr,g2,g4,g5,g8,g9,g44,g87,o1,o2])|(refine a_cond _ (by(try simp(maxSteps:=2000000) only[Ty.w,simprocAttr,g2,g4,g5,g8,g9,g44,g87,o1,o2]);rfl) (fun hb=>?_) (fun hb=>?_)<;>(try simp only[hb0,decide_eq_true_eq,decide_eq_false_iff_not,simprocAttr]at hb)<;>(try(exfalso;omega))))
           refine owp_useQ (hck _) (by(try simp only[Ty.w,simprocAttr,g2,g4,g5,g8,g9,g44,g87,o1,o2,n1,n2,set_set]);try rfl) ?_;simp(maxSteps:=2000000) only[Ty.w,simprocAttr,g2,g4,g5,g8,g9,g44,g87,o1,o2,n1,n2,set_set]
           repeat'(refine hK _ _ ?_;clear hK;try simp only[pst0,simprocAttr])
           refine PJ.mk2 hpi c2 w ⟨#[]⟩ _ _ _ _ ?_ ?_ ?_ ?_ ?_ ?_
           ·simp only[Ty.w,simprocAttr,g2]
           ·simp only[Ty.w,simprocAttr,g8]
           ·simp only[Ty.w,simprocAttr];first|exact e0.symm|rfl
           ·exact ⟨rfl,rfl,rfl,rfl⟩
           ·exact fun _=>hX
           ·intro hh;rw[hc2]at hh;exact absurd hh (by simp)
          |true=>
           rw[hc2]at hX
           simp only[cond_true]at hX
           have e0:errP c2= .sc .nilIface:=by simp only[errP,hc2,cond_true]
           rw[e0]at hck
           repeat'(first|(refine a_region (fun K hK=>?_);simp(maxSteps:=2000000) only[Ty.w,simprocAttr,g2,g4,g5,g8,g9,g44,g87,o1,o2])|(refine a_cond _ (by(try simp(maxSteps:=2000000) only[Ty.w,simprocAttr,g2,g4,g5,g8,g9,g44,g87,o1,o2]);rfl) (fun hb=>?_) (fun hb=>?_)<;>(try simp only[hb0,decide_eq_true_eq,decide_eq_false_iff_not,simprocAttr]at hb)<;>(try(exfalso;omega))))
           refine owp_useQ (hck _) (by(try simp only[Ty.w,simprocAttr,g2,g4,g5,g8,g9,g44,g87,o1,o2,n1,n2,set_set]);try rfl) ?_;simp(maxSteps:=2000000) only[Ty.w,simprocAttr,g2,g4,g5,g8,g9,g44,g87,o1,o2,n1,n2,set_set]
           repeat'(refine hK _ _ ?_;clear hK;try simp only[pst0,simprocAttr])
           refine PJ.mk2 hpi c2 w ⟨#[]⟩ _ _ _ _ ?_ ?_ ?_ ?_ ?_ ?_
           ·simp only[Ty.w,simprocAttr,g2]
           ·simp only[Ty.w,simprocAttr,g8]
           ·simp only[Ty.w,simprocAttr];first|exact e0.symm|rfl
           ·exact ⟨rfl,rfl,rfl,rfl⟩
           ·intro hh;rw[hc2]at hh;exact absurd hh (by simp)
           ·subst hX;refine fun _=>⟨rfl,fun hh=>?_⟩;simp only[Fm.cells,FrzL];refine⟨?_,?_,?_,?_,?_,?_,trivial⟩<;>(unfold FrzTo;first|rfl|exact .inr (.inl ⟨rfl,.inr rfl⟩)|exact .inl ⟨rfl,strs_in _ _⟩|exact .inl ⟨rfl,pms_in _ _⟩|exact .inl ⟨rfl,fms_in _ _⟩)
         |false=>
          rw[hL]at g87 hX
          simp only[cond_false]at hX
          repeat'(first|(refine a_hold 28 ?_)|(refine a_cond _ (by(try simp(maxSteps:=2000000) only[Ty.w,simprocAttr,g2,g4,g5,g8,g9,g44,g87]);rfl) (fun hb=>?_) (fun hb=>?_)<;>(try simp only[hb0,decide_eq_true_eq,decide_eq_false_iff_not,simprocAttr]at hb)<;>(try(exfalso;omega))))
          refine⟨?_⟩
          refine a_cut (fun S h2=>h2=h'∧S 2= .ptr h.next 0 0∧S 4=sPV w∧S 5= .imm 6 (Sx.rows rest)∧S 8= .ptr (h.next+1) 0 0∧S 9= .sc .nilIface∧S 44=sPV w∧S 98= .sc (.bool (isCmp5 w))) ?_ ?_
          ·cases u1:(w.data.toList==(#[61]:Array UInt8).toList)with
           |true=>
            have hq:isCmp5 w=true:=by unfold isCmp5 isCmp;simp[show bEq w opEq=true from u1]
            rw[hq]
            repeat'(first|refine a_seq fun K hK=>?_|(refine a_regionS ?_;simp(maxSteps:=2000000) only[Ty.w,simprocAttr,g2,g4,g5,g8,g9,g44,g87,u1])|(refine a_skip ?_;try simp only[pst0,simprocAttr])|(refine a_cond _ (by(try simp(maxSteps:=2000000) only[Ty.w,simprocAttr,g2,g4,g5,g8,g9,g44,g87,u1]);rfl) (fun hb=>?_) (fun hb=>?_)<;>(try simp only[hb0,decide_eq_true_eq,decide_eq_false_iff_not,simprocAttr]at hb)<;>(try(exfalso;omega)))|(refine hK _ _ ?_;clear hK;try simp only[pst0,simprocAttr]))
            all_goals first|rfl|(simp only[Ty.w,simprocAttr,g2,g4,g5,g8,g9,g44];done)
           |false=>
            cases u2:(w.data.toList==(#[60]:Array UInt8).toList)with
            |true=>
             have hq:isCmp5 w=true:=by unfold isCmp5 isCmp;simp[show bEq w opEq=false from u1,show bEq w opLt=true from u2]
             rw[hq]
             repeat'(first|refine a_seq fun K hK=>?_|(refine a_regionS ?_;simp(maxSteps:=2000000) only[Ty.w,simprocAttr,g2,g4,g5,g8,g9,g44,g87,u1,u2])|(refine a_skip ?_;try simp only[pst0,simprocAttr])|(refine a_cond _ (by(try simp(maxSteps:=2000000) only[Ty.w,simprocAttr,g2,g4,g5,g8,g9,g44,g87,u1,u2]);rfl) (fun hb=>?_) (fun hb=>?_)<;>(try simp only[hb0,decide_eq_true_eq,decide_eq_false_iff_not,simprocAttr]at hb)<;>(try(exfalso;omega)))|(refine hK _ _ ?_;clear hK;try simp only[pst0,simprocAttr]))
             all_goals first|rfl|(simp only[Ty.w,simprocAttr,g2,g4,g5,g8,g9,g44];done)
            |false=>
             cases u3:(w.data.toList==(#[60,61]:Array UInt8).toList)with
             |true=>
              have hq:isCmp5 w=true:=by unfold isCmp5 isCmp;simp[show bEq w opEq=false from u1,show bEq w opLt=false from u2,show bEq w opLe=true from u3]
              rw[hq]
              repeat'(first|refine a_seq fun K hK=>?_|(refine a_regionS ?_;simp(maxSteps:=2000000) only[Ty.w,simprocAttr,g2,g4,g5,g8,g9,g44,g87,u1,u2,u3])|(refine a_skip ?_;try simp only[pst0,simprocAttr])|(refine a_cond _ (by(try simp(maxSteps:=2000000) only[Ty.w,simprocAttr,g2,g4,g5,g8,g9,g44,g87,u1,u2,u3]);rfl) (fun hb=>?_) (fun hb=>?_)<;>(try simp only[hb0,decide_eq_true_eq,decide_eq_false_iff_not,simprocAttr]at hb)<;>(try(exfalso;omega)))|(refine hK _ _ ?_;clear hK;try simp only[pst0,simprocAttr]))
              all_goals first|rfl|(simp only[Ty.w,simprocAttr,g2,g4,g5,g8,g9,g44];done)
             |false=>
              cases u4:(w.data.toList==(#[62]:Array UInt8).toList)with
              |true=>
               have hq:isCmp5 w=true:=by unfold isCmp5 isCmp;simp[show bEq w opEq=false from u1,show bEq w opLt=false from u2,show bEq w opLe=false from u3,show bEq w opGt=true from u4]
               rw[hq]
               repeat'(first|refine a_seq fun K hK=>?_|(refine a_regionS ?_;simp(maxSteps:=2000000) only[Ty.w,simprocAttr,g2,g4,g5,g8,g9,g44,g87,u1,u2,u3,u4])|(refine a_skip ?_;try simp only[pst0,simprocAttr])|(refine a_cond _ (by(try simp(maxSteps:=2000000) only[Ty.w,simprocAttr,g2,g4,g5,g8,g9,g44,g87,u1,u2,u3,u4]);rfl) (fun hb=>?_) (fun hb=>?_)<;>(try simp only[hb0,decide_eq_true_eq,decide_eq_false_iff_not,simprocAttr]at hb)<;>(try(exfalso;omega)))|(refine hK _ _ ?_;clear hK;try simp only[pst0,simprocAttr]))
               all_goals first|rfl|(simp only[Ty.w,simprocAttr,g2,g4,g5,g8,g9,g44];done)
              |false=>
               cases u5:(w.data.toList==(#[62,61]:Array UInt8).toList)with
               |true=>
                have hq:isCmp5 w=true:=by unfold isCmp5 isCmp;simp[show bEq w opEq=false from u1,show bEq w opLt=false from u2,show bEq w opLe=false from u3,show bEq w opGt=false from u4,show bEq w opGe=true from u5]
                rw[hq]
                repeat'(first|refine a_seq fun K hK=>?_|(refine a_regionS ?_;simp(maxSteps:=2000000) only[Ty.w,simprocAttr,g2,g4,g5,g8,g9,g44,g87,u1,u2,u3,u4,u5])|(refine a_cond _ (by(try simp(maxSteps:=2000000) only[Ty.w,simprocAttr,g2,g4,g5,g8,g9,g44,g87,u1,u2,u3,u4,u5]);rfl) (fun hb=>?_) (fun hb=>?_)<;>(try simp only[hb0,decide_eq_true_eq,decide_eq_false_iff_not,simprocAttr]at hb)<;>(try(exfalso;omega)))|(refine hK _ _ ?_;clear hK;try simp only[pst0,simprocAttr]))
                all_goals first|rfl|(simp only[Ty.w,simprocAttr,g2,g4,g5,g8,g9,g44];done)
               |false=>
                have hq:isCmp5 w=false:=by unfold isCmp5 isCmp;simp[show bEq w opEq=false from u1,show bEq w opLt=false from u2,show bEq w opLe=false from u3,show bEq w opGt=false from u4,show bEq w opGe=false from u5]
                rw[hq]
                repeat'(first|refine a_seq fun K hK=>?_|(refine a_regionS ?_;simp(maxSteps:=2000000) only[Ty.w,simprocAttr,g2,g4,g5,g8,g9,g44,g87,u1,u2,u3,u4,u5])|(refine a_cond _ (by(try simp(maxSteps:=2000000) only[Ty.w,simprocAttr,g2,g4,g5,g8,g9,g44,g87,u1,u2,u3,u4,u5]);rfl) (fun hb=>?_) (fun hb=>?_)<;>(try simp only[hb0,decide_eq_true_eq,decide_eq_false_iff_not,simprocAttr]at hb)<;>(try(exfalso;omega)))|(refine hK _ _ ?_;clear hK;try simp only[pst0,simprocAttr]))
                all_goals first|rfl|(simp only[Ty.w,simprocAttr,g2,g4,g5,g8,g9,g44];done)
          ·clear g2 g4 g5 g8 g9 g44 g87
           rintro S h' ⟨rfl,g2,g4,g5,g8,g9,g44,g98⟩
           cases hC:isCmp5 w with
           |true=>
            rw[hC]at g98 hX
            simp only[cond_true]at hX
            obtain⟨x,y,rfl⟩: ∃ x y,rest=[x,y]:=by
             have h2:=count_two (.inr hC) hcnt
             match rest,h2 with
             |[p,b],_=>exact⟨p,b,rfl⟩
            simp only at hX
            have hcc:=fun h=>compare_c (w:=w) (hro x (by simp)) (hro y (by simp)) (expr_c x (hro x (by simp)) (hsr x (by simp))) (expr_c y (hro y (by simp)) (hsr y (by simp))) h
            have hfz:=fun hh=>fm_frz h.next hh (compareP w x y).1
            generalize compareP w x y=CC at hcc hX hfz
            obtain⟨f,c⟩:=CC
            simp only at hcc hfz
            have r0:=Sx.rows_get (l:=[x,y]) (i:=0) rfl
            have r1:=Sx.rows_get (l:=[x,y]) (i:=1) rfl
            generalize Sx.rows [x,y]=R at g5 r0 r1 hlr
            obtain⟨xk,xv,xl,xc,xt,xks⟩:=x
            obtain⟨yk,yv,yl,yc,yt,yks⟩:=y
            obtain⟨fop,fna,far,fpa,fex,fki⟩:=f
            simp only[Sx.cells]at r0 r1 hcc
            simp only[Fm.cells]at hcc hfz
            cases hc2:c==0 with
            |false=>
             simp only[fin,hc2,cond_false]at hX
             have e0:errP c=errV c:=by simp only[errP,hc2,cond_false]
             rw[e0]at hcc
             simp only[errV]at hcc e0
             have W:=And.intro g2 (And.intro g4 (And.intro g5 (And.intro g8 (And.intro g9 (And.intro g44 (And.intro g98 (And.intro r0 (And.intro r1 (And.intro o1 (And.intro o2 (And.intro n1 n2)))))))))))
             repeat'(first|(refine a_draw (by decide+kernel) (fun K hK=>?_);simp(maxSteps:=2000000) only[Ty.w,simprocAttr,W])|(refine a_cond _ (by(try simp(maxSteps:=2000000) only[Ty.w,simprocAttr,W]);rfl) (fun hb=>?_) (fun hb=>?_)<;>(try simp only[hb0,decide_eq_true_eq,decide_eq_false_iff_not,simprocAttr]at hb)<;>(try(exfalso;omega))))
             (first|refine a_dcall0 (hcc _) (by(try simp only[Ty.w,simprocAttr,W,set_set]);try rfl) ?_|refine a_dcallA (hcc _) (by(try simp only[Ty.w,simprocAttr,W,set_set]);try rfl) (by simp only[Ty.w,simprocAttr,W,set_set];try trivial) ?_);simp(maxSteps:=2000000) only[Ty.w,simprocAttr,W,Option.getD_some,set_set]
             repeat'(first|(refine hK _ _ ?_;clear hK;try simp only[pst0,simprocAttr])|(with_reducible refine a_past2 (by simp only[List.forall_mem_cons,Ty.w,simprocAttr,g2,g4,g5,g8,g9,g44,g98,o1,o2,n1,n2]<;>(repeat' apply And.intro)<;>first|trivial|exact .inl (by decide+kernel)) ?_;try simp(maxSteps:=2000000) only[Ty.w,simprocAttr,W]))
             refine PJ.mk2 hpi c fop fna _ _ _ _ ?_ ?_ ?_ ?_ ?_ ?_
             ·simp only[Ty.w,simprocAttr,g2]
             ·simp only[Ty.w,simprocAttr,g8]
             ·simp only[Ty.w,simprocAttr];first|exact e0.symm|rfl
             ·exact ⟨rfl,rfl,rfl,rfl⟩
             ·exact fun _=>hX
             ·intro hh;rw[hc2]at hh;exact absurd hh (by simp)
            |true=>
             simp only[fin,hc2,cond_true]at hX
             have e0:errP c= .sc .nilIface:=by simp only[errP,hc2,cond_true]
             rw[e0]at hcc
             have W:=And.intro g2 (And.intro g4 (And.intro g5 (And.intro g8 (And.intro g9 (And.intro g44 (And.intro g98 (And.intro r0 (And.intro r1 (And.intro o1 (And.intro o2 (And.intro n1 n2)))))))))))
             repeat'(first|(refine a_draw (by decide+kernel) (fun K hK=>?_);simp(maxSteps:=2000000) only[Ty.w,simprocAttr,W])|(refine a_cond _ (by(try simp(maxSteps:=2000000) only[Ty.w,simprocAttr,W]);rfl) (fun hb=>?_) (fun hb=>?_)<;>(try simp only[hb0,decide_eq_true_eq,decide_eq_false_iff_not,simprocAttr]at hb)<;>(try(exfalso;omega))))
             (first|refine a_dcall0 (hcc _) (by(try simp only[Ty.w,simprocAttr,W,set_set]);try rfl) ?_|refine a_dcallA (hcc _) (by(try simp only[Ty.w,simprocAttr,W,set_set]);try rfl) (by simp only[Ty.w,simprocAttr,W,set_set];try trivial) ?_);simp(maxSteps:=2000000) only[Ty.w,simprocAttr,W,Option.getD_some,set_set]
             repeat'(first|(refine hK _ _ ?_;clear hK;try simp only[pst0,simprocAttr])|(with_reducible refine a_past2 (by simp only[List.forall_mem_cons,Ty.w,simprocAttr,g2,g4,g5,g8,g9,g44,g98,o1,o2,n1,n2]<;>(repeat' apply And.intro)<;>first|trivial|exact .inl (by decide+kernel)) ?_;try simp(maxSteps:=2000000) only[Ty.w,simprocAttr,W]))
             refine PJ.mk2 hpi c fop fna _ _ _ _ ?_ ?_ ?_ ?_ ?_ ?_
             ·simp only[Ty.w,simprocAttr,g2]
             ·simp only[Ty.w,simprocAttr,g8]
             ·simp only[Ty.w,simprocAttr];first|exact e0.symm|rfl
             ·exact ⟨rfl,rfl,rfl,rfl⟩
             ·intro hh;rw[hc2]at hh;exact absurd hh (by simp)
             ·subst hX;exact fun _=>⟨by simpa using hc2,fun hh=>by simpa only[Fm.cells]using hfz hh⟩
           |false=>
            rw[hC]at g98 hX
            simp only[cond_false]at hX
            have hw':w.size≤9223372036854775807:=by unfold bigN at hw;omega
            have hn:=fun h:Heap=>fname_c (h:=h) hw'
            cases hN1:nameB w with
            |false=>
             rw[hN1]at hn hX
             simp only[cond_false]at hX
             repeat'(first|refine a_seq fun K hK=>?_|(refine a_regionS ?_;simp(maxSteps:=2000000) only[Ty.w,simprocAttr,g2,g4,g5,g8,g9,g44,g98,o1,o2])|(refine a_cond _ (by(try simp(maxSteps:=2000000) only[Ty.w,simprocAttr,g2,g4,g5,g8,g9,g44,g98,o1,o2]);rfl) (fun hb=>?_) (fun hb=>?_)<;>(try simp only[hb0,decide_eq_true_eq,decide_eq_false_iff_not,simprocAttr]at hb)<;>(try(exfalso;omega))))
             refine owp_useQ (hn _) (by(try simp only[Ty.w,simprocAttr,g2,g4,g5,g8,g9,g44,g98]);try rfl) ?_;simp(maxSteps:=2000000) only[Ty.w,simprocAttr,g2,g4,g5,g8,g9,g44,g98]
             repeat'(first|refine a_seq fun K hK=>?_|((first|refine a_regionS ?_|refine a_ret ?_);simp(maxSteps:=2000000) only[Ty.w,simprocAttr,g2,g4,g5,g8,g9,g44,g98,o1,o2,Bool.not_false])|(refine hK _ _ ?_;clear hK;try simp only[pst0,simprocAttr]))
             exact errRet (.inr rfl) (hpi.grow.set (Nat.le_refl _) _) hX
            |true=>
             rw[hN1]at hn hX
             simp only[cond_true]at hX
             have ht:=fun h:Heap=>terms_c hrl hro h
             generalize termsM rest=T at ht hX
             obtain⟨t,c⟩:=T
             simp only at ht hX
             cases hc2:c==0 with
             |false=>
              rw[hc2]at hX
              simp only[cond_false]at hX
              have e0:errP c=errV c:=by simp only[errP,hc2,cond_false]
              rw[e0]at ht
              simp only[errV]at ht e0
              have W:=And.intro g2 (And.intro g4 (And.intro g5 (And.intro g8 (And.intro g9 (And.intro g44 (And.intro g98 (And.intro o1 (And.intro o2 (And.intro n1 n2)))))))))
              repeat'(first|refine a_seq fun K hK=>?_|(refine a_regionS ?_;simp(maxSteps:=2000000) only[Ty.w,simprocAttr,W])|(refine a_cond _ (by(try simp(maxSteps:=2000000) only[Ty.w,simprocAttr,W]);rfl) (fun hb=>?_) (fun hb=>?_)<;>(try simp only[hb0,decide_eq_true_eq,decide_eq_false_iff_not,simprocAttr]at hb)<;>(try(exfalso;omega))))
              refine owp_useQ (hn _) (by(try simp only[Ty.w,simprocAttr,W]);try rfl) ?_;simp(maxSteps:=2000000) only[Ty.w,simprocAttr,W]
              repeat'(first|refine a_seq fun K hK=>?_|((first|refine a_regionS ?_|refine a_region (fun K hK=>?_));simp(maxSteps:=2000000) only[Ty.w,simprocAttr,W,Bool.not_true])|(refine a_skip ?_;try simp only[pst0,simprocAttr])|(refine a_cond _ (by(try simp(maxSteps:=2000000) only[Ty.w,simprocAttr,W,Bool.not_true]);rfl) (fun hb=>?_) (fun hb=>?_)<;>(try simp only[hb0,decide_eq_true_eq,decide_eq_false_iff_not,simprocAttr]at hb)<;>(try(exfalso;omega)))|(refine hK _ _ ?_;clear hK;try simp only[pst0,simprocAttr]))
              refine owp_useQ (ht _) (by(try simp only[Ty.w,simprocAttr,W,set_set]);try rfl) ?_;simp(maxSteps:=2000000) only[Ty.w,simprocAttr,W,set_set]
              repeat'(refine hK _ _ ?_;clear hK;try simp only[pst0,simprocAttr])
              try simp only[set_set]
              refine PJ.mk2 hpi c ⟨#[97,116,111,109]⟩ w _ _ _ _ ?_ ?_ ?_ ?_ ?_ ?_
              ·simp only[Ty.w,simprocAttr,g2]
              ·simp only[Ty.w,simprocAttr,g8]
              ·simp only[Ty.w,simprocAttr];first|exact e0.symm|rfl
              ·exact ⟨rfl,rfl,rfl,rfl⟩
              ·exact fun _=>hX
              ·intro hh;rw[hc2]at hh;exact absurd hh (by simp)
             |true=>
              rw[hc2]at hX
              simp only[cond_true]at hX
              have e0:errP c= .sc .nilIface:=by simp only[errP,hc2,cond_true]
              rw[e0]at ht
              have W:=And.intro g2 (And.intro g4 (And.intro g5 (And.intro g8 (And.intro g9 (And.intro g44 (And.intro g98 (And.intro o1 (And.intro o2 (And.intro n1 n2)))))))))
              repeat'(first|refine a_seq fun K hK=>?_|(refine a_regionS ?_;simp(maxSteps:=2000000) only[Ty.w,simprocAttr,W])|(refine a_cond _ (by(try simp(maxSteps:=2000000) only[Ty.w,simprocAttr,W]);rfl) (fun hb=>?_) (fun hb=>?_)<;>(try simp only[hb0,decide_eq_true_eq,decide_eq_false_iff_not,simprocAttr]at hb)<;>(try(exfalso;omega))))
              refine owp_useQ (hn _) (by(try simp only[Ty.w,simprocAttr,W]);try rfl) ?_;simp(maxSteps:=2000000) only[Ty.w,simprocAttr,W]
              repeat'(first|refine a_seq fun K hK=>?_|((first|refine a_regionS ?_|refine a_region (fun K hK=>?_));simp(maxSteps:=2000000) only[Ty.w,simprocAttr,W,Bool.not_true])|(refine a_skip ?_;try simp only[pst0,simprocAttr])|(refine a_cond _ (by(try simp(maxSteps:=2000000) only[Ty.w,simprocAttr,W,Bool.not_true]);rfl) (fun hb=>?_) (fun hb=>?_)<;>(try simp only[hb0,decide_eq_true_eq,decide_eq_false_iff_not,simprocAttr]at hb)<;>(try(exfalso;omega)))|(refine hK _ _ ?_;clear hK;try simp only[pst0,simprocAttr]))
              refine owp_useQ (ht _) (by(try simp only[Ty.w,simprocAttr,W,set_set]);try rfl) ?_;simp(maxSteps:=2000000) only[Ty.w,simprocAttr,W,set_set]
              repeat'(refine hK _ _ ?_;clear hK;try simp only[pst0,simprocAttr])
              try simp only[set_set]
              refine PJ.mk2 hpi c ⟨#[97,116,111,109]⟩ w _ _ _ _ ?_ ?_ ?_ ?_ ?_ ?_
              ·simp only[Ty.w,simprocAttr,g2]
              ·simp only[Ty.w,simprocAttr,g8]
              ·simp only[Ty.w,simprocAttr];first|exact e0.symm|rfl
              ·exact ⟨rfl,rfl,rfl,rfl⟩
              ·intro hh;rw[hc2]at hh;exact absurd hh (by simp)
              ·subst hX;refine fun _=>⟨rfl,fun hh=>?_⟩;simp only[Fm.cells,FrzL];refine⟨?_,?_,?_,?_,?_,?_,trivial⟩<;>(unfold FrzTo;first|rfl|exact .inr (.inl ⟨rfl,.inr rfl⟩)|exact .inl ⟨rfl,strs_in _ _⟩|exact .inl ⟨rfl,pms_in _ _⟩|exact .inl ⟨rfl,fms_in _ _⟩)
     ·clear g2 g4 g5 g8 g9 hpi
      rintro S h' ⟨g2,g8,hg,c,a,b,p2,p3,p4,p5,g9,o1,o2,⟨z2,z3,z4,z5⟩,hc,hd⟩
      simp only[fmZ]at o1
      cases hcc:c==0 with
      |false=>
       have hF:=hc hcc
       have e0:errP c=errV c:=by simp only[errP,hcc,cond_false]
       rw[e0]at g9
       simp only[errV]at g9
       subst hF
       rw[e0]
       simp only[errV]
       repeat'(first|refine a_seq fun K hK=>?_|((first|refine a_regionS ?_|refine a_ret ?_);simp(maxSteps:=2000000) only[Ty.w,simprocAttr,g2,g8,g9,o1,o2])|(refine hK _ _ ?_;clear hK;try simp only[pst0,simprocAttr]))
       refine⟨?_,hg.set (Nat.le_refl _) _⟩
       simp only[zeroFm,Fm.cells,Ex.rows,Fm.rows,pmRows,strRows,List.map_nil,FrzTo,FrzL]
       exact⟨_,rfl,⟨_,rfl,rfl,rfl,.inr (.inl ⟨rfl,.inr rfl⟩),.inr (.inl ⟨rfl,.inr rfl⟩),.inr (.inl ⟨rfl,.inr rfl⟩),.inr (.inl ⟨rfl,.inr rfl⟩),trivial⟩,rfl,trivial⟩
      |true=>
       have hF:=hd hcc
       have e0:errP c= .sc .nilIface:=by simp only[errP,hcc,cond_true]
       rw[e0]at g9
       have e2:errP F.2= .sc .nilIface:=by rw[hF.1];try rfl
       rw[e2]
       repeat'(first|refine a_seq fun K hK=>?_|((first|refine a_regionS ?_|refine a_ret ?_);simp(maxSteps:=2000000) only[Ty.w,simprocAttr,g2,g8,g9,o1,o2,z2,z3,z4,z5])|(refine a_skip ?_;try simp only[pst0,simprocAttr])|(refine a_cond _ (by(try simp(maxSteps:=2000000) only[Ty.w,simprocAttr,g2,g8,g9,o1,o2,z2,z3,z4,z5]);rfl) (fun hb=>?_) (fun hb=>?_)<;>(try simp only[hb0,decide_eq_true_eq,decide_eq_false_iff_not,simprocAttr]at hb)<;>(try(exfalso;omega)))|(refine hK _ _ ?_;clear hK;try simp only[pst0,simprocAttr]))
       refine⟨?_,hg.set (Nat.le_refl _) _⟩
       have h1:=hF.2 (h'.set h.next (.arr 6 [[sPV a,sPV b,p2,p3,p4,p5]]))
       unfold FrzTo
       refine⟨_,rfl,?_⟩
       unfold FrzL
       refine⟨?_,by unfold FrzL;exact⟨by simp only[FrzTo],by simp only[FrzL]⟩⟩
       unfold FrzTo
       exact⟨_,rfl,h1⟩
end Go.Proofs.Ytjeolbgpllbemaa
namespace Go.Proofs.Ytjeolbgpllbemaa
open Go.AM
set_option maxHeartbeats 4000000
set_option maxRecDepth 20000
theorem parse_c: ∀ x:Sx,x.ok→x.small→ ∀ h:Heap,PCall Try.prog 88 [.agg x.cells] h fun r h'=>r= .tup [.agg (fmP x).1.cells,errP (fmP x).2]∧h'=h:=by
 refine Sx.ind ?_
 intro kind value line col text kids ih hok hsm h
 have hok':=hok
 simp only[Sx.ok]at hok'
 obtain⟨_,_,_,_,hks⟩:=hok'
 rw[Sx.oks_iff]at hks
 have hsm':=hsm
 simp only[Sx.small]at hsm'
 have hss:=hsm'.2
 rw[Sx.smalls_iff]at hss
 exact parse_step hok hsm (fun x hx=>ih x hx (hks x hx) (hss x hx)) h
theorem Parse_c{x:Sx}(hok:x.ok)(h:Heap):PCall Try.prog 65 [.agg x.cells] h fun r h'=>r= .tup [.agg (parseF x).1.cells,errP (parseF x).2]∧h'=h:=by
 refine PCall.frz Ty.hb_65 ?_
 have hv:=fun h:Heap=>svalid_c hok h
 have hX:parseF x=(if(svalid x 0 0).1=true then(if(fmP x).2=0 then(if validF (fmP x).1=true then((fmP x).1,0)else(zeroFm,5))else(zeroFm,(fmP x).2))else(zeroFm,2)):=rfl
 generalize parseF x=F at hX
 have bad: ∀ (c:Int)(h':Heap),(c==0)=false→Grow h h'→F=(zeroFm,c)→FrzTo h.next h' (.tup [.agg F.1.cells,errP F.2]) (.tup [.agg [.sc (.string ⟨#[]⟩),.sc (.string ⟨#[]⟩),.sc (.slice none 0 0),.sc (.slice none 0 0),.sc (.slice none 0 0),.sc (.slice none 0 0)],errV c])∧Grow h h':=by
  intro c h' hc hg hF
  subst hF
  have:errP c=errV c:=by simp only[errP,hc,cond_false]
  simp only[this]
  refine⟨?_,hg⟩
  simp only[errV,zeroFm,Fm.cells,Ex.rows,Fm.rows,pmRows,strRows,List.map_nil,FrzTo,FrzL]
  exact⟨_,rfl,⟨_,rfl,rfl,rfl,.inr (.inl ⟨rfl,.inr rfl⟩),.inr (.inl ⟨rfl,.inr rfl⟩),.inr (.inl ⟨rfl,.inr rfl⟩),.inr (.inl ⟨rfl,.inr rfl⟩),trivial⟩,rfl,trivial⟩
 simp only[errV]at bad
 have hg1: ∀ r,Grow h ((h.new (.arr 6 [[.sc (.string ⟨#[]⟩),.sc (.string ⟨#[]⟩),.sc (.slice none 0 0),.sc (.slice none 0 0),.sc (.slice none 0 0),.sc (.slice none 0 0)]])).set h.next r):=fun r=>((Grow.refl h).new _).set (Nat.le_refl _) _
 have hg2: ∀ o1 o2 r,Grow h ((((h.new (.arr 6 [[.sc (.string ⟨#[]⟩),.sc (.string ⟨#[]⟩),.sc (.slice none 0 0),.sc (.slice none 0 0),.sc (.slice none 0 0),.sc (.slice none 0 0)]])).new o1).set (h.next+1) o2).set h.next r):=fun o1 o2 r=>((((Grow.refl h).new _).new _).set (Nat.le_succ _) _).set (Nat.le_refl _) _
 have n1:(h.next=h.next+1)=False:=by simp
 cases v1:(svalid x 0 0).1 with
 |false=>
  rw[v1]at hv
  rw[if_neg (by rw[v1];simp)]at hX
  obtain⟨kind,value,line,col,text,kids⟩:=x
  simp only[Sx.cells]at hv⊢
  refine pcall_body (ow:=fun _=>false) (wf:=fun _=>false) Ty.mixed Try.func65 rfl Ty.hb_65 (by rw[Try.ntmps65];simp) ?_
  rw[Try.ntmps65,Try.results65]
  repeat'(first|refine a_seq fun K hK=>?_|(refine a_regionS ?_;simp(maxSteps:=2000000) only[Ty.w,simprocAttr])|(refine hK _ _ ?_;clear hK;try simp only[pst0,simprocAttr]))
  refine owp_useQ (hv _) (by(try simp only[Ty.w,simprocAttr,]);try rfl) ?_;simp(maxSteps:=2000000) only[Ty.w,simprocAttr,]
  repeat'(first|refine a_seq fun K hK=>?_|((first|refine a_regionS ?_|refine a_ret ?_);simp(maxSteps:=2000000) only[Ty.w,simprocAttr,Bool.not_false])|(refine hK _ _ ?_;clear hK;try simp only[pst0,simprocAttr]))
  exact bad 2 _ rfl (hg1 _) hX
 |true=>
  have hsm:=svalid_small v1
  have hp:=parse_c x hok hsm
  have hfo:=fmP_ok x hok hsm
  rw[v1]at hv
  rw[if_pos v1]at hX
  have hfz:=fun n hh=>fm_frz n hh (fmP x).1
  generalize fmP x=E at hp hfo hX hfz
  obtain⟨f,c⟩:=E
  simp only at hp hfo hX hfz
  obtain⟨kind,value,line,col,text,kids⟩:=x
  simp only[Sx.cells]at hv hp⊢
  cases hc:c==0 with
  |false=>
   rw[if_neg (by simpa using hc)]at hX
   have e0:errP c=errV c:=by simp only[errP,hc,cond_false]
   rw[e0]at hp
   simp only[errV]at hp
   obtain⟨fop,fna,far,fpa,fex,fki⟩:=f
   simp only[Fm.cells]at hp
   refine pcall_body (ow:=fun _=>false) (wf:=fun _=>false) Ty.mixed Try.func65 rfl Ty.hb_65 (by rw[Try.ntmps65];simp) ?_
   rw[Try.ntmps65,Try.results65]
   repeat'(first|refine a_seq fun K hK=>?_|(refine a_regionS ?_;simp(maxSteps:=2000000) only[Ty.w,simprocAttr])|(refine hK _ _ ?_;clear hK;try simp only[pst0,simprocAttr]))
   refine owp_useQ (hv _) (by(try simp only[Ty.w,simprocAttr,]);try rfl) ?_;simp(maxSteps:=2000000) only[Ty.w,simprocAttr,]
   repeat'(first|refine a_seq fun K hK=>?_|(refine a_regionS ?_;simp(maxSteps:=2000000) only[Ty.w,simprocAttr,Bool.not_true])|(refine a_skip ?_;try simp only[pst0,simprocAttr])|(refine a_cond _ (by(try simp(maxSteps:=2000000) only[Ty.w,simprocAttr,Bool.not_true]);rfl) (fun hb=>?_) (fun hb=>?_)<;>(try simp only[hb0,decide_eq_true_eq,decide_eq_false_iff_not,simprocAttr]at hb)<;>(try(exfalso;omega)))|(refine hK _ _ ?_;clear hK;try simp only[pst0,simprocAttr]))
   refine owp_useQ (hp _) (by(try simp only[Ty.w,simprocAttr,]);try rfl) ?_;simp(maxSteps:=2000000) only[Ty.w,simprocAttr,]
   repeat'(first|refine a_seq fun K hK=>?_|((first|refine a_regionS ?_|refine a_ret ?_);simp(maxSteps:=2000000) only[Ty.w,simprocAttr,n1,nsucc])|(refine hK _ _ ?_;clear hK;try simp only[pst0,simprocAttr]))
   exact bad c _ hc (hg2 _ _ _) hX
  |true=>
   rw[if_pos (by simpa using hc)]at hX
   have e0:errP c= .sc .nilIface:=by simp only[errP,hc,cond_true]
   rw[e0]at hp
   have hV:=fun h:Heap=>fvalid_c hfo.1 hfo.2 h
   cases v2:validF f with
   |false=>
    rw[v2]at hV
    rw[if_neg (by rw[v2];simp)]at hX
    obtain⟨fop,fna,far,fpa,fex,fki⟩:=f
    simp only[Fm.cells]at hp hV
    refine pcall_body (ow:=fun _=>false) (wf:=fun _=>false) Ty.mixed Try.func65 rfl Ty.hb_65 (by rw[Try.ntmps65];simp) ?_
    rw[Try.ntmps65,Try.results65]
    repeat'(first|refine a_seq fun K hK=>?_|(refine a_regionS ?_;simp(maxSteps:=2000000) only[Ty.w,simprocAttr])|(refine hK _ _ ?_;clear hK;try simp only[pst0,simprocAttr]))
    refine owp_useQ (hv _) (by(try simp only[Ty.w,simprocAttr,]);try rfl) ?_;simp(maxSteps:=2000000) only[Ty.w,simprocAttr,]
    repeat'(first|refine a_seq fun K hK=>?_|(refine a_regionS ?_;simp(maxSteps:=2000000) only[Ty.w,simprocAttr,Bool.not_true])|(refine a_skip ?_;try simp only[pst0,simprocAttr])|(refine a_cond _ (by(try simp(maxSteps:=2000000) only[Ty.w,simprocAttr,Bool.not_true]);rfl) (fun hb=>?_) (fun hb=>?_)<;>(try simp only[hb0,decide_eq_true_eq,decide_eq_false_iff_not,simprocAttr]at hb)<;>(try(exfalso;omega)))|(refine hK _ _ ?_;clear hK;try simp only[pst0,simprocAttr]))
    refine owp_useQ (hp _) (by(try simp only[Ty.w,simprocAttr,]);try rfl) ?_;simp(maxSteps:=2000000) only[Ty.w,simprocAttr,]
    repeat'(first|refine a_seq fun K hK=>?_|(refine a_regionS ?_;simp(maxSteps:=2000000) only[Ty.w,simprocAttr,n1,nsucc])|(refine a_skip ?_;try simp only[pst0,simprocAttr])|(refine a_cond _ (by(try simp(maxSteps:=2000000) only[Ty.w,simprocAttr,n1,nsucc]);rfl) (fun hb=>?_) (fun hb=>?_)<;>(try simp only[hb0,decide_eq_true_eq,decide_eq_false_iff_not,simprocAttr]at hb)<;>(try(exfalso;omega)))|(refine hK _ _ ?_;clear hK;try simp only[pst0,simprocAttr]))
    refine owp_useQ (hV _) (by(try simp only[Ty.w,simprocAttr,n1,nsucc]);try rfl) ?_;simp(maxSteps:=2000000) only[Ty.w,simprocAttr,n1,nsucc]
    repeat'(first|refine a_seq fun K hK=>?_|((first|refine a_regionS ?_|refine a_ret ?_);simp(maxSteps:=2000000) only[Ty.w,simprocAttr,n1,nsucc,Bool.not_false])|(refine hK _ _ ?_;clear hK;try simp only[pst0,simprocAttr]))
    exact bad 5 _ rfl (hg2 _ _ _) hX
   |true=>
    rw[v2]at hV
    rw[if_pos v2]at hX
    subst hX
    obtain⟨fop,fna,far,fpa,fex,fki⟩:=f
    simp only[Fm.cells]at hp hV hfz
    have e2:errP 0= .sc .nilIface:=rfl
    simp only[e2,Fm.cells]
    refine pcall_body (ow:=fun _=>false) (wf:=fun _=>false) Ty.mixed Try.func65 rfl Ty.hb_65 (by rw[Try.ntmps65];simp) ?_
    rw[Try.ntmps65,Try.results65]
    repeat'(first|refine a_seq fun K hK=>?_|(refine a_regionS ?_;simp(maxSteps:=2000000) only[Ty.w,simprocAttr])|(refine hK _ _ ?_;clear hK;try simp only[pst0,simprocAttr]))
    refine owp_useQ (hv _) (by(try simp only[Ty.w,simprocAttr,]);try rfl) ?_;simp(maxSteps:=2000000) only[Ty.w,simprocAttr,]
    repeat'(first|refine a_seq fun K hK=>?_|(refine a_regionS ?_;simp(maxSteps:=2000000) only[Ty.w,simprocAttr,Bool.not_true])|(refine a_skip ?_;try simp only[pst0,simprocAttr])|(refine a_cond _ (by(try simp(maxSteps:=2000000) only[Ty.w,simprocAttr,Bool.not_true]);rfl) (fun hb=>?_) (fun hb=>?_)<;>(try simp only[hb0,decide_eq_true_eq,decide_eq_false_iff_not,simprocAttr]at hb)<;>(try(exfalso;omega)))|(refine hK _ _ ?_;clear hK;try simp only[pst0,simprocAttr]))
    refine owp_useQ (hp _) (by(try simp only[Ty.w,simprocAttr,]);try rfl) ?_;simp(maxSteps:=2000000) only[Ty.w,simprocAttr,]
    repeat'(first|refine a_seq fun K hK=>?_|(refine a_regionS ?_;simp(maxSteps:=2000000) only[Ty.w,simprocAttr,n1,nsucc])|(refine a_skip ?_;try simp only[pst0,simprocAttr])|(refine a_cond _ (by(try simp(maxSteps:=2000000) only[Ty.w,simprocAttr,n1,nsucc]);rfl) (fun hb=>?_) (fun hb=>?_)<;>(try simp only[hb0,decide_eq_true_eq,decide_eq_false_iff_not,simprocAttr]at hb)<;>(try(exfalso;omega)))|(refine hK _ _ ?_;clear hK;try simp only[pst0,simprocAttr]))
    refine owp_useQ (hV _) (by(try simp only[Ty.w,simprocAttr,n1,nsucc]);try rfl) ?_;simp(maxSteps:=2000000) only[Ty.w,simprocAttr,n1,nsucc]
    repeat'(first|refine a_seq fun K hK=>?_|((first|refine a_regionS ?_|refine a_ret ?_);simp(maxSteps:=2000000) only[Ty.w,simprocAttr,n1,nsucc,Bool.not_true])|(refine a_skip ?_;try simp only[pst0,simprocAttr])|(refine a_cond _ (by(try simp(maxSteps:=2000000) only[Ty.w,simprocAttr,n1,nsucc,Bool.not_true]);rfl) (fun hb=>?_) (fun hb=>?_)<;>(try simp only[hb0,decide_eq_true_eq,decide_eq_false_iff_not,simprocAttr]at hb)<;>(try(exfalso;omega)))|(refine hK _ _ ?_;clear hK;try simp only[pst0,simprocAttr]))
    refine⟨?_,hg2 _ _ _⟩
    have h1:=fun hh=>hfz h.next hh
    unfold FrzTo
    refine⟨_,rfl,?_⟩
    unfold FrzL
    refine⟨?_,by unfold FrzL;exact⟨by simp only[FrzTo],by simp only[FrzL]⟩⟩
    unfold FrzTo
    exact⟨_,rfl,h1 _⟩
end Go.Proofs.Ytjeolbgpllbemaa
namespace Go.Proofs.Ytjeolbgpllbemaa
open Go.AM
set_option maxHeartbeats 8000000
set_option maxRecDepth 20000
theorem headM_small{x:Sx}(hsm:x.small){w:ByteArray}{l:List Sx}(h:headM x=some (w,l)):l.length≤1048576∧ ∀ y∈l,y.small:=by
 obtain⟨kind,value,line,col,text,kids⟩:=x
 simp only[Sx.small]at hsm
 obtain⟨hk,hks⟩:=hsm
 simp only[headM]at h
 split at h
 ·cases kids with
  |nil=>simp at h
  |cons y rest=>
   simp only at h
   rw[Sx.smalls_iff]at hks
   cases hh:kindOf y==1 with
   |false=>rw[hh]at h;simp at h
   |true=>
    rw[hh]at h
    simp only[cond_true,Option.some.injEq,Prod.mk.injEq]at h
    obtain⟨rfl,rfl⟩:=h
    exact⟨by simp at hk;omega,fun z hz=>hks z (by simp[hz])⟩
 ·simp at h
def NilOr(z:Nat)(rows:List (List PV))(q:PV):Prop:=q= .imm z rows∨(rows=[]∧q= .sc (.slice none 0 0))
theorem NilOr.cell{z:Nat}{rows:List (List PV)}{q:PV}(h:NilOr z rows q):q.cells=[q]∧oneC q=true:=by
 rcases h with rfl|⟨_,rfl⟩<;>exact⟨rfl,rfl⟩
theorem NilOr.frz{z n:Nat}{rows:List (List PV)}{q:PV}(h:NilOr z rows q)(H:Heap)(hin:inNR n rows):FrzTo n H (.imm z rows) q:=by
 rcases h with rfl|⟨rfl,rfl⟩
 ·exact frz_imm hin
 ·simp only[FrzTo];exact .inr (.inl ⟨trivial,.inr trivial⟩)
structure PbI(h0:Heap)(id:Nat)(p:Pb)(h:Heap):Prop where
 grow:Grow h0 h
 idl:h0.next≤id∧id<h.next
 ex: ∃ o i v g2 g3 g4 g5 gop gna gar gpa gex gki,p.goal= .mk gop gna gar gpa gex gki∧h.obj id=some (.arr 11 [[sPV p.name,sPV p.domain,o,i,v,sPV gop,sPV gna,g2,g3,g4,g5]])∧
  NilOr 2 (pmRows p.objects) o∧Tl h (id+1) 2 i (atRows p.init)∧Tl h (id+1) 3 v (vlRows p.values)∧
  NilOr 1 (strRows gar) g2∧NilOr 2 (pmRows gpa) g3∧NilOr 5 (Ex.rows gex) g4∧NilOr 6 (Fm.rows gki) g5
theorem PbI.tmp{h0 h:Heap}{id:Nat}{p:Pb}(i:PbI h0 id p h)(o o':AObj):PbI h0 id p (tmpH h o o'):=by
 obtain⟨g,l,o1,i1,v1,g2,g3,g4,g5,gop,gna,gar,gpa,gex,gki,e1,e2,e3,e4,e5,e6⟩:=i
 exact⟨g.tmp o o',⟨l.1,by rw[tmpH_next];omega⟩,o1,i1,v1,g2,g3,g4,g5,gop,gna,gar,gpa,gex,gki,e1,by rw[tmpH_obj l.2];exact e2,e3,e4.tmp o o',e5.tmp o o',e6⟩
theorem atRows_app(l:List At)(a:At):atRows l++[atRow a]=atRows (l++[a]):=by simp[atRows]
theorem vlRows_app(l:List Vl)(a:Vl):vlRows l++[vlRow a]=vlRows (l++[a]):=by simp[vlRows]
theorem Tl.other{h:Heap}{lo z z':Nat}{p q:PV}{R R':List (List PV)}{H:Heap}(tp:Tl h lo z p R)(tq:Tl h lo z' q R')(hz:z≠z')(t1:isTail h p=some (H,R))(t3:H.next=h.next):Tl H lo z' q R':=by
 rcases tq with tq|⟨id',a1,a2,rfl,a3⟩
 ·exact .inl tq
 ·refine .inr ⟨id',a1,by omega,rfl,?_⟩
  rcases tp with⟨rfl,rfl|rfl⟩|⟨id,b1,b2,rfl,b3⟩
  ·simp only[isTail,Option.some.injEq,Prod.mk.injEq]at t1;rw[← t1.1];exact a3
  ·simp only[isTail,Option.some.injEq,Prod.mk.injEq]at t1;rw[← t1.1];exact a3
  ·have hne:id'≠id:=by
    intro e
    subst e
    rw[a3]at b3
    simp only[Option.some.injEq,AObj.arr.injEq]at b3
    exact hz b3.1.symm
   simp only[isTail,b3]at t1
   split at t1
   ·simp only[Option.some.injEq,Prod.mk.injEq]at t1
    rw[← t1.1]
    simp only[Heap.kill]
    rw[if_neg hne];exact a3
   ·cases t1
theorem element_c{h0:Heap}{id:Nat}{p:Pb}{x:Sx}(hok:x.ok)(hsm:x.small)(hb1:p.init.length≤2199023255552)(hb2:p.values.length≤2199023255552)(h:Heap)(hI:PbI h0 id p h):
  PCall Try.prog 64 [.ptr id 0 0,.agg x.cells] h fun r h'=>r=errP (elemP p.init p.values x).2.2∧PbI h0 id ⟨p.name,p.domain,p.objects,(elemP p.init p.values x).1,(elemP p.init p.values x).2.1,p.goal⟩ h':=by
 have hc:=phead_c hok
 have ho:=fun w l=>headM_ok2 hok (w:=w) (l:=l)
 have hs:=fun w l=>headM_small hsm (w:=w) (l:=l)
 generalize hF:elemP p.init p.values x=F
 unfold elemP at hF
 have bad: ∀ (c:Int)(h':Heap),(c=2∨c=8)→F=(p.init,p.values,c)→PbI h0 id p h'→errV c=errP F.2.2∧PbI h0 id ⟨p.name,p.domain,p.objects,F.1,F.2.1,p.goal⟩ h':=by
  intro c h' hc hf hI
  subst hf
  exact⟨by rcases hc with rfl|rfl<;>rfl,hI⟩
 simp only[errV]at bad
 obtain⟨kind,value,line,col,text,kids⟩:=x
 simp only[Sx.cells]at hc⊢
 generalize headM (.mk kind value line col text kids)=D at hF hc ho hs
 cases D with
 |none=>
  simp only at hF
  simp only[headV]at hc
  refine pcall_body (ow:=fun _=>false) (wf:=fun _=>false) Ty.mixed Try.func64 rfl Ty.hb_64 (by rw[Try.ntmps64];simp) ?_
  rw[Try.ntmps64,Try.results64]
  repeat'(first|refine a_seq fun K hK=>?_|(refine a_regionS ?_;simp(maxSteps:=2000000) only[Ty.w,simprocAttr])|(refine hK _ _ ?_;clear hK;try simp only[pst0,simprocAttr]))
  refine owp_useQ (hc _) (by(try simp only[Ty.w,simprocAttr,]);try rfl) ?_;simp(maxSteps:=2000000) only[Ty.w,simprocAttr,]
  repeat'(first|refine a_seq fun K hK=>?_|((first|refine a_regionS ?_|refine a_ret ?_);simp(maxSteps:=2000000) only[Ty.w,simprocAttr,Bool.not_false])|(refine hK _ _ ?_;clear hK;try simp only[pst0,simprocAttr]))
  exact bad 2 _ (.inl rfl) hF.symm hI
 |some wr=>
  obtain⟨w,rest⟩:=wr
  obtain⟨o1,o2,o3⟩:=ho w rest rfl
  obtain⟨s2,s3⟩:=hs w rest rfl
  clear ho hs
  simp only[headV]at hc
  simp only at hF
  have hl:=Sx.rows_len rest
  cases q1:(w.data.toList==(#[61]:Array UInt8).toList)with
  |false=>
   rw[show bEq w opEq=false from q1]at hF
   simp only[cond_false]at hF
   have ha:=fun h:Heap=>parseAtom_c o1 s2 o3 h
   generalize atomP w rest=A at hF ha
   obtain⟨a,c⟩:=A
   simp only at hF ha
   cases hcc:c==0 with
   |false=>
    rw[hcc]at hF
    simp only[cond_false]at hF
    have e0:errP c=errV c:=by simp only[errP,hcc,cond_false]
    rw[e0]at ha
    simp only[errV,atRow]at ha
    refine pcall_body (ow:=fun _=>false) (wf:=fun _=>false) Ty.mixed Try.func64 rfl Ty.hb_64 (by rw[Try.ntmps64];simp) ?_
    rw[Try.ntmps64,Try.results64]
    repeat'(first|refine a_seq fun K hK=>?_|(refine a_regionS ?_;simp(maxSteps:=2000000) only[Ty.w,simprocAttr])|(refine hK _ _ ?_;clear hK;try simp only[pst0,simprocAttr]))
    refine owp_useQ (hc _) (by(try simp only[Ty.w,simprocAttr,]);try rfl) ?_;simp(maxSteps:=2000000) only[Ty.w,simprocAttr,]
    repeat'(first|refine a_seq fun K hK=>?_|(refine a_regionS ?_;simp(maxSteps:=2000000) only[Ty.w,simprocAttr,Bool.not_true,q1])|(refine a_skip ?_;try simp only[pst0,simprocAttr])|(refine a_cond _ (by(try simp(maxSteps:=2000000) only[Ty.w,simprocAttr,Bool.not_true,q1]);rfl) (fun hb=>?_) (fun hb=>?_)<;>(try simp only[hb0,decide_eq_true_eq,decide_eq_false_iff_not,simprocAttr]at hb)<;>(try(exfalso;omega)))|(refine hK _ _ ?_;clear hK;try simp only[pst0,simprocAttr]))
    refine owp_useQ (ha _) (by(try simp only[Ty.w,simprocAttr,]);try rfl) ?_;simp(maxSteps:=2000000) only[Ty.w,simprocAttr,]
    repeat'(first|(with_reducible refine a_hold 6 ?_)|(refine hK _ _ ?_;clear hK;try simp only[pst0,simprocAttr]))
    refine⟨?_⟩
    refine a_tmp 8 rfl (by simp only[Ty.w,simprocAttr]) (fun n H=>by simp only[FrzL,FrzTo,and_true,true_and];exact .inl (strs_in _ _)) ?_
    have hI2:=hI.tmp (.arr 2 [[.sc (.string ⟨#[]⟩),.sc (.slice none 0 0)]]) (.arr 2 [atRow a])
    simp only[atRow]at hI2
    repeat'(first|refine a_seq fun K hK=>?_|((first|refine a_regionS ?_|refine a_ret ?_);simp(maxSteps:=2000000) only[Ty.w,simprocAttr])|(refine hK _ _ ?_;clear hK;try simp only[pst0,simprocAttr]))
    subst hF
    exact⟨e0.symm,hI2⟩
   |true=>
    rw[hcc]at hF
    simp only[cond_true]at hF
    have e0:errP c= .sc .nilIface:=by simp only[errP,hcc,cond_true]
    rw[e0]at ha
    obtain⟨an,aa⟩:=a
    simp only[atRow]at ha
    refine pcall_body (ow:=fun _=>false) (wf:=fun _=>false) Ty.mixed Try.func64 rfl Ty.hb_64 (by rw[Try.ntmps64];simp) ?_
    rw[Try.ntmps64,Try.results64]
    repeat'(first|refine a_seq fun K hK=>?_|(refine a_regionS ?_;simp(maxSteps:=2000000) only[Ty.w,simprocAttr])|(refine hK _ _ ?_;clear hK;try simp only[pst0,simprocAttr]))
    refine owp_useQ (hc _) (by(try simp only[Ty.w,simprocAttr,]);try rfl) ?_;simp(maxSteps:=2000000) only[Ty.w,simprocAttr,]
    repeat'(first|refine a_seq fun K hK=>?_|(refine a_regionS ?_;simp(maxSteps:=2000000) only[Ty.w,simprocAttr,Bool.not_true,q1])|(refine a_skip ?_;try simp only[pst0,simprocAttr])|(refine a_cond _ (by(try simp(maxSteps:=2000000) only[Ty.w,simprocAttr,Bool.not_true,q1]);rfl) (fun hb=>?_) (fun hb=>?_)<;>(try simp only[hb0,decide_eq_true_eq,decide_eq_false_iff_not,simprocAttr]at hb)<;>(try(exfalso;omega)))|(refine hK _ _ ?_;clear hK;try simp only[pst0,simprocAttr]))
    refine owp_useQ (ha _) (by(try simp only[Ty.w,simprocAttr,]);try rfl) ?_;simp(maxSteps:=2000000) only[Ty.w,simprocAttr,]
    repeat'(first|(with_reducible refine a_hold 6 ?_)|(refine hK _ _ ?_;clear hK;try simp only[pst0,simprocAttr]))
    refine⟨?_⟩
    refine a_tmp 8 rfl (by simp only[Ty.w,simprocAttr]) (fun n H=>by simp only[FrzL,FrzTo,and_true,true_and];exact .inl (strs_in _ _)) ?_
    refine a_gen (fun S H=>S 0= .ptr id 0 0∧S 8= .cptr [sPV an,.imm 1 (strRows aa)]∧S 9= .sc .nilIface∧PbI h0 id p H) ⟨by simp only[Ty.w,simprocAttr],by simp only[Ty.w,simprocAttr],by simp only[Ty.w,simprocAttr],hI.tmp _ _⟩ ?_
    clear hI
    rintro S h' ⟨g0,g8,g9,hI⟩
    obtain⟨g,idl,o,i,v,g2,g3,g4,g5,gop,gna,gar,gpa,gex,gki,e1,e2,e3,e4,e5,e6⟩:=hI
    obtain⟨H,t1,t2,t3,t4,t5⟩:=e4.tail
    have hk:=t5 h0 ⟨g.le,g.old⟩ (by omega)
    have eo:=Tl.other e4 e5 (by decide) t1 t3
    have hri:=atRows_len p.init
    have hbb:(p.init.length+1)*40≤140737488355328:=by omega
    have n2:(id=H.next)=False:=by simp;omega
    have n3:(id=h'.next)=False:=by simp;omega
    have o2H:H.obj id=_:=(t4 _ (Nat.lt_succ_self _)).trans e2
    have hpc:=e4.cell
    have hap:atRows p.init++[[PV.sc (.string an),.imm 1 (strRows aa)]]=atRows (p.init++[⟨an,aa⟩]):=atRows_app p.init ⟨an,aa⟩
    repeat'(first|refine a_seq fun K hK=>?_|((first|refine a_regionS ?_|refine a_drawS (by decide+kernel) ?_|refine a_ret ?_);simp(maxSteps:=2000000) only[Ty.w,simprocAttr,g0,g8,g9,e2,o2H,n2,n3,t1,t2,t3,hri,hbb,hpc,hap])|(refine a_skip ?_;try simp only[pst0,simprocAttr])|(refine a_cond _ (by(try simp(maxSteps:=2000000) only[Ty.w,simprocAttr,g0,g8,g9,e2,o2H,n2,n3,t1,t2,t3,hri,hbb,hpc,hap]);rfl) (fun hb=>?_) (fun hb=>?_)<;>(try simp only[hb0,decide_eq_true_eq,decide_eq_false_iff_not,simprocAttr]at hb)<;>(try(exfalso;omega)))|(refine hK _ _ ?_;clear hK;try simp only[pst0,simprocAttr])|(with_reducible refine a_past2 (by simp only[List.forall_mem_cons,Ty.w,simprocAttr,g0,g8,g9,e2,o2H,n2,n3,t1,t2,t3,hri,hbb,hpc,hap]<;>(repeat' apply And.intro)<;>first|trivial|exact .inl (by decide+kernel)) ?_;try simp(maxSteps:=2000000) only[Ty.w,simprocAttr,g0,g8,g9,e2,o2H,n2,n3,t1,t2,t3,hri,hbb,hpc,hap]))
    subst hF
    refine⟨rfl,⟨(Grow.new (⟨hk.1,hk.2⟩:Grow h0 H) _).set idl.1 _,⟨idl.1,by simp only[Heap.set,Heap.new];omega⟩,o,.own h'.next 0 (p.init.length+1),v,g2,g3,g4,g5,gop,gna,gar,gpa,gex,gki,e1,by simp only[Heap.set,if_true],e3,?_,?_,e6⟩⟩
    ·rw [← t3]
     exact(Tl.grow (id0:=id+1) (H:=H) (z:=2) (len:=p.init.length+1) (rows:=atRows (p.init++[⟨an,aa⟩])) (by omega) (by simp[atRows_len])).mid (Nat.lt_succ_self _) _
    ·exact eo.up (by simp only[Heap.set,Heap.new];omega) (fun j hj hj2=>by simp only[Heap.set,Heap.new];rw[if_neg (by omega),if_neg (by omega)])
  |true=>
   rw[show bEq w opEq=true from q1]at hF
   simp only[cond_true]at hF
   cases q2:((rest.length:Int) !=2)with
   |true=>
    have e:(p.init,p.values,2)=F:=by
     rw[← hF]
     match rest,q2 with
     |[],_=>rfl
     |[a],_=>rfl
     |[_,_],q=>simp at q
     |_::_::_::_,_=>rfl
    clear hF
    refine pcall_body (ow:=fun _=>false) (wf:=fun _=>false) Ty.mixed Try.func64 rfl Ty.hb_64 (by rw[Try.ntmps64];simp) ?_
    rw[Try.ntmps64,Try.results64]
    repeat'(first|refine a_seq fun K hK=>?_|(refine a_regionS ?_;simp(maxSteps:=2000000) only[Ty.w,simprocAttr])|(refine hK _ _ ?_;clear hK;try simp only[pst0,simprocAttr]))
    refine owp_useQ (hc _) (by(try simp only[Ty.w,simprocAttr,]);try rfl) ?_;simp(maxSteps:=2000000) only[Ty.w,simprocAttr,]
    repeat'(first|refine a_seq fun K hK=>?_|((first|refine a_regionS ?_|refine a_ret ?_);simp(maxSteps:=2000000) only[Ty.w,simprocAttr,Bool.not_true,q1,q2,hl])|(refine a_skip ?_;try simp only[pst0,simprocAttr])|(refine a_cond _ (by(try simp(maxSteps:=2000000) only[Ty.w,simprocAttr,Bool.not_true,q1,q2,hl]);rfl) (fun hb=>?_) (fun hb=>?_)<;>(try simp only[hb0,decide_eq_true_eq,decide_eq_false_iff_not,simprocAttr]at hb)<;>(try(exfalso;omega)))|(refine hK _ _ ?_;clear hK;try simp only[pst0,simprocAttr]))
    exact bad 2 _ (.inl rfl) e.symm hI
   |false=>
    obtain⟨f,n,rfl⟩: ∃ f n,rest=[f,n]:=by
     match rest,q2 with
     |[],q=>simp at q
     |[a],q=>simp at q
     |[a,b],_=>exact⟨a,b,rfl⟩
     |_::_::_::l,q=>simp at q;omega
    have hr0:=Sx.rows_get (l:=[f,n]) (i:=0) rfl
    have hr1:=Sx.rows_get (l:=[f,n]) (i:=1) rfl
    have hfo:=o3 f (by simp)
    have hfs:=s3 f (by simp)
    simp only[List.length_cons,List.length_nil,Nat.zero_add,Nat.reduceAdd]at hl q2
    clear o1 o2 o3 s2 s3
    simp only at hF
    generalize Sx.rows [f,n]=R at hc hl hr0 hr1
    have hcf:=phead_c hfo
    have hof:=fun w l=>headM_ok2 hfo (w:=w) (l:=l)
    have hsf:=fun w l=>headM_small hfs (w:=w) (l:=l)
    generalize headM f=D at hF hcf hof hsf
    obtain⟨ki,va,li,co,te,ks⟩:=f
    obtain⟨ki2,va2,li2,co2,te2,ks2⟩:=n
    simp only[Sx.cells,kindOf,valOf]at hr0 hr1 hF hcf
    clear hfo hfs
    cases q3:(ki2 !=2)with
    |true=>
     rw[show(ki2==2)=false by simpa using q3]at hF
     simp only[cond_false]at hF
     refine pcall_body (ow:=fun _=>false) (wf:=fun _=>false) Ty.mixed Try.func64 rfl Ty.hb_64 (by rw[Try.ntmps64];simp) ?_
     rw[Try.ntmps64,Try.results64]
     repeat'(first|refine a_seq fun K hK=>?_|(refine a_regionS ?_;simp(maxSteps:=2000000) only[Ty.w,simprocAttr])|(refine hK _ _ ?_;clear hK;try simp only[pst0,simprocAttr]))
     refine owp_useQ (hc _) (by(try simp only[Ty.w,simprocAttr,]);try rfl) ?_;simp(maxSteps:=2000000) only[Ty.w,simprocAttr,]
     repeat'(first|refine a_seq fun K hK=>?_|((first|refine a_regionS ?_|refine a_ret ?_);simp(maxSteps:=2000000) only[Ty.w,simprocAttr,Bool.not_true,q1,q2,q3,hl,hr1])|(refine a_skip ?_;try simp only[pst0,simprocAttr])|(refine a_cond _ (by(try simp(maxSteps:=2000000) only[Ty.w,simprocAttr,Bool.not_true,q1,q2,q3,hl,hr1]);rfl) (fun hb=>?_) (fun hb=>?_)<;>(try simp only[hb0,decide_eq_true_eq,decide_eq_false_iff_not,simprocAttr]at hb)<;>(try(exfalso;omega)))|(refine hK _ _ ?_;clear hK;try simp only[pst0,simprocAttr]))
     exact bad 2 _ (.inl rfl) hF.symm hI
    |false=>
     rw[show(ki2==2)=true by simpa using q3]at hF
     simp only[cond_true]at hF
     cases D with
     |none=>
      simp only at hF
      simp only[headV]at hcf
      refine pcall_body (ow:=fun _=>false) (wf:=fun _=>false) Ty.mixed Try.func64 rfl Ty.hb_64 (by rw[Try.ntmps64];simp) ?_
      rw[Try.ntmps64,Try.results64]
      repeat'(first|refine a_seq fun K hK=>?_|(refine a_regionS ?_;simp(maxSteps:=2000000) only[Ty.w,simprocAttr])|(refine hK _ _ ?_;clear hK;try simp only[pst0,simprocAttr]))
      refine owp_useQ (hc _) (by(try simp only[Ty.w,simprocAttr,]);try rfl) ?_;simp(maxSteps:=2000000) only[Ty.w,simprocAttr,]
      repeat'(first|refine a_seq fun K hK=>?_|(refine a_regionS ?_;simp(maxSteps:=2000000) only[Ty.w,simprocAttr,Bool.not_true,q1,q2,q3,hl,hr0,hr1])|(refine a_skip ?_;try simp only[pst0,simprocAttr])|(refine a_cond _ (by(try simp(maxSteps:=2000000) only[Ty.w,simprocAttr,Bool.not_true,q1,q2,q3,hl,hr0,hr1]);rfl) (fun hb=>?_) (fun hb=>?_)<;>(try simp only[hb0,decide_eq_true_eq,decide_eq_false_iff_not,simprocAttr]at hb)<;>(try(exfalso;omega)))|(refine hK _ _ ?_;clear hK;try simp only[pst0,simprocAttr]))
      refine owp_useQ (hcf _) (by(try simp only[Ty.w,simprocAttr,hr0,hr1]);try rfl) ?_;simp(maxSteps:=2000000) only[Ty.w,simprocAttr,hr0,hr1]
      repeat'(first|refine a_seq fun K hK=>?_|((first|refine a_regionS ?_|refine a_ret ?_);simp(maxSteps:=2000000) only[Ty.w,simprocAttr,Bool.not_false])|(refine hK _ _ ?_;clear hK;try simp only[pst0,simprocAttr]))
      exact bad 2 _ (.inl rfl) hF.symm hI
     |some wr=>
      obtain⟨name,args⟩:=wr
      obtain⟨o1,o2,o3⟩:=hof name args rfl
      obtain⟨s2,s3⟩:=hsf name args rfl
      clear hof hsf
      simp only[headV]at hcf
      simp only at hF
      have ha:=fun h:Heap=>parseAtom_c o1 s2 o3 h
      generalize atomP name args=A at hF ha
      obtain⟨a,c⟩:=A
      simp only at hF ha
      cases hcc:c==0 with
      |false=>
       rw[hcc]at hF
       simp only[cond_false]at hF
       have e0:errP c=errV c:=by simp only[errP,hcc,cond_false]
       rw[e0]at ha
       simp only[errV,atRow]at ha
       refine pcall_body (ow:=fun _=>false) (wf:=fun _=>false) Ty.mixed Try.func64 rfl Ty.hb_64 (by rw[Try.ntmps64];simp) ?_
       rw[Try.ntmps64,Try.results64]
       repeat'(first|refine a_seq fun K hK=>?_|(refine a_regionS ?_;simp(maxSteps:=2000000) only[Ty.w,simprocAttr])|(refine hK _ _ ?_;clear hK;try simp only[pst0,simprocAttr]))
       refine owp_useQ (hc _) (by(try simp only[Ty.w,simprocAttr,]);try rfl) ?_;simp(maxSteps:=2000000) only[Ty.w,simprocAttr,]
       repeat'(first|refine a_seq fun K hK=>?_|(refine a_regionS ?_;simp(maxSteps:=2000000) only[Ty.w,simprocAttr,Bool.not_true,q1,q2,q3,hl,hr0,hr1])|(refine a_skip ?_;try simp only[pst0,simprocAttr])|(refine a_cond _ (by(try simp(maxSteps:=2000000) only[Ty.w,simprocAttr,Bool.not_true,q1,q2,q3,hl,hr0,hr1]);rfl) (fun hb=>?_) (fun hb=>?_)<;>(try simp only[hb0,decide_eq_true_eq,decide_eq_false_iff_not,simprocAttr]at hb)<;>(try(exfalso;omega)))|(refine hK _ _ ?_;clear hK;try simp only[pst0,simprocAttr]))
       refine owp_useQ (hcf _) (by(try simp only[Ty.w,simprocAttr,hr0,hr1]);try rfl) ?_;simp(maxSteps:=2000000) only[Ty.w,simprocAttr,hr0,hr1]
       repeat'(first|refine a_seq fun K hK=>?_|(refine a_regionS ?_;simp(maxSteps:=2000000) only[Ty.w,simprocAttr,Bool.not_true])|(refine a_skip ?_;try simp only[pst0,simprocAttr])|(refine a_cond _ (by(try simp(maxSteps:=2000000) only[Ty.w,simprocAttr,Bool.not_true]);rfl) (fun hb=>?_) (fun hb=>?_)<;>(try simp only[hb0,decide_eq_true_eq,decide_eq_false_iff_not,simprocAttr]at hb)<;>(try(exfalso;omega)))|(refine hK _ _ ?_;clear hK;try simp only[pst0,simprocAttr]))
       refine owp_useQ (ha _) (by(try simp only[Ty.w,simprocAttr,]);try rfl) ?_;simp(maxSteps:=2000000) only[Ty.w,simprocAttr,]
       repeat'(first|(with_reducible refine a_hold 16 ?_)|(refine hK _ _ ?_;clear hK;try simp only[pst0,simprocAttr]))
       refine⟨?_⟩
       refine a_tmp 12 rfl (by simp only[Ty.w,simprocAttr]) (fun n H=>by simp only[FrzL,FrzTo,and_true,true_and];exact .inl (strs_in _ _)) ?_
       have hI2:=hI.tmp (.arr 2 [[.sc (.string ⟨#[]⟩),.sc (.slice none 0 0)]]) (.arr 2 [atRow a])
       simp only[atRow]at hI2
       repeat'(first|refine a_seq fun K hK=>?_|((first|refine a_regionS ?_|refine a_ret ?_);simp(maxSteps:=2000000) only[Ty.w,simprocAttr])|(refine hK _ _ ?_;clear hK;try simp only[pst0,simprocAttr]))
       subst hF
       exact⟨e0.symm,hI2⟩
      |true=>
       rw[hcc]at hF
       simp only[cond_true]at hF
       have e0:errP c= .sc .nilIface:=by simp only[errP,hcc,cond_true]
       rw[e0]at ha
       obtain⟨an,aa⟩:=a
       simp only[atRow]at ha
       refine pcall_body (ow:=fun _=>false) (wf:=fun _=>false) Ty.mixed Try.func64 rfl Ty.hb_64 (by rw[Try.ntmps64];simp) ?_
       rw[Try.ntmps64,Try.results64]
       repeat'(first|refine a_seq fun K hK=>?_|(refine a_regionS ?_;simp(maxSteps:=2000000) only[Ty.w,simprocAttr])|(refine hK _ _ ?_;clear hK;try simp only[pst0,simprocAttr]))
       refine owp_useQ (hc _) (by(try simp only[Ty.w,simprocAttr,]);try rfl) ?_;simp(maxSteps:=2000000) only[Ty.w,simprocAttr,]
       repeat'(first|refine a_seq fun K hK=>?_|(refine a_regionS ?_;simp(maxSteps:=2000000) only[Ty.w,simprocAttr,Bool.not_true,q1,q2,q3,hl,hr0,hr1])|(refine a_skip ?_;try simp only[pst0,simprocAttr])|(refine a_cond _ (by(try simp(maxSteps:=2000000) only[Ty.w,simprocAttr,Bool.not_true,q1,q2,q3,hl,hr0,hr1]);rfl) (fun hb=>?_) (fun hb=>?_)<;>(try simp only[hb0,decide_eq_true_eq,decide_eq_false_iff_not,simprocAttr]at hb)<;>(try(exfalso;omega)))|(refine hK _ _ ?_;clear hK;try simp only[pst0,simprocAttr]))
       refine owp_useQ (hcf _) (by(try simp only[Ty.w,simprocAttr,hr0,hr1]);try rfl) ?_;simp(maxSteps:=2000000) only[Ty.w,simprocAttr,hr0,hr1]
       repeat'(first|refine a_seq fun K hK=>?_|(refine a_regionS ?_;simp(maxSteps:=2000000) only[Ty.w,simprocAttr,Bool.not_true])|(refine a_skip ?_;try simp only[pst0,simprocAttr])|(refine a_cond _ (by(try simp(maxSteps:=2000000) only[Ty.w,simprocAttr,Bool.not_true]);rfl) (fun hb=>?_) (fun hb=>?_)<;>(try simp only[hb0,decide_eq_true_eq,decide_eq_false_iff_not,simprocAttr]at hb)<;>(try(exfalso;omega)))|(refine hK _ _ ?_;clear hK;try simp only[pst0,simprocAttr]))
       refine owp_useQ (ha _) (by(try simp only[Ty.w,simprocAttr,]);try rfl) ?_;simp(maxSteps:=2000000) only[Ty.w,simprocAttr,]
       repeat'(first|(with_reducible refine a_hold 16 ?_)|(refine hK _ _ ?_;clear hK;try simp only[pst0,simprocAttr]))
       refine⟨?_⟩
       refine a_tmp 12 rfl (by simp only[Ty.w,simprocAttr]) (fun n H=>by simp only[FrzL,FrzTo,and_true,true_and];exact .inl (strs_in _ _)) ?_
       refine a_gen (fun S H=>S 0= .ptr id 0 0∧S 6= .imm 6 R∧S 12= .cptr [sPV an,.imm 1 (strRows aa)]∧S 13= .sc .nilIface∧PbI h0 id p H) ⟨by simp only[Ty.w,simprocAttr],by simp only[Ty.w,simprocAttr],by simp only[Ty.w,simprocAttr],by simp only[Ty.w,simprocAttr],hI.tmp _ _⟩ ?_
       clear hI
       rintro S h' ⟨g0,g6,g12,g13,hI⟩
       obtain⟨g,idl,o,i,v,g2,g3,g4,g5,gop,gna,gar,gpa,gex,gki,e1,e2,e3,e4,e5,e6⟩:=hI
       obtain⟨H,t1,t2,t3,t4,t5⟩:=e5.tail
       have hk:=t5 h0 ⟨g.le,g.old⟩ (by omega)
       have eo:=Tl.other e5 e4 (by decide) t1 t3
       have hri:=vlRows_len p.values
       have hbb:(p.values.length+1)*48≤140737488355328:=by omega
       have n2:(id=H.next)=False:=by simp;omega
       have n3:(id=h'.next)=False:=by simp;omega
       have o2H:H.obj id=_:=(t4 _ (Nat.lt_succ_self _)).trans e2
       have hpc:=e5.cell
       have hap:vlRows p.values++[[PV.sc (.string an),.imm 1 (strRows aa),.sc (.int .i64 va2)]]=vlRows (p.values++[⟨⟨an,aa⟩,va2⟩]):=vlRows_app p.values ⟨⟨an,aa⟩,va2⟩
       repeat'(first|refine a_seq fun K hK=>?_|((first|refine a_regionS ?_|refine a_drawS (by decide+kernel) ?_|refine a_ret ?_);simp(maxSteps:=2000000) only[Ty.w,simprocAttr,g0,g6,g12,g13,hr1,e2,o2H,n2,n3,t1,t2,t3,hri,hbb,hpc,hap])|(refine a_skip ?_;try simp only[pst0,simprocAttr])|(refine a_cond _ (by(try simp(maxSteps:=2000000) only[Ty.w,simprocAttr,g0,g6,g12,g13,hr1,e2,o2H,n2,n3,t1,t2,t3,hri,hbb,hpc,hap]);rfl) (fun hb=>?_) (fun hb=>?_)<;>(try simp only[hb0,decide_eq_true_eq,decide_eq_false_iff_not,simprocAttr]at hb)<;>(try(exfalso;omega)))|(refine hK _ _ ?_;clear hK;try simp only[pst0,simprocAttr])|(with_reducible refine a_past2 (by simp only[List.forall_mem_cons,Ty.w,simprocAttr,g0,g6,g12,g13,hr1,e2,o2H,n2,n3,t1,t2,t3,hri,hbb,hpc,hap]<;>(repeat' apply And.intro)<;>first|trivial|exact .inl (by decide+kernel)) ?_;try simp(maxSteps:=2000000) only[Ty.w,simprocAttr,g0,g6,g12,g13,hr1,e2,o2H,n2,n3,t1,t2,t3,hri,hbb,hpc,hap]))
       subst hF
       refine⟨rfl,⟨(Grow.new (⟨hk.1,hk.2⟩:Grow h0 H) _).set idl.1 _,⟨idl.1,by simp only[Heap.set,Heap.new];omega⟩,o,i,.own h'.next 0 (p.values.length+1),g2,g3,g4,g5,gop,gna,gar,gpa,gex,gki,e1,by simp only[Heap.set,if_true],e3,?_,?_,e6⟩⟩
       ·exact eo.up (by simp only[Heap.set,Heap.new];omega) (fun j hj hj2=>by simp only[Heap.set,Heap.new];rw[if_neg (by omega),if_neg (by omega)])
       ·rw [← t3]
        exact(Tl.grow (id0:=id+1) (H:=H) (z:=3) (len:=p.values.length+1) (rows:=vlRows (p.values++[⟨⟨an,aa⟩,va2⟩])) (by omega) (by simp[vlRows_len])).mid (Nat.lt_succ_self _) _
end Go.Proofs.Ytjeolbgpllbemaa
namespace Go.Proofs.Ytjeolbgpllbemaa
open Go.AM
set_option maxHeartbeats 8000000
set_option maxRecDepth 20000
theorem elemP_len(a:List At)(v:List Vl)(x:Sx):(elemP a v x).1.length≤a.length+1∧(elemP a v x).2.1.length≤v.length+1:=by
 unfold elemP
 split
 ·simp
 ·rename_i w rest _
  cases bEq w opEq with
  |true=>
   simp only[cond_true]
   split
   ·rename_i f n _
    cases kindOf n==2 with
    |false=>simp
    |true=>
     simp only[cond_true]
     split
     ·simp
     ·rename_i name args _
      cases(atomP name args).2==0<;>simp
   ·simp
  |false=>
   simp only[cond_false]
   cases(atomP w rest).2==0<;>simp
theorem elemsP_len: ∀ (l:List Sx)(a:List At)(v:List Vl),(elemsP a v l).1.length≤a.length+l.length∧(elemsP a v l).2.1.length≤v.length+l.length
 |[],a,v=>by simp[elemsP]
 |x::l,a,v=>by
  have h1:=elemP_len a v x
  simp only[elemsP]
  generalize elemP a v x=W at h1⊢
  obtain⟨a',v',c⟩:=W
  simp only at h1⊢
  cases c==0 with
  |true=>
   have h2:=elemsP_len l a' v'
   simp only[cond_true,List.length_cons]
   omega
  |false=>
   simp only[cond_false,List.length_cons]
   omega
theorem elemP_code(a:List At)(v:List Vl)(x:Sx):(elemP a v x).2.2=0∨(elemP a v x).2.2=2∨(elemP a v x).2.2=8:=by
 have hA: ∀ w l,(atomP w l).2=0∨(atomP w l).2=2∨(atomP w l).2=8:=by
  intro w l
  unfold atomP
  have:=namesM_code l
  cases nameB w with
  |false=>simp
  |true=>
   simp only[cond_true]
   cases h:(namesM l).2==0 with
   |true=>simp
   |false=>
    simp only[cond_false]
    rcases this with h2|h2
    ·rw [h2]at h;simp at h
    ·exact .inr h2.2
 unfold elemP
 split
 ·simp
 ·rename_i w rest _
  cases bEq w opEq with
  |true=>
   simp only[cond_true]
   split
   ·rename_i f n _
    cases kindOf n==2 with
    |false=>simp
    |true=>
     simp only[cond_true]
     split
     ·simp
     ·rename_i name args _
      have:=hA name args
      cases h:(atomP name args).2==0 with
      |true=>simp
      |false=>simpa using this
   ·simp
  |false=>
   simp only[cond_false]
   have:=hA w rest
   cases h:(atomP w rest).2==0 with
   |true=>simp
   |false=>simpa using this
theorem section_c{h0:Heap}{id:Nat}{p:Pb}{w:ByteArray}{rest:List Sx}(hl:rest.length≤1048576)(hok: ∀ y∈rest,y.ok)(hsm: ∀ y∈rest,y.small)(hb1:p.init.length≤1099511627776)(hb2:p.values.length≤1099511627776)(h:Heap)(hI:PbI h0 id p h):
  PCall Try.prog 45 [.ptr id 0 0,sPV w,.imm 6 (Sx.rows rest)] h fun r h'=>r=errP (sectP p w rest).2∧PbI h0 id (sectP p w rest).1 h':=by
 have hll:=Sx.rows_len rest
 generalize hF:sectP p w rest=F
 unfold sectP at hF
 cases q1:(w.data.toList==(#[58,111,98,106,101,99,116,115]:Array UInt8).toList)with
 |true=>
  rw[show bEq w opObjs=true from q1]at hF
  simp only[cond_true]at hF
  have hp:=fun h:Heap=>parseParams_c (vars:=false) hl hok h
  generalize paramsP false rest=L at hF hp
  obtain⟨l,c⟩:=L
  simp only at hF hp
  subst hF
  obtain⟨g,idl,o,i,v,g2,g3,g4,g5,gop,gna,gar,gpa,gex,gki,e1,e2,e3,e4,e5,e6⟩:=hI
  refine pcall_body (ow:=fun _=>false) (wf:=fun _=>false) Ty.mixed Try.func45 rfl Ty.hb_45 (by rw[Try.ntmps45];simp) ?_
  rw[Try.ntmps45,Try.results45]
  repeat'(first|refine a_seq fun K hK=>?_|(refine a_block ?_)|((first|refine a_regionS ?_|refine a_region (fun K hK=>?_));simp(maxSteps:=2000000) only[Ty.w,simprocAttr,q1])|(refine hK _ _ ?_;clear hK;try simp only[pst0,simprocAttr]))
  refine owp_useQ (hp _) (by(try simp only[Ty.w,simprocAttr,e2]);try rfl) ?_;simp(maxSteps:=2000000) only[Ty.w,simprocAttr,e2]
  repeat'(first|refine a_seq fun K hK=>?_|((first|refine a_regionS ?_|refine a_ret ?_);simp(maxSteps:=2000000) only[Ty.w,simprocAttr,e2])|(refine hK _ _ ?_;clear hK;try simp only[pst0,simprocAttr]))
  refine⟨g.set idl.1 _,⟨idl.1,idl.2⟩,.imm 2 (pmRows l),i,v,g2,g3,g4,g5,gop,gna,gar,gpa,gex,gki,e1,by simp only[Heap.set,if_true],.inl rfl,?_,?_,e6⟩
  ·exact e4.up (Nat.le_refl _) (fun j hj hj2=>by simp only[Heap.set];rw[if_neg (by omega)])
  ·exact e5.up (Nat.le_refl _) (fun j hj hj2=>by simp only[Heap.set];rw[if_neg (by omega)])
 |false=>
  rw[show bEq w opObjs=false from q1]at hF
  simp only[cond_false]at hF
  cases q2:(w.data.toList==(#[58,105,110,105,116]:Array UInt8).toList)with
  |false=>
   rw[show bEq w opInit=false from q2]at hF
   simp only[cond_false]at hF
   cases q3:((rest.length:Int) !=1)with
   |true=>
    have e:F=(p,2):=by
     rw[← hF]
     match rest,q3 with
     |[],_=>rfl
     |[a],q=>simp at q
     |_::_::_,_=>rfl
    subst e
    clear hF
    refine pcall_body (ow:=fun _=>false) (wf:=fun _=>false) Ty.mixed Try.func45 rfl Ty.hb_45 (by rw[Try.ntmps45];simp) ?_
    rw[Try.ntmps45,Try.results45]
    repeat'(first|refine a_seq fun K hK=>?_|((first|refine a_regionS ?_|refine a_ret ?_);simp(maxSteps:=2000000) only[Ty.w,simprocAttr,q1,q2,q3,hll])|(refine hK _ _ ?_;clear hK;try simp only[pst0,simprocAttr]))
    exact⟨rfl,hI⟩
   |false=>
    obtain⟨x,rfl⟩: ∃ x,rest=[x]:=by
     match rest,q3 with
     |[],q=>simp at q
     |[a],_=>exact⟨a,rfl⟩
     |_::_::l,q=>simp at q;omega
    simp only at hF
    have hr:=Sx.rows_get (l:=[x]) (i:=0) rfl
    have hp:=fun h:Heap=>Parse_c (hok x (by simp)) h
    simp only[List.length_cons,List.length_nil,Nat.zero_add]at hll q3
    generalize Sx.rows [x]=R at hll hr⊢
    generalize parseF x=L at hF hp
    obtain⟨⟨fop,fna,far,fpa,fex,fki⟩,c⟩:=L
    obtain⟨ki,va,li,co,te,ks⟩:=x
    simp only at hF hp
    simp only[Sx.cells,Fm.cells]at hr hp
    subst hF
    obtain⟨g,idl,o,i,v,g2,g3,g4,g5,gop,gna,gar,gpa,gex,gki,e1,e2,e3,e4,e5,e6⟩:=hI
    refine pcall_body (ow:=fun _=>false) (wf:=fun _=>false) Ty.mixed Try.func45 rfl Ty.hb_45 (by rw[Try.ntmps45];simp) ?_
    rw[Try.ntmps45,Try.results45]
    repeat'(first|refine a_seq fun K hK=>?_|((first|refine a_regionS ?_|refine a_region (fun K hK=>?_));simp(maxSteps:=2000000) only[Ty.w,simprocAttr,q1,q2,q3,hll,hr])|(refine a_skip ?_;try simp only[pst0,simprocAttr])|(refine a_cond _ (by(try simp(maxSteps:=2000000) only[Ty.w,simprocAttr,q1,q2,q3,hll,hr]);rfl) (fun hb=>?_) (fun hb=>?_)<;>(try simp only[hb0,decide_eq_true_eq,decide_eq_false_iff_not,simprocAttr]at hb)<;>(try(exfalso;omega)))|(refine hK _ _ ?_;clear hK;try simp only[pst0,simprocAttr]))
    refine owp_useQ (hp _) (by(try simp only[Ty.w,simprocAttr,hll,hr,e2]);try rfl) ?_;simp(maxSteps:=2000000) only[Ty.w,simprocAttr,hll,hr,e2]
    repeat'(first|refine a_seq fun K hK=>?_|((first|refine a_regionS ?_|refine a_ret ?_);simp(maxSteps:=2000000) only[Ty.w,simprocAttr,e2])|(refine hK _ _ ?_;clear hK;try simp only[pst0,simprocAttr]))
    refine⟨g.set idl.1 _,⟨idl.1,idl.2⟩,o,i,v,_,_,_,_,fop,fna,far,fpa,fex,fki,rfl,by simp only[Heap.set,if_true],e3,?_,?_,.inl rfl,.inl rfl,.inl rfl,.inl rfl⟩
    ·exact e4.up (Nat.le_refl _) (fun j hj hj2=>by simp only[Heap.set];rw[if_neg (by omega)])
    ·exact e5.up (Nat.le_refl _) (fun j hj hj2=>by simp only[Heap.set];rw[if_neg (by omega)])
  |true=>
   rw[show bEq w opInit=true from q2]at hF
   simp only[cond_true]at hF
   generalize hE:elemsP p.init p.values rest=E at hF
   refine pcall_body (ow:=fun _=>false) (wf:=fun _=>false) Ty.mixed Try.func45 rfl Ty.hb_45 (by rw[Try.ntmps45];simp) ?_
   rw[Try.ntmps45,Try.results45]
   repeat'(first|refine a_seq fun K hK=>?_|(refine a_block ?_)|(refine a_regionS ?_;simp(maxSteps:=2000000) only[Ty.w,simprocAttr,q1,q2,hll])|(refine hK _ _ ?_;clear hK;try simp only[pst0,simprocAttr]))
   refine a_loop (fun m S h'=>S 0= .ptr id 0 0∧S 38= .imm 6 (Sx.rows rest)∧S 39= .sc (.int .i64 rest.length)∧S 7= .sc .nilIface∧ ∃ (k:Nat)(a:List At)(v:List Vl),S 40= .sc (.int .i64 k)∧k≤rest.length∧m=rest.length-k∧a.length≤p.init.length+k∧v.length≤p.values.length+k∧
    PbI h0 id ⟨p.name,p.domain,p.objects,a,v,p.goal⟩ h'∧E=elemsP a v (rest.drop k)) rest.length ?_ ?_
   ·simp only[Ty.w,simprocAttr]
    exact⟨0,p.init,p.values,rfl,by omega,rfl,by omega,by omega,hI,by rw[List.drop_zero];exact hE.symm⟩
   ·clear hI hE
    rintro m S h' ⟨gs0,g38,g39,g7,k,a,v,g40,hk,rfl,hal,hvl,hI,hinv⟩
    by_cases hlt:k<rest.length
    ·have hd:decide ((k:Int)<(rest.length:Int))=true:=by simp;omega
     have w7:IntKind.i64.wrap ((k:Int)+1)=k+1:=by rw[wrap64 (by omega) (by omega)]
     obtain⟨x,hx⟩: ∃ x,rest[k]? =some x:=⟨_,List.getElem?_eq_getElem hlt⟩
     have hr:=Sx.rows_get hx
     have hmem:=List.mem_of_getElem? hx
     rw[drop_of_get hx]at hinv
     simp only[elemsP]at hinv
     have hcd:=elemP_code a v x
     have hle:=elemP_len a v x
     have hel:=fun(H:Heap)(hI:PbI h0 id ⟨p.name,p.domain,p.objects,a,v,p.goal⟩ H)=>element_c (hok x hmem) (hsm x hmem) (by simp only;omega) (by simp only;omega) H hI
     simp only at hel
     generalize elemP a v x=W at hinv hcd hle hel
     obtain⟨a2,v2,c⟩:=W
     simp only at hinv hcd hle hel
     obtain⟨ki,va,li,co,te,ks⟩:=x
     simp only[Sx.cells]at hr hel
     repeat'(first|(with_reducible refine a_holdR 12 ?_)|refine a_seq fun K hK=>?_|(refine a_regionS ?_;simp(maxSteps:=2000000) only[Ty.w,simprocAttr,gs0,g7,g38,g39,g40,hd,hr])|(refine a_skip ?_;try simp only[pst0,simprocAttr])|(refine a_cond _ (by(try simp(maxSteps:=2000000) only[Ty.w,simprocAttr,gs0,g7,g38,g39,g40,hd,hr]);rfl) (fun hb=>?_) (fun hb=>?_)<;>(try simp only[hb0,decide_eq_true_eq,decide_eq_false_iff_not,simprocAttr]at hb)<;>(try(exfalso;omega)))|(refine hK _ _ ?_;clear hK;try simp only[pst0,simprocAttr]))
     refine⟨?_⟩
     refine a_tmp 9 rfl (by simp only[Ty.w,simprocAttr]) (sx_frz' · · ki va li co te ks) ?_
     refine a_gen (fun S H=>S 0= .ptr id 0 0∧S 38= .imm 6 (Sx.rows rest)∧S 39= .sc (.int .i64 rest.length)∧S 7= .sc .nilIface∧S 40= .sc (.int .i64 k)∧S 9= .cptr [.sc (.int .i64 ki),.sc (.int .i64 va),.sc (.int .i64 li),.sc (.int .i64 co),sPV te,.imm 6 (Sx.rows ks)]∧PbI h0 id ⟨p.name,p.domain,p.objects,a,v,p.goal⟩ H) ⟨by simp only[Ty.w,simprocAttr,gs0],by simp only[Ty.w,simprocAttr,g38],by simp only[Ty.w,simprocAttr,g39],by simp only[Ty.w,simprocAttr,g7],by simp only[Ty.w,simprocAttr,g40],by simp only[Ty.w,simprocAttr],hI.tmp _ _⟩ ?_
     clear hI gs0 g38 g39 g7 g40 hr hd
     rintro S h' ⟨gs0,g38,g39,g7,g40,g9,hI⟩
     repeat'(first|refine a_seq fun K hK=>?_|(refine a_regionS ?_;simp(maxSteps:=2000000) only[Ty.w,simprocAttr,gs0,g9]))
     refine owp_useL (hel _ hI) (by simp only[Ty.w,simprocAttr,gs0,g9];try rfl) ?_
     rintro r h2 ⟨rfl,hI2⟩
     clear hI
     simp(maxSteps:=2000000) only[Ty.w,simprocAttr,Ty.all]
     cases hcc:c==0 with
     |false=>
      rw[hcc]at hinv
      simp only[cond_false]at hinv
      have e0:errP c=errV c:=by simp only[errP,hcc,cond_false]
      simp only[e0,errV]
      repeat'(first|refine a_seq fun K hK=>?_|((first|refine a_regionS ?_|refine a_ret ?_);simp(maxSteps:=2000000) only[Ty.w,simprocAttr])|(refine hK _ _ ?_;clear hK;try simp only[pst0,simprocAttr]))
      subst hinv;subst hF
      exact⟨e0.symm,hI2⟩
     |true=>
      rw[hcc]at hinv
      simp only[cond_true]at hinv
      have e0:errP c= .sc .nilIface:=by simp only[errP,hcc,cond_true]
      simp only[e0]
      repeat'(first|refine a_seq fun K hK=>?_|(refine a_block ?_)|(refine a_regionS ?_;simp(maxSteps:=2000000) only[Ty.w,simprocAttr,gs0,g38,g39,g7,g40,w7])|(refine a_skip ?_;try simp only[pst0,simprocAttr])|(refine hK _ _ ?_;clear hK;try simp only[pst0,simprocAttr]))
      exact⟨rest.length-(k+1),by omega,k+1,a2,v2,by simp,by omega,rfl,by omega,by omega,hI2,hinv⟩
    ·have hd:decide ((k:Int)<(rest.length:Int))=false:=by simp;omega
     rw[List.drop_eq_nil_of_le (by omega)]at hinv
     simp only[elemsP]at hinv
     subst hinv;subst hF
     repeat'(first|refine a_seq fun K hK=>?_|((first|refine a_regionS ?_|refine a_ret ?_);simp(maxSteps:=2000000) only[Ty.w,simprocAttr,gs0,g7,g38,g39,g40,hd])|(refine a_exit ?_;try simp only[pst0,simprocAttr])|(refine a_cond _ (by(try simp(maxSteps:=2000000) only[Ty.w,simprocAttr,gs0,g7,g38,g39,g40,hd]);rfl) (fun hb=>?_) (fun hb=>?_)<;>(try simp only[hb0,decide_eq_true_eq,decide_eq_false_iff_not,simprocAttr]at hb)<;>(try(exfalso;omega)))|((first|refine hK _ _ ?_|(clear hK;refine hK _ _ ?_));clear hK;try simp only[pst0,simprocAttr]))
     exact⟨rfl,hI⟩
end Go.Proofs.Ytjeolbgpllbemaa
namespace Go.Proofs.Ytjeolbgpllbemaa
open Go.AM
set_option maxHeartbeats 8000000
set_option maxRecDepth 20000
theorem ats_frz(n:Nat)(h:Heap): ∀ l:List At,FrzR n h (atRows l) (atRows l)
 |[]=>by simp only[atRows,List.map_nil,FrzR]
 |a::l=>by
  have:=ats_frz n h l
  simp only[atRows,List.map_cons,FrzR,atRow,FrzL,FrzTo,and_true,true_and]at this⊢
  exact⟨.inl (strs_in _ _),this⟩
theorem vls_frz(n:Nat)(h:Heap): ∀ l:List Vl,FrzR n h (vlRows l) (vlRows l)
 |[]=>by simp only[vlRows,List.map_nil,FrzR]
 |a::l=>by
  have:=vls_frz n h l
  simp only[vlRows,List.map_cons,FrzR,vlRow,FrzL,FrzTo,and_true,true_and]at this⊢
  exact⟨.inl (strs_in _ _),this⟩
theorem PbI.frz{h:Heap}{id n:Nat}{p:Pb}{o i v g2 g3 g4 g5:PV}{gop gna:ByteArray}{gar:List ByteArray}{gpa:List Pm}{gex:List Ex}{gki:List Fm}{c:Int}(hn:n≤id)(e1:p.goal= .mk gop gna gar gpa gex gki)
  (e3:NilOr 2 (pmRows p.objects) o)(e4:Tl h (id+1) 2 i (atRows p.init))(e5:Tl h (id+1) 3 v (vlRows p.values))(e6:NilOr 1 (strRows gar) g2∧NilOr 2 (pmRows gpa) g3∧NilOr 5 (Ex.rows gex) g4∧NilOr 6 (Fm.rows gki) g5)(ec: ∃ u,errP c= .sc u):
  FrzTo n h (.tup [.agg p.cells,errP c]) (.tup [.agg [sPV p.name,sPV p.domain,o,i,v,sPV gop,sPV gna,g2,g3,g4,g5],errP c]):=by
 obtain⟨u,hu⟩:=ec
 obtain⟨pn,pd,po,pi,pv,pg⟩:=p
 simp only at e1 e3 e4 e5
 subst e1
 simp only[Pb.cells,Fm.cells,List.cons_append,List.nil_append]
 rw[hu]
 simp only[FrzTo,FrzL]
 refine⟨_,rfl,⟨_,rfl,rfl,rfl,?_,?_,?_,rfl,rfl,?_,?_,?_,?_,trivial⟩,rfl,trivial⟩
 ·simpa only[FrzTo]using e3.frz h (pms_in n po)
 ·simpa only[FrzTo]using e4.frzR (by omega) (ats_frz n h pi)
 ·simpa only[FrzTo]using e5.frzR (by omega) (vls_frz n h pv)
 ·simpa only[FrzTo]using e6.1.frz h (strs_in n gar)
 ·simpa only[FrzTo]using e6.2.1.frz h (pms_in n gpa)
 ·simpa only[FrzTo]using e6.2.2.1.frz h (exs_in n gex)
 ·simpa only[FrzTo]using e6.2.2.2.frz h (fms_in n gki)
theorem errP_u(c:Int): ∃ u,errP c= .sc u:=by
 unfold errP errV
 cases c==0<;>exact⟨_,rfl⟩
theorem bEq_comm(a b:ByteArray):bEq a b=bEq b a:=by
 unfold bEq
 exact Bool.beq_comm
theorem after_idx(w:ByteArray): ∀ o:List ByteArray,(afterB o w=none∧idxM o w= -1)∨ ∃ k:Nat,k<o.length∧idxM o w=(k:Int)∧afterB o w=some (o.drop (k+1))
 |[]=> .inl ⟨rfl,rfl⟩
 |a::o=>by
  unfold idxM
  rw[List.findIdx?_cons]
  simp only[afterB,bEq_comm a w]
  cases h:bEq w a with
  |true=>exact .inr ⟨0,by simp,by simp,by simp⟩
  |false=>
   simp only[cond_false]
   rcases after_idx w o with⟨h1,h2⟩|⟨k,h1,h2,h3⟩
   ·left
    refine⟨h1,?_⟩
    unfold idxM at h2
    cases h4:o.findIdx? (fun v=>bEq w v)with
    |none=>simp
    |some i=>rw[h4]at h2;simp only at h2;omega
   ·right
    refine⟨k+1,by simp;omega,?_,by simpa using h3⟩
    unfold idxM at h2
    cases h4:o.findIdx? (fun v=>bEq w v)with
    |none=>rw[h4]at h2;simp only at h2;omega
    |some i=>rw[h4]at h2;simp only at h2;simp;omega
abbrev pbZ:List PV:=[.sc (.string ⟨#[]⟩),.sc (.string ⟨#[]⟩),.sc (.slice none 0 0),.sc (.slice none 0 0),.sc (.slice none 0 0),.sc (.string ⟨#[]⟩),.sc (.string ⟨#[]⟩),.sc (.slice none 0 0),.sc (.slice none 0 0),.sc (.slice none 0 0),.sc (.slice none 0 0)]
theorem pb_fin{h H:Heap}{X:AObj}{q:Pb}{F:Pb × Int}{c:Int}{u o i v g2 g3 g4 g5:PV}{gop gna:ByteArray}{gar:List ByteArray}{gpa:List Pm}{gex:List Ex}{gki:List Fm}(hF:F=(q,c))(hu:errP c=u)(g:Grow (h.new (.arr 11 [pbZ])) H)(e1:q.goal= .mk gop gna gar gpa gex gki)
  (e3:NilOr 2 (pmRows q.objects) o)(e4:Tl H (h.next+1+1) 2 i (atRows q.init))(e5:Tl H (h.next+1+1) 3 v (vlRows q.values))(e6:NilOr 1 (strRows gar) g2∧NilOr 2 (pmRows gpa) g3∧NilOr 5 (Ex.rows gex) g4∧NilOr 6 (Fm.rows gki) g5):
  FrzTo h.next (H.set h.next X) (.tup [.agg F.1.cells,errP F.2]) (.tup [.agg [sPV q.name,sPV q.domain,o,i,v,sPV gop,sPV gna,g2,g3,g4,g5],u])∧Grow h (H.set h.next X):=by
 subst hF;subst hu
 refine⟨PbI.frz (id:=h.next+1) (by omega) e1 e3 (e4.mid (by omega) _) (e5.mid (by omega) _) e6 (errP_u c),(((Grow.refl h).new _).trans g).set (Nat.le_refl _) _⟩
theorem sects_small{x:Sx}{n d:Sx}{l:List Sx}{w:ByteArray}(hok:x.ok)(hsm:x.small)(h:headM x=some (w,n::d::l)):n.ok∧d.ok∧(∀ y∈l,y.ok)∧(∀ y∈l,y.small)∧l.length≤1048576:=by
 obtain⟨_,_,o3⟩:=headM_ok2 hok h
 obtain⟨s2,s3⟩:=headM_small hsm h
 exact⟨o3 n (by simp),o3 d (by simp),fun y hy=>o3 y (by simp[hy]),fun y hy=>s3 y (by simp[hy]),by simp at s2;omega⟩
theorem namedP_err{x:Sx}{want:ByteArray}:((namedP x want).2==0)=false→(namedP x want).1=⟨#[]⟩:=by
 unfold namedP
 split
 ·rename_i w rest _
  cases bEq w want with
  |false=>simp
  |true=>
   simp only[cond_true]
   split
   ·rename_i r _
    cases kindOf r==1 with
    |false=>simp
    |true=>
     simp only[cond_true]
     cases nameB (textOf r)<;>simp
   ·simp
 ·simp
theorem sectP_len(p:Pb)(w:ByteArray)(rest:List Sx):(sectP p w rest).1.init.length≤p.init.length+rest.length∧(sectP p w rest).1.values.length≤p.values.length+rest.length:=by
 unfold sectP
 cases bEq w opObjs with
 |true=>simp
 |false=>
  simp only[cond_false]
  cases bEq w opInit with
  |true=>simp only[cond_true];exact elemsP_len rest p.init p.values
  |false=>
   simp only[cond_false]
   split<;>simp
theorem PbI.setN{h0 H:Heap}{id:Nat}{p:Pb}{o i v g2 g3 g4 g5:PV}{gop gna:ByteArray}{gar:List ByteArray}{gpa:List Pm}{gex:List Ex}{gki:List Fm}{a d:ByteArray}(g:Grow h0 H)(idl:h0.next≤id∧id<H.next)(e1:p.goal= .mk gop gna gar gpa gex gki)
  (e3:NilOr 2 (pmRows p.objects) o)(e4:Tl H (id+1) 2 i (atRows p.init))(e5:Tl H (id+1) 3 v (vlRows p.values))(e6:NilOr 1 (strRows gar) g2∧NilOr 2 (pmRows gpa) g3∧NilOr 5 (Ex.rows gex) g4∧NilOr 6 (Fm.rows gki) g5):
  PbI h0 id ⟨a,d,p.objects,p.init,p.values,p.goal⟩ (H.set id (.arr 11 [[sPV a,sPV d,o,i,v,sPV gop,sPV gna,g2,g3,g4,g5]])):=
 ⟨g.set idl.1 _,⟨idl.1,idl.2⟩,o,i,v,g2,g3,g4,g5,gop,gna,gar,gpa,gex,gki,e1,by simp only[Heap.set,if_true],e3,e4.mid (Nat.lt_succ_self _) _,e5.mid (Nat.lt_succ_self _) _,e6⟩
theorem pparse_c{x:Sx}(hok:x.ok)(hsm:x.small)(h:Heap):PCall Try.prog 26 [.agg x.cells] h fun r h'=>r= .tup [.agg (pbP x).1.cells,errP (pbP x).2]∧h'=h:=by
 refine PCall.frz Ty.hb_26 ?_
 have hc:=phead_c hok
 have ho:=fun w l=>headM_ok2 hok (w:=w) (l:=l)
 have hs:=fun n d l w=>sects_small (n:=n) (d:=d) (l:=l) (w:=w) hok hsm
 generalize hF:pbP x=F
 unfold pbP at hF
 have e2:errP 2=errV 2:=rfl
 obtain⟨kind,value,line,col,text,kids⟩:=x
 simp only[Sx.cells]at hc⊢
 generalize headM (.mk kind value line col text kids)=D at hF hc ho hs
 have hI0: ∀ a:AObj,PbI (h.new (.arr 11 [pbZ])) (h.next+1) (pb0 ⟨#[]⟩ ⟨#[]⟩) (((h.new (.arr 11 [pbZ])).new a).set (h.next+1) (.arr 11 [[.sc (.string ⟨#[]⟩),.sc (.string ⟨#[]⟩),.sc (.slice none 0 0),.sc (.slice none 0 0),.sc (.slice none 0 0),.sc (.string ⟨#[97,110,100]⟩),.sc (.string ⟨#[]⟩),.sc (.slice none 0 0),.sc (.slice none 0 0),.sc (.slice none 0 0),.sc (.slice none 0 0)]])):=fun a=>
  ⟨((Grow.refl _).new _).set (Nat.le_refl _) _,⟨Nat.le_refl _,by simp[Heap.set,Heap.new]⟩,.sc (.slice none 0 0),.sc (.slice none 0 0),.sc (.slice none 0 0),.sc (.slice none 0 0),.sc (.slice none 0 0),.sc (.slice none 0 0),.sc (.slice none 0 0),opAnd,⟨#[]⟩,[],[],[],[],rfl,by simp[Heap.set,pb0,opAnd],.inr ⟨rfl,rfl⟩,Tl.nil,Tl.nil,.inr ⟨rfl,rfl⟩,.inr ⟨rfl,rfl⟩,.inr ⟨rfl,rfl⟩,.inr ⟨rfl,rfl⟩⟩
 cases D with
 |none=>
  simp only at hF
  simp only[headV]at hc
  refine pcall_body (ow:=fun _=>false) (wf:=fun _=>false) Ty.mixed Try.func26 rfl Ty.hb_26 (by rw[Try.ntmps26];simp) ?_
  rw[Try.ntmps26,Try.results26]
  repeat'(first|(with_reducible refine a_holdR 2 ?_)|refine a_seq fun K hK=>?_|(refine a_regionS ?_;simp(maxSteps:=2000000) only[Ty.w,simprocAttr])|(refine hK _ _ ?_;clear hK;try simp only[pst0,simprocAttr]))
  refine⟨?_⟩
  refine a_heap _ (hI0 _) (fun H hI=>?_)
  obtain⟨g,idl,o,i,v,g2,g3,g4,g5,gop,gna,gar,gpa,gex,gki,e1,eo,e3,e4,e5,e6⟩:=hI
  have o1:H.obj h.next=some (.arr 11 [pbZ]):=by rw[g.old _ (Nat.lt_succ_self _)];simp[Heap.new]
  have c3:=e3.cell
  have c4:=e4.cell
  have c5:=e5.cell
  have c6:=e6.1.cell
  have c7:=e6.2.1.cell
  have c8:=e6.2.2.1.cell
  have c9:=e6.2.2.2.cell
  repeat'(first|refine a_seq fun K hK=>?_|(refine a_regionS ?_;simp(maxSteps:=2000000) only[Ty.w,simprocAttr]))
  refine owp_useQ (hc _) (by(try simp only[Ty.w,simprocAttr,]);try rfl) ?_;simp(maxSteps:=2000000) only[Ty.w,simprocAttr,]
  repeat'(first|refine a_seq fun K hK=>?_|((first|refine a_regionS ?_|refine a_ret ?_);simp(maxSteps:=2000000) only[Ty.w,simprocAttr,Bool.not_false,eo,o1,c3,c4,c5,c6,c7,c8,c9])|(refine hK _ _ ?_;clear hK;try simp only[pst0,simprocAttr]))
  exact pb_fin hF.symm rfl g e1 e3 e4 e5 e6
 |some wr=>
  obtain⟨w,rest⟩:=wr
  have hso:=ho w rest rfl
  simp only[headV]at hc
  simp only at hF
  have hl:=Sx.rows_len rest
  cases q1:(w.data.toList==(#[100,101,102,105,110,101]:Array UInt8).toList)with
  |false=>
   rw[show bEq w opDef=false from q1]at hF
   simp only[cond_false]at hF
   refine pcall_body (ow:=fun _=>false) (wf:=fun _=>false) Ty.mixed Try.func26 rfl Ty.hb_26 (by rw[Try.ntmps26];simp) ?_
   rw[Try.ntmps26,Try.results26]
   repeat'(first|(with_reducible refine a_holdR 2 ?_)|refine a_seq fun K hK=>?_|(refine a_regionS ?_;simp(maxSteps:=2000000) only[Ty.w,simprocAttr])|(refine hK _ _ ?_;clear hK;try simp only[pst0,simprocAttr]))
   refine⟨?_⟩
   refine a_heap _ (hI0 _) (fun H hI=>?_)
   obtain⟨g,idl,o,i,v,g2,g3,g4,g5,gop,gna,gar,gpa,gex,gki,e1,eo,e3,e4,e5,e6⟩:=hI
   have o1:H.obj h.next=some (.arr 11 [pbZ]):=by rw[g.old _ (Nat.lt_succ_self _)];simp[Heap.new]
   have c3:=e3.cell
   have c4:=e4.cell
   have c5:=e5.cell
   have c6:=e6.1.cell
   have c7:=e6.2.1.cell
   have c8:=e6.2.2.1.cell
   have c9:=e6.2.2.2.cell
   repeat'(first|refine a_seq fun K hK=>?_|(refine a_regionS ?_;simp(maxSteps:=2000000) only[Ty.w,simprocAttr]))
   refine owp_useQ (hc _) (by(try simp only[Ty.w,simprocAttr,]);try rfl) ?_;simp(maxSteps:=2000000) only[Ty.w,simprocAttr,]
   repeat'(first|refine a_seq fun K hK=>?_|((first|refine a_regionS ?_|refine a_ret ?_);simp(maxSteps:=2000000) only[Ty.w,simprocAttr,Bool.not_true,Bool.not_false,q1,eo,o1,c3,c4,c5,c6,c7,c8,c9])|(refine hK _ _ ?_;clear hK;try simp only[pst0,simprocAttr]))
   exact pb_fin hF.symm rfl g e1 e3 e4 e5 e6
  |true=>
   rw[show bEq w opDef=true from q1]at hF
   simp only[cond_true]at hF
   cases rest with
   |nil=>
    simp only at hF
    have z0:(((Sx.rows []).length:Int)<1)=True:=by rw[hl];simp
    generalize Sx.rows []=R at hc hl z0
    refine pcall_body (ow:=fun _=>false) (wf:=fun _=>false) Ty.mixed Try.func26 rfl Ty.hb_26 (by rw[Try.ntmps26];simp) ?_
    rw[Try.ntmps26,Try.results26]
    repeat'(first|(with_reducible refine a_holdR 2 ?_)|refine a_seq fun K hK=>?_|(refine a_regionS ?_;simp(maxSteps:=2000000) only[Ty.w,simprocAttr])|(refine hK _ _ ?_;clear hK;try simp only[pst0,simprocAttr]))
    refine⟨?_⟩
    refine a_heap _ (hI0 _) (fun H hI=>?_)
    obtain⟨g,idl,o,i,v,g2,g3,g4,g5,gop,gna,gar,gpa,gex,gki,e1,eo,e3,e4,e5,e6⟩:=hI
    have o1:H.obj h.next=some (.arr 11 [pbZ]):=by rw[g.old _ (Nat.lt_succ_self _)];simp[Heap.new]
    have c3:=e3.cell
    have c4:=e4.cell
    have c5:=e5.cell
    have c6:=e6.1.cell
    have c7:=e6.2.1.cell
    have c8:=e6.2.2.1.cell
    have c9:=e6.2.2.2.cell
    repeat'(first|refine a_seq fun K hK=>?_|(refine a_regionS ?_;simp(maxSteps:=2000000) only[Ty.w,simprocAttr]))
    refine owp_useQ (hc _) (by(try simp only[Ty.w,simprocAttr,]);try rfl) ?_;simp(maxSteps:=2000000) only[Ty.w,simprocAttr,]
    repeat'(first|refine a_seq fun K hK=>?_|((first|refine a_regionS ?_|refine a_ret ?_);simp(maxSteps:=2000000) only[Ty.w,simprocAttr,Bool.not_true,Bool.not_false,q1,hl,z0,decide_true,eo,o1,c3,c4,c5,c6,c7,c8,c9])|(refine hK _ _ ?_;clear hK;try simp only[pst0,simprocAttr]))
    exact pb_fin hF.symm rfl g e1 e3 e4 e5 e6
   |cons n rest1=>
    simp only at hF
    have hno:=hso.2.2 n (by simp)
    have hn:=fun h:Heap=>pnamed_c (want:=opPrb) hno h
    have hne:=namedP_err (x:=n) (want:=opPrb)
    have r0:=Sx.rows_get (l:=n::rest1) (i:=0) rfl
    have d0:decide (((Sx.rows (n::rest1)).length:Int)<1)=false:=by rw[hl];simp;omega
    have hl1:((Sx.rows (n::rest1)).length:Int)=rest1.length+1:=by rw[hl];simp
    generalize hN:namedP n opPrb=N at hF hn hne
    obtain⟨na,cn⟩:=N
    simp only at hF hn hne
    have hnr: ∃ a b c d e f,n= .mk a b c d e f:=by obtain⟨a,b,c,d,e,f⟩:=n;exact⟨a,b,c,d,e,f,rfl⟩
    cases hcn:cn==0 with
    |false=>
     rw[hcn]at hF
     simp only[cond_false]at hF
     have e0:errP cn=errV cn:=by simp only[errP,hcn,cond_false]
     have:=hne hcn
     subst this
     rw[e0]at hn
     simp only[errV]at hn
     clear hs ho hso hl
     generalize Sx.rows (n::rest1)=R at hc r0 d0 hl1
     obtain⟨ki,va,li,co,te,ks,rfl⟩:=hnr
     simp only[Sx.cells]at r0 hn
     refine pcall_body (ow:=fun _=>false) (wf:=fun _=>false) Ty.mixed Try.func26 rfl Ty.hb_26 (by rw[Try.ntmps26];simp) ?_
     rw[Try.ntmps26,Try.results26]
     repeat'(first|(with_reducible refine a_holdR 2 ?_)|refine a_seq fun K hK=>?_|(refine a_regionS ?_;simp(maxSteps:=2000000) only[Ty.w,simprocAttr])|(refine hK _ _ ?_;clear hK;try simp only[pst0,simprocAttr]))
     refine⟨?_⟩
     refine a_heap _ (hI0 _) (fun H hI=>?_)
     obtain⟨g,idl,o,i,v,g2,g3,g4,g5,gop,gna,gar,gpa,gex,gki,e1,eo,e3,e4,e5,e6⟩:=hI
     have o1:H.obj h.next=some (.arr 11 [pbZ]):=by rw[g.old _ (Nat.lt_succ_self _)];simp[Heap.new]
     have c3:=e3.cell
     have c4:=e4.cell
     have c5:=e5.cell
     have c6:=e6.1.cell
     have c7:=e6.2.1.cell
     have c8:=e6.2.2.1.cell
     have c9:=e6.2.2.2.cell
     have n1:(h.next=h.next+1)=False:=by simp
     have hS:=PbI.setN (a:=⟨#[]⟩) (d:=⟨#[]⟩) (p:=pb0 ⟨#[]⟩ ⟨#[]⟩) g idl e1 e3 e4 e5 e6
     repeat'(first|refine a_seq fun K hK=>?_|(refine a_regionS ?_;simp(maxSteps:=2000000) only[Ty.w,simprocAttr]))
     refine owp_useQ (hc _) (by(try simp only[Ty.w,simprocAttr,]);try rfl) ?_;simp(maxSteps:=2000000) only[Ty.w,simprocAttr,]
     repeat'(first|refine a_seq fun K hK=>?_|(refine a_regionS ?_;simp(maxSteps:=2000000) only[Ty.w,simprocAttr,Bool.not_true,q1,d0,r0])|(refine a_skip ?_;try simp only[pst0,simprocAttr])|(refine a_cond _ (by(try simp(maxSteps:=2000000) only[Ty.w,simprocAttr,Bool.not_true,q1,d0,r0]);rfl) (fun hb=>?_) (fun hb=>?_)<;>(try simp only[hb0,decide_eq_true_eq,decide_eq_false_iff_not,simprocAttr]at hb)<;>(try(exfalso;omega)))|(refine hK _ _ ?_;clear hK;try simp only[pst0,simprocAttr]))
     refine owp_useQ (hn _) (by(try simp only[Ty.w,simprocAttr,r0,eo]);try rfl) ?_;simp(maxSteps:=2000000) only[Ty.w,simprocAttr,r0,eo]
     repeat'(first|refine a_seq fun K hK=>?_|((first|refine a_regionS ?_|refine a_ret ?_);simp(maxSteps:=2000000) only[Ty.w,simprocAttr,eo,o1,n1,c3,c4,c5,c6,c7,c8,c9])|(refine hK _ _ ?_;clear hK;try simp only[pst0,simprocAttr]))
     exact pb_fin hF.symm e0 hS.grow e1 e3 (e4.mid (Nat.lt_succ_self _) _) (e5.mid (Nat.lt_succ_self _) _) e6
    |true=>
     rw[hcn]at hF
     simp only[cond_true]at hF
     have e0:errP cn= .sc .nilIface:=by simp only[errP,hcn,cond_true]
     rw[e0]at hn
     cases rest1 with
     |nil=>
      simp only at hF
      have d1:decide (((Sx.rows [n]).length:Int)<2)=true:=by rw[hl];simp
      clear hs ho hso hl
      generalize Sx.rows [n]=R at hc r0 d0 d1
      obtain⟨ki,va,li,co,te,ks,rfl⟩:=hnr
      simp only[Sx.cells]at r0 hn
      refine pcall_body (ow:=fun _=>false) (wf:=fun _=>false) Ty.mixed Try.func26 rfl Ty.hb_26 (by rw[Try.ntmps26];simp) ?_
      rw[Try.ntmps26,Try.results26]
      repeat'(first|(with_reducible refine a_holdR 2 ?_)|refine a_seq fun K hK=>?_|(refine a_regionS ?_;simp(maxSteps:=2000000) only[Ty.w,simprocAttr])|(refine hK _ _ ?_;clear hK;try simp only[pst0,simprocAttr]))
      refine⟨?_⟩
      refine a_heap _ (hI0 _) (fun H hI=>?_)
      obtain⟨g,idl,o,i,v,g2,g3,g4,g5,gop,gna,gar,gpa,gex,gki,e1,eo,e3,e4,e5,e6⟩:=hI
      have o1:H.obj h.next=some (.arr 11 [pbZ]):=by rw[g.old _ (Nat.lt_succ_self _)];simp[Heap.new]
      have c3:=e3.cell
      have c4:=e4.cell
      have c5:=e5.cell
      have c6:=e6.1.cell
      have c7:=e6.2.1.cell
      have c8:=e6.2.2.1.cell
      have c9:=e6.2.2.2.cell
      have n1:(h.next=h.next+1)=False:=by simp
      have hS:=PbI.setN (a:=na) (d:=⟨#[]⟩) (p:=pb0 ⟨#[]⟩ ⟨#[]⟩) g idl e1 e3 e4 e5 e6
      repeat'(first|refine a_seq fun K hK=>?_|(refine a_regionS ?_;simp(maxSteps:=2000000) only[Ty.w,simprocAttr]))
      refine owp_useQ (hc _) (by(try simp only[Ty.w,simprocAttr,]);try rfl) ?_;simp(maxSteps:=2000000) only[Ty.w,simprocAttr,]
      repeat'(first|refine a_seq fun K hK=>?_|(refine a_regionS ?_;simp(maxSteps:=2000000) only[Ty.w,simprocAttr,Bool.not_true,q1,d0,r0])|(refine a_skip ?_;try simp only[pst0,simprocAttr])|(refine a_cond _ (by(try simp(maxSteps:=2000000) only[Ty.w,simprocAttr,Bool.not_true,q1,d0,r0]);rfl) (fun hb=>?_) (fun hb=>?_)<;>(try simp only[hb0,decide_eq_true_eq,decide_eq_false_iff_not,simprocAttr]at hb)<;>(try(exfalso;omega)))|(refine hK _ _ ?_;clear hK;try simp only[pst0,simprocAttr]))
      refine owp_useQ (hn _) (by(try simp only[Ty.w,simprocAttr,r0,eo]);try rfl) ?_;simp(maxSteps:=2000000) only[Ty.w,simprocAttr,r0,eo]
      repeat'(first|refine a_seq fun K hK=>?_|((first|refine a_regionS ?_|refine a_ret ?_);simp(maxSteps:=2000000) only[Ty.w,simprocAttr,eo,o1,d1,n1,c3,c4,c5,c6,c7,c8,c9])|(refine a_skip ?_;try simp only[pst0,simprocAttr])|(refine a_cond _ (by(try simp(maxSteps:=2000000) only[Ty.w,simprocAttr,eo,o1,d1,n1,c3,c4,c5,c6,c7,c8,c9]);rfl) (fun hb=>?_) (fun hb=>?_)<;>(try simp only[hb0,decide_eq_true_eq,decide_eq_false_iff_not,simprocAttr]at hb)<;>(try(exfalso;omega)))|(refine hK _ _ ?_;clear hK;try simp only[pst0,simprocAttr]))
      exact pb_fin (q:=pb0 na ⟨#[]⟩) hF.symm e2 hS.grow e1 e3 (e4.mid (Nat.lt_succ_self _) _) (e5.mid (Nat.lt_succ_self _) _) e6
     |cons d secs=>
      simp only at hF
      obtain⟨_,hdo,hsy,hss,hsl⟩:=hs n d secs w rfl
      have hd:=fun h:Heap=>pnamed_c (want:=opDom) hdo h
      have hde:=namedP_err (x:=d) (want:=opDom)
      have r1:=Sx.rows_get (l:=n::d::secs) (i:=1) rfl
      have d1:decide (((Sx.rows (n::d::secs)).length:Int)<2)=false:=by rw[hl];simp;omega
      have ht:List.take (((Sx.rows (n::d::secs)).length:Int)-2).toNat (List.drop 2 (Sx.rows (n::d::secs)))=Sx.rows secs:=by
       simp only[Sx.rows,List.drop_succ_cons,List.drop_zero,List.length_cons]
       rw[List.take_of_length_le (by omega)]
      have q3:(2:Int)≤((Sx.rows (n::d::secs)).length:Int):=by rw[hl];simp;omega
      generalize hD:namedP d opDom=N at hF hd hde
      obtain⟨da,cd⟩:=N
      simp only at hF hd hde
      have hdr: ∃ a b c d2 e f,d= .mk a b c d2 e f:=by obtain⟨a,b,c,d2,e,f⟩:=d;exact⟨a,b,c,d2,e,f,rfl⟩
      clear ho hs hl
      generalize Sx.rows (n::d::secs)=R at hc r0 r1 d0 d1 ht q3
      obtain⟨ki,va,li,co,te,ks,rfl⟩:=hnr
      obtain⟨ki2,va2,li2,co2,te2,ks2,rfl⟩:=hdr
      simp only[Sx.cells]at r0 r1 hn hd
      have n1:(h.next=h.next+1)=False:=by simp
      refine pcall_body (ow:=fun _=>false) (wf:=fun _=>false) Ty.mixed Try.func26 rfl Ty.hb_26 (by rw[Try.ntmps26];simp) ?_
      rw[Try.ntmps26,Try.results26]
      repeat'(first|(with_reducible refine a_holdR 2 ?_)|refine a_seq fun K hK=>?_|(refine a_regionS ?_;simp(maxSteps:=2000000) only[Ty.w,simprocAttr])|(refine hK _ _ ?_;clear hK;try simp only[pst0,simprocAttr]))
      refine⟨?_⟩
      refine a_heap _ (hI0 _) (fun H hI=>?_)
      obtain⟨g,idl,o,i,v,g2,g3,g4,g5,gop,gna,gar,gpa,gex,gki,e1,eo,e3,e4,e5,e6⟩:=hI
      have hS:=PbI.setN (a:=na) (d:=⟨#[]⟩) (p:=pb0 ⟨#[]⟩ ⟨#[]⟩) g idl e1 e3 e4 e5 e6
      repeat'(first|refine a_seq fun K hK=>?_|(refine a_regionS ?_;simp(maxSteps:=2000000) only[Ty.w,simprocAttr]))
      refine owp_useQ (hc _) (by(try simp only[Ty.w,simprocAttr,]);try rfl) ?_;simp(maxSteps:=2000000) only[Ty.w,simprocAttr,]
      repeat'(first|refine a_seq fun K hK=>?_|(refine a_regionS ?_;simp(maxSteps:=2000000) only[Ty.w,simprocAttr,Bool.not_true,q1,d0,r0])|(refine a_skip ?_;try simp only[pst0,simprocAttr])|(refine a_cond _ (by(try simp(maxSteps:=2000000) only[Ty.w,simprocAttr,Bool.not_true,q1,d0,r0]);rfl) (fun hb=>?_) (fun hb=>?_)<;>(try simp only[hb0,decide_eq_true_eq,decide_eq_false_iff_not,simprocAttr]at hb)<;>(try(exfalso;omega)))|(refine hK _ _ ?_;clear hK;try simp only[pst0,simprocAttr]))
      refine owp_useQ (hn _) (by(try simp only[Ty.w,simprocAttr,r0,eo]);try rfl) ?_;simp(maxSteps:=2000000) only[Ty.w,simprocAttr,r0,eo]
      repeat'(first|(with_reducible refine a_hold 11 ?_)|refine a_seq fun K hK=>?_|(refine a_regionS ?_;simp(maxSteps:=2000000) only[Ty.w,simprocAttr,eo,d1])|(refine a_skip ?_;try simp only[pst0,simprocAttr])|(refine a_cond _ (by(try simp(maxSteps:=2000000) only[Ty.w,simprocAttr,eo,d1]);rfl) (fun hb=>?_) (fun hb=>?_)<;>(try simp only[hb0,decide_eq_true_eq,decide_eq_false_iff_not,simprocAttr]at hb)<;>(try(exfalso;omega)))|(refine hK _ _ ?_;clear hK;try simp only[pst0,simprocAttr]))
      refine⟨?_⟩
      refine a_gen (fun S H=>S 2= .ptr h.next 0 0∧S 4= .ptr (h.next+1) 0 0∧S 6= .imm 6 R∧PbI (h.new (.arr 11 [pbZ])) (h.next+1) (pb0 na ⟨#[]⟩) H) ⟨by simp only[Ty.w,simprocAttr],by simp only[Ty.w,simprocAttr],by simp only[Ty.w,simprocAttr],hS⟩ ?_
      clear hI0 g eo e1 e3 e4 e5 e6 hS hn hc hne
      rintro S H ⟨s2,s4,s6,hI⟩
      obtain⟨g,idl,o,i,v,g2,g3,g4,g5,gop,gna,gar,gpa,gex,gki,e1,eo,e3,e4,e5,e6⟩:=hI
      have o1:H.obj h.next=some (.arr 11 [pbZ]):=by rw[g.old _ (Nat.lt_succ_self _)];simp[Heap.new]
      have hS:=fun da=>PbI.setN (a:=na) (d:=da) (p:=pb0 na ⟨#[]⟩) g idl e1 e3 e4 e5 e6
      simp only[pb0]at eo
      cases hcd:cd==0 with
      |false=>
       rw[hcd]at hF
       simp only[cond_false]at hF
       have e0:errP cd=errV cd:=by simp only[errP,hcd,cond_false]
       have:=hde hcd
       subst this
       rw[e0]at hd
       simp only[errV]at hd
       have c3:=e3.cell
       have c4:=e4.cell
       have c5:=e5.cell
       have c6:=e6.1.cell
       have c7:=e6.2.1.cell
       have c8:=e6.2.2.1.cell
       have c9:=e6.2.2.2.cell
       repeat'(first|refine a_seq fun K hK=>?_|(refine a_regionS ?_;simp(maxSteps:=2000000) only[Ty.w,simprocAttr,s2,s4,s6,r1]))
       refine owp_useQ (hd _) (by(try simp only[Ty.w,simprocAttr,s2,s4,s6,r1,eo]);try rfl) ?_;simp(maxSteps:=2000000) only[Ty.w,simprocAttr,s2,s4,s6,r1,eo]
       repeat'(first|refine a_seq fun K hK=>?_|((first|refine a_regionS ?_|refine a_ret ?_);simp(maxSteps:=2000000) only[Ty.w,simprocAttr,s2,s4,s6,eo,o1,n1,c3,c4,c5,c6,c7,c8,c9])|(refine hK _ _ ?_;clear hK;try simp only[pst0,simprocAttr]))
       exact pb_fin (q:=pb0 na ⟨#[]⟩) hF.symm e0 (hS ⟨#[]⟩).grow e1 e3 (e4.mid (Nat.lt_succ_self _) _) (e5.mid (Nat.lt_succ_self _) _) e6
      |true=>
       rw[hcd]at hF
       simp only[cond_true]at hF
       have e0:errP cd= .sc .nilIface:=by simp only[errP,hcd,cond_true]
       rw[e0]at hd
       have hll:=Sx.rows_len secs
       have hS:=hS da
       repeat'(first|refine a_seq fun K hK=>?_|(refine a_regionS ?_;simp(maxSteps:=2000000) only[Ty.w,simprocAttr,s2,s4,s6,r1]))
       refine owp_useQ (hd _) (by(try simp only[Ty.w,simprocAttr,s2,s4,s6,r1,eo]);try rfl) ?_;simp(maxSteps:=2000000) only[Ty.w,simprocAttr,s2,s4,s6,r1,eo]
       repeat'(first|(with_reducible refine a_holdR 14 ?_)|refine a_seq fun K hK=>?_|(refine a_regionS ?_;simp(maxSteps:=2000000) only[Ty.w,simprocAttr,s2,s4,s6,eo])|(refine a_skip ?_;try simp only[pst0,simprocAttr])|(refine a_cond _ (by(try simp(maxSteps:=2000000) only[Ty.w,simprocAttr,s2,s4,s6,eo]);rfl) (fun hb=>?_) (fun hb=>?_)<;>(try simp only[hb0,decide_eq_true_eq,decide_eq_false_iff_not,simprocAttr]at hb)<;>(try(exfalso;omega)))|(refine hK _ _ ?_;clear hK;try simp only[pst0,simprocAttr]))
       refine⟨?_⟩
       refine a_gen (fun S H=>S 2= .ptr h.next 0 0∧S 4= .ptr (h.next+1) 0 0∧S 6= .imm 6 R∧PbI (h.new (.arr 11 [pbZ])) (h.next+1) (pb0 na da) H) ⟨by simp only[Ty.w,simprocAttr,s2],by simp only[Ty.w,simprocAttr,s4],by simp only[Ty.w,simprocAttr,s6],hS⟩ ?_
       clear g eo e1 e3 e4 e5 e6 hS hd s2 s4 s6 o1
       rintro S H ⟨s2,s4,s6,hI⟩
       repeat'(first|refine a_seq fun K hK=>?_|(refine a_block ?_)|(refine a_regionS ?_;simp(maxSteps:=2000000) only[Ty.w,simprocAttr,s2,s4,s6,ht,q3,hll,Option.getD_some,Option.getD_none,Int.le_refl,Int.toNat_one])|(refine hK _ _ ?_;clear hK;try simp only[pst0,simprocAttr]))
       refine a_loop (fun m S h'=>S 2= .ptr h.next 0 0∧S 4= .ptr (h.next+1) 0 0∧S 69= .imm 6 (Sx.rows secs)∧S 70= .sc (.int .i64 secs.length)∧ ∃ (k:Nat)(od:List ByteArray)(p:Pb),S 71= .sc (.int .i64 k)∧S 9= .imm 1 (strRows od)∧k≤secs.length∧m=secs.length-k∧od.length≤3∧
        PbI (h.new (.arr 11 [pbZ])) (h.next+1) p h'∧p.init.length≤k*1048576∧p.values.length≤k*1048576∧F=sectsP od p (secs.drop k)) secs.length ?_ ?_
       ·simp only[Ty.w,simprocAttr,s2,s4]
        exact⟨0,pbOrder,pb0 na da,rfl,rfl,by omega,rfl,by decide,hI,by simp[pb0],by simp[pb0],by rw[List.drop_zero];exact hF.symm⟩
       ·clear hI hF s2 s4 s6 ht q3 r0 r1 d0 d1
        rintro m S h' ⟨s2,s4,s69,s70,k,od,p,s71,s9,hk,rfl,hol,hI,hi1,hi2,hinv⟩
        by_cases hlt:k<secs.length
        ·have hdk:decide ((k:Int)<(secs.length:Int))=true:=by simp;omega
         have w7:IntKind.i64.wrap ((k:Int)+1)=k+1:=by rw[wrap64 (by omega) (by omega)]
         obtain⟨y,hx⟩: ∃ y,secs[k]? =some y:=⟨_,List.getElem?_eq_getElem hlt⟩
         have hr:=Sx.rows_get hx
         have hmem:=List.mem_of_getElem? hx
         have hyo:=hsy y hmem
         have hys:=hss y hmem
         have hch:=phead_c hyo
         have hmo:=fun w l=>headM_ok2 hyo (w:=w) (l:=l)
         have hms:=fun w l=>headM_small hys (w:=w) (l:=l)
         rw[drop_of_get hx,sectsP]at hinv
         generalize headM y=Y at hinv hch hmo hms
         obtain⟨ki,va,li,co,te,ks⟩:=y
         simp only[Sx.cells]at hr hch
         repeat'(first|(with_reducible refine a_holdR 18 ?_)|refine a_seq fun K hK=>?_|(refine a_regionS ?_;simp(maxSteps:=2000000) only[Ty.w,simprocAttr,s2,s4,s9,s69,s70,s71,hdk,hr])|(refine a_skip ?_;try simp only[pst0,simprocAttr])|(refine a_cond _ (by(try simp(maxSteps:=2000000) only[Ty.w,simprocAttr,s2,s4,s9,s69,s70,s71,hdk,hr]);rfl) (fun hb=>?_) (fun hb=>?_)<;>(try simp only[hb0,decide_eq_true_eq,decide_eq_false_iff_not,simprocAttr]at hb)<;>(try(exfalso;omega)))|(refine hK _ _ ?_;clear hK;try simp only[pst0,simprocAttr]))
         refine⟨?_⟩
         refine a_tmp 11 rfl (by simp only[Ty.w,simprocAttr]) (sx_frz' · · ki va li co te ks) ?_
         refine a_gen (fun S H=>S 2= .ptr h.next 0 0∧S 4= .ptr (h.next+1) 0 0∧S 9= .imm 1 (strRows od)∧S 69= .imm 6 (Sx.rows secs)∧S 70= .sc (.int .i64 secs.length)∧S 71= .sc (.int .i64 k)∧S 11= .cptr [.sc (.int .i64 ki),.sc (.int .i64 va),.sc (.int .i64 li),.sc (.int .i64 co),sPV te,.imm 6 (Sx.rows ks)]∧PbI (h.new (.arr 11 [pbZ])) (h.next+1) p H) ⟨by simp only[Ty.w,simprocAttr,s2],by simp only[Ty.w,simprocAttr,s4],by simp only[Ty.w,simprocAttr,s9],by simp only[Ty.w,simprocAttr,s69],by simp only[Ty.w,simprocAttr,s70],by simp only[Ty.w,simprocAttr,s71],by simp only[Ty.w,simprocAttr],hI.tmp _ _⟩ ?_
         clear hI s2 s4 s9 s69 s70 s71 hr hdk
         rintro S h' ⟨s2,s4,s9,s69,s70,s71,s11,hI⟩
         cases Y with
         |none=>
          simp only at hinv
          simp only[headV]at hch
          have hix:=fun(s:ByteArray)(H:Heap)=>index_c (h:=H) (l:=od) (s:=s) (by omega)
          obtain⟨g,idl,o,i,v,g2,g3,g4,g5,gop,gna,gar,gpa,gex,gki,e1,eo,e3,e4,e5,e6⟩:=hI
          have o1:h'.obj h.next=some (.arr 11 [pbZ]):=by rw[g.old _ (Nat.lt_succ_self _)];simp[Heap.new]
          have c3:=e3.cell
          have c4:=e4.cell
          have c5:=e5.cell
          have c6:=e6.1.cell
          have c7:=e6.2.1.cell
          have c8:=e6.2.2.1.cell
          have c9:=e6.2.2.2.cell
          repeat'(first|refine a_seq fun K hK=>?_|(refine a_regionS ?_;simp(maxSteps:=2000000) only[Ty.w,simprocAttr,s2,s4,s9,s11]))
          refine owp_useQ (hch _) (by(try simp only[Ty.w,simprocAttr,s2,s4,s9,s11]);try rfl) ?_;simp(maxSteps:=2000000) only[Ty.w,simprocAttr,s2,s4,s9,s11]
          repeat'(first|refine a_seq fun K hK=>?_|(refine a_regionS ?_;simp(maxSteps:=2000000) only[Ty.w,simprocAttr,s2,s4,s9])|(refine hK _ _ ?_;clear hK;try simp only[pst0,simprocAttr]))
          refine owp_useQ (hix _ _) (by(try simp only[Ty.w,simprocAttr,s2,s4,s9]);try rfl) ?_;simp(maxSteps:=2000000) only[Ty.w,simprocAttr,s2,s4,s9]
          repeat'(first|refine a_seq fun K hK=>?_|((first|refine a_regionS ?_|refine a_ret ?_);simp(maxSteps:=2000000) only[Ty.w,simprocAttr,s2,s4,s9,Bool.not_false,eo,o1,n1,c3,c4,c5,c6,c7,c8,c9])|(refine hK _ _ ?_;clear hK;try simp only[pst0,simprocAttr]))
          exact pb_fin hinv rfl g e1 e3 e4 e5 e6
         |some wr=>
          obtain⟨w2,rest2⟩:=wr
          obtain⟨_,_,mo⟩:=hmo w2 rest2 rfl
          obtain⟨ml,ms⟩:=hms w2 rest2 rfl
          clear hmo hms
          simp only at hinv
          simp only[headV]at hch
          have hix:=fun(H:Heap)=>index_c (h:=H) (l:=od) (s:=w2) (by omega)
          rcases after_idx w2 od with⟨a1,a2⟩|⟨j,a1,a2,a3⟩
          ·rw [a1]at hinv
           rw[a2]at hix
           simp only at hinv
           obtain⟨g,idl,o,i,v,g2,g3,g4,g5,gop,gna,gar,gpa,gex,gki,e1,eo,e3,e4,e5,e6⟩:=hI
           have o1:h'.obj h.next=some (.arr 11 [pbZ]):=by rw[g.old _ (Nat.lt_succ_self _)];simp[Heap.new]
           have c3:=e3.cell
           have c4:=e4.cell
           have c5:=e5.cell
           have c6:=e6.1.cell
           have c7:=e6.2.1.cell
           have c8:=e6.2.2.1.cell
           have c9:=e6.2.2.2.cell
           have hneg:decide ((-1:Int)<0)=true:=rfl
           repeat'(first|refine a_seq fun K hK=>?_|(refine a_regionS ?_;simp(maxSteps:=2000000) only[Ty.w,simprocAttr,s2,s4,s9,s11]))
           refine owp_useQ (hch _) (by(try simp only[Ty.w,simprocAttr,s2,s4,s9,s11]);try rfl) ?_;simp(maxSteps:=2000000) only[Ty.w,simprocAttr,s2,s4,s9,s11]
           repeat'(first|refine a_seq fun K hK=>?_|(refine a_regionS ?_;simp(maxSteps:=2000000) only[Ty.w,simprocAttr,s2,s4,s9])|(refine hK _ _ ?_;clear hK;try simp only[pst0,simprocAttr]))
           refine owp_useQ (hix _) (by(try simp only[Ty.w,simprocAttr,s2,s4,s9]);try rfl) ?_;simp(maxSteps:=2000000) only[Ty.w,simprocAttr,s2,s4,s9]
           repeat'(first|refine a_seq fun K hK=>?_|((first|refine a_regionS ?_|refine a_ret ?_);simp(maxSteps:=2000000) only[Ty.w,simprocAttr,s2,s4,s9,Bool.not_true,hneg,eo,o1,n1,c3,c4,c5,c6,c7,c8,c9])|(refine hK _ _ ?_;clear hK;try simp only[pst0,simprocAttr]))
           exact pb_fin hinv rfl g e1 e3 e4 e5 e6
          ·rw [a3]at hinv
           rw[a2]at hix
           simp only at hinv
           have hse:=fun(H:Heap)(hI:PbI (h.new (.arr 11 [pbZ])) (h.next+1) p H)=>section_c (w:=w2) ml mo ms (by omega) (by omega) H hI
           have hsc:=sectP_len p w2 rest2
           generalize sectP p w2 rest2=W at hinv hse hsc
           obtain⟨p2,c⟩:=W
           simp only at hinv hse hsc
           have hnn:decide ((j:Int)<0)=false:=by simp
           have wj:IntKind.i64.wrap ((j:Int)+1)=j+1:=by rw[wrap64 (by omega) (by omega)]
           have hsr:=strRows_len od
           have b1:(0:Int)≤(j:Int)+1:=by omega
           have b2:((j:Int)+1)≤(od.length:Int):=by omega
           have hto:((j:Int)+1).toNat=j+1:=by omega
           have htk:List.take ((od.length:Int)-((j:Int)+1)).toNat (List.drop (j+1) (strRows od))=strRows (od.drop (j+1)):=by
            rw[List.take_of_length_le (by rw[List.length_drop,hsr];omega)]
            simp[strRows,List.map_drop]
           repeat'(first|refine a_seq fun K hK=>?_|(refine a_regionS ?_;simp(maxSteps:=2000000) only[Ty.w,simprocAttr,s2,s4,s9,s11]))
           refine owp_useQ (hch _) (by(try simp only[Ty.w,simprocAttr,s2,s4,s9,s11]);try rfl) ?_;simp(maxSteps:=2000000) only[Ty.w,simprocAttr,s2,s4,s9,s11]
           repeat'(first|refine a_seq fun K hK=>?_|(refine a_regionS ?_;simp(maxSteps:=2000000) only[Ty.w,simprocAttr,s2,s4,s9])|(refine hK _ _ ?_;clear hK;try simp only[pst0,simprocAttr]))
           refine owp_useQ (hix _) (by(try simp only[Ty.w,simprocAttr,s2,s4,s9]);try rfl) ?_;simp(maxSteps:=2000000) only[Ty.w,simprocAttr,s2,s4,s9]
           repeat'(first|refine a_seq fun K hK=>?_|(refine a_regionS ?_;simp(maxSteps:=2000000) only[Ty.w,simprocAttr,s2,s4,s9,Bool.not_true,hnn,wj,hsr,b1,b2,hto,htk,Int.le_refl,Option.getD_some,Option.getD_none])|(refine a_skip ?_;try simp only[pst0,simprocAttr])|(refine a_cond _ (by(try simp(maxSteps:=2000000) only[Ty.w,simprocAttr,s2,s4,s9,Bool.not_true,hnn,wj,hsr,b1,b2,hto,htk,Int.le_refl,Option.getD_some,Option.getD_none]);rfl) (fun hb=>?_) (fun hb=>?_)<;>(try simp only[hb0,decide_eq_true_eq,decide_eq_false_iff_not,simprocAttr]at hb)<;>(try(exfalso;omega)))|(refine hK _ _ ?_;clear hK;try simp only[pst0,simprocAttr]))
           refine owp_useL (hse _ hI) (by simp only[Ty.w,simprocAttr,s4];try rfl) ?_
           rintro r h2 ⟨rfl,hI2⟩
           clear hI hse hch hix
           simp(maxSteps:=2000000) only[Ty.w,simprocAttr,Ty.all]
           cases hcc:c==0 with
           |false=>
            rw[hcc]at hinv
            simp only[cond_false]at hinv
            have e0:errP c=errV c:=by simp only[errP,hcc,cond_false]
            simp only[e0,errV]
            obtain⟨g,idl,o,i,v,g2,g3,g4,g5,gop,gna,gar,gpa,gex,gki,e1,eo,e3,e4,e5,e6⟩:=hI2
            have o1:h2.obj h.next=some (.arr 11 [pbZ]):=by rw[g.old _ (Nat.lt_succ_self _)];simp[Heap.new]
            have c3:=e3.cell
            have c4:=e4.cell
            have c5:=e5.cell
            have c6:=e6.1.cell
            have c7:=e6.2.1.cell
            have c8:=e6.2.2.1.cell
            have c9:=e6.2.2.2.cell
            repeat'(first|refine a_seq fun K hK=>?_|((first|refine a_regionS ?_|refine a_ret ?_);simp(maxSteps:=2000000) only[Ty.w,simprocAttr,s2,s4,eo,o1,n1,c3,c4,c5,c6,c7,c8,c9])|(refine hK _ _ ?_;clear hK;try simp only[pst0,simprocAttr]))
            exact pb_fin hinv e0 g e1 e3 e4 e5 e6
           |true=>
            rw[hcc]at hinv
            simp only[cond_true]at hinv
            have e0:errP c= .sc .nilIface:=by simp only[errP,hcc,cond_true]
            simp only[e0]
            repeat'(first|refine a_seq fun K hK=>?_|(refine a_block ?_)|(refine a_regionS ?_;simp(maxSteps:=2000000) only[Ty.w,simprocAttr,s2,s4,s69,s70,s71,w7])|(refine a_skip ?_;try simp only[pst0,simprocAttr])|(refine hK _ _ ?_;clear hK;try simp only[pst0,simprocAttr]))
            exact⟨secs.length-(k+1),by omega,k+1,od.drop (j+1),p2,by simp,rfl,by omega,rfl,by simp;omega,hI2,by omega,by omega,hinv⟩
        ·have hdk:decide ((k:Int)<(secs.length:Int))=false:=by simp;omega
         rw[List.drop_eq_nil_of_le (by omega)]at hinv
         simp only[sectsP]at hinv
         obtain⟨g,idl,o,i,v,g2,g3,g4,g5,gop,gna,gar,gpa,gex,gki,e1,eo,e3,e4,e5,e6⟩:=hI
         have o1:h'.obj h.next=some (.arr 11 [pbZ]):=by rw[g.old _ (Nat.lt_succ_self _)];simp[Heap.new]
         have c3:=e3.cell
         have c4:=e4.cell
         have c5:=e5.cell
         have c6:=e6.1.cell
         have c7:=e6.2.1.cell
         have c8:=e6.2.2.1.cell
         have c9:=e6.2.2.2.cell
         repeat'(first|refine a_seq fun K hK=>?_|((first|refine a_regionS ?_|refine a_ret ?_);simp(maxSteps:=2000000) only[Ty.w,simprocAttr,s2,s4,s9,s69,s70,s71,hdk,eo,o1,n1,c3,c4,c5,c6,c7,c8,c9])|(refine a_exit ?_;try simp only[pst0,simprocAttr])|(refine a_cond _ (by(try simp(maxSteps:=2000000) only[Ty.w,simprocAttr,s2,s4,s9,s69,s70,s71,hdk,eo,o1,n1,c3,c4,c5,c6,c7,c8,c9]);rfl) (fun hb=>?_) (fun hb=>?_)<;>(try simp only[hb0,decide_eq_true_eq,decide_eq_false_iff_not,simprocAttr]at hb)<;>(try(exfalso;omega)))|((first|refine hK _ _ ?_|(clear hK;refine hK _ _ ?_));clear hK;try simp only[pst0,simprocAttr]))
         exact pb_fin hinv rfl g e1 e3 e4 e5 e6
end Go.Proofs.Ytjeolbgpllbemaa
namespace Go.AM
section
variable {P:Program}{ow:Nat→Bool}{wf:FuncId→Bool}{n:Nat}{Q:Post}{s:Slots}{h:Heap}
def alIdx(ops:List Oper):List Nat:=(List.range ops.length).filter (alB ops)
def drn2(P:Program)(ow:Nat→Bool)(wf:FuncId→Bool)(n:Nat)(ops:List Oper)(al:List Nat)(base:Nat):Nat→List Oper→Past→List (Nat × Heap)→(Slots→Heap→Prop)→Slots→Heap→Prop
 |_,[],_,_,K,s,h=>K s h
 |k,o::rest,past,hist,K,s,h=>(o.dst.all (fun d=>decide (d<n))=true)∧match wantedB ops s o with
  |none=>False
  | some b => if b = true then
    (match o.op with
    | .alloc t=>(match zeroT P t with
     | some zs => 0 < zs.length ∧ (∀ f ∈ al, k < f → (h.set (base + k) (.arr zs.length [zs.map .sc])).obj (base + f) = none) ∧ (∀ x ∈ past, pre ops x.1 k = true ∨ Does P ow x.2.1 (pev x.2.2.1) (h.set (base + k) (.arr zs.length [zs.map .sc])) x.2.2.2 (h.set (base + k) (.arr zs.length [zs.map .sc]))) ∧
       drn2 P ow wf n ops al base (k+1) rest past ((k,h)::hist) K (updO s o.dst (.ptr (base+k) 0 0)) (h.set (base+k) (.arr zs.length [zs.map .sc]))
     |none=>False)
    |_=>(match callee (pev s) o.op with
     |none=>(match eff P (o.dst.any ow) o.op (pev s) h with
      |some (v,h1)=>if isW ow wf o=true then(∀ f∈al,k<f→h1.obj (base+f)=none)∧(∀ x∈past,pre ops x.1 k=true∨Does P ow x.2.1 (pev x.2.2.1) h1 x.2.2.2 h1)∧drn2 P ow wf n ops al base (k+1) rest past ((k,h)::hist) K (updO s o.dst v) h1
       else h1=h∧(∀ x∈hist,pre ops x.1 k=true∨Does P ow o (pev s) x.2 v x.2)∧drn2 P ow wf n ops al base (k+1) rest ((k,o,s,v)::past) hist K (updO s o.dst v) h
      |none=>False)
     |some _=>(if isW ow wf o=true then ∃ v h',Does P ow o (pev s) h v h'∧((∀ f∈al,k<f→h'.obj (base+f)=none)∧ ∀ x∈pastC P ow past,pre ops x.1 k=true∨x.2 h')∧drun2 P ow wf n ops base (k+1) rest (pastC P ow past) ((k,h)::hist) K (updO s o.dst v) h'
      else ∃ v,Does P ow o (pev s) h v h∧(∀ x∈hist,pre ops x.1 k=true∨Does P ow o (pev s) x.2 v x.2)∧drun2 P ow wf n ops base (k+1) rest (pastC P ow ((k,o,s,v)::past)) hist K (updO s o.dst v) h)))
   else drn2 P ow wf n ops al base (k+1) rest past hist K (updO s o.dst (.sc undef)) h
theorem mem_alIdx{ops:List Oper}{f:Nat}(h:alB ops f=true):f∈alIdx ops:=by
 simp only[alIdx,List.mem_filter,List.mem_range]
 refine⟨?_,h⟩
 unfold alB at h
 split at h
 ·rename_i o ho
  exact(List.getElem?_eq_some_iff.1 ho).1
 ·simp at h
theorem drn2_drun2{ops:List Oper}{al:List Nat}(hal:alIdx ops=al){base:Nat}{K:Slots→Heap→Prop}:(rest:List Oper)→(k:Nat)→(past:Past)→(hist:List (Nat × Heap))→(s:Slots)→(h:Heap)→drn2 P ow wf n ops al base k rest past hist K s h→drun2 P ow wf n ops base k rest (pastC P ow past) hist K s h
 |[],_,_,_,_,_,hh=>by simpa only[drn2,drun2]using hh
 |o::rest,k,past,hist,s,h,hh=>by
  simp only[drn2]at hh
  simp only[drun2]
  refine⟨hh.1,?_⟩
  have h2:=hh.2
  clear hh
  have pc: ∀ h1,(∀ x∈past,pre ops x.1 k=true∨Does P ow x.2.1 (pev x.2.2.1) h1 x.2.2.2 h1)→ ∀ x∈pastC P ow past,pre ops x.1 k=true∨x.2 h1:=by
   intro h1 hp x hx
   obtain⟨y,hy,rfl⟩:=List.mem_map.1 hx
   exact hp y hy
  have alc: ∀ h1:Heap,(∀ f∈al,k<f→h1.obj (base+f)=none)→ ∀ f,k<f→alB ops f=true→h1.obj (base+f)=none:=fun h1 hp f hf ha=>hp f (by rw[← hal];exact mem_alIdx ha) hf
  cases hw:wantedB ops s o with
  |none=>rw[hw]at h2;exact h2
  |some b=>
   rw[hw]at h2
   simp only at h2⊢
   split at h2
   ·rename_i hb
    rw[if_pos hb]
    split at h2
    ·rename_i t hop
     split at h2
     ·rename_i zs hz
      obtain⟨a1,a2,a3,a4⟩:=h2
      have hi:isW ow wf o=true:=by unfold isW;rw[hop]
      rw[if_pos hi]
      exact⟨_,_,by unfold DoesR;rw[hop];exact⟨zs,hz,a1,rfl,rfl⟩,alc _ a2,pc _ a3,drn2_drun2 hal rest (k+1) _ _ _ _ a4⟩
     ·exact h2.elim
    ·rename_i hne
     cases hc:callee (pev s) o.op with
     |none=>
      rw[hc]at h2
      simp only at h2
      cases he:eff P (o.dst.any ow) o.op (pev s) h with
      |none=>rw[he]at h2;exact h2.elim
      |some r=>
       obtain⟨v,h1⟩:=r
       rw[he]at h2
       simp only at h2
       have hd:Does P ow o (pev s) h v h1:=by unfold Does;rw[hc];exact he
       split at h2
       ·rename_i hi
        rw[if_pos hi]
        have hdr:DoesR P ow (base+k) o (pev s) h v h1:=by
         unfold DoesR
         split
         ·rename_i t hop;exact absurd hop (hne t)
         ·exact hd
        exact⟨v,h1,hdr,alc h1 h2.1,pc h1 h2.2.1,drn2_drun2 hal rest (k+1) _ _ _ _ h2.2.2⟩
       ·rename_i hi
        rw[if_neg hi]
        obtain⟨rfl,h3,h4⟩:=h2
        exact⟨v,hd,h3,drn2_drun2 hal rest (k+1) _ _ _ _ h4⟩
     |some f=>
      rw[hc]at h2
      simp only at h2
      have dr: ∀ {v:PV}{h1:Heap},Does P ow o (pev s) h v h1→DoesR P ow (base+k) o (pev s) h v h1:=fun hd=>by
       unfold DoesR
       split
       ·rename_i t hop;exact absurd hop (hne t)
       ·exact hd
      split at h2
      ·rename_i hi
       rw[if_pos hi]
       obtain⟨v,h1,hd,h3,h4⟩:=h2
       exact⟨v,h1,dr hd,alc h1 h3.1,h3.2,h4⟩
      ·rename_i hi
       rw[if_neg hi]
       obtain⟨v,hd,h3,h4⟩:=h2
       exact⟨v,hd,h3,h4⟩
   ·rename_i hb
    rw[if_neg hb]
    exact drn2_drun2 hal rest (k+1) _ _ _ _ h2
theorem a_draw2S{id:Nat}{ops:List Oper}{K:Slots→Heap→Prop}(al:List Nat)(hd:dOk2 ow wf ops=true)(ha:alIdx ops=al)(hk:drn2 P ow wf n ops al h.next 0 ops [] [] K s ⟨h.next+ops.length,h.obj⟩):awp P ow wf n (.region id ops.toArray true) (Post.seq K Q) s h:=by
 simp only[awp,if_true];exact⟨_,_,.refl,.inr (.inl ⟨hd,drn2_drun2 ha ops 0 _ _ _ _ hk⟩)⟩
theorem a_dcall2{f:FuncId}{d:Nat}{args:List Operand}{ts:Array TypeId}{ty:TypeId}{pos:String}{af:Array Edge}{gd:Option (Nat × Bool)}{aS:List PV}{v:PV}{ops rest:List Oper}{base k k':Nat}{past:Past}{hist:List (Nat × Heap)}{K:Slots→Heap→Prop}(al:List Nat)(ha:alIdx ops=al)
  (hc:PCall P f aS h fun r h'=>r=v∧h'=h)(hs:args.map (pev s)=aS)
  (hk:drn2 P ow wf n ops al base k rest ((k',{dst:=some d,op:= .call {callee:= .value (.func f),args:=args.toArray,argTypes:=ts},type:=ty,pos:=pos,after:=af,guard:=gd},s,v)::past) hist K (upd s d v) h):
  ∃ v,Does P ow {dst:=some d,op:= .call {callee:= .value (.func f),args:=args.toArray,argTypes:=ts},type:=ty,pos:=pos,after:=af,guard:=gd} (pev s) h v h∧
   drun2 P ow wf n ops base k rest (pastC P ow ((k',{dst:=some d,op:= .call {callee:= .value (.func f),args:=args.toArray,argTypes:=ts},type:=ty,pos:=pos,after:=af,guard:=gd},s,v)::past)) hist K (upd s d v) h:=
 ⟨v,Does_use hc hs,drn2_drun2 ha _ _ _ _ _ _ hk⟩
theorem a_dcall2A{f:FuncId}{d:Nat}{args:List Operand}{ts:Array TypeId}{ty:TypeId}{pos:String}{af:Array Edge}{gd:Option (Nat × Bool)}{aS:List PV}{v:PV}{ops rest:List Oper}{base k k':Nat}{past:Past}{hist:List (Nat × Heap)}{K:Slots→Heap→Prop}{A:PV→Prop}(al:List Nat)(ha:alIdx ops=al)
  (hc:PCall P f aS h fun r h'=>r=v∧h'=h)(hs:args.map (pev s)=aS)(hA:A v)
  (hk:drn2 P ow wf n ops al base k rest ((k',{dst:=some d,op:= .call {callee:= .value (.func f),args:=args.toArray,argTypes:=ts},type:=ty,pos:=pos,after:=af,guard:=gd},s,v)::past) hist K (upd s d v) h):
  ∃ v,Does P ow {dst:=some d,op:= .call {callee:= .value (.func f),args:=args.toArray,argTypes:=ts},type:=ty,pos:=pos,after:=af,guard:=gd} (pev s) h v h∧A v∧
   drun2 P ow wf n ops base k rest (pastC P ow ((k',{dst:=some d,op:= .call {callee:= .value (.func f),args:=args.toArray,argTypes:=ts},type:=ty,pos:=pos,after:=af,guard:=gd},s,v)::past)) hist K (upd s d v) h:=
 ⟨v,Does_use hc hs,hA,drn2_drun2 ha _ _ _ _ _ _ hk⟩
end
end Go.AM
namespace Go.AM
mutual
def Nz:PV→PV→Prop
 | .imm z rows,p=>(∃ rows',p= .imm z rows'∧NzR rows rows')∨(rows=[]∧(p= .emp∨p= .sc (.slice none 0 0)))
 | .agg l,p=> ∃ l',p= .agg l'∧NzL l l'
 |q,p=>p=q
def NzL:List PV→List PV→Prop
 |[],[]=>True
 |p::ps,q::qs=>Nz p q∧NzL ps qs
 |_,_=>False
def NzR:List (List PV)→List (List PV)→Prop
 |[],[]=>True
 |p::ps,q::qs=>NzL p q∧NzR ps qs
 |_,_=>False
end
theorem NzL.len:(l l':List PV)→NzL l l'→l.length=l'.length
 |[],[],_=>rfl
 |[],_::_,h=>by simp[NzL]at h
 |_::_,[],h=>by simp[NzL]at h
 |p::l,q::l',h=>by
  unfold NzL at h
  simp only[List.length_cons,NzL.len l l' h.2]
theorem NzR.len:(l l':List (List PV))→NzR l l'→l.length=l'.length
 |[],[],_=>rfl
 |[],_::_,h=>by simp[NzR]at h
 |_::_,[],h=>by simp[NzR]at h
 |p::l,q::l',h=>by
  unfold NzR at h
  simp only[List.length_cons,NzR.len l l' h.2]
mutual
theorem Nz.refl:(p:PV)→Nz p p
 | .imm z rows=>by unfold Nz;exact .inl ⟨rows,rfl,NzR.refl rows⟩
 | .agg l=>by unfold Nz;exact⟨l,rfl,NzL.refl l⟩
 | .sc v=>by unfold Nz;rfl
 | .ptr _ _ _=>by unfold Nz;rfl
 | .cptr _=>by unfold Nz;rfl
 | .own _ _ _=>by unfold Nz;rfl
 | .emp=>by unfold Nz;rfl
 | .mp _=>by unfold Nz;rfl
 | .tup _=>by unfold Nz;rfl
 | .fn _ _ _=>by unfold Nz;rfl
 | .ab _ _ _ _ _=>by unfold Nz;rfl
theorem NzL.refl:(l:List PV)→NzL l l
 |[]=>by unfold NzL;trivial
 |p::l=>by unfold NzL;exact⟨Nz.refl p,NzL.refl l⟩
theorem NzR.refl:(l:List (List PV))→NzR l l
 |[]=>by unfold NzR;trivial
 |p::l=>by unfold NzR;exact⟨NzL.refl p,NzR.refl l⟩
end
section
variable {β:Env}{n:Nat}{F:Nat→Prop}{w:World}
mutual
theorem Nz.rep:(q p:PV)→(x:Value)→Nz q p→Rep β n F w p x→Rep β n F w q x
 | .imm z rows,p,x,h,hr=>by
  unfold Nz at h
  rcases h with⟨rows',rfl,hR⟩|⟨rfl,rfl|rfl⟩
  ·simp only[Rep]at hr⊢
   have hl:=NzR.len rows rows' hR
   obtain⟨a,cap,rfl,g1,g2,g3⟩:=hr
   refine⟨a,cap,by rw[hl],by omega,g2,?_⟩
   rcases g3 with g3|⟨b,o,hF,ha,hRR⟩
   ·left
    rw[g3]at hl
    exact List.length_eq_zero_iff.1 hl
   ·exact .inr ⟨b,o,hF,ha,NzR.rep z rows rows' b o hR hRR⟩
  ·simp only[Rep]at hr⊢
   obtain⟨a,rfl⟩:=hr
   exact⟨a,0,rfl,Nat.le_refl _,Nat.zero_le _,.inl trivial⟩
  ·simp only[Rep]at hr⊢
   exact⟨none,0,hr,Nat.le_refl _,Nat.zero_le _,.inl trivial⟩
 | .agg l,p,x,h,hr=>by
  unfold Nz at h
  obtain⟨l',rfl,hl⟩:=h
  simp only[Rep]at hr⊢
  obtain⟨xs,rfl,h1,h2⟩:=hr
  exact⟨xs,rfl,h1,NzL.rep l l' xs hl h2⟩
 | .sc _,p,x,h,hr=>by unfold Nz at h;subst h;exact hr
 | .ptr _ _ _,p,x,h,hr=>by unfold Nz at h;subst h;exact hr
 | .cptr _,p,x,h,hr=>by unfold Nz at h;subst h;exact hr
 | .own _ _ _,p,x,h,hr=>by unfold Nz at h;subst h;exact hr
 | .emp,p,x,h,hr=>by unfold Nz at h;subst h;exact hr
 | .mp _,p,x,h,hr=>by unfold Nz at h;subst h;exact hr
 | .tup _,p,x,h,hr=>by unfold Nz at h;subst h;exact hr
 | .fn _ _ _,p,x,h,hr=>by unfold Nz at h;subst h;exact hr
 | .ab _ _ _ _ _,p,x,h,hr=>by unfold Nz at h;subst h;exact hr
theorem NzL.rep:(l l':List PV)→(xs:List Value)→NzL l l'→RepL β n F w l' xs→RepL β n F w l xs
 |[],[],xs,_,hr=>hr
 |[],_::_,_,h,_=>by simp[NzL]at h
 |_::_,[],_,h,_=>by simp[NzL]at h
 |p::l,q::l',[],_,hr=>by simp[RepL]at hr
 |p::l,q::l',v::xs,h,hr=>by
  unfold NzL at h
  unfold RepL at hr⊢
  exact⟨Nz.rep p q v h.1 hr.1,NzL.rep l l' xs h.2 hr.2⟩
theorem NzS.rep:(l l':List PV)→(b o:Nat)→NzL l l'→RepS β n F w l' b o→RepS β n F w l b o
 |[],[],_,_,_,_=>by unfold RepS;trivial
 |[],_::_,_,_,h,_=>by simp[NzL]at h
 |_::_,[],_,_,h,_=>by simp[NzL]at h
 |p::l,q::l',b,o,h,hr=>by
  unfold NzL at h
  unfold RepS at hr⊢
  obtain⟨⟨v,h1,h2,h3⟩,h4⟩:=hr
  exact⟨⟨v,h1,h2,Nz.rep p q v h.1 h3⟩,NzS.rep l l' b (o+1) h.2 h4⟩
theorem NzR.rep(z:Nat):(l l':List (List PV))→(b o:Nat)→NzR l l'→RepR β n F w z l' b o→RepR β n F w z l b o
 |[],[],_,_,_,_=>by unfold RepR;trivial
 |[],_::_,_,_,h,_=>by simp[NzR]at h
 |_::_,[],_,_,h,_=>by simp[NzR]at h
 |p::l,q::l',b,o,h,hr=>by
  unfold NzR at h
  unfold RepR at hr⊢
  exact⟨⟨by rw[NzL.len p q h.1];exact hr.1.1,NzS.rep p q b o h.1 hr.1.2⟩,NzR.rep z l l' b (o+z) h.2 hr.2⟩
end
end
theorem PCall.nz{P:Program}{f:FuncId}{ys xs:List PV}{h:Heap}{K:PV→Heap→Prop}(hc:PCall P f ys h K)(hz:NzL ys xs):PCall P f xs h K:=
 fun β w vals sm hr=>hc β w vals sm (NzL.rep ys xs vals hz hr)
theorem nz_nil{z:Nat}:Nz (.imm z []) (.sc (.slice none 0 0)):=by unfold Nz;exact .inr ⟨rfl,.inr rfl⟩
theorem nz_imm{z:Nat}{r r':List (List PV)}(h:NzR r r'):Nz (.imm z r) (.imm z r'):=by unfold Nz;exact .inl ⟨_,rfl,h⟩
theorem nz_cons{p q:PV}{l m:List PV}(h:Nz p q)(h2:NzL l m):NzL (p::l) (q::m):=by unfold NzL;exact⟨h,h2⟩
theorem nzr_cons{p q:List PV}{l m:List (List PV)}(h:NzL p q)(h2:NzR l m):NzR (p::l) (q::m):=by unfold NzR;exact⟨h,h2⟩
end Go.AM
