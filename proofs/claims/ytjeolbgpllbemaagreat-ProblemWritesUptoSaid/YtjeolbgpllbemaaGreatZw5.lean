/- What the claim rests on, part 5: the abstract machine, contracts of the functions, plain data. -/
import Derived.OpenShut
import Derived.ChangeShapes
import Derived.SizedLaws
import Derived.Test.YtjeolbgpllbemaaGreatZw4
set_option linter.unusedVariables false
set_option linter.unusedSimpArgs false
set_option linter.unusedSectionVars false
namespace Go.AM
def Vl.ok(v:Vl):Prop:=v.at_.ok∧ -9223372036854775808≤v.n∧v.n≤9223372036854775807
def Pb.ok(p:Pb):Prop:=p.name.size≤bigN∧p.domain.size≤bigN∧(p.objects.length≤bigN∧ ∀ o∈p.objects,o.ok)∧(p.init.length≤bigN∧ ∀ a∈p.init,a.ok)∧(p.values.length≤bigN∧ ∀ v∈p.values,v.ok)∧p.goal.ok
end Go.AM
namespace Go.Proofs.YtjeolbgpllbemaaGreat
open Go.AM
set_option maxHeartbeats 4000000
set_option maxRecDepth 20000
def objB(o:Pm):Bool:=nameB o.name&&typedB o.type
def vlB(v:Vl):Bool:=rightA v.at_&&inNum v.n
def expressB(p:Pb):Bool:=nameB p.name&&nameB p.domain&&p.objects.all objB&&p.values.all vlB&&!(p.init.any fun a=>!rightA a)
theorem expressible_c{p:Pb}(hok:p.ok)(h:Heap):PCall Tryz.prog 25 [.agg p.cells] h fun r h'=>r= .sc (.bool (expressB p))∧h'=h:=by
 obtain⟨hn,hd,⟨hol,hos⟩,⟨hil,his⟩,⟨hvl,hvs⟩,_⟩:=hok
 obtain⟨name,domain,objects,init,values,goal⟩:=p
 simp only at hn hd hol hos hil his hvl hvs
 have hn':name.size≤9223372036854775807:=by unfold bigN at hn;omega
 have hd':domain.size≤9223372036854775807:=by unfold bigN at hd;omega
 have hlO:=pmRows_len objects
 have hlV:=vlRows_len values
 obtain⟨gop,gname,gargs,gparams,gexprs,gkids⟩:=goal
 refine PCall.quiet Ty.hb_25 ?_
 generalize hF:expressB _=F
 simp only[expressB]at hF
 simp only[Pb.cells,Fm.cells,List.cons_append,List.nil_append]
 cases q1:nameB name with
 |false=>
  rw[q1]at hF
  simp only[Bool.false_and]at hF
  subst hF
  refine pcall_body (ow:=fun _=>false) (wf:=fun _=>false) Ty.mixed Tryz.func25 rfl Ty.hb_25 (by rw[Tryz.ntmps25];simp) ?_
  rw[Tryz.ntmps25,Tryz.results25]
  repeat'(first|refine a_seq fun K hK=>?_|(refine a_regionS ?_;simp(maxSteps:=2000000) only[Ty.w,simprocAttr])|(refine hK _ _ ?_;clear hK;try simp only[pst0,simprocAttr]))
  refine owp_useQ (fname_c (s:=name) hn') (by(try simp only[Ty.w,simprocAttr,q1]);try rfl) ?_;simp(maxSteps:=2000000) only[Ty.w,simprocAttr,q1]
  repeat'(first|refine a_seq fun K hK=>?_|((first|refine a_regionS ?_|refine a_ret ?_);simp(maxSteps:=2000000) only[Ty.w,simprocAttr,q1,Bool.not_false])|(refine hK _ _ ?_;clear hK;try simp only[pst0,simprocAttr]))
  exact Grow.refl h
 |true=>
  cases q2:nameB domain with
  |false=>
   rw[q1,q2]at hF
   simp only[Bool.true_and,Bool.false_and]at hF
   subst hF
   refine pcall_body (ow:=fun _=>false) (wf:=fun _=>false) Ty.mixed Tryz.func25 rfl Ty.hb_25 (by rw[Tryz.ntmps25];simp) ?_
   rw[Tryz.ntmps25,Tryz.results25]
   repeat'(first|refine a_seq fun K hK=>?_|(refine a_regionS ?_;simp(maxSteps:=2000000) only[Ty.w,simprocAttr])|(refine hK _ _ ?_;clear hK;try simp only[pst0,simprocAttr]))
   refine owp_useQ (fname_c (s:=name) hn') (by(try simp only[Ty.w,simprocAttr,q1]);try rfl) ?_;simp(maxSteps:=2000000) only[Ty.w,simprocAttr,q1]
   skip
   refine owp_useQ (fname_c (s:=domain) hd') (by(try simp only[Ty.w,simprocAttr,q1,q2]);try rfl) ?_;simp(maxSteps:=2000000) only[Ty.w,simprocAttr,q1,q2]
   repeat'(first|refine a_seq fun K hK=>?_|((first|refine a_regionS ?_|refine a_ret ?_);simp(maxSteps:=2000000) only[Ty.w,simprocAttr,q1,q2,Bool.not_true,Bool.not_false])|(refine hK _ _ ?_;clear hK;try simp only[pst0,simprocAttr]))
   exact Grow.refl h
  |true=>
   rw[q1,q2]at hF
   simp only[Bool.true_and]at hF
   unfold bigN at hol hvl
   refine pcall_body (ow:=fun _=>false) (wf:=fun _=>false) Ty.mixed Tryz.func25 rfl Ty.hb_25 (by rw[Tryz.ntmps25];simp) ?_
   rw[Tryz.ntmps25,Tryz.results25]
   repeat'(first|refine a_seq fun K hK=>?_|(refine a_regionS ?_;simp(maxSteps:=2000000) only[Ty.w,simprocAttr])|(refine hK _ _ ?_;clear hK;try simp only[pst0,simprocAttr]))
   refine owp_useQ (fname_c (s:=name) hn') (by(try simp only[Ty.w,simprocAttr,q1]);try rfl) ?_;simp(maxSteps:=2000000) only[Ty.w,simprocAttr,q1]
   skip
   refine owp_useQ (fname_c (s:=domain) hd') (by(try simp only[Ty.w,simprocAttr,q1,q2]);try rfl) ?_;simp(maxSteps:=2000000) only[Ty.w,simprocAttr,q1,q2]
   repeat'(first|(with_reducible refine a_hold 3 ?_)|(refine a_skip ?_;try simp only[pst0,simprocAttr])|(refine a_cond _ (by(try simp(maxSteps:=2000000) only[Ty.w,simprocAttr,q1,q2,Bool.not_true]);rfl) (fun hb=>?_) (fun hb=>?_)<;>(try simp only[hb0,decide_eq_true_eq,decide_eq_false_iff_not,simprocAttr]at hb)<;>(try(exfalso;omega)))|(refine hK _ _ ?_;clear hK;try simp only[pst0,simprocAttr]))
   refine⟨?_⟩
   refine a_cut (fun S h'=>S 1= .cptr (Pb.mk name domain objects init values (.mk gop gname gargs gparams gexprs gkids)).cells∧Grow h h'∧objects.all objB=true) ?_ ?_
   ·have hFp:objects.all objB=false→F=false:=fun hh=>by rw[← hF,hh];try rfl
    clear hF
    repeat'(first|refine a_seq fun K hK=>?_|(refine a_block ?_)|(refine a_regionS ?_;simp(maxSteps:=2000000) only[Ty.w,simprocAttr,hlO])|(refine hK _ _ ?_;clear hK;try simp only[pst0,simprocAttr]))
    refine a_loop (fun c S h'=>S 1= .cptr (Pb.mk name domain objects init values (.mk gop gname gargs gparams gexprs gkids)).cells∧S 18= .imm 2 (pmRows objects)∧S 19= .sc (.int .i64 objects.length)∧ ∃ k:Nat,S 20= .sc (.int .i64 k)∧k≤objects.length∧c=objects.length-k∧Grow h h'∧objects.all objB=(objects.drop k).all objB) objects.length ?_ ?_
    ·simp only[Ty.w,simprocAttr,Pb.cells,Fm.cells,List.cons_append,List.nil_append]
     exact⟨0,rfl,by omega,rfl,Grow.refl h,rfl⟩
    ·rintro c S h' ⟨g1,g18,g19,k,g20,hk,rfl,hG,hall⟩
     simp only[Pb.cells,Fm.cells,List.cons_append,List.nil_append]at g1
     by_cases hlt:k<objects.length
     ·have hdk:decide ((k:Int)<(objects.length:Int))=true:=by simp;omega
      have w7:IntKind.i64.wrap ((k:Int)+1)=k+1:=by rw[wrap64 (by omega) (by omega)]
      obtain⟨o,hx⟩: ∃ o,objects[k]? =some o:=⟨_,List.getElem?_eq_getElem hlt⟩
      have hr:=pmRows_get hx
      obtain⟨ho1,ho2⟩:=hos o (List.mem_of_getElem? hx)
      have ho1':o.name.size≤9223372036854775807:=by unfold bigN at ho1;omega
      have ho2':o.type.size≤9223372036854775807:=by unfold bigN at ho2;omega
      have hG2:Grow h ((h'.new (.arr 2 [[.sc (.string ⟨#[]⟩),.sc (.string ⟨#[]⟩)]])).set h'.next (.arr 2 [[sPV o.name,sPV o.type]])):=(hG.new _).set hG.le _
      have tT:typedB o.type=(nameB o.type||(o.type.data.toList==(#[111,98,106,101,99,116]:Array UInt8).toList)):=rfl
      rw[drop_get hx]at hall
      simp only[List.all_cons,objB,tT]at hall
      cases v1:nameB o.name with
      |false=>
       have hp:=hFp (by rw[hall,v1];try rfl)
       subst hp
       repeat'(first|refine a_seq fun K hK=>?_|(refine a_regionS ?_;simp(maxSteps:=2000000) only[Ty.w,simprocAttr,g1,g18,g19,g20,hdk,hr])|(refine a_skip ?_;try simp only[pst0,simprocAttr])|(refine a_cond _ (by(try simp(maxSteps:=2000000) only[Ty.w,simprocAttr,g1,g18,g19,g20,hdk,hr]);rfl) (fun hb=>?_) (fun hb=>?_)<;>(try simp only[hb0,decide_eq_true_eq,decide_eq_false_iff_not,simprocAttr]at hb)<;>(try(exfalso;omega)))|(refine hK _ _ ?_;clear hK;try simp only[pst0,simprocAttr]))
       refine owp_useQ (fname_c (s:=o.name) ho1') (by(try simp only[Ty.w,simprocAttr,g1,g18,g19,g20,v1]);try rfl) ?_;simp(maxSteps:=2000000) only[Ty.w,simprocAttr,g1,g18,g19,g20,v1]
       repeat'(first|refine a_seq fun K hK=>?_|((first|refine a_regionS ?_|refine a_ret ?_);simp(maxSteps:=2000000) only[Ty.w,simprocAttr,g1,g18,g19,g20,v1,Bool.not_false])|(refine hK _ _ ?_;clear hK;try simp only[pst0,simprocAttr]))
       all_goals first|exact hG2|exact⟨rfl,hG2⟩
      |true=>
       cases v2:nameB o.type with
       |true=>
        rw[v1,v2]at hall
        have W:=And.intro g1 (And.intro g18 (And.intro g19 (And.intro g20 (And.intro v1 v2))))
        repeat'(first|refine a_seq fun K hK=>?_|(refine a_regionS ?_;simp(maxSteps:=2000000) only[Ty.w,simprocAttr,W,hdk,hr])|(refine a_skip ?_;try simp only[pst0,simprocAttr])|(refine a_cond _ (by(try simp(maxSteps:=2000000) only[Ty.w,simprocAttr,W,hdk,hr]);rfl) (fun hb=>?_) (fun hb=>?_)<;>(try simp only[hb0,decide_eq_true_eq,decide_eq_false_iff_not,simprocAttr]at hb)<;>(try(exfalso;omega)))|(refine hK _ _ ?_;clear hK;try simp only[pst0,simprocAttr]))
        refine owp_useQ (fname_c (s:=o.name) ho1') (by(try simp only[Ty.w,simprocAttr,W]);try rfl) ?_;simp(maxSteps:=2000000) only[Ty.w,simprocAttr,W]
        skip
        refine owp_useQ (fname_c (s:=o.type) ho2') (by(try simp only[Ty.w,simprocAttr,W]);try rfl) ?_;simp(maxSteps:=2000000) only[Ty.w,simprocAttr,W]
        repeat'(first|(refine a_block ?_)|(refine a_regionS ?_;simp(maxSteps:=2000000) only[Ty.w,simprocAttr,W,w7,Bool.not_true])|(refine a_skip ?_;try simp only[pst0,simprocAttr])|(refine hK _ _ ?_;clear hK;try simp only[pst0,simprocAttr]))
        exact⟨objects.length-(k+1),by omega,by simp only[Pb.cells,Fm.cells,List.cons_append,List.nil_append],k+1,by simp,by omega,rfl,hG2,by simpa using hall⟩
       |false=>
        cases v3:(o.type.data.toList==(#[111,98,106,101,99,116]:Array UInt8).toList)with
        |true=>
         rw[v1,v2,v3]at hall
         have W:=And.intro g1 (And.intro g18 (And.intro g19 (And.intro g20 (And.intro v1 v2))))
         repeat'(first|refine a_seq fun K hK=>?_|(refine a_regionS ?_;simp(maxSteps:=2000000) only[Ty.w,simprocAttr,W,hdk,hr])|(refine a_skip ?_;try simp only[pst0,simprocAttr])|(refine a_cond _ (by(try simp(maxSteps:=2000000) only[Ty.w,simprocAttr,W,hdk,hr]);rfl) (fun hb=>?_) (fun hb=>?_)<;>(try simp only[hb0,decide_eq_true_eq,decide_eq_false_iff_not,simprocAttr]at hb)<;>(try(exfalso;omega)))|(refine hK _ _ ?_;clear hK;try simp only[pst0,simprocAttr]))
         refine owp_useQ (fname_c (s:=o.name) ho1') (by(try simp only[Ty.w,simprocAttr,W]);try rfl) ?_;simp(maxSteps:=2000000) only[Ty.w,simprocAttr,W]
         skip
         refine owp_useQ (fname_c (s:=o.type) ho2') (by(try simp only[Ty.w,simprocAttr,W]);try rfl) ?_;simp(maxSteps:=2000000) only[Ty.w,simprocAttr,W]
         repeat'(first|(refine a_regionS ?_;simp(maxSteps:=2000000) only[Ty.w,simprocAttr,W,v3,w7,Bool.not_true,Bool.not_false])|(refine a_skip ?_;try simp only[pst0,simprocAttr])|(refine a_cond _ (by(try simp(maxSteps:=2000000) only[Ty.w,simprocAttr,W,v3,w7,Bool.not_true,Bool.not_false]);rfl) (fun hb=>?_) (fun hb=>?_)<;>(try simp only[hb0,decide_eq_true_eq,decide_eq_false_iff_not,simprocAttr]at hb)<;>(try(exfalso;omega)))|(refine hK _ _ ?_;clear hK;try simp only[pst0,simprocAttr]))
         exact⟨objects.length-(k+1),by omega,by simp only[Pb.cells,Fm.cells,List.cons_append,List.nil_append],k+1,by simp,by omega,rfl,hG2,by simpa using hall⟩
        |false=>
         have hp:=hFp (by rw[hall,v1,v2,v3];try rfl)
         subst hp
         have W:=And.intro g1 (And.intro g18 (And.intro g19 (And.intro g20 (And.intro v1 v2))))
         repeat'(first|refine a_seq fun K hK=>?_|(refine a_regionS ?_;simp(maxSteps:=2000000) only[Ty.w,simprocAttr,W,hdk,hr])|(refine a_skip ?_;try simp only[pst0,simprocAttr])|(refine a_cond _ (by(try simp(maxSteps:=2000000) only[Ty.w,simprocAttr,W,hdk,hr]);rfl) (fun hb=>?_) (fun hb=>?_)<;>(try simp only[hb0,decide_eq_true_eq,decide_eq_false_iff_not,simprocAttr]at hb)<;>(try(exfalso;omega)))|(refine hK _ _ ?_;clear hK;try simp only[pst0,simprocAttr]))
         refine owp_useQ (fname_c (s:=o.name) ho1') (by(try simp only[Ty.w,simprocAttr,W]);try rfl) ?_;simp(maxSteps:=2000000) only[Ty.w,simprocAttr,W]
         skip
         refine owp_useQ (fname_c (s:=o.type) ho2') (by(try simp only[Ty.w,simprocAttr,W]);try rfl) ?_;simp(maxSteps:=2000000) only[Ty.w,simprocAttr,W]
         repeat'(first|refine a_seq fun K hK=>?_|((first|refine a_regionS ?_|refine a_ret ?_);simp(maxSteps:=2000000) only[Ty.w,simprocAttr,W,v3,w7,Bool.not_true,Bool.not_false])|(refine a_cond _ (by(try simp(maxSteps:=2000000) only[Ty.w,simprocAttr,W,v3,w7,Bool.not_true,Bool.not_false]);rfl) (fun hb=>?_) (fun hb=>?_)<;>(try simp only[hb0,decide_eq_true_eq,decide_eq_false_iff_not,simprocAttr]at hb)<;>(try(exfalso;omega)))|(refine hK _ _ ?_;clear hK;try simp only[pst0,simprocAttr]))
         all_goals first|exact hG2|exact⟨rfl,hG2⟩
     ·have hdk:decide ((k:Int)<(objects.length:Int))=false:=by simp;omega
      rw[List.drop_eq_nil_of_le (by omega)]at hall
      repeat'(first|refine a_seq fun K hK=>?_|(refine a_regionS ?_;simp(maxSteps:=2000000) only[Ty.w,simprocAttr,g1,g18,g19,g20,hdk])|(refine a_exit ?_;try simp only[pst0,simprocAttr])|(refine a_cond _ (by(try simp(maxSteps:=2000000) only[Ty.w,simprocAttr,g1,g18,g19,g20,hdk]);rfl) (fun hb=>?_) (fun hb=>?_)<;>(try simp only[hb0,decide_eq_true_eq,decide_eq_false_iff_not,simprocAttr]at hb)<;>(try(exfalso;omega)))|(refine hK _ _ ?_;clear hK;try simp only[pst0,simprocAttr]))
      simp(maxSteps:=2000000) only[Ty.w,simprocAttr,Ty.all,g1,Pb.cells,Fm.cells,List.cons_append,List.nil_append]
      exact⟨hG,hall⟩
   ·rintro S h' ⟨g1,hG,hall⟩
    simp only[Pb.cells,Fm.cells,List.cons_append,List.nil_append]at g1
    rw[hall]at hF
    simp only[Bool.true_and]at hF
    clear hall
    repeat'(with_reducible refine a_hold 9 ?_)
    refine⟨?_⟩
    refine a_cut (fun S h'=>S 1= .cptr (Pb.mk name domain objects init values (.mk gop gname gargs gparams gexprs gkids)).cells∧Grow h h'∧values.all vlB=true) ?_ ?_
    ·have hFp:values.all vlB=false→F=false:=fun hh=>by rw[← hF,hh];try rfl
     clear hF
     repeat'(first|refine a_seq fun K hK=>?_|(refine a_block ?_)|(refine a_regionS ?_;simp(maxSteps:=2000000) only[Ty.w,simprocAttr,g1,hlV])|(refine hK _ _ ?_;clear hK;try simp only[pst0,simprocAttr]))
     refine a_loop (fun c S h'=>S 1= .cptr (Pb.mk name domain objects init values (.mk gop gname gargs gparams gexprs gkids)).cells∧S 41= .imm 3 (vlRows values)∧S 42= .sc (.int .i64 values.length)∧ ∃ k:Nat,S 43= .sc (.int .i64 k)∧k≤values.length∧c=values.length-k∧Grow h h'∧values.all vlB=(values.drop k).all vlB) values.length ?_ ?_
     ·simp only[Ty.w,simprocAttr,g1,Pb.cells,Fm.cells,List.cons_append,List.nil_append]
      exact⟨0,rfl,by omega,rfl,hG,rfl⟩
     ·clear g1 hG
      rintro c S h' ⟨g1,g41,g42,k,g43,hk,rfl,hG,hall⟩
      simp only[Pb.cells,Fm.cells,List.cons_append,List.nil_append]at g1
      by_cases hlt:k<values.length
      ·have hdk:decide ((k:Int)<(values.length:Int))=true:=by simp;omega
       have w7:IntKind.i64.wrap ((k:Int)+1)=k+1:=by rw[wrap64 (by omega) (by omega)]
       obtain⟨v,hx⟩: ∃ v,values[k]? =some v:=⟨_,List.getElem?_eq_getElem hlt⟩
       have hr:=vlRows_get hx
       obtain⟨ho1,_⟩:=hvs v (List.mem_of_getElem? hx)
       have hrc:=right_c ho1.1 ho1.2.1 ho1.2.2
       rw[drop_get hx]at hall
       simp only[List.all_cons,vlB,rightA,inNum]at hall
       obtain⟨⟨vname,vargs⟩,vn⟩:=v
       simp only at hr hrc hall
       have hG2:Grow h ((h'.new (.arr 3 [[.sc (.string ⟨#[]⟩),.sc (.slice none 0 0),.sc (.int .i64 0)]])).set h'.next (.arr 3 [[sPV vname,.imm 1 (strRows vargs),.sc (.int .i64 vn)]])):=(hG.new _).set hG.le _
       generalize rightB vname vargs=b at hrc hall
       cases b with
       |false=>
        have hp:=hFp (by rw[hall];try rfl)
        subst hp
        repeat'(first|refine a_seq fun K hK=>?_|(refine a_regionS ?_;simp(maxSteps:=2000000) only[Ty.w,simprocAttr,g1,g41,g42,g43,hdk,hr])|(refine a_skip ?_;try simp only[pst0,simprocAttr])|(refine a_cond _ (by(try simp(maxSteps:=2000000) only[Ty.w,simprocAttr,g1,g41,g42,g43,hdk,hr]);rfl) (fun hb=>?_) (fun hb=>?_)<;>(try simp only[hb0,decide_eq_true_eq,decide_eq_false_iff_not,simprocAttr]at hb)<;>(try(exfalso;omega)))|(refine hK _ _ ?_;clear hK;try simp only[pst0,simprocAttr]))
        refine owp_useQ (hrc _) (by(try simp only[Ty.w,simprocAttr,g1,g41,g42,g43]);try rfl) ?_;simp(maxSteps:=2000000) only[Ty.w,simprocAttr,g1,g41,g42,g43]
        repeat'(first|refine a_seq fun K hK=>?_|((first|refine a_regionS ?_|refine a_ret ?_);simp(maxSteps:=2000000) only[Ty.w,simprocAttr,g1,g41,g42,g43,Bool.not_false])|(refine hK _ _ ?_;clear hK;try simp only[pst0,simprocAttr]))
        all_goals first|exact hG2|exact⟨rfl,hG2⟩
       |true=>
        cases v1:decide (vn< -1099511627776)with
        |true=>
         have v1i:=of_decide_eq_true v1
         have hp:=hFp (by rw[hall,decide_eq_false (show ¬-1099511627776≤vn by have:=of_decide_eq_true v1;omega)];try rfl)
         subst hp
         repeat'(first|refine a_seq fun K hK=>?_|(refine a_regionS ?_;simp(maxSteps:=2000000) only[Ty.w,simprocAttr,g1,g41,g42,g43,hdk,hr])|(refine a_skip ?_;try simp only[pst0,simprocAttr])|(refine a_cond _ (by(try simp(maxSteps:=2000000) only[Ty.w,simprocAttr,g1,g41,g42,g43,hdk,hr]);rfl) (fun hb=>?_) (fun hb=>?_)<;>(try simp only[hb0,decide_eq_true_eq,decide_eq_false_iff_not,simprocAttr]at hb)<;>(try(exfalso;omega)))|(refine hK _ _ ?_;clear hK;try simp only[pst0,simprocAttr]))
         refine owp_useQ (hrc _) (by(try simp only[Ty.w,simprocAttr,g1,g41,g42,g43]);try rfl) ?_;simp(maxSteps:=2000000) only[Ty.w,simprocAttr,g1,g41,g42,g43]
         repeat'(first|refine a_seq fun K hK=>?_|((first|refine a_regionS ?_|refine a_ret ?_);simp(maxSteps:=2000000) only[Ty.w,simprocAttr,g1,g41,g42,g43,v1,Bool.not_true])|(with_reducible refine ite_in (fun hb=>?_) (fun hb=>?_)<;>(try simp only[Decidable.not_not]at hb)<;>(try simp only[hb,if_true,if_false,not_false_eq_true,not_true_eq_false, ↓reduceIte])<;>(try simp only[hb0,decide_eq_true_eq,decide_eq_false_iff_not,simprocAttr]at hb)<;>(try(exfalso;omega)))|(refine hK _ _ ?_;clear hK;try simp only[pst0,simprocAttr]))
         all_goals first|exact hG2|exact⟨rfl,hG2⟩
        |false=>
         have v1i:=of_decide_eq_false v1
         cases v2:decide (vn>1099511627776)with
         |true=>
          have v2i:=of_decide_eq_true v2
          have hp:=hFp (by rw[hall,decide_eq_false (show ¬ vn≤1099511627776 by have:=of_decide_eq_true v2;omega)];simp)
          subst hp
          repeat'(first|refine a_seq fun K hK=>?_|(refine a_regionS ?_;simp(maxSteps:=2000000) only[Ty.w,simprocAttr,g1,g41,g42,g43,hdk,hr])|(refine a_skip ?_;try simp only[pst0,simprocAttr])|(refine a_cond _ (by(try simp(maxSteps:=2000000) only[Ty.w,simprocAttr,g1,g41,g42,g43,hdk,hr]);rfl) (fun hb=>?_) (fun hb=>?_)<;>(try simp only[hb0,decide_eq_true_eq,decide_eq_false_iff_not,simprocAttr]at hb)<;>(try(exfalso;omega)))|(refine hK _ _ ?_;clear hK;try simp only[pst0,simprocAttr]))
          refine owp_useQ (hrc _) (by(try simp only[Ty.w,simprocAttr,g1,g41,g42,g43]);try rfl) ?_;simp(maxSteps:=2000000) only[Ty.w,simprocAttr,g1,g41,g42,g43]
          repeat'(first|refine a_seq fun K hK=>?_|((first|refine a_regionS ?_|refine a_ret ?_);simp(maxSteps:=2000000) only[Ty.w,simprocAttr,g1,g41,g42,g43,v1,v2,Bool.not_true])|(refine a_cond _ (by(try simp(maxSteps:=2000000) only[Ty.w,simprocAttr,g1,g41,g42,g43,v1,v2,Bool.not_true]);rfl) (fun hb=>?_) (fun hb=>?_)<;>(try simp only[hb0,decide_eq_true_eq,decide_eq_false_iff_not,simprocAttr]at hb)<;>(try(exfalso;omega)))|(with_reducible refine ite_in (fun hb=>?_) (fun hb=>?_)<;>(try simp only[Decidable.not_not]at hb)<;>(try simp only[hb,if_true,if_false,not_false_eq_true,not_true_eq_false, ↓reduceIte])<;>(try simp only[hb0,decide_eq_true_eq,decide_eq_false_iff_not,simprocAttr]at hb)<;>(try(exfalso;omega)))|(refine hK _ _ ?_;clear hK;try simp only[pst0,simprocAttr]))
          all_goals first|exact hG2|exact⟨rfl,hG2⟩
         |false=>
          have v2i:=of_decide_eq_false v2
          rw[decide_eq_true (show-1099511627776≤vn by have:=of_decide_eq_false v1;omega),decide_eq_true (show vn≤1099511627776 by have:=of_decide_eq_false v2;omega)]at hall
          repeat'(first|refine a_seq fun K hK=>?_|(refine a_regionS ?_;simp(maxSteps:=2000000) only[Ty.w,simprocAttr,g1,g41,g42,g43,hdk,hr])|(refine a_skip ?_;try simp only[pst0,simprocAttr])|(refine a_cond _ (by(try simp(maxSteps:=2000000) only[Ty.w,simprocAttr,g1,g41,g42,g43,hdk,hr]);rfl) (fun hb=>?_) (fun hb=>?_)<;>(try simp only[hb0,decide_eq_true_eq,decide_eq_false_iff_not,simprocAttr]at hb)<;>(try(exfalso;omega)))|(refine hK _ _ ?_;clear hK;try simp only[pst0,simprocAttr]))
          refine owp_useQ (hrc _) (by(try simp only[Ty.w,simprocAttr,g1,g41,g42,g43]);try rfl) ?_;simp(maxSteps:=2000000) only[Ty.w,simprocAttr,g1,g41,g42,g43]
          repeat'(first|(refine a_regionS ?_;simp(maxSteps:=2000000) only[Ty.w,simprocAttr,g1,g41,g42,g43,v1,v2,w7,Bool.not_true])|(refine a_skip ?_;try simp only[pst0,simprocAttr])|(refine a_cond _ (by(try simp(maxSteps:=2000000) only[Ty.w,simprocAttr,g1,g41,g42,g43,v1,v2,w7,Bool.not_true]);rfl) (fun hb=>?_) (fun hb=>?_)<;>(try simp only[hb0,decide_eq_true_eq,decide_eq_false_iff_not,simprocAttr]at hb)<;>(try(exfalso;omega)))|(with_reducible refine ite_in (fun hb=>?_) (fun hb=>?_)<;>(try simp only[Decidable.not_not]at hb)<;>(try simp only[hb,if_true,if_false,not_false_eq_true,not_true_eq_false, ↓reduceIte])<;>(try simp only[hb0,decide_eq_true_eq,decide_eq_false_iff_not,simprocAttr]at hb)<;>(try(exfalso;omega)))|(refine hK _ _ ?_;clear hK;try simp only[pst0,simprocAttr]))
          exact⟨values.length-(k+1),by omega,by simp only[Pb.cells,Fm.cells,List.cons_append,List.nil_append],k+1,by simp,by omega,rfl,hG2,by simpa using hall⟩
      ·have hdk:decide ((k:Int)<(values.length:Int))=false:=by simp;omega
       rw[List.drop_eq_nil_of_le (by omega)]at hall
       repeat'(first|refine a_seq fun K hK=>?_|(refine a_regionS ?_;simp(maxSteps:=2000000) only[Ty.w,simprocAttr,g1,g41,g42,g43,hdk])|(refine a_exit ?_;try simp only[pst0,simprocAttr])|(refine a_cond _ (by(try simp(maxSteps:=2000000) only[Ty.w,simprocAttr,g1,g41,g42,g43,hdk]);rfl) (fun hb=>?_) (fun hb=>?_)<;>(try simp only[hb0,decide_eq_true_eq,decide_eq_false_iff_not,simprocAttr]at hb)<;>(try(exfalso;omega)))|(refine hK _ _ ?_;clear hK;try simp only[pst0,simprocAttr]))
       simp(maxSteps:=2000000) only[Ty.w,simprocAttr,Ty.all,g1,Pb.cells,Fm.cells,List.cons_append,List.nil_append]
       exact⟨hG,hall⟩
    ·clear g1 hG
     rintro S h' ⟨g1,hG,hall⟩
     simp only[Pb.cells,Fm.cells,List.cons_append,List.nil_append]at g1
     rw[hall]at hF
     simp only[Bool.true_and]at hF
     subst hF
     have hf: ∀ a∈init, ∀ h:Heap,PCall Tryz.prog 62 [.agg (atRow a)] h fun r h'=>r= .sc (.bool (!rightA a))∧h'=h:=fun a ha h=>pexpr1_c (his a ha)
     repeat'(first|refine a_seq fun K hK=>?_|(refine a_regionS ?_;simp(maxSteps:=2000000) only[Ty.w,simprocAttr,g1]))
     refine owp_useQ (containsFuncA_c (q:=fun a=>!rightA a) hil hf) (by(try simp only[Ty.w,simprocAttr,g1]);try rfl) ?_;simp(maxSteps:=2000000) only[Ty.w,simprocAttr,g1]
     repeat'(first|(refine a_ret ?_;simp(maxSteps:=2000000) only[Ty.w,simprocAttr,g1])|(refine hK _ _ ?_;clear hK;try simp only[pst0,simprocAttr]))
     all_goals first|exact hG|exact⟨rfl,hG⟩
end Go.Proofs.YtjeolbgpllbemaaGreat
namespace Go.AM
end Go.AM
namespace Go.Proofs.YtjeolbgpllbemaaGreat
open Go.AM
theorem validF_shaped{f:Fm}(h:validF f=true):shapedF f=true:=by
 unfold validF at h
 simp only[Bool.and_eq_true]at h
 exact shapedM_F f 0 0 h.1
end Go.Proofs.YtjeolbgpllbemaaGreat
namespace Go.Proofs.YtjeolbgpllbemaaGreat
open Go.AM
def opDef:ByteArray:=⟨#[100,101,102,105,110,101]⟩
def opPrb:ByteArray:=⟨#[112,114,111,98,108,101,109]⟩
def opDom:ByteArray:=⟨#[58,100,111,109,97,105,110]⟩
def opObjs:ByteArray:=⟨#[58,111,98,106,101,99,116,115]⟩
def opInit:ByteArray:=⟨#[58,105,110,105,116]⟩
def opGoal:ByteArray:=⟨#[58,103,111,97,108]⟩
def atW(a:At):Sx:=wordsM a.name a.args
def numM(n:Int):Sx:= .mk 2 n 0 0 ⟨#[]⟩ []
def vlW(v:Vl):Sx:=listM [wordM opEq,atW v.at_,numM v.n]
def objsS(l:List Pm):Sx:=listM (wordM opObjs::paramsW l)
def initS(a:List At)(v:List Vl):Sx:=listM (wordM opInit::(a.map atW++v.map vlW))
def goalS(g:Fm):Sx:=listM [wordM opGoal,fmW g]
def goalE(g:Fm):Bool:=match g with
 | .mk op _ _ _ _ kids=>bEq op opAnd&&kids.isEmpty
def objsW(l:List Pm):List Sx:=if l.isEmpty then[]else[objsS l]
def initW(a:List At)(v:List Vl):List Sx:=if a.isEmpty&&v.isEmpty then[]else[initS a v]
def goalW(g:Fm):List Sx:=if goalE g then[]else[goalS g]
def nameS(w s:ByteArray):Sx:=listM [wordM w,wordM s]
def pbW(p:Pb):Sx:=listM ([wordM opDef,nameS opPrb p.name,nameS opDom p.domain]++(objsW p.objects++(initW p.init p.values++goalW p.goal)))
def writeB(p:Pb):Bool:=validF p.goal&&expressB p&&(svalid (pbW p) 0 0).1
theorem rightA_iff{a:At}:rightA a=true↔nameB a.name=true∧ ∀ s∈a.args,nameB s=true:=by
 unfold rightA rightB
 rw[Bool.and_eq_true,Bool.not_eq_true',List.any_eq_false]
 simp
theorem expressB_iff{p:Pb}:expressB p=true↔nameB p.name=true∧nameB p.domain=true∧(∀ o∈p.objects,objB o=true)∧(∀ v∈p.values,vlB v=true)∧ ∀ a∈p.init,rightA a=true:=by
 unfold expressB
 simp only[Bool.and_eq_true,List.all_eq_true,Bool.not_eq_true',List.any_eq_false]
 simp[and_assoc]
end Go.Proofs.YtjeolbgpllbemaaGreat
namespace Go.Proofs.YtjeolbgpllbemaaGreat
open Go.AM
set_option maxHeartbeats 4000000
set_option maxRecDepth 20000
theorem sx_frz'(n:Nat)(h:Heap)(ki va li co:Int)(te:ByteArray)(ks:List Sx):FrzL n h [.sc (.int .i64 ki),.sc (.int .i64 va),.sc (.int .i64 li),.sc (.int .i64 co),sPV te,.imm 6 (Sx.rows ks)] [.sc (.int .i64 ki),.sc (.int .i64 va),.sc (.int .i64 li),.sc (.int .i64 co),sPV te,.imm 6 (Sx.rows ks)]:=sx_frz n h (.mk ki va li co te ks)
end Go.Proofs.YtjeolbgpllbemaaGreat
namespace Go.AM
section
variable {P:Program}{ow:Nat→Bool}{wf:FuncId→Bool}{n:Nat}{Q:Post}{s:Slots}{h:Heap}
def alIdx(ops:List Oper):List Nat:=(List.range ops.length).filter (alB ops)
def drn2(P:Program)(ow:Nat→Bool)(wf:FuncId→Bool)(n:Nat)(ops:List Oper)(al:List Nat)(base:Nat):Nat→List Oper→Past→List (Nat × Heap)→(Slots→Heap→Prop)→Slots→Heap→Prop
 |_,[],_,_,K,s,h=>K s h
 |k,o::rest,past,hist,K,s,h=>(o.dst.all (fun d=>decide (d<n))=true)∧match wantedB ops s o with
  |none=>False
  | some b => if b = true then
    (match o.op with
    | .alloc t=>(match zeroT P t with
     | some zs => 0 < zs.length ∧ (∀ f ∈ al, k < f → (h.set (base + k) (.arr zs.length [zs.map .sc])).obj (base + f) = none) ∧ (∀ x ∈ past, pre ops x.1 k = true ∨ Does P ow x.2.1 (pev x.2.2.1) (h.set (base + k) (.arr zs.length [zs.map .sc])) x.2.2.2 (h.set (base + k) (.arr zs.length [zs.map .sc]))) ∧
       drn2 P ow wf n ops al base (k+1) rest past ((k,h)::hist) K (updO s o.dst (.ptr (base+k) 0 0)) (h.set (base+k) (.arr zs.length [zs.map .sc]))
     |none=>False)
    |_=>(match callee (pev s) o.op with
     |none=>(match eff P (o.dst.any ow) o.op (pev s) h with
      |some (v,h1)=>if isW ow wf o=true then(∀ f∈al,k<f→h1.obj (base+f)=none)∧(∀ x∈past,pre ops x.1 k=true∨Does P ow x.2.1 (pev x.2.2.1) h1 x.2.2.2 h1)∧drn2 P ow wf n ops al base (k+1) rest past ((k,h)::hist) K (updO s o.dst v) h1
       else h1=h∧(∀ x∈hist,pre ops x.1 k=true∨Does P ow o (pev s) x.2 v x.2)∧drn2 P ow wf n ops al base (k+1) rest ((k,o,s,v)::past) hist K (updO s o.dst v) h
      |none=>False)
     |some _=>(if isW ow wf o=true then ∃ v h',Does P ow o (pev s) h v h'∧((∀ f∈al,k<f→h'.obj (base+f)=none)∧ ∀ x∈pastC P ow past,pre ops x.1 k=true∨x.2 h')∧drun2 P ow wf n ops base (k+1) rest (pastC P ow past) ((k,h)::hist) K (updO s o.dst v) h'
      else ∃ v,Does P ow o (pev s) h v h∧(∀ x∈hist,pre ops x.1 k=true∨Does P ow o (pev s) x.2 v x.2)∧drun2 P ow wf n ops base (k+1) rest (pastC P ow ((k,o,s,v)::past)) hist K (updO s o.dst v) h)))
   else drn2 P ow wf n ops al base (k+1) rest past hist K (updO s o.dst (.sc undef)) h
theorem mem_alIdx{ops:List Oper}{f:Nat}(h:alB ops f=true):f∈alIdx ops:=by
 simp only[alIdx,List.mem_filter,List.mem_range]
 refine⟨?_,h⟩
 unfold alB at h
 split at h
 ·rename_i o ho
  exact(List.getElem?_eq_some_iff.1 ho).1
 ·simp at h
theorem drn2_drun2{ops:List Oper}{al:List Nat}(hal:alIdx ops=al){base:Nat}{K:Slots→Heap→Prop}:(rest:List Oper)→(k:Nat)→(past:Past)→(hist:List (Nat × Heap))→(s:Slots)→(h:Heap)→drn2 P ow wf n ops al base k rest past hist K s h→drun2 P ow wf n ops base k rest (pastC P ow past) hist K s h
 |[],_,_,_,_,_,hh=>by simpa only[drn2,drun2]using hh
 |o::rest,k,past,hist,s,h,hh=>by
  simp only[drn2]at hh
  simp only[drun2]
  refine⟨hh.1,?_⟩
  have h2:=hh.2
  clear hh
  have pc: ∀ h1,(∀ x∈past,pre ops x.1 k=true∨Does P ow x.2.1 (pev x.2.2.1) h1 x.2.2.2 h1)→ ∀ x∈pastC P ow past,pre ops x.1 k=true∨x.2 h1:=by
   intro h1 hp x hx
   obtain⟨y,hy,rfl⟩:=List.mem_map.1 hx
   exact hp y hy
  have alc: ∀ h1:Heap,(∀ f∈al,k<f→h1.obj (base+f)=none)→ ∀ f,k<f→alB ops f=true→h1.obj (base+f)=none:=fun h1 hp f hf ha=>hp f (by rw[← hal];exact mem_alIdx ha) hf
  cases hw:wantedB ops s o with
  |none=>rw[hw]at h2;exact h2
  |some b=>
   rw[hw]at h2
   simp only at h2⊢
   split at h2
   ·rename_i hb
    rw[if_pos hb]
    split at h2
    ·rename_i t hop
     split at h2
     ·rename_i zs hz
      obtain⟨a1,a2,a3,a4⟩:=h2
      have hi:isW ow wf o=true:=by unfold isW;rw[hop]
      rw[if_pos hi]
      exact⟨_,_,by unfold DoesR;rw[hop];exact⟨zs,hz,a1,rfl,rfl⟩,alc _ a2,pc _ a3,drn2_drun2 hal rest (k+1) _ _ _ _ a4⟩
     ·exact h2.elim
    ·rename_i hne
     cases hc:callee (pev s) o.op with
     |none=>
      rw[hc]at h2
      simp only at h2
      cases he:eff P (o.dst.any ow) o.op (pev s) h with
      |none=>rw[he]at h2;exact h2.elim
      |some r=>
       obtain⟨v,h1⟩:=r
       rw[he]at h2
       simp only at h2
       have hd:Does P ow o (pev s) h v h1:=by unfold Does;rw[hc];exact he
       split at h2
       ·rename_i hi
        rw[if_pos hi]
        have hdr:DoesR P ow (base+k) o (pev s) h v h1:=by
         unfold DoesR
         split
         ·rename_i t hop;exact absurd hop (hne t)
         ·exact hd
        exact⟨v,h1,hdr,alc h1 h2.1,pc h1 h2.2.1,drn2_drun2 hal rest (k+1) _ _ _ _ h2.2.2⟩
       ·rename_i hi
        rw[if_neg hi]
        obtain⟨rfl,h3,h4⟩:=h2
        exact⟨v,hd,h3,drn2_drun2 hal rest (k+1) _ _ _ _ h4⟩
     |some f=>
      rw[hc]at h2
      simp only at h2
      have dr: ∀ {v:PV}{h1:Heap},Does P ow o (pev s) h v h1→DoesR P ow (base+k) o (pev s) h v h1:=fun hd=>by
       unfold DoesR
       split
       ·rename_i t hop;exact absurd hop (hne t)
       ·exact hd
      split at h2
      ·rename_i hi
       rw[if_pos hi]
       obtain⟨v,h1,hd,h3,h4⟩:=h2
       exact⟨v,h1,dr hd,alc h1 h3.1,h3.2,h4⟩
      ·rename_i hi
       rw[if_neg hi]
       obtain⟨v,hd,h3,h4⟩:=h2
       exact⟨v,hd,h3,h4⟩
   ·rename_i hb
    rw[if_neg hb]
    exact drn2_drun2 hal rest (k+1) _ _ _ _ h2
theorem a_draw2S{id:Nat}{ops:List Oper}{K:Slots→Heap→Prop}(al:List Nat)(hd:dOk2 ow wf ops=true)(ha:alIdx ops=al)(hk:drn2 P ow wf n ops al h.next 0 ops [] [] K s ⟨h.next+ops.length,h.obj⟩):awp P ow wf n (.region id ops.toArray true) (Post.seq K Q) s h:=by
 simp only[awp,if_true];exact⟨_,_,.refl,.inr (.inl ⟨hd,drn2_drun2 ha ops 0 _ _ _ _ hk⟩)⟩
theorem a_dcall2{f:FuncId}{d:Nat}{args:List Operand}{ts:Array TypeId}{ty:TypeId}{pos:String}{af:Array Edge}{gd:Option (Nat × Bool)}{aS:List PV}{v:PV}{ops rest:List Oper}{base k k':Nat}{past:Past}{hist:List (Nat × Heap)}{K:Slots→Heap→Prop}(al:List Nat)(ha:alIdx ops=al)
  (hc:PCall P f aS h fun r h'=>r=v∧h'=h)(hs:args.map (pev s)=aS)
  (hk:drn2 P ow wf n ops al base k rest ((k',{dst:=some d,op:= .call {callee:= .value (.func f),args:=args.toArray,argTypes:=ts},type:=ty,pos:=pos,after:=af,guard:=gd},s,v)::past) hist K (upd s d v) h):
  ∃ v,Does P ow {dst:=some d,op:= .call {callee:= .value (.func f),args:=args.toArray,argTypes:=ts},type:=ty,pos:=pos,after:=af,guard:=gd} (pev s) h v h∧
   drun2 P ow wf n ops base k rest (pastC P ow ((k',{dst:=some d,op:= .call {callee:= .value (.func f),args:=args.toArray,argTypes:=ts},type:=ty,pos:=pos,after:=af,guard:=gd},s,v)::past)) hist K (upd s d v) h:=
 ⟨v,Does_use hc hs,drn2_drun2 ha _ _ _ _ _ _ hk⟩
theorem a_dcall2A{f:FuncId}{d:Nat}{args:List Operand}{ts:Array TypeId}{ty:TypeId}{pos:String}{af:Array Edge}{gd:Option (Nat × Bool)}{aS:List PV}{v:PV}{ops rest:List Oper}{base k k':Nat}{past:Past}{hist:List (Nat × Heap)}{K:Slots→Heap→Prop}{A:PV→Prop}(al:List Nat)(ha:alIdx ops=al)
  (hc:PCall P f aS h fun r h'=>r=v∧h'=h)(hs:args.map (pev s)=aS)(hA:A v)
  (hk:drn2 P ow wf n ops al base k rest ((k',{dst:=some d,op:= .call {callee:= .value (.func f),args:=args.toArray,argTypes:=ts},type:=ty,pos:=pos,after:=af,guard:=gd},s,v)::past) hist K (upd s d v) h):
  ∃ v,Does P ow {dst:=some d,op:= .call {callee:= .value (.func f),args:=args.toArray,argTypes:=ts},type:=ty,pos:=pos,after:=af,guard:=gd} (pev s) h v h∧A v∧
   drun2 P ow wf n ops base k rest (pastC P ow ((k',{dst:=some d,op:= .call {callee:= .value (.func f),args:=args.toArray,argTypes:=ts},type:=ty,pos:=pos,after:=af,guard:=gd},s,v)::past)) hist K (upd s d v) h:=
 ⟨v,Does_use hc hs,hA,drn2_drun2 ha _ _ _ _ _ _ hk⟩
end
end Go.AM
namespace Go.AM
mutual
def Nz:PV→PV→Prop
 | .imm z rows,p=>(∃ rows',p= .imm z rows'∧NzR rows rows')∨(rows=[]∧(p= .emp∨p= .sc (.slice none 0 0)))
 | .agg l,p=> ∃ l',p= .agg l'∧NzL l l'
 |q,p=>p=q
def NzL:List PV→List PV→Prop
 |[],[]=>True
 |p::ps,q::qs=>Nz p q∧NzL ps qs
 |_,_=>False
def NzR:List (List PV)→List (List PV)→Prop
 |[],[]=>True
 |p::ps,q::qs=>NzL p q∧NzR ps qs
 |_,_=>False
end
theorem NzL.len:(l l':List PV)→NzL l l'→l.length=l'.length
 |[],[],_=>rfl
 |[],_::_,h=>by simp[NzL]at h
 |_::_,[],h=>by simp[NzL]at h
 |p::l,q::l',h=>by
  unfold NzL at h
  simp only[List.length_cons,NzL.len l l' h.2]
theorem NzR.len:(l l':List (List PV))→NzR l l'→l.length=l'.length
 |[],[],_=>rfl
 |[],_::_,h=>by simp[NzR]at h
 |_::_,[],h=>by simp[NzR]at h
 |p::l,q::l',h=>by
  unfold NzR at h
  simp only[List.length_cons,NzR.len l l' h.2]
mutual
theorem Nz.refl:(p:PV)→Nz p p
 | .imm z rows=>by unfold Nz;exact .inl ⟨rows,rfl,NzR.refl rows⟩
 | .agg l=>by unfold Nz;exact⟨l,rfl,NzL.refl l⟩
 | .sc v=>by unfold Nz;rfl
 | .ptr _ _ _=>by unfold Nz;rfl
 | .cptr _=>by unfold Nz;rfl
 | .own _ _ _=>by unfold Nz;rfl
 | .emp=>by unfold Nz;rfl
 | .mp _=>by unfold Nz;rfl
 | .tup _=>by unfold Nz;rfl
 | .fn _ _ _=>by unfold Nz;rfl
 | .ab _ _ _ _ _=>by unfold Nz;rfl
theorem NzL.refl:(l:List PV)→NzL l l
 |[]=>by unfold NzL;trivial
 |p::l=>by unfold NzL;exact⟨Nz.refl p,NzL.refl l⟩
theorem NzR.refl:(l:List (List PV))→NzR l l
 |[]=>by unfold NzR;trivial
 |p::l=>by unfold NzR;exact⟨NzL.refl p,NzR.refl l⟩
end
section
variable {β:Env}{n:Nat}{F:Nat→Prop}{w:World}
mutual
theorem Nz.rep:(q p:PV)→(x:Value)→Nz q p→Rep β n F w p x→Rep β n F w q x
 | .imm z rows,p,x,h,hr=>by
  unfold Nz at h
  rcases h with⟨rows',rfl,hR⟩|⟨rfl,rfl|rfl⟩
  ·simp only[Rep]at hr⊢
   have hl:=NzR.len rows rows' hR
   obtain⟨a,cap,rfl,g1,g2,g3⟩:=hr
   refine⟨a,cap,by rw[hl],by omega,g2,?_⟩
   rcases g3 with g3|⟨b,o,hF,ha,hRR⟩
   ·left
    rw[g3]at hl
    exact List.length_eq_zero_iff.1 hl
   ·exact .inr ⟨b,o,hF,ha,NzR.rep z rows rows' b o hR hRR⟩
  ·simp only[Rep]at hr⊢
   obtain⟨a,rfl⟩:=hr
   exact⟨a,0,rfl,Nat.le_refl _,Nat.zero_le _,.inl trivial⟩
  ·simp only[Rep]at hr⊢
   exact⟨none,0,hr,Nat.le_refl _,Nat.zero_le _,.inl trivial⟩
 | .agg l,p,x,h,hr=>by
  unfold Nz at h
  obtain⟨l',rfl,hl⟩:=h
  simp only[Rep]at hr⊢
  obtain⟨xs,rfl,h1,h2⟩:=hr
  exact⟨xs,rfl,h1,NzL.rep l l' xs hl h2⟩
 | .sc _,p,x,h,hr=>by unfold Nz at h;subst h;exact hr
 | .ptr _ _ _,p,x,h,hr=>by unfold Nz at h;subst h;exact hr
 | .cptr _,p,x,h,hr=>by unfold Nz at h;subst h;exact hr
 | .own _ _ _,p,x,h,hr=>by unfold Nz at h;subst h;exact hr
 | .emp,p,x,h,hr=>by unfold Nz at h;subst h;exact hr
 | .mp _,p,x,h,hr=>by unfold Nz at h;subst h;exact hr
 | .tup _,p,x,h,hr=>by unfold Nz at h;subst h;exact hr
 | .fn _ _ _,p,x,h,hr=>by unfold Nz at h;subst h;exact hr
 | .ab _ _ _ _ _,p,x,h,hr=>by unfold Nz at h;subst h;exact hr
theorem NzL.rep:(l l':List PV)→(xs:List Value)→NzL l l'→RepL β n F w l' xs→RepL β n F w l xs
 |[],[],xs,_,hr=>hr
 |[],_::_,_,h,_=>by simp[NzL]at h
 |_::_,[],_,h,_=>by simp[NzL]at h
 |p::l,q::l',[],_,hr=>by simp[RepL]at hr
 |p::l,q::l',v::xs,h,hr=>by
  unfold NzL at h
  unfold RepL at hr⊢
  exact⟨Nz.rep p q v h.1 hr.1,NzL.rep l l' xs h.2 hr.2⟩
theorem NzS.rep:(l l':List PV)→(b o:Nat)→NzL l l'→RepS β n F w l' b o→RepS β n F w l b o
 |[],[],_,_,_,_=>by unfold RepS;trivial
 |[],_::_,_,_,h,_=>by simp[NzL]at h
 |_::_,[],_,_,h,_=>by simp[NzL]at h
 |p::l,q::l',b,o,h,hr=>by
  unfold NzL at h
  unfold RepS at hr⊢
  obtain⟨⟨v,h1,h2,h3⟩,h4⟩:=hr
  exact⟨⟨v,h1,h2,Nz.rep p q v h.1 h3⟩,NzS.rep l l' b (o+1) h.2 h4⟩
theorem NzR.rep(z:Nat):(l l':List (List PV))→(b o:Nat)→NzR l l'→RepR β n F w z l' b o→RepR β n F w z l b o
 |[],[],_,_,_,_=>by unfold RepR;trivial
 |[],_::_,_,_,h,_=>by simp[NzR]at h
 |_::_,[],_,_,h,_=>by simp[NzR]at h
 |p::l,q::l',b,o,h,hr=>by
  unfold NzR at h
  unfold RepR at hr⊢
  exact⟨⟨by rw[NzL.len p q h.1];exact hr.1.1,NzS.rep p q b o h.1 hr.1.2⟩,NzR.rep z l l' b (o+z) h.2 hr.2⟩
end
end
theorem PCall.nz{P:Program}{f:FuncId}{ys xs:List PV}{h:Heap}{K:PV→Heap→Prop}(hc:PCall P f ys h K)(hz:NzL ys xs):PCall P f xs h K:=
 fun β w vals sm hr=>hc β w vals sm (NzL.rep ys xs vals hz hr)
theorem nz_nil{z:Nat}:Nz (.imm z []) (.sc (.slice none 0 0)):=by unfold Nz;exact .inr ⟨rfl,.inr rfl⟩
theorem nz_imm{z:Nat}{r r':List (List PV)}(h:NzR r r'):Nz (.imm z r) (.imm z r'):=by unfold Nz;exact .inl ⟨_,rfl,h⟩
theorem nz_agg{r r':List PV}(h:NzL r r'):Nz (.agg r) (.agg r'):=by unfold Nz;exact⟨_,rfl,h⟩
theorem nz_cons{p q:PV}{l m:List PV}(h:Nz p q)(h2:NzL l m):NzL (p::l) (q::m):=by unfold NzL;exact⟨h,h2⟩
theorem nzr_cons{p q:List PV}{l m:List (List PV)}(h:NzL p q)(h2:NzR l m):NzR (p::l) (q::m):=by unfold NzR;exact⟨h,h2⟩
end Go.AM
namespace Go.Proofs.YtjeolbgpllbemaaGreat
open Go.AM
set_option maxHeartbeats 8000000
set_option maxRecDepth 20000
abbrev sxZ:List PV:=[.sc (.int .i64 0),.sc (.int .i64 0),.sc (.int .i64 0),.sc (.int .i64 0),.sc (.string ⟨#[]⟩),.sc (.slice none 0 0)]
abbrev sxP:List PV:=[.sc (.int .i64 3),.sc (.int .i64 0),.sc (.int .i64 0),.sc (.int .i64 0),.sc (.string ⟨#[]⟩)]
structure PbSm(p:Pb):Prop where
 g:p.goal.small
 o:p.objects.length≤1048576
 i:p.init.length≤1048576
 v:p.values.length≤1048576
 ia: ∀ a∈p.init,a.args.length≤1048576
 va: ∀ v∈p.values,v.at_.args.length≤1048576
abbrev PwI(h:Heap)(L:List Sx)(H:Heap):Prop:=GrI h h.next (h.next+17) (h.next+18) 6 6 6 sxZ sxP [] (Sx.rows L) H
abbrev PwJ(h:Heap)(L:List Sx)(H:Heap):Prop:=GrJ h h.next (h.next+17) (h.next+18) 6 6 6 sxZ sxP [] (Sx.rows L) H
theorem atW_ok{a:At}(ha:a.ok)(hl:a.args.length≤1048576):(atW a).ok:=wordsM_ok ha.1 hl ha.2.2
theorem listM_okL{l:List Sx}(hl:l.length≤bigN)(h: ∀ x∈l,x.ok):(listM l).ok:=by
 simp only[listM,Sx.ok]
 exact⟨by omega,by omega,by simp[bigN,ByteArray.size],hl,Sx.oks_iff.2 h⟩
theorem nameS_ok{w s:ByteArray}(hw:w.size≤bigN)(hs:s.size≤bigN):(nameS w s).ok:=listM_okL (by simp[bigN]) (by
 intro x hx
 simp only[List.mem_cons,List.not_mem_nil,or_false]at hx
 rcases hx with rfl|rfl
 ·exact wordM_ok hw
 ·exact wordM_ok hs)
theorem pbW_okS{p:Pb}(hok:p.ok)(hsm:PbSm p)(hv:shapedF p.goal=true):(pbW p).ok:=by
 obtain⟨k1,k2,⟨k3,k4⟩,⟨k5,k6⟩,⟨k7,k8⟩,k9⟩:=hok
 have so:=hsm.o
 have si:=hsm.i
 have sv:=hsm.v
 refine listM_okL ?_ ?_
 ·have h1:(objsW p.objects).length≤1:=by unfold objsW;split<;>simp
  have h2:(initW p.init p.values).length≤1:=by unfold initW;split<;>simp
  have h3:(goalW p.goal).length≤1:=by unfold goalW;split<;>simp
  simp only[List.length_append,List.length_cons,List.length_nil,bigN]
  omega
 ·intro x hx
  simp only[List.mem_append,List.mem_cons,List.not_mem_nil,or_false]at hx
  rcases hx with(rfl|rfl|rfl)|hx|hx|hx
  ·exact wordM_ok (by decide)
  ·exact nameS_ok (by decide) k1
  ·exact nameS_ok (by decide) k2
  ·unfold objsW at hx
   split at hx
   ·cases hx
   ·simp only[List.mem_singleton]at hx
    subst hx
    refine listM_okL (by simp only[List.length_cons,paramsW_len,bigN];omega) ?_
    intro y hy
    rcases List.mem_cons.1 hy with rfl|hy
    ·exact wordM_ok (by decide)
    ·exact Sx.oks_iff.1 (paramsW_ok _ k4) y hy
  ·unfold initW at hx
   split at hx
   ·cases hx
   ·simp only[List.mem_singleton]at hx
    subst hx
    refine listM_okL (by simp only[List.length_cons,List.length_append,List.length_map,bigN];omega) ?_
    intro y hy
    simp only[List.mem_cons,List.mem_append,List.mem_map]at hy
    rcases hy with rfl|⟨a,ha,rfl⟩|⟨v,hv,rfl⟩
    ·exact wordM_ok (by decide)
    ·exact atW_ok (k6 a ha) (hsm.ia a ha)
    ·refine listM_okL (by simp[bigN]) ?_
     intro z hz
     simp only[List.mem_cons,List.not_mem_nil,or_false]at hz
     rcases hz with rfl|rfl|rfl
     ·exact wordM_ok (by decide)
     ·exact atW_ok (k8 v hv).1 (hsm.va v hv)
     ·simp only[numM,Sx.ok,Sx.oks,List.length_nil]
      exact⟨by omega,⟨(k8 v hv).2.1,(k8 v hv).2.2⟩,by simp[bigN,ByteArray.size],by simp[bigN],trivial⟩
  ·unfold goalW at hx
   split at hx
   ·cases hx
   ·simp only[List.mem_singleton]at hx
    subst hx
    refine listM_okL (by simp[bigN]) ?_
    intro y hy
    simp only[List.mem_cons,List.not_mem_nil,or_false]at hy
    rcases hy with rfl|rfl
    ·exact wordM_ok (by decide)
    ·exact fmW_ok _ k9 hsm.g hv
theorem pbW_ok{p:Pb}(hok:p.ok)(hsm:PbSm p)(hv:validF p.goal=true):(pbW p).ok:=pbW_okS hok hsm (validF_shaped hv)
theorem pWrite_c{p:Pb}(hok:p.ok)(hsm:PbSm p)(h:Heap):PCall Tryz.prog 9 [.agg p.cells] h fun r h'=>r=(if writeB p then .tup [.agg (pbW p).cells,.sc .nilIface]else .tup [.agg zeroSx.cells,errV 2])∧h'=h:=by
 refine PCall.frz Ty.hb_9 ?_
 have hW:=fun h:Heap=>fWrite_c hok.2.2.2.2.2 hsm.g h
 have hE:=expressible_c hok
 generalize hF:writeB p=F
 unfold writeB at hF
 have bad: ∀ (h':Heap),F=false→FrzTo h.next h' (if F=true then .tup [.agg (pbW p).cells,.sc .nilIface]else .tup [.agg zeroSx.cells,errV 2]) (.tup [.agg sxZ,errV 2]):=by
  intro h' hf
  rw[hf,if_neg (by simp)]
  simp only[zeroSx,errV,Sx.cells,Sx.rows,FrzTo,FrzL]
  exact⟨_,rfl,⟨_,rfl,rfl,rfl,rfl,rfl,rfl,.inr (.inl ⟨rfl,.inr rfl⟩),trivial⟩,rfl,trivial⟩
 simp only[errV]at bad
 have hgW: ∀ a b,Grow h (((h.new a).new b).set h.next a):=fun a b=>(((Grow.refl h).new a).new b).set (Nat.le_refl _) a
 have hlO:=pmRows_len p.objects
 have hlI:=atRows_len p.init
 have hlV:=vlRows_len p.values
 obtain⟨name,domain,objects,init,values,goal⟩:=p
 simp only at hlO hlI hlV
 cases v1:validF goal with
 |false=>
  simp only[v1,Bool.false_eq_true,if_false]at hW
  simp only[v1,Bool.false_and]at hF
  clear hE hok hsm
  obtain⟨gop,gname,gargs,gparams,gexprs,gkids⟩:=goal
  simp only[Pb.cells,Fm.cells,List.cons_append,List.nil_append,zeroSx,Sx.cells,Sx.rows,errV]at hW⊢
  refine pcall_body (ow:=fun t=>t==40||t==49||t==67) (wf:=fun _=>false) Ty.mixed Tryz.func9 rfl Ty.hb_9 (by rw[Tryz.ntmps9];simp) ?_
  rw[Tryz.ntmps9,Tryz.results9]
  repeat'(first|refine a_seq fun K hK=>?_|(refine a_regionS ?_;simp(maxSteps:=2000000) only[Ty.w,simprocAttr])|(refine hK _ _ ?_;clear hK;try simp only[pst0,simprocAttr]))
  refine owp_useQ (hW _) (by(try simp only[Ty.w,simprocAttr,]);try rfl) ?_;simp(maxSteps:=2000000) only[Ty.w,simprocAttr,]
  repeat'(first|refine a_seq fun K hK=>?_|((first|refine a_regionS ?_|refine a_ret ?_);simp(maxSteps:=2000000) only[Ty.w,simprocAttr,nsucc])|(refine hK _ _ ?_;clear hK;try simp only[pst0,simprocAttr]))
  exact⟨bad _ hF.symm,((((Grow.refl h).new _).new _).set (Nat.le_succ _) _).set (Nat.le_refl _) _⟩
 |true=>
  simp only[v1,if_true]at hW
  simp only[v1,Bool.true_and]at hF
  generalize hV2:expressB _=ex at hF hE
  cases ex with
  |false=>
   simp only[Bool.false_and]at hF
   clear hok hsm
   generalize fmW goal=X at hW
   obtain⟨gop,gname,gargs,gparams,gexprs,gkids⟩:=goal
   obtain⟨ki,va,li,co,te,ks⟩:=X
   simp only[Pb.cells,Fm.cells,List.cons_append,List.nil_append,Sx.cells]at hW hE⊢
   refine pcall_body (ow:=fun t=>t==40||t==49||t==67) (wf:=fun _=>false) Ty.mixed Tryz.func9 rfl Ty.hb_9 (by rw[Tryz.ntmps9];simp) ?_
   rw[Tryz.ntmps9,Tryz.results9]
   repeat'(first|refine a_seq fun K hK=>?_|(refine a_regionS ?_;simp(maxSteps:=2000000) only[Ty.w,simprocAttr])|(refine hK _ _ ?_;clear hK;try simp only[pst0,simprocAttr]))
   refine owp_useQ (hW _) (by(try simp only[Ty.w,simprocAttr,]);try rfl) ?_;simp(maxSteps:=2000000) only[Ty.w,simprocAttr,]
   repeat'(first|refine a_seq fun K hK=>?_|(refine a_regionS ?_;simp(maxSteps:=2000000) only[Ty.w,simprocAttr,nsucc])|(refine hK _ _ ?_;clear hK;try simp only[pst0,simprocAttr]))
   refine owp_useQ (hE _) (by(try simp only[Ty.w,simprocAttr,Bool.not_false]);try rfl) ?_;simp(maxSteps:=2000000) only[Ty.w,simprocAttr,Bool.not_false]
   repeat'(first|refine a_seq fun K hK=>?_|((first|refine a_regionS ?_|refine a_ret ?_);simp(maxSteps:=2000000) only[Ty.w,simprocAttr,Bool.not_false,nsucc])|(refine hK _ _ ?_;clear hK;try simp only[pst0,simprocAttr]))
   exact⟨bad _ hF.symm,((((Grow.refl h).new _).new _).set (Nat.le_succ _) _).set (Nat.le_refl _) _⟩
  |true=>
   simp only[Bool.true_and]at hF
   have hpw:pbW ⟨name,domain,objects,init,values,goal⟩=listM ([wordM opDef,nameS opPrb name,nameS opDom domain]++(objsW objects++(initW init values++goalW goal))):=rfl
   have hPWo:=pbW_ok hok hsm v1
   generalize pbW _=PW at hpw hF hPWo⊢
   have hgE:goalW goal=if goalE goal then[]else[listM [wordM opGoal,fmW goal]]:=rfl
   generalize hX:fmW goal=X at hW hgE
   obtain⟨gop,gname,gargs,gparams,gexprs,gkids⟩:=goal
   obtain⟨ki,va,li,co,te,ks⟩:=X
   simp only[Pb.cells,Fm.cells,List.cons_append,List.nil_append,Sx.cells]at hW hE⊢
   have hwd: ∀ (s:ByteArray)(h:Heap),PCall Tryz.prog 27 [sPV s] h fun r h'=>r= .agg (wordM s).cells∧h'=h:=fun s h=>pword_c
   simp only[wordM,Sx.cells,Sx.rows]at hwd
   have hl2:=fun(a b:ByteArray)(h:Heap)=>plist_c (h:=h) (p:= .imm 6 (Sx.rows [wordM a,wordM b])) rfl (fun _=>frz_imm (sxs_in _ _))
   simp only[wordM,Sx.cells,Sx.rows]at hl2
   refine pcall_body (ow:=fun t=>t==40||t==49||t==67) (wf:=fun _=>false) Ty.mixed Tryz.func9 rfl Ty.hb_9 (by rw[Tryz.ntmps9];simp) ?_
   rw[Tryz.ntmps9,Tryz.results9]
   repeat'(first|refine a_seq fun K hK=>?_|(refine a_regionS ?_;simp(maxSteps:=2000000) only[Ty.w,simprocAttr])|(refine hK _ _ ?_;clear hK;try simp only[pst0,simprocAttr]))
   refine owp_useQ (hW _) (by(try simp only[Ty.w,simprocAttr,]);try rfl) ?_;simp(maxSteps:=2000000) only[Ty.w,simprocAttr,]
   repeat'(first|(with_reducible refine a_hold 2 ?_)|(refine hK _ _ ?_;clear hK;try simp only[pst0,simprocAttr]))
   refine⟨?_⟩
   refine a_tmp (h:=h.new (.arr 6 [sxZ])) 4 rfl (by simp only[Ty.w,simprocAttr]) (sx_frz' · · ki va li co te ks) ?_
   refine a_gen (fun S H=>S 1= .cptr [sPV name,sPV domain,.imm 2 (pmRows objects),.imm 2 (atRows init),.imm 3 (vlRows values),sPV gop,sPV gname,.imm 1 (strRows gargs),.imm 2 (pmRows gparams),.imm 5 (Ex.rows gexprs),.imm 6 (Fm.rows gkids)]∧S 2= .ptr h.next 0 0∧S 4= .cptr [.sc (.int .i64 ki),.sc (.int .i64 va),.sc (.int .i64 li),.sc (.int .i64 co),sPV te,.imm 6 (Sx.rows ks)]∧S 5= .sc .nilIface∧H=tmpH (h.new (.arr 6 [sxZ])) (.arr 6 [sxZ]) (.arr 6 [[.sc (.int .i64 ki),.sc (.int .i64 va),.sc (.int .i64 li),.sc (.int .i64 co),sPV te,.imm 6 (Sx.rows ks)]])) ⟨by simp only[Ty.w,simprocAttr],by simp only[Ty.w,simprocAttr],by simp only[Ty.w,simprocAttr],by simp only[Ty.w,simprocAttr],rfl⟩ ?_
   clear hW
   rintro S H ⟨s1,s2,s4,s5,hH⟩
   have hn:H.next=h.next+2:=by rw[hH];try rfl
   have hg:Grow h H:=by rw[hH];exact((Grow.refl h).new _).tmp _ _
   have ho:H.obj h.next=some (.arr 6 [sxZ]):=by rw[hH,tmpH_obj (Nat.lt_succ_self _)];simp[Heap.new]
   have hno: ∀ j,h.next<j→H.obj j=none:=fun j hj=>by
    rw[hH]
    simp only[tmpH,below]
    split
    ·rename_i hjj;simp only[Heap.new]at hjj;omega
    ·rfl
   clear hH
   repeat'(first|refine a_seq fun K hK=>?_|(refine a_regionS ?_;simp(maxSteps:=2000000) only[Ty.w,simprocAttr,s1,s2,s4,s5]))
   refine owp_useQ (hE _) (by(try simp only[Ty.w,simprocAttr,s1,s2,s4,s5,Bool.not_true]);try rfl) ?_;simp(maxSteps:=2000000) only[Ty.w,simprocAttr,s1,s2,s4,s5,Bool.not_true]
   repeat'(first|(with_reducible refine a_holdR 4 ?_)|(refine a_skip ?_;try simp only[pst0,simprocAttr])|(refine a_cond _ (by(try simp(maxSteps:=2000000) only[Ty.w,simprocAttr,s1,s2,s4,s5,Bool.not_true]);rfl) (fun hb=>?_) (fun hb=>?_)<;>(try simp only[hb0,decide_eq_true_eq,decide_eq_false_iff_not,simprocAttr]at hb)<;>(try(exfalso;omega)))|(refine hK _ _ ?_;clear hK;try simp only[pst0,simprocAttr]))
   refine⟨?_⟩
   refine a_gen (fun S H'=>S 1= .cptr [sPV name,sPV domain,.imm 2 (pmRows objects),.imm 2 (atRows init),.imm 3 (vlRows values),sPV gop,sPV gname,.imm 1 (strRows gargs),.imm 2 (pmRows gparams),.imm 5 (Ex.rows gexprs),.imm 6 (Fm.rows gkids)]∧S 2= .ptr h.next 0 0∧S 4= .cptr [.sc (.int .i64 ki),.sc (.int .i64 va),.sc (.int .i64 li),.sc (.int .i64 co),sPV te,.imm 6 (Sx.rows ks)]∧H'=H) ⟨by simp only[Ty.w,simprocAttr,s1],by simp only[Ty.w,simprocAttr,s2],by simp only[Ty.w,simprocAttr,s4],rfl⟩ ?_
   clear s1 s2 s4 s5 hE
   rintro S H' ⟨s1,s2,s4,rfl⟩
   refine a_seq (fun K hK=>?_)
   refine a_draw2S [15] (by decide+kernel) (by decide+kernel) ?_
   have hn15:H'.obj (H'.next+15)=none:=hno _ (by omega)
   have u1:(H'.next=H'.next+2)=False:=eq_false (by omega)
   simp(maxSteps:=4000000) only[drn2,Ty.w,simprocAttr,Ty.all,List.forall_mem_cons,s1,s2,s4,hn15,u1]
   first
    |refine a_dcall2 [15] (by decide+kernel) (hwd _ _) (by(try simp only[Ty.w,simprocAttr,s1,s2,s4,hn15,u1]);try rfl) ?_
    |refine a_dcall2A [15] (by decide+kernel) (hwd _ _) (by(try simp only[Ty.w,simprocAttr,s1,s2,s4,hn15,u1]);try rfl) (by simp only[Ty.w,simprocAttr,Ty.all,s1,s2,s4,hn15,u1];try trivial) ?_
   simp(maxSteps:=4000000) only[drn2,Ty.w,simprocAttr,Ty.all,List.forall_mem_cons,List.nil_append,s1,s2,s4,hn15,u1]
   first
    |refine a_dcall2 [15] (by decide+kernel) (hwd _ _) (by(try simp only[Ty.w,simprocAttr,s1,s2,s4,hn15,u1]);try rfl) ?_
    |refine a_dcall2A [15] (by decide+kernel) (hwd _ _) (by(try simp only[Ty.w,simprocAttr,s1,s2,s4,hn15,u1]);try rfl) (by simp only[Ty.w,simprocAttr,Ty.all,s1,s2,s4,hn15,u1];try trivial) ?_
   simp(maxSteps:=4000000) only[drn2,Ty.w,simprocAttr,Ty.all,List.forall_mem_cons,List.nil_append,s1,s2,s4,hn15,u1]
   first
    |refine a_dcall2 [15] (by decide+kernel) (hwd _ _) (by(try simp only[Ty.w,simprocAttr,s1,s2,s4,hn15,u1]);try rfl) ?_
    |refine a_dcall2A [15] (by decide+kernel) (hwd _ _) (by(try simp only[Ty.w,simprocAttr,s1,s2,s4,hn15,u1]);try rfl) (by simp only[Ty.w,simprocAttr,Ty.all,s1,s2,s4,hn15,u1];try trivial) ?_
   simp(maxSteps:=4000000) only[drn2,Ty.w,simprocAttr,Ty.all,List.forall_mem_cons,List.nil_append,s1,s2,s4,hn15,u1]
   first
    |refine a_dcall2 [15] (by decide+kernel) (hl2 _ _ _) (by(try simp only[Ty.w,simprocAttr,s1,s2,s4,hn15,u1]);try rfl) ?_
    |refine a_dcall2A [15] (by decide+kernel) (hl2 _ _ _) (by(try simp only[Ty.w,simprocAttr,s1,s2,s4,hn15,u1]);try rfl) (by simp only[Ty.w,simprocAttr,Ty.all,s1,s2,s4,hn15,u1];try trivial) ?_
   simp(maxSteps:=4000000) only[drn2,Ty.w,simprocAttr,Ty.all,List.forall_mem_cons,List.nil_append,s1,s2,s4,hn15,u1]
   first
    |refine a_dcall2 [15] (by decide+kernel) (hwd _ _) (by(try simp only[Ty.w,simprocAttr,s1,s2,s4,hn15,u1]);try rfl) ?_
    |refine a_dcall2A [15] (by decide+kernel) (hwd _ _) (by(try simp only[Ty.w,simprocAttr,s1,s2,s4,hn15,u1]);try rfl) (by simp only[Ty.w,simprocAttr,Ty.all,s1,s2,s4,hn15,u1];try trivial) ?_
   simp(maxSteps:=4000000) only[drn2,Ty.w,simprocAttr,Ty.all,List.forall_mem_cons,List.nil_append,s1,s2,s4,hn15,u1]
   first
    |refine a_dcall2 [15] (by decide+kernel) (hwd _ _) (by(try simp only[Ty.w,simprocAttr,s1,s2,s4,hn15,u1]);try rfl) ?_
    |refine a_dcall2A [15] (by decide+kernel) (hwd _ _) (by(try simp only[Ty.w,simprocAttr,s1,s2,s4,hn15,u1]);try rfl) (by simp only[Ty.w,simprocAttr,Ty.all,s1,s2,s4,hn15,u1];try trivial) ?_
   simp(maxSteps:=4000000) only[drn2,Ty.w,simprocAttr,Ty.all,List.forall_mem_cons,List.nil_append,s1,s2,s4,hn15,u1]
   first
    |refine a_dcall2 [15] (by decide+kernel) (hl2 _ _ _) (by(try simp only[Ty.w,simprocAttr,s1,s2,s4,hn15,u1]);try rfl) ?_
    |refine a_dcall2A [15] (by decide+kernel) (hl2 _ _ _) (by(try simp only[Ty.w,simprocAttr,s1,s2,s4,hn15,u1]);try rfl) (by simp only[Ty.w,simprocAttr,Ty.all,s1,s2,s4,hn15,u1];try trivial) ?_
   simp(maxSteps:=4000000) only[drn2,Ty.w,simprocAttr,Ty.all,List.forall_mem_cons,List.nil_append,s1,s2,s4,hn15,u1]
   refine⟨?_,?_⟩
   ·(repeat' apply And.intro)<;>exact .inl (by decide+kernel)
   refine a_dcall2A [15] (by decide+kernel) (plist_c (p:= .own (H'.next+17) 0 3) rfl (fun _=>frz_own (by simp[Heap.new]))) (by(try simp only[Ty.w,simprocAttr,s1,s2,s4,hn15,u1]);try rfl) (.inl (by decide+kernel)) ?_
   simp(maxSteps:=4000000) only[drn2,Ty.w,simprocAttr,Ty.all,List.forall_mem_cons,List.nil_append,s1,s2,s4,hn15,u1]
   have hl3: ∀ h:Heap,H'.next+17<h.next→PCall Tryz.prog 26 [.own (H'.next+17) 0 3] h fun r h'=>r= .agg [.sc (.int .i64 3),.sc (.int .i64 0),.sc (.int .i64 0),.sc (.int .i64 0),.sc (.string ⟨#[]⟩),.own (H'.next+17) 0 3]∧h'=h:=fun h hh=>plist_c rfl (fun _=>frz_own hh)
   refine⟨?_,?_⟩
   ·(repeat' apply And.intro)<;>first
     |exact .inl (by decide+kernel)
     |exact .inr (Does_use (hwd _ _) (by(try simp only[Ty.w,simprocAttr,s1,s2,s4,hn15,u1]);try rfl))
     |exact .inr (Does_use (hl2 _ _ _) (by(try simp only[Ty.w,simprocAttr,s1,s2,s4,hn15,u1]);try rfl))
     |exact .inr (Does_use (hl3 _ (by simp[Heap.new,Heap.set])) (by(try simp only[Ty.w,simprocAttr,s1,s2,s4,hn15,u1]);try rfl))
   refine⟨?_,?_⟩
   ·(repeat' apply And.intro)<;>first
     |exact .inl (by decide+kernel)
     |exact .inr (Does_use (hwd _ _) (by(try simp only[Ty.w,simprocAttr,s1,s2,s4,hn15,u1]);try rfl))
   refine hK _ _ ?_
   clear hK
   have e15:H'.next+15=h.next+17:=by omega
   refine a_gen (fun S H=>S 1= .cptr [sPV name,sPV domain,.imm 2 (pmRows objects),.imm 2 (atRows init),.imm 3 (vlRows values),sPV gop,sPV gname,.imm 1 (strRows gargs),.imm 2 (pmRows gparams),.imm 5 (Ex.rows gexprs),.imm 6 (Fm.rows gkids)]∧S 2= .ptr h.next 0 0∧S 4= .cptr [.sc (.int .i64 ki),.sc (.int .i64 va),.sc (.int .i64 li),.sc (.int .i64 co),sPV te,.imm 6 (Sx.rows ks)]∧S 6= .ptr (h.next+17) 0 0∧PwI h [wordM opDef,nameS opPrb name,nameS opDom domain] H) ⟨by simp only[Ty.w,simprocAttr,s1],by simp only[Ty.w,simprocAttr,s2],by simp only[Ty.w,simprocAttr,s4],by simp only[Ty.w,simprocAttr,e15],?_⟩ ?_
   ·have hgx:Grow h ⟨H'.next+17,H'.obj⟩:=⟨by simp only;omega,hg.old⟩
    refine GrI.mk2 (p:= .own (H'.next+17) 0 3) (((hgx.new _).set (by omega) _).set (by omega) _) ⟨Nat.le_refl _,by omega,by omega,by omega,by simp only[Heap.set,Heap.new];omega,by omega⟩ ?_ ?_ ?_
    ·simp only[Heap.set,Heap.new]
     repeat rw[if_neg (by omega)]
     exact ho
    ·simp only[Heap.set]
     rw[if_pos e15.symm];try rfl
    ·refine .inr ⟨H'.next+17,by omega,by simp[Heap.set,Heap.new],rfl,?_⟩
     simp only[Heap.set,Heap.new]
     repeat rw[if_neg (by omega)]
     rw[if_pos trivial];try rfl
   clear s1 s2 s4 hn15 u1 e15 hn hg ho hno hl3 hl2
   rintro S H ⟨s1,s2,s4,s6,hI⟩
   refine a_cut (fun S H=>S 1= .cptr [sPV name,sPV domain,.imm 2 (pmRows objects),.imm 2 (atRows init),.imm 3 (vlRows values),sPV gop,sPV gname,.imm 1 (strRows gargs),.imm 2 (pmRows gparams),.imm 5 (Ex.rows gexprs),.imm 6 (Fm.rows gkids)]∧S 2= .ptr h.next 0 0∧S 4= .cptr [.sc (.int .i64 ki),.sc (.int .i64 va),.sc (.int .i64 li),.sc (.int .i64 co),sPV te,.imm 6 (Sx.rows ks)]∧S 6= .ptr (h.next+17) 0 0∧(PwI h ([wordM opDef,nameS opPrb name,nameS opDom domain]++objsW objects) H∨PwJ h ([wordM opDef,nameS opPrb name,nameS opDom domain]++objsW objects) H)) ?_ ?_
   ·cases dO:decide ((objects.length:Int)>0)with
    |false=>
     have e:objects=[]:=by
      cases objects with
      |nil=>rfl
      |cons=>simp at dO
     subst e
     repeat'(first|refine a_seq fun K hK=>?_|(refine a_regionS ?_;simp(maxSteps:=2000000) only[Ty.w,simprocAttr,s1,s2,s4,s6,hlO,dO])|(refine a_skip ?_;try simp only[pst0,simprocAttr])|(refine a_cond _ (by(try simp(maxSteps:=2000000) only[Ty.w,simprocAttr,s1,s2,s4,s6,hlO,dO]);rfl) (fun hb=>?_) (fun hb=>?_)<;>(try simp only[hb0,decide_eq_true_eq,decide_eq_false_iff_not,simprocAttr]at hb)<;>(try(exfalso;omega)))|(refine hK _ _ ?_;clear hK;try simp only[pst0,simprocAttr]))
     exact⟨s1,s2,s4,s6,.inl hI⟩
    |true=>
     have hob:objsW objects=[objsS objects]:=by
      cases objects with
      |nil=>simp at dO
      |cons=>rfl
     have hWP:=fun h:Heap=>writeParams_c (l:=objects) hsm.o h
     have hpl:(Sx.rows (paramsW objects)).length=3*objects.length:=by rw[Sx.rows_len,paramsW_len]
     have hos:=hsm.o
     simp only at hos
     rw[hob]
     obtain⟨hg,ids,o1,p,Hk,o2,tl,t1,t2,t3,t4,hgH,hpc,hp1⟩:=hI
     simp only[sxP,List.cons_append,List.nil_append]at o2
     have hrow:objsS objects=listM (wordM opObjs::paramsW objects):=rfl
     generalize hPR:paramsW objects=PR at hWP hpl hrow
     have hb1:(1+3*objects.length)*72≤140737488355328:=by omega
     have n1:(h.next+17=H.next)=False:=eq_false (by omega)
     have n2:(h.next+17=H.next+1)=False:=eq_false (by omega)
     have hwr:(PV.sc (.int .i64 1)::PV.sc (.int .i64 0)::PV.sc (.int .i64 0)::PV.sc (.int .i64 0)::sPV ⟨#[58,111,98,106,101,99,116,115]⟩::[PV.imm 6 []])::Sx.rows PR=Sx.rows (wordM opObjs::PR):=rfl
     obtain⟨RX,hRX⟩: ∃ RX,RX=Sx.rows (wordM opObjs::PR):=⟨_,rfl⟩
     rw[← hRX]at hwr
     have hl5:RX.length=1+3*objects.length:=by rw[hRX,Sx.rows_len,List.length_cons, ← hpl,Sx.rows_len];omega
     have tl2:=fun a=>tl.up (h':=(((H.new a).kill H.next).new (.arr 6 RX))) (show H.next≤H.next+1+1 by omega) (fun j _ hj=>obj_lit hj)
     have hg2:=fun a=>(((hg.new a).kill (show h.next≤H.next by omega)).new (.arr 6 RX))
     have hl3: ∀ (k:Nat)(h:Heap),k<h.next→PCall Tryz.prog 26 [.own k 0 (1+3*objects.length)] h fun r h'=>r= .agg [.sc (.int .i64 3),.sc (.int .i64 0),.sc (.int .i64 0),.sc (.int .i64 0),.sc (.string ⟨#[]⟩),.own k 0 (1+3*objects.length)]∧h'=h:=fun k h hh=>plist_c rfl (fun _=>frz_own hh)
     have hL3:(Sx.rows [wordM opDef,nameS opPrb name,nameS opDom domain]).length=3:=rfl
     generalize hLL:[wordM opDef,nameS opPrb name,nameS opDom domain]=L3 at tl tl2 t1 hL3⊢
     have W:=And.intro s1 (And.intro s2 (And.intro s4 (And.intro s6 (And.intro o2 (And.intro n1 n2)))))
     repeat'(first|refine a_seq fun K hK=>?_|((first|refine a_regionS ?_|refine a_drawS (by decide+kernel) ?_);simp(maxSteps:=2000000) only[Ty.w,simprocAttr,W,hlO,dO])|(refine a_cond _ (by(try simp(maxSteps:=2000000) only[Ty.w,simprocAttr,W,hlO,dO]);rfl) (fun hb=>?_) (fun hb=>?_)<;>(try simp only[hb0,decide_eq_true_eq,decide_eq_false_iff_not,simprocAttr]at hb)<;>(try(exfalso;omega)))|(refine hK _ _ ?_;clear hK;try simp only[pst0,simprocAttr]))
     (first|refine a_dcall0 (hwd _ _) (by(try simp only[Ty.w,simprocAttr,W]);try rfl) ?_|refine a_dcallA (hwd _ _) (by(try simp only[Ty.w,simprocAttr,W]);try rfl) (by simp only[Ty.w,simprocAttr,W];try trivial) ?_);simp(maxSteps:=2000000) only[Ty.w,simprocAttr,W,Option.getD_some]
     repeat'(with_reducible refine a_past2 (by simp only[List.forall_mem_cons,Ty.w,simprocAttr,s1,s2,s4,s6,o2,n1,n2]<;>(repeat' apply And.intro)<;>first|trivial|exact .inl (by decide+kernel)) ?_;try simp(maxSteps:=2000000) only[Ty.w,simprocAttr,W])
     refine a_dcallA (hWP _) (by(try simp only[Ty.w,simprocAttr,W]);try rfl) (by intro x hx;exact .inr (Does_use (hWP _) (by(try simp only[Ty.w,simprocAttr,W]);try rfl))) ?_
     simp(maxSteps:=2000000) only[Ty.w,simprocAttr,W,Ty.all,Option.getD_some,hpl,hb1]
     repeat'(with_reducible refine a_past2 (by simp only[List.forall_mem_cons,Ty.w,simprocAttr,s1,s2,s4,s6,o2,n1,n2,hpl,hb1,hwr]<;>(repeat' apply And.intro)<;>first|trivial|exact .inl (by decide+kernel)) ?_;try simp(maxSteps:=2000000) only[Ty.w,simprocAttr,W,hpl,hb1,hwr])
     generalize hA:AObj.arr 6 [[PV.sc (.int .i64 1),PV.sc (.int .i64 0),PV.sc (.int .i64 0),PV.sc (.int .i64 0),sPV ⟨#[58,111,98,106,101,99,116,115]⟩,PV.imm 6 []]]=A1
     have tl2:=tl2 A1
     have hg2:=hg2 A1
     obtain⟨H3,u1,u2,u3,u4,u5⟩:=tl2.tail
     have hgH3:=u5 h ⟨hg2.le,hg2.old⟩ (by omega)
     have u3':H3.next=H.next+2:=u3
     have o2H:H3.obj (h.next+17)=_:=(u4 _ (by omega)).trans (show _=some (AObj.arr 6 [[.sc (.int .i64 3),.sc (.int .i64 0),.sc (.int .i64 0),.sc (.int .i64 0),.sc (.string ⟨#[]⟩),p]])from(obj_lit (by omega)).trans o2)
     have n3:(h.next+17=H3.next)=False:=eq_false (by omega)
     have n4:(h.next+17=H.next+2)=False:=eq_false (by omega)
     refine a_dcallA (hl3 (H.next+1) _ (Nat.lt_succ_self _)) (by(try simp only[Ty.w,simprocAttr,s1,s2,s4,s6,o2,n1,n2]);try rfl) (by simp only[List.forall_mem_cons];exact⟨.inl (by decide+kernel),.inl (by decide+kernel),fun _ h=>by cases h⟩) ?_
     simp(maxSteps:=2000000) only[Ty.w,simprocAttr,Ty.all,Option.getD_some,s1,s2,s4,s6,o2,n1,n2,hpl,hb1,u1,u2,u3',hL3,o2H,n3,n4,hpc,hp1]
     repeat'(with_reducible refine a_past2 (by simp only[List.forall_mem_cons,Ty.w,simprocAttr,s1,s2,s4,s6,o2,n1,n2,hpl,hb1,u1,u2,u3',hL3,o2H,n3,n4,hpc,hp1]<;>(repeat' apply And.intro)<;>first|trivial|exact .inl (by decide+kernel)) ?_;try simp(maxSteps:=2000000) only[Ty.w,simprocAttr,s1,s2,s4,s6,o2,n1,n2,hpl,hb1,u1,u2,u3',hL3,o2H,n3,n4,hpc,hp1])
     refine .inr (GrJ.push (X:=H.next+1) (z:=6) (RX:=RX) (m:=4) (r':=(objsS objects).cells) ⟨hgH3.1,hgH3.2⟩ ⟨ids.1,ids.2.1,ids.2.2.1,ids.2.2.2.1,by omega,ids.2.2.2.2.2⟩ (by rw[u4 _ (by omega),obj_lit (by omega)];exact o1) ?_ (by omega) (by omega) u3' (by rw[hL3]) (by simp[Sx.rows_map]) ?_)
     ·rw [isTail_keep tl u1 (Nat.le_succ _)]
      simp only[Heap.new,Heap.kill,if_true]
     ·rw [hrow]
      simp only[listM,Sx.cells,GvL]
      exact⟨.inl rfl,.inl rfl,.inl rfl,.inl rfl,.inl rfl,.inr ⟨by rw[hl5],by rw[hRX]⟩,trivial⟩
   ·clear s1 s2 s4 s6 hI
    rintro S H ⟨s1,s2,s4,s6,hI⟩
    refine a_giveO rfl hI ?_
    clear hI
    intro H hI
    generalize hL1:[wordM opDef,nameS opPrb name,nameS opDom domain]++objsW objects=L1 at hI
    have hL1n:L1.length≤4:=by
     rw[← hL1]
     unfold objsW
     split<;>simp
    refine a_cut (fun S H=>S 1= .cptr [sPV name,sPV domain,.imm 2 (pmRows objects),.imm 2 (atRows init),.imm 3 (vlRows values),sPV gop,sPV gname,.imm 1 (strRows gargs),.imm 2 (pmRows gparams),.imm 5 (Ex.rows gexprs),.imm 6 (Fm.rows gkids)]∧S 2= .ptr h.next 0 0∧S 4= .cptr [.sc (.int .i64 ki),.sc (.int .i64 va),.sc (.int .i64 li),.sc (.int .i64 co),sPV te,.imm 6 (Sx.rows ks)]∧S 6= .ptr (h.next+17) 0 0∧PwI h (L1++initW init values) H) ?_ ?_
    ·have wl:IntKind.i64.wrap ((init.length:Int)+values.length)=init.length+values.length:=by
      have h1:=hsm.i
      have h2:=hsm.v
      simp only at h1 h2
      rw[wrap64 (by omega) (by omega)]
     cases dI:decide ((init.length:Int)+values.length>0)with
     |false=>
      have e1:init=[]:=by
       cases init with
       |nil=>rfl
       |cons=>simp at dI;omega
      have e2:values=[]:=by
       cases values with
       |nil=>rfl
       |cons=>simp at dI;omega
      have hin:initW init values=[]:=by rw[e1,e2];try rfl
      repeat'(first|refine a_seq fun K hK=>?_|(refine a_regionS ?_;simp(maxSteps:=2000000) only[Ty.w,simprocAttr,s1,s2,s4,s6,hlI,hlV,wl,dI])|(refine a_skip ?_;try simp only[pst0,simprocAttr])|(refine a_cond _ (by(try simp(maxSteps:=2000000) only[Ty.w,simprocAttr,s1,s2,s4,s6,hlI,hlV,wl,dI]);rfl) (fun hb=>?_) (fun hb=>?_)<;>(try simp only[hb0,decide_eq_true_eq,decide_eq_false_iff_not,simprocAttr]at hb)<;>(try(exfalso;omega)))|(refine hK _ _ ?_;clear hK;try simp only[pst0,simprocAttr]))
      refine⟨s1,s2,s4,s6,?_⟩
      rw[hin,List.append_nil]
      exact hI
     |true=>
      have hin:initW init values=[initS init values]:=by
       unfold initW
       rw[if_neg]
       intro hh
       simp only[Bool.and_eq_true,List.isEmpty_iff]at hh
       obtain⟨rfl,rfl⟩:=hh
       simp at dI
      repeat'(first|refine a_seq fun K hK=>?_|(refine a_regionS ?_;simp(maxSteps:=2000000) only[Ty.w,simprocAttr,s1,s2,s4,s6,hlI,hlV,wl,dI])|(refine hK _ _ ?_;clear hK;try simp only[pst0,simprocAttr]))
      refine owp_useQ (hwd _ _) (by(try simp only[Ty.w,simprocAttr,]);try rfl) ?_;simp(maxSteps:=2000000) only[Ty.w,simprocAttr,]
      skip
      refine owp_useQ (plist_c (p:= .own H.next 0 1) rfl (fun _=>frz_own (Nat.lt_succ_self _))) (by(try simp only[Ty.w,simprocAttr,]);try rfl) ?_;simp(maxSteps:=2000000) only[Ty.w,simprocAttr,]
      repeat'(first|(with_reducible refine a_hold 9 ?_)|(refine hK _ _ ?_;clear hK;try simp only[pst0,simprocAttr]))
      refine⟨?_⟩
      refine a_gen (fun S H'=>S 1= .cptr [sPV name,sPV domain,.imm 2 (pmRows objects),.imm 2 (atRows init),.imm 3 (vlRows values),sPV gop,sPV gname,.imm 1 (strRows gargs),.imm 2 (pmRows gparams),.imm 5 (Ex.rows gexprs),.imm 6 (Fm.rows gkids)]∧S 2= .ptr h.next 0 0∧S 4= .cptr [.sc (.int .i64 ki),.sc (.int .i64 va),.sc (.int .i64 li),.sc (.int .i64 co),sPV te,.imm 6 (Sx.rows ks)]∧S 6= .ptr (h.next+17) 0 0∧S 7= .ptr (H.next+1) 0 0∧GrV H (H.next+1) H.next 6 6 sxP [] (Sx.rows ([wordM opInit])) H') ⟨by simp only[Ty.w,simprocAttr,s1],by simp only[Ty.w,simprocAttr,s2],by simp only[Ty.w,simprocAttr,s4],by simp only[Ty.w,simprocAttr,s6],by simp only[Ty.w,simprocAttr],?_⟩ ?_
      ·refine GrV.mk2 (p:= .own H.next 0 1) ((((Grow.refl H).new _).new _).set (Nat.le_succ _) _) ⟨Nat.le_succ _,Nat.le_refl _,show H.next+1<H.next+2 by omega⟩ obj_at (.inr ⟨H.next,Nat.le_refl _,show H.next<H.next+2 by omega,rfl,?_⟩) ?_
       ·rw [obj_set (by omega),obj_new (show H.next<H.next+1 by omega)]
        simp only[Heap.new,if_true];rfl
       ·intro id he
        simp only[PV.own.injEq]at he
        omega
      clear s1 s2 s4 s6
      rintro S H1 ⟨s1,s2,s4,s6,s7,hV⟩
      repeat'(first|refine a_seq fun K hK=>?_|(refine a_block ?_)|(refine a_regionS ?_;simp(maxSteps:=2000000) only[Ty.w,simprocAttr,s1,hlI])|(refine hK _ _ ?_;clear hK;try simp only[pst0,simprocAttr]))
      refine a_loop (fun m S h'=>S 1= .cptr [sPV name,sPV domain,.imm 2 (pmRows objects),.imm 2 (atRows init),.imm 3 (vlRows values),sPV gop,sPV gname,.imm 1 (strRows gargs),.imm 2 (pmRows gparams),.imm 5 (Ex.rows gexprs),.imm 6 (Fm.rows gkids)]∧S 2= .ptr h.next 0 0∧S 4= .cptr [.sc (.int .i64 ki),.sc (.int .i64 va),.sc (.int .i64 li),.sc (.int .i64 co),sPV te,.imm 6 (Sx.rows ks)]∧S 6= .ptr (h.next+17) 0 0∧S 7= .ptr (H.next+1) 0 0∧S 70= .imm 2 (atRows init)∧S 71= .sc (.int .i64 init.length)∧ ∃ k:Nat,S 72= .sc (.int .i64 k)∧k≤init.length∧m=init.length-k∧GrV H (H.next+1) H.next 6 6 sxP [] (Sx.rows (wordM opInit::(init.take k).map atW)) h') init.length ?_ ?_
      ·simp only[Ty.w,simprocAttr,s1,s2,s4,s6,s7]
       exact⟨0,rfl,by omega,rfl,hV⟩
      ·clear hV s1 s2 s4 s6 s7
       rintro m S h' ⟨s1,s2,s4,s6,s7,s70,s71,k,s72,hk,rfl,hV⟩
       by_cases hlt:k<init.length
       ·have hd:decide ((k:Int)<(init.length:Int))=true:=by simp;omega
        have w7:IntKind.i64.wrap ((k:Int)+1)=k+1:=by have:=hsm.i;simp only at this;rw[wrap64 (by omega) (by omega)]
        obtain⟨a,hx⟩: ∃ a,init[k]? =some a:=⟨_,List.getElem?_eq_getElem hlt⟩
        have hr:=atRows_get hx
        have hwa:=fun h:Heap=>writeAtom_c (h:=h) (first:=a.name) (l:=a.args) (hsm.ia a (List.mem_of_getElem? hx))
        have hR2:Sx.rows (wordM opInit::(init.take (k+1)).map atW)=Sx.rows (wordM opInit::(init.take k).map atW)++[(wordsM a.name a.args).cells]:=by
         rw[List.take_add_one,hx]
         simp[Sx.rows_map,atW]
        have hpr:(Sx.rows (wordM opInit::(init.take k).map atW)).length=k+1:=by rw[Sx.rows_len];simp;omega
        generalize Sx.rows (wordM opInit::(init.take k).map atW)=R at hV hR2 hpr
        generalize wordsM a.name a.args=X at hwa hR2
        obtain⟨ki2,va2,li2,co2,te2,ks2⟩:=X
        simp only[Sx.cells]at hwa hR2
        repeat'(first|(with_reducible refine a_holdB 12 ?_)|refine a_seq fun K hK=>?_|(refine a_regionS ?_;simp(maxSteps:=2000000) only[Ty.w,simprocAttr,s1,s2,s4,s6,s7,s70,s71,s72,hd,hr])|(refine a_skip ?_;try simp only[pst0,simprocAttr])|(refine a_cond _ (by(try simp(maxSteps:=2000000) only[Ty.w,simprocAttr,s1,s2,s4,s6,s7,s70,s71,s72,hd,hr]);rfl) (fun hb=>?_) (fun hb=>?_)<;>(try simp only[hb0,decide_eq_true_eq,decide_eq_false_iff_not,simprocAttr]at hb)<;>(try(exfalso;omega)))|(refine hK _ _ ?_;clear hK;try simp only[pst0,simprocAttr]))
        refine⟨?_⟩
        refine a_tmp 9 rfl (by simp only[Ty.w,simprocAttr]) (fun n H=>by simp only[FrzL,FrzTo,and_true,true_and];exact .inl (strs_in _ _)) ?_
        refine a_gen (fun S H'=>S 1= .cptr [sPV name,sPV domain,.imm 2 (pmRows objects),.imm 2 (atRows init),.imm 3 (vlRows values),sPV gop,sPV gname,.imm 1 (strRows gargs),.imm 2 (pmRows gparams),.imm 5 (Ex.rows gexprs),.imm 6 (Fm.rows gkids)]∧S 2= .ptr h.next 0 0∧S 4= .cptr [.sc (.int .i64 ki),.sc (.int .i64 va),.sc (.int .i64 li),.sc (.int .i64 co),sPV te,.imm 6 (Sx.rows ks)]∧S 6= .ptr (h.next+17) 0 0∧S 7= .ptr (H.next+1) 0 0∧S 70= .imm 2 (atRows init)∧S 71= .sc (.int .i64 init.length)∧S 72= .sc (.int .i64 k)∧S 9= .cptr [sPV a.name,.imm 1 (strRows a.args)]∧GrV H (H.next+1) H.next 6 6 sxP [] R H') ⟨by simp only[Ty.w,simprocAttr,s1],by simp only[Ty.w,simprocAttr,s2],by simp only[Ty.w,simprocAttr,s4],by simp only[Ty.w,simprocAttr,s6],by simp only[Ty.w,simprocAttr,s7],by simp only[Ty.w,simprocAttr,s70],by simp only[Ty.w,simprocAttr,s71],by simp only[Ty.w,simprocAttr,s72],by simp only[Ty.w,simprocAttr],hV.tmp _ _⟩ ?_
        clear hV s1 s2 s4 s6 s7 s70 s71 s72 hr hd
        rintro S h' ⟨s1,s2,s4,s6,s7,s70,s71,s72,s9,hV⟩
        obtain⟨hg,ids,p,Hk,o2,tl,t1,t2,t3,t4,hgH,hpc,hp1⟩:=hV
        simp only[sxP,List.cons_append,List.nil_append]at o2
        have o2H:=t4.trans o2
        have n1:(H.next+1=h'.next)=False:=eq_false (by omega)
        have hb:(k+1+1)*72≤140737488355328:=by have:=hsm.i;simp only at this;omega
        have hpush:=GrV.push (m:=k+1+1) (zo:=6) (zl:=6) (pre:=sxP) (post:=[]) (R:=R) [.sc (.int .i64 ki2),.sc (.int .i64 va2),.sc (.int .i64 li2),.sc (.int .i64 co2),sPV te2,.imm 6 (Sx.rows ks2)] hgH ids (by omega) t3 (by omega)
        rw[← hR2]at hpush
        simp only[sxP,List.cons_append,List.nil_append]at hpush
        have W:=And.intro s1 (And.intro s7 (And.intro s2 (And.intro s9 (And.intro s4 (And.intro s70 (And.intro s6 (And.intro s71 (And.intro s72 (And.intro o2 (And.intro o2H (And.intro n1 (And.intro t1 (And.intro t2 (And.intro t3 (And.intro hpr (And.intro hb (And.intro hpc (And.intro hp1 w7))))))))))))))))))
        repeat'(refine a_draw (by decide+kernel) (fun K hK=>?_);simp(maxSteps:=2000000) only[Ty.w,simprocAttr,W])
        (first|refine a_dcall0 (hwa _) (by(try simp only[Ty.w,simprocAttr,W]);try rfl) ?_|refine a_dcallA (hwa _) (by(try simp only[Ty.w,simprocAttr,W]);try rfl) (by simp only[Ty.w,simprocAttr,W];try trivial) ?_);simp(maxSteps:=2000000) only[Ty.w,simprocAttr,W,Option.getD_some]
        repeat'(first|(refine a_regionS ?_;simp(maxSteps:=2000000) only[Ty.w,simprocAttr,W, ← hR2])|(refine hK _ _ ?_;clear hK;try simp only[pst0,simprocAttr])|(with_reducible refine a_past2 (by simp only[List.forall_mem_cons,Ty.w,simprocAttr,s1,s2,s4,s6,s7,s70,s71,s72,o2,o2H,n1,t1,t2,t3,hpr,hb,hpc,hp1, ← hR2,w7]<;>(repeat' apply And.intro)<;>first|trivial|exact .inl (by decide+kernel)) ?_;try simp(maxSteps:=2000000) only[Ty.w,simprocAttr,W, ← hR2])|(rw[if_pos];rotate_left 1;omega;simp(maxSteps:=2000000) only[Ty.w,simprocAttr,W, ← hR2]))
        exact⟨init.length-(k+1),by omega,k+1,by simp,by omega,rfl,hpush⟩
       ·have hd:decide ((k:Int)<(init.length:Int))=false:=by simp;omega
        have hke:k=init.length:=by omega
        subst hke
        rw[List.take_length]at hV
        repeat'(first|(with_reducible refine a_hold 14 ?_)|refine a_seq fun K hK=>?_|(refine a_regionS ?_;simp(maxSteps:=2000000) only[Ty.w,simprocAttr,s1,s2,s4,s6,s7,s70,s71,s72,hd])|(refine a_exit ?_;try simp only[pst0,simprocAttr])|(refine a_cond _ (by(try simp(maxSteps:=2000000) only[Ty.w,simprocAttr,s1,s2,s4,s6,s7,s70,s71,s72,hd]);rfl) (fun hb=>?_) (fun hb=>?_)<;>(try simp only[hb0,decide_eq_true_eq,decide_eq_false_iff_not,simprocAttr]at hb)<;>(try(exfalso;omega)))|((first|refine hK _ _ ?_|(clear hK;refine hK _ _ ?_));clear hK;try simp only[pst0,simprocAttr]))
        refine⟨?_⟩
        refine a_gen (fun S H'=>S 1= .cptr [sPV name,sPV domain,.imm 2 (pmRows objects),.imm 2 (atRows init),.imm 3 (vlRows values),sPV gop,sPV gname,.imm 1 (strRows gargs),.imm 2 (pmRows gparams),.imm 5 (Ex.rows gexprs),.imm 6 (Fm.rows gkids)]∧S 2= .ptr h.next 0 0∧S 4= .cptr [.sc (.int .i64 ki),.sc (.int .i64 va),.sc (.int .i64 li),.sc (.int .i64 co),sPV te,.imm 6 (Sx.rows ks)]∧S 6= .ptr (h.next+17) 0 0∧S 7= .ptr (H.next+1) 0 0∧H'=h') ⟨by simp only[Ty.w,simprocAttr,s1],by simp only[Ty.w,simprocAttr,s2],by simp only[Ty.w,simprocAttr,s4],by simp only[Ty.w,simprocAttr,s6],by simp only[Ty.w,simprocAttr,s7],rfl⟩ ?_
        clear s1 s2 s4 s6 s7 s70 s71 s72 hd hlt hk
        rintro S h' ⟨s1,s2,s4,s6,s7,rfl⟩
        repeat'(first|refine a_seq fun K hK=>?_|(refine a_block ?_)|(refine a_regionS ?_;simp(maxSteps:=2000000) only[Ty.w,simprocAttr,s1,hlV])|(refine hK _ _ ?_;clear hK;try simp only[pst0,simprocAttr]))
        refine a_loop (fun m S h'=>S 1= .cptr [sPV name,sPV domain,.imm 2 (pmRows objects),.imm 2 (atRows init),.imm 3 (vlRows values),sPV gop,sPV gname,.imm 1 (strRows gargs),.imm 2 (pmRows gparams),.imm 5 (Ex.rows gexprs),.imm 6 (Fm.rows gkids)]∧S 2= .ptr h.next 0 0∧S 4= .cptr [.sc (.int .i64 ki),.sc (.int .i64 va),.sc (.int .i64 li),.sc (.int .i64 co),sPV te,.imm 6 (Sx.rows ks)]∧S 6= .ptr (h.next+17) 0 0∧S 7= .ptr (H.next+1) 0 0∧S 85= .imm 3 (vlRows values)∧S 86= .sc (.int .i64 values.length)∧ ∃ k:Nat,S 87= .sc (.int .i64 k)∧k≤values.length∧m=values.length-k∧GrV H (H.next+1) H.next 6 6 sxP [] (Sx.rows (wordM opInit::(init.map atW++(values.take k).map vlW))) h') values.length ?_ ?_
        ·simp only[Ty.w,simprocAttr,s1,s2,s4,s6,s7]
         exact⟨0,rfl,by omega,rfl,by simpa using hV⟩
        ·clear hV s1 s2 s4 s6 s7
         rintro m S h' ⟨s1,s2,s4,s6,s7,s85,s86,k,s87,hk,rfl,hV⟩
         by_cases hlt:k<values.length
         ·have hd:decide ((k:Int)<(values.length:Int))=true:=by simp;omega
          have w7:IntKind.i64.wrap ((k:Int)+1)=k+1:=by have:=hsm.v;simp only at this;rw[wrap64 (by omega) (by omega)]
          obtain⟨⟨⟨an,aa⟩,vn⟩,hx⟩: ∃ a,values[k]? =some a:=⟨_,List.getElem?_eq_getElem hlt⟩
          have hr:=vlRows_get hx
          have hwa:=fun h:Heap=>writeAtom_c (h:=h) (first:=an) (l:=aa) (hsm.va _ (List.mem_of_getElem? hx))
          have hR2:Sx.rows (wordM opInit::(init.map atW++(values.take (k+1)).map vlW))=Sx.rows (wordM opInit::(init.map atW++(values.take k).map vlW))++[(listM [wordM opEq,wordsM an aa,numM vn]).cells]:=by
           rw[List.take_add_one,hx]
           simp[Sx.rows_map,vlW,atW]
          have hpr:(Sx.rows (wordM opInit::(init.map atW++(values.take k).map vlW))).length=init.length+k+1:=by rw[Sx.rows_len];simp;omega
          generalize Sx.rows (wordM opInit::(init.map atW++(values.take k).map vlW))=R at hV hR2 hpr
          generalize wordsM an aa=X at hwa hR2
          obtain⟨ki2,va2,li2,co2,te2,ks2⟩:=X
          have hl3: ∀ h:Heap,PCall Tryz.prog 26 [.imm 6 [[.sc (.int .i64 1),.sc (.int .i64 0),.sc (.int .i64 0),.sc (.int .i64 0),sPV opEq,.imm 6 []],[.sc (.int .i64 ki2),.sc (.int .i64 va2),.sc (.int .i64 li2),.sc (.int .i64 co2),sPV te2,.imm 6 (Sx.rows ks2)],[.sc (.int .i64 2),.sc (.int .i64 vn),.sc (.int .i64 0),.sc (.int .i64 0),.sc (.string ⟨#[]⟩),.sc (.slice none 0 0)]]] h fun r h'=>r= .agg (listM [wordM opEq,Sx.mk ki2 va2 li2 co2 te2 ks2,numM vn]).cells∧h'=h:=
           fun h=>PCall.nz (plist_c (p:= .imm 6 (Sx.rows [wordM opEq,.mk ki2 va2 li2 co2 te2 ks2,numM vn])) rfl (fun _=>frz_imm (sxs_in _ _))) (nz_cons (nz_imm (nzr_cons (NzL.refl _) (nzr_cons (NzL.refl _) (nzr_cons (nz_cons (Nz.refl _) (nz_cons (Nz.refl _) (nz_cons (Nz.refl _) (nz_cons (Nz.refl _) (nz_cons (Nz.refl _) (nz_cons nz_nil (NzL.refl []))))))) (NzR.refl []))))) (NzL.refl []))
          simp only[Sx.cells,listM,Sx.rows,wordM,numM]at hwa hR2 hl3
          simp only at hr
          repeat'(first|(with_reducible refine a_holdB 17 ?_)|refine a_seq fun K hK=>?_|(refine a_regionS ?_;simp(maxSteps:=2000000) only[Ty.w,simprocAttr,s1,s2,s4,s6,s7,s85,s86,s87,hd,hr])|(refine a_skip ?_;try simp only[pst0,simprocAttr])|(refine a_cond _ (by(try simp(maxSteps:=2000000) only[Ty.w,simprocAttr,s1,s2,s4,s6,s7,s85,s86,s87,hd,hr]);rfl) (fun hb=>?_) (fun hb=>?_)<;>(try simp only[hb0,decide_eq_true_eq,decide_eq_false_iff_not,simprocAttr]at hb)<;>(try(exfalso;omega)))|(refine hK _ _ ?_;clear hK;try simp only[pst0,simprocAttr]))
          refine⟨?_⟩
          refine a_tmp 11 rfl (by simp only[Ty.w,simprocAttr]) (fun n H=>by simp only[FrzL,FrzTo,and_true,true_and];exact .inl (strs_in _ _)) ?_
          refine a_gen (fun S H'=>S 1= .cptr [sPV name,sPV domain,.imm 2 (pmRows objects),.imm 2 (atRows init),.imm 3 (vlRows values),sPV gop,sPV gname,.imm 1 (strRows gargs),.imm 2 (pmRows gparams),.imm 5 (Ex.rows gexprs),.imm 6 (Fm.rows gkids)]∧S 2= .ptr h.next 0 0∧S 4= .cptr [.sc (.int .i64 ki),.sc (.int .i64 va),.sc (.int .i64 li),.sc (.int .i64 co),sPV te,.imm 6 (Sx.rows ks)]∧S 6= .ptr (h.next+17) 0 0∧S 7= .ptr (H.next+1) 0 0∧S 85= .imm 3 (vlRows values)∧S 86= .sc (.int .i64 values.length)∧S 87= .sc (.int .i64 k)∧S 11= .cptr [sPV an,.imm 1 (strRows aa),.sc (.int .i64 vn)]∧GrV H (H.next+1) H.next 6 6 sxP [] R H') ⟨by simp only[Ty.w,simprocAttr,s1],by simp only[Ty.w,simprocAttr,s2],by simp only[Ty.w,simprocAttr,s4],by simp only[Ty.w,simprocAttr,s6],by simp only[Ty.w,simprocAttr,s7],by simp only[Ty.w,simprocAttr,s85],by simp only[Ty.w,simprocAttr,s86],by simp only[Ty.w,simprocAttr,s87],by simp only[Ty.w,simprocAttr],hV.tmp _ _⟩ ?_
          clear hV s1 s2 s4 s6 s7 s85 s86 s87 hr hd
          rintro S h' ⟨s1,s2,s4,s6,s7,s85,s86,s87,s11,hV⟩
          obtain⟨hg,ids,p,Hk,o2,tl,t1,t2,t3,t4,hgH,hpc,hp1⟩:=hV
          simp only[sxP,List.cons_append,List.nil_append]at o2
          have o2H:=t4.trans o2
          have n1:(H.next+1=h'.next)=False:=eq_false (by omega)
          have hb:(init.length+k+1+1)*72≤140737488355328:=by have:=hsm.i;have:=hsm.v;simp only at*;omega
          have hpush:=GrV.push (m:=init.length+k+1+1) (zo:=6) (zl:=6) (pre:=sxP) (post:=[]) (R:=R) [.sc (.int .i64 3),.sc (.int .i64 0),.sc (.int .i64 0),.sc (.int .i64 0),sPV ⟨#[]⟩,.imm 6 [[.sc (.int .i64 1),.sc (.int .i64 0),.sc (.int .i64 0),.sc (.int .i64 0),sPV opEq,.imm 6 []],[.sc (.int .i64 ki2),.sc (.int .i64 va2),.sc (.int .i64 li2),.sc (.int .i64 co2),sPV te2,.imm 6 (Sx.rows ks2)],[.sc (.int .i64 2),.sc (.int .i64 vn),.sc (.int .i64 0),.sc (.int .i64 0),sPV ⟨#[]⟩,.imm 6 []]]] hgH ids (by omega) t3 (by omega)
          rw[← hR2]at hpush
          simp only[sxP,List.cons_append,List.nil_append]at hpush
          have W:=And.intro s1 (And.intro s7 (And.intro s2 (And.intro s11 (And.intro s4 (And.intro s85 (And.intro s6 (And.intro s86 (And.intro s87 (And.intro o2 (And.intro o2H (And.intro n1 (And.intro t1 (And.intro t2 (And.intro t3 (And.intro hpr (And.intro hb (And.intro hpc (And.intro hp1 w7))))))))))))))))))
          repeat'(refine a_draw (by decide+kernel) (fun K hK=>?_);simp(maxSteps:=2000000) only[Ty.w,simprocAttr,W])
          (first|refine a_dcall0 (hwd _ _) (by(try simp only[Ty.w,simprocAttr,W]);try rfl) ?_|refine a_dcallA (hwd _ _) (by(try simp only[Ty.w,simprocAttr,W]);try rfl) (by simp only[Ty.w,simprocAttr,W];try trivial) ?_);simp(maxSteps:=2000000) only[Ty.w,simprocAttr,W,Option.getD_some]
          skip
          (first|refine a_dcall0 (hwa _) (by(try simp only[Ty.w,simprocAttr,W]);try rfl) ?_|refine a_dcallA (hwa _) (by(try simp only[Ty.w,simprocAttr,W]);try rfl) (by simp only[Ty.w,simprocAttr,W];try trivial) ?_);simp(maxSteps:=2000000) only[Ty.w,simprocAttr,W,Option.getD_some]
          skip
          (first|refine a_dcall0 (hl3 _) (by(try simp only[Ty.w,simprocAttr,W]);try rfl) ?_|refine a_dcallA (hl3 _) (by(try simp only[Ty.w,simprocAttr,W]);try rfl) (by simp only[Ty.w,simprocAttr,W];try trivial) ?_);simp(maxSteps:=2000000) only[Ty.w,simprocAttr,W,Option.getD_some]
          repeat'(first|(refine a_regionS ?_;simp(maxSteps:=2000000) only[Ty.w,simprocAttr,W, ← hR2])|(refine hK _ _ ?_;clear hK;try simp only[pst0,simprocAttr])|(with_reducible refine a_past2 (by simp only[List.forall_mem_cons,Ty.w,simprocAttr,s1,s2,s4,s6,s7,s85,s86,s87,o2,o2H,n1,t1,t2,t3,hpr,hb,hpc,hp1, ← hR2,w7]<;>(repeat' apply And.intro)<;>first|trivial|exact .inl (by decide+kernel)) ?_;try simp(maxSteps:=2000000) only[Ty.w,simprocAttr,W, ← hR2])|(rw[if_pos];rotate_left 1;omega;simp(maxSteps:=2000000) only[Ty.w,simprocAttr,W, ← hR2]))
          exact⟨values.length-(k+1),by omega,k+1,by simp,by omega,rfl,hpush⟩
         ·have hd:decide ((k:Int)<(values.length:Int))=false:=by simp;omega
          have hke:k=values.length:=by omega
          subst hke
          rw[List.take_length]at hV
          have hin2:initS init values=listM (wordM opInit::(init.map atW++values.map vlW)):=rfl
          repeat'(first|(with_reducible refine a_holdB 19 ?_)|refine a_seq fun K hK=>?_|(refine a_regionS ?_;simp(maxSteps:=2000000) only[Ty.w,simprocAttr,s1,s2,s4,s6,s7,s85,s86,s87,hd])|(refine a_exit ?_;try simp only[pst0,simprocAttr])|(refine a_cond _ (by(try simp(maxSteps:=2000000) only[Ty.w,simprocAttr,s1,s2,s4,s6,s7,s85,s86,s87,hd]);rfl) (fun hb=>?_) (fun hb=>?_)<;>(try simp only[hb0,decide_eq_true_eq,decide_eq_false_iff_not,simprocAttr]at hb)<;>(try(exfalso;omega)))|((first|refine hK _ _ ?_|(clear hK;refine hK _ _ ?_));clear hK;try simp only[pst0,simprocAttr]))
          refine⟨?_⟩
          refine a_dropV 7 rfl hV (by simp only[Ty.w,simprocAttr,s7]) (fun n H=>sxs_frz n H _) (fun n H p q hpq=>by simp only[sxP,List.cons_append,List.nil_append,FrzL,FrzTo,and_true,true_and];exact hpq) ?_
          refine a_gen (fun S H'=>S 1= .cptr [sPV name,sPV domain,.imm 2 (pmRows objects),.imm 2 (atRows init),.imm 3 (vlRows values),sPV gop,sPV gname,.imm 1 (strRows gargs),.imm 2 (pmRows gparams),.imm 5 (Ex.rows gexprs),.imm 6 (Fm.rows gkids)]∧S 2= .ptr h.next 0 0∧S 4= .cptr [.sc (.int .i64 ki),.sc (.int .i64 va),.sc (.int .i64 li),.sc (.int .i64 co),sPV te,.imm 6 (Sx.rows ks)]∧S 6= .ptr (h.next+17) 0 0∧S 7= .cptr (initS init values).cells∧PwI h L1 H') ⟨by simp only[Ty.w,simprocAttr,s1],by simp only[Ty.w,simprocAttr,s2],by simp only[Ty.w,simprocAttr,s4],by simp only[Ty.w,simprocAttr,s6],by simp only[Ty.w,simprocAttr];rfl,hI.up (below_grow hV.grow)⟩ ?_
          clear hV s1 s2 s4 s6 s7 s85 s86 s87 hd hI
          rintro S H ⟨s1,s2,s4,s6,s7,hI⟩
          obtain⟨hg,ids,o1,p,Hk,o2,tl,t1,t2,t3,t4,hgH,hpc,hp1⟩:=hI
          simp only[sxP,List.cons_append,List.nil_append]at o2
          have o2H:=(t4 _ (show h.next+17<h.next+18 by omega)).trans o2
          have n1:(h.next+17=H.next)=False:=eq_false (by omega)
          have hL1r:=Sx.rows_len L1
          have hb:(L1.length+1)*72≤140737488355328:=by omega
          rw[hin]
          generalize initS init values=X at s7
          obtain⟨ki2,va2,li2,co2,te2,ks2⟩:=X
          simp only[Sx.cells]at s7
          have hpush:=GrI.push (m:=L1.length+1) (zr:=6) (Z:=sxZ) (zo:=6) (zl:=6) (pre:=sxP) (post:=[]) (R:=Sx.rows L1) [.sc (.int .i64 ki2),.sc (.int .i64 va2),.sc (.int .i64 li2),.sc (.int .i64 co2),sPV te2,.imm 6 (Sx.rows ks2)] hgH ids o1 t3 t4 (by rw[hL1r])
          simp only[sxP,List.cons_append,List.nil_append]at hpush
          repeat'(refine a_regionS ?_;simp(maxSteps:=2000000) only[Ty.w,simprocAttr,s1,s2,s4,s6,s7,o2,o2H,n1,t1,t2,t3,hL1r,hb,hpc,hp1])
          have hap:Sx.rows (L1++[Sx.mk ki2 va2 li2 co2 te2 ks2])=Sx.rows L1++[[.sc (.int .i64 ki2),.sc (.int .i64 va2),.sc (.int .i64 li2),.sc (.int .i64 co2),sPV te2,.imm 6 (Sx.rows ks2)]]:=by simp[Sx.rows_map,Sx.cells]
          rw[← hap]at hpush⊢
          exact hpush
    ·clear s1 s2 s4 s6 hI
     rintro S H ⟨s1,s2,s4,s6,hI⟩
     generalize hL2:L1++initW init values=L2 at hI
     have hL2n:L2.length≤5:=by
      rw[← hL2]
      unfold initW
      split<;>simp<;>omega
     refine a_cut (fun S H=>S 2= .ptr h.next 0 0∧S 6= .ptr (h.next+17) 0 0∧PwI h (L2++goalW (.mk gop gname gargs gparams gexprs gkids)) H) ?_ ?_
     ·have hlK:=Fm.rows_len gkids
      have hgE2:goalE (.mk gop gname gargs gparams gexprs gkids)=(bEq gop opAnd&&gkids.isEmpty):=rfl
      rw[hgE,hgE2]
      obtain⟨hg,ids,o1,p,Hk,o2,tl,t1,t2,t3,t4,hgH,hpc,hp1⟩:=id hI
      simp only[sxP,List.cons_append,List.nil_append]at o2
      have o2H:=(t4 _ (show h.next+17<h.next+18 by omega)).trans o2
      have n1:(h.next+17=H.next)=False:=eq_false (by omega)
      have hL1r:=Sx.rows_len L2
      have hb:(L2.length+1)*72≤140737488355328:=by omega
      have hl2:=fun(h:Heap)=>plist_c (h:=h) (p:= .imm 6 (Sx.rows [wordM opGoal,Sx.mk ki va li co te ks])) rfl (fun _=>frz_imm (sxs_in _ _))
      have hpush:=GrI.push (m:=L2.length+1) (zr:=6) (Z:=sxZ) (zo:=6) (zl:=6) (pre:=sxP) (post:=[]) (R:=Sx.rows L2) (listM [wordM opGoal,Sx.mk ki va li co te ks]).cells hgH ids o1 t3 t4 (by rw[hL1r])
      have hap:Sx.rows (L2++[listM [wordM opGoal,Sx.mk ki va li co te ks]])=Sx.rows L2++[(listM [wordM opGoal,Sx.mk ki va li co te ks]).cells]:=by simp[Sx.rows_map]
      rw[← hap]at hpush
      simp only[listM,wordM,Sx.cells,Sx.rows,sxP,List.cons_append,List.nil_append]at hl2 hap hpush
      cases k1:(gop.data.toList==(#[97,110,100]:Array UInt8).toList)with
      |true=>
       rw[show bEq gop opAnd=true from k1,Bool.true_and]
       cases k2:decide ((gkids.length:Int)>0)with
       |false=>
        have e:gkids.isEmpty=true:=by
         cases gkids with
         |nil=>rfl
         |cons=>simp at k2
        rw[e,if_pos rfl,List.append_nil]
        repeat'(first|refine a_seq fun K hK=>?_|(refine a_regionS ?_;simp(maxSteps:=2000000) only[Ty.w,simprocAttr,s1,s2,s4,s6,k1,k2,hlK,Bool.not_true,Bool.not_false])|(refine a_skip ?_;try simp only[pst0,simprocAttr])|(refine a_cond _ (by(try simp(maxSteps:=2000000) only[Ty.w,simprocAttr,s1,s2,s4,s6,k1,k2,hlK,Bool.not_true,Bool.not_false]);rfl) (fun hb=>?_) (fun hb=>?_)<;>(try simp only[hb0,decide_eq_true_eq,decide_eq_false_iff_not,simprocAttr]at hb)<;>(try(exfalso;omega)))|(refine hK _ _ ?_;clear hK;try simp only[pst0,simprocAttr]))
        exact⟨s2,s6,hI⟩
       |true=>
        have e:gkids.isEmpty=false:=by
         cases gkids with
         |nil=>simp at k2
         |cons=>rfl
        rw[e,if_neg (by simp)]
        have W:=And.intro s1 (And.intro s2 (And.intro s4 (And.intro s6 o2)))
        repeat'(first|refine a_seq fun K hK=>?_|((first|refine a_regionS ?_|refine a_drawS (by decide+kernel) ?_);simp(maxSteps:=2000000) only[Ty.w,simprocAttr,W,k1,k2,hlK,Bool.not_true,Bool.not_false])|(refine a_cond _ (by(try simp(maxSteps:=2000000) only[Ty.w,simprocAttr,W,k1,k2,hlK,Bool.not_true,Bool.not_false]);rfl) (fun hb=>?_) (fun hb=>?_)<;>(try simp only[hb0,decide_eq_true_eq,decide_eq_false_iff_not,simprocAttr]at hb)<;>(try(exfalso;omega)))|(refine hK _ _ ?_;clear hK;try simp only[pst0,simprocAttr]))
        (first|refine a_dcall0 (hwd _ _) (by(try simp only[Ty.w,simprocAttr,W]);try rfl) ?_|refine a_dcallA (hwd _ _) (by(try simp only[Ty.w,simprocAttr,W]);try rfl) (by simp only[Ty.w,simprocAttr,W];try trivial) ?_);simp(maxSteps:=2000000) only[Ty.w,simprocAttr,W,Option.getD_some]
        skip
        (first|refine a_dcall0 (hl2 _) (by(try simp only[Ty.w,simprocAttr,W]);try rfl) ?_|refine a_dcallA (hl2 _) (by(try simp only[Ty.w,simprocAttr,W]);try rfl) (by simp only[Ty.w,simprocAttr,W];try trivial) ?_);simp(maxSteps:=2000000) only[Ty.w,simprocAttr,W,Option.getD_some]
        repeat'(first|(with_reducible refine a_past2 (by simp only[List.forall_mem_cons,Ty.w,simprocAttr,s1,s2,s4,s6,o2,o2H,n1,t1,t2,t3,hL1r,hb,hpc,hp1]<;>(repeat' apply And.intro)<;>first|trivial|exact .inl (by decide+kernel)) ?_;try simp(maxSteps:=2000000) only[Ty.w,simprocAttr,W,o2H,n1,t1,t2,t3,hL1r,hb,hpc,hp1])|(rw[if_pos];rotate_left 1;omega;simp(maxSteps:=2000000) only[Ty.w,simprocAttr,W,o2H,n1,t1,t2,t3,hL1r,hb,hpc,hp1]))
        rw[← hap]
        exact hpush
      |false=>
       rw[show bEq gop opAnd=false from k1,Bool.false_and,if_neg (by simp)]
       have W:=And.intro s1 (And.intro s2 (And.intro s4 (And.intro s6 o2)))
       repeat'(first|refine a_seq fun K hK=>?_|((first|refine a_regionS ?_|refine a_drawS (by decide+kernel) ?_);simp(maxSteps:=2000000) only[Ty.w,simprocAttr,W,k1,hlK,Bool.not_true,Bool.not_false])|(refine a_cond _ (by(try simp(maxSteps:=2000000) only[Ty.w,simprocAttr,W,k1,hlK,Bool.not_true,Bool.not_false]);rfl) (fun hb=>?_) (fun hb=>?_)<;>(try simp only[hb0,decide_eq_true_eq,decide_eq_false_iff_not,simprocAttr]at hb)<;>(try(exfalso;omega)))|(refine hK _ _ ?_;clear hK;try simp only[pst0,simprocAttr]))
       (first|refine a_dcall0 (hwd _ _) (by(try simp only[Ty.w,simprocAttr,W]);try rfl) ?_|refine a_dcallA (hwd _ _) (by(try simp only[Ty.w,simprocAttr,W]);try rfl) (by simp only[Ty.w,simprocAttr,W];try trivial) ?_);simp(maxSteps:=2000000) only[Ty.w,simprocAttr,W,Option.getD_some]
       skip
       (first|refine a_dcall0 (hl2 _) (by(try simp only[Ty.w,simprocAttr,W]);try rfl) ?_|refine a_dcallA (hl2 _) (by(try simp only[Ty.w,simprocAttr,W]);try rfl) (by simp only[Ty.w,simprocAttr,W];try trivial) ?_);simp(maxSteps:=2000000) only[Ty.w,simprocAttr,W,Option.getD_some]
       repeat'(first|(with_reducible refine a_past2 (by simp only[List.forall_mem_cons,Ty.w,simprocAttr,s1,s2,s4,s6,o2,o2H,n1,t1,t2,t3,hL1r,hb,hpc,hp1]<;>(repeat' apply And.intro)<;>first|trivial|exact .inl (by decide+kernel)) ?_;try simp(maxSteps:=2000000) only[Ty.w,simprocAttr,W,o2H,n1,t1,t2,t3,hL1r,hb,hpc,hp1])|(rw[if_pos];rotate_left 1;omega;simp(maxSteps:=2000000) only[Ty.w,simprocAttr,W,o2H,n1,t1,t2,t3,hL1r,hb,hpc,hp1]))
       rw[← hap]
       exact hpush
     ·clear s1 s2 s4 s6 hI
      rintro S H ⟨s2,s6,hI⟩
      have hPW:PW=listM (L2++goalW (.mk gop gname gargs gparams gexprs gkids)):=by
       rw[hpw, ← hL2, ← hL1]
       simp[List.append_assoc]
      generalize L2++goalW (.mk gop gname gargs gparams gexprs gkids)=L3 at hI hPW
      have hVal:=fun h:Heap=>svalid_c hPWo h
      rw[hF]at hVal
      obtain⟨hg,ids,o1,p,Hk,o2,tl,t1,t2,t3,t4,hgH,hpc,hp1⟩:=hI
      refine a_drop (h.next+17) [(6,.cptr PW.cells)] rfl (by omega) ?_ ?_
      ·intro x hx
       simp only[List.mem_cons,List.not_mem_nil,or_false]at hx
       subst hx
       rw[hPW]
       simp only[s6,listM,Sx.cells,FrzTo]
       exact .inr ⟨h.next+17,0,0,6,_,_,rfl,Nat.le_refl _,o2,rfl,by simp only[sxP,List.cons_append,List.nil_append,List.drop_zero,FrzL];exact⟨by simp only[FrzTo],by simp only[FrzTo],by simp only[FrzTo],by simp only[FrzTo],by simp only[FrzTo],tl.frzR (Nat.le_succ _) (sxs_frz _ _ _),trivial⟩⟩
      refine a_gen (fun S H=>S 2= .ptr h.next 0 0∧S 6= .cptr PW.cells∧Grow h H∧H.obj h.next=some (.arr 6 [sxZ])) ⟨by simp only[frzS,Ty.w,simprocAttr,s2],by simp only[frzS,Ty.w,simprocAttr],⟨hg.le,fun j hj=>by simp only[below];rw[if_pos (by omega)];exact hg.old j hj⟩,by simp only[below];rw[if_pos (by omega)];exact o1⟩ ?_
      clear hg ids o1 o2 tl t1 t2 t3 t4 hgH hpc hp1 s2 s6 hPW
      rintro S H ⟨s2,s6,hg,o1⟩
      have hfz:=fun n hh=>sx_frz n hh PW
      generalize PW=X at hVal s6 hfz bad⊢
      obtain⟨ki2,va2,li2,co2,te2,ks2⟩:=X
      simp only[Sx.cells]at hVal s6 hfz
      cases F with
      |false=>
       repeat'(first|refine a_seq fun K hK=>?_|(refine a_regionS ?_;simp(maxSteps:=2000000) only[Ty.w,simprocAttr,s2,s6]))
       refine owp_useQ (hVal _) (by(try simp only[Ty.w,simprocAttr,s2,s6]);try rfl) ?_;simp(maxSteps:=2000000) only[Ty.w,simprocAttr,s2,s6]
       repeat'(first|refine a_seq fun K hK=>?_|((first|refine a_regionS ?_|refine a_ret ?_);simp(maxSteps:=2000000) only[Ty.w,simprocAttr,s2,s6,o1,Bool.not_false])|(refine hK _ _ ?_;clear hK;try simp only[pst0,simprocAttr]))
       exact⟨bad _ rfl,hg.set (Nat.le_refl _) _⟩
      |true=>
       repeat'(first|refine a_seq fun K hK=>?_|(refine a_regionS ?_;simp(maxSteps:=2000000) only[Ty.w,simprocAttr,s2,s6]))
       refine owp_useQ (hVal _) (by(try simp only[Ty.w,simprocAttr,s2,s6]);try rfl) ?_;simp(maxSteps:=2000000) only[Ty.w,simprocAttr,s2,s6]
       repeat'(first|refine a_seq fun K hK=>?_|((first|refine a_regionS ?_|refine a_ret ?_);simp(maxSteps:=2000000) only[Ty.w,simprocAttr,s2,s6,o1,Bool.not_true])|(refine a_skip ?_;try simp only[pst0,simprocAttr])|(refine a_cond _ (by(try simp(maxSteps:=2000000) only[Ty.w,simprocAttr,s2,s6,o1,Bool.not_true]);rfl) (fun hb=>?_) (fun hb=>?_)<;>(try simp only[hb0,decide_eq_true_eq,decide_eq_false_iff_not,simprocAttr]at hb)<;>(try(exfalso;omega)))|(refine hK _ _ ?_;clear hK;try simp only[pst0,simprocAttr]))
       refine⟨?_,hg.set (Nat.le_refl _) _⟩
       simp only[if_true,Sx.cells,FrzTo]
       exact⟨_,rfl,by simp only[FrzL,FrzTo,and_true,true_and];exact⟨_,rfl,hfz _ _⟩⟩
end Go.Proofs.YtjeolbgpllbemaaGreat
namespace Go.Proofs.YtjeolbgpllbemaaGreat
open Go.AM
set_option maxHeartbeats 2000000
set_option maxRecDepth 20000
theorem rterm_c{h:Heap}{s:ByteArray}(hs:s.size≤bigN):PCall Tryz.prog 108 [sPV s] h fun r h'=>r= .sc (.bool (termB s))∧h'=h:=by
 have hs':s.size≤9223372036854775807:=by unfold bigN at hs;omega
 cases c1:nameB s with
 |true=>
  have:termB s=true:=by simp[termB,c1]
  refine pcall_body (ow:=fun _=>false) (wf:=fun _=>false) Ty.mixed Tryz.func108 rfl Ty.hb_108 (by rw[Tryz.ntmps108];simp) ?_
  rw[Tryz.ntmps108,Tryz.results108]
  repeat'(first|refine a_seq fun K hK=>?_|(refine a_regionS ?_;simp(maxSteps:=2000000) only[Ty.w,simprocAttr])|(refine hK _ _ ?_;clear hK;try simp only[pst0,simprocAttr]))
  refine owp_useQ (rname_c (s:=s) hs') (by(try simp only[Ty.w,simprocAttr,c1]);try rfl) ?_;simp(maxSteps:=2000000) only[Ty.w,simprocAttr,c1]
  repeat'(first|(refine a_ret ?_;simp(maxSteps:=2000000) only[Ty.w,simprocAttr,c1])|(refine hK _ _ ?_;clear hK;try simp only[pst0,simprocAttr]))
  rw[this]
 |false=>
  have:termB s=varB s:=by simp[termB,c1]
  refine pcall_body (ow:=fun _=>false) (wf:=fun _=>false) Ty.mixed Tryz.func108 rfl Ty.hb_108 (by rw[Tryz.ntmps108];simp) ?_
  rw[Tryz.ntmps108,Tryz.results108]
  repeat'(first|refine a_seq fun K hK=>?_|(refine a_regionS ?_;simp(maxSteps:=2000000) only[Ty.w,simprocAttr])|(refine hK _ _ ?_;clear hK;try simp only[pst0,simprocAttr]))
  refine owp_useQ (rname_c (s:=s) hs') (by(try simp only[Ty.w,simprocAttr,c1]);try rfl) ?_;simp(maxSteps:=2000000) only[Ty.w,simprocAttr,c1]
  skip
  refine owp_useQ (rvariable_c (s:=s) hs') (by(try simp only[Ty.w,simprocAttr,c1]);try rfl) ?_;simp(maxSteps:=2000000) only[Ty.w,simprocAttr,c1]
  repeat'(first|(refine a_ret ?_;simp(maxSteps:=2000000) only[Ty.w,simprocAttr,c1])|(refine hK _ _ ?_;clear hK;try simp only[pst0,simprocAttr]))
  rw[this]
theorem rall_c{h:Heap}{l:List ByteArray}(hl:l.length≤bigN)(hs: ∀ s∈l,s.size≤bigN):PCall Tryz.prog 68 [.imm 1 (strRows l)] h fun r h'=>r= .sc (.bool (l.all termB))∧h'=h:=by
 unfold bigN at hl
 have hlen:=strRows_len l
 refine pcall_body (ow:=fun _=>false) (wf:=fun _=>false) Ty.mixed Tryz.func68 rfl Ty.hb_68 (by rw[Tryz.ntmps68];simp) ?_
 rw[Tryz.ntmps68,Tryz.results68]
 repeat'(first|refine a_seq fun K hK=>?_|(refine a_block ?_)|(refine a_regionS ?_;simp(maxSteps:=2000000) only[Ty.w,simprocAttr,hlen])|(refine hK _ _ ?_;clear hK;try simp only[pst0,simprocAttr]))
 refine a_loop (fun m S h'=>h'=h∧S 0= .imm 1 (strRows l)∧ ∃ k:Nat,S 3= .sc (.int .i64 k)∧k≤l.length∧m=l.length-k∧l.all termB=(l.drop k).all termB) l.length ?_ ?_
 ·simp only[Ty.w,simprocAttr]
  exact⟨0,rfl,by omega,rfl,by simp⟩
 ·rintro m S h' ⟨rfl,g0,k,g3,hk,rfl,hinv⟩
  by_cases hlt:k<l.length
  ·have hd:decide ((k:Int)<(l.length:Int))=true:=by simp;omega
   have w7:IntKind.i64.wrap ((k:Int)+1)=k+1:=by rw[wrap64 (by omega) (by omega)]
   obtain⟨w,hx⟩: ∃ w,l[k]? =some w:=⟨l[k],List.getElem?_eq_getElem hlt⟩
   have hr:=strRows_get hx
   have hc:=fun h:Heap=>rterm_c (h:=h) (hs w (List.mem_of_getElem? hx))
   rw[drop_of_get hx,List.all_cons]at hinv
   generalize termB w=b at hc hinv
   cases b with
   |false=>
    rw[Bool.false_and]at hinv
    repeat'(first|refine a_seq fun K hK=>?_|(refine a_regionS ?_;simp(maxSteps:=2000000) only[Ty.w,simprocAttr,g0,g3,hd,hr])|(refine a_skip ?_;try simp only[pst0,simprocAttr])|(refine a_cond _ (by(try simp(maxSteps:=2000000) only[Ty.w,simprocAttr,g0,g3,hd,hr]);rfl) (fun hb=>?_) (fun hb=>?_)<;>(try simp only[hb0,decide_eq_true_eq,decide_eq_false_iff_not,simprocAttr]at hb)<;>(try(exfalso;omega)))|(refine hK _ _ ?_;clear hK;try simp only[pst0,simprocAttr]))
    refine owp_useQ (hc _) (by(try simp only[Ty.w,simprocAttr,g0,g3,hd,hr,Bool.not_false]);try rfl) ?_;simp(maxSteps:=2000000) only[Ty.w,simprocAttr,g0,g3,hd,hr,Bool.not_false]
    repeat'(first|refine a_seq fun K hK=>?_|((first|refine a_regionS ?_|refine a_ret ?_);simp(maxSteps:=2000000) only[Ty.w,simprocAttr,g0,g3,Bool.not_false])|(refine hK _ _ ?_;clear hK;try simp only[pst0,simprocAttr]))
    rw[hinv]
   |true=>
    rw[Bool.true_and]at hinv
    repeat'(first|refine a_seq fun K hK=>?_|(refine a_regionS ?_;simp(maxSteps:=2000000) only[Ty.w,simprocAttr,g0,g3,hd,hr])|(refine a_skip ?_;try simp only[pst0,simprocAttr])|(refine a_cond _ (by(try simp(maxSteps:=2000000) only[Ty.w,simprocAttr,g0,g3,hd,hr]);rfl) (fun hb=>?_) (fun hb=>?_)<;>(try simp only[hb0,decide_eq_true_eq,decide_eq_false_iff_not,simprocAttr]at hb)<;>(try(exfalso;omega)))|(refine hK _ _ ?_;clear hK;try simp only[pst0,simprocAttr]))
    refine owp_useQ (hc _) (by(try simp only[Ty.w,simprocAttr,g0,g3,hd,hr,Bool.not_true]);try rfl) ?_;simp(maxSteps:=2000000) only[Ty.w,simprocAttr,g0,g3,hd,hr,Bool.not_true]
    repeat'(first|(refine a_block ?_)|(refine a_regionS ?_;simp(maxSteps:=2000000) only[Ty.w,simprocAttr,g0,g3,w7,Bool.not_true])|(refine a_skip ?_;try simp only[pst0,simprocAttr])|(refine hK _ _ ?_;clear hK;try simp only[pst0,simprocAttr]))
    exact⟨l.length-(k+1),by omega,k+1,by simp,by omega,rfl,hinv⟩
  ·have hd:decide ((k:Int)<(l.length:Int))=false:=by simp;omega
   rw[List.drop_eq_nil_of_le (by omega)]at hinv
   repeat'(first|refine a_seq fun K hK=>?_|((first|refine a_regionS ?_|refine a_ret ?_);simp(maxSteps:=2000000) only[Ty.w,simprocAttr,g0,g3,hlen,hd])|(refine a_exit ?_;try simp only[pst0,simprocAttr])|(refine a_cond _ (by(try simp(maxSteps:=2000000) only[Ty.w,simprocAttr,g0,g3,hlen,hd]);rfl) (fun hb=>?_) (fun hb=>?_)<;>(try simp only[hb0,decide_eq_true_eq,decide_eq_false_iff_not,simprocAttr]at hb)<;>(try(exfalso;omega)))|((first|refine hK _ _ ?_|(clear hK;refine hK _ _ ?_));clear hK;try simp only[pst0,simprocAttr]))
   rw[hinv];try rfl
theorem rwd_c{h:Heap}{s:ByteArray}:PCall Tryz.prog 109 [sPV s] h fun r h'=>r= .agg (wordM s).cells∧h'=h:=by
 refine PCall.frz Ty.hb_109 ?_
 refine pcall_body (ow:=fun _=>false) (wf:=fun _=>false) Ty.mixed Tryz.func109 rfl Ty.hb_109 (by rw[Tryz.ntmps109];simp) ?_
 rw[Tryz.ntmps109,Tryz.results109]
 repeat'(first|refine a_seq fun K hK=>?_|((first|refine a_regionS ?_|refine a_ret ?_);simp(maxSteps:=2000000) only[Ty.w,simprocAttr])|(refine hK _ _ ?_;clear hK;try simp only[pst0,simprocAttr]))
 refine⟨?_,((Grow.refl h).new _).set (Nat.le_refl _) _⟩
 simp only[wordM,Sx.cells,Sx.rows,FrzTo,FrzL]
 exact⟨_,rfl,rfl,rfl,rfl,rfl,rfl,.inr (.inl ⟨rfl,.inr rfl⟩),trivial⟩
theorem rlist_c{h:Heap}{first:ByteArray}{l:List ByteArray}(hl:l.length≤1048576):PCall Tryz.prog 110 [sPV first,.imm 1 (strRows l)] h fun r h'=>r= .agg (wordsM first l).cells∧h'=h:=by
 refine PCall.frz Ty.hb_110 ?_
 have hll:=strRows_len l
 have hw: ∀ (s:ByteArray)(h:Heap),PCall Tryz.prog 109 [sPV s] h fun r h'=>r= .agg (wordM s).cells∧h'=h:=fun s h=>rwd_c
 simp only[wordM,Sx.cells,Sx.rows]at hw
 refine pcall_body (ow:=fun t=>t==9) (wf:=fun _=>false) Ty.mixed Tryz.func110 rfl Ty.hb_110 (by rw[Tryz.ntmps110];simp) ?_
 rw[Tryz.ntmps110,Tryz.results110]
 repeat'(first|refine a_seq fun K hK=>?_|(refine a_regionS ?_;simp(maxSteps:=2000000) only[Ty.w,simprocAttr])|(refine hK _ _ ?_;clear hK;try simp only[pst0,simprocAttr]))
 refine owp_useQ (hw first _) (by(try simp only[Ty.w,simprocAttr,]);try rfl) ?_;simp(maxSteps:=2000000) only[Ty.w,simprocAttr,]
 repeat'(first|refine a_seq fun K hK=>?_|(refine a_block ?_)|(refine a_regionS ?_;simp(maxSteps:=2000000) only[Ty.w,simprocAttr,hll])|(refine hK _ _ ?_;clear hK;try simp only[pst0,simprocAttr]))
 refine a_loop (fun m S h'=>S 1= .imm 1 (strRows l)∧S 4= .ptr h.next 0 0∧ ∃ k id:Nat,S 6= .sc (.int .i64 k)∧S 5= .own id 0 (k+1)∧k≤l.length∧m=l.length-k∧Grow h h'∧h.next<id∧id<h'.next∧
  h'.obj h.next=some (.arr 6 [[.sc (.int .i64 0),.sc (.int .i64 0),.sc (.int .i64 0),.sc (.int .i64 0),.sc (.string ⟨#[]⟩),.sc (.slice none 0 0)]])∧h'.obj id=some (.arr 6 (Sx.rows ((first::l.take k).map wordM)))) l.length ?_ ?_
 ·simp only[Ty.w,simprocAttr]
  have e1:¬ h.next=h.next+1:=by omega
  refine⟨0,h.next+1,rfl,rfl,by omega,rfl,((Grow.refl h).new _).new _,by omega,by simp[Heap.new],?_,?_⟩
  ·simp [Heap.new]
  ·simp [Heap.new,wordM,Sx.rows,Sx.cells]
 ·rintro m S h' ⟨g1,g4,k,id,g6,g5,hk,rfl,hg,hlo,hhi,o1,o3⟩
  by_cases hlt:k<l.length
  ·have hd:decide ((k:Int)<(l.length:Int))=true:=by simp;omega
   have w7:IntKind.i64.wrap ((k:Int)+1)=k+1:=by rw[wrap64 (by omega) (by omega)]
   obtain⟨s,hx⟩: ∃ s,l[k]? =some s:=⟨_,List.getElem?_eq_getElem hlt⟩
   have hr:=strRows_get hx
   have hrl:(Sx.rows ((first::l.take k).map wordM)).length=k+1:=by rw[Sx.rows_len];simp;omega
   generalize hR:Sx.rows ((first::l.take k).map wordM)=R at o3 hrl
   have htk:List.take (k+1) R=R:=List.take_of_length_le (by omega)
   have hb:(k+1+1)*72≤140737488355328:=by omega
   have W:=And.intro g1 (And.intro g4 (And.intro g5 (And.intro g6 (And.intro hll (And.intro hd (And.intro hr (And.intro w7 (And.intro o3 (And.intro hrl (And.intro htk hb))))))))))
   repeat'(first|refine a_seq fun K hK=>?_|(refine a_block ?_)|((first|refine a_regionS ?_|refine a_region (fun K hK=>?_));simp(maxSteps:=2000000) only[Ty.w,simprocAttr,W])|(refine a_skip ?_;try simp only[pst0,simprocAttr])|(refine a_cond _ (by(try simp(maxSteps:=2000000) only[Ty.w,simprocAttr,W]);rfl) (fun hb=>?_) (fun hb=>?_)<;>(try simp only[hb0,decide_eq_true_eq,decide_eq_false_iff_not,simprocAttr]at hb)<;>(try(exfalso;omega)))|(refine hK _ _ ?_;clear hK;try simp only[pst0,simprocAttr]))
   refine owp_useQ (hw s _) (by(try simp only[Ty.w,simprocAttr,W]);try rfl) ?_;simp(maxSteps:=2000000) only[Ty.w,simprocAttr,W]
   repeat'(first|(refine a_regionS ?_;simp(maxSteps:=2000000) only[Ty.w,simprocAttr,W])|(refine hK _ _ ?_;clear hK;try simp only[pst0,simprocAttr])|(rw[if_pos];rotate_left 1;omega;simp(maxSteps:=2000000) only[Ty.w,simprocAttr,W]))
   refine⟨l.length-(k+1),by omega,k+1,h'.next,by simp,rfl,by omega,rfl,(hg.kill (by omega)).new _,by omega,by simp[Heap.new,Heap.kill],?_,?_⟩
   ·have a2:¬ h.next=h'.next:=by omega
    have a3:¬ h.next=id:=by omega
    simp only[Heap.new,Heap.kill,a2,a3,if_false]
    exact o1
   ·simp only[Heap.new,Heap.kill,if_true]
    rw[List.take_add_one,hx, ← hR]
    simp only[Sx.rows_map,List.map_cons,List.map_append,List.map_nil,Option.toList_some,List.cons_append,wordM,Sx.cells]
  ·have hd:decide ((k:Int)<(l.length:Int))=false:=by simp;omega
   have hke:k=l.length:=by omega
   subst hke
   rw[List.take_length]at o3
   repeat'(first|refine a_seq fun K hK=>?_|((first|refine a_regionS ?_|refine a_ret ?_);simp(maxSteps:=2000000) only[Ty.w,simprocAttr,g1,g4,g5,g6,hll,hd,o1,o3])|(refine a_exit ?_;try simp only[pst0,simprocAttr])|(refine a_cond _ (by(try simp(maxSteps:=2000000) only[Ty.w,simprocAttr,g1,g4,g5,g6,hll,hd,o1,o3]);rfl) (fun hb=>?_) (fun hb=>?_)<;>(try simp only[hb0,decide_eq_true_eq,decide_eq_false_iff_not,simprocAttr]at hb)<;>(try(exfalso;omega)))|((first|refine hK _ _ ?_|(clear hK;refine hK _ _ ?_));clear hK;try simp only[pst0,simprocAttr]))
   refine⟨?_,hg.set (Nat.le_refl _) _⟩
   simp only[wordsM,listM,Sx.cells,FrzTo,FrzL]
   refine⟨_,rfl,rfl,rfl,rfl,rfl,rfl,.inr (.inr ⟨id,0,l.length+1,Sx.rows ((first::l).map wordM),rfl,by omega,?_,?_,?_⟩),trivial⟩
   ·simp only[Heap.set];rw[if_neg (by omega)];exact o3
   ·rw [Sx.rows_len];simp
   ·rw [List.drop_zero,List.take_of_length_le (by rw[Sx.rows_len];simp)]
    exact sxs_frz _ _ _
theorem rwriteE_c: ∀ e:Ex,e.small→shapedE e=true→ ∀ h:Heap,PCall Tryz.prog 111 [.agg e.cells] h fun r h'=>r= .agg (exW e).cells∧h'=h:=by
 refine Ex.ind ?_
 intro op name n args kids ih hsm hsh h
 simp only[Ex.small]at hsm
 obtain⟨hal,hks⟩:=hsm
 rw[Ex.smalls_iff]at hks
 unfold shapedE at hsh
 unfold exW
 refine PCall.frz Ty.hb_111 ?_
 cases c1:bEq op opNum with
 |true=>
  have c1':(op.data.toList==(#[110,117,109,98,101,114]:Array UInt8).toList)=true:=c1
  simp only[if_true,Ex.cells]
  refine pcall_body (ow:=fun _=>false) (wf:=fun _=>false) Ty.mixed Tryz.func111 rfl Ty.hb_111 (by rw[Tryz.ntmps111];simp) ?_
  rw[Tryz.ntmps111,Tryz.results111]
  repeat'(first|refine a_seq fun K hK=>?_|((first|refine a_regionS ?_|refine a_ret ?_);simp(maxSteps:=2000000) only[Ty.w,simprocAttr,c1'])|(refine hK _ _ ?_;clear hK;try simp only[pst0,simprocAttr]))
  refine⟨?_,((Grow.refl h).new _).set (Nat.le_refl _) _⟩
  simp only[Sx.cells,Sx.rows,FrzTo,FrzL]
  exact⟨_,rfl,rfl,rfl,rfl,rfl,rfl,.inr (.inl ⟨rfl,.inr rfl⟩),trivial⟩
 |false=>
  have c1':(op.data.toList==(#[110,117,109,98,101,114]:Array UInt8).toList)=false:=c1
  rw[c1]at hsh
  simp only[Bool.false_eq_true,if_false]at hsh⊢
  cases c2:bEq op opFlu with
  |true=>
   have c2':(op.data.toList==(#[102,108,117,101,110,116]:Array UInt8).toList)=true:=c2
   have hw:=fun h:Heap=>rlist_c (h:=h) (first:=name) hal
   have hfz:=fun(n:Nat)(h:Heap)=>sx_frz n h (wordsM name args)
   simp only[if_true,Ex.cells]
   generalize wordsM name args=X at hw hfz
   obtain⟨ki,va,li,co,te,ks⟩:=X
   simp only[Sx.cells]at hw hfz⊢
   refine pcall_body (ow:=fun _=>false) (wf:=fun _=>false) Ty.mixed Tryz.func111 rfl Ty.hb_111 (by rw[Tryz.ntmps111];simp) ?_
   rw[Tryz.ntmps111,Tryz.results111]
   repeat'(first|refine a_seq fun K hK=>?_|(refine a_regionS ?_;simp(maxSteps:=2000000) only[Ty.w,simprocAttr,c1',c2'])|(refine hK _ _ ?_;clear hK;try simp only[pst0,simprocAttr]))
   refine owp_useQ (hw _) (by(try simp only[Ty.w,simprocAttr,c1',c2']);try rfl) ?_;simp(maxSteps:=2000000) only[Ty.w,simprocAttr,c1',c2']
   repeat'(first|(refine a_ret ?_;simp(maxSteps:=2000000) only[Ty.w,simprocAttr])|(refine hK _ _ ?_;clear hK;try simp only[pst0,simprocAttr]))
   refine⟨?_,((Grow.refl h).new _).set (Nat.le_refl _) _⟩
   simp only[FrzTo]
   exact⟨_,rfl,hfz _ _⟩
  |false=>
   have c2':(op.data.toList==(#[102,108,117,101,110,116]:Array UInt8).toList)=false:=c2
   rw[c2]at hsh
   simp only[Bool.false_eq_true,if_false]at hsh⊢
   split at hsh
   case isFalse=>simp at hsh
   simp only[Bool.and_eq_true]at hsh
   obtain⟨⟨⟨_,_⟩,_⟩,hsh⟩:=hsh
   split at hsh
   case h_2=>simp at hsh
   rename_i a b
   simp only[Bool.and_eq_true]at hsh
   have ca:=ih a (by simp) (hks a (by simp)) hsh.1
   have cb:=ih b (by simp) (hks b (by simp)) hsh.2
   have hw:=fun h:Heap=>rwd_c (h:=h) (s:=op)
   have hfz:=fun(n:Nat)(h:Heap)=>sx_frz n h (listM [wordM op,exW a,exW b])
   generalize exW a=xa at ca hfz⊢
   generalize exW b=xb at cb hfz⊢
   clear ih hks hsh
   obtain⟨aop,aname,an,aargs,akids⟩:=a
   obtain⟨bop,bname,bn,bargs,bkids⟩:=b
   obtain⟨ki,va,li,co,te,ks⟩:=xa
   obtain⟨ki2,va2,li2,co2,te2,ks2⟩:=xb
   simp only[Ex.cells,Ex.rows,listM,Sx.cells,Sx.rows,wordM]at ca cb hw hfz⊢
   refine pcall_body (ow:=fun _=>false) (wf:=fun _=>false) Ty.mixed Tryz.func111 rfl Ty.hb_111 (by rw[Tryz.ntmps111];simp) ?_
   rw[Tryz.ntmps111,Tryz.results111]
   repeat'(first|refine a_seq fun K hK=>?_|(refine a_block ?_)|((first|refine a_regionS ?_|refine a_drawS (by decide+kernel) ?_);simp(maxSteps:=2000000) only[Ty.w,simprocAttr,c1',c2'])|(refine a_skip ?_;try simp only[pst0,simprocAttr])|(refine hK _ _ ?_;clear hK;try simp only[pst0,simprocAttr]))
   (first|refine a_dcall0 (hw _) (by(try simp only[Ty.w,simprocAttr,]);try rfl) ?_|refine a_dcallA (hw _) (by(try simp only[Ty.w,simprocAttr,]);try rfl) (by simp only[Ty.w,simprocAttr,];try trivial) ?_);simp(maxSteps:=2000000) only[Ty.w,simprocAttr,Option.getD_some,]
   skip
   (first|refine a_dcall0 (ca _) (by(try simp only[Ty.w,simprocAttr,]);try rfl) ?_|refine a_dcallA (ca _) (by(try simp only[Ty.w,simprocAttr,]);try rfl) (by simp only[Ty.w,simprocAttr,];try trivial) ?_);simp(maxSteps:=2000000) only[Ty.w,simprocAttr,Option.getD_some,]
   skip
   (first|refine a_dcall0 (cb _) (by(try simp only[Ty.w,simprocAttr,]);try rfl) ?_|refine a_dcallA (cb _) (by(try simp only[Ty.w,simprocAttr,]);try rfl) (by simp only[Ty.w,simprocAttr,];try trivial) ?_);simp(maxSteps:=2000000) only[Ty.w,simprocAttr,Option.getD_some,]
   repeat'(first|(refine a_ret ?_;simp(maxSteps:=2000000) only[Ty.w,simprocAttr])|(refine hK _ _ ?_;clear hK;try simp only[pst0,simprocAttr])|(with_reducible refine a_past2 (by simp only[List.forall_mem_cons,Ty.w,simprocAttr]<;>(repeat' apply And.intro)<;>first|trivial|exact .inl (by decide+kernel)) ?_;try simp(maxSteps:=2000000) only[Ty.w,simprocAttr]))
   refine⟨?_,((Grow.refl h).new _).set (Nat.le_refl _) _⟩
   simp only[FrzTo]
   exact⟨_,rfl,hfz _ _⟩
end Go.Proofs.YtjeolbgpllbemaaGreat
namespace Go.Proofs.YtjeolbgpllbemaaGreat
open Go.AM
set_option maxHeartbeats 8000000
set_option maxRecDepth 20000
def opB(op name:ByteArray)(v:Int)(args:List ByteArray)(kids:List Ex):Bool:=
 if(op.data.toList==(#[110,117,109,98,101,114]:Array UInt8).toList)then decide (v≥ -1099511627776)&&(decide (v≤1099511627776)&&((name.data.toList==(#[]:Array UInt8).toList)&&(((args.length:Int)==0)&&((kids.length:Int)==0))))
 else if(op.data.toList==(#[102,108,117,101,110,116]:Array UInt8).toList)then(v==0)&&(nameB name&&(args.all termB&&((kids.length:Int)==0)))
 else if((op.data.toList==(#[43]:Array UInt8).toList)||((op.data.toList==(#[45]:Array UInt8).toList)||(op.data.toList==(#[42]:Array UInt8).toList)))then(v==0)&&((name.data.toList==(#[]:Array UInt8).toList)&&(((args.length:Int)==0)&&((kids.length:Int)==2)))
 else false
theorem shapedE_kid{op name:ByteArray}{v:Int}{args:List ByteArray}{kids:List Ex}(h:shapedE (.mk op name v args kids)=true): ∀ k∈kids,shapedE k=true:=by
 unfold shapedE at h
 intro k hk
 split at h
 ·simp only[Bool.and_eq_true,List.isEmpty_iff]at h
  rw[h.1.2]at hk;simp at hk
 ·split at h
  ·simp only[Bool.and_eq_true,List.isEmpty_iff]at h
   rw[h.1.1.2]at hk;simp at hk
  ·split at h
   ·simp only[Bool.and_eq_true]at h
    obtain⟨_,h⟩:=h
    split at h
    ·simp only[Bool.and_eq_true]at h
     simp only[List.mem_cons,List.not_mem_nil,or_false]at hk
     rcases hk with rfl|rfl
     ·exact h.1
     ·exact h.2
    ·simp at h
   ·simp at h
theorem shapedE_op{op name:ByteArray}{v:Int}{args:List ByteArray}{kids:List Ex}(h: ∀ k∈kids,shapedE k=true):shapedE (.mk op name v args kids)=opB op name v args kids:=by
 have n1:bEq op opNum=(op.data.toList==(#[110,117,109,98,101,114]:Array UInt8).toList):=rfl
 have n2:bEq op opFlu=(op.data.toList==(#[102,108,117,101,110,116]:Array UInt8).toList):=rfl
 have n3:bEq op opPls=(op.data.toList==(#[43]:Array UInt8).toList):=rfl
 have n4:bEq op opMin=(op.data.toList==(#[45]:Array UInt8).toList):=rfl
 have n5:bEq op opTim=(op.data.toList==(#[42]:Array UInt8).toList):=rfl
 have n6:emptyB name=(name.data.toList==(#[]:Array UInt8).toList):=rfl
 have n7:decide (v=0)=(v==0):=by by_cases h0:v=0<;>simp[h0]
 have n8:inNum v=(decide (v≥ -1099511627776)&&decide (v≤1099511627776)):=rfl
 unfold shapedE opB
 rw[n1,n2,n3,n4,n5,n6,n7,n8, ← emp_len args, ← emp_len kids]
 split
 ·generalize decide (v≥ -1099511627776)=a
  generalize decide (v≤1099511627776)=b
  generalize(name.data.toList==(#[]:Array UInt8).toList)=c
  generalize((args.length:Int)==0)=d
  generalize((kids.length:Int)==0)=e
  cases a<;>cases b<;>cases c<;>cases d<;>cases e<;>rfl
 ·split
  ·generalize (v==0)=a
   generalize nameB name=b
   generalize args.all termB=c
   generalize((kids.length:Int)==0)=e
   cases a<;>cases b<;>cases c<;>cases e<;>rfl
  ·rw [Bool.or_assoc]
   split
   ·rw [Bool.and_assoc,Bool.and_assoc]
    congr 1
    congr 1
    congr 1
    match kids,h with
    |[],_=>rfl
    |[_],_=>rfl
    |[a,b],h=>simp only[h a (by simp),h b (by simp)];rfl
    |_::_::_::l,_=>simp;omega
   ·rfl
theorem rshapedE_c: ∀ e:Ex,e.ok→ ∀ h:Heap,PCall Tryz.prog 67 [.agg e.cells] h fun r h'=>r= .sc (.bool (shapedE e))∧h'=h:=by
 refine Ex.ind ?_
 intro op name v args kids ih hok h
 simp only[Ex.ok]at hok
 obtain⟨_,hnm,_,⟨hal,hargs⟩,hkl,hks⟩:=hok
 rw[Ex.oks_iff]at hks
 have hnm':name.size≤9223372036854775807:=by unfold bigN at hnm;omega
 have hlA:=strRows_len args
 have hlK:=Ex.rows_len kids
 have hkid: ∀ k∈kids,shapedE k=false→shapedE (.mk op name v args kids)=false:=fun k hk hf=>by
  cases hh:shapedE (.mk op name v args kids)with
  |false=>rfl
  |true=>rw[shapedE_kid hh k hk]at hf;simp at hf
 have hop:(∀ k∈kids,shapedE k=true)→shapedE (.mk op name v args kids)=opB op name v args kids:=shapedE_op
 generalize shapedE (.mk op name v args kids)=F at hkid hop
 simp only[Ex.cells]
 refine pcall_body (ow:=fun _=>false) (wf:=fun _=>false) Ty.mixed Tryz.func67 rfl Ty.hb_67 (by rw[Tryz.ntmps67];simp) ?_
 rw[Tryz.ntmps67,Tryz.results67]
 repeat'(first|refine a_seq fun K hK=>?_|(refine a_block ?_)|(refine a_regionS ?_;simp(maxSteps:=2000000) only[Ty.w,simprocAttr,hlK])|(refine hK _ _ ?_;clear hK;try simp only[pst0,simprocAttr]))
 refine a_loop (fun m S h'=>h'=h∧S 1= .cptr (Ex.mk op name v args kids).cells∧ ∃ k:Nat,S 3= .sc (.int .i64 k)∧k≤kids.length∧m=kids.length-k∧ ∀ (i:Nat)(e:Ex),i<k→kids[i]? =some e→shapedE e=true) kids.length ?_ ?_
 ·simp only[Ty.w,simprocAttr]
  exact⟨rfl,0,rfl,by omega,rfl,by omega⟩
 ·rintro m S h' ⟨rfl,g1,k,g3,hkk,rfl,hall⟩
  simp only[Ex.cells]at g1
  by_cases hlt:k<kids.length
  ·clear hop
   have hd:decide ((k:Int)<(kids.length:Int))=true:=by simp;omega
   have w7:IntKind.i64.wrap ((k:Int)+1)=k+1:=by unfold bigN at hkl;rw[wrap64 (by omega) (by omega)]
   obtain⟨e,hx⟩: ∃ e,kids[k]? =some e:=⟨_,List.getElem?_eq_getElem hlt⟩
   have hmem:=List.mem_of_getElem? hx
   have hc:=ih e hmem (hks e hmem)
   have hr:=Ex.rows_get hx
   have hbad:=hkid e hmem
   have hgood:shapedE e=true→ ∀ (i:Nat)(e:Ex),i<k+1→kids[i]? =some e→shapedE e=true:=fun h1 i e2 hi hw=>by
    by_cases hik:i=k
    ·subst hik;rw[hx]at hw;simp at hw;rw[← hw];exact h1
    ·exact hall i e2 (by omega) hw
   generalize shapedE e=b at hc hbad hgood
   clear hkid hall
   obtain⟨op2,name2,n2,args2,kids2⟩:=e
   simp only[Ex.cells]at hr hc
   cases b with
   |false=>
    have:=hbad rfl
    subst this
    repeat'(first|refine a_seq fun K hK=>?_|(refine a_regionS ?_;simp(maxSteps:=2000000) only[Ty.w,simprocAttr,g1,g3,hlK,hd,hr,w7])|(refine a_skip ?_;try simp only[pst0,simprocAttr])|(refine a_cond _ (by(try simp(maxSteps:=2000000) only[Ty.w,simprocAttr,g1,g3,hlK,hd,hr,w7]);rfl) (fun hb=>?_) (fun hb=>?_)<;>(try simp only[hb0,decide_eq_true_eq,decide_eq_false_iff_not,simprocAttr]at hb)<;>(try(exfalso;omega)))|(refine hK _ _ ?_;clear hK;try simp only[pst0,simprocAttr]))
    refine owp_useQ (hc _) (by(try simp only[Ty.w,simprocAttr,g1,g3,hlK,hd,hr,Bool.not_false]);try rfl) ?_;simp(maxSteps:=2000000) only[Ty.w,simprocAttr,g1,g3,hlK,hd,hr,Bool.not_false]
    repeat'(first|refine a_seq fun K hK=>?_|((first|refine a_regionS ?_|refine a_ret ?_);simp(maxSteps:=2000000) only[Ty.w,simprocAttr,g1,g3,w7,Bool.not_false])|(refine hK _ _ ?_;clear hK;try simp only[pst0,simprocAttr]))
   |true=>
    repeat'(first|refine a_seq fun K hK=>?_|(refine a_regionS ?_;simp(maxSteps:=2000000) only[Ty.w,simprocAttr,g1,g3,hlK,hd,hr,w7])|(refine a_skip ?_;try simp only[pst0,simprocAttr])|(refine a_cond _ (by(try simp(maxSteps:=2000000) only[Ty.w,simprocAttr,g1,g3,hlK,hd,hr,w7]);rfl) (fun hb=>?_) (fun hb=>?_)<;>(try simp only[hb0,decide_eq_true_eq,decide_eq_false_iff_not,simprocAttr]at hb)<;>(try(exfalso;omega)))|(refine hK _ _ ?_;clear hK;try simp only[pst0,simprocAttr]))
    refine owp_useQ (hc _) (by(try simp only[Ty.w,simprocAttr,g1,g3,hlK,hd,hr,Bool.not_true]);try rfl) ?_;simp(maxSteps:=2000000) only[Ty.w,simprocAttr,g1,g3,hlK,hd,hr,Bool.not_true]
    repeat'(first|(refine a_block ?_)|(refine a_regionS ?_;simp(maxSteps:=2000000) only[Ty.w,simprocAttr,g1,g3,w7,Bool.not_true])|(refine a_skip ?_;try simp only[pst0,simprocAttr])|(refine hK _ _ ?_;clear hK;try simp only[pst0,simprocAttr]))
    exact⟨kids.length-(k+1),by omega,rfl,k+1,by simp,by omega,rfl,hgood rfl⟩
  ·have hd:decide ((k:Int)<(kids.length:Int))=false:=by simp;omega
   have hF:=hop fun e he=>by
    obtain⟨i,hi⟩:=List.getElem?_of_mem he
    exact hall i e (by have:=(List.getElem?_eq_some_iff.1 hi).1;omega) hi
   clear hop hall hkid ih
   have hn:=fun h:Heap=>rname_c (h:=h) (s:=name) hnm'
   have hA:=fun h:Heap=>rall_c (h:=h) hal hargs
   unfold opB at hF
   cases k1:(op.data.toList==(#[110,117,109,98,101,114]:Array UInt8).toList)with
   |true=>
    rw[k1]at hF
    simp only[if_true]at hF
    cases q1:decide (v≥ -1099511627776)with
    |false=>
     rw[q1]at hF
     simp only[Bool.false_and]at hF
     subst hF
     repeat'(first|refine a_seq fun K hK=>?_|((first|refine a_regionS ?_|refine a_ret ?_);simp(maxSteps:=2000000) only[Ty.w,simprocAttr,g1,g3,hd,hlA,hlK,k1,q1])|(refine a_exit ?_;try simp only[pst0,simprocAttr])|(refine a_cond _ (by(try simp(maxSteps:=2000000) only[Ty.w,simprocAttr,g1,g3,hd,hlA,hlK,k1,q1]);rfl) (fun hb=>?_) (fun hb=>?_)<;>(try simp only[hb0,decide_eq_true_eq,decide_eq_false_iff_not,simprocAttr]at hb)<;>(try(exfalso;omega)))|((first|refine hK _ _ ?_|(clear hK;refine hK _ _ ?_));clear hK;try simp only[pst0,simprocAttr]))
    |true=>
     rw[q1,Bool.true_and]at hF
     cases q2:decide (v≤1099511627776)with
     |false=>
      rw[q2]at hF
      simp only[Bool.false_and]at hF
      subst hF
      repeat'(first|refine a_seq fun K hK=>?_|((first|refine a_regionS ?_|refine a_ret ?_);simp(maxSteps:=2000000) only[Ty.w,simprocAttr,g1,g3,hd,hlA,hlK,k1,q1,q2])|(refine a_exit ?_;try simp only[pst0,simprocAttr])|(refine a_cond _ (by(try simp(maxSteps:=2000000) only[Ty.w,simprocAttr,g1,g3,hd,hlA,hlK,k1,q1,q2]);rfl) (fun hb=>?_) (fun hb=>?_)<;>(try simp only[hb0,decide_eq_true_eq,decide_eq_false_iff_not,simprocAttr]at hb)<;>(try(exfalso;omega)))|((first|refine hK _ _ ?_|(clear hK;refine hK _ _ ?_));clear hK;try simp only[pst0,simprocAttr]))
     |true=>
      rw[q2,Bool.true_and]at hF
      cases q3:(name.data.toList==(#[]:Array UInt8).toList)with
      |false=>
       rw[q3]at hF
       simp only[Bool.false_and]at hF
       subst hF
       repeat'(first|refine a_seq fun K hK=>?_|((first|refine a_regionS ?_|refine a_ret ?_);simp(maxSteps:=2000000) only[Ty.w,simprocAttr,g1,g3,hd,hlA,hlK,k1,q1,q2,q3])|(refine a_exit ?_;try simp only[pst0,simprocAttr])|(refine a_cond _ (by(try simp(maxSteps:=2000000) only[Ty.w,simprocAttr,g1,g3,hd,hlA,hlK,k1,q1,q2,q3]);rfl) (fun hb=>?_) (fun hb=>?_)<;>(try simp only[hb0,decide_eq_true_eq,decide_eq_false_iff_not,simprocAttr]at hb)<;>(try(exfalso;omega)))|((first|refine hK _ _ ?_|(clear hK;refine hK _ _ ?_));clear hK;try simp only[pst0,simprocAttr]))
      |true=>
       rw[q3,Bool.true_and]at hF
       cases q4:((args.length:Int)==0)with
       |false=>
        rw[q4]at hF
        simp only[Bool.false_and]at hF
        subst hF
        repeat'(first|refine a_seq fun K hK=>?_|((first|refine a_regionS ?_|refine a_ret ?_);simp(maxSteps:=2000000) only[Ty.w,simprocAttr,g1,g3,hd,hlA,hlK,k1,q1,q2,q3,q4])|(refine a_exit ?_;try simp only[pst0,simprocAttr])|(refine a_cond _ (by(try simp(maxSteps:=2000000) only[Ty.w,simprocAttr,g1,g3,hd,hlA,hlK,k1,q1,q2,q3,q4]);rfl) (fun hb=>?_) (fun hb=>?_)<;>(try simp only[hb0,decide_eq_true_eq,decide_eq_false_iff_not,simprocAttr]at hb)<;>(try(exfalso;omega)))|((first|refine hK _ _ ?_|(clear hK;refine hK _ _ ?_));clear hK;try simp only[pst0,simprocAttr]))
       |true=>
        rw[q4,Bool.true_and]at hF
        subst hF
        repeat'(first|refine a_seq fun K hK=>?_|((first|refine a_regionS ?_|refine a_ret ?_);simp(maxSteps:=2000000) only[Ty.w,simprocAttr,g1,g3,hd,hlA,hlK,k1,q1,q2,q3,q4])|(refine a_exit ?_;try simp only[pst0,simprocAttr])|(refine a_cond _ (by(try simp(maxSteps:=2000000) only[Ty.w,simprocAttr,g1,g3,hd,hlA,hlK,k1,q1,q2,q3,q4]);rfl) (fun hb=>?_) (fun hb=>?_)<;>(try simp only[hb0,decide_eq_true_eq,decide_eq_false_iff_not,simprocAttr]at hb)<;>(try(exfalso;omega)))|((first|refine hK _ _ ?_|(clear hK;refine hK _ _ ?_));clear hK;try simp only[pst0,simprocAttr]))
   |false=>
    rw[k1]at hF
    simp only[Bool.false_eq_true,if_false]at hF
    cases k2:(op.data.toList==(#[102,108,117,101,110,116]:Array UInt8).toList)with
    |true=>
     rw[k2]at hF
     simp only[if_true]at hF
     cases q1:(v==0)with
     |false=>
      rw[q1]at hF
      simp only[Bool.false_and]at hF
      subst hF
      repeat'(first|refine a_seq fun K hK=>?_|((first|refine a_regionS ?_|refine a_ret ?_);simp(maxSteps:=2000000) only[Ty.w,simprocAttr,g1,g3,hd,hlA,hlK,k1,k2,q1])|(refine a_exit ?_;try simp only[pst0,simprocAttr])|(refine a_cond _ (by(try simp(maxSteps:=2000000) only[Ty.w,simprocAttr,g1,g3,hd,hlA,hlK,k1,k2,q1]);rfl) (fun hb=>?_) (fun hb=>?_)<;>(try simp only[hb0,decide_eq_true_eq,decide_eq_false_iff_not,simprocAttr]at hb)<;>(try(exfalso;omega)))|((first|refine hK _ _ ?_|(clear hK;refine hK _ _ ?_));clear hK;try simp only[pst0,simprocAttr]))
     |true=>
      rw[q1,Bool.true_and]at hF
      generalize nameB name=bn at hn hF
      cases bn with
      |false=>
       simp only[Bool.false_and]at hF
       subst hF
       repeat'(first|refine a_seq fun K hK=>?_|(refine a_regionS ?_;simp(maxSteps:=2000000) only[Ty.w,simprocAttr,g1,g3,hd,hlA,hlK,k1,k2,q1])|(refine a_exit ?_;try simp only[pst0,simprocAttr])|(refine a_cond _ (by(try simp(maxSteps:=2000000) only[Ty.w,simprocAttr,g1,g3,hd,hlA,hlK,k1,k2,q1]);rfl) (fun hb=>?_) (fun hb=>?_)<;>(try simp only[hb0,decide_eq_true_eq,decide_eq_false_iff_not,simprocAttr]at hb)<;>(try(exfalso;omega)))|((first|refine hK _ _ ?_|(clear hK;refine hK _ _ ?_));clear hK;try simp only[pst0,simprocAttr]))
       refine owp_useQ (hn _) (by(try simp only[Ty.w,simprocAttr,g1,g3,hd,hlA,hlK,k1,k2,q1]);try rfl) ?_;simp(maxSteps:=2000000) only[Ty.w,simprocAttr,g1,g3,hd,hlA,hlK,k1,k2,q1]
       repeat'(first|(refine a_ret ?_;simp(maxSteps:=2000000) only[Ty.w,simprocAttr,g1,g3,hd,hlA,hlK,k1,k2,q1])|(refine hK _ _ ?_;clear hK;try simp only[pst0,simprocAttr]))
      |true=>
       rw[Bool.true_and]at hF
       generalize args.all termB=ba at hA hF
       cases ba with
       |false=>
        simp only[Bool.false_and]at hF
        subst hF
        have W:=And.intro g1 (And.intro g3 (And.intro hd (And.intro hlA (And.intro hlK (And.intro k1 (And.intro k2 q1))))))
        repeat'(first|refine a_seq fun K hK=>?_|(refine a_regionS ?_;simp(maxSteps:=2000000) only[Ty.w,simprocAttr,W])|(refine a_exit ?_;try simp only[pst0,simprocAttr])|(refine a_cond _ (by(try simp(maxSteps:=2000000) only[Ty.w,simprocAttr,W]);rfl) (fun hb=>?_) (fun hb=>?_)<;>(try simp only[hb0,decide_eq_true_eq,decide_eq_false_iff_not,simprocAttr]at hb)<;>(try(exfalso;omega)))|((first|refine hK _ _ ?_|(clear hK;refine hK _ _ ?_));clear hK;try simp only[pst0,simprocAttr]))
        refine owp_useQ (hn _) (by(try simp only[Ty.w,simprocAttr,W]);try rfl) ?_;simp(maxSteps:=2000000) only[Ty.w,simprocAttr,W]
        skip
        refine owp_useQ (hA _) (by(try simp only[Ty.w,simprocAttr,W]);try rfl) ?_;simp(maxSteps:=2000000) only[Ty.w,simprocAttr,W]
        repeat'(first|(refine a_ret ?_;simp(maxSteps:=2000000) only[Ty.w,simprocAttr,W])|(refine hK _ _ ?_;clear hK;try simp only[pst0,simprocAttr]))
       |true=>
        rw[Bool.true_and]at hF
        subst hF
        have W:=And.intro g1 (And.intro g3 (And.intro hd (And.intro hlA (And.intro hlK (And.intro k1 (And.intro k2 q1))))))
        repeat'(first|refine a_seq fun K hK=>?_|(refine a_regionS ?_;simp(maxSteps:=2000000) only[Ty.w,simprocAttr,W])|(refine a_exit ?_;try simp only[pst0,simprocAttr])|(refine a_cond _ (by(try simp(maxSteps:=2000000) only[Ty.w,simprocAttr,W]);rfl) (fun hb=>?_) (fun hb=>?_)<;>(try simp only[hb0,decide_eq_true_eq,decide_eq_false_iff_not,simprocAttr]at hb)<;>(try(exfalso;omega)))|((first|refine hK _ _ ?_|(clear hK;refine hK _ _ ?_));clear hK;try simp only[pst0,simprocAttr]))
        refine owp_useQ (hn _) (by(try simp only[Ty.w,simprocAttr,W]);try rfl) ?_;simp(maxSteps:=2000000) only[Ty.w,simprocAttr,W]
        skip
        refine owp_useQ (hA _) (by(try simp only[Ty.w,simprocAttr,W]);try rfl) ?_;simp(maxSteps:=2000000) only[Ty.w,simprocAttr,W]
        repeat'(first|(refine a_ret ?_;simp(maxSteps:=2000000) only[Ty.w,simprocAttr,W])|(refine hK _ _ ?_;clear hK;try simp only[pst0,simprocAttr]))
    |false=>
     rw[k2]at hF
     simp only[Bool.false_eq_true,if_false]at hF
     clear hn hA
     cases k3:(op.data.toList==(#[43]:Array UInt8).toList)with
     |true=>
      rw[k3]at hF
      simp only[Bool.true_or,if_true]at hF
      cases q1:(v==0)with
      |false=>
       rw[q1]at hF
       simp only[Bool.false_and]at hF
       subst hF
       repeat'(first|refine a_seq fun K hK=>?_|((first|refine a_regionS ?_|refine a_ret ?_);simp(maxSteps:=2000000) only[Ty.w,simprocAttr,g1,g3,hd,hlA,hlK,k1,k2,k3,q1])|((first|refine a_skip ?_|refine a_exit ?_);try simp only[pst0,simprocAttr])|(refine a_cond _ (by(try simp(maxSteps:=2000000) only[Ty.w,simprocAttr,g1,g3,hd,hlA,hlK,k1,k2,k3,q1]);rfl) (fun hb=>?_) (fun hb=>?_)<;>(try simp only[hb0,decide_eq_true_eq,decide_eq_false_iff_not,simprocAttr]at hb)<;>(try(exfalso;omega)))|((first|refine hK _ _ ?_|(clear hK;refine hK _ _ ?_));clear hK;try simp only[pst0,simprocAttr]))
      |true=>
       rw[q1,Bool.true_and]at hF
       cases q2:(name.data.toList==(#[]:Array UInt8).toList)with
       |false=>
        rw[q2]at hF
        simp only[Bool.false_and]at hF
        subst hF
        repeat'(first|refine a_seq fun K hK=>?_|((first|refine a_regionS ?_|refine a_ret ?_);simp(maxSteps:=2000000) only[Ty.w,simprocAttr,g1,g3,hd,hlA,hlK,k1,k2,k3,q1,q2])|((first|refine a_skip ?_|refine a_exit ?_);try simp only[pst0,simprocAttr])|(refine a_cond _ (by(try simp(maxSteps:=2000000) only[Ty.w,simprocAttr,g1,g3,hd,hlA,hlK,k1,k2,k3,q1,q2]);rfl) (fun hb=>?_) (fun hb=>?_)<;>(try simp only[hb0,decide_eq_true_eq,decide_eq_false_iff_not,simprocAttr]at hb)<;>(try(exfalso;omega)))|((first|refine hK _ _ ?_|(clear hK;refine hK _ _ ?_));clear hK;try simp only[pst0,simprocAttr]))
       |true=>
        rw[q2,Bool.true_and]at hF
        cases q3:((args.length:Int)==0)with
        |false=>
         rw[q3]at hF
         simp only[Bool.false_and]at hF
         subst hF
         repeat'(first|refine a_seq fun K hK=>?_|((first|refine a_regionS ?_|refine a_ret ?_);simp(maxSteps:=2000000) only[Ty.w,simprocAttr,g1,g3,hd,hlA,hlK,k1,k2,k3,q1,q2,q3])|((first|refine a_skip ?_|refine a_exit ?_);try simp only[pst0,simprocAttr])|(refine a_cond _ (by(try simp(maxSteps:=2000000) only[Ty.w,simprocAttr,g1,g3,hd,hlA,hlK,k1,k2,k3,q1,q2,q3]);rfl) (fun hb=>?_) (fun hb=>?_)<;>(try simp only[hb0,decide_eq_true_eq,decide_eq_false_iff_not,simprocAttr]at hb)<;>(try(exfalso;omega)))|((first|refine hK _ _ ?_|(clear hK;refine hK _ _ ?_));clear hK;try simp only[pst0,simprocAttr]))
        |true=>
         rw[q3,Bool.true_and]at hF
         subst hF
         repeat'(first|refine a_seq fun K hK=>?_|((first|refine a_regionS ?_|refine a_ret ?_);simp(maxSteps:=2000000) only[Ty.w,simprocAttr,g1,g3,hd,hlA,hlK,k1,k2,k3,q1,q2,q3])|((first|refine a_skip ?_|refine a_exit ?_);try simp only[pst0,simprocAttr])|(refine a_cond _ (by(try simp(maxSteps:=2000000) only[Ty.w,simprocAttr,g1,g3,hd,hlA,hlK,k1,k2,k3,q1,q2,q3]);rfl) (fun hb=>?_) (fun hb=>?_)<;>(try simp only[hb0,decide_eq_true_eq,decide_eq_false_iff_not,simprocAttr]at hb)<;>(try(exfalso;omega)))|((first|refine hK _ _ ?_|(clear hK;refine hK _ _ ?_));clear hK;try simp only[pst0,simprocAttr]))
     |false=>
      rw[k3]at hF
      simp only[Bool.false_or]at hF
      cases k4:(op.data.toList==(#[45]:Array UInt8).toList)with
      |true=>
       rw[k4]at hF
       simp only[Bool.true_or,if_true]at hF
       cases q1:(v==0)with
       |false=>
        rw[q1]at hF
        simp only[Bool.false_and]at hF
        subst hF
        repeat'(first|refine a_seq fun K hK=>?_|((first|refine a_regionS ?_|refine a_ret ?_);simp(maxSteps:=2000000) only[Ty.w,simprocAttr,g1,g3,hd,hlA,hlK,k1,k2,k3,k4,q1])|((first|refine a_skip ?_|refine a_exit ?_);try simp only[pst0,simprocAttr])|(refine a_cond _ (by(try simp(maxSteps:=2000000) only[Ty.w,simprocAttr,g1,g3,hd,hlA,hlK,k1,k2,k3,k4,q1]);rfl) (fun hb=>?_) (fun hb=>?_)<;>(try simp only[hb0,decide_eq_true_eq,decide_eq_false_iff_not,simprocAttr]at hb)<;>(try(exfalso;omega)))|((first|refine hK _ _ ?_|(clear hK;refine hK _ _ ?_));clear hK;try simp only[pst0,simprocAttr]))
       |true=>
        rw[q1,Bool.true_and]at hF
        cases q2:(name.data.toList==(#[]:Array UInt8).toList)with
        |false=>
         rw[q2]at hF
         simp only[Bool.false_and]at hF
         subst hF
         repeat'(first|refine a_seq fun K hK=>?_|((first|refine a_regionS ?_|refine a_ret ?_);simp(maxSteps:=2000000) only[Ty.w,simprocAttr,g1,g3,hd,hlA,hlK,k1,k2,k3,k4,q1,q2])|((first|refine a_skip ?_|refine a_exit ?_);try simp only[pst0,simprocAttr])|(refine a_cond _ (by(try simp(maxSteps:=2000000) only[Ty.w,simprocAttr,g1,g3,hd,hlA,hlK,k1,k2,k3,k4,q1,q2]);rfl) (fun hb=>?_) (fun hb=>?_)<;>(try simp only[hb0,decide_eq_true_eq,decide_eq_false_iff_not,simprocAttr]at hb)<;>(try(exfalso;omega)))|((first|refine hK _ _ ?_|(clear hK;refine hK _ _ ?_));clear hK;try simp only[pst0,simprocAttr]))
        |true=>
         rw[q2,Bool.true_and]at hF
         cases q3:((args.length:Int)==0)with
         |false=>
          rw[q3]at hF
          simp only[Bool.false_and]at hF
          subst hF
          repeat'(first|refine a_seq fun K hK=>?_|((first|refine a_regionS ?_|refine a_ret ?_);simp(maxSteps:=2000000) only[Ty.w,simprocAttr,g1,g3,hd,hlA,hlK,k1,k2,k3,k4,q1,q2,q3])|((first|refine a_skip ?_|refine a_exit ?_);try simp only[pst0,simprocAttr])|(refine a_cond _ (by(try simp(maxSteps:=2000000) only[Ty.w,simprocAttr,g1,g3,hd,hlA,hlK,k1,k2,k3,k4,q1,q2,q3]);rfl) (fun hb=>?_) (fun hb=>?_)<;>(try simp only[hb0,decide_eq_true_eq,decide_eq_false_iff_not,simprocAttr]at hb)<;>(try(exfalso;omega)))|((first|refine hK _ _ ?_|(clear hK;refine hK _ _ ?_));clear hK;try simp only[pst0,simprocAttr]))
         |true=>
          rw[q3,Bool.true_and]at hF
          subst hF
          repeat'(first|refine a_seq fun K hK=>?_|((first|refine a_regionS ?_|refine a_ret ?_);simp(maxSteps:=2000000) only[Ty.w,simprocAttr,g1,g3,hd,hlA,hlK,k1,k2,k3,k4,q1,q2,q3])|((first|refine a_skip ?_|refine a_exit ?_);try simp only[pst0,simprocAttr])|(refine a_cond _ (by(try simp(maxSteps:=2000000) only[Ty.w,simprocAttr,g1,g3,hd,hlA,hlK,k1,k2,k3,k4,q1,q2,q3]);rfl) (fun hb=>?_) (fun hb=>?_)<;>(try simp only[hb0,decide_eq_true_eq,decide_eq_false_iff_not,simprocAttr]at hb)<;>(try(exfalso;omega)))|((first|refine hK _ _ ?_|(clear hK;refine hK _ _ ?_));clear hK;try simp only[pst0,simprocAttr]))
      |false=>
       rw[k4]at hF
       simp only[Bool.false_or]at hF
       cases k5:(op.data.toList==(#[42]:Array UInt8).toList)with
       |true=>
        rw[k5]at hF
        simp only[if_true]at hF
        cases q1:(v==0)with
        |false=>
         rw[q1]at hF
         simp only[Bool.false_and]at hF
         subst hF
         repeat'(first|refine a_seq fun K hK=>?_|((first|refine a_regionS ?_|refine a_ret ?_);simp(maxSteps:=2000000) only[Ty.w,simprocAttr,g1,g3,hd,hlA,hlK,k1,k2,k3,k4,k5,q1])|(refine a_exit ?_;try simp only[pst0,simprocAttr])|(refine a_cond _ (by(try simp(maxSteps:=2000000) only[Ty.w,simprocAttr,g1,g3,hd,hlA,hlK,k1,k2,k3,k4,k5,q1]);rfl) (fun hb=>?_) (fun hb=>?_)<;>(try simp only[hb0,decide_eq_true_eq,decide_eq_false_iff_not,simprocAttr]at hb)<;>(try(exfalso;omega)))|((first|refine hK _ _ ?_|(clear hK;refine hK _ _ ?_));clear hK;try simp only[pst0,simprocAttr]))
        |true=>
         rw[q1,Bool.true_and]at hF
         cases q2:(name.data.toList==(#[]:Array UInt8).toList)with
         |false=>
          rw[q2]at hF
          simp only[Bool.false_and]at hF
          subst hF
          repeat'(first|refine a_seq fun K hK=>?_|((first|refine a_regionS ?_|refine a_ret ?_);simp(maxSteps:=2000000) only[Ty.w,simprocAttr,g1,g3,hd,hlA,hlK,k1,k2,k3,k4,k5,q1,q2])|(refine a_exit ?_;try simp only[pst0,simprocAttr])|(refine a_cond _ (by(try simp(maxSteps:=2000000) only[Ty.w,simprocAttr,g1,g3,hd,hlA,hlK,k1,k2,k3,k4,k5,q1,q2]);rfl) (fun hb=>?_) (fun hb=>?_)<;>(try simp only[hb0,decide_eq_true_eq,decide_eq_false_iff_not,simprocAttr]at hb)<;>(try(exfalso;omega)))|((first|refine hK _ _ ?_|(clear hK;refine hK _ _ ?_));clear hK;try simp only[pst0,simprocAttr]))
         |true=>
          rw[q2,Bool.true_and]at hF
          cases q3:((args.length:Int)==0)with
          |false=>
           rw[q3]at hF
           simp only[Bool.false_and]at hF
           subst hF
           repeat'(first|refine a_seq fun K hK=>?_|((first|refine a_regionS ?_|refine a_ret ?_);simp(maxSteps:=2000000) only[Ty.w,simprocAttr,g1,g3,hd,hlA,hlK,k1,k2,k3,k4,k5,q1,q2,q3])|(refine a_exit ?_;try simp only[pst0,simprocAttr])|(refine a_cond _ (by(try simp(maxSteps:=2000000) only[Ty.w,simprocAttr,g1,g3,hd,hlA,hlK,k1,k2,k3,k4,k5,q1,q2,q3]);rfl) (fun hb=>?_) (fun hb=>?_)<;>(try simp only[hb0,decide_eq_true_eq,decide_eq_false_iff_not,simprocAttr]at hb)<;>(try(exfalso;omega)))|((first|refine hK _ _ ?_|(clear hK;refine hK _ _ ?_));clear hK;try simp only[pst0,simprocAttr]))
          |true=>
           rw[q3,Bool.true_and]at hF
           subst hF
           repeat'(first|refine a_seq fun K hK=>?_|((first|refine a_regionS ?_|refine a_ret ?_);simp(maxSteps:=2000000) only[Ty.w,simprocAttr,g1,g3,hd,hlA,hlK,k1,k2,k3,k4,k5,q1,q2,q3])|(refine a_exit ?_;try simp only[pst0,simprocAttr])|(refine a_cond _ (by(try simp(maxSteps:=2000000) only[Ty.w,simprocAttr,g1,g3,hd,hlA,hlK,k1,k2,k3,k4,k5,q1,q2,q3]);rfl) (fun hb=>?_) (fun hb=>?_)<;>(try simp only[hb0,decide_eq_true_eq,decide_eq_false_iff_not,simprocAttr]at hb)<;>(try(exfalso;omega)))|((first|refine hK _ _ ?_|(clear hK;refine hK _ _ ?_));clear hK;try simp only[pst0,simprocAttr]))
       |false=>
        rw[k5]at hF
        simp only[Bool.false_eq_true,if_false]at hF
        subst hF
        repeat'(first|refine a_seq fun K hK=>?_|(refine a_block ?_)|((first|refine a_regionS ?_|refine a_ret ?_);simp(maxSteps:=2000000) only[Ty.w,simprocAttr,g1,g3,hd,hlA,hlK,k1,k2,k3,k4,k5])|((first|refine a_skip ?_|refine a_exit ?_);try simp only[pst0,simprocAttr])|(refine a_cond _ (by(try simp(maxSteps:=2000000) only[Ty.w,simprocAttr,g1,g3,hd,hlA,hlK,k1,k2,k3,k4,k5]);rfl) (fun hb=>?_) (fun hb=>?_)<;>(try simp only[hb0,decide_eq_true_eq,decide_eq_false_iff_not,simprocAttr]at hb)<;>(try(exfalso;omega)))|((first|refine hK _ _ ?_|(clear hK;refine hK _ _ ?_));clear hK;try simp only[pst0,simprocAttr]))
end Go.Proofs.YtjeolbgpllbemaaGreat
namespace Go.Proofs.YtjeolbgpllbemaaGreat
open Go.AM
set_option maxHeartbeats 4000000
set_option maxRecDepth 20000
theorem rwriteParams_c{l:List Pm}(hl:l.length≤1048576)(h:Heap):PCall Tryz.prog 71 [.imm 2 (pmRows l)] h fun r h'=>r= .imm 6 (Sx.rows (paramsW l))∧h'=h:=by
 refine PCall.frz Ty.hb_71 ?_
 have hll:=pmRows_len l
 have hw: ∀ (s:ByteArray)(h:Heap),PCall Tryz.prog 109 [sPV s] h fun r h'=>r= .agg (wordM s).cells∧h'=h:=fun s h=>rwd_c
 simp only[wordM,Sx.cells,Sx.rows]at hw
 refine pcall_body (ow:=fun _=>false) (wf:=fun _=>false) Ty.mixed Tryz.func71 rfl Ty.hb_71 (by rw[Tryz.ntmps71];simp) ?_
 rw[Tryz.ntmps71,Tryz.results71]
 repeat'(first|refine a_seq fun K hK=>?_|(refine a_block ?_)|(refine a_regionS ?_;simp(maxSteps:=2000000) only[Ty.w,simprocAttr,hll])|(refine hK _ _ ?_;clear hK;try simp only[pst0,simprocAttr]))
 refine a_loop (fun m S h'=>S 0= .imm 2 (pmRows l)∧ ∃ (k:Nat)(o:PV),S 4= .sc (.int .i64 k)∧S 3=o∧k≤l.length∧m=l.length-k∧Grow h h'∧Tl h' h.next 6 o (Sx.rows (paramsW (l.take k)))) l.length ?_ ?_
 ·simp only[Ty.w,simprocAttr]
  exact⟨0,_,rfl,rfl,by omega,rfl,Grow.refl _,Tl.nil⟩
 ·rintro m S h' ⟨g0,k,o,g4,g3,hk,rfl,hg,tl⟩
  by_cases hlt:k<l.length
  ·have hd:decide ((k:Int)<(l.length:Int))=true:=by simp;omega
   have w7:IntKind.i64.wrap ((k:Int)+1)=k+1:=by rw[wrap64 (by omega) (by omega)]
   obtain⟨p,hx⟩: ∃ p,l[k]? =some p:=⟨_,List.getElem?_eq_getElem hlt⟩
   have hr:=pmRows_get hx
   obtain⟨H,t1,t2,t3,t4,t5⟩:=tl.tail
   have hpr:(Sx.rows (paramsW (l.take k))).length=3*k:=by rw[Sx.rows_len,paramsW_len,List.length_take];omega
   have hb:(3*k+3)*72≤140737488355328:=by omega
   have hR:Sx.rows (paramsW (l.take (k+1)))=Sx.rows (paramsW (l.take k))++[[.sc (.int .i64 1),.sc (.int .i64 0),.sc (.int .i64 0),.sc (.int .i64 0),sPV p.name,.imm 6 []],[.sc (.int .i64 1),.sc (.int .i64 0),.sc (.int .i64 0),.sc (.int .i64 0),sPV ⟨#[45]⟩,.imm 6 []],[.sc (.int .i64 1),.sc (.int .i64 0),.sc (.int .i64 0),.sc (.int .i64 0),sPV p.type,.imm 6 []]]:=by
    rw[List.take_add_one,hx,paramsW_append]
    simp only[Sx.rows_map,List.map_append,Option.toList_some,paramsW,List.map_cons,List.map_nil,wordM,Sx.cells]
   generalize Sx.rows (paramsW (l.take k))=R at tl t1 t2 hpr hR
   have W:=And.intro g0 (And.intro g4 (And.intro g3 (And.intro hr (And.intro w7 (And.intro t1 (And.intro t2 (And.intro hpr hb)))))))
   repeat'(first|refine a_seq fun K hK=>?_|(refine a_block ?_)|((first|refine a_regionS ?_|refine a_draw (by decide+kernel) (fun K hK=>?_));simp(maxSteps:=2000000) only[Ty.w,simprocAttr,W,hd,hll])|(refine a_skip ?_;try simp only[pst0,simprocAttr])|(refine a_cond _ (by(try simp(maxSteps:=2000000) only[Ty.w,simprocAttr,W,hd,hll]);rfl) (fun hb=>?_) (fun hb=>?_)<;>(try simp only[hb0,decide_eq_true_eq,decide_eq_false_iff_not,simprocAttr]at hb)<;>(try(exfalso;omega)))|(refine hK _ _ ?_;clear hK;try simp only[pst0,simprocAttr]))
   (first|refine a_dcall0 (hw p.name _) (by(try simp only[Ty.w,simprocAttr,W]);try rfl) ?_|refine a_dcallA (hw p.name _) (by(try simp only[Ty.w,simprocAttr,W]);try rfl) (by simp only[Ty.w,simprocAttr,W];try trivial) ?_);simp(maxSteps:=2000000) only[Ty.w,simprocAttr,W,Option.getD_some]
   skip
   (first|refine a_dcall0 (hw ⟨#[45]⟩ _) (by(try simp only[Ty.w,simprocAttr,W]);try rfl) ?_|refine a_dcallA (hw ⟨#[45]⟩ _) (by(try simp only[Ty.w,simprocAttr,W]);try rfl) (by simp only[Ty.w,simprocAttr,W];try trivial) ?_);simp(maxSteps:=2000000) only[Ty.w,simprocAttr,W,Option.getD_some]
   skip
   (first|refine a_dcall0 (hw p.type _) (by(try simp only[Ty.w,simprocAttr,W]);try rfl) ?_|refine a_dcallA (hw p.type _) (by(try simp only[Ty.w,simprocAttr,W]);try rfl) (by simp only[Ty.w,simprocAttr,W];try trivial) ?_);simp(maxSteps:=2000000) only[Ty.w,simprocAttr,W,Option.getD_some]
   repeat'(first|(refine a_regionS ?_;simp(maxSteps:=2000000) only[Ty.w,simprocAttr,W])|(refine hK _ _ ?_;clear hK;try simp only[pst0,simprocAttr])|(with_reducible refine a_past2 (by simp only[List.forall_mem_cons,Ty.w,simprocAttr,g0,g4,g3,hr,w7,t1,t2,hpr,hb]<;>(repeat' apply And.intro)<;>first|trivial|exact .inl (by decide+kernel)) ?_;try simp(maxSteps:=2000000) only[Ty.w,simprocAttr,W])|(rw[if_pos];rotate_left 1;omega;simp(maxSteps:=2000000) only[Ty.w,simprocAttr,W]))
   have hkp:=t5 h ⟨hg.le,hg.old⟩ (Nat.le_refl _)
   have hgH:Grow h H:=⟨hkp.1,hkp.2⟩
   rw[← hR]
   have hRl:3*k+3=(Sx.rows (paramsW (l.take (k+1)))).length:=by rw[Sx.rows_len,paramsW_len,List.length_take];omega
   exact⟨l.length-(k+1),by omega,k+1,.own H.next 0 (3*k+3),by simp,by first|rfl|rw[t3],by omega,rfl,hgH.new _,Tl.grow hkp.1 hRl⟩
  ·have hd:decide ((k:Int)<(l.length:Int))=false:=by simp;omega
   have hke:k=l.length:=by omega
   subst hke
   rw[List.take_length]at tl
   repeat'(first|refine a_seq fun K hK=>?_|((first|refine a_regionS ?_|refine a_ret ?_);simp(maxSteps:=2000000) only[Ty.w,simprocAttr,g0,g4,g3,hd,hll])|(refine a_exit ?_;try simp only[pst0,simprocAttr])|(refine a_cond _ (by(try simp(maxSteps:=2000000) only[Ty.w,simprocAttr,g0,g4,g3,hd,hll]);rfl) (fun hb=>?_) (fun hb=>?_)<;>(try simp only[hb0,decide_eq_true_eq,decide_eq_false_iff_not,simprocAttr]at hb)<;>(try(exfalso;omega)))|((first|refine hK _ _ ?_|(clear hK;refine hK _ _ ?_));clear hK;try simp only[pst0,simprocAttr]))
   exact⟨tl_frzX tl,hg⟩
theorem rwriteF_c: ∀ f:Fm,f.small→shapedF f=true→ ∀ h:Heap,PCall Tryz.prog 74 [.agg f.cells] h fun r h'=>r= .agg (fmW f).cells∧h'=h:=by
 refine Fm.ind ?_
 intro op name args params exprs kids ih hsm hsh h
 simp only[Fm.small]at hsm
 obtain⟨hal,hpl,hes,hkl,hks⟩:=hsm
 rw[Ex.smalls_iff]at hes
 rw[Fm.smalls_iff]at hks
 simp only[shapedF,Bool.and_eq_true]at hsh
 obtain⟨⟨hpo,hse⟩,hsk⟩:=hsh
 rw[shapedFs_iff]at hsk
 rw[List.all_eq_true]at hse
 have hlK:=Fm.rows_len kids
 unfold fmW
 refine PCall.frz Ty.hb_74 ?_
 cases k1:(op.data.toList==(#[97,116,111,109]:Array UInt8).toList)with
 |true=>
  rw[if_pos (show bEq op opAtom=true from k1)]
  have hw: ∀ h:Heap,PCall Tryz.prog 110 [sPV name,.imm 1 (strRows args)] h fun r h'=>r= .agg (wordsM name args).cells∧h'=h:=fun h=>rlist_c hal
  have hfz:=fun(n:Nat)(h:Heap)=>sx_frz n h (wordsM name args)
  simp only[Fm.cells]
  generalize wordsM name args=X at hw hfz⊢
  obtain⟨ki,va,li,co,te,ks⟩:=X
  simp only[Sx.cells]at hw hfz⊢
  refine pcall_body (ow:=fun _=>false) (wf:=fun _=>false) Ty.mixed Tryz.func74 rfl Ty.hb_74 (by rw[Tryz.ntmps74];simp) ?_
  rw[Tryz.ntmps74,Tryz.results74]
  repeat'(first|refine a_seq fun K hK=>?_|(refine a_regionS ?_;simp(maxSteps:=2000000) only[Ty.w,simprocAttr,k1])|(refine hK _ _ ?_;clear hK;try simp only[pst0,simprocAttr]))
  refine owp_useQ (hw _) (by(try simp only[Ty.w,simprocAttr,k1]);try rfl) ?_;simp(maxSteps:=2000000) only[Ty.w,simprocAttr,k1]
  repeat'(first|(refine a_ret ?_;simp(maxSteps:=2000000) only[Ty.w,simprocAttr])|(refine hK _ _ ?_;clear hK;try simp only[pst0,simprocAttr]))
  refine⟨?_,((Grow.refl h).new _).set (Nat.le_refl _) _⟩
  simp only[FrzTo]
  exact⟨_,rfl,hfz _ _⟩
 |false=>
  cases k2:(op.data.toList==(#[115,97,109,101]:Array UInt8).toList)with
  |true=>
   rw[if_neg (by rw[(show bEq op opAtom=false from k1)];simp)]
   rw[if_pos (show bEq op opSame=true from k2)]
   have hw: ∀ h:Heap,PCall Tryz.prog 110 [sPV ⟨#[61]⟩,.imm 1 (strRows args)] h fun r h'=>r= .agg (wordsM opEq args).cells∧h'=h:=fun h=>rlist_c hal
   have hfz:=fun(n:Nat)(h:Heap)=>sx_frz n h (wordsM opEq args)
   simp only[Fm.cells]
   generalize wordsM opEq args=X at hw hfz⊢
   obtain⟨ki,va,li,co,te,ks⟩:=X
   simp only[Sx.cells]at hw hfz⊢
   refine pcall_body (ow:=fun _=>false) (wf:=fun _=>false) Ty.mixed Tryz.func74 rfl Ty.hb_74 (by rw[Tryz.ntmps74];simp) ?_
   rw[Tryz.ntmps74,Tryz.results74]
   repeat'(first|refine a_seq fun K hK=>?_|(refine a_regionS ?_;simp(maxSteps:=2000000) only[Ty.w,simprocAttr,k1,k2])|(refine hK _ _ ?_;clear hK;try simp only[pst0,simprocAttr]))
   refine owp_useQ (hw _) (by(try simp only[Ty.w,simprocAttr,k1,k2]);try rfl) ?_;simp(maxSteps:=2000000) only[Ty.w,simprocAttr,k1,k2]
   repeat'(first|(refine a_ret ?_;simp(maxSteps:=2000000) only[Ty.w,simprocAttr])|(refine hK _ _ ?_;clear hK;try simp only[pst0,simprocAttr]))
   refine⟨?_,((Grow.refl h).new _).set (Nat.le_refl _) _⟩
   simp only[FrzTo]
   exact⟨_,rfl,hfz _ _⟩
  |false=>
   rw[if_neg (by rw[(show bEq op opAtom=false from k1)];simp),if_neg (by rw[(show bEq op opSame=false from k2)];simp)]
   cases k3:(op.data.toList==(#[60]:Array UInt8).toList)with
   |true=>
    rw[if_pos (by simp[isCmp,(show bEq op opAtom=false from k1),(show bEq op opSame=false from k2),(show bEq op opLt=true from k3)])]
    have hx2:exprs.length=2:=by have q:=hpo;simp[partsOk,shapeOf,(show bEq op opAtom=false from k1),(show bEq op opSame=false from k2),(show bEq op opLt=true from k3)]at q;omega
    obtain⟨a,b,rfl⟩: ∃ a b,exprs=[a,b]:=by
     match exprs,hx2 with
     |[a,b],_=>exact⟨a,b,rfl⟩
    have ca:=rwriteE_c a (hes a (by simp)) (hse a (by simp))
    have cb:=rwriteE_c b (hes b (by simp)) (hse b (by simp))
    have hw:=fun h:Heap=>rwd_c (h:=h) (s:=op)
    simp only[List.map_cons,List.map_nil]
    have hfz:=fun(n:Nat)(h:Heap)=>sx_frz n h (listM [wordM op,exW a,exW b])
    generalize exW a=xa at ca hfz⊢
    generalize exW b=xb at cb hfz⊢
    clear ih hks hpo hse hsk hes
    obtain⟨aop,aname,an,aargs,akids⟩:=a
    obtain⟨bop,bname,bn,bargs,bkids⟩:=b
    obtain⟨ki,va,li,co,te,ks⟩:=xa
    obtain⟨ki2,va2,li2,co2,te2,ks2⟩:=xb
    simp only[Fm.cells,Ex.cells,Ex.rows,listM,Sx.cells,Sx.rows,wordM]at ca cb hw hfz⊢
    refine pcall_body (ow:=fun _=>false) (wf:=fun _=>false) Ty.mixed Tryz.func74 rfl Ty.hb_74 (by rw[Tryz.ntmps74];simp) ?_
    rw[Tryz.ntmps74,Tryz.results74]
    repeat'(first|refine a_seq fun K hK=>?_|((first|refine a_regionS ?_|refine a_drawS (by decide+kernel) ?_);simp(maxSteps:=2000000) only[Ty.w,simprocAttr,k1,k2,k3])|(refine a_skip ?_;try simp only[pst0,simprocAttr])|(refine a_cond _ (by(try simp(maxSteps:=2000000) only[Ty.w,simprocAttr,k1,k2,k3]);rfl) (fun hb=>?_) (fun hb=>?_)<;>(try simp only[hb0,decide_eq_true_eq,decide_eq_false_iff_not,simprocAttr]at hb)<;>(try(exfalso;omega)))|(refine hK _ _ ?_;clear hK;try simp only[pst0,simprocAttr]))
    (first|refine a_dcall0 (hw _) (by(try simp only[Ty.w,simprocAttr,]);try rfl) ?_|refine a_dcallA (hw _) (by(try simp only[Ty.w,simprocAttr,]);try rfl) (by simp only[Ty.w,simprocAttr,];try trivial) ?_);simp(maxSteps:=2000000) only[Ty.w,simprocAttr,Option.getD_some,]
    skip
    (first|refine a_dcall0 (ca _) (by(try simp only[Ty.w,simprocAttr,]);try rfl) ?_|refine a_dcallA (ca _) (by(try simp only[Ty.w,simprocAttr,]);try rfl) (by simp only[Ty.w,simprocAttr,];try trivial) ?_);simp(maxSteps:=2000000) only[Ty.w,simprocAttr,Option.getD_some,]
    skip
    (first|refine a_dcall0 (cb _) (by(try simp only[Ty.w,simprocAttr,]);try rfl) ?_|refine a_dcallA (cb _) (by(try simp only[Ty.w,simprocAttr,]);try rfl) (by simp only[Ty.w,simprocAttr,];try trivial) ?_);simp(maxSteps:=2000000) only[Ty.w,simprocAttr,Option.getD_some,]
    repeat'(first|(refine a_ret ?_;simp(maxSteps:=2000000) only[Ty.w,simprocAttr])|(refine hK _ _ ?_;clear hK;try simp only[pst0,simprocAttr])|(with_reducible refine a_past2 (by simp only[List.forall_mem_cons,Ty.w,simprocAttr]<;>(repeat' apply And.intro)<;>first|trivial|exact .inl (by decide+kernel)) ?_;try simp(maxSteps:=2000000) only[Ty.w,simprocAttr]))
    refine⟨?_,((Grow.refl h).new _).set (Nat.le_refl _) _⟩
    simp only[FrzTo]
    exact⟨_,rfl,hfz _ _⟩
   |false=>
    cases k4:(op.data.toList==(#[60,61]:Array UInt8).toList)with
    |true=>
     rw[if_pos (by simp[isCmp,(show bEq op opAtom=false from k1),(show bEq op opSame=false from k2),(show bEq op opLt=false from k3),(show bEq op opLe=true from k4)])]
     have hx2:exprs.length=2:=by have q:=hpo;simp[partsOk,shapeOf,(show bEq op opAtom=false from k1),(show bEq op opSame=false from k2),(show bEq op opLt=false from k3),(show bEq op opLe=true from k4)]at q;omega
     obtain⟨a,b,rfl⟩: ∃ a b,exprs=[a,b]:=by
      match exprs,hx2 with
      |[a,b],_=>exact⟨a,b,rfl⟩
     have ca:=rwriteE_c a (hes a (by simp)) (hse a (by simp))
     have cb:=rwriteE_c b (hes b (by simp)) (hse b (by simp))
     have hw:=fun h:Heap=>rwd_c (h:=h) (s:=op)
     simp only[List.map_cons,List.map_nil]
     have hfz:=fun(n:Nat)(h:Heap)=>sx_frz n h (listM [wordM op,exW a,exW b])
     generalize exW a=xa at ca hfz⊢
     generalize exW b=xb at cb hfz⊢
     clear ih hks hpo hse hsk hes
     obtain⟨aop,aname,an,aargs,akids⟩:=a
     obtain⟨bop,bname,bn,bargs,bkids⟩:=b
     obtain⟨ki,va,li,co,te,ks⟩:=xa
     obtain⟨ki2,va2,li2,co2,te2,ks2⟩:=xb
     simp only[Fm.cells,Ex.cells,Ex.rows,listM,Sx.cells,Sx.rows,wordM]at ca cb hw hfz⊢
     refine pcall_body (ow:=fun _=>false) (wf:=fun _=>false) Ty.mixed Tryz.func74 rfl Ty.hb_74 (by rw[Tryz.ntmps74];simp) ?_
     rw[Tryz.ntmps74,Tryz.results74]
     repeat'(first|refine a_seq fun K hK=>?_|((first|refine a_regionS ?_|refine a_drawS (by decide+kernel) ?_);simp(maxSteps:=2000000) only[Ty.w,simprocAttr,k1,k2,k3,k4])|(refine a_skip ?_;try simp only[pst0,simprocAttr])|(refine a_cond _ (by(try simp(maxSteps:=2000000) only[Ty.w,simprocAttr,k1,k2,k3,k4]);rfl) (fun hb=>?_) (fun hb=>?_)<;>(try simp only[hb0,decide_eq_true_eq,decide_eq_false_iff_not,simprocAttr]at hb)<;>(try(exfalso;omega)))|(refine hK _ _ ?_;clear hK;try simp only[pst0,simprocAttr]))
     (first|refine a_dcall0 (hw _) (by(try simp only[Ty.w,simprocAttr,]);try rfl) ?_|refine a_dcallA (hw _) (by(try simp only[Ty.w,simprocAttr,]);try rfl) (by simp only[Ty.w,simprocAttr,];try trivial) ?_);simp(maxSteps:=2000000) only[Ty.w,simprocAttr,Option.getD_some,]
     skip
     (first|refine a_dcall0 (ca _) (by(try simp only[Ty.w,simprocAttr,]);try rfl) ?_|refine a_dcallA (ca _) (by(try simp only[Ty.w,simprocAttr,]);try rfl) (by simp only[Ty.w,simprocAttr,];try trivial) ?_);simp(maxSteps:=2000000) only[Ty.w,simprocAttr,Option.getD_some,]
     skip
     (first|refine a_dcall0 (cb _) (by(try simp only[Ty.w,simprocAttr,]);try rfl) ?_|refine a_dcallA (cb _) (by(try simp only[Ty.w,simprocAttr,]);try rfl) (by simp only[Ty.w,simprocAttr,];try trivial) ?_);simp(maxSteps:=2000000) only[Ty.w,simprocAttr,Option.getD_some,]
     repeat'(first|(refine a_ret ?_;simp(maxSteps:=2000000) only[Ty.w,simprocAttr])|(refine hK _ _ ?_;clear hK;try simp only[pst0,simprocAttr])|(with_reducible refine a_past2 (by simp only[List.forall_mem_cons,Ty.w,simprocAttr]<;>(repeat' apply And.intro)<;>first|trivial|exact .inl (by decide+kernel)) ?_;try simp(maxSteps:=2000000) only[Ty.w,simprocAttr]))
     refine⟨?_,((Grow.refl h).new _).set (Nat.le_refl _) _⟩
     simp only[FrzTo]
     exact⟨_,rfl,hfz _ _⟩
    |false=>
     cases k5:(op.data.toList==(#[61]:Array UInt8).toList)with
     |true=>
      rw[if_pos (by simp[isCmp,(show bEq op opAtom=false from k1),(show bEq op opSame=false from k2),(show bEq op opLt=false from k3),(show bEq op opLe=false from k4),(show bEq op opEq=true from k5)])]
      have hx2:exprs.length=2:=by have q:=hpo;simp[partsOk,shapeOf,(show bEq op opAtom=false from k1),(show bEq op opSame=false from k2),(show bEq op opLt=false from k3),(show bEq op opLe=false from k4),(show bEq op opEq=true from k5)]at q;omega
      obtain⟨a,b,rfl⟩: ∃ a b,exprs=[a,b]:=by
       match exprs,hx2 with
       |[a,b],_=>exact⟨a,b,rfl⟩
      have ca:=rwriteE_c a (hes a (by simp)) (hse a (by simp))
      have cb:=rwriteE_c b (hes b (by simp)) (hse b (by simp))
      have hw:=fun h:Heap=>rwd_c (h:=h) (s:=op)
      simp only[List.map_cons,List.map_nil]
      have hfz:=fun(n:Nat)(h:Heap)=>sx_frz n h (listM [wordM op,exW a,exW b])
      generalize exW a=xa at ca hfz⊢
      generalize exW b=xb at cb hfz⊢
      clear ih hks hpo hse hsk hes
      obtain⟨aop,aname,an,aargs,akids⟩:=a
      obtain⟨bop,bname,bn,bargs,bkids⟩:=b
      obtain⟨ki,va,li,co,te,ks⟩:=xa
      obtain⟨ki2,va2,li2,co2,te2,ks2⟩:=xb
      simp only[Fm.cells,Ex.cells,Ex.rows,listM,Sx.cells,Sx.rows,wordM]at ca cb hw hfz⊢
      refine pcall_body (ow:=fun _=>false) (wf:=fun _=>false) Ty.mixed Tryz.func74 rfl Ty.hb_74 (by rw[Tryz.ntmps74];simp) ?_
      rw[Tryz.ntmps74,Tryz.results74]
      repeat'(first|refine a_seq fun K hK=>?_|((first|refine a_regionS ?_|refine a_drawS (by decide+kernel) ?_);simp(maxSteps:=2000000) only[Ty.w,simprocAttr,k1,k2,k3,k4,k5])|(refine a_cond _ (by(try simp(maxSteps:=2000000) only[Ty.w,simprocAttr,k1,k2,k3,k4,k5]);rfl) (fun hb=>?_) (fun hb=>?_)<;>(try simp only[hb0,decide_eq_true_eq,decide_eq_false_iff_not,simprocAttr]at hb)<;>(try(exfalso;omega)))|(refine hK _ _ ?_;clear hK;try simp only[pst0,simprocAttr]))
      (first|refine a_dcall0 (hw _) (by(try simp only[Ty.w,simprocAttr,]);try rfl) ?_|refine a_dcallA (hw _) (by(try simp only[Ty.w,simprocAttr,]);try rfl) (by simp only[Ty.w,simprocAttr,];try trivial) ?_);simp(maxSteps:=2000000) only[Ty.w,simprocAttr,Option.getD_some,]
      skip
      (first|refine a_dcall0 (ca _) (by(try simp only[Ty.w,simprocAttr,]);try rfl) ?_|refine a_dcallA (ca _) (by(try simp only[Ty.w,simprocAttr,]);try rfl) (by simp only[Ty.w,simprocAttr,];try trivial) ?_);simp(maxSteps:=2000000) only[Ty.w,simprocAttr,Option.getD_some,]
      skip
      (first|refine a_dcall0 (cb _) (by(try simp only[Ty.w,simprocAttr,]);try rfl) ?_|refine a_dcallA (cb _) (by(try simp only[Ty.w,simprocAttr,]);try rfl) (by simp only[Ty.w,simprocAttr,];try trivial) ?_);simp(maxSteps:=2000000) only[Ty.w,simprocAttr,Option.getD_some,]
      repeat'(first|(refine a_ret ?_;simp(maxSteps:=2000000) only[Ty.w,simprocAttr])|(refine hK _ _ ?_;clear hK;try simp only[pst0,simprocAttr])|(with_reducible refine a_past2 (by simp only[List.forall_mem_cons,Ty.w,simprocAttr]<;>(repeat' apply And.intro)<;>first|trivial|exact .inl (by decide+kernel)) ?_;try simp(maxSteps:=2000000) only[Ty.w,simprocAttr]))
      refine⟨?_,((Grow.refl h).new _).set (Nat.le_refl _) _⟩
      simp only[FrzTo]
      exact⟨_,rfl,hfz _ _⟩
     |false=>
      rw[if_neg (by simp[isCmp,(show bEq op opLt=false from k3),(show bEq op opLe=false from k4),(show bEq op opEq=false from k5)])]
      clear hse hes hpo
      have n6:bEq op opAnd=(op.data.toList==(#[97,110,100]:Array UInt8).toList):=rfl
      by_cases hz:(bEq op opAnd&&kids.isEmpty)=true
      ·have hz2:=hz
       rw[Bool.and_eq_true]at hz2
       have k6:(op.data.toList==(#[97,110,100]:Array UInt8).toList)=true:=hz2.1
       have hk0:kids=[]:=List.isEmpty_iff.1 hz2.2
       have hq:isQ op=false:=by rw[bEq_eq hz2.1];try rfl
       subst hk0
       rw[if_pos hz,hq]
       simp only[Bool.false_eq_true,if_false,fmWs,List.append_nil,Fm.cells,Fm.rows]
       refine pcall_body (ow:=fun _=>false) (wf:=fun _=>false) Ty.mixed Tryz.func74 rfl Ty.hb_74 (by rw[Tryz.ntmps74];simp) ?_
       rw[Tryz.ntmps74,Tryz.results74]
       repeat'(first|refine a_seq fun K hK=>?_|(refine a_block ?_)|((first|refine a_regionS ?_|refine a_ret ?_);simp(maxSteps:=2000000) only[Ty.w,simprocAttr,k1,k2,k3,k4,k5,k6])|(refine a_skip ?_;try simp only[pst0,simprocAttr])|(refine a_cond _ (by(try simp(maxSteps:=2000000) only[Ty.w,simprocAttr,k1,k2,k3,k4,k5,k6]);rfl) (fun hb=>?_) (fun hb=>?_)<;>(try simp only[hb0,decide_eq_true_eq,decide_eq_false_iff_not,simprocAttr]at hb)<;>(try(exfalso;omega)))|(refine hK _ _ ?_;clear hK;try simp only[pst0,simprocAttr]))
       refine⟨?_,((Grow.refl h).new _).set (Nat.le_refl _) _⟩
       simp only[listM,Sx.cells,Sx.rows,FrzTo,FrzL]
       exact⟨_,rfl,rfl,rfl,rfl,rfl,rfl,.inr (.inl ⟨rfl,.inr rfl⟩),trivial⟩
      ·rw [if_neg hz]
       have hw: ∀ (s:ByteArray)(h:Heap),PCall Tryz.prog 109 [sPV s] h fun r h'=>r= .agg (wordM s).cells∧h'=h:=fun s h=>rwd_c
       simp only[wordM,Sx.cells,Sx.rows]at hw
       simp only[Fm.cells]
       refine pcall_body (ow:=fun t=>t==51) (wf:=fun _=>false) Ty.mixed Tryz.func74 rfl Ty.hb_74 (by rw[Tryz.ntmps74];simp) ?_
       rw[Tryz.ntmps74,Tryz.results74]
       repeat'(first|(with_reducible refine a_hold 10 ?_)|refine a_seq fun K hK=>?_|(refine a_block ?_)|(refine a_regionS ?_;simp(maxSteps:=2000000) only[Ty.w,simprocAttr,k1,k2,k3,k4,k5])|(refine a_skip ?_;try simp only[pst0,simprocAttr])|(refine a_cond _ (by(try simp(maxSteps:=2000000) only[Ty.w,simprocAttr,k1,k2,k3,k4,k5]);rfl) (fun hb=>?_) (fun hb=>?_)<;>(try simp only[hb0,decide_eq_true_eq,decide_eq_false_iff_not,simprocAttr]at hb)<;>(try(exfalso;omega)))|(refine hK _ _ ?_;clear hK;try simp only[pst0,simprocAttr]))
       refine⟨?_⟩
       refine a_cut (fun S h'=>S 1= .cptr (Fm.mk op name args params exprs kids).cells∧S 2= .ptr h.next 0 0∧h'=h.new (.arr 6 [[.sc (.int .i64 0),.sc (.int .i64 0),.sc (.int .i64 0),.sc (.int .i64 0),.sc (.string ⟨#[]⟩),.sc (.slice none 0 0)]])) ?_ ?_
       ·cases k6:(op.data.toList==(#[97,110,100]:Array UInt8).toList)with
        |false=>
         repeat'(first|refine a_seq fun K hK=>?_|(refine a_regionS ?_;simp(maxSteps:=2000000) only[Ty.w,simprocAttr,k6])|(refine a_skip ?_;try simp only[pst0,simprocAttr])|(refine a_cond _ (by(try simp(maxSteps:=2000000) only[Ty.w,simprocAttr,k6]);rfl) (fun hb=>?_) (fun hb=>?_)<;>(try simp only[hb0,decide_eq_true_eq,decide_eq_false_iff_not,simprocAttr]at hb)<;>(try(exfalso;omega)))|(refine hK _ _ ?_;clear hK;try simp only[pst0,simprocAttr]))
         all_goals first|rfl|trivial|((try refine⟨?_,?_,?_⟩)<;>first|rfl|trivial)|((try refine⟨?_,?_⟩)<;>first|rfl|trivial)
        |true=>
         have hk0:((kids.length:Int)==0)=false:=by
          cases kids with
          |nil=>exact absurd (by rw[n6,k6];try rfl) hz
          |cons a l=>simp;omega
         repeat'(first|refine a_seq fun K hK=>?_|(refine a_regionS ?_;simp(maxSteps:=2000000) only[Ty.w,simprocAttr,k6,hk0,hlK])|(refine a_skip ?_;try simp only[pst0,simprocAttr])|(refine a_cond _ (by(try simp(maxSteps:=2000000) only[Ty.w,simprocAttr,k6,hk0,hlK]);rfl) (fun hb=>?_) (fun hb=>?_)<;>(try simp only[hb0,decide_eq_true_eq,decide_eq_false_iff_not,simprocAttr]at hb)<;>(try(exfalso;omega)))|(refine hK _ _ ?_;clear hK;try simp only[pst0,simprocAttr]))
         all_goals first|rfl|trivial|((try refine⟨?_,?_,?_⟩)<;>first|rfl|trivial)|((try refine⟨?_,?_⟩)<;>first|rfl|trivial)
       ·rintro S h' ⟨g1,g2,rfl⟩
        simp only[Fm.cells]at g1
        repeat'(first|refine a_seq fun K hK=>?_|(refine a_regionS ?_;simp(maxSteps:=2000000) only[Ty.w,simprocAttr,g1,g2]))
        refine owp_useQ (hw op _) (by(try simp only[Ty.w,simprocAttr,g1,g2]);try rfl) ?_;simp(maxSteps:=2000000) only[Ty.w,simprocAttr,g1,g2]
        repeat'(first|(with_reducible refine a_hold 13 ?_)|(refine hK _ _ ?_;clear hK;try simp only[pst0,simprocAttr]))
        refine⟨?_⟩
        refine a_cut (fun S h'=>S 1= .cptr (Fm.mk op name args params exprs kids).cells∧S 2= .ptr h.next 0 0∧ ∃ id,S 3= .own id 0 (wordM op::(if isQ op=true then[listM (paramsW params)]else[])).length∧Grow h h'∧h.next<id∧id<h'.next∧h'.obj h.next=some (.arr 6 [[.sc (.int .i64 0),.sc (.int .i64 0),.sc (.int .i64 0),.sc (.int .i64 0),.sc (.string ⟨#[]⟩),.sc (.slice none 0 0)]])∧h'.obj id=some (.arr 6 (Sx.rows (wordM op::(if isQ op=true then[listM (paramsW params)]else[]))))) ?_ ?_
        ·have n7:bEq op opAll=(op.data.toList==(#[102,111,114,97,108,108]:Array UInt8).toList):=rfl
         have n8:bEq op opSome=(op.data.toList==(#[101,120,105,115,116,115]:Array UInt8).toList):=rfl
         cases k7:(op.data.toList==(#[102,111,114,97,108,108]:Array UInt8).toList)with
         |true=>
          rw[if_pos (by simp[isQ,n7,n8,k7])]
          have hwp:=rwriteParams_c (l:=params) hpl
          simp only[listM,wordM,Sx.rows,Sx.cells,List.length_cons,List.length_nil]
          generalize Sx.rows (paramsW params)=PR at hwp⊢
          repeat'(first|refine a_seq fun K hK=>?_|(refine a_regionS ?_;simp(maxSteps:=2000000) only[Ty.w,simprocAttr,g1,g2,k7,nsucc,Nat.add_eq_left,Nat.one_ne_zero])|(refine a_cond _ (by(try simp(maxSteps:=2000000) only[Ty.w,simprocAttr,g1,g2,k7,nsucc,Nat.add_eq_left,Nat.one_ne_zero]);rfl) (fun hb=>?_) (fun hb=>?_)<;>(try simp only[hb0,decide_eq_true_eq,decide_eq_false_iff_not,simprocAttr]at hb)<;>(try(exfalso;omega)))|(refine hK _ _ ?_;clear hK;try simp only[pst0,simprocAttr]))
          refine owp_useQ (hwp _) (by(try simp only[Ty.w,simprocAttr,g1,g2,k7]);try rfl) ?_;simp(maxSteps:=2000000) only[Ty.w,simprocAttr,g1,g2,k7]
          skip
          refine⟨rfl,h.next+1+1,?_,((((Grow.refl h).new _).new _).kill (Nat.le_succ _)).new _,by omega,by simp[Heap.new,Heap.kill],?_,?_⟩
          all_goals first|rfl|(simp[Heap.new,Heap.kill];done)|(simp[Heap.new,Heap.kill];omega)
         |false=>
          cases k8:(op.data.toList==(#[101,120,105,115,116,115]:Array UInt8).toList)with
          |true=>
           rw[if_pos (by simp[isQ,n7,n8,k7,k8])]
           have hwp:=rwriteParams_c (l:=params) hpl
           simp only[listM,wordM,Sx.rows,Sx.cells,List.length_cons,List.length_nil]
           generalize Sx.rows (paramsW params)=PR at hwp⊢
           repeat'(first|refine a_seq fun K hK=>?_|(refine a_regionS ?_;simp(maxSteps:=2000000) only[Ty.w,simprocAttr,g1,g2,k7,k8,nsucc,Nat.add_eq_left,Nat.one_ne_zero])|(refine a_cond _ (by(try simp(maxSteps:=2000000) only[Ty.w,simprocAttr,g1,g2,k7,k8,nsucc,Nat.add_eq_left,Nat.one_ne_zero]);rfl) (fun hb=>?_) (fun hb=>?_)<;>(try simp only[hb0,decide_eq_true_eq,decide_eq_false_iff_not,simprocAttr]at hb)<;>(try(exfalso;omega)))|(refine hK _ _ ?_;clear hK;try simp only[pst0,simprocAttr]))
           refine owp_useQ (hwp _) (by(try simp only[Ty.w,simprocAttr,g1,g2,k7,k8]);try rfl) ?_;simp(maxSteps:=2000000) only[Ty.w,simprocAttr,g1,g2,k7,k8]
           skip
           refine⟨rfl,h.next+1+1,?_,((((Grow.refl h).new _).new _).kill (Nat.le_succ _)).new _,by omega,by simp[Heap.new,Heap.kill],?_,?_⟩
           all_goals first|rfl|(simp[Heap.new,Heap.kill];done)|(simp[Heap.new,Heap.kill];omega)
          |false=>
           rw[if_neg (by simp[isQ,n7,n8,k7,k8])]
           simp only[wordM,Sx.rows,Sx.cells,List.length_cons,List.length_nil]
           repeat'(first|refine a_seq fun K hK=>?_|(refine a_regionS ?_;simp(maxSteps:=2000000) only[Ty.w,simprocAttr,g1,g2,k7,k8])|(refine a_skip ?_;try simp only[pst0,simprocAttr])|(refine a_cond _ (by(try simp(maxSteps:=2000000) only[Ty.w,simprocAttr,g1,g2,k7,k8]);rfl) (fun hb=>?_) (fun hb=>?_)<;>(try simp only[hb0,decide_eq_true_eq,decide_eq_false_iff_not,simprocAttr]at hb)<;>(try(exfalso;omega)))|(refine hK _ _ ?_;clear hK;try simp only[pst0,simprocAttr]))
           (try simp(maxSteps:=2000000) only[Ty.w,simprocAttr,Ty.all,g1,g2])
           refine⟨rfl,h.next+1,?_,((Grow.refl h).new _).new _,by omega,by simp[Heap.new],?_,?_⟩
           all_goals first|rfl|simp[Heap.new]
        ·clear g1 g2 S
         obtain⟨L1,hL1,hl1⟩: ∃ L1:List Sx,(wordM op::(if isQ op=true then[listM (paramsW params)]else[]))=L1∧L1.length≤2:=⟨_,rfl,by split<;>simp⟩
         have hfin:[wordM op]++(if isQ op=true then[listM (paramsW params)]else[])++fmWs kids=L1++kids.map fmW:=by rw[← hL1,fmWs_map];try rfl
         rw[hfin,hL1]
         clear hL1 hfin
         rintro S h' ⟨g1,g2,id,g3,hg,hlo,hhi,o1,o2⟩
         simp only[Fm.cells]at g1
         have hrl: ∀ k,(L1++(kids.take k).map fmW).length≤1048578:=fun k=>by simp;omega
         repeat'(first|refine a_seq fun K hK=>?_|(refine a_block ?_)|(refine a_regionS ?_;simp(maxSteps:=2000000) only[Ty.w,simprocAttr,g1,g2,g3,hlK])|(refine hK _ _ ?_;clear hK;try simp only[pst0,simprocAttr]))
         refine a_loop (fun c S h'=>S 1= .cptr (Fm.mk op name args params exprs kids).cells∧S 2= .ptr h.next 0 0∧ ∃ k id:Nat,S 4= .sc (.int .i64 k)∧S 3= .own id 0 (L1++(kids.take k).map fmW).length∧k≤kids.length∧c=kids.length-k∧Grow h h'∧h.next<id∧id<h'.next∧h'.obj h.next=some (.arr 6 [[.sc (.int .i64 0),.sc (.int .i64 0),.sc (.int .i64 0),.sc (.int .i64 0),.sc (.string ⟨#[]⟩),.sc (.slice none 0 0)]])∧h'.obj id=some (.arr 6 (Sx.rows (L1++(kids.take k).map fmW)))) kids.length ?_ ?_
         ·simp only[Ty.w,simprocAttr,g1,g2,g3]
          exact⟨rfl,0,id,rfl,by simp,by omega,rfl,hg,hlo,hhi,o1,by simpa using o2⟩
         ·clear g1 g2 g3 o1 o2 hg hlo hhi S
          rintro c S h' ⟨g1,g2,k,id,g4,g3,hk,rfl,hg,hlo,hhi,o1,o2⟩
          simp only[Fm.cells]at g1
          by_cases hlt:k<kids.length
          ·have hdk:decide ((k:Int)<(kids.length:Int))=true:=by simp;omega
           have w7:IntKind.i64.wrap ((k:Int)+1)=k+1:=by rw[wrap64 (by omega) (by omega)]
           obtain⟨x,hx⟩: ∃ x,kids[k]? =some x:=⟨_,List.getElem?_eq_getElem hlt⟩
           have hmem:=List.mem_of_getElem? hx
           have hr:=Fm.rows_get hx
           have hcx:=ih x hmem (hks x hmem) (hsk x hmem)
           have hL:L1++(kids.take (k+1)).map fmW=L1++(kids.take k).map fmW++[fmW x]:=by rw[List.take_add_one,hx];simp
           have hrk:=hrl k
           generalize L1++(kids.take k).map fmW=L2 at g3 o2 hrk hL
           generalize fmW x=X at hcx hL
           obtain⟨xo,xn,xa,xp,xe,xk⟩:=x
           obtain⟨ki,va,li,co,te,ks⟩:=X
           simp only[Fm.cells,Sx.cells]at hr hcx
           have hR:Sx.rows (L2++[.mk ki va li co te ks])=Sx.rows L2++[[.sc (.int .i64 ki),.sc (.int .i64 va),.sc (.int .i64 li),.sc (.int .i64 co),sPV te,.imm 6 (Sx.rows ks)]]:=by simp[Sx.rows_map,Sx.cells]
           have hpr:=Sx.rows_len L2
           generalize Sx.rows L2=R at o2 hpr hR
           have htk:List.take L2.length R=R:=List.take_of_length_le (by omega)
           have hb:(L2.length+1)*72≤140737488355328:=by omega
           have W:=And.intro g1 (And.intro g2 (And.intro g3 (And.intro g4 (And.intro hpr (And.intro htk (And.intro o2 hb))))))
           repeat'(first|refine a_seq fun K hK=>?_|(refine a_block ?_)|((first|refine a_regionS ?_|refine a_region (fun K hK=>?_));simp(maxSteps:=2000000) only[Ty.w,simprocAttr,W,hlK,hdk,hr])|(refine a_skip ?_;try simp only[pst0,simprocAttr])|(refine a_cond _ (by(try simp(maxSteps:=2000000) only[Ty.w,simprocAttr,W,hlK,hdk,hr]);rfl) (fun hb=>?_) (fun hb=>?_)<;>(try simp only[hb0,decide_eq_true_eq,decide_eq_false_iff_not,simprocAttr]at hb)<;>(try(exfalso;omega)))|(refine hK _ _ ?_;clear hK;try simp only[pst0,simprocAttr]))
           refine owp_useQ (hcx _) (by(try simp only[Ty.w,simprocAttr,W]);try rfl) ?_;simp(maxSteps:=2000000) only[Ty.w,simprocAttr,W]
           repeat'(first|(refine a_regionS ?_;simp(maxSteps:=2000000) only[Ty.w,simprocAttr,W,w7])|(refine hK _ _ ?_;clear hK;try simp only[pst0,simprocAttr])|(rw[if_pos];rotate_left 1;omega;simp(maxSteps:=2000000) only[Ty.w,simprocAttr,W,w7]))
           refine⟨kids.length-(k+1),by omega,rfl,k+1,h'.next,by simp,?_,by omega,rfl,(hg.kill (by omega)).new _,by omega,by simp[Heap.new,Heap.kill],?_,?_⟩
           ·rw [hL];simp
           ·rw [if_neg (by omega),if_neg (by omega)]
            exact o1
           ·rw [hL,hR];simp[Heap.new,Heap.kill]
          ·have hdk:decide ((k:Int)<(kids.length:Int))=false:=by simp;omega
           have hke:k=kids.length:=by omega
           subst hke
           rw[List.take_length]at o2 g3
           repeat'(first|refine a_seq fun K hK=>?_|((first|refine a_regionS ?_|refine a_ret ?_);simp(maxSteps:=2000000) only[Ty.w,simprocAttr,g1,g2,g3,g4,hlK,hdk,o1,o2])|(refine a_exit ?_;try simp only[pst0,simprocAttr])|(refine a_cond _ (by(try simp(maxSteps:=2000000) only[Ty.w,simprocAttr,g1,g2,g3,g4,hlK,hdk,o1,o2]);rfl) (fun hb=>?_) (fun hb=>?_)<;>(try simp only[hb0,decide_eq_true_eq,decide_eq_false_iff_not,simprocAttr]at hb)<;>(try(exfalso;omega)))|((first|refine hK _ _ ?_|(clear hK;refine hK _ _ ?_));clear hK;try simp only[pst0,simprocAttr]))
           refine⟨?_,hg.set (Nat.le_refl _) _⟩
           simp only[listM,Sx.cells,FrzTo,FrzL]
           refine⟨_,rfl,rfl,rfl,rfl,rfl,rfl,.inr (.inr ⟨id,0,_,Sx.rows (L1++kids.map fmW),rfl,by omega,?_,?_,?_⟩),trivial⟩
           ·simp only[Heap.set];rw[if_neg (by omega)];exact o2
           ·rw [Sx.rows_len];omega
           ·rw [List.drop_zero,List.take_of_length_le (by rw[Sx.rows_len];omega)]
            exact sxs_frz _ _ _
end Go.Proofs.YtjeolbgpllbemaaGreat
namespace Go.Proofs.YtjeolbgpllbemaaGreat
open Go.AM
def fkids:Fm→List Fm
 | .mk _ _ _ _ _ kids=>kids
section
variable {name:ByteArray}{args:List ByteArray}{params:List Pm}{exprs:List Ex}{kids p q:List Fm}{s:Bool}
end
theorem sf_cases{C:Fm→Prop}(f:Fm)(hf:shapedF f=true)
  (h1: ∀ name args,nameB name=true→args.all termB=true→C (.mk opAtom name args [] [] []))
  (h2: ∀ args,args.length=2→args.all termB=true→C (.mk opSame ⟨#[]⟩ args [] [] []))
  (h3: ∀ op a b,(op=opLt∨op=opLe∨op=opEq)→shapedE a=true→shapedE b=true→C (.mk op ⟨#[]⟩ [] [] [a,b] []))
  (h4: ∀ op kids,(op=opAnd∨op=opOr)→(∀ k∈kids,shapedF k=true)→C (.mk op ⟨#[]⟩ [] [] [] kids))
  (h5: ∀ k,shapedF k=true→C (.mk opNot ⟨#[]⟩ [] [] [] [k]))
  (h6: ∀ a b,shapedF a=true→shapedF b=true→C (.mk opImp ⟨#[]⟩ [] [] [] [a,b]))
  (h7: ∀ op params k,(op=opAll∨op=opSome)→params.all pmOk=true→shapedF k=true→C (.mk op ⟨#[]⟩ [] params [] [k])):C f:=by
 obtain⟨op,name,args,params,exprs,kids⟩:=f
 simp only[shapedF,Bool.and_eq_true,List.all_eq_true]at hf
 obtain⟨⟨hp,he⟩,hk⟩:=hf
 rw[shapedFs_iff]at hk
 rcases partsOk_cases hp with⟨rfl,a1,a2,rfl,a3,a4⟩|⟨rfl,rfl,a1,a2,rfl,a3,a4⟩|⟨a1,rfl,rfl,rfl,a3,a4⟩|⟨a1,rfl,rfl,rfl,a3⟩|⟨a1,rfl,rfl,a3,a4,a5⟩
 ·obtain rfl:=List.eq_nil_of_length_eq_zero a3
  obtain rfl:=List.eq_nil_of_length_eq_zero a4
  exact h1 _ _ a1 a2
 ·obtain rfl:=List.eq_nil_of_length_eq_zero a3
  obtain rfl:=List.eq_nil_of_length_eq_zero a4
  exact h2 _ a1 a2
 ·obtain rfl:=List.eq_nil_of_length_eq_zero a4
  match exprs,a3,he with
  |[a,b],_,he=>exact h3 _ _ _ a1 (he a (by simp)) (he b (by simp))
 ·obtain rfl:=List.eq_nil_of_length_eq_zero a3
  rcases a1 with rfl|rfl|⟨rfl,a4⟩|⟨rfl,a4⟩
  ·exact h4 _ _ (.inl rfl) hk
  ·exact h4 _ _ (.inr rfl) hk
  ·match kids,a4,hk with
   |[k],_,hk=>exact h5 _ (hk k (by simp))
  ·match kids,a4,hk with
   |[a,b],_,hk=>exact h6 _ _ (hk a (by simp)) (hk b (by simp))
 ·obtain rfl:=List.eq_nil_of_length_eq_zero a3
  match kids,a4,hk with
  |[k],_,hk=>exact h7 _ _ _ a1 a5 (hk k (by simp))
theorem sf_ind{C:Fm→Prop}
  (h1: ∀ name args,nameB name=true→args.all termB=true→C (.mk opAtom name args [] [] []))
  (h2: ∀ args,args.length=2→args.all termB=true→C (.mk opSame ⟨#[]⟩ args [] [] []))
  (h3: ∀ op a b,(op=opLt∨op=opLe∨op=opEq)→shapedE a=true→shapedE b=true→C (.mk op ⟨#[]⟩ [] [] [a,b] []))
  (h4: ∀ op kids,(op=opAnd∨op=opOr)→(∀ k∈kids,shapedF k=true)→(∀ k∈kids,C k)→C (.mk op ⟨#[]⟩ [] [] [] kids))
  (h5: ∀ k,shapedF k=true→C k→C (.mk opNot ⟨#[]⟩ [] [] [] [k]))
  (h6: ∀ a b,shapedF a=true→shapedF b=true→C a→C b→C (.mk opImp ⟨#[]⟩ [] [] [] [a,b]))
  (h7: ∀ op params k,(op=opAll∨op=opSome)→params.all pmOk=true→shapedF k=true→C k→C (.mk op ⟨#[]⟩ [] params [] [k])): ∀ f,shapedF f=true→C f:=by
 refine Fm.ind (C:=fun f=>shapedF f=true→C f) ?_
 intro op name args params exprs kids ih hf
 refine sf_cases (C:=fun f=>(∀ k∈fkids f,shapedF k=true→C k)→C f) _ hf (fun a b c d _=>h1 a b c d) (fun a b c _=>h2 a b c) (fun a b c d e f _=>h3 a b c d e f) (fun a b c d ih=>h4 a b c d fun k hk=>ih k hk (d k hk)) (fun k hk ih=>h5 k hk (ih k (by simp[fkids]) hk)) (fun a b ha hb ih=>h6 a b ha hb (ih a (by simp[fkids]) ha) (ih b (by simp[fkids]) hb)) (fun op ps k a b c ih=>h7 op ps k a b c (ih k (by simp[fkids]) c)) ?_
 exact ih
end Go.Proofs.YtjeolbgpllbemaaGreat
namespace Go.AM
end Go.AM
namespace Go.Proofs.YtjeolbgpllbemaaGreat
open Go.AM
section
variable {v:ByteArray→Bool}{x:ByteArray}
end
structure Intp(B:Type) where
 A:ByteArray→List ByteArray→B→Bool
 S:List ByteArray→B→Bool
 V:Ex→B→Int
 a:Pm→B→B
 b:Pm→B→B
section
variable {B:Type}(I:Intp B)
end
end Go.Proofs.YtjeolbgpllbemaaGreat
namespace Go.AM
abbrev key(s:ByteArray):List UInt8:=s.data.toList
end Go.AM
namespace Go.Proofs.YtjeolbgpllbemaaGreat
open Go.AM
end Go.Proofs.YtjeolbgpllbemaaGreat
namespace Go.Proofs.YtjeolbgpllbemaaGreat
open Go.AM
theorem nodess_append: ∀ l m:List Sx,Sx.nodess (l++m)=Sx.nodess l+Sx.nodess m
 |[],m=>by simp[Sx.nodess]
 |k::l,m=>by simp only[List.cons_append,Sx.nodess,nodess_append l m];omega
theorem list_nodes(l:List Sx):(listM l).nodes=Sx.nodess l+1:=by simp only[listM,Sx.nodes]
theorem word_nodes(s:ByteArray):(wordM s).nodes=1:=by simp[wordM,Sx.nodes,Sx.nodess]
theorem formed_of: ∀ (e:Ex),shapedE e=true→ ∀ (d n:Nat),d+(exW e).depth≤32→n+(exW e).nodes≤4096→(formedM e d n).1=true∧(formedM e d n).2≤n+(exW e).nodes:=by
 refine Ex.ind ?_
 intro op name v args kids ih hs d n hd hn
 unfold shapedE at hs
 unfold exW at hd hn⊢
 unfold formedM
 cases c1:bEq op opNum with
 |true=>
  rw[c1]at hs hd hn
  simp only[if_true]at hs hd hn⊢
  simp only[Sx.nodes,Sx.nodess]at hn⊢
  rw[if_pos ⟨by omega,by omega⟩]
  exact⟨hs,by simp only;omega⟩
 |false=>
  rw[c1]at hs hd hn
  simp only[Bool.false_eq_true,if_false]at hs hd hn⊢
  cases c2:bEq op opFlu with
  |true=>
   rw[c2]at hs hd hn
   simp only[if_true]at hs hd hn⊢
   simp only[wordsM,listM,Sx.nodes]at hn⊢
   rw[if_pos ⟨by omega,by omega⟩]
   exact⟨hs,by simp only;omega⟩
  |false=>
   rw[c2]at hs hd hn
   simp only[Bool.false_eq_true,if_false]at hs hd hn⊢
   split at hs
   case isFalse=>simp at hs
   rename_i hop
   rw[if_pos hop]
   rw[Bool.and_eq_true]at hs
   obtain⟨h1,h2⟩:=hs
   rw[h1]
   simp only[if_true]
   split at h2
   case h_2=>simp at h2
   rename_i a b
   simp only[Bool.and_eq_true]at h2
   simp only[listM,Sx.depth,Sx.depths,Sx.nodes,Sx.nodess,wordM,if_true]at hd hn⊢
   have k1:¬ ((1:Int)=3):=by omega
   rw[if_neg k1]at hd
   rw[if_pos ⟨by omega,by omega⟩]
   obtain⟨f1,f2⟩:=ih a (by simp) h2.1 (d+1) (n+1) (by omega) (by omega)
   cases hw:formedM a (d+1) (n+1)with
   |mk x c=>
    rw[hw]at f1 f2
    simp only at f1 f2
    subst f1
    simp only
    obtain⟨g1,g2⟩:=ih b (by simp) h2.2 (d+1) c (by omega) (by omega)
    exact⟨g1,by omega⟩
end Go.Proofs.YtjeolbgpllbemaaGreat
namespace Go.Proofs.YtjeolbgpllbemaaGreat
open Go.AM
theorem list_depth{l:List Sx}{k:Sx}(h:k∈l):k.depth+1≤(listM l).depth:=by
 have:=Sx.depths_mem 0 h
 simp only[listM,Sx.depth,if_true];omega
theorem fmW_rest{op name:ByteArray}{args:List ByteArray}{params:List Pm}{exprs:List Ex}{kids:List Fm}(h1:bEq op opAtom=false)(h2:bEq op opSame=false)(h3:isCmp op=false): ∃ pre,fmW (.mk op name args params exprs kids)=listM (pre++kids.map fmW):=by
 unfold fmW
 rw[h1,h2,h3,fmWs_map]
 exact⟨_,rfl⟩
theorem fmW_parts: ∀ f,shapedF f=true→match f with
  | .mk _ _ _ _ exprs kids=>1+Sx.nodess (exprs.map exW)+Sx.nodess (kids.map fmW)≤(fmW f).nodes∧1≤(fmW f).depth∧(∀ e∈exprs,(exW e).depth+1≤(fmW f).depth)∧(∀ k∈kids,(fmW k).depth+1≤(fmW f).depth):=by
 intro f hf
 have d1: ∀ l:List Sx,1≤(listM l).depth:=fun l=>by simp only[listM,Sx.depth,if_true];omega
 have rest: ∀ {op:ByteArray}{params:List Pm}{kids:List Fm}{pre:List Sx},fmW (.mk op ⟨#[]⟩ [] params [] kids)=listM (pre++kids.map fmW)→
   1+Sx.nodess (([]:List Ex).map exW)+Sx.nodess (kids.map fmW)≤(fmW (.mk op ⟨#[]⟩ [] params [] kids)).nodes∧1≤(fmW (.mk op ⟨#[]⟩ [] params [] kids)).depth∧(∀ e∈([]:List Ex),(exW e).depth+1≤(fmW (.mk op ⟨#[]⟩ [] params [] kids)).depth)∧(∀ k∈kids,(fmW k).depth+1≤(fmW (.mk op ⟨#[]⟩ [] params [] kids)).depth):=by
  intro op params kids pre e
  rw[e]
  refine⟨?_,d1 _,by simp,fun k hk=>list_depth (List.mem_append.2 (.inr (List.mem_map.2 ⟨k,hk,rfl⟩)))⟩
  rw[list_nodes,nodess_append];simp only[List.map_nil,Sx.nodess];omega
 refine sf_cases (C:=fun f=>match f with
  | .mk _ _ _ _ exprs kids=>1+Sx.nodess (exprs.map exW)+Sx.nodess (kids.map fmW)≤(fmW f).nodes∧1≤(fmW f).depth∧(∀ e∈exprs,(exW e).depth+1≤(fmW f).depth)∧(∀ k∈kids,(fmW k).depth+1≤(fmW f).depth)) f hf ?_ ?_ ?_ ?_ ?_ ?_ ?_
 ·intro name args _ _
  have e:fmW (.mk opAtom name args [] [] [])=wordsM name args:=rfl
  simp only[e]
  exact⟨by simp only[wordsM,list_nodes,List.map_nil,Sx.nodess];omega,d1 _,by simp,by simp⟩
 ·intro args _ _
  have e:fmW (.mk opSame ⟨#[]⟩ args [] [] [])=wordsM opEq args:=rfl
  simp only[e]
  exact⟨by simp only[wordsM,list_nodes,List.map_nil,Sx.nodess];omega,d1 _,by simp,by simp⟩
 ·intro op a b ho _ _
  have e:fmW (.mk op ⟨#[]⟩ [] [] [a,b] [])=listM [wordM op,exW a,exW b]:=by rcases ho with rfl|rfl|rfl<;>rfl
  simp only[e]
  refine⟨?_,d1 _,?_,by simp⟩
  ·simp only[list_nodes,List.map_cons,List.map_nil,Sx.nodess,word_nodes];omega
  ·intro x hx
   simp only[List.mem_cons,List.not_mem_nil,or_false]at hx
   rcases hx with rfl|rfl<;>exact list_depth (by simp)
 ·intro op kids ho _
  obtain⟨pre,e⟩: ∃ pre,fmW (.mk op ⟨#[]⟩ [] [] [] kids)=listM (pre++kids.map fmW):=by rcases ho with rfl|rfl<;>exact fmW_rest rfl rfl rfl
  exact rest e
 ·intro k _
  obtain⟨pre,e⟩: ∃ pre,fmW (.mk opNot ⟨#[]⟩ [] [] [] [k])=listM (pre++[k].map fmW):=fmW_rest rfl rfl rfl
  exact rest e
 ·intro a b _ _
  obtain⟨pre,e⟩: ∃ pre,fmW (.mk opImp ⟨#[]⟩ [] [] [] [a,b])=listM (pre++[a,b].map fmW):=fmW_rest rfl rfl rfl
  exact rest e
 ·intro op params k ho _ _
  obtain⟨pre,e⟩: ∃ pre,fmW (.mk op ⟨#[]⟩ [] params [] [k])=listM (pre++[k].map fmW):=by rcases ho with rfl|rfl<;>exact fmW_rest rfl rfl rfl
  exact rest e
theorem formeds_of: ∀ (l:List Ex),(∀ e∈l,shapedE e=true)→ ∀ (d n:Nat),(∀ e∈l,d+(exW e).depth≤32)→n+Sx.nodess (l.map exW)≤4096→(formedMs l d n).1=true∧(formedMs l d n).2≤n+Sx.nodess (l.map exW)
 |[],_,d,n,_,hn=>by simp[formedMs,Sx.nodess]
 |e::l,hs,d,n,hd,hn=>by
  simp only[List.map_cons,Sx.nodess]at hn⊢
  obtain⟨f1,f2⟩:=formed_of e (hs e (by simp)) d n (hd e (by simp)) (by omega)
  unfold formedMs
  cases hw:formedM e d n with
  |mk x c=>
   rw[hw]at f1 f2
   simp only at f1 f2
   subst f1
   simp only
   obtain⟨g1,g2⟩:=formeds_of l (fun q hq=>hs q (by simp[hq])) d c (fun q hq=>hd q (by simp[hq])) (by omega)
   exact⟨g1,by omega⟩
theorem shapeds_of: ∀ (l:List Fm)(d:Nat),(∀ k∈l, ∀ n,n+(fmW k).nodes≤4096→(shapedM k d n).1=true∧(shapedM k d n).2≤n+(fmW k).nodes)→ ∀ n,n+Sx.nodess (l.map fmW)≤4096→(shapedMs l d n).1=true∧(shapedMs l d n).2≤n+Sx.nodess (l.map fmW)
 |[],_,_,n,hn=>by simp[shapedMs,Sx.nodess]
 |k::l,d,h,n,hn=>by
  simp only[List.map_cons,Sx.nodess]at hn⊢
  obtain⟨f1,f2⟩:=h k (by simp) n (by omega)
  unfold shapedMs
  cases hw:shapedM k d n with
  |mk x c=>
   rw[hw]at f1 f2
   simp only at f1 f2
   subst f1
   simp only
   obtain⟨g1,g2⟩:=shapeds_of l d (fun q hq=>h q (by simp[hq])) c (by omega)
   exact⟨g1,by omega⟩
theorem shaped_of: ∀ (f:Fm),shapedF f=true→ ∀ (d n:Nat),d+(fmW f).depth≤32→n+(fmW f).nodes≤4096→(shapedM f d n).1=true∧(shapedM f d n).2≤n+(fmW f).nodes:=by
 refine Fm.ind ?_
 intro op name args params exprs kids ih hs d n hd hn
 have hp:=fmW_parts _ hs
 simp only at hp
 obtain⟨p1,p2,p3,p4⟩:=hp
 have hs2:=hs
 simp only[shapedF,Bool.and_eq_true,List.all_eq_true]at hs2
 obtain⟨⟨h1,h2⟩,h3⟩:=hs2
 rw[shapedFs_iff]at h3
 generalize fmW (.mk op name args params exprs kids)=X at*
 unfold shapedM
 rw[if_pos ⟨by omega,by omega⟩,if_pos h1]
 obtain⟨f1,f2⟩:=formeds_of exprs h2 (d+1) (n+1) (fun e he=>by have:=p3 e he;omega) (by omega)
 cases hw:formedMs exprs (d+1) (n+1)with
 |mk x c=>
  rw[hw]at f1 f2
  simp only at f1 f2
  subst f1
  simp only
  obtain⟨g1,g2⟩:=shapeds_of kids (d+1) (fun k hk m hm=>ih k hk (h3 k hk) (d+1) m (by have:=p4 k hk;omega) hm) c (by omega)
  exact⟨g1,by omega⟩
end Go.Proofs.YtjeolbgpllbemaaGreat
namespace Go.Proofs.YtjeolbgpllbemaaGreat
open Go.AM
theorem nameW{s:ByteArray}(h:nameB s=true):wordR s=true:=by rw[← word_same];exact name_word h
theorem varW{s:ByteArray}(h:varB s=true):wordR s=true:=by rw[← word_same];exact(var_word h).1
theorem term_word{s:ByteArray}(h:termB s=true):wordR s=true:=by
 simp only[termB,Bool.or_eq_true]at h
 exact h.elim nameW varW
theorem ss_word{s:ByteArray}(h:wordR s=true):shapedS (wordM s)=true:=by simp[wordM,shapedS,h]
theorem shapedSs_iff: ∀ {l:List Sx},(shapedSs l=true↔ ∀ k∈l,shapedS k=true)
 |[]=>by simp[shapedSs]
 |k::l=>by simp[shapedSs,shapedSs_iff (l:=l)]
theorem ss_list{l:List Sx}(h: ∀ k∈l,shapedS k=true):shapedS (listM l)=true:=by
 unfold listM shapedS
 rw[if_neg (by decide),if_neg (by decide),if_pos rfl,shapedSs_iff.2 h];try rfl
theorem ss_words{first:ByteArray}{l:List ByteArray}(h0:wordR first=true)(h:l.all termB=true):shapedS (wordsM first l)=true:=by
 refine ss_list fun k hk=>?_
 simp only[List.map_cons,List.mem_cons,List.mem_map]at hk
 rcases hk with rfl|⟨s,hs,rfl⟩
 ·exact ss_word h0
 ·exact ss_word (term_word (List.all_eq_true.1 h s hs))
theorem exW_ss: ∀ e:Ex,shapedE e=true→shapedS (exW e)=true:=by
 refine Ex.ind ?_
 intro op name n args kids ih h
 unfold shapedE at h
 unfold exW
 split at h
 ·rename_i c
  rw[if_pos c]
  simp only[Bool.and_eq_true]at h
  have:=h.2
  simp only[inNum,Bool.and_eq_true,decide_eq_true_eq]at this
  simp[shapedS,this.1,this.2]
 ·rename_i c
  rw[if_neg c]
  split at h
  ·rename_i c2
   rw[if_pos c2]
   simp only[Bool.and_eq_true]at h
   exact ss_words (nameW h.1.2) h.2
  ·rename_i c2
   rw[if_neg c2]
   split at h
   case isFalse=>simp at h
   rename_i c3
   simp only[Bool.and_eq_true]at h
   obtain⟨_,h4⟩:=h
   split at h4
   case h_2=>simp at h4
   rename_i a b
   simp only[Bool.and_eq_true]at h4
   have hop:wordR op=true:=by
    simp only[Bool.or_eq_true]at c3
    rcases c3 with(h|h)|h<;>rw[bEq_eq h]<;>decide
   refine ss_list fun k hk=>?_
   simp only[List.mem_cons,List.not_mem_nil,or_false]at hk
   rcases hk with rfl|rfl|rfl
   ·exact ss_word hop
   ·exact ih a (by simp) h4.1
   ·exact ih b (by simp) h4.2
theorem params_ss: ∀ l:List Pm,l.all pmOk=true→ ∀ k∈paramsW l,shapedS k=true
 |[],_=>by simp[paramsW]
 |p::l,h=>by
  simp only[List.all_cons,Bool.and_eq_true,pmOk]at h
  obtain⟨⟨h1,h2⟩,h3⟩:=h
  have ht:wordR p.type=true:=by
   simp only[typedB,Bool.or_eq_true]at h2
   rcases h2 with h2|h2
   ·exact nameW h2
   ·rw [bEq_eq h2];decide
  intro k hk
  simp only[paramsW,List.mem_cons]at hk
  rcases hk with rfl|rfl|rfl|hk
  ·exact ss_word (varW h1)
  ·exact ss_word (by decide)
  ·exact ss_word ht
  ·exact params_ss l h3 k hk
theorem fmW_ss: ∀ f:Fm,shapedF f=true→shapedS (fmW f)=true:=by
 refine sf_ind ?_ ?_ ?_ ?_ ?_ ?_ ?_
 ·intro name args h1 h2
  exact ss_words (nameW h1) h2
 ·intro args _ h2
  exact ss_words (by decide) h2
 ·intro op a b ho ha hb
  have e:fmW (.mk op ⟨#[]⟩ [] [] [a,b] [])=listM [wordM op,exW a,exW b]:=by rcases ho with rfl|rfl|rfl<;>rfl
  have hop:wordR op=true:=by rcases ho with rfl|rfl|rfl<;>decide
  rw[e]
  refine ss_list fun k hk=>?_
  simp only[List.mem_cons,List.not_mem_nil,or_false]at hk
  rcases hk with rfl|rfl|rfl
  ·exact ss_word hop
  ·exact exW_ss a ha
  ·exact exW_ss b hb
 ·intro op kids ho _ ih
  have e: ∃ pre,(∀ k∈pre,shapedS k=true)∧fmW (.mk op ⟨#[]⟩ [] [] [] kids)=listM (pre++kids.map fmW):=by
   have hop:wordR op=true:=by rcases ho with rfl|rfl<;>decide
   have hx:fmW (.mk op ⟨#[]⟩ [] [] [] kids)=listM ((if(bEq op opAnd&&kids.isEmpty)=true then[]else[wordM op])++kids.map fmW):=by
    unfold fmW
    rw[fmWs_map]
    rcases ho with rfl|rfl
    ·rw [if_neg (by decide),if_neg (by decide),if_neg (by decide),if_neg (show ¬ isQ opAnd=true by decide),List.append_nil]
    ·rw [if_neg (by decide),if_neg (by decide),if_neg (by decide),if_neg (show ¬ isQ opOr=true by decide),List.append_nil]
   refine⟨_,?_,hx⟩
   intro k hk
   split at hk
   ·simp at hk
   ·simp only[List.mem_singleton]at hk;subst hk;exact ss_word hop
  obtain⟨pre,hp,e⟩:=e
  rw[e]
  refine ss_list fun k hk=>?_
  rcases List.mem_append.1 hk with hk|hk
  ·exact hp k hk
  ·obtain ⟨y,hy,rfl⟩:=List.mem_map.1 hk;exact ih y hy
 ·intro k _ ih
  exact ss_list (l:=[wordM opNot,fmW k]) fun y hy=>by
   simp only[List.mem_cons,List.not_mem_nil,or_false]at hy
   rcases hy with rfl|rfl
   ·exact ss_word (by decide)
   ·exact ih
 ·intro a b _ _ iha ihb
  exact ss_list (l:=[wordM opImp,fmW a,fmW b]) fun y hy=>by
   simp only[List.mem_cons,List.not_mem_nil,or_false]at hy
   rcases hy with rfl|rfl|rfl
   ·exact ss_word (by decide)
   ·exact iha
   ·exact ihb
 ·intro op params k ho hp _ ih
  have e:fmW (.mk op ⟨#[]⟩ [] params [] [k])=listM [wordM op,listM (paramsW params),fmW k]:=by rcases ho with rfl|rfl<;>rfl
  have hop:wordR op=true:=by rcases ho with rfl|rfl<;>decide
  rw[e]
  refine ss_list fun y hy=>?_
  simp only[List.mem_cons,List.not_mem_nil,or_false]at hy
  rcases hy with rfl|rfl|rfl
  ·exact ss_word hop
  ·exact ss_list (params_ss params hp)
  ·exact ih
theorem validF_iff{f:Fm}:validF f=true↔shapedF f=true∧(fmW f).depth≤32∧(fmW f).nodes≤4096:=by
 constructor
 ·intro h
  have hs:shapedF f=true:=by
   unfold validF at h
   simp only[Bool.and_eq_true]at h
   exact shapedM_F f 0 0 h.1
  unfold validF at h
  simp only[Bool.and_eq_true]at h
  have:=(svalid_iff (fmW f) 0 0 (by omega) (by omega)).1.1 h.2
  exact⟨hs,by omega,by omega⟩
 ·rintro ⟨hs,hd,hn⟩
  unfold validF
  rw[(shaped_of f hs 0 0 (by omega) (by omega)).1,(svalid_iff (fmW f) 0 0 (by omega) (by omega)).1.2 ⟨fmW_ss f hs,by omega,by omega⟩];try rfl
end Go.Proofs.YtjeolbgpllbemaaGreat
namespace Go.Proofs.YtjeolbgpllbemaaGreat
open Go.AM
set_option maxHeartbeats 8000000
set_option maxRecDepth 20000
theorem qword_c{h:Heap}{s:ByteArray}:PCall Tryz.prog 70 [sPV s] h fun r h'=>r= .agg (wordM s).cells∧h'=h:=by
 refine PCall.frz Ty.hb_70 ?_
 refine pcall_body (ow:=fun _=>false) (wf:=fun _=>false) Ty.mixed Tryz.func70 rfl Ty.hb_70 (by rw[Tryz.ntmps70];simp) ?_
 rw[Tryz.ntmps70,Tryz.results70]
 repeat'(first|refine a_seq fun K hK=>?_|((first|refine a_regionS ?_|refine a_ret ?_);simp(maxSteps:=2000000) only[Ty.w,simprocAttr])|(refine hK _ _ ?_;clear hK;try simp only[pst0,simprocAttr]))
 refine⟨?_,((Grow.refl h).new _).set (Nat.le_refl _) _⟩
 simp only[wordM,Sx.cells,Sx.rows,FrzTo,FrzL]
 exact⟨_,rfl,rfl,rfl,rfl,rfl,rfl,.inr (.inl ⟨rfl,.inr rfl⟩),trivial⟩
theorem qlist_c{s:ByteArray}{l:List Sx}(hl:l.length≤1099511627776)(h:Heap):PCall Tryz.prog 69 [sPV s,.imm 6 (Sx.rows l)] h fun r h'=>r= .agg (listM (wordM s::l)).cells∧h'=h:=by
 refine PCall.frz Ty.hb_69 ?_
 have hll:=Sx.rows_len l
 have hwd: ∀ (h:Heap),PCall Tryz.prog 70 [sPV s] h fun r h'=>r= .agg (wordM s).cells∧h'=h:=fun h=>qword_c
 simp only[wordM,Sx.cells,Sx.rows]at hwd
 have hbb:(1+l.length)*72≤140737488355328:=by omega
 have n1:(h.next=h.next+1+1)=False:=eq_false (by omega)
 refine pcall_body (ow:=fun t=>t==7) (wf:=fun _=>false) Ty.mixed Tryz.func69 rfl Ty.hb_69 (by rw[Tryz.ntmps69];simp) ?_
 rw[Tryz.ntmps69,Tryz.results69]
 repeat'(first|refine a_seq fun K hK=>?_|(refine a_regionS ?_;simp(maxSteps:=2000000) only[Ty.w,simprocAttr])|(refine hK _ _ ?_;clear hK;try simp only[pst0,simprocAttr]))
 refine owp_useQ (hwd _) (by(try simp only[Ty.w,simprocAttr,]);try rfl) ?_;simp(maxSteps:=2000000) only[Ty.w,simprocAttr,]
 repeat'(first|(refine a_ret ?_;simp(maxSteps:=2000000) only[Ty.w,simprocAttr,hll,hbb,n1,nsucc])|(refine hK _ _ ?_;clear hK;try simp only[pst0,simprocAttr])|(rw[if_pos];rotate_left 1;omega;simp(maxSteps:=2000000) only[Ty.w,simprocAttr,hll,hbb,n1,nsucc]))
 refine⟨?_,(((((Grow.refl h).new _).new _).kill (show h.next≤h.next+1 by omega)).new _).set (Nat.le_refl _) _⟩
 simp only[listM,Sx.cells,FrzTo,FrzL]
 refine⟨_,rfl,rfl,rfl,rfl,rfl,rfl,.inr (.inr ⟨h.next+1+1,0,1+l.length,Sx.rows (wordM s::l),rfl,by omega,?_,?_,?_⟩),trivial⟩
 ·rw [obj_set (by omega)]
  simp only[Heap.new,Heap.kill,if_true,Sx.rows,wordM,Sx.cells]
 ·rw [Sx.rows_len];simp;omega
 ·rw [List.drop_zero,List.take_of_length_le (by rw[Sx.rows_len];simp;omega)]
  exact sxs_frz _ _ _
theorem qatom_c{a:At}(hr:rightA a=true)(hl:a.args.length≤1048576)(h:Heap):PCall Tryz.prog 72 [.agg (atRow a)] h fun r h'=>r= .agg (atW a).cells∧h'=h:=by
 refine PCall.frz Ty.hb_72 ?_
 obtain⟨r1,r2⟩:=rightA_iff.1 hr
 have hsh:shapedF (.mk opAtom a.name a.args [] [] [])=true:=by
  have ht:a.args.all termB=true:=by
   rw[List.all_eq_true]
   intro s hs
   unfold termB
   rw[r2 s hs];try rfl
  unfold shapedF
  simp[partsOk,shapeOf,termsOk,r1,ht,shapedFs,show bEq opAtom opAtom=true by decide]
 have hF:=fun h:Heap=>rwriteF_c (.mk opAtom a.name a.args [] [] []) (by simp[Fm.small,Ex.smalls,Fm.smalls];exact hl) hsh h
 have e:fmW (.mk opAtom a.name a.args [] [] [])=atW a:=by
  unfold fmW
  rw[if_pos (by decide)];try rfl
 rw[e]at hF
 have hfz:=fun n h=>sx_frz n h (atW a)
 generalize atW a=X at hF hfz⊢
 obtain⟨ki,va,li,co,te,ks⟩:=X
 simp only[Fm.cells,Sx.cells,Ex.rows,Fm.rows,pmRows,List.map_nil]at hF hfz⊢
 have hF2: ∀ h:Heap,PCall Tryz.prog 74 [.agg [sPV opAtom,sPV a.name,.imm 1 (strRows a.args),.sc (.slice none 0 0),.sc (.slice none 0 0),.sc (.slice none 0 0)]] h fun r h'=>r= .agg [.sc (.int .i64 ki),.sc (.int .i64 va),.sc (.int .i64 li),.sc (.int .i64 co),sPV te,.imm 6 (Sx.rows ks)]∧h'=h:=
  fun h=>PCall.nz (hF h) (nz_cons (nz_agg (nz_cons (Nz.refl _) (nz_cons (Nz.refl _) (nz_cons (Nz.refl _) (nz_cons nz_nil (nz_cons nz_nil (nz_cons nz_nil (NzL.refl [])))))))) (NzL.refl []))
 obtain⟨an,aa⟩:=a
 simp only[atRow]at hF2⊢
 refine pcall_body (ow:=fun _=>false) (wf:=fun _=>false) Ty.mixed Tryz.func72 rfl Ty.hb_72 (by rw[Tryz.ntmps72];simp) ?_
 rw[Tryz.ntmps72,Tryz.results72]
 repeat'(first|refine a_seq fun K hK=>?_|(refine a_regionS ?_;simp(maxSteps:=2000000) only[Ty.w,simprocAttr])|(refine hK _ _ ?_;clear hK;try simp only[pst0,simprocAttr]))
 refine owp_useQ (hF2 _) (by(try simp only[Ty.w,simprocAttr,]);try rfl) ?_;simp(maxSteps:=2000000) only[Ty.w,simprocAttr,]
 repeat'(first|(refine a_ret ?_;simp(maxSteps:=2000000) only[Ty.w,simprocAttr])|(refine hK _ _ ?_;clear hK;try simp only[pst0,simprocAttr]))
 refine⟨?_,((Grow.refl h).new _).set (Nat.le_refl _) _⟩
 simp only[FrzTo]
 exact⟨_,rfl,hfz _ _⟩
theorem qtrue_c{g:Fm}(h:Heap):PCall Tryz.prog 73 [.agg g.cells] h fun r h'=>r= .sc (.bool (goalE g))∧h'=h:=by
 obtain⟨op,name,args,params,exprs,kids⟩:=g
 have hlK:=Fm.rows_len kids
 have e:goalE (.mk op name args params exprs kids)=((op.data.toList==(#[97,110,100]:Array UInt8).toList)&&kids.isEmpty):=rfl
 rw[e]
 simp only[Fm.cells]
 cases k1:(op.data.toList==(#[97,110,100]:Array UInt8).toList)with
 |false=>
  refine pcall_body (ow:=fun _=>false) (wf:=fun _=>false) Ty.mixed Tryz.func73 rfl Ty.hb_73 (by rw[Tryz.ntmps73];simp) ?_
  rw[Tryz.ntmps73,Tryz.results73]
  repeat'(first|refine a_seq fun K hK=>?_|((first|refine a_regionS ?_|refine a_ret ?_);simp(maxSteps:=2000000) only[Ty.w,simprocAttr,k1])|(refine hK _ _ ?_;clear hK;try simp only[pst0,simprocAttr]))
  all_goals rfl
 |true=>
  have k2:((kids.length:Int)==0)=kids.isEmpty:=by cases kids<;>simp<;>omega
  refine pcall_body (ow:=fun _=>false) (wf:=fun _=>false) Ty.mixed Tryz.func73 rfl Ty.hb_73 (by rw[Tryz.ntmps73];simp) ?_
  rw[Tryz.ntmps73,Tryz.results73]
  repeat'(first|refine a_seq fun K hK=>?_|((first|refine a_regionS ?_|refine a_ret ?_);simp(maxSteps:=2000000) only[Ty.w,simprocAttr,k1,hlK,k2])|(refine hK _ _ ?_;clear hK;try simp only[pst0,simprocAttr]))
  all_goals rfl
theorem qground_c{a:At}(ha:a.ok)(h:Heap):PCall Tryz.prog 34 [.agg (atRow a)] h fun r h'=>r= .sc (.bool (rightA a))∧h'=h:=by
 obtain⟨an,aa⟩:=a
 obtain⟨a1,a2,a3⟩:=ha
 simp only at a1 a2 a3
 have hn:=fun h:Heap=>rname_c (h:=h) (s:=an) (by unfold bigN at a1;omega)
 have hl:=strRows_len aa
 have hR:rightA ⟨an,aa⟩=(nameB an&&aa.all nameB):=by
  unfold rightA rightB
  congr 1
  induction aa with
  |nil=>rfl
  |cons x l ih=>simp only[List.any_cons,List.all_cons,Bool.not_or,Bool.not_not];rw[← ih (by simp at a2;omega) (fun s hs=>a3 s (by simp[hs])) (strRows_len l)]
 rw[hR]
 generalize hF:(nameB an&&aa.all nameB)=F
 unfold bigN at a2
 simp only[atRow]
 refine pcall_body (ow:=fun _=>false) (wf:=fun _=>false) Ty.mixed Tryz.func34 rfl Ty.hb_34 (by rw[Tryz.ntmps34];simp) ?_
 rw[Tryz.ntmps34,Tryz.results34]
 repeat'(first|refine a_seq fun K hK=>?_|(refine a_block ?_)|(refine a_regionS ?_;simp(maxSteps:=2000000) only[Ty.w,simprocAttr])|(refine hK _ _ ?_;clear hK;try simp only[pst0,simprocAttr]))
 refine a_loop (fun m S h'=>S 1= .cptr [sPV an,.imm 1 (strRows aa)]∧h'=h∧ ∃ k:Nat,S 3= .sc (.int .i64 k)∧k≤aa.length∧m=aa.length-k∧F=(nameB an&&(aa.drop k).all nameB)) aa.length ?_ ?_
 ·simp only[Ty.w,simprocAttr]
  exact⟨0,rfl,by omega,rfl,by rw[List.drop_zero];exact hF.symm⟩
 ·clear hF
  rintro m S h' ⟨g1,rfl,k,g3,hk,rfl,hinv⟩
  by_cases hlt:k<aa.length
  ·have hd:decide ((k:Int)<(aa.length:Int))=true:=by simp;omega
   have w7:IntKind.i64.wrap ((k:Int)+1)=k+1:=by rw[wrap64 (by omega) (by omega)]
   obtain⟨x,hx⟩: ∃ x,aa[k]? =some x:=⟨_,List.getElem?_eq_getElem hlt⟩
   have hr:=strRows_get hx
   have hnx:=fun h:Heap=>rname_c (h:=h) (s:=x) (by have:=a3 x (List.mem_of_getElem? hx);unfold bigN at this;omega)
   rw[drop_of_get hx,List.all_cons]at hinv
   cases q:nameB x with
   |false=>
    rw[q]at hnx hinv
    simp only[Bool.false_and,Bool.and_false]at hinv
    subst hinv
    repeat'(first|refine a_seq fun K hK=>?_|(refine a_regionS ?_;simp(maxSteps:=2000000) only[Ty.w,simprocAttr,g1,g3,hl,hd,hr])|(refine a_skip ?_;try simp only[pst0,simprocAttr])|(refine a_cond _ (by(try simp(maxSteps:=2000000) only[Ty.w,simprocAttr,g1,g3,hl,hd,hr]);rfl) (fun hb=>?_) (fun hb=>?_)<;>(try simp only[hb0,decide_eq_true_eq,decide_eq_false_iff_not,simprocAttr]at hb)<;>(try(exfalso;omega)))|(refine hK _ _ ?_;clear hK;try simp only[pst0,simprocAttr]))
    refine owp_useQ (hnx _) (by(try simp only[Ty.w,simprocAttr,g1,g3,hr,Bool.not_false]);try rfl) ?_;simp(maxSteps:=2000000) only[Ty.w,simprocAttr,g1,g3,hr,Bool.not_false]
    repeat'(first|refine a_seq fun K hK=>?_|((first|refine a_regionS ?_|refine a_ret ?_);simp(maxSteps:=2000000) only[Ty.w,simprocAttr,Bool.not_false])|(refine hK _ _ ?_;clear hK;try simp only[pst0,simprocAttr]))
   |true=>
    rw[q]at hnx hinv
    simp only[Bool.true_and]at hinv
    repeat'(first|refine a_seq fun K hK=>?_|(refine a_regionS ?_;simp(maxSteps:=2000000) only[Ty.w,simprocAttr,g1,g3,hl,hd,hr])|(refine a_skip ?_;try simp only[pst0,simprocAttr])|(refine a_cond _ (by(try simp(maxSteps:=2000000) only[Ty.w,simprocAttr,g1,g3,hl,hd,hr]);rfl) (fun hb=>?_) (fun hb=>?_)<;>(try simp only[hb0,decide_eq_true_eq,decide_eq_false_iff_not,simprocAttr]at hb)<;>(try(exfalso;omega)))|(refine hK _ _ ?_;clear hK;try simp only[pst0,simprocAttr]))
    refine owp_useQ (hnx _) (by(try simp only[Ty.w,simprocAttr,g1,g3,hr,Bool.not_true]);try rfl) ?_;simp(maxSteps:=2000000) only[Ty.w,simprocAttr,g1,g3,hr,Bool.not_true]
    repeat'(first|(refine a_block ?_)|(refine a_regionS ?_;simp(maxSteps:=2000000) only[Ty.w,simprocAttr,g1,g3,Bool.not_true,w7])|(refine a_skip ?_;try simp only[pst0,simprocAttr])|(refine hK _ _ ?_;clear hK;try simp only[pst0,simprocAttr]))
    exact⟨aa.length-(k+1),by omega,k+1,by simp,by omega,rfl,hinv⟩
  ·have hd:decide ((k:Int)<(aa.length:Int))=false:=by simp;omega
   rw[List.drop_eq_nil_of_le (by omega),List.all_nil,Bool.and_true]at hinv
   subst hinv
   repeat'(first|refine a_seq fun K hK=>?_|(refine a_regionS ?_;simp(maxSteps:=2000000) only[Ty.w,simprocAttr,g1,g3,hl,hd])|(refine a_exit ?_;try simp only[pst0,simprocAttr])|(refine a_cond _ (by(try simp(maxSteps:=2000000) only[Ty.w,simprocAttr,g1,g3,hl,hd]);rfl) (fun hb=>?_) (fun hb=>?_)<;>(try simp only[hb0,decide_eq_true_eq,decide_eq_false_iff_not,simprocAttr]at hb)<;>(try(exfalso;omega)))|((first|refine hK _ _ ?_|(clear hK;refine hK _ _ ?_));clear hK;try simp only[pst0,simprocAttr]))
   refine owp_useQ (hn _) (by(try simp only[Ty.w,simprocAttr,g1,g3]);try rfl) ?_;simp(maxSteps:=2000000) only[Ty.w,simprocAttr,g1,g3]
   repeat'(first|(refine a_ret ?_;simp(maxSteps:=2000000) only[Ty.w,simprocAttr])|(refine hK _ _ ?_;clear hK;try simp only[pst0,simprocAttr]))
theorem nzr_cons{p q:List PV}{l m:List (List PV)}(h:NzL p q)(h2:NzR l m):NzR (p::l) (q::m):=by unfold NzR;exact⟨h,h2⟩
structure QpI(h:Heap)(L:List Sx)(p:PV)(H:Heap):Prop where
 grow:Grow h H
 ores:H.obj h.next=some (.arr 6 [sxZ])
 lt:h.next<H.next
 tl:Tl H (h.next+1) 6 p (Sx.rows L)
theorem QpI.up{h H H':Heap}{L:List Sx}{p:PV}(i:QpI h L p H)(g:Grow H H'):QpI h L p H':=
 ⟨i.grow.trans g,by rw[g.old _ i.lt];exact i.ores,Nat.lt_of_lt_of_le i.lt g.le,i.tl.old g⟩
theorem QpI.push{h H:Heap}{L:List Sx}{p:PV}(i:QpI h L p H)(X:Sx): ∃ Hk,isTail H p=some (Hk,Sx.rows L)∧zOk H 6 p=true∧Hk.next=H.next∧QpI h (L++[X]) (.own H.next 0 (L.length+1)) (Hk.new (.arr 6 (Sx.rows L++[X.cells]))):=by
 obtain⟨g,o,lt,tl⟩:=i
 obtain⟨Hk,t1,t2,t3,t4,t5⟩:=tl.tail
 have hk:=t5 h ⟨g.le,g.old⟩ (Nat.le_succ _)
 have e:Sx.rows (L++[X])=Sx.rows L++[X.cells]:=by simp[Sx.rows_map]
 refine⟨Hk,t1,t2,t3,(⟨hk.1,hk.2⟩:Grow h Hk).new _,by rw[obj_new (by omega),t4 _ (by omega)];exact o,show h.next<Hk.next+1 by omega,?_⟩
 rw[e, ← t3]
 exact Tl.grow (by omega) (by simp[Sx.rows_len])
theorem qproblem_c{p:Pb}(hok:p.ok)(hsm:PbSm p)(he:expressB p=true)(hsh:shapedF p.goal=true)(h:Heap):PCall Tryz.prog 35 [.agg p.cells] h fun r h'=>r= .agg (pbW p).cells∧h'=h:=by
 refine PCall.frz Ty.hb_35 ?_
 obtain⟨_,_,_,e4,e5⟩:=expressB_iff.1 he
 have hgF:=fun h:Heap=>rwriteF_c p.goal hsm.g hsh h
 have hgT:=fun h:Heap=>qtrue_c (g:=p.goal) h
 have hpw:pbW p=listM (wordM opDef::([nameS opPrb p.name,nameS opDom p.domain]++objsW p.objects++initW p.init p.values++goalW p.goal)):=by
  simp[pbW,List.append_assoc]
 generalize pbW p=PW at hpw⊢
 have hgE:goalW p.goal=if goalE p.goal then[]else[listM [wordM opGoal,fmW p.goal]]:=rfl
 generalize fmW p.goal=X at hgF hgE
 generalize goalE p.goal=gE at hgT hgE
 have hlO:=pmRows_len p.objects
 have hlI:=atRows_len p.init
 have hlV:=vlRows_len p.values
 have so:=hsm.o
 have si:=hsm.i
 have sv:=hsm.v
 have sia:=hsm.ia
 have sva:=hsm.va
 clear hok hsm he hsh
 obtain⟨name,domain,objects,init,values,⟨gop,gname,gargs,gparams,gexprs,gkids⟩⟩:=p
 obtain⟨ki,va,li,co,te,ks⟩:=X
 simp only at hpw hgE hlO hlI hlV so si sv sia sva e4 e5
 simp only[Pb.cells,Fm.cells,List.cons_append,List.nil_append,Sx.cells]at hgF hgT⊢
 have hwd: ∀ (s:ByteArray)(h:Heap),PCall Tryz.prog 70 [sPV s] h fun r h'=>r= .agg (wordM s).cells∧h'=h:=fun s h=>qword_c
 have hl1:=fun(w a:ByteArray)(h:Heap)=>qlist_c (s:=w) (l:=[wordM a]) (by simp) h
 have hl2:=fun(h:Heap)=>qlist_c (s:=opGoal) (l:=[Sx.mk ki va li co te ks]) (by simp) h
 simp only[wordM,Sx.cells,Sx.rows]at hwd
 have hl1: ∀ (w a:ByteArray)(h:Heap),PCall Tryz.prog 69 [sPV w,.imm 6 [[.sc (.int .i64 1),.sc (.int .i64 0),.sc (.int .i64 0),.sc (.int .i64 0),sPV a,.imm 6 []]]] h fun r h'=>r= .agg (nameS w a).cells∧h'=h:=fun w a h=>qlist_c (s:=w) (l:=[wordM a]) (by simp) h
 have hl2: ∀ (h:Heap),PCall Tryz.prog 69 [sPV opGoal,.imm 6 [[.sc (.int .i64 ki),.sc (.int .i64 va),.sc (.int .i64 li),.sc (.int .i64 co),sPV te,.imm 6 (Sx.rows ks)]]] h fun r h'=>r= .agg (listM [wordM opGoal,.mk ki va li co te ks]).cells∧h'=h:=fun h=>qlist_c (s:=opGoal) (l:=[Sx.mk ki va li co te ks]) (by simp) h
 have hl3: ∀ (h:Heap),PCall Tryz.prog 69 [sPV opObjs,.imm 6 (Sx.rows (paramsW objects))] h fun r h'=>r= .agg (objsS objects).cells∧h'=h:=fun h=>qlist_c (s:=opObjs) (l:=paramsW objects) (by rw[paramsW_len];omega) h
 have hwp:=fun h:Heap=>rwriteParams_c (l:=objects) so h
 have hLI: ∀ (k:Nat)(a:At),init[k]? =some a→ ∀ h:Heap,PCall Tryz.prog 72 [.agg (atRow a)] h fun r h'=>r= .agg (atW a).cells∧h'=h:=fun k a hx h=>qatom_c (e5 a (List.mem_of_getElem? hx)) (sia a (List.mem_of_getElem? hx)) h
 have hLV: ∀ (k:Nat)(a:Vl),values[k]? =some a→ ∀ h:Heap,PCall Tryz.prog 72 [.agg (atRow a.at_)] h fun r h'=>r= .agg (atW a.at_).cells∧h'=h:=fun k a hx h=>qatom_c (by have:=e4 a (List.mem_of_getElem? hx);unfold vlB at this;simp only[Bool.and_eq_true]at this;exact this.1) (sva a (List.mem_of_getElem? hx)) h
 have hLE: ∀ (a:Vl)(h:Heap),PCall Tryz.prog 69 [sPV opEq,.imm 6 [(atW a.at_).cells,[.sc (.int .i64 2),.sc (.int .i64 a.n),.sc (.int .i64 0),.sc (.int .i64 0),sPV ⟨#[]⟩,.sc (.slice none 0 0)]]] h fun r h'=>r= .agg (vlW a).cells∧h'=h:=fun a h=>PCall.nz (qlist_c (s:=opEq) (l:=[atW a.at_,numM a.n]) (by simp) h) (nz_cons (Nz.refl _) (nz_cons (nz_imm (nzr_cons (NzL.refl _) (nzr_cons (nz_cons (Nz.refl _) (nz_cons (Nz.refl _) (nz_cons (Nz.refl _) (nz_cons (Nz.refl _) (nz_cons (Nz.refl _) (nz_cons nz_nil (NzL.refl []))))))) (NzR.refl [])))) (NzL.refl [])))
 clear e4 e5 sia sva
 have g6: ∀ x:Sx,x.cells.length=6:=fun x=>by obtain⟨_,_,_,_,_,_⟩:=x;rfl
 have a6: ∀ x:Sx,x.cells.all oneC=true:=fun x=>by obtain⟨_,_,_,_,_,_⟩:=x;rfl
 have hRl: ∀ L:List Sx,(Sx.rows L).length=L.length:=Sx.rows_len
 have hPW: ∀ L:List Sx,L.length≤1000→ ∀ h:Heap,PCall Tryz.prog 69 [sPV opDef,.imm 6 (Sx.rows L)] h fun r h'=>r= .agg (listM (wordM opDef::L)).cells∧h'=h:=fun L hL h=>qlist_c (s:=opDef) (l:=L) (by omega) h
 have hLa: ∀ l:List Sx,l.length≤3000000→ ∀ h:Heap,PCall Tryz.prog 69 [sPV opInit,.imm 6 (Sx.rows l)] h fun r h'=>r= .agg (listM (wordM opInit::l)).cells∧h'=h:=fun L hL h=>qlist_c (s:=opInit) (l:=L) (by omega) h
 refine pcall_body (ow:=fun t=>t==17) (wf:=fun _=>false) Ty.mixed Tryz.func35 rfl Ty.hb_35 (by rw[Tryz.ntmps35];simp) ?_
 rw[Tryz.ntmps35,Tryz.results35]
 repeat'(first|refine a_seq fun K hK=>?_|((first|refine a_regionS ?_|refine a_drawS (by decide+kernel) ?_);simp(maxSteps:=2000000) only[Ty.w,simprocAttr])|(refine hK _ _ ?_;clear hK;try simp only[pst0,simprocAttr]))
 (first|refine a_dcall0 (hwd _ _) (by(try simp only[Ty.w,simprocAttr,]);try rfl) ?_|refine a_dcallA (hwd _ _) (by(try simp only[Ty.w,simprocAttr,]);try rfl) (by simp only[Ty.w,simprocAttr,];try trivial) ?_);simp(maxSteps:=2000000) only[Ty.w,simprocAttr,Option.getD_some,]
 skip
 (first|refine a_dcall0 (hl1 _ _ _) (by(try simp only[Ty.w,simprocAttr,]);try rfl) ?_|refine a_dcallA (hl1 _ _ _) (by(try simp only[Ty.w,simprocAttr,]);try rfl) (by simp only[Ty.w,simprocAttr,];try trivial) ?_);simp(maxSteps:=2000000) only[Ty.w,simprocAttr,Option.getD_some,]
 skip
 (first|refine a_dcall0 (hwd _ _) (by(try simp only[Ty.w,simprocAttr,]);try rfl) ?_|refine a_dcallA (hwd _ _) (by(try simp only[Ty.w,simprocAttr,]);try rfl) (by simp only[Ty.w,simprocAttr,];try trivial) ?_);simp(maxSteps:=2000000) only[Ty.w,simprocAttr,Option.getD_some,]
 skip
 (first|refine a_dcall0 (hl1 _ _ _) (by(try simp only[Ty.w,simprocAttr,g6,a6,nsucc]);try rfl) ?_|refine a_dcallA (hl1 _ _ _) (by(try simp only[Ty.w,simprocAttr,g6,a6,nsucc]);try rfl) (by simp only[Ty.w,simprocAttr,g6,a6,nsucc];try trivial) ?_);simp(maxSteps:=2000000) only[Ty.w,simprocAttr,Option.getD_some,g6,a6,nsucc]
 repeat'(first|(with_reducible refine a_hold 2 ?_)|(refine hK _ _ ?_;clear hK;try simp only[pst0,simprocAttr])|(with_reducible refine a_past2 (by simp only[List.forall_mem_cons,Ty.w,simprocAttr,nsucc,g6,a6]<;>(repeat' apply And.intro)<;>first|trivial|exact .inl (by decide+kernel)) ?_;try simp(maxSteps:=2000000) only[Ty.w,simprocAttr,nsucc,g6,a6]))
 refine⟨?_⟩
 refine a_gen (fun S H=>S 1= .cptr [sPV name,sPV domain,.imm 2 (pmRows objects),.imm 2 (atRows init),.imm 3 (vlRows values),sPV gop,sPV gname,.imm 1 (strRows gargs),.imm 2 (pmRows gparams),.imm 5 (Ex.rows gexprs),.imm 6 (Fm.rows gkids)]∧S 2= .ptr h.next 0 0∧ ∃ q,S 3=q∧QpI h [nameS opPrb name,nameS opDom domain] q H) ?_ ?_
 ·simp only[Ty.w,simprocAttr]
  refine⟨((Grow.refl h).new _).new _,?_,?_,Tl.grow (Nat.le_refl _) rfl⟩
  ·rw [obj_new (Nat.lt_succ_self _)];simp only[Heap.new,if_true]
  ·simp only[Heap.new];omega
 generalize hL0:[nameS opPrb name,nameS opDom domain]=L0 at hpw
 have hl0:L0.length≤2:=by rw[← hL0];exact Nat.le_refl _
 clear hl1 hL0
 rintro S H ⟨s1,s2,q,s3,hI⟩
 refine a_cut (fun S H=>S 1= .cptr [sPV name,sPV domain,.imm 2 (pmRows objects),.imm 2 (atRows init),.imm 3 (vlRows values),sPV gop,sPV gname,.imm 1 (strRows gargs),.imm 2 (pmRows gparams),.imm 5 (Ex.rows gexprs),.imm 6 (Fm.rows gkids)]∧S 2= .ptr h.next 0 0∧ ∃ q,S 3=q∧QpI h (L0++objsW objects) q H) ?_ ?_
 ·by_cases hz:objects=[]
  ·have d0:decide ((objects.length:Int)>0)=false:=by rw[hz];try rfl
   rw[show objsW objects=[] by rw[hz];try rfl,List.append_nil]
   repeat'(first|refine a_seq fun K hK=>?_|(refine a_regionS ?_;simp(maxSteps:=2000000) only[Ty.w,simprocAttr,s1,s2,s3,hlO,d0])|(refine a_skip ?_;try simp only[pst0,simprocAttr])|(refine a_cond _ (by(try simp(maxSteps:=2000000) only[Ty.w,simprocAttr,s1,s2,s3,hlO,d0]);rfl) (fun hb=>?_) (fun hb=>?_)<;>(try simp only[hb0,decide_eq_true_eq,decide_eq_false_iff_not,simprocAttr]at hb)<;>(try(exfalso;omega)))|(refine hK _ _ ?_;clear hK;try simp only[pst0,simprocAttr]))
   exact⟨s1,s2,q,s3,hI⟩
  ·have d0:decide ((objects.length:Int)>0)=true:=by have:=List.length_pos_iff.2 hz;simp;omega
   have hx:objsW objects=[objsS objects]:=by unfold objsW;rw[if_neg (by simpa using hz)]
   rw[hx]
   obtain⟨Hk,t1,t2,t3,hI2⟩:=hI.push (objsS objects)
   have hb:(L0.length+1)*72≤140737488355328:=by omega
   repeat'(first|refine a_seq fun K hK=>?_|(refine a_regionS ?_;simp(maxSteps:=2000000) only[Ty.w,simprocAttr,s1,s3,hlO,d0])|(refine a_cond _ (by(try simp(maxSteps:=2000000) only[Ty.w,simprocAttr,s1,s3,hlO,d0]);rfl) (fun hb=>?_) (fun hb=>?_)<;>(try simp only[hb0,decide_eq_true_eq,decide_eq_false_iff_not,simprocAttr]at hb)<;>(try(exfalso;omega)))|(refine hK _ _ ?_;clear hK;try simp only[pst0,simprocAttr]))
   refine owp_useQ (hwp _) (by(try simp only[Ty.w,simprocAttr,s1,s3]);try rfl) ?_;simp(maxSteps:=2000000) only[Ty.w,simprocAttr,s1,s3]
   skip
   refine owp_useQ (hl3 _) (by(try simp only[Ty.w,simprocAttr,s1,s2,s3,t1,t2,hRl,hb,g6,a6]);try rfl) ?_;simp(maxSteps:=2000000) only[Ty.w,simprocAttr,s1,s2,s3,t1,t2,hRl,hb,g6,a6]
   repeat'(rw[if_pos];rotate_left 1;omega;simp(maxSteps:=2000000) only[Ty.w,simprocAttr,s1,s2,s3,t1,t2,hRl,hb,g6,a6])
   exact hI2
 clear s1 s2 s3 hI hl3 hwp q S H
 generalize hL1:L0++objsW objects=L1 at hpw
 have hl1:L1.length≤3:=by
  rw[← hL1,List.length_append]
  have:(objsW objects).length≤1:=by unfold objsW;split<;>simp
  omega
 rintro S H0 ⟨s1,s2,q,s3,hI⟩
 clear hL1
 repeat'(first|refine a_seq fun K hK=>?_|(refine a_block ?_)|(refine a_regionS ?_;simp(maxSteps:=2000000) only[Ty.w,simprocAttr,s1,s2,s3])|(refine hK _ _ ?_;clear hK;try simp only[pst0,simprocAttr]))
 refine a_loop (fun m S H=>S 1= .cptr [sPV name,sPV domain,.imm 2 (pmRows objects),.imm 2 (atRows init),.imm 3 (vlRows values),sPV gop,sPV gname,.imm 1 (strRows gargs),.imm 2 (pmRows gparams),.imm 5 (Ex.rows gexprs),.imm 6 (Fm.rows gkids)]∧S 2= .ptr h.next 0 0∧S 3=q∧ ∃ (k:Nat)(o:PV),S 5= .sc (.int .i64 k)∧S 4=o∧k≤init.length∧m=init.length-k∧Grow H0 H∧Tl H H0.next 6 o (Sx.rows ((init.take k).map atW))) init.length ?_ ?_
 ·simp only[Ty.w,simprocAttr,s1,s2,s3]
  exact⟨0,_,rfl,rfl,Nat.zero_le _,rfl,Grow.refl _,Tl.nil⟩
 clear s1 s2 s3 S
 rintro m S H ⟨s1,s2,s3,k,o,s5,s4,hk,rfl,hg,tl⟩
 by_cases hlt:k<init.length
 ·have hd:decide ((k:Int)<(init.length:Int))=true:=by simp;omega
  have w7:IntKind.i64.wrap ((k:Int)+1)=((k+1:Nat):Int):=by rw[wrap64 (by omega) (by omega)];omega
  obtain⟨x,hx⟩: ∃ x,init[k]? =some x:=⟨_,List.getElem?_eq_getElem hlt⟩
  have hr:=atRows_get hx
  have hc:=hLI k x hx
  obtain⟨H1,t1,t2,t3,t4,t5⟩:=tl.tail
  have hkp:=t5 H0 ⟨hg.le,hg.old⟩ (Nat.le_refl _)
  have hR:Sx.rows ((init.take (k+1)).map atW)=Sx.rows ((init.take k).map atW)++[(atW x).cells]:=by
   rw[List.take_add_one,hx]
   simp only[Sx.rows_map,List.map_append,Option.toList_some,List.map_cons,List.map_nil]
  have hpr:(Sx.rows ((init.take k).map atW)).length=k:=by rw[Sx.rows_len,List.length_map,List.length_take];omega
  have hb:(k+1)*72≤140737488355328:=by omega
  have hx0:atRow x=[sPV x.name,.imm 1 (strRows x.args)]:=rfl
  rw[hx0]at hc
  generalize Sx.rows ((init.take k).map atW)=R at t1 hR hpr
  repeat'(first|refine a_seq fun K hK=>?_|(refine a_block ?_)|((first|refine a_regionS ?_|refine a_region (fun K hK=>?_));simp(maxSteps:=2000000) only[Ty.w,simprocAttr,s1,s3,s4,s5,hlI,hd,hr])|(refine a_skip ?_;try simp only[pst0,simprocAttr])|(refine a_cond _ (by(try simp(maxSteps:=2000000) only[Ty.w,simprocAttr,s1,s3,s4,s5,hlI,hd,hr]);rfl) (fun hb=>?_) (fun hb=>?_)<;>(try simp only[hb0,decide_eq_true_eq,decide_eq_false_iff_not,simprocAttr]at hb)<;>(try(exfalso;omega)))|(refine hK _ _ ?_;clear hK;try simp only[pst0,simprocAttr]))
  refine owp_useQ (hc _) (by(try simp only[Ty.w,simprocAttr,s1,s2,s3,s4,s5,hr,t1,t2,hpr,hb,g6,a6]);try rfl) ?_;simp(maxSteps:=2000000) only[Ty.w,simprocAttr,s1,s2,s3,s4,s5,hr,t1,t2,hpr,hb,g6,a6]
  repeat'(first|(refine a_regionS ?_;simp(maxSteps:=2000000) only[Ty.w,simprocAttr,s1,s2,s3,s4,s5,t1,t2,hpr,hb,g6,a6,w7])|(refine hK _ _ ?_;clear hK;try simp only[pst0,simprocAttr])|(rw[if_pos];rotate_left 1;omega;simp(maxSteps:=2000000) only[Ty.w,simprocAttr,s1,s2,s3,s4,s5,t1,t2,hpr,hb,g6,a6,w7]))
  exact⟨init.length-(k+1),by omega,k+1,_,rfl,rfl,by omega,rfl,(⟨hkp.1,hkp.2⟩:Grow H0 H1).new _,by rw[hR, ← t3];exact Tl.grow hkp.1 (by simp[hpr])⟩
 have hd:decide ((k:Int)<(init.length:Int))=false:=by simp;omega
 have hke:k=init.length:=by omega
 rw[hke,List.take_length]at tl
 clear hke hlt hk
 repeat'(first|refine a_seq fun K hK=>?_|(refine a_block ?_)|(refine a_regionS ?_;simp(maxSteps:=2000000) only[Ty.w,simprocAttr,s1,s2,s3,s4,s5,hlI,hd])|(refine a_exit ?_;try simp only[pst0,simprocAttr])|(refine a_cond _ (by(try simp(maxSteps:=2000000) only[Ty.w,simprocAttr,s1,s2,s3,s4,s5,hlI,hd]);rfl) (fun hb=>?_) (fun hb=>?_)<;>(try simp only[hb0,decide_eq_true_eq,decide_eq_false_iff_not,simprocAttr]at hb)<;>(try(exfalso;omega)))|((first|refine hK _ _ ?_|(clear hK;refine hK _ _ ?_));clear hK;try simp only[pst0,simprocAttr]))
 refine a_loop (fun m S H=>S 1= .cptr [sPV name,sPV domain,.imm 2 (pmRows objects),.imm 2 (atRows init),.imm 3 (vlRows values),sPV gop,sPV gname,.imm 1 (strRows gargs),.imm 2 (pmRows gparams),.imm 5 (Ex.rows gexprs),.imm 6 (Fm.rows gkids)]∧S 2= .ptr h.next 0 0∧S 3=q∧ ∃ (k:Nat)(o:PV),S 6= .sc (.int .i64 k)∧S 4=o∧k≤values.length∧m=values.length-k∧Grow H0 H∧Tl H H0.next 6 o (Sx.rows (init.map atW++(values.take k).map vlW))) values.length ?_ ?_
 ·simp only[Ty.w,simprocAttr,s1,s2,s3,s4]
  exact⟨0,_,rfl,rfl,Nat.zero_le _,rfl,hg,by rw[List.take_zero,List.map_nil,List.append_nil];exact tl⟩
 clear s1 s2 s3 s4 s5 S hg tl hd
 rintro m S H ⟨s1,s2,s3,k,o,s6,s4,hk,rfl,hg,tl⟩
 by_cases hlt:k<values.length
 ·have hd:decide ((k:Int)<(values.length:Int))=true:=by simp;omega
  have w7:IntKind.i64.wrap ((k:Int)+1)=((k+1:Nat):Int):=by rw[wrap64 (by omega) (by omega)];omega
  obtain⟨x,hx⟩: ∃ x,values[k]? =some x:=⟨_,List.getElem?_eq_getElem hlt⟩
  have hr:=vlRows_get hx
  have hc:=hLV k x hx
  have hc2:=hLE x
  obtain⟨H1,t1,t2,t3,t4,t5⟩:=tl.tail
  have hkp:=t5 H0 ⟨hg.le,hg.old⟩ (Nat.le_refl _)
  have hR:Sx.rows (init.map atW++(values.take (k+1)).map vlW)=Sx.rows (init.map atW++(values.take k).map vlW)++[(vlW x).cells]:=by
   rw[List.take_add_one,hx]
   simp only[Sx.rows_map,List.map_append,Option.toList_some,List.map_cons,List.map_nil,List.append_assoc]
  have hpr:(Sx.rows (init.map atW++(values.take k).map vlW)).length=init.length+k:=by rw[Sx.rows_len,List.length_append,List.length_map,List.length_map,List.length_take];omega
  have hb:(init.length+k+1)*72≤140737488355328:=by omega
  have hx1:atRow x.at_=[sPV x.at_.name,.imm 1 (strRows x.at_.args)]:=rfl
  rw[hx1]at hc
  generalize Sx.rows (init.map atW++(values.take k).map vlW)=R at t1 hR hpr
  have W:=And.intro s1 (And.intro s3 (And.intro s2 (And.intro s4 (And.intro s6 (And.intro hr (And.intro g6 (And.intro t1 (And.intro a6 (And.intro t2 (And.intro hpr (And.intro hb w7)))))))))))
  repeat'(first|refine a_seq fun K hK=>?_|(refine a_block ?_)|((first|refine a_regionS ?_|refine a_draw (by decide+kernel) (fun K hK=>?_));simp(maxSteps:=2000000) only[Ty.w,simprocAttr,W,hlV,hd])|(refine a_skip ?_;try simp only[pst0,simprocAttr])|(refine a_cond _ (by(try simp(maxSteps:=2000000) only[Ty.w,simprocAttr,W,hlV,hd]);rfl) (fun hb=>?_) (fun hb=>?_)<;>(try simp only[hb0,decide_eq_true_eq,decide_eq_false_iff_not,simprocAttr]at hb)<;>(try(exfalso;omega)))|(refine hK _ _ ?_;clear hK;try simp only[pst0,simprocAttr]))
  (first|refine a_dcall0 (hc _) (by(try simp only[Ty.w,simprocAttr,W]);try rfl) ?_|refine a_dcallA (hc _) (by(try simp only[Ty.w,simprocAttr,W]);try rfl) (by simp only[Ty.w,simprocAttr,W];try trivial) ?_);simp(maxSteps:=2000000) only[Ty.w,simprocAttr,W,Option.getD_some]
  skip
  (first|refine a_dcall0 (hc2 _) (by(try simp only[Ty.w,simprocAttr,W]);try rfl) ?_|refine a_dcallA (hc2 _) (by(try simp only[Ty.w,simprocAttr,W]);try rfl) (by simp only[Ty.w,simprocAttr,W];try trivial) ?_);simp(maxSteps:=2000000) only[Ty.w,simprocAttr,W,Option.getD_some]
  repeat'(first|(refine a_regionS ?_;simp(maxSteps:=2000000) only[Ty.w,simprocAttr,W])|(refine hK _ _ ?_;clear hK;try simp only[pst0,simprocAttr])|(with_reducible refine a_past2 (by simp only[List.forall_mem_cons,Ty.w,simprocAttr,s1,s2,s3,s4,s6,hr,t1,t2,hpr,hb,g6,a6,w7]<;>(repeat' apply And.intro)<;>first|trivial|exact .inl (by decide+kernel)) ?_;try simp(maxSteps:=2000000) only[Ty.w,simprocAttr,W])|(rw[if_pos];rotate_left 1;omega;simp(maxSteps:=2000000) only[Ty.w,simprocAttr,W]))
  exact⟨values.length-(k+1),by omega,k+1,_,rfl,rfl,by omega,rfl,(⟨hkp.1,hkp.2⟩:Grow H0 H1).new _,by rw[hR, ← t3];exact Tl.grow hkp.1 (by simp[hpr])⟩
 have hd:decide ((k:Int)<(values.length:Int))=false:=by simp;omega
 have hke:k=values.length:=by omega
 rw[hke,List.take_length]at tl
 clear hke hlt hk hLI hLV hLE
 repeat'(first|(with_reducible refine a_hold 13 ?_)|refine a_seq fun K hK=>?_|(refine a_regionS ?_;simp(maxSteps:=2000000) only[Ty.w,simprocAttr,s1,s2,s3,s4,s6,hlV,hd])|(refine a_exit ?_;try simp only[pst0,simprocAttr])|(refine a_cond _ (by(try simp(maxSteps:=2000000) only[Ty.w,simprocAttr,s1,s2,s3,s4,s6,hlV,hd]);rfl) (fun hb=>?_) (fun hb=>?_)<;>(try simp only[hb0,decide_eq_true_eq,decide_eq_false_iff_not,simprocAttr]at hb)<;>(try(exfalso;omega)))|((first|refine hK _ _ ?_|(clear hK;refine hK _ _ ?_));clear hK;try simp only[pst0,simprocAttr]))
 refine⟨?_⟩
 refine a_drop H0.next [(4,.imm 6 (Sx.rows (init.map atW++values.map vlW)))] rfl hg.le ?_ ?_
 ·intro x hx
  simp only[List.mem_cons,List.not_mem_nil,or_false]at hx
  subst hx
  show FrzTo H0.next _ _ (S 4)
  rw[s4]
  exact tl_frzX tl
 refine a_gen (fun S H=>S 1= .cptr [sPV name,sPV domain,.imm 2 (pmRows objects),.imm 2 (atRows init),.imm 3 (vlRows values),sPV gop,sPV gname,.imm 1 (strRows gargs),.imm 2 (pmRows gparams),.imm 5 (Ex.rows gexprs),.imm 6 (Fm.rows gkids)]∧S 2= .ptr h.next 0 0∧S 3=q∧S 4= .imm 6 (Sx.rows (init.map atW++values.map vlW))∧QpI h L1 q H) ⟨by simp only[frzS,Ty.w,simprocAttr,s1],by simp only[frzS,Ty.w,simprocAttr,s2],by simp only[frzS,Ty.w,simprocAttr,s3],by simp only[frzS,Ty.w,simprocAttr],hI.up (below_grow hg)⟩ ?_
 have hiv:(init.map atW++values.map vlW).length=init.length+values.length:=by simp
 have hiW:initW init values=if init.length+values.length=0 then[]else[listM (wordM opInit::(init.map atW++values.map vlW))]:=by
  unfold initW initS
  cases init<;>cases values<;>simp
 have hLb:=hLa (init.map atW++values.map vlW) (by omega)
 clear s1 s2 s3 s4 s6 hI hg tl hd S H o k H0 hLa
 generalize init.map atW++values.map vlW=IV at hiv hiW hLb
 rintro S H ⟨s1,s2,s3,s4,hI⟩
 have hRV:=hRl IV
 refine a_cut (fun S H=>S 1= .cptr [sPV name,sPV domain,.imm 2 (pmRows objects),.imm 2 (atRows init),.imm 3 (vlRows values),sPV gop,sPV gname,.imm 1 (strRows gargs),.imm 2 (pmRows gparams),.imm 5 (Ex.rows gexprs),.imm 6 (Fm.rows gkids)]∧S 2= .ptr h.next 0 0∧ ∃ q,S 3=q∧QpI h (L1++initW init values) q H) ?_ ?_
 ·by_cases hz:init.length+values.length=0
  ·have d0:decide ((IV.length:Int)>0)=false:=by rw[hiv,hz];try rfl
   rw[hiW,if_pos hz,List.append_nil]
   repeat'(first|refine a_seq fun K hK=>?_|(refine a_regionS ?_;simp(maxSteps:=2000000) only[Ty.w,simprocAttr,s1,s2,s3,s4,hRV,d0])|(refine a_skip ?_;try simp only[pst0,simprocAttr])|(refine a_cond _ (by(try simp(maxSteps:=2000000) only[Ty.w,simprocAttr,s1,s2,s3,s4,hRV,d0]);rfl) (fun hb=>?_) (fun hb=>?_)<;>(try simp only[hb0,decide_eq_true_eq,decide_eq_false_iff_not,simprocAttr]at hb)<;>(try(exfalso;omega)))|(refine hK _ _ ?_;clear hK;try simp only[pst0,simprocAttr]))
   exact⟨s1,s2,q,s3,hI⟩
  ·have d0:decide ((IV.length:Int)>0)=true:=by simp;omega
   rw[hiW,if_neg hz]
   obtain⟨Hk,t1,t2,t3,hI2⟩:=hI.push (listM (wordM opInit::IV))
   have hb:(L1.length+1)*72≤140737488355328:=by omega
   repeat'(first|refine a_seq fun K hK=>?_|(refine a_regionS ?_;simp(maxSteps:=2000000) only[Ty.w,simprocAttr,s1,s2,s3,s4,hRV,d0])|(refine a_cond _ (by(try simp(maxSteps:=2000000) only[Ty.w,simprocAttr,s1,s2,s3,s4,hRV,d0]);rfl) (fun hb=>?_) (fun hb=>?_)<;>(try simp only[hb0,decide_eq_true_eq,decide_eq_false_iff_not,simprocAttr]at hb)<;>(try(exfalso;omega)))|(refine hK _ _ ?_;clear hK;try simp only[pst0,simprocAttr]))
   refine owp_useQ (hLb _) (by(try simp only[Ty.w,simprocAttr,s1,s2,s3,s4,t1,t2,hRl,hb,g6,a6]);try rfl) ?_;simp(maxSteps:=2000000) only[Ty.w,simprocAttr,s1,s2,s3,s4,t1,t2,hRl,hb,g6,a6]
   repeat'(rw[if_pos];rotate_left 1;omega;simp(maxSteps:=2000000) only[Ty.w,simprocAttr,s1,s2,s3,s4,t1,t2,hRl,hb,g6,a6])
   exact hI2
 clear s1 s2 s3 s4 hI hRV hLb S H q
 generalize hL2:L1++initW init values=L2 at hpw
 have hl2':L2.length≤4:=by
  rw[← hL2,List.length_append]
  have:(initW init values).length≤1:=by unfold initW;split<;>simp
  omega
 rintro S H ⟨s1,s2,q,s3,hI⟩
 clear hL2 hiW hiv hl1
 refine a_cut (fun S H=>S 1= .cptr [sPV name,sPV domain,.imm 2 (pmRows objects),.imm 2 (atRows init),.imm 3 (vlRows values),sPV gop,sPV gname,.imm 1 (strRows gargs),.imm 2 (pmRows gparams),.imm 5 (Ex.rows gexprs),.imm 6 (Fm.rows gkids)]∧S 2= .ptr h.next 0 0∧ ∃ q,S 3=q∧QpI h (L2++goalW (.mk gop gname gargs gparams gexprs gkids)) q H) ?_ ?_
 ·cases gE with
  |true=>
   rw[hgE,if_pos rfl,List.append_nil]
   repeat'(first|refine a_seq fun K hK=>?_|(refine a_regionS ?_;simp(maxSteps:=2000000) only[Ty.w,simprocAttr,s1,s2,s3]))
   refine owp_useQ (hgT _) (by(try simp only[Ty.w,simprocAttr,s1,s2,s3,Bool.not_true]);try rfl) ?_;simp(maxSteps:=2000000) only[Ty.w,simprocAttr,s1,s2,s3,Bool.not_true]
   repeat'(first|(refine a_skip ?_;try simp only[pst0,simprocAttr])|(refine a_cond _ (by(try simp(maxSteps:=2000000) only[Ty.w,simprocAttr,s1,s2,s3,Bool.not_true]);rfl) (fun hb=>?_) (fun hb=>?_)<;>(try simp only[hb0,decide_eq_true_eq,decide_eq_false_iff_not,simprocAttr]at hb)<;>(try(exfalso;omega)))|(refine hK _ _ ?_;clear hK;try simp only[pst0,simprocAttr]))
   exact⟨s1,s2,q,s3,hI⟩
  |false=>
   rw[hgE,if_neg (by simp)]
   obtain⟨Hk,t1,t2,t3,hI2⟩:=hI.push (listM [wordM opGoal,.mk ki va li co te ks])
   have hb:(L2.length+1)*72≤140737488355328:=by omega
   repeat'(first|refine a_seq fun K hK=>?_|(refine a_regionS ?_;simp(maxSteps:=2000000) only[Ty.w,simprocAttr,s1,s2,s3]))
   refine owp_useQ (hgT _) (by(try simp only[Ty.w,simprocAttr,s1,s2,s3,Bool.not_false]);try rfl) ?_;simp(maxSteps:=2000000) only[Ty.w,simprocAttr,s1,s2,s3,Bool.not_false]
   repeat'(first|(refine a_regionS ?_;simp(maxSteps:=2000000) only[Ty.w,simprocAttr,s1,s2,s3,Bool.not_false])|(refine a_cond _ (by(try simp(maxSteps:=2000000) only[Ty.w,simprocAttr,s1,s2,s3,Bool.not_false]);rfl) (fun hb=>?_) (fun hb=>?_)<;>(try simp only[hb0,decide_eq_true_eq,decide_eq_false_iff_not,simprocAttr]at hb)<;>(try(exfalso;omega)))|(refine hK _ _ ?_;clear hK;try simp only[pst0,simprocAttr]))
   refine owp_useQ (hgF _) (by(try simp only[Ty.w,simprocAttr,s1,s2,s3]);try rfl) ?_;simp(maxSteps:=2000000) only[Ty.w,simprocAttr,s1,s2,s3]
   skip
   refine owp_useQ (hl2 _) (by(try simp only[Ty.w,simprocAttr,s1,s2,s3,t1,t2,hRl,hb,g6,a6]);try rfl) ?_;simp(maxSteps:=2000000) only[Ty.w,simprocAttr,s1,s2,s3,t1,t2,hRl,hb,g6,a6]
   repeat'(rw[if_pos];rotate_left 1;omega;simp(maxSteps:=2000000) only[Ty.w,simprocAttr,s1,s2,s3,t1,t2,hRl,hb,g6,a6])
   exact hI2
 clear s1 s2 s3 hI hgF hgT hl2 S H q
 rintro S H ⟨s1,s2,q,s3,hI⟩
 rw[hpw]
 have hLl:(L2++goalW (.mk gop gname gargs gparams gexprs gkids)).length≤1000:=by
  rw[List.length_append]
  have:(goalW (.mk gop gname gargs gparams gexprs gkids)).length≤1:=by unfold goalW;split<;>simp
  omega
 have hP:=hPW _ hLl
 clear hPW hpw hLl
 generalize L2++goalW (.mk gop gname gargs gparams gexprs gkids)=L3 at hI hP⊢
 refine a_drop (h.next+1) [(3,.imm 6 (Sx.rows L3))] rfl hI.lt ?_ ?_
 ·intro x hx
  simp only[List.mem_cons,List.not_mem_nil,or_false]at hx
  subst hx
  show FrzTo (h.next+1) _ _ (S 3)
  rw[s3]
  exact tl_frzX hI.tl
 refine a_gen (fun S H=>S 2= .ptr h.next 0 0∧S 3= .imm 6 (Sx.rows L3)∧Grow h H∧H.obj h.next=some (.arr 6 [sxZ])) ⟨by simp only[frzS,Ty.w,simprocAttr,s2],by simp only[frzS,Ty.w,simprocAttr],⟨hI.grow.le,fun j hj=>by simp only[below];rw[if_pos (by omega)];exact hI.grow.old j hj⟩,by simp only[below];rw[if_pos (by omega)];exact hI.ores⟩ ?_
 clear s1 s2 s3 hI S H q
 rintro S H ⟨s2,s3,hg,o2⟩
 have hfz:=fun n h=>sx_frz n h (listM (wordM opDef::L3))
 generalize listM (wordM opDef::L3)=X at hP hfz
 obtain⟨xk,xv,xl,xc,xt,xs⟩:=X
 simp only[Sx.cells]at hP hfz⊢
 repeat'(first|refine a_seq fun K hK=>?_|(refine a_regionS ?_;simp(maxSteps:=2000000) only[Ty.w,simprocAttr,s2,s3]))
 refine owp_useQ (hP _) (by(try simp only[Ty.w,simprocAttr,s2,s3,o2]);try rfl) ?_;simp(maxSteps:=2000000) only[Ty.w,simprocAttr,s2,s3,o2]
 repeat'(first|(refine a_ret ?_;simp(maxSteps:=2000000) only[Ty.w,simprocAttr,s2,s3,o2])|(refine hK _ _ ?_;clear hK;try simp only[pst0,simprocAttr]))
 refine⟨?_,hg.set (Nat.le_refl _) _⟩
 simp only[FrzTo]
 exact⟨_,rfl,hfz _ _⟩
end Go.Proofs.YtjeolbgpllbemaaGreat
namespace Go.AM
open Go.ChangeShapes Go.WideShapes
def partsT(P:Program)(t:TypeId):List (Nat × TypeId):=match P.underlying t with
 |some (.struct fs)=>fs.toList.map fun f=>(f.offset,f.type)
 |some (.array n e)=>(List.range n).map fun i=>(i*P.cellsOf e,e)
 |_=>[]
def inRow(P:Program)(e:Nat):Nat→List (Nat × TypeId)→Bool
 |o,[]=>o==e
 |o,p::l=>p.1==o&&inRow P e (o+P.cellsOf p.2) l
def Arg(P:Program):Nat→TypeId→List PV→Prop
 |0,_,_=>False
 |f+1,t,ps=>match P.underlying t with
  |some .bool=> ∃ b,ps=[.sc (.bool b)]
  |some (.int k)=> ∃ n,(Lit.int k n).wf=true∧ps=[.sc (.int k n)]
  |some .string=> ∃ s:ByteArray,s.size≤reachBytes∧ps=[.sc (.string s)]
  |some (.slice e)=> ∃ rows,ps=[.imm (P.cellsOf e) rows]∧rows.length*P.bytesOf e≤reachBytes∧rows.length≤maxLen∧ ∀ r∈rows,r.length=P.cellsOf e∧Arg P f e r
  |some (.struct _)=>ps.length=P.cellsOf t∧ ∀ p∈partsT P t,Arg P f p.2 ((ps.drop p.1).take (P.cellsOf p.2))
  |some (.array _ _)=>ps.length=P.cellsOf t∧ ∀ p∈partsT P t,Arg P f p.2 ((ps.drop p.1).take (P.cellsOf p.2))
  |_=>False
section
variable {H:Type}{enc:TypeId × Value→H}{P:Program}{w:World}{sp:Nat→Bool}{held:Bool}
def RA(w:World)(ps:List PV)(cs:List Value):Prop:=(∀ v∈cs,v.oneCell'=true)∧ ∀ β n,RepL β n (fun b=>b<w.heap.size) w ps cs
theorem RA.len{ps:List PV}{cs:List Value}(h:RA w ps cs):ps.length=cs.length:=(h.2 ⟨fun _=>⟨none,0,0,0⟩,fun _=>False⟩ 0).len
theorem RA.append{ps ps':List PV}{cs cs':List Value}(h:RA w ps cs)(k:RA w ps' cs'):RA w (ps++ps') (cs++cs'):=
 ⟨fun v hv=>by exact(List.mem_append.1 hv).elim (h.1 v) (k.1 v),fun β n=>(h.2 β n).append (k.2 β n)⟩
theorem inRow_le{e:Nat}:(l:List (Nat × TypeId))→(o:Nat)→inRow P e o l=true→o≤e∧ ∀ p∈l,o≤p.1∧p.1+P.cellsOf p.2≤e
 |[],o,h=>by simp[inRow]at h;simp[h]
 |p::l,o,h=>by
  simp only[inRow,Bool.and_eq_true,beq_iff_eq]at h
  obtain⟨h1,h2⟩:=inRow_le l _ h.2
  refine⟨by omega,fun q hq=>?_⟩
  rcases List.mem_cons.1 hq with rfl|hq
  ·omega
  ·have:=h2 q hq;omega
theorem exists_list{α:Type}{R:Nat→α→Prop}:(n:Nat)→(∀ i,i<n→ ∃ x,R i x)→ ∃ l:List α,l.length=n∧ ∀ i x,l[i]? =some x→R i x
 |0,_=>⟨[],rfl,by simp⟩
 |n+1,h=>by
  obtain⟨l,h1,h2⟩:=exists_list n (fun i hi=>h i (by omega))
  obtain⟨x,hx⟩:=h n (by omega)
  refine⟨l++[x],by simp[h1],fun i y hy=>?_⟩
  rw[List.getElem?_append]at hy
  split at hy
  ·exact h2 i y hy
  ·rename_i hi
   have:i=n:=by
    have:=(List.getElem?_eq_some_iff.1 hy).1
    simp at this;omega
   subst this
   rw[h1]at hy
   simp at hy
   subst hy;exact hx
theorem weightsAll_mem{e:TypeId}{n:Nat}:{ds:List (DataW H)}→{i:Nat}→{d:DataW H}→ds[i]? =some d→n∈d.weights P e→n∈DataW.weightsAll P e ds
 |[],_,_,h,_=>by simp at h
 |d0::ds,0,d,h,hn=>by
  simp at h;subst h
  simp only[DataW.weightsAll,List.mem_append];exact .inl hn
 |d0::ds,i+1,d,h,hn=>by
  simp at h
  simp only[DataW.weightsAll,List.mem_append];exact .inr (weightsAll_mem h hn)
theorem sc_RA{v:Value}(h:v.oneCell'=true):RA w [.sc v] [v]:=
 ⟨fun u hu=>by simp at hu;subst hu;exact h,fun β n=>by simp only[RepL,Rep];exact⟨trivial,trivial⟩⟩
end
end Go.AM
namespace Go.AM
open Go.ChangeShapes Go.WideShapes
section
variable {H:Type}{enc:TypeId × Value→H}{P:Program}{w:World}{sp:Nat→Bool}{held:Bool}
def covC(P:Program)(Ts:List TypeId):Bool:=Ts.all fun t=>match P.underlying t with
 |some .bool=>true
 |some (.int _)=>true
 |some .string=>true
 |some (.slice e)=>decide (0<P.cellsOf e)&&Ts.contains e
 |some (.struct _)=>inRow P (P.cellsOf t) 0 (partsT P t)&&(partsT P t).all fun p=>Ts.contains p.2
 |some (.array _ _)=>inRow P (P.cellsOf t) 0 (partsT P t)&&(partsT P t).all fun p=>Ts.contains p.2
 |_=>false
end
end Go.AM
namespace Go.AM
open Go.ChangeShapes Go.WideShapes
section
variable {P:Program}{c:Nat}{t e:TypeId}{ps:List PV}{a:PV}
theorem Arg_int{k:IntKind}(hu:P.underlying t=some (.int k))(h:Arg P (c+1) t ps): ∃ n,(Lit.int k n).wf=true∧ps=[.sc (.int k n)]:=by
 unfold Arg at h;rw[hu]at h;exact h
theorem Arg_slice(hu:P.underlying t=some (.slice e))(h:Arg P (c+1) t ps): ∃ rows,ps=[.imm (P.cellsOf e) rows]∧rows.length*P.bytesOf e≤reachBytes∧rows.length≤maxLen∧ ∀ r∈rows,r.length=P.cellsOf e∧Arg P c e r:=by
 unfold Arg at h;rw[hu]at h;exact h
theorem Arg_struct{fs:Array Field}(hu:P.underlying t=some (.struct fs))(h:Arg P (c+1) t ps):ps.length=P.cellsOf t∧ ∀ p∈partsT P t,Arg P c p.2 ((ps.drop p.1).take (P.cellsOf p.2)):=by
 unfold Arg at h;rw[hu]at h;exact h
theorem rows_map{α:Type}{Q:α→Prop}{f:α→List PV}:(rows:List (List PV))→(∀ r∈rows, ∃ x,Q x∧r=f x)→ ∃ xs:List α,rows=xs.map f∧ ∀ x∈xs,Q x
 |[],_=>⟨[],rfl,by simp⟩
 |r::rows,h=>by
  obtain⟨xs,h1,h2⟩:=rows_map rows (fun q hq=>h q (by simp[hq]))
  obtain⟨x,h3,h4⟩:=h r (by simp)
  refine⟨x::xs,by simp[h1,h4],fun y hy=>?_⟩
  rcases List.mem_cons.1 hy with rfl|hy
  ·exact h3
  ·exact h2 y hy
theorem i64_in{n:Int}(h:(Lit.int .i64 n).wf=true): -9223372036854775808≤n∧n≤9223372036854775807:=by
 simp[Lit.wf,IntKind.min,IntKind.max,IntKind.bits,IntKind.signed]at h
 omega
end
end Go.AM
namespace Go.Proofs.YtjeolbgpllbemaaGreat
open Go.AM
set_option maxHeartbeats 1000000
set_option maxRecDepth 20000
def recTs:List TypeId:=[29,91,84,9,3,25,22,26,27]
theorem parts57:partsT Tryz.prog 91=[(0,9),(1,9),(2,3),(3,25),(4,26)]:=by kernel_rfl
theorem parts29:partsT Tryz.prog 29=[(0,9),(1,9),(2,25),(3,22),(4,26),(5,27)]:=by kernel_rfl
theorem parts99:partsT Tryz.prog 84=[(0,9),(1,9)]:=by kernel_rfl
theorem co9:Tryz.prog.cellsOf 9=1:=by kernel_rfl
theorem co3:Tryz.prog.cellsOf 3=1:=by kernel_rfl
theorem co24:Tryz.prog.cellsOf 25=1:=by kernel_rfl
theorem co25:Tryz.prog.cellsOf 22=1:=by kernel_rfl
theorem co26:Tryz.prog.cellsOf 26=1:=by kernel_rfl
theorem co27:Tryz.prog.cellsOf 27=1:=by kernel_rfl
theorem co57:Tryz.prog.cellsOf 91=5:=by kernel_rfl
theorem co29:Tryz.prog.cellsOf 29=6:=by kernel_rfl
theorem co99:Tryz.prog.cellsOf 84=2:=by kernel_rfl
theorem by9:0<Tryz.prog.bytesOf 9:=by rw[show Tryz.prog.bytesOf 9=16 by kernel_rfl];omega
theorem by99:0<Tryz.prog.bytesOf 84:=by rw[show Tryz.prog.bytesOf 84=32 by kernel_rfl];omega
theorem by57:0<Tryz.prog.bytesOf 91:=by rw[show Tryz.prog.bytesOf 91=88 by kernel_rfl];omega
theorem by29:0<Tryz.prog.bytesOf 29:=by rw[show Tryz.prog.bytesOf 29=128 by kernel_rfl];omega
theorem len_le{n b:Nat}(h:n*b≤reachBytes)(hb:0<b):n≤bigN:=by
 have:=Nat.le_mul_of_pos_right n hb
 unfold reachBytes at h
 unfold bigN
 omega
theorem arg_str{c:Nat}{ps:List PV}(h:Arg Tryz.prog c 9 ps): ∃ s:ByteArray,s.size≤bigN∧ps=[sPV s]:=by
 cases c with
 |zero=>simp[Arg]at h
 |succ c=>
  unfold Arg at h
  rw[Tryz.underlying9]at h
  obtain⟨s,h1,h2⟩:=h
  exact⟨s,by unfold reachBytes at h1;unfold bigN;omega,h2⟩
theorem arg_i64{c:Nat}{ps:List PV}(h:Arg Tryz.prog c 3 ps): ∃ n:Int,(-9223372036854775808≤n∧n≤9223372036854775807)∧ps=[.sc (.int .i64 n)]:=by
 cases c with
 |zero=>simp[Arg]at h
 |succ c=>
  obtain⟨n,h1,h2⟩:=Arg_int Tryz.underlying3 h
  exact⟨n,i64_in h1,h2⟩
theorem arg_strs{c:Nat}{ps:List PV}(h:Arg Tryz.prog c 25 ps): ∃ l:List ByteArray,(l.length≤bigN∧ ∀ a∈l,a.size≤bigN)∧ps=[.imm 1 (strRows l)]:=by
 cases c with
 |zero=>simp[Arg]at h
 |succ c=>
  obtain⟨rows,rfl,h1,_,h2⟩:=Arg_slice Tryz.underlying25 h
  obtain⟨xs,rfl,h3⟩:=rows_map (Q:=fun s:ByteArray=>s.size≤bigN) (f:=fun s=>[sPV s]) rows (fun r hr=>arg_str (h2 r hr).2)
  refine⟨xs,⟨len_le (by simpa using h1) by9,h3⟩,?_⟩
  rw[co9];try rfl
theorem arg_pm{c:Nat}{ps:List PV}(h:Arg Tryz.prog c 84 ps): ∃ p:Pm,p.ok∧ps=pmRow p:=by
 cases c with
 |zero=>simp[Arg]at h
 |succ c=>
  obtain⟨h1,h2⟩:=Arg_struct Tryz.underlying84 h
  rw[co99]at h1
  rw[parts99]at h2
  match ps,h1,h2 with
  |[p0,p1],_,h2=>
   have a0:=h2 (0,9) (by simp)
   have a1:=h2 (1,9) (by simp)
   simp only[co9,List.drop_zero,List.drop_succ_cons,List.take_succ_cons,List.take_zero]at a0 a1
   obtain⟨s,hs,e1⟩:=arg_str a0
   obtain⟨t,ht,e2⟩:=arg_str a1
   simp at e1 e2
   exact⟨⟨s,t⟩,⟨hs,ht⟩,by simp[pmRow,e1,e2]⟩
theorem arg_pms{c:Nat}{ps:List PV}(h:Arg Tryz.prog c 22 ps): ∃ l:List Pm,(l.length≤bigN∧ ∀ a∈l,a.ok)∧ps=[.imm 2 (pmRows l)]:=by
 cases c with
 |zero=>simp[Arg]at h
 |succ c=>
  obtain⟨rows,rfl,h1,_,h2⟩:=Arg_slice Tryz.underlying22 h
  obtain⟨xs,rfl,h3⟩:=rows_map (Q:=Pm.ok) (f:=pmRow) rows (fun r hr=>arg_pm (h2 r hr).2)
  refine⟨xs,⟨len_le (by simpa using h1) by99,h3⟩,?_⟩
  rw[co99];try rfl
theorem arg_ex: ∀ (c:Nat){ps:List PV},Arg Tryz.prog c 91 ps→ ∃ e:Ex,e.ok∧ps=e.cells:=by
 intro c
 induction c using Nat.strongRecOn with
 |_ c ih=>
  intro ps h
  cases c with
  |zero=>simp[Arg]at h
  |succ c=>
   obtain⟨h1,h2⟩:=Arg_struct Tryz.underlying91 h
   rw[co57]at h1
   rw[parts57]at h2
   match ps,h1,h2 with
   |[p0,p1,p2,p3,p4],_,h2=>
    have a0:=h2 (0,9) (by simp)
    have a1:=h2 (1,9) (by simp)
    have a2:=h2 (2,3) (by simp)
    have a3:=h2 (3,25) (by simp)
    have a4:=h2 (4,26) (by simp)
    simp only[co9,co3,co24,co26,List.drop_zero,List.drop_succ_cons,List.take_succ_cons,List.take_zero]at a0 a1 a2 a3 a4
    obtain⟨op,hop,e0⟩:=arg_str a0
    obtain⟨name,hname,e1⟩:=arg_str a1
    obtain⟨n,hn,e2⟩:=arg_i64 a2
    obtain⟨args,hargs,e3⟩:=arg_strs a3
    cases c with
    |zero=>simp[Arg]at a4
    |succ c=>
     obtain⟨rows,e4,h3,_,h4⟩:=Arg_slice Tryz.underlying26 a4
     obtain⟨xs,rfl,h5⟩:=rows_map (Q:=Ex.ok) (f:=Ex.cells) rows (fun r hr=>ih c (by omega) (h4 r hr).2)
     rw[co57]at e4
     simp at e0 e1 e2 e3 e4
     refine⟨.mk op name n args xs,?_,?_⟩
     ·simp only[Ex.ok]
      exact⟨hop,hname,hn,hargs,len_le (by simpa using h3) by57,Ex.oks_iff.2 h5⟩
     ·simp only[Ex.cells,e0,e1,e2,e3,e4,Ex.rows_map]
theorem arg_exs{c:Nat}{ps:List PV}(h:Arg Tryz.prog c 26 ps): ∃ l:List Ex,(l.length≤bigN∧Ex.oks l)∧ps=[.imm 5 (Ex.rows l)]:=by
 cases c with
 |zero=>simp[Arg]at h
 |succ c=>
  obtain⟨rows,rfl,h1,_,h2⟩:=Arg_slice Tryz.underlying26 h
  obtain⟨xs,rfl,h3⟩:=rows_map (Q:=Ex.ok) (f:=Ex.cells) rows (fun r hr=>arg_ex c (h2 r hr).2)
  refine⟨xs,⟨len_le (by simpa using h1) by57,Ex.oks_iff.2 h3⟩,?_⟩
  rw[co57,Ex.rows_map]
theorem arg_fm: ∀ (c:Nat){ps:List PV},Arg Tryz.prog c 29 ps→ ∃ f:Fm,f.ok∧ps=f.cells:=by
 intro c
 induction c using Nat.strongRecOn with
 |_ c ih=>
  intro ps h
  cases c with
  |zero=>simp[Arg]at h
  |succ c=>
   obtain⟨h1,h2⟩:=Arg_struct Tryz.underlying29 h
   rw[co29]at h1
   rw[parts29]at h2
   match ps,h1,h2 with
   |[p0,p1,p2,p3,p4,p5],_,h2=>
    have a0:=h2 (0,9) (by simp)
    have a1:=h2 (1,9) (by simp)
    have a2:=h2 (2,25) (by simp)
    have a3:=h2 (3,22) (by simp)
    have a4:=h2 (4,26) (by simp)
    have a5:=h2 (5,27) (by simp)
    simp only[co9,co24,co25,co26,co27,List.drop_zero,List.drop_succ_cons,List.take_succ_cons,List.take_zero]at a0 a1 a2 a3 a4 a5
    obtain⟨op,hop,e0⟩:=arg_str a0
    obtain⟨name,hname,e1⟩:=arg_str a1
    obtain⟨args,hargs,e2⟩:=arg_strs a2
    obtain⟨params,hparams,e3⟩:=arg_pms a3
    obtain⟨exprs,hexprs,e4⟩:=arg_exs a4
    cases c with
    |zero=>simp[Arg]at a5
    |succ c=>
     obtain⟨rows,e5,h3,_,h4⟩:=Arg_slice Tryz.underlying27 a5
     obtain⟨xs,rfl,h5⟩:=rows_map (Q:=Fm.ok) (f:=Fm.cells) rows (fun r hr=>ih c (by omega) (h4 r hr).2)
     rw[co29]at e5
     simp at e0 e1 e2 e3 e4 e5
     refine⟨.mk op name args params exprs xs,?_,?_⟩
     ·simp only[Fm.ok]
      exact⟨hop,hname,hargs,hparams,hexprs,len_le (by simpa using h3) by29,Fm.oks_iff.2 h5⟩
     ·simp only[Fm.cells,e0,e1,e2,e3,e4,e5,Fm.rows_map]
end Go.Proofs.YtjeolbgpllbemaaGreat
namespace Go.Proofs.YtjeolbgpllbemaaGreat
open Go.AM
set_option maxHeartbeats 2000000
set_option maxRecDepth 20000
theorem rsizeE_c: ∀ (e:Ex),e.ok→ ∀ h:Heap,PCall Tryz.prog 52 [.agg e.cells] h fun r h'=>r= .sc (.int .i64 e.size)∧h'=h:=by
 refine Ex.ind ?_
 intro op name n args kids ih hok h
 simp only[Ex.ok]at hok
 obtain⟨_,_,_,_,hk,hks⟩:=hok
 rw[Ex.oks_iff]at hks
 have hlen:=Ex.rows_len kids
 simp only[Ex.cells,Ex.size]
 refine pcall_body (ow:=fun _=>false) (wf:=fun _=>false) Ty.mixed Tryz.func52 rfl Ty.hb_52 (by rw[Tryz.ntmps52];simp) ?_
 rw[Tryz.ntmps52,Tryz.results52]
 repeat'(first|refine a_seq fun K hK=>?_|(refine a_block ?_)|(refine a_regionS ?_;simp(maxSteps:=2000000) only[Ty.w,simprocAttr,hlen])|(refine hK _ _ ?_;clear hK;try simp only[pst0,simprocAttr]))
 refine a_loop (fun m S h'=>h'=h∧S 1= .cptr (Ex.mk op name n args kids).cells∧ ∃ k:Nat,S 4= .sc (.int .i64 k)∧k≤kids.length∧m=kids.length-k∧S 3= .sc (.int .i64 (Ex.sizes 1 (kids.take k)))) kids.length ?_ ?_
 ·simp only[Ty.w,simprocAttr]
  exact⟨rfl,0,rfl,by omega,rfl,by simp[Ex.sizes]⟩
 ·rintro m S h' ⟨rfl,g1,k,g4,hkl,rfl,g3⟩
  simp only[Ex.cells]at g1
  by_cases hlt:k<kids.length
  ·have hd:decide ((k:Int)<(kids.length:Int))=true:=by simp;omega
   have w7:IntKind.i64.wrap ((k:Int)+1)=k+1:=by unfold bigN at hk;rw[wrap64 (by omega) (by omega)]
   obtain⟨e,hx⟩: ∃ e,kids[k]? =some e:=⟨_,List.getElem?_eq_getElem hlt⟩
   have hmem:=List.mem_of_getElem? hx
   have hc:=ih e hmem (hks e hmem)
   have hsz:=Ex.sizes_take 1 hx
   have hr:=Ex.rows_get hx
   obtain⟨op2,name2,n2,args2,kids2⟩:=e
   simp only[Ex.cells]at hr hc
   repeat'(first|refine a_seq fun K hK=>?_|(refine a_block ?_)|((first|refine a_regionS ?_|refine a_region (fun K hK=>?_));simp(maxSteps:=2000000) only[Ty.w,simprocAttr,g1,g3,g4,hlen,hd,hr,w7])|(refine a_skip ?_;try simp only[pst0,simprocAttr])|(refine a_cond _ (by(try simp(maxSteps:=2000000) only[Ty.w,simprocAttr,g1,g3,g4,hlen,hd,hr,w7]);rfl) (fun hb=>?_) (fun hb=>?_)<;>(try simp only[hb0,decide_eq_true_eq,decide_eq_false_iff_not,simprocAttr]at hb)<;>(try(exfalso;omega)))|(refine hK _ _ ?_;clear hK;try simp only[pst0,simprocAttr]))
   refine owp_useQ (hc _) (by(try simp only[Ty.w,simprocAttr,g1,g3,g4,hlen,hd,hr]);try rfl) ?_;simp(maxSteps:=2000000) only[Ty.w,simprocAttr,g1,g3,g4,hlen,hd,hr]
   repeat'(first|(refine a_regionS ?_;simp(maxSteps:=2000000) only[Ty.w,simprocAttr,g1,g3,g4,w7])|(refine hK _ _ ?_;clear hK;try simp only[pst0,simprocAttr]))
   exact⟨kids.length-(k+1),by omega,rfl,k+1,by simp,by omega,rfl,by rw[hsz]⟩
  ·have hd:decide ((k:Int)<(kids.length:Int))=false:=by simp;omega
   have hke:k=kids.length:=by omega
   subst hke
   rw[List.take_length]at g3
   repeat'(first|refine a_seq fun K hK=>?_|((first|refine a_regionS ?_|refine a_ret ?_);simp(maxSteps:=2000000) only[Ty.w,simprocAttr,g1,g3,g4,hlen,hd])|(refine a_exit ?_;try simp only[pst0,simprocAttr])|(refine a_cond _ (by(try simp(maxSteps:=2000000) only[Ty.w,simprocAttr,g1,g3,g4,hlen,hd]);rfl) (fun hb=>?_) (fun hb=>?_)<;>(try simp only[hb0,decide_eq_true_eq,decide_eq_false_iff_not,simprocAttr]at hb)<;>(try(exfalso;omega)))|((first|refine hK _ _ ?_|(clear hK;refine hK _ _ ?_));clear hK;try simp only[pst0,simprocAttr]))
theorem rsize_c: ∀ (f:Fm),f.ok→ ∀ h:Heap,PCall Tryz.prog 22 [.agg f.cells] h fun r h'=>r= .sc (.int .i64 f.size)∧h'=h:=by
 refine Fm.ind ?_
 intro op name args params exprs kids ih hok h
 simp only[Fm.ok]at hok
 obtain⟨_,_,_,_,⟨he,hes⟩,hk,hks⟩:=hok
 rw[Ex.oks_iff]at hes
 rw[Fm.oks_iff]at hks
 have hlen:=Fm.rows_len kids
 have hlene:=Ex.rows_len exprs
 simp only[Fm.cells,Fm.size]
 refine pcall_body (ow:=fun _=>false) (wf:=fun _=>false) Ty.mixed Tryz.func22 rfl Ty.hb_22 (by rw[Tryz.ntmps22];simp) ?_
 rw[Tryz.ntmps22,Tryz.results22]
 repeat'(first|refine a_seq fun K hK=>?_|(refine a_block ?_)|(refine a_regionS ?_;simp(maxSteps:=2000000) only[Ty.w,simprocAttr,hlen])|(refine hK _ _ ?_;clear hK;try simp only[pst0,simprocAttr]))
 refine a_loop (fun m S h'=>h'=h∧S 1= .cptr (Fm.mk op name args params exprs kids).cells∧ ∃ k:Nat,S 4= .sc (.int .i64 k)∧k≤exprs.length∧m=exprs.length-k∧S 3= .sc (.int .i64 (Ex.sizes 1 (exprs.take k)))) exprs.length ?_ ?_
 ·simp only[Ty.w,simprocAttr]
  exact⟨rfl,0,rfl,by omega,rfl,by simp[Ex.sizes]⟩
 ·rintro m S h' ⟨rfl,g1,k,g4,hkl,rfl,g3⟩
  simp only[Fm.cells]at g1
  by_cases hlt:k<exprs.length
  ·have hd:decide ((k:Int)<(exprs.length:Int))=true:=by simp;omega
   have w7:IntKind.i64.wrap ((k:Int)+1)=k+1:=by unfold bigN at he;rw[wrap64 (by omega) (by omega)]
   obtain⟨e,hx⟩: ∃ e,exprs[k]? =some e:=⟨_,List.getElem?_eq_getElem hlt⟩
   have hmem:=List.mem_of_getElem? hx
   have hc:=rsizeE_c e (hes e hmem)
   have hsz:=Ex.sizes_take 1 hx
   have hr:=Ex.rows_get hx
   obtain⟨op2,name2,n2,args2,kids2⟩:=e
   simp only[Ex.cells]at hr hc
   repeat'(first|refine a_seq fun K hK=>?_|(refine a_block ?_)|((first|refine a_regionS ?_|refine a_region (fun K hK=>?_));simp(maxSteps:=2000000) only[Ty.w,simprocAttr,g1,g3,g4,hlene,hd,hr,w7])|(refine a_skip ?_;try simp only[pst0,simprocAttr])|(refine a_cond _ (by(try simp(maxSteps:=2000000) only[Ty.w,simprocAttr,g1,g3,g4,hlene,hd,hr,w7]);rfl) (fun hb=>?_) (fun hb=>?_)<;>(try simp only[hb0,decide_eq_true_eq,decide_eq_false_iff_not,simprocAttr]at hb)<;>(try(exfalso;omega)))|(refine hK _ _ ?_;clear hK;try simp only[pst0,simprocAttr]))
   refine owp_useQ (hc _) (by(try simp only[Ty.w,simprocAttr,g1,g3,g4,hlene,hd,hr]);try rfl) ?_;simp(maxSteps:=2000000) only[Ty.w,simprocAttr,g1,g3,g4,hlene,hd,hr]
   repeat'(first|(refine a_regionS ?_;simp(maxSteps:=2000000) only[Ty.w,simprocAttr,g1,g3,g4,w7])|(refine hK _ _ ?_;clear hK;try simp only[pst0,simprocAttr]))
   exact⟨exprs.length-(k+1),by omega,by simp only[Fm.cells],k+1,by simp,by omega,rfl,by rw[hsz]⟩
  ·have hd:decide ((k:Int)<(exprs.length:Int))=false:=by simp;omega
   have hke:k=exprs.length:=by omega
   subst hke
   rw[List.take_length]at g3
   repeat'(first|refine a_seq fun K hK=>?_|(refine a_block ?_)|(refine a_regionS ?_;simp(maxSteps:=2000000) only[Ty.w,simprocAttr,g1,g3,g4,hlene,hd])|(refine a_exit ?_;try simp only[pst0,simprocAttr])|(refine a_cond _ (by(try simp(maxSteps:=2000000) only[Ty.w,simprocAttr,g1,g3,g4,hlene,hd]);rfl) (fun hb=>?_) (fun hb=>?_)<;>(try simp only[hb0,decide_eq_true_eq,decide_eq_false_iff_not,simprocAttr]at hb)<;>(try(exfalso;omega)))|((first|refine hK _ _ ?_|(clear hK;refine hK _ _ ?_));clear hK;try simp only[pst0,simprocAttr]))
   refine a_loop (fun m S h2=>h2=h'∧S 1= .cptr (Fm.mk op name args params exprs kids).cells∧ ∃ k:Nat,S 5= .sc (.int .i64 k)∧k≤kids.length∧m=kids.length-k∧S 3= .sc (.int .i64 (Fm.sizes (Ex.sizes 1 exprs) (kids.take k)))) kids.length ?_ ?_
   ·simp only[Ty.w,simprocAttr,g1,g3]
    exact⟨by simp only[Fm.cells],0,rfl,by omega,rfl,by simp[Fm.sizes]⟩
   ·clear g1 g3 g4
    rintro m S h' ⟨rfl,g1,k,g5,hkl,rfl,g3⟩
    simp only[Fm.cells]at g1
    by_cases hlt:k<kids.length
    ·have hd:decide ((k:Int)<(kids.length:Int))=true:=by simp;omega
     have w7:IntKind.i64.wrap ((k:Int)+1)=k+1:=by unfold bigN at hk;rw[wrap64 (by omega) (by omega)]
     obtain⟨e,hx⟩: ∃ e,kids[k]? =some e:=⟨_,List.getElem?_eq_getElem hlt⟩
     have hmem:=List.mem_of_getElem? hx
     have hc:=ih e hmem (hks e hmem)
     have hsz:=Fm.sizes_take (Ex.sizes 1 exprs) hx
     have hr:=Fm.rows_get hx
     obtain⟨op2,name2,args2,params2,exprs2,kids2⟩:=e
     simp only[Fm.cells]at hr hc
     repeat'(first|refine a_seq fun K hK=>?_|(refine a_block ?_)|((first|refine a_regionS ?_|refine a_region (fun K hK=>?_));simp(maxSteps:=2000000) only[Ty.w,simprocAttr,g1,g3,g5,hlen,hd,hr,w7])|(refine a_skip ?_;try simp only[pst0,simprocAttr])|(refine a_cond _ (by(try simp(maxSteps:=2000000) only[Ty.w,simprocAttr,g1,g3,g5,hlen,hd,hr,w7]);rfl) (fun hb=>?_) (fun hb=>?_)<;>(try simp only[hb0,decide_eq_true_eq,decide_eq_false_iff_not,simprocAttr]at hb)<;>(try(exfalso;omega)))|(refine hK _ _ ?_;clear hK;try simp only[pst0,simprocAttr]))
     refine owp_useQ (hc _) (by(try simp only[Ty.w,simprocAttr,g1,g3,g5,hlen,hd,hr]);try rfl) ?_;simp(maxSteps:=2000000) only[Ty.w,simprocAttr,g1,g3,g5,hlen,hd,hr]
     repeat'(first|(refine a_regionS ?_;simp(maxSteps:=2000000) only[Ty.w,simprocAttr,g1,g3,g5,w7])|(refine hK _ _ ?_;clear hK;try simp only[pst0,simprocAttr]))
     exact⟨kids.length-(k+1),by omega,by simp only[Fm.cells],k+1,by simp,by omega,rfl,by rw[hsz]⟩
    ·have hd:decide ((k:Int)<(kids.length:Int))=false:=by simp;omega
     have hke:k=kids.length:=by omega
     subst hke
     rw[List.take_length]at g3
     repeat'(first|refine a_seq fun K hK=>?_|((first|refine a_regionS ?_|refine a_ret ?_);simp(maxSteps:=2000000) only[Ty.w,simprocAttr,g1,g3,g5,hlen,hd])|(refine a_exit ?_;try simp only[pst0,simprocAttr])|(refine a_cond _ (by(try simp(maxSteps:=2000000) only[Ty.w,simprocAttr,g1,g3,g5,hlen,hd]);rfl) (fun hb=>?_) (fun hb=>?_)<;>(try simp only[hb0,decide_eq_true_eq,decide_eq_false_iff_not,simprocAttr]at hb)<;>(try(exfalso;omega)))|((first|refine hK _ _ ?_|(clear hK;refine hK _ _ ?_));clear hK;try simp only[pst0,simprocAttr]))
end Go.Proofs.YtjeolbgpllbemaaGreat
