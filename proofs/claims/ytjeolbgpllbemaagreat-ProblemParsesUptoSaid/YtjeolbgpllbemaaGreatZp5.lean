/- What the claim rests on, part 5: the abstract machine, contracts of the functions, plain data. -/
import Derived.Test.YtjeolbgpllbemaaGreatZp4
set_option linter.unusedVariables false
set_option linter.unusedSimpArgs false
set_option linter.unusedSectionVars false
namespace Go.AM
def Vl.ok(v:Vl):Prop:=v.at_.ok∧ -9223372036854775808≤v.n∧v.n≤9223372036854775807
def Pb.ok(p:Pb):Prop:=p.name.size≤bigN∧p.domain.size≤bigN∧(p.objects.length≤bigN∧ ∀ o∈p.objects,o.ok)∧(p.init.length≤bigN∧ ∀ a∈p.init,a.ok)∧(p.values.length≤bigN∧ ∀ v∈p.values,v.ok)∧p.goal.ok
end Go.AM
namespace Go.Proofs.YtjeolbgpllbemaaGreat
open Go.AM
set_option maxHeartbeats 4000000
set_option maxRecDepth 20000
def objB(o:Pm):Bool:=nameB o.name&&typedB o.type
def vlB(v:Vl):Bool:=rightA v.at_&&inNum v.n
def expressB(p:Pb):Bool:=nameB p.name&&nameB p.domain&&p.objects.all objB&&p.values.all vlB&&!(p.init.any fun a=>!rightA a)
theorem expressible_c{p:Pb}(hok:p.ok)(h:Heap):PCall Tryz.prog 25 [.agg p.cells] h fun r h'=>r= .sc (.bool (expressB p))∧h'=h:=by
 obtain⟨hn,hd,⟨hol,hos⟩,⟨hil,his⟩,⟨hvl,hvs⟩,_⟩:=hok;obtain⟨name,domain,objects,init,values,goal⟩:=p;simp only at hn hd hol hos hil his hvl hvs;have hn':name.size≤9223372036854775807:=by unfold bigN at hn;omega
 have hd':domain.size≤9223372036854775807:=by unfold bigN at hd;omega
 have hlO:=pmRows_len objects;have hlV:=vlRows_len values;obtain⟨gop,gname,gargs,gparams,gexprs,gkids⟩:=goal;refine PCall.quiet Ty.hb_25 ?_;generalize hF:expressB _=F;simp only[expressB]at hF;simp only[Pb.cells,Fm.cells,List.cons_append,List.nil_append];cases q1:nameB name with
 |false=>
  rw[q1]at hF;simp only[Bool.false_and]at hF;subst hF;refine uG0 Tryz.func25 Tryz.ntmps25 Tryz.results25 Ty.hb_25 ?_;repeat'(first|refine a_seq fun K hK=>?_|refine uR trivial ?_|(refine uN hK ?_;clear hK)|apply zI)
  refine uU q1 (fname_c (s:=name) hn') ?_;replace zz:=uu q1 @Bool.not_false;repeat'(first|refine a_seq fun K hK=>?_|refine uR zz ?_|refine uT zz ?_|(refine uN hK ?_;clear hK)|apply zI)
  exact Grow.refl h
 |true=>
  cases q2:nameB domain with
  |false=>
   rw[q1,q2]at hF;simp only[Bool.true_and,Bool.false_and]at hF;subst hF;refine uG0 Tryz.func25 Tryz.ntmps25 Tryz.results25 Ty.hb_25 ?_;(repeat'(first|refine a_seq fun K hK=>?_|refine uR trivial ?_|(refine uN hK ?_;clear hK)|apply zI));refine uU q1 (fname_c (s:=name) hn') ?_;(try apply zI);refine uU (uu q1 q2) (fname_c (s:=domain) hd') ?_;replace zz:=uu q1 (uu q2 (uu @Bool.not_true @Bool.not_false));(repeat'(first|refine a_seq fun K hK=>?_|refine uR zz ?_|refine uT zz ?_|(refine uN hK ?_;clear hK)|apply zI));exact Grow.refl h
  |true=>
   rw[q1,q2]at hF;simp only[Bool.true_and]at hF;unfold bigN at hol hvl;refine uG0 Tryz.func25 Tryz.ntmps25 Tryz.results25 Ty.hb_25 ?_;(repeat'(first|refine a_seq fun K hK=>?_|refine uR trivial ?_|(refine uN hK ?_;clear hK)|apply zI));refine uU q1 (fname_c (s:=name) hn') ?_;(try apply zI);refine uU (uu q1 q2) (fname_c (s:=domain) hd') ?_;(repeat'(first|with_reducible refine a_hold 3 ?_|refine uK ?_|refine uC1 (uu q1 (uu q2 @Bool.not_true)) ?_|(refine uN hK ?_;clear hK)|apply zI));refine⟨?_⟩;refine a_cut (fun S h'=>S 1= .cptr (Pb.mk name domain objects init values (.mk gop gname gargs gparams gexprs gkids)).cells∧Grow h h'∧objects.all objB=true) ?_ ?_
   ·have hFp:objects.all objB=false→F=false:=fun hh=>(by rw[← hF,hh];try rfl);(try clear zz);clear hF;(repeat'(first|refine a_seq fun K hK=>?_|refine a_block ?_|refine uR hlO ?_|(refine uN hK ?_;clear hK)|apply zI));refine a_loop (fun c S h'=>S 1= .cptr (Pb.mk name domain objects init values (.mk gop gname gargs gparams gexprs gkids)).cells∧S 18= .imm 2 (pmRows objects)∧S 19= .sc (.int .i64 objects.length)∧ ∃ k:Nat,S 20= .sc (.int .i64 k)∧k≤objects.length∧c=objects.length-k∧Grow h h'∧objects.all objB=(objects.drop k).all objB) objects.length ?_ ?_
    ·simp only[Ty.w,simprocAttr,Pb.cells,Fm.cells,List.cons_append,List.nil_append];exact⟨0,rfl,by omega,rfl,Grow.refl h,rfl⟩
    ·rintro c S h' ⟨g1,g18,g19,k,g20,hk,rfl,hG,hall⟩;simp only[Pb.cells,Fm.cells,List.cons_append,List.nil_append]at g1;by_cases hlt:k<objects.length
     ·have hdk:decide ((k:Int)<(objects.length:Int))=true:=(by simp;omega);have w7:IntKind.i64.wrap ((k:Int)+1)=k+1:=(by rw[wrap64 (by omega) (by omega)]);obtain⟨o,hx⟩: ∃ o,objects[k]? =some o:=⟨_,List.getElem?_eq_getElem hlt⟩;have hr:=pmRows_get hx;obtain⟨ho1,ho2⟩:=hos o (List.mem_of_getElem? hx);have ho1':o.name.size≤9223372036854775807:=(by unfold bigN at ho1;omega);have ho2':o.type.size≤9223372036854775807:=(by unfold bigN at ho2;omega);have hG2:Grow h ((h'.new (.arr 2 [[.sc (.string ⟨#[]⟩),.sc (.string ⟨#[]⟩)]])).set h'.next (.arr 2 [[sPV o.name,sPV o.type]])):=(hG.new _).set hG.le _;have tT:typedB o.type=(nameB o.type||(o.type.data.toList==(#[111,98,106,101,99,116]:Array UInt8).toList)):=rfl;rw[drop_get hx]at hall;simp only[List.all_cons,objB,tT]at hall;cases v1:nameB o.name with
      |false=>
       have hp:=hFp (by rw[hall,v1];try rfl);subst hp;replace zz:=uu g1 (uu g18 (uu g19 (uu g20 (uu hdk hr))));(repeat'(first|refine a_seq fun K hK=>?_|refine uR zz ?_|refine uK ?_|refine uC1 zz ?_|(refine uN hK ?_;clear hK)|apply zI));replace zz:=uu g1 (uu g18 (uu g19 (uu g20 v1)));refine uU zz (fname_c (s:=o.name) ho1') ?_;replace zz:=uu g1 (uu g18 (uu g19 (uu g20 (uu v1 @Bool.not_false))));(repeat'(first|refine a_seq fun K hK=>?_|refine uR zz ?_|refine uT zz ?_|(refine uN hK ?_;clear hK)|apply zI));all_goals first|exact hG2|exact⟨rfl,hG2⟩
      |true=>
       cases v2:nameB o.type with
       |true=>
        rw[v1,v2]at hall;replace zz:=uu g1 (uu g18 (uu g19 (uu g20 (uu hdk hr))));(repeat'(first|refine a_seq fun K hK=>?_|refine uR zz ?_|refine uK ?_|refine uC1 zz ?_|(refine uN hK ?_;clear hK)|apply zI));replace zz:=uu g1 (uu g18 (uu g19 (uu g20 v1)));refine uU zz (fname_c (s:=o.name) ho1') ?_;(try apply zI);replace zz:=uu g1 (uu g18 (uu g19 (uu g20 (uu v1 v2))));refine uU zz (fname_c (s:=o.type) ho2') ?_;replace zz:=uu g1 (uu g18 (uu g19 (uu g20 (uu v1 (uu v2 (uu w7 @Bool.not_true))))));(repeat'(first|refine a_block ?_|refine uR zz ?_|refine uK ?_|(refine uN hK ?_;clear hK)|apply zI));exact⟨objects.length-(k+1),by omega,by simp only[Pb.cells,Fm.cells,List.cons_append,List.nil_append],k+1,by simp,by omega,rfl,hG2,by simpa using hall⟩
       |false=>
        cases v3:(o.type.data.toList==(#[111,98,106,101,99,116]:Array UInt8).toList)with
        |true=>
         rw[v1,v2,v3]at hall;replace zz:=uu g1 (uu g18 (uu g19 (uu g20 (uu hdk hr))));(repeat'(first|refine a_seq fun K hK=>?_|refine uR zz ?_|refine uK ?_|refine uC1 zz ?_|(refine uN hK ?_;clear hK)|apply zI));replace zz:=uu g1 (uu g18 (uu g19 (uu g20 v1)));refine uU zz (fname_c (s:=o.name) ho1') ?_;(try apply zI);replace zz:=uu g1 (uu g18 (uu g19 (uu g20 (uu v1 v2))));refine uU zz (fname_c (s:=o.type) ho2') ?_;replace zz:=uu g1 (uu g18 (uu g19 (uu g20 (uu v1 (uu v2 (uu v3 (uu w7 (uu @Bool.not_true @Bool.not_false))))))));(repeat'(first|refine uR zz ?_|refine uK ?_|refine uC1 zz ?_|(refine uN hK ?_;clear hK)|apply zI));exact⟨objects.length-(k+1),by omega,by simp only[Pb.cells,Fm.cells,List.cons_append,List.nil_append],k+1,by simp,by omega,rfl,hG2,by simpa using hall⟩
        |false=>
         have hp:=hFp (by rw[hall,v1,v2,v3];try rfl);subst hp;replace zz:=uu g1 (uu g18 (uu g19 (uu g20 (uu hdk hr))));(repeat'(first|refine a_seq fun K hK=>?_|refine uR zz ?_|refine uK ?_|refine uC1 zz ?_|(refine uN hK ?_;clear hK)|apply zI));replace zz:=uu g1 (uu g18 (uu g19 (uu g20 v1)));refine uU zz (fname_c (s:=o.name) ho1') ?_;(try apply zI);replace zz:=uu g1 (uu g18 (uu g19 (uu g20 (uu v1 v2))));refine uU zz (fname_c (s:=o.type) ho2') ?_;replace zz:=uu g1 (uu g18 (uu g19 (uu g20 (uu v1 (uu v2 (uu v3 (uu w7 (uu @Bool.not_true @Bool.not_false))))))));(repeat'(first|refine a_seq fun K hK=>?_|refine uR zz ?_|refine uT zz ?_|refine uC1 zz ?_|(refine uN hK ?_;clear hK)|apply zI));all_goals first|exact hG2|exact⟨rfl,hG2⟩
     ·have hdk:decide ((k:Int)<(objects.length:Int))=false:=(by simp;omega);rw[List.drop_eq_nil_of_le (by omega)]at hall;replace zz:=uu g1 (uu g18 (uu g19 (uu g20 hdk)));(repeat'(first|refine a_seq fun K hK=>?_|refine uR zz ?_|refine uX ?_|refine uC1 zz ?_|(refine uN hK ?_;clear hK)|apply zI));simp(maxSteps:=2000000) only[Ty.w,simprocAttr,Ty.all,g1,Pb.cells,Fm.cells,List.cons_append,List.nil_append];exact⟨hG,hall⟩
   ·rintro S h' ⟨g1,hG,hall⟩;simp only[Pb.cells,Fm.cells,List.cons_append,List.nil_append]at g1;rw[hall]at hF;simp only[Bool.true_and]at hF;(try clear zz);clear hall;(repeat'(first|with_reducible refine a_hold 9 ?_|apply zI));refine⟨?_⟩;refine a_cut (fun S h'=>S 1= .cptr (Pb.mk name domain objects init values (.mk gop gname gargs gparams gexprs gkids)).cells∧Grow h h'∧values.all vlB=true) ?_ ?_
    ·have hFp:values.all vlB=false→F=false:=fun hh=>(by rw[← hF,hh];try rfl);(try clear zz);clear hF;(repeat'(first|refine a_seq fun K hK=>?_|refine a_block ?_|refine uR (uu g1 hlV) ?_|(refine uN hK ?_;clear hK)|apply zI));refine a_loop (fun c S h'=>S 1= .cptr (Pb.mk name domain objects init values (.mk gop gname gargs gparams gexprs gkids)).cells∧S 41= .imm 3 (vlRows values)∧S 42= .sc (.int .i64 values.length)∧ ∃ k:Nat,S 43= .sc (.int .i64 k)∧k≤values.length∧c=values.length-k∧Grow h h'∧values.all vlB=(values.drop k).all vlB) values.length ?_ ?_
     ·simp only[Ty.w,simprocAttr,g1,Pb.cells,Fm.cells,List.cons_append,List.nil_append];exact⟨0,rfl,by omega,rfl,hG,rfl⟩
     ·(try clear zz);clear g1 hG;rintro c S h' ⟨g1,g41,g42,k,g43,hk,rfl,hG,hall⟩;simp only[Pb.cells,Fm.cells,List.cons_append,List.nil_append]at g1;by_cases hlt:k<values.length
      ·have hdk:decide ((k:Int)<(values.length:Int))=true:=(by simp;omega);have w7:IntKind.i64.wrap ((k:Int)+1)=k+1:=(by rw[wrap64 (by omega) (by omega)]);obtain⟨v,hx⟩: ∃ v,values[k]? =some v:=⟨_,List.getElem?_eq_getElem hlt⟩;have hr:=vlRows_get hx;obtain⟨ho1,_⟩:=hvs v (List.mem_of_getElem? hx);have hrc:=right_c ho1.1 ho1.2.1 ho1.2.2;rw[drop_get hx]at hall;simp only[List.all_cons,vlB,rightA,inNum]at hall;obtain⟨⟨vname,vargs⟩,vn⟩:=v;simp only at hr hrc hall;have hG2:Grow h ((h'.new (.arr 3 [[.sc (.string ⟨#[]⟩),.sc (.slice none 0 0),.sc (.int .i64 0)]])).set h'.next (.arr 3 [[sPV vname,.imm 1 (strRows vargs),.sc (.int .i64 vn)]])):=(hG.new _).set hG.le _;generalize rightB vname vargs=b at hrc hall;cases b with
       |false=>
        have hp:=hFp (by rw[hall];try rfl);subst hp;replace zz:=uu g1 (uu g41 (uu g42 (uu g43 (uu hdk hr))));(repeat'(first|refine a_seq fun K hK=>?_|refine uR zz ?_|refine uK ?_|refine uC1 zz ?_|(refine uN hK ?_;clear hK)|apply zI));replace zz:=uu g1 (uu g41 (uu g42 g43));refine uU zz (hrc _) ?_;replace zz:=uu g1 (uu g41 (uu g42 (uu g43 @Bool.not_false)));(repeat'(first|refine a_seq fun K hK=>?_|refine uR zz ?_|refine uT zz ?_|(refine uN hK ?_;clear hK)|apply zI));all_goals first|exact hG2|exact⟨rfl,hG2⟩
       |true=>
        cases v1:decide (vn< -1099511627776)with
        |true=>
         have v1i:=of_decide_eq_true v1;have hp:=hFp (by rw[hall,decide_eq_false (show ¬-1099511627776≤vn by have:=of_decide_eq_true v1;omega)];try rfl);subst hp;replace zz:=uu g1 (uu g41 (uu g42 (uu g43 (uu hdk hr))));(repeat'(first|refine a_seq fun K hK=>?_|refine uR zz ?_|refine uK ?_|refine uC1 zz ?_|(refine uN hK ?_;clear hK)|apply zI));replace zz:=uu g1 (uu g41 (uu g42 g43));refine uU zz (hrc _) ?_;replace zz:=uu g1 (uu g41 (uu g42 (uu g43 (uu v1 @Bool.not_true))));(repeat'(first|refine a_seq fun K hK=>?_|refine uR zz ?_|refine uT zz ?_|(with_reducible refine ite_in (fun hb=>?_) (fun hb=>?_)<;>(try simp only[Decidable.not_not]at hb)<;>(try simp only[hb,if_true,if_false,not_false_eq_true,not_true_eq_false, ↓reduceIte])<;>(try simp only[hb0,simprocAttr]at hb)<;>(try(exfalso;omega)))|(refine uN hK ?_;clear hK)|apply zI));all_goals first|exact hG2|exact⟨rfl,hG2⟩
        |false=>
         have v1i:=of_decide_eq_false v1;cases v2:decide (vn>1099511627776)with
         |true=>
          have v2i:=of_decide_eq_true v2;have hp:=hFp (by rw[hall,decide_eq_false (show ¬ vn≤1099511627776 by have:=of_decide_eq_true v2;omega)];simp);subst hp;replace zz:=uu g1 (uu g41 (uu g42 (uu g43 (uu hdk hr))));(repeat'(first|refine a_seq fun K hK=>?_|refine uR zz ?_|refine uK ?_|refine uC1 zz ?_|(refine uN hK ?_;clear hK)|apply zI));replace zz:=uu g1 (uu g41 (uu g42 g43));refine uU zz (hrc _) ?_;replace zz:=uu g1 (uu g41 (uu g42 (uu g43 (uu v1 (uu v2 @Bool.not_true)))));(repeat'(first|refine a_seq fun K hK=>?_|refine uR zz ?_|refine uT zz ?_|refine uC1 zz ?_|(with_reducible refine ite_in (fun hb=>?_) (fun hb=>?_)<;>(try simp only[Decidable.not_not]at hb)<;>(try simp only[hb,if_true,if_false,not_false_eq_true,not_true_eq_false, ↓reduceIte])<;>(try simp only[hb0,simprocAttr]at hb)<;>(try(exfalso;omega)))|(refine uN hK ?_;clear hK)|apply zI));all_goals first|exact hG2|exact⟨rfl,hG2⟩
         |false=>
          have v2i:=of_decide_eq_false v2;rw[decide_eq_true (show-1099511627776≤vn by have:=of_decide_eq_false v1;omega),decide_eq_true (show vn≤1099511627776 by have:=of_decide_eq_false v2;omega)]at hall;replace zz:=uu g1 (uu g41 (uu g42 (uu g43 (uu hdk hr))));(repeat'(first|refine a_seq fun K hK=>?_|refine uR zz ?_|refine uK ?_|refine uC1 zz ?_|(refine uN hK ?_;clear hK)|apply zI));replace zz:=uu g1 (uu g41 (uu g42 g43));refine uU zz (hrc _) ?_;replace zz:=uu g1 (uu g41 (uu g42 (uu g43 (uu v1 (uu v2 (uu w7 @Bool.not_true))))));(repeat'(first|refine uR zz ?_|refine uK ?_|refine uC1 zz ?_|(with_reducible refine ite_in (fun hb=>?_) (fun hb=>?_)<;>(try simp only[Decidable.not_not]at hb)<;>(try simp only[hb,if_true,if_false,not_false_eq_true,not_true_eq_false, ↓reduceIte])<;>(try simp only[hb0,simprocAttr]at hb)<;>(try(exfalso;omega)))|(refine uN hK ?_;clear hK)|apply zI));exact⟨values.length-(k+1),by omega,by simp only[Pb.cells,Fm.cells,List.cons_append,List.nil_append],k+1,by simp,by omega,rfl,hG2,by simpa using hall⟩
      ·have hdk:decide ((k:Int)<(values.length:Int))=false:=(by simp;omega);rw[List.drop_eq_nil_of_le (by omega)]at hall;replace zz:=uu g1 (uu g41 (uu g42 (uu g43 hdk)));(repeat'(first|refine a_seq fun K hK=>?_|refine uR zz ?_|refine uX ?_|refine uC1 zz ?_|(refine uN hK ?_;clear hK)|apply zI));simp(maxSteps:=2000000) only[Ty.w,simprocAttr,Ty.all,g1,Pb.cells,Fm.cells,List.cons_append,List.nil_append];exact⟨hG,hall⟩
    ·(try clear zz);clear g1 hG;rintro S h' ⟨g1,hG,hall⟩;simp only[Pb.cells,Fm.cells,List.cons_append,List.nil_append]at g1;rw[hall]at hF;simp only[Bool.true_and]at hF;subst hF;have hf: ∀ a∈init, ∀ h:Heap,PCall Tryz.prog 62 [.agg (atRow a)] h fun r h'=>r= .sc (.bool (!rightA a))∧h'=h:=fun a ha h=>pexpr1_c (his a ha);(repeat'(first|refine a_seq fun K hK=>?_|refine uR g1 ?_|apply zI));refine uU g1 (containsFuncA_c (q:=fun a=>!rightA a) hil hf) ?_;(repeat'(first|refine uT g1 ?_|(refine uN hK ?_;clear hK)|apply zI));all_goals first|exact hG|exact⟨rfl,hG⟩
end Go.Proofs.YtjeolbgpllbemaaGreat
namespace Go.AM
end Go.AM
namespace Go.Proofs.YtjeolbgpllbemaaGreat
open Go.AM
theorem validF_shaped{f:Fm}(h:validF f=true):shapedF f=true:=by
 unfold validF at h;simp only[Bool.and_eq_true]at h;exact shapedM_F f 0 0 h.1
theorem zeroFm_ok:zeroFm.ok∧zeroFm.small:=by
 simp only[zeroFm,Fm.ok,Fm.oks,Ex.oks,Fm.small,Fm.smalls,Ex.smalls,List.length_nil];refine⟨⟨by simp[bigN,ByteArray.size],by simp[bigN,ByteArray.size],⟨by simp,by simp⟩,⟨by simp,by simp⟩,⟨by simp,trivial⟩,by simp,trivial⟩,by omega,by omega,trivial,by omega,trivial⟩
theorem textOf_ok{x:Sx}(h:x.ok):(textOf x).size≤bigN:=by
 obtain⟨_,_,_,_,t,_⟩:=x;simp only[Sx.ok]at h;exact h.2.2.1
theorem pmsOf_ok{t:ByteArray}{l:List ByteArray}(ht:t.size≤bigN)(hl: ∀ s∈l,s.size≤bigN): ∀ p∈pmsOf t l,p.ok:=by
 intro p hp;simp only[pmsOf,List.mem_map]at hp;obtain⟨s,hs,rfl⟩:=hp;exact⟨hl s hs,ht⟩
theorem pmsOf_len(t:ByteArray)(l:List ByteArray):(pmsOf t l).length=l.length:=by simp[pmsOf]
theorem opObj_size:opObj.size≤bigN:=by simp[opObj,bigN,ByteArray.size]
theorem paramsL_ok(vars:Bool): ∀ (n:Nat)(l:List Sx),l.length≤n→(∀ x∈l,x.ok)→ ∀ (don:List Pm)(pen:List ByteArray),(∀ p∈don,p.ok)→(∀ s∈pen,s.size≤bigN)→
  (∀ p∈(paramsL vars l don pen).1,p.ok)∧(paramsL vars l don pen).1.length≤don.length+pen.length+l.length:=by
 intro n
 induction n with
 |zero=>
  intro l hl _ don pen hd hp
  match l,hl with
  |[],_=>
   unfold paramsL;simp only[List.mem_append,List.length_append,pmsOf_len,List.length_nil];exact⟨fun p h=>h.elim (hd p) (pmsOf_ok opObj_size hp p),by omega⟩
 |succ n ihn=>
  intro l hl hx don pen hd hp
  match l,hl,hx with
  |[],_,_=>
   unfold paramsL;simp only[List.mem_append,List.length_append,pmsOf_len,List.length_nil];exact⟨fun p h=>h.elim (hd p) (pmsOf_ok opObj_size hp p),by omega⟩
  |x::l,hl,hx=>
   have hxo:=hx x (by simp);have hlo: ∀ y∈l,y.ok:=fun y hy=>hx y (by simp[hy]);unfold paramsL;cases isWrd x with
   |false=>simp
   |true=>
    simp only[cond_true];cases bEq (textOf x) opMin with
    |true=>
     simp only[cond_true];cases l with
     |nil=>simp
     |cons t l'=>
      simp only;cases(!pen.isEmpty&&isWrd t)with
      |false=>simp
      |true=>
       cases typedB (textOf t)with
       |false=>simp
       |true=>
        simp only[cond_true];have:=ihn l' (by simp at hl;omega) (fun y hy=>hlo y (by simp[hy])) (don++pmsOf (textOf t) pen) [] (fun p h=>(List.mem_append.1 h).elim (hd p) (pmsOf_ok (textOf_ok (hlo t (by simp))) hp p)) (by simp);refine⟨this.1,Nat.le_trans this.2 ?_⟩;simp only[List.length_append,pmsOf_len,List.length_nil,List.length_cons];omega
    |false=>
     simp only[cond_false];cases(bif vars then varB (textOf x)else nameB (textOf x))with
     |false=>simp
     |true=>
      simp only[cond_true];have:=ihn l (by simp at hl;omega) hlo don (pen++[textOf x]) hd (fun s h=>(List.mem_append.1 h).elim (hp s) (fun h=>by simp at h;rw[h];exact textOf_ok hxo));refine⟨this.1,Nat.le_trans this.2 ?_⟩;simp only[List.length_append,List.length_nil,List.length_cons];omega
theorem fm_mk_ok{op name:ByteArray}{args:List ByteArray}{params:List Pm}{exprs:List Ex}{kids:List Fm}(h1:op.size≤bigN)(h2:name.size≤bigN)(h3:args.length≤1048576)(h4: ∀ s∈args,s.size≤bigN)(h5:params.length≤1048576)(h6: ∀ p∈params,p.ok)
  (h7:exprs.length≤2)(h8: ∀ e∈exprs,e.ok∧e.small)(h9:kids.length≤1048576)(h10: ∀ k∈kids,k.ok∧k.small):(Fm.mk op name args params exprs kids).ok∧(Fm.mk op name args params exprs kids).small:=by
 simp only[Fm.ok,Fm.small];rw[Fm.oks_iff,Ex.oks_iff,Ex.smalls_iff,Fm.smalls_iff];refine⟨⟨h1,h2,⟨by unfold bigN;omega,h4⟩,⟨by unfold bigN;omega,h6⟩,⟨by unfold bigN;omega,fun e he=>(h8 e he).1⟩,by unfold bigN;omega,fun k hk=>(h10 k hk).1⟩,h3,h5,fun e he=>(h8 e he).2,h9,fun k hk=>(h10 k hk).2⟩
theorem empty_size:(⟨#[]⟩:ByteArray).size≤bigN:=by simp[bigN,ByteArray.size]
theorem fin_ok{r:Fm × Int}(h:r.1.ok∧r.1.small):(fin r).1.ok∧(fin r).1.small:=by
 unfold fin;cases r.2==0 with
 |true=>exact h
 |false=>exact zeroFm_ok
theorem compareP_ok{w:ByteArray}{x y:Sx}(hw:w.size≤bigN)(hx:x.ok)(hy:y.ok)(sx:x.small)(sy:y.small):(compareP w x y).1.ok∧(compareP w x y).1.small:=by
 have ex:=exprP_ok x hx sx;have ey:=exprP_ok y hy sy;unfold compareP;cases(bEq w opEq&&kindOf x==1&&kindOf y==1)with
 |true=>
  have ht:=termsM_ok (l:=[x,y]) (by simp[hx,hy]);simp only[List.length_cons,List.length_nil]at ht;exact fm_mk_ok (by simp[opSame,bigN,ByteArray.size]) empty_size (by omega) ht.1 (by simp) (by simp) (by simp) (by simp) (by simp) (by simp)
 |false=>
  simp only[cond_false];cases(exprP x).2==0 with
  |false=>exact zeroFm_ok
  |true=>
   cases(exprP y).2==0 with
   |false=>exact zeroFm_ok
   |true=>
    simp only[cond_true];have h2: ∀ a b:Ex,(a.ok∧a.small)→(b.ok∧b.small)→ ∀ o:ByteArray,o.size≤bigN→(Fm.mk o ⟨#[]⟩ [] [] [a,b] []).ok∧(Fm.mk o ⟨#[]⟩ [] [] [a,b] []).small:=fun a b ha hb o ho=>
     fm_mk_ok ho empty_size (by simp) (by simp) (by simp) (by simp) (by simp) (by simp only[List.mem_cons,List.not_mem_nil,or_false];rintro e (rfl|rfl);exact ha;exact hb) (by simp) (by simp)
    split
    ·exact h2 _ _ ey ex _ (by simp[opLt,bigN,ByteArray.size])
    ·split
     ·exact h2 _ _ ey ex _ (by simp[opLe,bigN,ByteArray.size])
     ·exact h2 _ _ ex ey _ hw
theorem fmPs_ok: ∀ (l:List Sx),(∀ k∈l,(fmP k).1.ok∧(fmP k).1.small)→(∀ f∈(fmPs l).1,f.ok∧f.small)∧(fmPs l).1.length≤l.length
 |[],_=>by simp[fmPs]
 |x::l,h=>by
  have h1:=fmPs_ok l fun k hk=>h k (by simp[hk]);have h2:=h x (by simp);simp only[fmPs];generalize fmP x=r at h2;obtain⟨f,c⟩:=r;simp only at h2⊢;cases c==0 with
  |false=>simp
  |true=>
   simp only[cond_true];generalize fmPs l=r at h1;obtain⟨fs,c'⟩:=r;simp only at h1⊢;cases c'==0 with
   |false=>simp
   |true=>
    simp only[cond_true,List.mem_cons,List.length_cons];exact⟨fun g hg=>hg.elim (fun e=>by rw[e];exact h2) (h1.1 g),by omega⟩
theorem fmP_ok: ∀ x:Sx,x.ok→x.small→(fmP x).1.ok∧(fmP x).1.small:=by
 refine Sx.ind ?_;intro kind value line col text kids ih hok hsm;simp only[Sx.ok]at hok;obtain⟨_,_,_,hkl,hks⟩:=hok;try clear zz
 clear hkl;rw[Sx.oks_iff]at hks;simp only[Sx.small]at hsm;obtain⟨hl,hss⟩:=hsm;rw[Sx.smalls_iff]at hss;have sub: ∀ l:List Sx,(∀ k∈l,k∈kids)→(∀ f∈(fmPs l).1,f.ok∧f.small)∧(fmPs l).1.length≤l.length:=fun l h=>fmPs_ok l fun k hk=>ih k (h k hk) (hks k (h k hk)) (hss k (h k hk));unfold fmP;split
 ·cases kids with
  |nil=>exact fm_mk_ok (by simp[opAnd,bigN,ByteArray.size]) empty_size (by simp) (by simp) (by simp) (by simp) (by simp) (by simp) (by simp) (by simp)
  |cons x rest=>
   simp only;have hxt:=textOf_ok (hks x (by simp));simp only[List.length_cons]at hl;cases kindOf x==1 with
   |false=>exact zeroFm_ok
   |true=>
    simp only[cond_true];cases(decide (countW (textOf x)≥0)&&!(decide (countW (textOf x)=rest.length)))with
    |true=>exact zeroFm_ok
    |false=>
     simp only[cond_false];cases isQ (textOf x)with
     |true=>
      simp only[cond_true];cases rest with
      |nil=>exact zeroFm_ok
      |cons p body=>
       simp only;cases kindOf p==3 with
       |false=>exact zeroFm_ok
       |true=>
        simp only[cond_true];have hpo:=hks p (by simp);have hps:=hss p (by simp);have hb:=sub body fun k hk=>(by simp[hk]);simp only[List.length_cons]at hl;have hpp:(∀ q∈(paramsP true (kidsOf p)).1,q.ok)∧(paramsP true (kidsOf p)).1.length≤1048576:=by
         obtain⟨_,_,_,_,_,pk⟩:=p;simp only[Sx.ok]at hpo;simp only[Sx.small]at hps;have:=paramsL_ok true pk.length pk (Nat.le_refl _) (Sx.oks_iff.1 hpo.2.2.2.2) [] [] (by simp) (by simp);simp only[List.length_nil]at this;exact⟨this.1,by have:=this.2;simp only[paramsP,kidsOf];omega⟩
        cases(paramsP true (kidsOf p)).2==0 with
        |false=>exact zeroFm_ok
        |true=>
         simp only[cond_true];generalize fmPs body=r at hb;obtain⟨ks,c⟩:=r;simp only at hb⊢;cases c==0 with
         |false=>exact zeroFm_ok
         |true=>exact fm_mk_ok hxt empty_size (by simp) (by simp) hpp.2 hpp.1 (by simp) (by simp) (by omega) hb.1
     |false=>
      simp only[cond_false];cases isLst (textOf x)with
      |true=>
       simp only[cond_true];have hb:=sub rest fun k hk=>(by simp[hk]);generalize fmPs rest=r at hb;obtain⟨ks,c⟩:=r;simp only at hb⊢;cases c==0 with
       |false=>exact zeroFm_ok
       |true=>exact fm_mk_ok hxt empty_size (by simp) (by simp) (by simp) (by simp) (by simp) (by simp) (by omega) hb.1
      |false=>
       simp only[cond_false];cases isCmp5 (textOf x)with
       |true=>
        simp only[cond_true];split
        ·rename_i a b;exact fin_ok (compareP_ok hxt (hks a (by simp)) (hks b (by simp)) (hss a (by simp)) (hss b (by simp)))
        ·exact zeroFm_ok
       |false=>
        simp only[cond_false];cases nameB (textOf x)with
        |false=>exact zeroFm_ok
        |true=>
         have ht:=termsM_ok (l:=rest) fun y hy=>hks y (by simp[hy]);simp only[cond_true];cases(termsM rest).2==0 with
         |false=>exact zeroFm_ok
         |true=>exact fm_mk_ok (by simp[opAtom,bigN,ByteArray.size]) hxt (by omega) ht.1 (by simp) (by simp) (by simp) (by simp) (by simp) (by simp)
 ·exact zeroFm_ok
def parseF(x:Sx):Fm × Int:=
 if(svalid x 0 0).1=true then(if(fmP x).2=0 then(if validF (fmP x).1=true then((fmP x).1,0)else(zeroFm,5))else(zeroFm,(fmP x).2))else(zeroFm,2)
theorem parseF_ok{x:Sx}(hok:x.ok):(parseF x).1.ok∧(parseF x).1.small:=by
 unfold parseF;split
 ·rename_i h;split
  ·split
   ·exact fmP_ok x hok (svalid_small h)
   ·exact zeroFm_ok
  ·exact zeroFm_ok
 ·exact zeroFm_ok
theorem parseF_valid{x:Sx}(h:(parseF x).2=0):validF (parseF x).1=true:=by
 unfold parseF at h⊢;split at h
 ·rename_i h1;rw[if_pos h1];split at h
  ·rename_i h2;rw[if_pos h2];split at h
   ·rename_i h3;rw[if_pos h3];exact h3
   ·simp at h
  ·rename_i h2;exact absurd h h2
 ·simp at h
theorem parseF_fmW{f:Fm}(h:validF f=true):parseF (fmW f)=(f,0):=by
 have hs:=validF_shaped h;have h2:=h;unfold validF at h2;simp only[Bool.and_eq_true]at h2;unfold parseF;rw[if_pos h2.2,fmP_fmW f hs];simp[h]
def opDef:ByteArray:=⟨#[100,101,102,105,110,101]⟩
def opPrb:ByteArray:=⟨#[112,114,111,98,108,101,109]⟩
def opDom:ByteArray:=⟨#[58,100,111,109,97,105,110]⟩
def opObjs:ByteArray:=⟨#[58,111,98,106,101,99,116,115]⟩
def opInit:ByteArray:=⟨#[58,105,110,105,116]⟩
def opGoal:ByteArray:=⟨#[58,103,111,97,108]⟩
def atW(a:At):Sx:=wordsM a.name a.args
def numM(n:Int):Sx:= .mk 2 n 0 0 ⟨#[]⟩ []
def vlW(v:Vl):Sx:=listM [wordM opEq,atW v.at_,numM v.n]
def objsS(l:List Pm):Sx:=listM (wordM opObjs::paramsW l)
def initS(a:List At)(v:List Vl):Sx:=listM (wordM opInit::(a.map atW++v.map vlW))
def goalS(g:Fm):Sx:=listM [wordM opGoal,fmW g]
def goalE(g:Fm):Bool:=match g with
 | .mk op _ _ _ _ kids=>bEq op opAnd&&kids.isEmpty
def objsW(l:List Pm):List Sx:=if l.isEmpty then[]else[objsS l]
def initW(a:List At)(v:List Vl):List Sx:=if a.isEmpty&&v.isEmpty then[]else[initS a v]
def goalW(g:Fm):List Sx:=if goalE g then[]else[goalS g]
def nameS(w s:ByteArray):Sx:=listM [wordM w,wordM s]
def pbW(p:Pb):Sx:=listM ([wordM opDef,nameS opPrb p.name,nameS opDom p.domain]++(objsW p.objects++(initW p.init p.values++goalW p.goal)))
def writeB(p:Pb):Bool:=validF p.goal&&expressB p&&(svalid (pbW p) 0 0).1
def valOf:Sx→Int
 | .mk _ v _ _ _ _=>v
def namedP(x:Sx)(want:ByteArray):ByteArray × Int:=match headM x with
 |some (w,rest)=>bif bEq w want then(match rest with
  |[r]=>bif kindOf r==1 then(bif nameB (textOf r)then(textOf r,0)else(⟨#[]⟩,8))else(⟨#[]⟩,2)
  |_=>(⟨#[]⟩,2))else(⟨#[]⟩,2)
 |none=>(⟨#[]⟩,2)
def namesM:List Sx→List ByteArray × Int
 |[]=>([],0)
 |x::l=>bif kindOf x==1 then(bif nameB (textOf x)then(match namesM l with
  |(t,c)=>bif c==0 then(textOf x::t,0)else([],c))else([],8))else([],2)
def zeroAt:At:=⟨⟨#[]⟩,[]⟩
def atomP(w:ByteArray)(rest:List Sx):At × Int:=
 bif nameB w then(bif (namesM rest).2==0 then(⟨w,(namesM rest).1⟩,0)else(zeroAt,(namesM rest).2))else(zeroAt,8)
def elemP(a:List At)(v:List Vl)(x:Sx):List At × List Vl × Int:=match headM x with
 |none=>(a,v,2)
 |some (w,rest)=>bif bEq w opEq then(match rest with
   |[f,n]=>bif kindOf n==2 then(match headM f with
    |none=>(a,v,2)
    |some (name,args)=>bif (atomP name args).2==0 then(a,v++[⟨(atomP name args).1,valOf n⟩],0)else(a,v,(atomP name args).2))else(a,v,2)
   |_=>(a,v,2))
  else bif (atomP w rest).2==0 then(a++[(atomP w rest).1],v,0)else(a,v,(atomP w rest).2)
def elemsP:List At→List Vl→List Sx→List At × List Vl × Int
 |a,v,[]=>(a,v,0)
 |a,v,x::l=>match elemP a v x with
  |(a',v',c)=>bif c==0 then elemsP a' v' l else(a',v',c)
def zeroPb:Pb:=⟨⟨#[]⟩,⟨#[]⟩,[],[],[],zeroFm⟩
def andFm:Fm:= .mk opAnd ⟨#[]⟩ [] [] [] []
def sectP(p:Pb)(w:ByteArray)(rest:List Sx):Pb × Int:=
 bif bEq w opObjs then(⟨p.name,p.domain,(paramsP false rest).1,p.init,p.values,p.goal⟩,(paramsP false rest).2)
 else bif bEq w opInit then(⟨p.name,p.domain,p.objects,(elemsP p.init p.values rest).1,(elemsP p.init p.values rest).2.1,p.goal⟩,(elemsP p.init p.values rest).2.2)
 else(match rest with
  |[g]=>(⟨p.name,p.domain,p.objects,p.init,p.values,(parseF g).1⟩,(parseF g).2)
  |_=>(p,2))
def afterB:List ByteArray→ByteArray→Option (List ByteArray)
 |[],_=>none
 |o::l,w=>bif bEq o w then some l else afterB l w
def sectsP:List ByteArray→Pb→List Sx→Pb × Int
 |_,p,[]=>(p,0)
 |o,p,s::l=>match headM s with
  |none=>(p,2)
  |some (w,rest)=>match afterB o w with
   |none=>(p,2)
   |some o'=>bif (sectP p w rest).2==0 then sectsP o' (sectP p w rest).1 l else sectP p w rest
def pbOrder:List ByteArray:=[opObjs,opInit,opGoal]
def pb0(n d:ByteArray):Pb:=⟨n,d,[],[],[],andFm⟩
def pbP(x:Sx):Pb × Int:=match headM x with
 |none=>(pb0 ⟨#[]⟩ ⟨#[]⟩,2)
 |some (w,rest)=>bif bEq w opDef then(match rest with
  |[]=>(pb0 ⟨#[]⟩ ⟨#[]⟩,2)
  |n::rest1=>bif (namedP n opPrb).2==0 then(match rest1 with
   |[]=>(pb0 (namedP n opPrb).1 ⟨#[]⟩,2)
   |d::rest2=>bif (namedP d opDom).2==0 then sectsP pbOrder (pb0 (namedP n opPrb).1 (namedP d opDom).1) rest2 else(pb0 (namedP n opPrb).1 ⟨#[]⟩,(namedP d opDom).2))
   else(pb0 ⟨#[]⟩ ⟨#[]⟩,(namedP n opPrb).2))
  else(pb0 ⟨#[]⟩ ⟨#[]⟩,2)
def parsePb(x:Sx):Pb × Int:=
 if(svalid x 0 0).1=true then(if(pbP x).2=0 then(if writeB (pbP x).1=true then((pbP x).1,0)else(zeroPb,5))else(zeroPb,(pbP x).2))else(zeroPb,2)
theorem kW(s:ByteArray):kindOf (wordM s)=1:=rfl
theorem tW(s:ByteArray):textOf (wordM s)=s:=rfl
theorem headM_list{w:ByteArray}{l:List Sx}:headM (listM (wordM w::l))=some (w,l):=by
 simp[headM,listM,kW,tW]
theorem bEq_self(s:ByteArray):bEq s s=true:=by simp[bEq]
theorem namedP_S{w s:ByteArray}(h:nameB s=true):namedP (nameS w s) w=(s,0):=by
 unfold namedP nameS;rw[headM_list];simp[bEq_self,kW,tW,h]
theorem namesM_words: ∀ l:List ByteArray,(∀ s∈l,nameB s=true)→namesM (l.map wordM)=(l,0)
 |[],_=>rfl
 |s::l,h=>by
  simp only[List.map_cons,namesM,kW,tW,h s (by simp),namesM_words l (fun t ht=>h t (by simp[ht])),beq_self_eq_true,cond_true]
theorem rightA_iff{a:At}:rightA a=true↔nameB a.name=true∧ ∀ s∈a.args,nameB s=true:=by
 unfold rightA rightB;rw[Bool.and_eq_true,Bool.not_eq_true',List.any_eq_false];simp
theorem atomP_W{a:At}(h:rightA a=true):atomP a.name (a.args.map wordM)=(a,0):=by
 obtain⟨h1,h2⟩:=rightA_iff.1 h;unfold atomP;rw[h1,namesM_words _ h2];try rfl
theorem elemP_at{a:List At}{v:List Vl}{x:At}(h:rightA x=true):elemP a v (atW x)=(a++[x],v,0):=by
 have h1:=(rightA_iff.1 h).1;unfold elemP atW wordsM;rw[List.map_cons,headM_list];simp only[name_ne h1 (w:=opEq) (by decide),cond_false,atomP_W h,beq_self_eq_true,cond_true]
theorem elemP_vl{a:List At}{v:List Vl}{x:Vl}(h:rightA x.at_=true):elemP a v (vlW x)=(a,v++[x],0):=by
 unfold elemP vlW;rw[headM_list];simp only[bEq_self,cond_true,numM,kindOf,valOf,beq_self_eq_true];unfold atW wordsM;rw[List.map_cons,headM_list];simp only[atomP_W h,beq_self_eq_true,cond_true]
theorem elemsP_W: ∀ (l:List At)(m:List Vl)(a:List At)(v:List Vl),(∀ x∈l,rightA x=true)→(∀ x∈m,vlB x=true)→elemsP a v (l.map atW++m.map vlW)=(a++l,v++m,0)
 |[],[],a,v,_,_=>by simp[elemsP]
 |[],y::m,a,v,h1,h2=>by
  have hy:=h2 y (by simp);unfold vlB at hy;rw[Bool.and_eq_true]at hy;have ih:=elemsP_W [] m a (v++[y]) h1 (fun x hx=>h2 x (by simp[hx]));simp only[List.map_nil,List.nil_append,List.append_nil]at ih;simp only[List.map_nil,List.nil_append,List.map_cons,elemsP,elemP_vl hy.1,beq_self_eq_true,cond_true,ih];simp
 |y::l,m,a,v,h1,h2=>by
  have ih:=elemsP_W l m (a++[y]) v (fun x hx=>h1 x (by simp[hx])) h2;simp only[List.map_cons,List.cons_append,elemsP,elemP_at (h1 y (by simp)),beq_self_eq_true,cond_true,ih];simp
theorem expressB_iff{p:Pb}:expressB p=true↔nameB p.name=true∧nameB p.domain=true∧(∀ o∈p.objects,objB o=true)∧(∀ v∈p.values,vlB v=true)∧ ∀ a∈p.init,rightA a=true:=by
 unfold expressB;simp only[Bool.and_eq_true,List.all_eq_true,Bool.not_eq_true',List.any_eq_false];simp[and_assoc]
theorem paramsL_Wn: ∀ (l:List Pm)(don:List Pm),(∀ o∈l,objB o=true)→paramsL false (paramsW l) don []=(don++l,0)
 |[],don,_=>by simp[paramsW,paramsL,pmsOf]
 |p::l,don,h=>by
  have h1:=h p (by simp);have h2: ∀ o∈l,objB o=true:=fun o ho=>h o (by simp[ho]);unfold objB at h1;simp only[Bool.and_eq_true]at h1;have g1:=name_word h1.1;have g2:bEq p.name opMin=false:=name_ne h1.1 (by decide);have t1: ∀ s:ByteArray,textOf (wordM s)=s:=fun _=>rfl;have w1:isWrd (wordM ⟨#[45]⟩)=true:=isWrd_word (by decide);have w2:bEq (⟨#[45]⟩:ByteArray) opMin=true:=by decide
  simp only[paramsW];rw[paramsL,isWrd_word g1,t1,g2,h1.1];simp only[cond_true,cond_false,List.nil_append];rw[paramsL,w1,t1,w2];simp only[cond_true,isWrd_word (typed_word h1.2),t1,h1.2];simp only[List.isEmpty_cons,Bool.not_false,Bool.true_and,cond_true,pmsOf,List.map_cons,List.map_nil];rw[paramsL_Wn l _ h2];simp
theorem paramsP_Wn{l:List Pm}(h: ∀ o∈l,objB o=true):paramsP false (paramsW l)=(l,0):=by
 unfold paramsP;rw[paramsL_Wn l [] h];rfl
theorem goalE_eq{g:Fm}(h:validF g=true)(he:goalE g=true):g=andFm:=by
 have hs:=validF_shaped h;obtain⟨op,name,args,params,exprs,kids⟩:=g;simp only[goalE,Bool.and_eq_true,List.isEmpty_iff]at he;obtain⟨e1,rfl⟩:=he;obtain rfl:=bEq_eq e1;unfold shapedF at hs;simp only[Bool.and_eq_true]at hs;rcases partsOk_cases hs.1.1 with⟨h1,_⟩|⟨h1,_⟩|⟨h1,_⟩|⟨_,rfl,rfl,rfl,he⟩|⟨h1,_⟩
 ·exact absurd h1 (by decide)
 ·exact absurd h1 (by decide)
 ·rcases h1 with h1|h1|h1<;>exact absurd h1 (by decide)
 ·obtain rfl:=List.length_eq_zero_iff.1 he;rfl
 ·rcases h1 with h1|h1<;>exact absurd h1 (by decide)
theorem sectsP_objs{p:Pb}{l:List Pm}{rest:List Sx}(h: ∀ o∈l,objB o=true)(hp:p.objects=[])(o':List ByteArray)(ho: ∀ q:Pb,rest≠[]→sectsP (opObjs::o') q rest=sectsP o' q rest):
  sectsP (opObjs::o') p (objsW l++rest)=sectsP o' ⟨p.name,p.domain,l,p.init,p.values,p.goal⟩ rest:=by
 unfold objsW;cases l with
 |nil=>
  obtain⟨a,b,c,d,e,f⟩:=p;simp only at hp;subst hp;simp only[List.isEmpty_nil,if_true,List.nil_append];cases rest with
  |nil=>simp[sectsP]
  |cons=>exact ho _ (by simp)
 |cons y l=>
  simp only[List.isEmpty_cons,Bool.false_eq_true,if_false,List.singleton_append,objsS];rw[sectsP,headM_list];simp only[afterB,bEq_self,cond_true,sectP,paramsP_Wn h,beq_self_eq_true]
theorem after_skip{o o':List ByteArray}{w:ByteArray}{rest:List Sx}{q:Pb}{s:Sx}(hs: ∃ l,s=listM (wordM w::l))(ha:afterB o w=afterB o' w):sectsP o q (s::rest)=sectsP o' q (s::rest):=by
 obtain⟨l,rfl⟩:=hs;rw[sectsP,sectsP,headM_list];simp only[ha]
theorem parse_tail{p:Pb}{i:List At}{v:List Vl}{g:Fm}(hg:validF g=true)(hi: ∀ a∈i,rightA a=true)(hv: ∀ x∈v,vlB x=true)(h1:p.init=[])(h2:p.values=[])(h3:p.goal=andFm):
  sectsP [opInit,opGoal] p (initW i v++goalW g)=(⟨p.name,p.domain,p.objects,i,v,g⟩,0):=by
 obtain⟨a,b,c,d,e,f⟩:=p;simp only at h1 h2 h3;subst h1;subst h2;subst h3;have hgl: ∀ (o:List ByteArray)(d:List At)(e:List Vl),afterB o opGoal=some []→sectsP o ⟨a,b,c,d,e,andFm⟩ (goalW g)=(⟨a,b,c,d,e,g⟩,0):=by
  intro o d e ho;unfold goalW;cases he:goalE g with
  |true=>rw[goalE_eq hg he];simp[sectsP]
  |false=>
   simp only[Bool.false_eq_true,if_false,goalS];rw[sectsP,headM_list];simp only[ho,sectP,show bEq opGoal opObjs=false by decide,show bEq opGoal opInit=false by decide,cond_false,parseF_fmW hg,beq_self_eq_true,cond_true,sectsP]
 unfold initW;cases hh:(i.isEmpty&&v.isEmpty)with
 |true=>
  simp only[Bool.and_eq_true,List.isEmpty_iff]at hh;obtain⟨rfl,rfl⟩:=hh;simp only[if_true,List.nil_append];exact hgl _ _ _ (by decide)
 |false=>
  simp only[Bool.false_eq_true,if_false,List.singleton_append,initS];rw[sectsP,headM_list];simp only[afterB,bEq_self,cond_true,sectP,show bEq opInit opObjs=false by decide,cond_false,elemsP_W i v [] [] hi hv,beq_self_eq_true,List.nil_append];exact hgl _ _ _ (by decide)
theorem pbP_pbW{p:Pb}(hg:validF p.goal=true)(he:expressB p=true):pbP (pbW p)=(p,0):=by
 obtain⟨e1,e2,e3,e4,e5⟩:=expressB_iff.1 he;unfold pbP pbW;simp only[List.cons_append,List.nil_append];rw[headM_list];simp only[bEq_self,cond_true,namedP_S e1,namedP_S e2,beq_self_eq_true,pbOrder];rw[sectsP_objs e3 rfl]
 ·rw [parse_tail hg e5 e4 rfl rfl rfl];rfl
 ·intro q hne;have hw: ∃ s rest w,initW p.init p.values++goalW p.goal=s::rest∧(∃ l,s=listM (wordM w::l))∧(w=opInit∨w=opGoal):=by
   unfold initW goalW at hne⊢;split
   ·rename_i h1;rw[if_pos h1]at hne;split
    ·rename_i h2;rw[if_pos h2]at hne;exact absurd rfl hne
    ·exact ⟨_,_,_,rfl,⟨_,rfl⟩,.inr rfl⟩
   ·exact ⟨_,_,_,rfl,⟨_,rfl⟩,.inl rfl⟩
  obtain⟨s,rest,w,e,hs,hw⟩:=hw;rw[e];exact after_skip hs (by rcases hw with rfl|rfl<;>decide)
theorem parsePb_pbW{p:Pb}(h:writeB p=true):parsePb (pbW p)=(p,0):=by
 have h':=h;unfold writeB at h';simp only[Bool.and_eq_true]at h';unfold parsePb;rw[if_pos h'.2,pbP_pbW h'.1.1 h'.1.2];simp[h]
set_option maxHeartbeats 4000000
set_option maxRecDepth 20000
theorem phead_c{x:Sx}(hok:x.ok)(h:Heap):PCall Tryz.prog 75 [.agg x.cells] h fun r h'=>r=headV (headM x)∧h'=h:=by
 obtain⟨kind,value,line,col,text,kids⟩:=x;simp only[Sx.ok]at hok;obtain⟨_,_,_,hk,_⟩:=hok;generalize hF:headM (.mk kind value line col text kids)=F;simp only[headM]at hF;simp only[Sx.cells];have hlen:=Sx.rows_len kids;cases k3:(kind !=3)with
 |true=>
  rw[if_neg (by simpa using k3)]at hF;subst hF;refine uG0 Tryz.func75 Tryz.ntmps75 Tryz.results75 Ty.hb_75 ?_;repeat'(first|refine a_seq fun K hK=>?_|refine uR k3 ?_|refine uT k3 ?_|(refine uN hK ?_;clear hK)|apply zI)
  all_goals rfl
 |false=>
  rw[if_pos (by simpa using k3)]at hF;cases kids with
  |nil=>
   simp only at hF;subst hF;have q:(((Sx.rows []).length:Int)==0)=true:=rfl;generalize Sx.rows []=R at q hlen;refine uG0 Tryz.func75 Tryz.ntmps75 Tryz.results75 Ty.hb_75 ?_;replace zz:=uu k3 q;(repeat'(first|refine a_seq fun K hK=>?_|refine uR zz ?_|refine uT zz ?_|(refine uN hK ?_;clear hK)|apply zI));all_goals rfl
  |cons y rest=>
   simp only at hF;have q:(((Sx.rows (y::rest)).length:Int)==0)=false:=(by rw[hlen];simp;omega);have r0:=Sx.rows_get (l:=y::rest) (i:=0) rfl;have q1:(1:Int)≤((Sx.rows (y::rest)).length:Int):=(by rw[hlen];simp;omega);have ht:List.take (((Sx.rows (y::rest)).length:Int)-1).toNat (List.drop 1 (Sx.rows (y::rest)))=Sx.rows rest:=by
    simp only[Sx.rows,List.drop_succ_cons,List.drop_zero,List.length_cons];rw[List.take_of_length_le (by omega)]
   generalize Sx.rows (y::rest)=R at q r0 q1 ht hlen⊢;obtain⟨ki,va,li,co,te,ks⟩:=y;simp only[Sx.cells,kindOf,textOf]at r0 hF;cases k1:(ki !=1)with
   |true=>
    rw[show(ki==1)=false by simpa using k1]at hF;simp only[cond_false]at hF;subst hF;refine uG0 Tryz.func75 Tryz.ntmps75 Tryz.results75 Ty.hb_75 ?_;replace zz:=uu k3 (uu q (uu r0 k1));(repeat'(first|refine a_seq fun K hK=>?_|refine uR zz ?_|refine uT zz ?_|(refine uN hK ?_;clear hK)|apply zI));all_goals rfl
   |false=>
    rw[show(ki==1)=true by simpa using k1]at hF;simp only[cond_true]at hF;subst hF;refine uG0 Tryz.func75 Tryz.ntmps75 Tryz.results75 Ty.hb_75 ?_;replace zz:=uu k3 (uu q (uu r0 (uu k1 (uu q1 (uu ht (uu @Int.le_refl @Int.toNat_one))))));(repeat'(first|refine a_seq fun K hK=>?_|refine uR zz ?_|refine uD zz ?_|refine uT zz ?_|refine uK ?_|refine uC1 zz ?_|(refine uN hK ?_;clear hK)|apply zI));all_goals rfl
theorem headM_ok2{x:Sx}(hok:x.ok){w:ByteArray}{l:List Sx}(h:headM x=some (w,l)):w.size≤bigN∧l.length≤bigN∧ ∀ y∈l,y.ok:=by
 obtain⟨kind,value,line,col,text,kids⟩:=x;simp only[Sx.ok]at hok;obtain⟨_,_,_,hk,hks⟩:=hok;simp only[headM]at h;split at h
 ·cases kids with
  |nil=>simp at h
  |cons y rest=>
   simp only at h;rw[Sx.oks_iff]at hks;cases hh:kindOf y==1 with
   |false=>rw[hh]at h;simp at h
   |true=>
    rw[hh]at h;simp only[cond_true,Option.some.injEq,Prod.mk.injEq]at h;obtain⟨rfl,rfl⟩:=h;have hy:=hks y (by simp);refine⟨?_,by simp at hk;omega,fun z hz=>hks z (by simp[hz])⟩;obtain⟨ki,va,li,co,te,ks⟩:=y;simp only[Sx.ok]at hy;exact hy.2.2.1
 ·simp at h
theorem pnamed_c{x:Sx}{want:ByteArray}(hok:x.ok)(h:Heap):PCall Tryz.prog 76 [.agg x.cells,sPV want] h fun r h'=>r= .tup [sPV (namedP x want).1,errP (namedP x want).2]∧h'=h:=by
 have hc:=phead_c hok;generalize hF:namedP x want=F;unfold namedP at hF;have ho:=fun w l=>headM_ok2 hok (w:=w) (l:=l);obtain⟨kind,value,line,col,text,kids⟩:=x;simp only[Sx.cells]at hc⊢;generalize headM (.mk kind value line col text kids)=D at hF hc ho;have e2:errP 2=errV 2:=rfl;have e8:errP 8=errV 8:=rfl;have e0:errP 0= .sc .nilIface:=rfl;cases D with
 |none=>
  simp only at hF;subst hF;simp only[headV]at hc;refine uG0 Tryz.func76 Tryz.ntmps76 Tryz.results76 Ty.hb_76 ?_;repeat'(first|refine a_seq fun K hK=>?_|refine uR trivial ?_|(refine uN hK ?_;clear hK)|apply zI)
  refine uU trivial (hc _) ?_;repeat'(first|refine a_seq fun K hK=>?_|refine uR @Bool.not_false ?_|refine uT @Bool.not_false ?_|(refine uN hK ?_;clear hK)|apply zI)
  all_goals rfl
 |some wr=>
  obtain⟨w,rest⟩:=wr;obtain⟨o1,o2,o3⟩:=ho w rest rfl;simp only[headV]at hc;simp only at hF;have hl:=Sx.rows_len rest;cases q1:(w.data.toList==want.data.toList)with
  |false=>
   rw[show bEq w want=false from q1]at hF;simp only[cond_false]at hF;subst hF;refine uG0 Tryz.func76 Tryz.ntmps76 Tryz.results76 Ty.hb_76 ?_;(repeat'(first|refine a_seq fun K hK=>?_|refine uR trivial ?_|(refine uN hK ?_;clear hK)|apply zI));refine uU trivial (hc _) ?_;replace zz:=uu @Bool.not_true (uu @Bool.not_false q1);(repeat'(first|refine a_seq fun K hK=>?_|refine uR zz ?_|refine uT zz ?_|(refine uN hK ?_;clear hK)|apply zI));all_goals rfl
  |true=>
   rw[show bEq w want=true from q1]at hF;simp only[cond_true]at hF;cases q2:((rest.length:Int) !=1)with
   |true=>
    have e:F=(⟨#[]⟩,2):=by
     rw[← hF]
     match rest,q2 with
     |[],_=>rfl
     |[a],q=>simp at q
     |_::_::_,_=>rfl
    subst e;refine uG0 Tryz.func76 Tryz.ntmps76 Tryz.results76 Ty.hb_76 ?_;(repeat'(first|refine a_seq fun K hK=>?_|refine uR trivial ?_|(refine uN hK ?_;clear hK)|apply zI));refine uU trivial (hc _) ?_;replace zz:=uu @Bool.not_true (uu @Bool.not_false (uu q1 (uu q2 hl)));(repeat'(first|refine a_seq fun K hK=>?_|refine uR zz ?_|refine uT zz ?_|(refine uN hK ?_;clear hK)|apply zI));all_goals rfl
   |false=>
    obtain⟨r,rfl⟩: ∃ r,rest=[r]:=by
     match rest,q2 with
     |[],q=>simp at q
     |[a],_=>exact⟨a,rfl⟩
     |_::_::l,q=>simp at q;omega
    have hr:=Sx.rows_get (l:=[r]) (i:=0) rfl;have hro:=o3 r (by simp);simp only[List.length_cons,List.length_nil,Nat.zero_add]at hl q2;(try clear zz);clear o1 o2 o3 ho;simp only at hF;generalize Sx.rows [r]=R at hc hl hr;obtain⟨ki,va,li,co,te,ks⟩:=r;simp only[Sx.ok]at hro;simp only[Sx.cells,kindOf,textOf]at hr hF;have hte:te.size≤9223372036854775807:=(by have:=hro.2.2.1;unfold bigN at this;omega);have hn:=fun h:Heap=>fname_c (h:=h) hte;cases q3:(ki !=1)with
    |true=>
     rw[show(ki==1)=false by simpa using q3]at hF;simp only[cond_false]at hF;subst hF;refine uG0 Tryz.func76 Tryz.ntmps76 Tryz.results76 Ty.hb_76 ?_;(repeat'(first|refine a_seq fun K hK=>?_|refine uR trivial ?_|(refine uN hK ?_;clear hK)|apply zI));refine uU trivial (hc _) ?_;replace zz:=uu @Bool.not_true (uu @Bool.not_false (uu q1 (uu q2 (uu q3 (uu hl hr)))));(repeat'(first|refine a_seq fun K hK=>?_|refine uR zz ?_|refine uT zz ?_|(refine uN hK ?_;clear hK)|apply zI));all_goals rfl
    |false=>
     rw[show(ki==1)=true by simpa using q3]at hF;simp only[cond_true]at hF;generalize nameB te=b at hF hn;cases b with
     |false=>
      simp only[cond_false]at hF;subst hF;refine uG0 Tryz.func76 Tryz.ntmps76 Tryz.results76 Ty.hb_76 ?_;(repeat'(first|refine a_seq fun K hK=>?_|refine uR trivial ?_|(refine uN hK ?_;clear hK)|apply zI));refine uU trivial (hc _) ?_;replace zz:=uu @Bool.not_true (uu @Bool.not_false (uu q1 (uu q2 (uu q3 (uu hl hr)))));(repeat'(first|refine a_seq fun K hK=>?_|refine uR zz ?_|refine uK ?_|refine uC1 zz ?_|(refine uN hK ?_;clear hK)|apply zI));refine uU (uu hr hl) (hn _) ?_;(repeat'(first|refine a_seq fun K hK=>?_|refine uR @Bool.not_false ?_|refine uT @Bool.not_false ?_|(refine uN hK ?_;clear hK)|apply zI));all_goals rfl
     |true=>
      simp only[cond_true]at hF;subst hF;refine uG0 Tryz.func76 Tryz.ntmps76 Tryz.results76 Ty.hb_76 ?_;(repeat'(first|refine a_seq fun K hK=>?_|refine uR trivial ?_|(refine uN hK ?_;clear hK)|apply zI));refine uU trivial (hc _) ?_;replace zz:=uu @Bool.not_true (uu @Bool.not_false (uu q1 (uu q2 (uu q3 (uu hl hr)))));(repeat'(first|refine a_seq fun K hK=>?_|refine uR zz ?_|refine uK ?_|refine uC1 zz ?_|(refine uN hK ?_;clear hK)|apply zI));refine uU (uu hr hl) (hn _) ?_;replace zz:=uu @Bool.not_true (uu hr hl);(repeat'(first|refine a_seq fun K hK=>?_|refine uR zz ?_|refine uT zz ?_|refine uK ?_|refine uC1 zz ?_|(refine uN hK ?_;clear hK)|apply zI));all_goals rfl
theorem namesM_code: ∀ l:List Sx,(namesM l).2=0∨((namesM l).1=[]∧((namesM l).2=2∨(namesM l).2=8))
 |[]=> .inl rfl
 |x::l=>by
  have:=namesM_code l;simp only[namesM];cases kindOf x==1 with
  |false=>simp
  |true=>
   cases nameB (textOf x)with
   |false=>simp
   |true=>
    simp only[cond_true];cases hq:(namesM l).2==0 with
    |false=>
     rcases this with h|h
     ·rw [h]at hq;simp at hq
     ·simp only[cond_false,true_and];exact .inr h.2
    |true=>simp
theorem sx_frz'(n:Nat)(h:Heap)(ki va li co:Int)(te:ByteArray)(ks:List Sx):FrzL n h [.sc (.int .i64 ki),.sc (.int .i64 va),.sc (.int .i64 li),.sc (.int .i64 co),sPV te,.imm 6 (Sx.rows ks)] [.sc (.int .i64 ki),.sc (.int .i64 va),.sc (.int .i64 li),.sc (.int .i64 co),sPV te,.imm 6 (Sx.rows ks)]:=sx_frz n h (.mk ki va li co te ks)
abbrev atZ:List PV:=[.sc (.string ⟨#[]⟩),.sc (.slice none 0 0)]
theorem parseAtom_c{w:ByteArray}{l:List Sx}(hw:w.size≤bigN)(hl:l.length≤1048576)(hok: ∀ x∈l,x.ok)(h:Heap):PCall Tryz.prog 141 [sPV w,.imm 6 (Sx.rows l)] h fun r h'=>r= .tup [.agg (atRow (atomP w l).1),errP (atomP w l).2]∧h'=h:=by
 refine PCall.frz Ty.hb_141 ?_;have hw':w.size≤9223372036854775807:=by unfold bigN at hw;omega
 have hll:=Sx.rows_len l;have hn:=fun h:Heap=>fname_c (h:=h) hw';generalize hF:atomP w l=F;unfold atomP at hF;have bad: ∀ (c:Int)(h':Heap),c=2∨c=8→F=(zeroAt,c)→FrzTo h.next h' (.tup [.agg (atRow F.1),errP F.2]) (.tup [.agg atZ,errV c]):=by
  intro c h' hc hf;subst hf;have e:errP c=errV c:=by rcases hc with rfl|rfl<;>rfl
  simp only[e];simp only[errV,zeroAt,atRow,strRows,List.map_nil,FrzTo,FrzL];exact⟨_,rfl,⟨_,rfl,rfl,.inr (.inl ⟨rfl,.inr rfl⟩),trivial⟩,rfl,trivial⟩
 simp only[errV]at bad;cases q1:nameB w with
 |false=>
  rw[q1]at hF hn;simp only[cond_false]at hF;refine uG0 Tryz.func141 Tryz.ntmps141 Tryz.results141 Ty.hb_141 ?_;repeat'(first|refine a_seq fun K hK=>?_|refine uR trivial ?_|(refine uN hK ?_;clear hK)|apply zI)
  refine uU @Bool.not_false (hn _) ?_;repeat'(first|refine a_seq fun K hK=>?_|refine uR @Bool.not_false ?_|refine uT @Bool.not_false ?_|(refine uN hK ?_;clear hK)|apply zI)
  exact⟨bad 8 _ (.inr rfl) hF.symm,((Grow.refl h).new _).set (Nat.le_refl _) _⟩
 |true=>
  rw[q1]at hF hn;simp only[cond_true]at hF;refine uG0 Tryz.func141 Tryz.ntmps141 Tryz.results141 Ty.hb_141 ?_;repeat'(first|refine a_seq fun K hK=>?_|refine uR trivial ?_|(refine uN hK ?_;clear hK)|apply zI)
  refine uU @Bool.not_true (hn _) ?_;repeat'(first|with_reducible refine a_hold 4 ?_|refine a_seq fun K hK=>?_|refine uR @Bool.not_true ?_|refine uK ?_|refine uC1 @Bool.not_true ?_|(refine uN hK ?_;clear hK)|apply zI)
  refine⟨?_⟩;refine a_heap (GrI h h.next (h.next+1) (h.next+2) 2 2 1 atZ [sPV w] [] []) ?_ (fun H0 hI=>?_)
  ·exact GrI.mk2 (p:= .sc (.slice none 0 0)) ((((Grow.refl h).new _).new _).set (by simp[Heap.new]) _) (by simp[Heap.new,Heap.set]) (by simp[Heap.new,Heap.set]) (by simp[Heap.new,Heap.set]) Tl.nil
  repeat'(first|refine a_seq fun K hK=>?_|refine a_block ?_|refine uR hll ?_|(refine uN hK ?_;clear hK)|apply zI)
  refine a_loop (fun m S h'=>S 4= .ptr h.next 0 0∧S 6= .ptr (h.next+1) 0 0∧S 16= .imm 6 (Sx.rows l)∧S 17= .sc (.int .i64 l.length)∧ ∃ (k:Nat)(pre:List ByteArray),S 18= .sc (.int .i64 k)∧k≤l.length∧m=l.length-k∧pre.length=k∧GrI h h.next (h.next+1) (h.next+2) 2 2 1 atZ [sPV w] [] (strRows pre) h'∧
   F=(match namesM (l.drop k)with|(t,c)=>bif c==0 then(⟨w,pre++t⟩,0)else(zeroAt,c))) l.length ?_ ?_
  ·simp only[Ty.w,simprocAttr];refine⟨0,[],rfl,by omega,rfl,rfl,hI,?_⟩;rw[List.drop_zero, ← hF];try rfl
  ·(try clear zz);clear hI hF;rintro m S h' ⟨g4,g6,g16,g17,k,pre,g18,hk,rfl,hpl,hI,hinv⟩;by_cases hlt:k<l.length
   ·have hd:decide ((k:Int)<(l.length:Int))=true:=(by simp;omega);have w7:IntKind.i64.wrap ((k:Int)+1)=k+1:=(by rw[wrap64 (by omega) (by omega)]);obtain⟨x,hx⟩: ∃ x,l[k]? =some x:=⟨_,List.getElem?_eq_getElem hlt⟩;have hr:=Sx.rows_get hx;have hxk:=hok x (List.mem_of_getElem? hx);rw[drop_of_get hx]at hinv;simp only[namesM]at hinv;obtain⟨ki,va,li,co,te,ks⟩:=x;simp only[Sx.ok]at hxk;have hte:te.size≤9223372036854775807:=(by have:=hxk.2.2.1;unfold bigN at this;omega);(try clear zz);clear hxk;simp only[Sx.cells]at hr;simp only[kindOf,textOf]at hinv;replace zz:=uu g4 (uu g6 (uu g16 (uu g17 (uu g18 (uu hd hr)))));(repeat'(first|with_reducible refine a_hold 7 ?_|refine a_seq fun K hK=>?_|refine uR zz ?_|refine uK ?_|refine uC1 zz ?_|(refine uN hK ?_;clear hK)|apply zI));refine⟨?_⟩;refine a_tmp 8 rfl (by simp only[Ty.w,simprocAttr]) (sx_frz' · · ki va li co te ks) ?_;refine a_gen (fun S H=>S 4= .ptr h.next 0 0∧S 6= .ptr (h.next+1) 0 0∧S 16= .imm 6 (Sx.rows l)∧S 17= .sc (.int .i64 l.length)∧S 18= .sc (.int .i64 k)∧S 8= .cptr [.sc (.int .i64 ki),.sc (.int .i64 va),.sc (.int .i64 li),.sc (.int .i64 co),sPV te,.imm 6 (Sx.rows ks)]∧GrI h h.next (h.next+1) (h.next+2) 2 2 1 atZ [sPV w] [] (strRows pre) H) ⟨by simp only[Ty.w,simprocAttr,g4],by simp only[Ty.w,simprocAttr,g6],by simp only[Ty.w,simprocAttr,g16],by simp only[Ty.w,simprocAttr,g17],by simp only[Ty.w,simprocAttr,g18],by simp only[Ty.w,simprocAttr],hI.tmp _ _⟩ ?_;(try clear zz);clear hI g4 g6 g16 g17 g18 hr hd;rintro S h' ⟨g4,g6,g16,g17,g18,g8,hI⟩;obtain⟨hg,ids,o1,p,H,o2,tl,t1,t2,t3,t4,hgH,hpc,hp1⟩:=hI;simp only[List.cons_append,List.nil_append]at o2;cases q2:(ki !=1)with
    |true=>
     rw[show(ki==1)=false by simpa using q2]at hinv;simp only[cond_false]at hinv;replace zz:=uu g4 (uu g6 (uu g8 (uu g16 (uu g17 (uu g18 (uu q2 o1))))));(repeat'(first|refine a_seq fun K hK=>?_|refine uR zz ?_|refine uT zz ?_|(refine uN hK ?_;clear hK)|apply zI));exact⟨bad 2 _ (.inl rfl) hinv,hg.set (Nat.le_refl _) _⟩
    |false=>
     rw[show(ki==1)=true by simpa using q2]at hinv;simp only[cond_true]at hinv;have hc:=fun h:Heap=>fname_c (h:=h) hte;generalize nameB te=b at hc hinv;cases b with
     |false=>
      simp only[cond_false]at hinv;replace zz:=uu g4 (uu g6 (uu g8 (uu g16 (uu g17 (uu g18 q2)))));(repeat'(first|refine a_seq fun K hK=>?_|refine uR zz ?_|refine uK ?_|refine uC1 zz ?_|(refine uN hK ?_;clear hK)|apply zI));replace zz:=uu g4 (uu g6 (uu g8 (uu g16 (uu g17 (uu g18 @Bool.not_false)))));refine uU zz (hc _) ?_;replace zz:=uu g4 (uu g6 (uu g8 (uu g16 (uu g17 (uu g18 (uu @Bool.not_false o1))))));(repeat'(first|refine a_seq fun K hK=>?_|refine uR zz ?_|refine uT zz ?_|(refine uN hK ?_;clear hK)|apply zI));exact⟨bad 8 _ (.inr rfl) hinv,hg.set (Nat.le_refl _) _⟩
     |true=>
      simp only[cond_true]at hinv;have hpr:(strRows pre).length=k:=(by rw[strRows_len];exact hpl);have hb:(k+1)*16≤140737488355328:=(by omega);have n2:(h.next+1=H.next)=False:=(by simp;omega);have n3:(h.next+1=h'.next)=False:=(by simp;omega);have o2H:H.obj (h.next+1)=_:=(t4 _ (by omega)).trans o2;have hpush:=GrI.push (m:=k+1) (zo:=2) (zl:=1) (pre:=[sPV w]) (post:=[]) (R:=strRows pre) [sPV te] hgH ids o1 t3 t4 (by omega);have hap:strRows pre++[[sPV te]]=strRows (pre++[te]):=(by simp[strRows]);simp only[hap,List.cons_append,List.nil_append]at hpush;have hap2:strRows pre++[[PV.sc (.string te)]]=strRows (pre++[te]):=hap;replace zz:=uu g4 (uu g6 (uu g8 (uu g16 (uu g17 (uu g18 q2)))));(repeat'(first|refine a_seq fun K hK=>?_|refine uR zz ?_|refine uK ?_|refine uC1 zz ?_|(refine uN hK ?_;clear hK)|apply zI));replace zz:=uu g4 (uu g6 (uu g8 (uu g16 (uu g17 (uu g18 @Bool.not_true)))));refine uU zz (hc _) ?_;replace zz:=uu g4 (uu g6 (uu g8 (uu g16 (uu g17 (uu g18 (uu @Bool.not_true (uu o2 (uu o2H (uu n2 (uu n3 (uu t1 (uu t2 (uu t3 (uu hpr (uu hpc (uu hp1 (uu hb (uu hap2 w7))))))))))))))))));(repeat'(first|refine uR zz ?_|refine uQ zz fun K hK=>?_|refine uK ?_|refine uC1 zz ?_|(refine uN hK ?_;clear hK)|(rw[if_pos];rotate_left 1;omega;simp(maxSteps:=2000000) only[Ty.w,simprocAttr,g4,g6,g8,g16,g17,g18,Bool.not_true,o2,o2H,n2,n3,t1,t2,t3,hpr,hpc,hp1,hb,hap2,w7])|apply zI));refine⟨l.length-(k+1),by omega,k+1,pre++[te],by simp,by omega,rfl,by simp[hpl],hpush,?_⟩;rw[hinv];generalize namesM (List.drop (k+1) l)=W;obtain⟨t,c⟩:=W;cases hq:c==0 with
      |false=>simp only[hq,cond_false]
      |true=>simp only[hq,cond_true,beq_self_eq_true,List.append_assoc,List.cons_append,List.nil_append]
   ·have hd:decide ((k:Int)<(l.length:Int))=false:=(by simp;omega);rw[List.drop_eq_nil_of_le (by omega)]at hinv;simp only[namesM,beq_self_eq_true,cond_true,List.append_nil]at hinv;subst hinv;obtain⟨hg,ids,o1,p,H,o2,tl,t1,t2,t3,t4,hgH,hpc,hp1⟩:=hI;simp only[List.cons_append,List.nil_append]at o2;have n2:(h.next+1=h.next)=False:=(by simp);replace zz:=uu g4 (uu g6 (uu g16 (uu g17 (uu g18 (uu hd (uu o1 (uu o2 (uu n2 (uu hpc hp1)))))))));(repeat'(first|refine a_seq fun K hK=>?_|refine uR zz ?_|refine uT zz ?_|refine uX ?_|refine uC1 zz ?_|(refine uN hK ?_;clear hK)|(clear hK;refine uN hK ?_;clear hK)|apply zI));refine⟨?_,hg.set (Nat.le_refl _) _⟩;have tl2:Tl (h'.set h.next (.arr 2 [[sPV w,p]])) (h.next+2) 1 p (strRows pre):=tl.up (Nat.le_refl _) fun j hj _=>(by simp only[Heap.set];rw[if_neg (by omega)]);simp only[atRow,errP,beq_self_eq_true,cond_true,FrzTo,FrzL];exact⟨_,rfl,⟨_,rfl,rfl,by have:=tl_frzS (Tl.low tl2 (show h.next≤h.next+2 by omega));simpa only[FrzTo]using this,trivial⟩,rfl,trivial⟩
set_option maxHeartbeats 8000000
def fmBody(w:ByteArray)(rest:List Sx):Fm × Int:=
 bif isQ w then(match rest with
  |[]=>(zeroFm,2)
  |p::body=>bif kindOf p==3 then(bif (paramsP true (kidsOf p)).2==0 then(match fmPs body with
    |(ks,c)=>bif c==0 then(.mk w ⟨#[]⟩ [] (paramsP true (kidsOf p)).1 [] ks,0)else(zeroFm,c))
   else(zeroFm,(paramsP true (kidsOf p)).2))else(zeroFm,2))
 else bif isLst w then(match fmPs rest with
  |(ks,c)=>bif c==0 then(.mk w ⟨#[]⟩ [] [] [] ks,0)else(zeroFm,c))
 else bif isCmp5 w then(match rest with
  |[a,b]=>fin (compareP w a b)
  |_=>(zeroFm,2))
 else bif nameB w then(bif (termsM rest).2==0 then(.mk opAtom w (termsM rest).1 [] [] [],0)else(zeroFm,(termsM rest).2))
 else(zeroFm,8)
theorem fmP_head(x:Sx):fmP x=(bif kindOf x==3&&(kidsOf x).isEmpty then(.mk opAnd ⟨#[]⟩ [] [] [] [],0)else(match headM x with
  |none=>(zeroFm,2)
  |some (w,rest)=>bif decide (countW w≥0)&&!(decide (countW w=rest.length))then(zeroFm,2)else fmBody w rest)):=by
 obtain⟨kind,value,line,col,text,kids⟩:=x
 conv=>lhs;unfold fmP
 have kk:kindOf (.mk kind value line col text kids)=kind:=rfl;have k5:kidsOf (.mk kind value line col text kids)=kids:=rfl;rw[kk,k5];simp only[headM];by_cases h3:kind=3
 ·rw [if_pos h3,if_pos h3];cases kids with
  |nil=>simp[h3]
  |cons y rest=>
   simp only[List.isEmpty_cons,Bool.and_false,cond_false];cases hk:kindOf y==1<;>simp only[hk,cond_true,cond_false]<;>rfl
 ·rw [if_neg h3,if_neg h3];rw[show(kind==3)=false by simpa using h3];try rfl
theorem count_two{w:ByteArray}{n:Nat}(hw:isQ w=true∨isCmp5 w=true)(hc:(decide (countW w≥0)&&!(decide (countW w=n)))=false):n=2:=by
 have:countW w=2:=by
  rw[countW_eq];unfold isQ isCmp5 isCmp at hw;simp only[Bool.or_eq_true]at hw;rcases hw with(h|h)|(((h|h)|h)|h)|h<;>(have h:=bEq_eq h;subst h;decide)
 rw[this]at hc;simp at hc;omega
def fmZ:AObj:= .arr 6 [[.sc (.string ⟨#[]⟩),.sc (.string ⟨#[]⟩),.sc (.slice none 0 0),.sc (.slice none 0 0),.sc (.slice none 0 0),.sc (.slice none 0 0)]]
structure PI(h:Heap)(w:ByteArray)(h':Heap):Prop where
 grow:Grow h h'
 nxt:h'.next=h.next+2
 o1:h'.obj h.next=some fmZ
 o2:h'.obj (h.next+1)=some (.arr 6 [[sPV w,.sc (.string ⟨#[]⟩),.sc (.slice none 0 0),.sc (.slice none 0 0),.sc (.slice none 0 0),.sc (.slice none 0 0)]])
def PJ(h:Heap)(F:Fm × Int)(S:Slots)(h':Heap):Prop:=S 2= .ptr h.next 0 0∧S 8= .ptr (h.next+1) 0 0∧Grow h h'∧ ∃ (c:Int)(a b:ByteArray)(p2 p3 p4 p5:PV),S 9=errP c∧h'.obj h.next=some fmZ∧h'.obj (h.next+1)=some (.arr 6 [[sPV a,sPV b,p2,p3,p4,p5]])∧
 (oneC p2=true∧oneC p3=true∧oneC p4=true∧oneC p5=true)∧((c==0)=false→F=(zeroFm,c))∧((c==0)=true→F.2=0∧ ∀ hh,FrzL h.next hh F.1.cells [sPV a,sPV b,p2,p3,p4,p5])
theorem PJ.mk2{h h':Heap}{w:ByteArray}{F:Fm × Int}{S:Slots}(hp:PI h w h')(c:Int)(a b:ByteArray)(p2 p3 p4 p5:PV)(g2:S 2= .ptr h.next 0 0)(g8:S 8= .ptr (h.next+1) 0 0)(g9:S 9=errP c)
  (ho:oneC p2=true∧oneC p3=true∧oneC p4=true∧oneC p5=true)(hc:(c==0)=false→F=(zeroFm,c))(hd:(c==0)=true→F.2=0∧ ∀ hh,FrzL h.next hh F.1.cells [sPV a,sPV b,p2,p3,p4,p5]):
  PJ h F S (h'.set (h.next+1) (.arr 6 [[sPV a,sPV b,p2,p3,p4,p5]])):=by
 refine⟨g2,g8,hp.grow.set (Nat.le_succ _) _,c,a,b,p2,p3,p4,p5,g9,?_,by simp[Heap.set],ho,hc,hd⟩;simp only[Heap.set];rw[if_neg (by omega)];exact hp.o1
theorem errRet{h h':Heap}{c:Int}{F:Fm × Int}(hc:c=2∨c=8)(hg:Grow h h')(hF:F=(zeroFm,c)):
  FrzTo h.next h' (.tup [.agg F.1.cells,errP F.2]) (.tup [.agg [.sc (.string ⟨#[]⟩),.sc (.string ⟨#[]⟩),.sc (.slice none 0 0),.sc (.slice none 0 0),.sc (.slice none 0 0),.sc (.slice none 0 0)],errV c])∧Grow h h':=by
 subst hF;have:errP c=errV c:=by rcases hc with rfl|rfl<;>rfl
 simp only[this];refine⟨?_,hg⟩;simp only[errV,zeroFm,Fm.cells,Ex.rows,Fm.rows,pmRows,strRows,List.map_nil,FrzTo,FrzL];exact⟨_,rfl,⟨_,rfl,rfl,rfl,.inr (.inl ⟨rfl,.inr rfl⟩),.inr (.inl ⟨rfl,.inr rfl⟩),.inr (.inl ⟨rfl,.inr rfl⟩),.inr (.inl ⟨rfl,.inr rfl⟩),trivial⟩,rfl,trivial⟩
theorem parse_step{kind value line col:Int}{text:ByteArray}{kids:List Sx}(hok:(Sx.mk kind value line col text kids).ok)(hsm:(Sx.mk kind value line col text kids).small)
  (ih: ∀ x∈kids, ∀ h:Heap,PCall Tryz.prog 142 [.agg x.cells] h fun r h'=>r= .tup [.agg (fmP x).1.cells,errP (fmP x).2]∧h'=h)(h:Heap):
  PCall Tryz.prog 142 [.agg (Sx.mk kind value line col text kids).cells] h fun r h'=>r= .tup [.agg (fmP (.mk kind value line col text kids)).1.cells,errP (fmP (.mk kind value line col text kids)).2]∧h'=h:=by
 refine PCall.frz Ty.hb_142 ?_;have hok':=hok;simp only[Sx.ok]at hok';obtain⟨_,_,_,hkl,hks⟩:=hok';rw[Sx.oks_iff]at hks;simp only[Sx.small]at hsm;obtain⟨hl,hss⟩:=hsm;rw[Sx.smalls_iff]at hss;have hh:=head_c hok;have hX:=fmP_head (.mk kind value line col text kids);generalize fmP (.mk kind value line col text kids)=F at hX;have hMo:=fun w rest e=>headM_ok (w:=w) (rest:=rest) hok e;have hMr:=fun w rest e=>headM_rest (kind:=kind) (value:=value) (line:=line) (col:=col) (text:=text) (kids:=kids) (w:=w) (rest:=rest) e;generalize headM (.mk kind value line col text kids)=M at hh hX hMo hMr;have kk:kindOf (.mk kind value line col text kids)=kind:=rfl;have k5:kidsOf (.mk kind value line col text kids)=kids:=rfl;rw[kk,k5]at hX;have hlk:=Sx.rows_len kids;have hg1: ∀ r,Grow h ((h.new (.arr 6 [[.sc (.string ⟨#[]⟩),.sc (.string ⟨#[]⟩),.sc (.slice none 0 0),.sc (.slice none 0 0),.sc (.slice none 0 0),.sc (.slice none 0 0)]])).set h.next r):=fun r=>((Grow.refl h).new _).set (Nat.le_refl _) _;refine uG0 Tryz.func142 Tryz.ntmps142 Tryz.results142 Ty.hb_142 ?_;simp only[Sx.cells]at hh⊢;repeat'(first|with_reducible refine a_hold 1 ?_|refine a_seq fun K hK=>?_|refine uR trivial ?_|(refine uN hK ?_;clear hK)|apply zI)
 refine⟨?_⟩;refine a_cut (fun S h'=>S 1= .cptr (Sx.mk kind value line col text kids).cells∧S 2= .ptr h.next 0 0∧h'=h.new fmZ∧(kind==3&&kids.isEmpty)=false) ?_ ?_
 ·try clear zz
  clear hh;simp only[Sx.cells,fmZ];cases k3:(kind==3)with
  |false=>
   (repeat'(first|refine a_seq fun K hK=>?_|refine uR k3 ?_|refine uK ?_|refine uC1 k3 ?_|(refine uN hK ?_;clear hK)|apply zI));all_goals first|rfl|(simp only[Ty.w,simprocAttr,Bool.false_and];done)
  |true=>
   cases q:(((Sx.rows kids).length:Int)==0)with
   |false=>
    have q':kids.isEmpty=false:=by
     cases kids with
     |nil=>simp[Sx.rows]at q
     |cons _ _=>rfl
    replace zz:=uu k3 q;(repeat'(first|refine a_seq fun K hK=>?_|refine uR zz ?_|refine uK ?_|refine uC1 zz ?_|(refine uN hK ?_;clear hK)|apply zI));all_goals first|rfl|(simp only[Ty.w,simprocAttr,q',Bool.true_and];done)
   |true=>
    have q':kids.isEmpty=true:=by
     cases kids with
     |nil=>rfl
     |cons _ _=>simp[Sx.rows]at q;omega
    rw[k3,q']at hX;simp only[Bool.and_self,cond_true]at hX;subst hX;replace zz:=uu k3 q;(repeat'(first|refine a_seq fun K hK=>?_|refine uR zz ?_|refine uT zz ?_|(refine uN hK ?_;clear hK)|apply zI));refine⟨?_,hg1 _⟩;have e2:errP 0= .sc .nilIface:=rfl;simp only[e2,opAnd,Fm.cells,Ex.rows,Fm.rows,pmRows,strRows,List.map_nil,FrzTo,FrzL];exact⟨_,rfl,⟨_,rfl,rfl,rfl,.inr (.inl ⟨rfl,.inr rfl⟩),.inr (.inl ⟨rfl,.inr rfl⟩),.inr (.inl ⟨rfl,.inr rfl⟩),.inr (.inl ⟨rfl,.inr rfl⟩),trivial⟩,rfl,trivial⟩
 ·rintro S h' ⟨g1,g2,rfl,hq⟩;rw[hq]at hX;simp only[cond_false]at hX;simp only[Sx.cells]at g1;simp only[fmZ];try clear zz
  clear hq;cases M with
  |none=>
   simp only at hX;simp only[headV]at hh;(repeat'(first|refine a_seq fun K hK=>?_|refine uR (uu g1 g2) ?_|apply zI));refine uU (uu g1 g2) (hh _) ?_;replace zz:=uu g1 (uu g2 @Bool.not_false);(repeat'(first|refine a_seq fun K hK=>?_|refine uR zz ?_|refine uT zz ?_|(refine uN hK ?_;clear hK)|apply zI));exact errRet (.inl rfl) (hg1 _) hX
  |some wr=>
   obtain⟨w,rest⟩:=wr;obtain⟨hw,hro⟩:=hMo w rest rfl;obtain⟨y0,hy0⟩:=hMr w rest rfl;have hrl:rest.length≤1048576:=(by rw[hy0]at hl;simp at hl;omega);have ihr: ∀ x∈rest, ∀ h:Heap,PCall Tryz.prog 142 [.agg x.cells] h fun r h'=>r= .tup [.agg (fmP x).1.cells,errP (fmP x).2]∧h'=h:=fun x hx=>ih x (by rw[hy0];simp[hx]);have hsr: ∀ x∈rest,x.small:=fun x hx=>hss x (by rw[hy0];simp[hx]);(try clear zz);clear ih hMo hMr hks hss hl hkl hlk hy0 y0;simp only at hX;simp only[headV]at hh;have hlr:=Sx.rows_len rest;(repeat'(first|with_reducible refine a_hold 6 ?_|refine a_seq fun K hK=>?_|refine uR (uu g1 g2) ?_|apply zI));refine uU (uu g1 g2) (hh _) ?_;replace zz:=uu g1 (uu g2 @Bool.not_true);(repeat'(first|with_reducible refine a_hold 6 ?_|refine a_seq fun K hK=>?_|refine uR zz ?_|refine uK ?_|refine uC1 zz ?_|(refine uN hK ?_;clear hK)|apply zI));refine⟨?_⟩;refine a_cut (fun S h'=>S 2= .ptr h.next 0 0∧S 4=sPV w∧S 5= .imm 6 (Sx.rows rest)∧h'=h.new fmZ∧(decide (countW w≥0)&&!(decide (countW w=rest.length)))=false) ?_ ?_
   ·have hcn:=fun h:Heap=>count_c (h:=h) (op:=w);simp only[fmZ];generalize countW w=n at hcn hX;cases c1:decide (n≥0)with
    |false=>
     (repeat'(first|refine a_seq fun K hK=>?_|refine uR (uu g1 g2) ?_|apply zI));refine uU (uu g1 g2) (hcn _) ?_;replace zz:=uu g1 (uu g2 c1);(repeat'(first|refine a_seq fun K hK=>?_|refine uR zz ?_|refine uK ?_|refine uC1 zz ?_|(refine uN hK ?_;clear hK)|apply zI));all_goals first|rfl|(simp only[Ty.w,simprocAttr,g2,Bool.false_and];done)
    |true=>
     cases c2:(n !=(rest.length:Int))with
     |false=>
      have c2':decide (n=(rest.length:Int))=true:=(by simpa using c2);(repeat'(first|refine a_seq fun K hK=>?_|refine uR (uu g1 g2) ?_|apply zI));refine uU (uu g1 g2) (hcn _) ?_;replace zz:=uu g1 (uu g2 (uu c1 (uu hlr c2)));(repeat'(first|refine a_seq fun K hK=>?_|refine uR zz ?_|refine uK ?_|refine uC1 zz ?_|(refine uN hK ?_;clear hK)|apply zI));all_goals first|rfl|(simp only[Ty.w,simprocAttr,g2,c2',Bool.true_and,Bool.not_true];done)
     |true=>
      have c2':decide (n=(rest.length:Int))=false:=(by simpa using c2);rw[c1,c2']at hX;simp only[Bool.not_false,Bool.and_self,cond_true]at hX;(repeat'(first|refine a_seq fun K hK=>?_|refine uR (uu g1 g2) ?_|apply zI));refine uU (uu g1 g2) (hcn _) ?_;replace zz:=uu g1 (uu g2 (uu c1 (uu hlr c2)));(repeat'(first|refine a_seq fun K hK=>?_|refine uR zz ?_|refine uT zz ?_|(refine uN hK ?_;clear hK)|apply zI));exact errRet (.inl rfl) (hg1 _) hX
   ·(try clear zz);clear g1 g2 hh;rintro S h' ⟨g2,g4,g5,rfl,hcnt⟩;rw[hcnt]at hX;simp only[cond_false]at hX;simp only[fmZ];have n1:(h.next=h.next+1)=False:=(by simp);(repeat'(first|with_reducible refine a_hold 11 ?_|refine a_seq fun K hK=>?_|refine uR (uu g2 (uu g4 g5)) ?_|(refine uN hK ?_;clear hK)|apply zI));refine⟨?_⟩;refine a_gen (fun S h'=>S 2= .ptr h.next 0 0∧S 4=sPV w∧S 5= .imm 6 (Sx.rows rest)∧S 8= .ptr (h.next+1) 0 0∧S 9= .sc .nilIface∧PI h w h') ?_ ?_
    ·simp only[Ty.w,simprocAttr,g2,g4,g5];refine⟨(((Grow.refl h).new _).new _).set (Nat.le_succ _) _,rfl,?_,?_⟩
     ·simp [Heap.new,Heap.set,fmZ]
     ·simp [Heap.new,Heap.set]
    ·(try clear zz);clear g2 g4 g5;rintro S h' ⟨g2,g4,g5,g8,g9,hpi⟩;refine a_cut (PJ h F) ?_ ?_
     ·have o1:=hpi.o1;have o2:=hpi.o2;simp only[fmZ]at o1;have hN:=hpi.nxt;have n1:(h.next=h.next+1)=False:=(by simp);have n2:(h.next+1=h.next)=False:=(by simp);have hz2:errP 0= .sc .nilIface:=rfl;replace zz:=uu g2 (uu g4 (uu g5 (uu g8 g9)));(repeat'(first|refine a_hold 16 ?_|apply zI));refine⟨?_⟩;refine a_cut (fun S h2=>h2=h'∧S 2= .ptr h.next 0 0∧S 4=sPV w∧S 5= .imm 6 (Sx.rows rest)∧S 8= .ptr (h.next+1) 0 0∧S 9= .sc .nilIface∧S 44=sPV w∧S 59= .sc (.bool (isQ w))) ?_ ?_
      ·cases u1:(w.data.toList==(#[102,111,114,97,108,108]:Array UInt8).toList)with
       |true=>
        have hq:isQ w=true:=(by unfold isQ;simp[show bEq w opAll=true from u1]);rw[hq];replace zz:=uu g2 (uu g4 (uu g5 (uu g8 (uu g9 u1))));(repeat'(first|refine a_seq fun K hK=>?_|refine uR zz ?_|refine uK ?_|refine uC1 zz ?_|(refine uN hK ?_;clear hK)|apply zI));all_goals first|rfl|(simp only[Ty.w,simprocAttr,g2,g4,g5,g8,g9];done)
       |false=>
        cases u2:(w.data.toList==(#[101,120,105,115,116,115]:Array UInt8).toList)with
        |true=>
         have hq:isQ w=true:=(by unfold isQ;simp[show bEq w opAll=false from u1,show bEq w opSome=true from u2]);rw[hq];replace zz:=uu g2 (uu g4 (uu g5 (uu g8 (uu g9 (uu u1 u2)))));(repeat'(first|refine a_seq fun K hK=>?_|refine uR zz ?_|refine uC1 zz ?_|(refine uN hK ?_;clear hK)|apply zI));all_goals first|rfl|(simp only[Ty.w,simprocAttr,g2,g4,g5,g8,g9];done)
        |false=>
         have hq:isQ w=false:=(by unfold isQ;simp[show bEq w opAll=false from u1,show bEq w opSome=false from u2]);rw[hq];replace zz:=uu g2 (uu g4 (uu g5 (uu g8 (uu g9 (uu u1 u2)))));(repeat'(first|refine a_seq fun K hK=>?_|refine uR zz ?_|refine uC1 zz ?_|(refine uN hK ?_;clear hK)|apply zI));all_goals first|rfl|(simp only[Ty.w,simprocAttr,g2,g4,g5,g8,g9];done)
      ·(try clear zz);clear g2 g4 g5 g8 g9;rintro S h' ⟨rfl,g2,g4,g5,g8,g9,g44,g59⟩;cases hQ:isQ w with
       |true=>
        rw[hQ]at g59;simp only[fmBody,hQ,cond_true]at hX;obtain⟨p,b,rfl⟩: ∃ p b,rest=[p,b]:=by
         have h2:=count_two (.inl hQ) hcnt
         match rest,h2 with
         |[p,b],_=>exact⟨p,b,rfl⟩
        simp only at hX;have hpo:=hro p (by simp);have hps:=hsr p (by simp);have hck:=fun h=>kids_c (l:=[b]) (by simp) (fun x hx=>ihr x (by simp at hx⊢;exact .inr hx)) h;obtain⟨pk,pv,pl,pc,pt,pks⟩:=p;simp only[kindOf,kidsOf]at hX;simp only[Sx.ok]at hpo;simp only[Sx.small]at hps;have hcp:=fun h=>parseParams_c (vars:=true) (l:=pks) hps.1 (Sx.oks_iff.1 hpo.2.2.2.2) h;have r0:=Sx.rows_get (l:=[.mk pk pv pl pc pt pks,b]) (i:=0) rfl;have hq1:(1:Int)≤((Sx.rows [.mk pk pv pl pc pt pks,b]).length:Int):=(by rw[hlr];simp);have ht:List.take (((Sx.rows [.mk pk pv pl pc pt pks,b]).length:Int)-1).toNat (List.drop 1 (Sx.rows [.mk pk pv pl pc pt pks,b]))=Sx.rows [b]:=(by rw[hlr];try rfl);generalize Sx.rows [.mk pk pv pl pc pt pks,b]=R at g5 r0 hq1 ht hlr;generalize Sx.rows [b]=R1 at ht hck;simp only[Sx.cells]at r0;cases q3:(pk !=3)with
        |true=>
         rw[show(pk==3)=false by simpa using q3]at hX;simp only[cond_false]at hX;replace zz:=uu g2 (uu g4 (uu g5 (uu g8 (uu g9 (uu g44 (uu g59 (uu r0 (uu q3 (uu o1 o2)))))))));(repeat'(first|refine a_seq fun K hK=>?_|refine uR zz ?_|refine uT zz ?_|refine uC1 zz ?_|(refine uN hK ?_;clear hK)|apply zI));exact errRet (.inl rfl) (hpi.grow.set (Nat.le_refl _) _) hX
        |false=>
         rw[show(pk==3)=true by simpa using q3]at hX;simp only[cond_true]at hX;generalize paramsP true pks=PP at hcp hX;obtain⟨pms,c⟩:=PP;simp only at hcp hX;cases hc:c==0 with
         |false=>
          rw[hc]at hX;simp only[cond_false]at hX;have e0:errP c=errV c:=(by simp only[errP,hc,cond_false]);rw[e0]at hcp;simp only[errV]at hcp e0;replace zz:=uu g2 (uu g4 (uu g5 (uu g8 (uu g9 (uu g44 (uu g59 (uu r0 (uu q3 (uu o1 o2)))))))));(repeat'(first|refine a_seq fun K hK=>?_|refine uR zz ?_|refine uK ?_|refine uC1 zz ?_|(refine uN hK ?_;clear hK)|apply zI));refine owp_useQ (hcp _) (by(try simp only[Ty.w,simprocAttr,g2,g4,g5,g8,g9,g44,r0,o1,o2,n1,n2,set_set]);try rfl) ?_;simp(maxSteps:=2000000) only[Ty.w,simprocAttr,g2,g4,g5,g8,g9,g44,r0,o1,o2,n1,n2,set_set];replace zz:=uu g2 (uu g4 (uu g5 (uu g8 (uu g9 (uu g44 (uu r0 (uu o1 (uu o2 (uu n1 n2)))))))));(repeat'(first|refine a_seq fun K hK=>?_|refine a_block ?_|refine uR zz ?_|refine uK ?_|(refine uN hK ?_;clear hK)|apply zI));refine PJ.mk2 hpi c w ⟨#[]⟩ _ _ _ _ ?_ ?_ ?_ ?_ ?_ ?_
          ·simp only[Ty.w,simprocAttr,g2]
          ·simp only[Ty.w,simprocAttr,g8]
          ·simp only[Ty.w,simprocAttr];first|exact e0.symm|rfl
          ·exact ⟨rfl,rfl,rfl,rfl⟩
          ·exact fun _=>hX
          ·intro hh;rw[hc]at hh;exact absurd hh (by simp)
         |true=>
          rw[hc]at hX;simp only[cond_true]at hX;have e0:errP c= .sc .nilIface:=(by simp only[errP,hc,cond_true]);rw[e0]at hcp;(try clear zz);clear e0;generalize fmPs [b]=KK at hck hX;obtain⟨ks,c2⟩:=KK;simp only at hck hX;cases hc2:c2==0 with
          |false=>
           rw[hc2]at hX;simp only[cond_false]at hX;have e0:errP c2=errV c2:=(by simp only[errP,hc2,cond_false]);rw[e0]at hck;simp only[errV]at hck e0;replace zz:=uu g2 (uu g4 (uu g5 (uu g8 (uu g9 (uu g44 (uu g59 (uu r0 (uu q3 (uu o1 o2)))))))));(repeat'(first|refine a_seq fun K hK=>?_|refine uR zz ?_|refine uK ?_|refine uC1 zz ?_|(refine uN hK ?_;clear hK)|apply zI));refine owp_useQ (hcp _) (by(try simp only[Ty.w,simprocAttr,g2,g4,g5,g8,g9,g44,r0,o1,o2,n1,n2,set_set]);try rfl) ?_;simp(maxSteps:=2000000) only[Ty.w,simprocAttr,g2,g4,g5,g8,g9,g44,r0,o1,o2,n1,n2,set_set];(repeat'(first|refine a_seq fun K hK=>?_|(refine a_block ?_)|((first|refine a_regionS ?_|refine a_region (fun K hK=>?_));simp(maxSteps:=2000000) only[Ty.w,simprocAttr,g2,g4,g5,g8,g9,g44,r0,o1,o2,n1,n2,hq1,ht,Option.getD_some,Option.getD_none,Int.le_refl,Int.toNat_one])|(refine hK _ _ ?_;clear hK;(try simp only[pst0,simprocAttr]))));refine owp_useQ (hck _) (by(try simp only[Ty.w,simprocAttr,g2,g4,g5,g8,g9,g44,r0,o1,o2,n1,n2,hq1,ht,Option.getD_some,Option.getD_none,Int.le_refl,Int.toNat_one,set_set]);try rfl) ?_;simp(maxSteps:=2000000) only[Ty.w,simprocAttr,g2,g4,g5,g8,g9,g44,r0,o1,o2,n1,n2,hq1,ht,Option.getD_some,Option.getD_none,Int.le_refl,Int.toNat_one,set_set];(repeat'(refine hK _ _ ?_;clear hK;(try simp only[pst0,simprocAttr])));(try rw[set_set]);refine PJ.mk2 hpi c2 w ⟨#[]⟩ _ _ _ _ ?_ ?_ ?_ ?_ ?_ ?_
           ·simp only[Ty.w,simprocAttr,g2]
           ·simp only[Ty.w,simprocAttr,g8]
           ·simp only[Ty.w,simprocAttr];first|exact e0.symm|rfl
           ·exact ⟨rfl,rfl,rfl,rfl⟩
           ·exact fun _=>hX
           ·intro hh;rw[hc2]at hh;exact absurd hh (by simp)
          |true=>
           rw[hc2]at hX;simp only[cond_true]at hX;have e0:errP c2= .sc .nilIface:=(by simp only[errP,hc2,cond_true]);rw[e0]at hck;replace zz:=uu g2 (uu g4 (uu g5 (uu g8 (uu g9 (uu g44 (uu g59 (uu r0 (uu q3 (uu o1 o2)))))))));(repeat'(first|refine a_seq fun K hK=>?_|refine uR zz ?_|refine uK ?_|refine uC1 zz ?_|(refine uN hK ?_;clear hK)|apply zI));refine owp_useQ (hcp _) (by(try simp only[Ty.w,simprocAttr,g2,g4,g5,g8,g9,g44,r0,o1,o2,n1,n2,set_set]);try rfl) ?_;simp(maxSteps:=2000000) only[Ty.w,simprocAttr,g2,g4,g5,g8,g9,g44,r0,o1,o2,n1,n2,set_set];(repeat'(first|refine a_seq fun K hK=>?_|(refine a_block ?_)|((first|refine a_regionS ?_|refine a_region (fun K hK=>?_));simp(maxSteps:=2000000) only[Ty.w,simprocAttr,g2,g4,g5,g8,g9,g44,r0,o1,o2,n1,n2,hq1,ht,Option.getD_some,Option.getD_none,Int.le_refl,Int.toNat_one])|(refine hK _ _ ?_;clear hK;(try simp only[pst0,simprocAttr]))));refine owp_useQ (hck _) (by(try simp only[Ty.w,simprocAttr,g2,g4,g5,g8,g9,g44,r0,o1,o2,n1,n2,hq1,ht,Option.getD_some,Option.getD_none,Int.le_refl,Int.toNat_one,set_set]);try rfl) ?_;simp(maxSteps:=2000000) only[Ty.w,simprocAttr,g2,g4,g5,g8,g9,g44,r0,o1,o2,n1,n2,hq1,ht,Option.getD_some,Option.getD_none,Int.le_refl,Int.toNat_one,set_set];(repeat'(refine hK _ _ ?_;clear hK;(try simp only[pst0,simprocAttr])));(try rw[set_set]);refine PJ.mk2 hpi c2 w ⟨#[]⟩ _ _ _ _ ?_ ?_ ?_ ?_ ?_ ?_
           ·simp only[Ty.w,simprocAttr,g2]
           ·simp only[Ty.w,simprocAttr,g8]
           ·simp only[Ty.w,simprocAttr];first|exact e0.symm|rfl
           ·exact ⟨rfl,rfl,rfl,rfl⟩
           ·intro hh;rw[hc2]at hh;exact absurd hh (by simp)
           ·subst hX;refine fun _=>⟨rfl,fun hh=>?_⟩;simp only[Fm.cells,FrzL];refine⟨?_,?_,?_,?_,?_,?_,trivial⟩<;>(unfold FrzTo;first|rfl|exact .inr (.inl ⟨rfl,.inr rfl⟩)|exact .inl ⟨rfl,strs_in _ _⟩|exact .inl ⟨rfl,pms_in _ _⟩|exact .inl ⟨rfl,fms_in _ _⟩)
       |false=>
        rw[hQ]at g59;simp only[fmBody,hQ,cond_false]at hX;replace zz:=uu g2 (uu g4 (uu g5 (uu g8 (uu g9 (uu g44 g59)))));(repeat'(first|refine a_hold 23 ?_|refine uC1 zz ?_|apply zI));refine⟨?_⟩;refine a_cut (fun S h2=>h2=h'∧S 2= .ptr h.next 0 0∧S 4=sPV w∧S 5= .imm 6 (Sx.rows rest)∧S 8= .ptr (h.next+1) 0 0∧S 9= .sc .nilIface∧S 44=sPV w∧S 87= .sc (.bool (isLst w))) ?_ ?_
        ·cases u1:(w.data.toList==(#[110,111,116]:Array UInt8).toList)with
         |true=>
          have hq:isLst w=true:=(by unfold isLst;simp[show bEq w opNot=true from u1]);rw[hq];replace zz:=uu g2 (uu g4 (uu g5 (uu g8 (uu g9 (uu g44 (uu g59 u1))))));(repeat'(first|refine a_seq fun K hK=>?_|refine uR zz ?_|refine uK ?_|refine uC1 zz ?_|(refine uN hK ?_;clear hK)|apply zI));all_goals first|rfl|(simp only[Ty.w,simprocAttr,g2,g4,g5,g8,g9,g44];done)
         |false=>
          cases u2:(w.data.toList==(#[105,109,112,108,121]:Array UInt8).toList)with
          |true=>
           have hq:isLst w=true:=(by unfold isLst;simp[show bEq w opNot=false from u1,show bEq w opImp=true from u2]);rw[hq];replace zz:=uu g2 (uu g4 (uu g5 (uu g8 (uu g9 (uu g44 (uu g59 (uu u1 u2)))))));(repeat'(first|refine a_seq fun K hK=>?_|refine uR zz ?_|refine uK ?_|refine uC1 zz ?_|(refine uN hK ?_;clear hK)|apply zI));all_goals first|rfl|(simp only[Ty.w,simprocAttr,g2,g4,g5,g8,g9,g44];done)
          |false=>
           cases u3:(w.data.toList==(#[97,110,100]:Array UInt8).toList)with
           |true=>
            have hq:isLst w=true:=(by unfold isLst;simp[show bEq w opNot=false from u1,show bEq w opImp=false from u2,show bEq w opAnd=true from u3]);rw[hq];replace zz:=uu g2 (uu g4 (uu g5 (uu g8 (uu g9 (uu g44 (uu g59 (uu u1 (uu u2 u3))))))));(repeat'(first|refine a_seq fun K hK=>?_|refine uR zz ?_|refine uK ?_|refine uC1 zz ?_|(refine uN hK ?_;clear hK)|apply zI));all_goals first|rfl|(simp only[Ty.w,simprocAttr,g2,g4,g5,g8,g9,g44];done)
           |false=>
            cases u4:(w.data.toList==(#[111,114]:Array UInt8).toList)with
            |true=>
             have hq:isLst w=true:=(by unfold isLst;simp[show bEq w opNot=false from u1,show bEq w opImp=false from u2,show bEq w opAnd=false from u3,show bEq w opOr=true from u4]);rw[hq];replace zz:=uu g2 (uu g4 (uu g5 (uu g8 (uu g9 (uu g44 (uu g59 (uu u1 (uu u2 (uu u3 u4)))))))));(repeat'(first|refine a_seq fun K hK=>?_|refine uR zz ?_|refine uC1 zz ?_|(refine uN hK ?_;clear hK)|apply zI));all_goals first|rfl|(simp only[Ty.w,simprocAttr,g2,g4,g5,g8,g9,g44];done)
            |false=>
             have hq:isLst w=false:=(by unfold isLst;simp[show bEq w opNot=false from u1,show bEq w opImp=false from u2,show bEq w opAnd=false from u3,show bEq w opOr=false from u4]);rw[hq];replace zz:=uu g2 (uu g4 (uu g5 (uu g8 (uu g9 (uu g44 (uu g59 (uu u1 (uu u2 (uu u3 u4)))))))));(repeat'(first|refine a_seq fun K hK=>?_|refine uR zz ?_|refine uC1 zz ?_|(refine uN hK ?_;clear hK)|apply zI));all_goals first|rfl|(simp only[Ty.w,simprocAttr,g2,g4,g5,g8,g9,g44];done)
        ·(try clear zz);clear g2 g4 g5 g8 g9 g44 g59;rintro S h' ⟨rfl,g2,g4,g5,g8,g9,g44,g87⟩;cases hL:isLst w with
         |true=>
          rw[hL]at g87 hX;simp only[cond_true]at hX;have hck:=fun h=>kids_c (l:=rest) hrl ihr h;generalize fmPs rest=KK at hck hX;obtain⟨ks,c2⟩:=KK;simp only at hck hX;cases hc2:c2==0 with
          |false=>
           rw[hc2]at hX;simp only[cond_false]at hX;have e0:errP c2=errV c2:=(by simp only[errP,hc2,cond_false]);rw[e0]at hck;simp only[errV]at hck e0;replace zz:=uu g2 (uu g4 (uu g5 (uu g8 (uu g9 (uu g44 (uu g87 (uu o1 o2)))))));(repeat'(first|refine uQ zz fun K hK=>?_|refine uC1 zz ?_|apply zI));refine owp_useQ (hck _) (by(try simp only[Ty.w,simprocAttr,g2,g4,g5,g8,g9,g44,g87,o1,o2,n1,n2,set_set]);try rfl) ?_;simp(maxSteps:=2000000) only[Ty.w,simprocAttr,g2,g4,g5,g8,g9,g44,g87,o1,o2,n1,n2,set_set];replace zz:=uu g2 (uu g4 (uu g5 (uu g8 (uu g9 (uu g44 (uu g87 (uu o1 (uu o2 (uu n1 n2)))))))));(repeat'(first|(refine uN hK ?_;clear hK)|apply zI));refine PJ.mk2 hpi c2 w ⟨#[]⟩ _ _ _ _ ?_ ?_ ?_ ?_ ?_ ?_
           ·simp only[Ty.w,simprocAttr,g2]
           ·simp only[Ty.w,simprocAttr,g8]
           ·simp only[Ty.w,simprocAttr];first|exact e0.symm|rfl
           ·exact ⟨rfl,rfl,rfl,rfl⟩
           ·exact fun _=>hX
           ·intro hh;rw[hc2]at hh;exact absurd hh (by simp)
          |true=>
           rw[hc2]at hX;simp only[cond_true]at hX;have e0:errP c2= .sc .nilIface:=(by simp only[errP,hc2,cond_true]);rw[e0]at hck;replace zz:=uu g2 (uu g4 (uu g5 (uu g8 (uu g9 (uu g44 (uu g87 (uu o1 o2)))))));(repeat'(first|refine uQ zz fun K hK=>?_|refine uC1 zz ?_|apply zI));refine owp_useQ (hck _) (by(try simp only[Ty.w,simprocAttr,g2,g4,g5,g8,g9,g44,g87,o1,o2,n1,n2,set_set]);try rfl) ?_;simp(maxSteps:=2000000) only[Ty.w,simprocAttr,g2,g4,g5,g8,g9,g44,g87,o1,o2,n1,n2,set_set];replace zz:=uu g2 (uu g4 (uu g5 (uu g8 (uu g9 (uu g44 (uu g87 (uu o1 (uu o2 (uu n1 n2)))))))));(repeat'(first|(refine uN hK ?_;clear hK)|apply zI));refine PJ.mk2 hpi c2 w ⟨#[]⟩ _ _ _ _ ?_ ?_ ?_ ?_ ?_ ?_
           ·simp only[Ty.w,simprocAttr,g2]
           ·simp only[Ty.w,simprocAttr,g8]
           ·simp only[Ty.w,simprocAttr];first|exact e0.symm|rfl
           ·exact ⟨rfl,rfl,rfl,rfl⟩
           ·intro hh;rw[hc2]at hh;exact absurd hh (by simp)
           ·subst hX;refine fun _=>⟨rfl,fun hh=>?_⟩;simp only[Fm.cells,FrzL];refine⟨?_,?_,?_,?_,?_,?_,trivial⟩<;>(unfold FrzTo;first|rfl|exact .inr (.inl ⟨rfl,.inr rfl⟩)|exact .inl ⟨rfl,strs_in _ _⟩|exact .inl ⟨rfl,pms_in _ _⟩|exact .inl ⟨rfl,fms_in _ _⟩)
         |false=>
          rw[hL]at g87 hX;simp only[cond_false]at hX;replace zz:=uu g2 (uu g4 (uu g5 (uu g8 (uu g9 (uu g44 g87)))));(repeat'(first|refine a_hold 28 ?_|refine uC1 zz ?_|apply zI));refine⟨?_⟩;refine a_cut (fun S h2=>h2=h'∧S 2= .ptr h.next 0 0∧S 4=sPV w∧S 5= .imm 6 (Sx.rows rest)∧S 8= .ptr (h.next+1) 0 0∧S 9= .sc .nilIface∧S 44=sPV w∧S 98= .sc (.bool (isCmp5 w))) ?_ ?_
          ·cases u1:(w.data.toList==(#[61]:Array UInt8).toList)with
           |true=>
            have hq:isCmp5 w=true:=(by unfold isCmp5 isCmp;simp[show bEq w opEq=true from u1]);rw[hq];replace zz:=uu g2 (uu g4 (uu g5 (uu g8 (uu g9 (uu g44 (uu g87 u1))))));(repeat'(first|refine a_seq fun K hK=>?_|refine uR zz ?_|refine uK ?_|refine uC1 zz ?_|(refine uN hK ?_;clear hK)|apply zI));all_goals first|rfl|(simp only[Ty.w,simprocAttr,g2,g4,g5,g8,g9,g44];done)
           |false=>
            cases u2:(w.data.toList==(#[60]:Array UInt8).toList)with
            |true=>
             have hq:isCmp5 w=true:=(by unfold isCmp5 isCmp;simp[show bEq w opEq=false from u1,show bEq w opLt=true from u2]);rw[hq];replace zz:=uu g2 (uu g4 (uu g5 (uu g8 (uu g9 (uu g44 (uu g87 (uu u1 u2)))))));(repeat'(first|refine a_seq fun K hK=>?_|refine uR zz ?_|refine uK ?_|refine uC1 zz ?_|(refine uN hK ?_;clear hK)|apply zI));all_goals first|rfl|(simp only[Ty.w,simprocAttr,g2,g4,g5,g8,g9,g44];done)
            |false=>
             cases u3:(w.data.toList==(#[60,61]:Array UInt8).toList)with
             |true=>
              have hq:isCmp5 w=true:=(by unfold isCmp5 isCmp;simp[show bEq w opEq=false from u1,show bEq w opLt=false from u2,show bEq w opLe=true from u3]);rw[hq];replace zz:=uu g2 (uu g4 (uu g5 (uu g8 (uu g9 (uu g44 (uu g87 (uu u1 (uu u2 u3))))))));(repeat'(first|refine a_seq fun K hK=>?_|refine uR zz ?_|refine uK ?_|refine uC1 zz ?_|(refine uN hK ?_;clear hK)|apply zI));all_goals first|rfl|(simp only[Ty.w,simprocAttr,g2,g4,g5,g8,g9,g44];done)
             |false=>
              cases u4:(w.data.toList==(#[62]:Array UInt8).toList)with
              |true=>
               have hq:isCmp5 w=true:=(by unfold isCmp5 isCmp;simp[show bEq w opEq=false from u1,show bEq w opLt=false from u2,show bEq w opLe=false from u3,show bEq w opGt=true from u4]);rw[hq];replace zz:=uu g2 (uu g4 (uu g5 (uu g8 (uu g9 (uu g44 (uu g87 (uu u1 (uu u2 (uu u3 u4)))))))));(repeat'(first|refine a_seq fun K hK=>?_|refine uR zz ?_|refine uK ?_|refine uC1 zz ?_|(refine uN hK ?_;clear hK)|apply zI));all_goals first|rfl|(simp only[Ty.w,simprocAttr,g2,g4,g5,g8,g9,g44];done)
              |false=>
               cases u5:(w.data.toList==(#[62,61]:Array UInt8).toList)with
               |true=>
                have hq:isCmp5 w=true:=(by unfold isCmp5 isCmp;simp[show bEq w opEq=false from u1,show bEq w opLt=false from u2,show bEq w opLe=false from u3,show bEq w opGt=false from u4,show bEq w opGe=true from u5]);rw[hq];replace zz:=uu g2 (uu g4 (uu g5 (uu g8 (uu g9 (uu g44 (uu g87 (uu u1 (uu u2 (uu u3 (uu u4 u5))))))))));(repeat'(first|refine a_seq fun K hK=>?_|refine uR zz ?_|refine uC1 zz ?_|(refine uN hK ?_;clear hK)|apply zI));all_goals first|rfl|(simp only[Ty.w,simprocAttr,g2,g4,g5,g8,g9,g44];done)
               |false=>
                have hq:isCmp5 w=false:=(by unfold isCmp5 isCmp;simp[show bEq w opEq=false from u1,show bEq w opLt=false from u2,show bEq w opLe=false from u3,show bEq w opGt=false from u4,show bEq w opGe=false from u5]);rw[hq];replace zz:=uu g2 (uu g4 (uu g5 (uu g8 (uu g9 (uu g44 (uu g87 (uu u1 (uu u2 (uu u3 (uu u4 u5))))))))));(repeat'(first|refine a_seq fun K hK=>?_|refine uR zz ?_|refine uC1 zz ?_|(refine uN hK ?_;clear hK)|apply zI));all_goals first|rfl|(simp only[Ty.w,simprocAttr,g2,g4,g5,g8,g9,g44];done)
          ·(try clear zz);clear g2 g4 g5 g8 g9 g44 g87;rintro S h' ⟨rfl,g2,g4,g5,g8,g9,g44,g98⟩;cases hC:isCmp5 w with
           |true=>
            rw[hC]at g98 hX;simp only[cond_true]at hX;obtain⟨x,y,rfl⟩: ∃ x y,rest=[x,y]:=by
             have h2:=count_two (.inr hC) hcnt
             match rest,h2 with
             |[p,b],_=>exact⟨p,b,rfl⟩
            simp only at hX;have hcc:=fun h=>compare_c (w:=w) (hro x (by simp)) (hro y (by simp)) (expr_c x (hro x (by simp)) (hsr x (by simp))) (expr_c y (hro y (by simp)) (hsr y (by simp))) h;have hfz:=fun hh=>fm_frz h.next hh (compareP w x y).1
            generalize compareP w x y=CC at hcc hX hfz;obtain⟨f,c⟩:=CC;simp only at hcc hfz;have r0:=Sx.rows_get (l:=[x,y]) (i:=0) rfl;have r1:=Sx.rows_get (l:=[x,y]) (i:=1) rfl;generalize Sx.rows [x,y]=R at g5 r0 r1 hlr;obtain⟨xk,xv,xl,xc,xt,xks⟩:=x;obtain⟨yk,yv,yl,yc,yt,yks⟩:=y;obtain⟨fop,fna,far,fpa,fex,fki⟩:=f;simp only[Sx.cells]at r0 r1 hcc;simp only[Fm.cells]at hcc hfz;cases hc2:c==0 with
            |false=>
             simp only[fin,hc2,cond_false]at hX;have e0:errP c=errV c:=(by simp only[errP,hc2,cond_false]);rw[e0]at hcc;simp only[errV]at hcc e0;replace zz:=uu g2 (uu g4 (uu g5 (uu g8 (uu g9 (uu g44 (uu g98 (uu r0 (uu r1 (uu o1 o2)))))))));repeat'(first|refine uE zz fun K hK=>?_|refine uC1 zz ?_|apply zI)
             (first|refine a_dcall0 (hcc _) (by(try simp only[Ty.w,simprocAttr,g2,g4,g5,g8,g9,g44,g98,r0,r1,o1,o2,n1,n2,set_set]);try rfl) ?_|refine a_dcallA (hcc _) (by(try simp only[Ty.w,simprocAttr,g2,g4,g5,g8,g9,g44,g98,r0,r1,o1,o2,n1,n2,set_set]);try rfl) (by simp only[Ty.w,simprocAttr,g2,g4,g5,g8,g9,g44,g98,r0,r1,o1,o2,n1,n2,set_set];try trivial) ?_);simp(maxSteps:=2000000) only[Ty.w,simprocAttr,Option.getD_some,g2,g4,g5,g8,g9,g44,g98,r0,r1,o1,o2,n1,n2,set_set]
             replace zz:=uu g2 (uu g4 (uu g5 (uu g8 (uu g9 (uu g44 (uu g98 (uu o1 (uu o2 (uu n1 n2)))))))));(repeat'(first|(refine uN hK ?_;clear hK)|refine uB zz ?_|apply zI));refine PJ.mk2 hpi c fop fna _ _ _ _ ?_ ?_ ?_ ?_ ?_ ?_
             ·simp only[Ty.w,simprocAttr,g2]
             ·simp only[Ty.w,simprocAttr,g8]
             ·simp only[Ty.w,simprocAttr];first|exact e0.symm|rfl
             ·exact ⟨rfl,rfl,rfl,rfl⟩
             ·exact fun _=>hX
             ·intro hh;rw[hc2]at hh;exact absurd hh (by simp)
            |true=>
             simp only[fin,hc2,cond_true]at hX;have e0:errP c= .sc .nilIface:=(by simp only[errP,hc2,cond_true]);rw[e0]at hcc;replace zz:=uu g2 (uu g4 (uu g5 (uu g8 (uu g9 (uu g44 (uu g98 (uu r0 (uu r1 (uu o1 o2)))))))));repeat'(first|refine uE zz fun K hK=>?_|refine uC1 zz ?_|apply zI)
             (first|refine a_dcall0 (hcc _) (by(try simp only[Ty.w,simprocAttr,g2,g4,g5,g8,g9,g44,g98,r0,r1,o1,o2,n1,n2,set_set]);try rfl) ?_|refine a_dcallA (hcc _) (by(try simp only[Ty.w,simprocAttr,g2,g4,g5,g8,g9,g44,g98,r0,r1,o1,o2,n1,n2,set_set]);try rfl) (by simp only[Ty.w,simprocAttr,g2,g4,g5,g8,g9,g44,g98,r0,r1,o1,o2,n1,n2,set_set];try trivial) ?_);simp(maxSteps:=2000000) only[Ty.w,simprocAttr,Option.getD_some,g2,g4,g5,g8,g9,g44,g98,r0,r1,o1,o2,n1,n2,set_set]
             replace zz:=uu g2 (uu g4 (uu g5 (uu g8 (uu g9 (uu g44 (uu g98 (uu o1 (uu o2 (uu n1 n2)))))))));(repeat'(first|(refine uN hK ?_;clear hK)|refine uB zz ?_|apply zI));refine PJ.mk2 hpi c fop fna _ _ _ _ ?_ ?_ ?_ ?_ ?_ ?_
             ·simp only[Ty.w,simprocAttr,g2]
             ·simp only[Ty.w,simprocAttr,g8]
             ·simp only[Ty.w,simprocAttr];first|exact e0.symm|rfl
             ·exact ⟨rfl,rfl,rfl,rfl⟩
             ·intro hh;rw[hc2]at hh;exact absurd hh (by simp)
             ·subst hX;exact fun _=>⟨by simpa using hc2,fun hh=>by simpa only[Fm.cells]using hfz hh⟩
           |false=>
            rw[hC]at g98 hX;simp only[cond_false]at hX;have hw':w.size≤9223372036854775807:=(by unfold bigN at hw;omega);have hn:=fun h:Heap=>fname_c (h:=h) hw';cases hN1:nameB w with
            |false=>
             rw[hN1]at hn hX;simp only[cond_false]at hX;replace zz:=uu g2 (uu g4 (uu g5 (uu g8 (uu g9 (uu g44 (uu g98 (uu o1 o2)))))));(repeat'(first|refine a_seq fun K hK=>?_|refine uR zz ?_|refine uC1 zz ?_|apply zI));replace zz:=uu g2 (uu g4 (uu g5 (uu g8 (uu g9 (uu g44 g98)))));refine uU zz (hn _) ?_;replace zz:=uu g2 (uu g4 (uu g5 (uu g8 (uu g9 (uu g44 (uu g98 (uu o1 (uu o2 @Bool.not_false))))))));(repeat'(first|refine a_seq fun K hK=>?_|refine uR zz ?_|refine uT zz ?_|(refine uN hK ?_;clear hK)|apply zI));exact errRet (.inr rfl) (hpi.grow.set (Nat.le_refl _) _) hX
            |true=>
             rw[hN1]at hn hX;simp only[cond_true]at hX;have ht:=fun h:Heap=>terms_c hrl hro h;generalize termsM rest=T at ht hX;obtain⟨t,c⟩:=T;simp only at ht hX;cases hc2:c==0 with
             |false=>
              rw[hc2]at hX;simp only[cond_false]at hX;have e0:errP c=errV c:=(by simp only[errP,hc2,cond_false]);rw[e0]at ht;simp only[errV]at ht e0;replace zz:=uu g2 (uu g4 (uu g5 (uu g8 (uu g9 (uu g44 (uu g98 (uu o1 o2)))))));(repeat'(first|refine a_seq fun K hK=>?_|refine uR zz ?_|refine uC1 zz ?_|apply zI));replace zz:=uu g2 (uu g4 (uu g5 (uu g8 (uu g9 (uu g44 g98)))));refine uU zz (hn _) ?_;replace zz:=uu g2 (uu g4 (uu g5 (uu g8 (uu g9 (uu g44 (uu o1 (uu o2 (uu n1 (uu n2 @Bool.not_true)))))))));(repeat'(first|refine a_seq fun K hK=>?_|refine uR zz ?_|refine uQ zz fun K hK=>?_|refine uK ?_|refine uC1 zz ?_|(refine uN hK ?_;clear hK)|apply zI));refine owp_useQ (ht _) (by(try simp only[Ty.w,simprocAttr,g2,g4,g5,g8,g9,g44,o1,o2,n1,n2,set_set]);try rfl) ?_;simp(maxSteps:=2000000) only[Ty.w,simprocAttr,g2,g4,g5,g8,g9,g44,o1,o2,n1,n2,set_set];(repeat'(refine hK _ _ ?_;clear hK;(try simp only[pst0,simprocAttr])));(try simp only[set_set]);refine PJ.mk2 hpi c ⟨#[97,116,111,109]⟩ w _ _ _ _ ?_ ?_ ?_ ?_ ?_ ?_
              ·simp only[Ty.w,simprocAttr,g2]
              ·simp only[Ty.w,simprocAttr,g8]
              ·simp only[Ty.w,simprocAttr];first|exact e0.symm|rfl
              ·exact ⟨rfl,rfl,rfl,rfl⟩
              ·exact fun _=>hX
              ·intro hh;rw[hc2]at hh;exact absurd hh (by simp)
             |true=>
              rw[hc2]at hX;simp only[cond_true]at hX;have e0:errP c= .sc .nilIface:=(by simp only[errP,hc2,cond_true]);rw[e0]at ht;replace zz:=uu g2 (uu g4 (uu g5 (uu g8 (uu g9 (uu g44 (uu g98 (uu o1 o2)))))));(repeat'(first|refine a_seq fun K hK=>?_|refine uR zz ?_|refine uC1 zz ?_|apply zI));replace zz:=uu g2 (uu g4 (uu g5 (uu g8 (uu g9 (uu g44 g98)))));refine uU zz (hn _) ?_;replace zz:=uu g2 (uu g4 (uu g5 (uu g8 (uu g9 (uu g44 (uu o1 (uu o2 (uu n1 (uu n2 @Bool.not_true)))))))));(repeat'(first|refine a_seq fun K hK=>?_|refine uR zz ?_|refine uQ zz fun K hK=>?_|refine uK ?_|refine uC1 zz ?_|(refine uN hK ?_;clear hK)|apply zI));refine owp_useQ (ht _) (by(try simp only[Ty.w,simprocAttr,g2,g4,g5,g8,g9,g44,o1,o2,n1,n2,set_set]);try rfl) ?_;simp(maxSteps:=2000000) only[Ty.w,simprocAttr,g2,g4,g5,g8,g9,g44,o1,o2,n1,n2,set_set];(repeat'(refine hK _ _ ?_;clear hK;(try simp only[pst0,simprocAttr])));(try simp only[set_set]);refine PJ.mk2 hpi c ⟨#[97,116,111,109]⟩ w _ _ _ _ ?_ ?_ ?_ ?_ ?_ ?_
              ·simp only[Ty.w,simprocAttr,g2]
              ·simp only[Ty.w,simprocAttr,g8]
              ·simp only[Ty.w,simprocAttr];first|exact e0.symm|rfl
              ·exact ⟨rfl,rfl,rfl,rfl⟩
              ·intro hh;rw[hc2]at hh;exact absurd hh (by simp)
              ·subst hX;refine fun _=>⟨rfl,fun hh=>?_⟩;simp only[Fm.cells,FrzL];refine⟨?_,?_,?_,?_,?_,?_,trivial⟩<;>(unfold FrzTo;first|rfl|exact .inr (.inl ⟨rfl,.inr rfl⟩)|exact .inl ⟨rfl,strs_in _ _⟩|exact .inl ⟨rfl,pms_in _ _⟩|exact .inl ⟨rfl,fms_in _ _⟩)
     ·(try clear zz);clear g2 g4 g5 g8 g9 hpi;rintro S h' ⟨g2,g8,hg,c,a,b,p2,p3,p4,p5,g9,o1,o2,⟨z2,z3,z4,z5⟩,hc,hd⟩;simp only[fmZ]at o1;cases hcc:c==0 with
      |false=>
       have hF:=hc hcc;have e0:errP c=errV c:=(by simp only[errP,hcc,cond_false]);rw[e0]at g9;simp only[errV]at g9;subst hF;rw[e0];simp only[errV];replace zz:=uu g2 (uu g8 (uu g9 (uu o1 o2)));(repeat'(first|refine a_seq fun K hK=>?_|refine uR zz ?_|refine uT zz ?_|(refine uN hK ?_;clear hK)|apply zI));refine⟨?_,hg.set (Nat.le_refl _) _⟩;simp only[zeroFm,Fm.cells,Ex.rows,Fm.rows,pmRows,strRows,List.map_nil,FrzTo,FrzL];exact⟨_,rfl,⟨_,rfl,rfl,rfl,.inr (.inl ⟨rfl,.inr rfl⟩),.inr (.inl ⟨rfl,.inr rfl⟩),.inr (.inl ⟨rfl,.inr rfl⟩),.inr (.inl ⟨rfl,.inr rfl⟩),trivial⟩,rfl,trivial⟩
      |true=>
       have hF:=hd hcc;have e0:errP c= .sc .nilIface:=(by simp only[errP,hcc,cond_true]);rw[e0]at g9;have e2:errP F.2= .sc .nilIface:=(by rw[hF.1];try rfl);rw[e2];replace zz:=uu g2 (uu g8 (uu g9 (uu o1 (uu o2 (uu z2 (uu z3 (uu z4 z5)))))));(repeat'(first|refine a_seq fun K hK=>?_|refine uR zz ?_|refine uT zz ?_|refine uK ?_|refine uC1 zz ?_|(refine uN hK ?_;clear hK)|apply zI));refine⟨?_,hg.set (Nat.le_refl _) _⟩;have h1:=hF.2 (h'.set h.next (.arr 6 [[sPV a,sPV b,p2,p3,p4,p5]]));unfold FrzTo;refine⟨_,rfl,?_⟩;unfold FrzL;refine⟨?_,by unfold FrzL;exact⟨by simp only[FrzTo],by simp only[FrzL]⟩⟩;unfold FrzTo;exact⟨_,rfl,h1⟩
set_option maxHeartbeats 4000000
theorem parse_c: ∀ x:Sx,x.ok→x.small→ ∀ h:Heap,PCall Tryz.prog 142 [.agg x.cells] h fun r h'=>r= .tup [.agg (fmP x).1.cells,errP (fmP x).2]∧h'=h:=by
 refine Sx.ind ?_;intro kind value line col text kids ih hok hsm h;have hok':=hok;simp only[Sx.ok]at hok';obtain⟨_,_,_,_,hks⟩:=hok';rw[Sx.oks_iff]at hks;have hsm':=hsm;simp only[Sx.small]at hsm';have hss:=hsm'.2;rw[Sx.smalls_iff]at hss;exact parse_step hok hsm (fun x hx=>ih x hx (hks x hx) (hss x hx)) h
theorem Parse_c{x:Sx}(hok:x.ok)(h:Heap):PCall Tryz.prog 114 [.agg x.cells] h fun r h'=>r= .tup [.agg (parseF x).1.cells,errP (parseF x).2]∧h'=h:=by
 refine PCall.frz Ty.hb_114 ?_;have hv:=fun h:Heap=>svalid_c hok h;have hX:parseF x=(if(svalid x 0 0).1=true then(if(fmP x).2=0 then(if validF (fmP x).1=true then((fmP x).1,0)else(zeroFm,5))else(zeroFm,(fmP x).2))else(zeroFm,2)):=rfl;generalize parseF x=F at hX;have bad: ∀ (c:Int)(h':Heap),(c==0)=false→Grow h h'→F=(zeroFm,c)→FrzTo h.next h' (.tup [.agg F.1.cells,errP F.2]) (.tup [.agg [.sc (.string ⟨#[]⟩),.sc (.string ⟨#[]⟩),.sc (.slice none 0 0),.sc (.slice none 0 0),.sc (.slice none 0 0),.sc (.slice none 0 0)],errV c])∧Grow h h':=by
  intro c h' hc hg hF;subst hF;have:errP c=errV c:=by simp only[errP,hc,cond_false]
  simp only[this];refine⟨?_,hg⟩;simp only[errV,zeroFm,Fm.cells,Ex.rows,Fm.rows,pmRows,strRows,List.map_nil,FrzTo,FrzL];exact⟨_,rfl,⟨_,rfl,rfl,rfl,.inr (.inl ⟨rfl,.inr rfl⟩),.inr (.inl ⟨rfl,.inr rfl⟩),.inr (.inl ⟨rfl,.inr rfl⟩),.inr (.inl ⟨rfl,.inr rfl⟩),trivial⟩,rfl,trivial⟩
 simp only[errV]at bad;have hg1: ∀ r,Grow h ((h.new (.arr 6 [[.sc (.string ⟨#[]⟩),.sc (.string ⟨#[]⟩),.sc (.slice none 0 0),.sc (.slice none 0 0),.sc (.slice none 0 0),.sc (.slice none 0 0)]])).set h.next r):=fun r=>((Grow.refl h).new _).set (Nat.le_refl _) _;have hg2: ∀ o1 o2 r,Grow h ((((h.new (.arr 6 [[.sc (.string ⟨#[]⟩),.sc (.string ⟨#[]⟩),.sc (.slice none 0 0),.sc (.slice none 0 0),.sc (.slice none 0 0),.sc (.slice none 0 0)]])).new o1).set (h.next+1) o2).set h.next r):=fun o1 o2 r=>((((Grow.refl h).new _).new _).set (Nat.le_succ _) _).set (Nat.le_refl _) _;have n1:(h.next=h.next+1)=False:=by simp
 cases v1:(svalid x 0 0).1 with
 |false=>
  rw[v1]at hv;rw[if_neg (by rw[v1];simp)]at hX;obtain⟨kind,value,line,col,text,kids⟩:=x;simp only[Sx.cells]at hv⊢;refine uG0 Tryz.func114 Tryz.ntmps114 Tryz.results114 Ty.hb_114 ?_;repeat'(first|refine a_seq fun K hK=>?_|refine uR trivial ?_|(refine uN hK ?_;clear hK)|apply zI)
  refine uU trivial (hv _) ?_;repeat'(first|refine a_seq fun K hK=>?_|refine uR @Bool.not_false ?_|refine uT @Bool.not_false ?_|(refine uN hK ?_;clear hK)|apply zI)
  exact bad 2 _ rfl (hg1 _) hX
 |true=>
  have hsm:=svalid_small v1;have hp:=parse_c x hok hsm;have hfo:=fmP_ok x hok hsm;rw[v1]at hv;rw[if_pos v1]at hX;have hfz:=fun n hh=>fm_frz n hh (fmP x).1;generalize fmP x=E at hp hfo hX hfz;obtain⟨f,c⟩:=E;simp only at hp hfo hX hfz;obtain⟨kind,value,line,col,text,kids⟩:=x;simp only[Sx.cells]at hv hp⊢;cases hc:c==0 with
  |false=>
   rw[if_neg (by simpa using hc)]at hX;have e0:errP c=errV c:=(by simp only[errP,hc,cond_false]);rw[e0]at hp;simp only[errV]at hp;obtain⟨fop,fna,far,fpa,fex,fki⟩:=f;simp only[Fm.cells]at hp;refine uG0 Tryz.func114 Tryz.ntmps114 Tryz.results114 Ty.hb_114 ?_;(repeat'(first|refine a_seq fun K hK=>?_|refine uR trivial ?_|(refine uN hK ?_;clear hK)|apply zI));refine uU trivial (hv _) ?_;(repeat'(first|refine a_seq fun K hK=>?_|refine uR @Bool.not_true ?_|refine uK ?_|refine uC1 @Bool.not_true ?_|(refine uN hK ?_;clear hK)|apply zI));refine uU trivial (hp _) ?_;replace zz:=uu n1 @nsucc;(repeat'(first|refine a_seq fun K hK=>?_|refine uR zz ?_|refine uT zz ?_|(refine uN hK ?_;clear hK)|apply zI));exact bad c _ hc (hg2 _ _ _) hX
  |true=>
   rw[if_pos (by simpa using hc)]at hX;have e0:errP c= .sc .nilIface:=(by simp only[errP,hc,cond_true]);rw[e0]at hp;have hV:=fun h:Heap=>fvalid_c hfo.1 hfo.2 h;cases v2:validF f with
   |false=>
    rw[v2]at hV;rw[if_neg (by rw[v2];simp)]at hX;obtain⟨fop,fna,far,fpa,fex,fki⟩:=f;simp only[Fm.cells]at hp hV;refine uG0 Tryz.func114 Tryz.ntmps114 Tryz.results114 Ty.hb_114 ?_;(repeat'(first|refine a_seq fun K hK=>?_|refine uR trivial ?_|(refine uN hK ?_;clear hK)|apply zI));refine uU trivial (hv _) ?_;(repeat'(first|refine a_seq fun K hK=>?_|refine uR @Bool.not_true ?_|refine uK ?_|refine uC1 @Bool.not_true ?_|(refine uN hK ?_;clear hK)|apply zI));refine uU trivial (hp _) ?_;replace zz:=uu n1 @nsucc;(repeat'(first|refine a_seq fun K hK=>?_|refine uR zz ?_|refine uK ?_|refine uC1 zz ?_|(refine uN hK ?_;clear hK)|apply zI));refine uU (uu n1 @nsucc) (hV _) ?_;replace zz:=uu n1 (uu @nsucc @Bool.not_false);(repeat'(first|refine a_seq fun K hK=>?_|refine uR zz ?_|refine uT zz ?_|(refine uN hK ?_;clear hK)|apply zI));exact bad 5 _ rfl (hg2 _ _ _) hX
   |true=>
    rw[v2]at hV;rw[if_pos v2]at hX;subst hX;obtain⟨fop,fna,far,fpa,fex,fki⟩:=f;simp only[Fm.cells]at hp hV hfz;have e2:errP 0= .sc .nilIface:=rfl;simp only[e2,Fm.cells];refine uG0 Tryz.func114 Tryz.ntmps114 Tryz.results114 Ty.hb_114 ?_;(repeat'(first|refine a_seq fun K hK=>?_|refine uR trivial ?_|(refine uN hK ?_;clear hK)|apply zI));refine uU trivial (hv _) ?_;(repeat'(first|refine a_seq fun K hK=>?_|refine uR @Bool.not_true ?_|refine uK ?_|refine uC1 @Bool.not_true ?_|(refine uN hK ?_;clear hK)|apply zI));refine uU trivial (hp _) ?_;replace zz:=uu n1 @nsucc;(repeat'(first|refine a_seq fun K hK=>?_|refine uR zz ?_|refine uK ?_|refine uC1 zz ?_|(refine uN hK ?_;clear hK)|apply zI));refine uU (uu n1 @nsucc) (hV _) ?_;replace zz:=uu n1 (uu @nsucc @Bool.not_true);(repeat'(first|refine a_seq fun K hK=>?_|refine uR zz ?_|refine uT zz ?_|refine uK ?_|refine uC1 zz ?_|(refine uN hK ?_;clear hK)|apply zI));refine⟨?_,hg2 _ _ _⟩;have h1:=fun hh=>hfz h.next hh
    unfold FrzTo;refine⟨_,rfl,?_⟩;unfold FrzL;refine⟨?_,by unfold FrzL;exact⟨by simp only[FrzTo],by simp only[FrzL]⟩⟩;unfold FrzTo;exact⟨_,rfl,h1 _⟩
set_option maxHeartbeats 8000000
theorem headM_small{x:Sx}(hsm:x.small){w:ByteArray}{l:List Sx}(h:headM x=some (w,l)):l.length≤1048576∧ ∀ y∈l,y.small:=by
 obtain⟨kind,value,line,col,text,kids⟩:=x;simp only[Sx.small]at hsm;obtain⟨hk,hks⟩:=hsm;simp only[headM]at h;split at h
 ·cases kids with
  |nil=>simp at h
  |cons y rest=>
   simp only at h;rw[Sx.smalls_iff]at hks;cases hh:kindOf y==1 with
   |false=>rw[hh]at h;simp at h
   |true=>
    rw[hh]at h;simp only[cond_true,Option.some.injEq,Prod.mk.injEq]at h;obtain⟨rfl,rfl⟩:=h;exact⟨by simp at hk;omega,fun z hz=>hks z (by simp[hz])⟩
 ·simp at h
def NilOr(z:Nat)(rows:List (List PV))(q:PV):Prop:=q= .imm z rows∨(rows=[]∧q= .sc (.slice none 0 0))
theorem NilOr.cell{z:Nat}{rows:List (List PV)}{q:PV}(h:NilOr z rows q):q.cells=[q]∧oneC q=true:=by
 rcases h with rfl|⟨_,rfl⟩<;>exact⟨rfl,rfl⟩
theorem NilOr.frz{z n:Nat}{rows:List (List PV)}{q:PV}(h:NilOr z rows q)(H:Heap)(hin:inNR n rows):FrzTo n H (.imm z rows) q:=by
 rcases h with rfl|⟨rfl,rfl⟩
 ·exact frz_imm hin
 ·simp only[FrzTo];exact .inr (.inl ⟨trivial,.inr trivial⟩)
structure PbI(h0:Heap)(id:Nat)(p:Pb)(h:Heap):Prop where
 grow:Grow h0 h
 idl:h0.next≤id∧id<h.next
 ex: ∃ o i v g2 g3 g4 g5 gop gna gar gpa gex gki,p.goal= .mk gop gna gar gpa gex gki∧h.obj id=some (.arr 11 [[sPV p.name,sPV p.domain,o,i,v,sPV gop,sPV gna,g2,g3,g4,g5]])∧
  NilOr 2 (pmRows p.objects) o∧Tl h (id+1) 2 i (atRows p.init)∧Tl h (id+1) 3 v (vlRows p.values)∧
  NilOr 1 (strRows gar) g2∧NilOr 2 (pmRows gpa) g3∧NilOr 5 (Ex.rows gex) g4∧NilOr 6 (Fm.rows gki) g5
theorem PbI.tmp{h0 h:Heap}{id:Nat}{p:Pb}(i:PbI h0 id p h)(o o':AObj):PbI h0 id p (tmpH h o o'):=by
 obtain⟨g,l,o1,i1,v1,g2,g3,g4,g5,gop,gna,gar,gpa,gex,gki,e1,e2,e3,e4,e5,e6⟩:=i;exact⟨g.tmp o o',⟨l.1,by rw[tmpH_next];omega⟩,o1,i1,v1,g2,g3,g4,g5,gop,gna,gar,gpa,gex,gki,e1,by rw[tmpH_obj l.2];exact e2,e3,e4.tmp o o',e5.tmp o o',e6⟩
theorem atRows_app(l:List At)(a:At):atRows l++[atRow a]=atRows (l++[a]):=by simp[atRows]
theorem vlRows_app(l:List Vl)(a:Vl):vlRows l++[vlRow a]=vlRows (l++[a]):=by simp[vlRows]
theorem Tl.other{h:Heap}{lo z z':Nat}{p q:PV}{R R':List (List PV)}{H:Heap}(tp:Tl h lo z p R)(tq:Tl h lo z' q R')(hz:z≠z')(t1:isTail h p=some (H,R))(t3:H.next=h.next):Tl H lo z' q R':=by
 rcases tq with tq|⟨id',a1,a2,rfl,a3⟩
 ·exact .inl tq
 ·refine .inr ⟨id',a1,by omega,rfl,?_⟩;rcases tp with⟨rfl,rfl|rfl⟩|⟨id,b1,b2,rfl,b3⟩
  ·simp only[isTail,Option.some.injEq,Prod.mk.injEq]at t1;rw[← t1.1];exact a3
  ·simp only[isTail,Option.some.injEq,Prod.mk.injEq]at t1;rw[← t1.1];exact a3
  ·have hne:id'≠id:=by
    intro e;subst e;rw[a3]at b3;simp only[Option.some.injEq,AObj.arr.injEq]at b3;exact hz b3.1.symm
   simp only[isTail,b3]at t1;split at t1
   ·simp only[Option.some.injEq,Prod.mk.injEq]at t1;rw[← t1.1];simp only[Heap.kill];rw[if_neg hne];exact a3
   ·cases t1
theorem element_c{h0:Heap}{id:Nat}{p:Pb}{x:Sx}(hok:x.ok)(hsm:x.small)(hb1:p.init.length≤2199023255552)(hb2:p.values.length≤2199023255552)(h:Heap)(hI:PbI h0 id p h):
  PCall Tryz.prog 113 [.ptr id 0 0,.agg x.cells] h fun r h'=>r=errP (elemP p.init p.values x).2.2∧PbI h0 id ⟨p.name,p.domain,p.objects,(elemP p.init p.values x).1,(elemP p.init p.values x).2.1,p.goal⟩ h':=by
 have hc:=phead_c hok;have ho:=fun w l=>headM_ok2 hok (w:=w) (l:=l);have hs:=fun w l=>headM_small hsm (w:=w) (l:=l);generalize hF:elemP p.init p.values x=F;unfold elemP at hF;have bad: ∀ (c:Int)(h':Heap),(c=2∨c=8)→F=(p.init,p.values,c)→PbI h0 id p h'→errV c=errP F.2.2∧PbI h0 id ⟨p.name,p.domain,p.objects,F.1,F.2.1,p.goal⟩ h':=by
  intro c h' hc hf hI;subst hf;exact⟨by rcases hc with rfl|rfl<;>rfl,hI⟩
 simp only[errV]at bad;obtain⟨kind,value,line,col,text,kids⟩:=x;simp only[Sx.cells]at hc⊢;generalize headM (.mk kind value line col text kids)=D at hF hc ho hs;cases D with
 |none=>
  simp only at hF;simp only[headV]at hc;refine uG0 Tryz.func113 Tryz.ntmps113 Tryz.results113 Ty.hb_113 ?_;repeat'(first|refine a_seq fun K hK=>?_|refine uR trivial ?_|(refine uN hK ?_;clear hK)|apply zI)
  refine uU trivial (hc _) ?_;repeat'(first|refine a_seq fun K hK=>?_|refine uR @Bool.not_false ?_|refine uT @Bool.not_false ?_|(refine uN hK ?_;clear hK)|apply zI)
  exact bad 2 _ (.inl rfl) hF.symm hI
 |some wr=>
  obtain⟨w,rest⟩:=wr;obtain⟨o1,o2,o3⟩:=ho w rest rfl;obtain⟨s2,s3⟩:=hs w rest rfl;try clear zz
  clear ho hs;simp only[headV]at hc;simp only at hF;have hl:=Sx.rows_len rest;cases q1:(w.data.toList==(#[61]:Array UInt8).toList)with
  |false=>
   rw[show bEq w opEq=false from q1]at hF;simp only[cond_false]at hF;have ha:=fun h:Heap=>parseAtom_c o1 s2 o3 h;generalize atomP w rest=A at hF ha;obtain⟨a,c⟩:=A;simp only at hF ha;cases hcc:c==0 with
   |false=>
    rw[hcc]at hF;simp only[cond_false]at hF;have e0:errP c=errV c:=(by simp only[errP,hcc,cond_false]);rw[e0]at ha;simp only[errV,atRow]at ha;refine uG0 Tryz.func113 Tryz.ntmps113 Tryz.results113 Ty.hb_113 ?_;(repeat'(first|refine a_seq fun K hK=>?_|refine uR trivial ?_|(refine uN hK ?_;clear hK)|apply zI));refine uU trivial (hc _) ?_;replace zz:=uu @Bool.not_true q1;(repeat'(first|refine a_seq fun K hK=>?_|refine uR zz ?_|refine uK ?_|refine uC1 zz ?_|(refine uN hK ?_;clear hK)|apply zI));refine uU trivial (ha _) ?_;(repeat'(first|with_reducible refine a_hold 6 ?_|(refine uN hK ?_;clear hK)|apply zI));refine⟨?_⟩;refine a_tmp 8 rfl (by simp only[Ty.w,simprocAttr]) (fun n H=>by simp only[FrzL,FrzTo,and_true,true_and];exact .inl (strs_in _ _)) ?_;have hI2:=hI.tmp (.arr 2 [[.sc (.string ⟨#[]⟩),.sc (.slice none 0 0)]]) (.arr 2 [atRow a]);simp only[atRow]at hI2;(repeat'(first|refine a_seq fun K hK=>?_|refine uR trivial ?_|refine uT trivial ?_|(refine uN hK ?_;clear hK)|apply zI));subst hF;exact⟨e0.symm,hI2⟩
   |true=>
    rw[hcc]at hF;simp only[cond_true]at hF;have e0:errP c= .sc .nilIface:=(by simp only[errP,hcc,cond_true]);rw[e0]at ha;obtain⟨an,aa⟩:=a;simp only[atRow]at ha;refine uG0 Tryz.func113 Tryz.ntmps113 Tryz.results113 Ty.hb_113 ?_;(repeat'(first|refine a_seq fun K hK=>?_|refine uR trivial ?_|(refine uN hK ?_;clear hK)|apply zI));refine uU trivial (hc _) ?_;replace zz:=uu @Bool.not_true q1;(repeat'(first|refine a_seq fun K hK=>?_|refine uR zz ?_|refine uK ?_|refine uC1 zz ?_|(refine uN hK ?_;clear hK)|apply zI));refine uU trivial (ha _) ?_;(repeat'(first|with_reducible refine a_hold 6 ?_|(refine uN hK ?_;clear hK)|apply zI));refine⟨?_⟩;refine a_tmp 8 rfl (by simp only[Ty.w,simprocAttr]) (fun n H=>by simp only[FrzL,FrzTo,and_true,true_and];exact .inl (strs_in _ _)) ?_;refine a_gen (fun S H=>S 0= .ptr id 0 0∧S 8= .cptr [sPV an,.imm 1 (strRows aa)]∧S 9= .sc .nilIface∧PbI h0 id p H) ⟨by simp only[Ty.w,simprocAttr],by simp only[Ty.w,simprocAttr],by simp only[Ty.w,simprocAttr],hI.tmp _ _⟩ ?_;(try clear zz);clear hI;rintro S h' ⟨g0,g8,g9,hI⟩;obtain⟨g,idl,o,i,v,g2,g3,g4,g5,gop,gna,gar,gpa,gex,gki,e1,e2,e3,e4,e5,e6⟩:=hI;obtain⟨H,t1,t2,t3,t4,t5⟩:=e4.tail;have hk:=t5 h0 ⟨g.le,g.old⟩ (by omega);have eo:=Tl.other e4 e5 (by decide) t1 t3;have hri:=atRows_len p.init;have hbb:(p.init.length+1)*40≤140737488355328:=(by omega);have n2:(id=H.next)=False:=(by simp;omega);have n3:(id=h'.next)=False:=(by simp;omega);have o2H:H.obj id=_:=(t4 _ (Nat.lt_succ_self _)).trans e2;have hpc:=e4.cell;have hap:atRows p.init++[[PV.sc (.string an),.imm 1 (strRows aa)]]=atRows (p.init++[⟨an,aa⟩]):=atRows_app p.init ⟨an,aa⟩;replace zz:=uu g0 (uu g8 (uu g9 (uu e2 (uu o2H (uu n2 (uu n3 (uu t1 (uu t2 (uu t3 (uu hri (uu hbb (uu hpc hap))))))))))));(repeat'(first|refine a_seq fun K hK=>?_|refine uR zz ?_|refine uD zz ?_|refine uT zz ?_|refine uK ?_|refine uC1 zz ?_|(refine uN hK ?_;clear hK)|refine uB zz ?_|apply zI));subst hF;refine⟨rfl,⟨(Grow.new (⟨hk.1,hk.2⟩:Grow h0 H) _).set idl.1 _,⟨idl.1,by simp only[Heap.set,Heap.new];omega⟩,o,.own h'.next 0 (p.init.length+1),v,g2,g3,g4,g5,gop,gna,gar,gpa,gex,gki,e1,by simp only[Heap.set,if_true],e3,?_,?_,e6⟩⟩
    ·rw [← t3];exact(Tl.grow (id0:=id+1) (H:=H) (z:=2) (len:=p.init.length+1) (rows:=atRows (p.init++[⟨an,aa⟩])) (by omega) (by simp[atRows_len])).mid (Nat.lt_succ_self _) _
    ·exact eo.up (by simp only[Heap.set,Heap.new];omega) (fun j hj hj2=>by simp only[Heap.set,Heap.new];rw[if_neg (by omega),if_neg (by omega)])
  |true=>
   rw[show bEq w opEq=true from q1]at hF;simp only[cond_true]at hF;cases q2:((rest.length:Int) !=2)with
   |true=>
    have e:(p.init,p.values,2)=F:=by
     rw[← hF]
     match rest,q2 with
     |[],_=>rfl
     |[a],_=>rfl
     |[_,_],q=>simp at q
     |_::_::_::_,_=>rfl
    (try clear zz);clear hF;refine uG0 Tryz.func113 Tryz.ntmps113 Tryz.results113 Ty.hb_113 ?_;(repeat'(first|refine a_seq fun K hK=>?_|refine uR trivial ?_|(refine uN hK ?_;clear hK)|apply zI));refine uU trivial (hc _) ?_;replace zz:=uu @Bool.not_true (uu q1 (uu q2 hl));(repeat'(first|refine a_seq fun K hK=>?_|refine uR zz ?_|refine uT zz ?_|refine uK ?_|refine uC1 zz ?_|(refine uN hK ?_;clear hK)|apply zI));exact bad 2 _ (.inl rfl) e.symm hI
   |false=>
    obtain⟨f,n,rfl⟩: ∃ f n,rest=[f,n]:=by
     match rest,q2 with
     |[],q=>simp at q
     |[a],q=>simp at q
     |[a,b],_=>exact⟨a,b,rfl⟩
     |_::_::_::l,q=>simp at q;omega
    have hr0:=Sx.rows_get (l:=[f,n]) (i:=0) rfl;have hr1:=Sx.rows_get (l:=[f,n]) (i:=1) rfl;have hfo:=o3 f (by simp);have hfs:=s3 f (by simp);simp only[List.length_cons,List.length_nil,Nat.zero_add,Nat.reduceAdd]at hl q2;(try clear zz);clear o1 o2 o3 s2 s3;simp only at hF;generalize Sx.rows [f,n]=R at hc hl hr0 hr1;have hcf:=phead_c hfo;have hof:=fun w l=>headM_ok2 hfo (w:=w) (l:=l);have hsf:=fun w l=>headM_small hfs (w:=w) (l:=l);generalize headM f=D at hF hcf hof hsf;obtain⟨ki,va,li,co,te,ks⟩:=f;obtain⟨ki2,va2,li2,co2,te2,ks2⟩:=n;simp only[Sx.cells,kindOf,valOf]at hr0 hr1 hF hcf;(try clear zz);clear hfo hfs;cases q3:(ki2 !=2)with
    |true=>
     rw[show(ki2==2)=false by simpa using q3]at hF;simp only[cond_false]at hF;refine uG0 Tryz.func113 Tryz.ntmps113 Tryz.results113 Ty.hb_113 ?_;(repeat'(first|refine a_seq fun K hK=>?_|refine uR trivial ?_|(refine uN hK ?_;clear hK)|apply zI));refine uU trivial (hc _) ?_;replace zz:=uu @Bool.not_true (uu q1 (uu q2 (uu q3 (uu hl hr1))));(repeat'(first|refine a_seq fun K hK=>?_|refine uR zz ?_|refine uT zz ?_|refine uK ?_|refine uC1 zz ?_|(refine uN hK ?_;clear hK)|apply zI));exact bad 2 _ (.inl rfl) hF.symm hI
    |false=>
     rw[show(ki2==2)=true by simpa using q3]at hF;simp only[cond_true]at hF;cases D with
     |none=>
      simp only at hF;simp only[headV]at hcf;refine uG0 Tryz.func113 Tryz.ntmps113 Tryz.results113 Ty.hb_113 ?_;(repeat'(first|refine a_seq fun K hK=>?_|refine uR trivial ?_|(refine uN hK ?_;clear hK)|apply zI));refine uU trivial (hc _) ?_;replace zz:=uu @Bool.not_true (uu q1 (uu q2 (uu q3 (uu hl (uu hr0 hr1)))));(repeat'(first|refine a_seq fun K hK=>?_|refine uR zz ?_|refine uK ?_|refine uC1 zz ?_|(refine uN hK ?_;clear hK)|apply zI));refine uU (uu hr0 hr1) (hcf _) ?_;(repeat'(first|refine a_seq fun K hK=>?_|refine uR @Bool.not_false ?_|refine uT @Bool.not_false ?_|(refine uN hK ?_;clear hK)|apply zI));exact bad 2 _ (.inl rfl) hF.symm hI
     |some wr=>
      obtain⟨name,args⟩:=wr;obtain⟨o1,o2,o3⟩:=hof name args rfl;obtain⟨s2,s3⟩:=hsf name args rfl;(try clear zz);clear hof hsf;simp only[headV]at hcf;simp only at hF;have ha:=fun h:Heap=>parseAtom_c o1 s2 o3 h;generalize atomP name args=A at hF ha;obtain⟨a,c⟩:=A;simp only at hF ha;cases hcc:c==0 with
      |false=>
       rw[hcc]at hF;simp only[cond_false]at hF;have e0:errP c=errV c:=(by simp only[errP,hcc,cond_false]);rw[e0]at ha;simp only[errV,atRow]at ha;refine uG0 Tryz.func113 Tryz.ntmps113 Tryz.results113 Ty.hb_113 ?_;(repeat'(first|refine a_seq fun K hK=>?_|refine uR trivial ?_|(refine uN hK ?_;clear hK)|apply zI));refine uU trivial (hc _) ?_;replace zz:=uu @Bool.not_true (uu q1 (uu q2 (uu q3 (uu hl (uu hr0 hr1)))));(repeat'(first|refine a_seq fun K hK=>?_|refine uR zz ?_|refine uK ?_|refine uC1 zz ?_|(refine uN hK ?_;clear hK)|apply zI));refine uU (uu hr0 hr1) (hcf _) ?_;(repeat'(first|refine a_seq fun K hK=>?_|refine uR @Bool.not_true ?_|refine uK ?_|refine uC1 @Bool.not_true ?_|(refine uN hK ?_;clear hK)|apply zI));refine uU trivial (ha _) ?_;(repeat'(first|with_reducible refine a_hold 16 ?_|(refine uN hK ?_;clear hK)|apply zI));refine⟨?_⟩;refine a_tmp 12 rfl (by simp only[Ty.w,simprocAttr]) (fun n H=>by simp only[FrzL,FrzTo,and_true,true_and];exact .inl (strs_in _ _)) ?_;have hI2:=hI.tmp (.arr 2 [[.sc (.string ⟨#[]⟩),.sc (.slice none 0 0)]]) (.arr 2 [atRow a]);simp only[atRow]at hI2;(repeat'(first|refine a_seq fun K hK=>?_|refine uR trivial ?_|refine uT trivial ?_|(refine uN hK ?_;clear hK)|apply zI));subst hF;exact⟨e0.symm,hI2⟩
      |true=>
       rw[hcc]at hF;simp only[cond_true]at hF;have e0:errP c= .sc .nilIface:=(by simp only[errP,hcc,cond_true]);rw[e0]at ha;obtain⟨an,aa⟩:=a;simp only[atRow]at ha;refine uG0 Tryz.func113 Tryz.ntmps113 Tryz.results113 Ty.hb_113 ?_;(repeat'(first|refine a_seq fun K hK=>?_|refine uR trivial ?_|(refine uN hK ?_;clear hK)|apply zI));refine uU trivial (hc _) ?_;replace zz:=uu @Bool.not_true (uu q1 (uu q2 (uu q3 (uu hl (uu hr0 hr1)))));(repeat'(first|refine a_seq fun K hK=>?_|refine uR zz ?_|refine uK ?_|refine uC1 zz ?_|(refine uN hK ?_;clear hK)|apply zI));refine uU (uu hr0 hr1) (hcf _) ?_;(repeat'(first|refine a_seq fun K hK=>?_|refine uR @Bool.not_true ?_|refine uK ?_|refine uC1 @Bool.not_true ?_|(refine uN hK ?_;clear hK)|apply zI));refine uU trivial (ha _) ?_;(repeat'(first|with_reducible refine a_hold 16 ?_|(refine uN hK ?_;clear hK)|apply zI));refine⟨?_⟩;refine a_tmp 12 rfl (by simp only[Ty.w,simprocAttr]) (fun n H=>by simp only[FrzL,FrzTo,and_true,true_and];exact .inl (strs_in _ _)) ?_;refine a_gen (fun S H=>S 0= .ptr id 0 0∧S 6= .imm 6 R∧S 12= .cptr [sPV an,.imm 1 (strRows aa)]∧S 13= .sc .nilIface∧PbI h0 id p H) ⟨by simp only[Ty.w,simprocAttr],by simp only[Ty.w,simprocAttr],by simp only[Ty.w,simprocAttr],by simp only[Ty.w,simprocAttr],hI.tmp _ _⟩ ?_;(try clear zz);clear hI;rintro S h' ⟨g0,g6,g12,g13,hI⟩;obtain⟨g,idl,o,i,v,g2,g3,g4,g5,gop,gna,gar,gpa,gex,gki,e1,e2,e3,e4,e5,e6⟩:=hI;obtain⟨H,t1,t2,t3,t4,t5⟩:=e5.tail;have hk:=t5 h0 ⟨g.le,g.old⟩ (by omega);have eo:=Tl.other e5 e4 (by decide) t1 t3;have hri:=vlRows_len p.values;have hbb:(p.values.length+1)*48≤140737488355328:=(by omega);have n2:(id=H.next)=False:=(by simp;omega);have n3:(id=h'.next)=False:=(by simp;omega);have o2H:H.obj id=_:=(t4 _ (Nat.lt_succ_self _)).trans e2;have hpc:=e5.cell;have hap:vlRows p.values++[[PV.sc (.string an),.imm 1 (strRows aa),.sc (.int .i64 va2)]]=vlRows (p.values++[⟨⟨an,aa⟩,va2⟩]):=vlRows_app p.values ⟨⟨an,aa⟩,va2⟩;replace zz:=uu g0 (uu g6 (uu g12 (uu g13 (uu hr1 (uu e2 (uu o2H (uu n2 (uu n3 (uu t1 (uu t2 (uu t3 (uu hri (uu hbb (uu hpc hap))))))))))))));(repeat'(first|refine a_seq fun K hK=>?_|refine uR zz ?_|refine uD zz ?_|refine uT zz ?_|refine uK ?_|refine uC1 zz ?_|(refine uN hK ?_;clear hK)|refine uB zz ?_|apply zI));subst hF;refine⟨rfl,⟨(Grow.new (⟨hk.1,hk.2⟩:Grow h0 H) _).set idl.1 _,⟨idl.1,by simp only[Heap.set,Heap.new];omega⟩,o,i,.own h'.next 0 (p.values.length+1),g2,g3,g4,g5,gop,gna,gar,gpa,gex,gki,e1,by simp only[Heap.set,if_true],e3,?_,?_,e6⟩⟩
       ·exact eo.up (by simp only[Heap.set,Heap.new];omega) (fun j hj hj2=>by simp only[Heap.set,Heap.new];rw[if_neg (by omega),if_neg (by omega)])
       ·rw [← t3];exact(Tl.grow (id0:=id+1) (H:=H) (z:=3) (len:=p.values.length+1) (rows:=vlRows (p.values++[⟨⟨an,aa⟩,va2⟩])) (by omega) (by simp[vlRows_len])).mid (Nat.lt_succ_self _) _
theorem elemP_len(a:List At)(v:List Vl)(x:Sx):(elemP a v x).1.length≤a.length+1∧(elemP a v x).2.1.length≤v.length+1:=by
 unfold elemP;split
 ·simp
 ·rename_i w rest _;cases bEq w opEq with
  |true=>
   simp only[cond_true];split
   ·rename_i f n _;cases kindOf n==2 with
    |false=>simp
    |true=>
     simp only[cond_true];split
     ·simp
     ·rename_i name args _;cases(atomP name args).2==0<;>simp
   ·simp
  |false=>
   simp only[cond_false];cases(atomP w rest).2==0<;>simp
theorem elemsP_len: ∀ (l:List Sx)(a:List At)(v:List Vl),(elemsP a v l).1.length≤a.length+l.length∧(elemsP a v l).2.1.length≤v.length+l.length
 |[],a,v=>by simp[elemsP]
 |x::l,a,v=>by
  have h1:=elemP_len a v x;simp only[elemsP];generalize elemP a v x=W at h1⊢;obtain⟨a',v',c⟩:=W;simp only at h1⊢;cases c==0 with
  |true=>
   have h2:=elemsP_len l a' v';simp only[cond_true,List.length_cons];omega
  |false=>
   simp only[cond_false,List.length_cons];omega
theorem elemP_code(a:List At)(v:List Vl)(x:Sx):(elemP a v x).2.2=0∨(elemP a v x).2.2=2∨(elemP a v x).2.2=8:=by
 have hA: ∀ w l,(atomP w l).2=0∨(atomP w l).2=2∨(atomP w l).2=8:=by
  intro w l;unfold atomP;have:=namesM_code l;cases nameB w with
  |false=>simp
  |true=>
   simp only[cond_true];cases h:(namesM l).2==0 with
   |true=>simp
   |false=>
    simp only[cond_false];rcases this with h2|h2
    ·rw [h2]at h;simp at h
    ·exact .inr h2.2
 unfold elemP;split
 ·simp
 ·rename_i w rest _;cases bEq w opEq with
  |true=>
   simp only[cond_true];split
   ·rename_i f n _;cases kindOf n==2 with
    |false=>simp
    |true=>
     simp only[cond_true];split
     ·simp
     ·rename_i name args _;have:=hA name args;cases h:(atomP name args).2==0 with
      |true=>simp
      |false=>simpa using this
   ·simp
  |false=>
   simp only[cond_false];have:=hA w rest;cases h:(atomP w rest).2==0 with
   |true=>simp
   |false=>simpa using this
theorem section_c{h0:Heap}{id:Nat}{p:Pb}{w:ByteArray}{rest:List Sx}(hl:rest.length≤1048576)(hok: ∀ y∈rest,y.ok)(hsm: ∀ y∈rest,y.small)(hb1:p.init.length≤1099511627776)(hb2:p.values.length≤1099511627776)(h:Heap)(hI:PbI h0 id p h):
  PCall Tryz.prog 78 [.ptr id 0 0,sPV w,.imm 6 (Sx.rows rest)] h fun r h'=>r=errP (sectP p w rest).2∧PbI h0 id (sectP p w rest).1 h':=by
 have hll:=Sx.rows_len rest;generalize hF:sectP p w rest=F;unfold sectP at hF;cases q1:(w.data.toList==(#[58,111,98,106,101,99,116,115]:Array UInt8).toList)with
 |true=>
  rw[show bEq w opObjs=true from q1]at hF;simp only[cond_true]at hF;have hp:=fun h:Heap=>parseParams_c (vars:=false) hl hok h;generalize paramsP false rest=L at hF hp;obtain⟨l,c⟩:=L;simp only at hF hp;subst hF;obtain⟨g,idl,o,i,v,g2,g3,g4,g5,gop,gna,gar,gpa,gex,gki,e1,e2,e3,e4,e5,e6⟩:=hI;refine uG0 Tryz.func78 Tryz.ntmps78 Tryz.results78 Ty.hb_78 ?_;repeat'(first|refine a_seq fun K hK=>?_|refine a_block ?_|refine uR q1 ?_|refine uQ q1 fun K hK=>?_|(refine uN hK ?_;clear hK)|apply zI)
  refine uU e2 (hp _) ?_;repeat'(first|refine a_seq fun K hK=>?_|refine uR e2 ?_|refine uT e2 ?_|(refine uN hK ?_;clear hK)|apply zI)
  refine⟨g.set idl.1 _,⟨idl.1,idl.2⟩,.imm 2 (pmRows l),i,v,g2,g3,g4,g5,gop,gna,gar,gpa,gex,gki,e1,by simp only[Heap.set,if_true],.inl rfl,?_,?_,e6⟩
  ·exact e4.up (Nat.le_refl _) (fun j hj hj2=>by simp only[Heap.set];rw[if_neg (by omega)])
  ·exact e5.up (Nat.le_refl _) (fun j hj hj2=>by simp only[Heap.set];rw[if_neg (by omega)])
 |false=>
  rw[show bEq w opObjs=false from q1]at hF;simp only[cond_false]at hF;cases q2:(w.data.toList==(#[58,105,110,105,116]:Array UInt8).toList)with
  |false=>
   rw[show bEq w opInit=false from q2]at hF;simp only[cond_false]at hF;cases q3:((rest.length:Int) !=1)with
   |true=>
    have e:F=(p,2):=by
     rw[← hF]
     match rest,q3 with
     |[],_=>rfl
     |[a],q=>simp at q
     |_::_::_,_=>rfl
    subst e;(try clear zz);clear hF;refine uG0 Tryz.func78 Tryz.ntmps78 Tryz.results78 Ty.hb_78 ?_;replace zz:=uu q1 (uu q2 (uu q3 hll));(repeat'(first|refine a_seq fun K hK=>?_|refine uR zz ?_|refine uT zz ?_|(refine uN hK ?_;clear hK)|apply zI));exact⟨rfl,hI⟩
   |false=>
    obtain⟨x,rfl⟩: ∃ x,rest=[x]:=by
     match rest,q3 with
     |[],q=>simp at q
     |[a],_=>exact⟨a,rfl⟩
     |_::_::l,q=>simp at q;omega
    simp only at hF;have hr:=Sx.rows_get (l:=[x]) (i:=0) rfl;have hp:=fun h:Heap=>Parse_c (hok x (by simp)) h;simp only[List.length_cons,List.length_nil,Nat.zero_add]at hll q3;generalize Sx.rows [x]=R at hll hr⊢;generalize parseF x=L at hF hp;obtain⟨⟨fop,fna,far,fpa,fex,fki⟩,c⟩:=L;obtain⟨ki,va,li,co,te,ks⟩:=x;simp only at hF hp;simp only[Sx.cells,Fm.cells]at hr hp;subst hF;obtain⟨g,idl,o,i,v,g2,g3,g4,g5,gop,gna,gar,gpa,gex,gki,e1,e2,e3,e4,e5,e6⟩:=hI;refine uG0 Tryz.func78 Tryz.ntmps78 Tryz.results78 Ty.hb_78 ?_;replace zz:=uu q1 (uu q2 (uu q3 (uu hll hr)));(repeat'(first|refine a_seq fun K hK=>?_|refine uR zz ?_|refine uQ zz fun K hK=>?_|refine uK ?_|refine uC1 zz ?_|(refine uN hK ?_;clear hK)|apply zI));refine uU (uu hll (uu hr e2)) (hp _) ?_;(repeat'(first|refine a_seq fun K hK=>?_|refine uR e2 ?_|refine uT e2 ?_|(refine uN hK ?_;clear hK)|apply zI));refine⟨g.set idl.1 _,⟨idl.1,idl.2⟩,o,i,v,_,_,_,_,fop,fna,far,fpa,fex,fki,rfl,by simp only[Heap.set,if_true],e3,?_,?_,.inl rfl,.inl rfl,.inl rfl,.inl rfl⟩
    ·exact e4.up (Nat.le_refl _) (fun j hj hj2=>by simp only[Heap.set];rw[if_neg (by omega)])
    ·exact e5.up (Nat.le_refl _) (fun j hj hj2=>by simp only[Heap.set];rw[if_neg (by omega)])
  |true=>
   rw[show bEq w opInit=true from q2]at hF;simp only[cond_true]at hF;generalize hE:elemsP p.init p.values rest=E at hF;refine uG0 Tryz.func78 Tryz.ntmps78 Tryz.results78 Ty.hb_78 ?_;(repeat'(first|refine a_seq fun K hK=>?_|refine a_block ?_|refine uR (uu q1 (uu q2 hll)) ?_|(refine uN hK ?_;clear hK)|apply zI));refine a_loop (fun m S h'=>S 0= .ptr id 0 0∧S 38= .imm 6 (Sx.rows rest)∧S 39= .sc (.int .i64 rest.length)∧S 7= .sc .nilIface∧ ∃ (k:Nat)(a:List At)(v:List Vl),S 40= .sc (.int .i64 k)∧k≤rest.length∧m=rest.length-k∧a.length≤p.init.length+k∧v.length≤p.values.length+k∧
    PbI h0 id ⟨p.name,p.domain,p.objects,a,v,p.goal⟩ h'∧E=elemsP a v (rest.drop k)) rest.length ?_ ?_
   ·simp only[Ty.w,simprocAttr];exact⟨0,p.init,p.values,rfl,by omega,rfl,by omega,by omega,hI,by rw[List.drop_zero];exact hE.symm⟩
   ·(try clear zz);clear hI hE;rintro m S h' ⟨gs0,g38,g39,g7,k,a,v,g40,hk,rfl,hal,hvl,hI,hinv⟩;by_cases hlt:k<rest.length
    ·have hd:decide ((k:Int)<(rest.length:Int))=true:=(by simp;omega);have w7:IntKind.i64.wrap ((k:Int)+1)=k+1:=(by rw[wrap64 (by omega) (by omega)]);obtain⟨x,hx⟩: ∃ x,rest[k]? =some x:=⟨_,List.getElem?_eq_getElem hlt⟩;have hr:=Sx.rows_get hx;have hmem:=List.mem_of_getElem? hx;rw[drop_of_get hx]at hinv;simp only[elemsP]at hinv;have hcd:=elemP_code a v x;have hle:=elemP_len a v x;have hel:=fun(H:Heap)(hI:PbI h0 id ⟨p.name,p.domain,p.objects,a,v,p.goal⟩ H)=>element_c (hok x hmem) (hsm x hmem) (by simp only;omega) (by simp only;omega) H hI;simp only at hel;generalize elemP a v x=W at hinv hcd hle hel;obtain⟨a2,v2,c⟩:=W;simp only at hinv hcd hle hel;obtain⟨ki,va,li,co,te,ks⟩:=x;simp only[Sx.cells]at hr hel;replace zz:=uu gs0 (uu g7 (uu g38 (uu g39 (uu g40 (uu hd hr)))));(repeat'(first|with_reducible refine a_holdR 12 ?_|refine a_seq fun K hK=>?_|refine uR zz ?_|refine uK ?_|refine uC1 zz ?_|(refine uN hK ?_;clear hK)|apply zI));refine⟨?_⟩;refine a_tmp 9 rfl (by simp only[Ty.w,simprocAttr]) (sx_frz' · · ki va li co te ks) ?_;refine a_gen (fun S H=>S 0= .ptr id 0 0∧S 38= .imm 6 (Sx.rows rest)∧S 39= .sc (.int .i64 rest.length)∧S 7= .sc .nilIface∧S 40= .sc (.int .i64 k)∧S 9= .cptr [.sc (.int .i64 ki),.sc (.int .i64 va),.sc (.int .i64 li),.sc (.int .i64 co),sPV te,.imm 6 (Sx.rows ks)]∧PbI h0 id ⟨p.name,p.domain,p.objects,a,v,p.goal⟩ H) ⟨by simp only[Ty.w,simprocAttr,gs0],by simp only[Ty.w,simprocAttr,g38],by simp only[Ty.w,simprocAttr,g39],by simp only[Ty.w,simprocAttr,g7],by simp only[Ty.w,simprocAttr,g40],by simp only[Ty.w,simprocAttr],hI.tmp _ _⟩ ?_;(try clear zz);clear hI gs0 g38 g39 g7 g40 hr hd;rintro S h' ⟨gs0,g38,g39,g7,g40,g9,hI⟩;(repeat'(first|refine a_seq fun K hK=>?_|refine uR (uu gs0 g9) ?_|apply zI));refine owp_useL (hel _ hI) (by simp only[Ty.w,simprocAttr,gs0,g9];try rfl) ?_;rintro r h2 ⟨rfl,hI2⟩;(try clear zz);clear hI;simp(maxSteps:=2000000) only[Ty.w,simprocAttr,Ty.all];cases hcc:c==0 with
     |false=>
      rw[hcc]at hinv;simp only[cond_false]at hinv;have e0:errP c=errV c:=(by simp only[errP,hcc,cond_false]);simp only[e0,errV];(repeat'(first|refine a_seq fun K hK=>?_|refine uR trivial ?_|refine uT trivial ?_|(refine uN hK ?_;clear hK)|apply zI));subst hinv;subst hF;exact⟨e0.symm,hI2⟩
     |true=>
      rw[hcc]at hinv;simp only[cond_true]at hinv;have e0:errP c= .sc .nilIface:=(by simp only[errP,hcc,cond_true]);simp only[e0];replace zz:=uu gs0 (uu g38 (uu g39 (uu g7 (uu g40 w7))));(repeat'(first|refine a_seq fun K hK=>?_|refine a_block ?_|refine uR zz ?_|refine uK ?_|(refine uN hK ?_;clear hK)|apply zI));exact⟨rest.length-(k+1),by omega,k+1,a2,v2,by simp,by omega,rfl,by omega,by omega,hI2,hinv⟩
    ·have hd:decide ((k:Int)<(rest.length:Int))=false:=(by simp;omega);rw[List.drop_eq_nil_of_le (by omega)]at hinv;simp only[elemsP]at hinv;subst hinv;subst hF;replace zz:=uu gs0 (uu g7 (uu g38 (uu g39 (uu g40 hd))));(repeat'(first|refine a_seq fun K hK=>?_|refine uR zz ?_|refine uT zz ?_|refine uX ?_|refine uC1 zz ?_|(refine uN hK ?_;clear hK)|(clear hK;refine uN hK ?_;clear hK)|apply zI));exact⟨rfl,hI⟩
theorem ats_frz(n:Nat)(h:Heap): ∀ l:List At,FrzR n h (atRows l) (atRows l)
 |[]=>by simp only[atRows,List.map_nil,FrzR]
 |a::l=>by
  have:=ats_frz n h l;simp only[atRows,List.map_cons,FrzR,atRow,FrzL,FrzTo,and_true,true_and]at this⊢;exact⟨.inl (strs_in _ _),this⟩
theorem vls_frz(n:Nat)(h:Heap): ∀ l:List Vl,FrzR n h (vlRows l) (vlRows l)
 |[]=>by simp only[vlRows,List.map_nil,FrzR]
 |a::l=>by
  have:=vls_frz n h l;simp only[vlRows,List.map_cons,FrzR,vlRow,FrzL,FrzTo,and_true,true_and]at this⊢;exact⟨.inl (strs_in _ _),this⟩
theorem PbI.frz{h:Heap}{id n:Nat}{p:Pb}{o i v g2 g3 g4 g5:PV}{gop gna:ByteArray}{gar:List ByteArray}{gpa:List Pm}{gex:List Ex}{gki:List Fm}{c:Int}(hn:n≤id)(e1:p.goal= .mk gop gna gar gpa gex gki)
  (e3:NilOr 2 (pmRows p.objects) o)(e4:Tl h (id+1) 2 i (atRows p.init))(e5:Tl h (id+1) 3 v (vlRows p.values))(e6:NilOr 1 (strRows gar) g2∧NilOr 2 (pmRows gpa) g3∧NilOr 5 (Ex.rows gex) g4∧NilOr 6 (Fm.rows gki) g5)(ec: ∃ u,errP c= .sc u):
  FrzTo n h (.tup [.agg p.cells,errP c]) (.tup [.agg [sPV p.name,sPV p.domain,o,i,v,sPV gop,sPV gna,g2,g3,g4,g5],errP c]):=by
 obtain⟨u,hu⟩:=ec;obtain⟨pn,pd,po,pi,pv,pg⟩:=p;simp only at e1 e3 e4 e5;subst e1;simp only[Pb.cells,Fm.cells,List.cons_append,List.nil_append];rw[hu];simp only[FrzTo,FrzL];refine⟨_,rfl,⟨_,rfl,rfl,rfl,?_,?_,?_,rfl,rfl,?_,?_,?_,?_,trivial⟩,rfl,trivial⟩
 ·simpa only[FrzTo]using e3.frz h (pms_in n po)
 ·simpa only[FrzTo]using e4.frzR (by omega) (ats_frz n h pi)
 ·simpa only[FrzTo]using e5.frzR (by omega) (vls_frz n h pv)
 ·simpa only[FrzTo]using e6.1.frz h (strs_in n gar)
 ·simpa only[FrzTo]using e6.2.1.frz h (pms_in n gpa)
 ·simpa only[FrzTo]using e6.2.2.1.frz h (exs_in n gex)
 ·simpa only[FrzTo]using e6.2.2.2.frz h (fms_in n gki)
theorem errP_u(c:Int): ∃ u,errP c= .sc u:=by
 unfold errP errV;cases c==0<;>exact⟨_,rfl⟩
theorem bEq_comm(a b:ByteArray):bEq a b=bEq b a:=by
 unfold bEq;exact Bool.beq_comm
theorem after_idx(w:ByteArray): ∀ o:List ByteArray,(afterB o w=none∧idxM o w= -1)∨ ∃ k:Nat,k<o.length∧idxM o w=(k:Int)∧afterB o w=some (o.drop (k+1))
 |[]=> .inl ⟨rfl,rfl⟩
 |a::o=>by
  unfold idxM;rw[List.findIdx?_cons];simp only[afterB,bEq_comm a w];cases h:bEq w a with
  |true=>exact .inr ⟨0,by simp,by simp,by simp⟩
  |false=>
   simp only[cond_false];rcases after_idx w o with⟨h1,h2⟩|⟨k,h1,h2,h3⟩
   ·left;refine⟨h1,?_⟩;unfold idxM at h2;cases h4:o.findIdx? (fun v=>bEq w v)with
    |none=>simp
    |some i=>rw[h4]at h2;simp only at h2;omega
   ·right;refine⟨k+1,by simp;omega,?_,by simpa using h3⟩;unfold idxM at h2;cases h4:o.findIdx? (fun v=>bEq w v)with
    |none=>rw[h4]at h2;simp only at h2;omega
    |some i=>rw[h4]at h2;simp only at h2;simp;omega
abbrev pbZ:List PV:=[.sc (.string ⟨#[]⟩),.sc (.string ⟨#[]⟩),.sc (.slice none 0 0),.sc (.slice none 0 0),.sc (.slice none 0 0),.sc (.string ⟨#[]⟩),.sc (.string ⟨#[]⟩),.sc (.slice none 0 0),.sc (.slice none 0 0),.sc (.slice none 0 0),.sc (.slice none 0 0)]
theorem pb_fin{h H:Heap}{X:AObj}{q:Pb}{F:Pb × Int}{c:Int}{u o i v g2 g3 g4 g5:PV}{gop gna:ByteArray}{gar:List ByteArray}{gpa:List Pm}{gex:List Ex}{gki:List Fm}(hF:F=(q,c))(hu:errP c=u)(g:Grow (h.new (.arr 11 [pbZ])) H)(e1:q.goal= .mk gop gna gar gpa gex gki)
  (e3:NilOr 2 (pmRows q.objects) o)(e4:Tl H (h.next+1+1) 2 i (atRows q.init))(e5:Tl H (h.next+1+1) 3 v (vlRows q.values))(e6:NilOr 1 (strRows gar) g2∧NilOr 2 (pmRows gpa) g3∧NilOr 5 (Ex.rows gex) g4∧NilOr 6 (Fm.rows gki) g5):
  FrzTo h.next (H.set h.next X) (.tup [.agg F.1.cells,errP F.2]) (.tup [.agg [sPV q.name,sPV q.domain,o,i,v,sPV gop,sPV gna,g2,g3,g4,g5],u])∧Grow h (H.set h.next X):=by
 subst hF;subst hu;refine⟨PbI.frz (id:=h.next+1) (by omega) e1 e3 (e4.mid (by omega) _) (e5.mid (by omega) _) e6 (errP_u c),(((Grow.refl h).new _).trans g).set (Nat.le_refl _) _⟩
theorem sects_small{x:Sx}{n d:Sx}{l:List Sx}{w:ByteArray}(hok:x.ok)(hsm:x.small)(h:headM x=some (w,n::d::l)):n.ok∧d.ok∧(∀ y∈l,y.ok)∧(∀ y∈l,y.small)∧l.length≤1048576:=by
 obtain⟨_,_,o3⟩:=headM_ok2 hok h;obtain⟨s2,s3⟩:=headM_small hsm h;exact⟨o3 n (by simp),o3 d (by simp),fun y hy=>o3 y (by simp[hy]),fun y hy=>s3 y (by simp[hy]),by simp at s2;omega⟩
theorem namedP_err{x:Sx}{want:ByteArray}:((namedP x want).2==0)=false→(namedP x want).1=⟨#[]⟩:=by
 unfold namedP;split
 ·rename_i w rest _;cases bEq w want with
  |false=>simp
  |true=>
   simp only[cond_true];split
   ·rename_i r _;cases kindOf r==1 with
    |false=>simp
    |true=>
     simp only[cond_true];cases nameB (textOf r)<;>simp
   ·simp
 ·simp
theorem sectP_len(p:Pb)(w:ByteArray)(rest:List Sx):(sectP p w rest).1.init.length≤p.init.length+rest.length∧(sectP p w rest).1.values.length≤p.values.length+rest.length:=by
 unfold sectP;cases bEq w opObjs with
 |true=>simp
 |false=>
  simp only[cond_false];cases bEq w opInit with
  |true=>simp only[cond_true];exact elemsP_len rest p.init p.values
  |false=>
   simp only[cond_false];split<;>simp
theorem PbI.setN{h0 H:Heap}{id:Nat}{p:Pb}{o i v g2 g3 g4 g5:PV}{gop gna:ByteArray}{gar:List ByteArray}{gpa:List Pm}{gex:List Ex}{gki:List Fm}{a d:ByteArray}(g:Grow h0 H)(idl:h0.next≤id∧id<H.next)(e1:p.goal= .mk gop gna gar gpa gex gki)
  (e3:NilOr 2 (pmRows p.objects) o)(e4:Tl H (id+1) 2 i (atRows p.init))(e5:Tl H (id+1) 3 v (vlRows p.values))(e6:NilOr 1 (strRows gar) g2∧NilOr 2 (pmRows gpa) g3∧NilOr 5 (Ex.rows gex) g4∧NilOr 6 (Fm.rows gki) g5):
  PbI h0 id ⟨a,d,p.objects,p.init,p.values,p.goal⟩ (H.set id (.arr 11 [[sPV a,sPV d,o,i,v,sPV gop,sPV gna,g2,g3,g4,g5]])):=
 ⟨g.set idl.1 _,⟨idl.1,idl.2⟩,o,i,v,g2,g3,g4,g5,gop,gna,gar,gpa,gex,gki,e1,by simp only[Heap.set,if_true],e3,e4.mid (Nat.lt_succ_self _) _,e5.mid (Nat.lt_succ_self _) _,e6⟩
theorem pparse_c{x:Sx}(hok:x.ok)(hsm:x.small)(h:Heap):PCall Tryz.prog 36 [.agg x.cells] h fun r h'=>r= .tup [.agg (pbP x).1.cells,errP (pbP x).2]∧h'=h:=by
 refine PCall.frz Ty.hb_36 ?_;have hc:=phead_c hok;have ho:=fun w l=>headM_ok2 hok (w:=w) (l:=l);have hs:=fun n d l w=>sects_small (n:=n) (d:=d) (l:=l) (w:=w) hok hsm;generalize hF:pbP x=F;unfold pbP at hF;have e2:errP 2=errV 2:=rfl;obtain⟨kind,value,line,col,text,kids⟩:=x;simp only[Sx.cells]at hc⊢;generalize headM (.mk kind value line col text kids)=D at hF hc ho hs;have hI0: ∀ a:AObj,PbI (h.new (.arr 11 [pbZ])) (h.next+1) (pb0 ⟨#[]⟩ ⟨#[]⟩) (((h.new (.arr 11 [pbZ])).new a).set (h.next+1) (.arr 11 [[.sc (.string ⟨#[]⟩),.sc (.string ⟨#[]⟩),.sc (.slice none 0 0),.sc (.slice none 0 0),.sc (.slice none 0 0),.sc (.string ⟨#[97,110,100]⟩),.sc (.string ⟨#[]⟩),.sc (.slice none 0 0),.sc (.slice none 0 0),.sc (.slice none 0 0),.sc (.slice none 0 0)]])):=fun a=>
  ⟨((Grow.refl _).new _).set (Nat.le_refl _) _,⟨Nat.le_refl _,by simp[Heap.set,Heap.new]⟩,.sc (.slice none 0 0),.sc (.slice none 0 0),.sc (.slice none 0 0),.sc (.slice none 0 0),.sc (.slice none 0 0),.sc (.slice none 0 0),.sc (.slice none 0 0),opAnd,⟨#[]⟩,[],[],[],[],rfl,by simp[Heap.set,pb0,opAnd],.inr ⟨rfl,rfl⟩,Tl.nil,Tl.nil,.inr ⟨rfl,rfl⟩,.inr ⟨rfl,rfl⟩,.inr ⟨rfl,rfl⟩,.inr ⟨rfl,rfl⟩⟩
 cases D with
 |none=>
  simp only at hF;simp only[headV]at hc;refine uG0 Tryz.func36 Tryz.ntmps36 Tryz.results36 Ty.hb_36 ?_;repeat'(first|with_reducible refine a_holdR 2 ?_|refine a_seq fun K hK=>?_|refine uR trivial ?_|(refine uN hK ?_;clear hK)|apply zI)
  refine⟨?_⟩;refine a_heap _ (hI0 _) (fun H hI=>?_);obtain⟨g,idl,o,i,v,g2,g3,g4,g5,gop,gna,gar,gpa,gex,gki,e1,eo,e3,e4,e5,e6⟩:=hI;have o1:H.obj h.next=some (.arr 11 [pbZ]):=by rw[g.old _ (Nat.lt_succ_self _)];simp[Heap.new]
  have c3:=e3.cell;have c4:=e4.cell;have c5:=e5.cell;have c6:=e6.1.cell;have c7:=e6.2.1.cell;have c8:=e6.2.2.1.cell;have c9:=e6.2.2.2.cell;repeat'(first|refine a_seq fun K hK=>?_|refine uR trivial ?_|apply zI)
  refine uU trivial (hc _) ?_;replace zz:=uu @Bool.not_false (uu eo (uu o1 (uu c3 (uu c4 (uu c5 (uu c6 (uu c7 (uu c8 c9))))))));repeat'(first|refine a_seq fun K hK=>?_|refine uR zz ?_|refine uT zz ?_|(refine uN hK ?_;clear hK)|apply zI)
  exact pb_fin hF.symm rfl g e1 e3 e4 e5 e6
 |some wr=>
  obtain⟨w,rest⟩:=wr;have hso:=ho w rest rfl;simp only[headV]at hc;simp only at hF;have hl:=Sx.rows_len rest;cases q1:(w.data.toList==(#[100,101,102,105,110,101]:Array UInt8).toList)with
  |false=>
   rw[show bEq w opDef=false from q1]at hF;simp only[cond_false]at hF;refine uG0 Tryz.func36 Tryz.ntmps36 Tryz.results36 Ty.hb_36 ?_;(repeat'(first|with_reducible refine a_holdR 2 ?_|refine a_seq fun K hK=>?_|refine uR trivial ?_|(refine uN hK ?_;clear hK)|apply zI));refine⟨?_⟩;refine a_heap _ (hI0 _) (fun H hI=>?_);obtain⟨g,idl,o,i,v,g2,g3,g4,g5,gop,gna,gar,gpa,gex,gki,e1,eo,e3,e4,e5,e6⟩:=hI;have o1:H.obj h.next=some (.arr 11 [pbZ]):=by rw[g.old _ (Nat.lt_succ_self _)];simp[Heap.new]
   have c3:=e3.cell;have c4:=e4.cell;have c5:=e5.cell;have c6:=e6.1.cell;have c7:=e6.2.1.cell;have c8:=e6.2.2.1.cell;have c9:=e6.2.2.2.cell;(repeat'(first|refine a_seq fun K hK=>?_|refine uR trivial ?_|apply zI));refine uU trivial (hc _) ?_;replace zz:=uu @Bool.not_true (uu @Bool.not_false (uu q1 (uu eo (uu o1 (uu c3 (uu c4 (uu c5 (uu c6 (uu c7 (uu c8 c9))))))))));(repeat'(first|refine a_seq fun K hK=>?_|refine uR zz ?_|refine uT zz ?_|(refine uN hK ?_;clear hK)|apply zI));exact pb_fin hF.symm rfl g e1 e3 e4 e5 e6
  |true=>
   rw[show bEq w opDef=true from q1]at hF;simp only[cond_true]at hF;cases rest with
   |nil=>
    simp only at hF;have z0:(((Sx.rows []).length:Int)<1)=True:=(by rw[hl];simp);generalize Sx.rows []=R at hc hl z0;refine uG0 Tryz.func36 Tryz.ntmps36 Tryz.results36 Ty.hb_36 ?_;(repeat'(first|with_reducible refine a_holdR 2 ?_|refine a_seq fun K hK=>?_|refine uR trivial ?_|(refine uN hK ?_;clear hK)|apply zI));refine⟨?_⟩;refine a_heap _ (hI0 _) (fun H hI=>?_);obtain⟨g,idl,o,i,v,g2,g3,g4,g5,gop,gna,gar,gpa,gex,gki,e1,eo,e3,e4,e5,e6⟩:=hI;have o1:H.obj h.next=some (.arr 11 [pbZ]):=by rw[g.old _ (Nat.lt_succ_self _)];simp[Heap.new]
    have c3:=e3.cell;have c4:=e4.cell;have c5:=e5.cell;have c6:=e6.1.cell;have c7:=e6.2.1.cell;have c8:=e6.2.2.1.cell;have c9:=e6.2.2.2.cell;(repeat'(first|refine a_seq fun K hK=>?_|refine uR trivial ?_|apply zI));refine uU trivial (hc _) ?_;replace zz:=uu @Bool.not_true (uu @Bool.not_false (uu q1 (uu hl (uu z0 (uu @decide_true (uu eo (uu o1 (uu c3 (uu c4 (uu c5 (uu c6 (uu c7 (uu c8 c9)))))))))))));(repeat'(first|refine a_seq fun K hK=>?_|refine uR zz ?_|refine uT zz ?_|(refine uN hK ?_;clear hK)|apply zI));exact pb_fin hF.symm rfl g e1 e3 e4 e5 e6
   |cons n rest1=>
    simp only at hF;have hno:=hso.2.2 n (by simp);have hn:=fun h:Heap=>pnamed_c (want:=opPrb) hno h;have hne:=namedP_err (x:=n) (want:=opPrb);have r0:=Sx.rows_get (l:=n::rest1) (i:=0) rfl;have d0:decide (((Sx.rows (n::rest1)).length:Int)<1)=false:=(by rw[hl];simp;omega);have hl1:((Sx.rows (n::rest1)).length:Int)=rest1.length+1:=(by rw[hl];simp);generalize hN:namedP n opPrb=N at hF hn hne;obtain⟨na,cn⟩:=N;simp only at hF hn hne;have hnr: ∃ a b c d e f,n= .mk a b c d e f:=(by obtain⟨a,b,c,d,e,f⟩:=n;exact⟨a,b,c,d,e,f,rfl⟩);cases hcn:cn==0 with
    |false=>
     rw[hcn]at hF;simp only[cond_false]at hF;have e0:errP cn=errV cn:=(by simp only[errP,hcn,cond_false]);have:=hne hcn;subst this;rw[e0]at hn;simp only[errV]at hn;(try clear zz);clear hs ho hso hl;generalize Sx.rows (n::rest1)=R at hc r0 d0 hl1;obtain⟨ki,va,li,co,te,ks,rfl⟩:=hnr;simp only[Sx.cells]at r0 hn;refine uG0 Tryz.func36 Tryz.ntmps36 Tryz.results36 Ty.hb_36 ?_;(repeat'(first|with_reducible refine a_holdR 2 ?_|refine a_seq fun K hK=>?_|refine uR trivial ?_|(refine uN hK ?_;clear hK)|apply zI));refine⟨?_⟩;refine a_heap _ (hI0 _) (fun H hI=>?_);obtain⟨g,idl,o,i,v,g2,g3,g4,g5,gop,gna,gar,gpa,gex,gki,e1,eo,e3,e4,e5,e6⟩:=hI;have o1:H.obj h.next=some (.arr 11 [pbZ]):=by rw[g.old _ (Nat.lt_succ_self _)];simp[Heap.new]
     have c3:=e3.cell;have c4:=e4.cell;have c5:=e5.cell;have c6:=e6.1.cell;have c7:=e6.2.1.cell;have c8:=e6.2.2.1.cell;have c9:=e6.2.2.2.cell;have n1:(h.next=h.next+1)=False:=(by simp);have hS:=PbI.setN (a:=⟨#[]⟩) (d:=⟨#[]⟩) (p:=pb0 ⟨#[]⟩ ⟨#[]⟩) g idl e1 e3 e4 e5 e6;(repeat'(first|refine a_seq fun K hK=>?_|refine uR trivial ?_|apply zI));refine uU trivial (hc _) ?_;replace zz:=uu @Bool.not_true (uu q1 (uu d0 r0));(repeat'(first|refine a_seq fun K hK=>?_|refine uR zz ?_|refine uK ?_|refine uC1 zz ?_|(refine uN hK ?_;clear hK)|apply zI));refine uU (uu r0 eo) (hn _) ?_;replace zz:=uu eo (uu o1 (uu n1 (uu c3 (uu c4 (uu c5 (uu c6 (uu c7 (uu c8 c9))))))));(repeat'(first|refine a_seq fun K hK=>?_|refine uR zz ?_|refine uT zz ?_|(refine uN hK ?_;clear hK)|apply zI));exact pb_fin hF.symm e0 hS.grow e1 e3 (e4.mid (Nat.lt_succ_self _) _) (e5.mid (Nat.lt_succ_self _) _) e6
    |true=>
     rw[hcn]at hF;simp only[cond_true]at hF;have e0:errP cn= .sc .nilIface:=(by simp only[errP,hcn,cond_true]);rw[e0]at hn;cases rest1 with
     |nil=>
      simp only at hF;have d1:decide (((Sx.rows [n]).length:Int)<2)=true:=(by rw[hl];simp);(try clear zz);clear hs ho hso hl;generalize Sx.rows [n]=R at hc r0 d0 d1;obtain⟨ki,va,li,co,te,ks,rfl⟩:=hnr;simp only[Sx.cells]at r0 hn;refine uG0 Tryz.func36 Tryz.ntmps36 Tryz.results36 Ty.hb_36 ?_;(repeat'(first|with_reducible refine a_holdR 2 ?_|refine a_seq fun K hK=>?_|refine uR trivial ?_|(refine uN hK ?_;clear hK)|apply zI));refine⟨?_⟩;refine a_heap _ (hI0 _) (fun H hI=>?_);obtain⟨g,idl,o,i,v,g2,g3,g4,g5,gop,gna,gar,gpa,gex,gki,e1,eo,e3,e4,e5,e6⟩:=hI;have o1:H.obj h.next=some (.arr 11 [pbZ]):=by rw[g.old _ (Nat.lt_succ_self _)];simp[Heap.new]
      have c3:=e3.cell;have c4:=e4.cell;have c5:=e5.cell;have c6:=e6.1.cell;have c7:=e6.2.1.cell;have c8:=e6.2.2.1.cell;have c9:=e6.2.2.2.cell;have n1:(h.next=h.next+1)=False:=(by simp);have hS:=PbI.setN (a:=na) (d:=⟨#[]⟩) (p:=pb0 ⟨#[]⟩ ⟨#[]⟩) g idl e1 e3 e4 e5 e6;(repeat'(first|refine a_seq fun K hK=>?_|refine uR trivial ?_|apply zI));refine uU trivial (hc _) ?_;replace zz:=uu @Bool.not_true (uu q1 (uu d0 r0));(repeat'(first|refine a_seq fun K hK=>?_|refine uR zz ?_|refine uK ?_|refine uC1 zz ?_|(refine uN hK ?_;clear hK)|apply zI));refine uU (uu r0 eo) (hn _) ?_;replace zz:=uu eo (uu o1 (uu d1 (uu n1 (uu c3 (uu c4 (uu c5 (uu c6 (uu c7 (uu c8 c9)))))))));(repeat'(first|refine a_seq fun K hK=>?_|refine uR zz ?_|refine uT zz ?_|refine uK ?_|refine uC1 zz ?_|(refine uN hK ?_;clear hK)|apply zI));exact pb_fin (q:=pb0 na ⟨#[]⟩) hF.symm e2 hS.grow e1 e3 (e4.mid (Nat.lt_succ_self _) _) (e5.mid (Nat.lt_succ_self _) _) e6
     |cons d secs=>
      simp only at hF;obtain⟨_,hdo,hsy,hss,hsl⟩:=hs n d secs w rfl;have hd:=fun h:Heap=>pnamed_c (want:=opDom) hdo h;have hde:=namedP_err (x:=d) (want:=opDom);have r1:=Sx.rows_get (l:=n::d::secs) (i:=1) rfl;have d1:decide (((Sx.rows (n::d::secs)).length:Int)<2)=false:=(by rw[hl];simp;omega);have ht:List.take (((Sx.rows (n::d::secs)).length:Int)-2).toNat (List.drop 2 (Sx.rows (n::d::secs)))=Sx.rows secs:=by
       simp only[Sx.rows,List.drop_succ_cons,List.drop_zero,List.length_cons];rw[List.take_of_length_le (by omega)]
      have q3:(2:Int)≤((Sx.rows (n::d::secs)).length:Int):=(by rw[hl];simp;omega);generalize hD:namedP d opDom=N at hF hd hde;obtain⟨da,cd⟩:=N;simp only at hF hd hde;have hdr: ∃ a b c d2 e f,d= .mk a b c d2 e f:=(by obtain⟨a,b,c,d2,e,f⟩:=d;exact⟨a,b,c,d2,e,f,rfl⟩);(try clear zz);clear ho hs hl;generalize Sx.rows (n::d::secs)=R at hc r0 r1 d0 d1 ht q3;obtain⟨ki,va,li,co,te,ks,rfl⟩:=hnr;obtain⟨ki2,va2,li2,co2,te2,ks2,rfl⟩:=hdr;simp only[Sx.cells]at r0 r1 hn hd;have n1:(h.next=h.next+1)=False:=(by simp);refine uG0 Tryz.func36 Tryz.ntmps36 Tryz.results36 Ty.hb_36 ?_;(repeat'(first|with_reducible refine a_holdR 2 ?_|refine a_seq fun K hK=>?_|refine uR trivial ?_|(refine uN hK ?_;clear hK)|apply zI));refine⟨?_⟩;refine a_heap _ (hI0 _) (fun H hI=>?_);obtain⟨g,idl,o,i,v,g2,g3,g4,g5,gop,gna,gar,gpa,gex,gki,e1,eo,e3,e4,e5,e6⟩:=hI;have hS:=PbI.setN (a:=na) (d:=⟨#[]⟩) (p:=pb0 ⟨#[]⟩ ⟨#[]⟩) g idl e1 e3 e4 e5 e6;(repeat'(first|refine a_seq fun K hK=>?_|refine uR trivial ?_|apply zI));refine uU trivial (hc _) ?_;replace zz:=uu @Bool.not_true (uu q1 (uu d0 r0));(repeat'(first|refine a_seq fun K hK=>?_|refine uR zz ?_|refine uK ?_|refine uC1 zz ?_|(refine uN hK ?_;clear hK)|apply zI));refine uU (uu r0 eo) (hn _) ?_;replace zz:=uu eo d1;(repeat'(first|with_reducible refine a_hold 11 ?_|refine a_seq fun K hK=>?_|refine uR zz ?_|refine uK ?_|refine uC1 zz ?_|(refine uN hK ?_;clear hK)|apply zI));refine⟨?_⟩;refine a_gen (fun S H=>S 2= .ptr h.next 0 0∧S 4= .ptr (h.next+1) 0 0∧S 6= .imm 6 R∧PbI (h.new (.arr 11 [pbZ])) (h.next+1) (pb0 na ⟨#[]⟩) H) ⟨by simp only[Ty.w,simprocAttr],by simp only[Ty.w,simprocAttr],by simp only[Ty.w,simprocAttr],hS⟩ ?_;(try clear zz);clear hI0 g eo e1 e3 e4 e5 e6 hS hn hc hne;rintro S H ⟨s2,s4,s6,hI⟩;obtain⟨g,idl,o,i,v,g2,g3,g4,g5,gop,gna,gar,gpa,gex,gki,e1,eo,e3,e4,e5,e6⟩:=hI;have o1:H.obj h.next=some (.arr 11 [pbZ]):=by rw[g.old _ (Nat.lt_succ_self _)];simp[Heap.new]
      have hS:=fun da=>PbI.setN (a:=na) (d:=da) (p:=pb0 na ⟨#[]⟩) g idl e1 e3 e4 e5 e6;simp only[pb0]at eo;cases hcd:cd==0 with
      |false=>
       rw[hcd]at hF;simp only[cond_false]at hF;have e0:errP cd=errV cd:=(by simp only[errP,hcd,cond_false]);have:=hde hcd;subst this;rw[e0]at hd;simp only[errV]at hd;have c3:=e3.cell;have c4:=e4.cell;have c5:=e5.cell;have c6:=e6.1.cell;have c7:=e6.2.1.cell;have c8:=e6.2.2.1.cell;have c9:=e6.2.2.2.cell;replace zz:=uu s2 (uu s4 (uu s6 r1));(repeat'(first|refine a_seq fun K hK=>?_|refine uR zz ?_|apply zI));replace zz:=uu s2 (uu s4 (uu s6 (uu r1 eo)));refine uU zz (hd _) ?_;replace zz:=uu s2 (uu s4 (uu s6 (uu eo (uu o1 (uu n1 (uu c3 (uu c4 (uu c5 (uu c6 (uu c7 (uu c8 c9)))))))))));(repeat'(first|refine a_seq fun K hK=>?_|refine uR zz ?_|refine uT zz ?_|(refine uN hK ?_;clear hK)|apply zI));exact pb_fin (q:=pb0 na ⟨#[]⟩) hF.symm e0 (hS ⟨#[]⟩).grow e1 e3 (e4.mid (Nat.lt_succ_self _) _) (e5.mid (Nat.lt_succ_self _) _) e6
      |true=>
       rw[hcd]at hF;simp only[cond_true]at hF;have e0:errP cd= .sc .nilIface:=(by simp only[errP,hcd,cond_true]);rw[e0]at hd;have hll:=Sx.rows_len secs;have hS:=hS da;replace zz:=uu s2 (uu s4 (uu s6 r1));(repeat'(first|refine a_seq fun K hK=>?_|refine uR zz ?_|apply zI));replace zz:=uu s2 (uu s4 (uu s6 (uu r1 eo)));refine uU zz (hd _) ?_;replace zz:=uu s2 (uu s4 (uu s6 eo));(repeat'(first|with_reducible refine a_holdR 14 ?_|refine a_seq fun K hK=>?_|refine uR zz ?_|refine uK ?_|refine uC1 zz ?_|(refine uN hK ?_;clear hK)|apply zI));refine⟨?_⟩;refine a_gen (fun S H=>S 2= .ptr h.next 0 0∧S 4= .ptr (h.next+1) 0 0∧S 6= .imm 6 R∧PbI (h.new (.arr 11 [pbZ])) (h.next+1) (pb0 na da) H) ⟨by simp only[Ty.w,simprocAttr,s2],by simp only[Ty.w,simprocAttr,s4],by simp only[Ty.w,simprocAttr,s6],hS⟩ ?_;(try clear zz);clear g eo e1 e3 e4 e5 e6 hS hd s2 s4 s6 o1;rintro S H ⟨s2,s4,s6,hI⟩;replace zz:=uu s2 (uu s4 (uu s6 (uu ht (uu q3 (uu hll (uu @Int.le_refl @Int.toNat_one))))));(repeat'(first|refine a_seq fun K hK=>?_|refine a_block ?_|refine uR zz ?_|(refine uN hK ?_;clear hK)|apply zI));refine a_loop (fun m S h'=>S 2= .ptr h.next 0 0∧S 4= .ptr (h.next+1) 0 0∧S 69= .imm 6 (Sx.rows secs)∧S 70= .sc (.int .i64 secs.length)∧ ∃ (k:Nat)(od:List ByteArray)(p:Pb),S 71= .sc (.int .i64 k)∧S 9= .imm 1 (strRows od)∧k≤secs.length∧m=secs.length-k∧od.length≤3∧
        PbI (h.new (.arr 11 [pbZ])) (h.next+1) p h'∧p.init.length≤k*1048576∧p.values.length≤k*1048576∧F=sectsP od p (secs.drop k)) secs.length ?_ ?_
       ·simp only[Ty.w,simprocAttr,s2,s4];exact⟨0,pbOrder,pb0 na da,rfl,rfl,by omega,rfl,by decide,hI,by simp[pb0],by simp[pb0],by rw[List.drop_zero];exact hF.symm⟩
       ·(try clear zz);clear hI hF s2 s4 s6 ht q3 r0 r1 d0 d1;rintro m S h' ⟨s2,s4,s69,s70,k,od,p,s71,s9,hk,rfl,hol,hI,hi1,hi2,hinv⟩;by_cases hlt:k<secs.length
        ·have hdk:decide ((k:Int)<(secs.length:Int))=true:=(by simp;omega);have w7:IntKind.i64.wrap ((k:Int)+1)=k+1:=(by rw[wrap64 (by omega) (by omega)]);obtain⟨y,hx⟩: ∃ y,secs[k]? =some y:=⟨_,List.getElem?_eq_getElem hlt⟩;have hr:=Sx.rows_get hx;have hmem:=List.mem_of_getElem? hx;have hyo:=hsy y hmem;have hys:=hss y hmem;have hch:=phead_c hyo;have hmo:=fun w l=>headM_ok2 hyo (w:=w) (l:=l);have hms:=fun w l=>headM_small hys (w:=w) (l:=l);rw[drop_of_get hx,sectsP]at hinv;generalize headM y=Y at hinv hch hmo hms;obtain⟨ki,va,li,co,te,ks⟩:=y;simp only[Sx.cells]at hr hch;replace zz:=uu s2 (uu s4 (uu s9 (uu s69 (uu s70 (uu s71 (uu hdk hr))))));(repeat'(first|with_reducible refine a_holdR 18 ?_|refine a_seq fun K hK=>?_|refine uR zz ?_|refine uK ?_|refine uC1 zz ?_|(refine uN hK ?_;clear hK)|apply zI));refine⟨?_⟩;refine a_tmp 11 rfl (by simp only[Ty.w,simprocAttr]) (sx_frz' · · ki va li co te ks) ?_;refine a_gen (fun S H=>S 2= .ptr h.next 0 0∧S 4= .ptr (h.next+1) 0 0∧S 9= .imm 1 (strRows od)∧S 69= .imm 6 (Sx.rows secs)∧S 70= .sc (.int .i64 secs.length)∧S 71= .sc (.int .i64 k)∧S 11= .cptr [.sc (.int .i64 ki),.sc (.int .i64 va),.sc (.int .i64 li),.sc (.int .i64 co),sPV te,.imm 6 (Sx.rows ks)]∧PbI (h.new (.arr 11 [pbZ])) (h.next+1) p H) ⟨by simp only[Ty.w,simprocAttr,s2],by simp only[Ty.w,simprocAttr,s4],by simp only[Ty.w,simprocAttr,s9],by simp only[Ty.w,simprocAttr,s69],by simp only[Ty.w,simprocAttr,s70],by simp only[Ty.w,simprocAttr,s71],by simp only[Ty.w,simprocAttr],hI.tmp _ _⟩ ?_;(try clear zz);clear hI s2 s4 s9 s69 s70 s71 hr hdk;rintro S h' ⟨s2,s4,s9,s69,s70,s71,s11,hI⟩;cases Y with
         |none=>
          simp only at hinv;simp only[headV]at hch;have hix:=fun(s:ByteArray)(H:Heap)=>index_c (h:=H) (l:=od) (s:=s) (by omega);obtain⟨g,idl,o,i,v,g2,g3,g4,g5,gop,gna,gar,gpa,gex,gki,e1,eo,e3,e4,e5,e6⟩:=hI;have o1:h'.obj h.next=some (.arr 11 [pbZ]):=by rw[g.old _ (Nat.lt_succ_self _)];simp[Heap.new]
          have c3:=e3.cell;have c4:=e4.cell;have c5:=e5.cell;have c6:=e6.1.cell;have c7:=e6.2.1.cell;have c8:=e6.2.2.1.cell;have c9:=e6.2.2.2.cell;replace zz:=uu s2 (uu s4 (uu s9 s11));(repeat'(first|refine a_seq fun K hK=>?_|refine uR zz ?_|apply zI));refine uU zz (hch _) ?_;(repeat'(first|refine a_seq fun K hK=>?_|refine uR (uu s2 (uu s4 s9)) ?_|(refine uN hK ?_;clear hK)|apply zI));refine uU (uu s2 (uu s4 s9)) (hix _ _) ?_;replace zz:=uu s2 (uu s4 (uu s9 (uu @Bool.not_false (uu eo (uu o1 (uu n1 (uu c3 (uu c4 (uu c5 (uu c6 (uu c7 (uu c8 c9))))))))))));(repeat'(first|refine a_seq fun K hK=>?_|refine uR zz ?_|refine uT zz ?_|(refine uN hK ?_;clear hK)|apply zI));exact pb_fin hinv rfl g e1 e3 e4 e5 e6
         |some wr=>
          obtain⟨w2,rest2⟩:=wr;obtain⟨_,_,mo⟩:=hmo w2 rest2 rfl;obtain⟨ml,ms⟩:=hms w2 rest2 rfl;(try clear zz);clear hmo hms;simp only at hinv;simp only[headV]at hch;have hix:=fun(H:Heap)=>index_c (h:=H) (l:=od) (s:=w2) (by omega);rcases after_idx w2 od with⟨a1,a2⟩|⟨j,a1,a2,a3⟩
          ·rw [a1]at hinv;rw[a2]at hix;simp only at hinv;obtain⟨g,idl,o,i,v,g2,g3,g4,g5,gop,gna,gar,gpa,gex,gki,e1,eo,e3,e4,e5,e6⟩:=hI;have o1:h'.obj h.next=some (.arr 11 [pbZ]):=by rw[g.old _ (Nat.lt_succ_self _)];simp[Heap.new]
           have c3:=e3.cell;have c4:=e4.cell;have c5:=e5.cell;have c6:=e6.1.cell;have c7:=e6.2.1.cell;have c8:=e6.2.2.1.cell;have c9:=e6.2.2.2.cell;have hneg:decide ((-1:Int)<0)=true:=rfl;replace zz:=uu s2 (uu s4 (uu s9 s11));(repeat'(first|refine a_seq fun K hK=>?_|refine uR zz ?_|apply zI));refine uU zz (hch _) ?_;(repeat'(first|refine a_seq fun K hK=>?_|refine uR (uu s2 (uu s4 s9)) ?_|(refine uN hK ?_;clear hK)|apply zI));refine uU (uu s2 (uu s4 s9)) (hix _) ?_;replace zz:=uu s2 (uu s4 (uu s9 (uu @Bool.not_true (uu hneg (uu eo (uu o1 (uu n1 (uu c3 (uu c4 (uu c5 (uu c6 (uu c7 (uu c8 c9)))))))))))));(repeat'(first|refine a_seq fun K hK=>?_|refine uR zz ?_|refine uT zz ?_|(refine uN hK ?_;clear hK)|apply zI));exact pb_fin hinv rfl g e1 e3 e4 e5 e6
          ·rw [a3]at hinv;rw[a2]at hix;simp only at hinv;have hse:=fun(H:Heap)(hI:PbI (h.new (.arr 11 [pbZ])) (h.next+1) p H)=>section_c (w:=w2) ml mo ms (by omega) (by omega) H hI;have hsc:=sectP_len p w2 rest2;generalize sectP p w2 rest2=W at hinv hse hsc;obtain⟨p2,c⟩:=W;simp only at hinv hse hsc;have hnn:decide ((j:Int)<0)=false:=(by simp);have wj:IntKind.i64.wrap ((j:Int)+1)=j+1:=(by rw[wrap64 (by omega) (by omega)]);have hsr:=strRows_len od;have b1:(0:Int)≤(j:Int)+1:=(by omega);have b2:((j:Int)+1)≤(od.length:Int):=(by omega);have hto:((j:Int)+1).toNat=j+1:=(by omega);have htk:List.take ((od.length:Int)-((j:Int)+1)).toNat (List.drop (j+1) (strRows od))=strRows (od.drop (j+1)):=by
            rw[List.take_of_length_le (by rw[List.length_drop,hsr];omega)];simp[strRows,List.map_drop]
           replace zz:=uu s2 (uu s4 (uu s9 s11));(repeat'(first|refine a_seq fun K hK=>?_|refine uR zz ?_|apply zI));refine uU zz (hch _) ?_;(repeat'(first|refine a_seq fun K hK=>?_|refine uR (uu s2 (uu s4 s9)) ?_|(refine uN hK ?_;clear hK)|apply zI));refine uU (uu s2 (uu s4 s9)) (hix _) ?_;replace zz:=uu s2 (uu s4 (uu s9 (uu @Bool.not_true (uu hnn (uu wj (uu hsr (uu b1 (uu b2 (uu hto (uu htk @Int.le_refl))))))))));(repeat'(first|refine a_seq fun K hK=>?_|refine uR zz ?_|refine uK ?_|refine uC1 zz ?_|(refine uN hK ?_;clear hK)|apply zI));refine owp_useL (hse _ hI) (by simp only[Ty.w,simprocAttr,s4];try rfl) ?_;rintro r h2 ⟨rfl,hI2⟩;(try clear zz);clear hI hse hch hix;simp(maxSteps:=2000000) only[Ty.w,simprocAttr,Ty.all];cases hcc:c==0 with
           |false=>
            rw[hcc]at hinv;simp only[cond_false]at hinv;have e0:errP c=errV c:=(by simp only[errP,hcc,cond_false]);simp only[e0,errV];obtain⟨g,idl,o,i,v,g2,g3,g4,g5,gop,gna,gar,gpa,gex,gki,e1,eo,e3,e4,e5,e6⟩:=hI2;have o1:h2.obj h.next=some (.arr 11 [pbZ]):=by rw[g.old _ (Nat.lt_succ_self _)];simp[Heap.new]
            have c3:=e3.cell;have c4:=e4.cell;have c5:=e5.cell;have c6:=e6.1.cell;have c7:=e6.2.1.cell;have c8:=e6.2.2.1.cell;have c9:=e6.2.2.2.cell;replace zz:=uu s2 (uu s4 (uu eo (uu o1 (uu n1 (uu c3 (uu c4 (uu c5 (uu c6 (uu c7 (uu c8 c9))))))))));(repeat'(first|refine a_seq fun K hK=>?_|refine uR zz ?_|refine uT zz ?_|(refine uN hK ?_;clear hK)|apply zI));exact pb_fin hinv e0 g e1 e3 e4 e5 e6
           |true=>
            rw[hcc]at hinv;simp only[cond_true]at hinv;have e0:errP c= .sc .nilIface:=(by simp only[errP,hcc,cond_true]);simp only[e0];replace zz:=uu s2 (uu s4 (uu s69 (uu s70 (uu s71 w7))));(repeat'(first|refine a_seq fun K hK=>?_|refine a_block ?_|refine uR zz ?_|refine uK ?_|(refine uN hK ?_;clear hK)|apply zI));exact⟨secs.length-(k+1),by omega,k+1,od.drop (j+1),p2,by simp,rfl,by omega,rfl,by simp;omega,hI2,by omega,by omega,hinv⟩
        ·have hdk:decide ((k:Int)<(secs.length:Int))=false:=(by simp;omega);rw[List.drop_eq_nil_of_le (by omega)]at hinv;simp only[sectsP]at hinv;obtain⟨g,idl,o,i,v,g2,g3,g4,g5,gop,gna,gar,gpa,gex,gki,e1,eo,e3,e4,e5,e6⟩:=hI;have o1:h'.obj h.next=some (.arr 11 [pbZ]):=by rw[g.old _ (Nat.lt_succ_self _)];simp[Heap.new]
         have c3:=e3.cell;have c4:=e4.cell;have c5:=e5.cell;have c6:=e6.1.cell;have c7:=e6.2.1.cell;have c8:=e6.2.2.1.cell;have c9:=e6.2.2.2.cell;replace zz:=uu s2 (uu s4 (uu s9 (uu s69 (uu s70 (uu s71 (uu hdk (uu eo (uu o1 (uu n1 (uu c3 (uu c4 (uu c5 (uu c6 (uu c7 (uu c8 c9)))))))))))))));(repeat'(first|refine a_seq fun K hK=>?_|refine uR zz ?_|refine uT zz ?_|refine uX ?_|refine uC1 zz ?_|(refine uN hK ?_;clear hK)|(clear hK;refine uN hK ?_;clear hK)|apply zI));exact pb_fin hinv rfl g e1 e3 e4 e5 e6
end Go.Proofs.YtjeolbgpllbemaaGreat
namespace Go.AM
section
variable {P:Program}{ow:Nat→Bool}{wf:FuncId→Bool}{n:Nat}{Q:Post}{s:Slots}{h:Heap}
def alIdx(ops:List Oper):List Nat:=(List.range ops.length).filter (alB ops)
def drn2(P:Program)(ow:Nat→Bool)(wf:FuncId→Bool)(n:Nat)(ops:List Oper)(al:List Nat)(base:Nat):Nat→List Oper→Past→List (Nat × Heap)→(Slots→Heap→Prop)→Slots→Heap→Prop
 |_,[],_,_,K,s,h=>K s h
 |k,o::rest,past,hist,K,s,h=>(o.dst.all (fun d=>decide (d<n))=true)∧match wantedB ops s o with
  |none=>False
  | some b => if b = true then
    (match o.op with
    | .alloc t=>(match zeroT P t with
     | some zs => 0 < zs.length ∧ (∀ f ∈ al, k < f → (h.set (base + k) (.arr zs.length [zs.map .sc])).obj (base + f) = none) ∧ (∀ x ∈ past, pre ops x.1 k = true ∨ Does P ow x.2.1 (pev x.2.2.1) (h.set (base + k) (.arr zs.length [zs.map .sc])) x.2.2.2 (h.set (base + k) (.arr zs.length [zs.map .sc]))) ∧
       drn2 P ow wf n ops al base (k+1) rest past ((k,h)::hist) K (updO s o.dst (.ptr (base+k) 0 0)) (h.set (base+k) (.arr zs.length [zs.map .sc]))
     |none=>False)
    |_=>(match callee (pev s) o.op with
     |none=>(match eff P (o.dst.any ow) o.op (pev s) h with
      |some (v,h1)=>if isW ow wf o=true then(∀ f∈al,k<f→h1.obj (base+f)=none)∧(∀ x∈past,pre ops x.1 k=true∨Does P ow x.2.1 (pev x.2.2.1) h1 x.2.2.2 h1)∧drn2 P ow wf n ops al base (k+1) rest past ((k,h)::hist) K (updO s o.dst v) h1
       else h1=h∧(∀ x∈hist,pre ops x.1 k=true∨Does P ow o (pev s) x.2 v x.2)∧drn2 P ow wf n ops al base (k+1) rest ((k,o,s,v)::past) hist K (updO s o.dst v) h
      |none=>False)
     |some _=>(if isW ow wf o=true then ∃ v h',Does P ow o (pev s) h v h'∧((∀ f∈al,k<f→h'.obj (base+f)=none)∧ ∀ x∈pastC P ow past,pre ops x.1 k=true∨x.2 h')∧drun2 P ow wf n ops base (k+1) rest (pastC P ow past) ((k,h)::hist) K (updO s o.dst v) h'
      else ∃ v,Does P ow o (pev s) h v h∧(∀ x∈hist,pre ops x.1 k=true∨Does P ow o (pev s) x.2 v x.2)∧drun2 P ow wf n ops base (k+1) rest (pastC P ow ((k,o,s,v)::past)) hist K (updO s o.dst v) h)))
   else drn2 P ow wf n ops al base (k+1) rest past hist K (updO s o.dst (.sc undef)) h
theorem mem_alIdx{ops:List Oper}{f:Nat}(h:alB ops f=true):f∈alIdx ops:=by
 simp only[alIdx,List.mem_filter,List.mem_range];refine⟨?_,h⟩;unfold alB at h;split at h
 ·rename_i o ho;exact(List.getElem?_eq_some_iff.1 ho).1
 ·simp at h
theorem drn2_drun2{ops:List Oper}{al:List Nat}(hal:alIdx ops=al){base:Nat}{K:Slots→Heap→Prop}:(rest:List Oper)→(k:Nat)→(past:Past)→(hist:List (Nat × Heap))→(s:Slots)→(h:Heap)→drn2 P ow wf n ops al base k rest past hist K s h→drun2 P ow wf n ops base k rest (pastC P ow past) hist K s h
 |[],_,_,_,_,_,hh=>by simpa only[drn2,drun2]using hh
 |o::rest,k,past,hist,s,h,hh=>by
  simp only[drn2]at hh;simp only[drun2];refine⟨hh.1,?_⟩;have h2:=hh.2;try clear zz
  clear hh;have pc: ∀ h1,(∀ x∈past,pre ops x.1 k=true∨Does P ow x.2.1 (pev x.2.2.1) h1 x.2.2.2 h1)→ ∀ x∈pastC P ow past,pre ops x.1 k=true∨x.2 h1:=by
   intro h1 hp x hx;obtain⟨y,hy,rfl⟩:=List.mem_map.1 hx;exact hp y hy
  have alc: ∀ h1:Heap,(∀ f∈al,k<f→h1.obj (base+f)=none)→ ∀ f,k<f→alB ops f=true→h1.obj (base+f)=none:=fun h1 hp f hf ha=>hp f (by rw[← hal];exact mem_alIdx ha) hf;cases hw:wantedB ops s o with
  |none=>rw[hw]at h2;exact h2
  |some b=>
   rw[hw]at h2;simp only at h2⊢;split at h2
   ·rename_i hb;rw[if_pos hb];split at h2
    ·rename_i t hop;split at h2
     ·rename_i zs hz;obtain⟨a1,a2,a3,a4⟩:=h2;have hi:isW ow wf o=true:=(by unfold isW;rw[hop]);rw[if_pos hi];exact⟨_,_,by unfold DoesR;rw[hop];exact⟨zs,hz,a1,rfl,rfl⟩,alc _ a2,pc _ a3,drn2_drun2 hal rest (k+1) _ _ _ _ a4⟩
     ·exact h2.elim
    ·rename_i hne;cases hc:callee (pev s) o.op with
     |none=>
      rw[hc]at h2;simp only at h2;cases he:eff P (o.dst.any ow) o.op (pev s) h with
      |none=>rw[he]at h2;exact h2.elim
      |some r=>
       obtain⟨v,h1⟩:=r;rw[he]at h2;simp only at h2;have hd:Does P ow o (pev s) h v h1:=(by unfold Does;rw[hc];exact he);split at h2
       ·rename_i hi;rw[if_pos hi];have hdr:DoesR P ow (base+k) o (pev s) h v h1:=by
         unfold DoesR;split
         ·rename_i t hop;exact absurd hop (hne t)
         ·exact hd
        exact⟨v,h1,hdr,alc h1 h2.1,pc h1 h2.2.1,drn2_drun2 hal rest (k+1) _ _ _ _ h2.2.2⟩
       ·rename_i hi;rw[if_neg hi];obtain⟨rfl,h3,h4⟩:=h2;exact⟨v,hd,h3,drn2_drun2 hal rest (k+1) _ _ _ _ h4⟩
     |some f=>
      rw[hc]at h2;simp only at h2;have dr: ∀ {v:PV}{h1:Heap},Does P ow o (pev s) h v h1→DoesR P ow (base+k) o (pev s) h v h1:=fun hd=>by
       unfold DoesR;split
       ·rename_i t hop;exact absurd hop (hne t)
       ·exact hd
      split at h2
      ·rename_i hi;rw[if_pos hi];obtain⟨v,h1,hd,h3,h4⟩:=h2;exact⟨v,h1,dr hd,alc h1 h3.1,h3.2,h4⟩
      ·rename_i hi;rw[if_neg hi];obtain⟨v,hd,h3,h4⟩:=h2;exact⟨v,hd,h3,h4⟩
   ·rename_i hb;rw[if_neg hb];exact drn2_drun2 hal rest (k+1) _ _ _ _ h2
theorem a_draw2S{id:Nat}{ops:List Oper}{K:Slots→Heap→Prop}(al:List Nat)(hd:dOk2 ow wf ops=true)(ha:alIdx ops=al)(hk:drn2 P ow wf n ops al h.next 0 ops [] [] K s ⟨h.next+ops.length,h.obj⟩):awp P ow wf n (.region id ops.toArray true) (Post.seq K Q) s h:=by
 simp only[awp,if_true];exact⟨_,_,.refl,.inr (.inl ⟨hd,drn2_drun2 ha ops 0 _ _ _ _ hk⟩)⟩
theorem a_dcall2{f:FuncId}{d:Nat}{args:List Operand}{ts:Array TypeId}{ty:TypeId}{pos:String}{af:Array Edge}{gd:Option (Nat × Bool)}{aS:List PV}{v:PV}{ops rest:List Oper}{base k k':Nat}{past:Past}{hist:List (Nat × Heap)}{K:Slots→Heap→Prop}(al:List Nat)(ha:alIdx ops=al)
  (hc:PCall P f aS h fun r h'=>r=v∧h'=h)(hs:args.map (pev s)=aS)
  (hk:drn2 P ow wf n ops al base k rest ((k',{dst:=some d,op:= .call {callee:= .value (.func f),args:=args.toArray,argTypes:=ts},type:=ty,pos:=pos,after:=af,guard:=gd},s,v)::past) hist K (upd s d v) h):
  ∃ v,Does P ow {dst:=some d,op:= .call {callee:= .value (.func f),args:=args.toArray,argTypes:=ts},type:=ty,pos:=pos,after:=af,guard:=gd} (pev s) h v h∧
   drun2 P ow wf n ops base k rest (pastC P ow ((k',{dst:=some d,op:= .call {callee:= .value (.func f),args:=args.toArray,argTypes:=ts},type:=ty,pos:=pos,after:=af,guard:=gd},s,v)::past)) hist K (upd s d v) h:=
 ⟨v,Does_use hc hs,drn2_drun2 ha _ _ _ _ _ _ hk⟩
theorem a_dcall2A{f:FuncId}{d:Nat}{args:List Operand}{ts:Array TypeId}{ty:TypeId}{pos:String}{af:Array Edge}{gd:Option (Nat × Bool)}{aS:List PV}{v:PV}{ops rest:List Oper}{base k k':Nat}{past:Past}{hist:List (Nat × Heap)}{K:Slots→Heap→Prop}{A:PV→Prop}(al:List Nat)(ha:alIdx ops=al)
  (hc:PCall P f aS h fun r h'=>r=v∧h'=h)(hs:args.map (pev s)=aS)(hA:A v)
  (hk:drn2 P ow wf n ops al base k rest ((k',{dst:=some d,op:= .call {callee:= .value (.func f),args:=args.toArray,argTypes:=ts},type:=ty,pos:=pos,after:=af,guard:=gd},s,v)::past) hist K (upd s d v) h):
  ∃ v,Does P ow {dst:=some d,op:= .call {callee:= .value (.func f),args:=args.toArray,argTypes:=ts},type:=ty,pos:=pos,after:=af,guard:=gd} (pev s) h v h∧A v∧
   drun2 P ow wf n ops base k rest (pastC P ow ((k',{dst:=some d,op:= .call {callee:= .value (.func f),args:=args.toArray,argTypes:=ts},type:=ty,pos:=pos,after:=af,guard:=gd},s,v)::past)) hist K (upd s d v) h:=
 ⟨v,Does_use hc hs,hA,drn2_drun2 ha _ _ _ _ _ _ hk⟩
end
end Go.AM
namespace Go.AM
mutual
def Nz:PV→PV→Prop
 | .imm z rows,p=>(∃ rows',p= .imm z rows'∧NzR rows rows')∨(rows=[]∧(p= .emp∨p= .sc (.slice none 0 0)))
 | .agg l,p=> ∃ l',p= .agg l'∧NzL l l'
 |q,p=>p=q
def NzL:List PV→List PV→Prop
 |[],[]=>True
 |p::ps,q::qs=>Nz p q∧NzL ps qs
 |_,_=>False
def NzR:List (List PV)→List (List PV)→Prop
 |[],[]=>True
 |p::ps,q::qs=>NzL p q∧NzR ps qs
 |_,_=>False
end
theorem NzL.len:(l l':List PV)→NzL l l'→l.length=l'.length
 |[],[],_=>rfl
 |[],_::_,h=>by simp[NzL]at h
 |_::_,[],h=>by simp[NzL]at h
 |p::l,q::l',h=>by
  unfold NzL at h;simp only[List.length_cons,NzL.len l l' h.2]
theorem NzR.len:(l l':List (List PV))→NzR l l'→l.length=l'.length
 |[],[],_=>rfl
 |[],_::_,h=>by simp[NzR]at h
 |_::_,[],h=>by simp[NzR]at h
 |p::l,q::l',h=>by
  unfold NzR at h;simp only[List.length_cons,NzR.len l l' h.2]
mutual
theorem Nz.refl:(p:PV)→Nz p p
 | .imm z rows=>by unfold Nz;exact .inl ⟨rows,rfl,NzR.refl rows⟩
 | .agg l=>by unfold Nz;exact⟨l,rfl,NzL.refl l⟩
 | .sc v=>by unfold Nz;rfl
 | .ptr _ _ _=>by unfold Nz;rfl
 | .cptr _=>by unfold Nz;rfl
 | .own _ _ _=>by unfold Nz;rfl
 | .emp=>by unfold Nz;rfl
 | .mp _=>by unfold Nz;rfl
 | .tup _=>by unfold Nz;rfl
 | .fn _ _ _=>by unfold Nz;rfl
 | .ab _ _ _ _ _=>by unfold Nz;rfl
theorem NzL.refl:(l:List PV)→NzL l l
 |[]=>by unfold NzL;trivial
 |p::l=>by unfold NzL;exact⟨Nz.refl p,NzL.refl l⟩
theorem NzR.refl:(l:List (List PV))→NzR l l
 |[]=>by unfold NzR;trivial
 |p::l=>by unfold NzR;exact⟨NzL.refl p,NzR.refl l⟩
end
section
variable {β:Env}{n:Nat}{F:Nat→Prop}{w:World}
mutual
theorem Nz.rep:(q p:PV)→(x:Value)→Nz q p→Rep β n F w p x→Rep β n F w q x
 | .imm z rows,p,x,h,hr=>by
  unfold Nz at h;rcases h with⟨rows',rfl,hR⟩|⟨rfl,rfl|rfl⟩
  ·simp only[Rep]at hr⊢;have hl:=NzR.len rows rows' hR;obtain⟨a,cap,rfl,g1,g2,g3⟩:=hr;refine⟨a,cap,by rw[hl],by omega,g2,?_⟩;rcases g3 with g3|⟨b,o,hF,ha,hRR⟩
   ·left;rw[g3]at hl;exact List.length_eq_zero_iff.1 hl
   ·exact .inr ⟨b,o,hF,ha,NzR.rep z rows rows' b o hR hRR⟩
  ·simp only[Rep]at hr⊢;obtain⟨a,rfl⟩:=hr;exact⟨a,0,rfl,Nat.le_refl _,Nat.zero_le _,.inl trivial⟩
  ·simp only[Rep]at hr⊢;exact⟨none,0,hr,Nat.le_refl _,Nat.zero_le _,.inl trivial⟩
 | .agg l,p,x,h,hr=>by
  unfold Nz at h;obtain⟨l',rfl,hl⟩:=h;simp only[Rep]at hr⊢;obtain⟨xs,rfl,h1,h2⟩:=hr;exact⟨xs,rfl,h1,NzL.rep l l' xs hl h2⟩
 | .sc _,p,x,h,hr=>by unfold Nz at h;subst h;exact hr
 | .ptr _ _ _,p,x,h,hr=>by unfold Nz at h;subst h;exact hr
 | .cptr _,p,x,h,hr=>by unfold Nz at h;subst h;exact hr
 | .own _ _ _,p,x,h,hr=>by unfold Nz at h;subst h;exact hr
 | .emp,p,x,h,hr=>by unfold Nz at h;subst h;exact hr
 | .mp _,p,x,h,hr=>by unfold Nz at h;subst h;exact hr
 | .tup _,p,x,h,hr=>by unfold Nz at h;subst h;exact hr
 | .fn _ _ _,p,x,h,hr=>by unfold Nz at h;subst h;exact hr
 | .ab _ _ _ _ _,p,x,h,hr=>by unfold Nz at h;subst h;exact hr
theorem NzL.rep:(l l':List PV)→(xs:List Value)→NzL l l'→RepL β n F w l' xs→RepL β n F w l xs
 |[],[],xs,_,hr=>hr
 |[],_::_,_,h,_=>by simp[NzL]at h
 |_::_,[],_,h,_=>by simp[NzL]at h
 |p::l,q::l',[],_,hr=>by simp[RepL]at hr
 |p::l,q::l',v::xs,h,hr=>by
  unfold NzL at h;unfold RepL at hr⊢;exact⟨Nz.rep p q v h.1 hr.1,NzL.rep l l' xs h.2 hr.2⟩
theorem NzS.rep:(l l':List PV)→(b o:Nat)→NzL l l'→RepS β n F w l' b o→RepS β n F w l b o
 |[],[],_,_,_,_=>by unfold RepS;trivial
 |[],_::_,_,_,h,_=>by simp[NzL]at h
 |_::_,[],_,_,h,_=>by simp[NzL]at h
 |p::l,q::l',b,o,h,hr=>by
  unfold NzL at h;unfold RepS at hr⊢;obtain⟨⟨v,h1,h2,h3⟩,h4⟩:=hr;exact⟨⟨v,h1,h2,Nz.rep p q v h.1 h3⟩,NzS.rep l l' b (o+1) h.2 h4⟩
theorem NzR.rep(z:Nat):(l l':List (List PV))→(b o:Nat)→NzR l l'→RepR β n F w z l' b o→RepR β n F w z l b o
 |[],[],_,_,_,_=>by unfold RepR;trivial
 |[],_::_,_,_,h,_=>by simp[NzR]at h
 |_::_,[],_,_,h,_=>by simp[NzR]at h
 |p::l,q::l',b,o,h,hr=>by
  unfold NzR at h;unfold RepR at hr⊢;exact⟨⟨by rw[NzL.len p q h.1];exact hr.1.1,NzS.rep p q b o h.1 hr.1.2⟩,NzR.rep z l l' b (o+z) h.2 hr.2⟩
end
end
theorem PCall.nz{P:Program}{f:FuncId}{ys xs:List PV}{h:Heap}{K:PV→Heap→Prop}(hc:PCall P f ys h K)(hz:NzL ys xs):PCall P f xs h K:=
 fun β w vals sm hr=>hc β w vals sm (NzL.rep ys xs vals hz hr)
theorem nz_nil{z:Nat}:Nz (.imm z []) (.sc (.slice none 0 0)):=by unfold Nz;exact .inr ⟨rfl,.inr rfl⟩
theorem nz_imm{z:Nat}{r r':List (List PV)}(h:NzR r r'):Nz (.imm z r) (.imm z r'):=by unfold Nz;exact .inl ⟨_,rfl,h⟩
theorem nz_agg{r r':List PV}(h:NzL r r'):Nz (.agg r) (.agg r'):=by unfold Nz;exact⟨_,rfl,h⟩
theorem nz_cons{p q:PV}{l m:List PV}(h:Nz p q)(h2:NzL l m):NzL (p::l) (q::m):=by unfold NzL;exact⟨h,h2⟩
theorem nzr_cons{p q:List PV}{l m:List (List PV)}(h:NzL p q)(h2:NzR l m):NzR (p::l) (q::m):=by unfold NzR;exact⟨h,h2⟩
end Go.AM
namespace Go.Proofs.YtjeolbgpllbemaaGreat
open Go.AM
set_option maxHeartbeats 8000000
set_option maxRecDepth 20000
abbrev sxZ:List PV:=[.sc (.int .i64 0),.sc (.int .i64 0),.sc (.int .i64 0),.sc (.int .i64 0),.sc (.string ⟨#[]⟩),.sc (.slice none 0 0)]
abbrev sxP:List PV:=[.sc (.int .i64 3),.sc (.int .i64 0),.sc (.int .i64 0),.sc (.int .i64 0),.sc (.string ⟨#[]⟩)]
structure PbSm(p:Pb):Prop where
 g:p.goal.small
 o:p.objects.length≤1048576
 i:p.init.length≤1048576
 v:p.values.length≤1048576
 ia: ∀ a∈p.init,a.args.length≤1048576
 va: ∀ v∈p.values,v.at_.args.length≤1048576
abbrev PwI(h:Heap)(L:List Sx)(H:Heap):Prop:=GrI h h.next (h.next+17) (h.next+18) 6 6 6 sxZ sxP [] (Sx.rows L) H
abbrev PwJ(h:Heap)(L:List Sx)(H:Heap):Prop:=GrJ h h.next (h.next+17) (h.next+18) 6 6 6 sxZ sxP [] (Sx.rows L) H
theorem atW_ok{a:At}(ha:a.ok)(hl:a.args.length≤1048576):(atW a).ok:=wordsM_ok ha.1 hl ha.2.2
theorem listM_okL{l:List Sx}(hl:l.length≤bigN)(h: ∀ x∈l,x.ok):(listM l).ok:=by
 simp only[listM,Sx.ok];exact⟨by omega,by omega,by simp[bigN,ByteArray.size],hl,Sx.oks_iff.2 h⟩
theorem nameS_ok{w s:ByteArray}(hw:w.size≤bigN)(hs:s.size≤bigN):(nameS w s).ok:=listM_okL (by simp[bigN]) (by
 intro x hx;simp only[List.mem_cons,List.not_mem_nil,or_false]at hx;rcases hx with rfl|rfl
 ·exact wordM_ok hw
 ·exact wordM_ok hs)
theorem pbW_okS{p:Pb}(hok:p.ok)(hsm:PbSm p)(hv:shapedF p.goal=true):(pbW p).ok:=by
 obtain⟨k1,k2,⟨k3,k4⟩,⟨k5,k6⟩,⟨k7,k8⟩,k9⟩:=hok;have so:=hsm.o;have si:=hsm.i;have sv:=hsm.v;refine listM_okL ?_ ?_
 ·have h1:(objsW p.objects).length≤1:=by unfold objsW;split<;>simp
  have h2:(initW p.init p.values).length≤1:=by unfold initW;split<;>simp
  have h3:(goalW p.goal).length≤1:=by unfold goalW;split<;>simp
  simp only[List.length_append,List.length_cons,List.length_nil,bigN];omega
 ·intro x hx;simp only[List.mem_append,List.mem_cons,List.not_mem_nil,or_false]at hx;rcases hx with(rfl|rfl|rfl)|hx|hx|hx
  ·exact wordM_ok (by decide)
  ·exact nameS_ok (by decide) k1
  ·exact nameS_ok (by decide) k2
  ·unfold objsW at hx;split at hx
   ·cases hx
   ·simp only[List.mem_singleton]at hx;subst hx;refine listM_okL (by simp only[List.length_cons,paramsW_len,bigN];omega) ?_;intro y hy;rcases List.mem_cons.1 hy with rfl|hy
    ·exact wordM_ok (by decide)
    ·exact Sx.oks_iff.1 (paramsW_ok _ k4) y hy
  ·unfold initW at hx;split at hx
   ·cases hx
   ·simp only[List.mem_singleton]at hx;subst hx;refine listM_okL (by simp only[List.length_cons,List.length_append,List.length_map,bigN];omega) ?_;intro y hy;simp only[List.mem_cons,List.mem_append,List.mem_map]at hy;rcases hy with rfl|⟨a,ha,rfl⟩|⟨v,hv,rfl⟩
    ·exact wordM_ok (by decide)
    ·exact atW_ok (k6 a ha) (hsm.ia a ha)
    ·refine listM_okL (by simp[bigN]) ?_;intro z hz;simp only[List.mem_cons,List.not_mem_nil,or_false]at hz;rcases hz with rfl|rfl|rfl
     ·exact wordM_ok (by decide)
     ·exact atW_ok (k8 v hv).1 (hsm.va v hv)
     ·simp only[numM,Sx.ok,Sx.oks,List.length_nil];exact⟨by omega,⟨(k8 v hv).2.1,(k8 v hv).2.2⟩,by simp[bigN,ByteArray.size],by simp[bigN],trivial⟩
  ·unfold goalW at hx;split at hx
   ·cases hx
   ·simp only[List.mem_singleton]at hx;subst hx;refine listM_okL (by simp[bigN]) ?_;intro y hy;simp only[List.mem_cons,List.not_mem_nil,or_false]at hy;rcases hy with rfl|rfl
    ·exact wordM_ok (by decide)
    ·exact fmW_ok _ k9 hsm.g hv
theorem pbW_ok{p:Pb}(hok:p.ok)(hsm:PbSm p)(hv:validF p.goal=true):(pbW p).ok:=pbW_okS hok hsm (validF_shaped hv)
theorem pWrite_c{p:Pb}(hok:p.ok)(hsm:PbSm p)(h:Heap):PCall Tryz.prog 9 [.agg p.cells] h fun r h'=>r=(if writeB p then .tup [.agg (pbW p).cells,.sc .nilIface]else .tup [.agg zeroSx.cells,errV 2])∧h'=h:=by
 refine PCall.frz Ty.hb_9 ?_;have hW:=fun h:Heap=>fWrite_c hok.2.2.2.2.2 hsm.g h;have hE:=expressible_c hok;generalize hF:writeB p=F;unfold writeB at hF;have bad: ∀ (h':Heap),F=false→FrzTo h.next h' (if F=true then .tup [.agg (pbW p).cells,.sc .nilIface]else .tup [.agg zeroSx.cells,errV 2]) (.tup [.agg sxZ,errV 2]):=by
  intro h' hf;rw[hf,if_neg (by simp)];simp only[zeroSx,errV,Sx.cells,Sx.rows,FrzTo,FrzL];exact⟨_,rfl,⟨_,rfl,rfl,rfl,rfl,rfl,rfl,.inr (.inl ⟨rfl,.inr rfl⟩),trivial⟩,rfl,trivial⟩
 simp only[errV]at bad;have hgW: ∀ a b,Grow h (((h.new a).new b).set h.next a):=fun a b=>(((Grow.refl h).new a).new b).set (Nat.le_refl _) a;have hlO:=pmRows_len p.objects;have hlI:=atRows_len p.init;have hlV:=vlRows_len p.values;obtain⟨name,domain,objects,init,values,goal⟩:=p;simp only at hlO hlI hlV;cases v1:validF goal with
 |false=>
  simp only[v1,Bool.false_eq_true,if_false]at hW;simp only[v1,Bool.false_and]at hF;try clear zz
  clear hE hok hsm;obtain⟨gop,gname,gargs,gparams,gexprs,gkids⟩:=goal;simp only[Pb.cells,Fm.cells,List.cons_append,List.nil_append,zeroSx,Sx.cells,Sx.rows,errV]at hW⊢;refine uG (ow:=fun t=>t==40||t==49||t==67) (wf:=fun _=>false) Tryz.func9 Tryz.ntmps9 Tryz.results9 Ty.hb_9 ?_;repeat'(first|refine a_seq fun K hK=>?_|refine uR trivial ?_|(refine uN hK ?_;clear hK)|apply zI)
  refine uU trivial (hW _) ?_;repeat'(first|refine a_seq fun K hK=>?_|refine uR @nsucc ?_|refine uT @nsucc ?_|(refine uN hK ?_;clear hK)|apply zI)
  exact⟨bad _ hF.symm,((((Grow.refl h).new _).new _).set (Nat.le_succ _) _).set (Nat.le_refl _) _⟩
 |true=>
  simp only[v1,if_true]at hW;simp only[v1,Bool.true_and]at hF;generalize hV2:expressB _=ex at hF hE;cases ex with
  |false=>
   simp only[Bool.false_and]at hF;(try clear zz);clear hok hsm;generalize fmW goal=X at hW;obtain⟨gop,gname,gargs,gparams,gexprs,gkids⟩:=goal;obtain⟨ki,va,li,co,te,ks⟩:=X;simp only[Pb.cells,Fm.cells,List.cons_append,List.nil_append,Sx.cells]at hW hE⊢;refine uG (ow:=fun t=>t==40||t==49||t==67) (wf:=fun _=>false) Tryz.func9 Tryz.ntmps9 Tryz.results9 Ty.hb_9 ?_;(repeat'(first|refine a_seq fun K hK=>?_|refine uR trivial ?_|(refine uN hK ?_;clear hK)|apply zI));refine uU trivial (hW _) ?_;(repeat'(first|refine a_seq fun K hK=>?_|refine uR @nsucc ?_|(refine uN hK ?_;clear hK)|apply zI));refine uU @Bool.not_false (hE _) ?_;replace zz:=uu @Bool.not_false @nsucc;(repeat'(first|refine a_seq fun K hK=>?_|refine uR zz ?_|refine uT zz ?_|(refine uN hK ?_;clear hK)|apply zI));exact⟨bad _ hF.symm,((((Grow.refl h).new _).new _).set (Nat.le_succ _) _).set (Nat.le_refl _) _⟩
  |true=>
   simp only[Bool.true_and]at hF;have hpw:pbW ⟨name,domain,objects,init,values,goal⟩=listM ([wordM opDef,nameS opPrb name,nameS opDom domain]++(objsW objects++(initW init values++goalW goal))):=rfl;have hPWo:=pbW_ok hok hsm v1;generalize pbW _=PW at hpw hF hPWo⊢;have hgE:goalW goal=if goalE goal then[]else[listM [wordM opGoal,fmW goal]]:=rfl
   generalize hX:fmW goal=X at hW hgE;obtain⟨gop,gname,gargs,gparams,gexprs,gkids⟩:=goal;obtain⟨ki,va,li,co,te,ks⟩:=X;simp only[Pb.cells,Fm.cells,List.cons_append,List.nil_append,Sx.cells]at hW hE⊢;have hwd: ∀ (s:ByteArray)(h:Heap),PCall Tryz.prog 27 [sPV s] h fun r h'=>r= .agg (wordM s).cells∧h'=h:=fun s h=>pword_c;simp only[wordM,Sx.cells,Sx.rows]at hwd;have hl2:=fun(a b:ByteArray)(h:Heap)=>plist_c (h:=h) (p:= .imm 6 (Sx.rows [wordM a,wordM b])) rfl (fun _=>frz_imm (sxs_in _ _));simp only[wordM,Sx.cells,Sx.rows]at hl2;refine uG (ow:=fun t=>t==40||t==49||t==67) (wf:=fun _=>false) Tryz.func9 Tryz.ntmps9 Tryz.results9 Ty.hb_9 ?_;(repeat'(first|refine a_seq fun K hK=>?_|refine uR trivial ?_|(refine uN hK ?_;clear hK)|apply zI));refine uU trivial (hW _) ?_;(repeat'(first|with_reducible refine a_hold 2 ?_|(refine uN hK ?_;clear hK)|apply zI));refine⟨?_⟩;refine a_tmp (h:=h.new (.arr 6 [sxZ])) 4 rfl (by simp only[Ty.w,simprocAttr]) (sx_frz' · · ki va li co te ks) ?_;refine a_gen (fun S H=>S 1= .cptr [sPV name,sPV domain,.imm 2 (pmRows objects),.imm 2 (atRows init),.imm 3 (vlRows values),sPV gop,sPV gname,.imm 1 (strRows gargs),.imm 2 (pmRows gparams),.imm 5 (Ex.rows gexprs),.imm 6 (Fm.rows gkids)]∧S 2= .ptr h.next 0 0∧S 4= .cptr [.sc (.int .i64 ki),.sc (.int .i64 va),.sc (.int .i64 li),.sc (.int .i64 co),sPV te,.imm 6 (Sx.rows ks)]∧S 5= .sc .nilIface∧H=tmpH (h.new (.arr 6 [sxZ])) (.arr 6 [sxZ]) (.arr 6 [[.sc (.int .i64 ki),.sc (.int .i64 va),.sc (.int .i64 li),.sc (.int .i64 co),sPV te,.imm 6 (Sx.rows ks)]])) ⟨by simp only[Ty.w,simprocAttr],by simp only[Ty.w,simprocAttr],by simp only[Ty.w,simprocAttr],by simp only[Ty.w,simprocAttr],rfl⟩ ?_;(try clear zz);clear hW;rintro S H ⟨s1,s2,s4,s5,hH⟩;have hn:H.next=h.next+2:=by rw[hH];try rfl
   have hg:Grow h H:=(by rw[hH];exact((Grow.refl h).new _).tmp _ _);have ho:H.obj h.next=some (.arr 6 [sxZ]):=by rw[hH,tmpH_obj (Nat.lt_succ_self _)];simp[Heap.new]
   have hno: ∀ j,h.next<j→H.obj j=none:=fun j hj=>by
    rw[hH];simp only[tmpH,below];split
    ·rename_i hjj;simp only[Heap.new]at hjj;omega
    ·rfl
   (try clear zz);clear hH;replace zz:=uu s1 (uu s2 (uu s4 s5));(repeat'(first|refine a_seq fun K hK=>?_|refine uR zz ?_|apply zI));replace zz:=uu s1 (uu s2 (uu s4 (uu s5 @Bool.not_true)));refine uU zz (hE _) ?_;(repeat'(first|with_reducible refine a_holdR 4 ?_|refine uK ?_|refine uC1 zz ?_|(refine uN hK ?_;clear hK)|apply zI));refine⟨?_⟩;refine a_gen (fun S H'=>S 1= .cptr [sPV name,sPV domain,.imm 2 (pmRows objects),.imm 2 (atRows init),.imm 3 (vlRows values),sPV gop,sPV gname,.imm 1 (strRows gargs),.imm 2 (pmRows gparams),.imm 5 (Ex.rows gexprs),.imm 6 (Fm.rows gkids)]∧S 2= .ptr h.next 0 0∧S 4= .cptr [.sc (.int .i64 ki),.sc (.int .i64 va),.sc (.int .i64 li),.sc (.int .i64 co),sPV te,.imm 6 (Sx.rows ks)]∧H'=H) ⟨by simp only[Ty.w,simprocAttr,s1],by simp only[Ty.w,simprocAttr,s2],by simp only[Ty.w,simprocAttr,s4],rfl⟩ ?_;(try clear zz);clear s1 s2 s4 s5 hE;rintro S H' ⟨s1,s2,s4,rfl⟩;refine a_seq (fun K hK=>?_);refine a_draw2S [15] (by decide+kernel) (by decide+kernel) ?_;have hn15:H'.obj (H'.next+15)=none:=hno _ (by omega);have u1:(H'.next=H'.next+2)=False:=eq_false (by omega);simp(maxSteps:=4000000) only[drn2,Ty.w,simprocAttr,Ty.all,List.forall_mem_cons,s1,s2,s4,hn15,u1];first
    |refine a_dcall2 [15] (by decide+kernel) (hwd _ _) (by(try simp only[Ty.w,simprocAttr,s1,s2,s4,hn15,u1]);try rfl) ?_
    |refine a_dcall2A [15] (by decide+kernel) (hwd _ _) (by(try simp only[Ty.w,simprocAttr,s1,s2,s4,hn15,u1]);try rfl) (by simp only[Ty.w,simprocAttr,Ty.all,s1,s2,s4,hn15,u1];try trivial) ?_
   simp(maxSteps:=4000000) only[drn2,Ty.w,simprocAttr,Ty.all,List.forall_mem_cons,List.nil_append,s1,s2,s4,hn15,u1];first
    |refine a_dcall2 [15] (by decide+kernel) (hwd _ _) (by(try simp only[Ty.w,simprocAttr,s1,s2,s4,hn15,u1]);try rfl) ?_
    |refine a_dcall2A [15] (by decide+kernel) (hwd _ _) (by(try simp only[Ty.w,simprocAttr,s1,s2,s4,hn15,u1]);try rfl) (by simp only[Ty.w,simprocAttr,Ty.all,s1,s2,s4,hn15,u1];try trivial) ?_
   simp(maxSteps:=4000000) only[drn2,Ty.w,simprocAttr,Ty.all,List.forall_mem_cons,List.nil_append,s1,s2,s4,hn15,u1];first
    |refine a_dcall2 [15] (by decide+kernel) (hwd _ _) (by(try simp only[Ty.w,simprocAttr,s1,s2,s4,hn15,u1]);try rfl) ?_
    |refine a_dcall2A [15] (by decide+kernel) (hwd _ _) (by(try simp only[Ty.w,simprocAttr,s1,s2,s4,hn15,u1]);try rfl) (by simp only[Ty.w,simprocAttr,Ty.all,s1,s2,s4,hn15,u1];try trivial) ?_
   simp(maxSteps:=4000000) only[drn2,Ty.w,simprocAttr,Ty.all,List.forall_mem_cons,List.nil_append,s1,s2,s4,hn15,u1];first
    |refine a_dcall2 [15] (by decide+kernel) (hl2 _ _ _) (by(try simp only[Ty.w,simprocAttr,s1,s2,s4,hn15,u1]);try rfl) ?_
    |refine a_dcall2A [15] (by decide+kernel) (hl2 _ _ _) (by(try simp only[Ty.w,simprocAttr,s1,s2,s4,hn15,u1]);try rfl) (by simp only[Ty.w,simprocAttr,Ty.all,s1,s2,s4,hn15,u1];try trivial) ?_
   simp(maxSteps:=4000000) only[drn2,Ty.w,simprocAttr,Ty.all,List.forall_mem_cons,List.nil_append,s1,s2,s4,hn15,u1];first
    |refine a_dcall2 [15] (by decide+kernel) (hwd _ _) (by(try simp only[Ty.w,simprocAttr,s1,s2,s4,hn15,u1]);try rfl) ?_
    |refine a_dcall2A [15] (by decide+kernel) (hwd _ _) (by(try simp only[Ty.w,simprocAttr,s1,s2,s4,hn15,u1]);try rfl) (by simp only[Ty.w,simprocAttr,Ty.all,s1,s2,s4,hn15,u1];try trivial) ?_
   simp(maxSteps:=4000000) only[drn2,Ty.w,simprocAttr,Ty.all,List.forall_mem_cons,List.nil_append,s1,s2,s4,hn15,u1];first
    |refine a_dcall2 [15] (by decide+kernel) (hwd _ _) (by(try simp only[Ty.w,simprocAttr,s1,s2,s4,hn15,u1]);try rfl) ?_
    |refine a_dcall2A [15] (by decide+kernel) (hwd _ _) (by(try simp only[Ty.w,simprocAttr,s1,s2,s4,hn15,u1]);try rfl) (by simp only[Ty.w,simprocAttr,Ty.all,s1,s2,s4,hn15,u1];try trivial) ?_
   simp(maxSteps:=4000000) only[drn2,Ty.w,simprocAttr,Ty.all,List.forall_mem_cons,List.nil_append,s1,s2,s4,hn15,u1];first
    |refine a_dcall2 [15] (by decide+kernel) (hl2 _ _ _) (by(try simp only[Ty.w,simprocAttr,s1,s2,s4,hn15,u1]);try rfl) ?_
    |refine a_dcall2A [15] (by decide+kernel) (hl2 _ _ _) (by(try simp only[Ty.w,simprocAttr,s1,s2,s4,hn15,u1]);try rfl) (by simp only[Ty.w,simprocAttr,Ty.all,s1,s2,s4,hn15,u1];try trivial) ?_
   simp(maxSteps:=4000000) only[drn2,Ty.w,simprocAttr,Ty.all,List.forall_mem_cons,List.nil_append,s1,s2,s4,hn15,u1];refine⟨?_,?_⟩
   ·(repeat' apply And.intro)<;>exact .inl (by decide+kernel)
   refine a_dcall2A [15] (by decide+kernel) (plist_c (p:= .own (H'.next+17) 0 3) rfl (fun _=>frz_own (by simp[Heap.new]))) (by(try simp only[Ty.w,simprocAttr,s1,s2,s4,hn15,u1]);try rfl) (.inl (by decide+kernel)) ?_;simp(maxSteps:=4000000) only[drn2,Ty.w,simprocAttr,Ty.all,List.forall_mem_cons,List.nil_append,s1,s2,s4,hn15,u1];have hl3: ∀ h:Heap,H'.next+17<h.next→PCall Tryz.prog 26 [.own (H'.next+17) 0 3] h fun r h'=>r= .agg [.sc (.int .i64 3),.sc (.int .i64 0),.sc (.int .i64 0),.sc (.int .i64 0),.sc (.string ⟨#[]⟩),.own (H'.next+17) 0 3]∧h'=h:=fun h hh=>plist_c rfl (fun _=>frz_own hh)
   refine⟨?_,?_⟩
   ·(repeat' apply And.intro)<;>first
     |exact .inl (by decide+kernel)
     |exact .inr (Does_use (hwd _ _) (by(try simp only[Ty.w,simprocAttr,s1,s2,s4,hn15,u1]);try rfl))
     |exact .inr (Does_use (hl2 _ _ _) (by(try simp only[Ty.w,simprocAttr,s1,s2,s4,hn15,u1]);try rfl))
     |exact .inr (Does_use (hl3 _ (by simp[Heap.new,Heap.set])) (by(try simp only[Ty.w,simprocAttr,s1,s2,s4,hn15,u1]);try rfl))
   refine⟨?_,?_⟩
   ·(repeat' apply And.intro)<;>first
     |exact .inl (by decide+kernel)
     |exact .inr (Does_use (hwd _ _) (by(try simp only[Ty.w,simprocAttr,s1,s2,s4,hn15,u1]);try rfl))
   refine hK _ _ ?_;(try clear zz);clear hK;have e15:H'.next+15=h.next+17:=by omega
   refine a_gen (fun S H=>S 1= .cptr [sPV name,sPV domain,.imm 2 (pmRows objects),.imm 2 (atRows init),.imm 3 (vlRows values),sPV gop,sPV gname,.imm 1 (strRows gargs),.imm 2 (pmRows gparams),.imm 5 (Ex.rows gexprs),.imm 6 (Fm.rows gkids)]∧S 2= .ptr h.next 0 0∧S 4= .cptr [.sc (.int .i64 ki),.sc (.int .i64 va),.sc (.int .i64 li),.sc (.int .i64 co),sPV te,.imm 6 (Sx.rows ks)]∧S 6= .ptr (h.next+17) 0 0∧PwI h [wordM opDef,nameS opPrb name,nameS opDom domain] H) ⟨by simp only[Ty.w,simprocAttr,s1],by simp only[Ty.w,simprocAttr,s2],by simp only[Ty.w,simprocAttr,s4],by simp only[Ty.w,simprocAttr,e15],?_⟩ ?_
   ·have hgx:Grow h ⟨H'.next+17,H'.obj⟩:=⟨by simp only;omega,hg.old⟩;refine GrI.mk2 (p:= .own (H'.next+17) 0 3) (((hgx.new _).set (by omega) _).set (by omega) _) ⟨Nat.le_refl _,by omega,by omega,by omega,by simp only[Heap.set,Heap.new];omega,by omega⟩ ?_ ?_ ?_
    ·simp only[Heap.set,Heap.new];(repeat rw[if_neg (by omega)]);exact ho
    ·simp only[Heap.set];rw[if_pos e15.symm];try rfl
    ·refine .inr ⟨H'.next+17,by omega,by simp[Heap.set,Heap.new],rfl,?_⟩;simp only[Heap.set,Heap.new];(repeat rw[if_neg (by omega)]);rw[if_pos trivial];try rfl
   (try clear zz);clear s1 s2 s4 hn15 u1 e15 hn hg ho hno hl3 hl2;rintro S H ⟨s1,s2,s4,s6,hI⟩;refine a_cut (fun S H=>S 1= .cptr [sPV name,sPV domain,.imm 2 (pmRows objects),.imm 2 (atRows init),.imm 3 (vlRows values),sPV gop,sPV gname,.imm 1 (strRows gargs),.imm 2 (pmRows gparams),.imm 5 (Ex.rows gexprs),.imm 6 (Fm.rows gkids)]∧S 2= .ptr h.next 0 0∧S 4= .cptr [.sc (.int .i64 ki),.sc (.int .i64 va),.sc (.int .i64 li),.sc (.int .i64 co),sPV te,.imm 6 (Sx.rows ks)]∧S 6= .ptr (h.next+17) 0 0∧(PwI h ([wordM opDef,nameS opPrb name,nameS opDom domain]++objsW objects) H∨PwJ h ([wordM opDef,nameS opPrb name,nameS opDom domain]++objsW objects) H)) ?_ ?_
   ·cases dO:decide ((objects.length:Int)>0)with
    |false=>
     have e:objects=[]:=by
      cases objects with
      |nil=>rfl
      |cons=>simp at dO
     subst e;replace zz:=uu s1 (uu s2 (uu s4 (uu s6 (uu hlO dO))));(repeat'(first|refine a_seq fun K hK=>?_|refine uR zz ?_|refine uK ?_|refine uC1 zz ?_|(refine uN hK ?_;clear hK)|apply zI));exact⟨s1,s2,s4,s6,.inl hI⟩
    |true=>
     have hob:objsW objects=[objsS objects]:=by
      cases objects with
      |nil=>simp at dO
      |cons=>rfl
     have hWP:=fun h:Heap=>writeParams_c (l:=objects) hsm.o h;have hpl:(Sx.rows (paramsW objects)).length=3*objects.length:=(by rw[Sx.rows_len,paramsW_len]);have hos:=hsm.o;simp only at hos;rw[hob];obtain⟨hg,ids,o1,p,Hk,o2,tl,t1,t2,t3,t4,hgH,hpc,hp1⟩:=hI;simp only[sxP,List.cons_append,List.nil_append]at o2;have hrow:objsS objects=listM (wordM opObjs::paramsW objects):=rfl;generalize hPR:paramsW objects=PR at hWP hpl hrow;have hb1:(1+3*objects.length)*72≤140737488355328:=(by omega);have n1:(h.next+17=H.next)=False:=eq_false (by omega);have n2:(h.next+17=H.next+1)=False:=eq_false (by omega);have hwr:(PV.sc (.int .i64 1)::PV.sc (.int .i64 0)::PV.sc (.int .i64 0)::PV.sc (.int .i64 0)::sPV ⟨#[58,111,98,106,101,99,116,115]⟩::[PV.imm 6 []])::Sx.rows PR=Sx.rows (wordM opObjs::PR):=rfl;obtain⟨RX,hRX⟩: ∃ RX,RX=Sx.rows (wordM opObjs::PR):=⟨_,rfl⟩;rw[← hRX]at hwr;have hl5:RX.length=1+3*objects.length:=(by rw[hRX,Sx.rows_len,List.length_cons, ← hpl,Sx.rows_len];omega);have tl2:=fun a=>tl.up (h':=(((H.new a).kill H.next).new (.arr 6 RX))) (show H.next≤H.next+1+1 by omega) (fun j _ hj=>obj_lit hj);have hg2:=fun a=>(((hg.new a).kill (show h.next≤H.next by omega)).new (.arr 6 RX));have hl3: ∀ (k:Nat)(h:Heap),k<h.next→PCall Tryz.prog 26 [.own k 0 (1+3*objects.length)] h fun r h'=>r= .agg [.sc (.int .i64 3),.sc (.int .i64 0),.sc (.int .i64 0),.sc (.int .i64 0),.sc (.string ⟨#[]⟩),.own k 0 (1+3*objects.length)]∧h'=h:=fun k h hh=>plist_c rfl (fun _=>frz_own hh)
     have hL3:(Sx.rows [wordM opDef,nameS opPrb name,nameS opDom domain]).length=3:=rfl;generalize hLL:[wordM opDef,nameS opPrb name,nameS opDom domain]=L3 at tl tl2 t1 hL3⊢;replace zz:=uu s1 (uu s2 (uu s4 (uu s6 (uu hlO (uu dO (uu o2 (uu n1 n2)))))));(repeat'(first|refine a_seq fun K hK=>?_|refine uR zz ?_|refine uD zz ?_|refine uC1 zz ?_|(refine uN hK ?_;clear hK)|apply zI));replace zz:=uu s1 (uu s2 (uu s4 (uu s6 o2)));(first|refine uV zz (hwd _ _) ?_|refine uA zz (hwd _ _) ?_);replace zz:=uu s1 (uu s2 (uu s4 (uu s6 (uu o2 (uu n1 n2)))));(repeat'(first|refine uB zz ?_|apply zI));refine a_dcallA (hWP _) (by(try simp only[Ty.w,simprocAttr,s1,s2,s4,s6,o2,n1,n2]);try rfl) (by intro x hx;exact .inr (Does_use (hWP _) (by(try simp only[Ty.w,simprocAttr,s1,s2,s4,s6,o2,n1,n2]);try rfl))) ?_;simp(maxSteps:=2000000) only[Ty.w,simprocAttr,Ty.all,Option.getD_some,s1,s2,s4,s6,o2,n1,n2,hpl,hb1];replace zz:=uu s1 (uu s2 (uu s4 (uu s6 (uu o2 (uu n1 (uu n2 (uu hpl (uu hb1 hwr))))))));(repeat'(first|refine uB zz ?_|apply zI));generalize hA:AObj.arr 6 [[PV.sc (.int .i64 1),PV.sc (.int .i64 0),PV.sc (.int .i64 0),PV.sc (.int .i64 0),sPV ⟨#[58,111,98,106,101,99,116,115]⟩,PV.imm 6 []]]=A1;have tl2:=tl2 A1;have hg2:=hg2 A1;obtain⟨H3,u1,u2,u3,u4,u5⟩:=tl2.tail;have hgH3:=u5 h ⟨hg2.le,hg2.old⟩ (by omega);have u3':H3.next=H.next+2:=u3
     have o2H:H3.obj (h.next+17)=_:=(u4 _ (by omega)).trans (show _=some (AObj.arr 6 [[.sc (.int .i64 3),.sc (.int .i64 0),.sc (.int .i64 0),.sc (.int .i64 0),.sc (.string ⟨#[]⟩),p]])from(obj_lit (by omega)).trans o2);have n3:(h.next+17=H3.next)=False:=eq_false (by omega);have n4:(h.next+17=H.next+2)=False:=eq_false (by omega);refine a_dcallA (hl3 (H.next+1) _ (Nat.lt_succ_self _)) (by(try simp only[Ty.w,simprocAttr,s1,s2,s4,s6,o2,n1,n2]);try rfl) (by simp only[List.forall_mem_cons];exact⟨.inl (by decide+kernel),.inl (by decide+kernel),fun _ h=>by cases h⟩) ?_;simp(maxSteps:=2000000) only[Ty.w,simprocAttr,Ty.all,Option.getD_some,s1,s2,s4,s6,o2,n1,n2,hpl,hb1,u1,u2,u3',hL3,o2H,n3,n4,hpc,hp1];replace zz:=uu s1 (uu s2 (uu s4 (uu s6 (uu o2 (uu n1 (uu n2 (uu hpl (uu hb1 (uu u1 (uu u2 (uu u3' (uu hL3 (uu o2H (uu n3 (uu n4 (uu hpc hp1))))))))))))))));(repeat'(first|refine uB zz ?_|apply zI));refine .inr (GrJ.push (X:=H.next+1) (z:=6) (RX:=RX) (m:=4) (r':=(objsS objects).cells) ⟨hgH3.1,hgH3.2⟩ ⟨ids.1,ids.2.1,ids.2.2.1,ids.2.2.2.1,by omega,ids.2.2.2.2.2⟩ (by rw[u4 _ (by omega),obj_lit (by omega)];exact o1) ?_ (by omega) (by omega) u3' (by rw[hL3]) (by simp[Sx.rows_map]) ?_)
     ·rw [isTail_keep tl u1 (Nat.le_succ _)];simp only[Heap.new,Heap.kill,if_true]
     ·rw [hrow];simp only[listM,Sx.cells,GvL];exact⟨.inl rfl,.inl rfl,.inl rfl,.inl rfl,.inl rfl,.inr ⟨by rw[hl5],by rw[hRX]⟩,trivial⟩
   ·(try clear zz);clear s1 s2 s4 s6 hI;rintro S H ⟨s1,s2,s4,s6,hI⟩;refine a_giveO rfl hI ?_;(try clear zz);clear hI;intro H hI;generalize hL1:[wordM opDef,nameS opPrb name,nameS opDom domain]++objsW objects=L1 at hI;have hL1n:L1.length≤4:=by
     rw[← hL1];unfold objsW;split<;>simp
    refine a_cut (fun S H=>S 1= .cptr [sPV name,sPV domain,.imm 2 (pmRows objects),.imm 2 (atRows init),.imm 3 (vlRows values),sPV gop,sPV gname,.imm 1 (strRows gargs),.imm 2 (pmRows gparams),.imm 5 (Ex.rows gexprs),.imm 6 (Fm.rows gkids)]∧S 2= .ptr h.next 0 0∧S 4= .cptr [.sc (.int .i64 ki),.sc (.int .i64 va),.sc (.int .i64 li),.sc (.int .i64 co),sPV te,.imm 6 (Sx.rows ks)]∧S 6= .ptr (h.next+17) 0 0∧PwI h (L1++initW init values) H) ?_ ?_
    ·have wl:IntKind.i64.wrap ((init.length:Int)+values.length)=init.length+values.length:=by
      have h1:=hsm.i;have h2:=hsm.v;simp only at h1 h2;rw[wrap64 (by omega) (by omega)]
     cases dI:decide ((init.length:Int)+values.length>0)with
     |false=>
      have e1:init=[]:=by
       cases init with
       |nil=>rfl
       |cons=>simp at dI;omega
      have e2:values=[]:=by
       cases values with
       |nil=>rfl
       |cons=>simp at dI;omega
      have hin:initW init values=[]:=(by rw[e1,e2];try rfl);replace zz:=uu s1 (uu s2 (uu s4 (uu s6 (uu hlI (uu hlV (uu wl dI))))));(repeat'(first|refine a_seq fun K hK=>?_|refine uR zz ?_|refine uK ?_|refine uC1 zz ?_|(refine uN hK ?_;clear hK)|apply zI));refine⟨s1,s2,s4,s6,?_⟩;rw[hin,List.append_nil];exact hI
     |true=>
      have hin:initW init values=[initS init values]:=by
       unfold initW;rw[if_neg];intro hh;simp only[Bool.and_eq_true,List.isEmpty_iff]at hh;obtain⟨rfl,rfl⟩:=hh;simp at dI
      replace zz:=uu s1 (uu s2 (uu s4 (uu s6 (uu hlI (uu hlV (uu wl dI))))));(repeat'(first|refine a_seq fun K hK=>?_|refine uR zz ?_|(refine uN hK ?_;clear hK)|apply zI));refine uU trivial (hwd _ _) ?_;(try apply zI);refine uU trivial (plist_c (p:= .own H.next 0 1) rfl (fun _=>frz_own (Nat.lt_succ_self _))) ?_;(repeat'(first|with_reducible refine a_hold 9 ?_|(refine uN hK ?_;clear hK)|apply zI));refine⟨?_⟩;refine a_gen (fun S H'=>S 1= .cptr [sPV name,sPV domain,.imm 2 (pmRows objects),.imm 2 (atRows init),.imm 3 (vlRows values),sPV gop,sPV gname,.imm 1 (strRows gargs),.imm 2 (pmRows gparams),.imm 5 (Ex.rows gexprs),.imm 6 (Fm.rows gkids)]∧S 2= .ptr h.next 0 0∧S 4= .cptr [.sc (.int .i64 ki),.sc (.int .i64 va),.sc (.int .i64 li),.sc (.int .i64 co),sPV te,.imm 6 (Sx.rows ks)]∧S 6= .ptr (h.next+17) 0 0∧S 7= .ptr (H.next+1) 0 0∧GrV H (H.next+1) H.next 6 6 sxP [] (Sx.rows ([wordM opInit])) H') ⟨by simp only[Ty.w,simprocAttr,s1],by simp only[Ty.w,simprocAttr,s2],by simp only[Ty.w,simprocAttr,s4],by simp only[Ty.w,simprocAttr,s6],by simp only[Ty.w,simprocAttr],?_⟩ ?_
      ·refine GrV.mk2 (p:= .own H.next 0 1) ((((Grow.refl H).new _).new _).set (Nat.le_succ _) _) ⟨Nat.le_succ _,Nat.le_refl _,show H.next+1<H.next+2 by omega⟩ obj_at (.inr ⟨H.next,Nat.le_refl _,show H.next<H.next+2 by omega,rfl,?_⟩) ?_
       ·rw [obj_set (by omega),obj_new (show H.next<H.next+1 by omega)];simp only[Heap.new,if_true];rfl
       ·intro id he;simp only[PV.own.injEq]at he;omega
      (try clear zz);clear s1 s2 s4 s6;rintro S H1 ⟨s1,s2,s4,s6,s7,hV⟩;(repeat'(first|refine a_seq fun K hK=>?_|refine a_block ?_|refine uR (uu s1 hlI) ?_|(refine uN hK ?_;clear hK)|apply zI));refine a_loop (fun m S h'=>S 1= .cptr [sPV name,sPV domain,.imm 2 (pmRows objects),.imm 2 (atRows init),.imm 3 (vlRows values),sPV gop,sPV gname,.imm 1 (strRows gargs),.imm 2 (pmRows gparams),.imm 5 (Ex.rows gexprs),.imm 6 (Fm.rows gkids)]∧S 2= .ptr h.next 0 0∧S 4= .cptr [.sc (.int .i64 ki),.sc (.int .i64 va),.sc (.int .i64 li),.sc (.int .i64 co),sPV te,.imm 6 (Sx.rows ks)]∧S 6= .ptr (h.next+17) 0 0∧S 7= .ptr (H.next+1) 0 0∧S 70= .imm 2 (atRows init)∧S 71= .sc (.int .i64 init.length)∧ ∃ k:Nat,S 72= .sc (.int .i64 k)∧k≤init.length∧m=init.length-k∧GrV H (H.next+1) H.next 6 6 sxP [] (Sx.rows (wordM opInit::(init.take k).map atW)) h') init.length ?_ ?_
      ·simp only[Ty.w,simprocAttr,s1,s2,s4,s6,s7];exact⟨0,rfl,by omega,rfl,hV⟩
      ·(try clear zz);clear hV s1 s2 s4 s6 s7;rintro m S h' ⟨s1,s2,s4,s6,s7,s70,s71,k,s72,hk,rfl,hV⟩;by_cases hlt:k<init.length
       ·have hd:decide ((k:Int)<(init.length:Int))=true:=(by simp;omega);have w7:IntKind.i64.wrap ((k:Int)+1)=k+1:=(by have:=hsm.i;simp only at this;rw[wrap64 (by omega) (by omega)]);obtain⟨a,hx⟩: ∃ a,init[k]? =some a:=⟨_,List.getElem?_eq_getElem hlt⟩;have hr:=atRows_get hx;have hwa:=fun h:Heap=>writeAtom_c (h:=h) (first:=a.name) (l:=a.args) (hsm.ia a (List.mem_of_getElem? hx));have hR2:Sx.rows (wordM opInit::(init.take (k+1)).map atW)=Sx.rows (wordM opInit::(init.take k).map atW)++[(wordsM a.name a.args).cells]:=by
         rw[List.take_add_one,hx];simp[Sx.rows_map,atW]
        have hpr:(Sx.rows (wordM opInit::(init.take k).map atW)).length=k+1:=(by rw[Sx.rows_len];simp;omega);generalize Sx.rows (wordM opInit::(init.take k).map atW)=R at hV hR2 hpr;generalize wordsM a.name a.args=X at hwa hR2;obtain⟨ki2,va2,li2,co2,te2,ks2⟩:=X;simp only[Sx.cells]at hwa hR2;replace zz:=uu s1 (uu s2 (uu s4 (uu s6 (uu s7 (uu s70 (uu s71 (uu s72 (uu hd hr))))))));(repeat'(first|with_reducible refine a_holdB 12 ?_|refine a_seq fun K hK=>?_|refine uR zz ?_|refine uK ?_|refine uC1 zz ?_|(refine uN hK ?_;clear hK)|apply zI));refine⟨?_⟩;refine a_tmp 9 rfl (by simp only[Ty.w,simprocAttr]) (fun n H=>by simp only[FrzL,FrzTo,and_true,true_and];exact .inl (strs_in _ _)) ?_;refine a_gen (fun S H'=>S 1= .cptr [sPV name,sPV domain,.imm 2 (pmRows objects),.imm 2 (atRows init),.imm 3 (vlRows values),sPV gop,sPV gname,.imm 1 (strRows gargs),.imm 2 (pmRows gparams),.imm 5 (Ex.rows gexprs),.imm 6 (Fm.rows gkids)]∧S 2= .ptr h.next 0 0∧S 4= .cptr [.sc (.int .i64 ki),.sc (.int .i64 va),.sc (.int .i64 li),.sc (.int .i64 co),sPV te,.imm 6 (Sx.rows ks)]∧S 6= .ptr (h.next+17) 0 0∧S 7= .ptr (H.next+1) 0 0∧S 70= .imm 2 (atRows init)∧S 71= .sc (.int .i64 init.length)∧S 72= .sc (.int .i64 k)∧S 9= .cptr [sPV a.name,.imm 1 (strRows a.args)]∧GrV H (H.next+1) H.next 6 6 sxP [] R H') ⟨by simp only[Ty.w,simprocAttr,s1],by simp only[Ty.w,simprocAttr,s2],by simp only[Ty.w,simprocAttr,s4],by simp only[Ty.w,simprocAttr,s6],by simp only[Ty.w,simprocAttr,s7],by simp only[Ty.w,simprocAttr,s70],by simp only[Ty.w,simprocAttr,s71],by simp only[Ty.w,simprocAttr,s72],by simp only[Ty.w,simprocAttr],hV.tmp _ _⟩ ?_;(try clear zz);clear hV s1 s2 s4 s6 s7 s70 s71 s72 hr hd;rintro S h' ⟨s1,s2,s4,s6,s7,s70,s71,s72,s9,hV⟩;obtain⟨hg,ids,p,Hk,o2,tl,t1,t2,t3,t4,hgH,hpc,hp1⟩:=hV;simp only[sxP,List.cons_append,List.nil_append]at o2;have o2H:=t4.trans o2;have n1:(H.next+1=h'.next)=False:=eq_false (by omega);have hb:(k+1+1)*72≤140737488355328:=(by have:=hsm.i;simp only at this;omega);have hpush:=GrV.push (m:=k+1+1) (zo:=6) (zl:=6) (pre:=sxP) (post:=[]) (R:=R) [.sc (.int .i64 ki2),.sc (.int .i64 va2),.sc (.int .i64 li2),.sc (.int .i64 co2),sPV te2,.imm 6 (Sx.rows ks2)] hgH ids (by omega) t3 (by omega);rw[← hR2]at hpush;simp only[sxP,List.cons_append,List.nil_append]at hpush;replace zz:=uu s1 (uu s7 (uu s9 (uu s70 (uu s71 (uu s72 o2)))));(repeat'(first|refine uE zz fun K hK=>?_|apply zI));(first|refine uV zz (hwa _) ?_|refine uA zz (hwa _) ?_);(repeat'(first|(refine a_regionS ?_;simp(maxSteps:=2000000) only[Ty.w,simprocAttr,s1,s2,s4,s6,s7,s70,s71,s72,o2,o2H,n1,t1,t2,t3,hpr,hb,hpc,hp1, ← hR2,w7])|(refine hK _ _ ?_;clear hK;(try simp only[pst0,simprocAttr]))|(with_reducible refine a_past2 (by simp only[List.forall_mem_cons,Ty.w,simprocAttr,s1,s2,s4,s6,s7,s70,s71,s72,o2,o2H,n1,t1,t2,t3,hpr,hb,hpc,hp1, ← hR2,w7]<;>(repeat' apply And.intro)<;>first|trivial|exact .inl (by decide+kernel)) ?_;try simp(maxSteps:=2000000) only[Ty.w,simprocAttr,s1,s2,s4,s6,s7,s70,s71,s72,o2,o2H,n1,t1,t2,t3,hpr,hb,hpc,hp1, ← hR2,w7])|(rw[if_pos];rotate_left 1;omega;simp(maxSteps:=2000000) only[Ty.w,simprocAttr,s1,s2,s4,s6,s7,s70,s71,s72,o2,o2H,n1,t1,t2,t3,hpr,hb,hpc,hp1, ← hR2,w7])));exact⟨init.length-(k+1),by omega,k+1,by simp,by omega,rfl,hpush⟩
       ·have hd:decide ((k:Int)<(init.length:Int))=false:=(by simp;omega);have hke:k=init.length:=(by omega);subst hke;rw[List.take_length]at hV;replace zz:=uu s1 (uu s2 (uu s4 (uu s6 (uu s7 (uu s70 (uu s71 (uu s72 hd)))))));(repeat'(first|with_reducible refine a_hold 14 ?_|refine a_seq fun K hK=>?_|refine uR zz ?_|refine uX ?_|refine uC1 zz ?_|(refine uN hK ?_;clear hK)|(clear hK;refine uN hK ?_;clear hK)|apply zI));refine⟨?_⟩;refine a_gen (fun S H'=>S 1= .cptr [sPV name,sPV domain,.imm 2 (pmRows objects),.imm 2 (atRows init),.imm 3 (vlRows values),sPV gop,sPV gname,.imm 1 (strRows gargs),.imm 2 (pmRows gparams),.imm 5 (Ex.rows gexprs),.imm 6 (Fm.rows gkids)]∧S 2= .ptr h.next 0 0∧S 4= .cptr [.sc (.int .i64 ki),.sc (.int .i64 va),.sc (.int .i64 li),.sc (.int .i64 co),sPV te,.imm 6 (Sx.rows ks)]∧S 6= .ptr (h.next+17) 0 0∧S 7= .ptr (H.next+1) 0 0∧H'=h') ⟨by simp only[Ty.w,simprocAttr,s1],by simp only[Ty.w,simprocAttr,s2],by simp only[Ty.w,simprocAttr,s4],by simp only[Ty.w,simprocAttr,s6],by simp only[Ty.w,simprocAttr,s7],rfl⟩ ?_;(try clear zz);clear s1 s2 s4 s6 s7 s70 s71 s72 hd hlt hk;rintro S h' ⟨s1,s2,s4,s6,s7,rfl⟩;(repeat'(first|refine a_seq fun K hK=>?_|refine a_block ?_|refine uR (uu s1 hlV) ?_|(refine uN hK ?_;clear hK)|apply zI));refine a_loop (fun m S h'=>S 1= .cptr [sPV name,sPV domain,.imm 2 (pmRows objects),.imm 2 (atRows init),.imm 3 (vlRows values),sPV gop,sPV gname,.imm 1 (strRows gargs),.imm 2 (pmRows gparams),.imm 5 (Ex.rows gexprs),.imm 6 (Fm.rows gkids)]∧S 2= .ptr h.next 0 0∧S 4= .cptr [.sc (.int .i64 ki),.sc (.int .i64 va),.sc (.int .i64 li),.sc (.int .i64 co),sPV te,.imm 6 (Sx.rows ks)]∧S 6= .ptr (h.next+17) 0 0∧S 7= .ptr (H.next+1) 0 0∧S 85= .imm 3 (vlRows values)∧S 86= .sc (.int .i64 values.length)∧ ∃ k:Nat,S 87= .sc (.int .i64 k)∧k≤values.length∧m=values.length-k∧GrV H (H.next+1) H.next 6 6 sxP [] (Sx.rows (wordM opInit::(init.map atW++(values.take k).map vlW))) h') values.length ?_ ?_
        ·simp only[Ty.w,simprocAttr,s1,s2,s4,s6,s7];exact⟨0,rfl,by omega,rfl,by simpa using hV⟩
        ·(try clear zz);clear hV s1 s2 s4 s6 s7;rintro m S h' ⟨s1,s2,s4,s6,s7,s85,s86,k,s87,hk,rfl,hV⟩;by_cases hlt:k<values.length
         ·have hd:decide ((k:Int)<(values.length:Int))=true:=(by simp;omega);have w7:IntKind.i64.wrap ((k:Int)+1)=k+1:=(by have:=hsm.v;simp only at this;rw[wrap64 (by omega) (by omega)]);obtain⟨⟨⟨an,aa⟩,vn⟩,hx⟩: ∃ a,values[k]? =some a:=⟨_,List.getElem?_eq_getElem hlt⟩;have hr:=vlRows_get hx;have hwa:=fun h:Heap=>writeAtom_c (h:=h) (first:=an) (l:=aa) (hsm.va _ (List.mem_of_getElem? hx));have hR2:Sx.rows (wordM opInit::(init.map atW++(values.take (k+1)).map vlW))=Sx.rows (wordM opInit::(init.map atW++(values.take k).map vlW))++[(listM [wordM opEq,wordsM an aa,numM vn]).cells]:=by
           rw[List.take_add_one,hx];simp[Sx.rows_map,vlW,atW]
          have hpr:(Sx.rows (wordM opInit::(init.map atW++(values.take k).map vlW))).length=init.length+k+1:=(by rw[Sx.rows_len];simp;omega);generalize Sx.rows (wordM opInit::(init.map atW++(values.take k).map vlW))=R at hV hR2 hpr;generalize wordsM an aa=X at hwa hR2;obtain⟨ki2,va2,li2,co2,te2,ks2⟩:=X;have hl3: ∀ h:Heap,PCall Tryz.prog 26 [.imm 6 [[.sc (.int .i64 1),.sc (.int .i64 0),.sc (.int .i64 0),.sc (.int .i64 0),sPV opEq,.imm 6 []],[.sc (.int .i64 ki2),.sc (.int .i64 va2),.sc (.int .i64 li2),.sc (.int .i64 co2),sPV te2,.imm 6 (Sx.rows ks2)],[.sc (.int .i64 2),.sc (.int .i64 vn),.sc (.int .i64 0),.sc (.int .i64 0),.sc (.string ⟨#[]⟩),.sc (.slice none 0 0)]]] h fun r h'=>r= .agg (listM [wordM opEq,Sx.mk ki2 va2 li2 co2 te2 ks2,numM vn]).cells∧h'=h:=
           fun h=>PCall.nz (plist_c (p:= .imm 6 (Sx.rows [wordM opEq,.mk ki2 va2 li2 co2 te2 ks2,numM vn])) rfl (fun _=>frz_imm (sxs_in _ _))) (nz_cons (nz_imm (nzr_cons (NzL.refl _) (nzr_cons (NzL.refl _) (nzr_cons (nz_cons (Nz.refl _) (nz_cons (Nz.refl _) (nz_cons (Nz.refl _) (nz_cons (Nz.refl _) (nz_cons (Nz.refl _) (nz_cons nz_nil (NzL.refl []))))))) (NzR.refl []))))) (NzL.refl []))
          simp only[Sx.cells,listM,Sx.rows,wordM,numM]at hwa hR2 hl3;simp only at hr;replace zz:=uu s1 (uu s2 (uu s4 (uu s6 (uu s7 (uu s85 (uu s86 (uu s87 (uu hd hr))))))));(repeat'(first|with_reducible refine a_holdB 17 ?_|refine a_seq fun K hK=>?_|refine uR zz ?_|refine uK ?_|refine uC1 zz ?_|(refine uN hK ?_;clear hK)|apply zI));refine⟨?_⟩;refine a_tmp 11 rfl (by simp only[Ty.w,simprocAttr]) (fun n H=>by simp only[FrzL,FrzTo,and_true,true_and];exact .inl (strs_in _ _)) ?_;refine a_gen (fun S H'=>S 1= .cptr [sPV name,sPV domain,.imm 2 (pmRows objects),.imm 2 (atRows init),.imm 3 (vlRows values),sPV gop,sPV gname,.imm 1 (strRows gargs),.imm 2 (pmRows gparams),.imm 5 (Ex.rows gexprs),.imm 6 (Fm.rows gkids)]∧S 2= .ptr h.next 0 0∧S 4= .cptr [.sc (.int .i64 ki),.sc (.int .i64 va),.sc (.int .i64 li),.sc (.int .i64 co),sPV te,.imm 6 (Sx.rows ks)]∧S 6= .ptr (h.next+17) 0 0∧S 7= .ptr (H.next+1) 0 0∧S 85= .imm 3 (vlRows values)∧S 86= .sc (.int .i64 values.length)∧S 87= .sc (.int .i64 k)∧S 11= .cptr [sPV an,.imm 1 (strRows aa),.sc (.int .i64 vn)]∧GrV H (H.next+1) H.next 6 6 sxP [] R H') ⟨by simp only[Ty.w,simprocAttr,s1],by simp only[Ty.w,simprocAttr,s2],by simp only[Ty.w,simprocAttr,s4],by simp only[Ty.w,simprocAttr,s6],by simp only[Ty.w,simprocAttr,s7],by simp only[Ty.w,simprocAttr,s85],by simp only[Ty.w,simprocAttr,s86],by simp only[Ty.w,simprocAttr,s87],by simp only[Ty.w,simprocAttr],hV.tmp _ _⟩ ?_;(try clear zz);clear hV s1 s2 s4 s6 s7 s85 s86 s87 hr hd;rintro S h' ⟨s1,s2,s4,s6,s7,s85,s86,s87,s11,hV⟩;obtain⟨hg,ids,p,Hk,o2,tl,t1,t2,t3,t4,hgH,hpc,hp1⟩:=hV;simp only[sxP,List.cons_append,List.nil_append]at o2;have o2H:=t4.trans o2;have n1:(H.next+1=h'.next)=False:=eq_false (by omega);have hb:(init.length+k+1+1)*72≤140737488355328:=(by have:=hsm.i;have:=hsm.v;simp only at*;omega);have hpush:=GrV.push (m:=init.length+k+1+1) (zo:=6) (zl:=6) (pre:=sxP) (post:=[]) (R:=R) [.sc (.int .i64 3),.sc (.int .i64 0),.sc (.int .i64 0),.sc (.int .i64 0),sPV ⟨#[]⟩,.imm 6 [[.sc (.int .i64 1),.sc (.int .i64 0),.sc (.int .i64 0),.sc (.int .i64 0),sPV opEq,.imm 6 []],[.sc (.int .i64 ki2),.sc (.int .i64 va2),.sc (.int .i64 li2),.sc (.int .i64 co2),sPV te2,.imm 6 (Sx.rows ks2)],[.sc (.int .i64 2),.sc (.int .i64 vn),.sc (.int .i64 0),.sc (.int .i64 0),sPV ⟨#[]⟩,.imm 6 []]]] hgH ids (by omega) t3 (by omega);rw[← hR2]at hpush;simp only[sxP,List.cons_append,List.nil_append]at hpush;replace zz:=uu s1 (uu s7 (uu s11 (uu s85 (uu s86 (uu s87 o2)))));(repeat'(first|refine uE zz fun K hK=>?_|apply zI));(first|refine uV zz (hwd _ _) ?_|refine uA zz (hwd _ _) ?_);(try apply zI);(first|refine uV zz (hwa _) ?_|refine uA zz (hwa _) ?_);(try apply zI);(first|refine uV zz (hl3 _) ?_|refine uA zz (hl3 _) ?_);(repeat'(first|(refine a_regionS ?_;simp(maxSteps:=2000000) only[Ty.w,simprocAttr,s1,s2,s4,s6,s7,s85,s86,s87,o2,o2H,n1,t1,t2,t3,hpr,hb,hpc,hp1, ← hR2,w7])|(refine hK _ _ ?_;clear hK;(try simp only[pst0,simprocAttr]))|(with_reducible refine a_past2 (by simp only[List.forall_mem_cons,Ty.w,simprocAttr,s1,s2,s4,s6,s7,s85,s86,s87,o2,o2H,n1,t1,t2,t3,hpr,hb,hpc,hp1, ← hR2,w7]<;>(repeat' apply And.intro)<;>first|trivial|exact .inl (by decide+kernel)) ?_;try simp(maxSteps:=2000000) only[Ty.w,simprocAttr,s1,s2,s4,s6,s7,s85,s86,s87,o2,o2H,n1,t1,t2,t3,hpr,hb,hpc,hp1, ← hR2,w7])|(rw[if_pos];rotate_left 1;omega;simp(maxSteps:=2000000) only[Ty.w,simprocAttr,s1,s2,s4,s6,s7,s85,s86,s87,o2,o2H,n1,t1,t2,t3,hpr,hb,hpc,hp1, ← hR2,w7])));exact⟨values.length-(k+1),by omega,k+1,by simp,by omega,rfl,hpush⟩
         ·have hd:decide ((k:Int)<(values.length:Int))=false:=(by simp;omega);have hke:k=values.length:=(by omega);subst hke;rw[List.take_length]at hV;have hin2:initS init values=listM (wordM opInit::(init.map atW++values.map vlW)):=rfl;replace zz:=uu s1 (uu s2 (uu s4 (uu s6 (uu s7 (uu s85 (uu s86 (uu s87 hd)))))));(repeat'(first|with_reducible refine a_holdB 19 ?_|refine a_seq fun K hK=>?_|refine uR zz ?_|refine uX ?_|refine uC1 zz ?_|(refine uN hK ?_;clear hK)|(clear hK;refine uN hK ?_;clear hK)|apply zI));refine⟨?_⟩;refine a_dropV 7 rfl hV (by simp only[Ty.w,simprocAttr,s7]) (fun n H=>sxs_frz n H _) (fun n H p q hpq=>by simp only[sxP,List.cons_append,List.nil_append,FrzL,FrzTo,and_true,true_and];exact hpq) ?_;refine a_gen (fun S H'=>S 1= .cptr [sPV name,sPV domain,.imm 2 (pmRows objects),.imm 2 (atRows init),.imm 3 (vlRows values),sPV gop,sPV gname,.imm 1 (strRows gargs),.imm 2 (pmRows gparams),.imm 5 (Ex.rows gexprs),.imm 6 (Fm.rows gkids)]∧S 2= .ptr h.next 0 0∧S 4= .cptr [.sc (.int .i64 ki),.sc (.int .i64 va),.sc (.int .i64 li),.sc (.int .i64 co),sPV te,.imm 6 (Sx.rows ks)]∧S 6= .ptr (h.next+17) 0 0∧S 7= .cptr (initS init values).cells∧PwI h L1 H') ⟨by simp only[Ty.w,simprocAttr,s1],by simp only[Ty.w,simprocAttr,s2],by simp only[Ty.w,simprocAttr,s4],by simp only[Ty.w,simprocAttr,s6],by simp only[Ty.w,simprocAttr];rfl,hI.up (below_grow hV.grow)⟩ ?_;(try clear zz);clear hV s1 s2 s4 s6 s7 s85 s86 s87 hd hI;rintro S H ⟨s1,s2,s4,s6,s7,hI⟩;obtain⟨hg,ids,o1,p,Hk,o2,tl,t1,t2,t3,t4,hgH,hpc,hp1⟩:=hI;simp only[sxP,List.cons_append,List.nil_append]at o2;have o2H:=(t4 _ (show h.next+17<h.next+18 by omega)).trans o2;have n1:(h.next+17=H.next)=False:=eq_false (by omega);have hL1r:=Sx.rows_len L1;have hb:(L1.length+1)*72≤140737488355328:=(by omega);rw[hin];generalize initS init values=X at s7;obtain⟨ki2,va2,li2,co2,te2,ks2⟩:=X;simp only[Sx.cells]at s7;have hpush:=GrI.push (m:=L1.length+1) (zr:=6) (Z:=sxZ) (zo:=6) (zl:=6) (pre:=sxP) (post:=[]) (R:=Sx.rows L1) [.sc (.int .i64 ki2),.sc (.int .i64 va2),.sc (.int .i64 li2),.sc (.int .i64 co2),sPV te2,.imm 6 (Sx.rows ks2)] hgH ids o1 t3 t4 (by rw[hL1r]);simp only[sxP,List.cons_append,List.nil_append]at hpush;replace zz:=uu s1 (uu s2 (uu s4 (uu s6 (uu s7 (uu o2 (uu o2H (uu n1 (uu t1 (uu t2 (uu t3 (uu hL1r (uu hb (uu hpc hp1)))))))))))));(repeat'(first|refine uR zz ?_|apply zI));have hap:Sx.rows (L1++[Sx.mk ki2 va2 li2 co2 te2 ks2])=Sx.rows L1++[[.sc (.int .i64 ki2),.sc (.int .i64 va2),.sc (.int .i64 li2),.sc (.int .i64 co2),sPV te2,.imm 6 (Sx.rows ks2)]]:=(by simp[Sx.rows_map,Sx.cells]);rw[← hap]at hpush⊢;exact hpush
    ·(try clear zz);clear s1 s2 s4 s6 hI;rintro S H ⟨s1,s2,s4,s6,hI⟩;generalize hL2:L1++initW init values=L2 at hI;have hL2n:L2.length≤5:=by
      rw[← hL2];unfold initW;split<;>simp<;>omega
     refine a_cut (fun S H=>S 2= .ptr h.next 0 0∧S 6= .ptr (h.next+17) 0 0∧PwI h (L2++goalW (.mk gop gname gargs gparams gexprs gkids)) H) ?_ ?_
     ·have hlK:=Fm.rows_len gkids;have hgE2:goalE (.mk gop gname gargs gparams gexprs gkids)=(bEq gop opAnd&&gkids.isEmpty):=rfl;rw[hgE,hgE2];obtain⟨hg,ids,o1,p,Hk,o2,tl,t1,t2,t3,t4,hgH,hpc,hp1⟩:=id hI;simp only[sxP,List.cons_append,List.nil_append]at o2;have o2H:=(t4 _ (show h.next+17<h.next+18 by omega)).trans o2;have n1:(h.next+17=H.next)=False:=eq_false (by omega);have hL1r:=Sx.rows_len L2;have hb:(L2.length+1)*72≤140737488355328:=(by omega);have hl2:=fun(h:Heap)=>plist_c (h:=h) (p:= .imm 6 (Sx.rows [wordM opGoal,Sx.mk ki va li co te ks])) rfl (fun _=>frz_imm (sxs_in _ _));have hpush:=GrI.push (m:=L2.length+1) (zr:=6) (Z:=sxZ) (zo:=6) (zl:=6) (pre:=sxP) (post:=[]) (R:=Sx.rows L2) (listM [wordM opGoal,Sx.mk ki va li co te ks]).cells hgH ids o1 t3 t4 (by rw[hL1r]);have hap:Sx.rows (L2++[listM [wordM opGoal,Sx.mk ki va li co te ks]])=Sx.rows L2++[(listM [wordM opGoal,Sx.mk ki va li co te ks]).cells]:=(by simp[Sx.rows_map]);rw[← hap]at hpush;simp only[listM,wordM,Sx.cells,Sx.rows,sxP,List.cons_append,List.nil_append]at hl2 hap hpush;cases k1:(gop.data.toList==(#[97,110,100]:Array UInt8).toList)with
      |true=>
       rw[show bEq gop opAnd=true from k1,Bool.true_and];cases k2:decide ((gkids.length:Int)>0)with
       |false=>
        have e:gkids.isEmpty=true:=by
         cases gkids with
         |nil=>rfl
         |cons=>simp at k2
        rw[e,if_pos rfl,List.append_nil];replace zz:=uu s1 (uu s2 (uu s4 (uu s6 (uu k1 (uu k2 (uu hlK (uu @Bool.not_true @Bool.not_false)))))));(repeat'(first|refine a_seq fun K hK=>?_|refine uR zz ?_|refine uK ?_|refine uC1 zz ?_|(refine uN hK ?_;clear hK)|apply zI));exact⟨s2,s6,hI⟩
       |true=>
        have e:gkids.isEmpty=false:=by
         cases gkids with
         |nil=>simp at k2
         |cons=>rfl
        rw[e,if_neg (by simp)];replace zz:=uu s1 (uu s2 (uu s4 (uu s6 (uu k1 (uu k2 (uu hlK (uu @Bool.not_true (uu @Bool.not_false o2))))))));(repeat'(first|refine a_seq fun K hK=>?_|refine uR zz ?_|refine uD zz ?_|refine uC1 zz ?_|(refine uN hK ?_;clear hK)|apply zI));replace zz:=uu s1 (uu s2 (uu s4 (uu s6 o2)));(first|refine uV zz (hwd _ _) ?_|refine uA zz (hwd _ _) ?_);(try apply zI);(first|refine uV zz (hl2 _) ?_|refine uA zz (hl2 _) ?_);replace zz:=uu s1 (uu s2 (uu s4 (uu s6 (uu o2 (uu o2H (uu n1 (uu t1 (uu t2 (uu t3 (uu hL1r (uu hb (uu hpc hp1))))))))))));(repeat'(first|refine uB zz ?_|(rw[if_pos];rotate_left 1;omega;simp(maxSteps:=2000000) only[Ty.w,simprocAttr,s1,s2,s4,s6,o2,o2H,n1,t1,t2,t3,hL1r,hb,hpc,hp1])|apply zI));rw[← hap];exact hpush
      |false=>
       rw[show bEq gop opAnd=false from k1,Bool.false_and,if_neg (by simp)];replace zz:=uu s1 (uu s2 (uu s4 (uu s6 (uu k1 (uu hlK (uu @Bool.not_true (uu @Bool.not_false o2)))))));(repeat'(first|refine a_seq fun K hK=>?_|refine uR zz ?_|refine uD zz ?_|refine uC1 zz ?_|(refine uN hK ?_;clear hK)|apply zI));replace zz:=uu s1 (uu s2 (uu s4 (uu s6 o2)));(first|refine uV zz (hwd _ _) ?_|refine uA zz (hwd _ _) ?_);(try apply zI);(first|refine uV zz (hl2 _) ?_|refine uA zz (hl2 _) ?_);replace zz:=uu s1 (uu s2 (uu s4 (uu s6 (uu o2 (uu o2H (uu n1 (uu t1 (uu t2 (uu t3 (uu hL1r (uu hb (uu hpc hp1))))))))))));(repeat'(first|refine uB zz ?_|(rw[if_pos];rotate_left 1;omega;simp(maxSteps:=2000000) only[Ty.w,simprocAttr,s1,s2,s4,s6,o2,o2H,n1,t1,t2,t3,hL1r,hb,hpc,hp1])|apply zI));rw[← hap];exact hpush
     ·(try clear zz);clear s1 s2 s4 s6 hI;rintro S H ⟨s2,s6,hI⟩;have hPW:PW=listM (L2++goalW (.mk gop gname gargs gparams gexprs gkids)):=by
       rw[hpw, ← hL2, ← hL1];simp[List.append_assoc]
      generalize L2++goalW (.mk gop gname gargs gparams gexprs gkids)=L3 at hI hPW;have hVal:=fun h:Heap=>svalid_c hPWo h;rw[hF]at hVal;obtain⟨hg,ids,o1,p,Hk,o2,tl,t1,t2,t3,t4,hgH,hpc,hp1⟩:=hI;refine a_drop (h.next+17) [(6,.cptr PW.cells)] rfl (by omega) ?_ ?_
      ·intro x hx;simp only[List.mem_cons,List.not_mem_nil,or_false]at hx;subst hx;rw[hPW];simp only[s6,listM,Sx.cells,FrzTo];exact .inr ⟨h.next+17,0,0,6,_,_,rfl,Nat.le_refl _,o2,rfl,by simp only[sxP,List.cons_append,List.nil_append,List.drop_zero,FrzL];exact⟨by simp only[FrzTo],by simp only[FrzTo],by simp only[FrzTo],by simp only[FrzTo],by simp only[FrzTo],tl.frzR (Nat.le_succ _) (sxs_frz _ _ _),trivial⟩⟩
      refine a_gen (fun S H=>S 2= .ptr h.next 0 0∧S 6= .cptr PW.cells∧Grow h H∧H.obj h.next=some (.arr 6 [sxZ])) ⟨by simp only[frzS,Ty.w,simprocAttr,s2],by simp only[frzS,Ty.w,simprocAttr],⟨hg.le,fun j hj=>by simp only[below];rw[if_pos (by omega)];exact hg.old j hj⟩,by simp only[below];rw[if_pos (by omega)];exact o1⟩ ?_;(try clear zz);clear hg ids o1 o2 tl t1 t2 t3 t4 hgH hpc hp1 s2 s6 hPW;rintro S H ⟨s2,s6,hg,o1⟩;have hfz:=fun n hh=>sx_frz n hh PW;generalize PW=X at hVal s6 hfz bad⊢;obtain⟨ki2,va2,li2,co2,te2,ks2⟩:=X;simp only[Sx.cells]at hVal s6 hfz;cases F with
      |false=>
       (repeat'(first|refine a_seq fun K hK=>?_|refine uR (uu s2 s6) ?_|apply zI));refine uU (uu s2 s6) (hVal _) ?_;replace zz:=uu s2 (uu s6 (uu o1 @Bool.not_false));(repeat'(first|refine a_seq fun K hK=>?_|refine uR zz ?_|refine uT zz ?_|(refine uN hK ?_;clear hK)|apply zI));exact⟨bad _ rfl,hg.set (Nat.le_refl _) _⟩
      |true=>
       (repeat'(first|refine a_seq fun K hK=>?_|refine uR (uu s2 s6) ?_|apply zI));refine uU (uu s2 s6) (hVal _) ?_;replace zz:=uu s2 (uu s6 (uu o1 @Bool.not_true));(repeat'(first|refine a_seq fun K hK=>?_|refine uR zz ?_|refine uT zz ?_|refine uK ?_|refine uC1 zz ?_|(refine uN hK ?_;clear hK)|apply zI));refine⟨?_,hg.set (Nat.le_refl _) _⟩;simp only[if_true,Sx.cells,FrzTo];exact⟨_,rfl,by simp only[FrzL,FrzTo,and_true,true_and];exact⟨_,rfl,hfz _ _⟩⟩
end Go.Proofs.YtjeolbgpllbemaaGreat
namespace Go.Proofs.YtjeolbgpllbemaaGreat
open Go.AM
set_option maxHeartbeats 4000000
set_option maxRecDepth 20000
theorem empty_ok:(⟨#[]⟩:ByteArray).size≤bigN:=by decide
theorem zeroAt_ok:zeroAt.ok∧zeroAt.args.length≤1048576:=⟨⟨empty_ok,by decide,by simp[zeroAt]⟩,by decide⟩
theorem len_nodess: ∀ l:List Sx,l.length≤Sx.nodess l
 |[]=>Nat.le_refl _
 |k::l=>by
  have:=len_nodess l;have h1:1≤k.nodes:=by obtain⟨a,b,c,d,e,f⟩:=k;simp only[Sx.nodes];omega
  simp only[List.length_cons,Sx.nodess];omega
theorem headM_nodes{x:Sx}{w:ByteArray}{l:List Sx}(h:headM x=some (w,l)):Sx.nodess l+2≤x.nodes:=by
 obtain⟨kind,value,line,col,text,kids⟩:=x;simp only[headM]at h;split at h
 ·cases kids with
  |nil=>simp at h
  |cons y rest=>
   simp only at h;cases hh:kindOf y==1 with
   |false=>rw[hh]at h;simp at h
   |true=>
    rw[hh]at h;simp only[cond_true,Option.some.injEq,Prod.mk.injEq]at h;obtain⟨rfl,rfl⟩:=h;have h1:1≤y.nodes:=(by obtain⟨a,b,c,d,e,f⟩:=y;simp only[Sx.nodes];omega);simp only[Sx.nodes,Sx.nodess];omega
 ·simp at h
structure PbG(p:Pb):Prop where
 n:p.name.size≤bigN
 d:p.domain.size≤bigN
 o:p.objects.length≤1048576∧ ∀ o∈p.objects,o.ok
 i: ∀ a∈p.init,a.ok∧a.args.length≤1048576
 v: ∀ v∈p.values,v.ok∧v.at_.args.length≤1048576
 g:p.goal.ok∧p.goal.small
theorem namesM_ok: ∀ l:List Sx,(∀ x∈l,x.ok)→(namesM l).1.length≤l.length∧ ∀ s∈(namesM l).1,s.size≤bigN
 |[],_=>by simp[namesM]
 |x::l,h=>by
  have ih:=namesM_ok l fun y hy=>h y (by simp[hy]);simp only[namesM];cases kindOf x==1 with
  |false=>simp
  |true=>
   cases nameB (textOf x)with
   |false=>simp
   |true=>
    simp only[cond_true];cases(namesM l).2==0 with
    |false=>simp
    |true=>
     have hx:=textOf_okQ (h x (by simp));simp only[cond_true,List.length_cons,List.mem_cons];refine⟨by omega,?_⟩;rintro s (rfl|hs)
     ·exact hx
     ·exact ih.2 s hs
theorem atomP_ok{w:ByteArray}{l:List Sx}(hw:w.size≤bigN)(hl:l.length≤1048576)(h: ∀ x∈l,x.ok):(atomP w l).1.ok∧(atomP w l).1.args.length≤1048576:=by
 have hn:=namesM_ok l h;unfold atomP;cases nameB w with
 |false=>exact zeroAt_ok
 |true=>
  simp only[cond_true];cases(namesM l).2==0 with
  |false=>exact zeroAt_ok
  |true=>exact⟨⟨hw,by simp only[cond_true,bigN];omega,hn.2⟩,by simp only[cond_true];omega⟩
theorem valOf_ok{x:Sx}(h:x.ok): -9223372036854775808≤valOf x∧valOf x≤9223372036854775807:=by
 obtain⟨a,b,c,d,e,f⟩:=x;simp only[Sx.ok]at h;exact h.2.1
theorem elemP_ok{a:List At}{v:List Vl}{x:Sx}(hok:x.ok)(hsm:x.small)(ha: ∀ q∈a,q.ok∧q.args.length≤1048576)(hv: ∀ q∈v,q.ok∧q.at_.args.length≤1048576):
  (∀ q∈(elemP a v x).1,q.ok∧q.args.length≤1048576)∧ ∀ q∈(elemP a v x).2.1,q.ok∧q.at_.args.length≤1048576:=by
 unfold elemP;cases h:headM x with
 |none=>exact⟨ha,hv⟩
 |some wr=>
  obtain⟨w,rest⟩:=wr;obtain⟨o1,o2,o3⟩:=headM_ok2 hok h;obtain⟨s2,s3⟩:=headM_small hsm h;simp only;cases bEq w opEq with
  |true=>
   simp only[cond_true];split
   ·rename_i f n;cases kindOf n==2 with
    |false=>exact⟨ha,hv⟩
    |true=>
     simp only[cond_true];cases h2:headM f with
     |none=>exact⟨ha,hv⟩
     |some wr=>
      obtain⟨name,args⟩:=wr;obtain⟨p1,p2,p3⟩:=headM_ok2 (o3 f (by simp)) h2;obtain⟨q2,_⟩:=headM_small (s3 f (by simp)) h2;have hA:=atomP_ok p1 q2 p3;simp only;cases(atomP name args).2==0 with
      |false=>exact⟨ha,hv⟩
      |true=>
       refine⟨ha,?_⟩;intro q hq;simp only[cond_true,List.mem_append,List.mem_singleton]at hq;rcases hq with hq|rfl
       ·exact hv q hq
       ·exact ⟨⟨hA.1,valOf_ok (o3 n (by simp))⟩,hA.2⟩
   ·exact ⟨ha,hv⟩
  |false=>
   simp only[cond_false];have hA:=atomP_ok o1 s2 o3;cases(atomP w rest).2==0 with
   |false=>exact⟨ha,hv⟩
   |true=>
    refine⟨?_,hv⟩;intro q hq;simp only[cond_true,List.mem_append,List.mem_singleton]at hq;rcases hq with hq|rfl
    ·exact ha q hq
    ·exact hA
theorem elemsP_ok: ∀ (l:List Sx)(a:List At)(v:List Vl),(∀ x∈l,x.ok)→(∀ x∈l,x.small)→(∀ q∈a,q.ok∧q.args.length≤1048576)→(∀ q∈v,q.ok∧q.at_.args.length≤1048576)→
  (∀ q∈(elemsP a v l).1,q.ok∧q.args.length≤1048576)∧ ∀ q∈(elemsP a v l).2.1,q.ok∧q.at_.args.length≤1048576
 |[],a,v,_,_,ha,hv=>⟨ha,hv⟩
 |x::l,a,v,h1,h2,ha,hv=>by
  have h3:=elemP_ok (h1 x (by simp)) (h2 x (by simp)) ha hv;simp only[elemsP];generalize elemP a v x=W at h3⊢;obtain⟨a',v',c⟩:=W;simp only at h3⊢;cases c==0 with
  |true=>exact elemsP_ok l a' v' (fun y hy=>h1 y (by simp[hy])) (fun y hy=>h2 y (by simp[hy])) h3.1 h3.2
  |false=>exact h3
theorem sectP_ok{p:Pb}{w:ByteArray}{rest:List Sx}(hp:PbG p)(hl:rest.length≤1048576)(h1: ∀ x∈rest,x.ok)(h2: ∀ x∈rest,x.small):PbG (sectP p w rest).1:=by
 unfold sectP;cases bEq w opObjs with
 |true=>
  simp only[cond_true];have hP:=paramsL_ok false rest.length rest (Nat.le_refl _) h1 [] [] (by simp) (by simp);refine⟨hp.n,hp.d,?_,hp.i,hp.v,hp.g⟩;unfold paramsP;simp only[List.length_nil]at hP;exact⟨by simp only;omega,hP.1⟩
 |false=>
  simp only[cond_false];cases bEq w opInit with
  |true=>
   simp only[cond_true];have hE:=elemsP_ok rest p.init p.values h1 h2 hp.i hp.v;exact⟨hp.n,hp.d,hp.o,hE.1,hE.2,hp.g⟩
  |false=>
   simp only[cond_false];split
   ·rename_i g;exact⟨hp.n,hp.d,hp.o,hp.i,hp.v,parseF_ok (h1 g (by simp))⟩
   ·exact hp
theorem sectsP_ok: ∀ (l:List Sx)(o:List ByteArray)(p:Pb),PbG p→(∀ x∈l,x.ok)→(∀ x∈l,x.small)→PbG (sectsP o p l).1∧(sectsP o p l).1.init.length≤p.init.length+Sx.nodess l∧(sectsP o p l).1.values.length≤p.values.length+Sx.nodess l
 |[],o,p,hp,_,_=>⟨hp,by simp[sectsP],by simp[sectsP]⟩
 |s::l,o,p,hp,h1,h2=>by
  rw[sectsP];cases h:headM s with
  |none=>exact⟨hp,Nat.le_add_right _ _,Nat.le_add_right _ _⟩
  |some wr=>
   obtain⟨w,rest⟩:=wr;simp only;cases afterB o w with
   |none=>exact⟨hp,Nat.le_add_right _ _,Nat.le_add_right _ _⟩
   |some o'=>
    simp only;obtain⟨o1,o2,o3⟩:=headM_ok2 (h1 s (by simp)) h;obtain⟨s2,s3⟩:=headM_small (h2 s (by simp)) h;have hs:=sectP_ok (w:=w) hp s2 o3 s3;have hsl:=sectP_len p w rest;have hn:=headM_nodes h;have hn2:=len_nodess rest;simp only[Sx.nodess];cases(sectP p w rest).2==0 with
    |false=>exact⟨hs,by simp only[cond_false];omega,by simp only[cond_false];omega⟩
    |true=>
     have ih:=sectsP_ok l o' (sectP p w rest).1 hs (fun y hy=>h1 y (by simp[hy])) (fun y hy=>h2 y (by simp[hy]));simp only[cond_true];exact⟨ih.1,by omega,by omega⟩
theorem namedP_ok{x:Sx}{want:ByteArray}(hok:x.ok):(namedP x want).1.size≤bigN:=by
 unfold namedP;cases h:headM x with
 |none=>exact empty_ok
 |some wr=>
  obtain⟨w,rest⟩:=wr;obtain⟨o1,o2,o3⟩:=headM_ok2 hok h;simp only;cases bEq w want with
  |false=>exact empty_ok
  |true=>
   simp only[cond_true];split
   ·rename_i r;have:=textOf_okQ (o3 r (by simp));cases kindOf r==1 with
    |false=>exact empty_ok
    |true=>
     simp only[cond_true];cases nameB (textOf r)with
     |false=>exact empty_ok
     |true=>exact this
   ·exact empty_ok
theorem andFm_ok:andFm.ok∧andFm.small:=fm_mk_ok (by decide) (by decide) (by simp) (by simp) (by simp) (by simp) (by simp) (by simp) (by simp) (by simp)
theorem pb0_ok{n d:ByteArray}(hn:n.size≤bigN)(hd:d.size≤bigN):PbG (pb0 n d):=⟨hn,hd,⟨by simp[pb0],by simp[pb0]⟩,by simp[pb0],by simp[pb0],andFm_ok⟩
theorem ats_in(n:Nat): ∀ l:List At,inNR n (atRows l)
 |[]=>by simp only[atRows,List.map_nil,inNR]
 |a::l=>by
  have:=ats_in n l;simp only[atRows,List.map_cons,inNR,atRow,inNL,inN,and_true,true_and]at this⊢;exact⟨strs_in _ _,this⟩
theorem vls_in(n:Nat): ∀ l:List Vl,inNR n (vlRows l)
 |[]=>by simp only[vlRows,List.map_nil,inNR]
 |a::l=>by
  have:=vls_in n l;simp only[vlRows,List.map_cons,inNR,vlRow,inNL,inN,and_true,true_and]at this⊢;exact⟨strs_in _ _,this⟩
theorem pbP_ok{x:Sx}(hok:x.ok)(hsm:x.small):PbG (pbP x).1∧(pbP x).1.init.length≤x.nodes∧(pbP x).1.values.length≤x.nodes:=by
 have z0: ∀ n d:ByteArray,n.size≤bigN→d.size≤bigN→PbG (pb0 n d)∧(pb0 n d).init.length≤x.nodes∧(pb0 n d).values.length≤x.nodes:=fun n d hn hd=>⟨pb0_ok hn hd,by simp[pb0],by simp[pb0]⟩;unfold pbP;cases h:headM x with
 |none=>exact z0 _ _ empty_ok empty_ok
 |some wr=>
  obtain⟨w,rest⟩:=wr;obtain⟨o1,o2,o3⟩:=headM_ok2 hok h;obtain⟨s2,s3⟩:=headM_small hsm h;have hnn:=headM_nodes h;simp only;cases bEq w opDef with
  |false=>exact z0 _ _ empty_ok empty_ok
  |true=>
   simp only[cond_true];cases rest with
   |nil=>exact z0 _ _ empty_ok empty_ok
   |cons n rest1=>
    simp only;have hn:=namedP_ok (want:=opPrb) (o3 n (by simp));cases(namedP n opPrb).2==0 with
    |false=>exact z0 _ _ empty_ok empty_ok
    |true=>
     simp only[cond_true];cases rest1 with
     |nil=>exact z0 _ _ hn empty_ok
     |cons d rest2=>
      simp only;have hd:=namedP_ok (want:=opDom) (o3 d (by simp));cases(namedP d opDom).2==0 with
      |false=>exact z0 _ _ hn empty_ok
      |true=>
       simp only[cond_true];have hS:=sectsP_ok rest2 pbOrder (pb0 (namedP n opPrb).1 (namedP d opDom).1) (pb0_ok hn hd) (fun y hy=>o3 y (by simp[hy])) (fun y hy=>s3 y (by simp[hy]));simp only[Sx.nodess]at hnn;refine⟨hS.1,?_,?_⟩
       ·have:=hS.2.1;simp only[pb0,List.length_nil]at this⊢;omega
       ·have:=hS.2.2;simp only[pb0,List.length_nil]at this⊢;omega
theorem pbP_small{x:Sx}(hok:x.ok)(hv:(svalid x 0 0).1=true):(pbP x).1.ok∧PbSm (pbP x).1:=by
 obtain⟨h1,h2,h3⟩:=pbP_ok hok (svalid_small hv);have hn:x.nodes≤4096:=by
  have:=((svalid_iff x 0 0 (by omega) (by omega)).1.1 hv).2.2;omega
 refine⟨⟨h1.n,h1.d,⟨by have:=h1.o.1;unfold bigN;omega,h1.o.2⟩,⟨by unfold bigN;omega,fun a ha=>(h1.i a ha).1⟩,⟨by unfold bigN;omega,fun v hv=>(h1.v v hv).1⟩,h1.g.1⟩,⟨h1.g.2,h1.o.1,by omega,by omega,fun a ha=>(h1.i a ha).2,fun v hv=>(h1.v v hv).2⟩⟩
theorem pParse_c{x:Sx}(hok:x.ok)(h:Heap):PCall Tryz.prog 14 [.agg x.cells] h fun r h'=>r= .tup [.agg (parsePb x).1.cells,errP (parsePb x).2]∧h'=h:=by
 refine PCall.frz Ty.hb_14 ?_;have hv:=fun h:Heap=>svalid_c hok h;have hX:parsePb x=(if(svalid x 0 0).1=true then(if(pbP x).2=0 then(if writeB (pbP x).1=true then((pbP x).1,0)else(zeroPb,5))else(zeroPb,(pbP x).2))else(zeroPb,2)):=rfl;generalize parsePb x=F at hX;have bad: ∀ (c:Int)(h':Heap),(c==0)=false→Grow h h'→F=(zeroPb,c)→FrzTo h.next h' (.tup [.agg F.1.cells,errP F.2]) (.tup [.agg pbZ,errV c])∧Grow h h':=by
  intro c h' hc hg hF;subst hF;have:errP c=errV c:=by simp only[errP,hc,cond_false]
  simp only[this];refine⟨?_,hg⟩;simp only[errV,zeroPb,zeroFm,Pb.cells,Fm.cells,Ex.rows,Fm.rows,pmRows,strRows,atRows,vlRows,List.map_nil,List.cons_append,List.nil_append,FrzTo,FrzL];exact⟨_,rfl,⟨_,rfl,rfl,rfl,.inr (.inl ⟨rfl,.inr rfl⟩),.inr (.inl ⟨rfl,.inr rfl⟩),.inr (.inl ⟨rfl,.inr rfl⟩),rfl,rfl,.inr (.inl ⟨rfl,.inr rfl⟩),.inr (.inl ⟨rfl,.inr rfl⟩),.inr (.inl ⟨rfl,.inr rfl⟩),.inr (.inl ⟨rfl,.inr rfl⟩),trivial⟩,rfl,trivial⟩
 simp only[errV]at bad;cases v1:(svalid x 0 0).1 with
 |false=>
  rw[v1]at hv;rw[if_neg (by rw[v1];simp)]at hX;obtain⟨kind,value,line,col,text,kids⟩:=x;simp only[Sx.cells]at hv⊢;refine uG0 Tryz.func14 Tryz.ntmps14 Tryz.results14 Ty.hb_14 ?_;repeat'(first|refine a_seq fun K hK=>?_|refine uR trivial ?_|(refine uN hK ?_;clear hK)|apply zI)
  refine uU trivial (hv _) ?_;repeat'(first|refine a_seq fun K hK=>?_|refine uR @Bool.not_false ?_|refine uT @Bool.not_false ?_|(refine uN hK ?_;clear hK)|apply zI)
  exact bad 2 _ rfl (((Grow.refl h).new _).set (Nat.le_refl _) _) hX
 |true=>
  have hp:=pparse_c hok (svalid_small v1);obtain⟨gok,gsm⟩:=pbP_small hok v1;rw[v1]at hv;rw[if_pos v1]at hX;generalize pbP x=E at hp hX gok gsm;obtain⟨p,c⟩:=E;simp only at hp hX gok gsm;obtain⟨kind,value,line,col,text,kids⟩:=x;simp only[Sx.cells]at hv hp⊢;have n1:(h.next=h.next+1)=False:=by simp
  have n2:(h.next=h.next+1+1)=False:=eq_false (by omega);have n3:(h.next+1=h.next+1+1)=False:=by simp
  cases hc:c==0 with
  |false=>
   rw[if_neg (by simpa using hc)]at hX;have e0:errP c=errV c:=(by simp only[errP,hc,cond_false]);rw[e0]at hp;simp only[errV]at hp;obtain⟨pn,pd,po,pi,pv,⟨gop,gna,gar,gpa,gex,gki⟩⟩:=p;simp only[Pb.cells,Fm.cells,List.cons_append,List.nil_append]at hp;refine uG0 Tryz.func14 Tryz.ntmps14 Tryz.results14 Ty.hb_14 ?_;(repeat'(first|refine a_seq fun K hK=>?_|refine uR trivial ?_|(refine uN hK ?_;clear hK)|apply zI));refine uU trivial (hv _) ?_;(repeat'(first|refine a_seq fun K hK=>?_|refine uR @Bool.not_true ?_|refine uK ?_|refine uC1 @Bool.not_true ?_|(refine uN hK ?_;clear hK)|apply zI));refine uU trivial (hp _) ?_;replace zz:=uu n1 (uu n2 (uu n3 @nsucc));(repeat'(first|refine a_seq fun K hK=>?_|refine uR zz ?_|refine uT zz ?_|(refine uN hK ?_;clear hK)|apply zI));exact bad c _ hc (((((Grow.refl h).new _).new _).set (Nat.le_succ _) _).set (Nat.le_refl _) _) hX
  |true=>
   rw[if_pos (by simpa using hc)]at hX;have e0:errP c= .sc .nilIface:=(by simp only[errP,hc,cond_true]);rw[e0]at hp;have hW:=fun h:Heap=>pWrite_c gok gsm h;cases v2:writeB p with
   |false=>
    rw[if_neg (by rw[v2];simp)]at hX;simp only[v2,Bool.false_eq_true,if_false]at hW;obtain⟨pn,pd,po,pi,pv,⟨gop,gna,gar,gpa,gex,gki⟩⟩:=p;simp only[Pb.cells,Fm.cells,List.cons_append,List.nil_append,zeroSx,Sx.cells,Sx.rows,errV]at hp hW;refine uG0 Tryz.func14 Tryz.ntmps14 Tryz.results14 Ty.hb_14 ?_;(repeat'(first|refine a_seq fun K hK=>?_|refine uR trivial ?_|(refine uN hK ?_;clear hK)|apply zI));refine uU trivial (hv _) ?_;(repeat'(first|refine a_seq fun K hK=>?_|refine uR @Bool.not_true ?_|refine uK ?_|refine uC1 @Bool.not_true ?_|(refine uN hK ?_;clear hK)|apply zI));refine uU trivial (hp _) ?_;replace zz:=uu n1 (uu n2 (uu n3 @nsucc));(repeat'(first|refine a_seq fun K hK=>?_|refine uR zz ?_|refine uK ?_|refine uC1 zz ?_|(refine uN hK ?_;clear hK)|apply zI));refine uU zz (hW _) ?_;(repeat'(first|refine a_seq fun K hK=>?_|refine uR zz ?_|refine uT zz ?_|(refine uN hK ?_;clear hK)|apply zI));exact bad 5 _ rfl (((((((Grow.refl h).new _).new _).set (Nat.le_succ _) _).new _).set (by omega) _).set (Nat.le_refl _) _) hX
   |true=>
    rw[if_pos v2]at hX;simp only[v2,if_true]at hW;have hfz: ∀ n hh,FrzL n hh p.cells p.cells:=fun n hh=>by
     obtain⟨pn,pd,po,pi,pv,g⟩:=p;obtain⟨gop,gna,gar,gpa,gex,gki⟩:=g;simp only[Pb.cells,Fm.cells,List.cons_append,List.nil_append,FrzL,FrzTo,true_and,and_true];exact⟨.inl (pms_in _ _),.inl (ats_in _ _),.inl (vls_in _ _),.inl (strs_in _ _),.inl (pms_in _ _),.inl (exs_in _ _),.inl (fms_in _ _)⟩
    generalize pbW p=X at hW;obtain⟨ki,va,li,co,te,ks⟩:=X;obtain⟨pn,pd,po,pi,pv,⟨gop,gna,gar,gpa,gex,gki⟩⟩:=p;simp only[Pb.cells,Fm.cells,List.cons_append,List.nil_append,Sx.cells]at hp hW hfz;refine uG0 Tryz.func14 Tryz.ntmps14 Tryz.results14 Ty.hb_14 ?_;(repeat'(first|refine a_seq fun K hK=>?_|refine uR trivial ?_|(refine uN hK ?_;clear hK)|apply zI));refine uU trivial (hv _) ?_;(repeat'(first|refine a_seq fun K hK=>?_|refine uR @Bool.not_true ?_|refine uK ?_|refine uC1 @Bool.not_true ?_|(refine uN hK ?_;clear hK)|apply zI));refine uU trivial (hp _) ?_;replace zz:=uu n1 (uu n2 (uu n3 @nsucc));(repeat'(first|refine a_seq fun K hK=>?_|refine uR zz ?_|refine uK ?_|refine uC1 zz ?_|(refine uN hK ?_;clear hK)|apply zI));refine uU zz (hW _) ?_;(repeat'(first|refine a_seq fun K hK=>?_|refine uR zz ?_|refine uT zz ?_|refine uK ?_|refine uC1 zz ?_|(refine uN hK ?_;clear hK)|apply zI));refine⟨?_,((((((Grow.refl h).new _).new _).set (Nat.le_succ _) _).new _).set (by omega) _).set (Nat.le_refl _) _⟩;rw[hX];simp only[errP,beq_self_eq_true,cond_true,Pb.cells,Fm.cells,List.cons_append,List.nil_append,FrzTo];exact⟨_,rfl,by simp only[FrzL,FrzTo,and_true,true_and];exact⟨_,rfl,hfz _ _⟩⟩
end Go.Proofs.YtjeolbgpllbemaaGreat
