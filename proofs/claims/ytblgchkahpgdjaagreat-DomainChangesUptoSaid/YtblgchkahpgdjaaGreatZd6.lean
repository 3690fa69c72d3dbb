/- What the claim rests on, part 6: the abstract machine, contracts of the functions, plain data. -/
import Derived.OpenShut
import Derived.ChangeShapes
import Derived.SizedLaws
import Derived.Test.YtblgchkahpgdjaaGreatZd5
set_option linter.unusedVariables false
set_option linter.unusedSimpArgs false
set_option linter.unusedSectionVars false
namespace Go.Proofs.YtblgchkahpgdjaaGreat
open Go.AM
set_option maxHeartbeats 8000000
set_option maxRecDepth 20000
def pmR(v:Bool)(p:Pm):Bool:=(if v=true then varB p.name else nameB p.name)&&typedB p.type
theorem pmR_ok:pmR true=pmOk:=rfl
theorem a_genR{P:Program}{ow:Nat→Bool}{wf:FuncId→Bool}{n:Nat}{Q:Post}{s:Slots}{h:Heap}{c:Code}(I:Slots→Heap→Prop)(hi:I s h)(hh: ∀ s h,I s h→awp P ow wf n c Q s h):awp P ow wf n c Q s h:=hh _ _ hi
theorem rshapedPs_c{v:Bool}{l:List Pm}(hl:l.length≤bigN)(hp: ∀ p∈l,p.ok)(h:Heap):PCall Tryz.prog 29 [.imm 2 (pmRows l),.sc (.bool v)] h fun r h'=>r= .sc (.bool (l.all (pmR v)))∧h'=h:=by
 unfold bigN at hl;have hlen:=pmRows_len l;cases v with
 |true=>
  refine uG0 Tryz.func29 Tryz.ntmps29 Tryz.results29 Ty.hb_29 ?_;repeat'(first|refine a_seq fun K hK=>?_|refine a_block ?_|refine uR hlen ?_|(refine uN hK ?_;clear hK)|apply zI)
  refine a_loop (fun m S h'=>h'=h∧S 0= .imm 2 (pmRows l)∧S 1= .sc (.bool true)∧ ∃ k:Nat,S 5= .sc (.int .i64 k)∧k≤l.length∧m=l.length-k∧l.all (pmR true)=(l.drop k).all (pmR true)) l.length ?_ ?_
  ·simp only[Ty.w,simprocAttr];exact⟨0,rfl,by omega,rfl,by simp⟩
  ·rintro m S h' ⟨rfl,g0,g1,k,g5,hk,rfl,hinv⟩;by_cases hlt:k<l.length
   ·have hd:decide ((k:Int)<(l.length:Int))=true:=(by simp;omega);have w7:IntKind.i64.wrap ((k:Int)+1)=k+1:=(by rw[wrap64 (by omega) (by omega)]);obtain⟨p,hx⟩: ∃ p,l[k]? =some p:=⟨l[k],List.getElem?_eq_getElem hlt⟩;have hr:=pmRows_get hx;have hpo:=hp p (List.mem_of_getElem? hx);have h1:p.name.size≤9223372036854775807:=(by have:=hpo.1;unfold bigN at this;omega);have h2:p.type.size≤9223372036854775807:=(by have:=hpo.2;unfold bigN at this;omega);have hc:=fun h:Heap=>rvariable_c (h:=h) (s:=p.name) h1;have hc2:=fun h:Heap=>rname_c (h:=h) (s:=p.type) h2;rw[drop_of_get hx,List.all_cons]at hinv;have hq:pmR true p=(varB p.name&&(nameB p.type||(p.type.data.toList==(#[111,98,106,101,99,116]:Array UInt8).toList))):=rfl;rw[hq]at hinv;(try clear zz);clear hq;generalize varB p.name=b at hc hinv;generalize nameB p.type=b2 at hc2 hinv;cases b with
    |false=>
     simp only[Bool.false_and]at hinv;(repeat'(first|refine a_seq fun K hK=>?_|(refine a_regionS ?_;simp(maxSteps:=2000000) only[Ty.w,simprocAttr,g0,g1,g5,hd,hr,bne,Bool.not_true,Bool.not_false])|(refine a_skip ?_;(try simp only[pst0,simprocAttr]))|(refine a_cond _ (by(try simp(maxSteps:=2000000) only[Ty.w,simprocAttr,g0,g1,g5,hd,hr,bne,Bool.not_true,Bool.not_false]);rfl) (fun hb=>?_) (fun hb=>?_)<;>(try simp only[hb0,decide_eq_true_eq,decide_eq_false_iff_not,simprocAttr]at hb)<;>(try(exfalso;omega)))|(refine hK _ _ ?_;clear hK;(try simp only[pst0,simprocAttr]))));refine owp_useQ (hc _) (by(try simp only[Ty.w,simprocAttr,g0,g1,g5,hd,hr,bne,Bool.not_true,Bool.not_false]);try rfl) ?_;simp(maxSteps:=2000000) only[Ty.w,simprocAttr,g0,g1,g5,hd,hr,bne,Bool.not_true,Bool.not_false];(repeat'(first|refine a_seq fun K hK=>?_|((first|refine a_regionS ?_|refine a_ret ?_);simp(maxSteps:=2000000) only[Ty.w,simprocAttr,g0,g1,g5,hd,hr,bne,Bool.not_true,Bool.not_false])|(refine hK _ _ ?_;clear hK;(try simp only[pst0,simprocAttr]))));rw[hinv]
    |true=>
     cases q:(p.type.data.toList==(#[111,98,106,101,99,116]:Array UInt8).toList)with
     |true=>
      simp only[q,Bool.or_true,Bool.true_and]at hinv;(repeat'(first|refine a_seq fun K hK=>?_|(refine a_regionS ?_;simp(maxSteps:=2000000) only[Ty.w,simprocAttr,g0,g1,g5,hd,hr,bne,Bool.not_true,Bool.not_false,q])|(refine a_skip ?_;(try simp only[pst0,simprocAttr]))|(refine a_cond _ (by(try simp(maxSteps:=2000000) only[Ty.w,simprocAttr,g0,g1,g5,hd,hr,bne,Bool.not_true,Bool.not_false,q]);rfl) (fun hb=>?_) (fun hb=>?_)<;>(try simp only[hb0,decide_eq_true_eq,decide_eq_false_iff_not,simprocAttr]at hb)<;>(try(exfalso;omega)))|(refine hK _ _ ?_;clear hK;(try simp only[pst0,simprocAttr]))));refine owp_useQ (hc _) (by(try simp only[Ty.w,simprocAttr,g0,g1,g5,hd,hr,bne,Bool.not_true,Bool.not_false,q]);try rfl) ?_;simp(maxSteps:=2000000) only[Ty.w,simprocAttr,g0,g1,g5,hd,hr,bne,Bool.not_true,Bool.not_false,q];(repeat'(first|(refine a_block ?_)|(refine a_regionS ?_;simp(maxSteps:=2000000) only[Ty.w,simprocAttr,g0,g1,g5,hd,hr,bne,Bool.not_true,Bool.not_false,q,w7])|(refine a_skip ?_;(try simp only[pst0,simprocAttr]))|(refine hK _ _ ?_;clear hK;(try simp only[pst0,simprocAttr]))));exact⟨l.length-(k+1),by omega,k+1,by simp,by omega,rfl,hinv⟩
     |false=>
      cases b2 with
      |false=>
       simp only[q,Bool.or_false,Bool.false_and,Bool.and_false]at hinv;(repeat'(first|refine a_seq fun K hK=>?_|(refine a_regionS ?_;simp(maxSteps:=2000000) only[Ty.w,simprocAttr,g0,g1,g5,hd,hr,bne,Bool.not_true,Bool.not_false,q])|(refine a_skip ?_;(try simp only[pst0,simprocAttr]))|(refine a_cond _ (by(try simp(maxSteps:=2000000) only[Ty.w,simprocAttr,g0,g1,g5,hd,hr,bne,Bool.not_true,Bool.not_false,q]);rfl) (fun hb=>?_) (fun hb=>?_)<;>(try simp only[hb0,decide_eq_true_eq,decide_eq_false_iff_not,simprocAttr]at hb)<;>(try(exfalso;omega)))|(refine hK _ _ ?_;clear hK;(try simp only[pst0,simprocAttr]))));refine owp_useQ (hc _) (by(try simp only[Ty.w,simprocAttr,g0,g1,g5,hd,hr,bne,Bool.not_true,Bool.not_false,q]);try rfl) ?_;simp(maxSteps:=2000000) only[Ty.w,simprocAttr,g0,g1,g5,hd,hr,bne,Bool.not_true,Bool.not_false,q];skip
       refine owp_useQ (hc2 _) (by(try simp only[Ty.w,simprocAttr,g0,g1,g5,hd,hr,bne,Bool.not_true,Bool.not_false,q]);try rfl) ?_;simp(maxSteps:=2000000) only[Ty.w,simprocAttr,g0,g1,g5,hd,hr,bne,Bool.not_true,Bool.not_false,q];(repeat'(first|refine a_seq fun K hK=>?_|((first|refine a_regionS ?_|refine a_ret ?_);simp(maxSteps:=2000000) only[Ty.w,simprocAttr,g0,g1,g5,hd,hr,bne,Bool.not_true,Bool.not_false,q])|(refine hK _ _ ?_;clear hK;(try simp only[pst0,simprocAttr]))));rw[hinv]
      |true=>
       simp only[q,Bool.or_false,Bool.true_and]at hinv;(repeat'(first|refine a_seq fun K hK=>?_|(refine a_regionS ?_;simp(maxSteps:=2000000) only[Ty.w,simprocAttr,g0,g1,g5,hd,hr,bne,Bool.not_true,Bool.not_false,q])|(refine a_skip ?_;(try simp only[pst0,simprocAttr]))|(refine a_cond _ (by(try simp(maxSteps:=2000000) only[Ty.w,simprocAttr,g0,g1,g5,hd,hr,bne,Bool.not_true,Bool.not_false,q]);rfl) (fun hb=>?_) (fun hb=>?_)<;>(try simp only[hb0,decide_eq_true_eq,decide_eq_false_iff_not,simprocAttr]at hb)<;>(try(exfalso;omega)))|(refine hK _ _ ?_;clear hK;(try simp only[pst0,simprocAttr]))));refine owp_useQ (hc _) (by(try simp only[Ty.w,simprocAttr,g0,g1,g5,hd,hr,bne,Bool.not_true,Bool.not_false,q]);try rfl) ?_;simp(maxSteps:=2000000) only[Ty.w,simprocAttr,g0,g1,g5,hd,hr,bne,Bool.not_true,Bool.not_false,q];skip
       refine owp_useQ (hc2 _) (by(try simp only[Ty.w,simprocAttr,g0,g1,g5,hd,hr,bne,Bool.not_true,Bool.not_false,q]);try rfl) ?_;simp(maxSteps:=2000000) only[Ty.w,simprocAttr,g0,g1,g5,hd,hr,bne,Bool.not_true,Bool.not_false,q];(repeat'(first|(refine a_block ?_)|(refine a_regionS ?_;simp(maxSteps:=2000000) only[Ty.w,simprocAttr,g0,g1,g5,hd,hr,bne,Bool.not_true,Bool.not_false,q,w7])|(refine a_skip ?_;(try simp only[pst0,simprocAttr]))|(refine hK _ _ ?_;clear hK;(try simp only[pst0,simprocAttr]))));exact⟨l.length-(k+1),by omega,k+1,by simp,by omega,rfl,hinv⟩
   ·have hd:decide ((k:Int)<(l.length:Int))=false:=(by simp;omega);rw[List.drop_eq_nil_of_le (by omega)]at hinv;replace zz:=uu g0 (uu g1 (uu g5 (uu hlen hd)));(repeat'(first|refine a_seq fun K hK=>?_|refine uR zz ?_|refine uT zz ?_|refine uX ?_|refine uC1 zz ?_|(refine uN hK ?_;clear hK)|(clear hK;refine uN hK ?_;clear hK)|apply zI));rw[hinv];try rfl
 |false=>
  refine uG0 Tryz.func29 Tryz.ntmps29 Tryz.results29 Ty.hb_29 ?_;repeat'(first|refine a_seq fun K hK=>?_|refine a_block ?_|refine uR hlen ?_|(refine uN hK ?_;clear hK)|apply zI)
  refine a_loop (fun m S h'=>h'=h∧S 0= .imm 2 (pmRows l)∧S 1= .sc (.bool false)∧ ∃ k:Nat,S 5= .sc (.int .i64 k)∧k≤l.length∧m=l.length-k∧l.all (pmR false)=(l.drop k).all (pmR false)) l.length ?_ ?_
  ·simp only[Ty.w,simprocAttr];exact⟨0,rfl,by omega,rfl,by simp⟩
  ·rintro m S h' ⟨rfl,g0,g1,k,g5,hk,rfl,hinv⟩;by_cases hlt:k<l.length
   ·have hd:decide ((k:Int)<(l.length:Int))=true:=(by simp;omega);have w7:IntKind.i64.wrap ((k:Int)+1)=k+1:=(by rw[wrap64 (by omega) (by omega)]);obtain⟨p,hx⟩: ∃ p,l[k]? =some p:=⟨l[k],List.getElem?_eq_getElem hlt⟩;have hr:=pmRows_get hx;have hpo:=hp p (List.mem_of_getElem? hx);have h1:p.name.size≤9223372036854775807:=(by have:=hpo.1;unfold bigN at this;omega);have h2:p.type.size≤9223372036854775807:=(by have:=hpo.2;unfold bigN at this;omega);have hc:=fun h:Heap=>rname_c (h:=h) (s:=p.name) h1;have hc2:=fun h:Heap=>rname_c (h:=h) (s:=p.type) h2;rw[drop_of_get hx,List.all_cons]at hinv;have hq:pmR false p=(nameB p.name&&(nameB p.type||(p.type.data.toList==(#[111,98,106,101,99,116]:Array UInt8).toList))):=rfl;rw[hq]at hinv;(try clear zz);clear hq;generalize nameB p.name=b at hc hinv;generalize nameB p.type=b2 at hc2 hinv;cases b with
    |false=>
     simp only[Bool.false_and]at hinv;(repeat'(first|refine a_seq fun K hK=>?_|(refine a_regionS ?_;simp(maxSteps:=2000000) only[Ty.w,simprocAttr,g0,g1,g5,hd,hr,bne,Bool.not_true,Bool.not_false])|(refine a_skip ?_;(try simp only[pst0,simprocAttr]))|(refine a_cond _ (by(try simp(maxSteps:=2000000) only[Ty.w,simprocAttr,g0,g1,g5,hd,hr,bne,Bool.not_true,Bool.not_false]);rfl) (fun hb=>?_) (fun hb=>?_)<;>(try simp only[hb0,decide_eq_true_eq,decide_eq_false_iff_not,simprocAttr]at hb)<;>(try(exfalso;omega)))|(refine hK _ _ ?_;clear hK;(try simp only[pst0,simprocAttr]))));refine owp_useQ (hc _) (by(try simp only[Ty.w,simprocAttr,g0,g1,g5,hd,hr,bne,Bool.not_true,Bool.not_false]);try rfl) ?_;simp(maxSteps:=2000000) only[Ty.w,simprocAttr,g0,g1,g5,hd,hr,bne,Bool.not_true,Bool.not_false];(repeat'(first|refine a_seq fun K hK=>?_|((first|refine a_regionS ?_|refine a_ret ?_);simp(maxSteps:=2000000) only[Ty.w,simprocAttr,g0,g1,g5,hd,hr,bne,Bool.not_true,Bool.not_false])|(refine hK _ _ ?_;clear hK;(try simp only[pst0,simprocAttr]))));rw[hinv]
    |true=>
     cases q:(p.type.data.toList==(#[111,98,106,101,99,116]:Array UInt8).toList)with
     |true=>
      simp only[q,Bool.or_true,Bool.true_and]at hinv;(repeat'(first|refine a_seq fun K hK=>?_|(refine a_regionS ?_;simp(maxSteps:=2000000) only[Ty.w,simprocAttr,g0,g1,g5,hd,hr,bne,Bool.not_true,Bool.not_false,q])|(refine a_skip ?_;(try simp only[pst0,simprocAttr]))|(refine a_cond _ (by(try simp(maxSteps:=2000000) only[Ty.w,simprocAttr,g0,g1,g5,hd,hr,bne,Bool.not_true,Bool.not_false,q]);rfl) (fun hb=>?_) (fun hb=>?_)<;>(try simp only[hb0,decide_eq_true_eq,decide_eq_false_iff_not,simprocAttr]at hb)<;>(try(exfalso;omega)))|(refine hK _ _ ?_;clear hK;(try simp only[pst0,simprocAttr]))));refine owp_useQ (hc _) (by(try simp only[Ty.w,simprocAttr,g0,g1,g5,hd,hr,bne,Bool.not_true,Bool.not_false,q]);try rfl) ?_;simp(maxSteps:=2000000) only[Ty.w,simprocAttr,g0,g1,g5,hd,hr,bne,Bool.not_true,Bool.not_false,q];(repeat'(first|(refine a_block ?_)|(refine a_regionS ?_;simp(maxSteps:=2000000) only[Ty.w,simprocAttr,g0,g1,g5,hd,hr,bne,Bool.not_true,Bool.not_false,q,w7])|(refine a_skip ?_;(try simp only[pst0,simprocAttr]))|(refine hK _ _ ?_;clear hK;(try simp only[pst0,simprocAttr]))));exact⟨l.length-(k+1),by omega,k+1,by simp,by omega,rfl,hinv⟩
     |false=>
      cases b2 with
      |false=>
       simp only[q,Bool.or_false,Bool.false_and,Bool.and_false]at hinv;(repeat'(first|refine a_seq fun K hK=>?_|(refine a_regionS ?_;simp(maxSteps:=2000000) only[Ty.w,simprocAttr,g0,g1,g5,hd,hr,bne,Bool.not_true,Bool.not_false,q])|(refine a_skip ?_;(try simp only[pst0,simprocAttr]))|(refine a_cond _ (by(try simp(maxSteps:=2000000) only[Ty.w,simprocAttr,g0,g1,g5,hd,hr,bne,Bool.not_true,Bool.not_false,q]);rfl) (fun hb=>?_) (fun hb=>?_)<;>(try simp only[hb0,decide_eq_true_eq,decide_eq_false_iff_not,simprocAttr]at hb)<;>(try(exfalso;omega)))|(refine hK _ _ ?_;clear hK;(try simp only[pst0,simprocAttr]))));refine owp_useQ (hc _) (by(try simp only[Ty.w,simprocAttr,g0,g1,g5,hd,hr,bne,Bool.not_true,Bool.not_false,q]);try rfl) ?_;simp(maxSteps:=2000000) only[Ty.w,simprocAttr,g0,g1,g5,hd,hr,bne,Bool.not_true,Bool.not_false,q];skip
       refine owp_useQ (hc2 _) (by(try simp only[Ty.w,simprocAttr,g0,g1,g5,hd,hr,bne,Bool.not_true,Bool.not_false,q]);try rfl) ?_;simp(maxSteps:=2000000) only[Ty.w,simprocAttr,g0,g1,g5,hd,hr,bne,Bool.not_true,Bool.not_false,q];(repeat'(first|refine a_seq fun K hK=>?_|((first|refine a_regionS ?_|refine a_ret ?_);simp(maxSteps:=2000000) only[Ty.w,simprocAttr,g0,g1,g5,hd,hr,bne,Bool.not_true,Bool.not_false,q])|(refine hK _ _ ?_;clear hK;(try simp only[pst0,simprocAttr]))));rw[hinv]
      |true=>
       simp only[q,Bool.or_false,Bool.true_and]at hinv;(repeat'(first|refine a_seq fun K hK=>?_|(refine a_regionS ?_;simp(maxSteps:=2000000) only[Ty.w,simprocAttr,g0,g1,g5,hd,hr,bne,Bool.not_true,Bool.not_false,q])|(refine a_skip ?_;(try simp only[pst0,simprocAttr]))|(refine a_cond _ (by(try simp(maxSteps:=2000000) only[Ty.w,simprocAttr,g0,g1,g5,hd,hr,bne,Bool.not_true,Bool.not_false,q]);rfl) (fun hb=>?_) (fun hb=>?_)<;>(try simp only[hb0,decide_eq_true_eq,decide_eq_false_iff_not,simprocAttr]at hb)<;>(try(exfalso;omega)))|(refine hK _ _ ?_;clear hK;(try simp only[pst0,simprocAttr]))));refine owp_useQ (hc _) (by(try simp only[Ty.w,simprocAttr,g0,g1,g5,hd,hr,bne,Bool.not_true,Bool.not_false,q]);try rfl) ?_;simp(maxSteps:=2000000) only[Ty.w,simprocAttr,g0,g1,g5,hd,hr,bne,Bool.not_true,Bool.not_false,q];skip
       refine owp_useQ (hc2 _) (by(try simp only[Ty.w,simprocAttr,g0,g1,g5,hd,hr,bne,Bool.not_true,Bool.not_false,q]);try rfl) ?_;simp(maxSteps:=2000000) only[Ty.w,simprocAttr,g0,g1,g5,hd,hr,bne,Bool.not_true,Bool.not_false,q];(repeat'(first|(refine a_block ?_)|(refine a_regionS ?_;simp(maxSteps:=2000000) only[Ty.w,simprocAttr,g0,g1,g5,hd,hr,bne,Bool.not_true,Bool.not_false,q,w7])|(refine a_skip ?_;(try simp only[pst0,simprocAttr]))|(refine hK _ _ ?_;clear hK;(try simp only[pst0,simprocAttr]))));exact⟨l.length-(k+1),by omega,k+1,by simp,by omega,rfl,hinv⟩
   ·have hd:decide ((k:Int)<(l.length:Int))=false:=(by simp;omega);rw[List.drop_eq_nil_of_le (by omega)]at hinv;replace zz:=uu g0 (uu g1 (uu g5 (uu hlen hd)));(repeat'(first|refine a_seq fun K hK=>?_|refine uR zz ?_|refine uT zz ?_|refine uX ?_|refine uC1 zz ?_|(refine uN hK ?_;clear hK)|(clear hK;refine uN hK ?_;clear hK)|apply zI));rw[hinv];try rfl
theorem rshapedF_c: ∀ f:Fm,f.ok→ ∀ h:Heap,PCall Tryz.prog 80 [.agg f.cells] h fun r h'=>r= .sc (.bool (shapedF f))∧h'=h:=by
 refine Fm.ind ?_;intro op name args params exprs kids ih hok h;simp only[Fm.ok]at hok;obtain⟨_,hnm,⟨hal,hargs⟩,⟨hpl,hps⟩,⟨hel,hes⟩,hkl,hks⟩:=hok;rw[Ex.oks_iff]at hes;rw[Fm.oks_iff]at hks;have hnm':name.size≤9223372036854775807:=by unfold bigN at hnm;omega
 have hP:=fun h:Heap=>rshapedPs_c (v:=true) hpl hps h;rw[pmR_ok]at hP;have hA:=fun h:Heap=>rall_c (h:=h) hal hargs;have hN:=fun h:Heap=>rname_c (h:=h) (s:=name) hnm';unfold bigN at hal hpl hel hkl;have hlA:=strRows_len args;have hlP:=pmRows_len params;have hlE:=Ex.rows_len exprs;have hlK:=Fm.rows_len kids;have hbK: ∀ k∈kids,shapedF k=false→shapedF (.mk op name args params exprs kids)=false:=fun k hk hf=>by
  cases hh:shapedF (.mk op name args params exprs kids)with
  |false=>rfl
  |true=>rw[(shapedF_kid hh).2 k hk]at hf;simp at hf
 have hbE: ∀ e∈exprs,shapedE e=false→shapedF (.mk op name args params exprs kids)=false:=fun k hk hf=>by
  cases hh:shapedF (.mk op name args params exprs kids)with
  |false=>rfl
  |true=>rw[(shapedF_kid hh).1 k hk]at hf;simp at hf
 have hop:(∀ e∈exprs,shapedE e=true)→(∀ k∈kids,shapedF k=true)→shapedF (.mk op name args params exprs kids)=opF op name args params exprs.length kids.length:=shapedF_op;generalize shapedF (.mk op name args params exprs kids)=F at hbK hbE hop;simp only[Fm.cells];refine uG0 Tryz.func80 Tryz.ntmps80 Tryz.results80 Ty.hb_80 ?_;repeat'(first|refine a_seq fun K hK=>?_|refine a_block ?_|refine uR hlK ?_|(refine uN hK ?_;clear hK)|apply zI)
 refine a_loop (fun m S h'=>h'=h∧S 1= .cptr (Fm.mk op name args params exprs kids).cells∧ ∃ k:Nat,S 3= .sc (.int .i64 k)∧k≤kids.length∧m=kids.length-k∧ ∀ (i:Nat)(e:Fm),i<k→kids[i]? =some e→shapedF e=true) kids.length ?_ ?_
 ·simp only[Ty.w,simprocAttr];exact⟨rfl,0,rfl,by omega,rfl,by omega⟩
 ·rintro m S h' ⟨rfl,g1,k,g3,hkk,rfl,hall⟩;simp only[Fm.cells]at g1;by_cases hlt:k<kids.length
  ·(try clear zz);clear hop hbE;have hd:decide ((k:Int)<(kids.length:Int))=true:=(by simp;omega);have w7:IntKind.i64.wrap ((k:Int)+1)=k+1:=(by rw[wrap64 (by omega) (by omega)]);obtain⟨e,hx⟩: ∃ e,kids[k]? =some e:=⟨_,List.getElem?_eq_getElem hlt⟩;have hmem:=List.mem_of_getElem? hx;have hc:=ih e hmem (hks e hmem);have hr:=Fm.rows_get hx;have hbad:=hbK e hmem;have hgood:shapedF e=true→ ∀ (i:Nat)(e:Fm),i<k+1→kids[i]? =some e→shapedF e=true:=fun h1 i e2 hi hw=>by
    by_cases hik:i=k
    ·subst hik;rw[hx]at hw;simp at hw;rw[← hw];exact h1
    ·exact hall i e2 (by omega) hw
   generalize shapedF e=b at hc hbad hgood;(try clear zz);clear hbK hall;obtain⟨o2,n2,a2,p2,e2,k2⟩:=e;simp only[Fm.cells]at hr hc;cases b with
   |false=>
    have:=hbad rfl;subst this;replace zz:=uu g1 (uu g3 (uu hlK (uu hd (uu hr w7))));(repeat'(first|refine a_seq fun K hK=>?_|refine uR zz ?_|refine uK ?_|refine uC1 zz ?_|(refine uN hK ?_;clear hK)|apply zI));replace zz:=uu g1 (uu g3 (uu hlK (uu hd (uu hr @Bool.not_false))));refine uU zz (hc _) ?_;replace zz:=uu g1 (uu g3 (uu w7 @Bool.not_false));repeat'(first|refine a_seq fun K hK=>?_|refine uR zz ?_|refine uT zz ?_|(refine uN hK ?_;clear hK)|apply zI)
   |true=>
    replace zz:=uu g1 (uu g3 (uu hlK (uu hd (uu hr w7))));(repeat'(first|refine a_seq fun K hK=>?_|refine uR zz ?_|refine uK ?_|refine uC1 zz ?_|(refine uN hK ?_;clear hK)|apply zI));replace zz:=uu g1 (uu g3 (uu hlK (uu hd (uu hr @Bool.not_true))));refine uU zz (hc _) ?_;replace zz:=uu g1 (uu g3 (uu w7 @Bool.not_true));(repeat'(first|refine a_block ?_|refine uR zz ?_|refine uK ?_|(refine uN hK ?_;clear hK)|apply zI));exact⟨kids.length-(k+1),by omega,rfl,k+1,by simp,by omega,rfl,hgood rfl⟩
  ·have hd:decide ((k:Int)<(kids.length:Int))=false:=(by simp;omega);have hop2:=fun hE=>hop hE fun e he=>by
    obtain⟨i,hi⟩:=List.getElem?_of_mem he;exact hall i e (by have:=(List.getElem?_eq_some_iff.1 hi).1;omega) hi
   (try clear zz);clear hop hall hbK ih;replace zz:=uu g1 (uu g3 (uu hlK hd));(repeat'(first|refine a_seq fun K hK=>?_|refine a_block ?_|refine uR zz ?_|refine uX ?_|refine uC1 zz ?_|(refine uN hK ?_;clear hK)|(clear hK;refine uN hK ?_;clear hK)|apply zI));(try clear zz);clear g3 hd;refine a_loop (fun m S h2=>h2=h'∧S 1= .cptr (Fm.mk op name args params exprs kids).cells∧ ∃ k:Nat,S 4= .sc (.int .i64 k)∧k≤exprs.length∧m=exprs.length-k∧ ∀ (i:Nat)(e:Ex),i<k→exprs[i]? =some e→shapedE e=true) exprs.length ?_ ?_
   ·simp only[Ty.w,simprocAttr,g1];exact⟨rfl,0,rfl,by omega,rfl,by omega⟩
   ·(try clear zz);clear g1 S;rintro m S h2 ⟨rfl,g1,k,g3,hkk,rfl,hall⟩;simp only[Fm.cells]at g1;by_cases hlt:k<exprs.length
    ·(try clear zz);clear hop2;have hd:decide ((k:Int)<(exprs.length:Int))=true:=(by simp;omega);have w7:IntKind.i64.wrap ((k:Int)+1)=k+1:=(by rw[wrap64 (by omega) (by omega)]);obtain⟨e,hx⟩: ∃ e,exprs[k]? =some e:=⟨_,List.getElem?_eq_getElem hlt⟩;have hmem:=List.mem_of_getElem? hx;have hc:=rshapedE_c e (hes e hmem);have hr:=Ex.rows_get hx;have hbad:=hbE e hmem;have hgood:shapedE e=true→ ∀ (i:Nat)(e:Ex),i<k+1→exprs[i]? =some e→shapedE e=true:=fun h1 i e2 hi hw=>by
      by_cases hik:i=k
      ·subst hik;rw[hx]at hw;simp at hw;rw[← hw];exact h1
      ·exact hall i e2 (by omega) hw
     generalize shapedE e=b at hc hbad hgood;(try clear zz);clear hbE hall;obtain⟨o2,n2,v2,a2,k2⟩:=e;simp only[Ex.cells]at hr hc;cases b with
     |false=>
      have:=hbad rfl;subst this;replace zz:=uu g1 (uu g3 (uu hlE (uu hd (uu hr w7))));(repeat'(first|refine a_seq fun K hK=>?_|refine uR zz ?_|refine uK ?_|refine uC1 zz ?_|(refine uN hK ?_;clear hK)|apply zI));replace zz:=uu g1 (uu g3 (uu hlE (uu hd (uu hr @Bool.not_false))));refine uU zz (hc _) ?_;replace zz:=uu g1 (uu g3 (uu w7 @Bool.not_false));repeat'(first|refine a_seq fun K hK=>?_|refine uR zz ?_|refine uT zz ?_|(refine uN hK ?_;clear hK)|apply zI)
     |true=>
      replace zz:=uu g1 (uu g3 (uu hlE (uu hd (uu hr w7))));(repeat'(first|refine a_seq fun K hK=>?_|refine uR zz ?_|refine uK ?_|refine uC1 zz ?_|(refine uN hK ?_;clear hK)|apply zI));replace zz:=uu g1 (uu g3 (uu hlE (uu hd (uu hr @Bool.not_true))));refine uU zz (hc _) ?_;replace zz:=uu g1 (uu g3 (uu w7 @Bool.not_true));(repeat'(first|refine a_block ?_|refine uR zz ?_|refine uK ?_|(refine uN hK ?_;clear hK)|apply zI));exact⟨exprs.length-(k+1),by omega,rfl,k+1,by simp,by omega,rfl,hgood rfl⟩
    ·have hd:decide ((k:Int)<(exprs.length:Int))=false:=(by simp;omega);have hF:=hop2 fun e he=>by
      obtain⟨i,hi⟩:=List.getElem?_of_mem he;exact hall i e (by have:=(List.getElem?_eq_some_iff.1 hi).1;omega) hi
     (try clear zz);clear hop2 hall hbE;have wa:IntKind.i64.wrap ((params.length:Int)+exprs.length)=(params.length:Int)+exprs.length:=(by rw[wrap64 (by omega) (by omega)]);have wb:IntKind.i64.wrap (((params.length:Int)+exprs.length)+kids.length)=((params.length:Int)+exprs.length)+kids.length:=(by rw[wrap64 (by omega) (by omega)]);have wc:IntKind.i64.wrap ((args.length:Int)+params.length)=(args.length:Int)+params.length:=(by rw[wrap64 (by omega) (by omega)]);have wd:IntKind.i64.wrap (((args.length:Int)+params.length)+kids.length)=((args.length:Int)+params.length)+kids.length:=(by rw[wrap64 (by omega) (by omega)]);have we:IntKind.i64.wrap (((args.length:Int)+params.length)+exprs.length)=((args.length:Int)+params.length)+exprs.length:=(by rw[wrap64 (by omega) (by omega)]);have wf:IntKind.i64.wrap ((args.length:Int)+exprs.length)=(args.length:Int)+exprs.length:=(by rw[wrap64 (by omega) (by omega)]);unfold opF at hF;simp only[opAtom,opSame,opLt,opLe,opEq,opAnd,opOr,opNot,opImp,opAll,opSome,bEq]at hF;(repeat'(first|(with_reducible refine a_hold 12 ?_)|(first|refine a_seq fun K hK=>?_|((first|refine a_regionS ?_|refine a_drawS (by decide+kernel) ?_);simp(maxSteps:=2000000) only[Ty.w,simprocAttr,g1,g3,hd,hlA,hlP,hlE,hlK,bne])|(refine a_exit ?_;(try simp only[pst0,simprocAttr]))|(refine a_cond _ (by(try simp(maxSteps:=2000000) only[Ty.w,simprocAttr,g1,g3,hd,hlA,hlP,hlE,hlK,bne]);rfl) (fun hb=>?_) (fun hb=>?_)<;>(try simp only[hb0,decide_eq_true_eq,decide_eq_false_iff_not,simprocAttr]at hb)<;>(try(exfalso;omega)))|((first|refine hK _ _ ?_|(clear hK;refine hK _ _ ?_));clear hK;(try simp only[pst0,simprocAttr])))));refine⟨?_⟩;refine a_genR (fun S h3=>S 1= .cptr (Fm.mk op name args params exprs kids).cells∧S 5= .sc (.bool (!(name.data.toList==(#[]:Array UInt8).toList)))∧S 6= .sc (.int .i64 args.length)∧S 7= .sc (.int .i64 params.length)∧S 8= .sc (.int .i64 exprs.length)∧S 9= .sc (.int .i64 kids.length)∧h3=h2) ?_ ?_
     ·simp only[Ty.w,simprocAttr,g1,Fm.cells];try trivial
     (try clear zz);clear g1 g3 hd S hlA hlP hlE hlK;rintro S h2 ⟨g1,g5,g6,g7,g8,g9,rfl⟩;simp only[Fm.cells]at g1;cases k1:(op.data.toList==(#[97,116,111,109]:Array UInt8).toList)with
     |true=>
      simp only[k1,Bool.true_or,Bool.or_true,Bool.false_or,if_true,Bool.false_eq_true,if_false]at hF;generalize nameB name=bN at hN hF;cases bN with
      |false=>
       (try simp only[Bool.false_and,Bool.and_false]at hF);subst hF;replace zz:=uu g1 (uu g5 (uu g6 (uu g7 (uu g8 (uu g9 (uu @Bool.not_true (uu @Bool.not_false (uu wa (uu wb (uu wc (uu wd (uu we (uu wf k1)))))))))))));(repeat'(first|refine a_seq fun K hK=>?_|refine uR zz ?_|(refine uN hK ?_;clear hK)|apply zI));refine uU zz (hN _) ?_;(repeat'(first|refine uT zz ?_|(refine uN hK ?_;clear hK)|apply zI));all_goals rfl
      |true=>
       (try simp only[Bool.true_and,Bool.and_true]at hF);generalize args.all termB=bA at hA hF;cases bA with
       |false=>
        (try simp only[Bool.false_and,Bool.and_false]at hF);subst hF;replace zz:=uu g1 (uu g5 (uu g6 (uu g7 (uu g8 (uu g9 (uu @Bool.not_true (uu @Bool.not_false (uu wa (uu wb (uu wc (uu wd (uu we (uu wf k1)))))))))))));(repeat'(first|refine a_seq fun K hK=>?_|refine uR zz ?_|(refine uN hK ?_;clear hK)|apply zI));refine uU zz (hN _) ?_;(try apply zI);refine uU zz (hA _) ?_;(repeat'(first|refine uT zz ?_|(refine uN hK ?_;clear hK)|apply zI));all_goals rfl
       |true=>
        (try simp only[Bool.true_and,Bool.and_true]at hF);cases q2:((((params.length:Int)+exprs.length)+kids.length)==0)with
        |false=>
         simp only[q2,Bool.false_and,Bool.and_false]at hF;subst hF;replace zz:=uu g1 (uu g5 (uu g6 (uu g7 (uu g8 (uu g9 (uu @Bool.not_true (uu @Bool.not_false (uu wa (uu wb (uu wc (uu wd (uu we (uu wf (uu k1 q2))))))))))))));(repeat'(first|refine a_seq fun K hK=>?_|refine uR zz ?_|(refine uN hK ?_;clear hK)|apply zI));refine uU zz (hN _) ?_;(try apply zI);refine uU zz (hA _) ?_;(repeat'(first|refine uT zz ?_|(refine uN hK ?_;clear hK)|apply zI));all_goals rfl
        |true=>
         simp only[q2,Bool.true_and,Bool.and_true]at hF;subst hF;replace zz:=uu g1 (uu g5 (uu g6 (uu g7 (uu g8 (uu g9 (uu @Bool.not_true (uu @Bool.not_false (uu wa (uu wb (uu wc (uu wd (uu we (uu wf (uu k1 q2))))))))))))));(repeat'(first|refine a_seq fun K hK=>?_|refine uR zz ?_|(refine uN hK ?_;clear hK)|apply zI));refine uU zz (hN _) ?_;(try apply zI);refine uU zz (hA _) ?_;(repeat'(first|refine uT zz ?_|(refine uN hK ?_;clear hK)|apply zI));all_goals rfl
     |false=>
      simp only[k1,Bool.true_or,Bool.or_true,Bool.false_or,if_true,Bool.false_eq_true,if_false]at hF;cases k2:(op.data.toList==(#[115,97,109,101]:Array UInt8).toList)with
      |true=>
       simp only[k2,Bool.true_or,Bool.or_true,Bool.false_or,if_true,Bool.false_eq_true,if_false]at hF;cases q0:(name.data.toList==(#[]:Array UInt8).toList)with
       |false=>
        simp only[q0,Bool.false_and,Bool.and_false]at hF;subst hF;replace zz:=uu g1 (uu g5 (uu g6 (uu g7 (uu g8 (uu g9 (uu @Bool.not_true (uu @Bool.not_false (uu wa (uu wb (uu wc (uu wd (uu we (uu wf (uu k1 (uu k2 q0)))))))))))))));(repeat'(first|refine a_seq fun K hK=>?_|refine uR zz ?_|refine uT zz ?_|(refine uN hK ?_;clear hK)|apply zI));all_goals rfl
       |true=>
        simp only[q0,Bool.true_and,Bool.and_true]at hF;cases q1:((args.length:Int)==2)with
        |false=>
         simp only[q1,Bool.false_and,Bool.and_false]at hF;subst hF;replace zz:=uu g1 (uu g5 (uu g6 (uu g7 (uu g8 (uu g9 (uu @Bool.not_true (uu @Bool.not_false (uu wa (uu wb (uu wc (uu wd (uu we (uu wf (uu k1 (uu k2 (uu q0 q1))))))))))))))));(repeat'(first|refine a_seq fun K hK=>?_|refine uR zz ?_|refine uT zz ?_|(refine uN hK ?_;clear hK)|apply zI));all_goals rfl
        |true=>
         simp only[q1,Bool.true_and,Bool.and_true]at hF;generalize args.all termB=bA at hA hF;cases bA with
         |false=>
          (try simp only[Bool.false_and,Bool.and_false]at hF);subst hF;replace zz:=uu g1 (uu g5 (uu g6 (uu g7 (uu g8 (uu g9 (uu @Bool.not_true (uu @Bool.not_false (uu wa (uu wb (uu wc (uu wd (uu we (uu wf (uu k1 (uu k2 (uu q0 q1))))))))))))))));(repeat'(first|refine a_seq fun K hK=>?_|refine uR zz ?_|(refine uN hK ?_;clear hK)|apply zI));refine uU zz (hA _) ?_;(repeat'(first|refine uT zz ?_|(refine uN hK ?_;clear hK)|apply zI));all_goals rfl
         |true=>
          (try simp only[Bool.true_and,Bool.and_true]at hF);cases q3:((((params.length:Int)+exprs.length)+kids.length)==0)with
          |false=>
           simp only[q3,Bool.false_and,Bool.and_false]at hF;subst hF;replace zz:=uu g1 (uu g5 (uu g6 (uu g7 (uu g8 (uu g9 (uu @Bool.not_true (uu @Bool.not_false (uu wa (uu wb (uu wc (uu wd (uu we (uu wf (uu k1 (uu k2 (uu q0 (uu q1 q3)))))))))))))))));(repeat'(first|refine a_seq fun K hK=>?_|refine uR zz ?_|(refine uN hK ?_;clear hK)|apply zI));refine uU zz (hA _) ?_;(repeat'(first|refine uT zz ?_|(refine uN hK ?_;clear hK)|apply zI));all_goals rfl
          |true=>
           simp only[q3,Bool.true_and,Bool.and_true]at hF;subst hF;replace zz:=uu g1 (uu g5 (uu g6 (uu g7 (uu g8 (uu g9 (uu @Bool.not_true (uu @Bool.not_false (uu wa (uu wb (uu wc (uu wd (uu we (uu wf (uu k1 (uu k2 (uu q0 (uu q1 q3)))))))))))))))));(repeat'(first|refine a_seq fun K hK=>?_|refine uR zz ?_|(refine uN hK ?_;clear hK)|apply zI));refine uU zz (hA _) ?_;(repeat'(first|refine uT zz ?_|(refine uN hK ?_;clear hK)|apply zI));all_goals rfl
      |false=>
       simp only[k2,Bool.true_or,Bool.or_true,Bool.false_or,if_true,Bool.false_eq_true,if_false]at hF;cases k3:(op.data.toList==(#[60]:Array UInt8).toList)with
       |true=>
        simp only[k3,Bool.true_or,Bool.or_true,Bool.false_or,if_true,Bool.false_eq_true,if_false]at hF;cases q0:(name.data.toList==(#[]:Array UInt8).toList)with
        |false=>
         simp only[q0,Bool.false_and,Bool.and_false]at hF;subst hF;replace zz:=uu g1 (uu g5 (uu g6 (uu g7 (uu g8 (uu g9 (uu @Bool.not_true (uu @Bool.not_false (uu wa (uu wb (uu wc (uu wd (uu we (uu wf (uu k1 (uu k2 (uu k3 q0))))))))))))))));(repeat'(first|refine a_seq fun K hK=>?_|refine uR zz ?_|refine uT zz ?_|refine uK ?_|refine uC1 zz ?_|(refine uN hK ?_;clear hK)|apply zI));all_goals rfl
        |true=>
         simp only[q0,Bool.true_and,Bool.and_true]at hF;cases q1:((((args.length:Int)+params.length)+kids.length)==0)with
         |false=>
          simp only[q1,Bool.false_and,Bool.and_false]at hF;subst hF;replace zz:=uu g1 (uu g5 (uu g6 (uu g7 (uu g8 (uu g9 (uu @Bool.not_true (uu @Bool.not_false (uu wa (uu wb (uu wc (uu wd (uu we (uu wf (uu k1 (uu k2 (uu k3 (uu q0 q1)))))))))))))))));(repeat'(first|refine a_seq fun K hK=>?_|refine uR zz ?_|refine uT zz ?_|refine uK ?_|refine uC1 zz ?_|(refine uN hK ?_;clear hK)|apply zI));all_goals rfl
         |true=>
          simp only[q1,Bool.true_and,Bool.and_true]at hF;cases q2:((exprs.length:Int)==2)with
          |false=>
           simp only[q2,Bool.false_and,Bool.and_false]at hF;subst hF;replace zz:=uu g1 (uu g5 (uu g6 (uu g7 (uu g8 (uu g9 (uu @Bool.not_true (uu @Bool.not_false (uu wa (uu wb (uu wc (uu wd (uu we (uu wf (uu k1 (uu k2 (uu k3 (uu q0 (uu q1 q2))))))))))))))))));(repeat'(first|refine a_seq fun K hK=>?_|refine uR zz ?_|refine uT zz ?_|refine uK ?_|refine uC1 zz ?_|(refine uN hK ?_;clear hK)|apply zI));all_goals rfl
          |true=>
           simp only[q2,Bool.true_and,Bool.and_true]at hF;subst hF;replace zz:=uu g1 (uu g5 (uu g6 (uu g7 (uu g8 (uu g9 (uu @Bool.not_true (uu @Bool.not_false (uu wa (uu wb (uu wc (uu wd (uu we (uu wf (uu k1 (uu k2 (uu k3 (uu q0 (uu q1 q2))))))))))))))))));(repeat'(first|refine a_seq fun K hK=>?_|refine uR zz ?_|refine uT zz ?_|refine uK ?_|refine uC1 zz ?_|(refine uN hK ?_;clear hK)|apply zI));all_goals rfl
       |false=>
        simp only[k3,Bool.true_or,Bool.or_true,Bool.false_or,if_true,Bool.false_eq_true,if_false]at hF;cases k4:(op.data.toList==(#[60,61]:Array UInt8).toList)with
        |true=>
         simp only[k4,Bool.true_or,Bool.or_true,Bool.false_or,if_true,Bool.false_eq_true,if_false]at hF;cases q0:(name.data.toList==(#[]:Array UInt8).toList)with
         |false=>
          simp only[q0,Bool.false_and,Bool.and_false]at hF;subst hF;replace zz:=uu g1 (uu g5 (uu g6 (uu g7 (uu g8 (uu g9 (uu @Bool.not_true (uu @Bool.not_false (uu wa (uu wb (uu wc (uu wd (uu we (uu wf (uu k1 (uu k2 (uu k3 (uu k4 q0)))))))))))))))));(repeat'(first|refine a_seq fun K hK=>?_|refine uR zz ?_|refine uT zz ?_|refine uK ?_|refine uC1 zz ?_|(refine uN hK ?_;clear hK)|apply zI));all_goals rfl
         |true=>
          simp only[q0,Bool.true_and,Bool.and_true]at hF;cases q1:((((args.length:Int)+params.length)+kids.length)==0)with
          |false=>
           simp only[q1,Bool.false_and,Bool.and_false]at hF;subst hF;replace zz:=uu g1 (uu g5 (uu g6 (uu g7 (uu g8 (uu g9 (uu @Bool.not_true (uu @Bool.not_false (uu wa (uu wb (uu wc (uu wd (uu we (uu wf (uu k1 (uu k2 (uu k3 (uu k4 (uu q0 q1))))))))))))))))));(repeat'(first|refine a_seq fun K hK=>?_|refine uR zz ?_|refine uT zz ?_|refine uK ?_|refine uC1 zz ?_|(refine uN hK ?_;clear hK)|apply zI));all_goals rfl
          |true=>
           simp only[q1,Bool.true_and,Bool.and_true]at hF;cases q2:((exprs.length:Int)==2)with
           |false=>
            simp only[q2,Bool.false_and,Bool.and_false]at hF;subst hF;replace zz:=uu g1 (uu g5 (uu g6 (uu g7 (uu g8 (uu g9 (uu @Bool.not_true (uu @Bool.not_false (uu wa (uu wb (uu wc (uu wd (uu we (uu wf (uu k1 (uu k2 (uu k3 (uu k4 (uu q0 (uu q1 q2)))))))))))))))))));(repeat'(first|refine a_seq fun K hK=>?_|refine uR zz ?_|refine uT zz ?_|refine uK ?_|refine uC1 zz ?_|(refine uN hK ?_;clear hK)|apply zI));all_goals rfl
           |true=>
            simp only[q2,Bool.true_and,Bool.and_true]at hF;subst hF;replace zz:=uu g1 (uu g5 (uu g6 (uu g7 (uu g8 (uu g9 (uu @Bool.not_true (uu @Bool.not_false (uu wa (uu wb (uu wc (uu wd (uu we (uu wf (uu k1 (uu k2 (uu k3 (uu k4 (uu q0 (uu q1 q2)))))))))))))))))));(repeat'(first|refine a_seq fun K hK=>?_|refine uR zz ?_|refine uT zz ?_|refine uK ?_|refine uC1 zz ?_|(refine uN hK ?_;clear hK)|apply zI));all_goals rfl
        |false=>
         simp only[k4,Bool.true_or,Bool.or_true,Bool.false_or,if_true,Bool.false_eq_true,if_false]at hF;cases k5:(op.data.toList==(#[61]:Array UInt8).toList)with
         |true=>
          simp only[k5,Bool.true_or,Bool.or_true,Bool.false_or,if_true,Bool.false_eq_true,if_false]at hF;cases q0:(name.data.toList==(#[]:Array UInt8).toList)with
          |false=>
           simp only[q0,Bool.false_and,Bool.and_false]at hF;subst hF;replace zz:=uu g1 (uu g5 (uu g6 (uu g7 (uu g8 (uu g9 (uu @Bool.not_true (uu @Bool.not_false (uu wa (uu wb (uu wc (uu wd (uu we (uu wf (uu k1 (uu k2 (uu k3 (uu k4 (uu k5 q0))))))))))))))))));(repeat'(first|refine a_seq fun K hK=>?_|refine uR zz ?_|refine uT zz ?_|refine uC1 zz ?_|(refine uN hK ?_;clear hK)|apply zI));all_goals rfl
          |true=>
           simp only[q0,Bool.true_and,Bool.and_true]at hF;cases q1:((((args.length:Int)+params.length)+kids.length)==0)with
           |false=>
            simp only[q1,Bool.false_and,Bool.and_false]at hF;subst hF;replace zz:=uu g1 (uu g5 (uu g6 (uu g7 (uu g8 (uu g9 (uu @Bool.not_true (uu @Bool.not_false (uu wa (uu wb (uu wc (uu wd (uu we (uu wf (uu k1 (uu k2 (uu k3 (uu k4 (uu k5 (uu q0 q1)))))))))))))))))));(repeat'(first|refine a_seq fun K hK=>?_|refine uR zz ?_|refine uT zz ?_|refine uC1 zz ?_|(refine uN hK ?_;clear hK)|apply zI));all_goals rfl
           |true=>
            simp only[q1,Bool.true_and,Bool.and_true]at hF;cases q2:((exprs.length:Int)==2)with
            |false=>
             simp only[q2,Bool.false_and,Bool.and_false]at hF;subst hF;replace zz:=uu g1 (uu g5 (uu g6 (uu g7 (uu g8 (uu g9 (uu @Bool.not_true (uu @Bool.not_false (uu wa (uu wb (uu wc (uu wd (uu we (uu wf (uu k1 (uu k2 (uu k3 (uu k4 (uu k5 (uu q0 (uu q1 q2))))))))))))))))))));(repeat'(first|refine a_seq fun K hK=>?_|refine uR zz ?_|refine uT zz ?_|refine uC1 zz ?_|(refine uN hK ?_;clear hK)|apply zI));all_goals rfl
            |true=>
             simp only[q2,Bool.true_and,Bool.and_true]at hF;subst hF;replace zz:=uu g1 (uu g5 (uu g6 (uu g7 (uu g8 (uu g9 (uu @Bool.not_true (uu @Bool.not_false (uu wa (uu wb (uu wc (uu wd (uu we (uu wf (uu k1 (uu k2 (uu k3 (uu k4 (uu k5 (uu q0 (uu q1 q2))))))))))))))))))));(repeat'(first|refine a_seq fun K hK=>?_|refine uR zz ?_|refine uT zz ?_|refine uC1 zz ?_|(refine uN hK ?_;clear hK)|apply zI));all_goals rfl
         |false=>
          simp only[k5,Bool.true_or,Bool.or_true,Bool.false_or,if_true,Bool.false_eq_true,if_false]at hF;cases k6:(op.data.toList==(#[97,110,100]:Array UInt8).toList)with
          |true=>
           simp only[k6,Bool.true_or,Bool.or_true,Bool.false_or,if_true,Bool.false_eq_true,if_false]at hF;cases q0:(name.data.toList==(#[]:Array UInt8).toList)with
           |false=>
            simp only[q0,Bool.false_and,Bool.and_false]at hF;subst hF;replace zz:=uu g1 (uu g5 (uu g6 (uu g7 (uu g8 (uu g9 (uu @Bool.not_true (uu @Bool.not_false (uu wa (uu wb (uu wc (uu wd (uu we (uu wf (uu k1 (uu k2 (uu k3 (uu k4 (uu k5 (uu k6 q0)))))))))))))))))));(repeat'(first|refine a_seq fun K hK=>?_|refine uR zz ?_|refine uT zz ?_|refine uK ?_|refine uC1 zz ?_|(refine uN hK ?_;clear hK)|apply zI));all_goals rfl
           |true=>
            simp only[q0,Bool.true_and,Bool.and_true]at hF;cases q1:((((args.length:Int)+params.length)+exprs.length)==0)with
            |false=>
             simp only[q1,Bool.false_and,Bool.and_false]at hF;subst hF;replace zz:=uu g1 (uu g5 (uu g6 (uu g7 (uu g8 (uu g9 (uu @Bool.not_true (uu @Bool.not_false (uu wa (uu wb (uu wc (uu wd (uu we (uu wf (uu k1 (uu k2 (uu k3 (uu k4 (uu k5 (uu k6 (uu q0 q1))))))))))))))))))));(repeat'(first|refine a_seq fun K hK=>?_|refine uR zz ?_|refine uT zz ?_|refine uK ?_|refine uC1 zz ?_|(refine uN hK ?_;clear hK)|apply zI));all_goals rfl
            |true=>
             simp only[q1,Bool.true_and,Bool.and_true]at hF;subst hF;replace zz:=uu g1 (uu g5 (uu g6 (uu g7 (uu g8 (uu g9 (uu @Bool.not_true (uu @Bool.not_false (uu wa (uu wb (uu wc (uu wd (uu we (uu wf (uu k1 (uu k2 (uu k3 (uu k4 (uu k5 (uu k6 (uu q0 q1))))))))))))))))))));(repeat'(first|refine a_seq fun K hK=>?_|refine uR zz ?_|refine uT zz ?_|refine uK ?_|refine uC1 zz ?_|(refine uN hK ?_;clear hK)|apply zI));all_goals rfl
          |false=>
           simp only[k6,Bool.true_or,Bool.or_true,Bool.false_or,if_true,Bool.false_eq_true,if_false]at hF;cases k7:(op.data.toList==(#[111,114]:Array UInt8).toList)with
           |true=>
            simp only[k7,Bool.true_or,Bool.or_true,Bool.false_or,if_true,Bool.false_eq_true,if_false]at hF;cases q0:(name.data.toList==(#[]:Array UInt8).toList)with
            |false=>
             simp only[q0,Bool.false_and,Bool.and_false]at hF;subst hF;replace zz:=uu g1 (uu g5 (uu g6 (uu g7 (uu g8 (uu g9 (uu @Bool.not_true (uu @Bool.not_false (uu wa (uu wb (uu wc (uu wd (uu we (uu wf (uu k1 (uu k2 (uu k3 (uu k4 (uu k5 (uu k6 (uu k7 q0))))))))))))))))))));(repeat'(first|refine a_seq fun K hK=>?_|refine uR zz ?_|refine uT zz ?_|refine uC1 zz ?_|(refine uN hK ?_;clear hK)|apply zI));all_goals rfl
            |true=>
             simp only[q0,Bool.true_and,Bool.and_true]at hF;cases q1:((((args.length:Int)+params.length)+exprs.length)==0)with
             |false=>
              simp only[q1,Bool.false_and,Bool.and_false]at hF;subst hF;replace zz:=uu g1 (uu g5 (uu g6 (uu g7 (uu g8 (uu g9 (uu @Bool.not_true (uu @Bool.not_false (uu wa (uu wb (uu wc (uu wd (uu we (uu wf (uu k1 (uu k2 (uu k3 (uu k4 (uu k5 (uu k6 (uu k7 (uu q0 q1)))))))))))))))))))));(repeat'(first|refine a_seq fun K hK=>?_|refine uR zz ?_|refine uT zz ?_|refine uC1 zz ?_|(refine uN hK ?_;clear hK)|apply zI));all_goals rfl
             |true=>
              simp only[q1,Bool.true_and,Bool.and_true]at hF;subst hF;replace zz:=uu g1 (uu g5 (uu g6 (uu g7 (uu g8 (uu g9 (uu @Bool.not_true (uu @Bool.not_false (uu wa (uu wb (uu wc (uu wd (uu we (uu wf (uu k1 (uu k2 (uu k3 (uu k4 (uu k5 (uu k6 (uu k7 (uu q0 q1)))))))))))))))))))));(repeat'(first|refine a_seq fun K hK=>?_|refine uR zz ?_|refine uT zz ?_|refine uC1 zz ?_|(refine uN hK ?_;clear hK)|apply zI));all_goals rfl
           |false=>
            simp only[k7,Bool.true_or,Bool.or_true,Bool.false_or,if_true,Bool.false_eq_true,if_false]at hF;cases k8:(op.data.toList==(#[110,111,116]:Array UInt8).toList)with
            |true=>
             simp only[k8,Bool.true_or,Bool.or_true,Bool.false_or,if_true,Bool.false_eq_true,if_false]at hF;cases q0:(name.data.toList==(#[]:Array UInt8).toList)with
             |false=>
              simp only[q0,Bool.false_and,Bool.and_false]at hF;subst hF;replace zz:=uu g1 (uu g5 (uu g6 (uu g7 (uu g8 (uu g9 (uu @Bool.not_true (uu @Bool.not_false (uu wa (uu wb (uu wc (uu wd (uu we (uu wf (uu k1 (uu k2 (uu k3 (uu k4 (uu k5 (uu k6 (uu k7 (uu k8 q0)))))))))))))))))))));(repeat'(first|refine a_seq fun K hK=>?_|refine uR zz ?_|refine uT zz ?_|refine uC1 zz ?_|(refine uN hK ?_;clear hK)|apply zI));all_goals rfl
             |true=>
              simp only[q0,Bool.true_and,Bool.and_true]at hF;cases q1:((((args.length:Int)+params.length)+exprs.length)==0)with
              |false=>
               simp only[q1,Bool.false_and,Bool.and_false]at hF;subst hF;replace zz:=uu g1 (uu g5 (uu g6 (uu g7 (uu g8 (uu g9 (uu @Bool.not_true (uu @Bool.not_false (uu wa (uu wb (uu wc (uu wd (uu we (uu wf (uu k1 (uu k2 (uu k3 (uu k4 (uu k5 (uu k6 (uu k7 (uu k8 (uu q0 q1))))))))))))))))))))));(repeat'(first|refine a_seq fun K hK=>?_|refine uR zz ?_|refine uT zz ?_|refine uC1 zz ?_|(refine uN hK ?_;clear hK)|apply zI));all_goals rfl
              |true=>
               simp only[q1,Bool.true_and,Bool.and_true]at hF;cases q2:((kids.length:Int)==1)with
               |false=>
                simp only[q2,Bool.false_and,Bool.and_false]at hF;subst hF;replace zz:=uu g1 (uu g5 (uu g6 (uu g7 (uu g8 (uu g9 (uu @Bool.not_true (uu @Bool.not_false (uu wa (uu wb (uu wc (uu wd (uu we (uu wf (uu k1 (uu k2 (uu k3 (uu k4 (uu k5 (uu k6 (uu k7 (uu k8 (uu q0 (uu q1 q2)))))))))))))))))))))));(repeat'(first|refine a_seq fun K hK=>?_|refine uR zz ?_|refine uT zz ?_|refine uC1 zz ?_|(refine uN hK ?_;clear hK)|apply zI));all_goals rfl
               |true=>
                simp only[q2,Bool.true_and,Bool.and_true]at hF;subst hF;replace zz:=uu g1 (uu g5 (uu g6 (uu g7 (uu g8 (uu g9 (uu @Bool.not_true (uu @Bool.not_false (uu wa (uu wb (uu wc (uu wd (uu we (uu wf (uu k1 (uu k2 (uu k3 (uu k4 (uu k5 (uu k6 (uu k7 (uu k8 (uu q0 (uu q1 q2)))))))))))))))))))))));(repeat'(first|refine a_seq fun K hK=>?_|refine uR zz ?_|refine uT zz ?_|refine uC1 zz ?_|(refine uN hK ?_;clear hK)|apply zI));all_goals rfl
            |false=>
             simp only[k8,Bool.true_or,Bool.or_true,Bool.false_or,if_true,Bool.false_eq_true,if_false]at hF;cases k9:(op.data.toList==(#[105,109,112,108,121]:Array UInt8).toList)with
             |true=>
              simp only[k9,Bool.true_or,Bool.or_true,Bool.false_or,if_true,Bool.false_eq_true,if_false]at hF;cases q0:(name.data.toList==(#[]:Array UInt8).toList)with
              |false=>
               simp only[q0,Bool.false_and,Bool.and_false]at hF;subst hF;replace zz:=uu g1 (uu g5 (uu g6 (uu g7 (uu g8 (uu g9 (uu @Bool.not_true (uu @Bool.not_false (uu wa (uu wb (uu wc (uu wd (uu we (uu wf (uu k1 (uu k2 (uu k3 (uu k4 (uu k5 (uu k6 (uu k7 (uu k8 (uu k9 q0))))))))))))))))))))));(repeat'(first|refine a_seq fun K hK=>?_|refine uR zz ?_|refine uT zz ?_|refine uC1 zz ?_|(refine uN hK ?_;clear hK)|apply zI));all_goals rfl
              |true=>
               simp only[q0,Bool.true_and,Bool.and_true]at hF;cases q1:((((args.length:Int)+params.length)+exprs.length)==0)with
               |false=>
                simp only[q1,Bool.false_and,Bool.and_false]at hF;subst hF;replace zz:=uu g1 (uu g5 (uu g6 (uu g7 (uu g8 (uu g9 (uu @Bool.not_true (uu @Bool.not_false (uu wa (uu wb (uu wc (uu wd (uu we (uu wf (uu k1 (uu k2 (uu k3 (uu k4 (uu k5 (uu k6 (uu k7 (uu k8 (uu k9 (uu q0 q1)))))))))))))))))))))));(repeat'(first|refine a_seq fun K hK=>?_|refine uR zz ?_|refine uT zz ?_|refine uC1 zz ?_|(refine uN hK ?_;clear hK)|apply zI));all_goals rfl
               |true=>
                simp only[q1,Bool.true_and,Bool.and_true]at hF;cases q2:((kids.length:Int)==2)with
                |false=>
                 simp only[q2,Bool.false_and,Bool.and_false]at hF;subst hF;replace zz:=uu g1 (uu g5 (uu g6 (uu g7 (uu g8 (uu g9 (uu @Bool.not_true (uu @Bool.not_false (uu wa (uu wb (uu wc (uu wd (uu we (uu wf (uu k1 (uu k2 (uu k3 (uu k4 (uu k5 (uu k6 (uu k7 (uu k8 (uu k9 (uu q0 (uu q1 q2))))))))))))))))))))))));(repeat'(first|refine a_seq fun K hK=>?_|refine uR zz ?_|refine uT zz ?_|refine uC1 zz ?_|(refine uN hK ?_;clear hK)|apply zI));all_goals rfl
                |true=>
                 simp only[q2,Bool.true_and,Bool.and_true]at hF;subst hF;replace zz:=uu g1 (uu g5 (uu g6 (uu g7 (uu g8 (uu g9 (uu @Bool.not_true (uu @Bool.not_false (uu wa (uu wb (uu wc (uu wd (uu we (uu wf (uu k1 (uu k2 (uu k3 (uu k4 (uu k5 (uu k6 (uu k7 (uu k8 (uu k9 (uu q0 (uu q1 q2))))))))))))))))))))))));(repeat'(first|refine a_seq fun K hK=>?_|refine uR zz ?_|refine uT zz ?_|refine uC1 zz ?_|(refine uN hK ?_;clear hK)|apply zI));all_goals rfl
             |false=>
              simp only[k9,Bool.true_or,Bool.or_true,Bool.false_or,if_true,Bool.false_eq_true,if_false]at hF;cases k10:(op.data.toList==(#[102,111,114,97,108,108]:Array UInt8).toList)with
              |true=>
               simp only[k10,Bool.true_or,Bool.or_true,Bool.false_or,if_true,Bool.false_eq_true,if_false]at hF;cases q0:(name.data.toList==(#[]:Array UInt8).toList)with
               |false=>
                simp only[q0,Bool.false_and,Bool.and_false]at hF;subst hF;replace zz:=uu g1 (uu g5 (uu g6 (uu g7 (uu g8 (uu g9 (uu @Bool.not_true (uu @Bool.not_false (uu wa (uu wb (uu wc (uu wd (uu we (uu wf (uu k1 (uu k2 (uu k3 (uu k4 (uu k5 (uu k6 (uu k7 (uu k8 (uu k9 (uu k10 q0)))))))))))))))))))))));(repeat'(first|refine a_seq fun K hK=>?_|refine uR zz ?_|refine uT zz ?_|refine uK ?_|refine uC1 zz ?_|(refine uN hK ?_;clear hK)|apply zI));all_goals rfl
               |true=>
                simp only[q0,Bool.true_and,Bool.and_true]at hF;cases q1:(((args.length:Int)+exprs.length)==0)with
                |false=>
                 simp only[q1,Bool.false_and,Bool.and_false]at hF;subst hF;replace zz:=uu g1 (uu g5 (uu g6 (uu g7 (uu g8 (uu g9 (uu @Bool.not_true (uu @Bool.not_false (uu wa (uu wb (uu wc (uu wd (uu we (uu wf (uu k1 (uu k2 (uu k3 (uu k4 (uu k5 (uu k6 (uu k7 (uu k8 (uu k9 (uu k10 (uu q0 q1))))))))))))))))))))))));(repeat'(first|refine a_seq fun K hK=>?_|refine uR zz ?_|refine uT zz ?_|refine uK ?_|refine uC1 zz ?_|(refine uN hK ?_;clear hK)|apply zI));all_goals rfl
                |true=>
                 simp only[q1,Bool.true_and,Bool.and_true]at hF;cases q2:((kids.length:Int)==1)with
                 |false=>
                  simp only[q2,Bool.false_and,Bool.and_false]at hF;subst hF;replace zz:=uu g1 (uu g5 (uu g6 (uu g7 (uu g8 (uu g9 (uu @Bool.not_true (uu @Bool.not_false (uu wa (uu wb (uu wc (uu wd (uu we (uu wf (uu k1 (uu k2 (uu k3 (uu k4 (uu k5 (uu k6 (uu k7 (uu k8 (uu k9 (uu k10 (uu q0 (uu q1 q2)))))))))))))))))))))))));(repeat'(first|refine a_seq fun K hK=>?_|refine uR zz ?_|refine uT zz ?_|refine uK ?_|refine uC1 zz ?_|(refine uN hK ?_;clear hK)|apply zI));all_goals rfl
                 |true=>
                  simp only[q2,Bool.true_and,Bool.and_true]at hF;generalize params.all pmOk=bP at hP hF;cases bP with
                  |false=>
                   (try simp only[Bool.false_and,Bool.and_false]at hF);subst hF;replace zz:=uu g1 (uu g5 (uu g6 (uu g7 (uu g8 (uu g9 (uu @Bool.not_true (uu @Bool.not_false (uu wa (uu wb (uu wc (uu wd (uu we (uu wf (uu k1 (uu k2 (uu k3 (uu k4 (uu k5 (uu k6 (uu k7 (uu k8 (uu k9 (uu k10 (uu q0 (uu q1 q2)))))))))))))))))))))))));(repeat'(first|refine a_seq fun K hK=>?_|refine uR zz ?_|refine uK ?_|refine uC1 zz ?_|(refine uN hK ?_;clear hK)|apply zI));refine uU zz (hP _) ?_;(repeat'(first|refine uT zz ?_|(refine uN hK ?_;clear hK)|apply zI));all_goals rfl
                  |true=>
                   (try simp only[Bool.true_and,Bool.and_true]at hF);subst hF;replace zz:=uu g1 (uu g5 (uu g6 (uu g7 (uu g8 (uu g9 (uu @Bool.not_true (uu @Bool.not_false (uu wa (uu wb (uu wc (uu wd (uu we (uu wf (uu k1 (uu k2 (uu k3 (uu k4 (uu k5 (uu k6 (uu k7 (uu k8 (uu k9 (uu k10 (uu q0 (uu q1 q2)))))))))))))))))))))))));(repeat'(first|refine a_seq fun K hK=>?_|refine uR zz ?_|refine uK ?_|refine uC1 zz ?_|(refine uN hK ?_;clear hK)|apply zI));refine uU zz (hP _) ?_;(repeat'(first|refine uT zz ?_|(refine uN hK ?_;clear hK)|apply zI));all_goals rfl
              |false=>
               simp only[k10,Bool.true_or,Bool.or_true,Bool.false_or,if_true,Bool.false_eq_true,if_false]at hF;cases k11:(op.data.toList==(#[101,120,105,115,116,115]:Array UInt8).toList)with
               |true=>
                simp only[k11,Bool.true_or,Bool.or_true,Bool.false_or,if_true,Bool.false_eq_true,if_false]at hF;cases q0:(name.data.toList==(#[]:Array UInt8).toList)with
                |false=>
                 simp only[q0,Bool.false_and,Bool.and_false]at hF;subst hF;replace zz:=uu g1 (uu g5 (uu g6 (uu g7 (uu g8 (uu g9 (uu @Bool.not_true (uu @Bool.not_false (uu wa (uu wb (uu wc (uu wd (uu we (uu wf (uu k1 (uu k2 (uu k3 (uu k4 (uu k5 (uu k6 (uu k7 (uu k8 (uu k9 (uu k10 (uu k11 q0))))))))))))))))))))))));(repeat'(first|refine a_seq fun K hK=>?_|refine uR zz ?_|refine uT zz ?_|refine uC1 zz ?_|(refine uN hK ?_;clear hK)|apply zI));all_goals rfl
                |true=>
                 simp only[q0,Bool.true_and,Bool.and_true]at hF;cases q1:(((args.length:Int)+exprs.length)==0)with
                 |false=>
                  simp only[q1,Bool.false_and,Bool.and_false]at hF;subst hF;replace zz:=uu g1 (uu g5 (uu g6 (uu g7 (uu g8 (uu g9 (uu @Bool.not_true (uu @Bool.not_false (uu wa (uu wb (uu wc (uu wd (uu we (uu wf (uu k1 (uu k2 (uu k3 (uu k4 (uu k5 (uu k6 (uu k7 (uu k8 (uu k9 (uu k10 (uu k11 (uu q0 q1)))))))))))))))))))))))));(repeat'(first|refine a_seq fun K hK=>?_|refine uR zz ?_|refine uT zz ?_|refine uC1 zz ?_|(refine uN hK ?_;clear hK)|apply zI));all_goals rfl
                 |true=>
                  simp only[q1,Bool.true_and,Bool.and_true]at hF;cases q2:((kids.length:Int)==1)with
                  |false=>
                   simp only[q2,Bool.false_and,Bool.and_false]at hF;subst hF;replace zz:=uu g1 (uu g5 (uu g6 (uu g7 (uu g8 (uu g9 (uu @Bool.not_true (uu @Bool.not_false (uu wa (uu wb (uu wc (uu wd (uu we (uu wf (uu k1 (uu k2 (uu k3 (uu k4 (uu k5 (uu k6 (uu k7 (uu k8 (uu k9 (uu k10 (uu k11 (uu q0 (uu q1 q2))))))))))))))))))))))))));(repeat'(first|refine a_seq fun K hK=>?_|refine uR zz ?_|refine uT zz ?_|refine uC1 zz ?_|(refine uN hK ?_;clear hK)|apply zI));all_goals rfl
                  |true=>
                   simp only[q2,Bool.true_and,Bool.and_true]at hF;generalize params.all pmOk=bP at hP hF;cases bP with
                   |false=>
                    (try simp only[Bool.false_and,Bool.and_false]at hF);subst hF;replace zz:=uu g1 (uu g5 (uu g6 (uu g7 (uu g8 (uu g9 (uu @Bool.not_true (uu @Bool.not_false (uu wa (uu wb (uu wc (uu wd (uu we (uu wf (uu k1 (uu k2 (uu k3 (uu k4 (uu k5 (uu k6 (uu k7 (uu k8 (uu k9 (uu k10 (uu k11 (uu q0 (uu q1 q2))))))))))))))))))))))))));(repeat'(first|refine a_seq fun K hK=>?_|refine uR zz ?_|refine uC1 zz ?_|(refine uN hK ?_;clear hK)|apply zI));refine uU zz (hP _) ?_;(repeat'(first|refine uT zz ?_|(refine uN hK ?_;clear hK)|apply zI));all_goals rfl
                   |true=>
                    (try simp only[Bool.true_and,Bool.and_true]at hF);subst hF;replace zz:=uu g1 (uu g5 (uu g6 (uu g7 (uu g8 (uu g9 (uu @Bool.not_true (uu @Bool.not_false (uu wa (uu wb (uu wc (uu wd (uu we (uu wf (uu k1 (uu k2 (uu k3 (uu k4 (uu k5 (uu k6 (uu k7 (uu k8 (uu k9 (uu k10 (uu k11 (uu q0 (uu q1 q2))))))))))))))))))))))))));(repeat'(first|refine a_seq fun K hK=>?_|refine uR zz ?_|refine uC1 zz ?_|(refine uN hK ?_;clear hK)|apply zI));refine uU zz (hP _) ?_;(repeat'(first|refine uT zz ?_|(refine uN hK ?_;clear hK)|apply zI));all_goals rfl
               |false=>
                simp only[k11,Bool.true_or,Bool.or_true,Bool.false_or,if_true,Bool.false_eq_true,if_false]at hF;subst hF;replace zz:=uu g1 (uu g5 (uu g6 (uu g7 (uu g8 (uu g9 (uu @Bool.not_true (uu @Bool.not_false (uu wa (uu wb (uu wc (uu wd (uu we (uu wf (uu k1 (uu k2 (uu k3 (uu k4 (uu k5 (uu k6 (uu k7 (uu k8 (uu k9 (uu k10 k11)))))))))))))))))))))));repeat'(first|refine a_seq fun K hK=>?_|refine a_block ?_|refine uR zz ?_|refine uT zz ?_|refine uK ?_|refine uC1 zz ?_|(refine uN hK ?_;clear hK)|apply zI)
set_option maxHeartbeats 4000000
theorem rwriteParams_c{l:List Pm}(hl:l.length≤1048576)(h:Heap):PCall Tryz.prog 30 [.imm 2 (pmRows l)] h fun r h'=>r= .imm 6 (Sx.rows (paramsW l))∧h'=h:=by
 refine PCall.frz Ty.hb_30 ?_;have hll:=pmRows_len l;have hw: ∀ (s:ByteArray)(h:Heap),PCall Tryz.prog 79 [sPV s] h fun r h'=>r= .agg (wordM s).cells∧h'=h:=fun s h=>rwd_c;simp only[wordM,Sx.cells,Sx.rows]at hw;refine uG0 Tryz.func30 Tryz.ntmps30 Tryz.results30 Ty.hb_30 ?_;repeat'(first|refine a_seq fun K hK=>?_|refine a_block ?_|refine uR hll ?_|(refine uN hK ?_;clear hK)|apply zI)
 refine a_loop (fun m S h'=>S 0= .imm 2 (pmRows l)∧ ∃ (k:Nat)(o:PV),S 4= .sc (.int .i64 k)∧S 3=o∧k≤l.length∧m=l.length-k∧Grow h h'∧Tl h' h.next 6 o (Sx.rows (paramsW (l.take k)))) l.length ?_ ?_
 ·simp only[Ty.w,simprocAttr];exact⟨0,_,rfl,rfl,by omega,rfl,Grow.refl _,Tl.nil⟩
 ·rintro m S h' ⟨g0,k,o,g4,g3,hk,rfl,hg,tl⟩;by_cases hlt:k<l.length
  ·have hd:decide ((k:Int)<(l.length:Int))=true:=(by simp;omega);have w7:IntKind.i64.wrap ((k:Int)+1)=k+1:=(by rw[wrap64 (by omega) (by omega)]);obtain⟨p,hx⟩: ∃ p,l[k]? =some p:=⟨_,List.getElem?_eq_getElem hlt⟩;have hr:=pmRows_get hx;obtain⟨H,t1,t2,t3,t4,t5⟩:=tl.tail;have hpr:(Sx.rows (paramsW (l.take k))).length=3*k:=(by rw[Sx.rows_len,paramsW_len,List.length_take];omega);have hb:(3*k+3)*72≤140737488355328:=(by omega);have hR:Sx.rows (paramsW (l.take (k+1)))=Sx.rows (paramsW (l.take k))++[[.sc (.int .i64 1),.sc (.int .i64 0),.sc (.int .i64 0),.sc (.int .i64 0),sPV p.name,.imm 6 []],[.sc (.int .i64 1),.sc (.int .i64 0),.sc (.int .i64 0),.sc (.int .i64 0),sPV ⟨#[45]⟩,.imm 6 []],[.sc (.int .i64 1),.sc (.int .i64 0),.sc (.int .i64 0),.sc (.int .i64 0),sPV p.type,.imm 6 []]]:=by
    rw[List.take_add_one,hx,paramsW_append];simp only[Sx.rows_map,List.map_append,Option.toList_some,paramsW,List.map_cons,List.map_nil,wordM,Sx.cells]
   generalize Sx.rows (paramsW (l.take k))=R at tl t1 t2 hpr hR;replace zz:=uu g0 (uu g4 (uu g3 (uu hd (uu hr hll))));(repeat'(first|refine a_seq fun K hK=>?_|refine a_block ?_|refine uR zz ?_|refine uE zz fun K hK=>?_|refine uK ?_|refine uC1 zz ?_|(refine uN hK ?_;clear hK)|apply zI));replace zz:=uu g0 (uu g4 (uu g3 hr));(first|refine uV zz (hw p.name _) ?_|refine uA zz (hw p.name _) ?_);(try apply zI);(first|refine uV zz (hw ⟨#[45]⟩ _) ?_|refine uA zz (hw ⟨#[45]⟩ _) ?_);(try apply zI);(first|refine uV zz (hw p.type _) ?_|refine uA zz (hw p.type _) ?_);replace zz:=uu g0 (uu g4 (uu g3 (uu hr (uu w7 (uu t1 (uu t2 (uu hpr hb)))))));(repeat'(first|refine uR zz ?_|(refine uN hK ?_;clear hK)|refine uB zz ?_|(rw[if_pos];rotate_left 1;omega;simp(maxSteps:=2000000) only[Ty.w,simprocAttr,g0,g4,g3,hr,w7,t1,t2,hpr,hb])|apply zI));have hkp:=t5 h ⟨hg.le,hg.old⟩ (Nat.le_refl _);have hgH:Grow h H:=⟨hkp.1,hkp.2⟩;rw[← hR];have hRl:3*k+3=(Sx.rows (paramsW (l.take (k+1)))).length:=(by rw[Sx.rows_len,paramsW_len,List.length_take];omega);exact⟨l.length-(k+1),by omega,k+1,.own H.next 0 (3*k+3),by simp,by first|rfl|rw[t3],by omega,rfl,hgH.new _,Tl.grow hkp.1 hRl⟩
  ·have hd:decide ((k:Int)<(l.length:Int))=false:=(by simp;omega);have hke:k=l.length:=(by omega);subst hke;rw[List.take_length]at tl;replace zz:=uu g0 (uu g4 (uu g3 (uu hd hll)));(repeat'(first|refine a_seq fun K hK=>?_|refine uR zz ?_|refine uT zz ?_|refine uX ?_|refine uC1 zz ?_|(refine uN hK ?_;clear hK)|(clear hK;refine uN hK ?_;clear hK)|apply zI));exact⟨tl_frzX tl,hg⟩
theorem rwriteF_c: ∀ f:Fm,f.small→shapedF f=true→ ∀ h:Heap,PCall Tryz.prog 33 [.agg f.cells] h fun r h'=>r= .agg (fmW f).cells∧h'=h:=by
 refine Fm.ind ?_;intro op name args params exprs kids ih hsm hsh h;simp only[Fm.small]at hsm;obtain⟨hal,hpl,hes,hkl,hks⟩:=hsm;rw[Ex.smalls_iff]at hes;rw[Fm.smalls_iff]at hks;simp only[shapedF,Bool.and_eq_true]at hsh;obtain⟨⟨hpo,hse⟩,hsk⟩:=hsh;rw[shapedFs_iff]at hsk;rw[List.all_eq_true]at hse;have hlK:=Fm.rows_len kids;unfold fmW;refine PCall.frz Ty.hb_33 ?_;cases k1:(op.data.toList==(#[97,116,111,109]:Array UInt8).toList)with
 |true=>
  rw[if_pos (show bEq op opAtom=true from k1)];have hw: ∀ h:Heap,PCall Tryz.prog 81 [sPV name,.imm 1 (strRows args)] h fun r h'=>r= .agg (wordsM name args).cells∧h'=h:=fun h=>rlist_c hal;have hfz:=fun(n:Nat)(h:Heap)=>sx_frz n h (wordsM name args);simp only[Fm.cells];generalize wordsM name args=X at hw hfz⊢;obtain⟨ki,va,li,co,te,ks⟩:=X;simp only[Sx.cells]at hw hfz⊢;refine uG0 Tryz.func33 Tryz.ntmps33 Tryz.results33 Ty.hb_33 ?_;repeat'(first|refine a_seq fun K hK=>?_|refine uR k1 ?_|(refine uN hK ?_;clear hK)|apply zI)
  refine uU k1 (hw _) ?_;repeat'(first|refine uT trivial ?_|(refine uN hK ?_;clear hK)|apply zI)
  refine⟨?_,((Grow.refl h).new _).set (Nat.le_refl _) _⟩;simp only[FrzTo];exact⟨_,rfl,hfz _ _⟩
 |false=>
  cases k2:(op.data.toList==(#[115,97,109,101]:Array UInt8).toList)with
  |true=>
   rw[if_neg (by rw[(show bEq op opAtom=false from k1)];simp)];rw[if_pos (show bEq op opSame=true from k2)];have hw: ∀ h:Heap,PCall Tryz.prog 81 [sPV ⟨#[61]⟩,.imm 1 (strRows args)] h fun r h'=>r= .agg (wordsM opEq args).cells∧h'=h:=fun h=>rlist_c hal;have hfz:=fun(n:Nat)(h:Heap)=>sx_frz n h (wordsM opEq args);simp only[Fm.cells];generalize wordsM opEq args=X at hw hfz⊢;obtain⟨ki,va,li,co,te,ks⟩:=X;simp only[Sx.cells]at hw hfz⊢;refine uG0 Tryz.func33 Tryz.ntmps33 Tryz.results33 Ty.hb_33 ?_;(repeat'(first|refine a_seq fun K hK=>?_|refine uR (uu k1 k2) ?_|(refine uN hK ?_;clear hK)|apply zI));refine uU (uu k1 k2) (hw _) ?_;(repeat'(first|refine uT trivial ?_|(refine uN hK ?_;clear hK)|apply zI));refine⟨?_,((Grow.refl h).new _).set (Nat.le_refl _) _⟩;simp only[FrzTo];exact⟨_,rfl,hfz _ _⟩
  |false=>
   rw[if_neg (by rw[(show bEq op opAtom=false from k1)];simp),if_neg (by rw[(show bEq op opSame=false from k2)];simp)];cases k3:(op.data.toList==(#[60]:Array UInt8).toList)with
   |true=>
    rw[if_pos (by simp[isCmp,(show bEq op opAtom=false from k1),(show bEq op opSame=false from k2),(show bEq op opLt=true from k3)])];have hx2:exprs.length=2:=(by have q:=hpo;simp[partsOk,shapeOf,(show bEq op opAtom=false from k1),(show bEq op opSame=false from k2),(show bEq op opLt=true from k3)]at q;omega);obtain⟨a,b,rfl⟩: ∃ a b,exprs=[a,b]:=by
     match exprs,hx2 with
     |[a,b],_=>exact⟨a,b,rfl⟩
    have ca:=rwriteE_c a (hes a (by simp)) (hse a (by simp));have cb:=rwriteE_c b (hes b (by simp)) (hse b (by simp));have hw:=fun h:Heap=>rwd_c (h:=h) (s:=op);simp only[List.map_cons,List.map_nil];have hfz:=fun(n:Nat)(h:Heap)=>sx_frz n h (listM [wordM op,exW a,exW b]);generalize exW a=xa at ca hfz⊢;generalize exW b=xb at cb hfz⊢;(try clear zz);clear ih hks hpo hse hsk hes;obtain⟨aop,aname,an,aargs,akids⟩:=a;obtain⟨bop,bname,bn,bargs,bkids⟩:=b;obtain⟨ki,va,li,co,te,ks⟩:=xa;obtain⟨ki2,va2,li2,co2,te2,ks2⟩:=xb;simp only[Fm.cells,Ex.cells,Ex.rows,listM,Sx.cells,Sx.rows,wordM]at ca cb hw hfz⊢;refine uG0 Tryz.func33 Tryz.ntmps33 Tryz.results33 Ty.hb_33 ?_;replace zz:=uu k1 (uu k2 k3);(repeat'(first|refine a_seq fun K hK=>?_|refine uR zz ?_|refine uD zz ?_|refine uK ?_|refine uC1 zz ?_|(refine uN hK ?_;clear hK)|apply zI));(first|refine uV trivial (hw _) ?_|refine uA trivial (hw _) ?_);(try apply zI);(first|refine uV trivial (ca _) ?_|refine uA trivial (ca _) ?_);(try apply zI);(first|refine uV trivial (cb _) ?_|refine uA trivial (cb _) ?_);(repeat'(first|refine uT trivial ?_|(refine uN hK ?_;clear hK)|refine uB trivial ?_|apply zI));refine⟨?_,((Grow.refl h).new _).set (Nat.le_refl _) _⟩;simp only[FrzTo];exact⟨_,rfl,hfz _ _⟩
   |false=>
    cases k4:(op.data.toList==(#[60,61]:Array UInt8).toList)with
    |true=>
     rw[if_pos (by simp[isCmp,(show bEq op opAtom=false from k1),(show bEq op opSame=false from k2),(show bEq op opLt=false from k3),(show bEq op opLe=true from k4)])];have hx2:exprs.length=2:=(by have q:=hpo;simp[partsOk,shapeOf,(show bEq op opAtom=false from k1),(show bEq op opSame=false from k2),(show bEq op opLt=false from k3),(show bEq op opLe=true from k4)]at q;omega);obtain⟨a,b,rfl⟩: ∃ a b,exprs=[a,b]:=by
      match exprs,hx2 with
      |[a,b],_=>exact⟨a,b,rfl⟩
     have ca:=rwriteE_c a (hes a (by simp)) (hse a (by simp));have cb:=rwriteE_c b (hes b (by simp)) (hse b (by simp));have hw:=fun h:Heap=>rwd_c (h:=h) (s:=op);simp only[List.map_cons,List.map_nil];have hfz:=fun(n:Nat)(h:Heap)=>sx_frz n h (listM [wordM op,exW a,exW b]);generalize exW a=xa at ca hfz⊢;generalize exW b=xb at cb hfz⊢;(try clear zz);clear ih hks hpo hse hsk hes;obtain⟨aop,aname,an,aargs,akids⟩:=a;obtain⟨bop,bname,bn,bargs,bkids⟩:=b;obtain⟨ki,va,li,co,te,ks⟩:=xa;obtain⟨ki2,va2,li2,co2,te2,ks2⟩:=xb;simp only[Fm.cells,Ex.cells,Ex.rows,listM,Sx.cells,Sx.rows,wordM]at ca cb hw hfz⊢;refine uG0 Tryz.func33 Tryz.ntmps33 Tryz.results33 Ty.hb_33 ?_;replace zz:=uu k1 (uu k2 (uu k3 k4));(repeat'(first|refine a_seq fun K hK=>?_|refine uR zz ?_|refine uD zz ?_|refine uK ?_|refine uC1 zz ?_|(refine uN hK ?_;clear hK)|apply zI));(first|refine uV trivial (hw _) ?_|refine uA trivial (hw _) ?_);(try apply zI);(first|refine uV trivial (ca _) ?_|refine uA trivial (ca _) ?_);(try apply zI);(first|refine uV trivial (cb _) ?_|refine uA trivial (cb _) ?_);(repeat'(first|refine uT trivial ?_|(refine uN hK ?_;clear hK)|refine uB trivial ?_|apply zI));refine⟨?_,((Grow.refl h).new _).set (Nat.le_refl _) _⟩;simp only[FrzTo];exact⟨_,rfl,hfz _ _⟩
    |false=>
     cases k5:(op.data.toList==(#[61]:Array UInt8).toList)with
     |true=>
      rw[if_pos (by simp[isCmp,(show bEq op opAtom=false from k1),(show bEq op opSame=false from k2),(show bEq op opLt=false from k3),(show bEq op opLe=false from k4),(show bEq op opEq=true from k5)])];have hx2:exprs.length=2:=(by have q:=hpo;simp[partsOk,shapeOf,(show bEq op opAtom=false from k1),(show bEq op opSame=false from k2),(show bEq op opLt=false from k3),(show bEq op opLe=false from k4),(show bEq op opEq=true from k5)]at q;omega);obtain⟨a,b,rfl⟩: ∃ a b,exprs=[a,b]:=by
       match exprs,hx2 with
       |[a,b],_=>exact⟨a,b,rfl⟩
      have ca:=rwriteE_c a (hes a (by simp)) (hse a (by simp));have cb:=rwriteE_c b (hes b (by simp)) (hse b (by simp));have hw:=fun h:Heap=>rwd_c (h:=h) (s:=op);simp only[List.map_cons,List.map_nil];have hfz:=fun(n:Nat)(h:Heap)=>sx_frz n h (listM [wordM op,exW a,exW b]);generalize exW a=xa at ca hfz⊢;generalize exW b=xb at cb hfz⊢;(try clear zz);clear ih hks hpo hse hsk hes;obtain⟨aop,aname,an,aargs,akids⟩:=a;obtain⟨bop,bname,bn,bargs,bkids⟩:=b;obtain⟨ki,va,li,co,te,ks⟩:=xa;obtain⟨ki2,va2,li2,co2,te2,ks2⟩:=xb;simp only[Fm.cells,Ex.cells,Ex.rows,listM,Sx.cells,Sx.rows,wordM]at ca cb hw hfz⊢;refine uG0 Tryz.func33 Tryz.ntmps33 Tryz.results33 Ty.hb_33 ?_;replace zz:=uu k1 (uu k2 (uu k3 (uu k4 k5)));(repeat'(first|refine a_seq fun K hK=>?_|refine uR zz ?_|refine uD zz ?_|refine uC1 zz ?_|(refine uN hK ?_;clear hK)|apply zI));(first|refine uV trivial (hw _) ?_|refine uA trivial (hw _) ?_);(try apply zI);(first|refine uV trivial (ca _) ?_|refine uA trivial (ca _) ?_);(try apply zI);(first|refine uV trivial (cb _) ?_|refine uA trivial (cb _) ?_);(repeat'(first|refine uT trivial ?_|(refine uN hK ?_;clear hK)|refine uB trivial ?_|apply zI));refine⟨?_,((Grow.refl h).new _).set (Nat.le_refl _) _⟩;simp only[FrzTo];exact⟨_,rfl,hfz _ _⟩
     |false=>
      rw[if_neg (by simp[isCmp,(show bEq op opLt=false from k3),(show bEq op opLe=false from k4),(show bEq op opEq=false from k5)])];(try clear zz);clear hse hes hpo;have n6:bEq op opAnd=(op.data.toList==(#[97,110,100]:Array UInt8).toList):=rfl;by_cases hz:(bEq op opAnd&&kids.isEmpty)=true
      ·have hz2:=hz;rw[Bool.and_eq_true]at hz2;have k6:(op.data.toList==(#[97,110,100]:Array UInt8).toList)=true:=hz2.1;have hk0:kids=[]:=List.isEmpty_iff.1 hz2.2;have hq:isQ op=false:=(by rw[bEq_eq hz2.1];try rfl);subst hk0;rw[if_pos hz,hq];simp only[Bool.false_eq_true,if_false,fmWs,List.append_nil,Fm.cells,Fm.rows];refine uG0 Tryz.func33 Tryz.ntmps33 Tryz.results33 Ty.hb_33 ?_;replace zz:=uu k1 (uu k2 (uu k3 (uu k4 (uu k5 k6))));(repeat'(first|refine a_seq fun K hK=>?_|refine a_block ?_|refine uR zz ?_|refine uT zz ?_|refine uK ?_|refine uC1 zz ?_|(refine uN hK ?_;clear hK)|apply zI));refine⟨?_,((Grow.refl h).new _).set (Nat.le_refl _) _⟩;simp only[listM,Sx.cells,Sx.rows,FrzTo,FrzL];exact⟨_,rfl,rfl,rfl,rfl,rfl,rfl,.inr (.inl ⟨rfl,.inr rfl⟩),trivial⟩
      ·rw [if_neg hz];have hw: ∀ (s:ByteArray)(h:Heap),PCall Tryz.prog 79 [sPV s] h fun r h'=>r= .agg (wordM s).cells∧h'=h:=fun s h=>rwd_c;simp only[wordM,Sx.cells,Sx.rows]at hw;simp only[Fm.cells];refine uG (ow:=fun t=>t==51) (wf:=fun _=>false) Tryz.func33 Tryz.ntmps33 Tryz.results33 Ty.hb_33 ?_;replace zz:=uu k1 (uu k2 (uu k3 (uu k4 k5)));(repeat'(first|with_reducible refine a_hold 10 ?_|refine a_seq fun K hK=>?_|refine a_block ?_|refine uR zz ?_|refine uK ?_|refine uC1 zz ?_|(refine uN hK ?_;clear hK)|apply zI));refine⟨?_⟩;refine a_cut (fun S h'=>S 1= .cptr (Fm.mk op name args params exprs kids).cells∧S 2= .ptr h.next 0 0∧h'=h.new (.arr 6 [[.sc (.int .i64 0),.sc (.int .i64 0),.sc (.int .i64 0),.sc (.int .i64 0),.sc (.string ⟨#[]⟩),.sc (.slice none 0 0)]])) ?_ ?_
       ·cases k6:(op.data.toList==(#[97,110,100]:Array UInt8).toList)with
        |false=>
         (repeat'(first|refine a_seq fun K hK=>?_|refine uR k6 ?_|refine uK ?_|refine uC1 k6 ?_|(refine uN hK ?_;clear hK)|apply zI));all_goals first|rfl|trivial|((try refine⟨?_,?_,?_⟩)<;>first|rfl|trivial)|((try refine⟨?_,?_⟩)<;>first|rfl|trivial)
        |true=>
         have hk0:((kids.length:Int)==0)=false:=by
          cases kids with
          |nil=>exact absurd (by rw[n6,k6];try rfl) hz
          |cons a l=>simp;omega
         replace zz:=uu k6 (uu hk0 hlK);(repeat'(first|refine a_seq fun K hK=>?_|refine uR zz ?_|refine uK ?_|refine uC1 zz ?_|(refine uN hK ?_;clear hK)|apply zI));all_goals first|rfl|trivial|((try refine⟨?_,?_,?_⟩)<;>first|rfl|trivial)|((try refine⟨?_,?_⟩)<;>first|rfl|trivial)
       ·rintro S h' ⟨g1,g2,rfl⟩;simp only[Fm.cells]at g1;(repeat'(first|refine a_seq fun K hK=>?_|refine uR (uu g1 g2) ?_|apply zI));refine uU (uu g1 g2) (hw op _) ?_;(repeat'(first|with_reducible refine a_hold 13 ?_|(refine uN hK ?_;clear hK)|apply zI));refine⟨?_⟩;refine a_cut (fun S h'=>S 1= .cptr (Fm.mk op name args params exprs kids).cells∧S 2= .ptr h.next 0 0∧ ∃ id,S 3= .own id 0 (wordM op::(if isQ op=true then[listM (paramsW params)]else[])).length∧Grow h h'∧h.next<id∧id<h'.next∧h'.obj h.next=some (.arr 6 [[.sc (.int .i64 0),.sc (.int .i64 0),.sc (.int .i64 0),.sc (.int .i64 0),.sc (.string ⟨#[]⟩),.sc (.slice none 0 0)]])∧h'.obj id=some (.arr 6 (Sx.rows (wordM op::(if isQ op=true then[listM (paramsW params)]else[]))))) ?_ ?_
        ·have n7:bEq op opAll=(op.data.toList==(#[102,111,114,97,108,108]:Array UInt8).toList):=rfl;have n8:bEq op opSome=(op.data.toList==(#[101,120,105,115,116,115]:Array UInt8).toList):=rfl;cases k7:(op.data.toList==(#[102,111,114,97,108,108]:Array UInt8).toList)with
         |true=>
          rw[if_pos (by simp[isQ,n7,n8,k7])];have hwp:=rwriteParams_c (l:=params) hpl;simp only[listM,wordM,Sx.rows,Sx.cells,List.length_cons,List.length_nil];generalize Sx.rows (paramsW params)=PR at hwp⊢;replace zz:=uu g1 (uu g2 (uu k7 (uu @nsucc (uu @Nat.add_eq_left @Nat.one_ne_zero))));(repeat'(first|refine a_seq fun K hK=>?_|refine uR zz ?_|refine uC1 zz ?_|(refine uN hK ?_;clear hK)|apply zI));refine uU (uu g1 (uu g2 k7)) (hwp _) ?_;(try apply zI);refine⟨rfl,h.next+1+1,?_,((((Grow.refl h).new _).new _).kill (Nat.le_succ _)).new _,by omega,by simp[Heap.new,Heap.kill],?_,?_⟩;all_goals first|rfl|(simp[Heap.new,Heap.kill];done)|(simp[Heap.new,Heap.kill];omega)
         |false=>
          cases k8:(op.data.toList==(#[101,120,105,115,116,115]:Array UInt8).toList)with
          |true=>
           rw[if_pos (by simp[isQ,n7,n8,k7,k8])];have hwp:=rwriteParams_c (l:=params) hpl;simp only[listM,wordM,Sx.rows,Sx.cells,List.length_cons,List.length_nil];generalize Sx.rows (paramsW params)=PR at hwp⊢;replace zz:=uu g1 (uu g2 (uu k7 (uu k8 (uu @nsucc (uu @Nat.add_eq_left @Nat.one_ne_zero)))));(repeat'(first|refine a_seq fun K hK=>?_|refine uR zz ?_|refine uC1 zz ?_|(refine uN hK ?_;clear hK)|apply zI));replace zz:=uu g1 (uu g2 (uu k7 k8));refine uU zz (hwp _) ?_;(try apply zI);refine⟨rfl,h.next+1+1,?_,((((Grow.refl h).new _).new _).kill (Nat.le_succ _)).new _,by omega,by simp[Heap.new,Heap.kill],?_,?_⟩;all_goals first|rfl|(simp[Heap.new,Heap.kill];done)|(simp[Heap.new,Heap.kill];omega)
          |false=>
           rw[if_neg (by simp[isQ,n7,n8,k7,k8])];simp only[wordM,Sx.rows,Sx.cells,List.length_cons,List.length_nil];replace zz:=uu g1 (uu g2 (uu k7 k8));repeat'(first|refine a_seq fun K hK=>?_|refine uR zz ?_|refine uK ?_|refine uC1 zz ?_|(refine uN hK ?_;clear hK)|apply zI)
           (try simp(maxSteps:=2000000) only[Ty.w,simprocAttr,Ty.all,g1,g2])
           refine⟨rfl,h.next+1,?_,((Grow.refl h).new _).new _,by omega,by simp[Heap.new],?_,?_⟩;all_goals first|rfl|simp[Heap.new]
        ·(try clear zz);clear g1 g2 S;obtain⟨L1,hL1,hl1⟩: ∃ L1:List Sx,(wordM op::(if isQ op=true then[listM (paramsW params)]else[]))=L1∧L1.length≤2:=⟨_,rfl,by split<;>simp⟩;have hfin:[wordM op]++(if isQ op=true then[listM (paramsW params)]else[])++fmWs kids=L1++kids.map fmW:=(by rw[← hL1,fmWs_map];try rfl);rw[hfin,hL1];(try clear zz);clear hL1 hfin;rintro S h' ⟨g1,g2,id,g3,hg,hlo,hhi,o1,o2⟩;simp only[Fm.cells]at g1;have hrl: ∀ k,(L1++(kids.take k).map fmW).length≤1048578:=fun k=>(by simp;omega);replace zz:=uu g1 (uu g2 (uu g3 hlK));(repeat'(first|refine a_seq fun K hK=>?_|refine a_block ?_|refine uR zz ?_|(refine uN hK ?_;clear hK)|apply zI));refine a_loop (fun c S h'=>S 1= .cptr (Fm.mk op name args params exprs kids).cells∧S 2= .ptr h.next 0 0∧ ∃ k id:Nat,S 4= .sc (.int .i64 k)∧S 3= .own id 0 (L1++(kids.take k).map fmW).length∧k≤kids.length∧c=kids.length-k∧Grow h h'∧h.next<id∧id<h'.next∧h'.obj h.next=some (.arr 6 [[.sc (.int .i64 0),.sc (.int .i64 0),.sc (.int .i64 0),.sc (.int .i64 0),.sc (.string ⟨#[]⟩),.sc (.slice none 0 0)]])∧h'.obj id=some (.arr 6 (Sx.rows (L1++(kids.take k).map fmW)))) kids.length ?_ ?_
         ·simp only[Ty.w,simprocAttr,g1,g2,g3];exact⟨rfl,0,id,rfl,by simp,by omega,rfl,hg,hlo,hhi,o1,by simpa using o2⟩
         ·(try clear zz);clear g1 g2 g3 o1 o2 hg hlo hhi S;rintro c S h' ⟨g1,g2,k,id,g4,g3,hk,rfl,hg,hlo,hhi,o1,o2⟩;simp only[Fm.cells]at g1;by_cases hlt:k<kids.length
          ·have hdk:decide ((k:Int)<(kids.length:Int))=true:=(by simp;omega);have w7:IntKind.i64.wrap ((k:Int)+1)=k+1:=(by rw[wrap64 (by omega) (by omega)]);obtain⟨x,hx⟩: ∃ x,kids[k]? =some x:=⟨_,List.getElem?_eq_getElem hlt⟩;have hmem:=List.mem_of_getElem? hx;have hr:=Fm.rows_get hx;have hcx:=ih x hmem (hks x hmem) (hsk x hmem);have hL:L1++(kids.take (k+1)).map fmW=L1++(kids.take k).map fmW++[fmW x]:=(by rw[List.take_add_one,hx];simp);have hrk:=hrl k;generalize L1++(kids.take k).map fmW=L2 at g3 o2 hrk hL;generalize fmW x=X at hcx hL;obtain⟨xo,xn,xa,xp,xe,xk⟩:=x;obtain⟨ki,va,li,co,te,ks⟩:=X;simp only[Fm.cells,Sx.cells]at hr hcx;have hR:Sx.rows (L2++[.mk ki va li co te ks])=Sx.rows L2++[[.sc (.int .i64 ki),.sc (.int .i64 va),.sc (.int .i64 li),.sc (.int .i64 co),sPV te,.imm 6 (Sx.rows ks)]]:=(by simp[Sx.rows_map,Sx.cells]);have hpr:=Sx.rows_len L2;generalize Sx.rows L2=R at o2 hpr hR;have htk:List.take L2.length R=R:=List.take_of_length_le (by omega);have hb:(L2.length+1)*72≤140737488355328:=(by omega);replace zz:=uu g1 (uu g2 (uu g3 (uu g4 (uu hlK (uu hdk (uu hr o2))))));(repeat'(first|refine a_seq fun K hK=>?_|refine a_block ?_|refine uR zz ?_|refine uQ zz fun K hK=>?_|refine uK ?_|refine uC1 zz ?_|(refine uN hK ?_;clear hK)|apply zI));replace zz:=uu g1 (uu g2 (uu g3 (uu g4 (uu o2 (uu hpr (uu htk hb))))));refine uU zz (hcx _) ?_;replace zz:=uu g1 (uu g2 (uu g3 (uu g4 (uu w7 (uu o2 (uu hpr (uu htk hb)))))));(repeat'(first|refine uR zz ?_|(refine uN hK ?_;clear hK)|(rw[if_pos];rotate_left 1;omega;simp(maxSteps:=2000000) only[Ty.w,simprocAttr,g1,g2,g3,g4,w7,o2,hpr,htk,hb])|apply zI));refine⟨kids.length-(k+1),by omega,rfl,k+1,h'.next,by simp,?_,by omega,rfl,(hg.kill (by omega)).new _,by omega,by simp[Heap.new,Heap.kill],?_,?_⟩
           ·rw [hL];simp
           ·rw [if_neg (by omega),if_neg (by omega)];exact o1
           ·rw [hL,hR];simp[Heap.new,Heap.kill]
          ·have hdk:decide ((k:Int)<(kids.length:Int))=false:=(by simp;omega);have hke:k=kids.length:=(by omega);subst hke;rw[List.take_length]at o2 g3;replace zz:=uu g1 (uu g2 (uu g3 (uu g4 (uu hlK (uu hdk (uu o1 o2))))));(repeat'(first|refine a_seq fun K hK=>?_|refine uR zz ?_|refine uT zz ?_|refine uX ?_|refine uC1 zz ?_|(refine uN hK ?_;clear hK)|(clear hK;refine uN hK ?_;clear hK)|apply zI));refine⟨?_,hg.set (Nat.le_refl _) _⟩;simp only[listM,Sx.cells,FrzTo,FrzL];refine⟨_,rfl,rfl,rfl,rfl,rfl,rfl,.inr (.inr ⟨id,0,_,Sx.rows (L1++kids.map fmW),rfl,by omega,?_,?_,?_⟩),trivial⟩
           ·simp only[Heap.set];rw[if_neg (by omega)];exact o2
           ·rw [Sx.rows_len];omega
           ·rw [List.drop_zero,List.take_of_length_le (by rw[Sx.rows_len];omega)];exact sxs_frz _ _ _
theorem rsameE_c: ∀ a:Ex,a.ok→ ∀ b:Ex,b.ok→ ∀ h:Heap,PCall Tryz.prog 57 [.agg a.cells,.agg b.cells] h fun r h'=>r= .sc (.bool (a.same b))∧h'=h:=by
 refine Ex.ind ?_;intro op name n args kids ih hok;rintro⟨op3,name3,n3,args3,kids3⟩ hok3 h;simp only[Ex.ok]at hok hok3;obtain⟨_,_,_,⟨ha,_⟩,hk,hks⟩:=hok;obtain⟨_,_,_,⟨ha3,_⟩,hk3,hks3⟩:=hok3;rw[Ex.oks_iff]at hks hks3;have hfk: ∀ a∈kids, ∀ b∈kids3, ∀ h:Heap,PCall Tryz.prog 57 [.agg a.cells,.agg b.cells] h fun r h'=>r= .sc (.bool (a.same b))∧h'=h:=fun a ha b hb=>ih a ha (hks a ha) b (hks3 b hb);try clear zz
 clear ih;have hl_kids:=Ex.rows_len kids;have hl_kids3:=Ex.rows_len kids3;have cellsA:(Ex.mk op name n args kids).cells=(Ex.mk op name n args kids).cells:=rfl;have cellsB:(Ex.mk op3 name3 n3 args3 kids3).cells=(Ex.mk op3 name3 n3 args3 kids3).cells:=rfl
 conv at cellsA=>rhs;simp only[Ex.cells]
 conv at cellsB=>rhs;simp only[Ex.cells]
 rw[cellsA,cellsB];refine uG0 Tryz.func57 Tryz.ntmps57 Tryz.results57 Ty.hb_57 ?_;cases e0:(op.data.toList==op3.data.toList)with
 |false=>
  have hs:(Ex.mk op name n args kids).same (.mk op3 name3 n3 args3 kids3)=false:=by simp only[Ex.same,bEq,e0,Bool.false_and,Bool.and_false]
  replace zz:=uu @Bool.not_true (uu @Bool.not_false e0);repeat'(first|refine a_seq fun K hK=>?_|refine uR zz ?_|refine uT zz ?_|(refine uN hK ?_;clear hK)|apply zI)
  rw[hs]
 |true=>
  cases e1:(name.data.toList==name3.data.toList)with
  |false=>
   have hs:(Ex.mk op name n args kids).same (.mk op3 name3 n3 args3 kids3)=false:=(by simp only[Ex.same,bEq,e0,e1,Bool.false_and,Bool.and_false]);replace zz:=uu @Bool.not_true (uu @Bool.not_false (uu e0 e1));(repeat'(first|refine a_seq fun K hK=>?_|refine uR zz ?_|refine uT zz ?_|(refine uN hK ?_;clear hK)|apply zI));rw[hs]
  |true=>
   cases e2:(n !=n3)with
   |true=>
    have en:(n==n3)=false:=(by simpa using e2);have hs:(Ex.mk op name n args kids).same (.mk op3 name3 n3 args3 kids3)=false:=(by simp only[Ex.same,bEq,e0,e1,en,Bool.false_and,Bool.and_false]);replace zz:=uu @Bool.not_true (uu @Bool.not_false (uu e0 (uu e1 e2)));(repeat'(first|refine a_seq fun K hK=>?_|refine uR zz ?_|refine uT zz ?_|(refine uN hK ?_;clear hK)|apply zI));rw[hs]
   |false=>
    have en:(n==n3)=true:=(by simpa using e2);replace zz:=uu @Bool.not_true (uu @Bool.not_false (uu e0 (uu e1 e2)));(repeat'(first|refine a_seq fun K hK=>?_|refine uR zz ?_|(refine uN hK ?_;clear hK)|apply zI));cases e3:bsEq args args3 with
    |false=>
     have hs:(Ex.mk op name n args kids).same (.mk op3 name3 n3 args3 kids3)=false:=(by simp only[Ex.same,bEq,e0,e1,en,e3,Bool.false_and,Bool.and_false]);replace zz:=uu @Bool.not_true (uu @Bool.not_false (uu e0 (uu e1 (uu e2 e3))));refine uU zz (rtexts_c (l:=args) (m:=args3) ha ha3) ?_;(repeat'(first|refine a_seq fun K hK=>?_|refine uR zz ?_|refine uT zz ?_|(refine uN hK ?_;clear hK)|apply zI));rw[hs]
    |true=>
     cases l_kids:((kids.length:Int) !=kids3.length)with
     |true=>
      have hlen:Ex.sames kids kids3=false:=Ex.sames_len (by simp at l_kids;omega);have hs:(Ex.mk op name n args kids).same (.mk op3 name3 n3 args3 kids3)=false:=(by simp only[Ex.same,bEq,e0,e1,en,e3,hlen,Bool.false_and,Bool.and_false]);replace zz:=uu @Bool.not_true (uu @Bool.not_false (uu e0 (uu e1 (uu e2 (uu e3 (uu l_kids (uu hl_kids hl_kids3)))))));refine uU zz (rtexts_c (l:=args) (m:=args3) ha ha3) ?_;(repeat'(first|refine a_seq fun K hK=>?_|refine uR zz ?_|refine uT zz ?_|(refine uN hK ?_;clear hK)|apply zI));rw[hs]
     |false=>
      have hn_kids:kids.length=kids3.length:=(by simp at l_kids;omega);replace zz:=uu @Bool.not_true (uu @Bool.not_false (uu e0 (uu e1 (uu e2 (uu e3 (uu l_kids (uu hl_kids hl_kids3)))))));refine uU zz (rtexts_c (l:=args) (m:=args3) ha ha3) ?_;(repeat'(first|refine a_seq fun K hK=>?_|refine a_block ?_|refine uR zz ?_|refine uK ?_|refine uC1 zz ?_|(refine uN hK ?_;clear hK)|apply zI));refine a_loop (fun c S h7=>h7=h∧S 2= .cptr (Ex.mk op name n args kids).cells∧S 3= .cptr (Ex.mk op3 name3 n3 args3 kids3).cells∧ ∃ k:Nat,S 5= .sc (.int .i64 k)∧k≤kids.length∧c=kids.length-k∧Ex.sames kids kids3=Ex.sames (kids.drop k) (kids3.drop k)) kids.length ?_ ?_
      ·simp only[Ty.w,simprocAttr,cellsA,cellsB];exact⟨0,rfl,by omega,rfl,by simp⟩
      ·rintro c S h7 ⟨rfl,g2,g3,k,gk,hkl,rfl,hinv⟩;rw[cellsA]at g2;rw[cellsB]at g3;by_cases hlt:k<kids.length
       ·have hd:decide ((k:Int)<(kids.length:Int))=true:=(by simp;omega);have w7:IntKind.i64.wrap ((k:Int)+1)=k+1:=(by unfold bigN at hk;rw[wrap64 (by omega) (by omega)]);obtain⟨a,hx⟩: ∃ a,kids[k]? =some a:=⟨_,List.getElem?_eq_getElem hlt⟩;obtain⟨b,hy⟩: ∃ b,kids3[k]? =some b:=⟨_,List.getElem?_eq_getElem (by omega)⟩;have hc:=hfk a (List.mem_of_getElem? hx) b (List.mem_of_getElem? hy);rw[drop_of_get hx,drop_of_get hy]at hinv;simp only[Ex.sames]at hinv;have hr:=Ex.rows_get hx;have hr2:=Ex.rows_get hy;generalize he:a.same b=e at hc hinv;(try clear zz);clear he;obtain⟨op2,name2,n2,args2,kids2⟩:=a;obtain⟨op4,name4,n4,args4,kids4⟩:=b;simp only[Ex.cells]at hr hr2 hc;cases e with
        |false=>
         have hs:(Ex.mk op name n args kids).same (.mk op3 name3 n3 args3 kids3)=false:=(by simp only[Ex.same,bEq,hinv,e0,e1,en,e3,Bool.false_and,Bool.and_false]);replace zz:=uu g2 (uu g3 (uu gk (uu hl_kids (uu hl_kids3 (uu hd (uu hr (uu hr2 (uu w7 @Bool.not_false))))))));(repeat'(first|refine a_seq fun K hK=>?_|refine uR zz ?_|refine uD zz ?_|refine uK ?_|refine uC1 zz ?_|(refine uN hK ?_;clear hK)|apply zI));replace zz:=uu g2 (uu g3 (uu gk (uu hl_kids (uu hl_kids3 (uu hd (uu hr hr2))))));(first|refine uV zz (hc _) ?_|refine uA zz (hc _) ?_);replace zz:=uu g2 (uu g3 (uu gk (uu w7 @Bool.not_false)));(repeat'(first|refine a_seq fun K hK=>?_|refine uR zz ?_|refine uT zz ?_|(refine uN hK ?_;clear hK)|apply zI));rw[hs]
        |true=>
         rw[Bool.true_and]at hinv;replace zz:=uu g2 (uu g3 (uu gk (uu hl_kids (uu hl_kids3 (uu hd (uu hr (uu hr2 (uu w7 @Bool.not_true))))))));(repeat'(first|refine a_seq fun K hK=>?_|refine uR zz ?_|refine uD zz ?_|refine uK ?_|refine uC1 zz ?_|(refine uN hK ?_;clear hK)|apply zI));replace zz:=uu g2 (uu g3 (uu gk (uu hl_kids (uu hl_kids3 (uu hd (uu hr hr2))))));(first|refine uV zz (hc _) ?_|refine uA zz (hc _) ?_);replace zz:=uu g2 (uu g3 (uu gk (uu w7 @Bool.not_true)));(repeat'(first|refine a_block ?_|refine uR zz ?_|refine uK ?_|(refine uN hK ?_;clear hK)|apply zI));exact⟨kids.length-(k+1),by omega,by rw[cellsA],by rw[cellsB],k+1,by simp,by omega,rfl,hinv⟩
       ·have hd:decide ((k:Int)<(kids.length:Int))=false:=(by simp;omega);rw[List.drop_eq_nil_of_le (by omega),List.drop_eq_nil_of_le (by omega)]at hinv;have hq0:=hinv;simp only[Ex.sames]at hq0;(try clear zz);clear hinv;have hs:(Ex.mk op name n args kids).same (.mk op3 name3 n3 args3 kids3)=true:=(by simp only[Ex.same,bEq,e0,e1,en,e3,hq0,Bool.true_and]);replace zz:=uu g2 (uu g3 (uu gk (uu hl_kids (uu hl_kids3 hd))));(repeat'(first|refine a_seq fun K hK=>?_|refine uR zz ?_|refine uT zz ?_|refine uX ?_|refine uC1 zz ?_|(refine uN hK ?_;clear hK)|(clear hK;refine uN hK ?_;clear hK)|apply zI));rw[hs]
theorem rsame_c: ∀ a:Fm,a.ok→ ∀ b:Fm,b.ok→ ∀ h:Heap,PCall Tryz.prog 56 [.agg a.cells,.agg b.cells] h fun r h'=>r= .sc (.bool (a.same b))∧h'=h:=by
 refine Fm.ind ?_;intro op name args params exprs kids ih hok;rintro⟨op3,name3,args3,params3,exprs3,kids3⟩ hok3 h;simp only[Fm.ok]at hok hok3;obtain⟨_,_,⟨ha,_⟩,⟨hp,_⟩,⟨he,hes⟩,hk,hks⟩:=hok;obtain⟨_,_,⟨ha3,_⟩,⟨hp3,_⟩,⟨he3,hes3⟩,hk3,hks3⟩:=hok3;rw[Fm.oks_iff]at hks hks3;have hfk: ∀ a∈kids, ∀ b∈kids3, ∀ h:Heap,PCall Tryz.prog 56 [.agg a.cells,.agg b.cells] h fun r h'=>r= .sc (.bool (a.same b))∧h'=h:=fun a ha b hb=>ih a ha (hks a ha) b (hks3 b hb);rw[Ex.oks_iff]at hes hes3;have hfe: ∀ a∈exprs, ∀ b∈exprs3, ∀ h:Heap,PCall Tryz.prog 57 [.agg a.cells,.agg b.cells] h fun r h'=>r= .sc (.bool (a.same b))∧h'=h:=fun a ha b hb=>rsameE_c a (hes a ha) b (hes3 b hb);try clear zz
 clear ih;have hl_exprs:=Ex.rows_len exprs;have hl_exprs3:=Ex.rows_len exprs3;have hl_kids:=Fm.rows_len kids;have hl_kids3:=Fm.rows_len kids3;have cellsA:(Fm.mk op name args params exprs kids).cells=(Fm.mk op name args params exprs kids).cells:=rfl;have cellsB:(Fm.mk op3 name3 args3 params3 exprs3 kids3).cells=(Fm.mk op3 name3 args3 params3 exprs3 kids3).cells:=rfl
 conv at cellsA=>rhs;simp only[Fm.cells]
 conv at cellsB=>rhs;simp only[Fm.cells]
 rw[cellsA,cellsB];refine uG0 Tryz.func56 Tryz.ntmps56 Tryz.results56 Ty.hb_56 ?_;cases e0:(op.data.toList==op3.data.toList)with
 |false=>
  have hs:(Fm.mk op name args params exprs kids).same (.mk op3 name3 args3 params3 exprs3 kids3)=false:=by simp only[Fm.same,bEq,e0,Bool.false_and,Bool.and_false]
  replace zz:=uu @Bool.not_true (uu @Bool.not_false e0);repeat'(first|refine a_seq fun K hK=>?_|refine uR zz ?_|refine uT zz ?_|(refine uN hK ?_;clear hK)|apply zI)
  rw[hs]
 |true=>
  cases e1:(name.data.toList==name3.data.toList)with
  |false=>
   have hs:(Fm.mk op name args params exprs kids).same (.mk op3 name3 args3 params3 exprs3 kids3)=false:=(by simp only[Fm.same,bEq,e0,e1,Bool.false_and,Bool.and_false]);replace zz:=uu @Bool.not_true (uu @Bool.not_false (uu e0 e1));(repeat'(first|refine a_seq fun K hK=>?_|refine uR zz ?_|refine uT zz ?_|(refine uN hK ?_;clear hK)|apply zI));rw[hs]
  |true=>
   replace zz:=uu @Bool.not_true (uu @Bool.not_false (uu e0 e1));(repeat'(first|refine a_seq fun K hK=>?_|refine uR zz ?_|(refine uN hK ?_;clear hK)|apply zI));cases e2:bsEq args args3 with
   |false=>
    have hs:(Fm.mk op name args params exprs kids).same (.mk op3 name3 args3 params3 exprs3 kids3)=false:=(by simp only[Fm.same,bEq,e0,e1,e2,Bool.false_and,Bool.and_false]);replace zz:=uu @Bool.not_true (uu @Bool.not_false (uu e0 (uu e1 e2)));refine uU zz (rtexts_c (l:=args) (m:=args3) ha ha3) ?_;(repeat'(first|refine a_seq fun K hK=>?_|refine uR zz ?_|refine uT zz ?_|(refine uN hK ?_;clear hK)|apply zI));rw[hs]
   |true=>
    replace zz:=uu @Bool.not_true (uu @Bool.not_false (uu e0 (uu e1 (uu e2 (uu hl_exprs (uu hl_exprs3 (uu hl_kids hl_kids3)))))));refine uU zz (rtexts_c (l:=args) (m:=args3) ha ha3) ?_;(try apply zI);cases e3:pmsEq params params3 with
    |false=>
     have hs:(Fm.mk op name args params exprs kids).same (.mk op3 name3 args3 params3 exprs3 kids3)=false:=(by simp only[Fm.same,bEq,e0,e1,e2,e3,Bool.false_and,Bool.and_false]);replace zz:=uu @Bool.not_true (uu @Bool.not_false (uu e0 (uu e1 (uu e2 e3))));refine uU zz (rparams_c (l:=params) (m:=params3) hp hp3) ?_;(repeat'(first|refine a_seq fun K hK=>?_|refine uR zz ?_|refine uT zz ?_|(refine uN hK ?_;clear hK)|apply zI));rw[hs]
    |true=>
     cases l_exprs:((exprs.length:Int) !=exprs3.length)with
     |true=>
      have hlen:Ex.sames exprs exprs3=false:=Ex.sames_len (by simp at l_exprs;omega);have hs:(Fm.mk op name args params exprs kids).same (.mk op3 name3 args3 params3 exprs3 kids3)=false:=(by simp only[Fm.same,bEq,e0,e1,e2,e3,hlen,Bool.false_and,Bool.and_false]);replace zz:=uu @Bool.not_true (uu @Bool.not_false (uu e0 (uu e1 (uu e2 (uu e3 (uu l_exprs (uu hl_exprs (uu hl_exprs3 (uu hl_kids hl_kids3)))))))));refine uU zz (rparams_c (l:=params) (m:=params3) hp hp3) ?_;(repeat'(first|refine a_seq fun K hK=>?_|refine uR zz ?_|refine uT zz ?_|(refine uN hK ?_;clear hK)|apply zI));rw[hs]
     |false=>
      have hn_exprs:exprs.length=exprs3.length:=(by simp at l_exprs;omega);cases l_kids:((kids.length:Int) !=kids3.length)with
      |true=>
       have hlen:Fm.sames kids kids3=false:=Fm.sames_len (by simp at l_kids;omega);have hs:(Fm.mk op name args params exprs kids).same (.mk op3 name3 args3 params3 exprs3 kids3)=false:=(by simp only[Fm.same,bEq,e0,e1,e2,e3,hlen,Bool.false_and,Bool.and_false]);replace zz:=uu @Bool.not_true (uu @Bool.not_false (uu e0 (uu e1 (uu e2 (uu e3 (uu l_exprs (uu l_kids (uu hl_exprs (uu hl_exprs3 (uu hl_kids hl_kids3))))))))));refine uU zz (rparams_c (l:=params) (m:=params3) hp hp3) ?_;(repeat'(first|refine a_seq fun K hK=>?_|refine uR zz ?_|refine uT zz ?_|(refine uN hK ?_;clear hK)|apply zI));rw[hs]
      |false=>
       have hn_kids:kids.length=kids3.length:=(by simp at l_kids;omega);replace zz:=uu @Bool.not_true (uu @Bool.not_false (uu e0 (uu e1 (uu e2 (uu e3 (uu l_exprs (uu l_kids (uu hl_exprs (uu hl_exprs3 (uu hl_kids hl_kids3))))))))));refine uU zz (rparams_c (l:=params) (m:=params3) hp hp3) ?_;(repeat'(first|refine a_seq fun K hK=>?_|refine a_block ?_|refine uR zz ?_|refine uK ?_|refine uC1 zz ?_|(refine uN hK ?_;clear hK)|apply zI));refine a_loop (fun c S h7=>h7=h∧S 2= .cptr (Fm.mk op name args params exprs kids).cells∧S 3= .cptr (Fm.mk op3 name3 args3 params3 exprs3 kids3).cells∧ ∃ k:Nat,S 5= .sc (.int .i64 k)∧k≤exprs.length∧c=exprs.length-k∧Ex.sames exprs exprs3=Ex.sames (exprs.drop k) (exprs3.drop k)) exprs.length ?_ ?_
       ·simp only[Ty.w,simprocAttr,cellsA,cellsB];exact⟨0,rfl,by omega,rfl,by simp⟩
       ·rintro c S h7 ⟨rfl,g2,g3,k,gk,hkl,rfl,hinv⟩;rw[cellsA]at g2;rw[cellsB]at g3;by_cases hlt:k<exprs.length
        ·have hd:decide ((k:Int)<(exprs.length:Int))=true:=(by simp;omega);have w7:IntKind.i64.wrap ((k:Int)+1)=k+1:=(by unfold bigN at he;rw[wrap64 (by omega) (by omega)]);obtain⟨a,hx⟩: ∃ a,exprs[k]? =some a:=⟨_,List.getElem?_eq_getElem hlt⟩;obtain⟨b,hy⟩: ∃ b,exprs3[k]? =some b:=⟨_,List.getElem?_eq_getElem (by omega)⟩;have hc:=hfe a (List.mem_of_getElem? hx) b (List.mem_of_getElem? hy);rw[drop_of_get hx,drop_of_get hy]at hinv;simp only[Ex.sames]at hinv;have hr:=Ex.rows_get hx;have hr2:=Ex.rows_get hy;generalize he:a.same b=e at hc hinv;(try clear zz);clear he;obtain⟨op2,name2,n2,args2,kids2⟩:=a;obtain⟨op4,name4,n4,args4,kids4⟩:=b;simp only[Ex.cells]at hr hr2 hc;cases e with
         |false=>
          have hs:(Fm.mk op name args params exprs kids).same (.mk op3 name3 args3 params3 exprs3 kids3)=false:=(by simp only[Fm.same,bEq,hinv,e0,e1,e2,e3,Bool.false_and,Bool.and_false]);replace zz:=uu g2 (uu g3 (uu gk (uu hl_exprs (uu hl_exprs3 (uu hl_kids (uu hl_kids3 (uu hd (uu hr (uu hr2 (uu w7 @Bool.not_false))))))))));(repeat'(first|refine a_seq fun K hK=>?_|refine uR zz ?_|refine uD zz ?_|refine uK ?_|refine uC1 zz ?_|(refine uN hK ?_;clear hK)|apply zI));replace zz:=uu g2 (uu g3 (uu gk (uu hl_exprs (uu hl_exprs3 (uu hl_kids (uu hl_kids3 (uu hd (uu hr hr2))))))));(first|refine uV zz (hc _) ?_|refine uA zz (hc _) ?_);replace zz:=uu g2 (uu g3 (uu gk (uu w7 @Bool.not_false)));(repeat'(first|refine a_seq fun K hK=>?_|refine uR zz ?_|refine uT zz ?_|(refine uN hK ?_;clear hK)|apply zI));rw[hs]
         |true=>
          rw[Bool.true_and]at hinv;replace zz:=uu g2 (uu g3 (uu gk (uu hl_exprs (uu hl_exprs3 (uu hl_kids (uu hl_kids3 (uu hd (uu hr (uu hr2 (uu w7 @Bool.not_true))))))))));(repeat'(first|refine a_seq fun K hK=>?_|refine uR zz ?_|refine uD zz ?_|refine uK ?_|refine uC1 zz ?_|(refine uN hK ?_;clear hK)|apply zI));replace zz:=uu g2 (uu g3 (uu gk (uu hl_exprs (uu hl_exprs3 (uu hl_kids (uu hl_kids3 (uu hd (uu hr hr2))))))));(first|refine uV zz (hc _) ?_|refine uA zz (hc _) ?_);replace zz:=uu g2 (uu g3 (uu gk (uu w7 @Bool.not_true)));(repeat'(first|refine a_block ?_|refine uR zz ?_|refine uK ?_|(refine uN hK ?_;clear hK)|apply zI));exact⟨exprs.length-(k+1),by omega,by rw[cellsA],by rw[cellsB],k+1,by simp,by omega,rfl,hinv⟩
        ·have hd:decide ((k:Int)<(exprs.length:Int))=false:=(by simp;omega);rw[List.drop_eq_nil_of_le (by omega),List.drop_eq_nil_of_le (by omega)]at hinv;have hq0:=hinv;simp only[Ex.sames]at hq0;(try clear zz);clear hinv;replace zz:=uu g2 (uu g3 (uu gk (uu hl_exprs (uu hl_exprs3 (uu hl_kids (uu hl_kids3 hd))))));(repeat'(first|refine a_seq fun K hK=>?_|refine a_block ?_|refine uR zz ?_|refine uX ?_|refine uC1 zz ?_|(refine uN hK ?_;clear hK)|(clear hK;refine uN hK ?_;clear hK)|apply zI));(try clear zz);clear gk;refine a_loop (fun c S h8=>h8=h7∧S 2= .cptr (Fm.mk op name args params exprs kids).cells∧S 3= .cptr (Fm.mk op3 name3 args3 params3 exprs3 kids3).cells∧ ∃ k:Nat,S 6= .sc (.int .i64 k)∧k≤kids.length∧c=kids.length-k∧Fm.sames kids kids3=Fm.sames (kids.drop k) (kids3.drop k)) kids.length ?_ ?_
         ·simp only[Ty.w,simprocAttr,cellsA,cellsB,g2,g3];exact⟨0,rfl,by omega,rfl,by simp⟩
         ·(try clear zz);clear g2 g3;rintro c S h8 ⟨rfl,g2,g3,k,gk,hkl,rfl,hinv⟩;rw[cellsA]at g2;rw[cellsB]at g3;by_cases hlt:k<kids.length
          ·have hd:decide ((k:Int)<(kids.length:Int))=true:=(by simp;omega);have w7:IntKind.i64.wrap ((k:Int)+1)=k+1:=(by unfold bigN at hk;rw[wrap64 (by omega) (by omega)]);obtain⟨a,hx⟩: ∃ a,kids[k]? =some a:=⟨_,List.getElem?_eq_getElem hlt⟩;obtain⟨b,hy⟩: ∃ b,kids3[k]? =some b:=⟨_,List.getElem?_eq_getElem (by omega)⟩;have hc:=hfk a (List.mem_of_getElem? hx) b (List.mem_of_getElem? hy);rw[drop_of_get hx,drop_of_get hy]at hinv;simp only[Fm.sames]at hinv;have hr:=Fm.rows_get hx;have hr2:=Fm.rows_get hy;generalize he:a.same b=e at hc hinv;(try clear zz);clear he;obtain⟨op2,name2,args2,params2,exprs2,kids2⟩:=a;obtain⟨op4,name4,args4,params4,exprs4,kids4⟩:=b;simp only[Fm.cells]at hr hr2 hc;cases e with
           |false=>
            have hs:(Fm.mk op name args params exprs kids).same (.mk op3 name3 args3 params3 exprs3 kids3)=false:=(by simp only[Fm.same,bEq,hinv,e0,e1,e2,e3,hq0,Bool.false_and,Bool.and_false]);replace zz:=uu g2 (uu g3 (uu gk (uu hl_exprs (uu hl_exprs3 (uu hl_kids (uu hl_kids3 (uu hd (uu hr (uu hr2 (uu w7 @Bool.not_false))))))))));(repeat'(first|refine a_seq fun K hK=>?_|refine uR zz ?_|refine uD zz ?_|refine uK ?_|refine uC1 zz ?_|(refine uN hK ?_;clear hK)|apply zI));replace zz:=uu g2 (uu g3 (uu gk (uu hl_exprs (uu hl_exprs3 (uu hl_kids (uu hl_kids3 (uu hd (uu hr hr2))))))));(first|refine uV zz (hc _) ?_|refine uA zz (hc _) ?_);replace zz:=uu g2 (uu g3 (uu gk (uu w7 @Bool.not_false)));(repeat'(first|refine a_seq fun K hK=>?_|refine uR zz ?_|refine uT zz ?_|(refine uN hK ?_;clear hK)|apply zI));rw[hs]
           |true=>
            rw[Bool.true_and]at hinv;replace zz:=uu g2 (uu g3 (uu gk (uu hl_exprs (uu hl_exprs3 (uu hl_kids (uu hl_kids3 (uu hd (uu hr (uu hr2 (uu w7 @Bool.not_true))))))))));(repeat'(first|refine a_seq fun K hK=>?_|refine uR zz ?_|refine uD zz ?_|refine uK ?_|refine uC1 zz ?_|(refine uN hK ?_;clear hK)|apply zI));replace zz:=uu g2 (uu g3 (uu gk (uu hl_exprs (uu hl_exprs3 (uu hl_kids (uu hl_kids3 (uu hd (uu hr hr2))))))));(first|refine uV zz (hc _) ?_|refine uA zz (hc _) ?_);replace zz:=uu g2 (uu g3 (uu gk (uu w7 @Bool.not_true)));(repeat'(first|refine a_block ?_|refine uR zz ?_|refine uK ?_|(refine uN hK ?_;clear hK)|apply zI));exact⟨kids.length-(k+1),by omega,by rw[cellsA],by rw[cellsB],k+1,by simp,by omega,rfl,hinv⟩
          ·have hd:decide ((k:Int)<(kids.length:Int))=false:=(by simp;omega);rw[List.drop_eq_nil_of_le (by omega),List.drop_eq_nil_of_le (by omega)]at hinv;have hq1:=hinv;simp only[Fm.sames]at hq1;(try clear zz);clear hinv;have hs:(Fm.mk op name args params exprs kids).same (.mk op3 name3 args3 params3 exprs3 kids3)=true:=(by simp only[Fm.same,bEq,e0,e1,e2,e3,hq0,hq1,Bool.true_and]);replace zz:=uu g2 (uu g3 (uu gk (uu hl_exprs (uu hl_exprs3 (uu hl_kids (uu hl_kids3 hd))))));(repeat'(first|refine a_seq fun K hK=>?_|refine uR zz ?_|refine uT zz ?_|refine uX ?_|refine uC1 zz ?_|(refine uN hK ?_;clear hK)|(clear hK;refine uN hK ?_;clear hK)|apply zI));rw[hs]
end Go.Proofs.YtblgchkahpgdjaaGreat
namespace Go.AM
mutual
def Nz:PV→PV→Prop
 | .imm z rows,p=>(∃ rows',p= .imm z rows'∧NzR rows rows')∨(rows=[]∧(p= .emp∨p= .sc (.slice none 0 0)))
 | .agg l,p=> ∃ l',p= .agg l'∧NzL l l'
 |q,p=>p=q
def NzL:List PV→List PV→Prop
 |[],[]=>True
 |p::ps,q::qs=>Nz p q∧NzL ps qs
 |_,_=>False
def NzR:List (List PV)→List (List PV)→Prop
 |[],[]=>True
 |p::ps,q::qs=>NzL p q∧NzR ps qs
 |_,_=>False
end
theorem NzL.len:(l l':List PV)→NzL l l'→l.length=l'.length
 |[],[],_=>rfl
 |[],_::_,h=>by simp[NzL]at h
 |_::_,[],h=>by simp[NzL]at h
 |p::l,q::l',h=>by
  unfold NzL at h;simp only[List.length_cons,NzL.len l l' h.2]
theorem NzR.len:(l l':List (List PV))→NzR l l'→l.length=l'.length
 |[],[],_=>rfl
 |[],_::_,h=>by simp[NzR]at h
 |_::_,[],h=>by simp[NzR]at h
 |p::l,q::l',h=>by
  unfold NzR at h;simp only[List.length_cons,NzR.len l l' h.2]
mutual
theorem Nz.refl:(p:PV)→Nz p p
 | .imm z rows=>by unfold Nz;exact .inl ⟨rows,rfl,NzR.refl rows⟩
 | .agg l=>by unfold Nz;exact⟨l,rfl,NzL.refl l⟩
 | .sc v=>by unfold Nz;rfl
 | .ptr _ _ _=>by unfold Nz;rfl
 | .cptr _=>by unfold Nz;rfl
 | .own _ _ _=>by unfold Nz;rfl
 | .emp=>by unfold Nz;rfl
 | .mp _=>by unfold Nz;rfl
 | .tup _=>by unfold Nz;rfl
 | .fn _ _ _=>by unfold Nz;rfl
 | .ab _ _ _ _ _=>by unfold Nz;rfl
theorem NzL.refl:(l:List PV)→NzL l l
 |[]=>by unfold NzL;trivial
 |p::l=>by unfold NzL;exact⟨Nz.refl p,NzL.refl l⟩
theorem NzR.refl:(l:List (List PV))→NzR l l
 |[]=>by unfold NzR;trivial
 |p::l=>by unfold NzR;exact⟨NzL.refl p,NzR.refl l⟩
end
section
variable {β:Env}{n:Nat}{F:Nat→Prop}{w:World}
mutual
theorem Nz.rep:(q p:PV)→(x:Value)→Nz q p→Rep β n F w p x→Rep β n F w q x
 | .imm z rows,p,x,h,hr=>by
  unfold Nz at h;rcases h with⟨rows',rfl,hR⟩|⟨rfl,rfl|rfl⟩
  ·simp only[Rep]at hr⊢;have hl:=NzR.len rows rows' hR;obtain⟨a,cap,rfl,g1,g2,g3⟩:=hr;refine⟨a,cap,by rw[hl],by omega,g2,?_⟩;rcases g3 with g3|⟨b,o,hF,ha,hRR⟩
   ·left;rw[g3]at hl;exact List.length_eq_zero_iff.1 hl
   ·exact .inr ⟨b,o,hF,ha,NzR.rep z rows rows' b o hR hRR⟩
  ·simp only[Rep]at hr⊢;obtain⟨a,rfl⟩:=hr;exact⟨a,0,rfl,Nat.le_refl _,Nat.zero_le _,.inl trivial⟩
  ·simp only[Rep]at hr⊢;exact⟨none,0,hr,Nat.le_refl _,Nat.zero_le _,.inl trivial⟩
 | .agg l,p,x,h,hr=>by
  unfold Nz at h;obtain⟨l',rfl,hl⟩:=h;simp only[Rep]at hr⊢;obtain⟨xs,rfl,h1,h2⟩:=hr;exact⟨xs,rfl,h1,NzL.rep l l' xs hl h2⟩
 | .sc _,p,x,h,hr=>by unfold Nz at h;subst h;exact hr
 | .ptr _ _ _,p,x,h,hr=>by unfold Nz at h;subst h;exact hr
 | .cptr _,p,x,h,hr=>by unfold Nz at h;subst h;exact hr
 | .own _ _ _,p,x,h,hr=>by unfold Nz at h;subst h;exact hr
 | .emp,p,x,h,hr=>by unfold Nz at h;subst h;exact hr
 | .mp _,p,x,h,hr=>by unfold Nz at h;subst h;exact hr
 | .tup _,p,x,h,hr=>by unfold Nz at h;subst h;exact hr
 | .fn _ _ _,p,x,h,hr=>by unfold Nz at h;subst h;exact hr
 | .ab _ _ _ _ _,p,x,h,hr=>by unfold Nz at h;subst h;exact hr
theorem NzL.rep:(l l':List PV)→(xs:List Value)→NzL l l'→RepL β n F w l' xs→RepL β n F w l xs
 |[],[],xs,_,hr=>hr
 |[],_::_,_,h,_=>by simp[NzL]at h
 |_::_,[],_,h,_=>by simp[NzL]at h
 |p::l,q::l',[],_,hr=>by simp[RepL]at hr
 |p::l,q::l',v::xs,h,hr=>by
  unfold NzL at h;unfold RepL at hr⊢;exact⟨Nz.rep p q v h.1 hr.1,NzL.rep l l' xs h.2 hr.2⟩
theorem NzS.rep:(l l':List PV)→(b o:Nat)→NzL l l'→RepS β n F w l' b o→RepS β n F w l b o
 |[],[],_,_,_,_=>by unfold RepS;trivial
 |[],_::_,_,_,h,_=>by simp[NzL]at h
 |_::_,[],_,_,h,_=>by simp[NzL]at h
 |p::l,q::l',b,o,h,hr=>by
  unfold NzL at h;unfold RepS at hr⊢;obtain⟨⟨v,h1,h2,h3⟩,h4⟩:=hr;exact⟨⟨v,h1,h2,Nz.rep p q v h.1 h3⟩,NzS.rep l l' b (o+1) h.2 h4⟩
theorem NzR.rep(z:Nat):(l l':List (List PV))→(b o:Nat)→NzR l l'→RepR β n F w z l' b o→RepR β n F w z l b o
 |[],[],_,_,_,_=>by unfold RepR;trivial
 |[],_::_,_,_,h,_=>by simp[NzR]at h
 |_::_,[],_,_,h,_=>by simp[NzR]at h
 |p::l,q::l',b,o,h,hr=>by
  unfold NzR at h;unfold RepR at hr⊢;exact⟨⟨by rw[NzL.len p q h.1];exact hr.1.1,NzS.rep p q b o h.1 hr.1.2⟩,NzR.rep z l l' b (o+z) h.2 hr.2⟩
end
end
theorem PCall.nz{P:Program}{f:FuncId}{ys xs:List PV}{h:Heap}{K:PV→Heap→Prop}(hc:PCall P f ys h K)(hz:NzL ys xs):PCall P f xs h K:=
 fun β w vals sm hr=>hc β w vals sm (NzL.rep ys xs vals hz hr)
theorem nz_nil{z:Nat}:Nz (.imm z []) (.sc (.slice none 0 0)):=by unfold Nz;exact .inr ⟨rfl,.inr rfl⟩
theorem nz_agg{r r':List PV}(h:NzL r r'):Nz (.agg r) (.agg r'):=by unfold Nz;exact⟨_,rfl,h⟩
theorem nz_cons{p q:PV}{l m:List PV}(h:Nz p q)(h2:NzL l m):NzL (p::l) (q::m):=by unfold NzL;exact⟨h,h2⟩
end Go.AM
namespace Go.Proofs.YtblgchkahpgdjaaGreat
open Go.AM
set_option maxHeartbeats 8000000
set_option maxRecDepth 20000
def atF(c:Ch):Fm:= .mk opAtom c.name c.args [] [] []
def chR(c:Ch):Bool:=!(decide (c.kind<1))&&(!(decide (5<c.kind))&&(c.params.all (pmR true)&&(shapedF c.cond&&(shapedF (atF c)&&(bif decide (c.kind≤2)then c.value.same zeroEx else shapedE c.value)))))
theorem atF_ok{c:Ch}(h:c.ok):(atF c).ok:=⟨by decide,h.name,h.args,⟨by simp,by simp⟩,⟨by simp,trivial⟩,by simp,trivial⟩
theorem rshapedC_c{l:List Ch}(hl:l.length≤bigN)(hok: ∀ c∈l,c.ok)(h:Heap):PCall Tryz.prog 52 [.imm 15 (chRows l)] h fun r h'=>r= .sc (.bool (l.all chR))∧h'=h:=by
 refine PCall.quiet Ty.hb_52 ?_;unfold bigN at hl;have hlen:=chRows_len l;refine uG0 Tryz.func52 Tryz.ntmps52 Tryz.results52 Ty.hb_52 ?_;repeat'(first|refine a_seq fun K hK=>?_|refine a_block ?_|refine uR hlen ?_|(refine uN hK ?_;clear hK)|apply zI)
 refine a_loop (fun m S h'=>S 0= .imm 15 (chRows l)∧ ∃ k:Nat,S 3= .sc (.int .i64 k)∧k≤l.length∧m=l.length-k∧Grow h h'∧l.all chR=(l.drop k).all chR) l.length ?_ ?_
 ·simp only[Ty.w,simprocAttr];exact⟨0,rfl,by omega,rfl,Grow.refl _,by simp⟩
 ·rintro m S h' ⟨g0,k,g3,hk,rfl,hg,hinv⟩;by_cases hlt:k<l.length
  ·have hd:decide ((k:Int)<(l.length:Int))=true:=(by simp;omega);have w7:IntKind.i64.wrap ((k:Int)+1)=k+1:=(by rw[wrap64 (by omega) (by omega)]);obtain⟨c,hx⟩: ∃ c,l[k]? =some c:=⟨_,List.getElem?_eq_getElem hlt⟩;have hr:=chRows_get hx;have hco:=hok c (List.mem_of_getElem? hx);have hc1:=fun h:Heap=>rshapedPs_c (v:=true) hco.params.1 hco.params.2 h;have hc2:=fun h:Heap=>rshapedF_c c.cond hco.cond h;have hc3:=fun h:Heap=>PCall.nz (rshapedF_c (atF c) (atF_ok hco) h) (xs:=[.agg [sPV opAtom,sPV c.name,.imm 1 (strRows c.args),.sc (.slice none 0 0),.sc (.slice none 0 0),.sc (.slice none 0 0)]]) (nz_cons (nz_agg (nz_cons (Nz.refl _) (nz_cons (Nz.refl _) (nz_cons (Nz.refl _) (nz_cons nz_nil (nz_cons nz_nil (nz_cons nz_nil (NzL.refl _)))))))) (NzL.refl _));have hc4:=fun h:Heap=>PCall.nz (rsameE_c c.value hco.value zeroEx zeroEx_ok.1 h) (xs:=[.agg c.value.cells,.agg [.sc (.string ⟨#[]⟩),.sc (.string ⟨#[]⟩),.sc (.int .i64 0),.sc (.slice none 0 0),.sc (.slice none 0 0)]]) (nz_cons (Nz.refl _) (nz_cons (nz_agg (nz_cons (Nz.refl _) (nz_cons (Nz.refl _) (nz_cons (Nz.refl _) (nz_cons nz_nil (nz_cons nz_nil (NzL.refl _))))))) (NzL.refl _)));have hc5:=fun h:Heap=>rshapedE_c c.value hco.value h;rw[drop_of_get hx,List.all_cons]at hinv;simp only[chR]at hinv;(try clear zz);clear hok hco hx;generalize l.all chR=F at hinv⊢;generalize hF2:(l.drop (k+1)).all chR=F2 at hinv;obtain⟨kind,P,f,nm,aa,v⟩:=c;simp only at hinv hc1 hc2 hc3 hc4 hc5;generalize P.all (pmR true)=b1 at hc1 hinv;generalize shapedF f=b2 at hc2 hinv;generalize shapedF (atF ⟨kind,P,f,nm,aa,v⟩)=b3 at hc3 hinv;generalize v.same zeroEx=b4 at hc4 hinv;generalize shapedE v=b5 at hc5 hinv;obtain⟨gop,gna,gar,gpa,gex,gki⟩:=f;obtain⟨eop,ena,en,ear,eki⟩:=v;simp only[chRow,Fm.cells,Ex.cells,List.cons_append,List.nil_append]at hr hc2 hc4 hc5;simp only[sPV,opAtom]at hc3;cases k1:decide (kind<1)with
   |true=>
    rw[k1]at hinv;have hf:F=false:=(by rw[hinv];simp);subst hf;replace zz:=uu g0 (uu g3 (uu hd (uu hr k1)));(repeat'(first|refine a_seq fun K hK=>?_|refine uR zz ?_|refine uT zz ?_|refine uK ?_|(refine uC zz (fun hb=>?_) (fun hb=>?_)<;>(try simp only[hb0,simprocAttr]at hb)<;>(try(exfalso;omega)))|(refine uN hK ?_;clear hK)|apply zI));first|exact(hg.new _).set hg.le _|exact⟨rfl,(hg.new _).set hg.le _⟩
   |false=>
    rw[k1]at hinv;cases k2:decide (5<kind)with
    |true=>
     rw[k2]at hinv;have hf:F=false:=(by rw[hinv];simp);subst hf;replace zz:=uu g0 (uu g3 (uu hd (uu hr (uu k1 k2))));(repeat'(first|refine a_seq fun K hK=>?_|refine uR zz ?_|refine uT zz ?_|refine uK ?_|(refine uC zz (fun hb=>?_) (fun hb=>?_)<;>(try simp only[hb0,simprocAttr]at hb)<;>(try(exfalso;omega)))|(refine uN hK ?_;clear hK)|apply zI));first|exact(hg.new _).set hg.le _|exact⟨rfl,(hg.new _).set hg.le _⟩
    |false=>
     rw[k2]at hinv;cases b1 with
     |false=>
      have hf:F=false:=(by rw[hinv];simp);subst hf;(try clear zz);clear hinv;replace zz:=uu g0 (uu g3 (uu hd (uu hr (uu k1 k2))));(repeat'(first|refine a_seq fun K hK=>?_|refine uR zz ?_|refine uK ?_|(refine uC zz (fun hb=>?_) (fun hb=>?_)<;>(try simp only[hb0,simprocAttr]at hb)<;>(try(exfalso;omega)))|(refine uN hK ?_;clear hK)|apply zI));refine uU zz (hc1 _) ?_;replace zz:=uu g0 (uu g3 (uu hd (uu hr (uu k1 (uu k2 (uu @Bool.not_true @Bool.not_false))))));(repeat'(first|refine a_seq fun K hK=>?_|refine uR zz ?_|refine uT zz ?_|(refine uN hK ?_;clear hK)|apply zI));first|exact(hg.new _).set hg.le _|exact⟨rfl,(hg.new _).set hg.le _⟩
     |true=>
      cases b2 with
      |false=>
       have hf:F=false:=(by rw[hinv];simp);subst hf;(try clear zz);clear hinv;replace zz:=uu g0 (uu g3 (uu hd (uu hr (uu k1 k2))));(repeat'(first|refine a_seq fun K hK=>?_|refine uR zz ?_|refine uK ?_|(refine uC zz (fun hb=>?_) (fun hb=>?_)<;>(try simp only[hb0,simprocAttr]at hb)<;>(try(exfalso;omega)))|(refine uN hK ?_;clear hK)|apply zI));refine uU zz (hc1 _) ?_;(try apply zI);refine uU zz (hc2 _) ?_;replace zz:=uu g0 (uu g3 (uu hd (uu hr (uu k1 (uu k2 (uu @Bool.not_true @Bool.not_false))))));(repeat'(first|refine a_seq fun K hK=>?_|refine uR zz ?_|refine uT zz ?_|(refine uN hK ?_;clear hK)|apply zI));first|exact(hg.new _).set hg.le _|exact⟨rfl,(hg.new _).set hg.le _⟩
      |true=>
       cases b3 with
       |false=>
        have hf:F=false:=(by rw[hinv];simp);subst hf;(try clear zz);clear hinv;replace zz:=uu g0 (uu g3 (uu hd (uu hr (uu k1 k2))));(repeat'(first|refine a_seq fun K hK=>?_|refine uR zz ?_|refine uK ?_|(refine uC zz (fun hb=>?_) (fun hb=>?_)<;>(try simp only[hb0,simprocAttr]at hb)<;>(try(exfalso;omega)))|(refine uN hK ?_;clear hK)|apply zI));refine uU zz (hc1 _) ?_;(try apply zI);refine uU zz (hc2 _) ?_;replace zz:=uu g0 (uu g3 (uu hd (uu hr (uu k1 (uu k2 (uu @Bool.not_true @Bool.not_false))))));(repeat'(first|refine a_seq fun K hK=>?_|refine uR zz ?_|refine uK ?_|(refine uC zz (fun hb=>?_) (fun hb=>?_)<;>(try simp only[hb0,simprocAttr]at hb)<;>(try(exfalso;omega)))|(refine uN hK ?_;clear hK)|apply zI));replace zz:=uu g0 (uu g3 (uu hd (uu hr (uu k1 k2))));refine uU zz (hc3 _) ?_;replace zz:=uu g0 (uu g3 (uu hd (uu hr (uu k1 (uu k2 (uu @Bool.not_true @Bool.not_false))))));(repeat'(first|refine a_seq fun K hK=>?_|refine uR zz ?_|refine uT zz ?_|(refine uN hK ?_;clear hK)|apply zI));first|exact(hg.new _).set hg.le _|exact⟨rfl,(hg.new _).set hg.le _⟩
       |true=>
        cases k3:decide (kind≤2)with
        |true=>
         rw[k3]at hinv;have k4:decide (2<kind)=false:=(by simp at k3⊢;omega);cases b4 with
         |false=>
          have hf:F=false:=(by rw[hinv];simp);subst hf;(try clear zz);clear hinv;replace zz:=uu g0 (uu g3 (uu hd (uu hr (uu k1 k2))));(repeat'(first|refine a_seq fun K hK=>?_|refine uR zz ?_|refine uK ?_|(refine uC zz (fun hb=>?_) (fun hb=>?_)<;>(try simp only[hb0,simprocAttr]at hb)<;>(try(exfalso;omega)))|(refine uN hK ?_;clear hK)|apply zI));refine uU zz (hc1 _) ?_;(try apply zI);refine uU zz (hc2 _) ?_;replace zz:=uu g0 (uu g3 (uu hd (uu hr (uu k1 (uu k2 (uu @Bool.not_true (uu @Bool.not_false (uu k3 k4))))))));(repeat'(first|refine a_seq fun K hK=>?_|refine uR zz ?_|refine uK ?_|(refine uC zz (fun hb=>?_) (fun hb=>?_)<;>(try simp only[hb0,simprocAttr]at hb)<;>(try(exfalso;omega)))|(refine uN hK ?_;clear hK)|apply zI));replace zz:=uu g0 (uu g3 (uu hd (uu hr (uu k1 k2))));refine uU zz (hc3 _) ?_;replace zz:=uu g0 (uu g3 (uu hd (uu hr (uu k1 (uu k2 (uu @Bool.not_true (uu @Bool.not_false (uu k3 k4))))))));(repeat'(first|refine a_seq fun K hK=>?_|refine uR zz ?_|refine uK ?_|(refine uC zz (fun hb=>?_) (fun hb=>?_)<;>(try simp only[hb0,simprocAttr]at hb)<;>(try(exfalso;omega)))|(refine uN hK ?_;clear hK)|apply zI));replace zz:=uu g0 (uu g3 (uu hd (uu hr (uu k1 (uu k2 (uu k3 k4))))));refine uU zz (hc4 _) ?_;replace zz:=uu g0 (uu g3 (uu hd (uu hr (uu k1 (uu k2 (uu k3 (uu k4 (uu @Bool.not_true @Bool.not_false))))))));(repeat'(first|refine a_seq fun K hK=>?_|refine uR zz ?_|refine uT zz ?_|(refine uN hK ?_;clear hK)|apply zI));first|exact(hg.new _).set hg.le _|exact⟨rfl,(hg.new _).set hg.le _⟩
         |true=>
          simp only[Bool.not_false,Bool.true_and,cond_true,cond_false]at hinv;replace zz:=uu g0 (uu g3 (uu hd (uu hr (uu k1 k2))));(repeat'(first|refine a_seq fun K hK=>?_|refine uR zz ?_|refine uK ?_|(refine uC zz (fun hb=>?_) (fun hb=>?_)<;>(try simp only[hb0,simprocAttr]at hb)<;>(try(exfalso;omega)))|(refine uN hK ?_;clear hK)|apply zI));refine uU zz (hc1 _) ?_;(try apply zI);refine uU zz (hc2 _) ?_;replace zz:=uu g0 (uu g3 (uu hd (uu hr (uu k1 (uu k2 (uu @Bool.not_true (uu @Bool.not_false (uu k3 k4))))))));(repeat'(first|refine a_seq fun K hK=>?_|refine uR zz ?_|refine uK ?_|(refine uC zz (fun hb=>?_) (fun hb=>?_)<;>(try simp only[hb0,simprocAttr]at hb)<;>(try(exfalso;omega)))|(refine uN hK ?_;clear hK)|apply zI));replace zz:=uu g0 (uu g3 (uu hd (uu hr (uu k1 k2))));refine uU zz (hc3 _) ?_;replace zz:=uu g0 (uu g3 (uu hd (uu hr (uu k1 (uu k2 (uu @Bool.not_true (uu @Bool.not_false (uu k3 k4))))))));(repeat'(first|refine a_seq fun K hK=>?_|refine uR zz ?_|refine uK ?_|(refine uC zz (fun hb=>?_) (fun hb=>?_)<;>(try simp only[hb0,simprocAttr]at hb)<;>(try(exfalso;omega)))|(refine uN hK ?_;clear hK)|apply zI));replace zz:=uu g0 (uu g3 (uu hd (uu hr (uu k1 (uu k2 (uu k3 k4))))));refine uU zz (hc4 _) ?_;replace zz:=uu g0 (uu g3 (uu hd (uu hr (uu k1 (uu k2 (uu k3 (uu k4 (uu w7 (uu @Bool.not_true @Bool.not_false)))))))));(repeat'(first|refine a_block ?_|refine uR zz ?_|refine uK ?_|(refine uN hK ?_;clear hK)|apply zI));exact⟨l.length-(k+1),by omega,k+1,by simp,by omega,rfl,(hg.new _).set hg.le _,hinv.trans hF2.symm⟩
        |false=>
         rw[k3]at hinv;have k4:decide (2<kind)=true:=(by simp at k3⊢;omega);cases b5 with
         |false=>
          have hf:F=false:=(by rw[hinv];simp);subst hf;(try clear zz);clear hinv;replace zz:=uu g0 (uu g3 (uu hd (uu hr (uu k1 k2))));(repeat'(first|refine a_seq fun K hK=>?_|refine uR zz ?_|refine uK ?_|(refine uC zz (fun hb=>?_) (fun hb=>?_)<;>(try simp only[hb0,simprocAttr]at hb)<;>(try(exfalso;omega)))|(refine uN hK ?_;clear hK)|apply zI));refine uU zz (hc1 _) ?_;(try apply zI);refine uU zz (hc2 _) ?_;replace zz:=uu g0 (uu g3 (uu hd (uu hr (uu k1 (uu k2 (uu @Bool.not_true (uu @Bool.not_false (uu k3 k4))))))));(repeat'(first|refine a_seq fun K hK=>?_|refine uR zz ?_|refine uK ?_|(refine uC zz (fun hb=>?_) (fun hb=>?_)<;>(try simp only[hb0,simprocAttr]at hb)<;>(try(exfalso;omega)))|(refine uN hK ?_;clear hK)|apply zI));replace zz:=uu g0 (uu g3 (uu hd (uu hr (uu k1 k2))));refine uU zz (hc3 _) ?_;replace zz:=uu g0 (uu g3 (uu hd (uu hr (uu k1 (uu k2 (uu @Bool.not_true (uu @Bool.not_false (uu k3 k4))))))));(repeat'(first|refine a_seq fun K hK=>?_|refine uR zz ?_|refine uK ?_|(refine uC zz (fun hb=>?_) (fun hb=>?_)<;>(try simp only[hb0,simprocAttr]at hb)<;>(try(exfalso;omega)))|(refine uN hK ?_;clear hK)|apply zI));replace zz:=uu g0 (uu g3 (uu hd (uu hr (uu k1 (uu k2 (uu k3 k4))))));refine uU zz (hc5 _) ?_;replace zz:=uu g0 (uu g3 (uu hd (uu hr (uu k1 (uu k2 (uu k3 (uu k4 (uu @Bool.not_true @Bool.not_false))))))));(repeat'(first|refine a_seq fun K hK=>?_|refine uR zz ?_|refine uT zz ?_|(refine uN hK ?_;clear hK)|apply zI));first|exact(hg.new _).set hg.le _|exact⟨rfl,(hg.new _).set hg.le _⟩
         |true=>
          simp only[Bool.not_false,Bool.true_and,cond_true,cond_false]at hinv;replace zz:=uu g0 (uu g3 (uu hd (uu hr (uu k1 k2))));(repeat'(first|refine a_seq fun K hK=>?_|refine uR zz ?_|refine uK ?_|(refine uC zz (fun hb=>?_) (fun hb=>?_)<;>(try simp only[hb0,simprocAttr]at hb)<;>(try(exfalso;omega)))|(refine uN hK ?_;clear hK)|apply zI));refine uU zz (hc1 _) ?_;(try apply zI);refine uU zz (hc2 _) ?_;replace zz:=uu g0 (uu g3 (uu hd (uu hr (uu k1 (uu k2 (uu @Bool.not_true (uu @Bool.not_false (uu k3 k4))))))));(repeat'(first|refine a_seq fun K hK=>?_|refine uR zz ?_|refine uK ?_|(refine uC zz (fun hb=>?_) (fun hb=>?_)<;>(try simp only[hb0,simprocAttr]at hb)<;>(try(exfalso;omega)))|(refine uN hK ?_;clear hK)|apply zI));replace zz:=uu g0 (uu g3 (uu hd (uu hr (uu k1 k2))));refine uU zz (hc3 _) ?_;replace zz:=uu g0 (uu g3 (uu hd (uu hr (uu k1 (uu k2 (uu @Bool.not_true (uu @Bool.not_false (uu k3 k4))))))));(repeat'(first|refine a_seq fun K hK=>?_|refine uR zz ?_|refine uK ?_|(refine uC zz (fun hb=>?_) (fun hb=>?_)<;>(try simp only[hb0,simprocAttr]at hb)<;>(try(exfalso;omega)))|(refine uN hK ?_;clear hK)|apply zI));replace zz:=uu g0 (uu g3 (uu hd (uu hr (uu k1 (uu k2 (uu k3 k4))))));refine uU zz (hc5 _) ?_;replace zz:=uu g0 (uu g3 (uu hd (uu hr (uu k1 (uu k2 (uu k3 (uu k4 (uu w7 (uu @Bool.not_true @Bool.not_false)))))))));(repeat'(first|refine a_block ?_|refine uR zz ?_|refine uK ?_|(refine uN hK ?_;clear hK)|apply zI));exact⟨l.length-(k+1),by omega,k+1,by simp,by omega,rfl,(hg.new _).set hg.le _,hinv.trans hF2.symm⟩
  ·have hd:decide ((k:Int)<(l.length:Int))=false:=(by simp;omega);rw[List.drop_eq_nil_of_le (by omega),List.all_nil]at hinv;replace zz:=uu g0 (uu g3 (uu hd hlen));(repeat'(first|refine a_seq fun K hK=>?_|refine uR zz ?_|refine uT zz ?_|refine uX ?_|(refine uC zz (fun hb=>?_) (fun hb=>?_)<;>(try simp only[hb0,simprocAttr]at hb)<;>(try(exfalso;omega)))|(refine uN hK ?_;clear hK)|(clear hK;refine uN hK ?_;clear hK)|apply zI));exact⟨by rw[hinv],hg⟩
end Go.Proofs.YtblgchkahpgdjaaGreat
namespace Go.AM
theorem obj_new{h:Heap}{o:AObj}{j:Nat}(hj:j<h.next):(h.new o).obj j=h.obj j:=by
 simp only[Heap.new];rw[if_neg (by omega)]
theorem obj_set{h:Heap}{o:AObj}{id j:Nat}(hj:j≠id):(h.set id o).obj j=h.obj j:=by
 simp only[Heap.set];rw[if_neg hj]
theorem Tl.frzR{h:Heap}{id0 z:Nat}{p:PV}{rows:List (List PV)}(t:Tl h id0 z p rows){n:Nat}(hn:n≤id0)(hr:FrzR n h rows rows):FrzTo n h (.imm z rows) p:=by
 simp only[FrzTo];rcases t with⟨h1,h2⟩|⟨id,h1,h2,rfl,ho⟩
 ·exact .inr (.inl ⟨h1,h2.symm⟩)
 ·refine .inr (.inr ⟨id,0,_,_,rfl,by omega,ho,by omega,?_⟩);rw[List.drop_zero,List.take_of_length_le (by omega)];exact hr
section
variable {β:Env}{h:Heap}{w:World}{X z:Nat}{R:List (List PV)}{F':Nat→Prop}
end
theorem below_grow{h H:Heap}(g:Grow h H):Grow h (below h.next H):=⟨g.le,fun j hj=>by simp only[below];rw[if_pos hj];exact g.old j hj⟩
end Go.AM
namespace Go.Proofs.YtblgchkahpgdjaaGreat
open Go.AM
theorem a_holdR{P:Program}{ow:Nat→Bool}{wf:FuncId→Bool}{n:Nat}{Q:Post}{s:Slots}{h:Heap}(id:Nat){ops:Array Oper}{d:Bool}{y:Code}(hh:Hold (awp P ow wf n (.seq (.region id ops d) y) Q s h)):awp P ow wf n (.seq (.region id ops d) y) Q s h:=hh.out
theorem a_holdB{P:Program}{ow:Nat→Bool}{wf:FuncId→Bool}{n:Nat}{Q:Post}{s:Slots}{h:Heap}(id:Nat){ops:Array Oper}{d:Bool}(hh:Hold (awp P ow wf n (.region id ops d) Q s h)):awp P ow wf n (.region id ops d) Q s h:=hh.out
end Go.Proofs.YtblgchkahpgdjaaGreat
namespace Go.Proofs.YtblgchkahpgdjaaGreat
open Go.AM
set_option maxHeartbeats 4000000
set_option maxRecDepth 20000
theorem PCall.frzX{P:Program}{f:FuncId}{args:List PV}{h:Heap}{v:PV}{id:Nat}{o o0:AObj}(hb:hasBody P f=true)(hid:h.obj id=some o0)(hfl:inNO h.next o)(hc:PCall P f args h fun r h'=>FrzTo h.next h' v r∧GrowX h id o h'):
  PCall P f args h fun r h'=>r=v∧h'=h.set id o:=by
 refine pcall_wf hb fun hw=>PCall.drop (hc.mono ?_);rintro r h' ⟨hf,g⟩;refine⟨v,h.set id o,⟨rfl,rfl⟩,hf,Nat.le_refl _,fun i oo ho=>?_⟩;have hlt:=hw id (by rw[hid];try rfl);simp only[Heap.set]at ho;split at ho
 ·rename_i hi;subst hi;simp at ho;subst ho;exact⟨g.at_,hlt,.inr hfl⟩
 ·rename_i hi;have h1:=hw i (by rw[ho];try rfl);exact⟨by rw[g.old i h1 hi];exact ho,h1,.inl ho⟩
theorem GrowX.kill{h h':Heap}{id j:Nat}{o:AObj}(g:GrowX h id o h')(hid:id<h.next)(hj:h.next≤j):GrowX h id o (h'.kill j):=
 ⟨g.le,fun i hi hne=>by simp only[Heap.kill];rw[if_neg (by omega)];exact g.old i hi hne,by simp only[Heap.kill];rw[if_neg (by omega)];exact g.at_⟩
theorem a_genX{P:Program}{ow:Nat→Bool}{wf:FuncId→Bool}{n:Nat}{Q:Post}{s:Slots}{h:Heap}{c:Code}(I:Slots→Heap→Prop)(hi:I s h)(hh: ∀ s h,I s h→awp P ow wf n c Q s h):awp P ow wf n c Q s h:=hh _ _ hi
abbrev wO(b:Bool):AObj:= .arr 1 [[.sc (.bool b)]]
theorem wO_in(n:Nat)(b:Bool):inNO n (wO b):=by simp[wO,inNO,inNR,inNL,inN]
theorem dword_c{h:Heap}{s:ByteArray}:PCall Tryz.prog 40 [sPV s] h fun r h'=>r= .agg (wordM s).cells∧h'=h:=by
 refine PCall.frz Ty.hb_40 ?_;refine uG0 Tryz.func40 Tryz.ntmps40 Tryz.results40 Ty.hb_40 ?_;repeat'(first|refine a_seq fun K hK=>?_|refine uR trivial ?_|refine uT trivial ?_|(refine uN hK ?_;clear hK)|apply zI)
 refine⟨?_,((Grow.refl h).new _).set (Nat.le_refl _) _⟩;simp only[wordM,Sx.cells,Sx.rows,FrzTo,FrzL];exact⟨_,rfl,rfl,rfl,rfl,rfl,rfl,.inr (.inl ⟨rfl,.inr rfl⟩),trivial⟩
theorem dlist_c{h:Heap}{p:PV}(h1:oneC p=true)(hf: ∀ h',FrzTo h.next h' p p):PCall Tryz.prog 39 [p] h fun r h'=>r= .agg [.sc (.int .i64 3),.sc (.int .i64 0),.sc (.int .i64 0),.sc (.int .i64 0),.sc (.string ⟨#[]⟩),p]∧h'=h:=by
 refine PCall.frz Ty.hb_39 ?_;have hc:p.cells=[p]:=by cases p<;>simp[oneC]at h1<;>rfl
 refine uG0 Tryz.func39 Tryz.ntmps39 Tryz.results39 Ty.hb_39 ?_;replace zz:=uu hc h1;repeat'(first|refine a_seq fun K hK=>?_|refine uR zz ?_|refine uT zz ?_|(refine uN hK ?_;clear hK)|apply zI)
 refine⟨?_,((Grow.refl h).new _).set (Nat.le_refl _) _⟩;simp only[FrzTo,FrzL];exact⟨_,rfl,rfl,rfl,rfl,rfl,rfl,hf _,trivial⟩
theorem dlistS_c(l:List Sx)(h:Heap):PCall Tryz.prog 39 [.imm 6 (Sx.rows l)] h fun r h'=>r= .agg (listM l).cells∧h'=h:=dlist_c rfl (fun _=>frz_imm (sxs_in _ _))
theorem dterm_c{h:Heap}{s:ByteArray}(hs:s.size≤9223372036854775807):PCall Tryz.prog 151 [sPV s] h fun r h'=>r= .sc (.bool (termB s))∧h'=h:=by
 have h1:=fun h:Heap=>fname_c (h:=h) hs;have h2:=fun h:Heap=>fvariable_c (h:=h) hs;unfold termB;generalize nameB s=a at h1⊢;generalize varB s=b at h2⊢;cases a with
 |true=>
  refine uG0 Tryz.func151 Tryz.ntmps151 Tryz.results151 Ty.hb_151 ?_;repeat'(first|refine a_seq fun K hK=>?_|refine uR trivial ?_|(refine uN hK ?_;clear hK)|apply zI)
  refine uU trivial (h1 _) ?_;repeat'(first|refine uT trivial ?_|(refine uN hK ?_;clear hK)|apply zI)
  all_goals simp only[Bool.true_or]
 |false=>
  refine uG0 Tryz.func151 Tryz.ntmps151 Tryz.results151 Ty.hb_151 ?_;repeat'(first|refine a_seq fun K hK=>?_|refine uR trivial ?_|(refine uN hK ?_;clear hK)|apply zI)
  refine uU trivial (h1 _) ?_;try apply zI
  refine uU trivial (h2 _) ?_;repeat'(first|refine uT trivial ?_|(refine uN hK ?_;clear hK)|apply zI)
  all_goals simp only[Bool.false_or]
theorem dalways_c{h:Heap}:PCall Tryz.prog 99 [] h fun r h'=>r= .agg andFm.cells∧h'=h:=by
 refine PCall.frz Ty.hb_99 ?_;refine uG0 Tryz.func99 Tryz.ntmps99 Tryz.results99 Ty.hb_99 ?_;repeat'(first|refine a_seq fun K hK=>?_|refine uR trivial ?_|refine uT trivial ?_|(refine uN hK ?_;clear hK)|apply zI)
 refine⟨?_,((Grow.refl h).new _).set (Nat.le_refl _) _⟩;simp only[andFm,opAnd,Fm.cells,pmRows,Ex.rows,Fm.rows,strRows,List.map_nil,FrzTo,FrzL];exact⟨_,rfl,rfl,rfl,.inr (.inl ⟨rfl,.inr rfl⟩),.inr (.inl ⟨rfl,.inr rfl⟩),.inr (.inl ⟨rfl,.inr rfl⟩),.inr (.inl ⟨rfl,.inr rfl⟩),trivial⟩
theorem wname_c{h:Heap}{id:Nat}{b:Bool}{s:ByteArray}(hs:s.size≤9223372036854775807)(hid:id<h.next)(ho:h.obj id=some (wO b)):
  PCall Tryz.prog 41 [.ptr id 0 0,sPV s] h fun r h'=>r= .agg (wordM s).cells∧h'=h.set id (wO (b||!nameB s)):=by
 refine PCall.frzX Ty.hb_41 ho (wO_in _ _) ?_;have h1:=fun h:Heap=>fname_c (h:=h) hs;have hw:=fun h:Heap=>dword_c (h:=h) (s:=s);have n1:(id=h.next)=False:=eq_false (by omega);have n2:(h.next=id)=False:=eq_false (by omega);generalize nameB s=a at h1⊢;have fin: ∀ (b':Bool)(o:AObj),FrzTo h.next (((h.new o).set id (wO b')).set h.next (.arr 6 [(wordM s).cells])) (.agg (wordM s).cells) (.agg (wordM s).cells)∧GrowX h id (wO b') (((h.new o).set id (wO b')).set h.next (.arr 6 [(wordM s).cells])):=fun b' o=>⟨by
  simp only[FrzTo];exact⟨_,rfl,sx_frz _ _ _⟩,(((GrowX.refl ho).new hid).put).set hid (Nat.le_refl _)⟩
 simp only[wordM,Sx.cells,Sx.rows]at hw fin⊢;cases b with
 |true=>
  refine uG0 Tryz.func41 Tryz.ntmps41 Tryz.results41 Ty.hb_41 ?_;repeat'(first|refine a_seq fun K hK=>?_|refine uR (uu ho (uu n1 n2)) ?_|(refine uN hK ?_;clear hK)|apply zI)
  refine uU (uu ho (uu n1 n2)) (hw _) ?_;repeat'(first|refine uT (uu ho (uu n1 n2)) ?_|(refine uN hK ?_;clear hK)|apply zI)
  exact fin _ _
 |false=>
  refine uG0 Tryz.func41 Tryz.ntmps41 Tryz.results41 Ty.hb_41 ?_;repeat'(first|refine a_seq fun K hK=>?_|refine uR (uu ho (uu n1 n2)) ?_|(refine uN hK ?_;clear hK)|apply zI)
  refine uU (uu ho (uu n1 n2)) (h1 _) ?_;repeat'(first|refine a_seq fun K hK=>?_|refine uR (uu ho (uu n1 n2)) ?_|(refine uN hK ?_;clear hK)|apply zI)
  refine uU (uu ho (uu n1 n2)) (hw _) ?_;repeat'(first|refine uT (uu ho (uu n1 n2)) ?_|(refine uN hK ?_;clear hK)|apply zI)
  exact fin _ _
theorem wformula_c{h:Heap}{id:Nat}{b:Bool}{f:Fm}(hok:f.ok)(hsm:f.small)(hid:id<h.next)(ho:h.obj id=some (wO b)):
  PCall Tryz.prog 100 [.ptr id 0 0,.agg f.cells] h fun r h'=>r= .agg (fmX f).cells∧h'=h.set id (wO (b||!validF f)):=by
 refine PCall.frzX Ty.hb_100 ho (wO_in _ _) ?_;have hW:=fun h:Heap=>fWrite_c hok hsm h;have n1:(id=h.next)=False:=eq_false (by omega);have n2:(h.next=id)=False:=eq_false (by omega);have n3:(id=h.next+1)=False:=eq_false (by omega);have n4:(h.next+1=id)=False:=eq_false (by omega);have hX:(if validF f then(PV.tup [.agg (fmW f).cells,.sc .nilIface])else .tup [.agg zeroSx.cells,errV 2])= .tup [.agg (fmX f).cells,if validF f then .sc .nilIface else errV 2]:=by
  unfold fmX;cases validF f<;>rfl
 rw[hX]at hW;generalize validF f=v at hW⊢;generalize fmX f=X at hW⊢;obtain⟨ki,va,li,co,te,ks⟩:=X;obtain⟨gop,gna,gar,gpa,gex,gki⟩:=f;have fin: ∀ (b':Bool)(o o1 o2:AObj),FrzTo h.next ((((((h.new o).new o1).set (h.next+1) o2).set id (wO b')).set h.next (.arr 6 [(Sx.mk ki va li co te ks).cells]))) (.agg (Sx.mk ki va li co te ks).cells) (.agg (Sx.mk ki va li co te ks).cells)∧GrowX h id (wO b') ((((h.new o).new o1).set (h.next+1) o2).set id (wO b')|>.set h.next (.arr 6 [(Sx.mk ki va li co te ks).cells])):=fun b' o o1 o2=>⟨by
  simp only[FrzTo];exact⟨_,rfl,sx_frz _ _ _⟩,(((((GrowX.refl ho).new hid).new hid).set hid (by omega)).put).set hid (Nat.le_refl _)⟩
 simp only[Sx.cells,Fm.cells]at hW fin⊢;cases v<;>simp only[if_true,if_false,Bool.false_eq_true,errV]at hW<;>cases b;all_goals
  refine uG0 Tryz.func100 Tryz.ntmps100 Tryz.results100 Ty.hb_100 ?_;replace zz:=uu ho (uu n1 (uu n2 (uu n3 n4)));repeat'(first|refine a_seq fun K hK=>?_|refine uR zz ?_|(refine uN hK ?_;clear hK)|apply zI)
  refine uU zz (hW _) ?_;replace zz:=uu ho (uu n1 (uu n2 (uu n3 (uu n4 @nsucc))));repeat'(first|refine a_seq fun K hK=>?_|refine uR zz ?_|refine uT zz ?_|(refine uN hK ?_;clear hK)|apply zI)
  exact fin _ _ _ _
theorem wparams_c{h:Heap}{id:Nat}{b vars:Bool}{l:List Pm}(hl:l.length≤1048576)(hok: ∀ p∈l,p.ok)(hid:id<h.next)(ho:h.obj id=some (wO b)):
  PCall Tryz.prog 43 [.ptr id 0 0,.imm 2 (pmRows l),.sc (.bool vars)] h fun r h'=>r= .imm 6 (Sx.rows (paramsW l))∧h'=h.set id (wO (b||!(l.all (parB vars)))):=by
 refine PCall.frzX Ty.hb_43 ho (wO_in _ _) ?_;have hll:=pmRows_len l;have hWP:=fun h:Heap=>writeParams_c hl h;generalize hF:(b||!(l.all (parB vars)))=F;refine uG0 Tryz.func43 Tryz.ntmps43 Tryz.results43 Ty.hb_43 ?_;repeat'(first|refine a_seq fun K hK=>?_|refine a_block ?_|refine uR hll ?_|(refine uN hK ?_;clear hK)|apply zI)
 refine a_loop (fun c S h'=>S 0= .ptr id 0 0∧S 1= .imm 2 (pmRows l)∧S 2= .sc (.bool vars)∧S 10= .imm 2 (pmRows l)∧S 11= .sc (.int .i64 l.length)∧ ∃ (k:Nat)(b':Bool),S 12= .sc (.int .i64 k)∧k≤l.length∧c=l.length-k∧GrowX h id (wO b') h'∧F=(b'||!((l.drop k).all (parB vars)))) l.length ?_ ?_
 ·simp only[Ty.w,simprocAttr];exact⟨0,b,rfl,by omega,rfl,GrowX.refl ho,by rw[List.drop_zero];exact hF.symm⟩
 ·try clear zz
  clear hF;rintro c S h' ⟨g0,g1,g2,g10,g11,k,b',g12,hkl,rfl,hG,hinv⟩;by_cases hlt:k<l.length
  ·have hd:decide ((k:Int)<(l.length:Int))=true:=(by simp;omega);have w7:IntKind.i64.wrap ((k:Int)+1)=k+1:=(by rw[wrap64 (by omega) (by omega)]);obtain⟨p,hx⟩: ∃ p,l[k]? =some p:=⟨_,List.getElem?_eq_getElem hlt⟩;rw[drop_of_get hx,List.all_cons]at hinv;have hr:=pmRows_get hx;have hpo:=hok p (List.mem_of_getElem? hx);have hs1:p.name.size≤9223372036854775807:=(by have:=hpo.1;unfold bigN at this;omega);have hs2:p.type.size≤9223372036854775807:=(by have:=hpo.2;unfold bigN at this;omega);have c1:=fun h:Heap=>fname_c (h:=h) hs1;have c2:=fun h:Heap=>fvariable_c (h:=h) hs1;have c3:=fun h:Heap=>fname_c (h:=h) hs2;have hno:=hG.at_;have hle:=hG.le;have n1:(id=h'.next)=False:=eq_false (by omega);have n2:(h'.next=id)=False:=eq_false (by omega);have hpar:parB vars p=((bif vars then varB p.name else nameB p.name)&&(bEq p.type opObj||nameB p.type)):=rfl;rw[hpar]at hinv;generalize nameB p.name=q1 at c1 hinv;generalize varB p.name=q2 at c2 hinv;generalize nameB p.type=q3 at c3 hinv;have hne:(p.type.data.toList==opObj.data.toList)=bEq p.type opObj:=rfl;generalize bEq p.type opObj=q4 at hinv hne;have e1:(p.type.data.toList=[111,98,106,101,99,116])=(q4=true):=by
    rw[← hne];exact propext ⟨fun e=>by rw[e];try rfl,fun e=>eq_of_beq e⟩
   have e2:(p.type.data.toList==[111,98,106,101,99,116])=q4:=hne;(try clear zz);clear hne;have hG2: ∀ (z o:AObj)(b2:Bool),GrowX h id (wO b2) (((h'.new z).set h'.next o).set id (wO b2)):=fun z o b2=>((hG.new hid).set hid hle).put;have stepF: ∀ b2:Bool,b2=(b'||!((bif vars then q2 else q1)&&(q4||q3)))→F=(b2||!((l.drop (k+1)).all (parB vars))):=by
    intro b2 e;rw[hinv,e];cases b'<;>cases(bif vars then q2 else q1)<;>cases q4<;>cases q3<;>simp
   obtain⟨pn,pt⟩:=p;simp only at hr e1 e2;(try clear zz);clear hinv hpar hx hpo hs1 hs2;cases vars with
   |false=>
    simp only[cond_false]at stepF;cases b' with
    |true=>
     replace zz:=uu g0 (uu g1 (uu g2 (uu g10 (uu g11 (uu g12 (uu hll (uu hd (uu hr (uu hno (uu n1 n2))))))))));(repeat'(first|refine a_seq fun K hK=>?_|refine uR zz ?_|refine uK ?_|refine uC1 zz ?_|(refine uN hK ?_;clear hK)|apply zI));replace zz:=uu g0 (uu g1 (uu g2 (uu g10 (uu g11 (uu g12 (uu hno (uu n1 n2)))))));refine uU zz (c1 _) ?_;(repeat'(first|refine a_seq fun K hK=>?_|((first|refine a_regionS ?_|refine a_region (fun K hK=>?_));simp(maxSteps:=2000000) only[Ty.w,simprocAttr,g0,g1,g2,g10,g11,g12,hno,n1,n2,e1,e2,bne,w7,Bool.not_true,Bool.not_false])|(refine a_skip ?_;(try simp only[pst0,simprocAttr]))|(refine a_cond _ (by(try simp(maxSteps:=2000000) only[Ty.w,simprocAttr,g0,g1,g2,g10,g11,g12,hno,n1,n2,e1,e2,bne,w7,Bool.not_true,Bool.not_false]);rfl) (fun hb=>?_) (fun hb=>?_)<;>(try simp only[hb0,decide_eq_true_eq,decide_eq_false_iff_not,simprocAttr]at hb)<;>(try(exfalso;omega)))|(refine hK _ _ ?_;clear hK;(try simp only[pst0,simprocAttr]))));exact⟨l.length-(k+1),by omega,k+1,true,by simp,by omega,rfl,hG2 _ _ _,stepF _ (by simp)⟩
    |false=>
     cases q1 with
     |false=>
      replace zz:=uu g0 (uu g1 (uu g2 (uu g10 (uu g11 (uu g12 (uu hll (uu hd (uu hr (uu hno (uu n1 n2))))))))));(repeat'(first|refine a_seq fun K hK=>?_|refine uR zz ?_|refine uK ?_|refine uC1 zz ?_|(refine uN hK ?_;clear hK)|apply zI));replace zz:=uu g0 (uu g1 (uu g2 (uu g10 (uu g11 (uu g12 (uu hno (uu n1 n2)))))));refine uU zz (c1 _) ?_;(repeat'(first|refine a_seq fun K hK=>?_|((first|refine a_regionS ?_|refine a_region (fun K hK=>?_));simp(maxSteps:=2000000) only[Ty.w,simprocAttr,g0,g1,g2,g10,g11,g12,hno,n1,n2,e1,e2,bne,w7,Bool.not_true,Bool.not_false])|(refine a_skip ?_;(try simp only[pst0,simprocAttr]))|(refine a_cond _ (by(try simp(maxSteps:=2000000) only[Ty.w,simprocAttr,g0,g1,g2,g10,g11,g12,hno,n1,n2,e1,e2,bne,w7,Bool.not_true,Bool.not_false]);rfl) (fun hb=>?_) (fun hb=>?_)<;>(try simp only[hb0,decide_eq_true_eq,decide_eq_false_iff_not,simprocAttr]at hb)<;>(try(exfalso;omega)))|(refine hK _ _ ?_;clear hK;(try simp only[pst0,simprocAttr]))));exact⟨l.length-(k+1),by omega,k+1,true,by simp,by omega,rfl,hG2 _ _ _,stepF _ (by simp)⟩
     |true=>
      cases q4 with
      |true=>
       simp only[eq_self]at e1;replace zz:=uu g0 (uu g1 (uu g2 (uu g10 (uu g11 (uu g12 (uu hll (uu hd (uu hr (uu hno (uu n1 n2))))))))));(repeat'(first|refine a_seq fun K hK=>?_|refine uR zz ?_|refine uK ?_|refine uC1 zz ?_|(refine uN hK ?_;clear hK)|apply zI));replace zz:=uu g0 (uu g1 (uu g2 (uu g10 (uu g11 (uu g12 (uu hno (uu n1 n2)))))));refine uU zz (c1 _) ?_;(repeat'(first|refine a_seq fun K hK=>?_|((first|refine a_regionS ?_|refine a_region (fun K hK=>?_));simp(maxSteps:=2000000) only[Ty.w,simprocAttr,g0,g1,g2,g10,g11,g12,hno,n1,n2,e1,e2,bne,w7,Bool.not_true,Bool.not_false])|(refine a_skip ?_;(try simp only[pst0,simprocAttr]))|(refine a_cond _ (by(try simp(maxSteps:=2000000) only[Ty.w,simprocAttr,g0,g1,g2,g10,g11,g12,hno,n1,n2,e1,e2,bne,w7,Bool.not_true,Bool.not_false]);rfl) (fun hb=>?_) (fun hb=>?_)<;>(try simp only[hb0,decide_eq_true_eq,decide_eq_false_iff_not,simprocAttr]at hb)<;>(try(exfalso;omega)))|(refine hK _ _ ?_;clear hK;(try simp only[pst0,simprocAttr]))));exact⟨l.length-(k+1),by omega,k+1,false,by simp,by omega,rfl,hG2 _ _ _,stepF _ (by simp)⟩
      |false=>
       simp only[Bool.false_eq_true]at e1;replace zz:=uu g0 (uu g1 (uu g2 (uu g10 (uu g11 (uu g12 (uu hll (uu hd (uu hr (uu hno (uu n1 n2))))))))));(repeat'(first|refine a_seq fun K hK=>?_|refine uR zz ?_|refine uK ?_|refine uC1 zz ?_|(refine uN hK ?_;clear hK)|apply zI));replace zz:=uu g0 (uu g1 (uu g2 (uu g10 (uu g11 (uu g12 (uu hno (uu n1 n2)))))));refine uU zz (c1 _) ?_;(repeat'(first|refine a_seq fun K hK=>?_|((first|refine a_regionS ?_|refine a_region (fun K hK=>?_));simp(maxSteps:=2000000) only[Ty.w,simprocAttr,g0,g1,g2,g10,g11,g12,hno,n1,n2,e1,e2,bne,w7,Bool.not_true,Bool.not_false])|(refine a_skip ?_;(try simp only[pst0,simprocAttr]))|(refine a_cond _ (by(try simp(maxSteps:=2000000) only[Ty.w,simprocAttr,g0,g1,g2,g10,g11,g12,hno,n1,n2,e1,e2,bne,w7,Bool.not_true,Bool.not_false]);rfl) (fun hb=>?_) (fun hb=>?_)<;>(try simp only[hb0,decide_eq_true_eq,decide_eq_false_iff_not,simprocAttr]at hb)<;>(try(exfalso;omega)))|(refine hK _ _ ?_;clear hK;(try simp only[pst0,simprocAttr]))));refine uU zz (c3 _) ?_;(repeat'(first|(refine a_regionS ?_;simp(maxSteps:=2000000) only[Ty.w,simprocAttr,g0,g1,g2,g10,g11,g12,hno,n1,n2,e1,e2,bne,w7,Bool.not_true,Bool.not_false])|(refine hK _ _ ?_;clear hK;(try simp only[pst0,simprocAttr]))));exact⟨l.length-(k+1),by omega,k+1,!q3,by simp,by omega,rfl,hG2 _ _ _,stepF _ (by simp)⟩
   |true=>
    simp only[cond_true]at stepF;cases b' with
    |true=>
     replace zz:=uu g0 (uu g1 (uu g2 (uu g10 (uu g11 (uu g12 (uu hll (uu hd (uu hr (uu hno (uu n1 n2))))))))));(repeat'(first|refine a_seq fun K hK=>?_|refine uR zz ?_|refine uK ?_|refine uC1 zz ?_|(refine uN hK ?_;clear hK)|apply zI));replace zz:=uu g0 (uu g1 (uu g2 (uu g10 (uu g11 (uu g12 (uu hno (uu n1 n2)))))));refine uU zz (c1 _) ?_;(repeat'(first|refine a_seq fun K hK=>?_|(refine a_regionS ?_;simp(maxSteps:=2000000) only[Ty.w,simprocAttr,g0,g1,g2,g10,g11,g12,hno,n1,n2,e1,e2,bne,w7,Bool.not_true,Bool.not_false])|(refine a_cond _ (by(try simp(maxSteps:=2000000) only[Ty.w,simprocAttr,g0,g1,g2,g10,g11,g12,hno,n1,n2,e1,e2,bne,w7,Bool.not_true,Bool.not_false]);rfl) (fun hb=>?_) (fun hb=>?_)<;>(try simp only[hb0,decide_eq_true_eq,decide_eq_false_iff_not,simprocAttr]at hb)<;>(try(exfalso;omega)))|(refine hK _ _ ?_;clear hK;(try simp only[pst0,simprocAttr]))));refine uU zz (c2 _) ?_;(repeat'(first|((first|refine a_regionS ?_|refine a_region (fun K hK=>?_));simp(maxSteps:=2000000) only[Ty.w,simprocAttr,g0,g1,g2,g10,g11,g12,hno,n1,n2,e1,e2,bne,w7,Bool.not_true,Bool.not_false])|(refine hK _ _ ?_;clear hK;(try simp only[pst0,simprocAttr]))));exact⟨l.length-(k+1),by omega,k+1,true,by simp,by omega,rfl,hG2 _ _ _,stepF _ (by simp)⟩
    |false=>
     cases q2 with
     |false=>
      replace zz:=uu g0 (uu g1 (uu g2 (uu g10 (uu g11 (uu g12 (uu hll (uu hd (uu hr (uu hno (uu n1 n2))))))))));(repeat'(first|refine a_seq fun K hK=>?_|refine uR zz ?_|refine uK ?_|refine uC1 zz ?_|(refine uN hK ?_;clear hK)|apply zI));replace zz:=uu g0 (uu g1 (uu g2 (uu g10 (uu g11 (uu g12 (uu hno (uu n1 n2)))))));refine uU zz (c1 _) ?_;(repeat'(first|refine a_seq fun K hK=>?_|(refine a_regionS ?_;simp(maxSteps:=2000000) only[Ty.w,simprocAttr,g0,g1,g2,g10,g11,g12,hno,n1,n2,e1,e2,bne,w7,Bool.not_true,Bool.not_false])|(refine a_cond _ (by(try simp(maxSteps:=2000000) only[Ty.w,simprocAttr,g0,g1,g2,g10,g11,g12,hno,n1,n2,e1,e2,bne,w7,Bool.not_true,Bool.not_false]);rfl) (fun hb=>?_) (fun hb=>?_)<;>(try simp only[hb0,decide_eq_true_eq,decide_eq_false_iff_not,simprocAttr]at hb)<;>(try(exfalso;omega)))|(refine hK _ _ ?_;clear hK;(try simp only[pst0,simprocAttr]))));refine uU zz (c2 _) ?_;(repeat'(first|((first|refine a_regionS ?_|refine a_region (fun K hK=>?_));simp(maxSteps:=2000000) only[Ty.w,simprocAttr,g0,g1,g2,g10,g11,g12,hno,n1,n2,e1,e2,bne,w7,Bool.not_true,Bool.not_false])|(refine hK _ _ ?_;clear hK;(try simp only[pst0,simprocAttr]))));exact⟨l.length-(k+1),by omega,k+1,true,by simp,by omega,rfl,hG2 _ _ _,stepF _ (by simp)⟩
     |true=>
      cases q4 with
      |true=>
       simp only[eq_self]at e1;replace zz:=uu g0 (uu g1 (uu g2 (uu g10 (uu g11 (uu g12 (uu hll (uu hd (uu hr (uu hno (uu n1 n2))))))))));(repeat'(first|refine a_seq fun K hK=>?_|refine uR zz ?_|refine uK ?_|refine uC1 zz ?_|(refine uN hK ?_;clear hK)|apply zI));replace zz:=uu g0 (uu g1 (uu g2 (uu g10 (uu g11 (uu g12 (uu hno (uu n1 n2)))))));refine uU zz (c1 _) ?_;(repeat'(first|refine a_seq fun K hK=>?_|(refine a_regionS ?_;simp(maxSteps:=2000000) only[Ty.w,simprocAttr,g0,g1,g2,g10,g11,g12,hno,n1,n2,e1,e2,bne,w7,Bool.not_true,Bool.not_false])|(refine a_cond _ (by(try simp(maxSteps:=2000000) only[Ty.w,simprocAttr,g0,g1,g2,g10,g11,g12,hno,n1,n2,e1,e2,bne,w7,Bool.not_true,Bool.not_false]);rfl) (fun hb=>?_) (fun hb=>?_)<;>(try simp only[hb0,decide_eq_true_eq,decide_eq_false_iff_not,simprocAttr]at hb)<;>(try(exfalso;omega)))|(refine hK _ _ ?_;clear hK;(try simp only[pst0,simprocAttr]))));refine uU zz (c2 _) ?_;(repeat'(first|((first|refine a_regionS ?_|refine a_region (fun K hK=>?_));simp(maxSteps:=2000000) only[Ty.w,simprocAttr,g0,g1,g2,g10,g11,g12,hno,n1,n2,e1,e2,bne,w7,Bool.not_true,Bool.not_false])|(refine hK _ _ ?_;clear hK;(try simp only[pst0,simprocAttr]))));exact⟨l.length-(k+1),by omega,k+1,false,by simp,by omega,rfl,hG2 _ _ _,stepF _ (by simp)⟩
      |false=>
       simp only[Bool.false_eq_true]at e1;replace zz:=uu g0 (uu g1 (uu g2 (uu g10 (uu g11 (uu g12 (uu hll (uu hd (uu hr (uu hno (uu n1 n2))))))))));(repeat'(first|refine a_seq fun K hK=>?_|refine uR zz ?_|refine uK ?_|refine uC1 zz ?_|(refine uN hK ?_;clear hK)|apply zI));replace zz:=uu g0 (uu g1 (uu g2 (uu g10 (uu g11 (uu g12 (uu hno (uu n1 n2)))))));refine uU zz (c1 _) ?_;(repeat'(first|refine a_seq fun K hK=>?_|(refine a_regionS ?_;simp(maxSteps:=2000000) only[Ty.w,simprocAttr,g0,g1,g2,g10,g11,g12,hno,n1,n2,e1,e2,bne,w7,Bool.not_true,Bool.not_false])|(refine a_cond _ (by(try simp(maxSteps:=2000000) only[Ty.w,simprocAttr,g0,g1,g2,g10,g11,g12,hno,n1,n2,e1,e2,bne,w7,Bool.not_true,Bool.not_false]);rfl) (fun hb=>?_) (fun hb=>?_)<;>(try simp only[hb0,decide_eq_true_eq,decide_eq_false_iff_not,simprocAttr]at hb)<;>(try(exfalso;omega)))|(refine hK _ _ ?_;clear hK;(try simp only[pst0,simprocAttr]))));refine uU zz (c2 _) ?_;(repeat'(first|(refine a_region (fun K hK=>?_);simp(maxSteps:=2000000) only[Ty.w,simprocAttr,g0,g1,g2,g10,g11,g12,hno,n1,n2,e1,e2,bne,w7,Bool.not_true,Bool.not_false])|(refine hK _ _ ?_;clear hK;(try simp only[pst0,simprocAttr]))));refine uU zz (c3 _) ?_;(repeat'(first|(refine a_regionS ?_;simp(maxSteps:=2000000) only[Ty.w,simprocAttr,g0,g1,g2,g10,g11,g12,hno,n1,n2,e1,e2,bne,w7,Bool.not_true,Bool.not_false])|(refine hK _ _ ?_;clear hK;(try simp only[pst0,simprocAttr]))));exact⟨l.length-(k+1),by omega,k+1,!q3,by simp,by omega,rfl,hG2 _ _ _,stepF _ (by simp)⟩
  ·have hd:decide ((k:Int)<(l.length:Int))=false:=(by simp;omega);rw[List.drop_eq_nil_of_le (by omega),List.all_nil,Bool.not_true,Bool.or_false]at hinv;subst hinv;replace zz:=uu g0 (uu g1 (uu g2 (uu g10 (uu g11 (uu g12 (uu hll hd))))));(repeat'(first|refine a_seq fun K hK=>?_|refine uR zz ?_|refine uX ?_|refine uC1 zz ?_|(refine uN hK ?_;clear hK)|(clear hK;refine uN hK ?_;clear hK)|apply zI));replace zz:=uu g0 (uu g1 (uu g2 (uu g10 (uu g11 g12))));refine uU zz (hWP _) ?_;(repeat'(first|refine uT (uu g0 (uu g1 g2)) ?_|(refine uN hK ?_;clear hK)|apply zI));exact⟨frz_imm (sxs_in _ _),hG⟩
end Go.Proofs.YtblgchkahpgdjaaGreat
namespace Go.Proofs.YtblgchkahpgdjaaGreat
open Go.AM
set_option maxHeartbeats 8000000
set_option maxRecDepth 20000
theorem d9word_c{h:Heap}{s:ByteArray}:PCall Tryz.prog 103 [sPV s] h fun r h'=>r= .agg (wordM s).cells∧h'=h:=by
 refine PCall.frz Ty.hb_103 ?_;refine uG0 Tryz.func103 Tryz.ntmps103 Tryz.results103 Ty.hb_103 ?_;repeat'(first|refine a_seq fun K hK=>?_|refine uR trivial ?_|refine uT trivial ?_|(refine uN hK ?_;clear hK)|apply zI)
 refine⟨?_,((Grow.refl h).new _).set (Nat.le_refl _) _⟩;simp only[wordM,Sx.cells,Sx.rows,FrzTo,FrzL];exact⟨_,rfl,rfl,rfl,rfl,rfl,rfl,.inr (.inl ⟨rfl,.inr rfl⟩),trivial⟩
theorem d9list_c{s:ByteArray}{l:List Sx}(hl:l.length≤1099511627776)(h:Heap):PCall Tryz.prog 86 [sPV s,.imm 6 (Sx.rows l)] h fun r h'=>r= .agg (listM (wordM s::l)).cells∧h'=h:=by
 refine PCall.frz Ty.hb_86 ?_;have hll:=Sx.rows_len l;have hwd: ∀ (h:Heap),PCall Tryz.prog 103 [sPV s] h fun r h'=>r= .agg (wordM s).cells∧h'=h:=fun h=>d9word_c;simp only[wordM,Sx.cells,Sx.rows]at hwd;have hbb:(1+l.length)*72≤140737488355328:=by omega
 have n1:(h.next=h.next+1+1)=False:=eq_false (by omega);refine uG (ow:=fun t=>t==7) (wf:=fun _=>false) Tryz.func86 Tryz.ntmps86 Tryz.results86 Ty.hb_86 ?_;repeat'(first|refine a_seq fun K hK=>?_|refine uR trivial ?_|(refine uN hK ?_;clear hK)|apply zI)
 refine uU trivial (hwd _) ?_;replace zz:=uu hll (uu hbb (uu n1 @nsucc));repeat'(first|refine uT zz ?_|(refine uN hK ?_;clear hK)|(rw[if_pos];rotate_left 1;omega;simp(maxSteps:=2000000) only[Ty.w,simprocAttr,hll,hbb,n1,nsucc])|apply zI)
 refine⟨?_,(((((Grow.refl h).new _).new _).kill (show h.next≤h.next+1 by omega)).new _).set (Nat.le_refl _) _⟩;simp only[listM,Sx.cells,FrzTo,FrzL];refine⟨_,rfl,rfl,rfl,rfl,rfl,rfl,.inr (.inr ⟨h.next+1+1,0,1+l.length,Sx.rows (wordM s::l),rfl,by omega,?_,?_,?_⟩),trivial⟩
 ·rw [obj_set (by omega)];simp only[Heap.new,Heap.kill,if_true,Sx.rows,wordM,Sx.cells]
 ·rw [Sx.rows_len];simp;omega
 ·rw [List.drop_zero,List.take_of_length_le (by rw[Sx.rows_len];simp;omega)];exact sxs_frz _ _ _
def tru(f:Fm):Bool:=match f with| .mk op _ _ _ _ kids=>bEq op opAnd&&(((Fm.rows kids).length:Int)==0)
theorem rtrue_c(f:Fm)(h:Heap):PCall Tryz.prog 106 [.agg f.cells] h fun r h'=>r= .sc (.bool (tru f))∧h'=h:=by
 refine PCall.quiet Ty.hb_106 ?_;obtain⟨gop,gna,gar,gpa,gex,gki⟩:=f;simp only[Fm.cells,tru];have e0:bEq gop opAnd=(gop.data.toList==[97,110,100]):=rfl;rw[e0];cases e1:(gop.data.toList==[97,110,100])with
 |false=>
  refine uG0 Tryz.func106 Tryz.ntmps106 Tryz.results106 Ty.hb_106 ?_;repeat'(first|refine a_seq fun K hK=>?_|refine uR e1 ?_|refine uT e1 ?_|(refine uN hK ?_;clear hK)|apply zI)
  all_goals first|exact Grow.refl _|exact⟨rfl,Grow.refl _⟩
 |true=>
  refine uG0 Tryz.func106 Tryz.ntmps106 Tryz.results106 Ty.hb_106 ?_;repeat'(first|refine a_seq fun K hK=>?_|refine uR e1 ?_|refine uT e1 ?_|(refine uN hK ?_;clear hK)|apply zI)
  all_goals first|exact Grow.refl _|exact⟨rfl,Grow.refl _⟩
def ch1W(c:Ch):Sx:=bif c.kind==2 then listM [wordM opNot,fmW (atF c)]else bif c.kind==3 then listM [wordM opAsg,fmW (atF c),exW c.value]else bif c.kind==4 then listM [wordM opInc,fmW (atF c),exW c.value]else bif c.kind==5 then listM [wordM opDec,fmW (atF c),exW c.value]else fmW (atF c)
def ch2W(c:Ch):Sx:=bif tru c.cond then ch1W c else listM [wordM opWhen,fmW c.cond,ch1W c]
def chW(c:Ch):Sx:=bif c.params.isEmpty then ch2W c else listM [wordM opAll,listM (paramsW c.params),ch2W c]
theorem sxA_frz(n:Nat)(H:Heap)(X:Sx):FrzTo n H (.agg X.cells) (.agg X.cells):=by
 obtain⟨k,v,l,c,t,ks⟩:=X;simp only[Sx.cells,FrzTo,FrzL];exact⟨_,rfl,rfl,rfl,rfl,rfl,rfl,.inl ⟨rfl,sxs_in _ _⟩,trivial⟩
structure SgI(h:Heap)(X:Sx)(H:Heap):Prop where
 grow:Grow h H
 nx:h.next+1<H.next
 res:H.obj h.next=some (.arr 6 [[.sc (.int .i64 0),.sc (.int .i64 0),.sc (.int .i64 0),.sc (.int .i64 0),.sc (.string ⟨#[]⟩),.sc (.slice none 0 0)]])
 at_:H.obj (h.next+1)=some (.arr 6 [X.cells])
theorem SgI.put{h H:Heap}{X Y:Sx}(i:SgI h X H):SgI h Y (H.set (h.next+1) (.arr 6 [Y.cells])):=
 ⟨i.grow.set (by omega) _,i.nx,by simp only[Heap.set];rw[if_neg (by omega)];exact i.res,by simp only[Heap.set,if_true]⟩
theorem single_c{c:Ch}(hR:chR c=true)(hok:c.ok)(hcs:c.cond.small)(hvs:c.value.small)(hal:c.args.length≤1048576)(hpl:c.params.length≤1048576)(h:Heap):PCall Tryz.prog 85 [.agg (chRow c)] h fun r h'=>r= .agg (chW c).cells∧h'=h:=by
 refine PCall.frz Ty.hb_85 ?_;simp only[chR,Bool.and_eq_true,Bool.not_eq_true']at hR;obtain⟨k1,k2,r3,r4,r5,r6⟩:=hR;have hat:=fun h:Heap=>PCall.nz (rwriteF_c (atF c) ⟨hal,by simp,trivial,by simp,trivial⟩ r5 h) (xs:=[.agg [sPV opAtom,sPV c.name,.imm 1 (strRows c.args),.sc (.slice none 0 0),.sc (.slice none 0 0),.sc (.slice none 0 0)]]) (nz_cons (nz_agg (nz_cons (Nz.refl _) (nz_cons (Nz.refl _) (nz_cons (Nz.refl _) (nz_cons nz_nil (nz_cons nz_nil (nz_cons nz_nil (NzL.refl _)))))))) (NzL.refl _));have hcw:=fun h:Heap=>rwriteF_c c.cond hcs r4 h;have htr:=fun h:Heap=>rtrue_c c.cond h;have hex:decide (c.kind≤2)=false→ ∀ h:Heap,PCall Tryz.prog 82 [.agg c.value.cells] h fun r h'=>r= .agg (exW c.value).cells∧h'=h:=fun hk h=>rwriteE_c c.value hvs (by rw[hk]at r6;exact r6) h;have hwp:=fun h:Heap=>rwriteParams_c (l:=c.params) hpl h;have hl2:=fun(s:ByteArray)(X:Sx)(h:Heap)=>d9list_c (s:=s) (l:=[X]) (by simp) h;have hl3:=fun(s:ByteArray)(X Y:Sx)(h:Heap)=>d9list_c (s:=s) (l:=[X,Y]) (by simp) h;generalize hF:chW c=F;unfold chW at hF;unfold ch2W at hF;try clear zz
 clear r3 r4 r5 r6 hok hcs hvs hal;generalize fmW c.cond=X2 at hcw hF;have hc1:ch1W c=bif c.kind==2 then listM [wordM opNot,fmW (atF c)]else bif c.kind==3 then listM [wordM opAsg,fmW (atF c),exW c.value]else bif c.kind==4 then listM [wordM opInc,fmW (atF c),exW c.value]else bif c.kind==5 then listM [wordM opDec,fmW (atF c),exW c.value]else fmW (atF c):=rfl
 generalize ch1W c=X1 at hF hc1;generalize fmW (atF c)=X0 at hat hc1;generalize exW c.value=E at hex hc1;generalize paramsW c.params=L at*;generalize tru c.cond=tb at*;have hpe:decide ((0:Int)<((pmRows c.params).length:Int))=!c.params.isEmpty:=by
  cases c.params<;>simp[pmRows]<;>omega
 generalize c.params.isEmpty=pe at hF hpe;obtain⟨kind,P,⟨gop,gna,gar,gpa,gex,gki⟩,nm,aa,⟨eop,ena,en,ear,eki⟩⟩:=c;simp only at hc1 k1 k2 hex hwp hat hpe;simp only[Fm.cells,Ex.cells,opAtom,sPV]at hcw htr hex hat;simp only[chRow,Fm.cells,Ex.cells,List.cons_append,List.nil_append];generalize pmRows P=PR at*;obtain⟨ek,ev,el,ec,et,es⟩:=E;obtain⟨ck,cv,cl,cc,ct,cs⟩:=X2;obtain⟨ak,av,al,ac,at_,as_⟩:=X0;simp only[Sx.cells]at hcw hex hat;refine uG (ow:=fun t=>t==3) (wf:=fun _=>false) Tryz.func85 Tryz.ntmps85 Tryz.results85 Ty.hb_85 ?_;repeat'(first|with_reducible refine a_holdR 2 ?_|refine a_seq fun K hK=>?_|refine uR trivial ?_|(refine uN hK ?_;clear hK)|apply zI)
 refine uU trivial (hat _) ?_;repeat'(first|with_reducible refine a_holdR 2 ?_|refine a_seq fun K hK=>?_|(refine uN hK ?_;clear hK)|apply zI)
 refine⟨?_⟩;refine a_genX (fun S H=>S 1= .cptr [.sc (.int .i64 kind),.imm 2 PR,sPV gop,sPV gna,.imm 1 (strRows gar),.imm 2 (pmRows gpa),.imm 5 (Ex.rows gex),.imm 6 (Fm.rows gki),sPV nm,.imm 1 (strRows aa),sPV eop,sPV ena,.sc (.int .i64 en),.imm 1 (strRows ear),.imm 5 (Ex.rows eki)]∧S 2= .ptr h.next 0 0∧S 3= .ptr (h.next+1) 0 0∧SgI h (.mk ak av al ac at_ as_) H) ⟨by simp only[Ty.w,simprocAttr],by simp only[Ty.w,simprocAttr],by simp only[Ty.w,simprocAttr],⟨(((Grow.refl h).new _).new _).set (by omega) _,by simp[Heap.new,Heap.set],by simp[Heap.new,Heap.set],by simp[Heap.new,Heap.set,Sx.cells]⟩⟩ ?_;try clear zz
 clear hat;rintro S H ⟨s1,s2,s3,hI⟩;refine a_cutK (fun S H=>S 1= .cptr [.sc (.int .i64 kind),.imm 2 PR,sPV gop,sPV gna,.imm 1 (strRows gar),.imm 2 (pmRows gpa),.imm 5 (Ex.rows gex),.imm 6 (Fm.rows gki),sPV nm,.imm 1 (strRows aa),sPV eop,sPV ena,.sc (.int .i64 en),.imm 1 (strRows ear),.imm 5 (Ex.rows eki)]∧S 2= .ptr h.next 0 0∧S 3= .ptr (h.next+1) 0 0∧SgI h X1 H) ?_ ?_
 ·have hat2:=hI.at_;simp only[Sx.cells]at hat2;try clear zz
  clear hcw htr hwp hF hpe hK;cases q2:(kind==2)with
  |true=>
   simp only[q2,cond_true,cond_false]at hc1;subst hc1;have hq:=hl2 opNot (.mk ak av al ac at_ as_);simp only[wordM,opNot,listM,Sx.cells,Sx.rows]at hq;replace zz:=uu s1 (uu s2 (uu s3 (uu hat2 q2)));(repeat'(first|refine a_seq fun K hK=>?_|refine a_block ?_|refine uR zz ?_|refine uQ zz fun K hK=>?_|(refine uN hK ?_;clear hK)|apply zI));refine uU zz (hq _) ?_;(repeat'(first|(refine uN hK ?_;clear hK)|apply zI));first|exact hI.put|exact⟨by simp only[Ty.w,simprocAttr,s1],by simp only[Ty.w,simprocAttr,s2],by simp only[Ty.w,simprocAttr,s3],hI.put⟩
  |false=>
   simp only[q2,cond_false]at hc1;cases q3:(kind==3)with
   |true=>
    simp only[q3,cond_true,cond_false]at hc1;subst hc1;have hq:=hl3 opAsg (.mk ak av al ac at_ as_) (.mk ek ev el ec et es);have hex:=hex (by simp at q3⊢;omega);simp only[wordM,opAsg,listM,Sx.cells,Sx.rows]at hq;replace zz:=uu s1 (uu s2 (uu s3 (uu hat2 (uu q2 q3))));(repeat'(first|refine a_seq fun K hK=>?_|refine a_block ?_|refine uR zz ?_|refine uE zz fun K hK=>?_|(refine uN hK ?_;clear hK)|apply zI));(first|refine uV zz (hex _) ?_|refine uA zz (hex _) ?_);(try apply zI);(first|refine uV zz (hq _) ?_|refine uA zz (hq _) ?_);(repeat'(first|(refine uN hK ?_;clear hK)|refine uB zz ?_|apply zI));first|exact hI.put|exact⟨by simp only[Ty.w,simprocAttr,s1],by simp only[Ty.w,simprocAttr,s2],by simp only[Ty.w,simprocAttr,s3],hI.put⟩
   |false=>
    simp only[q3,cond_false]at hc1;cases q4:(kind==4)with
    |true=>
     simp only[q4,cond_true,cond_false]at hc1;subst hc1;have hq:=hl3 opInc (.mk ak av al ac at_ as_) (.mk ek ev el ec et es);have hex:=hex (by simp at q4⊢;omega);simp only[wordM,opInc,listM,Sx.cells,Sx.rows]at hq;replace zz:=uu s1 (uu s2 (uu s3 (uu hat2 (uu q2 (uu q3 q4)))));(repeat'(first|refine a_seq fun K hK=>?_|refine a_block ?_|refine uR zz ?_|refine uE zz fun K hK=>?_|(refine uN hK ?_;clear hK)|apply zI));(first|refine uV zz (hex _) ?_|refine uA zz (hex _) ?_);(try apply zI);(first|refine uV zz (hq _) ?_|refine uA zz (hq _) ?_);(repeat'(first|(refine uN hK ?_;clear hK)|refine uB zz ?_|apply zI));first|exact hI.put|exact⟨by simp only[Ty.w,simprocAttr,s1],by simp only[Ty.w,simprocAttr,s2],by simp only[Ty.w,simprocAttr,s3],hI.put⟩
    |false=>
     simp only[q4,cond_false]at hc1;cases q5:(kind==5)with
     |true=>
      simp only[q5,cond_true,cond_false]at hc1;subst hc1;have hq:=hl3 opDec (.mk ak av al ac at_ as_) (.mk ek ev el ec et es);have hex:=hex (by simp at q5⊢;omega);simp only[wordM,opDec,listM,Sx.cells,Sx.rows]at hq;replace zz:=uu s1 (uu s2 (uu s3 (uu hat2 (uu q2 (uu q3 (uu q4 q5))))));(repeat'(first|refine a_seq fun K hK=>?_|refine a_block ?_|refine uR zz ?_|refine uE zz fun K hK=>?_|(refine uN hK ?_;clear hK)|apply zI));(first|refine uV zz (hex _) ?_|refine uA zz (hex _) ?_);(try apply zI);(first|refine uV zz (hq _) ?_|refine uA zz (hq _) ?_);(repeat'(first|(refine uN hK ?_;clear hK)|refine uB zz ?_|apply zI));first|exact hI.put|exact⟨by simp only[Ty.w,simprocAttr,s1],by simp only[Ty.w,simprocAttr,s2],by simp only[Ty.w,simprocAttr,s3],hI.put⟩
     |false=>
      simp only[q5,cond_false]at hc1;subst hc1;replace zz:=uu s1 (uu s2 (uu s3 (uu hat2 (uu q2 (uu q3 (uu q4 q5))))));(repeat'(first|refine a_seq fun K hK=>?_|refine a_block ?_|refine uR zz ?_|refine uK ?_|(refine uN hK ?_;clear hK)|apply zI));first|exact hI|exact⟨by simp only[Ty.w,simprocAttr,s1],by simp only[Ty.w,simprocAttr,s2],by simp only[Ty.w,simprocAttr,s3],hI⟩
 ·try clear zz
  clear s1 s2 s3 hI hc1 hex hl2;rintro S H ⟨s1,s2,s3,hI⟩;refine hK _ _ ?_;try clear zz
  clear hK;obtain⟨xk,xv,xl,xc,xt,xs⟩:=X1;repeat'(first|with_reducible refine a_holdR 11 ?_|refine a_seq fun K hK=>?_|apply zI)
  refine⟨?_⟩;refine a_cutK (fun S H=>S 1= .cptr [.sc (.int .i64 kind),.imm 2 PR,sPV gop,sPV gna,.imm 1 (strRows gar),.imm 2 (pmRows gpa),.imm 5 (Ex.rows gex),.imm 6 (Fm.rows gki),sPV nm,.imm 1 (strRows aa),sPV eop,sPV ena,.sc (.int .i64 en),.imm 1 (strRows ear),.imm 5 (Ex.rows eki)]∧S 2= .ptr h.next 0 0∧S 3= .ptr (h.next+1) 0 0∧SgI h (bif tb then(Sx.mk xk xv xl xc xt xs)else listM [wordM opWhen,(.mk ck cv cl cc ct cs),.mk xk xv xl xc xt xs]) H) ?_ ?_
  ·have hat2:=hI.at_;simp only[Sx.cells]at hat2;cases tb with
   |true=>
    simp only[cond_true];replace zz:=uu s1 (uu s2 (uu s3 hat2));(repeat'(first|refine a_seq fun K hK=>?_|refine uR zz ?_|apply zI));refine uU zz (htr _) ?_;replace zz:=uu s1 (uu s2 (uu s3 (uu hat2 @Bool.not_true)));(repeat'(first|refine uK ?_|refine uC1 zz ?_|(refine uN hK ?_;clear hK)|apply zI));first|exact hI|exact⟨by simp only[Ty.w,simprocAttr,s1],by simp only[Ty.w,simprocAttr,s2],by simp only[Ty.w,simprocAttr,s3],hI⟩
   |false=>
    simp only[cond_false];have hq:=hl3 opWhen (.mk ck cv cl cc ct cs) (.mk xk xv xl xc xt xs);simp only[wordM,opWhen,listM,Sx.cells,Sx.rows]at hq;replace zz:=uu s1 (uu s2 (uu s3 hat2));(repeat'(first|refine a_seq fun K hK=>?_|refine uR zz ?_|apply zI));refine uU zz (htr _) ?_;replace zz:=uu s1 (uu s2 (uu s3 (uu hat2 @Bool.not_false)));(repeat'(first|refine uD zz ?_|refine uC1 zz ?_|(refine uN hK ?_;clear hK)|apply zI));replace zz:=uu s1 (uu s2 (uu s3 hat2));(first|refine uV zz (hcw _) ?_|refine uA zz (hcw _) ?_);(try apply zI);(first|refine uV zz (hq _) ?_|refine uA zz (hq _) ?_);(repeat'(first|refine uB zz ?_|apply zI));first|exact hI.put|exact⟨by simp only[Ty.w,simprocAttr,s1],by simp only[Ty.w,simprocAttr,s2],by simp only[Ty.w,simprocAttr,s3],hI.put⟩
  ·(try clear zz);clear s1 s2 s3 hI;rintro S H ⟨s1,s2,s3,hI⟩;refine hK _ _ ?_;(try clear zz);clear hK;generalize(bif tb then Sx.mk xk xv xl xc xt xs else listM [wordM opWhen,(.mk ck cv cl cc ct cs),.mk xk xv xl xc xt xs])=Y at hI hF;obtain⟨yk,yv,yl,yc,yt,ys⟩:=Y;have hat2:=hI.at_;have hre:=hI.res;have hgr:=hI.grow;have hnx:=hI.nx;simp only[Sx.cells]at hat2;have n1:(h.next+1=h.next)=False:=eq_false (by omega);have n2:(h.next=h.next+1)=False:=eq_false (by omega);cases pe with
   |true=>
    simp only[cond_true]at hF;subst hF;replace zz:=uu s1 (uu s2 (uu s3 (uu hat2 (uu hre (uu hpe (uu @Bool.not_true (uu n1 n2)))))));(repeat'(first|refine a_seq fun K hK=>?_|refine uR zz ?_|refine uT zz ?_|refine uK ?_|refine uC1 zz ?_|(refine uN hK ?_;clear hK)|apply zI));exact⟨sxA_frz _ _ _,hgr.set (Nat.le_refl _) _⟩
   |false=>
    simp only[cond_false]at hF;subst hF;have hq:=hl3 opAll (listM L) (.mk yk yv yl yc yt ys);simp only[wordM,opAll,listM,Sx.cells,Sx.rows]at hq;replace zz:=uu s1 (uu s2 (uu s3 (uu hat2 (uu hre (uu hpe (uu @Bool.not_false (uu n1 n2)))))));(repeat'(first|refine a_seq fun K hK=>?_|refine uR zz ?_|refine uD zz ?_|refine uC1 zz ?_|(refine uN hK ?_;clear hK)|apply zI));replace zz:=uu s1 (uu s2 (uu s3 (uu hat2 (uu hre (uu hpe (uu n1 n2))))));(first|refine uV zz (hwp _) ?_|refine uA zz (hwp _) ?_);(try apply zI);(first|refine uV zz (hq _) ?_|refine uA zz (hq _) ?_);(repeat'(first|refine a_seq fun K hK=>?_|refine uR zz ?_|refine uT zz ?_|(refine uN hK ?_;clear hK)|refine uB zz ?_|apply zI));exact⟨sxA_frz _ _ (listM [wordM opAll,listM L,.mk yk yv yl yc yt ys]),(hgr.set (by omega) _).set (Nat.le_refl _) _⟩
end Go.Proofs.YtblgchkahpgdjaaGreat
namespace Go.Proofs.YtblgchkahpgdjaaGreat
open Go.AM
set_option maxHeartbeats 4000000
set_option maxRecDepth 20000
structure WordsX(h:Heap)(id:Nat)(b:Bool)(first:ByteArray)(l:List ByteArray)(k:Nat)(h':Heap):Prop where
 grow:GrowX h id (wO b) h'
 ex: ∃ j,h.next+1+1<h'.next∧j≠h.next+1+1∧h.next<j∧j<h'.next∧
  h'.obj h.next=some (.arr 6 [[.sc (.int .i64 0),.sc (.int .i64 0),.sc (.int .i64 0),.sc (.int .i64 0),.sc (.string ⟨#[]⟩),.sc (.slice none 0 0)]])∧
  h'.obj (h.next+1+1)=some (.arr 6 [[.sc (.int .i64 3),.sc (.int .i64 0),.sc (.int .i64 0),.sc (.int .i64 0),.sc (.string ⟨#[]⟩),.own j 0 (k+1)]])∧
  h'.obj j=some (.arr 6 (Sx.rows ((first::l.take k).map wordM)))
theorem WordsX.put{h h':Heap}{id:Nat}{b b2:Bool}{first:ByteArray}{l:List ByteArray}{k:Nat}(i:WordsX h id b first l k h')(hid:id<h.next):WordsX h id b2 first l k (h'.set id (wO b2)):=by
 obtain⟨hg,j,h1,h2,h3,h4,o1,o2,o3⟩:=i;refine⟨hg.put,j,h1,h2,h3,h4,?_,?_,?_⟩
 ·simp only[Heap.set];rw[if_neg (by omega)];exact o1
 ·simp only[Heap.set];rw[if_neg (by omega)];exact o2
 ·simp only[Heap.set];rw[if_neg (by omega)];exact o3
theorem watom_c{h:Heap}{id:Nat}{b:Bool}{first:ByteArray}{l:List ByteArray}(hn:first.size≤9223372036854775807)(hl:l.length≤1048576)(hok: ∀ s∈l,s.size≤bigN)(hid:id<h.next)(ho:h.obj id=some (wO b)):
  PCall Tryz.prog 144 [.ptr id 0 0,sPV first,.imm 1 (strRows l)] h fun r h'=>r= .agg (wordsM first l).cells∧h'=h.set id (wO (b||!(nameB first&&l.all termB))):=by
 refine PCall.frzX Ty.hb_144 ho (wO_in _ _) ?_;have hll:=strRows_len l;have hw: ∀ (s:ByteArray)(h:Heap),PCall Tryz.prog 40 [sPV s] h fun r h'=>r= .agg (wordM s).cells∧h'=h:=fun s h=>dword_c;have c0:=fun(z:AObj)=>wname_c (h:=h.new z) (b:=b) (s:=first) hn (show id<h.next+1 by omega) ((obj_new hid).trans ho);simp only[wordM,Sx.cells,Sx.rows]at hw c0;generalize hF:(b||!(nameB first&&l.all termB))=F;refine uG (ow:=fun t=>t==13) (wf:=fun _=>false) Tryz.func144 Tryz.ntmps144 Tryz.results144 Ty.hb_144 ?_;repeat'(first|refine a_seq fun K hK=>?_|refine uR trivial ?_|(refine uN hK ?_;clear hK)|apply zI)
 refine owp_useH (c0 _) (by(try simp only[Ty.w,simprocAttr,ho]);try rfl) ?_;simp(maxSteps:=2000000) only[Ty.w,simprocAttr,ho];try apply zI
 refine uU trivial (dlist_c (p:= .own (h.next+1) 0 1) rfl (fun _=>frz_own (by simp[Heap.new,Heap.set]))) ?_;repeat'(first|refine a_seq fun K hK=>?_|refine a_block ?_|refine uR hll ?_|(refine uN hK ?_;clear hK)|apply zI)
 refine a_loop (fun m S h'=>S 0= .ptr id 0 0∧S 6= .ptr h.next 0 0∧S 7= .ptr (h.next+1+1) 0 0∧S 15= .imm 1 (strRows l)∧S 16= .sc (.int .i64 l.length)∧ ∃ (k:Nat)(b':Bool),S 17= .sc (.int .i64 k)∧k≤l.length∧m=l.length-k∧WordsX h id b' first l k h'∧F=(b'||!((l.drop k).all termB))) l.length ?_ ?_
 ·simp only[Ty.w,simprocAttr];refine⟨0,b||!nameB first,rfl,by omega,rfl,?_,?_⟩
  ·have e1:¬ h.next=h.next+1+1:=by omega
   refine⟨?_,h.next+1,by simp[Heap.new,Heap.set],by omega,by omega,by simp[Heap.new,Heap.set],?_,?_,?_⟩
   ·exact ((((((GrowX.refl ho).new hid).put).new hid).new hid).set hid (by omega))
   ·simp only[Heap.new,Heap.set];repeat(first|rw[if_neg (by omega)]|rw[if_pos trivial])
   ·simp only[Heap.new,Heap.set];repeat(first|rw[if_neg (by omega)]|rw[if_pos trivial])
   ·simp only[Heap.new,Heap.set];(repeat(first|rw[if_neg (by omega)]|rw[if_pos trivial]));simp[wordM,Sx.rows,Sx.cells]
  ·rw [List.drop_zero, ← hF];cases b<;>cases nameB first<;>simp
 ·try clear zz
  clear hF c0;rintro m S h' ⟨g0,g6,g7,g15,g16,k,b',g17,hk,rfl,hI,hinv⟩;by_cases hlt:k<l.length
  ·have hd:decide ((k:Int)<(l.length:Int))=true:=(by simp;omega);have w7:IntKind.i64.wrap ((k:Int)+1)=k+1:=(by rw[wrap64 (by omega) (by omega)]);obtain⟨s,hx⟩: ∃ s,l[k]? =some s:=⟨_,List.getElem?_eq_getElem hlt⟩;have hr:=strRows_get hx;have hts:=fun h:Heap=>dterm_c (h:=h) (s:=s) (by have:=hok s (List.mem_of_getElem? hx);unfold bigN at this;omega);rw[drop_of_get hx,List.all_cons]at hinv;have hbo:=hI.grow.at_;generalize termB s=q at hts hinv;have stepF: ∀ b2:Bool,b2=(b'||!q)→F=(b2||!((l.drop (k+1)).all termB)):=fun b2 e=>by
    rw[hinv,e];cases b'<;>cases q<;>simp
   (try clear zz);clear hinv;replace zz:=uu g0 (uu g6 (uu g7 (uu g15 (uu g16 (uu g17 (uu hd hr))))));(repeat'(first|with_reducible refine a_holdR 5 ?_|refine a_seq fun K hK=>?_|refine uR zz ?_|refine uK ?_|refine uC1 zz ?_|(refine uN hK ?_;clear hK)|apply zI));refine⟨?_⟩;refine a_cut (fun S H=>S 0= .ptr id 0 0∧S 6= .ptr h.next 0 0∧S 7= .ptr (h.next+1+1) 0 0∧S 15= .imm 1 (strRows l)∧S 16= .sc (.int .i64 l.length)∧S 17= .sc (.int .i64 k)∧S 9=sPV s∧ ∃ b2,WordsX h id b2 first l k H∧F=(b2||!((l.drop (k+1)).all termB))) ?_ ?_
   ·cases b' with
    |true=>
     replace zz:=uu g0 (uu g6 (uu g7 (uu g15 (uu g16 (uu g17 hbo)))));(repeat'(first|refine uR zz ?_|apply zI));exact⟨true,hI.put hid,stepF _ (by simp)⟩
    |false=>
     replace zz:=uu g0 (uu g6 (uu g7 (uu g15 (uu g16 (uu g17 hbo)))));(repeat'(first|refine uR zz ?_|apply zI));refine uU zz (hts _) ?_;(try apply zI);exact⟨!q,hI.put hid,stepF _ (by simp)⟩
   ·(try clear zz);clear g0 g6 g7 g15 g16 g17 hI hbo hd hr stepF hts;rintro S H ⟨g0,g6,g7,g15,g16,g17,g9,b2,hI,hinv⟩;obtain⟨hg,j,hn2,hne,hlo,hhi,o1,o2,o3⟩:=hI;have hrl:(Sx.rows ((first::l.take k).map wordM)).length=k+1:=(by rw[Sx.rows_len];simp;omega);generalize hR:Sx.rows ((first::l.take k).map wordM)=R at o3 hrl;have n1:(h.next+1+1=j)=False:=(by simp;omega);have n2:(h.next+1+1=H.next)=False:=(by simp;omega);have htk:List.take (k+1) R=R:=List.take_of_length_le (by omega);have hb:(k+1+1)*72≤140737488355328:=(by omega);replace zz:=uu g0 (uu g6 (uu g7 (uu g15 (uu g16 (uu g17 (uu g9 (uu w7 (uu o2 o3))))))));(repeat'(first|refine uE zz fun K hK=>?_|apply zI));replace zz:=uu g0 (uu g6 (uu g7 (uu g15 (uu g16 (uu g17 (uu g9 (uu o2 o3)))))));(first|refine uV zz (hw s _) ?_|refine uA zz (hw s _) ?_);replace zz:=uu g0 (uu g6 (uu g7 (uu g15 (uu g16 (uu g17 (uu g9 (uu w7 (uu o2 (uu o3 (uu n1 (uu n2 (uu hrl (uu htk hb)))))))))))));(repeat'(first|refine uR zz ?_|(refine uN hK ?_;clear hK)|refine uB zz ?_|(rw[if_pos];rotate_left 1;omega;simp(maxSteps:=2000000) only[Ty.w,simprocAttr,g0,g6,g7,g15,g16,g17,g9,w7,o2,o3,n1,n2,hrl,htk,hb])|apply zI));refine⟨l.length-(k+1),by omega,k+1,b2,by simp,by omega,rfl,⟨((hg.kill hid (by omega)).new hid).set hid (by omega),H.next,?_,?_,?_,?_,?_,?_,?_⟩,hinv⟩
    ·simp only[Heap.set,Heap.new,Heap.kill];omega
    ·omega
    ·omega
    ·simp only[Heap.set,Heap.new,Heap.kill];omega
    ·have a1:¬ h.next=h.next+1+1:=by omega
     have a2:¬ h.next=H.next:=by omega
     have a3:¬ h.next=j:=by omega
     simp only[Heap.set,Heap.new,Heap.kill,a1,a2,a3,if_false];exact o1
    ·simp only[Heap.set,if_true]
    ·have a1:¬ H.next=h.next+1+1:=by omega
     simp only[Heap.set,Heap.new,Heap.kill,a1,if_false,if_true];rw[List.take_add_one,hx, ← hR];simp only[Sx.rows_map,List.map_cons,List.map_append,List.map_nil,Option.toList_some,List.cons_append,wordM,Sx.cells]
  ·have hd:decide ((k:Int)<(l.length:Int))=false:=(by simp;omega);have hke:k=l.length:=(by omega);subst hke;obtain⟨hg,j,hn2,hne,hlo,hhi,o1,o2,o3⟩:=hI;rw[List.take_length]at o3;rw[List.drop_length,List.all_nil,Bool.not_true,Bool.or_false]at hinv;subst hinv;have n1:(h.next+1+1=h.next)=False:=(by simp;omega);replace zz:=uu g0 (uu g6 (uu g7 (uu g15 (uu g16 (uu g17 (uu hd (uu o1 (uu o2 (uu o3 n1)))))))));(repeat'(first|refine a_seq fun K hK=>?_|refine uR zz ?_|refine uT zz ?_|refine uX ?_|refine uC1 zz ?_|(refine uN hK ?_;clear hK)|(clear hK;refine uN hK ?_;clear hK)|apply zI));refine⟨?_,hg.set hid (Nat.le_refl _)⟩;simp only[wordsM,listM,Sx.cells,FrzTo,FrzL];refine⟨_,rfl,rfl,rfl,rfl,rfl,rfl,.inr (.inr ⟨j,0,l.length+1,Sx.rows ((first::l).map wordM),rfl,by omega,?_,?_,?_⟩),trivial⟩
   ·simp only[Heap.set];rw[if_neg (by omega)];exact o3
   ·rw [Sx.rows_len];simp
   ·rw [List.drop_zero,List.take_of_length_le (by rw[Sx.rows_len];simp)];exact sxs_frz _ _ _
end Go.Proofs.YtblgchkahpgdjaaGreat
namespace Go.AM
open Go.ChangeShapes Go.WideShapes
def partsT(P:Program)(t:TypeId):List (Nat × TypeId):=match P.underlying t with
 |some (.struct fs)=>fs.toList.map fun f=>(f.offset,f.type)
 |some (.array n e)=>(List.range n).map fun i=>(i*P.cellsOf e,e)
 |_=>[]
def inRow(P:Program)(e:Nat):Nat→List (Nat × TypeId)→Bool
 |o,[]=>o==e
 |o,p::l=>p.1==o&&inRow P e (o+P.cellsOf p.2) l
def Arg(P:Program):Nat→TypeId→List PV→Prop
 |0,_,_=>False
 |f+1,t,ps=>match P.underlying t with
  |some .bool=> ∃ b,ps=[.sc (.bool b)]
  |some (.int k)=> ∃ n,(Lit.int k n).wf=true∧ps=[.sc (.int k n)]
  |some .string=> ∃ s:ByteArray,s.size≤reachBytes∧ps=[.sc (.string s)]
  |some (.slice e)=> ∃ rows,ps=[.imm (P.cellsOf e) rows]∧rows.length*P.bytesOf e≤reachBytes∧rows.length≤maxLen∧ ∀ r∈rows,r.length=P.cellsOf e∧Arg P f e r
  |some (.struct _)=>ps.length=P.cellsOf t∧ ∀ p∈partsT P t,Arg P f p.2 ((ps.drop p.1).take (P.cellsOf p.2))
  |some (.array _ _)=>ps.length=P.cellsOf t∧ ∀ p∈partsT P t,Arg P f p.2 ((ps.drop p.1).take (P.cellsOf p.2))
  |_=>False
section
variable {H:Type}{enc:TypeId × Value→H}{P:Program}{w:World}{sp:Nat→Bool}{held:Bool}
def RA(w:World)(ps:List PV)(cs:List Value):Prop:=(∀ v∈cs,v.oneCell'=true)∧ ∀ β n,RepL β n (fun b=>b<w.heap.size) w ps cs
theorem RA.len{ps:List PV}{cs:List Value}(h:RA w ps cs):ps.length=cs.length:=(h.2 ⟨fun _=>⟨none,0,0,0⟩,fun _=>False⟩ 0).len
theorem RA.append{ps ps':List PV}{cs cs':List Value}(h:RA w ps cs)(k:RA w ps' cs'):RA w (ps++ps') (cs++cs'):=
 ⟨fun v hv=>by exact(List.mem_append.1 hv).elim (h.1 v) (k.1 v),fun β n=>(h.2 β n).append (k.2 β n)⟩
theorem inRow_le{e:Nat}:(l:List (Nat × TypeId))→(o:Nat)→inRow P e o l=true→o≤e∧ ∀ p∈l,o≤p.1∧p.1+P.cellsOf p.2≤e
 |[],o,h=>by simp[inRow]at h;simp[h]
 |p::l,o,h=>by
  simp only[inRow,Bool.and_eq_true,beq_iff_eq]at h;obtain⟨h1,h2⟩:=inRow_le l _ h.2;refine⟨by omega,fun q hq=>?_⟩;rcases List.mem_cons.1 hq with rfl|hq
  ·omega
  ·have:=h2 q hq;omega
theorem exists_list{α:Type}{R:Nat→α→Prop}:(n:Nat)→(∀ i,i<n→ ∃ x,R i x)→ ∃ l:List α,l.length=n∧ ∀ i x,l[i]? =some x→R i x
 |0,_=>⟨[],rfl,by simp⟩
 |n+1,h=>by
  obtain⟨l,h1,h2⟩:=exists_list n (fun i hi=>h i (by omega));obtain⟨x,hx⟩:=h n (by omega);refine⟨l++[x],by simp[h1],fun i y hy=>?_⟩;rw[List.getElem?_append]at hy;split at hy
  ·exact h2 i y hy
  ·rename_i hi;have:i=n:=by
    have:=(List.getElem?_eq_some_iff.1 hy).1;simp at this;omega
   subst this;rw[h1]at hy;simp at hy;subst hy;exact hx
theorem weightsAll_mem{e:TypeId}{n:Nat}:{ds:List (DataW H)}→{i:Nat}→{d:DataW H}→ds[i]? =some d→n∈d.weights P e→n∈DataW.weightsAll P e ds
 |[],_,_,h,_=>by simp at h
 |d0::ds,0,d,h,hn=>by
  simp at h;subst h;simp only[DataW.weightsAll,List.mem_append];exact .inl hn
 |d0::ds,i+1,d,h,hn=>by
  simp at h;simp only[DataW.weightsAll,List.mem_append];exact .inr (weightsAll_mem h hn)
theorem sc_RA{v:Value}(h:v.oneCell'=true):RA w [.sc v] [v]:=
 ⟨fun u hu=>by simp at hu;subst hu;exact h,fun β n=>by simp only[RepL,Rep];exact⟨trivial,trivial⟩⟩
end
end Go.AM
namespace Go.AM
open Go.ChangeShapes Go.WideShapes
section
variable {H:Type}{enc:TypeId × Value→H}{P:Program}{w:World}{sp:Nat→Bool}{held:Bool}
def covC(P:Program)(Ts:List TypeId):Bool:=Ts.all fun t=>match P.underlying t with
 |some .bool=>true
 |some (.int _)=>true
 |some .string=>true
 |some (.slice e)=>decide (0<P.cellsOf e)&&Ts.contains e
 |some (.struct _)=>inRow P (P.cellsOf t) 0 (partsT P t)&&(partsT P t).all fun p=>Ts.contains p.2
 |some (.array _ _)=>inRow P (P.cellsOf t) 0 (partsT P t)&&(partsT P t).all fun p=>Ts.contains p.2
 |_=>false
end
end Go.AM
namespace Go.AM
open Go.ChangeShapes Go.WideShapes
section
variable {P:Program}{c:Nat}{t e:TypeId}{ps:List PV}{a:PV}
theorem Arg_int{k:IntKind}(hu:P.underlying t=some (.int k))(h:Arg P (c+1) t ps): ∃ n,(Lit.int k n).wf=true∧ps=[.sc (.int k n)]:=by
 unfold Arg at h;rw[hu]at h;exact h
theorem Arg_slice(hu:P.underlying t=some (.slice e))(h:Arg P (c+1) t ps): ∃ rows,ps=[.imm (P.cellsOf e) rows]∧rows.length*P.bytesOf e≤reachBytes∧rows.length≤maxLen∧ ∀ r∈rows,r.length=P.cellsOf e∧Arg P c e r:=by
 unfold Arg at h;rw[hu]at h;exact h
theorem Arg_struct{fs:Array Field}(hu:P.underlying t=some (.struct fs))(h:Arg P (c+1) t ps):ps.length=P.cellsOf t∧ ∀ p∈partsT P t,Arg P c p.2 ((ps.drop p.1).take (P.cellsOf p.2)):=by
 unfold Arg at h;rw[hu]at h;exact h
theorem rows_map{α:Type}{Q:α→Prop}{f:α→List PV}:(rows:List (List PV))→(∀ r∈rows, ∃ x,Q x∧r=f x)→ ∃ xs:List α,rows=xs.map f∧ ∀ x∈xs,Q x
 |[],_=>⟨[],rfl,by simp⟩
 |r::rows,h=>by
  obtain⟨xs,h1,h2⟩:=rows_map rows (fun q hq=>h q (by simp[hq]));obtain⟨x,h3,h4⟩:=h r (by simp);refine⟨x::xs,by simp[h1,h4],fun y hy=>?_⟩;rcases List.mem_cons.1 hy with rfl|hy
  ·exact h3
  ·exact h2 y hy
theorem i64_in{n:Int}(h:(Lit.int .i64 n).wf=true): -9223372036854775808≤n∧n≤9223372036854775807:=by
 simp[Lit.wf,IntKind.min,IntKind.max,IntKind.bits,IntKind.signed]at h;omega
end
end Go.AM
namespace Go.Proofs.YtblgchkahpgdjaaGreat
open Go.AM
set_option maxHeartbeats 1000000
set_option maxRecDepth 20000
def recTs:List TypeId:=[67,75,123,9,3,64,22,65,63]
theorem parts57:partsT Tryz.prog 75=[(0,9),(1,9),(2,3),(3,64),(4,65)]:=by kernel_rfl
theorem parts29:partsT Tryz.prog 67=[(0,9),(1,9),(2,64),(3,22),(4,65),(5,63)]:=by kernel_rfl
theorem parts99:partsT Tryz.prog 123=[(0,9),(1,9)]:=by kernel_rfl
theorem co9:Tryz.prog.cellsOf 9=1:=by kernel_rfl
theorem co3:Tryz.prog.cellsOf 3=1:=by kernel_rfl
theorem co24:Tryz.prog.cellsOf 64=1:=by kernel_rfl
theorem co25:Tryz.prog.cellsOf 22=1:=by kernel_rfl
theorem co26:Tryz.prog.cellsOf 65=1:=by kernel_rfl
theorem co27:Tryz.prog.cellsOf 63=1:=by kernel_rfl
theorem co57:Tryz.prog.cellsOf 75=5:=by kernel_rfl
theorem co29:Tryz.prog.cellsOf 67=6:=by kernel_rfl
theorem co99:Tryz.prog.cellsOf 123=2:=by kernel_rfl
theorem by9:0<Tryz.prog.bytesOf 9:=by rw[show Tryz.prog.bytesOf 9=16 by kernel_rfl];omega
theorem by99:0<Tryz.prog.bytesOf 123:=by rw[show Tryz.prog.bytesOf 123=32 by kernel_rfl];omega
theorem by57:0<Tryz.prog.bytesOf 75:=by rw[show Tryz.prog.bytesOf 75=88 by kernel_rfl];omega
theorem by29:0<Tryz.prog.bytesOf 67:=by rw[show Tryz.prog.bytesOf 67=128 by kernel_rfl];omega
theorem len_le{n b:Nat}(h:n*b≤reachBytes)(hb:0<b):n≤bigN:=by
 have:=Nat.le_mul_of_pos_right n hb;unfold reachBytes at h;unfold bigN;omega
theorem arg_str{c:Nat}{ps:List PV}(h:Arg Tryz.prog c 9 ps): ∃ s:ByteArray,s.size≤bigN∧ps=[sPV s]:=by
 cases c with
 |zero=>simp[Arg]at h
 |succ c=>
  unfold Arg at h;rw[Tryz.underlying9]at h;obtain⟨s,h1,h2⟩:=h;exact⟨s,by unfold reachBytes at h1;unfold bigN;omega,h2⟩
theorem arg_i64{c:Nat}{ps:List PV}(h:Arg Tryz.prog c 3 ps): ∃ n:Int,(-9223372036854775808≤n∧n≤9223372036854775807)∧ps=[.sc (.int .i64 n)]:=by
 cases c with
 |zero=>simp[Arg]at h
 |succ c=>
  obtain⟨n,h1,h2⟩:=Arg_int Tryz.underlying3 h;exact⟨n,i64_in h1,h2⟩
theorem arg_strs{c:Nat}{ps:List PV}(h:Arg Tryz.prog c 64 ps): ∃ l:List ByteArray,(l.length≤bigN∧ ∀ a∈l,a.size≤bigN)∧ps=[.imm 1 (strRows l)]:=by
 cases c with
 |zero=>simp[Arg]at h
 |succ c=>
  obtain⟨rows,rfl,h1,_,h2⟩:=Arg_slice Tryz.underlying64 h;obtain⟨xs,rfl,h3⟩:=rows_map (Q:=fun s:ByteArray=>s.size≤bigN) (f:=fun s=>[sPV s]) rows (fun r hr=>arg_str (h2 r hr).2);refine⟨xs,⟨len_le (by simpa using h1) by9,h3⟩,?_⟩;rw[co9];try rfl
theorem arg_pm{c:Nat}{ps:List PV}(h:Arg Tryz.prog c 123 ps): ∃ p:Pm,p.ok∧ps=pmRow p:=by
 cases c with
 |zero=>simp[Arg]at h
 |succ c=>
  obtain⟨h1,h2⟩:=Arg_struct Tryz.underlying123 h;rw[co99]at h1;rw[parts99]at h2
  match ps,h1,h2 with
  |[p0,p1],_,h2=>
   have a0:=h2 (0,9) (by simp);have a1:=h2 (1,9) (by simp);simp only[co9,List.drop_zero,List.drop_succ_cons,List.take_succ_cons,List.take_zero]at a0 a1;obtain⟨s,hs,e1⟩:=arg_str a0;obtain⟨t,ht,e2⟩:=arg_str a1;simp at e1 e2;exact⟨⟨s,t⟩,⟨hs,ht⟩,by simp[pmRow,e1,e2]⟩
theorem arg_pms{c:Nat}{ps:List PV}(h:Arg Tryz.prog c 22 ps): ∃ l:List Pm,(l.length≤bigN∧ ∀ a∈l,a.ok)∧ps=[.imm 2 (pmRows l)]:=by
 cases c with
 |zero=>simp[Arg]at h
 |succ c=>
  obtain⟨rows,rfl,h1,_,h2⟩:=Arg_slice Tryz.underlying22 h;obtain⟨xs,rfl,h3⟩:=rows_map (Q:=Pm.ok) (f:=pmRow) rows (fun r hr=>arg_pm (h2 r hr).2);refine⟨xs,⟨len_le (by simpa using h1) by99,h3⟩,?_⟩;rw[co99];try rfl
theorem arg_ex: ∀ (c:Nat){ps:List PV},Arg Tryz.prog c 75 ps→ ∃ e:Ex,e.ok∧ps=e.cells:=by
 intro c
 induction c using Nat.strongRecOn with
 |_ c ih=>
  intro ps h;cases c with
  |zero=>simp[Arg]at h
  |succ c=>
   obtain⟨h1,h2⟩:=Arg_struct Tryz.underlying75 h;rw[co57]at h1;rw[parts57]at h2
   match ps,h1,h2 with
   |[p0,p1,p2,p3,p4],_,h2=>
    have a0:=h2 (0,9) (by simp);have a1:=h2 (1,9) (by simp);have a2:=h2 (2,3) (by simp);have a3:=h2 (3,64) (by simp);have a4:=h2 (4,65) (by simp);simp only[co9,co3,co24,co26,List.drop_zero,List.drop_succ_cons,List.take_succ_cons,List.take_zero]at a0 a1 a2 a3 a4;obtain⟨op,hop,e0⟩:=arg_str a0;obtain⟨name,hname,e1⟩:=arg_str a1;obtain⟨n,hn,e2⟩:=arg_i64 a2;obtain⟨args,hargs,e3⟩:=arg_strs a3;cases c with
    |zero=>simp[Arg]at a4
    |succ c=>
     obtain⟨rows,e4,h3,_,h4⟩:=Arg_slice Tryz.underlying65 a4;obtain⟨xs,rfl,h5⟩:=rows_map (Q:=Ex.ok) (f:=Ex.cells) rows (fun r hr=>ih c (by omega) (h4 r hr).2);rw[co57]at e4;simp at e0 e1 e2 e3 e4;refine⟨.mk op name n args xs,?_,?_⟩
     ·simp only[Ex.ok];exact⟨hop,hname,hn,hargs,len_le (by simpa using h3) by57,Ex.oks_iff.2 h5⟩
     ·simp only[Ex.cells,e0,e1,e2,e3,e4,Ex.rows_map]
theorem arg_exs{c:Nat}{ps:List PV}(h:Arg Tryz.prog c 65 ps): ∃ l:List Ex,(l.length≤bigN∧Ex.oks l)∧ps=[.imm 5 (Ex.rows l)]:=by
 cases c with
 |zero=>simp[Arg]at h
 |succ c=>
  obtain⟨rows,rfl,h1,_,h2⟩:=Arg_slice Tryz.underlying65 h;obtain⟨xs,rfl,h3⟩:=rows_map (Q:=Ex.ok) (f:=Ex.cells) rows (fun r hr=>arg_ex c (h2 r hr).2);refine⟨xs,⟨len_le (by simpa using h1) by57,Ex.oks_iff.2 h3⟩,?_⟩;rw[co57,Ex.rows_map]
theorem arg_fm: ∀ (c:Nat){ps:List PV},Arg Tryz.prog c 67 ps→ ∃ f:Fm,f.ok∧ps=f.cells:=by
 intro c
 induction c using Nat.strongRecOn with
 |_ c ih=>
  intro ps h;cases c with
  |zero=>simp[Arg]at h
  |succ c=>
   obtain⟨h1,h2⟩:=Arg_struct Tryz.underlying67 h;rw[co29]at h1;rw[parts29]at h2
   match ps,h1,h2 with
   |[p0,p1,p2,p3,p4,p5],_,h2=>
    have a0:=h2 (0,9) (by simp);have a1:=h2 (1,9) (by simp);have a2:=h2 (2,64) (by simp);have a3:=h2 (3,22) (by simp);have a4:=h2 (4,65) (by simp);have a5:=h2 (5,63) (by simp);simp only[co9,co24,co25,co26,co27,List.drop_zero,List.drop_succ_cons,List.take_succ_cons,List.take_zero]at a0 a1 a2 a3 a4 a5;obtain⟨op,hop,e0⟩:=arg_str a0;obtain⟨name,hname,e1⟩:=arg_str a1;obtain⟨args,hargs,e2⟩:=arg_strs a2;obtain⟨params,hparams,e3⟩:=arg_pms a3;obtain⟨exprs,hexprs,e4⟩:=arg_exs a4;cases c with
    |zero=>simp[Arg]at a5
    |succ c=>
     obtain⟨rows,e5,h3,_,h4⟩:=Arg_slice Tryz.underlying63 a5;obtain⟨xs,rfl,h5⟩:=rows_map (Q:=Fm.ok) (f:=Fm.cells) rows (fun r hr=>ih c (by omega) (h4 r hr).2);rw[co29]at e5;simp at e0 e1 e2 e3 e4 e5;refine⟨.mk op name args params exprs xs,?_,?_⟩
     ·simp only[Fm.ok];exact⟨hop,hname,hargs,hparams,hexprs,len_le (by simpa using h3) by29,Fm.oks_iff.2 h5⟩
     ·simp only[Fm.cells,e0,e1,e2,e3,e4,e5,Fm.rows_map]
end Go.Proofs.YtblgchkahpgdjaaGreat
namespace Go.Proofs.YtblgchkahpgdjaaGreat
open Go.AM
set_option maxHeartbeats 2000000
set_option maxRecDepth 20000
theorem rsizeE_c: ∀ (e:Ex),e.ok→ ∀ h:Heap,PCall Tryz.prog 50 [.agg e.cells] h fun r h'=>r= .sc (.int .i64 e.size)∧h'=h:=by
 refine Ex.ind ?_;intro op name n args kids ih hok h;simp only[Ex.ok]at hok;obtain⟨_,_,_,_,hk,hks⟩:=hok;rw[Ex.oks_iff]at hks;have hlen:=Ex.rows_len kids;simp only[Ex.cells,Ex.size];refine uG0 Tryz.func50 Tryz.ntmps50 Tryz.results50 Ty.hb_50 ?_;repeat'(first|refine a_seq fun K hK=>?_|refine a_block ?_|refine uR hlen ?_|(refine uN hK ?_;clear hK)|apply zI)
 refine a_loop (fun m S h'=>h'=h∧S 1= .cptr (Ex.mk op name n args kids).cells∧ ∃ k:Nat,S 4= .sc (.int .i64 k)∧k≤kids.length∧m=kids.length-k∧S 3= .sc (.int .i64 (Ex.sizes 1 (kids.take k)))) kids.length ?_ ?_
 ·simp only[Ty.w,simprocAttr];exact⟨rfl,0,rfl,by omega,rfl,by simp[Ex.sizes]⟩
 ·rintro m S h' ⟨rfl,g1,k,g4,hkl,rfl,g3⟩;simp only[Ex.cells]at g1;by_cases hlt:k<kids.length
  ·have hd:decide ((k:Int)<(kids.length:Int))=true:=(by simp;omega);have w7:IntKind.i64.wrap ((k:Int)+1)=k+1:=(by unfold bigN at hk;rw[wrap64 (by omega) (by omega)]);obtain⟨e,hx⟩: ∃ e,kids[k]? =some e:=⟨_,List.getElem?_eq_getElem hlt⟩;have hmem:=List.mem_of_getElem? hx;have hc:=ih e hmem (hks e hmem);have hsz:=Ex.sizes_take 1 hx;have hr:=Ex.rows_get hx;obtain⟨op2,name2,n2,args2,kids2⟩:=e;simp only[Ex.cells]at hr hc;replace zz:=uu g1 (uu g3 (uu g4 (uu hlen (uu hd (uu hr w7)))));(repeat'(first|refine a_seq fun K hK=>?_|refine a_block ?_|refine uR zz ?_|refine uQ zz fun K hK=>?_|refine uK ?_|refine uC1 zz ?_|(refine uN hK ?_;clear hK)|apply zI));replace zz:=uu g1 (uu g3 (uu g4 (uu hlen (uu hd hr))));refine uU zz (hc _) ?_;replace zz:=uu g1 (uu g3 (uu g4 w7));(repeat'(first|refine uR zz ?_|(refine uN hK ?_;clear hK)|apply zI));exact⟨kids.length-(k+1),by omega,rfl,k+1,by simp,by omega,rfl,by rw[hsz]⟩
  ·have hd:decide ((k:Int)<(kids.length:Int))=false:=(by simp;omega);have hke:k=kids.length:=(by omega);subst hke;rw[List.take_length]at g3;replace zz:=uu g1 (uu g3 (uu g4 (uu hlen hd)));repeat'(first|refine a_seq fun K hK=>?_|refine uR zz ?_|refine uT zz ?_|refine uX ?_|refine uC1 zz ?_|(refine uN hK ?_;clear hK)|(clear hK;refine uN hK ?_;clear hK)|apply zI)
theorem rsize_c: ∀ (f:Fm),f.ok→ ∀ h:Heap,PCall Tryz.prog 31 [.agg f.cells] h fun r h'=>r= .sc (.int .i64 f.size)∧h'=h:=by
 refine Fm.ind ?_;intro op name args params exprs kids ih hok h;simp only[Fm.ok]at hok;obtain⟨_,_,_,_,⟨he,hes⟩,hk,hks⟩:=hok;rw[Ex.oks_iff]at hes;rw[Fm.oks_iff]at hks;have hlen:=Fm.rows_len kids;have hlene:=Ex.rows_len exprs;simp only[Fm.cells,Fm.size];refine uG0 Tryz.func31 Tryz.ntmps31 Tryz.results31 Ty.hb_31 ?_;repeat'(first|refine a_seq fun K hK=>?_|refine a_block ?_|refine uR hlen ?_|(refine uN hK ?_;clear hK)|apply zI)
 refine a_loop (fun m S h'=>h'=h∧S 1= .cptr (Fm.mk op name args params exprs kids).cells∧ ∃ k:Nat,S 4= .sc (.int .i64 k)∧k≤exprs.length∧m=exprs.length-k∧S 3= .sc (.int .i64 (Ex.sizes 1 (exprs.take k)))) exprs.length ?_ ?_
 ·simp only[Ty.w,simprocAttr];exact⟨rfl,0,rfl,by omega,rfl,by simp[Ex.sizes]⟩
 ·rintro m S h' ⟨rfl,g1,k,g4,hkl,rfl,g3⟩;simp only[Fm.cells]at g1;by_cases hlt:k<exprs.length
  ·have hd:decide ((k:Int)<(exprs.length:Int))=true:=(by simp;omega);have w7:IntKind.i64.wrap ((k:Int)+1)=k+1:=(by unfold bigN at he;rw[wrap64 (by omega) (by omega)]);obtain⟨e,hx⟩: ∃ e,exprs[k]? =some e:=⟨_,List.getElem?_eq_getElem hlt⟩;have hmem:=List.mem_of_getElem? hx;have hc:=rsizeE_c e (hes e hmem);have hsz:=Ex.sizes_take 1 hx;have hr:=Ex.rows_get hx;obtain⟨op2,name2,n2,args2,kids2⟩:=e;simp only[Ex.cells]at hr hc;replace zz:=uu g1 (uu g3 (uu g4 (uu hlene (uu hd (uu hr w7)))));(repeat'(first|refine a_seq fun K hK=>?_|refine a_block ?_|refine uR zz ?_|refine uQ zz fun K hK=>?_|refine uK ?_|refine uC1 zz ?_|(refine uN hK ?_;clear hK)|apply zI));replace zz:=uu g1 (uu g3 (uu g4 (uu hlene (uu hd hr))));refine uU zz (hc _) ?_;replace zz:=uu g1 (uu g3 (uu g4 w7));(repeat'(first|refine uR zz ?_|(refine uN hK ?_;clear hK)|apply zI));exact⟨exprs.length-(k+1),by omega,by simp only[Fm.cells],k+1,by simp,by omega,rfl,by rw[hsz]⟩
  ·have hd:decide ((k:Int)<(exprs.length:Int))=false:=(by simp;omega);have hke:k=exprs.length:=(by omega);subst hke;rw[List.take_length]at g3;replace zz:=uu g1 (uu g3 (uu g4 (uu hlene hd)));(repeat'(first|refine a_seq fun K hK=>?_|refine a_block ?_|refine uR zz ?_|refine uX ?_|refine uC1 zz ?_|(refine uN hK ?_;clear hK)|(clear hK;refine uN hK ?_;clear hK)|apply zI));refine a_loop (fun m S h2=>h2=h'∧S 1= .cptr (Fm.mk op name args params exprs kids).cells∧ ∃ k:Nat,S 5= .sc (.int .i64 k)∧k≤kids.length∧m=kids.length-k∧S 3= .sc (.int .i64 (Fm.sizes (Ex.sizes 1 exprs) (kids.take k)))) kids.length ?_ ?_
   ·simp only[Ty.w,simprocAttr,g1,g3];exact⟨by simp only[Fm.cells],0,rfl,by omega,rfl,by simp[Fm.sizes]⟩
   ·(try clear zz);clear g1 g3 g4;rintro m S h' ⟨rfl,g1,k,g5,hkl,rfl,g3⟩;simp only[Fm.cells]at g1;by_cases hlt:k<kids.length
    ·have hd:decide ((k:Int)<(kids.length:Int))=true:=(by simp;omega);have w7:IntKind.i64.wrap ((k:Int)+1)=k+1:=(by unfold bigN at hk;rw[wrap64 (by omega) (by omega)]);obtain⟨e,hx⟩: ∃ e,kids[k]? =some e:=⟨_,List.getElem?_eq_getElem hlt⟩;have hmem:=List.mem_of_getElem? hx;have hc:=ih e hmem (hks e hmem);have hsz:=Fm.sizes_take (Ex.sizes 1 exprs) hx;have hr:=Fm.rows_get hx;obtain⟨op2,name2,args2,params2,exprs2,kids2⟩:=e;simp only[Fm.cells]at hr hc;replace zz:=uu g1 (uu g3 (uu g5 (uu hlen (uu hd (uu hr w7)))));(repeat'(first|refine a_seq fun K hK=>?_|refine a_block ?_|refine uR zz ?_|refine uQ zz fun K hK=>?_|refine uK ?_|refine uC1 zz ?_|(refine uN hK ?_;clear hK)|apply zI));replace zz:=uu g1 (uu g3 (uu g5 (uu hlen (uu hd hr))));refine uU zz (hc _) ?_;replace zz:=uu g1 (uu g3 (uu g5 w7));(repeat'(first|refine uR zz ?_|(refine uN hK ?_;clear hK)|apply zI));exact⟨kids.length-(k+1),by omega,by simp only[Fm.cells],k+1,by simp,by omega,rfl,by rw[hsz]⟩
    ·have hd:decide ((k:Int)<(kids.length:Int))=false:=(by simp;omega);have hke:k=kids.length:=(by omega);subst hke;rw[List.take_length]at g3;replace zz:=uu g1 (uu g3 (uu g5 (uu hlen hd)));repeat'(first|refine a_seq fun K hK=>?_|refine uR zz ?_|refine uT zz ?_|refine uX ?_|refine uC1 zz ?_|(refine uN hK ?_;clear hK)|(clear hK;refine uN hK ?_;clear hK)|apply zI)
end Go.Proofs.YtblgchkahpgdjaaGreat
namespace Go.Proofs.YtblgchkahpgdjaaGreat
open Go.AM
set_option maxHeartbeats 2000000
set_option maxRecDepth 20000
theorem bEq_refl(a:ByteArray):bEq a a=true:=by simp[bEq]
theorem bsEq_refl: ∀ l:List ByteArray,bsEq l l=true
 |[]=>rfl
 |a::l=>by simp[bsEq,bEq_refl,bsEq_refl l]
theorem pmsEq_refl: ∀ l:List Pm,pmsEq l l=true
 |[]=>rfl
 |a::l=>by simp[pmsEq,pmEq,bEq_refl,pmsEq_refl l]
theorem exs_refl: ∀ {l:List Ex},(∀ e∈l,e.same e=true)→Ex.sames l l=true
 |[],_=>rfl
 |a::l,h=>by rw[Ex.sames,h a (List.mem_cons_self ..),exs_refl (l:=l) fun e he=>h e (List.mem_cons_of_mem _ he)];try rfl
theorem ex_refl: ∀ e:Ex,e.same e=true:=by
 refine Ex.ind ?_;intro op name n args kids ih;simp only[Ex.same,bEq_refl,bsEq_refl,exs_refl ih,beq_self_eq_true,Bool.and_true]
theorem fms_refl: ∀ {l:List Fm},(∀ e∈l,e.same e=true)→Fm.sames l l=true
 |[],_=>rfl
 |a::l,h=>by rw[Fm.sames,h a (List.mem_cons_self ..),fms_refl (l:=l) fun e he=>h e (List.mem_cons_of_mem _ he)];try rfl
theorem fm_refl: ∀ f:Fm,f.same f=true:=by
 refine Fm.ind ?_;intro op name args params exprs kids ih;simp only[Fm.same,bEq_refl,bsEq_refl,pmsEq_refl,exs_refl (fun e _=>ex_refl e),fms_refl ih,Bool.and_true]
end Go.Proofs.YtblgchkahpgdjaaGreat
namespace Go.AM
def Ch.same(a b:Ch):Bool:=(a.kind==b.kind)&&(pmsEq a.params b.params&&(a.cond.same b.cond&&(bEq a.name b.name&&(bsEq a.args b.args&&a.value.same b.value))))
def chsEq:List Ch→List Ch→Bool
 |[],[]=>true
 |a::l,b::m=>a.same b&&chsEq l m
 |_,_=>false
theorem chsEq_len: ∀ {l m:List Ch},¬ l.length=m.length→chsEq l m=false
 |[],[],h=>by simp at h
 |[],_::_,_=>rfl
 |_::_,[],_=>rfl
 |a::l,b::m,h=>by simp only[chsEq,chsEq_len (l:=l) (m:=m) (by simpa using h),Bool.and_false]
end Go.AM
namespace Go.Proofs.YtblgchkahpgdjaaGreat
open Go.AM
theorem ch_refl(a:Ch):a.same a=true:=by simp[Ch.same,pmsEq_refl,fm_refl,bEq_refl,bsEq_refl,ex_refl]
theorem chsEq_refl: ∀ l:List Ch,chsEq l l=true
 |[]=>rfl
 |a::l=>by simp[chsEq,ch_refl,chsEq_refl l]
end Go.Proofs.YtblgchkahpgdjaaGreat
namespace Go.AM
def nil1(q p:PV):Prop:=q=p∨(q= .sc (.slice none 0 0)∧ ∃ z,p= .imm z [])
def nilL:List PV→List PV→Prop
 |[],[]=>True
 |q::qs,p::ps=>nil1 q p∧nilL qs ps
 |_,_=>False
theorem Rep.nil1{β:Env}{n:Nat}{F:Nat→Prop}{w:World}{q p:PV}{x:Value}(hq:nil1 q p)(h:Rep β n F w q x):Rep β n F w p x:=by
 rcases hq with rfl|⟨rfl,z,rfl⟩
 ·exact h
 ·simp only[Rep]at h⊢;exact⟨none,0,h,Nat.le_refl _,Nat.zero_le _,.inl (by trivial)⟩
theorem RepL.nilL{β:Env}{n:Nat}{F:Nat→Prop}{w:World}: ∀ {qs ps:List PV}{xs:List Value},nilL qs ps→RepL β n F w qs xs→RepL β n F w ps xs
 |[],[],[],_,_=>by simp only[RepL]
 |[],[],_::_,_,h=>by simp[RepL]at h
 |q::qs,p::ps,[],_,h=>by simp[RepL]at h
 |q::qs,p::ps,x::xs,hq,h=>by
  simp only[Go.AM.nilL]at hq;simp only[RepL]at h⊢;exact⟨Rep.nil1 hq.1 h.1,RepL.nilL hq.2 h.2⟩
 |[],_::_,_,hq,_=>by simp[Go.AM.nilL]at hq
 |_::_,[],_,hq,_=>by simp[Go.AM.nilL]at hq
theorem PCall.nil2{P:Program}{f:FuncId}{a a' b b':List PV}{h:Heap}{K:PV→Heap→Prop}(ha:nilL a' a)(hb:nilL b' b)(hc:PCall P f [.agg a,.agg b] h K):PCall P f [.agg a',.agg b'] h K:=by
 intro β w vals sm hr;refine hc β w vals sm ?_
 match vals,hr with
 |[x,y],hr=>
  simp only[RepL,Rep]at hr⊢;obtain⟨⟨xs,h1,h2,h3⟩,⟨ys,k1,k2,k3⟩,_⟩:=hr;exact⟨⟨xs,h1,h2,RepL.nilL ha h3⟩,⟨ys,k1,k2,RepL.nilL hb k3⟩,trivial⟩
end Go.AM
namespace Go.Proofs.YtblgchkahpgdjaaGreat
open Go.AM
set_option maxHeartbeats 4000000
set_option maxRecDepth 20000
theorem dsameE_c{a b:Ex}(ha:a.ok)(hb:b.ok)(h:Heap):PCall Tryz.prog 145 [.agg a.cells,.agg b.cells] h fun r h'=>r= .sc (.bool (a.same b))∧h'=h:=by
 have ok1: ∀ e:Ex,e.ok→(Fm.mk ⟨#[]⟩ ⟨#[]⟩ [] [] [e] []).ok:=fun e he=>by
  simp only[Fm.ok,Fm.oks,Ex.oks,List.length_nil,List.length_cons];exact⟨by simp[bigN,ByteArray.size],by simp[bigN,ByteArray.size],⟨by simp,by simp⟩,⟨by simp,by simp⟩,⟨by simp[bigN],he,trivial⟩,by simp,trivial⟩
 have hc:=fun h:Heap=>fsame_c _ (ok1 a ha) _ (ok1 b hb) h;have hs:(Fm.mk ⟨#[]⟩ ⟨#[]⟩ [] [] [a] []).same (.mk ⟨#[]⟩ ⟨#[]⟩ [] [] [b] [])=a.same b:=by simp[Fm.same,Fm.sames,Ex.sames,bEq,bsEq,pmsEq]
 rw[hs]at hc;generalize a.same b=e at hc⊢;have hc2:=fun h:Heap=>PCall.nil2 (a':=[.sc (.string ⟨#[]⟩),.sc (.string ⟨#[]⟩),.sc (.slice none 0 0),.sc (.slice none 0 0),.imm 5 [a.cells],.sc (.slice none 0 0)]) (b':=[.sc (.string ⟨#[]⟩),.sc (.string ⟨#[]⟩),.sc (.slice none 0 0),.sc (.slice none 0 0),.imm 5 [b.cells],.sc (.slice none 0 0)]) (by
  simp only[Fm.cells,Ex.rows,Fm.rows,strRows,pmRows,List.map_nil,nilL];exact⟨.inl rfl,.inl rfl,.inr ⟨rfl,_,rfl⟩,.inr ⟨rfl,_,rfl⟩,.inl rfl,.inr ⟨rfl,_,rfl⟩,trivial⟩) (by
  simp only[Fm.cells,Ex.rows,Fm.rows,strRows,pmRows,List.map_nil,nilL];exact⟨.inl rfl,.inl rfl,.inr ⟨rfl,_,rfl⟩,.inr ⟨rfl,_,rfl⟩,.inl rfl,.inr ⟨rfl,_,rfl⟩,trivial⟩) (hc h)
 try clear zz
 clear ok1 ha hb hc hs;obtain⟨op,name,n,args,kids⟩:=a;obtain⟨op2,name2,n2,args2,kids2⟩:=b;simp only[Ex.cells]at hc2⊢;refine uG0 Tryz.func145 Tryz.ntmps145 Tryz.results145 Ty.hb_145 ?_;repeat'(first|refine a_seq fun K hK=>?_|refine uR trivial ?_|(refine uN hK ?_;clear hK)|apply zI)
 refine uU trivial (hc2 _) ?_;repeat'(first|refine uT trivial ?_|(refine uN hK ?_;clear hK)|apply zI)
end Go.Proofs.YtblgchkahpgdjaaGreat
namespace Go.Proofs.YtblgchkahpgdjaaGreat
open Go.AM
set_option maxHeartbeats 8000000
set_option maxRecDepth 20000
abbrev sxZd:List PV:=[.sc (.int .i64 0),.sc (.int .i64 0),.sc (.int .i64 0),.sc (.int .i64 0),.sc (.string ⟨#[]⟩),.sc (.slice none 0 0)]
structure ChI(h:Heap)(id:Nat)(b:Bool)(x:Sx)(H:Heap):Prop where
 grow:GrowX h id (wO b) H
 nx:h.next+2≤H.next
 res:H.obj h.next=some (.arr 6 [sxZd])
 at_:H.obj (h.next+1)=some (.arr 6 [x.cells])
theorem ChI.put{h H:Heap}{id:Nat}{b b2:Bool}{x:Sx}(i:ChI h id b x H)(hid:id<h.next):ChI h id b2 x (H.set id (wO b2)):=by
 refine⟨i.grow.put,i.nx,?_,?_⟩
 ·simp only[Heap.set];rw[if_neg (by omega)];exact i.res
 ·simp only[Heap.set];rw[if_neg (by omega)];exact i.at_
theorem ChI.upd{h H:Heap}{id:Nat}{b:Bool}{x y:Sx}(i:ChI h id b x H)(hid:id<h.next):ChI h id b y (H.set (h.next+1) (.arr 6 [y.cells])):=by
 refine⟨i.grow.set hid (by omega),i.nx,?_,?_⟩
 ·simp only[Heap.set];rw[if_neg (by omega)];exact i.res
 ·simp only[Heap.set,if_true]
theorem ChI.new{h H:Heap}{id:Nat}{b:Bool}{x:Sx}{o:AObj}(i:ChI h id b x H)(hid:id<h.next):ChI h id b x (H.new o):=by
 have:=i.nx;refine⟨i.grow.new hid,by simp only[Heap.new];omega,?_,?_⟩
 ·simp only[Heap.new];rw[if_neg (by omega)];exact i.res
 ·simp only[Heap.new];rw[if_neg (by omega)];exact i.at_
theorem ChI.hi{h H:Heap}{id j:Nat}{b:Bool}{x:Sx}{o:AObj}(i:ChI h id b x H)(hid:id<h.next)(hj:h.next+2≤j):ChI h id b x (H.set j o):=by
 refine⟨i.grow.set hid (by omega),i.nx,?_,?_⟩
 ·simp only[Heap.set];rw[if_neg (by omega)];exact i.res
 ·simp only[Heap.set];rw[if_neg (by omega)];exact i.at_
structure ChSm(c:Ch):Prop where
 cond:c.cond.small
 value:c.value.small
 params:c.params.length≤1048576
 args:c.args.length≤1048576
def kindB(c:Ch):Bool:=bif c.kind==1||c.kind==2 then c.value.same zeroEx else(bif c.kind==3||c.kind==4||c.kind==5 then validE c.value else false)
theorem nilL_refl: ∀ l:List PV,nilL l l
 |[]=>by simp[nilL]
 |p::l=>by simp only[nilL];exact⟨.inl rfl,nilL_refl l⟩
theorem andFm_ok:andFm.ok:=(fm_mk_ok (by decide) (by decide) (by simp) (by simp) (by simp) (by simp) (by simp) (by simp) (by simp) (by simp)).1
theorem wchange_c{h:Heap}{id:Nat}{b:Bool}{c:Ch}(hok:c.ok)(hsm:ChSm c)(hid:id<h.next)(ho:h.obj id=some (wO b)):
  PCall Tryz.prog 107 [.ptr id 0 0,.agg (chRow c)] h fun r h'=>r= .agg (chX c).cells∧h'=h.set id (wO (b||!chB c)):=by
 refine PCall.frzX Ty.hb_107 ho (wO_in _ _) ?_;obtain⟨kind,params,cond,name,args,value⟩:=c;have hns:name.size≤9223372036854775807:=by have:=hok.name;unfold bigN at this;simp only at this;omega
 have hchB:chB ⟨kind,params,cond,name,args,value⟩=((nameB name&&args.all termB)&&kindB ⟨kind,params,cond,name,args,value⟩&&(isAlw cond||validF cond)&&params.all (parB true)):=rfl;have hX2:chX ⟨kind,params,cond,name,args,value⟩=(bif params.isEmpty then ch2 ⟨kind,params,cond,name,args,value⟩else listM [wordM opAll,listM (paramsW params),ch2 ⟨kind,params,cond,name,args,value⟩]):=rfl;have hX1:ch2 ⟨kind,params,cond,name,args,value⟩=(bif isAlw cond then ch1 ⟨kind,params,cond,name,args,value⟩else listM [wordM opWhen,fmX cond,ch1 ⟨kind,params,cond,name,args,value⟩]):=rfl;have hX0:ch1 ⟨kind,params,cond,name,args,value⟩=(bif kind==1 then wordsM name args else bif kind==2 then listM [wordM opNot,wordsM name args]
  else bif kind==3||kind==4||kind==5 then listM [wordM (kwK kind),wordsM name args,exX value]else wordsM name args):=rfl
 have hK0:kindB ⟨kind,params,cond,name,args,value⟩=(bif kind==1||kind==2 then value.same zeroEx else(bif kind==3||kind==4||kind==5 then validE value else false)):=rfl;rw[hchB];have c0:=fun(z:AObj)=>watom_c (h:=h.new z) (b:=b) (first:=name) (l:=args) hns hsm.args hok.args.2 (show id<h.next+1 by omega) ((obj_new hid).trans ho);have hvs:=fun(h:Heap)=>PCall.nil2 (nilL_refl _) (b':=[.sc (.string ⟨#[]⟩),.sc (.string ⟨#[]⟩),.sc (.int .i64 0),.sc (.slice none 0 0),.sc (.slice none 0 0)]) (by
  simp only[zeroEx,Ex.cells,Ex.rows,strRows,List.map_nil,nilL];exact⟨.inl rfl,.inl rfl,.inl rfl,.inr ⟨rfl,_,rfl⟩,.inr ⟨rfl,_,rfl⟩,trivial⟩) (dsameE_c (a:=value) (b:=zeroEx) hok.value zeroEx_ok.1 h)
 have hWE:=fun h:Heap=>WriteExpr_c hok.value hsm.value h;have hXE:(if validE value then(PV.tup [.agg (exW value).cells,.sc .nilIface])else .tup [.agg zeroSx.cells,errV 2])= .tup [.agg (exX value).cells,if validE value then .sc .nilIface else errV 2]:=by
  unfold exX;cases validE value<;>rfl
 simp only at hWE;rw[hXE]at hWE;have hSame:=fun h:Heap=>fsame_c cond hok.cond andFm andFm_ok h;have hAl:cond.same andFm=isAlw cond:=rfl;rw[hAl]at hSame;have hWF:=fun(h':Heap)(b':Bool)(hid':id<h'.next)(ho':h'.obj id=some (wO b'))=>wformula_c (f:=cond) hok.cond hsm.cond hid' ho';have hWP:=fun(h':Heap)(b':Bool)(hid':id<h'.next)(ho':h'.obj id=some (wO b'))=>wparams_c (vars:=true) (l:=params) hsm.params hok.params.2 hid' ho';have hw: ∀ (s:ByteArray)(h:Heap),PCall Tryz.prog 40 [sPV s] h fun r h'=>r= .agg (wordM s).cells∧h'=h:=fun s h=>dword_c;have hpl:=pmRows_len params;have hpb0:params.isEmpty=true→params.all (parB true)=true:=by cases params<;>simp
 have hpe:params.isEmpty=decide (params.length=0):=by cases params<;>simp
 try clear zz
 clear hok hsm;generalize chX ⟨kind,params,cond,name,args,value⟩=R2 at hX2⊢;generalize ch2 ⟨kind,params,cond,name,args,value⟩=R1 at hX1 hX2;generalize ch1 ⟨kind,params,cond,name,args,value⟩=R0 at hX0 hX1;generalize kindB ⟨kind,params,cond,name,args,value⟩=kB at hK0⊢;generalize(nameB name&&args.all termB)=a1 at c0⊢;generalize value.same zeroEx=vs at hvs hK0;generalize validE value=ve at hWE hK0;generalize exX value=eX at hWE hX0;generalize isAlw cond=al at hSame hX1⊢;generalize validF cond=vf at hWF⊢;generalize fmX cond=fX at hWF hX1;generalize paramsW params=pw at hWP hX2;generalize params.all (parB true)=pb at hWP hpb0⊢;generalize wordsM name args=X0 at c0 hX0;obtain⟨gop,gna,gar,gpa,gex,gki⟩:=cond;obtain⟨eop,ena,en,ear,eki⟩:=value;generalize hF:(b||!(a1&&kB&&(al||vf)&&pb))=F;simp only[chRow,Fm.cells,Ex.cells,List.cons_append,List.nil_append,wordM,Sx.cells,Sx.rows,andFm]at hw c0 hvs hWE hWF hSame⊢;obtain⟨xk,xv,xl,xc,xt,xs⟩:=X0;simp only[Sx.cells]at c0;refine uG (ow:=fun _=>false) (wf:=fun f=>f==100||f==43) Tryz.func107 Tryz.ntmps107 Tryz.results107 Ty.hb_107 ?_;repeat'(first|refine a_seq fun K hK=>?_|refine uR trivial ?_|(refine uN hK ?_;clear hK)|apply zI)
 refine owp_useH (c0 _) (by(try simp only[Ty.w,simprocAttr,ho]);try rfl) ?_;simp(maxSteps:=2000000) only[Ty.w,simprocAttr,ho];repeat'(first|with_reducible refine a_hold 2 ?_|(refine uN hK ?_;clear hK)|apply zI)
 refine⟨?_⟩;refine a_genX (fun S H=>S 0= .ptr id 0 0∧S 3= .cptr [.sc (.int .i64 kind),.imm 2 (pmRows params),sPV gop,sPV gna,.imm 1 (strRows gar),.imm 2 (pmRows gpa),.imm 5 (Ex.rows gex),.imm 6 (Fm.rows gki),sPV name,.imm 1 (strRows args),sPV eop,sPV ena,.sc (.int .i64 en),.imm 1 (strRows ear),.imm 5 (Ex.rows eki)]∧S 4= .ptr h.next 0 0∧S 5= .ptr (h.next+1) 0 0∧ChI h id (b||!a1) (.mk xk xv xl xc xt xs) H) ⟨by simp only[Ty.w,simprocAttr],by simp only[Ty.w,simprocAttr],by simp only[Ty.w,simprocAttr],by simp only[Ty.w,simprocAttr],?_⟩ ?_
 ·refine ⟨?_,by simp only[Heap.set,Heap.new];omega,?_,?_⟩
  ·exact ((((GrowX.refl ho).new hid).put).new hid).set hid (by omega)
  ·simp only[Heap.set,Heap.new];repeat(first|rw[if_neg (by omega)]|rw[if_pos trivial])
  ·simp only[Heap.set,Heap.new,Sx.cells];repeat(first|rw[if_neg (by omega)]|rw[if_pos trivial])
 try clear zz
 clear c0;rintro S H ⟨s0,s3,s4,s5,hI⟩;refine a_cut (fun S H=>S 0= .ptr id 0 0∧S 3= .cptr [.sc (.int .i64 kind),.imm 2 (pmRows params),sPV gop,sPV gna,.imm 1 (strRows gar),.imm 2 (pmRows gpa),.imm 5 (Ex.rows gex),.imm 6 (Fm.rows gki),sPV name,.imm 1 (strRows args),sPV eop,sPV ena,.sc (.int .i64 en),.imm 1 (strRows ear),.imm 5 (Ex.rows eki)]∧S 4= .ptr h.next 0 0∧S 5= .ptr (h.next+1) 0 0∧ ∃ b1,ChI h id b1 R0 H∧b1=(b||!(a1&&kB))) ?_ ?_
 ·try clear zz
  clear hX1 hX2 hF hSame hWF hWP;have stepK: ∀ b1:Bool,b1=((b||!a1)||!kB)→b1=(b||!(a1&&kB)):=fun b1 e=>by
   rw[e];cases b<;>cases a1<;>cases kB<;>rfl
  generalize(b||!a1)=b0 at hI stepK;have hnx:=hI.nx;cases k12:(kind==1||kind==2)with
  |true=>
   have hKv:kB=vs:=(by rw[hK0,k12,cond_true]);subst hKv;(try clear zz);clear hK0;cases k1:(kind==1)with
   |true=>
    have k2:(kind==2)=false:=(by have:=eq_of_beq k1;subst this;rfl);rw[k1,cond_true]at hX0;subst hX0;have hno:=hI.grow.at_;cases b0 with
    |true=>
     replace zz:=uu s0 (uu s3 (uu s4 (uu s5 (uu k1 (uu k2 hno)))));(repeat'(first|refine a_seq fun K hK=>?_|refine a_block ?_|refine uR zz ?_|refine uK ?_|refine uC1 zz ?_|(refine uN hK ?_;clear hK)|apply zI));first
      |exact⟨true,hI.put hid,stepK _ (by simp)⟩
      |exact⟨by simp only[Ty.w,simprocAttr,s0],by simp only[Ty.w,simprocAttr,s3],by simp only[Ty.w,simprocAttr,s4],by simp only[Ty.w,simprocAttr,s5],true,hI.put hid,stepK _ (by simp)⟩
    |false=>
     replace zz:=uu s0 (uu s3 (uu s4 (uu s5 (uu k1 (uu k2 hno)))));(repeat'(first|refine a_seq fun K hK=>?_|refine uR zz ?_|refine uK ?_|refine uC1 zz ?_|(refine uN hK ?_;clear hK)|apply zI));replace zz:=uu s0 (uu s3 (uu s4 (uu s5 hno)));refine uU zz (hvs _) ?_;replace zz:=uu s0 (uu s3 (uu s4 (uu s5 (uu k1 (uu k2 hno)))));(repeat'(first|refine a_seq fun K hK=>?_|refine a_block ?_|refine uR zz ?_|refine uK ?_|(refine uN hK ?_;clear hK)|apply zI));first
      |exact⟨_,hI.put hid,stepK _ (by simp)⟩
      |exact⟨by simp only[Ty.w,simprocAttr,s0],by simp only[Ty.w,simprocAttr,s3],by simp only[Ty.w,simprocAttr,s4],by simp only[Ty.w,simprocAttr,s5],_,hI.put hid,stepK _ (by simp)⟩
   |false=>
    have k2:(kind==2)=true:=(by rw[k1,Bool.false_or]at k12;exact k12);rw[k1,k2,cond_false,cond_true]at hX0;subst hX0;have hl2:=fun h:Heap=>dlistS_c [wordM opNot,.mk xk xv xl xc xt xs] h;simp only[wordM,opNot,listM,Sx.cells,Sx.rows]at hl2;replace zz:=uu s0 (uu s3 (uu s4 (uu s5 (uu k1 k2))));(repeat'(first|with_reducible refine a_holdB 6 ?_|refine a_seq fun K hK=>?_|refine uR zz ?_|refine uC1 zz ?_|(refine uN hK ?_;clear hK)|apply zI));refine⟨?_⟩;refine a_cutK (fun S H=>S 0= .ptr id 0 0∧S 3= .cptr [.sc (.int .i64 kind),.imm 2 (pmRows params),sPV gop,sPV gna,.imm 1 (strRows gar),.imm 2 (pmRows gpa),.imm 5 (Ex.rows gex),.imm 6 (Fm.rows gki),sPV name,.imm 1 (strRows args),sPV eop,sPV ena,.sc (.int .i64 en),.imm 1 (strRows ear),.imm 5 (Ex.rows eki)]∧S 4= .ptr h.next 0 0∧S 5= .ptr (h.next+1) 0 0∧ ∃ b1,ChI h id b1 (.mk xk xv xl xc xt xs) H∧b1=(b0||!kB)) ?_ ?_
    ·have hno:=hI.grow.at_;cases b0 with
     |true=>
      replace zz:=uu s0 (uu s3 (uu s4 (uu s5 (uu k1 (uu k2 hno)))));(repeat'(first|refine uR zz ?_|apply zI));first
       |exact⟨true,hI.put hid,by simp⟩
       |exact⟨by simp only[Ty.w,simprocAttr,s0],by simp only[Ty.w,simprocAttr,s3],by simp only[Ty.w,simprocAttr,s4],by simp only[Ty.w,simprocAttr,s5],true,hI.put hid,by simp⟩
     |false=>
      replace zz:=uu s0 (uu s3 (uu s4 (uu s5 (uu k1 (uu k2 hno)))));(repeat'(first|refine uR zz ?_|apply zI));replace zz:=uu s0 (uu s3 (uu s4 (uu s5 hno)));refine uU zz (hvs _) ?_;(try apply zI);first
       |exact⟨_,hI.put hid,by simp⟩
       |exact⟨by simp only[Ty.w,simprocAttr,s0],by simp only[Ty.w,simprocAttr,s3],by simp only[Ty.w,simprocAttr,s4],by simp only[Ty.w,simprocAttr,s5],_,hI.put hid,by simp⟩
    ·(try clear zz);clear s0 s3 s4 s5 hI hnx hvs;rintro S H ⟨s0,s3,s4,s5,b1,hI,hb1⟩;refine hK _ _ ?_;(try clear zz);clear hK;have hat:=hI.at_;simp only[Sx.cells]at hat;replace zz:=uu s0 (uu s3 (uu s4 (uu s5 (uu k1 (uu k2 hat)))));(repeat'(first|refine a_seq fun K hK=>?_|refine a_block ?_|refine uR zz ?_|refine uE zz fun K hK=>?_|(refine uN hK ?_;clear hK)|apply zI));replace zz:=uu s0 (uu s3 (uu s4 (uu s5 hat)));(first|refine uV zz (hw _ _) ?_|refine uA zz (hw _ _) ?_);(try apply zI);(first|refine uV zz (hl2 _) ?_|refine uA zz (hl2 _) ?_);(repeat'(first|(refine uN hK ?_;clear hK)|refine uB zz ?_|apply zI));first
      |exact⟨b1,hI.upd hid,stepK _ hb1⟩
      |exact⟨by simp only[Ty.w,simprocAttr,s0],by simp only[Ty.w,simprocAttr,s3],by simp only[Ty.w,simprocAttr,s4],by simp only[Ty.w,simprocAttr,s5],b1,hI.upd hid,stepK _ hb1⟩
  |false=>
   have k1:(kind==1)=false:=(by revert k12;cases(kind==1)<;>simp);have k2:(kind==2)=false:=(by revert k12;cases(kind==2)<;>simp);rw[k1,k2,cond_false,cond_false]at hX0;rw[k12,cond_false]at hK0;(try clear zz);clear hvs k12;cases k345:(kind==3||kind==4||kind==5)with
   |false=>
    have k3:(kind==3)=false:=(by revert k345;cases(kind==3)<;>simp);have k4:(kind==4)=false:=(by revert k345;cases(kind==4)<;>simp);have k5:(kind==5)=false:=(by revert k345;cases(kind==5)<;>simp);rw[k345,cond_false]at hX0 hK0;subst hX0 hK0;have hno:=hI.grow.at_;replace zz:=uu s0 (uu s3 (uu s4 (uu s5 (uu k1 (uu k2 (uu k3 (uu k4 (uu k5 hno))))))));(repeat'(first|refine a_seq fun K hK=>?_|refine a_block ?_|refine uR zz ?_|refine uQ zz fun K hK=>?_|refine uC1 zz ?_|(refine uN hK ?_;clear hK)|apply zI));first
     |exact⟨true,hI.put hid,stepK _ (by simp)⟩
     |exact⟨by simp only[Ty.w,simprocAttr,s0],by simp only[Ty.w,simprocAttr,s3],by simp only[Ty.w,simprocAttr,s4],by simp only[Ty.w,simprocAttr,s5],true,hI.put hid,stepK _ (by simp)⟩
   |true=>
    rw[k345,cond_true]at hX0 hK0;subst hX0 hK0;obtain⟨ev,hev⟩: ∃ ev,ev=(if kB=true then PV.sc .nilIface else errV 2):=⟨_,rfl⟩;rw[← hev]at hWE;have hk:kind=3∨kind=4∨kind=5:=(by simpa[or_assoc]using k345);(try clear zz);clear k345 k1 k2;obtain⟨ek,ea,el,ec,et,es⟩:=eX;simp only[Sx.cells]at hWE;rcases hk with rfl|rfl|rfl
    ·have k1:((3:Int)==1)=false:=rfl;have k2:((3:Int)==2)=false:=rfl;have k3:((3:Int)==3)=true:=rfl;have k4:((3:Int)==4)=false:=rfl;have k5:((3:Int)==5)=false:=rfl;have kw:kwK 3=opAsg:=rfl;have wi:IntKind.i64.wrap ((3:Int)-3)=0:=rfl;have wj:IntKind.i64.wrap 0=0:=rfl;have hl3:=fun h:Heap=>dlistS_c [wordM opAsg,.mk xk xv xl xc xt xs,.mk ek ea el ec et es] h;simp only[wordM,opAsg,listM,Sx.cells,Sx.rows]at hl3;replace zz:=uu s0 (uu s3 (uu s4 (uu s5 (uu k1 (uu k2 (uu k3 (uu k4 k5)))))));(repeat'(first|refine a_seq fun K hK=>?_|refine uR zz ?_|refine uK ?_|refine uC1 zz ?_|(refine uN hK ?_;clear hK)|apply zI));replace zz:=uu s0 (uu s3 (uu s4 s5));refine uU zz (hWE _) ?_;replace zz:=uu s0 (uu s3 (uu s4 (uu s5 @nsucc)));(repeat'(first|with_reducible refine a_holdB 13 ?_|refine a_seq fun K hK=>?_|(refine uN hK ?_;clear hK)|apply zI));refine⟨?_⟩;refine a_genX (fun S H2=>S 0= .ptr id 0 0∧S 3= .cptr [.sc (.int .i64 3),.imm 2 (pmRows params),sPV gop,sPV gna,.imm 1 (strRows gar),.imm 2 (pmRows gpa),.imm 5 (Ex.rows gex),.imm 6 (Fm.rows gki),sPV name,.imm 1 (strRows args),sPV eop,sPV ena,.sc (.int .i64 en),.imm 1 (strRows ear),.imm 5 (Ex.rows eki)]∧S 4= .ptr h.next 0 0∧S 5= .ptr (h.next+1) 0 0∧S 6= .ptr H.next 0 0∧S 7=ev∧ChI h id b0 (.mk xk xv xl xc xt xs) H2∧H2.obj H.next=some (.arr 6 [[.sc (.int .i64 ek),.sc (.int .i64 ea),.sc (.int .i64 el),.sc (.int .i64 ec),sPV et,.imm 6 (Sx.rows es)]])) ⟨by simp only[Ty.w,simprocAttr,s0],by simp only[Ty.w,simprocAttr,s3],by simp only[Ty.w,simprocAttr,s4],by simp only[Ty.w,simprocAttr,s5],by simp only[Ty.w,simprocAttr],by simp only[Ty.w,simprocAttr],(hI.new hid).hi hid hnx,by simp only[Heap.set,if_true]⟩ ?_;obtain⟨j,hj⟩: ∃ j,j=H.next:=⟨_,rfl⟩
     rw[← hj]at hnx;(try clear zz);clear s0 s3 s4 s5 hI hWE;rw[← hj];(try clear zz);clear hj;rintro S H2 ⟨s0,s3,s4,s5,s6,s7,hI,hej⟩;refine a_cutK (fun S H2=>S 0= .ptr id 0 0∧S 3= .cptr [.sc (.int .i64 3),.imm 2 (pmRows params),sPV gop,sPV gna,.imm 1 (strRows gar),.imm 2 (pmRows gpa),.imm 5 (Ex.rows gex),.imm 6 (Fm.rows gki),sPV name,.imm 1 (strRows args),sPV eop,sPV ena,.sc (.int .i64 en),.imm 1 (strRows ear),.imm 5 (Ex.rows eki)]∧S 4= .ptr h.next 0 0∧S 5= .ptr (h.next+1) 0 0∧S 6= .ptr j 0 0∧H2.obj j=some (.arr 6 [[.sc (.int .i64 ek),.sc (.int .i64 ea),.sc (.int .i64 el),.sc (.int .i64 ec),sPV et,.imm 6 (Sx.rows es)]])∧ ∃ b1,ChI h id b1 (.mk xk xv xl xc xt xs) H2∧b1=(b0||!kB)) ?_ ?_
     ·have hno:=hI.grow.at_;have hej2: ∀ b1,(H2.set id (wO b1)).obj j=some (.arr 6 [[.sc (.int .i64 ek),.sc (.int .i64 ea),.sc (.int .i64 el),.sc (.int .i64 ec),sPV et,.imm 6 (Sx.rows es)]]):=fun b1=>by
       simp only[Heap.set];rw[if_neg (by omega)];exact hej
      cases b0 with
      |true=>
       replace zz:=uu s0 (uu s3 (uu s4 (uu s5 (uu s6 (uu s7 hno)))));(repeat'(first|refine uR zz ?_|apply zI));first
        |exact⟨hej2 _,true,hI.put hid,by simp⟩
        |exact⟨by simp only[Ty.w,simprocAttr,s0],by simp only[Ty.w,simprocAttr,s3],by simp only[Ty.w,simprocAttr,s4],by simp only[Ty.w,simprocAttr,s5],by simp only[Ty.w,simprocAttr,s6],hej2 _,true,hI.put hid,by simp⟩
      |false=>
       cases kB with
       |true=>
        simp only[if_true]at hev;subst hev;replace zz:=uu s0 (uu s3 (uu s4 (uu s5 (uu s6 (uu s7 hno)))));(repeat'(first|refine uR zz ?_|apply zI));exact⟨hej2 _,_,hI.put hid,by simp⟩
       |false=>
        simp only[Bool.false_eq_true,if_false,errV]at hev;subst hev;replace zz:=uu s0 (uu s3 (uu s4 (uu s5 (uu s6 (uu s7 hno)))));(repeat'(first|refine uR zz ?_|apply zI));exact⟨hej2 _,_,hI.put hid,by simp⟩
     ·(try clear zz);clear s0 s3 s4 s5 s6 s7 hI hej;rintro S H3 ⟨s0,s3,s4,s5,s6,hej,b1,hI,hb1⟩;refine hK _ _ ?_;(try clear zz);clear hK;have hat:=hI.at_;simp only[Sx.cells]at hat;replace zz:=uu s0 (uu s3 (uu s4 (uu s5 (uu s6 (uu hat (uu hej (uu wi wj)))))));(repeat'(first|refine uE zz fun K hK=>?_|apply zI));replace zz:=uu s0 (uu s3 (uu s4 (uu s5 (uu s6 (uu hat hej)))));(first|refine uV zz (hw _ _) ?_|refine uA zz (hw _ _) ?_);(try apply zI);(first|refine uV zz (hl3 _) ?_|refine uA zz (hl3 _) ?_);(repeat'(first|(refine uN hK ?_;clear hK)|refine uB zz ?_|apply zI));first
       |exact⟨b1,hI.upd hid,stepK _ hb1⟩
       |exact⟨by simp only[Ty.w,simprocAttr,s0],by simp only[Ty.w,simprocAttr,s3],by simp only[Ty.w,simprocAttr,s4],by simp only[Ty.w,simprocAttr,s5],b1,hI.upd hid,stepK _ hb1⟩
    ·have k1:((4:Int)==1)=false:=rfl;have k2:((4:Int)==2)=false:=rfl;have k3:((4:Int)==3)=false:=rfl;have k4:((4:Int)==4)=true:=rfl;have k5:((4:Int)==5)=false:=rfl;have kw:kwK 4=opInc:=rfl;have wi:IntKind.i64.wrap ((4:Int)-3)=1:=rfl;have wj:IntKind.i64.wrap 1=1:=rfl;have hl3:=fun h:Heap=>dlistS_c [wordM opInc,.mk xk xv xl xc xt xs,.mk ek ea el ec et es] h;simp only[wordM,opInc,listM,Sx.cells,Sx.rows]at hl3;replace zz:=uu s0 (uu s3 (uu s4 (uu s5 (uu k1 (uu k2 (uu k3 (uu k4 k5)))))));(repeat'(first|refine a_seq fun K hK=>?_|refine uR zz ?_|refine uK ?_|refine uC1 zz ?_|(refine uN hK ?_;clear hK)|apply zI));replace zz:=uu s0 (uu s3 (uu s4 s5));refine uU zz (hWE _) ?_;replace zz:=uu s0 (uu s3 (uu s4 (uu s5 @nsucc)));(repeat'(first|with_reducible refine a_holdB 13 ?_|refine a_seq fun K hK=>?_|(refine uN hK ?_;clear hK)|apply zI));refine⟨?_⟩;refine a_genX (fun S H2=>S 0= .ptr id 0 0∧S 3= .cptr [.sc (.int .i64 4),.imm 2 (pmRows params),sPV gop,sPV gna,.imm 1 (strRows gar),.imm 2 (pmRows gpa),.imm 5 (Ex.rows gex),.imm 6 (Fm.rows gki),sPV name,.imm 1 (strRows args),sPV eop,sPV ena,.sc (.int .i64 en),.imm 1 (strRows ear),.imm 5 (Ex.rows eki)]∧S 4= .ptr h.next 0 0∧S 5= .ptr (h.next+1) 0 0∧S 6= .ptr H.next 0 0∧S 7=ev∧ChI h id b0 (.mk xk xv xl xc xt xs) H2∧H2.obj H.next=some (.arr 6 [[.sc (.int .i64 ek),.sc (.int .i64 ea),.sc (.int .i64 el),.sc (.int .i64 ec),sPV et,.imm 6 (Sx.rows es)]])) ⟨by simp only[Ty.w,simprocAttr,s0],by simp only[Ty.w,simprocAttr,s3],by simp only[Ty.w,simprocAttr,s4],by simp only[Ty.w,simprocAttr,s5],by simp only[Ty.w,simprocAttr],by simp only[Ty.w,simprocAttr],(hI.new hid).hi hid hnx,by simp only[Heap.set,if_true]⟩ ?_;obtain⟨j,hj⟩: ∃ j,j=H.next:=⟨_,rfl⟩
     rw[← hj]at hnx;(try clear zz);clear s0 s3 s4 s5 hI hWE;rw[← hj];(try clear zz);clear hj;rintro S H2 ⟨s0,s3,s4,s5,s6,s7,hI,hej⟩;refine a_cutK (fun S H2=>S 0= .ptr id 0 0∧S 3= .cptr [.sc (.int .i64 4),.imm 2 (pmRows params),sPV gop,sPV gna,.imm 1 (strRows gar),.imm 2 (pmRows gpa),.imm 5 (Ex.rows gex),.imm 6 (Fm.rows gki),sPV name,.imm 1 (strRows args),sPV eop,sPV ena,.sc (.int .i64 en),.imm 1 (strRows ear),.imm 5 (Ex.rows eki)]∧S 4= .ptr h.next 0 0∧S 5= .ptr (h.next+1) 0 0∧S 6= .ptr j 0 0∧H2.obj j=some (.arr 6 [[.sc (.int .i64 ek),.sc (.int .i64 ea),.sc (.int .i64 el),.sc (.int .i64 ec),sPV et,.imm 6 (Sx.rows es)]])∧ ∃ b1,ChI h id b1 (.mk xk xv xl xc xt xs) H2∧b1=(b0||!kB)) ?_ ?_
     ·have hno:=hI.grow.at_;have hej2: ∀ b1,(H2.set id (wO b1)).obj j=some (.arr 6 [[.sc (.int .i64 ek),.sc (.int .i64 ea),.sc (.int .i64 el),.sc (.int .i64 ec),sPV et,.imm 6 (Sx.rows es)]]):=fun b1=>by
       simp only[Heap.set];rw[if_neg (by omega)];exact hej
      cases b0 with
      |true=>
       replace zz:=uu s0 (uu s3 (uu s4 (uu s5 (uu s6 (uu s7 hno)))));(repeat'(first|refine uR zz ?_|apply zI));first
        |exact⟨hej2 _,true,hI.put hid,by simp⟩
        |exact⟨by simp only[Ty.w,simprocAttr,s0],by simp only[Ty.w,simprocAttr,s3],by simp only[Ty.w,simprocAttr,s4],by simp only[Ty.w,simprocAttr,s5],by simp only[Ty.w,simprocAttr,s6],hej2 _,true,hI.put hid,by simp⟩
      |false=>
       cases kB with
       |true=>
        simp only[if_true]at hev;subst hev;replace zz:=uu s0 (uu s3 (uu s4 (uu s5 (uu s6 (uu s7 hno)))));(repeat'(first|refine uR zz ?_|apply zI));exact⟨hej2 _,_,hI.put hid,by simp⟩
       |false=>
        simp only[Bool.false_eq_true,if_false,errV]at hev;subst hev;replace zz:=uu s0 (uu s3 (uu s4 (uu s5 (uu s6 (uu s7 hno)))));(repeat'(first|refine uR zz ?_|apply zI));exact⟨hej2 _,_,hI.put hid,by simp⟩
     ·(try clear zz);clear s0 s3 s4 s5 s6 s7 hI hej;rintro S H3 ⟨s0,s3,s4,s5,s6,hej,b1,hI,hb1⟩;refine hK _ _ ?_;(try clear zz);clear hK;have hat:=hI.at_;simp only[Sx.cells]at hat;replace zz:=uu s0 (uu s3 (uu s4 (uu s5 (uu s6 (uu hat (uu hej (uu wi wj)))))));(repeat'(first|refine uE zz fun K hK=>?_|apply zI));replace zz:=uu s0 (uu s3 (uu s4 (uu s5 (uu s6 (uu hat hej)))));(first|refine uV zz (hw _ _) ?_|refine uA zz (hw _ _) ?_);(try apply zI);(first|refine uV zz (hl3 _) ?_|refine uA zz (hl3 _) ?_);(repeat'(first|(refine uN hK ?_;clear hK)|refine uB zz ?_|apply zI));first
       |exact⟨b1,hI.upd hid,stepK _ hb1⟩
       |exact⟨by simp only[Ty.w,simprocAttr,s0],by simp only[Ty.w,simprocAttr,s3],by simp only[Ty.w,simprocAttr,s4],by simp only[Ty.w,simprocAttr,s5],b1,hI.upd hid,stepK _ hb1⟩
    ·have k1:((5:Int)==1)=false:=rfl;have k2:((5:Int)==2)=false:=rfl;have k3:((5:Int)==3)=false:=rfl;have k4:((5:Int)==4)=false:=rfl;have k5:((5:Int)==5)=true:=rfl;have kw:kwK 5=opDec:=rfl;have wi:IntKind.i64.wrap ((5:Int)-3)=2:=rfl;have wj:IntKind.i64.wrap 2=2:=rfl;have hl3:=fun h:Heap=>dlistS_c [wordM opDec,.mk xk xv xl xc xt xs,.mk ek ea el ec et es] h;simp only[wordM,opDec,listM,Sx.cells,Sx.rows]at hl3;replace zz:=uu s0 (uu s3 (uu s4 (uu s5 (uu k1 (uu k2 (uu k3 (uu k4 k5)))))));(repeat'(first|refine a_seq fun K hK=>?_|refine uR zz ?_|refine uC1 zz ?_|(refine uN hK ?_;clear hK)|apply zI));replace zz:=uu s0 (uu s3 (uu s4 s5));refine uU zz (hWE _) ?_;replace zz:=uu s0 (uu s3 (uu s4 (uu s5 @nsucc)));(repeat'(first|with_reducible refine a_holdB 13 ?_|refine a_seq fun K hK=>?_|(refine uN hK ?_;clear hK)|apply zI));refine⟨?_⟩;refine a_genX (fun S H2=>S 0= .ptr id 0 0∧S 3= .cptr [.sc (.int .i64 5),.imm 2 (pmRows params),sPV gop,sPV gna,.imm 1 (strRows gar),.imm 2 (pmRows gpa),.imm 5 (Ex.rows gex),.imm 6 (Fm.rows gki),sPV name,.imm 1 (strRows args),sPV eop,sPV ena,.sc (.int .i64 en),.imm 1 (strRows ear),.imm 5 (Ex.rows eki)]∧S 4= .ptr h.next 0 0∧S 5= .ptr (h.next+1) 0 0∧S 6= .ptr H.next 0 0∧S 7=ev∧ChI h id b0 (.mk xk xv xl xc xt xs) H2∧H2.obj H.next=some (.arr 6 [[.sc (.int .i64 ek),.sc (.int .i64 ea),.sc (.int .i64 el),.sc (.int .i64 ec),sPV et,.imm 6 (Sx.rows es)]])) ⟨by simp only[Ty.w,simprocAttr,s0],by simp only[Ty.w,simprocAttr,s3],by simp only[Ty.w,simprocAttr,s4],by simp only[Ty.w,simprocAttr,s5],by simp only[Ty.w,simprocAttr],by simp only[Ty.w,simprocAttr],(hI.new hid).hi hid hnx,by simp only[Heap.set,if_true]⟩ ?_;obtain⟨j,hj⟩: ∃ j,j=H.next:=⟨_,rfl⟩
     rw[← hj]at hnx;(try clear zz);clear s0 s3 s4 s5 hI hWE;rw[← hj];(try clear zz);clear hj;rintro S H2 ⟨s0,s3,s4,s5,s6,s7,hI,hej⟩;refine a_cutK (fun S H2=>S 0= .ptr id 0 0∧S 3= .cptr [.sc (.int .i64 5),.imm 2 (pmRows params),sPV gop,sPV gna,.imm 1 (strRows gar),.imm 2 (pmRows gpa),.imm 5 (Ex.rows gex),.imm 6 (Fm.rows gki),sPV name,.imm 1 (strRows args),sPV eop,sPV ena,.sc (.int .i64 en),.imm 1 (strRows ear),.imm 5 (Ex.rows eki)]∧S 4= .ptr h.next 0 0∧S 5= .ptr (h.next+1) 0 0∧S 6= .ptr j 0 0∧H2.obj j=some (.arr 6 [[.sc (.int .i64 ek),.sc (.int .i64 ea),.sc (.int .i64 el),.sc (.int .i64 ec),sPV et,.imm 6 (Sx.rows es)]])∧ ∃ b1,ChI h id b1 (.mk xk xv xl xc xt xs) H2∧b1=(b0||!kB)) ?_ ?_
     ·have hno:=hI.grow.at_;have hej2: ∀ b1,(H2.set id (wO b1)).obj j=some (.arr 6 [[.sc (.int .i64 ek),.sc (.int .i64 ea),.sc (.int .i64 el),.sc (.int .i64 ec),sPV et,.imm 6 (Sx.rows es)]]):=fun b1=>by
       simp only[Heap.set];rw[if_neg (by omega)];exact hej
      cases b0 with
      |true=>
       replace zz:=uu s0 (uu s3 (uu s4 (uu s5 (uu s6 (uu s7 hno)))));(repeat'(first|refine uR zz ?_|apply zI));first
        |exact⟨hej2 _,true,hI.put hid,by simp⟩
        |exact⟨by simp only[Ty.w,simprocAttr,s0],by simp only[Ty.w,simprocAttr,s3],by simp only[Ty.w,simprocAttr,s4],by simp only[Ty.w,simprocAttr,s5],by simp only[Ty.w,simprocAttr,s6],hej2 _,true,hI.put hid,by simp⟩
      |false=>
       cases kB with
       |true=>
        simp only[if_true]at hev;subst hev;replace zz:=uu s0 (uu s3 (uu s4 (uu s5 (uu s6 (uu s7 hno)))));(repeat'(first|refine uR zz ?_|apply zI));exact⟨hej2 _,_,hI.put hid,by simp⟩
       |false=>
        simp only[Bool.false_eq_true,if_false,errV]at hev;subst hev;replace zz:=uu s0 (uu s3 (uu s4 (uu s5 (uu s6 (uu s7 hno)))));(repeat'(first|refine uR zz ?_|apply zI));exact⟨hej2 _,_,hI.put hid,by simp⟩
     ·(try clear zz);clear s0 s3 s4 s5 s6 s7 hI hej;rintro S H3 ⟨s0,s3,s4,s5,s6,hej,b1,hI,hb1⟩;refine hK _ _ ?_;(try clear zz);clear hK;have hat:=hI.at_;simp only[Sx.cells]at hat;replace zz:=uu s0 (uu s3 (uu s4 (uu s5 (uu s6 (uu hat (uu hej (uu wi wj)))))));(repeat'(first|refine uE zz fun K hK=>?_|apply zI));replace zz:=uu s0 (uu s3 (uu s4 (uu s5 (uu s6 (uu hat hej)))));(first|refine uV zz (hw _ _) ?_|refine uA zz (hw _ _) ?_);(try apply zI);(first|refine uV zz (hl3 _) ?_|refine uA zz (hl3 _) ?_);(repeat'(first|(refine uN hK ?_;clear hK)|refine uB zz ?_|apply zI));first
       |exact⟨b1,hI.upd hid,stepK _ hb1⟩
       |exact⟨by simp only[Ty.w,simprocAttr,s0],by simp only[Ty.w,simprocAttr,s3],by simp only[Ty.w,simprocAttr,s4],by simp only[Ty.w,simprocAttr,s5],b1,hI.upd hid,stepK _ hb1⟩
 ·try clear zz
  clear hvs hWE hX0 hK0 hI s0 s3 s4 s5;rintro S H ⟨s0,s3,s4,s5,b1,hI,hb1⟩;refine a_cut (fun S H=>S 0= .ptr id 0 0∧S 3= .cptr [.sc (.int .i64 kind),.imm 2 (pmRows params),sPV gop,sPV gna,.imm 1 (strRows gar),.imm 2 (pmRows gpa),.imm 5 (Ex.rows gex),.imm 6 (Fm.rows gki),sPV name,.imm 1 (strRows args),sPV eop,sPV ena,.sc (.int .i64 en),.imm 1 (strRows ear),.imm 5 (Ex.rows eki)]∧S 4= .ptr h.next 0 0∧S 5= .ptr (h.next+1) 0 0∧ ∃ b2,ChI h id b2 R1 H∧b2=(b1||!(al||vf))) ?_ ?_
  ·have hda:=fun h:Heap=>dalways_c (h:=h);simp only[andFm,opAnd,Fm.cells]at hda hSame;replace zz:=uu s0 (uu s3 (uu s4 s5));(repeat'(first|refine a_seq fun K hK=>?_|refine uD zz ?_|apply zI));(first|refine uV zz (hda _) ?_|refine uA zz (hda _) ?_);(try apply zI);(first|refine uV zz (hSame _) ?_|refine uA zz (hSame _) ?_);cases al with
   |true=>
    rw[cond_true]at hX1;subst hX1;replace zz:=uu s0 (uu s3 (uu s4 (uu s5 @Bool.not_true)));(repeat'(first|refine uK ?_|refine uC1 zz ?_|(refine uN hK ?_;clear hK)|apply zI));first
     |exact⟨b1,hI,by simp⟩
     |exact⟨by simp only[Ty.w,simprocAttr,s0],by simp only[Ty.w,simprocAttr,s3],by simp only[Ty.w,simprocAttr,s4],by simp only[Ty.w,simprocAttr,s5],b1,hI,by simp⟩
   |false=>
    rw[cond_false]at hX1;subst hX1;obtain⟨rk,rv,rl,rc,rt,rs⟩:=R0;obtain⟨fk,fv,fl,fc,ft,fs⟩:=fX;simp only[Sx.cells]at hWF;have hl3:=fun h:Heap=>dlistS_c [wordM opWhen,.mk fk fv fl fc ft fs,.mk rk rv rl rc rt rs] h;simp only[wordM,opWhen,listM,Sx.cells,Sx.rows]at hl3;have hat:=hI.at_;simp only[Sx.cells]at hat;have hno:=hI.grow.at_;have hnx:=hI.nx;have d1:(h.next+1=id)=False:=eq_false (by omega);replace zz:=uu s0 (uu s3 (uu s4 (uu s5 (uu @Bool.not_false hat))));(repeat'(first|refine uD zz ?_|refine uC1 zz ?_|(refine uN hK ?_;clear hK)|apply zI));replace zz:=uu s0 (uu s3 (uu s4 (uu s5 hat)));(first|refine uV zz (hw _ _) ?_|refine uA zz (hw _ _) ?_);(try apply zI);refine a_dcallW (hWF H b1 (by omega) hno) (by(try simp only[Ty.w,simprocAttr,s0,s3,s4,s5]);try rfl) (by
     try simp only[Ty.w,simprocAttr,pastC,List.map_cons,List.map_nil,List.forall_mem_cons]
     (repeat' apply And.intro)<;>first
      |trivial
      |exact .inl (by decide+kernel)
      |exact .inr (Does_use (hw _ _) (by(try simp only[Ty.w,simprocAttr]);try rfl))) ?_
    simp(maxSteps:=2000000) only[Ty.w,simprocAttr,Ty.all,Option.getD_some,s0,s3,s4,s5,hat,d1];replace zz:=uu s0 (uu s3 (uu s4 (uu s5 (uu hat d1))));(repeat'(first|refine uB zz ?_|apply zI));refine a_dcallA (hl3 _) (by(try simp only[Ty.w,simprocAttr,s0,s3,s4,s5,hat,d1]);try rfl) (by first|exact .inl (by decide+kernel)|exact⟨.inl (by decide+kernel),trivial⟩|(simp only[List.forall_mem_cons];exact⟨.inl (by decide+kernel),fun _ hx=>by cases hx⟩)) ?_;simp(maxSteps:=2000000) only[Ty.w,simprocAttr,Ty.all,Option.getD_some,s0,s3,s4,s5,hat,d1];replace zz:=uu s0 (uu s3 (uu s4 (uu s5 (uu hat d1))));(repeat'(first|refine uB zz ?_|apply zI));first
     |exact⟨b1||!vf,(hI.put hid).upd hid,by simp⟩
     |exact⟨by simp only[Ty.w,simprocAttr,s0],by simp only[Ty.w,simprocAttr,s3],by simp only[Ty.w,simprocAttr,s4],by simp only[Ty.w,simprocAttr,s5],b1||!vf,(hI.put hid).upd hid,by simp⟩
  ·(try clear zz);clear hSame hWF hX1 hI s0 s3 s4 s5;rintro S H ⟨s0,s3,s4,s5,b2,hI,hb2⟩;have hfin:(b2||!pb)=F:=by
    rw[hb2,hb1, ← hF];cases b<;>cases a1<;>cases kB<;>cases al<;>cases vf<;>cases pb<;>rfl
   (try clear zz);clear hb1 hb2 hF;have hat:=hI.at_;have hno:=hI.grow.at_;have hnx:=hI.nx;have hrs:=hI.res;have d1:(h.next+1=id)=False:=eq_false (by omega);have d2:(h.next+1=h.next)=False:=eq_false (by omega);have d3:(h.next=h.next+1)=False:=eq_false (by omega);have d4:(h.next=id)=False:=eq_false (by omega);have fin: ∀ (X:Sx)(H:Heap),ChI h id F X H→FrzTo h.next (H.set h.next (.arr 6 [X.cells])) (.agg X.cells) (.agg X.cells)∧GrowX h id (wO F) (H.set h.next (.arr 6 [X.cells])):=fun X H i=>⟨by
    simp only[FrzTo];exact⟨_,rfl,sx_frz _ _ _⟩,i.grow.set hid (Nat.le_refl _)⟩
   obtain⟨rk,rv,rl,rc,rt,rs⟩:=R1;simp only[Sx.cells]at hat;cases hpn:decide ((params.length:Int)>0)with
   |false=>
    have e0:params.isEmpty=true:=by
     have h0:params.length=0:=(by have:=of_decide_eq_false hpn;omega);rw[hpe,h0];try rfl
    have hpb:pb=true:=hpb0 e0;rw[e0,cond_true]at hX2;subst hX2;rw[hpb,Bool.not_true,Bool.or_false]at hfin;subst hfin;have hf:=fin _ _ hI;simp only[Sx.cells]at hf;replace zz:=uu s0 (uu s3 (uu s4 (uu s5 (uu hpl (uu hpn (uu hat (uu hrs d2)))))));(repeat'(first|refine a_seq fun K hK=>?_|refine uR zz ?_|refine uT zz ?_|refine uK ?_|refine uC1 zz ?_|(refine uN hK ?_;clear hK)|apply zI));exact hf
   |true=>
    have e0:params.isEmpty=false:=by
     have h0:¬ params.length=0:=(by have:=of_decide_eq_true hpn;omega);rw[hpe];exact decide_eq_false h0
    rw[e0,cond_false]at hX2;subst hX2;have hl2:=fun h:Heap=>dlistS_c pw h;have hl3:=fun h:Heap=>dlistS_c [wordM opAll,listM pw,.mk rk rv rl rc rt rs] h;simp only[wordM,opAll,listM,Sx.cells,Sx.rows]at hl2 hl3;have hf:=fun i=>fin (listM [wordM opAll,listM pw,.mk rk rv rl rc rt rs]) ((H.set id (wO F)).set (h.next+1) (.arr 6 [(listM [wordM opAll,listM pw,.mk rk rv rl rc rt rs]).cells])) i;have hf:=hf ((hI.put hid).upd hid);simp only[wordM,opAll,listM,Sx.cells,Sx.rows]at hf;replace zz:=uu s0 (uu s3 (uu s4 (uu s5 (uu hpl (uu hpn hat)))));(repeat'(first|refine a_seq fun K hK=>?_|refine uR zz ?_|refine uD zz ?_|refine uC1 zz ?_|(refine uN hK ?_;clear hK)|apply zI));replace zz:=uu s0 (uu s3 (uu s4 (uu s5 hat)));(first|refine uV zz (hw _ _) ?_|refine uA zz (hw _ _) ?_);(try apply zI);refine a_dcallW (hWP H b2 (by omega) hno) (by(try simp only[Ty.w,simprocAttr,s0,s3,s4,s5]);try rfl) (by
     try simp only[Ty.w,simprocAttr,pastC,List.map_cons,List.map_nil,List.forall_mem_cons]
     (repeat' apply And.intro)<;>first
      |trivial
      |exact .inl (by decide+kernel)
      |exact .inr (Does_use (hw _ _) (by(try simp only[Ty.w,simprocAttr]);try rfl))) ?_
    simp(maxSteps:=2000000) only[Ty.w,simprocAttr,Ty.all,Option.getD_some,s0,s3,s4,s5,hat,d1];(try apply zI);refine a_dcallA (hl2 _) (by(try simp only[Ty.w,simprocAttr,s0,s3,s4,s5,hat,d1]);try rfl) (by first|exact .inl (by decide+kernel)|exact⟨.inl (by decide+kernel),trivial⟩|(simp only[List.forall_mem_cons];exact⟨.inl (by decide+kernel),fun _ hx=>by cases hx⟩)) ?_;simp(maxSteps:=2000000) only[Ty.w,simprocAttr,Ty.all,Option.getD_some,s0,s3,s4,s5,hat,d1];replace zz:=uu s0 (uu s3 (uu s4 (uu s5 (uu hat d1))));(repeat'(first|refine uB zz ?_|apply zI));refine a_dcallA (hl3 _) (by(try simp only[Ty.w,simprocAttr,s0,s3,s4,s5,hat,d1]);try rfl) (by first|exact .inl (by decide+kernel)|exact⟨.inl (by decide+kernel),trivial⟩|(simp only[List.forall_mem_cons];exact⟨.inl (by decide+kernel),fun _ hx=>by cases hx⟩)) ?_;simp(maxSteps:=2000000) only[Ty.w,simprocAttr,Ty.all,Option.getD_some,s0,s3,s4,s5,hat,d1];replace zz:=uu s0 (uu s3 (uu s4 (uu s5 (uu hat (uu d1 (uu d2 (uu d3 (uu d4 hrs))))))));(repeat'(first|refine a_seq fun K hK=>?_|refine uR zz ?_|refine uT zz ?_|(refine uN hK ?_;clear hK)|refine uB zz ?_|apply zI));rw[hfin];exact hf
end Go.Proofs.YtblgchkahpgdjaaGreat
