/- What the claim rests on, part 7: the abstract machine, contracts of the functions, plain data. -/
import Derived.Test.YtjeolbgpllbemaaGreatZp6
set_option linter.unusedVariables false
set_option linter.unusedSimpArgs false
set_option linter.unusedSectionVars false
namespace Go.Proofs.YtjeolbgpllbemaaGreat
open Go.AM
set_option maxHeartbeats 8000000
set_option maxRecDepth 20000
def pmR(v:Bool)(p:Pm):Bool:=(if v=true then varB p.name else nameB p.name)&&typedB p.type
theorem pmR_ok:pmR true=pmOk:=rfl
theorem a_genR{P:Program}{ow:Nat→Bool}{wf:FuncId→Bool}{n:Nat}{Q:Post}{s:Slots}{h:Heap}{c:Code}(I:Slots→Heap→Prop)(hi:I s h)(hh: ∀ s h,I s h→awp P ow wf n c Q s h):awp P ow wf n c Q s h:=hh _ _ hi
theorem rshapedPs_c{v:Bool}{l:List Pm}(hl:l.length≤bigN)(hp: ∀ p∈l,p.ok)(h:Heap):PCall Tryz.prog 32 [.imm 2 (pmRows l),.sc (.bool v)] h fun r h'=>r= .sc (.bool (l.all (pmR v)))∧h'=h:=by
 unfold bigN at hl;have hlen:=pmRows_len l;cases v with
 |true=>
  refine uG0 Tryz.func32 Tryz.ntmps32 Tryz.results32 Ty.hb_32 ?_;repeat'(first|refine a_seq fun K hK=>?_|refine a_block ?_|refine uR hlen ?_|(refine uN hK ?_;clear hK)|apply zI)
  refine a_loop (fun m S h'=>h'=h∧S 0= .imm 2 (pmRows l)∧S 1= .sc (.bool true)∧ ∃ k:Nat,S 5= .sc (.int .i64 k)∧k≤l.length∧m=l.length-k∧l.all (pmR true)=(l.drop k).all (pmR true)) l.length ?_ ?_
  ·simp only[Ty.w,simprocAttr];exact⟨0,rfl,by omega,rfl,by simp⟩
  ·rintro m S h' ⟨rfl,g0,g1,k,g5,hk,rfl,hinv⟩;by_cases hlt:k<l.length
   ·have hd:decide ((k:Int)<(l.length:Int))=true:=(by simp;omega);have w7:IntKind.i64.wrap ((k:Int)+1)=k+1:=(by rw[wrap64 (by omega) (by omega)]);obtain⟨p,hx⟩: ∃ p,l[k]? =some p:=⟨l[k],List.getElem?_eq_getElem hlt⟩;have hr:=pmRows_get hx;have hpo:=hp p (List.mem_of_getElem? hx);have h1:p.name.size≤9223372036854775807:=(by have:=hpo.1;unfold bigN at this;omega);have h2:p.type.size≤9223372036854775807:=(by have:=hpo.2;unfold bigN at this;omega);have hc:=fun h:Heap=>rvariable_c (h:=h) (s:=p.name) h1;have hc2:=fun h:Heap=>rname_c (h:=h) (s:=p.type) h2;rw[drop_of_get hx,List.all_cons]at hinv;have hq:pmR true p=(varB p.name&&(nameB p.type||(p.type.data.toList==(#[111,98,106,101,99,116]:Array UInt8).toList))):=rfl;rw[hq]at hinv;(try clear zz);clear hq;generalize varB p.name=b at hc hinv;generalize nameB p.type=b2 at hc2 hinv;cases b with
    |false=>
     simp only[Bool.false_and]at hinv;(repeat'(first|refine a_seq fun K hK=>?_|(refine a_regionS ?_;simp(maxSteps:=2000000) only[Ty.w,simprocAttr,g0,g1,g5,hd,hr,bne,Bool.not_true,Bool.not_false])|(refine a_skip ?_;(try simp only[pst0,simprocAttr]))|(refine a_cond _ (by(try simp(maxSteps:=2000000) only[Ty.w,simprocAttr,g0,g1,g5,hd,hr,bne,Bool.not_true,Bool.not_false]);rfl) (fun hb=>?_) (fun hb=>?_)<;>(try simp only[hb0,decide_eq_true_eq,decide_eq_false_iff_not,simprocAttr]at hb)<;>(try(exfalso;omega)))|(refine hK _ _ ?_;clear hK;(try simp only[pst0,simprocAttr]))));refine owp_useQ (hc _) (by(try simp only[Ty.w,simprocAttr,g0,g1,g5,hd,hr,bne,Bool.not_true,Bool.not_false]);try rfl) ?_;simp(maxSteps:=2000000) only[Ty.w,simprocAttr,g0,g1,g5,hd,hr,bne,Bool.not_true,Bool.not_false];(repeat'(first|refine a_seq fun K hK=>?_|((first|refine a_regionS ?_|refine a_ret ?_);simp(maxSteps:=2000000) only[Ty.w,simprocAttr,g0,g1,g5,hd,hr,bne,Bool.not_true,Bool.not_false])|(refine hK _ _ ?_;clear hK;(try simp only[pst0,simprocAttr]))));rw[hinv]
    |true=>
     cases q:(p.type.data.toList==(#[111,98,106,101,99,116]:Array UInt8).toList)with
     |true=>
      simp only[q,Bool.or_true,Bool.true_and]at hinv;(repeat'(first|refine a_seq fun K hK=>?_|(refine a_regionS ?_;simp(maxSteps:=2000000) only[Ty.w,simprocAttr,g0,g1,g5,hd,hr,bne,Bool.not_true,Bool.not_false,q])|(refine a_skip ?_;(try simp only[pst0,simprocAttr]))|(refine a_cond _ (by(try simp(maxSteps:=2000000) only[Ty.w,simprocAttr,g0,g1,g5,hd,hr,bne,Bool.not_true,Bool.not_false,q]);rfl) (fun hb=>?_) (fun hb=>?_)<;>(try simp only[hb0,decide_eq_true_eq,decide_eq_false_iff_not,simprocAttr]at hb)<;>(try(exfalso;omega)))|(refine hK _ _ ?_;clear hK;(try simp only[pst0,simprocAttr]))));refine owp_useQ (hc _) (by(try simp only[Ty.w,simprocAttr,g0,g1,g5,hd,hr,bne,Bool.not_true,Bool.not_false,q]);try rfl) ?_;simp(maxSteps:=2000000) only[Ty.w,simprocAttr,g0,g1,g5,hd,hr,bne,Bool.not_true,Bool.not_false,q];(repeat'(first|(refine a_block ?_)|(refine a_regionS ?_;simp(maxSteps:=2000000) only[Ty.w,simprocAttr,g0,g1,g5,hd,hr,bne,Bool.not_true,Bool.not_false,q,w7])|(refine a_skip ?_;(try simp only[pst0,simprocAttr]))|(refine hK _ _ ?_;clear hK;(try simp only[pst0,simprocAttr]))));exact⟨l.length-(k+1),by omega,k+1,by simp,by omega,rfl,hinv⟩
     |false=>
      cases b2 with
      |false=>
       simp only[q,Bool.or_false,Bool.false_and,Bool.and_false]at hinv;(repeat'(first|refine a_seq fun K hK=>?_|(refine a_regionS ?_;simp(maxSteps:=2000000) only[Ty.w,simprocAttr,g0,g1,g5,hd,hr,bne,Bool.not_true,Bool.not_false,q])|(refine a_skip ?_;(try simp only[pst0,simprocAttr]))|(refine a_cond _ (by(try simp(maxSteps:=2000000) only[Ty.w,simprocAttr,g0,g1,g5,hd,hr,bne,Bool.not_true,Bool.not_false,q]);rfl) (fun hb=>?_) (fun hb=>?_)<;>(try simp only[hb0,decide_eq_true_eq,decide_eq_false_iff_not,simprocAttr]at hb)<;>(try(exfalso;omega)))|(refine hK _ _ ?_;clear hK;(try simp only[pst0,simprocAttr]))));refine owp_useQ (hc _) (by(try simp only[Ty.w,simprocAttr,g0,g1,g5,hd,hr,bne,Bool.not_true,Bool.not_false,q]);try rfl) ?_;simp(maxSteps:=2000000) only[Ty.w,simprocAttr,g0,g1,g5,hd,hr,bne,Bool.not_true,Bool.not_false,q];skip
       refine owp_useQ (hc2 _) (by(try simp only[Ty.w,simprocAttr,g0,g1,g5,hd,hr,bne,Bool.not_true,Bool.not_false,q]);try rfl) ?_;simp(maxSteps:=2000000) only[Ty.w,simprocAttr,g0,g1,g5,hd,hr,bne,Bool.not_true,Bool.not_false,q];(repeat'(first|refine a_seq fun K hK=>?_|((first|refine a_regionS ?_|refine a_ret ?_);simp(maxSteps:=2000000) only[Ty.w,simprocAttr,g0,g1,g5,hd,hr,bne,Bool.not_true,Bool.not_false,q])|(refine hK _ _ ?_;clear hK;(try simp only[pst0,simprocAttr]))));rw[hinv]
      |true=>
       simp only[q,Bool.or_false,Bool.true_and]at hinv;(repeat'(first|refine a_seq fun K hK=>?_|(refine a_regionS ?_;simp(maxSteps:=2000000) only[Ty.w,simprocAttr,g0,g1,g5,hd,hr,bne,Bool.not_true,Bool.not_false,q])|(refine a_skip ?_;(try simp only[pst0,simprocAttr]))|(refine a_cond _ (by(try simp(maxSteps:=2000000) only[Ty.w,simprocAttr,g0,g1,g5,hd,hr,bne,Bool.not_true,Bool.not_false,q]);rfl) (fun hb=>?_) (fun hb=>?_)<;>(try simp only[hb0,decide_eq_true_eq,decide_eq_false_iff_not,simprocAttr]at hb)<;>(try(exfalso;omega)))|(refine hK _ _ ?_;clear hK;(try simp only[pst0,simprocAttr]))));refine owp_useQ (hc _) (by(try simp only[Ty.w,simprocAttr,g0,g1,g5,hd,hr,bne,Bool.not_true,Bool.not_false,q]);try rfl) ?_;simp(maxSteps:=2000000) only[Ty.w,simprocAttr,g0,g1,g5,hd,hr,bne,Bool.not_true,Bool.not_false,q];skip
       refine owp_useQ (hc2 _) (by(try simp only[Ty.w,simprocAttr,g0,g1,g5,hd,hr,bne,Bool.not_true,Bool.not_false,q]);try rfl) ?_;simp(maxSteps:=2000000) only[Ty.w,simprocAttr,g0,g1,g5,hd,hr,bne,Bool.not_true,Bool.not_false,q];(repeat'(first|(refine a_block ?_)|(refine a_regionS ?_;simp(maxSteps:=2000000) only[Ty.w,simprocAttr,g0,g1,g5,hd,hr,bne,Bool.not_true,Bool.not_false,q,w7])|(refine a_skip ?_;(try simp only[pst0,simprocAttr]))|(refine hK _ _ ?_;clear hK;(try simp only[pst0,simprocAttr]))));exact⟨l.length-(k+1),by omega,k+1,by simp,by omega,rfl,hinv⟩
   ·have hd:decide ((k:Int)<(l.length:Int))=false:=(by simp;omega);rw[List.drop_eq_nil_of_le (by omega)]at hinv;replace zz:=uu g0 (uu g1 (uu g5 (uu hlen hd)));(repeat'(first|refine a_seq fun K hK=>?_|refine uR zz ?_|refine uT zz ?_|refine uX ?_|refine uC1 zz ?_|(refine uN hK ?_;clear hK)|(clear hK;refine uN hK ?_;clear hK)|apply zI));rw[hinv];try rfl
 |false=>
  refine uG0 Tryz.func32 Tryz.ntmps32 Tryz.results32 Ty.hb_32 ?_;repeat'(first|refine a_seq fun K hK=>?_|refine a_block ?_|refine uR hlen ?_|(refine uN hK ?_;clear hK)|apply zI)
  refine a_loop (fun m S h'=>h'=h∧S 0= .imm 2 (pmRows l)∧S 1= .sc (.bool false)∧ ∃ k:Nat,S 5= .sc (.int .i64 k)∧k≤l.length∧m=l.length-k∧l.all (pmR false)=(l.drop k).all (pmR false)) l.length ?_ ?_
  ·simp only[Ty.w,simprocAttr];exact⟨0,rfl,by omega,rfl,by simp⟩
  ·rintro m S h' ⟨rfl,g0,g1,k,g5,hk,rfl,hinv⟩;by_cases hlt:k<l.length
   ·have hd:decide ((k:Int)<(l.length:Int))=true:=(by simp;omega);have w7:IntKind.i64.wrap ((k:Int)+1)=k+1:=(by rw[wrap64 (by omega) (by omega)]);obtain⟨p,hx⟩: ∃ p,l[k]? =some p:=⟨l[k],List.getElem?_eq_getElem hlt⟩;have hr:=pmRows_get hx;have hpo:=hp p (List.mem_of_getElem? hx);have h1:p.name.size≤9223372036854775807:=(by have:=hpo.1;unfold bigN at this;omega);have h2:p.type.size≤9223372036854775807:=(by have:=hpo.2;unfold bigN at this;omega);have hc:=fun h:Heap=>rname_c (h:=h) (s:=p.name) h1;have hc2:=fun h:Heap=>rname_c (h:=h) (s:=p.type) h2;rw[drop_of_get hx,List.all_cons]at hinv;have hq:pmR false p=(nameB p.name&&(nameB p.type||(p.type.data.toList==(#[111,98,106,101,99,116]:Array UInt8).toList))):=rfl;rw[hq]at hinv;(try clear zz);clear hq;generalize nameB p.name=b at hc hinv;generalize nameB p.type=b2 at hc2 hinv;cases b with
    |false=>
     simp only[Bool.false_and]at hinv;(repeat'(first|refine a_seq fun K hK=>?_|(refine a_regionS ?_;simp(maxSteps:=2000000) only[Ty.w,simprocAttr,g0,g1,g5,hd,hr,bne,Bool.not_true,Bool.not_false])|(refine a_skip ?_;(try simp only[pst0,simprocAttr]))|(refine a_cond _ (by(try simp(maxSteps:=2000000) only[Ty.w,simprocAttr,g0,g1,g5,hd,hr,bne,Bool.not_true,Bool.not_false]);rfl) (fun hb=>?_) (fun hb=>?_)<;>(try simp only[hb0,decide_eq_true_eq,decide_eq_false_iff_not,simprocAttr]at hb)<;>(try(exfalso;omega)))|(refine hK _ _ ?_;clear hK;(try simp only[pst0,simprocAttr]))));refine owp_useQ (hc _) (by(try simp only[Ty.w,simprocAttr,g0,g1,g5,hd,hr,bne,Bool.not_true,Bool.not_false]);try rfl) ?_;simp(maxSteps:=2000000) only[Ty.w,simprocAttr,g0,g1,g5,hd,hr,bne,Bool.not_true,Bool.not_false];(repeat'(first|refine a_seq fun K hK=>?_|((first|refine a_regionS ?_|refine a_ret ?_);simp(maxSteps:=2000000) only[Ty.w,simprocAttr,g0,g1,g5,hd,hr,bne,Bool.not_true,Bool.not_false])|(refine hK _ _ ?_;clear hK;(try simp only[pst0,simprocAttr]))));rw[hinv]
    |true=>
     cases q:(p.type.data.toList==(#[111,98,106,101,99,116]:Array UInt8).toList)with
     |true=>
      simp only[q,Bool.or_true,Bool.true_and]at hinv;(repeat'(first|refine a_seq fun K hK=>?_|(refine a_regionS ?_;simp(maxSteps:=2000000) only[Ty.w,simprocAttr,g0,g1,g5,hd,hr,bne,Bool.not_true,Bool.not_false,q])|(refine a_skip ?_;(try simp only[pst0,simprocAttr]))|(refine a_cond _ (by(try simp(maxSteps:=2000000) only[Ty.w,simprocAttr,g0,g1,g5,hd,hr,bne,Bool.not_true,Bool.not_false,q]);rfl) (fun hb=>?_) (fun hb=>?_)<;>(try simp only[hb0,decide_eq_true_eq,decide_eq_false_iff_not,simprocAttr]at hb)<;>(try(exfalso;omega)))|(refine hK _ _ ?_;clear hK;(try simp only[pst0,simprocAttr]))));refine owp_useQ (hc _) (by(try simp only[Ty.w,simprocAttr,g0,g1,g5,hd,hr,bne,Bool.not_true,Bool.not_false,q]);try rfl) ?_;simp(maxSteps:=2000000) only[Ty.w,simprocAttr,g0,g1,g5,hd,hr,bne,Bool.not_true,Bool.not_false,q];(repeat'(first|(refine a_block ?_)|(refine a_regionS ?_;simp(maxSteps:=2000000) only[Ty.w,simprocAttr,g0,g1,g5,hd,hr,bne,Bool.not_true,Bool.not_false,q,w7])|(refine a_skip ?_;(try simp only[pst0,simprocAttr]))|(refine hK _ _ ?_;clear hK;(try simp only[pst0,simprocAttr]))));exact⟨l.length-(k+1),by omega,k+1,by simp,by omega,rfl,hinv⟩
     |false=>
      cases b2 with
      |false=>
       simp only[q,Bool.or_false,Bool.false_and,Bool.and_false]at hinv;(repeat'(first|refine a_seq fun K hK=>?_|(refine a_regionS ?_;simp(maxSteps:=2000000) only[Ty.w,simprocAttr,g0,g1,g5,hd,hr,bne,Bool.not_true,Bool.not_false,q])|(refine a_skip ?_;(try simp only[pst0,simprocAttr]))|(refine a_cond _ (by(try simp(maxSteps:=2000000) only[Ty.w,simprocAttr,g0,g1,g5,hd,hr,bne,Bool.not_true,Bool.not_false,q]);rfl) (fun hb=>?_) (fun hb=>?_)<;>(try simp only[hb0,decide_eq_true_eq,decide_eq_false_iff_not,simprocAttr]at hb)<;>(try(exfalso;omega)))|(refine hK _ _ ?_;clear hK;(try simp only[pst0,simprocAttr]))));refine owp_useQ (hc _) (by(try simp only[Ty.w,simprocAttr,g0,g1,g5,hd,hr,bne,Bool.not_true,Bool.not_false,q]);try rfl) ?_;simp(maxSteps:=2000000) only[Ty.w,simprocAttr,g0,g1,g5,hd,hr,bne,Bool.not_true,Bool.not_false,q];skip
       refine owp_useQ (hc2 _) (by(try simp only[Ty.w,simprocAttr,g0,g1,g5,hd,hr,bne,Bool.not_true,Bool.not_false,q]);try rfl) ?_;simp(maxSteps:=2000000) only[Ty.w,simprocAttr,g0,g1,g5,hd,hr,bne,Bool.not_true,Bool.not_false,q];(repeat'(first|refine a_seq fun K hK=>?_|((first|refine a_regionS ?_|refine a_ret ?_);simp(maxSteps:=2000000) only[Ty.w,simprocAttr,g0,g1,g5,hd,hr,bne,Bool.not_true,Bool.not_false,q])|(refine hK _ _ ?_;clear hK;(try simp only[pst0,simprocAttr]))));rw[hinv]
      |true=>
       simp only[q,Bool.or_false,Bool.true_and]at hinv;(repeat'(first|refine a_seq fun K hK=>?_|(refine a_regionS ?_;simp(maxSteps:=2000000) only[Ty.w,simprocAttr,g0,g1,g5,hd,hr,bne,Bool.not_true,Bool.not_false,q])|(refine a_skip ?_;(try simp only[pst0,simprocAttr]))|(refine a_cond _ (by(try simp(maxSteps:=2000000) only[Ty.w,simprocAttr,g0,g1,g5,hd,hr,bne,Bool.not_true,Bool.not_false,q]);rfl) (fun hb=>?_) (fun hb=>?_)<;>(try simp only[hb0,decide_eq_true_eq,decide_eq_false_iff_not,simprocAttr]at hb)<;>(try(exfalso;omega)))|(refine hK _ _ ?_;clear hK;(try simp only[pst0,simprocAttr]))));refine owp_useQ (hc _) (by(try simp only[Ty.w,simprocAttr,g0,g1,g5,hd,hr,bne,Bool.not_true,Bool.not_false,q]);try rfl) ?_;simp(maxSteps:=2000000) only[Ty.w,simprocAttr,g0,g1,g5,hd,hr,bne,Bool.not_true,Bool.not_false,q];skip
       refine owp_useQ (hc2 _) (by(try simp only[Ty.w,simprocAttr,g0,g1,g5,hd,hr,bne,Bool.not_true,Bool.not_false,q]);try rfl) ?_;simp(maxSteps:=2000000) only[Ty.w,simprocAttr,g0,g1,g5,hd,hr,bne,Bool.not_true,Bool.not_false,q];(repeat'(first|(refine a_block ?_)|(refine a_regionS ?_;simp(maxSteps:=2000000) only[Ty.w,simprocAttr,g0,g1,g5,hd,hr,bne,Bool.not_true,Bool.not_false,q,w7])|(refine a_skip ?_;(try simp only[pst0,simprocAttr]))|(refine hK _ _ ?_;clear hK;(try simp only[pst0,simprocAttr]))));exact⟨l.length-(k+1),by omega,k+1,by simp,by omega,rfl,hinv⟩
   ·have hd:decide ((k:Int)<(l.length:Int))=false:=(by simp;omega);rw[List.drop_eq_nil_of_le (by omega)]at hinv;replace zz:=uu g0 (uu g1 (uu g5 (uu hlen hd)));(repeat'(first|refine a_seq fun K hK=>?_|refine uR zz ?_|refine uT zz ?_|refine uX ?_|refine uC1 zz ?_|(refine uN hK ?_;clear hK)|(clear hK;refine uN hK ?_;clear hK)|apply zI));rw[hinv];try rfl
theorem rshapedF_c: ∀ f:Fm,f.ok→ ∀ h:Heap,PCall Tryz.prog 33 [.agg f.cells] h fun r h'=>r= .sc (.bool (shapedF f))∧h'=h:=by
 refine Fm.ind ?_;intro op name args params exprs kids ih hok h;simp only[Fm.ok]at hok;obtain⟨_,hnm,⟨hal,hargs⟩,⟨hpl,hps⟩,⟨hel,hes⟩,hkl,hks⟩:=hok;rw[Ex.oks_iff]at hes;rw[Fm.oks_iff]at hks;have hnm':name.size≤9223372036854775807:=by unfold bigN at hnm;omega
 have hP:=fun h:Heap=>rshapedPs_c (v:=true) hpl hps h;rw[pmR_ok]at hP;have hA:=fun h:Heap=>rall_c (h:=h) hal hargs;have hN:=fun h:Heap=>rname_c (h:=h) (s:=name) hnm';unfold bigN at hal hpl hel hkl;have hlA:=strRows_len args;have hlP:=pmRows_len params;have hlE:=Ex.rows_len exprs;have hlK:=Fm.rows_len kids;have hbK: ∀ k∈kids,shapedF k=false→shapedF (.mk op name args params exprs kids)=false:=fun k hk hf=>by
  cases hh:shapedF (.mk op name args params exprs kids)with
  |false=>rfl
  |true=>rw[(shapedF_kid hh).2 k hk]at hf;simp at hf
 have hbE: ∀ e∈exprs,shapedE e=false→shapedF (.mk op name args params exprs kids)=false:=fun k hk hf=>by
  cases hh:shapedF (.mk op name args params exprs kids)with
  |false=>rfl
  |true=>rw[(shapedF_kid hh).1 k hk]at hf;simp at hf
 have hop:(∀ e∈exprs,shapedE e=true)→(∀ k∈kids,shapedF k=true)→shapedF (.mk op name args params exprs kids)=opF op name args params exprs.length kids.length:=shapedF_op;generalize shapedF (.mk op name args params exprs kids)=F at hbK hbE hop;simp only[Fm.cells];refine uG0 Tryz.func33 Tryz.ntmps33 Tryz.results33 Ty.hb_33 ?_;repeat'(first|refine a_seq fun K hK=>?_|refine a_block ?_|refine uR hlK ?_|(refine uN hK ?_;clear hK)|apply zI)
 refine a_loop (fun m S h'=>h'=h∧S 1= .cptr (Fm.mk op name args params exprs kids).cells∧ ∃ k:Nat,S 3= .sc (.int .i64 k)∧k≤kids.length∧m=kids.length-k∧ ∀ (i:Nat)(e:Fm),i<k→kids[i]? =some e→shapedF e=true) kids.length ?_ ?_
 ·simp only[Ty.w,simprocAttr];exact⟨rfl,0,rfl,by omega,rfl,by omega⟩
 ·rintro m S h' ⟨rfl,g1,k,g3,hkk,rfl,hall⟩;simp only[Fm.cells]at g1;by_cases hlt:k<kids.length
  ·(try clear zz);clear hop hbE;have hd:decide ((k:Int)<(kids.length:Int))=true:=(by simp;omega);have w7:IntKind.i64.wrap ((k:Int)+1)=k+1:=(by rw[wrap64 (by omega) (by omega)]);obtain⟨e,hx⟩: ∃ e,kids[k]? =some e:=⟨_,List.getElem?_eq_getElem hlt⟩;have hmem:=List.mem_of_getElem? hx;have hc:=ih e hmem (hks e hmem);have hr:=Fm.rows_get hx;have hbad:=hbK e hmem;have hgood:shapedF e=true→ ∀ (i:Nat)(e:Fm),i<k+1→kids[i]? =some e→shapedF e=true:=fun h1 i e2 hi hw=>by
    by_cases hik:i=k
    ·subst hik;rw[hx]at hw;simp at hw;rw[← hw];exact h1
    ·exact hall i e2 (by omega) hw
   generalize shapedF e=b at hc hbad hgood;(try clear zz);clear hbK hall;obtain⟨o2,n2,a2,p2,e2,k2⟩:=e;simp only[Fm.cells]at hr hc;cases b with
   |false=>
    have:=hbad rfl;subst this;replace zz:=uu g1 (uu g3 (uu hlK (uu hd (uu hr w7))));(repeat'(first|refine a_seq fun K hK=>?_|refine uR zz ?_|refine uK ?_|refine uC1 zz ?_|(refine uN hK ?_;clear hK)|apply zI));replace zz:=uu g1 (uu g3 (uu hlK (uu hd (uu hr @Bool.not_false))));refine uU zz (hc _) ?_;replace zz:=uu g1 (uu g3 (uu w7 @Bool.not_false));repeat'(first|refine a_seq fun K hK=>?_|refine uR zz ?_|refine uT zz ?_|(refine uN hK ?_;clear hK)|apply zI)
   |true=>
    replace zz:=uu g1 (uu g3 (uu hlK (uu hd (uu hr w7))));(repeat'(first|refine a_seq fun K hK=>?_|refine uR zz ?_|refine uK ?_|refine uC1 zz ?_|(refine uN hK ?_;clear hK)|apply zI));replace zz:=uu g1 (uu g3 (uu hlK (uu hd (uu hr @Bool.not_true))));refine uU zz (hc _) ?_;replace zz:=uu g1 (uu g3 (uu w7 @Bool.not_true));(repeat'(first|refine a_block ?_|refine uR zz ?_|refine uK ?_|(refine uN hK ?_;clear hK)|apply zI));exact⟨kids.length-(k+1),by omega,rfl,k+1,by simp,by omega,rfl,hgood rfl⟩
  ·have hd:decide ((k:Int)<(kids.length:Int))=false:=(by simp;omega);have hop2:=fun hE=>hop hE fun e he=>by
    obtain⟨i,hi⟩:=List.getElem?_of_mem he;exact hall i e (by have:=(List.getElem?_eq_some_iff.1 hi).1;omega) hi
   (try clear zz);clear hop hall hbK ih;replace zz:=uu g1 (uu g3 (uu hlK hd));(repeat'(first|refine a_seq fun K hK=>?_|refine a_block ?_|refine uR zz ?_|refine uX ?_|refine uC1 zz ?_|(refine uN hK ?_;clear hK)|(clear hK;refine uN hK ?_;clear hK)|apply zI));(try clear zz);clear g3 hd;refine a_loop (fun m S h2=>h2=h'∧S 1= .cptr (Fm.mk op name args params exprs kids).cells∧ ∃ k:Nat,S 4= .sc (.int .i64 k)∧k≤exprs.length∧m=exprs.length-k∧ ∀ (i:Nat)(e:Ex),i<k→exprs[i]? =some e→shapedE e=true) exprs.length ?_ ?_
   ·simp only[Ty.w,simprocAttr,g1];exact⟨rfl,0,rfl,by omega,rfl,by omega⟩
   ·(try clear zz);clear g1 S;rintro m S h2 ⟨rfl,g1,k,g3,hkk,rfl,hall⟩;simp only[Fm.cells]at g1;by_cases hlt:k<exprs.length
    ·(try clear zz);clear hop2;have hd:decide ((k:Int)<(exprs.length:Int))=true:=(by simp;omega);have w7:IntKind.i64.wrap ((k:Int)+1)=k+1:=(by rw[wrap64 (by omega) (by omega)]);obtain⟨e,hx⟩: ∃ e,exprs[k]? =some e:=⟨_,List.getElem?_eq_getElem hlt⟩;have hmem:=List.mem_of_getElem? hx;have hc:=rshapedE_c e (hes e hmem);have hr:=Ex.rows_get hx;have hbad:=hbE e hmem;have hgood:shapedE e=true→ ∀ (i:Nat)(e:Ex),i<k+1→exprs[i]? =some e→shapedE e=true:=fun h1 i e2 hi hw=>by
      by_cases hik:i=k
      ·subst hik;rw[hx]at hw;simp at hw;rw[← hw];exact h1
      ·exact hall i e2 (by omega) hw
     generalize shapedE e=b at hc hbad hgood;(try clear zz);clear hbE hall;obtain⟨o2,n2,v2,a2,k2⟩:=e;simp only[Ex.cells]at hr hc;cases b with
     |false=>
      have:=hbad rfl;subst this;replace zz:=uu g1 (uu g3 (uu hlE (uu hd (uu hr w7))));(repeat'(first|refine a_seq fun K hK=>?_|refine uR zz ?_|refine uK ?_|refine uC1 zz ?_|(refine uN hK ?_;clear hK)|apply zI));replace zz:=uu g1 (uu g3 (uu hlE (uu hd (uu hr @Bool.not_false))));refine uU zz (hc _) ?_;replace zz:=uu g1 (uu g3 (uu w7 @Bool.not_false));repeat'(first|refine a_seq fun K hK=>?_|refine uR zz ?_|refine uT zz ?_|(refine uN hK ?_;clear hK)|apply zI)
     |true=>
      replace zz:=uu g1 (uu g3 (uu hlE (uu hd (uu hr w7))));(repeat'(first|refine a_seq fun K hK=>?_|refine uR zz ?_|refine uK ?_|refine uC1 zz ?_|(refine uN hK ?_;clear hK)|apply zI));replace zz:=uu g1 (uu g3 (uu hlE (uu hd (uu hr @Bool.not_true))));refine uU zz (hc _) ?_;replace zz:=uu g1 (uu g3 (uu w7 @Bool.not_true));(repeat'(first|refine a_block ?_|refine uR zz ?_|refine uK ?_|(refine uN hK ?_;clear hK)|apply zI));exact⟨exprs.length-(k+1),by omega,rfl,k+1,by simp,by omega,rfl,hgood rfl⟩
    ·have hd:decide ((k:Int)<(exprs.length:Int))=false:=(by simp;omega);have hF:=hop2 fun e he=>by
      obtain⟨i,hi⟩:=List.getElem?_of_mem he;exact hall i e (by have:=(List.getElem?_eq_some_iff.1 hi).1;omega) hi
     (try clear zz);clear hop2 hall hbE;have wa:IntKind.i64.wrap ((params.length:Int)+exprs.length)=(params.length:Int)+exprs.length:=(by rw[wrap64 (by omega) (by omega)]);have wb:IntKind.i64.wrap (((params.length:Int)+exprs.length)+kids.length)=((params.length:Int)+exprs.length)+kids.length:=(by rw[wrap64 (by omega) (by omega)]);have wc:IntKind.i64.wrap ((args.length:Int)+params.length)=(args.length:Int)+params.length:=(by rw[wrap64 (by omega) (by omega)]);have wd:IntKind.i64.wrap (((args.length:Int)+params.length)+kids.length)=((args.length:Int)+params.length)+kids.length:=(by rw[wrap64 (by omega) (by omega)]);have we:IntKind.i64.wrap (((args.length:Int)+params.length)+exprs.length)=((args.length:Int)+params.length)+exprs.length:=(by rw[wrap64 (by omega) (by omega)]);have wf:IntKind.i64.wrap ((args.length:Int)+exprs.length)=(args.length:Int)+exprs.length:=(by rw[wrap64 (by omega) (by omega)]);unfold opF at hF;simp only[opAtom,opSame,opLt,opLe,opEq,opAnd,opOr,opNot,opImp,opAll,opSome,bEq]at hF;(repeat'(first|(with_reducible refine a_hold 12 ?_)|(first|refine a_seq fun K hK=>?_|((first|refine a_regionS ?_|refine a_drawS (by decide+kernel) ?_);simp(maxSteps:=2000000) only[Ty.w,simprocAttr,g1,g3,hd,hlA,hlP,hlE,hlK,bne])|(refine a_exit ?_;(try simp only[pst0,simprocAttr]))|(refine a_cond _ (by(try simp(maxSteps:=2000000) only[Ty.w,simprocAttr,g1,g3,hd,hlA,hlP,hlE,hlK,bne]);rfl) (fun hb=>?_) (fun hb=>?_)<;>(try simp only[hb0,decide_eq_true_eq,decide_eq_false_iff_not,simprocAttr]at hb)<;>(try(exfalso;omega)))|((first|refine hK _ _ ?_|(clear hK;refine hK _ _ ?_));clear hK;(try simp only[pst0,simprocAttr])))));refine⟨?_⟩;refine a_genR (fun S h3=>S 1= .cptr (Fm.mk op name args params exprs kids).cells∧S 5= .sc (.bool (!(name.data.toList==(#[]:Array UInt8).toList)))∧S 6= .sc (.int .i64 args.length)∧S 7= .sc (.int .i64 params.length)∧S 8= .sc (.int .i64 exprs.length)∧S 9= .sc (.int .i64 kids.length)∧h3=h2) ?_ ?_
     ·simp only[Ty.w,simprocAttr,g1,Fm.cells];try trivial
     (try clear zz);clear g1 g3 hd S hlA hlP hlE hlK;rintro S h2 ⟨g1,g5,g6,g7,g8,g9,rfl⟩;simp only[Fm.cells]at g1;cases k1:(op.data.toList==(#[97,116,111,109]:Array UInt8).toList)with
     |true=>
      simp only[k1,Bool.true_or,Bool.or_true,Bool.false_or,if_true,Bool.false_eq_true,if_false]at hF;generalize nameB name=bN at hN hF;cases bN with
      |false=>
       (try simp only[Bool.false_and,Bool.and_false]at hF);subst hF;replace zz:=uu g1 (uu g5 (uu g6 (uu g7 (uu g8 (uu g9 (uu @Bool.not_true (uu @Bool.not_false (uu wa (uu wb (uu wc (uu wd (uu we (uu wf k1)))))))))))));(repeat'(first|refine a_seq fun K hK=>?_|refine uR zz ?_|(refine uN hK ?_;clear hK)|apply zI));refine uU zz (hN _) ?_;(repeat'(first|refine uT zz ?_|(refine uN hK ?_;clear hK)|apply zI));all_goals rfl
      |true=>
       (try simp only[Bool.true_and,Bool.and_true]at hF);generalize args.all termB=bA at hA hF;cases bA with
       |false=>
        (try simp only[Bool.false_and,Bool.and_false]at hF);subst hF;replace zz:=uu g1 (uu g5 (uu g6 (uu g7 (uu g8 (uu g9 (uu @Bool.not_true (uu @Bool.not_false (uu wa (uu wb (uu wc (uu wd (uu we (uu wf k1)))))))))))));(repeat'(first|refine a_seq fun K hK=>?_|refine uR zz ?_|(refine uN hK ?_;clear hK)|apply zI));refine uU zz (hN _) ?_;(try apply zI);refine uU zz (hA _) ?_;(repeat'(first|refine uT zz ?_|(refine uN hK ?_;clear hK)|apply zI));all_goals rfl
       |true=>
        (try simp only[Bool.true_and,Bool.and_true]at hF);cases q2:((((params.length:Int)+exprs.length)+kids.length)==0)with
        |false=>
         simp only[q2,Bool.false_and,Bool.and_false]at hF;subst hF;replace zz:=uu g1 (uu g5 (uu g6 (uu g7 (uu g8 (uu g9 (uu @Bool.not_true (uu @Bool.not_false (uu wa (uu wb (uu wc (uu wd (uu we (uu wf (uu k1 q2))))))))))))));(repeat'(first|refine a_seq fun K hK=>?_|refine uR zz ?_|(refine uN hK ?_;clear hK)|apply zI));refine uU zz (hN _) ?_;(try apply zI);refine uU zz (hA _) ?_;(repeat'(first|refine uT zz ?_|(refine uN hK ?_;clear hK)|apply zI));all_goals rfl
        |true=>
         simp only[q2,Bool.true_and,Bool.and_true]at hF;subst hF;replace zz:=uu g1 (uu g5 (uu g6 (uu g7 (uu g8 (uu g9 (uu @Bool.not_true (uu @Bool.not_false (uu wa (uu wb (uu wc (uu wd (uu we (uu wf (uu k1 q2))))))))))))));(repeat'(first|refine a_seq fun K hK=>?_|refine uR zz ?_|(refine uN hK ?_;clear hK)|apply zI));refine uU zz (hN _) ?_;(try apply zI);refine uU zz (hA _) ?_;(repeat'(first|refine uT zz ?_|(refine uN hK ?_;clear hK)|apply zI));all_goals rfl
     |false=>
      simp only[k1,Bool.true_or,Bool.or_true,Bool.false_or,if_true,Bool.false_eq_true,if_false]at hF;cases k2:(op.data.toList==(#[115,97,109,101]:Array UInt8).toList)with
      |true=>
       simp only[k2,Bool.true_or,Bool.or_true,Bool.false_or,if_true,Bool.false_eq_true,if_false]at hF;cases q0:(name.data.toList==(#[]:Array UInt8).toList)with
       |false=>
        simp only[q0,Bool.false_and,Bool.and_false]at hF;subst hF;replace zz:=uu g1 (uu g5 (uu g6 (uu g7 (uu g8 (uu g9 (uu @Bool.not_true (uu @Bool.not_false (uu wa (uu wb (uu wc (uu wd (uu we (uu wf (uu k1 (uu k2 q0)))))))))))))));(repeat'(first|refine a_seq fun K hK=>?_|refine uR zz ?_|refine uT zz ?_|(refine uN hK ?_;clear hK)|apply zI));all_goals rfl
       |true=>
        simp only[q0,Bool.true_and,Bool.and_true]at hF;cases q1:((args.length:Int)==2)with
        |false=>
         simp only[q1,Bool.false_and,Bool.and_false]at hF;subst hF;replace zz:=uu g1 (uu g5 (uu g6 (uu g7 (uu g8 (uu g9 (uu @Bool.not_true (uu @Bool.not_false (uu wa (uu wb (uu wc (uu wd (uu we (uu wf (uu k1 (uu k2 (uu q0 q1))))))))))))))));(repeat'(first|refine a_seq fun K hK=>?_|refine uR zz ?_|refine uT zz ?_|(refine uN hK ?_;clear hK)|apply zI));all_goals rfl
        |true=>
         simp only[q1,Bool.true_and,Bool.and_true]at hF;generalize args.all termB=bA at hA hF;cases bA with
         |false=>
          (try simp only[Bool.false_and,Bool.and_false]at hF);subst hF;replace zz:=uu g1 (uu g5 (uu g6 (uu g7 (uu g8 (uu g9 (uu @Bool.not_true (uu @Bool.not_false (uu wa (uu wb (uu wc (uu wd (uu we (uu wf (uu k1 (uu k2 (uu q0 q1))))))))))))))));(repeat'(first|refine a_seq fun K hK=>?_|refine uR zz ?_|(refine uN hK ?_;clear hK)|apply zI));refine uU zz (hA _) ?_;(repeat'(first|refine uT zz ?_|(refine uN hK ?_;clear hK)|apply zI));all_goals rfl
         |true=>
          (try simp only[Bool.true_and,Bool.and_true]at hF);cases q3:((((params.length:Int)+exprs.length)+kids.length)==0)with
          |false=>
           simp only[q3,Bool.false_and,Bool.and_false]at hF;subst hF;replace zz:=uu g1 (uu g5 (uu g6 (uu g7 (uu g8 (uu g9 (uu @Bool.not_true (uu @Bool.not_false (uu wa (uu wb (uu wc (uu wd (uu we (uu wf (uu k1 (uu k2 (uu q0 (uu q1 q3)))))))))))))))));(repeat'(first|refine a_seq fun K hK=>?_|refine uR zz ?_|(refine uN hK ?_;clear hK)|apply zI));refine uU zz (hA _) ?_;(repeat'(first|refine uT zz ?_|(refine uN hK ?_;clear hK)|apply zI));all_goals rfl
          |true=>
           simp only[q3,Bool.true_and,Bool.and_true]at hF;subst hF;replace zz:=uu g1 (uu g5 (uu g6 (uu g7 (uu g8 (uu g9 (uu @Bool.not_true (uu @Bool.not_false (uu wa (uu wb (uu wc (uu wd (uu we (uu wf (uu k1 (uu k2 (uu q0 (uu q1 q3)))))))))))))))));(repeat'(first|refine a_seq fun K hK=>?_|refine uR zz ?_|(refine uN hK ?_;clear hK)|apply zI));refine uU zz (hA _) ?_;(repeat'(first|refine uT zz ?_|(refine uN hK ?_;clear hK)|apply zI));all_goals rfl
      |false=>
       simp only[k2,Bool.true_or,Bool.or_true,Bool.false_or,if_true,Bool.false_eq_true,if_false]at hF;cases k3:(op.data.toList==(#[60]:Array UInt8).toList)with
       |true=>
        simp only[k3,Bool.true_or,Bool.or_true,Bool.false_or,if_true,Bool.false_eq_true,if_false]at hF;cases q0:(name.data.toList==(#[]:Array UInt8).toList)with
        |false=>
         simp only[q0,Bool.false_and,Bool.and_false]at hF;subst hF;replace zz:=uu g1 (uu g5 (uu g6 (uu g7 (uu g8 (uu g9 (uu @Bool.not_true (uu @Bool.not_false (uu wa (uu wb (uu wc (uu wd (uu we (uu wf (uu k1 (uu k2 (uu k3 q0))))))))))))))));(repeat'(first|refine a_seq fun K hK=>?_|refine uR zz ?_|refine uT zz ?_|refine uK ?_|refine uC1 zz ?_|(refine uN hK ?_;clear hK)|apply zI));all_goals rfl
        |true=>
         simp only[q0,Bool.true_and,Bool.and_true]at hF;cases q1:((((args.length:Int)+params.length)+kids.length)==0)with
         |false=>
          simp only[q1,Bool.false_and,Bool.and_false]at hF;subst hF;replace zz:=uu g1 (uu g5 (uu g6 (uu g7 (uu g8 (uu g9 (uu @Bool.not_true (uu @Bool.not_false (uu wa (uu wb (uu wc (uu wd (uu we (uu wf (uu k1 (uu k2 (uu k3 (uu q0 q1)))))))))))))))));(repeat'(first|refine a_seq fun K hK=>?_|refine uR zz ?_|refine uT zz ?_|refine uK ?_|refine uC1 zz ?_|(refine uN hK ?_;clear hK)|apply zI));all_goals rfl
         |true=>
          simp only[q1,Bool.true_and,Bool.and_true]at hF;cases q2:((exprs.length:Int)==2)with
          |false=>
           simp only[q2,Bool.false_and,Bool.and_false]at hF;subst hF;replace zz:=uu g1 (uu g5 (uu g6 (uu g7 (uu g8 (uu g9 (uu @Bool.not_true (uu @Bool.not_false (uu wa (uu wb (uu wc (uu wd (uu we (uu wf (uu k1 (uu k2 (uu k3 (uu q0 (uu q1 q2))))))))))))))))));(repeat'(first|refine a_seq fun K hK=>?_|refine uR zz ?_|refine uT zz ?_|refine uK ?_|refine uC1 zz ?_|(refine uN hK ?_;clear hK)|apply zI));all_goals rfl
          |true=>
           simp only[q2,Bool.true_and,Bool.and_true]at hF;subst hF;replace zz:=uu g1 (uu g5 (uu g6 (uu g7 (uu g8 (uu g9 (uu @Bool.not_true (uu @Bool.not_false (uu wa (uu wb (uu wc (uu wd (uu we (uu wf (uu k1 (uu k2 (uu k3 (uu q0 (uu q1 q2))))))))))))))))));(repeat'(first|refine a_seq fun K hK=>?_|refine uR zz ?_|refine uT zz ?_|refine uK ?_|refine uC1 zz ?_|(refine uN hK ?_;clear hK)|apply zI));all_goals rfl
       |false=>
        simp only[k3,Bool.true_or,Bool.or_true,Bool.false_or,if_true,Bool.false_eq_true,if_false]at hF;cases k4:(op.data.toList==(#[60,61]:Array UInt8).toList)with
        |true=>
         simp only[k4,Bool.true_or,Bool.or_true,Bool.false_or,if_true,Bool.false_eq_true,if_false]at hF;cases q0:(name.data.toList==(#[]:Array UInt8).toList)with
         |false=>
          simp only[q0,Bool.false_and,Bool.and_false]at hF;subst hF;replace zz:=uu g1 (uu g5 (uu g6 (uu g7 (uu g8 (uu g9 (uu @Bool.not_true (uu @Bool.not_false (uu wa (uu wb (uu wc (uu wd (uu we (uu wf (uu k1 (uu k2 (uu k3 (uu k4 q0)))))))))))))))));(repeat'(first|refine a_seq fun K hK=>?_|refine uR zz ?_|refine uT zz ?_|refine uK ?_|refine uC1 zz ?_|(refine uN hK ?_;clear hK)|apply zI));all_goals rfl
         |true=>
          simp only[q0,Bool.true_and,Bool.and_true]at hF;cases q1:((((args.length:Int)+params.length)+kids.length)==0)with
          |false=>
           simp only[q1,Bool.false_and,Bool.and_false]at hF;subst hF;replace zz:=uu g1 (uu g5 (uu g6 (uu g7 (uu g8 (uu g9 (uu @Bool.not_true (uu @Bool.not_false (uu wa (uu wb (uu wc (uu wd (uu we (uu wf (uu k1 (uu k2 (uu k3 (uu k4 (uu q0 q1))))))))))))))))));(repeat'(first|refine a_seq fun K hK=>?_|refine uR zz ?_|refine uT zz ?_|refine uK ?_|refine uC1 zz ?_|(refine uN hK ?_;clear hK)|apply zI));all_goals rfl
          |true=>
           simp only[q1,Bool.true_and,Bool.and_true]at hF;cases q2:((exprs.length:Int)==2)with
           |false=>
            simp only[q2,Bool.false_and,Bool.and_false]at hF;subst hF;replace zz:=uu g1 (uu g5 (uu g6 (uu g7 (uu g8 (uu g9 (uu @Bool.not_true (uu @Bool.not_false (uu wa (uu wb (uu wc (uu wd (uu we (uu wf (uu k1 (uu k2 (uu k3 (uu k4 (uu q0 (uu q1 q2)))))))))))))))))));(repeat'(first|refine a_seq fun K hK=>?_|refine uR zz ?_|refine uT zz ?_|refine uK ?_|refine uC1 zz ?_|(refine uN hK ?_;clear hK)|apply zI));all_goals rfl
           |true=>
            simp only[q2,Bool.true_and,Bool.and_true]at hF;subst hF;replace zz:=uu g1 (uu g5 (uu g6 (uu g7 (uu g8 (uu g9 (uu @Bool.not_true (uu @Bool.not_false (uu wa (uu wb (uu wc (uu wd (uu we (uu wf (uu k1 (uu k2 (uu k3 (uu k4 (uu q0 (uu q1 q2)))))))))))))))))));(repeat'(first|refine a_seq fun K hK=>?_|refine uR zz ?_|refine uT zz ?_|refine uK ?_|refine uC1 zz ?_|(refine uN hK ?_;clear hK)|apply zI));all_goals rfl
        |false=>
         simp only[k4,Bool.true_or,Bool.or_true,Bool.false_or,if_true,Bool.false_eq_true,if_false]at hF;cases k5:(op.data.toList==(#[61]:Array UInt8).toList)with
         |true=>
          simp only[k5,Bool.true_or,Bool.or_true,Bool.false_or,if_true,Bool.false_eq_true,if_false]at hF;cases q0:(name.data.toList==(#[]:Array UInt8).toList)with
          |false=>
           simp only[q0,Bool.false_and,Bool.and_false]at hF;subst hF;replace zz:=uu g1 (uu g5 (uu g6 (uu g7 (uu g8 (uu g9 (uu @Bool.not_true (uu @Bool.not_false (uu wa (uu wb (uu wc (uu wd (uu we (uu wf (uu k1 (uu k2 (uu k3 (uu k4 (uu k5 q0))))))))))))))))));(repeat'(first|refine a_seq fun K hK=>?_|refine uR zz ?_|refine uT zz ?_|refine uC1 zz ?_|(refine uN hK ?_;clear hK)|apply zI));all_goals rfl
          |true=>
           simp only[q0,Bool.true_and,Bool.and_true]at hF;cases q1:((((args.length:Int)+params.length)+kids.length)==0)with
           |false=>
            simp only[q1,Bool.false_and,Bool.and_false]at hF;subst hF;replace zz:=uu g1 (uu g5 (uu g6 (uu g7 (uu g8 (uu g9 (uu @Bool.not_true (uu @Bool.not_false (uu wa (uu wb (uu wc (uu wd (uu we (uu wf (uu k1 (uu k2 (uu k3 (uu k4 (uu k5 (uu q0 q1)))))))))))))))))));(repeat'(first|refine a_seq fun K hK=>?_|refine uR zz ?_|refine uT zz ?_|refine uC1 zz ?_|(refine uN hK ?_;clear hK)|apply zI));all_goals rfl
           |true=>
            simp only[q1,Bool.true_and,Bool.and_true]at hF;cases q2:((exprs.length:Int)==2)with
            |false=>
             simp only[q2,Bool.false_and,Bool.and_false]at hF;subst hF;replace zz:=uu g1 (uu g5 (uu g6 (uu g7 (uu g8 (uu g9 (uu @Bool.not_true (uu @Bool.not_false (uu wa (uu wb (uu wc (uu wd (uu we (uu wf (uu k1 (uu k2 (uu k3 (uu k4 (uu k5 (uu q0 (uu q1 q2))))))))))))))))))));(repeat'(first|refine a_seq fun K hK=>?_|refine uR zz ?_|refine uT zz ?_|refine uC1 zz ?_|(refine uN hK ?_;clear hK)|apply zI));all_goals rfl
            |true=>
             simp only[q2,Bool.true_and,Bool.and_true]at hF;subst hF;replace zz:=uu g1 (uu g5 (uu g6 (uu g7 (uu g8 (uu g9 (uu @Bool.not_true (uu @Bool.not_false (uu wa (uu wb (uu wc (uu wd (uu we (uu wf (uu k1 (uu k2 (uu k3 (uu k4 (uu k5 (uu q0 (uu q1 q2))))))))))))))))))));(repeat'(first|refine a_seq fun K hK=>?_|refine uR zz ?_|refine uT zz ?_|refine uC1 zz ?_|(refine uN hK ?_;clear hK)|apply zI));all_goals rfl
         |false=>
          simp only[k5,Bool.true_or,Bool.or_true,Bool.false_or,if_true,Bool.false_eq_true,if_false]at hF;cases k6:(op.data.toList==(#[97,110,100]:Array UInt8).toList)with
          |true=>
           simp only[k6,Bool.true_or,Bool.or_true,Bool.false_or,if_true,Bool.false_eq_true,if_false]at hF;cases q0:(name.data.toList==(#[]:Array UInt8).toList)with
           |false=>
            simp only[q0,Bool.false_and,Bool.and_false]at hF;subst hF;replace zz:=uu g1 (uu g5 (uu g6 (uu g7 (uu g8 (uu g9 (uu @Bool.not_true (uu @Bool.not_false (uu wa (uu wb (uu wc (uu wd (uu we (uu wf (uu k1 (uu k2 (uu k3 (uu k4 (uu k5 (uu k6 q0)))))))))))))))))));(repeat'(first|refine a_seq fun K hK=>?_|refine uR zz ?_|refine uT zz ?_|refine uK ?_|refine uC1 zz ?_|(refine uN hK ?_;clear hK)|apply zI));all_goals rfl
           |true=>
            simp only[q0,Bool.true_and,Bool.and_true]at hF;cases q1:((((args.length:Int)+params.length)+exprs.length)==0)with
            |false=>
             simp only[q1,Bool.false_and,Bool.and_false]at hF;subst hF;replace zz:=uu g1 (uu g5 (uu g6 (uu g7 (uu g8 (uu g9 (uu @Bool.not_true (uu @Bool.not_false (uu wa (uu wb (uu wc (uu wd (uu we (uu wf (uu k1 (uu k2 (uu k3 (uu k4 (uu k5 (uu k6 (uu q0 q1))))))))))))))))))));(repeat'(first|refine a_seq fun K hK=>?_|refine uR zz ?_|refine uT zz ?_|refine uK ?_|refine uC1 zz ?_|(refine uN hK ?_;clear hK)|apply zI));all_goals rfl
            |true=>
             simp only[q1,Bool.true_and,Bool.and_true]at hF;subst hF;replace zz:=uu g1 (uu g5 (uu g6 (uu g7 (uu g8 (uu g9 (uu @Bool.not_true (uu @Bool.not_false (uu wa (uu wb (uu wc (uu wd (uu we (uu wf (uu k1 (uu k2 (uu k3 (uu k4 (uu k5 (uu k6 (uu q0 q1))))))))))))))))))));(repeat'(first|refine a_seq fun K hK=>?_|refine uR zz ?_|refine uT zz ?_|refine uK ?_|refine uC1 zz ?_|(refine uN hK ?_;clear hK)|apply zI));all_goals rfl
          |false=>
           simp only[k6,Bool.true_or,Bool.or_true,Bool.false_or,if_true,Bool.false_eq_true,if_false]at hF;cases k7:(op.data.toList==(#[111,114]:Array UInt8).toList)with
           |true=>
            simp only[k7,Bool.true_or,Bool.or_true,Bool.false_or,if_true,Bool.false_eq_true,if_false]at hF;cases q0:(name.data.toList==(#[]:Array UInt8).toList)with
            |false=>
             simp only[q0,Bool.false_and,Bool.and_false]at hF;subst hF;replace zz:=uu g1 (uu g5 (uu g6 (uu g7 (uu g8 (uu g9 (uu @Bool.not_true (uu @Bool.not_false (uu wa (uu wb (uu wc (uu wd (uu we (uu wf (uu k1 (uu k2 (uu k3 (uu k4 (uu k5 (uu k6 (uu k7 q0))))))))))))))))))));(repeat'(first|refine a_seq fun K hK=>?_|refine uR zz ?_|refine uT zz ?_|refine uC1 zz ?_|(refine uN hK ?_;clear hK)|apply zI));all_goals rfl
            |true=>
             simp only[q0,Bool.true_and,Bool.and_true]at hF;cases q1:((((args.length:Int)+params.length)+exprs.length)==0)with
             |false=>
              simp only[q1,Bool.false_and,Bool.and_false]at hF;subst hF;replace zz:=uu g1 (uu g5 (uu g6 (uu g7 (uu g8 (uu g9 (uu @Bool.not_true (uu @Bool.not_false (uu wa (uu wb (uu wc (uu wd (uu we (uu wf (uu k1 (uu k2 (uu k3 (uu k4 (uu k5 (uu k6 (uu k7 (uu q0 q1)))))))))))))))))))));(repeat'(first|refine a_seq fun K hK=>?_|refine uR zz ?_|refine uT zz ?_|refine uC1 zz ?_|(refine uN hK ?_;clear hK)|apply zI));all_goals rfl
             |true=>
              simp only[q1,Bool.true_and,Bool.and_true]at hF;subst hF;replace zz:=uu g1 (uu g5 (uu g6 (uu g7 (uu g8 (uu g9 (uu @Bool.not_true (uu @Bool.not_false (uu wa (uu wb (uu wc (uu wd (uu we (uu wf (uu k1 (uu k2 (uu k3 (uu k4 (uu k5 (uu k6 (uu k7 (uu q0 q1)))))))))))))))))))));(repeat'(first|refine a_seq fun K hK=>?_|refine uR zz ?_|refine uT zz ?_|refine uC1 zz ?_|(refine uN hK ?_;clear hK)|apply zI));all_goals rfl
           |false=>
            simp only[k7,Bool.true_or,Bool.or_true,Bool.false_or,if_true,Bool.false_eq_true,if_false]at hF;cases k8:(op.data.toList==(#[110,111,116]:Array UInt8).toList)with
            |true=>
             simp only[k8,Bool.true_or,Bool.or_true,Bool.false_or,if_true,Bool.false_eq_true,if_false]at hF;cases q0:(name.data.toList==(#[]:Array UInt8).toList)with
             |false=>
              simp only[q0,Bool.false_and,Bool.and_false]at hF;subst hF;replace zz:=uu g1 (uu g5 (uu g6 (uu g7 (uu g8 (uu g9 (uu @Bool.not_true (uu @Bool.not_false (uu wa (uu wb (uu wc (uu wd (uu we (uu wf (uu k1 (uu k2 (uu k3 (uu k4 (uu k5 (uu k6 (uu k7 (uu k8 q0)))))))))))))))))))));(repeat'(first|refine a_seq fun K hK=>?_|refine uR zz ?_|refine uT zz ?_|refine uC1 zz ?_|(refine uN hK ?_;clear hK)|apply zI));all_goals rfl
             |true=>
              simp only[q0,Bool.true_and,Bool.and_true]at hF;cases q1:((((args.length:Int)+params.length)+exprs.length)==0)with
              |false=>
               simp only[q1,Bool.false_and,Bool.and_false]at hF;subst hF;replace zz:=uu g1 (uu g5 (uu g6 (uu g7 (uu g8 (uu g9 (uu @Bool.not_true (uu @Bool.not_false (uu wa (uu wb (uu wc (uu wd (uu we (uu wf (uu k1 (uu k2 (uu k3 (uu k4 (uu k5 (uu k6 (uu k7 (uu k8 (uu q0 q1))))))))))))))))))))));(repeat'(first|refine a_seq fun K hK=>?_|refine uR zz ?_|refine uT zz ?_|refine uC1 zz ?_|(refine uN hK ?_;clear hK)|apply zI));all_goals rfl
              |true=>
               simp only[q1,Bool.true_and,Bool.and_true]at hF;cases q2:((kids.length:Int)==1)with
               |false=>
                simp only[q2,Bool.false_and,Bool.and_false]at hF;subst hF;replace zz:=uu g1 (uu g5 (uu g6 (uu g7 (uu g8 (uu g9 (uu @Bool.not_true (uu @Bool.not_false (uu wa (uu wb (uu wc (uu wd (uu we (uu wf (uu k1 (uu k2 (uu k3 (uu k4 (uu k5 (uu k6 (uu k7 (uu k8 (uu q0 (uu q1 q2)))))))))))))))))))))));(repeat'(first|refine a_seq fun K hK=>?_|refine uR zz ?_|refine uT zz ?_|refine uC1 zz ?_|(refine uN hK ?_;clear hK)|apply zI));all_goals rfl
               |true=>
                simp only[q2,Bool.true_and,Bool.and_true]at hF;subst hF;replace zz:=uu g1 (uu g5 (uu g6 (uu g7 (uu g8 (uu g9 (uu @Bool.not_true (uu @Bool.not_false (uu wa (uu wb (uu wc (uu wd (uu we (uu wf (uu k1 (uu k2 (uu k3 (uu k4 (uu k5 (uu k6 (uu k7 (uu k8 (uu q0 (uu q1 q2)))))))))))))))))))))));(repeat'(first|refine a_seq fun K hK=>?_|refine uR zz ?_|refine uT zz ?_|refine uC1 zz ?_|(refine uN hK ?_;clear hK)|apply zI));all_goals rfl
            |false=>
             simp only[k8,Bool.true_or,Bool.or_true,Bool.false_or,if_true,Bool.false_eq_true,if_false]at hF;cases k9:(op.data.toList==(#[105,109,112,108,121]:Array UInt8).toList)with
             |true=>
              simp only[k9,Bool.true_or,Bool.or_true,Bool.false_or,if_true,Bool.false_eq_true,if_false]at hF;cases q0:(name.data.toList==(#[]:Array UInt8).toList)with
              |false=>
               simp only[q0,Bool.false_and,Bool.and_false]at hF;subst hF;replace zz:=uu g1 (uu g5 (uu g6 (uu g7 (uu g8 (uu g9 (uu @Bool.not_true (uu @Bool.not_false (uu wa (uu wb (uu wc (uu wd (uu we (uu wf (uu k1 (uu k2 (uu k3 (uu k4 (uu k5 (uu k6 (uu k7 (uu k8 (uu k9 q0))))))))))))))))))))));(repeat'(first|refine a_seq fun K hK=>?_|refine uR zz ?_|refine uT zz ?_|refine uC1 zz ?_|(refine uN hK ?_;clear hK)|apply zI));all_goals rfl
              |true=>
               simp only[q0,Bool.true_and,Bool.and_true]at hF;cases q1:((((args.length:Int)+params.length)+exprs.length)==0)with
               |false=>
                simp only[q1,Bool.false_and,Bool.and_false]at hF;subst hF;replace zz:=uu g1 (uu g5 (uu g6 (uu g7 (uu g8 (uu g9 (uu @Bool.not_true (uu @Bool.not_false (uu wa (uu wb (uu wc (uu wd (uu we (uu wf (uu k1 (uu k2 (uu k3 (uu k4 (uu k5 (uu k6 (uu k7 (uu k8 (uu k9 (uu q0 q1)))))))))))))))))))))));(repeat'(first|refine a_seq fun K hK=>?_|refine uR zz ?_|refine uT zz ?_|refine uC1 zz ?_|(refine uN hK ?_;clear hK)|apply zI));all_goals rfl
               |true=>
                simp only[q1,Bool.true_and,Bool.and_true]at hF;cases q2:((kids.length:Int)==2)with
                |false=>
                 simp only[q2,Bool.false_and,Bool.and_false]at hF;subst hF;replace zz:=uu g1 (uu g5 (uu g6 (uu g7 (uu g8 (uu g9 (uu @Bool.not_true (uu @Bool.not_false (uu wa (uu wb (uu wc (uu wd (uu we (uu wf (uu k1 (uu k2 (uu k3 (uu k4 (uu k5 (uu k6 (uu k7 (uu k8 (uu k9 (uu q0 (uu q1 q2))))))))))))))))))))))));(repeat'(first|refine a_seq fun K hK=>?_|refine uR zz ?_|refine uT zz ?_|refine uC1 zz ?_|(refine uN hK ?_;clear hK)|apply zI));all_goals rfl
                |true=>
                 simp only[q2,Bool.true_and,Bool.and_true]at hF;subst hF;replace zz:=uu g1 (uu g5 (uu g6 (uu g7 (uu g8 (uu g9 (uu @Bool.not_true (uu @Bool.not_false (uu wa (uu wb (uu wc (uu wd (uu we (uu wf (uu k1 (uu k2 (uu k3 (uu k4 (uu k5 (uu k6 (uu k7 (uu k8 (uu k9 (uu q0 (uu q1 q2))))))))))))))))))))))));(repeat'(first|refine a_seq fun K hK=>?_|refine uR zz ?_|refine uT zz ?_|refine uC1 zz ?_|(refine uN hK ?_;clear hK)|apply zI));all_goals rfl
             |false=>
              simp only[k9,Bool.true_or,Bool.or_true,Bool.false_or,if_true,Bool.false_eq_true,if_false]at hF;cases k10:(op.data.toList==(#[102,111,114,97,108,108]:Array UInt8).toList)with
              |true=>
               simp only[k10,Bool.true_or,Bool.or_true,Bool.false_or,if_true,Bool.false_eq_true,if_false]at hF;cases q0:(name.data.toList==(#[]:Array UInt8).toList)with
               |false=>
                simp only[q0,Bool.false_and,Bool.and_false]at hF;subst hF;replace zz:=uu g1 (uu g5 (uu g6 (uu g7 (uu g8 (uu g9 (uu @Bool.not_true (uu @Bool.not_false (uu wa (uu wb (uu wc (uu wd (uu we (uu wf (uu k1 (uu k2 (uu k3 (uu k4 (uu k5 (uu k6 (uu k7 (uu k8 (uu k9 (uu k10 q0)))))))))))))))))))))));(repeat'(first|refine a_seq fun K hK=>?_|refine uR zz ?_|refine uT zz ?_|refine uK ?_|refine uC1 zz ?_|(refine uN hK ?_;clear hK)|apply zI));all_goals rfl
               |true=>
                simp only[q0,Bool.true_and,Bool.and_true]at hF;cases q1:(((args.length:Int)+exprs.length)==0)with
                |false=>
                 simp only[q1,Bool.false_and,Bool.and_false]at hF;subst hF;replace zz:=uu g1 (uu g5 (uu g6 (uu g7 (uu g8 (uu g9 (uu @Bool.not_true (uu @Bool.not_false (uu wa (uu wb (uu wc (uu wd (uu we (uu wf (uu k1 (uu k2 (uu k3 (uu k4 (uu k5 (uu k6 (uu k7 (uu k8 (uu k9 (uu k10 (uu q0 q1))))))))))))))))))))))));(repeat'(first|refine a_seq fun K hK=>?_|refine uR zz ?_|refine uT zz ?_|refine uK ?_|refine uC1 zz ?_|(refine uN hK ?_;clear hK)|apply zI));all_goals rfl
                |true=>
                 simp only[q1,Bool.true_and,Bool.and_true]at hF;cases q2:((kids.length:Int)==1)with
                 |false=>
                  simp only[q2,Bool.false_and,Bool.and_false]at hF;subst hF;replace zz:=uu g1 (uu g5 (uu g6 (uu g7 (uu g8 (uu g9 (uu @Bool.not_true (uu @Bool.not_false (uu wa (uu wb (uu wc (uu wd (uu we (uu wf (uu k1 (uu k2 (uu k3 (uu k4 (uu k5 (uu k6 (uu k7 (uu k8 (uu k9 (uu k10 (uu q0 (uu q1 q2)))))))))))))))))))))))));(repeat'(first|refine a_seq fun K hK=>?_|refine uR zz ?_|refine uT zz ?_|refine uK ?_|refine uC1 zz ?_|(refine uN hK ?_;clear hK)|apply zI));all_goals rfl
                 |true=>
                  simp only[q2,Bool.true_and,Bool.and_true]at hF;generalize params.all pmOk=bP at hP hF;cases bP with
                  |false=>
                   (try simp only[Bool.false_and,Bool.and_false]at hF);subst hF;replace zz:=uu g1 (uu g5 (uu g6 (uu g7 (uu g8 (uu g9 (uu @Bool.not_true (uu @Bool.not_false (uu wa (uu wb (uu wc (uu wd (uu we (uu wf (uu k1 (uu k2 (uu k3 (uu k4 (uu k5 (uu k6 (uu k7 (uu k8 (uu k9 (uu k10 (uu q0 (uu q1 q2)))))))))))))))))))))))));(repeat'(first|refine a_seq fun K hK=>?_|refine uR zz ?_|refine uK ?_|refine uC1 zz ?_|(refine uN hK ?_;clear hK)|apply zI));refine uU zz (hP _) ?_;(repeat'(first|refine uT zz ?_|(refine uN hK ?_;clear hK)|apply zI));all_goals rfl
                  |true=>
                   (try simp only[Bool.true_and,Bool.and_true]at hF);subst hF;replace zz:=uu g1 (uu g5 (uu g6 (uu g7 (uu g8 (uu g9 (uu @Bool.not_true (uu @Bool.not_false (uu wa (uu wb (uu wc (uu wd (uu we (uu wf (uu k1 (uu k2 (uu k3 (uu k4 (uu k5 (uu k6 (uu k7 (uu k8 (uu k9 (uu k10 (uu q0 (uu q1 q2)))))))))))))))))))))))));(repeat'(first|refine a_seq fun K hK=>?_|refine uR zz ?_|refine uK ?_|refine uC1 zz ?_|(refine uN hK ?_;clear hK)|apply zI));refine uU zz (hP _) ?_;(repeat'(first|refine uT zz ?_|(refine uN hK ?_;clear hK)|apply zI));all_goals rfl
              |false=>
               simp only[k10,Bool.true_or,Bool.or_true,Bool.false_or,if_true,Bool.false_eq_true,if_false]at hF;cases k11:(op.data.toList==(#[101,120,105,115,116,115]:Array UInt8).toList)with
               |true=>
                simp only[k11,Bool.true_or,Bool.or_true,Bool.false_or,if_true,Bool.false_eq_true,if_false]at hF;cases q0:(name.data.toList==(#[]:Array UInt8).toList)with
                |false=>
                 simp only[q0,Bool.false_and,Bool.and_false]at hF;subst hF;replace zz:=uu g1 (uu g5 (uu g6 (uu g7 (uu g8 (uu g9 (uu @Bool.not_true (uu @Bool.not_false (uu wa (uu wb (uu wc (uu wd (uu we (uu wf (uu k1 (uu k2 (uu k3 (uu k4 (uu k5 (uu k6 (uu k7 (uu k8 (uu k9 (uu k10 (uu k11 q0))))))))))))))))))))))));(repeat'(first|refine a_seq fun K hK=>?_|refine uR zz ?_|refine uT zz ?_|refine uC1 zz ?_|(refine uN hK ?_;clear hK)|apply zI));all_goals rfl
                |true=>
                 simp only[q0,Bool.true_and,Bool.and_true]at hF;cases q1:(((args.length:Int)+exprs.length)==0)with
                 |false=>
                  simp only[q1,Bool.false_and,Bool.and_false]at hF;subst hF;replace zz:=uu g1 (uu g5 (uu g6 (uu g7 (uu g8 (uu g9 (uu @Bool.not_true (uu @Bool.not_false (uu wa (uu wb (uu wc (uu wd (uu we (uu wf (uu k1 (uu k2 (uu k3 (uu k4 (uu k5 (uu k6 (uu k7 (uu k8 (uu k9 (uu k10 (uu k11 (uu q0 q1)))))))))))))))))))))))));(repeat'(first|refine a_seq fun K hK=>?_|refine uR zz ?_|refine uT zz ?_|refine uC1 zz ?_|(refine uN hK ?_;clear hK)|apply zI));all_goals rfl
                 |true=>
                  simp only[q1,Bool.true_and,Bool.and_true]at hF;cases q2:((kids.length:Int)==1)with
                  |false=>
                   simp only[q2,Bool.false_and,Bool.and_false]at hF;subst hF;replace zz:=uu g1 (uu g5 (uu g6 (uu g7 (uu g8 (uu g9 (uu @Bool.not_true (uu @Bool.not_false (uu wa (uu wb (uu wc (uu wd (uu we (uu wf (uu k1 (uu k2 (uu k3 (uu k4 (uu k5 (uu k6 (uu k7 (uu k8 (uu k9 (uu k10 (uu k11 (uu q0 (uu q1 q2))))))))))))))))))))))))));(repeat'(first|refine a_seq fun K hK=>?_|refine uR zz ?_|refine uT zz ?_|refine uC1 zz ?_|(refine uN hK ?_;clear hK)|apply zI));all_goals rfl
                  |true=>
                   simp only[q2,Bool.true_and,Bool.and_true]at hF;generalize params.all pmOk=bP at hP hF;cases bP with
                   |false=>
                    (try simp only[Bool.false_and,Bool.and_false]at hF);subst hF;replace zz:=uu g1 (uu g5 (uu g6 (uu g7 (uu g8 (uu g9 (uu @Bool.not_true (uu @Bool.not_false (uu wa (uu wb (uu wc (uu wd (uu we (uu wf (uu k1 (uu k2 (uu k3 (uu k4 (uu k5 (uu k6 (uu k7 (uu k8 (uu k9 (uu k10 (uu k11 (uu q0 (uu q1 q2))))))))))))))))))))))))));(repeat'(first|refine a_seq fun K hK=>?_|refine uR zz ?_|refine uC1 zz ?_|(refine uN hK ?_;clear hK)|apply zI));refine uU zz (hP _) ?_;(repeat'(first|refine uT zz ?_|(refine uN hK ?_;clear hK)|apply zI));all_goals rfl
                   |true=>
                    (try simp only[Bool.true_and,Bool.and_true]at hF);subst hF;replace zz:=uu g1 (uu g5 (uu g6 (uu g7 (uu g8 (uu g9 (uu @Bool.not_true (uu @Bool.not_false (uu wa (uu wb (uu wc (uu wd (uu we (uu wf (uu k1 (uu k2 (uu k3 (uu k4 (uu k5 (uu k6 (uu k7 (uu k8 (uu k9 (uu k10 (uu k11 (uu q0 (uu q1 q2))))))))))))))))))))))))));(repeat'(first|refine a_seq fun K hK=>?_|refine uR zz ?_|refine uC1 zz ?_|(refine uN hK ?_;clear hK)|apply zI));refine uU zz (hP _) ?_;(repeat'(first|refine uT zz ?_|(refine uN hK ?_;clear hK)|apply zI));all_goals rfl
               |false=>
                simp only[k11,Bool.true_or,Bool.or_true,Bool.false_or,if_true,Bool.false_eq_true,if_false]at hF;subst hF;replace zz:=uu g1 (uu g5 (uu g6 (uu g7 (uu g8 (uu g9 (uu @Bool.not_true (uu @Bool.not_false (uu wa (uu wb (uu wc (uu wd (uu we (uu wf (uu k1 (uu k2 (uu k3 (uu k4 (uu k5 (uu k6 (uu k7 (uu k8 (uu k9 (uu k10 k11)))))))))))))))))))))));repeat'(first|refine a_seq fun K hK=>?_|refine a_block ?_|refine uR zz ?_|refine uT zz ?_|refine uK ?_|refine uC1 zz ?_|(refine uN hK ?_;clear hK)|apply zI)
set_option maxHeartbeats 4000000
theorem rwriteParams_c{l:List Pm}(hl:l.length≤1048576)(h:Heap):PCall Tryz.prog 71 [.imm 2 (pmRows l)] h fun r h'=>r= .imm 6 (Sx.rows (paramsW l))∧h'=h:=by
 refine PCall.frz Ty.hb_71 ?_;have hll:=pmRows_len l;have hw: ∀ (s:ByteArray)(h:Heap),PCall Tryz.prog 109 [sPV s] h fun r h'=>r= .agg (wordM s).cells∧h'=h:=fun s h=>rwd_c;simp only[wordM,Sx.cells,Sx.rows]at hw;refine uG0 Tryz.func71 Tryz.ntmps71 Tryz.results71 Ty.hb_71 ?_;repeat'(first|refine a_seq fun K hK=>?_|refine a_block ?_|refine uR hll ?_|(refine uN hK ?_;clear hK)|apply zI)
 refine a_loop (fun m S h'=>S 0= .imm 2 (pmRows l)∧ ∃ (k:Nat)(o:PV),S 4= .sc (.int .i64 k)∧S 3=o∧k≤l.length∧m=l.length-k∧Grow h h'∧Tl h' h.next 6 o (Sx.rows (paramsW (l.take k)))) l.length ?_ ?_
 ·simp only[Ty.w,simprocAttr];exact⟨0,_,rfl,rfl,by omega,rfl,Grow.refl _,Tl.nil⟩
 ·rintro m S h' ⟨g0,k,o,g4,g3,hk,rfl,hg,tl⟩;by_cases hlt:k<l.length
  ·have hd:decide ((k:Int)<(l.length:Int))=true:=(by simp;omega);have w7:IntKind.i64.wrap ((k:Int)+1)=k+1:=(by rw[wrap64 (by omega) (by omega)]);obtain⟨p,hx⟩: ∃ p,l[k]? =some p:=⟨_,List.getElem?_eq_getElem hlt⟩;have hr:=pmRows_get hx;obtain⟨H,t1,t2,t3,t4,t5⟩:=tl.tail;have hpr:(Sx.rows (paramsW (l.take k))).length=3*k:=(by rw[Sx.rows_len,paramsW_len,List.length_take];omega);have hb:(3*k+3)*72≤140737488355328:=(by omega);have hR:Sx.rows (paramsW (l.take (k+1)))=Sx.rows (paramsW (l.take k))++[[.sc (.int .i64 1),.sc (.int .i64 0),.sc (.int .i64 0),.sc (.int .i64 0),sPV p.name,.imm 6 []],[.sc (.int .i64 1),.sc (.int .i64 0),.sc (.int .i64 0),.sc (.int .i64 0),sPV ⟨#[45]⟩,.imm 6 []],[.sc (.int .i64 1),.sc (.int .i64 0),.sc (.int .i64 0),.sc (.int .i64 0),sPV p.type,.imm 6 []]]:=by
    rw[List.take_add_one,hx,paramsW_append];simp only[Sx.rows_map,List.map_append,Option.toList_some,paramsW,List.map_cons,List.map_nil,wordM,Sx.cells]
   generalize Sx.rows (paramsW (l.take k))=R at tl t1 t2 hpr hR;replace zz:=uu g0 (uu g4 (uu g3 (uu hd (uu hr hll))));(repeat'(first|refine a_seq fun K hK=>?_|refine a_block ?_|refine uR zz ?_|refine uE zz fun K hK=>?_|refine uK ?_|refine uC1 zz ?_|(refine uN hK ?_;clear hK)|apply zI));replace zz:=uu g0 (uu g4 (uu g3 hr));(first|refine uV zz (hw p.name _) ?_|refine uA zz (hw p.name _) ?_);(try apply zI);(first|refine uV zz (hw ⟨#[45]⟩ _) ?_|refine uA zz (hw ⟨#[45]⟩ _) ?_);(try apply zI);(first|refine uV zz (hw p.type _) ?_|refine uA zz (hw p.type _) ?_);replace zz:=uu g0 (uu g4 (uu g3 (uu hr (uu w7 (uu t1 (uu t2 (uu hpr hb)))))));(repeat'(first|refine uR zz ?_|(refine uN hK ?_;clear hK)|refine uB zz ?_|(rw[if_pos];rotate_left 1;omega;simp(maxSteps:=2000000) only[Ty.w,simprocAttr,g0,g4,g3,hr,w7,t1,t2,hpr,hb])|apply zI));have hkp:=t5 h ⟨hg.le,hg.old⟩ (Nat.le_refl _);have hgH:Grow h H:=⟨hkp.1,hkp.2⟩;rw[← hR];have hRl:3*k+3=(Sx.rows (paramsW (l.take (k+1)))).length:=(by rw[Sx.rows_len,paramsW_len,List.length_take];omega);exact⟨l.length-(k+1),by omega,k+1,.own H.next 0 (3*k+3),by simp,by first|rfl|rw[t3],by omega,rfl,hgH.new _,Tl.grow hkp.1 hRl⟩
  ·have hd:decide ((k:Int)<(l.length:Int))=false:=(by simp;omega);have hke:k=l.length:=(by omega);subst hke;rw[List.take_length]at tl;replace zz:=uu g0 (uu g4 (uu g3 (uu hd hll)));(repeat'(first|refine a_seq fun K hK=>?_|refine uR zz ?_|refine uT zz ?_|refine uX ?_|refine uC1 zz ?_|(refine uN hK ?_;clear hK)|(clear hK;refine uN hK ?_;clear hK)|apply zI));exact⟨tl_frzX tl,hg⟩
theorem rwriteF_c: ∀ f:Fm,f.small→shapedF f=true→ ∀ h:Heap,PCall Tryz.prog 74 [.agg f.cells] h fun r h'=>r= .agg (fmW f).cells∧h'=h:=by
 refine Fm.ind ?_;intro op name args params exprs kids ih hsm hsh h;simp only[Fm.small]at hsm;obtain⟨hal,hpl,hes,hkl,hks⟩:=hsm;rw[Ex.smalls_iff]at hes;rw[Fm.smalls_iff]at hks;simp only[shapedF,Bool.and_eq_true]at hsh;obtain⟨⟨hpo,hse⟩,hsk⟩:=hsh;rw[shapedFs_iff]at hsk;rw[List.all_eq_true]at hse;have hlK:=Fm.rows_len kids;unfold fmW;refine PCall.frz Ty.hb_74 ?_;cases k1:(op.data.toList==(#[97,116,111,109]:Array UInt8).toList)with
 |true=>
  rw[if_pos (show bEq op opAtom=true from k1)];have hw: ∀ h:Heap,PCall Tryz.prog 110 [sPV name,.imm 1 (strRows args)] h fun r h'=>r= .agg (wordsM name args).cells∧h'=h:=fun h=>rlist_c hal;have hfz:=fun(n:Nat)(h:Heap)=>sx_frz n h (wordsM name args);simp only[Fm.cells];generalize wordsM name args=X at hw hfz⊢;obtain⟨ki,va,li,co,te,ks⟩:=X;simp only[Sx.cells]at hw hfz⊢;refine uG0 Tryz.func74 Tryz.ntmps74 Tryz.results74 Ty.hb_74 ?_;repeat'(first|refine a_seq fun K hK=>?_|refine uR k1 ?_|(refine uN hK ?_;clear hK)|apply zI)
  refine uU k1 (hw _) ?_;repeat'(first|refine uT trivial ?_|(refine uN hK ?_;clear hK)|apply zI)
  refine⟨?_,((Grow.refl h).new _).set (Nat.le_refl _) _⟩;simp only[FrzTo];exact⟨_,rfl,hfz _ _⟩
 |false=>
  cases k2:(op.data.toList==(#[115,97,109,101]:Array UInt8).toList)with
  |true=>
   rw[if_neg (by rw[(show bEq op opAtom=false from k1)];simp)];rw[if_pos (show bEq op opSame=true from k2)];have hw: ∀ h:Heap,PCall Tryz.prog 110 [sPV ⟨#[61]⟩,.imm 1 (strRows args)] h fun r h'=>r= .agg (wordsM opEq args).cells∧h'=h:=fun h=>rlist_c hal;have hfz:=fun(n:Nat)(h:Heap)=>sx_frz n h (wordsM opEq args);simp only[Fm.cells];generalize wordsM opEq args=X at hw hfz⊢;obtain⟨ki,va,li,co,te,ks⟩:=X;simp only[Sx.cells]at hw hfz⊢;refine uG0 Tryz.func74 Tryz.ntmps74 Tryz.results74 Ty.hb_74 ?_;(repeat'(first|refine a_seq fun K hK=>?_|refine uR (uu k1 k2) ?_|(refine uN hK ?_;clear hK)|apply zI));refine uU (uu k1 k2) (hw _) ?_;(repeat'(first|refine uT trivial ?_|(refine uN hK ?_;clear hK)|apply zI));refine⟨?_,((Grow.refl h).new _).set (Nat.le_refl _) _⟩;simp only[FrzTo];exact⟨_,rfl,hfz _ _⟩
  |false=>
   rw[if_neg (by rw[(show bEq op opAtom=false from k1)];simp),if_neg (by rw[(show bEq op opSame=false from k2)];simp)];cases k3:(op.data.toList==(#[60]:Array UInt8).toList)with
   |true=>
    rw[if_pos (by simp[isCmp,(show bEq op opAtom=false from k1),(show bEq op opSame=false from k2),(show bEq op opLt=true from k3)])];have hx2:exprs.length=2:=(by have q:=hpo;simp[partsOk,shapeOf,(show bEq op opAtom=false from k1),(show bEq op opSame=false from k2),(show bEq op opLt=true from k3)]at q;omega);obtain⟨a,b,rfl⟩: ∃ a b,exprs=[a,b]:=by
     match exprs,hx2 with
     |[a,b],_=>exact⟨a,b,rfl⟩
    have ca:=rwriteE_c a (hes a (by simp)) (hse a (by simp));have cb:=rwriteE_c b (hes b (by simp)) (hse b (by simp));have hw:=fun h:Heap=>rwd_c (h:=h) (s:=op);simp only[List.map_cons,List.map_nil];have hfz:=fun(n:Nat)(h:Heap)=>sx_frz n h (listM [wordM op,exW a,exW b]);generalize exW a=xa at ca hfz⊢;generalize exW b=xb at cb hfz⊢;(try clear zz);clear ih hks hpo hse hsk hes;obtain⟨aop,aname,an,aargs,akids⟩:=a;obtain⟨bop,bname,bn,bargs,bkids⟩:=b;obtain⟨ki,va,li,co,te,ks⟩:=xa;obtain⟨ki2,va2,li2,co2,te2,ks2⟩:=xb;simp only[Fm.cells,Ex.cells,Ex.rows,listM,Sx.cells,Sx.rows,wordM]at ca cb hw hfz⊢;refine uG0 Tryz.func74 Tryz.ntmps74 Tryz.results74 Ty.hb_74 ?_;replace zz:=uu k1 (uu k2 k3);(repeat'(first|refine a_seq fun K hK=>?_|refine uR zz ?_|refine uD zz ?_|refine uK ?_|refine uC1 zz ?_|(refine uN hK ?_;clear hK)|apply zI));(first|refine uV trivial (hw _) ?_|refine uA trivial (hw _) ?_);(try apply zI);(first|refine uV trivial (ca _) ?_|refine uA trivial (ca _) ?_);(try apply zI);(first|refine uV trivial (cb _) ?_|refine uA trivial (cb _) ?_);(repeat'(first|refine uT trivial ?_|(refine uN hK ?_;clear hK)|refine uB trivial ?_|apply zI));refine⟨?_,((Grow.refl h).new _).set (Nat.le_refl _) _⟩;simp only[FrzTo];exact⟨_,rfl,hfz _ _⟩
   |false=>
    cases k4:(op.data.toList==(#[60,61]:Array UInt8).toList)with
    |true=>
     rw[if_pos (by simp[isCmp,(show bEq op opAtom=false from k1),(show bEq op opSame=false from k2),(show bEq op opLt=false from k3),(show bEq op opLe=true from k4)])];have hx2:exprs.length=2:=(by have q:=hpo;simp[partsOk,shapeOf,(show bEq op opAtom=false from k1),(show bEq op opSame=false from k2),(show bEq op opLt=false from k3),(show bEq op opLe=true from k4)]at q;omega);obtain⟨a,b,rfl⟩: ∃ a b,exprs=[a,b]:=by
      match exprs,hx2 with
      |[a,b],_=>exact⟨a,b,rfl⟩
     have ca:=rwriteE_c a (hes a (by simp)) (hse a (by simp));have cb:=rwriteE_c b (hes b (by simp)) (hse b (by simp));have hw:=fun h:Heap=>rwd_c (h:=h) (s:=op);simp only[List.map_cons,List.map_nil];have hfz:=fun(n:Nat)(h:Heap)=>sx_frz n h (listM [wordM op,exW a,exW b]);generalize exW a=xa at ca hfz⊢;generalize exW b=xb at cb hfz⊢;(try clear zz);clear ih hks hpo hse hsk hes;obtain⟨aop,aname,an,aargs,akids⟩:=a;obtain⟨bop,bname,bn,bargs,bkids⟩:=b;obtain⟨ki,va,li,co,te,ks⟩:=xa;obtain⟨ki2,va2,li2,co2,te2,ks2⟩:=xb;simp only[Fm.cells,Ex.cells,Ex.rows,listM,Sx.cells,Sx.rows,wordM]at ca cb hw hfz⊢;refine uG0 Tryz.func74 Tryz.ntmps74 Tryz.results74 Ty.hb_74 ?_;replace zz:=uu k1 (uu k2 (uu k3 k4));(repeat'(first|refine a_seq fun K hK=>?_|refine uR zz ?_|refine uD zz ?_|refine uK ?_|refine uC1 zz ?_|(refine uN hK ?_;clear hK)|apply zI));(first|refine uV trivial (hw _) ?_|refine uA trivial (hw _) ?_);(try apply zI);(first|refine uV trivial (ca _) ?_|refine uA trivial (ca _) ?_);(try apply zI);(first|refine uV trivial (cb _) ?_|refine uA trivial (cb _) ?_);(repeat'(first|refine uT trivial ?_|(refine uN hK ?_;clear hK)|refine uB trivial ?_|apply zI));refine⟨?_,((Grow.refl h).new _).set (Nat.le_refl _) _⟩;simp only[FrzTo];exact⟨_,rfl,hfz _ _⟩
    |false=>
     cases k5:(op.data.toList==(#[61]:Array UInt8).toList)with
     |true=>
      rw[if_pos (by simp[isCmp,(show bEq op opAtom=false from k1),(show bEq op opSame=false from k2),(show bEq op opLt=false from k3),(show bEq op opLe=false from k4),(show bEq op opEq=true from k5)])];have hx2:exprs.length=2:=(by have q:=hpo;simp[partsOk,shapeOf,(show bEq op opAtom=false from k1),(show bEq op opSame=false from k2),(show bEq op opLt=false from k3),(show bEq op opLe=false from k4),(show bEq op opEq=true from k5)]at q;omega);obtain⟨a,b,rfl⟩: ∃ a b,exprs=[a,b]:=by
       match exprs,hx2 with
       |[a,b],_=>exact⟨a,b,rfl⟩
      have ca:=rwriteE_c a (hes a (by simp)) (hse a (by simp));have cb:=rwriteE_c b (hes b (by simp)) (hse b (by simp));have hw:=fun h:Heap=>rwd_c (h:=h) (s:=op);simp only[List.map_cons,List.map_nil];have hfz:=fun(n:Nat)(h:Heap)=>sx_frz n h (listM [wordM op,exW a,exW b]);generalize exW a=xa at ca hfz⊢;generalize exW b=xb at cb hfz⊢;(try clear zz);clear ih hks hpo hse hsk hes;obtain⟨aop,aname,an,aargs,akids⟩:=a;obtain⟨bop,bname,bn,bargs,bkids⟩:=b;obtain⟨ki,va,li,co,te,ks⟩:=xa;obtain⟨ki2,va2,li2,co2,te2,ks2⟩:=xb;simp only[Fm.cells,Ex.cells,Ex.rows,listM,Sx.cells,Sx.rows,wordM]at ca cb hw hfz⊢;refine uG0 Tryz.func74 Tryz.ntmps74 Tryz.results74 Ty.hb_74 ?_;replace zz:=uu k1 (uu k2 (uu k3 (uu k4 k5)));(repeat'(first|refine a_seq fun K hK=>?_|refine uR zz ?_|refine uD zz ?_|refine uC1 zz ?_|(refine uN hK ?_;clear hK)|apply zI));(first|refine uV trivial (hw _) ?_|refine uA trivial (hw _) ?_);(try apply zI);(first|refine uV trivial (ca _) ?_|refine uA trivial (ca _) ?_);(try apply zI);(first|refine uV trivial (cb _) ?_|refine uA trivial (cb _) ?_);(repeat'(first|refine uT trivial ?_|(refine uN hK ?_;clear hK)|refine uB trivial ?_|apply zI));refine⟨?_,((Grow.refl h).new _).set (Nat.le_refl _) _⟩;simp only[FrzTo];exact⟨_,rfl,hfz _ _⟩
     |false=>
      rw[if_neg (by simp[isCmp,(show bEq op opLt=false from k3),(show bEq op opLe=false from k4),(show bEq op opEq=false from k5)])];(try clear zz);clear hse hes hpo;have n6:bEq op opAnd=(op.data.toList==(#[97,110,100]:Array UInt8).toList):=rfl;by_cases hz:(bEq op opAnd&&kids.isEmpty)=true
      ·have hz2:=hz;rw[Bool.and_eq_true]at hz2;have k6:(op.data.toList==(#[97,110,100]:Array UInt8).toList)=true:=hz2.1;have hk0:kids=[]:=List.isEmpty_iff.1 hz2.2;have hq:isQ op=false:=(by rw[bEq_eq hz2.1];try rfl);subst hk0;rw[if_pos hz,hq];simp only[Bool.false_eq_true,if_false,fmWs,List.append_nil,Fm.cells,Fm.rows];refine uG0 Tryz.func74 Tryz.ntmps74 Tryz.results74 Ty.hb_74 ?_;replace zz:=uu k1 (uu k2 (uu k3 (uu k4 (uu k5 k6))));(repeat'(first|refine a_seq fun K hK=>?_|refine a_block ?_|refine uR zz ?_|refine uT zz ?_|refine uK ?_|refine uC1 zz ?_|(refine uN hK ?_;clear hK)|apply zI));refine⟨?_,((Grow.refl h).new _).set (Nat.le_refl _) _⟩;simp only[listM,Sx.cells,Sx.rows,FrzTo,FrzL];exact⟨_,rfl,rfl,rfl,rfl,rfl,rfl,.inr (.inl ⟨rfl,.inr rfl⟩),trivial⟩
      ·rw [if_neg hz];have hw: ∀ (s:ByteArray)(h:Heap),PCall Tryz.prog 109 [sPV s] h fun r h'=>r= .agg (wordM s).cells∧h'=h:=fun s h=>rwd_c;simp only[wordM,Sx.cells,Sx.rows]at hw;simp only[Fm.cells];refine uG (ow:=fun t=>t==51) (wf:=fun _=>false) Tryz.func74 Tryz.ntmps74 Tryz.results74 Ty.hb_74 ?_;replace zz:=uu k1 (uu k2 (uu k3 (uu k4 k5)));(repeat'(first|with_reducible refine a_hold 10 ?_|refine a_seq fun K hK=>?_|refine a_block ?_|refine uR zz ?_|refine uK ?_|refine uC1 zz ?_|(refine uN hK ?_;clear hK)|apply zI));refine⟨?_⟩;refine a_cut (fun S h'=>S 1= .cptr (Fm.mk op name args params exprs kids).cells∧S 2= .ptr h.next 0 0∧h'=h.new (.arr 6 [[.sc (.int .i64 0),.sc (.int .i64 0),.sc (.int .i64 0),.sc (.int .i64 0),.sc (.string ⟨#[]⟩),.sc (.slice none 0 0)]])) ?_ ?_
       ·cases k6:(op.data.toList==(#[97,110,100]:Array UInt8).toList)with
        |false=>
         (repeat'(first|refine a_seq fun K hK=>?_|refine uR k6 ?_|refine uK ?_|refine uC1 k6 ?_|(refine uN hK ?_;clear hK)|apply zI));all_goals first|rfl|trivial|((try refine⟨?_,?_,?_⟩)<;>first|rfl|trivial)|((try refine⟨?_,?_⟩)<;>first|rfl|trivial)
        |true=>
         have hk0:((kids.length:Int)==0)=false:=by
          cases kids with
          |nil=>exact absurd (by rw[n6,k6];try rfl) hz
          |cons a l=>simp;omega
         replace zz:=uu k6 (uu hk0 hlK);(repeat'(first|refine a_seq fun K hK=>?_|refine uR zz ?_|refine uK ?_|refine uC1 zz ?_|(refine uN hK ?_;clear hK)|apply zI));all_goals first|rfl|trivial|((try refine⟨?_,?_,?_⟩)<;>first|rfl|trivial)|((try refine⟨?_,?_⟩)<;>first|rfl|trivial)
       ·rintro S h' ⟨g1,g2,rfl⟩;simp only[Fm.cells]at g1;(repeat'(first|refine a_seq fun K hK=>?_|refine uR (uu g1 g2) ?_|apply zI));refine uU (uu g1 g2) (hw op _) ?_;(repeat'(first|with_reducible refine a_hold 13 ?_|(refine uN hK ?_;clear hK)|apply zI));refine⟨?_⟩;refine a_cut (fun S h'=>S 1= .cptr (Fm.mk op name args params exprs kids).cells∧S 2= .ptr h.next 0 0∧ ∃ id,S 3= .own id 0 (wordM op::(if isQ op=true then[listM (paramsW params)]else[])).length∧Grow h h'∧h.next<id∧id<h'.next∧h'.obj h.next=some (.arr 6 [[.sc (.int .i64 0),.sc (.int .i64 0),.sc (.int .i64 0),.sc (.int .i64 0),.sc (.string ⟨#[]⟩),.sc (.slice none 0 0)]])∧h'.obj id=some (.arr 6 (Sx.rows (wordM op::(if isQ op=true then[listM (paramsW params)]else[]))))) ?_ ?_
        ·have n7:bEq op opAll=(op.data.toList==(#[102,111,114,97,108,108]:Array UInt8).toList):=rfl;have n8:bEq op opSome=(op.data.toList==(#[101,120,105,115,116,115]:Array UInt8).toList):=rfl;cases k7:(op.data.toList==(#[102,111,114,97,108,108]:Array UInt8).toList)with
         |true=>
          rw[if_pos (by simp[isQ,n7,n8,k7])];have hwp:=rwriteParams_c (l:=params) hpl;simp only[listM,wordM,Sx.rows,Sx.cells,List.length_cons,List.length_nil];generalize Sx.rows (paramsW params)=PR at hwp⊢;replace zz:=uu g1 (uu g2 (uu k7 (uu @nsucc (uu @Nat.add_eq_left @Nat.one_ne_zero))));(repeat'(first|refine a_seq fun K hK=>?_|refine uR zz ?_|refine uC1 zz ?_|(refine uN hK ?_;clear hK)|apply zI));refine uU (uu g1 (uu g2 k7)) (hwp _) ?_;(try apply zI);refine⟨rfl,h.next+1+1,?_,((((Grow.refl h).new _).new _).kill (Nat.le_succ _)).new _,by omega,by simp[Heap.new,Heap.kill],?_,?_⟩;all_goals first|rfl|(simp[Heap.new,Heap.kill];done)|(simp[Heap.new,Heap.kill];omega)
         |false=>
          cases k8:(op.data.toList==(#[101,120,105,115,116,115]:Array UInt8).toList)with
          |true=>
           rw[if_pos (by simp[isQ,n7,n8,k7,k8])];have hwp:=rwriteParams_c (l:=params) hpl;simp only[listM,wordM,Sx.rows,Sx.cells,List.length_cons,List.length_nil];generalize Sx.rows (paramsW params)=PR at hwp⊢;replace zz:=uu g1 (uu g2 (uu k7 (uu k8 (uu @nsucc (uu @Nat.add_eq_left @Nat.one_ne_zero)))));(repeat'(first|refine a_seq fun K hK=>?_|refine uR zz ?_|refine uC1 zz ?_|(refine uN hK ?_;clear hK)|apply zI));replace zz:=uu g1 (uu g2 (uu k7 k8));refine uU zz (hwp _) ?_;(try apply zI);refine⟨rfl,h.next+1+1,?_,((((Grow.refl h).new _).new _).kill (Nat.le_succ _)).new _,by omega,by simp[Heap.new,Heap.kill],?_,?_⟩;all_goals first|rfl|(simp[Heap.new,Heap.kill];done)|(simp[Heap.new,Heap.kill];omega)
          |false=>
           rw[if_neg (by simp[isQ,n7,n8,k7,k8])];simp only[wordM,Sx.rows,Sx.cells,List.length_cons,List.length_nil];replace zz:=uu g1 (uu g2 (uu k7 k8));repeat'(first|refine a_seq fun K hK=>?_|refine uR zz ?_|refine uK ?_|refine uC1 zz ?_|(refine uN hK ?_;clear hK)|apply zI)
           (try simp(maxSteps:=2000000) only[Ty.w,simprocAttr,Ty.all,g1,g2])
           refine⟨rfl,h.next+1,?_,((Grow.refl h).new _).new _,by omega,by simp[Heap.new],?_,?_⟩;all_goals first|rfl|simp[Heap.new]
        ·(try clear zz);clear g1 g2 S;obtain⟨L1,hL1,hl1⟩: ∃ L1:List Sx,(wordM op::(if isQ op=true then[listM (paramsW params)]else[]))=L1∧L1.length≤2:=⟨_,rfl,by split<;>simp⟩;have hfin:[wordM op]++(if isQ op=true then[listM (paramsW params)]else[])++fmWs kids=L1++kids.map fmW:=(by rw[← hL1,fmWs_map];try rfl);rw[hfin,hL1];(try clear zz);clear hL1 hfin;rintro S h' ⟨g1,g2,id,g3,hg,hlo,hhi,o1,o2⟩;simp only[Fm.cells]at g1;have hrl: ∀ k,(L1++(kids.take k).map fmW).length≤1048578:=fun k=>(by simp;omega);replace zz:=uu g1 (uu g2 (uu g3 hlK));(repeat'(first|refine a_seq fun K hK=>?_|refine a_block ?_|refine uR zz ?_|(refine uN hK ?_;clear hK)|apply zI));refine a_loop (fun c S h'=>S 1= .cptr (Fm.mk op name args params exprs kids).cells∧S 2= .ptr h.next 0 0∧ ∃ k id:Nat,S 4= .sc (.int .i64 k)∧S 3= .own id 0 (L1++(kids.take k).map fmW).length∧k≤kids.length∧c=kids.length-k∧Grow h h'∧h.next<id∧id<h'.next∧h'.obj h.next=some (.arr 6 [[.sc (.int .i64 0),.sc (.int .i64 0),.sc (.int .i64 0),.sc (.int .i64 0),.sc (.string ⟨#[]⟩),.sc (.slice none 0 0)]])∧h'.obj id=some (.arr 6 (Sx.rows (L1++(kids.take k).map fmW)))) kids.length ?_ ?_
         ·simp only[Ty.w,simprocAttr,g1,g2,g3];exact⟨rfl,0,id,rfl,by simp,by omega,rfl,hg,hlo,hhi,o1,by simpa using o2⟩
         ·(try clear zz);clear g1 g2 g3 o1 o2 hg hlo hhi S;rintro c S h' ⟨g1,g2,k,id,g4,g3,hk,rfl,hg,hlo,hhi,o1,o2⟩;simp only[Fm.cells]at g1;by_cases hlt:k<kids.length
          ·have hdk:decide ((k:Int)<(kids.length:Int))=true:=(by simp;omega);have w7:IntKind.i64.wrap ((k:Int)+1)=k+1:=(by rw[wrap64 (by omega) (by omega)]);obtain⟨x,hx⟩: ∃ x,kids[k]? =some x:=⟨_,List.getElem?_eq_getElem hlt⟩;have hmem:=List.mem_of_getElem? hx;have hr:=Fm.rows_get hx;have hcx:=ih x hmem (hks x hmem) (hsk x hmem);have hL:L1++(kids.take (k+1)).map fmW=L1++(kids.take k).map fmW++[fmW x]:=(by rw[List.take_add_one,hx];simp);have hrk:=hrl k;generalize L1++(kids.take k).map fmW=L2 at g3 o2 hrk hL;generalize fmW x=X at hcx hL;obtain⟨xo,xn,xa,xp,xe,xk⟩:=x;obtain⟨ki,va,li,co,te,ks⟩:=X;simp only[Fm.cells,Sx.cells]at hr hcx;have hR:Sx.rows (L2++[.mk ki va li co te ks])=Sx.rows L2++[[.sc (.int .i64 ki),.sc (.int .i64 va),.sc (.int .i64 li),.sc (.int .i64 co),sPV te,.imm 6 (Sx.rows ks)]]:=(by simp[Sx.rows_map,Sx.cells]);have hpr:=Sx.rows_len L2;generalize Sx.rows L2=R at o2 hpr hR;have htk:List.take L2.length R=R:=List.take_of_length_le (by omega);have hb:(L2.length+1)*72≤140737488355328:=(by omega);replace zz:=uu g1 (uu g2 (uu g3 (uu g4 (uu hlK (uu hdk (uu hr o2))))));(repeat'(first|refine a_seq fun K hK=>?_|refine a_block ?_|refine uR zz ?_|refine uQ zz fun K hK=>?_|refine uK ?_|refine uC1 zz ?_|(refine uN hK ?_;clear hK)|apply zI));replace zz:=uu g1 (uu g2 (uu g3 (uu g4 (uu o2 (uu hpr (uu htk hb))))));refine uU zz (hcx _) ?_;replace zz:=uu g1 (uu g2 (uu g3 (uu g4 (uu w7 (uu o2 (uu hpr (uu htk hb)))))));(repeat'(first|refine uR zz ?_|(refine uN hK ?_;clear hK)|(rw[if_pos];rotate_left 1;omega;simp(maxSteps:=2000000) only[Ty.w,simprocAttr,g1,g2,g3,g4,w7,o2,hpr,htk,hb])|apply zI));refine⟨kids.length-(k+1),by omega,rfl,k+1,h'.next,by simp,?_,by omega,rfl,(hg.kill (by omega)).new _,by omega,by simp[Heap.new,Heap.kill],?_,?_⟩
           ·rw [hL];simp
           ·rw [if_neg (by omega),if_neg (by omega)];exact o1
           ·rw [hL,hR];simp[Heap.new,Heap.kill]
          ·have hdk:decide ((k:Int)<(kids.length:Int))=false:=(by simp;omega);have hke:k=kids.length:=(by omega);subst hke;rw[List.take_length]at o2 g3;replace zz:=uu g1 (uu g2 (uu g3 (uu g4 (uu hlK (uu hdk (uu o1 o2))))));(repeat'(first|refine a_seq fun K hK=>?_|refine uR zz ?_|refine uT zz ?_|refine uX ?_|refine uC1 zz ?_|(refine uN hK ?_;clear hK)|(clear hK;refine uN hK ?_;clear hK)|apply zI));refine⟨?_,hg.set (Nat.le_refl _) _⟩;simp only[listM,Sx.cells,FrzTo,FrzL];refine⟨_,rfl,rfl,rfl,rfl,rfl,rfl,.inr (.inr ⟨id,0,_,Sx.rows (L1++kids.map fmW),rfl,by omega,?_,?_,?_⟩),trivial⟩
           ·simp only[Heap.set];rw[if_neg (by omega)];exact o2
           ·rw [Sx.rows_len];omega
           ·rw [List.drop_zero,List.take_of_length_le (by rw[Sx.rows_len];omega)];exact sxs_frz _ _ _
theorem rvalidF_c{f:Fm}(hok:f.ok)(hsm:f.small)(hd:(fmW f).depth≤bigN)(h:Heap):PCall Tryz.prog 117 [.agg f.cells] h fun r h'=>r= .sc (.bool (shapedF f&&rvalidB (fmW f)))∧h'=h:=by
 have hs:=rshapedF_c f hok;cases hb:shapedF f with
 |false=>
  rw[hb]at hs;obtain⟨op,name,args,params,exprs,kids⟩:=f;simp only[Fm.cells]at hs⊢;refine uG0 Tryz.func117 Tryz.ntmps117 Tryz.results117 Ty.hb_117 ?_;repeat'(first|refine a_seq fun K hK=>?_|refine uR trivial ?_|(refine uN hK ?_;clear hK)|apply zI)
  refine uU trivial (hs _) ?_;repeat'(first|refine uT trivial ?_|(refine uN hK ?_;clear hK)|apply zI)
  all_goals rfl
 |true=>
  rw[hb]at hs;have hx:=fmW_ok f hok hsm hb;have hw:=rwriteF_c f hsm hb;have hv:=rvalid_c hx hd;have hq:rvalidB (fmW f)=(shapedS (fmW f)&&decide (((fmW f).depth:Int)≤32)&&decide ((fmW f).count≤4096)):=rfl;rw[← hq]at hv;try clear zz
  clear hq;generalize rvalidB (fmW f)=bb at hv⊢;generalize fmW f=X at hw hv;obtain⟨op,name,args,params,exprs,kids⟩:=f;obtain⟨ki,va,li,co,te,ks⟩:=X;simp only[Fm.cells,Sx.cells,Bool.true_and]at hs hw hv⊢;refine uG0 Tryz.func117 Tryz.ntmps117 Tryz.results117 Ty.hb_117 ?_;repeat'(first|refine a_seq fun K hK=>?_|refine uR trivial ?_|(refine uN hK ?_;clear hK)|apply zI)
  refine uU trivial (hs _) ?_;try apply zI
  refine uU trivial (hw _) ?_;try apply zI
  refine uU trivial (hv _) ?_;repeat'(first|refine uT trivial ?_|(refine uN hK ?_;clear hK)|apply zI)
theorem rParse_c{x:Sx}(hok:x.ok)(hnd:x.nodes≤bigN)(h:Heap):PCall Tryz.prog 83 [.agg x.cells] h fun r h'=>r= .tup [.agg (parseF x).1.cells,iN (parseF x).2]∧h'=h:=by
 refine PCall.frz Ty.hb_83 ?_;have hv:=fun h:Heap=>rvalidS_c hok hnd (Nat.le_trans (Sx.depth_nodes x) hnd) h;have hX:parseF x=(if(svalid x 0 0).1=true then(if(fmP x).2=0 then(if validF (fmP x).1=true then((fmP x).1,0)else(zeroFm,5))else(zeroFm,(fmP x).2))else(zeroFm,2)):=rfl;generalize parseF x=F at hX;have bad: ∀ (c:Int)(h':Heap),Grow h h'→F=(zeroFm,c)→FrzTo h.next h' (.tup [.agg F.1.cells,iN F.2]) (.tup [.agg [.sc (.string ⟨#[]⟩),.sc (.string ⟨#[]⟩),.sc (.slice none 0 0),.sc (.slice none 0 0),.sc (.slice none 0 0),.sc (.slice none 0 0)],iN c])∧Grow h h':=by
  intro c h' hg hF;subst hF;exact⟨frz_tup2 (frz_agg (by simp[zeroFm,Fm.cells,Ex.rows,Fm.rows,pmRows,strRows,FrzL,FrzTo])),hg⟩
 have hg1: ∀ o r,Grow h ((h.new o).set h.next r):=fun o r=>((Grow.refl h).new _).set (Nat.le_refl _) _;have hg2: ∀ o o1 o2 r,Grow h ((((h.new o).new o1).set (h.next+1) o2).set h.next r):=fun o o1 o2 r=>((((Grow.refl h).new _).new _).set (Nat.le_succ _) _).set (Nat.le_refl _) _;cases v1:(svalid x 0 0).1 with
 |false=>
  rw[v1]at hv;rw[if_neg (by rw[v1];simp)]at hX;obtain⟨kind,value,line,col,text,kids⟩:=x;simp only[Sx.cells]at hv⊢;refine uG0 Tryz.func83 Tryz.ntmps83 Tryz.results83 Ty.hb_83 ?_;repeat'(first|refine a_seq fun K hK=>?_|refine uR trivial ?_|(refine uN hK ?_;clear hK)|apply zI)
  refine uU trivial (hv _) ?_;repeat'(first|refine a_seq fun K hK=>?_|refine uR @Bool.not_false ?_|refine uT @Bool.not_false ?_|(refine uN hK ?_;clear hK)|apply zI)
  exact bad 2 _ (hg1 _ _) hX
 |true=>
  have hsm:=svalid_small v1;have hsv:=(svalid_iff x 0 0 (by omega) (by omega)).1.1 v1;have hp:=rformula_c x hok hsm hsv.1 hnd;have hfo:=fmP_ok x hok hsm;have hn:=(fmP_nodes x).1;have hzz:=(fmP_nodes x).2;rw[v1]at hv;rw[if_pos v1]at hX;have hnb:(fmW (fmP x).1).nodes≤bigN:=by unfold bigN;omega
  have hV:=(fun h:Heap=>by have:=rvalidF_c hfo.1 hfo.2 (Nat.le_trans (Sx.depth_nodes _) hnb) h;rw[← validF_same hnb]at this;exact this: ∀ h:Heap,PCall Tryz.prog 117 [.agg (fmP x).1.cells] h fun r h'=>r= .sc (.bool (validF (fmP x).1))∧h'=h);have hfz:=fun n hh=>fm_frz n hh (fmP x).1;generalize fmP x=E at hp hfo hX hfz hzz hV;obtain⟨f,c⟩:=E;simp only at hp hfo hX hfz hzz hV;try clear zz
  clear hn hnb hsv hsm hok hnd hfo;obtain⟨kind,value,line,col,text,kids⟩:=x;simp only[Sx.cells]at hv hp⊢;cases hc:c==0 with
  |false=>
   rw[if_neg (by simpa using hc)]at hX;have:=hzz hc;subst this;simp only[zeroFm,Fm.cells]at hp;refine uG0 Tryz.func83 Tryz.ntmps83 Tryz.results83 Ty.hb_83 ?_;(repeat'(first|refine a_seq fun K hK=>?_|refine uR trivial ?_|(refine uN hK ?_;clear hK)|apply zI));refine uU trivial (hv _) ?_;(repeat'(first|refine a_seq fun K hK=>?_|refine uR @Bool.not_true ?_|refine uK ?_|refine uC1 @Bool.not_true ?_|(refine uN hK ?_;clear hK)|apply zI));refine uU trivial (hp _) ?_;replace zz:=uu @nsucc (uu hc (uu @Nat.add_eq_left @Nat.one_ne_zero));(repeat'(first|refine a_seq fun K hK=>?_|refine uR zz ?_|refine uT zz ?_|refine uK ?_|refine uC1 zz ?_|(refine uN hK ?_;clear hK)|apply zI));subst hX;exact⟨frz_tup2 (frz_agg (by simpa only[zeroFm,Fm.cells]using hfz _ _)),hg2 _ _ _ _⟩
  |true=>
   have hc0:c=0:=(by simpa using hc);rw[if_pos hc0]at hX;subst hc0;cases v2:validF f with
   |false=>
    rw[v2]at hV;rw[if_neg (by rw[v2];simp)]at hX;obtain⟨fop,fna,far,fpa,fex,fki⟩:=f;simp only[Fm.cells]at hp hV;refine uG0 Tryz.func83 Tryz.ntmps83 Tryz.results83 Ty.hb_83 ?_;(repeat'(first|refine a_seq fun K hK=>?_|refine uR trivial ?_|(refine uN hK ?_;clear hK)|apply zI));refine uU trivial (hv _) ?_;(repeat'(first|refine a_seq fun K hK=>?_|refine uR @Bool.not_true ?_|refine uK ?_|refine uC1 @Bool.not_true ?_|(refine uN hK ?_;clear hK)|apply zI));refine uU trivial (hp _) ?_;(repeat'(first|refine a_seq fun K hK=>?_|(refine a_regionS ?_;simp(maxSteps:=2000000) only[Ty.w,simprocAttr,nsucc,beq_self_eq_true])|(refine hK _ _ ?_;clear hK;(try simp only[pst0,simprocAttr]))));refine owp_useQ (hV _) (by(try simp only[Ty.w,simprocAttr,nsucc,beq_self_eq_true]);try rfl) ?_;simp(maxSteps:=2000000) only[Ty.w,simprocAttr,nsucc,beq_self_eq_true];replace zz:=uu @nsucc @Bool.not_false;(repeat'(first|refine a_seq fun K hK=>?_|refine uR zz ?_|refine uT zz ?_|(refine uN hK ?_;clear hK)|apply zI));exact bad 5 _ (hg2 _ _ _ _) hX
   |true=>
    rw[v2]at hV;rw[if_pos v2]at hX;subst hX;obtain⟨fop,fna,far,fpa,fex,fki⟩:=f;simp only[Fm.cells]at hp hV hfz;simp only[Fm.cells];refine uG0 Tryz.func83 Tryz.ntmps83 Tryz.results83 Ty.hb_83 ?_;(repeat'(first|refine a_seq fun K hK=>?_|refine uR trivial ?_|(refine uN hK ?_;clear hK)|apply zI));refine uU trivial (hv _) ?_;(repeat'(first|refine a_seq fun K hK=>?_|refine uR @Bool.not_true ?_|refine uK ?_|refine uC1 @Bool.not_true ?_|(refine uN hK ?_;clear hK)|apply zI));refine uU trivial (hp _) ?_;(repeat'(first|refine a_seq fun K hK=>?_|(refine a_regionS ?_;simp(maxSteps:=2000000) only[Ty.w,simprocAttr,nsucc,beq_self_eq_true])|(refine hK _ _ ?_;clear hK;(try simp only[pst0,simprocAttr]))));refine owp_useQ (hV _) (by(try simp only[Ty.w,simprocAttr,nsucc,beq_self_eq_true]);try rfl) ?_;simp(maxSteps:=2000000) only[Ty.w,simprocAttr,nsucc,beq_self_eq_true];replace zz:=uu @nsucc (uu @Bool.not_true (uu @Nat.add_eq_left @Nat.one_ne_zero));(repeat'(first|refine a_seq fun K hK=>?_|refine uR zz ?_|refine uT zz ?_|refine uK ?_|refine uC1 zz ?_|(refine uN hK ?_;clear hK)|apply zI));exact⟨frz_tup2 (frz_agg (hfz _ _)),hg2 _ _ _ _⟩
set_option maxHeartbeats 8000000
theorem rsection_c{h0:Heap}{id:Nat}{p:Pb}{w:ByteArray}{rest:List Sx}(hl:rest.length≤1048576)(hok: ∀ y∈rest,y.ok)(hsm: ∀ y∈rest,y.small)(hnd: ∀ y∈rest,y.nodes≤bigN)(hb1:p.init.length≤1099511627776)(hb2:p.values.length≤1099511627776)(h:Heap)(hI:PbI h0 id p h):
  PCall Tryz.prog 39 [.ptr id 0 0,sPV w,.imm 6 (Sx.rows rest)] h fun r h'=>r=iN (sectP p w rest).2∧PbI h0 id (sectP p w rest).1 h':=by
 have hll:=Sx.rows_len rest;generalize hF:sectP p w rest=F;unfold sectP at hF;cases q1:(w.data.toList==(#[58,111,98,106,101,99,116,115]:Array UInt8).toList)with
 |true=>
  rw[show bEq w opObjs=true from q1]at hF;simp only[cond_true]at hF;have hp:=fun h:Heap=>rparams_p (vars:=false) hl hok (fun y hy=>⟨hnd y hy,Nat.le_trans (Sx.depth_nodes _) (hnd y hy)⟩) h;generalize paramsP false rest=L at hF hp;obtain⟨l,c⟩:=L;simp only[iN]at hF hp;subst hF;obtain⟨g,idl,o,i,v,g2,g3,g4,g5,gop,gna,gar,gpa,gex,gki,e1,e2,e3,e4,e5,e6⟩:=hI;refine uG0 Tryz.func39 Tryz.ntmps39 Tryz.results39 Ty.hb_39 ?_;repeat'(first|refine a_seq fun K hK=>?_|refine uR q1 ?_|(refine uN hK ?_;clear hK)|apply zI)
  refine uU e2 (hp _) ?_;repeat'(first|refine a_seq fun K hK=>?_|refine uR e2 ?_|refine uT e2 ?_|(refine uN hK ?_;clear hK)|apply zI)
  refine⟨g.set idl.1 _,⟨idl.1,idl.2⟩,.imm 2 (pmRows l),i,v,g2,g3,g4,g5,gop,gna,gar,gpa,gex,gki,e1,by simp only[Heap.set,if_true],.inl rfl,?_,?_,e6⟩
  ·exact e4.up (Nat.le_refl _) (fun j hj hj2=>by simp only[Heap.set];rw[if_neg (by omega)])
  ·exact e5.up (Nat.le_refl _) (fun j hj hj2=>by simp only[Heap.set];rw[if_neg (by omega)])
 |false=>
  rw[show bEq w opObjs=false from q1]at hF;simp only[cond_false]at hF;cases q2:(w.data.toList==(#[58,105,110,105,116]:Array UInt8).toList)with
  |false=>
   rw[show bEq w opInit=false from q2]at hF;simp only[cond_false]at hF;cases q3:((rest.length:Int) !=1)with
   |true=>
    have e:F=(p,2):=by
     rw[← hF]
     match rest,q3 with
     |[],_=>rfl
     |[a],q=>simp at q
     |_::_::_,_=>rfl
    subst e;(try clear zz);clear hF;refine uG0 Tryz.func39 Tryz.ntmps39 Tryz.results39 Ty.hb_39 ?_;replace zz:=uu q1 (uu q2 (uu q3 hll));(repeat'(first|refine a_seq fun K hK=>?_|refine a_block ?_|refine uR zz ?_|refine uT zz ?_|refine uK ?_|(refine uN hK ?_;clear hK)|apply zI));exact hI
   |false=>
    obtain⟨x,rfl⟩: ∃ x,rest=[x]:=by
     match rest,q3 with
     |[],q=>simp at q
     |[a],_=>exact⟨a,rfl⟩
     |_::_::l,q=>simp at q;omega
    simp only at hF;have hr:=Sx.rows_get (l:=[x]) (i:=0) rfl;have hp:=fun h:Heap=>rParse_c (hok x (by simp)) (hnd x (by simp)) h;simp only[List.length_cons,List.length_nil,Nat.zero_add]at hll q3;generalize Sx.rows [x]=R at hll hr⊢;generalize parseF x=L at hF hp;obtain⟨⟨fop,fna,far,fpa,fex,fki⟩,c⟩:=L;obtain⟨ki,va,li,co,te,ks⟩:=x;simp only[iN]at hF hp;simp only[Sx.cells,Fm.cells]at hr hp;subst hF;refine uG0 Tryz.func39 Tryz.ntmps39 Tryz.results39 Ty.hb_39 ?_;replace zz:=uu q1 (uu q2 (uu q3 (uu hll hr)));(repeat'(first|refine a_seq fun K hK=>?_|refine a_block ?_|refine uR zz ?_|refine uK ?_|refine uC1 zz ?_|(refine uN hK ?_;clear hK)|apply zI));refine uU (uu hll (uu hr @nsucc)) (hp _) ?_;(repeat'(first|with_reducible refine a_holdR 17 ?_|(refine uN hK ?_;clear hK)|apply zI));refine⟨?_⟩;refine a_tmp 11 rfl (by simp only[Ty.w,simprocAttr]) (fun n H=>by simp only[FrzL,FrzTo,and_true,true_and];exact⟨.inl (strs_in _ _),.inl (pms_in _ _),.inl (exs_in _ _),.inl (fms_in _ _)⟩) ?_;refine a_gen (fun S H=>S 0= .ptr id 0 0∧S 11= .cptr [sPV fop,sPV fna,.imm 1 (strRows far),.imm 2 (pmRows fpa),.imm 5 (Ex.rows fex),.imm 6 (Fm.rows fki)]∧S 12= .sc (.int .i64 c)∧PbI h0 id p H) ⟨by simp only[Ty.w,simprocAttr],by simp only[Ty.w,simprocAttr],by simp only[Ty.w,simprocAttr],hI.tmp _ _⟩ ?_;(try clear zz);clear hI hp;rintro S h' ⟨g0,g11,g12,hI⟩;obtain⟨g,idl,o,i,v,g2,g3,g4,g5,gop,gna,gar,gpa,gex,gki,e1,e2,e3,e4,e5,e6⟩:=hI;replace zz:=uu g0 (uu g11 (uu g12 e2));(repeat'(first|refine a_seq fun K hK=>?_|refine uR zz ?_|refine uT zz ?_|(refine uN hK ?_;clear hK)|apply zI));refine⟨g.set idl.1 _,⟨idl.1,idl.2⟩,o,i,v,_,_,_,_,fop,fna,far,fpa,fex,fki,rfl,by simp only[Heap.set,if_true],e3,?_,?_,.inl rfl,.inl rfl,.inl rfl,.inl rfl⟩
    ·exact e4.up (Nat.le_refl _) (fun j hj hj2=>by simp only[Heap.set];rw[if_neg (by omega)])
    ·exact e5.up (Nat.le_refl _) (fun j hj hj2=>by simp only[Heap.set];rw[if_neg (by omega)])
  |true=>
   rw[show bEq w opInit=true from q2]at hF;simp only[cond_true]at hF;generalize hE:elemsP p.init p.values rest=E at hF;refine uG0 Tryz.func39 Tryz.ntmps39 Tryz.results39 Ty.hb_39 ?_;(repeat'(first|refine a_seq fun K hK=>?_|refine a_block ?_|refine uR (uu q1 (uu q2 hll)) ?_|(refine uN hK ?_;clear hK)|apply zI));refine a_loop (fun m S h'=>S 0= .ptr id 0 0∧S 2= .imm 6 (Sx.rows rest)∧ ∃ (k:Nat)(a:List At)(v:List Vl),S 9= .sc (.int .i64 k)∧k≤rest.length∧m=rest.length-k∧a.length≤p.init.length+k∧v.length≤p.values.length+k∧
    PbI h0 id ⟨p.name,p.domain,p.objects,a,v,p.goal⟩ h'∧E=elemsP a v (rest.drop k)) rest.length ?_ ?_
   ·simp only[Ty.w,simprocAttr];exact⟨0,p.init,p.values,rfl,by omega,rfl,by omega,by omega,hI,by rw[List.drop_zero];exact hE.symm⟩
   ·(try clear zz);clear hI hE;rintro m S h' ⟨gs0,g2,k,a,v,g9,hk,rfl,hal,hvl,hI,hinv⟩;by_cases hlt:k<rest.length
    ·have hd:decide ((k:Int)<(rest.length:Int))=true:=(by simp;omega);have w7:IntKind.i64.wrap ((k:Int)+1)=k+1:=(by rw[wrap64 (by omega) (by omega)]);obtain⟨x,hx⟩: ∃ x,rest[k]? =some x:=⟨_,List.getElem?_eq_getElem hlt⟩;have hr:=Sx.rows_get hx;have hmem:=List.mem_of_getElem? hx;rw[drop_of_get hx]at hinv;simp only[elemsP]at hinv;have hle:=elemP_len a v x;have hel:=fun(H:Heap)(hI:PbI h0 id ⟨p.name,p.domain,p.objects,a,v,p.goal⟩ H)=>relement_c (hok x hmem) (hsm x hmem) (by simp only;omega) (by simp only;omega) H hI;simp only at hel;generalize elemP a v x=W at hinv hle hel;obtain⟨a2,v2,c⟩:=W;simp only[iN]at hinv hle hel;obtain⟨ki,va,li,co,te,ks⟩:=x;simp only[Sx.cells]at hr hel;replace zz:=uu gs0 (uu g2 (uu g9 (uu hll (uu hd hr))));(repeat'(first|refine a_seq fun K hK=>?_|refine uR zz ?_|refine uK ?_|refine uC1 zz ?_|(refine uN hK ?_;clear hK)|apply zI));refine owp_useL (hel _ hI) (by simp only[Ty.w,simprocAttr,gs0,g2,g9,hr];try rfl) ?_;rintro r h2 ⟨rfl,hI2⟩;(try clear zz);clear hI;simp(maxSteps:=2000000) only[Ty.w,simprocAttr,Ty.all];have hbn:(c !=0)=!(c==0):=rfl;cases hcc:c==0 with
     |false=>
      rw[hcc]at hinv;simp only[cond_false]at hinv;replace zz:=uu hbn (uu hcc @Bool.not_false);(repeat'(first|refine a_seq fun K hK=>?_|refine uR zz ?_|refine uT zz ?_|(refine uN hK ?_;clear hK)|apply zI));subst hinv;subst hF;exact⟨rfl,hI2⟩
     |true=>
      rw[hcc]at hinv;simp only[cond_true]at hinv;replace zz:=uu gs0 (uu g2 (uu g9 (uu w7 (uu hbn (uu hcc @Bool.not_true)))));(repeat'(first|refine a_seq fun K hK=>?_|refine a_block ?_|refine uR zz ?_|refine uK ?_|(refine uN hK ?_;clear hK)|apply zI));exact⟨rest.length-(k+1),by omega,k+1,a2,v2,by simp,by omega,rfl,by omega,by omega,hI2,hinv⟩
    ·have hd:decide ((k:Int)<(rest.length:Int))=false:=(by simp;omega);rw[List.drop_eq_nil_of_le (by omega)]at hinv;simp only[elemsP]at hinv;subst hinv;subst hF;replace zz:=uu gs0 (uu g2 (uu g9 (uu hll hd)));(repeat'(first|refine a_seq fun K hK=>?_|refine uR zz ?_|refine uT zz ?_|refine uX ?_|refine uC1 zz ?_|(refine uN hK ?_;clear hK)|(clear hK;refine uN hK ?_;clear hK)|apply zI));exact hI
set_option maxHeartbeats 4000000
theorem rsameE_c: ∀ a:Ex,a.ok→ ∀ b:Ex,b.ok→ ∀ h:Heap,PCall Tryz.prog 86 [.agg a.cells,.agg b.cells] h fun r h'=>r= .sc (.bool (a.same b))∧h'=h:=by
 refine Ex.ind ?_;intro op name n args kids ih hok;rintro⟨op3,name3,n3,args3,kids3⟩ hok3 h;simp only[Ex.ok]at hok hok3;obtain⟨_,_,_,⟨ha,_⟩,hk,hks⟩:=hok;obtain⟨_,_,_,⟨ha3,_⟩,hk3,hks3⟩:=hok3;rw[Ex.oks_iff]at hks hks3;have hfk: ∀ a∈kids, ∀ b∈kids3, ∀ h:Heap,PCall Tryz.prog 86 [.agg a.cells,.agg b.cells] h fun r h'=>r= .sc (.bool (a.same b))∧h'=h:=fun a ha b hb=>ih a ha (hks a ha) b (hks3 b hb);try clear zz
 clear ih;have hl_kids:=Ex.rows_len kids;have hl_kids3:=Ex.rows_len kids3;have cellsA:(Ex.mk op name n args kids).cells=(Ex.mk op name n args kids).cells:=rfl;have cellsB:(Ex.mk op3 name3 n3 args3 kids3).cells=(Ex.mk op3 name3 n3 args3 kids3).cells:=rfl
 conv at cellsA=>rhs;simp only[Ex.cells]
 conv at cellsB=>rhs;simp only[Ex.cells]
 rw[cellsA,cellsB];refine uG0 Tryz.func86 Tryz.ntmps86 Tryz.results86 Ty.hb_86 ?_;cases e0:(op.data.toList==op3.data.toList)with
 |false=>
  have hs:(Ex.mk op name n args kids).same (.mk op3 name3 n3 args3 kids3)=false:=by simp only[Ex.same,bEq,e0,Bool.false_and,Bool.and_false]
  replace zz:=uu @Bool.not_true (uu @Bool.not_false e0);repeat'(first|refine a_seq fun K hK=>?_|refine uR zz ?_|refine uT zz ?_|(refine uN hK ?_;clear hK)|apply zI)
  rw[hs]
 |true=>
  cases e1:(name.data.toList==name3.data.toList)with
  |false=>
   have hs:(Ex.mk op name n args kids).same (.mk op3 name3 n3 args3 kids3)=false:=(by simp only[Ex.same,bEq,e0,e1,Bool.false_and,Bool.and_false]);replace zz:=uu @Bool.not_true (uu @Bool.not_false (uu e0 e1));(repeat'(first|refine a_seq fun K hK=>?_|refine uR zz ?_|refine uT zz ?_|(refine uN hK ?_;clear hK)|apply zI));rw[hs]
  |true=>
   cases e2:(n !=n3)with
   |true=>
    have en:(n==n3)=false:=(by simpa using e2);have hs:(Ex.mk op name n args kids).same (.mk op3 name3 n3 args3 kids3)=false:=(by simp only[Ex.same,bEq,e0,e1,en,Bool.false_and,Bool.and_false]);replace zz:=uu @Bool.not_true (uu @Bool.not_false (uu e0 (uu e1 e2)));(repeat'(first|refine a_seq fun K hK=>?_|refine uR zz ?_|refine uT zz ?_|(refine uN hK ?_;clear hK)|apply zI));rw[hs]
   |false=>
    have en:(n==n3)=true:=(by simpa using e2);replace zz:=uu @Bool.not_true (uu @Bool.not_false (uu e0 (uu e1 e2)));(repeat'(first|refine a_seq fun K hK=>?_|refine uR zz ?_|(refine uN hK ?_;clear hK)|apply zI));cases e3:bsEq args args3 with
    |false=>
     have hs:(Ex.mk op name n args kids).same (.mk op3 name3 n3 args3 kids3)=false:=(by simp only[Ex.same,bEq,e0,e1,en,e3,Bool.false_and,Bool.and_false]);replace zz:=uu @Bool.not_true (uu @Bool.not_false (uu e0 (uu e1 (uu e2 e3))));refine uU zz (rtexts_c (l:=args) (m:=args3) ha ha3) ?_;(repeat'(first|refine a_seq fun K hK=>?_|refine uR zz ?_|refine uT zz ?_|(refine uN hK ?_;clear hK)|apply zI));rw[hs]
    |true=>
     cases l_kids:((kids.length:Int) !=kids3.length)with
     |true=>
      have hlen:Ex.sames kids kids3=false:=Ex.sames_len (by simp at l_kids;omega);have hs:(Ex.mk op name n args kids).same (.mk op3 name3 n3 args3 kids3)=false:=(by simp only[Ex.same,bEq,e0,e1,en,e3,hlen,Bool.false_and,Bool.and_false]);replace zz:=uu @Bool.not_true (uu @Bool.not_false (uu e0 (uu e1 (uu e2 (uu e3 (uu l_kids (uu hl_kids hl_kids3)))))));refine uU zz (rtexts_c (l:=args) (m:=args3) ha ha3) ?_;(repeat'(first|refine a_seq fun K hK=>?_|refine uR zz ?_|refine uT zz ?_|(refine uN hK ?_;clear hK)|apply zI));rw[hs]
     |false=>
      have hn_kids:kids.length=kids3.length:=(by simp at l_kids;omega);replace zz:=uu @Bool.not_true (uu @Bool.not_false (uu e0 (uu e1 (uu e2 (uu e3 (uu l_kids (uu hl_kids hl_kids3)))))));refine uU zz (rtexts_c (l:=args) (m:=args3) ha ha3) ?_;(repeat'(first|refine a_seq fun K hK=>?_|refine a_block ?_|refine uR zz ?_|refine uK ?_|refine uC1 zz ?_|(refine uN hK ?_;clear hK)|apply zI));refine a_loop (fun c S h7=>h7=h∧S 2= .cptr (Ex.mk op name n args kids).cells∧S 3= .cptr (Ex.mk op3 name3 n3 args3 kids3).cells∧ ∃ k:Nat,S 5= .sc (.int .i64 k)∧k≤kids.length∧c=kids.length-k∧Ex.sames kids kids3=Ex.sames (kids.drop k) (kids3.drop k)) kids.length ?_ ?_
      ·simp only[Ty.w,simprocAttr,cellsA,cellsB];exact⟨0,rfl,by omega,rfl,by simp⟩
      ·rintro c S h7 ⟨rfl,g2,g3,k,gk,hkl,rfl,hinv⟩;rw[cellsA]at g2;rw[cellsB]at g3;by_cases hlt:k<kids.length
       ·have hd:decide ((k:Int)<(kids.length:Int))=true:=(by simp;omega);have w7:IntKind.i64.wrap ((k:Int)+1)=k+1:=(by unfold bigN at hk;rw[wrap64 (by omega) (by omega)]);obtain⟨a,hx⟩: ∃ a,kids[k]? =some a:=⟨_,List.getElem?_eq_getElem hlt⟩;obtain⟨b,hy⟩: ∃ b,kids3[k]? =some b:=⟨_,List.getElem?_eq_getElem (by omega)⟩;have hc:=hfk a (List.mem_of_getElem? hx) b (List.mem_of_getElem? hy);rw[drop_of_get hx,drop_of_get hy]at hinv;simp only[Ex.sames]at hinv;have hr:=Ex.rows_get hx;have hr2:=Ex.rows_get hy;generalize he:a.same b=e at hc hinv;(try clear zz);clear he;obtain⟨op2,name2,n2,args2,kids2⟩:=a;obtain⟨op4,name4,n4,args4,kids4⟩:=b;simp only[Ex.cells]at hr hr2 hc;cases e with
        |false=>
         have hs:(Ex.mk op name n args kids).same (.mk op3 name3 n3 args3 kids3)=false:=(by simp only[Ex.same,bEq,hinv,e0,e1,en,e3,Bool.false_and,Bool.and_false]);replace zz:=uu g2 (uu g3 (uu gk (uu hl_kids (uu hl_kids3 (uu hd (uu hr (uu hr2 (uu w7 @Bool.not_false))))))));(repeat'(first|refine a_seq fun K hK=>?_|refine uR zz ?_|refine uD zz ?_|refine uK ?_|refine uC1 zz ?_|(refine uN hK ?_;clear hK)|apply zI));replace zz:=uu g2 (uu g3 (uu gk (uu hl_kids (uu hl_kids3 (uu hd (uu hr hr2))))));(first|refine uV zz (hc _) ?_|refine uA zz (hc _) ?_);replace zz:=uu g2 (uu g3 (uu gk (uu w7 @Bool.not_false)));(repeat'(first|refine a_seq fun K hK=>?_|refine uR zz ?_|refine uT zz ?_|(refine uN hK ?_;clear hK)|apply zI));rw[hs]
        |true=>
         rw[Bool.true_and]at hinv;replace zz:=uu g2 (uu g3 (uu gk (uu hl_kids (uu hl_kids3 (uu hd (uu hr (uu hr2 (uu w7 @Bool.not_true))))))));(repeat'(first|refine a_seq fun K hK=>?_|refine uR zz ?_|refine uD zz ?_|refine uK ?_|refine uC1 zz ?_|(refine uN hK ?_;clear hK)|apply zI));replace zz:=uu g2 (uu g3 (uu gk (uu hl_kids (uu hl_kids3 (uu hd (uu hr hr2))))));(first|refine uV zz (hc _) ?_|refine uA zz (hc _) ?_);replace zz:=uu g2 (uu g3 (uu gk (uu w7 @Bool.not_true)));(repeat'(first|refine a_block ?_|refine uR zz ?_|refine uK ?_|(refine uN hK ?_;clear hK)|apply zI));exact⟨kids.length-(k+1),by omega,by rw[cellsA],by rw[cellsB],k+1,by simp,by omega,rfl,hinv⟩
       ·have hd:decide ((k:Int)<(kids.length:Int))=false:=(by simp;omega);rw[List.drop_eq_nil_of_le (by omega),List.drop_eq_nil_of_le (by omega)]at hinv;have hq0:=hinv;simp only[Ex.sames]at hq0;(try clear zz);clear hinv;have hs:(Ex.mk op name n args kids).same (.mk op3 name3 n3 args3 kids3)=true:=(by simp only[Ex.same,bEq,e0,e1,en,e3,hq0,Bool.true_and]);replace zz:=uu g2 (uu g3 (uu gk (uu hl_kids (uu hl_kids3 hd))));(repeat'(first|refine a_seq fun K hK=>?_|refine uR zz ?_|refine uT zz ?_|refine uX ?_|refine uC1 zz ?_|(refine uN hK ?_;clear hK)|(clear hK;refine uN hK ?_;clear hK)|apply zI));rw[hs]
theorem rsame_c: ∀ a:Fm,a.ok→ ∀ b:Fm,b.ok→ ∀ h:Heap,PCall Tryz.prog 43 [.agg a.cells,.agg b.cells] h fun r h'=>r= .sc (.bool (a.same b))∧h'=h:=by
 refine Fm.ind ?_;intro op name args params exprs kids ih hok;rintro⟨op3,name3,args3,params3,exprs3,kids3⟩ hok3 h;simp only[Fm.ok]at hok hok3;obtain⟨_,_,⟨ha,_⟩,⟨hp,_⟩,⟨he,hes⟩,hk,hks⟩:=hok;obtain⟨_,_,⟨ha3,_⟩,⟨hp3,_⟩,⟨he3,hes3⟩,hk3,hks3⟩:=hok3;rw[Fm.oks_iff]at hks hks3;have hfk: ∀ a∈kids, ∀ b∈kids3, ∀ h:Heap,PCall Tryz.prog 43 [.agg a.cells,.agg b.cells] h fun r h'=>r= .sc (.bool (a.same b))∧h'=h:=fun a ha b hb=>ih a ha (hks a ha) b (hks3 b hb);rw[Ex.oks_iff]at hes hes3;have hfe: ∀ a∈exprs, ∀ b∈exprs3, ∀ h:Heap,PCall Tryz.prog 86 [.agg a.cells,.agg b.cells] h fun r h'=>r= .sc (.bool (a.same b))∧h'=h:=fun a ha b hb=>rsameE_c a (hes a ha) b (hes3 b hb);try clear zz
 clear ih;have hl_exprs:=Ex.rows_len exprs;have hl_exprs3:=Ex.rows_len exprs3;have hl_kids:=Fm.rows_len kids;have hl_kids3:=Fm.rows_len kids3;have cellsA:(Fm.mk op name args params exprs kids).cells=(Fm.mk op name args params exprs kids).cells:=rfl;have cellsB:(Fm.mk op3 name3 args3 params3 exprs3 kids3).cells=(Fm.mk op3 name3 args3 params3 exprs3 kids3).cells:=rfl
 conv at cellsA=>rhs;simp only[Fm.cells]
 conv at cellsB=>rhs;simp only[Fm.cells]
 rw[cellsA,cellsB];refine uG0 Tryz.func43 Tryz.ntmps43 Tryz.results43 Ty.hb_43 ?_;cases e0:(op.data.toList==op3.data.toList)with
 |false=>
  have hs:(Fm.mk op name args params exprs kids).same (.mk op3 name3 args3 params3 exprs3 kids3)=false:=by simp only[Fm.same,bEq,e0,Bool.false_and,Bool.and_false]
  replace zz:=uu @Bool.not_true (uu @Bool.not_false e0);repeat'(first|refine a_seq fun K hK=>?_|refine uR zz ?_|refine uT zz ?_|(refine uN hK ?_;clear hK)|apply zI)
  rw[hs]
 |true=>
  cases e1:(name.data.toList==name3.data.toList)with
  |false=>
   have hs:(Fm.mk op name args params exprs kids).same (.mk op3 name3 args3 params3 exprs3 kids3)=false:=(by simp only[Fm.same,bEq,e0,e1,Bool.false_and,Bool.and_false]);replace zz:=uu @Bool.not_true (uu @Bool.not_false (uu e0 e1));(repeat'(first|refine a_seq fun K hK=>?_|refine uR zz ?_|refine uT zz ?_|(refine uN hK ?_;clear hK)|apply zI));rw[hs]
  |true=>
   replace zz:=uu @Bool.not_true (uu @Bool.not_false (uu e0 e1));(repeat'(first|refine a_seq fun K hK=>?_|refine uR zz ?_|(refine uN hK ?_;clear hK)|apply zI));cases e2:bsEq args args3 with
   |false=>
    have hs:(Fm.mk op name args params exprs kids).same (.mk op3 name3 args3 params3 exprs3 kids3)=false:=(by simp only[Fm.same,bEq,e0,e1,e2,Bool.false_and,Bool.and_false]);replace zz:=uu @Bool.not_true (uu @Bool.not_false (uu e0 (uu e1 e2)));refine uU zz (rtexts_c (l:=args) (m:=args3) ha ha3) ?_;(repeat'(first|refine a_seq fun K hK=>?_|refine uR zz ?_|refine uT zz ?_|(refine uN hK ?_;clear hK)|apply zI));rw[hs]
   |true=>
    replace zz:=uu @Bool.not_true (uu @Bool.not_false (uu e0 (uu e1 (uu e2 (uu hl_exprs (uu hl_exprs3 (uu hl_kids hl_kids3)))))));refine uU zz (rtexts_c (l:=args) (m:=args3) ha ha3) ?_;(try apply zI);cases e3:pmsEq params params3 with
    |false=>
     have hs:(Fm.mk op name args params exprs kids).same (.mk op3 name3 args3 params3 exprs3 kids3)=false:=(by simp only[Fm.same,bEq,e0,e1,e2,e3,Bool.false_and,Bool.and_false]);replace zz:=uu @Bool.not_true (uu @Bool.not_false (uu e0 (uu e1 (uu e2 e3))));refine uU zz (rparams_c (l:=params) (m:=params3) hp hp3) ?_;(repeat'(first|refine a_seq fun K hK=>?_|refine uR zz ?_|refine uT zz ?_|(refine uN hK ?_;clear hK)|apply zI));rw[hs]
    |true=>
     cases l_exprs:((exprs.length:Int) !=exprs3.length)with
     |true=>
      have hlen:Ex.sames exprs exprs3=false:=Ex.sames_len (by simp at l_exprs;omega);have hs:(Fm.mk op name args params exprs kids).same (.mk op3 name3 args3 params3 exprs3 kids3)=false:=(by simp only[Fm.same,bEq,e0,e1,e2,e3,hlen,Bool.false_and,Bool.and_false]);replace zz:=uu @Bool.not_true (uu @Bool.not_false (uu e0 (uu e1 (uu e2 (uu e3 (uu l_exprs (uu hl_exprs (uu hl_exprs3 (uu hl_kids hl_kids3)))))))));refine uU zz (rparams_c (l:=params) (m:=params3) hp hp3) ?_;(repeat'(first|refine a_seq fun K hK=>?_|refine uR zz ?_|refine uT zz ?_|(refine uN hK ?_;clear hK)|apply zI));rw[hs]
     |false=>
      have hn_exprs:exprs.length=exprs3.length:=(by simp at l_exprs;omega);cases l_kids:((kids.length:Int) !=kids3.length)with
      |true=>
       have hlen:Fm.sames kids kids3=false:=Fm.sames_len (by simp at l_kids;omega);have hs:(Fm.mk op name args params exprs kids).same (.mk op3 name3 args3 params3 exprs3 kids3)=false:=(by simp only[Fm.same,bEq,e0,e1,e2,e3,hlen,Bool.false_and,Bool.and_false]);replace zz:=uu @Bool.not_true (uu @Bool.not_false (uu e0 (uu e1 (uu e2 (uu e3 (uu l_exprs (uu l_kids (uu hl_exprs (uu hl_exprs3 (uu hl_kids hl_kids3))))))))));refine uU zz (rparams_c (l:=params) (m:=params3) hp hp3) ?_;(repeat'(first|refine a_seq fun K hK=>?_|refine uR zz ?_|refine uT zz ?_|(refine uN hK ?_;clear hK)|apply zI));rw[hs]
      |false=>
       have hn_kids:kids.length=kids3.length:=(by simp at l_kids;omega);replace zz:=uu @Bool.not_true (uu @Bool.not_false (uu e0 (uu e1 (uu e2 (uu e3 (uu l_exprs (uu l_kids (uu hl_exprs (uu hl_exprs3 (uu hl_kids hl_kids3))))))))));refine uU zz (rparams_c (l:=params) (m:=params3) hp hp3) ?_;(repeat'(first|refine a_seq fun K hK=>?_|refine a_block ?_|refine uR zz ?_|refine uK ?_|refine uC1 zz ?_|(refine uN hK ?_;clear hK)|apply zI));refine a_loop (fun c S h7=>h7=h∧S 2= .cptr (Fm.mk op name args params exprs kids).cells∧S 3= .cptr (Fm.mk op3 name3 args3 params3 exprs3 kids3).cells∧ ∃ k:Nat,S 5= .sc (.int .i64 k)∧k≤exprs.length∧c=exprs.length-k∧Ex.sames exprs exprs3=Ex.sames (exprs.drop k) (exprs3.drop k)) exprs.length ?_ ?_
       ·simp only[Ty.w,simprocAttr,cellsA,cellsB];exact⟨0,rfl,by omega,rfl,by simp⟩
       ·rintro c S h7 ⟨rfl,g2,g3,k,gk,hkl,rfl,hinv⟩;rw[cellsA]at g2;rw[cellsB]at g3;by_cases hlt:k<exprs.length
        ·have hd:decide ((k:Int)<(exprs.length:Int))=true:=(by simp;omega);have w7:IntKind.i64.wrap ((k:Int)+1)=k+1:=(by unfold bigN at he;rw[wrap64 (by omega) (by omega)]);obtain⟨a,hx⟩: ∃ a,exprs[k]? =some a:=⟨_,List.getElem?_eq_getElem hlt⟩;obtain⟨b,hy⟩: ∃ b,exprs3[k]? =some b:=⟨_,List.getElem?_eq_getElem (by omega)⟩;have hc:=hfe a (List.mem_of_getElem? hx) b (List.mem_of_getElem? hy);rw[drop_of_get hx,drop_of_get hy]at hinv;simp only[Ex.sames]at hinv;have hr:=Ex.rows_get hx;have hr2:=Ex.rows_get hy;generalize he:a.same b=e at hc hinv;(try clear zz);clear he;obtain⟨op2,name2,n2,args2,kids2⟩:=a;obtain⟨op4,name4,n4,args4,kids4⟩:=b;simp only[Ex.cells]at hr hr2 hc;cases e with
         |false=>
          have hs:(Fm.mk op name args params exprs kids).same (.mk op3 name3 args3 params3 exprs3 kids3)=false:=(by simp only[Fm.same,bEq,hinv,e0,e1,e2,e3,Bool.false_and,Bool.and_false]);replace zz:=uu g2 (uu g3 (uu gk (uu hl_exprs (uu hl_exprs3 (uu hl_kids (uu hl_kids3 (uu hd (uu hr (uu hr2 (uu w7 @Bool.not_false))))))))));(repeat'(first|refine a_seq fun K hK=>?_|refine uR zz ?_|refine uD zz ?_|refine uK ?_|refine uC1 zz ?_|(refine uN hK ?_;clear hK)|apply zI));replace zz:=uu g2 (uu g3 (uu gk (uu hl_exprs (uu hl_exprs3 (uu hl_kids (uu hl_kids3 (uu hd (uu hr hr2))))))));(first|refine uV zz (hc _) ?_|refine uA zz (hc _) ?_);replace zz:=uu g2 (uu g3 (uu gk (uu w7 @Bool.not_false)));(repeat'(first|refine a_seq fun K hK=>?_|refine uR zz ?_|refine uT zz ?_|(refine uN hK ?_;clear hK)|apply zI));rw[hs]
         |true=>
          rw[Bool.true_and]at hinv;replace zz:=uu g2 (uu g3 (uu gk (uu hl_exprs (uu hl_exprs3 (uu hl_kids (uu hl_kids3 (uu hd (uu hr (uu hr2 (uu w7 @Bool.not_true))))))))));(repeat'(first|refine a_seq fun K hK=>?_|refine uR zz ?_|refine uD zz ?_|refine uK ?_|refine uC1 zz ?_|(refine uN hK ?_;clear hK)|apply zI));replace zz:=uu g2 (uu g3 (uu gk (uu hl_exprs (uu hl_exprs3 (uu hl_kids (uu hl_kids3 (uu hd (uu hr hr2))))))));(first|refine uV zz (hc _) ?_|refine uA zz (hc _) ?_);replace zz:=uu g2 (uu g3 (uu gk (uu w7 @Bool.not_true)));(repeat'(first|refine a_block ?_|refine uR zz ?_|refine uK ?_|(refine uN hK ?_;clear hK)|apply zI));exact⟨exprs.length-(k+1),by omega,by rw[cellsA],by rw[cellsB],k+1,by simp,by omega,rfl,hinv⟩
        ·have hd:decide ((k:Int)<(exprs.length:Int))=false:=(by simp;omega);rw[List.drop_eq_nil_of_le (by omega),List.drop_eq_nil_of_le (by omega)]at hinv;have hq0:=hinv;simp only[Ex.sames]at hq0;(try clear zz);clear hinv;replace zz:=uu g2 (uu g3 (uu gk (uu hl_exprs (uu hl_exprs3 (uu hl_kids (uu hl_kids3 hd))))));(repeat'(first|refine a_seq fun K hK=>?_|refine a_block ?_|refine uR zz ?_|refine uX ?_|refine uC1 zz ?_|(refine uN hK ?_;clear hK)|(clear hK;refine uN hK ?_;clear hK)|apply zI));(try clear zz);clear gk;refine a_loop (fun c S h8=>h8=h7∧S 2= .cptr (Fm.mk op name args params exprs kids).cells∧S 3= .cptr (Fm.mk op3 name3 args3 params3 exprs3 kids3).cells∧ ∃ k:Nat,S 6= .sc (.int .i64 k)∧k≤kids.length∧c=kids.length-k∧Fm.sames kids kids3=Fm.sames (kids.drop k) (kids3.drop k)) kids.length ?_ ?_
         ·simp only[Ty.w,simprocAttr,cellsA,cellsB,g2,g3];exact⟨0,rfl,by omega,rfl,by simp⟩
         ·(try clear zz);clear g2 g3;rintro c S h8 ⟨rfl,g2,g3,k,gk,hkl,rfl,hinv⟩;rw[cellsA]at g2;rw[cellsB]at g3;by_cases hlt:k<kids.length
          ·have hd:decide ((k:Int)<(kids.length:Int))=true:=(by simp;omega);have w7:IntKind.i64.wrap ((k:Int)+1)=k+1:=(by unfold bigN at hk;rw[wrap64 (by omega) (by omega)]);obtain⟨a,hx⟩: ∃ a,kids[k]? =some a:=⟨_,List.getElem?_eq_getElem hlt⟩;obtain⟨b,hy⟩: ∃ b,kids3[k]? =some b:=⟨_,List.getElem?_eq_getElem (by omega)⟩;have hc:=hfk a (List.mem_of_getElem? hx) b (List.mem_of_getElem? hy);rw[drop_of_get hx,drop_of_get hy]at hinv;simp only[Fm.sames]at hinv;have hr:=Fm.rows_get hx;have hr2:=Fm.rows_get hy;generalize he:a.same b=e at hc hinv;(try clear zz);clear he;obtain⟨op2,name2,args2,params2,exprs2,kids2⟩:=a;obtain⟨op4,name4,args4,params4,exprs4,kids4⟩:=b;simp only[Fm.cells]at hr hr2 hc;cases e with
           |false=>
            have hs:(Fm.mk op name args params exprs kids).same (.mk op3 name3 args3 params3 exprs3 kids3)=false:=(by simp only[Fm.same,bEq,hinv,e0,e1,e2,e3,hq0,Bool.false_and,Bool.and_false]);replace zz:=uu g2 (uu g3 (uu gk (uu hl_exprs (uu hl_exprs3 (uu hl_kids (uu hl_kids3 (uu hd (uu hr (uu hr2 (uu w7 @Bool.not_false))))))))));(repeat'(first|refine a_seq fun K hK=>?_|refine uR zz ?_|refine uD zz ?_|refine uK ?_|refine uC1 zz ?_|(refine uN hK ?_;clear hK)|apply zI));replace zz:=uu g2 (uu g3 (uu gk (uu hl_exprs (uu hl_exprs3 (uu hl_kids (uu hl_kids3 (uu hd (uu hr hr2))))))));(first|refine uV zz (hc _) ?_|refine uA zz (hc _) ?_);replace zz:=uu g2 (uu g3 (uu gk (uu w7 @Bool.not_false)));(repeat'(first|refine a_seq fun K hK=>?_|refine uR zz ?_|refine uT zz ?_|(refine uN hK ?_;clear hK)|apply zI));rw[hs]
           |true=>
            rw[Bool.true_and]at hinv;replace zz:=uu g2 (uu g3 (uu gk (uu hl_exprs (uu hl_exprs3 (uu hl_kids (uu hl_kids3 (uu hd (uu hr (uu hr2 (uu w7 @Bool.not_true))))))))));(repeat'(first|refine a_seq fun K hK=>?_|refine uR zz ?_|refine uD zz ?_|refine uK ?_|refine uC1 zz ?_|(refine uN hK ?_;clear hK)|apply zI));replace zz:=uu g2 (uu g3 (uu gk (uu hl_exprs (uu hl_exprs3 (uu hl_kids (uu hl_kids3 (uu hd (uu hr hr2))))))));(first|refine uV zz (hc _) ?_|refine uA zz (hc _) ?_);replace zz:=uu g2 (uu g3 (uu gk (uu w7 @Bool.not_true)));(repeat'(first|refine a_block ?_|refine uR zz ?_|refine uK ?_|(refine uN hK ?_;clear hK)|apply zI));exact⟨kids.length-(k+1),by omega,by rw[cellsA],by rw[cellsB],k+1,by simp,by omega,rfl,hinv⟩
          ·have hd:decide ((k:Int)<(kids.length:Int))=false:=(by simp;omega);rw[List.drop_eq_nil_of_le (by omega),List.drop_eq_nil_of_le (by omega)]at hinv;have hq1:=hinv;simp only[Fm.sames]at hq1;(try clear zz);clear hinv;have hs:(Fm.mk op name args params exprs kids).same (.mk op3 name3 args3 params3 exprs3 kids3)=true:=(by simp only[Fm.same,bEq,e0,e1,e2,e3,hq0,hq1,Bool.true_and]);replace zz:=uu g2 (uu g3 (uu gk (uu hl_exprs (uu hl_exprs3 (uu hl_kids (uu hl_kids3 hd))))));(repeat'(first|refine a_seq fun K hK=>?_|refine uR zz ?_|refine uT zz ?_|refine uX ?_|refine uC1 zz ?_|(refine uN hK ?_;clear hK)|(clear hK;refine uN hK ?_;clear hK)|apply zI));rw[hs]
end Go.Proofs.YtjeolbgpllbemaaGreat
namespace Go.AM
open Go.ChangeShapes Go.WideShapes
section
variable {P:Program}{c:Nat}{t e:TypeId}{ps:List PV}{a:PV}
theorem Arg_int{k:IntKind}(hu:P.underlying t=some (.int k))(h:Arg P (c+1) t ps): ∃ n,(Lit.int k n).wf=true∧ps=[.sc (.int k n)]:=by
 unfold Arg at h;rw[hu]at h;exact h
theorem Arg_slice(hu:P.underlying t=some (.slice e))(h:Arg P (c+1) t ps): ∃ rows,ps=[.imm (P.cellsOf e) rows]∧rows.length*P.bytesOf e≤reachBytes∧rows.length≤maxLen∧ ∀ r∈rows,r.length=P.cellsOf e∧Arg P c e r:=by
 unfold Arg at h;rw[hu]at h;exact h
theorem Arg_struct{fs:Array Field}(hu:P.underlying t=some (.struct fs))(h:Arg P (c+1) t ps):ps.length=P.cellsOf t∧ ∀ p∈partsT P t,Arg P c p.2 ((ps.drop p.1).take (P.cellsOf p.2)):=by
 unfold Arg at h;rw[hu]at h;exact h
theorem rows_map{α:Type}{Q:α→Prop}{f:α→List PV}:(rows:List (List PV))→(∀ r∈rows, ∃ x,Q x∧r=f x)→ ∃ xs:List α,rows=xs.map f∧ ∀ x∈xs,Q x
 |[],_=>⟨[],rfl,by simp⟩
 |r::rows,h=>by
  obtain⟨xs,h1,h2⟩:=rows_map rows (fun q hq=>h q (by simp[hq]));obtain⟨x,h3,h4⟩:=h r (by simp);refine⟨x::xs,by simp[h1,h4],fun y hy=>?_⟩;rcases List.mem_cons.1 hy with rfl|hy
  ·exact h3
  ·exact h2 y hy
theorem i64_in{n:Int}(h:(Lit.int .i64 n).wf=true): -9223372036854775808≤n∧n≤9223372036854775807:=by
 simp[Lit.wf,IntKind.min,IntKind.max,IntKind.bits,IntKind.signed]at h;omega
end
end Go.AM
namespace Go.AM
def At.same(a b:At):Bool:=bEq a.name b.name&&bsEq a.args b.args
def atsEq:List At→List At→Bool
 |[],[]=>true
 |a::l,b::m=>a.same b&&atsEq l m
 |_,_=>false
def Vl.same(a b:Vl):Bool:=(a.n==b.n)&&a.at_.same b.at_
def vlsEq:List Vl→List Vl→Bool
 |[],[]=>true
 |a::l,b::m=>a.same b&&vlsEq l m
 |_,_=>false
def Pb.same(p q:Pb):Bool:=bEq p.name q.name&&bEq p.domain q.domain&&pmsEq p.objects q.objects&&atsEq p.init q.init&&vlsEq p.values q.values&&p.goal.same q.goal
theorem atsEq_len: ∀ {l m:List At},¬ l.length=m.length→atsEq l m=false
 |[],[],h=>by simp at h
 |[],_::_,_=>rfl
 |_::_,[],_=>rfl
 |a::l,b::m,h=>by simp only[atsEq,atsEq_len (l:=l) (m:=m) (by simpa using h),Bool.and_false]
theorem vlsEq_len: ∀ {l m:List Vl},¬ l.length=m.length→vlsEq l m=false
 |[],[],h=>by simp at h
 |[],_::_,_=>rfl
 |_::_,[],_=>rfl
 |a::l,b::m,h=>by simp only[vlsEq,vlsEq_len (l:=l) (m:=m) (by simpa using h),Bool.and_false]
def Vl.okS(v:Vl):Prop:=v.at_.ok
structure Pb.okS(p:Pb):Prop where
 objects:p.objects.length≤bigN
 init:p.init.length≤bigN∧ ∀ a∈p.init,a.ok
 values:p.values.length≤bigN∧ ∀ v∈p.values,v.okS
 goal:p.goal.ok
def cmpS:List ByteArray→List ByteArray→Int
 |[],[]=>0
 |[],m=>0-(m.length:Int)
 |l,[]=>(l.length:Int)
 |a::l,b::m=>bif Op.bytesLess a.data.toList b.data.toList then-1 else bif !(Op.bytesLess a.data.toList b.data.toList||(a.data.toList==b.data.toList))then 1 else cmpS l m
def cmpA(a b:At):Int:=bif bEq a.name b.name then cmpS a.args b.args else bif Op.bytesLess a.name.data.toList b.name.data.toList then-1 else 1
theorem less_self: ∀ l:List UInt8,Op.bytesLess l l=false
 |[]=>rfl
 |a::l=>by simp[Op.bytesLess,less_self l]
theorem cmpS_zero: ∀ l m:List ByteArray,(cmpS l m==0)=bsEq l m
 |[],[]=>rfl
 |[],b::m=>by
  simp only[cmpS,bsEq,List.length_cons];simp;omega
 |a::l,[]=>by
  simp only[cmpS,bsEq,List.length_cons];simp;omega
 |a::l,b::m=>by
  simp only[cmpS,bsEq,bEq];cases he:(a.data.toList==b.data.toList)with
  |true=>
   have h2:=eq_of_beq he;rw[h2,less_self];simp only[cond_false,Bool.or_true,Bool.not_true,Bool.true_and];exact cmpS_zero l m
  |false=>
   cases hl:Op.bytesLess a.data.toList b.data.toList with
   |true=>simp only[cond_true,Bool.false_and];rfl
   |false=>simp only[cond_false,Bool.or_false,Bool.not_false,cond_true,Bool.false_and];rfl
theorem cmpA_zero(a b:At):(cmpA a b==0)=a.same b:=by
 unfold cmpA At.same;cases he:bEq a.name b.name with
 |true=>simp only[cond_true,Bool.true_and];exact cmpS_zero _ _
 |false=>
  simp only[cond_false,Bool.false_and];cases Op.bytesLess a.name.data.toList b.name.data.toList<;>rfl
end Go.AM
namespace Go.Proofs.YtjeolbgpllbemaaGreat
open Go.AM
set_option maxHeartbeats 4000000
set_option maxRecDepth 20000
theorem cmpS_step{l m:List ByteArray}{k:Nat}{a b:ByteArray}(hx:l[k]? =some a)(hy:m[k]? =some b):cmpS (l.drop k) (m.drop k)=bif Op.bytesLess a.data.toList b.data.toList then-1 else bif !(Op.bytesLess a.data.toList b.data.toList||(a.data.toList==b.data.toList))then 1 else cmpS (l.drop (k+1)) (m.drop (k+1)):=by
 rw[drop_of_get hx,drop_of_get hy];try rfl
theorem cmpS_end{l m:List ByteArray}{k:Nat}(h:¬ k<l.length∨¬ k<m.length)(hl:k≤l.length)(hm:k≤m.length):cmpS (l.drop k) (m.drop k)=(l.length:Int)-m.length:=by
 by_cases h1:k<l.length
 ·have h2:k=m.length:=by omega
  rw[show List.drop k m=[]from List.drop_eq_nil_of_le (by omega)];obtain⟨a,hx⟩: ∃ a,l[k]? =some a:=⟨_,List.getElem?_eq_getElem h1⟩;have hlen:(l.drop k).length=l.length-k:=List.length_drop;rw[drop_of_get hx]at hlen⊢;simp only[cmpS];simp only[List.length_cons]at hlen⊢;omega
 ·rw [show List.drop k l=[]from List.drop_eq_nil_of_le (by omega)];by_cases h2:k<m.length
  ·obtain ⟨b,hy⟩: ∃ b,m[k]? =some b:=⟨_,List.getElem?_eq_getElem h2⟩;have hlen:(m.drop k).length=m.length-k:=List.length_drop;rw[drop_of_get hy]at hlen⊢;simp only[cmpS];simp only[List.length_cons]at hlen⊢;omega
  ·rw [show List.drop k m=[]from List.drop_eq_nil_of_le (by omega)];simp only[cmpS];omega
theorem rcmpA_c{a b:At}(ha:a.ok)(hb:b.ok)(h:Heap):PCall Tryz.prog 84 [.agg (atRow a),.agg (atRow b)] h fun r h'=>r= .sc (.int .i64 (cmpA a b))∧h'=h:=by
 obtain⟨_,hal,_⟩:=ha;obtain⟨_,hbl,_⟩:=hb;unfold bigN at hal hbl;unfold cmpA bEq;obtain⟨name,args⟩:=a;obtain⟨name3,args3⟩:=b;simp only[atRow]at hal hbl⊢;have hll:=strRows_len args;have hlm:=strRows_len args3;cases e0:(name.data.toList==name3.data.toList)with
 |false=>
  cases e1:Op.bytesLess name.data.toList name3.data.toList with
  |true=>
   refine uG0 Tryz.func84 Tryz.ntmps84 Tryz.results84 Ty.hb_84 ?_;replace zz:=uu e0 (uu e1 @Bool.not_false);(repeat'(first|refine a_seq fun K hK=>?_|refine uR zz ?_|refine uT zz ?_|(refine uN hK ?_;clear hK)|apply zI));all_goals rfl
  |false=>
   refine uG0 Tryz.func84 Tryz.ntmps84 Tryz.results84 Ty.hb_84 ?_;replace zz:=uu e0 (uu e1 @Bool.not_false);(repeat'(first|refine a_seq fun K hK=>?_|refine uR zz ?_|refine uT zz ?_|refine uK ?_|refine uC1 zz ?_|(refine uN hK ?_;clear hK)|apply zI));all_goals rfl
 |true=>
  simp only[cond_true];generalize hF:cmpS args args3=F;refine uG0 Tryz.func84 Tryz.ntmps84 Tryz.results84 Ty.hb_84 ?_;replace zz:=uu e0 @Bool.not_true;repeat'(first|refine a_seq fun K hK=>?_|refine a_block ?_|refine uR zz ?_|refine uK ?_|refine uC1 zz ?_|(refine uN hK ?_;clear hK)|apply zI)
  refine a_loop (fun c S h'=>h'=h∧S 2= .cptr [sPV name,.imm 1 (strRows args)]∧S 3= .cptr [sPV name3,.imm 1 (strRows args3)]∧ ∃ k:Nat,S 5= .sc (.int .i64 k)∧k≤args.length∧k≤args3.length∧c=args.length-k∧F=cmpS (args.drop k) (args3.drop k)) args.length ?_ ?_
  ·simp only[Ty.w,simprocAttr];exact⟨0,rfl,by omega,by omega,rfl,by rw[← hF];try rfl⟩
  ·(try clear zz);clear hF;rintro c S h' ⟨rfl,g2,g3,k,g5,hka,hkb,rfl,hinv⟩;by_cases h1:k<args.length
   ·have hd:decide ((k:Int)<(args.length:Int))=true:=(by simp;omega);by_cases h2:k<args3.length
    ·have hd2:decide ((k:Int)<(args3.length:Int))=true:=(by simp;omega);have w7:IntKind.i64.wrap ((k:Int)+1)=k+1:=(by rw[wrap64 (by omega) (by omega)]);obtain⟨a,hx⟩: ∃ a,args[k]? =some a:=⟨_,List.getElem?_eq_getElem h1⟩;obtain⟨b,hy⟩: ∃ b,args3[k]? =some b:=⟨_,List.getElem?_eq_getElem h2⟩;have hr:=strRows_get hx;have hr2:=strRows_get hy;rw[cmpS_step hx hy]at hinv;cases c1:Op.bytesLess a.data.toList b.data.toList with
     |true=>
      rw[c1]at hinv;simp only[cond_true]at hinv;replace zz:=uu g2 (uu g3 (uu g5 (uu hll (uu hlm (uu hd (uu hd2 (uu hr (uu hr2 c1))))))));(repeat'(first|refine a_seq fun K hK=>?_|refine uR zz ?_|refine uD zz ?_|refine uT zz ?_|refine uK ?_|refine uC1 zz ?_|(refine uN hK ?_;clear hK)|apply zI));all_goals rw[hinv]
     |false=>
      rw[c1]at hinv;simp only[cond_false,Bool.false_or]at hinv;cases c2:(a.data.toList==b.data.toList)with
      |false=>
       rw[c2]at hinv;simp only[Bool.not_false,cond_true]at hinv;(repeat'(first|refine a_seq fun K hK=>?_|((first|refine a_regionS ?_|refine a_drawS (by decide+kernel) ?_|refine a_ret ?_);simp(maxSteps:=2000000) only[Ty.w,simprocAttr,g2,g3,g5,hll,hlm,hd,hd2,hr,hr2,c1,c2,Bool.or_false,Bool.not_false])|(refine a_skip ?_;(try simp only[pst0,simprocAttr]))|(refine a_cond _ (by(try simp(maxSteps:=2000000) only[Ty.w,simprocAttr,g2,g3,g5,hll,hlm,hd,hd2,hr,hr2,c1,c2,Bool.or_false,Bool.not_false]);rfl) (fun hb=>?_) (fun hb=>?_)<;>(try simp only[hb0,decide_eq_true_eq,decide_eq_false_iff_not,simprocAttr]at hb)<;>(try(exfalso;omega)))|(refine hK _ _ ?_;clear hK;(try simp only[pst0,simprocAttr]))));all_goals rw[hinv]
      |true=>
       rw[c2]at hinv;simp only[Bool.not_true,cond_false]at hinv;(repeat'(first|refine a_seq fun K hK=>?_|(refine a_block ?_)|((first|refine a_regionS ?_|refine a_drawS (by decide+kernel) ?_);simp(maxSteps:=2000000) only[Ty.w,simprocAttr,g2,g3,g5,hll,hlm,hd,hd2,hr,hr2,c1,c2,Bool.or_true,Bool.not_true,w7])|(refine a_skip ?_;(try simp only[pst0,simprocAttr]))|(refine a_cond _ (by(try simp(maxSteps:=2000000) only[Ty.w,simprocAttr,g2,g3,g5,hll,hlm,hd,hd2,hr,hr2,c1,c2,Bool.or_true,Bool.not_true,w7]);rfl) (fun hb=>?_) (fun hb=>?_)<;>(try simp only[hb0,decide_eq_true_eq,decide_eq_false_iff_not,simprocAttr]at hb)<;>(try(exfalso;omega)))|(refine hK _ _ ?_;clear hK;(try simp only[pst0,simprocAttr]))));exact⟨args.length-(k+1),by omega,k+1,by simp,by omega,by omega,rfl,hinv⟩
    ·have hd2:decide ((k:Int)<(args3.length:Int))=false:=(by simp;omega);rw[cmpS_end (.inr h2) hka hkb]at hinv;have wr:IntKind.i64.wrap ((args.length:Int)-(args3.length:Int))=(args.length:Int)-args3.length:=(by rw[wrap64 (by omega) (by omega)]);(repeat'(first|refine a_seq fun K hK=>?_|((first|refine a_regionS ?_|refine a_ret ?_);simp(maxSteps:=2000000) only[Ty.w,simprocAttr,g2,g3,g5,hll,hlm,hd,hd2,wr])|(refine a_exit ?_;(try simp only[pst0,simprocAttr]))|(refine a_cond _ (by(try simp(maxSteps:=2000000) only[Ty.w,simprocAttr,g2,g3,g5,hll,hlm,hd,hd2,wr]);rfl) (fun hb=>?_) (fun hb=>?_)<;>(try simp only[hb0,decide_eq_true_eq,decide_eq_false_iff_not,simprocAttr]at hb)<;>(try(exfalso;omega)))|((first|refine hK _ _ ?_|(clear hK;refine hK _ _ ?_));clear hK;(try simp only[pst0,simprocAttr]))));all_goals rw[hinv]
   ·have hd:decide ((k:Int)<(args.length:Int))=false:=(by simp;omega);rw[cmpS_end (.inl h1) hka hkb]at hinv;have wr:IntKind.i64.wrap ((args.length:Int)-(args3.length:Int))=(args.length:Int)-args3.length:=(by rw[wrap64 (by omega) (by omega)]);(repeat'(first|refine a_seq fun K hK=>?_|((first|refine a_regionS ?_|refine a_ret ?_);simp(maxSteps:=2000000) only[Ty.w,simprocAttr,g2,g3,g5,hll,hlm,hd,wr])|(refine a_exit ?_;(try simp only[pst0,simprocAttr]))|(refine a_cond _ (by(try simp(maxSteps:=2000000) only[Ty.w,simprocAttr,g2,g3,g5,hll,hlm,hd,wr]);rfl) (fun hb=>?_) (fun hb=>?_)<;>(try simp only[hb0,decide_eq_true_eq,decide_eq_false_iff_not,simprocAttr]at hb)<;>(try(exfalso;omega)))|((first|refine hK _ _ ?_|(clear hK;refine hK _ _ ?_));clear hK;(try simp only[pst0,simprocAttr]))));all_goals rw[hinv]
theorem rSameAtoms_c{l m:List At}(hl:l.length≤bigN)(ho: ∀ a∈l,a.ok)(ho2: ∀ a∈m,a.ok)(h:Heap):
  PCall Tryz.prog 41 [.imm 2 (atRows l),.imm 2 (atRows m)] h fun r h'=>r= .sc (.bool (atsEq l m))∧h'=h:=by
 unfold bigN at hl;have hll:=atRows_len l;have hlm:=atRows_len m;refine uG0 Tryz.func41 Tryz.ntmps41 Tryz.results41 Ty.hb_41 ?_;cases hne:((l.length:Int) !=m.length)with
 |true=>
  have:atsEq l m=false:=atsEq_len (by simp at hne;omega);replace zz:=uu hll (uu hlm hne);repeat'(first|refine a_seq fun K hK=>?_|refine uR zz ?_|refine uT zz ?_|(refine uN hK ?_;clear hK)|apply zI)
  rw[this]
 |false=>
  have hlen:l.length=m.length:=by simp at hne;omega
  replace zz:=uu hll (uu hlm hne);repeat'(first|refine a_seq fun K hK=>?_|refine a_block ?_|refine uR zz ?_|refine uK ?_|refine uC1 zz ?_|(refine uN hK ?_;clear hK)|apply zI)
  refine a_loop (fun c S h'=>h'=h∧S 0= .imm 2 (atRows l)∧S 1= .imm 2 (atRows m)∧ ∃ k:Nat,S 5= .sc (.int .i64 k)∧k≤l.length∧c=l.length-k∧atsEq l m=atsEq (l.drop k) (m.drop k)) l.length ?_ ?_
  ·simp only[Ty.w,simprocAttr];exact⟨0,rfl,by omega,rfl,by simp⟩
  ·rintro c S h' ⟨rfl,g0,g1,k,gk,hkl,rfl,hinv⟩;by_cases hlt:k<l.length
   ·have hd:decide ((k:Int)<(l.length:Int))=true:=(by simp;omega);have w7:IntKind.i64.wrap ((k:Int)+1)=k+1:=(by rw[wrap64 (by omega) (by omega)]);obtain⟨a,hx⟩: ∃ a,l[k]? =some a:=⟨_,List.getElem?_eq_getElem hlt⟩;obtain⟨b,hy⟩: ∃ b,m[k]? =some b:=⟨_,List.getElem?_eq_getElem (by omega)⟩;rw[drop_of_get hx,drop_of_get hy]at hinv;simp only[atsEq]at hinv;have hr:=atRows_get hx;have hr2:=atRows_get hy;have hc:=rcmpA_c (ho a (List.mem_of_getElem? hx)) (ho2 b (List.mem_of_getElem? hy));have hz:=cmpA_zero a b;generalize cmpA a b=e at hc hz;generalize At.same a b=q at hz hinv;obtain⟨name2,args2⟩:=a;obtain⟨name3,args3⟩:=b;simp only[atRow]at hr hr2 hc;cases q with
    |false=>
     have hz':(e !=0)=true:=(by rw[bne,hz];try rfl);replace zz:=uu g0 (uu g1 (uu gk (uu hll (uu hlm (uu hd (uu hr (uu hr2 w7)))))));(repeat'(first|refine a_seq fun K hK=>?_|refine uR zz ?_|refine uD zz ?_|refine uK ?_|refine uC1 zz ?_|(refine uN hK ?_;clear hK)|apply zI));replace zz:=uu g0 (uu g1 (uu gk (uu hll (uu hlm (uu hd (uu hr (uu hr2 hz')))))));(first|refine uV zz (hc _) ?_|refine uA zz (hc _) ?_);replace zz:=uu g0 (uu g1 (uu gk (uu w7 hz')));(repeat'(first|refine a_seq fun K hK=>?_|refine uR zz ?_|refine uT zz ?_|(refine uN hK ?_;clear hK)|apply zI));all_goals rw[hinv,Bool.false_and]
    |true=>
     have hz':(e !=0)=false:=(by rw[bne,hz];try rfl);rw[Bool.true_and]at hinv;replace zz:=uu g0 (uu g1 (uu gk (uu hll (uu hlm (uu hd (uu hr (uu hr2 w7)))))));(repeat'(first|refine a_seq fun K hK=>?_|refine uR zz ?_|refine uD zz ?_|refine uK ?_|refine uC1 zz ?_|(refine uN hK ?_;clear hK)|apply zI));replace zz:=uu g0 (uu g1 (uu gk (uu hll (uu hlm (uu hd (uu hr (uu hr2 hz')))))));(first|refine uV zz (hc _) ?_|refine uA zz (hc _) ?_);replace zz:=uu g0 (uu g1 (uu gk (uu w7 hz')));(repeat'(first|refine a_block ?_|refine uR zz ?_|refine uK ?_|(refine uN hK ?_;clear hK)|apply zI));exact⟨l.length-(k+1),by omega,k+1,by simp,by omega,rfl,hinv⟩
   ·have hd:decide ((k:Int)<(l.length:Int))=false:=(by simp;omega);rw[List.drop_eq_nil_of_le (by omega),List.drop_eq_nil_of_le (by omega)]at hinv;simp only[atsEq]at hinv;replace zz:=uu g0 (uu g1 (uu gk (uu hll hd)));(repeat'(first|refine a_seq fun K hK=>?_|refine uR zz ?_|refine uT zz ?_|refine uX ?_|refine uC1 zz ?_|(refine uN hK ?_;clear hK)|(clear hK;refine uN hK ?_;clear hK)|apply zI));rw[hinv]
theorem rSameValues_c{l m:List Vl}(hl:l.length≤bigN)(ho: ∀ a∈l,a.okS)(ho2: ∀ a∈m,a.okS)(h:Heap):
  PCall Tryz.prog 42 [.imm 3 (vlRows l),.imm 3 (vlRows m)] h fun r h'=>r= .sc (.bool (vlsEq l m))∧h'=h:=by
 unfold bigN at hl;have hll:=vlRows_len l;have hlm:=vlRows_len m;refine uG0 Tryz.func42 Tryz.ntmps42 Tryz.results42 Ty.hb_42 ?_;cases hne:((l.length:Int) !=m.length)with
 |true=>
  have:vlsEq l m=false:=vlsEq_len (by simp at hne;omega);replace zz:=uu hll (uu hlm hne);repeat'(first|refine a_seq fun K hK=>?_|refine uR zz ?_|refine uT zz ?_|(refine uN hK ?_;clear hK)|apply zI)
  rw[this]
 |false=>
  have hlen:l.length=m.length:=by simp at hne;omega
  replace zz:=uu hll (uu hlm hne);repeat'(first|refine a_seq fun K hK=>?_|refine a_block ?_|refine uR zz ?_|refine uK ?_|refine uC1 zz ?_|(refine uN hK ?_;clear hK)|apply zI)
  refine a_loop (fun c S h'=>h'=h∧S 0= .imm 3 (vlRows l)∧S 1= .imm 3 (vlRows m)∧ ∃ k:Nat,S 5= .sc (.int .i64 k)∧k≤l.length∧c=l.length-k∧vlsEq l m=vlsEq (l.drop k) (m.drop k)) l.length ?_ ?_
  ·simp only[Ty.w,simprocAttr];exact⟨0,rfl,by omega,rfl,by simp⟩
  ·rintro c S h' ⟨rfl,g0,g1,k,gk,hkl,rfl,hinv⟩;by_cases hlt:k<l.length
   ·have hd:decide ((k:Int)<(l.length:Int))=true:=(by simp;omega);have w7:IntKind.i64.wrap ((k:Int)+1)=k+1:=(by rw[wrap64 (by omega) (by omega)]);obtain⟨a,hx⟩: ∃ a,l[k]? =some a:=⟨_,List.getElem?_eq_getElem hlt⟩;obtain⟨b,hy⟩: ∃ b,m[k]? =some b:=⟨_,List.getElem?_eq_getElem (by omega)⟩;rw[drop_of_get hx,drop_of_get hy]at hinv;simp only[vlsEq]at hinv;have hr:=vlRows_get hx;have hr2:=vlRows_get hy;have hc:=rcmpA_c (ho a (List.mem_of_getElem? hx)) (ho2 b (List.mem_of_getElem? hy));have hz:=cmpA_zero a.at_ b.at_;unfold Vl.same at hinv;generalize cmpA a.at_ b.at_=e at hc hz;generalize At.same a.at_ b.at_=q at hz hinv;obtain⟨⟨name2,args2⟩,n2⟩:=a;obtain⟨⟨name3,args3⟩,n3⟩:=b;simp only[atRow,vlRow]at hr hr2 hc;simp only at hinv;cases hn:(n2 !=n3)with
    |true=>
     rw[show(n2==n3)=false by simpa using hn,Bool.false_and,Bool.false_and]at hinv;replace zz:=uu g0 (uu g1 (uu gk (uu hll (uu hlm (uu hd (uu hr (uu hr2 (uu w7 hn))))))));(repeat'(first|refine a_seq fun K hK=>?_|refine uR zz ?_|refine uD zz ?_|refine uT zz ?_|refine uK ?_|refine uC1 zz ?_|(refine uN hK ?_;clear hK)|apply zI));all_goals rw[hinv]
    |false=>
     rw[show(n2==n3)=true by simpa using hn,Bool.true_and]at hinv;cases q with
     |false=>
      have hz':(e !=0)=true:=(by rw[bne,hz];try rfl);replace zz:=uu g0 (uu g1 (uu gk (uu hll (uu hlm (uu hd (uu hr (uu hr2 (uu w7 hn))))))));(repeat'(first|refine a_seq fun K hK=>?_|refine uR zz ?_|refine uD zz ?_|refine uK ?_|refine uC1 zz ?_|(refine uN hK ?_;clear hK)|apply zI));replace zz:=uu g0 (uu g1 (uu gk (uu hll (uu hlm (uu hd (uu hr (uu hr2 (uu hn hz'))))))));(first|refine uV zz (hc _) ?_|refine uA zz (hc _) ?_);replace zz:=uu g0 (uu g1 (uu gk (uu w7 (uu hn hz'))));(repeat'(first|refine a_seq fun K hK=>?_|refine uR zz ?_|refine uT zz ?_|(refine uN hK ?_;clear hK)|apply zI));all_goals rw[hinv,Bool.false_and]
     |true=>
      have hz':(e !=0)=false:=(by rw[bne,hz];try rfl);rw[Bool.true_and]at hinv;replace zz:=uu g0 (uu g1 (uu gk (uu hll (uu hlm (uu hd (uu hr (uu hr2 (uu w7 hn))))))));(repeat'(first|refine a_seq fun K hK=>?_|refine uR zz ?_|refine uD zz ?_|refine uK ?_|refine uC1 zz ?_|(refine uN hK ?_;clear hK)|apply zI));replace zz:=uu g0 (uu g1 (uu gk (uu hll (uu hlm (uu hd (uu hr (uu hr2 (uu hn hz'))))))));(first|refine uV zz (hc _) ?_|refine uA zz (hc _) ?_);replace zz:=uu g0 (uu g1 (uu gk (uu w7 (uu hn hz'))));(repeat'(first|refine a_block ?_|refine uR zz ?_|refine uK ?_|(refine uN hK ?_;clear hK)|apply zI));exact⟨l.length-(k+1),by omega,k+1,by simp,by omega,rfl,hinv⟩
   ·have hd:decide ((k:Int)<(l.length:Int))=false:=(by simp;omega);rw[List.drop_eq_nil_of_le (by omega),List.drop_eq_nil_of_le (by omega)]at hinv;simp only[vlsEq]at hinv;replace zz:=uu g0 (uu g1 (uu gk (uu hll hd)));(repeat'(first|refine a_seq fun K hK=>?_|refine uR zz ?_|refine uT zz ?_|refine uX ?_|refine uC1 zz ?_|(refine uN hK ?_;clear hK)|(clear hK;refine uN hK ?_;clear hK)|apply zI));rw[hinv]
theorem rpsame_c(a b:Pb)(ha:a.okS)(hb:b.okS)(h:Heap):PCall Tryz.prog 17 [.agg a.cells,.agg b.cells] h fun r h'=>r= .sc (.bool (a.same b))∧h'=h:=by
 obtain⟨ho,⟨hi,hia⟩,⟨hv,hva⟩,hg⟩:=ha;obtain⟨ho3,⟨hi3,hia3⟩,⟨hv3,hva3⟩,hg3⟩:=hb;obtain⟨name,domain,objects,init,values,goal⟩:=a;obtain⟨name3,domain3,objects3,init3,values3,goal3⟩:=b;simp only at ho hi hia hv hva hg ho3 hi3 hia3 hv3 hva3 hg3;have hq:=rsame_c goal hg goal3 hg3;unfold Pb.same;simp only;generalize goal.same goal3=eg at hq⊢;try clear zz
 clear hg hg3;obtain⟨gop,gname,gargs,gparams,gexprs,gkids⟩:=goal;obtain⟨gop3,gname3,gargs3,gparams3,gexprs3,gkids3⟩:=goal3;simp only[Pb.cells,Fm.cells,List.cons_append,List.nil_append]at hq⊢;refine uG0 Tryz.func17 Tryz.ntmps17 Tryz.results17 Ty.hb_17 ?_;cases e0:(name.data.toList==name3.data.toList)with
 |false=>
  repeat'(first|refine a_seq fun K hK=>?_|refine uR e0 ?_|refine uT e0 ?_|(refine uN hK ?_;clear hK)|apply zI)
  all_goals simp only[bEq,e0,Bool.false_and,Bool.and_false]
 |true=>
  cases e1:(domain.data.toList==domain3.data.toList)with
  |false=>
   replace zz:=uu e0 e1;(repeat'(first|refine a_seq fun K hK=>?_|refine uR zz ?_|refine uT zz ?_|(refine uN hK ?_;clear hK)|apply zI));all_goals simp only[bEq,e0,e1,Bool.false_and,Bool.and_false]
  |true=>
   (repeat'(first|refine a_seq fun K hK=>?_|refine uR (uu e0 e1) ?_|(refine uN hK ?_;clear hK)|apply zI));cases e2:pmsEq objects objects3 with
   |false=>
    refine uU (uu e0 (uu e1 e2)) (rparams_c (l:=objects) (m:=objects3) ho ho3) ?_;(repeat'(first|refine uT (uu e0 (uu e1 e2)) ?_|(refine uN hK ?_;clear hK)|apply zI));all_goals simp only[bEq,e0,e1,e2,Bool.false_and,Bool.and_false]
   |true=>
    refine uU (uu e0 (uu e1 e2)) (rparams_c (l:=objects) (m:=objects3) ho ho3) ?_;(try apply zI);cases e3:atsEq init init3 with
    |false=>
     replace zz:=uu e0 (uu e1 (uu e2 e3));refine uU zz (rSameAtoms_c hi hia hia3 _) ?_;(repeat'(first|refine uT zz ?_|(refine uN hK ?_;clear hK)|apply zI));all_goals simp only[bEq,e0,e1,e2,e3,Bool.false_and,Bool.and_false]
    |true=>
     replace zz:=uu e0 (uu e1 (uu e2 e3));refine uU zz (rSameAtoms_c hi hia hia3 _) ?_;(try apply zI);cases e4:vlsEq values values3 with
     |false=>
      replace zz:=uu e0 (uu e1 (uu e2 (uu e3 e4)));refine uU zz (rSameValues_c hv hva hva3 _) ?_;(repeat'(first|refine uT zz ?_|(refine uN hK ?_;clear hK)|apply zI));all_goals simp only[bEq,e0,e1,e2,e3,e4,Bool.false_and,Bool.and_false]
     |true=>
      replace zz:=uu e0 (uu e1 (uu e2 (uu e3 e4)));refine uU zz (rSameValues_c hv hva hva3 _) ?_;(try apply zI);refine uU zz (hq _) ?_;(repeat'(first|refine uT zz ?_|(refine uN hK ?_;clear hK)|apply zI));all_goals simp only[bEq,e0,e1,e2,e3,e4,Bool.true_and]
end Go.Proofs.YtjeolbgpllbemaaGreat
namespace Go.AM
end Go.AM
namespace Go.Proofs.YtjeolbgpllbemaaGreat
open Go.AM
theorem nodess_params: ∀ l:List Pm,Sx.nodess (paramsW l)=3*l.length
 |[]=>rfl
 |s::l=>by simp only[paramsW,Sx.nodess,word_nodes,nodess_params l,List.length_cons];omega
end Go.Proofs.YtjeolbgpllbemaaGreat
namespace Go.AM
end Go.AM
namespace Go.Proofs.YtjeolbgpllbemaaGreat
open Go.AM
section
variable {v:ByteArray→Bool}{x:ByteArray}
end
structure Intp(B:Type) where
 A:ByteArray→List ByteArray→B→Bool
 S:List ByteArray→B→Bool
 V:Ex→B→Int
 a:Pm→B→B
 b:Pm→B→B
section
variable {B:Type}(I:Intp B)
end
end Go.Proofs.YtjeolbgpllbemaaGreat
namespace Go.AM
abbrev key(s:ByteArray):List UInt8:=s.data.toList
end Go.AM
namespace Go.Proofs.YtjeolbgpllbemaaGreat
open Go.AM
theorem nameW{s:ByteArray}(h:nameB s=true):wordR s=true:=by rw[← word_same];exact name_word h
theorem varW{s:ByteArray}(h:varB s=true):wordR s=true:=by rw[← word_same];exact(var_word h).1
theorem term_word{s:ByteArray}(h:termB s=true):wordR s=true:=by
 simp only[termB,Bool.or_eq_true]at h;exact h.elim nameW varW
theorem ss_word{s:ByteArray}(h:wordR s=true):shapedS (wordM s)=true:=by simp[wordM,shapedS,h]
theorem shapedSs_iff: ∀ {l:List Sx},(shapedSs l=true↔ ∀ k∈l,shapedS k=true)
 |[]=>by simp[shapedSs]
 |k::l=>by simp[shapedSs,shapedSs_iff (l:=l)]
theorem ss_list{l:List Sx}(h: ∀ k∈l,shapedS k=true):shapedS (listM l)=true:=by
 unfold listM shapedS;rw[if_neg (by decide),if_neg (by decide),if_pos rfl,shapedSs_iff.2 h];try rfl
theorem ss_words{first:ByteArray}{l:List ByteArray}(h0:wordR first=true)(h:l.all termB=true):shapedS (wordsM first l)=true:=by
 refine ss_list fun k hk=>?_;simp only[List.map_cons,List.mem_cons,List.mem_map]at hk;rcases hk with rfl|⟨s,hs,rfl⟩
 ·exact ss_word h0
 ·exact ss_word (term_word (List.all_eq_true.1 h s hs))
theorem exW_ss: ∀ e:Ex,shapedE e=true→shapedS (exW e)=true:=by
 refine Ex.ind ?_;intro op name n args kids ih h;unfold shapedE at h;unfold exW;split at h
 ·rename_i c;rw[if_pos c];simp only[Bool.and_eq_true]at h;have:=h.2;simp only[inNum,Bool.and_eq_true,decide_eq_true_eq]at this;simp[shapedS,this.1,this.2]
 ·rename_i c;rw[if_neg c];split at h
  ·rename_i c2;rw[if_pos c2];simp only[Bool.and_eq_true]at h;exact ss_words (nameW h.1.2) h.2
  ·rename_i c2;rw[if_neg c2];split at h
   case isFalse=>simp at h
   rename_i c3;simp only[Bool.and_eq_true]at h;obtain⟨_,h4⟩:=h;split at h4
   case h_2=>simp at h4
   rename_i a b;simp only[Bool.and_eq_true]at h4;have hop:wordR op=true:=by
    simp only[Bool.or_eq_true]at c3;rcases c3 with(h|h)|h<;>rw[bEq_eq h]<;>decide
   refine ss_list fun k hk=>?_;simp only[List.mem_cons,List.not_mem_nil,or_false]at hk;rcases hk with rfl|rfl|rfl
   ·exact ss_word hop
   ·exact ih a (by simp) h4.1
   ·exact ih b (by simp) h4.2
theorem params_ss: ∀ l:List Pm,l.all pmOk=true→ ∀ k∈paramsW l,shapedS k=true
 |[],_=>by simp[paramsW]
 |p::l,h=>by
  simp only[List.all_cons,Bool.and_eq_true,pmOk]at h;obtain⟨⟨h1,h2⟩,h3⟩:=h;have ht:wordR p.type=true:=by
   simp only[typedB,Bool.or_eq_true]at h2;rcases h2 with h2|h2
   ·exact nameW h2
   ·rw [bEq_eq h2];decide
  intro k hk;simp only[paramsW,List.mem_cons]at hk;rcases hk with rfl|rfl|rfl|hk
  ·exact ss_word (varW h1)
  ·exact ss_word (by decide)
  ·exact ss_word ht
  ·exact params_ss l h3 k hk
theorem fmW_ss: ∀ f:Fm,shapedF f=true→shapedS (fmW f)=true:=by
 refine sf_ind ?_ ?_ ?_ ?_ ?_ ?_ ?_
 ·intro name args h1 h2;exact ss_words (nameW h1) h2
 ·intro args _ h2;exact ss_words (by decide) h2
 ·intro op a b ho ha hb;have e:fmW (.mk op ⟨#[]⟩ [] [] [a,b] [])=listM [wordM op,exW a,exW b]:=by rcases ho with rfl|rfl|rfl<;>rfl
  have hop:wordR op=true:=by rcases ho with rfl|rfl|rfl<;>decide
  rw[e];refine ss_list fun k hk=>?_;simp only[List.mem_cons,List.not_mem_nil,or_false]at hk;rcases hk with rfl|rfl|rfl
  ·exact ss_word hop
  ·exact exW_ss a ha
  ·exact exW_ss b hb
 ·intro op kids ho _ ih;have e: ∃ pre,(∀ k∈pre,shapedS k=true)∧fmW (.mk op ⟨#[]⟩ [] [] [] kids)=listM (pre++kids.map fmW):=by
   have hop:wordR op=true:=(by rcases ho with rfl|rfl<;>decide);have hx:fmW (.mk op ⟨#[]⟩ [] [] [] kids)=listM ((if(bEq op opAnd&&kids.isEmpty)=true then[]else[wordM op])++kids.map fmW):=by
    unfold fmW;rw[fmWs_map];rcases ho with rfl|rfl
    ·rw [if_neg (by decide),if_neg (by decide),if_neg (by decide),if_neg (show ¬ isQ opAnd=true by decide),List.append_nil]
    ·rw [if_neg (by decide),if_neg (by decide),if_neg (by decide),if_neg (show ¬ isQ opOr=true by decide),List.append_nil]
   refine⟨_,?_,hx⟩;intro k hk;split at hk
   ·simp at hk
   ·simp only[List.mem_singleton]at hk;subst hk;exact ss_word hop
  obtain⟨pre,hp,e⟩:=e;rw[e];refine ss_list fun k hk=>?_;rcases List.mem_append.1 hk with hk|hk
  ·exact hp k hk
  ·obtain ⟨y,hy,rfl⟩:=List.mem_map.1 hk;exact ih y hy
 ·intro k _ ih;exact ss_list (l:=[wordM opNot,fmW k]) fun y hy=>by
   simp only[List.mem_cons,List.not_mem_nil,or_false]at hy;rcases hy with rfl|rfl
   ·exact ss_word (by decide)
   ·exact ih
 ·intro a b _ _ iha ihb;exact ss_list (l:=[wordM opImp,fmW a,fmW b]) fun y hy=>by
   simp only[List.mem_cons,List.not_mem_nil,or_false]at hy;rcases hy with rfl|rfl|rfl
   ·exact ss_word (by decide)
   ·exact iha
   ·exact ihb
 ·intro op params k ho hp _ ih;have e:fmW (.mk op ⟨#[]⟩ [] params [] [k])=listM [wordM op,listM (paramsW params),fmW k]:=by rcases ho with rfl|rfl<;>rfl
  have hop:wordR op=true:=by rcases ho with rfl|rfl<;>decide
  rw[e];refine ss_list fun y hy=>?_;simp only[List.mem_cons,List.not_mem_nil,or_false]at hy;rcases hy with rfl|rfl|rfl
  ·exact ss_word hop
  ·exact ss_list (params_ss params hp)
  ·exact ih
theorem validF_iff{f:Fm}:validF f=true↔shapedF f=true∧(fmW f).depth≤32∧(fmW f).nodes≤4096:=by
 constructor
 ·intro h;have hs:shapedF f=true:=by
   unfold validF at h;simp only[Bool.and_eq_true]at h;exact shapedM_F f 0 0 h.1
  unfold validF at h;simp only[Bool.and_eq_true]at h;have:=(svalid_iff (fmW f) 0 0 (by omega) (by omega)).1.1 h.2;exact⟨hs,by omega,by omega⟩
 ·rintro ⟨hs,hd,hn⟩;unfold validF;rw[(shaped_of f hs 0 0 (by omega) (by omega)).1,(svalid_iff (fmW f) 0 0 (by omega) (by omega)).1.2 ⟨fmW_ss f hs,by omega,by omega⟩];try rfl
theorem mem_nodes{x:Sx}: ∀ {l:List Sx},x∈l→x.nodes≤Sx.nodess l
 |[],h=>by cases h
 |a::l,h=>by
  simp only[Sx.nodess];rcases List.mem_cons.1 h with rfl|h
  ·omega
  ·have:=mem_nodes h;omega
structure PbE(p:Pb):Prop where
 objs: ∀ o∈p.objects,objB o=true
 init: ∀ a∈p.init,rightA a=true
 vals: ∀ v∈p.values,vlB v=true
 goal:validF p.goal=true
theorem namedP_name{x:Sx}{want:ByteArray}(h:(namedP x want).2=0):nameB (namedP x want).1=true:=by
 unfold namedP at h⊢;split
 ·rename_i w rest hd;rw[hd]at h;simp only at h;cases q:bEq w want with
  |false=>rw[q]at h;simp at h
  |true=>
   rw[q]at h;simp only[cond_true]at h⊢;split
   ·rename_i r;simp only at h;cases q2:kindOf r==1 with
    |false=>rw[q2]at h;simp at h
    |true=>
     rw[q2]at h;simp only[cond_true]at h⊢;cases q3:nameB (textOf r)with
     |false=>rw[q3]at h;simp at h
     |true=>simp only[cond_true];exact q3
   ·rename_i hne;split at h
    ·rename_i r;exact absurd rfl (hne r)
    ·simp at h
 ·rename_i hd;rw[hd]at h;simp at h
theorem namesM_good: ∀ l:List Sx, ∀ s∈(namesM l).1,nameB s=true
 |[],s,h=>by simp[namesM]at h
 |x::l,s,h=>by
  have ih:=namesM_good l;simp only[namesM]at h;cases q:kindOf x==1 with
  |false=>rw[q]at h;simp at h
  |true=>
   rw[q]at h;simp only[cond_true]at h;cases q2:nameB (textOf x)with
   |false=>rw[q2]at h;simp at h
   |true=>
    rw[q2]at h;simp only[cond_true]at h;generalize namesM l=W at h ih;obtain⟨t,c⟩:=W;simp only at h ih;cases q3:c==0 with
    |false=>rw[q3]at h;simp at h
    |true=>
     rw[q3]at h;simp only[cond_true,List.mem_cons]at h;rcases h with rfl|h
     ·exact q2
     ·exact ih s h
theorem atomP_good{w:ByteArray}{l:List Sx}(h:((atomP w l).2==0)=true):rightA (atomP w l).1=true:=by
 unfold atomP at h⊢;cases q:nameB w with
 |false=>rw[q]at h;simp at h
 |true=>
  rw[q]at h;simp only[cond_true]at h⊢;cases q2:(namesM l).2==0 with
  |false=>
   rw[q2]at h;simp only[cond_false]at h;rw[q2]at h;cases h
  |true=>
   simp only[cond_true];exact rightA_iff.2 ⟨q,namesM_good l⟩
theorem headM_shaped{x:Sx}{w:ByteArray}{rest:List Sx}(hs:shapedS x=true)(h:headM x=some (w,rest)): ∀ y∈rest,shapedS y=true:=by
 obtain⟨kind,value,line,col,text,kids⟩:=x;unfold shapedS at hs;simp only[headM]at h;split at h
 ·rename_i hk;have hk3:kind=3:=by simpa using hk
  subst hk3;rw[if_neg (by omega),if_neg (by omega),if_pos rfl,Bool.and_eq_true,shapedSs_iff]at hs;cases kids with
  |nil=>simp at h
  |cons y l=>
   simp only at h;cases hh:kindOf y==1 with
   |false=>rw[hh]at h;simp at h
   |true=>
    rw[hh]at h;simp only[cond_true,Option.some.injEq,Prod.mk.injEq]at h;obtain⟨_,rfl⟩:=h;exact fun z hz=>hs.1 z (List.mem_cons_of_mem _ hz)
 ·simp at h
theorem num_in{x:Sx}(hs:shapedS x=true)(h:(kindOf x==2)=true):inNum (valOf x)=true:=by
 obtain⟨kind,value,line,col,text,kids⟩:=x;simp only[kindOf,beq_iff_eq]at h;subst h;unfold shapedS at hs;rw[if_neg (by omega),if_pos rfl]at hs;simp only[Bool.and_eq_true,decide_eq_true_eq]at hs;unfold inNum valOf;simp only[Bool.and_eq_true,decide_eq_true_eq];omega
theorem elemP_good{a:List At}{v:List Vl}{x:Sx}(hs:shapedS x=true)(ha: ∀ q∈a,rightA q=true)(hv: ∀ q∈v,vlB q=true):(∀ q∈(elemP a v x).1,rightA q=true)∧ ∀ q∈(elemP a v x).2.1,vlB q=true:=by
 unfold elemP;split
 ·exact ⟨ha,hv⟩
 ·rename_i w rest hd;have hr:=headM_shaped hs hd;cases bEq w opEq with
  |true=>
   simp only[cond_true];split
   ·rename_i f n;cases q2:kindOf n==2 with
    |false=>exact⟨ha,hv⟩
    |true=>
     simp only[cond_true];split
     ·exact ⟨ha,hv⟩
     ·rename_i name args hd2;cases q3:(atomP name args).2==0 with
      |false=>exact⟨ha,hv⟩
      |true=>
       simp only[cond_true];refine⟨ha,fun q hq=>?_⟩;rcases List.mem_append.1 hq with hq|hq
       ·exact hv q hq
       ·simp only[List.mem_singleton]at hq;subst hq;unfold vlB;rw[Bool.and_eq_true];exact⟨atomP_good q3,num_in (hr n (by simp)) q2⟩
   ·exact ⟨ha,hv⟩
  |false=>
   simp only[cond_false];cases q3:(atomP w rest).2==0 with
   |false=>exact⟨ha,hv⟩
   |true=>
    simp only[cond_true];refine⟨fun q hq=>?_,hv⟩;rcases List.mem_append.1 hq with hq|hq
    ·exact ha q hq
    ·simp only[List.mem_singleton]at hq;subst hq;exact atomP_good q3
theorem elemsP_good: ∀ (l:List Sx)(a:List At)(v:List Vl),(∀ y∈l,shapedS y=true)→(∀ q∈a,rightA q=true)→(∀ q∈v,vlB q=true)→(∀ q∈(elemsP a v l).1,rightA q=true)∧ ∀ q∈(elemsP a v l).2.1,vlB q=true
 |[],a,v,_,ha,hv=>⟨ha,hv⟩
 |x::l,a,v,hl,ha,hv=>by
  have h1:=elemP_good (hl x (by simp)) ha hv;simp only[elemsP];generalize elemP a v x=W at h1⊢;obtain⟨a',v',c⟩:=W;simp only at h1⊢;cases c==0 with
  |true=>exact elemsP_good l a' v' (fun y hy=>hl y (by simp[hy])) h1.1 h1.2
  |false=>exact h1
theorem pmsOf_good{t:ByteArray}{l:List ByteArray}(ht:typedB t=true)(h: ∀ s∈l,nameB s=true): ∀ o∈pmsOf t l,objB o=true:=by
 intro o ho;simp only[pmsOf,List.mem_map]at ho;obtain⟨s,hs,rfl⟩:=ho;unfold objB;rw[Bool.and_eq_true];exact⟨h s hs,ht⟩
theorem paramsL_good: ∀ (n:Nat)(l:List Sx),l.length≤n→ ∀ (don:List Pm)(pen:List ByteArray),(∀ o∈don,objB o=true)→(∀ s∈pen,nameB s=true)→ ∀ o∈(paramsL false l don pen).1,objB o=true:=by
 intro n;have hnil: ∀ (don:List Pm)(pen:List ByteArray),(∀ o∈don,objB o=true)→(∀ s∈pen,nameB s=true)→ ∀ o∈(paramsL false [] don pen).1,objB o=true:=by
  intro don pen hd hp o ho;unfold paramsL at ho;rcases List.mem_append.1 ho with ho|ho
  ·exact hd o ho
  ·exact pmsOf_good (by decide) hp o ho
 induction n with
 |zero=>
  intro l hl don pen hd hp
  match l,hl with
  |[],_=>exact hnil don pen hd hp
 |succ n ihn=>
  intro l hl don pen hd hp
  match l,hl with
  |[],_=>exact hnil don pen hd hp
  |x::l,hl=>
   rw[paramsL_cons];cases isWrd x with
   |false=>simp
   |true=>
    simp only[cond_true];cases bEq (textOf x) opMin with
    |true=>
     simp only[cond_true];cases l with
     |nil=>simp
     |cons t l'=>
      simp only;cases(!pen.isEmpty&&isWrd t)with
      |false=>simp
      |true=>
       cases q:typedB (textOf t)with
       |false=>simp
       |true=>
        simp only[cond_true];refine ihn l' (by simp at hl;omega) _ _ (fun o ho=>?_) (by simp);rcases List.mem_append.1 ho with ho|ho
        ·exact hd o ho
        ·exact pmsOf_good q hp o ho
    |false=>
     simp only[cond_false];cases q:nameB (textOf x)with
     |false=>simp
     |true=>
      simp only[cond_true];refine ihn l (by simp at hl;omega) _ _ hd (fun s hs=>?_);rcases List.mem_append.1 hs with hs|hs
      ·exact hp s hs
      ·simp only[List.mem_singleton]at hs;subst hs;exact q
theorem sectP_good{p:Pb}{w:ByteArray}{rest:List Sx}(hp:PbE p)(hs: ∀ y∈rest,shapedS y=true)(hc:(sectP p w rest).2=0):PbE (sectP p w rest).1:=by
 unfold sectP at hc⊢;cases q1:bEq w opObjs with
 |true=>
  simp only[cond_true];exact⟨paramsL_good rest.length rest (Nat.le_refl _) [] [] (by simp) (by simp),hp.init,hp.vals,hp.goal⟩
 |false=>
  rw[q1]at hc;simp only[cond_false]at hc⊢;cases q2:bEq w opInit with
  |true=>
   simp only[cond_true];have:=elemsP_good rest p.init p.values hs hp.init hp.vals;exact⟨hp.objs,this.1,this.2,hp.goal⟩
  |false=>
   rw[q2]at hc;simp only[cond_false]at hc⊢;split
   ·simp only at hc;exact⟨hp.objs,hp.init,hp.vals,parseF_valid hc⟩
   ·exact hp
theorem sectsP_good: ∀ (l:List Sx)(o:List ByteArray)(p:Pb),PbE p→(∀ y∈l,shapedS y=true)→(sectsP o p l).2=0→PbE (sectsP o p l).1
 |[],o,p,hp,_,_=>by unfold sectsP;exact hp
 |s::l,o,p,hp,hs,hc=>by
  unfold sectsP at hc⊢;split
  ·rename_i hd;rw[hd]at hc;simp at hc
  ·rename_i w rest hd;rw[hd]at hc;simp only at hc;split
   ·rename_i ha;rw[ha]at hc;simp at hc
   ·rename_i o' ha;rw[ha]at hc;simp only at hc;cases q:(sectP p w rest).2==0 with
    |false=>
     rw[q]at hc;simp only[cond_false]at hc;rw[hc]at q;cases q
    |true=>
     rw[q]at hc;simp only[cond_true]at hc⊢;exact sectsP_good l o' _ (sectP_good hp (headM_shaped (hs s (by simp)) hd) (by simpa using q)) (fun y hy=>hs y (by simp[hy])) hc
theorem andFm_valid:validF andFm=true:=by decide
theorem sects_good{x n d:Sx}{secs:List Sx}{w:ByteArray}(hv:shapedS x=true)(hd:headM x=some (w,n::d::secs))(hn:((namedP n opPrb).2==0)=true)(hdm:((namedP d opDom).2==0)=true)
  (hc:(sectsP pbOrder (pb0 (namedP n opPrb).1 (namedP d opDom).1) secs).2=0)(h1: ∀ o l p,(sectsP o p l).1.name=p.name∧(sectsP o p l).1.domain=p.domain):
  expressB (sectsP pbOrder (pb0 (namedP n opPrb).1 (namedP d opDom).1) secs).1=true∧validF (sectsP pbOrder (pb0 (namedP n opPrb).1 (namedP d opDom).1) secs).1.goal=true:=by
 have hs:=headM_shaped hv hd;have h:=sectsP_good secs pbOrder (pb0 (namedP n opPrb).1 (namedP d opDom).1) ⟨by simp[pb0],by simp[pb0],by simp[pb0],andFm_valid⟩ (fun y hy=>hs y (by simp[hy])) hc;obtain⟨e1,e2⟩:=h1 pbOrder secs (pb0 (namedP n opPrb).1 (namedP d opDom).1);refine⟨expressB_iff.2 ⟨?_,?_,h.objs,h.vals,h.init⟩,h.goal⟩
 ·rw [e1];exact namedP_name (by simpa using hn)
 ·rw [e2];exact namedP_name (by simpa using hdm)
theorem sectP_names(p:Pb)(w:ByteArray)(rest:List Sx):(sectP p w rest).1.name=p.name∧(sectP p w rest).1.domain=p.domain:=by
 unfold sectP;cases bEq w opObjs with
 |true=>exact⟨rfl,rfl⟩
 |false=>
  simp only[cond_false];cases bEq w opInit with
  |true=>exact⟨rfl,rfl⟩
  |false=>
   simp only[cond_false];split<;>exact⟨rfl,rfl⟩
theorem sectsP_names: ∀ (o:List ByteArray)(l:List Sx)(p:Pb),(sectsP o p l).1.name=p.name∧(sectsP o p l).1.domain=p.domain
 |o,[],p=>by unfold sectsP;exact⟨rfl,rfl⟩
 |o,s::l,p=>by
  unfold sectsP;split
  ·exact ⟨rfl,rfl⟩
  ·rename_i w rest _;split
   ·exact ⟨rfl,rfl⟩
   ·rename_i o' _;have h:=sectP_names p w rest;cases(sectP p w rest).2==0 with
    |false=>exact h
    |true=>
     have h2:=sectsP_names o' l (sectP p w rest).1;simp only[cond_true];exact⟨h2.1.trans h.1,h2.2.trans h.2⟩
theorem ats_nodesS: ∀ l:List At,(∀ a∈l,a.args.length≤1048576)→Sx.nodess (l.map atW)≤l.length*1048578
 |[],_=>by simp[Sx.nodess]
 |a::l,h=>by
  have ih:=ats_nodesS l (fun b hb=>h b (by simp[hb]));have:=h a (by simp);rw[List.map_cons];simp only[Sx.nodess,atW,words_nodes,List.length_cons];omega
theorem vls_nodesS: ∀ l:List Vl,(∀ a∈l,a.at_.args.length≤1048576)→Sx.nodess (l.map vlW)≤l.length*1048582
 |[],_=>by simp[Sx.nodess]
 |a::l,h=>by
  have ih:=vls_nodesS l (fun b hb=>h b (by simp[hb]));have:=h a (by simp);have e3:(numM a.n).nodes=1:=rfl;rw[List.map_cons];simp only[Sx.nodess,vlW,list_nodes,word_nodes,atW,words_nodes,e3,List.length_cons];omega
theorem pbW_nodesS{p:Pb}(hsm:PbSm p)(hg:validF p.goal=true):(pbW p).nodes≤bigN∧(pbW p).depth≤bigN:=by
 have hd:=Sx.depth_nodes (pbW p);have key:(pbW p).nodes≤bigN:=by
  have h4:=(validF_iff.1 hg).2.2;have h1:=hsm.o;have h2:=ats_nodesS p.init hsm.ia;have h3:=vls_nodesS p.values hsm.va;have i1:=hsm.i;have i2:=hsm.v;obtain⟨name,domain,objects,init,values,goal⟩:=p;simp only at h1 h2 h3 h4 i1 i2;have k1:Sx.nodess (objsW objects)≤3*objects.length+2:=by
   unfold objsW;split
   ·simp [Sx.nodess]
   ·simp only[objsS,Sx.nodess,list_nodes,word_nodes,nodess_params];omega
  have k2:Sx.nodess (initW init values)≤Sx.nodess (init.map atW)+Sx.nodess (values.map vlW)+2:=by
   unfold initW;split
   ·simp [Sx.nodess]
   ·simp only[initS,Sx.nodess,list_nodes,word_nodes,nodess_append];omega
  have k3:Sx.nodess (goalW goal)≤(fmW goal).nodes+2:=by
   unfold goalW;split
   ·simp [Sx.nodess]
   ·simp only[goalS,Sx.nodess,list_nodes,word_nodes];omega
  have e:pbW ⟨name,domain,objects,init,values,goal⟩=listM ([wordM opDef,nameS opPrb name,nameS opDom domain]++(objsW objects++(initW init values++goalW goal))):=rfl;rw[e];simp only[list_nodes,nodess_append,Sx.nodess,nameS,word_nodes,bigN];omega
 exact⟨key,by omega⟩
theorem writeB_p{p:Pb}(h1:expressB p=true)(h2:validF p.goal=true):writeB p=(svalid (pbW p) 0 0).1:=by
 unfold writeB;rw[h1,h2];try rfl
set_option maxHeartbeats 8000000
set_option maxRecDepth 20000
theorem qword_c{h:Heap}{s:ByteArray}:PCall Tryz.prog 70 [sPV s] h fun r h'=>r= .agg (wordM s).cells∧h'=h:=by
 refine PCall.frz Ty.hb_70 ?_;refine uG0 Tryz.func70 Tryz.ntmps70 Tryz.results70 Ty.hb_70 ?_;repeat'(first|refine a_seq fun K hK=>?_|refine uR trivial ?_|refine uT trivial ?_|(refine uN hK ?_;clear hK)|apply zI)
 refine⟨?_,((Grow.refl h).new _).set (Nat.le_refl _) _⟩;simp only[wordM,Sx.cells,Sx.rows,FrzTo,FrzL];exact⟨_,rfl,rfl,rfl,rfl,rfl,rfl,.inr (.inl ⟨rfl,.inr rfl⟩),trivial⟩
theorem qlist_c{s:ByteArray}{l:List Sx}(hl:l.length≤1099511627776)(h:Heap):PCall Tryz.prog 69 [sPV s,.imm 6 (Sx.rows l)] h fun r h'=>r= .agg (listM (wordM s::l)).cells∧h'=h:=by
 refine PCall.frz Ty.hb_69 ?_;have hll:=Sx.rows_len l;have hwd: ∀ (h:Heap),PCall Tryz.prog 70 [sPV s] h fun r h'=>r= .agg (wordM s).cells∧h'=h:=fun h=>qword_c;simp only[wordM,Sx.cells,Sx.rows]at hwd;have hbb:(1+l.length)*72≤140737488355328:=by omega
 have n1:(h.next=h.next+1+1)=False:=eq_false (by omega);refine uG (ow:=fun t=>t==7) (wf:=fun _=>false) Tryz.func69 Tryz.ntmps69 Tryz.results69 Ty.hb_69 ?_;repeat'(first|refine a_seq fun K hK=>?_|refine uR trivial ?_|(refine uN hK ?_;clear hK)|apply zI)
 refine uU trivial (hwd _) ?_;replace zz:=uu hll (uu hbb (uu n1 @nsucc));repeat'(first|refine uT zz ?_|(refine uN hK ?_;clear hK)|(rw[if_pos];rotate_left 1;omega;simp(maxSteps:=2000000) only[Ty.w,simprocAttr,hll,hbb,n1,nsucc])|apply zI)
 refine⟨?_,(((((Grow.refl h).new _).new _).kill (show h.next≤h.next+1 by omega)).new _).set (Nat.le_refl _) _⟩;simp only[listM,Sx.cells,FrzTo,FrzL];refine⟨_,rfl,rfl,rfl,rfl,rfl,rfl,.inr (.inr ⟨h.next+1+1,0,1+l.length,Sx.rows (wordM s::l),rfl,by omega,?_,?_,?_⟩),trivial⟩
 ·rw [obj_set (by omega)];simp only[Heap.new,Heap.kill,if_true,Sx.rows,wordM,Sx.cells]
 ·rw [Sx.rows_len];simp;omega
 ·rw [List.drop_zero,List.take_of_length_le (by rw[Sx.rows_len];simp;omega)];exact sxs_frz _ _ _
theorem qatom_c{a:At}(hr:rightA a=true)(hl:a.args.length≤1048576)(h:Heap):PCall Tryz.prog 72 [.agg (atRow a)] h fun r h'=>r= .agg (atW a).cells∧h'=h:=by
 refine PCall.frz Ty.hb_72 ?_;obtain⟨r1,r2⟩:=rightA_iff.1 hr;have hsh:shapedF (.mk opAtom a.name a.args [] [] [])=true:=by
  have ht:a.args.all termB=true:=by
   rw[List.all_eq_true];intro s hs;unfold termB;rw[r2 s hs];try rfl
  unfold shapedF;simp[partsOk,shapeOf,termsOk,r1,ht,shapedFs,show bEq opAtom opAtom=true by decide]
 have hF:=fun h:Heap=>rwriteF_c (.mk opAtom a.name a.args [] [] []) (by simp[Fm.small,Ex.smalls,Fm.smalls];exact hl) hsh h;have e:fmW (.mk opAtom a.name a.args [] [] [])=atW a:=by
  unfold fmW;rw[if_pos (by decide)];try rfl
 rw[e]at hF;have hfz:=fun n h=>sx_frz n h (atW a);generalize atW a=X at hF hfz⊢;obtain⟨ki,va,li,co,te,ks⟩:=X;simp only[Fm.cells,Sx.cells,Ex.rows,Fm.rows,pmRows,List.map_nil]at hF hfz⊢;have hF2: ∀ h:Heap,PCall Tryz.prog 74 [.agg [sPV opAtom,sPV a.name,.imm 1 (strRows a.args),.sc (.slice none 0 0),.sc (.slice none 0 0),.sc (.slice none 0 0)]] h fun r h'=>r= .agg [.sc (.int .i64 ki),.sc (.int .i64 va),.sc (.int .i64 li),.sc (.int .i64 co),sPV te,.imm 6 (Sx.rows ks)]∧h'=h:=
  fun h=>PCall.nz (hF h) (nz_cons (nz_agg (nz_cons (Nz.refl _) (nz_cons (Nz.refl _) (nz_cons (Nz.refl _) (nz_cons nz_nil (nz_cons nz_nil (nz_cons nz_nil (NzL.refl [])))))))) (NzL.refl []))
 obtain⟨an,aa⟩:=a;simp only[atRow]at hF2⊢;refine uG0 Tryz.func72 Tryz.ntmps72 Tryz.results72 Ty.hb_72 ?_;repeat'(first|refine a_seq fun K hK=>?_|refine uR trivial ?_|(refine uN hK ?_;clear hK)|apply zI)
 refine uU trivial (hF2 _) ?_;repeat'(first|refine uT trivial ?_|(refine uN hK ?_;clear hK)|apply zI)
 refine⟨?_,((Grow.refl h).new _).set (Nat.le_refl _) _⟩;simp only[FrzTo];exact⟨_,rfl,hfz _ _⟩
theorem qtrue_c{g:Fm}(h:Heap):PCall Tryz.prog 73 [.agg g.cells] h fun r h'=>r= .sc (.bool (goalE g))∧h'=h:=by
 obtain⟨op,name,args,params,exprs,kids⟩:=g;have hlK:=Fm.rows_len kids;have e:goalE (.mk op name args params exprs kids)=((op.data.toList==(#[97,110,100]:Array UInt8).toList)&&kids.isEmpty):=rfl;rw[e];simp only[Fm.cells];cases k1:(op.data.toList==(#[97,110,100]:Array UInt8).toList)with
 |false=>
  refine uG0 Tryz.func73 Tryz.ntmps73 Tryz.results73 Ty.hb_73 ?_;repeat'(first|refine a_seq fun K hK=>?_|refine uR k1 ?_|refine uT k1 ?_|(refine uN hK ?_;clear hK)|apply zI)
  all_goals rfl
 |true=>
  have k2:((kids.length:Int)==0)=kids.isEmpty:=by cases kids<;>simp<;>omega
  refine uG0 Tryz.func73 Tryz.ntmps73 Tryz.results73 Ty.hb_73 ?_;replace zz:=uu k1 (uu hlK k2);repeat'(first|refine a_seq fun K hK=>?_|refine uR zz ?_|refine uT zz ?_|(refine uN hK ?_;clear hK)|apply zI)
  all_goals rfl
theorem nzr_cons{p q:List PV}{l m:List (List PV)}(h:NzL p q)(h2:NzR l m):NzR (p::l) (q::m):=by unfold NzR;exact⟨h,h2⟩
structure QpI(h:Heap)(L:List Sx)(p:PV)(H:Heap):Prop where
 grow:Grow h H
 ores:H.obj h.next=some (.arr 6 [sxZ])
 lt:h.next<H.next
 tl:Tl H (h.next+1) 6 p (Sx.rows L)
theorem QpI.up{h H H':Heap}{L:List Sx}{p:PV}(i:QpI h L p H)(g:Grow H H'):QpI h L p H':=
 ⟨i.grow.trans g,by rw[g.old _ i.lt];exact i.ores,Nat.lt_of_lt_of_le i.lt g.le,i.tl.old g⟩
theorem QpI.push{h H:Heap}{L:List Sx}{p:PV}(i:QpI h L p H)(X:Sx): ∃ Hk,isTail H p=some (Hk,Sx.rows L)∧zOk H 6 p=true∧Hk.next=H.next∧QpI h (L++[X]) (.own H.next 0 (L.length+1)) (Hk.new (.arr 6 (Sx.rows L++[X.cells]))):=by
 obtain⟨g,o,lt,tl⟩:=i;obtain⟨Hk,t1,t2,t3,t4,t5⟩:=tl.tail;have hk:=t5 h ⟨g.le,g.old⟩ (Nat.le_succ _);have e:Sx.rows (L++[X])=Sx.rows L++[X.cells]:=by simp[Sx.rows_map]
 refine⟨Hk,t1,t2,t3,(⟨hk.1,hk.2⟩:Grow h Hk).new _,by rw[obj_new (by omega),t4 _ (by omega)];exact o,show h.next<Hk.next+1 by omega,?_⟩;rw[e, ← t3];exact Tl.grow (by omega) (by simp[Sx.rows_len])
theorem qproblem_c{p:Pb}(hok:p.ok)(hsm:PbSm p)(he:expressB p=true)(hsh:shapedF p.goal=true)(h:Heap):PCall Tryz.prog 35 [.agg p.cells] h fun r h'=>r= .agg (pbW p).cells∧h'=h:=by
 refine PCall.frz Ty.hb_35 ?_;obtain⟨_,_,_,e4,e5⟩:=expressB_iff.1 he;have hgF:=fun h:Heap=>rwriteF_c p.goal hsm.g hsh h;have hgT:=fun h:Heap=>qtrue_c (g:=p.goal) h;have hpw:pbW p=listM (wordM opDef::([nameS opPrb p.name,nameS opDom p.domain]++objsW p.objects++initW p.init p.values++goalW p.goal)):=by
  simp[pbW,List.append_assoc]
 generalize pbW p=PW at hpw⊢;have hgE:goalW p.goal=if goalE p.goal then[]else[listM [wordM opGoal,fmW p.goal]]:=rfl
 generalize fmW p.goal=X at hgF hgE;generalize goalE p.goal=gE at hgT hgE;have hlO:=pmRows_len p.objects;have hlI:=atRows_len p.init;have hlV:=vlRows_len p.values;have so:=hsm.o;have si:=hsm.i;have sv:=hsm.v;have sia:=hsm.ia;have sva:=hsm.va;try clear zz
 clear hok hsm he hsh;obtain⟨name,domain,objects,init,values,⟨gop,gname,gargs,gparams,gexprs,gkids⟩⟩:=p;obtain⟨ki,va,li,co,te,ks⟩:=X;simp only at hpw hgE hlO hlI hlV so si sv sia sva e4 e5;simp only[Pb.cells,Fm.cells,List.cons_append,List.nil_append,Sx.cells]at hgF hgT⊢;have hwd: ∀ (s:ByteArray)(h:Heap),PCall Tryz.prog 70 [sPV s] h fun r h'=>r= .agg (wordM s).cells∧h'=h:=fun s h=>qword_c;have hl1:=fun(w a:ByteArray)(h:Heap)=>qlist_c (s:=w) (l:=[wordM a]) (by simp) h;have hl2:=fun(h:Heap)=>qlist_c (s:=opGoal) (l:=[Sx.mk ki va li co te ks]) (by simp) h;simp only[wordM,Sx.cells,Sx.rows]at hwd;have hl1: ∀ (w a:ByteArray)(h:Heap),PCall Tryz.prog 69 [sPV w,.imm 6 [[.sc (.int .i64 1),.sc (.int .i64 0),.sc (.int .i64 0),.sc (.int .i64 0),sPV a,.imm 6 []]]] h fun r h'=>r= .agg (nameS w a).cells∧h'=h:=fun w a h=>qlist_c (s:=w) (l:=[wordM a]) (by simp) h;have hl2: ∀ (h:Heap),PCall Tryz.prog 69 [sPV opGoal,.imm 6 [[.sc (.int .i64 ki),.sc (.int .i64 va),.sc (.int .i64 li),.sc (.int .i64 co),sPV te,.imm 6 (Sx.rows ks)]]] h fun r h'=>r= .agg (listM [wordM opGoal,.mk ki va li co te ks]).cells∧h'=h:=fun h=>qlist_c (s:=opGoal) (l:=[Sx.mk ki va li co te ks]) (by simp) h;have hl3: ∀ (h:Heap),PCall Tryz.prog 69 [sPV opObjs,.imm 6 (Sx.rows (paramsW objects))] h fun r h'=>r= .agg (objsS objects).cells∧h'=h:=fun h=>qlist_c (s:=opObjs) (l:=paramsW objects) (by rw[paramsW_len];omega) h;have hwp:=fun h:Heap=>rwriteParams_c (l:=objects) so h;have hLI: ∀ (k:Nat)(a:At),init[k]? =some a→ ∀ h:Heap,PCall Tryz.prog 72 [.agg (atRow a)] h fun r h'=>r= .agg (atW a).cells∧h'=h:=fun k a hx h=>qatom_c (e5 a (List.mem_of_getElem? hx)) (sia a (List.mem_of_getElem? hx)) h;have hLV: ∀ (k:Nat)(a:Vl),values[k]? =some a→ ∀ h:Heap,PCall Tryz.prog 72 [.agg (atRow a.at_)] h fun r h'=>r= .agg (atW a.at_).cells∧h'=h:=fun k a hx h=>qatom_c (by have:=e4 a (List.mem_of_getElem? hx);unfold vlB at this;simp only[Bool.and_eq_true]at this;exact this.1) (sva a (List.mem_of_getElem? hx)) h;have hLE: ∀ (a:Vl)(h:Heap),PCall Tryz.prog 69 [sPV opEq,.imm 6 [(atW a.at_).cells,[.sc (.int .i64 2),.sc (.int .i64 a.n),.sc (.int .i64 0),.sc (.int .i64 0),sPV ⟨#[]⟩,.sc (.slice none 0 0)]]] h fun r h'=>r= .agg (vlW a).cells∧h'=h:=fun a h=>PCall.nz (qlist_c (s:=opEq) (l:=[atW a.at_,numM a.n]) (by simp) h) (nz_cons (Nz.refl _) (nz_cons (nz_imm (nzr_cons (NzL.refl _) (nzr_cons (nz_cons (Nz.refl _) (nz_cons (Nz.refl _) (nz_cons (Nz.refl _) (nz_cons (Nz.refl _) (nz_cons (Nz.refl _) (nz_cons nz_nil (NzL.refl []))))))) (NzR.refl [])))) (NzL.refl [])));try clear zz
 clear e4 e5 sia sva;have g6: ∀ x:Sx,x.cells.length=6:=fun x=>by obtain⟨_,_,_,_,_,_⟩:=x;rfl
 have a6: ∀ x:Sx,x.cells.all oneC=true:=fun x=>by obtain⟨_,_,_,_,_,_⟩:=x;rfl
 have hRl: ∀ L:List Sx,(Sx.rows L).length=L.length:=Sx.rows_len;have hPW: ∀ L:List Sx,L.length≤1000→ ∀ h:Heap,PCall Tryz.prog 69 [sPV opDef,.imm 6 (Sx.rows L)] h fun r h'=>r= .agg (listM (wordM opDef::L)).cells∧h'=h:=fun L hL h=>qlist_c (s:=opDef) (l:=L) (by omega) h;have hLa: ∀ l:List Sx,l.length≤3000000→ ∀ h:Heap,PCall Tryz.prog 69 [sPV opInit,.imm 6 (Sx.rows l)] h fun r h'=>r= .agg (listM (wordM opInit::l)).cells∧h'=h:=fun L hL h=>qlist_c (s:=opInit) (l:=L) (by omega) h;refine uG (ow:=fun t=>t==17) (wf:=fun _=>false) Tryz.func35 Tryz.ntmps35 Tryz.results35 Ty.hb_35 ?_;repeat'(first|refine a_seq fun K hK=>?_|refine uR trivial ?_|refine uD trivial ?_|(refine uN hK ?_;clear hK)|apply zI)
 first|refine uV trivial (hwd _ _) ?_|refine uA trivial (hwd _ _) ?_
 try apply zI
 first|refine uV trivial (hl1 _ _ _) ?_|refine uA trivial (hl1 _ _ _) ?_
 try apply zI
 first|refine uV trivial (hwd _ _) ?_|refine uA trivial (hwd _ _) ?_
 try apply zI
 replace zz:=uu g6 (uu a6 @nsucc);first|refine uV zz (hl1 _ _ _) ?_|refine uA zz (hl1 _ _ _) ?_
 repeat'(first|with_reducible refine a_hold 2 ?_|(refine uN hK ?_;clear hK)|refine uB (uu @nsucc (uu g6 a6)) ?_|apply zI)
 refine⟨?_⟩;refine a_gen (fun S H=>S 1= .cptr [sPV name,sPV domain,.imm 2 (pmRows objects),.imm 2 (atRows init),.imm 3 (vlRows values),sPV gop,sPV gname,.imm 1 (strRows gargs),.imm 2 (pmRows gparams),.imm 5 (Ex.rows gexprs),.imm 6 (Fm.rows gkids)]∧S 2= .ptr h.next 0 0∧ ∃ q,S 3=q∧QpI h [nameS opPrb name,nameS opDom domain] q H) ?_ ?_
 ·simp only[Ty.w,simprocAttr];refine⟨((Grow.refl h).new _).new _,?_,?_,Tl.grow (Nat.le_refl _) rfl⟩
  ·rw [obj_new (Nat.lt_succ_self _)];simp only[Heap.new,if_true]
  ·simp only[Heap.new];omega
 generalize hL0:[nameS opPrb name,nameS opDom domain]=L0 at hpw;have hl0:L0.length≤2:=by rw[← hL0];exact Nat.le_refl _
 try clear zz
 clear hl1 hL0;rintro S H ⟨s1,s2,q,s3,hI⟩;refine a_cut (fun S H=>S 1= .cptr [sPV name,sPV domain,.imm 2 (pmRows objects),.imm 2 (atRows init),.imm 3 (vlRows values),sPV gop,sPV gname,.imm 1 (strRows gargs),.imm 2 (pmRows gparams),.imm 5 (Ex.rows gexprs),.imm 6 (Fm.rows gkids)]∧S 2= .ptr h.next 0 0∧ ∃ q,S 3=q∧QpI h (L0++objsW objects) q H) ?_ ?_
 ·by_cases hz:objects=[]
  ·have d0:decide ((objects.length:Int)>0)=false:=(by rw[hz];try rfl);rw[show objsW objects=[] by rw[hz];try rfl,List.append_nil];replace zz:=uu s1 (uu s2 (uu s3 (uu hlO d0)));(repeat'(first|refine a_seq fun K hK=>?_|refine uR zz ?_|refine uK ?_|refine uC1 zz ?_|(refine uN hK ?_;clear hK)|apply zI));exact⟨s1,s2,q,s3,hI⟩
  ·have d0:decide ((objects.length:Int)>0)=true:=(by have:=List.length_pos_iff.2 hz;simp;omega);have hx:objsW objects=[objsS objects]:=(by unfold objsW;rw[if_neg (by simpa using hz)]);rw[hx];obtain⟨Hk,t1,t2,t3,hI2⟩:=hI.push (objsS objects);have hb:(L0.length+1)*72≤140737488355328:=(by omega);replace zz:=uu s1 (uu s3 (uu hlO d0));(repeat'(first|refine a_seq fun K hK=>?_|refine uR zz ?_|refine uC1 zz ?_|(refine uN hK ?_;clear hK)|apply zI));refine uU (uu s1 s3) (hwp _) ?_;(try apply zI);replace zz:=uu s1 (uu s2 (uu s3 (uu t1 (uu t2 (uu hRl (uu hb (uu g6 a6)))))));refine uU zz (hl3 _) ?_;(repeat'(first|(rw[if_pos];rotate_left 1;omega;simp(maxSteps:=2000000) only[Ty.w,simprocAttr,s1,s2,s3,t1,t2,hRl,hb,g6,a6])|apply zI));exact hI2
 try clear zz
 clear s1 s2 s3 hI hl3 hwp q S H;generalize hL1:L0++objsW objects=L1 at hpw;have hl1:L1.length≤3:=by
  rw[← hL1,List.length_append];have:(objsW objects).length≤1:=by unfold objsW;split<;>simp
  omega
 rintro S H0 ⟨s1,s2,q,s3,hI⟩;try clear zz
 clear hL1;repeat'(first|refine a_seq fun K hK=>?_|refine a_block ?_|refine uR (uu s1 (uu s2 s3)) ?_|(refine uN hK ?_;clear hK)|apply zI)
 refine a_loop (fun m S H=>S 1= .cptr [sPV name,sPV domain,.imm 2 (pmRows objects),.imm 2 (atRows init),.imm 3 (vlRows values),sPV gop,sPV gname,.imm 1 (strRows gargs),.imm 2 (pmRows gparams),.imm 5 (Ex.rows gexprs),.imm 6 (Fm.rows gkids)]∧S 2= .ptr h.next 0 0∧S 3=q∧ ∃ (k:Nat)(o:PV),S 5= .sc (.int .i64 k)∧S 4=o∧k≤init.length∧m=init.length-k∧Grow H0 H∧Tl H H0.next 6 o (Sx.rows ((init.take k).map atW))) init.length ?_ ?_
 ·simp only[Ty.w,simprocAttr,s1,s2,s3];exact⟨0,_,rfl,rfl,Nat.zero_le _,rfl,Grow.refl _,Tl.nil⟩
 try clear zz
 clear s1 s2 s3 S;rintro m S H ⟨s1,s2,s3,k,o,s5,s4,hk,rfl,hg,tl⟩;by_cases hlt:k<init.length
 ·have hd:decide ((k:Int)<(init.length:Int))=true:=by simp;omega
  have w7:IntKind.i64.wrap ((k:Int)+1)=((k+1:Nat):Int):=by rw[wrap64 (by omega) (by omega)];omega
  obtain⟨x,hx⟩: ∃ x,init[k]? =some x:=⟨_,List.getElem?_eq_getElem hlt⟩;have hr:=atRows_get hx;have hc:=hLI k x hx;obtain⟨H1,t1,t2,t3,t4,t5⟩:=tl.tail;have hkp:=t5 H0 ⟨hg.le,hg.old⟩ (Nat.le_refl _);have hR:Sx.rows ((init.take (k+1)).map atW)=Sx.rows ((init.take k).map atW)++[(atW x).cells]:=by
   rw[List.take_add_one,hx];simp only[Sx.rows_map,List.map_append,Option.toList_some,List.map_cons,List.map_nil]
  have hpr:(Sx.rows ((init.take k).map atW)).length=k:=by rw[Sx.rows_len,List.length_map,List.length_take];omega
  have hb:(k+1)*72≤140737488355328:=by omega
  have hx0:atRow x=[sPV x.name,.imm 1 (strRows x.args)]:=rfl;rw[hx0]at hc;generalize Sx.rows ((init.take k).map atW)=R at t1 hR hpr;replace zz:=uu s1 (uu s3 (uu s4 (uu s5 (uu hlI (uu hd hr)))));repeat'(first|refine a_seq fun K hK=>?_|refine a_block ?_|refine uR zz ?_|refine uQ zz fun K hK=>?_|refine uK ?_|refine uC1 zz ?_|(refine uN hK ?_;clear hK)|apply zI)
  replace zz:=uu s1 (uu s2 (uu s3 (uu s4 (uu s5 (uu hr (uu t1 (uu t2 (uu hpr (uu hb (uu g6 a6))))))))));refine uU zz (hc _) ?_;replace zz:=uu s1 (uu s2 (uu s3 (uu s4 (uu s5 (uu t1 (uu t2 (uu hpr (uu hb (uu g6 (uu a6 w7))))))))));repeat'(first|refine uR zz ?_|(refine uN hK ?_;clear hK)|(rw[if_pos];rotate_left 1;omega;simp(maxSteps:=2000000) only[Ty.w,simprocAttr,s1,s2,s3,s4,s5,t1,t2,hpr,hb,g6,a6,w7])|apply zI)
  exact⟨init.length-(k+1),by omega,k+1,_,rfl,rfl,by omega,rfl,(⟨hkp.1,hkp.2⟩:Grow H0 H1).new _,by rw[hR, ← t3];exact Tl.grow hkp.1 (by simp[hpr])⟩
 have hd:decide ((k:Int)<(init.length:Int))=false:=by simp;omega
 have hke:k=init.length:=by omega
 rw[hke,List.take_length]at tl;try clear zz
 clear hke hlt hk;replace zz:=uu s1 (uu s2 (uu s3 (uu s4 (uu s5 (uu hlI hd)))));repeat'(first|refine a_seq fun K hK=>?_|refine a_block ?_|refine uR zz ?_|refine uX ?_|refine uC1 zz ?_|(refine uN hK ?_;clear hK)|(clear hK;refine uN hK ?_;clear hK)|apply zI)
 refine a_loop (fun m S H=>S 1= .cptr [sPV name,sPV domain,.imm 2 (pmRows objects),.imm 2 (atRows init),.imm 3 (vlRows values),sPV gop,sPV gname,.imm 1 (strRows gargs),.imm 2 (pmRows gparams),.imm 5 (Ex.rows gexprs),.imm 6 (Fm.rows gkids)]∧S 2= .ptr h.next 0 0∧S 3=q∧ ∃ (k:Nat)(o:PV),S 6= .sc (.int .i64 k)∧S 4=o∧k≤values.length∧m=values.length-k∧Grow H0 H∧Tl H H0.next 6 o (Sx.rows (init.map atW++(values.take k).map vlW))) values.length ?_ ?_
 ·simp only[Ty.w,simprocAttr,s1,s2,s3,s4];exact⟨0,_,rfl,rfl,Nat.zero_le _,rfl,hg,by rw[List.take_zero,List.map_nil,List.append_nil];exact tl⟩
 try clear zz
 clear s1 s2 s3 s4 s5 S hg tl hd;rintro m S H ⟨s1,s2,s3,k,o,s6,s4,hk,rfl,hg,tl⟩;by_cases hlt:k<values.length
 ·have hd:decide ((k:Int)<(values.length:Int))=true:=by simp;omega
  have w7:IntKind.i64.wrap ((k:Int)+1)=((k+1:Nat):Int):=by rw[wrap64 (by omega) (by omega)];omega
  obtain⟨x,hx⟩: ∃ x,values[k]? =some x:=⟨_,List.getElem?_eq_getElem hlt⟩;have hr:=vlRows_get hx;have hc:=hLV k x hx;have hc2:=hLE x;obtain⟨H1,t1,t2,t3,t4,t5⟩:=tl.tail;have hkp:=t5 H0 ⟨hg.le,hg.old⟩ (Nat.le_refl _);have hR:Sx.rows (init.map atW++(values.take (k+1)).map vlW)=Sx.rows (init.map atW++(values.take k).map vlW)++[(vlW x).cells]:=by
   rw[List.take_add_one,hx];simp only[Sx.rows_map,List.map_append,Option.toList_some,List.map_cons,List.map_nil,List.append_assoc]
  have hpr:(Sx.rows (init.map atW++(values.take k).map vlW)).length=init.length+k:=by rw[Sx.rows_len,List.length_append,List.length_map,List.length_map,List.length_take];omega
  have hb:(init.length+k+1)*72≤140737488355328:=by omega
  have hx1:atRow x.at_=[sPV x.at_.name,.imm 1 (strRows x.at_.args)]:=rfl;rw[hx1]at hc;generalize Sx.rows (init.map atW++(values.take k).map vlW)=R at t1 hR hpr;replace zz:=uu s1 (uu s3 (uu s4 (uu s6 (uu hlV (uu hd hr)))));repeat'(first|refine a_seq fun K hK=>?_|refine a_block ?_|refine uR zz ?_|refine uE zz fun K hK=>?_|refine uK ?_|refine uC1 zz ?_|(refine uN hK ?_;clear hK)|apply zI)
  replace zz:=uu s1 (uu s2 (uu s3 (uu s4 (uu s6 (uu hr (uu g6 a6))))));first|refine uV zz (hc _) ?_|refine uA zz (hc _) ?_
  try apply zI
  replace zz:=uu s1 (uu s2 (uu s3 (uu s4 (uu s6 (uu hr (uu t1 (uu t2 (uu hpr (uu hb (uu g6 a6))))))))));first|refine uV zz (hc2 _) ?_|refine uA zz (hc2 _) ?_
  replace zz:=uu s1 (uu s2 (uu s3 (uu s4 (uu s6 (uu hr (uu t1 (uu t2 (uu hpr (uu hb (uu g6 (uu a6 w7)))))))))));repeat'(first|refine uR zz ?_|(refine uN hK ?_;clear hK)|refine uB zz ?_|(rw[if_pos];rotate_left 1;omega;simp(maxSteps:=2000000) only[Ty.w,simprocAttr,s1,s2,s3,s4,s6,hr,t1,t2,hpr,hb,g6,a6,w7])|apply zI)
  exact⟨values.length-(k+1),by omega,k+1,_,rfl,rfl,by omega,rfl,(⟨hkp.1,hkp.2⟩:Grow H0 H1).new _,by rw[hR, ← t3];exact Tl.grow hkp.1 (by simp[hpr])⟩
 have hd:decide ((k:Int)<(values.length:Int))=false:=by simp;omega
 have hke:k=values.length:=by omega
 rw[hke,List.take_length]at tl;try clear zz
 clear hke hlt hk hLI hLV hLE;replace zz:=uu s1 (uu s2 (uu s3 (uu s4 (uu s6 (uu hlV hd)))));repeat'(first|with_reducible refine a_hold 13 ?_|refine a_seq fun K hK=>?_|refine uR zz ?_|refine uX ?_|refine uC1 zz ?_|(refine uN hK ?_;clear hK)|(clear hK;refine uN hK ?_;clear hK)|apply zI)
 refine⟨?_⟩;refine a_drop H0.next [(4,.imm 6 (Sx.rows (init.map atW++values.map vlW)))] rfl hg.le ?_ ?_
 ·intro x hx;simp only[List.mem_cons,List.not_mem_nil,or_false]at hx;subst hx;show FrzTo H0.next _ _ (S 4)
  rw[s4];exact tl_frzX tl
 refine a_gen (fun S H=>S 1= .cptr [sPV name,sPV domain,.imm 2 (pmRows objects),.imm 2 (atRows init),.imm 3 (vlRows values),sPV gop,sPV gname,.imm 1 (strRows gargs),.imm 2 (pmRows gparams),.imm 5 (Ex.rows gexprs),.imm 6 (Fm.rows gkids)]∧S 2= .ptr h.next 0 0∧S 3=q∧S 4= .imm 6 (Sx.rows (init.map atW++values.map vlW))∧QpI h L1 q H) ⟨by simp only[frzS,Ty.w,simprocAttr,s1],by simp only[frzS,Ty.w,simprocAttr,s2],by simp only[frzS,Ty.w,simprocAttr,s3],by simp only[frzS,Ty.w,simprocAttr],hI.up (below_grow hg)⟩ ?_;have hiv:(init.map atW++values.map vlW).length=init.length+values.length:=by simp
 have hiW:initW init values=if init.length+values.length=0 then[]else[listM (wordM opInit::(init.map atW++values.map vlW))]:=by
  unfold initW initS;cases init<;>cases values<;>simp
 have hLb:=hLa (init.map atW++values.map vlW) (by omega);try clear zz
 clear s1 s2 s3 s4 s6 hI hg tl hd S H o k H0 hLa;generalize init.map atW++values.map vlW=IV at hiv hiW hLb;rintro S H ⟨s1,s2,s3,s4,hI⟩;have hRV:=hRl IV;refine a_cut (fun S H=>S 1= .cptr [sPV name,sPV domain,.imm 2 (pmRows objects),.imm 2 (atRows init),.imm 3 (vlRows values),sPV gop,sPV gname,.imm 1 (strRows gargs),.imm 2 (pmRows gparams),.imm 5 (Ex.rows gexprs),.imm 6 (Fm.rows gkids)]∧S 2= .ptr h.next 0 0∧ ∃ q,S 3=q∧QpI h (L1++initW init values) q H) ?_ ?_
 ·by_cases hz:init.length+values.length=0
  ·have d0:decide ((IV.length:Int)>0)=false:=(by rw[hiv,hz];try rfl);rw[hiW,if_pos hz,List.append_nil];replace zz:=uu s1 (uu s2 (uu s3 (uu s4 (uu hRV d0))));(repeat'(first|refine a_seq fun K hK=>?_|refine uR zz ?_|refine uK ?_|refine uC1 zz ?_|(refine uN hK ?_;clear hK)|apply zI));exact⟨s1,s2,q,s3,hI⟩
  ·have d0:decide ((IV.length:Int)>0)=true:=(by simp;omega);rw[hiW,if_neg hz];obtain⟨Hk,t1,t2,t3,hI2⟩:=hI.push (listM (wordM opInit::IV));have hb:(L1.length+1)*72≤140737488355328:=(by omega);replace zz:=uu s1 (uu s2 (uu s3 (uu s4 (uu hRV d0))));(repeat'(first|refine a_seq fun K hK=>?_|refine uR zz ?_|refine uC1 zz ?_|(refine uN hK ?_;clear hK)|apply zI));replace zz:=uu s1 (uu s2 (uu s3 (uu s4 (uu t1 (uu t2 (uu hRl (uu hb (uu g6 a6))))))));refine uU zz (hLb _) ?_;(repeat'(first|(rw[if_pos];rotate_left 1;omega;simp(maxSteps:=2000000) only[Ty.w,simprocAttr,s1,s2,s3,s4,t1,t2,hRl,hb,g6,a6])|apply zI));exact hI2
 try clear zz
 clear s1 s2 s3 s4 hI hRV hLb S H q;generalize hL2:L1++initW init values=L2 at hpw;have hl2':L2.length≤4:=by
  rw[← hL2,List.length_append];have:(initW init values).length≤1:=by unfold initW;split<;>simp
  omega
 rintro S H ⟨s1,s2,q,s3,hI⟩;try clear zz
 clear hL2 hiW hiv hl1;refine a_cut (fun S H=>S 1= .cptr [sPV name,sPV domain,.imm 2 (pmRows objects),.imm 2 (atRows init),.imm 3 (vlRows values),sPV gop,sPV gname,.imm 1 (strRows gargs),.imm 2 (pmRows gparams),.imm 5 (Ex.rows gexprs),.imm 6 (Fm.rows gkids)]∧S 2= .ptr h.next 0 0∧ ∃ q,S 3=q∧QpI h (L2++goalW (.mk gop gname gargs gparams gexprs gkids)) q H) ?_ ?_
 ·cases gE with
  |true=>
   rw[hgE,if_pos rfl,List.append_nil];(repeat'(first|refine a_seq fun K hK=>?_|refine uR (uu s1 (uu s2 s3)) ?_|apply zI));replace zz:=uu s1 (uu s2 (uu s3 @Bool.not_true));refine uU zz (hgT _) ?_;(repeat'(first|refine uK ?_|refine uC1 zz ?_|(refine uN hK ?_;clear hK)|apply zI));exact⟨s1,s2,q,s3,hI⟩
  |false=>
   rw[hgE,if_neg (by simp)];obtain⟨Hk,t1,t2,t3,hI2⟩:=hI.push (listM [wordM opGoal,.mk ki va li co te ks]);have hb:(L2.length+1)*72≤140737488355328:=(by omega);(repeat'(first|refine a_seq fun K hK=>?_|refine uR (uu s1 (uu s2 s3)) ?_|apply zI));replace zz:=uu s1 (uu s2 (uu s3 @Bool.not_false));refine uU zz (hgT _) ?_;(repeat'(first|refine uR zz ?_|refine uC1 zz ?_|(refine uN hK ?_;clear hK)|apply zI));refine uU (uu s1 (uu s2 s3)) (hgF _) ?_;(try apply zI);replace zz:=uu s1 (uu s2 (uu s3 (uu t1 (uu t2 (uu hRl (uu hb (uu g6 a6)))))));refine uU zz (hl2 _) ?_;(repeat'(first|(rw[if_pos];rotate_left 1;omega;simp(maxSteps:=2000000) only[Ty.w,simprocAttr,s1,s2,s3,t1,t2,hRl,hb,g6,a6])|apply zI));exact hI2
 try clear zz
 clear s1 s2 s3 hI hgF hgT hl2 S H q;rintro S H ⟨s1,s2,q,s3,hI⟩;rw[hpw];have hLl:(L2++goalW (.mk gop gname gargs gparams gexprs gkids)).length≤1000:=by
  rw[List.length_append];have:(goalW (.mk gop gname gargs gparams gexprs gkids)).length≤1:=by unfold goalW;split<;>simp
  omega
 have hP:=hPW _ hLl;try clear zz
 clear hPW hpw hLl;generalize L2++goalW (.mk gop gname gargs gparams gexprs gkids)=L3 at hI hP⊢;refine a_drop (h.next+1) [(3,.imm 6 (Sx.rows L3))] rfl hI.lt ?_ ?_
 ·intro x hx;simp only[List.mem_cons,List.not_mem_nil,or_false]at hx;subst hx;show FrzTo (h.next+1) _ _ (S 3);rw[s3];exact tl_frzX hI.tl
 refine a_gen (fun S H=>S 2= .ptr h.next 0 0∧S 3= .imm 6 (Sx.rows L3)∧Grow h H∧H.obj h.next=some (.arr 6 [sxZ])) ⟨by simp only[frzS,Ty.w,simprocAttr,s2],by simp only[frzS,Ty.w,simprocAttr],⟨hI.grow.le,fun j hj=>by simp only[below];rw[if_pos (by omega)];exact hI.grow.old j hj⟩,by simp only[below];rw[if_pos (by omega)];exact hI.ores⟩ ?_;try clear zz
 clear s1 s2 s3 hI S H q;rintro S H ⟨s2,s3,hg,o2⟩;have hfz:=fun n h=>sx_frz n h (listM (wordM opDef::L3));generalize listM (wordM opDef::L3)=X at hP hfz;obtain⟨xk,xv,xl,xc,xt,xs⟩:=X;simp only[Sx.cells]at hP hfz⊢;repeat'(first|refine a_seq fun K hK=>?_|refine uR (uu s2 s3) ?_|apply zI)
 refine uU (uu s2 (uu s3 o2)) (hP _) ?_;repeat'(first|refine uT (uu s2 (uu s3 o2)) ?_|(refine uN hK ?_;clear hK)|apply zI)
 refine⟨?_,hg.set (Nat.le_refl _) _⟩;simp only[FrzTo];exact⟨_,rfl,hfz _ _⟩
def finP(F:Pb × Int):Pb × Int:=if F.2=0 then(if writeB F.1=true then(F.1,0)else(zeroPb,5))else(zeroPb,F.2)
def pbF(n:Sx)(l:List Sx):Pb × Int:=bif (namedP n opPrb).2==0 then(match l with
   |[]=>(pb0 (namedP n opPrb).1 ⟨#[]⟩,2)
   |d::rest2=>bif (namedP d opDom).2==0 then sectsP pbOrder (pb0 (namedP n opPrb).1 (namedP d opDom).1) rest2 else(pb0 (namedP n opPrb).1 ⟨#[]⟩,(namedP d opDom).2))
   else(pb0 ⟨#[]⟩ ⟨#[]⟩,(namedP n opPrb).2)
theorem goodT_some{x n:Sx}{l:List Sx}(h:goodT x=some (n,l)):(svalid x 0 0).1=true∧ ∃ w,headM x=some (w,n::l)∧bEq w opDef=true:=by
 unfold goodT goodD at h;split at h
 ·rename_i w n' l' hd;cases q:(bEq w opDef&&(svalid x 0 0).1)with
  |false=>rw[q]at h;simp at h
  |true=>
   rw[q]at h;simp only[cond_true,Option.some.injEq,Prod.mk.injEq]at h;obtain⟨rfl,rfl⟩:=h;rw[Bool.and_eq_true]at q;exact⟨q.2,w,hd,q.1⟩
 ·simp at h
theorem parsePb_bad{x:Sx}(h:goodT x=none):parsePb x=(zeroPb,2):=by
 unfold parsePb;split
 ·rename_i hv;have:(pbP x).2=2:=by
   unfold goodT goodD at h;unfold pbP;cases hd:headM x with
   |none=>rfl
   |some wr=>
    obtain⟨w,rest⟩:=wr;rw[hd]at h;simp only;cases q:bEq w opDef with
    |false=>rfl
    |true=>
     cases rest with
     |nil=>rfl
     |cons n l=>
      simp only[q,hv,Bool.and_true,cond_true]at h;cases h
  rw[if_neg (by rw[this];decide),this]
 ·rfl
theorem pbP_F{x n:Sx}{l:List Sx}(h:goodT x=some (n,l)):pbP x=pbF n l∧parsePb x=finP (pbF n l):=by
 obtain⟨hv,w,hd,hw⟩:=goodT_some h;have e:pbP x=pbF n l:=by
  unfold pbP pbF;rw[hd];simp only[hw,cond_true];cases l<;>rfl
 refine⟨e,?_⟩;unfold parsePb finP;rw[if_pos hv,e]
theorem finP_err{F:Pb × Int}{c:Int}(h:F.2=c)(hc:(c==0)=false):finP F=(zeroPb,c):=by
 subst h;unfold finP;rw[if_neg (by simpa using hc)]
theorem title_two{x n d:Sx}{l:List Sx}(hok:x.ok)(h:goodT x=some (n,d::l)):(listM [wordM opDef,d]).ok∧(listM [wordM opDef,d]).nodes≤bigN∧goodT (listM [wordM opDef,d])=some (d,[]):=by
 obtain⟨hv,w,hd,hw⟩:=goodT_some h;have hvi:=(svalid_iff x 0 0 (by omega) (by omega)).1.1 hv;have hs:=headM_shaped hvi.1 hd;have hnd:=headM_nodes hd;obtain⟨_,_,o3⟩:=headM_ok2 hok hd;simp only[Sx.nodess]at hnd;have hdd:(listM [wordM opDef,d]).depth≤x.depth:=by
  obtain⟨kind,value,line,col,text,kids⟩:=x;obtain⟨va,li,co,ks,rfl⟩:=headM_kids hd;have hk:kind=3:=by
   simp only[headM]at hd;split at hd
   ·rename_i hk;simpa using hk
   ·simp at hd
  subst hk;have e1:d.depth≤Sx.depths 0 (Sx.mk 1 va li co w ks::n::d::l):=Sx.depths_mem 0 (by simp);simp only[listM,Sx.depth,if_true,Sx.depths,wordM]at e1⊢;simp only[show(1:Int)=3↔False by decide,if_false]at e1⊢;have:=Sx.depths_le l (max (max (max 0 (Sx.depths 0 ks)) n.depth) d.depth);omega
 have hn2:(listM [wordM opDef,d]).nodes≤x.nodes:=by
  have e2:(wordM opDef).nodes=1:=rfl;simp only[listM,Sx.nodes,Sx.nodess,e2];omega
 refine⟨listM_okL (by simp[bigN]) ?_,by unfold bigN;omega,?_⟩
 ·intro y hy;simp only[List.mem_cons,List.not_mem_nil,or_false]at hy;rcases hy with rfl|rfl
  ·exact wordM_ok (by decide)
  ·exact o3 _ (by simp)
 ·have hsv:(svalid (listM [wordM opDef,d]) 0 0).1=true:=by
   refine(svalid_iff _ 0 0 (by omega) (by omega)).1.2 ⟨?_,by omega,by omega⟩;refine ss_list ?_;intro y hy;simp only[List.mem_cons,List.not_mem_nil,or_false]at hy;rcases hy with rfl|rfl
   ·exact ss_word (by decide)
   ·exact hs _ (by simp)
  unfold goodT;rw[headM_list,hsv];try rfl
theorem after_hit{w:ByteArray}: ∀ (o:List ByteArray)(j:Nat)(v:ByteArray),o[j]? =some v→bEq v w=true→afterB (o.drop j) w=some (o.drop (j+1))
 |o,j,v,hj,h=>by
  rw[drop_of_get hj];simp only[afterB,h,cond_true]
theorem after_miss{w:ByteArray}(o:List ByteArray)(j:Nat)(v:ByteArray)(hj:o[j]? =some v)(h:bEq v w=false):afterB (o.drop j) w=afterB (o.drop (j+1)) w:=by
 rw[drop_of_get hj];simp only[afterB,h,cond_false]
theorem frzL_of{n:Nat}{H:Heap}{a b:List PV}{c d:PV}(h:FrzTo n H (.tup [.agg a,c]) (.tup [.agg b,d])):FrzL n H a b:=by
 simp only[FrzTo]at h;obtain⟨l,e,h⟩:=h;simp only[PV.tup.injEq]at e;subst e;simp only[FrzL,FrzTo]at h;obtain⟨⟨l',e,h⟩,_⟩:=h;simp only[PV.agg.injEq]at e;subst e;exact h
theorem q10Parse_c{x:Sx}(hok:x.ok)(hnx:x.nodes≤bigN)(h:Heap):PCall Tryz.prog 15 [.agg x.cells] h fun r h'=>r= .tup [.agg (parsePb x).1.cells,iN (parsePb x).2]∧h'=h:=by
 refine PCall.frz Ty.hb_15 ?_;have hT:=tTitle_c (want:=opPrb) hok hnx;generalize hF:parsePb x=F;have bad: ∀ (c:Int)(h':Heap),Grow h h'→F=(zeroPb,c)→FrzTo h.next h' (.tup [.agg F.1.cells,iN F.2]) (.tup [.agg pbZ,.sc (.int .i64 c)])∧Grow h h':=by
  intro c h' hg hF;subst hF;refine⟨?_,hg⟩;simp only[iN,zeroPb,zeroFm,Pb.cells,Fm.cells,Ex.rows,Fm.rows,pmRows,strRows,atRows,vlRows,List.map_nil,List.cons_append,List.nil_append,FrzTo,FrzL];exact⟨_,rfl,⟨_,rfl,rfl,rfl,.inr (.inl ⟨rfl,.inr rfl⟩),.inr (.inl ⟨rfl,.inr rfl⟩),.inr (.inl ⟨rfl,.inr rfl⟩),rfl,rfl,.inr (.inl ⟨rfl,.inr rfl⟩),.inr (.inl ⟨rfl,.inr rfl⟩),.inr (.inl ⟨rfl,.inr rfl⟩),.inr (.inl ⟨rfl,.inr rfl⟩),trivial⟩,rfl,trivial⟩
 cases hG:goodT x with
 |none=>
  rw[hG]at hT;rw[parsePb_bad hG]at hF;simp only at hT;try clear zz
  clear hG;obtain⟨kind,value,line,col,text,kids⟩:=x;simp only[Sx.cells]at hT⊢;refine uG0 Tryz.func15 Tryz.ntmps15 Tryz.results15 Ty.hb_15 ?_;repeat'(first|refine a_seq fun K hK=>?_|refine uR trivial ?_|(refine uN hK ?_;clear hK)|apply zI)
  refine uU trivial (hT _) ?_;repeat'(first|refine a_seq fun K hK=>?_|refine uR trivial ?_|refine uT trivial ?_|(refine uN hK ?_;clear hK)|apply zI)
  exact bad 2 _ (((Grow.refl h).new _).set (Nat.le_refl _) _) hF.symm
 |some nr=>
  obtain⟨n,rest1⟩:=nr;rw[hG]at hT;simp only at hT;obtain⟨hPF,hPp⟩:=pbP_F hG;rw[hPp]at hF;obtain⟨hv,w0,hd0,hw0⟩:=goodT_some hG;have hvi:=(svalid_iff x 0 0 (by omega) (by omega)).1.1 hv;cases hcn:(namedP n opPrb).2==0 with
  |false=>
   have e:finP (pbF n rest1)=(zeroPb,(namedP n opPrb).2):=finP_err (by unfold pbF;rw[hcn];try rfl) hcn;rw[e]at hF;generalize namedP n opPrb=N at hT hcn hF;obtain⟨na,cn⟩:=N;simp only[iN]at hT hcn hF;have hbn:(cn !=0)=!(cn==0):=rfl;(try clear zz);clear hG hPF hPp hd0 hv hvi;obtain⟨kind,value,line,col,text,kids⟩:=x;simp only[Sx.cells]at hT⊢;refine uG0 Tryz.func15 Tryz.ntmps15 Tryz.results15 Ty.hb_15 ?_;(repeat'(first|refine a_seq fun K hK=>?_|refine uR trivial ?_|(refine uN hK ?_;clear hK)|apply zI));refine uU trivial (hT _) ?_;replace zz:=uu hbn (uu hcn @Bool.not_false);(repeat'(first|refine a_seq fun K hK=>?_|refine uR zz ?_|refine uT zz ?_|(refine uN hK ?_;clear hK)|apply zI));exact bad cn _ (((Grow.refl h).new _).set (Nat.le_refl _) _) hF.symm
  |true=>
   have hc0:(namedP n opPrb).2=0:=(by simpa using hcn);cases rest1 with
   |nil=>
    have e:finP (pbF n [])=(zeroPb,2):=finP_err (by unfold pbF;rw[hcn];try rfl) rfl;rw[e]at hF;rw[hc0]at hT;generalize(namedP n opPrb).1=na at hT;have hl0:(((Sx.rows []).length:Int)==0)=true:=rfl;generalize Sx.rows []=R at hT hl0;simp only[iN]at hT;(try clear zz);clear hG hPF hPp hd0 hv hvi;obtain⟨kind,value,line,col,text,kids⟩:=x;simp only[Sx.cells]at hT⊢;have hbn:((0:Int) !=0)=false:=rfl;refine uG0 Tryz.func15 Tryz.ntmps15 Tryz.results15 Ty.hb_15 ?_;(repeat'(first|refine a_seq fun K hK=>?_|refine uR trivial ?_|(refine uN hK ?_;clear hK)|apply zI));refine uU hbn (hT _) ?_;replace zz:=uu hbn hl0;(repeat'(first|refine a_seq fun K hK=>?_|refine uR zz ?_|refine uT zz ?_|refine uK ?_|refine uC1 zz ?_|(refine uN hK ?_;clear hK)|apply zI));exact bad 2 _ (((Grow.refl h).new _).set (Nat.le_refl _) _) hF.symm
   |cons d secs=>
    obtain⟨tok,tnd,tgd⟩:=title_two hok hG;have hT2:=tTitle_c (want:=opDom) tok tnd;rw[tgd]at hT2;simp only at hT2;rw[hc0]at hT;have hsm:x.small:=svalid_small hv;obtain⟨_,_,hsy,hss,hsl⟩:=sects_small hok hsm hd0;have hsh:=headM_shaped hvi.1 hd0;have hnd: ∀ y∈secs,y.nodes≤bigN:=by
     intro y hy;have h1:=headM_nodes hd0;have h2:=mem_nodes hy;simp only[Sx.nodess]at h1;unfold bigN;omega
    have hgd:=fun(hdm:((namedP d opDom).2==0)=true)(hc:(sectsP pbOrder (pb0 (namedP n opPrb).1 (namedP d opDom).1) secs).2=0)=>sects_good hvi.1 hd0 hcn hdm hc (fun o l p=>sectsP_names o l p);have hps:=pbP_small hok hv;rw[hPF]at hps;have hpbF:pbF n (d::secs)=bif (namedP d opDom).2==0 then sectsP pbOrder (pb0 (namedP n opPrb).1 (namedP d opDom).1) secs else(pb0 (namedP n opPrb).1 ⟨#[]⟩,(namedP d opDom).2):=by
     unfold pbF;rw[hcn];try rfl
    rw[hpbF]at hps hF;generalize(namedP n opPrb).1=na at hT hgd hps hF;have hl0:(((Sx.rows (d::secs)).length:Int)==0)=false:=(by rw[Sx.rows_len];simp;omega);have hll:((Sx.rows (d::secs)).length:Int)=(secs.length:Int)+1:=(by rw[Sx.rows_len];simp);have hr0:=Sx.rows_get (l:=d::secs) (i:=0) rfl;have hget: ∀ (k:Nat)(y:Sx),secs[k]? =some y→(Sx.rows (d::secs))[k+1]? =some y.cells:=fun k y hy=>Sx.rows_get (by simpa using hy);generalize Sx.rows (d::secs)=R at hT hl0 hll hr0 hget;have hT3: ∀ h:Heap,PCall Tryz.prog 37 [.agg [.sc (.int .i64 3),.sc (.int .i64 0),.sc (.int .i64 0),.sc (.int .i64 0),sPV ⟨#[]⟩,.imm 6 [[.sc (.int .i64 1),.sc (.int .i64 0),.sc (.int .i64 0),.sc (.int .i64 0),sPV opDef,.sc (.slice none 0 0)],d.cells]],sPV opDom] h fun r h'=>r= .tup [sPV (namedP d opDom).1,.imm 6 (Sx.rows []),iN (namedP d opDom).2]∧h'=h:=fun h=>
     PCall.nz (hT2 h) (nz_cons (nz_agg (nz_cons (Nz.refl _) (nz_cons (Nz.refl _) (nz_cons (Nz.refl _) (nz_cons (Nz.refl _) (nz_cons (Nz.refl _) (nz_cons (nz_imm (nzr_cons (nz_cons (Nz.refl _) (nz_cons (Nz.refl _) (nz_cons (Nz.refl _) (nz_cons (Nz.refl _) (nz_cons (Nz.refl _) (nz_cons nz_nil (NzL.refl []))))))) (nzr_cons (NzL.refl _) (NzR.refl [])))) (NzL.refl [])))))))) (nz_cons (Nz.refl _) (NzL.refl [])))
    (try clear zz);clear hT2 tok tnd tgd hG hPp hPF hpbF hd0 hv hvi hcn hc0;generalize namedP d opDom=N at hT3 hgd hps hF;obtain⟨da,cd⟩:=N;obtain⟨dk,dv,dl,dc,dt,ds⟩:=d;obtain⟨kind,value,line,col,text,kids⟩:=x;simp only[iN]at hT hT3 hgd hps hF;simp only[Sx.cells]at hT hr0 hT3⊢;have hbn:((0:Int) !=0)=false:=rfl;have hbd:(cd !=0)=!(cd==0):=rfl;cases hcd:cd==0 with
    |false=>
     rw[hcd]at hF;simp only[cond_false]at hF;rw[finP_err rfl hcd]at hF;simp only at hF;refine uG0 Tryz.func15 Tryz.ntmps15 Tryz.results15 Ty.hb_15 ?_;(repeat'(first|refine a_seq fun K hK=>?_|refine uR trivial ?_|(refine uN hK ?_;clear hK)|apply zI));refine uU hbn (hT _) ?_;replace zz:=uu hbn (uu hl0 hr0);(repeat'(first|refine a_seq fun K hK=>?_|refine uR zz ?_|refine uK ?_|refine uC1 zz ?_|(refine uN hK ?_;clear hK)|apply zI));refine uU hr0 (hT3 _) ?_;replace zz:=uu hbd (uu hcd @Bool.not_false);(repeat'(first|refine a_seq fun K hK=>?_|refine uR zz ?_|refine uT zz ?_|(refine uN hK ?_;clear hK)|apply zI));exact bad cd _ (((Grow.refl h).new _).set (Nat.le_refl _) _) hF.symm
    |true=>
     have hgd:=hgd hcd;rw[hcd]at hps hF;simp only[cond_true]at hps hF;generalize hE:sectsP pbOrder (pb0 na da) secs=E at hgd hps hF;have hI0:PbI (h.new (.arr 11 [pbZ])) (h.next+1) (pb0 na da) (((h.new (.arr 11 [pbZ])).new (.arr 11 [pbZ])).set (h.next+1) (.arr 11 [[sPV na,sPV da,.sc (.slice none 0 0),.sc (.slice none 0 0),.sc (.slice none 0 0),.sc (.string ⟨#[97,110,100]⟩),.sc (.string ⟨#[]⟩),.sc (.slice none 0 0),.sc (.slice none 0 0),.sc (.slice none 0 0),.sc (.slice none 0 0)]])):=
      ⟨((Grow.refl _).new _).set (Nat.le_refl _) _,⟨Nat.le_refl _,by simp[Heap.set,Heap.new]⟩,.sc (.slice none 0 0),.sc (.slice none 0 0),.sc (.slice none 0 0),.sc (.slice none 0 0),.sc (.slice none 0 0),.sc (.slice none 0 0),.sc (.slice none 0 0),opAnd,⟨#[]⟩,[],[],[],[],rfl,by simp[Heap.set,pb0,opAnd],.inr ⟨rfl,rfl⟩,Tl.nil,Tl.nil,.inr ⟨rfl,rfl⟩,.inr ⟨rfl,rfl⟩,.inr ⟨rfl,rfl⟩,.inr ⟨rfl,rfl⟩⟩
     refine uG0 Tryz.func15 Tryz.ntmps15 Tryz.results15 Ty.hb_15 ?_;(repeat'(first|refine a_seq fun K hK=>?_|refine uR trivial ?_|(refine uN hK ?_;clear hK)|apply zI));refine uU hbn (hT _) ?_;replace zz:=uu hbn (uu hl0 hr0);(repeat'(first|refine a_seq fun K hK=>?_|refine uR zz ?_|refine uK ?_|refine uC1 zz ?_|(refine uN hK ?_;clear hK)|apply zI));refine uU hr0 (hT3 _) ?_;replace zz:=uu hbd (uu hcd (uu @Bool.not_true @nsucc));(repeat'(first|with_reducible refine a_holdR 10 ?_|refine a_seq fun K hK=>?_|refine uR zz ?_|refine uK ?_|refine uC1 zz ?_|(refine uN hK ?_;clear hK)|apply zI));refine⟨?_⟩;refine a_gen (fun S H=>S 2= .ptr h.next 0 0∧S 5= .imm 6 R∧S 9= .ptr (h.next+1) 0 0∧PbI (h.new (.arr 11 [pbZ])) (h.next+1) (pb0 na da) H) ⟨by simp only[Ty.w,simprocAttr],by simp only[Ty.w,simprocAttr],by simp only[Ty.w,simprocAttr],hI0⟩ ?_;(try clear zz);clear hI0 hT hT3 hl0 hr0;rintro S H ⟨s2,s5,s9,hI⟩;have hlo:((strRows pbOrder).length:Int)=3:=rfl;have hgo: ∀ (j:Nat)(v:ByteArray),pbOrder[j]? =some v→(strRows pbOrder)[j]? =some [sPV v]:=fun j v hv=>strRows_get hv;(repeat'(first|refine a_seq fun K hK=>?_|refine a_block ?_|refine uR (uu s2 (uu s5 s9)) ?_|(refine uN hK ?_;clear hK)|apply zI));refine a_loop (fun m S h'=>S 2= .ptr h.next 0 0∧S 5= .imm 6 R∧S 9= .ptr (h.next+1) 0 0∧S 10= .imm 1 (strRows pbOrder)∧ ∃ (k a:Nat)(p:Pb),S 12= .sc (.int .i64 ((k+1:Nat):Int))∧S 11= .sc (.int .i64 ((a:Int)-1))∧a≤3∧k≤secs.length∧m=secs.length-k∧
      PbI (h.new (.arr 11 [pbZ])) (h.next+1) p h'∧p.init.length≤k*1048576∧p.values.length≤k*1048576∧E=sectsP (pbOrder.drop a) p (secs.drop k)) secs.length ?_ ?_
     ·simp only[Ty.w,simprocAttr,s2,s5,s9];exact⟨rfl,0,0,pb0 na da,rfl,rfl,by omega,Nat.zero_le _,rfl,hI,by simp[pb0],by simp[pb0],by rw[List.drop_zero,List.drop_zero];exact hE.symm⟩
     generalize strRows pbOrder=RO at hlo hgo;(try clear zz);clear hI hE s2 s5 s9 S H;rintro m S h' ⟨s2,s5,s9,s10,k,a,p,s12,s11,ha3,hk,rfl,hI,hi1,hi2,hinv⟩;by_cases hlt:k<secs.length
     ·have hdk:decide (((k+1:Nat):Int)<(secs.length:Int)+1)=true:=(by simp;omega);have w12:IntKind.i64.wrap (((k+1:Nat):Int)+1)=((k+1+1:Nat):Int):=(by rw[wrap64 (by omega) (by omega)];omega);have wa:IntKind.i64.wrap ((a:Int)-1+1)=(a:Int):=(by rw[wrap64 (by omega) (by omega)];omega);obtain⟨y,hx⟩: ∃ y,secs[k]? =some y:=⟨_,List.getElem?_eq_getElem hlt⟩;have hr:=hget _ _ hx;have hmem:=List.mem_of_getElem? hx;have hyo:=hsy y hmem;have hys:=hss y hmem;have hyn:=hnd y hmem;have hch:=qhead_c hyo;have hmo:=fun w l=>headM_ok2 hyo (w:=w) (l:=l);have hms:=fun w l=>headM_small hys (w:=w) (l:=l);have hmn:=fun w l=>headM_nodes (x:=y) (w:=w) (l:=l);rw[drop_of_get hx,sectsP]at hinv;(try clear zz);clear hyo hys hx hmem;obtain⟨ki,va,li,co,te,ks⟩:=y;have hkd:=fun w l=>headM_kids (kind:=ki) (value:=va) (line:=li) (col:=co) (text:=te) (kids:=ks) (w:=w) (rest:=l);simp only[Sx.cells]at hr hch;generalize headM (.mk ki va li co te ks)=Y at hinv hch hmo hms hmn hkd;obtain⟨w,ok,e1,e2⟩: ∃ (w:ByteArray)(ok:Bool),hdV Y= .tup [sPV w,.sc (.bool ok)]∧((ok=false∧Y=none)∨ ∃ rest,ok=true∧Y=some (w,rest)):=by
       cases Y with
       |none=>exact⟨_,_,rfl,.inl ⟨rfl,rfl⟩⟩
       |some wr=>exact⟨wr.1,true,rfl,.inr ⟨wr.2,rfl,rfl⟩⟩
      rw[e1]at hch;(try clear zz);clear e1;replace zz:=uu s2 (uu s5 (uu s9 (uu s10 (uu s11 (uu s12 (uu hll (uu hdk hr)))))));(repeat'(first|refine a_seq fun K hK=>?_|refine uR zz ?_|refine uK ?_|refine uC1 zz ?_|(refine uN hK ?_;clear hK)|apply zI));refine uU (uu s5 (uu s12 hr)) (hch _) ?_;replace zz:=uu s2 (uu s5 (uu s9 (uu s10 (uu s11 (uu s12 wa)))));(repeat'(first|refine a_seq fun K hK=>?_|refine a_block ?_|refine uR zz ?_|(refine uN hK ?_;clear hK)|apply zI));refine a_loop (fun m2 S h2=>h2=h'∧S 2= .ptr h.next 0 0∧S 5= .imm 6 R∧S 9= .ptr (h.next+1) 0 0∧S 10= .imm 1 RO∧S 12= .sc (.int .i64 ((k+1:Nat):Int))∧S 13=sPV w∧S 14= .sc (.bool ok)∧ ∃ j:Nat,S 15= .sc (.int .i64 j)∧j≤3∧m2=3-j∧afterB (pbOrder.drop a) w=afterB (pbOrder.drop j) w) (3-a) ?_ ?_
      ·simp only[Ty.w,simprocAttr,s2,s5,s9,s10,s12];exact⟨a,rfl,ha3,rfl,rfl⟩
      (try clear zz);clear s2 s5 s9 s10 s11 s12 hch S;rintro m2 S h2 ⟨rfl,s2,s5,s9,s10,s12,s13,s14,j,s15,hj3,rfl,haf⟩;have hbnot: ∀ b:Bool,(!b)=!b:=fun _=>rfl;obtain⟨g,idl,o,i,v,g2,g3,g4,g5,gop,gna,gar,gpa,gex,gki,f1,fo,f3,f4,f5,f6⟩:=hI;have o1:h2.obj h.next=some (.arr 11 [pbZ]):=by rw[g.old _ (Nat.lt_succ_self _)];simp[Heap.new]
      have hgh:Grow h h2:=((Grow.refl h).new _).trans g;have hI:PbI (h.new (.arr 11 [pbZ])) (h.next+1) p h2:=⟨g,idl,o,i,v,g2,g3,g4,g5,gop,gna,gar,gpa,gex,gki,f1,fo,f3,f4,f5,f6⟩;(try clear zz);clear g idl f1 fo f3 f4 f5 f6 hbnot;have hend: ∀ c:Int,(c==0)=false→E.2=c→F=(zeroPb,c):=fun c h1 h2=>(by rw[← hF];exact finP_err h2 h1);by_cases hj:j<3
      ·have dj:decide ((j:Int)<3)=true:=(by simp;omega);have wj:IntKind.i64.wrap ((j:Int)+1)=((j+1:Nat):Int):=(by rw[wrap64 (by omega) (by omega)];omega);have bj:((j:Int)==3)=false:=(by simp;omega);obtain⟨v,hvj⟩: ∃ v,pbOrder[j]? =some v:=⟨_,List.getElem?_eq_getElem (by simp[pbOrder];omega)⟩;have hrj:=hgo j v hvj;cases q:(v.data.toList==w.data.toList)with
       |false=>
        replace zz:=uu s2 (uu s5 (uu s9 (uu s10 (uu s12 (uu s13 (uu s14 (uu s15 (uu hlo (uu dj (uu hrj (uu q (uu wj (uu @Bool.not_false @Bool.not_true)))))))))))));(repeat'(first|refine a_seq fun K hK=>?_|refine a_block ?_|refine uR zz ?_|refine uQ zz fun K hK=>?_|refine uK ?_|refine uC1 zz ?_|(refine uN hK ?_;clear hK)|apply zI));exact⟨3-(j+1),by omega,trivial,s2,s5,s9,s10,s12,s13,s14,j+1,rfl,by omega,rfl,haf.trans (after_miss pbOrder j v hvj q)⟩
       |true=>
        have hit:=haf.trans (after_hit pbOrder j v hvj q);rcases e2 with⟨rfl,rfl⟩|⟨rest,rfl,rfl⟩
        ·simp only at hinv;replace zz:=uu s2 (uu s5 (uu s9 (uu s10 (uu s12 (uu s13 (uu s14 (uu s15 (uu hlo (uu dj (uu hrj (uu q (uu bj (uu @Bool.not_false (uu @Bool.not_true o1))))))))))))));(repeat'(first|refine a_seq fun K hK=>?_|refine uR zz ?_|refine uT zz ?_|refine uX ?_|refine uC1 zz ?_|(refine uN hK ?_;clear hK)|(clear hK;refine uN hK ?_;clear hK)|apply zI));exact bad 2 _ (hgh.set (Nat.le_refl _) _) (hend 2 rfl (by rw[hinv]))
        ·simp only at hinv;rw[hit]at hinv;simp only at hinv;obtain⟨_,_,mo⟩:=hmo w rest rfl;obtain⟨ml,ms⟩:=hms w rest rfl;have mn:=hmn w rest rfl;obtain⟨yv,yl,yc,yk,rfl⟩:=hkd w rest rfl;have hk2:List.take ((rest.length:Int)+1-1).toNat (List.drop 1 (Sx.rows (Sx.mk 1 yv yl yc w yk::rest)))=Sx.rows rest:=by
          simp only[Sx.rows,List.drop_succ_cons,List.drop_zero];rw[List.take_of_length_le (by rw[Sx.rows_len];omega)]
         have hl2:((Sx.rows (Sx.mk 1 yv yl yc w yk::rest)).length:Int)=(rest.length:Int)+1:=(by rw[Sx.rows_len];simp);have q3:(1:Int)≤(rest.length:Int)+1:=(by omega);have hse:=fun(H:Heap)(hI:PbI (h.new (.arr 11 [pbZ])) (h.next+1) p H)=>rsection_c (w:=w) ml mo ms (fun z hz=>by have:=mem_nodes hz;unfold bigN at hyn⊢;omega) (by omega) (by omega) H hI;have hsc:=sectP_len p w rest;generalize Sx.rows (Sx.mk 1 yv yl yc w yk::rest)=R2 at hr hk2 hl2;generalize sectP p w rest=W at hinv hse hsc;obtain⟨p2,c⟩:=W;simp only[iN]at hinv hse hsc;have hbc:(c !=0)=!(c==0):=rfl;(try clear zz);clear hmo hms hmn hkd hit haf;replace zz:=uu s2 (uu s5 (uu s9 (uu s10 (uu s12 (uu s13 (uu s14 (uu s15 (uu hlo (uu dj (uu hrj (uu q (uu bj (uu @Bool.not_false (uu @Bool.not_true (uu hr (uu hk2 (uu hl2 (uu q3 (uu @Int.le_refl @Int.toNat_one)))))))))))))))))));(repeat'(first|refine a_seq fun K hK=>?_|refine uR zz ?_|refine uK ?_|refine uX ?_|refine uC1 zz ?_|(refine uN hK ?_;clear hK)|(clear hK;refine uN hK ?_;clear hK)|apply zI));refine owp_useL (hse _ hI) (by simp only[Ty.w,simprocAttr,s9,s13];try rfl) ?_;rintro r h3 ⟨rfl,hI2⟩;(try clear zz);clear hI hse o1 hgh;simp(maxSteps:=2000000) only[Ty.w,simprocAttr,Ty.all];cases hcc:c==0 with
         |false=>
          rw[hcc]at hinv;simp only[cond_false]at hinv;obtain⟨g,idl,o,i,v,g2,g3,g4,g5,gop,gna,gar,gpa,gex,gki,f1,fo,f3,f4,f5,f6⟩:=hI2;have o1:h3.obj h.next=some (.arr 11 [pbZ]):=by rw[g.old _ (Nat.lt_succ_self _)];simp[Heap.new]
          replace zz:=uu s2 (uu hbc (uu hcc (uu @Bool.not_false o1)));(repeat'(first|refine a_seq fun K hK=>?_|refine uR zz ?_|refine uT zz ?_|(refine uN hK ?_;clear hK)|apply zI));exact bad c _ ((((Grow.refl h).new _).trans g).set (Nat.le_refl _) _) (hend c hcc (by rw[hinv]))
         |true=>
          rw[hcc]at hinv;simp only[cond_true]at hinv;replace zz:=uu s2 (uu s5 (uu s9 (uu s10 (uu s12 (uu s15 (uu hbc (uu hcc (uu @Bool.not_true w12))))))));(repeat'(first|refine a_seq fun K hK=>?_|refine a_block ?_|refine uR zz ?_|refine uK ?_|(refine uN hK ?_;clear hK)|apply zI));exact⟨secs.length-(k+1),by omega,k+1,j+1,p2,rfl,by simp,by omega,by omega,rfl,hI2,by omega,by omega,hinv⟩
      ·have hj3':j=3:=(by omega);subst hj3';have dj:decide (((3:Nat):Int)<3)=false:=rfl;have bj:(((3:Nat):Int)==3)=true:=rfl;have hE2:E.2=2:=by
        rcases e2 with⟨_,rfl⟩|⟨rest,_,rfl⟩
        ·simp only at hinv;rw[hinv]
        ·simp only at hinv;rw[haf]at hinv;rw[hinv];try rfl
       cases ok with
       |false=>
        replace zz:=uu s2 (uu s5 (uu s9 (uu s10 (uu s12 (uu s13 (uu s14 (uu s15 (uu hlo (uu dj (uu bj (uu @Bool.not_false (uu @Bool.not_true o1))))))))))));(repeat'(first|refine a_seq fun K hK=>?_|refine uR zz ?_|refine uT zz ?_|refine uX ?_|refine uC1 zz ?_|(refine uN hK ?_;clear hK)|(clear hK;refine uN hK ?_;clear hK)|apply zI));exact bad 2 _ (hgh.set (Nat.le_refl _) _) (hend 2 rfl hE2)
       |true=>
        replace zz:=uu s2 (uu s5 (uu s9 (uu s10 (uu s12 (uu s13 (uu s14 (uu s15 (uu hlo (uu dj (uu bj (uu @Bool.not_false (uu @Bool.not_true o1))))))))))));(repeat'(first|refine a_seq fun K hK=>?_|refine uR zz ?_|refine uT zz ?_|refine uX ?_|refine uC1 zz ?_|(refine uN hK ?_;clear hK)|(clear hK;refine uN hK ?_;clear hK)|apply zI));exact bad 2 _ (hgh.set (Nat.le_refl _) _) (hend 2 rfl hE2)
     ·have hdk:decide (((k+1:Nat):Int)<(secs.length:Int)+1)=false:=(by simp;omega);rw[show secs.drop k=[]from List.drop_eq_nil_of_le (by omega)]at hinv;simp only[sectsP]at hinv;subst hinv;obtain⟨hpo,hpsm⟩:=hps;obtain⟨hex,hgv⟩:=hgd rfl;have hW:=writeB_p hex hgv;have hQ:=fun h:Heap=>qproblem_c hpo hpsm hex (validF_shaped hgv) h;have hV:=rvalidS_c (pbW_ok hpo hpsm hgv) (pbW_nodesS hpsm hgv).1 (pbW_nodesS hpsm hgv).2;rw[← hW]at hV;(try clear zz);clear hex hgv hpo hpsm hW hgd;have hfz: ∀ n hh,FrzL n hh p.cells p.cells:=fun n hh=>by
       obtain⟨pn,pd,po,pi,pv,g⟩:=p;obtain⟨gop,gna,gar,gpa,gex,gki⟩:=g;simp only[Pb.cells,Fm.cells,List.cons_append,List.nil_append,FrzL,FrzTo,true_and,and_true];exact⟨.inl (pms_in _ _),.inl (ats_in _ _),.inl (vls_in _ _),.inl (strs_in _ _),.inl (pms_in _ _),.inl (exs_in _ _),.inl (fms_in _ _)⟩
      obtain⟨g,idl,o,i,v,g2,g3,g4,g5,gop,gna,gar,gpa,gex,gki,e1,eo,e3,e4,e5,e6⟩:=hI;have hfr:=frzL_of (PbI.frz (n:=h.next+1) (c:=0) (Nat.le_refl _) e1 e3 e4 e5 e6 ⟨_,rfl⟩);have o1:h'.obj h.next=some (.arr 11 [pbZ]):=by rw[g.old _ (Nat.lt_succ_self _)];simp[Heap.new]
      have hgh:Grow h h':=((Grow.refl h).new _).trans g;replace zz:=uu s2 (uu s5 (uu s9 (uu s10 (uu s11 (uu s12 (uu hll hdk))))));(repeat'(first|with_reducible refine a_holdR 25 ?_|refine a_seq fun K hK=>?_|refine uR zz ?_|refine uX ?_|refine uC1 zz ?_|(refine uN hK ?_;clear hK)|(clear hK;refine uN hK ?_;clear hK)|apply zI));refine⟨?_⟩;refine a_drop (h.next+1) [(9,.cptr p.cells)] rfl g.le ?_ ?_
      ·intro x hx;simp only[List.mem_cons,List.not_mem_nil,or_false]at hx;subst hx;show FrzTo (h.next+1) _ _ (S 9);rw[s9];simp only[FrzTo];exact .inr ⟨_,0,0,11,_,_,rfl,Nat.le_refl _,eo,rfl,hfr⟩
      refine a_gen (fun S H=>S 2= .ptr h.next 0 0∧S 9= .cptr p.cells∧Grow h H∧H.obj h.next=some (.arr 11 [pbZ])) ⟨by simp only[frzS,Ty.w,simprocAttr,s2],by simp only[frzS,Ty.w,simprocAttr],⟨hgh.le,fun j hj=>by simp only[below];rw[if_pos (by omega)];exact hgh.old j hj⟩,by simp only[below];rw[if_pos (by omega)];exact o1⟩ ?_;(try clear zz);clear s2 s5 s9 s10 s11 s12 g idl e1 eo e3 e4 e5 e6 hfr o1 hgh S h';rintro S H ⟨s2,s9,hg,o1⟩;generalize pbW p=X at hQ hV;obtain⟨xk,xv,xl,xc,xt,xs⟩:=X;cases hwb:writeB p with
      |false=>
       rw[hwb]at hV;have hX:finP (p,0)=(zeroPb,5):=by
        unfold finP;rw[if_pos rfl,if_neg (by rw[hwb];simp)]
       rw[hX]at hF;(try clear zz);clear hfz hX hwb;obtain⟨pn,pd,po,pi,pv,⟨gop,gna,gar,gpa,gex,gki⟩⟩:=p;simp only[Pb.cells,Fm.cells,List.cons_append,List.nil_append,Sx.cells]at hQ hV s9;(repeat'(first|refine a_seq fun K hK=>?_|refine uR (uu s2 s9) ?_|apply zI));refine uU (uu s2 s9) (hQ _) ?_;(try apply zI);refine uU (uu s2 (uu s9 @Bool.not_false)) (hV _) ?_;replace zz:=uu s2 (uu s9 (uu o1 @Bool.not_false));(repeat'(first|refine a_seq fun K hK=>?_|refine uR zz ?_|refine uT zz ?_|(refine uN hK ?_;clear hK)|apply zI));exact bad 5 _ (hg.set (Nat.le_refl _) _) hF.symm
      |true=>
       rw[hwb]at hV;have hX:finP (p,0)=(p,0):=by
        unfold finP;rw[if_pos rfl,if_pos hwb]
       rw[hX]at hF;subst hF;(try clear zz);clear hX hwb bad;obtain⟨pn,pd,po,pi,pv,⟨gop,gna,gar,gpa,gex,gki⟩⟩:=p;simp only[Pb.cells,Fm.cells,List.cons_append,List.nil_append,Sx.cells]at hQ hV s9 hfz⊢;(repeat'(first|refine a_seq fun K hK=>?_|refine uR (uu s2 s9) ?_|apply zI));refine uU (uu s2 s9) (hQ _) ?_;(try apply zI);refine uU (uu s2 (uu s9 @Bool.not_true)) (hV _) ?_;replace zz:=uu s2 (uu s9 (uu o1 @Bool.not_true));(repeat'(first|refine a_seq fun K hK=>?_|refine uR zz ?_|refine uT zz ?_|refine uK ?_|refine uC1 zz ?_|(refine uN hK ?_;clear hK)|apply zI));refine⟨?_,hg.set (Nat.le_refl _) _⟩;simp only[iN,FrzTo];exact⟨_,rfl,by simp only[FrzL,FrzTo,and_true,true_and];exact⟨_,rfl,hfz _ _⟩⟩
set_option maxHeartbeats 2000000
theorem fnum_c{h:Heap}{n:Int}:PCall Tryz.prog 16 [errV n] h fun r h'=>r= .sc (.int .i64 n)∧h'=h:=by
 unfold errV;refine uG0 Tryz.func16 Tryz.ntmps16 Tryz.results16 Ty.hb_16 ?_;repeat'(first|refine a_seq fun K hK=>?_|refine uR trivial ?_|refine uT trivial ?_|refine uK ?_|refine uC1 trivial ?_|(refine uN hK ?_;clear hK)|apply zI)
 all_goals rfl
theorem fnum_nil_c{h:Heap}:PCall Tryz.prog 16 [.sc .nilIface] h fun r h'=>r= .sc (.int .i64 0)∧h'=h:=by
 refine uG0 Tryz.func16 Tryz.ntmps16 Tryz.results16 Ty.hb_16 ?_;repeat'(first|refine a_seq fun K hK=>?_|refine uR trivial ?_|refine uT trivial ?_|(refine uN hK ?_;clear hK)|apply zI)
 all_goals rfl
set_option maxHeartbeats 1000000
def sxTs:List TypeId:=[36,3,9,34]
theorem partsSx:partsT Tryz.prog 36=[(0,3),(1,3),(2,3),(3,3),(4,9),(5,34)]:=by kernel_rfl
theorem coStr:Tryz.prog.cellsOf 9=1:=by kernel_rfl
theorem coInt:Tryz.prog.cellsOf 3=1:=by kernel_rfl
theorem coSxs:Tryz.prog.cellsOf 34=1:=by kernel_rfl
theorem coSx:Tryz.prog.cellsOf 36=6:=by kernel_rfl
theorem bySx:Tryz.prog.bytesOf 36=72:=by kernel_rfl
theorem arg_sx: ∀ (c:Nat){ps:List PV},Arg Tryz.prog c 36 ps→ ∃ x:Sx,x.ok∧ps=x.cells:=by
 have str: ∀ {c:Nat}{ps:List PV},Arg Tryz.prog c 9 ps→ ∃ s:ByteArray,s.size≤bigN∧ps=[sPV s]:=by
  intro c ps h;cases c with
  |zero=>simp[Arg]at h
  |succ c=>
   unfold Arg at h;rw[Tryz.underlying9]at h;obtain⟨s,h1,h2⟩:=h;exact⟨s,by unfold reachBytes at h1;unfold bigN;omega,h2⟩
 have int: ∀ {c:Nat}{ps:List PV},Arg Tryz.prog c 3 ps→ ∃ n:Int,(-9223372036854775808≤n∧n≤9223372036854775807)∧ps=[.sc (.int .i64 n)]:=by
  intro c ps h;cases c with
  |zero=>simp[Arg]at h
  |succ c=>
   obtain⟨n,h1,h2⟩:=Arg_int Tryz.underlying3 h;exact⟨n,i64_in h1,h2⟩
 intro c
 induction c using Nat.strongRecOn with
 |_ c ih=>
  intro ps h;cases c with
  |zero=>simp[Arg]at h
  |succ c=>
   obtain⟨h1,h2⟩:=Arg_struct Tryz.underlying36 h;rw[coSx]at h1;rw[partsSx]at h2
   match ps,h1,h2 with
   |[p0,p1,p2,p3,p4,p5],_,h2=>
    have a0:=h2 (0,3) (by simp);have a1:=h2 (1,3) (by simp);have a2:=h2 (2,3) (by simp);have a3:=h2 (3,3) (by simp);have a4:=h2 (4,9) (by simp);have a5:=h2 (5,34) (by simp);simp only[coStr,coInt,coSxs,List.drop_zero,List.drop_succ_cons,List.take_succ_cons,List.take_zero]at a0 a1 a2 a3 a4 a5;obtain⟨kind,hk,e0⟩:=int a0;obtain⟨value,hv,e1⟩:=int a1;obtain⟨line,_,e2⟩:=int a2;obtain⟨col,_,e3⟩:=int a3;obtain⟨text,ht,e4⟩:=str a4;cases c with
    |zero=>simp[Arg]at a5
    |succ c=>
     obtain⟨rows,e5,h3,_,h4⟩:=Arg_slice Tryz.underlying34 a5;obtain⟨xs,rfl,h5⟩:=rows_map (Q:=Sx.ok) (f:=Sx.cells) rows (fun r hr=>ih c (by omega) (h4 r hr).2);rw[coSx]at e5;simp at e0 e1 e2 e3 e4 e5;refine⟨.mk kind value line col text xs,?_,?_⟩
     ·simp only[Sx.ok];refine⟨hk,hv,ht,?_,Sx.oks_iff.2 h5⟩;rw[bySx,List.length_map]at h3;unfold reachBytes at h3;unfold bigN;omega
     ·simp only[Sx.cells,e0,e1,e2,e3,e4,e5,Sx.rows_map]
end Go.Proofs.YtjeolbgpllbemaaGreat
namespace Go.AM
mutual
theorem Sx.nodes_bulk: ∀ x:Sx,x.nodes≤PV.bulkL x.cells
 | .mk kind value line col text kids=>by
  have:=Sx.nodess_bulk kids;simp only[Sx.nodes,Sx.cells,PV.bulkL,PV.bulk];omega
theorem Sx.nodess_bulk: ∀ l:List Sx,Sx.nodess l≤PV.bulkR (Sx.rows l)
 |[]=>by simp[Sx.nodess]
 |k::l=>by
  have h1:=Sx.nodes_bulk k;have h2:=Sx.nodess_bulk l;simp only[Sx.nodess,Sx.rows,PV.bulkR];omega
end
end Go.AM
namespace Go.Proofs.YtjeolbgpllbemaaGreat
open Go.AM
set_option maxHeartbeats 4000000
set_option maxRecDepth 20000
theorem errP_sc(c:Int): ∃ v,errP c= .sc v∧ ∀ h:Heap,PCall Tryz.prog 16 [.sc v] h fun r h'=>r= .sc (.int .i64 c)∧h'=h:=by
 unfold errP;cases hc:c==0 with
 |true=>
  refine⟨_,rfl,fun h=>?_⟩;have:c=0:=by simpa using hc
  subst this;exact fnum_nil_c
 |false=>exact⟨_,rfl,fun h=>fnum_c⟩
end Go.Proofs.YtjeolbgpllbemaaGreat
namespace Go.AM
section
variable {P:Program}{f:FuncId}{z:Nat}{h:Heap}{K:PV→Heap→Prop}
theorem RepL.nil_split{β:Env}{n:Nat}{F:Nat→Prop}{w:World}{z:Nat}: ∀ {pre post:List PV}{vals:List Value},RepL β n F w (pre++ .imm z []::post) vals→ ∃ a cap,RepL β n F w (pre++ .sc (.slice a 0 cap)::post) vals
 |[],post,[],h=>by simp[RepL]at h
 |[],post,v::vals,h=>by
  simp only[List.nil_append,RepL,Rep]at h⊢;obtain⟨⟨a,cap,hv,_⟩,h2⟩:=h;exact⟨a,cap,by simpa using hv,h2⟩
 |p::pre,post,[],h=>by simp[RepL]at h
 |p::pre,post,v::vals,h=>by
  simp only[List.cons_append,RepL]at h⊢;obtain⟨a,cap,hx⟩:=RepL.nil_split h.2;exact⟨a,cap,h.1,hx⟩
theorem PCall.nil_split{pre post:List PV}(h0: ∀ a cap,PCall P f (pre++ .sc (.slice a 0 cap)::post) h K):PCall P f (pre++ .imm z []::post) h K:=by
 intro β w vals sm hr;obtain⟨a,cap,hx⟩:=RepL.nil_split hr;exact h0 a cap β w vals sm hx
theorem PCall.nil1(h0: ∀ a cap,PCall P f [.sc (.slice a 0 cap)] h K):PCall P f [.imm z []] h K:=PCall.nil_split (pre:=[]) (post:=[]) h0
theorem peq_none(c:Bool)(cap:Nat):peq 5 c (.sc (.slice none 0 cap)) (.sc (.slice none 0 0))=some true:=rfl
theorem peq_some(c:Bool)(x:Addr)(cap:Nat):peq 5 c (.sc (.slice (some x) 0 cap)) (.sc (.slice none 0 0))=some false:=rfl
theorem view_some(h:Heap)(x:Option Addr)(cap:Nat):view h (.sc (.slice x 0 cap))=some []:=by
 unfold view;split<;>first|rfl|(simp_all;done)|(simp_all)
theorem zOk_some(h:Heap)(z:Nat)(x:Option Addr)(cap:Nat):zOk h z (.sc (.slice x 0 cap))=true:=by
 unfold zOk;split<;>first|rfl|(simp_all;done)|(simp_all)
end
end Go.AM
namespace Go.Proofs.YtjeolbgpllbemaaGreat
open Go.AM
set_option maxHeartbeats 2000000
set_option maxRecDepth 20000
theorem cloneS_c{l:List ByteArray}(hl:l.length≤1099511627776)(h:Heap):PCall Tryz.prog 53 [.imm 1 (strRows l)] h fun r h'=>Grow h h'∧Tl h' h.next 1 r (strRows l):=by
 have hll:=strRows_len l;cases l with
 |nil=>
  have e0:strRows []=[]:=rfl;rw[e0];refine PCall.nil1 fun a cap=>?_;cases a with
  |none=>
   refine uG0 Tryz.func53 Tryz.ntmps53 Tryz.results53 Ty.hb_53 ?_;(repeat'(first|refine a_seq fun K hK=>?_|((first|refine a_regionS ?_|refine a_ret ?_);simp(maxSteps:=2000000) only[Ty.w,simprocAttr,peq_none])|(refine hK _ _ ?_;clear hK;(try simp only[pst0,simprocAttr]))));exact⟨Grow.refl _,Tl.nil⟩
  |some x=>
   refine uG0 Tryz.func53 Tryz.ntmps53 Tryz.results53 Ty.hb_53 ?_;(repeat'(first|refine a_seq fun K hK=>?_|((first|refine a_regionS ?_|refine a_ret ?_);simp(maxSteps:=2000000) only[Ty.w,simprocAttr,peq_some,view_some,zOk_some])|(refine a_skip ?_;(try simp only[pst0,simprocAttr]))|(refine a_cond _ (by(try simp(maxSteps:=2000000) only[Ty.w,simprocAttr,peq_some,view_some,zOk_some]);rfl) (fun hb=>?_) (fun hb=>?_)<;>(try simp only[hb0,decide_eq_true_eq,decide_eq_false_iff_not,simprocAttr]at hb)<;>(try(exfalso;omega)))|(refine hK _ _ ?_;clear hK;(try simp only[pst0,simprocAttr]))));exact⟨(Grow.refl h).new _,Tl.grow (Nat.le_refl _) rfl⟩
 |cons x l=>
  have h0:(0<(strRows (x::l)).length)=True:=by rw[hll];simp
  have hb:((x::l).length)*16≤140737488355328:=by omega
  have hz:0+(strRows (x::l)).length=(x::l).length:=by omega
  generalize strRows (x::l)=R at hll h0 hz;refine uG0 Tryz.func53 Tryz.ntmps53 Tryz.results53 Ty.hb_53 ?_;replace zz:=uu h0 (uu hll hb);repeat'(first|refine a_seq fun K hK=>?_|refine uR zz ?_|refine uT zz ?_|refine uK ?_|refine uC1 zz ?_|(refine uN hK ?_;clear hK)|(rw[if_pos];rotate_left 1;omega;simp(maxSteps:=2000000) only[Ty.w,simprocAttr,h0,hll,hb])|apply zI)
  exact⟨(Grow.refl h).new _,Tl.grow (Nat.le_refl _) (by simp[hll])⟩
theorem cloneS_q{l:List ByteArray}(hl:l.length≤1099511627776)(h:Heap):PCall Tryz.prog 53 [.imm 1 (strRows l)] h fun r h'=>r= .imm 1 (strRows l)∧h'=h:=by
 refine PCall.frz Ty.hb_53 ((cloneS_c hl h).mono ?_);rintro r h' ⟨hg,tl⟩;exact⟨tl_frzS tl,hg⟩
end Go.Proofs.YtjeolbgpllbemaaGreat
namespace Go.Proofs.YtjeolbgpllbemaaGreat
open Go.AM
set_option maxHeartbeats 8000000
set_option maxRecDepth 20000
theorem alen64_c(h:Heap):PCall Tryz.prog 129 [.sc (.int .u64 1)] h fun r h'=>(∃ l:Int,r= .sc (.int .i64 l))∧h'=h:=by
 have d1:decide ((1:Int)≥4294967296)=false:=rfl;have d2:decide ((1:Int)≥65536)=false:=rfl;have d3:decide ((1:Int)≥256)=false:=rfl;refine uG0 Tryz.func129 Tryz.ntmps129 Tryz.results129 Ty.hb_129 ?_;replace zz:=uu d1 (uu d2 d3);repeat'(first|refine a_seq fun K hK=>?_|refine uR zz ?_|refine uT zz ?_|refine uK ?_|refine uC1 zz ?_|(refine uN hK ?_;clear hK)|apply zI)
 exact⟨_,rfl⟩
theorem alen_c(h:Heap):PCall Tryz.prog 93 [.sc (.int .u64 1)] h fun r h'=>(∃ l:Int,r= .sc (.int .i64 l))∧h'=h:=by
 refine uG0 Tryz.func93 Tryz.ntmps93 Tryz.results93 Ty.hb_93 ?_;repeat'(first|refine a_seq fun K hK=>?_|refine uR trivial ?_|refine uK ?_|refine uC1 trivial ?_|(refine uN hK ?_;clear hK)|apply zI)
 refine owp_useL (alen64_c _) (by(try simp only[Ty.w,simprocAttr]);try rfl) ?_;rintro r h' ⟨⟨l,rfl⟩,rfl⟩;simp(maxSteps:=2000000) only[Ty.w,simprocAttr,Ty.all];repeat'(first|refine uT trivial ?_|(refine uN hK ?_;clear hK)|apply zI)
 exact⟨_,rfl⟩
theorem ains_c{p q:PV}(h:Heap):PCall Tryz.prog 120 [p,.sc (.int .i64 0),.sc (.int .i64 1),q] h fun r h'=>r= .tup []∧h'=h:=by
 have w1:IntKind.i64.wrap ((0:Int)+1)=1:=rfl;have w2:IntKind.i64.wrap (1:Int)=1:=rfl;have d1:decide ((1:Int)<1)=false:=rfl;refine uG0 Tryz.func120 Tryz.ntmps120 Tryz.results120 Ty.hb_120 ?_;repeat'(first|refine a_seq fun K hK=>?_|refine a_block ?_|refine uR (uu w1 w2) ?_|(refine uN hK ?_;clear hK)|apply zI)
 refine a_loop (fun m S h'=>h'=h∧S 2= .sc (.int .i64 1)∧S 8= .sc (.int .i64 1)) 0 ?_ ?_
 ·simp only[Ty.w,simprocAttr]
 ·rintro m S h' ⟨rfl,g2,g8⟩;replace zz:=uu g2 (uu g8 d1);repeat'(first|refine a_seq fun K hK=>?_|refine uR zz ?_|refine uX ?_|refine uC1 zz ?_|(refine uN hK ?_;clear hK)|apply zI)
  exact(⟨rfl,rfl⟩:PV.tup []=PV.tup []∧h'=h')
theorem apdq_c{p q:PV}{l:Int}(h:Heap):PCall Tryz.prog 92 [p,.sc (.int .i64 0),.sc (.int .i64 1),.sc (.int .i64 l),q] h fun r h'=>r= .tup []∧h'=h:=by
 have w1:IntKind.i64.wrap ((1:Int)-0)=1:=rfl;have d1:decide ((1:Int)≤12)=true:=rfl;refine uG0 Tryz.func92 Tryz.ntmps92 Tryz.results92 Ty.hb_92 ?_;repeat'(first|refine a_seq fun K hK=>?_|refine a_block ?_|refine uR (uu w1 d1) ?_|(refine uN hK ?_;clear hK)|apply zI)
 refine a_loop (fun m S h'=>h'=h∧S 0=p∧S 1= .sc (.int .i64 0)∧S 2= .sc (.int .i64 1)∧S 4=q) 0 ?_ ?_
 ·simp only[Ty.w,simprocAttr]
 ·rintro m S h' ⟨rfl,g0,g1,g2,g4⟩;replace zz:=uu g0 (uu g1 (uu g2 (uu g4 (uu w1 d1))));repeat'(first|refine a_seq fun K hK=>?_|refine uR zz ?_|(refine uN hK ?_;clear hK)|apply zI)
  replace zz:=uu g0 (uu g1 (uu g2 g4));refine uU zz (ains_c _) ?_;repeat'(first|refine uT trivial ?_|(refine uN hK ?_;clear hK)|apply zI)
theorem asort_c{id:Nat}{q:PV}(h:Heap):PCall Tryz.prog 54 [.own id 0 1,q] h fun r h'=>r= .tup []∧h'=h:=by
 have w1:((1:Nat):Int)=1:=rfl;have w2:IntKind.u64.wrap (1:Int)=1:=by decide
 refine uG0 Tryz.func54 Tryz.ntmps54 Tryz.results54 Ty.hb_54 ?_;replace zz:=uu w1 w2;repeat'(first|refine a_seq fun K hK=>?_|refine uR zz ?_|refine uQ zz fun K hK=>?_|(refine uN hK ?_;clear hK)|apply zI)
 refine owp_useL (alen_c _) (by(try simp only[Ty.w,simprocAttr,w1,w2]);try rfl) ?_;rintro r h' ⟨⟨l,rfl⟩,rfl⟩;simp(maxSteps:=2000000) only[Ty.w,simprocAttr,Ty.all,w1,w2];try apply zI
 refine uU (uu w1 w2) (apdq_c _) ?_;repeat'(first|(refine uN hK ?_;clear hK)|apply zI)
 exact(⟨rfl,rfl⟩:PV.tup []=PV.tup []∧_=_)
theorem acomp_c{id:Nat}{q:PV}(h:Heap):PCall Tryz.prog 56 [.own id 0 1,q] h fun r h'=>r= .own id 0 1∧h'=h:=by
 have d1:decide ((1:Int)<2)=true:=rfl;have w1:((1:Nat):Int)=1:=rfl;refine uG0 Tryz.func56 Tryz.ntmps56 Tryz.results56 Ty.hb_56 ?_;replace zz:=uu d1 w1;repeat'(first|refine a_seq fun K hK=>?_|refine uR zz ?_|refine uT zz ?_|(refine uN hK ?_;clear hK)|apply zI)
def awP:Pb:=⟨⟨#[112]⟩,⟨#[100]⟩,[],[⟨⟨#[113]⟩,[⟨#[97]⟩]⟩],[],andFm⟩
theorem ainit_c(h:Heap):PCall Tryz.prog 23 [.agg awP.cells] h fun r h'=>r= .imm 2 (atRows awP.init)∧h'=h:=by
 refine PCall.frz Ty.hb_23 ?_;have hc:=fun h:Heap=>cloneS_q (l:=[⟨#[97]⟩]) (by simp) h;simp only[strRows,List.map_cons,List.map_nil]at hc;simp only[awP,andFm,Pb.cells,Fm.cells,pmRows,atRows,atRow,vlRows,strRows,Ex.rows,Fm.rows,List.map_cons,List.map_nil,List.cons_append,List.nil_append];have d0:decide ((0:Int)<1)=true:=rfl;have d1:decide ((1:Int)<1)=false:=rfl;have w1:IntKind.i64.wrap ((0:Int)+1)=1:=rfl;have w2:IntKind.i64.wrap (1:Int)=1:=rfl;have wc:((1:Nat):Int)=1:=rfl;refine uG0 Tryz.func23 Tryz.ntmps23 Tryz.results23 Ty.hb_23 ?_;repeat'(first|refine a_seq fun K hK=>?_|refine a_block ?_|refine uR wc ?_|(refine uN hK ?_;clear hK)|apply zI)
 refine a_loop (fun m S h'=>S 7= .imm 2 [[sPV ⟨#[113]⟩,.imm 1 [[sPV ⟨#[97]⟩]]]]∧S 8= .sc (.int .i64 1)∧((m=1∧S 9= .sc (.int .i64 0)∧S 3= .sc (.slice none 0 0)∧h'=h)∨(m=0∧S 9= .sc (.int .i64 1)∧ ∃ id,S 3= .own id 0 1∧h.next≤id∧Grow h h'∧h'.obj id=some (.arr 2 [[sPV ⟨#[113]⟩,.imm 1 [[sPV ⟨#[97]⟩]]]])))) 1 ?_ ?_
 ·simp only[Ty.w,simprocAttr];first|done|exact .inl ⟨trivial,trivial⟩
 ·rintro m S h' ⟨g7,g8,⟨rfl,g9,g3,rfl⟩|⟨rfl,g9,id,g3,hid,hg,ho⟩⟩
  ·replace zz:=uu g3 (uu g7 (uu g8 (uu g9 (uu d0 @nsucc))));(repeat'(first|refine a_seq fun K hK=>?_|refine uR zz ?_|refine uE zz fun K hK=>?_|refine uK ?_|refine uC1 zz ?_|(refine uN hK ?_;clear hK)|apply zI));replace zz:=uu g3 (uu g7 (uu g8 (uu g9 @nsucc)));(first|refine uV zz (hc _) ?_|refine uA zz (hc _) ?_);replace zz:=uu g3 (uu g7 (uu g8 (uu g9 (uu w1 (uu w2 @nsucc)))));(repeat'(first|refine uR zz ?_|(refine uN hK ?_;clear hK)|refine uB zz ?_|apply zI));exact⟨0,by omega,rfl,h'.next+1,rfl,Nat.le_succ _,(((Grow.refl _).new _).set (Nat.le_refl _) _).new _,if_pos rfl⟩
  ·replace zz:=uu g3 (uu g7 (uu g8 (uu g9 d1)));(repeat'(first|refine a_seq fun K hK=>?_|refine uR zz ?_|refine uX ?_|refine uC1 zz ?_|(refine uN hK ?_;clear hK)|(clear hK;refine uN hK ?_;clear hK)|apply zI));refine uU g3 (asort_c _) ?_;(repeat'(first|refine a_seq fun K hK=>?_|refine uR g3 ?_|(refine uN hK ?_;clear hK)|apply zI));refine uU g3 (acomp_c _) ?_;(repeat'(first|refine uT g3 ?_|(refine uN hK ?_;clear hK)|apply zI));refine⟨?_,hg⟩;simp only[FrzTo];exact .inr (.inr ⟨id,0,1,_,rfl,hid,ho,Nat.le_refl _,by simp only[List.drop_zero,List.take,FrzR,FrzL,FrzTo,and_true,true_and];exact .inl (strs_in _ [⟨#[97]⟩])⟩)
theorem aword_c(s:ByteArray)(h:Heap):PCall Tryz.prog 20 [sPV s] h fun r h'=>r= .agg [.sc (.int .i64 1),.sc (.int .i64 0),.sc (.int .i64 0),.sc (.int .i64 0),sPV s,.imm 6 []]∧h'=h:=by
 refine PCall.frz Ty.hb_20 ?_;refine uG0 Tryz.func20 Tryz.ntmps20 Tryz.results20 Ty.hb_20 ?_;repeat'(first|refine a_seq fun K hK=>?_|refine uR trivial ?_|refine uT trivial ?_|(refine uN hK ?_;clear hK)|apply zI)
 refine⟨?_,((Grow.refl h).new _).set (Nat.le_refl _) _⟩;simp only[FrzTo,FrzL];exact⟨_,rfl,rfl,rfl,rfl,rfl,rfl,.inr (.inl ⟨rfl,.inr rfl⟩),trivial⟩
theorem alist_c(l:List Sx)(h:Heap):PCall Tryz.prog 19 [.imm 6 (Sx.rows l)] h fun r h'=>r= .agg [.sc (.int .i64 3),.sc (.int .i64 0),.sc (.int .i64 0),.sc (.int .i64 0),sPV ⟨#[]⟩,.imm 6 (Sx.rows l)]∧h'=h:=by
 refine PCall.frz Ty.hb_19 ?_;refine uG0 Tryz.func19 Tryz.ntmps19 Tryz.results19 Ty.hb_19 ?_;repeat'(first|refine a_seq fun K hK=>?_|refine uR trivial ?_|refine uT trivial ?_|(refine uN hK ?_;clear hK)|apply zI)
 refine⟨?_,((Grow.refl h).new _).set (Nat.le_refl _) _⟩;simp only[FrzTo,FrzL];exact⟨_,rfl,rfl,rfl,rfl,rfl,rfl,.inl ⟨rfl,sxs_in _ _⟩,trivial⟩
def awX:Sx:=listM [wordM opDef,nameS opPrb ⟨#[112]⟩,nameS opDom ⟨#[100]⟩,listM [wordM opInit,listM [wordM ⟨#[113]⟩,wordM ⟨#[97]⟩]]]
theorem awX_eq:awX=pbW awP:=by rfl
theorem awP_w:writeB awP=true:=by decide+kernel
theorem awX_ok:awX.ok:=by
 refine listM_okL (by simp[bigN]) ?_;have hw: ∀ s:ByteArray,s.size≤100→(wordM s).ok:=fun s hs=>wordM_ok (by unfold bigN;omega);have h2: ∀ a b:Sx,a.ok→b.ok→(listM [a,b]).ok:=fun a b ha hb=>listM_okL (by simp[bigN]) (by intro x hx;simp only[List.mem_cons,List.not_mem_nil,or_false]at hx;rcases hx with rfl|rfl;exact ha;exact hb);intro x hx;simp only[List.mem_cons,List.not_mem_nil,or_false]at hx;rcases hx with rfl|rfl|rfl|rfl
 ·exact hw _ (by decide)
 ·exact h2 _ _ (hw _ (by decide)) (hw _ (by decide))
 ·exact h2 _ _ (hw _ (by decide)) (hw _ (by decide))
 ·exact h2 _ _ (hw _ (by decide)) (h2 _ _ (hw _ (by decide)) (hw _ (by decide)))
theorem pbAwakeW_c:PCall Tryz.prog 8 [] Heap.nil fun r h'=>r= .sc (.bool true)∧h'=Heap.nil:=by
 have hP:=fun h:Heap=>pParse_c awX_ok h;rw[awX_eq,parsePb_pbW awP_w, ← awX_eq]at hP;have hI:=ainit_c;have l1:=fun h:Heap=>alist_c [wordM opPrb,wordM ⟨#[112]⟩] h;have l2:=fun h:Heap=>alist_c [wordM opDom,wordM ⟨#[100]⟩] h;have l3:=fun h:Heap=>alist_c [wordM ⟨#[113]⟩,wordM ⟨#[97]⟩] h;have l4:=fun h:Heap=>alist_c [wordM opInit,listM [wordM ⟨#[113]⟩,wordM ⟨#[97]⟩]] h;have l5:=fun h:Heap=>alist_c [wordM opDef,nameS opPrb ⟨#[112]⟩,nameS opDom ⟨#[100]⟩,listM [wordM opInit,listM [wordM ⟨#[113]⟩,wordM ⟨#[97]⟩]]] h;have hW:=fun(s:ByteArray)(h:Heap)=>aword_c s h;simp only[awX,nameS,opPrb,opDom,opInit,opDef,listM,wordM,Sx.cells,Sx.rows]at hP l1 l2 l3 l4 l5;simp only[awP,andFm,opAnd,Pb.cells,Fm.cells,pmRows,atRows,atRow,vlRows,strRows,Ex.rows,Fm.rows,List.map_cons,List.map_nil,List.cons_append,List.nil_append]at hP hI;have e0:errP 0= .sc .nilIface:=rfl;rw[e0]at hP;have wc:((1:Nat):Int)=1:=rfl;have h1:PCall Tryz.prog 8 [] Heap.nil fun r _=>r= .sc (.bool true):=by
  refine uG0 Tryz.func8 Tryz.ntmps8 Tryz.results8 Ty.hb_8 ?_;repeat'(first|refine a_seq fun K hK=>?_|refine uR trivial ?_|(refine uN hK ?_;clear hK)|apply zI)
  refine uU trivial (hW _ _) ?_;refine uU trivial (hW _ _) ?_;refine uU trivial (hW _ _) ?_;try apply zI
  refine uU trivial (l1 _) ?_;refine uU trivial (hW _ _) ?_;refine uU trivial (hW _ _) ?_;try apply zI
  refine uU trivial (l2 _) ?_;refine uU trivial (hW _ _) ?_;refine uU trivial (hW _ _) ?_;refine uU trivial (hW _ _) ?_;try apply zI
  refine uU trivial (l3 _) ?_;try apply zI
  refine uU trivial (l4 _) ?_;try apply zI
  refine uU trivial (l5 _) ?_;refine uU @nsucc (hP _) ?_;repeat'(first|with_reducible refine a_holdR 2 ?_|(refine uN hK ?_;clear hK)|apply zI)
  refine⟨?_⟩;refine a_tmp 1 rfl (by simp only[Ty.w,simprocAttr]) (fun n H=>by simp only[FrzL,FrzTo,and_true,true_and];exact⟨.inl (pms_in _ []),.inl (ats_in _ [⟨⟨#[113]⟩,[⟨#[97]⟩]⟩]),.inl (vls_in _ []),.inl (strs_in _ []),.inl (pms_in _ []),.inl (exs_in _ []),.inl (fms_in _ [])⟩) ?_;refine a_gen (fun S H=>S 1= .cptr [sPV ⟨#[112]⟩,sPV ⟨#[100]⟩,.imm 2 [],.imm 2 [[sPV ⟨#[113]⟩,.imm 1 [[sPV ⟨#[97]⟩]]]],.imm 3 [],sPV ⟨#[97,110,100]⟩,sPV ⟨#[]⟩,.imm 1 [],.imm 2 [],.imm 5 [],.imm 6 []]∧S 2= .sc .nilIface) ⟨by simp only[Ty.w,simprocAttr],by simp only[Ty.w,simprocAttr]⟩ ?_;try clear zz
  clear hP l1 l2 l3 l4 l5 hW;rintro S H ⟨s1,s2⟩;repeat'(first|refine a_seq fun K hK=>?_|refine uR (uu s1 (uu s2 wc)) ?_|apply zI)
  refine uU (uu s1 (uu s2 wc)) (hI _) ?_;repeat'(first|refine uT (uu s1 (uu s2 wc)) ?_|(refine uN hK ?_;clear hK)|apply zI)
 refine PCall.drop (h1.mono ?_);rintro r h' rfl;refine⟨.sc (.bool true),Heap.nil,⟨rfl,rfl⟩,?_,Nat.le_refl _,fun id o ho=>by simp[Heap.nil]at ho⟩;simp only[FrzTo]
end Go.Proofs.YtjeolbgpllbemaaGreat
namespace Go.AM
mutual
def inNb(n:Nat):PV→Bool
 | .sc _=>true
 | .ptr id _ _=>decide (id<n)
 | .cptr cs=>inNLb n cs
 | .own id _ _=>decide (id<n)
 | .imm _ rows=>inNRb n rows
 | .emp=>true
 | .mp id=>decide (id<n)
 | .agg cs=>inNLb n cs
 | .tup cs=>inNLb n cs
 | .fn _ a b=>inNLb n a&&inNLb n b
 | .ab _ _ _ _ _=>true
def inNLb(n:Nat):List PV→Bool
 |[]=>true
 |p::ps=>inNb n p&&inNLb n ps
def inNRb(n:Nat):List (List PV)→Bool
 |[]=>true
 |r::rs=>inNLb n r&&inNRb n rs
end
mutual
def frzP(h':Heap)(n:Nat):Nat→PV→Option PV
 |0,_=>none
 |k+1,p=>match p with
  | .sc v=>some (.sc v)
  | .ptr id i f=>if id<n then some (.ptr id i f)else match h'.obj id with
   |some (.arr _ rows)=>(match rows[i]? with
    |some q=>(frzL h' n k (q.drop f)).map .cptr
    |none=>none)
   |_=>none
  | .own id off len=>if id<n then some (.own id off len)else match h'.obj id with
   |some (.arr z rows)=>if off+len≤rows.length then(frzR h' n k ((rows.drop off).take len)).map (.imm z)else none
   |_=>none
  | .imm z rows=>if inNRb n rows=true then some (.imm z rows)else none
  | .cptr cs=>if inNLb n cs=true then some (.cptr cs)else none
  | .emp=>some .emp
  | .mp id=>if id<n then some (.mp id)else none
  | .agg cs=>(frzL h' n k cs).map .agg
  | .tup cs=>(frzL h' n k cs).map .tup
  | .fn f a b=>if(inNLb n a&&inNLb n b)=true then some (.fn f a b)else none
  | .ab k lo hi m r=>some (.ab k lo hi m r)
def frzL(h':Heap)(n:Nat):Nat→List PV→Option (List PV)
 |0,_=>none
 |_+1,[]=>some []
 |k+1,p::ps=>match frzP h' n k p with
  |some q=>(frzL h' n k ps).map (q::·)
  |none=>none
def frzR(h':Heap)(n:Nat):Nat→List (List PV)→Option (List (List PV))
 |0,_=>none
 |_+1,[]=>some []
 |k+1,p::ps=>match frzL h' n k p with
  |some q=>(frzR h' n k ps).map (q::·)
  |none=>none
end
section
variable (P:Program)(wf:FuncId→Bool)(own:FuncId→Nat→Bool)(ext:FuncId→List PV→Heap→Option PV)
end
section
variable {P:Program}{wf:FuncId→Bool}{own:FuncId→Nat→Bool}
end
end Go.AM
namespace Go.Proofs.YtjeolbgpllbemaaGreat
open Go.AM
set_option maxHeartbeats 2000000
set_option maxRecDepth 20000
theorem bEq_refl(a:ByteArray):bEq a a=true:=by simp[bEq]
theorem bsEq_refl: ∀ l:List ByteArray,bsEq l l=true
 |[]=>rfl
 |a::l=>by simp[bsEq,bEq_refl,bsEq_refl l]
theorem pmsEq_refl: ∀ l:List Pm,pmsEq l l=true
 |[]=>rfl
 |a::l=>by simp[pmsEq,pmEq,bEq_refl,pmsEq_refl l]
theorem exs_refl: ∀ {l:List Ex},(∀ e∈l,e.same e=true)→Ex.sames l l=true
 |[],_=>rfl
 |a::l,h=>by rw[Ex.sames,h a (List.mem_cons_self ..),exs_refl (l:=l) fun e he=>h e (List.mem_cons_of_mem _ he)];try rfl
theorem ex_refl: ∀ e:Ex,e.same e=true:=by
 refine Ex.ind ?_;intro op name n args kids ih;simp only[Ex.same,bEq_refl,bsEq_refl,exs_refl ih,beq_self_eq_true,Bool.and_true]
theorem fms_refl: ∀ {l:List Fm},(∀ e∈l,e.same e=true)→Fm.sames l l=true
 |[],_=>rfl
 |a::l,h=>by rw[Fm.sames,h a (List.mem_cons_self ..),fms_refl (l:=l) fun e he=>h e (List.mem_cons_of_mem _ he)];try rfl
theorem fm_refl: ∀ f:Fm,f.same f=true:=by
 refine Fm.ind ?_;intro op name args params exprs kids ih;simp only[Fm.same,bEq_refl,bsEq_refl,pmsEq_refl,exs_refl (fun e _=>ex_refl e),fms_refl ih,Bool.and_true]
end Go.Proofs.YtjeolbgpllbemaaGreat
namespace Go.Proofs.YtjeolbgpllbemaaGreat
open Go.AM
set_option maxHeartbeats 4000000
set_option maxRecDepth 20000
theorem at_refl(a:At):a.same a=true:=by simp[At.same,bEq_refl,bsEq_refl]
theorem ats_refl: ∀ l:List At,atsEq l l=true
 |[]=>rfl
 |a::l=>by simp[atsEq,at_refl,ats_refl l]
theorem vls_refl: ∀ l:List Vl,vlsEq l l=true
 |[]=>rfl
 |a::l=>by simp[vlsEq,Vl.same,at_refl,vls_refl l]
theorem pb_refl(p:Pb):p.same p=true:=by simp[Pb.same,bEq_refl,pmsEq_refl,ats_refl,vls_refl,fm_refl]
end Go.Proofs.YtjeolbgpllbemaaGreat
namespace Go.Proofs.YtjeolbgpllbemaaGreat
open Go.AM
set_option maxHeartbeats 4000000
set_option maxRecDepth 20000
theorem okS_of{p:Pb}(h:p.ok):p.okS:=⟨h.2.2.1.1,h.2.2.2.1,⟨h.2.2.2.2.1.1,fun v hv=>(h.2.2.2.2.1.2 v hv).1⟩,h.2.2.2.2.2⟩
end Go.Proofs.YtjeolbgpllbemaaGreat
namespace Go.Proofs.YtjeolbgpllbemaaGreat
open Go.AM
set_option maxHeartbeats 8000000
set_option maxRecDepth 20000
theorem parsePb_okS{x:Sx}(hok:x.ok):(parsePb x).1.okS:=by
 have z:zeroPb.okS:=⟨by simp[zeroPb,bigN],⟨by simp[zeroPb,bigN],by simp[zeroPb]⟩,⟨by simp[zeroPb,bigN],by simp[zeroPb]⟩,(fm_mk_ok (by decide) (by decide) (by simp) (by simp) (by simp) (by simp) (by simp) (by simp) (by simp) (by simp)).1⟩;unfold parsePb;split
 ·rename_i hv;have h:=(pbP_small hok hv).1;split
  ·split
   ·exact okS_of h
   ·exact z
  ·exact z
 ·exact z
theorem problemParses_c{x:Sx}(hok:x.ok)(hb:PV.bulkL x.cells≤1048576):PCall Tryz.prog 4 [.agg x.cells] Heap.nil fun r _=>r= .sc (.bool true):=by
 have hn:x.nodes≤bigN:=by have:=Sx.nodes_bulk x;unfold bigN;omega
 have hcnt:=rcount_c x hok;have hP:=fun h:Heap=>pParse_c hok h;have hR:=fun h:Heap=>q10Parse_c hok hn h;have ho:=parsePb_okS hok;generalize x.count=n at hcnt;generalize parsePb x=F at hP hR ho;obtain⟨p,c⟩:=F;simp only at hP hR ho;obtain⟨v,hv,hN⟩:=errP_sc c;rw[hv]at hP;have hS:=rpsame_c p p ho ho;rw[pb_refl]at hS;have hcc:(c==c)=true:=by simp
 have n1:((1:Nat)=0)=False:=by simp
 try clear zz
 clear hb hn hok ho hv;obtain⟨kind,value,line,col,text,kids⟩:=x;obtain⟨pn,pd,po,pi,pv,⟨gop,gna,gar,gpa,gex,gki⟩⟩:=p;simp only[Pb.cells,Fm.cells,List.cons_append,List.nil_append,Sx.cells,iN]at hcnt hP hR hS⊢;cases l1:decide (n>2000)with
 |true=>
  refine uG0 Tryz.func4 Tryz.ntmps4 Tryz.results4 Ty.hb_4 ?_;repeat'(first|refine a_seq fun K hK=>?_|refine uR trivial ?_|(refine uN hK ?_;clear hK)|apply zI)
  refine uU l1 (hcnt _) ?_;repeat'(first|refine a_seq fun K hK=>?_|refine uR l1 ?_|(refine uN hK ?_;clear hK)|apply zI)
  refine uU trivial (pbAwakeW_c) ?_;repeat'(first|refine uT trivial ?_|(refine uN hK ?_;clear hK)|apply zI)
 |false=>
  refine uG0 Tryz.func4 Tryz.ntmps4 Tryz.results4 Ty.hb_4 ?_;repeat'(first|refine a_seq fun K hK=>?_|refine uR trivial ?_|(refine uN hK ?_;clear hK)|apply zI)
  refine uU l1 (hcnt _) ?_;try apply zI
  refine uU @Bool.not_true (pbAwakeW_c) ?_;replace zz:=uu l1 @Bool.not_true;repeat'(first|refine a_seq fun K hK=>?_|refine uR zz ?_|refine uK ?_|refine uC1 zz ?_|(refine uN hK ?_;clear hK)|apply zI)
  refine uU @nsucc (hP _) ?_;repeat'(first|refine a_seq fun K hK=>?_|refine uR @nsucc ?_|(refine uN hK ?_;clear hK)|apply zI)
  refine uU @nsucc (hR _) ?_;repeat'(first|refine a_seq fun K hK=>?_|refine uR @nsucc ?_|(refine uN hK ?_;clear hK)|apply zI)
  refine uU (uu @nsucc hcc) (hN _) ?_;try apply zI
  refine uU @nsucc (hS _) ?_;repeat'(first|refine uT @nsucc ?_|(refine uN hK ?_;clear hK)|apply zI)
end Go.Proofs.YtjeolbgpllbemaaGreat
