/- What the claim rests on, part 6: the abstract machine, contracts of the functions, plain data. -/
import Derived.OpenShut
import Derived.ChangeShapes
import Derived.SizedLaws
import Derived.Test.YtjeolbgpllbemaaGreatRows
import Derived.Test.YtjeolbgpllbemaaGreatZp5
set_option linter.unusedVariables false
set_option linter.unusedSimpArgs false
set_option linter.unusedSectionVars false
namespace Go.Proofs.YtjeolbgpllbemaaGreat
open Go.AM
set_option maxHeartbeats 2000000
set_option maxRecDepth 20000
theorem rterm_c{h:Heap}{s:ByteArray}(hs:s.size≤bigN):PCall Tryz.prog 108 [sPV s] h fun r h'=>r= .sc (.bool (termB s))∧h'=h:=by
 have hs':s.size≤9223372036854775807:=by unfold bigN at hs;omega
 cases c1:nameB s with
 |true=>
  have:termB s=true:=by simp[termB,c1]
  refine uG0 Tryz.func108 Tryz.ntmps108 Tryz.results108 Ty.hb_108 ?_;repeat'(first|refine a_seq fun K hK=>?_|refine uR trivial ?_|(refine uN hK ?_;clear hK)|apply zI)
  refine uU c1 (rname_c (s:=s) hs') ?_;repeat'(first|refine uT c1 ?_|(refine uN hK ?_;clear hK)|apply zI)
  rw[this]
 |false=>
  have:termB s=varB s:=by simp[termB,c1]
  refine uG0 Tryz.func108 Tryz.ntmps108 Tryz.results108 Ty.hb_108 ?_;repeat'(first|refine a_seq fun K hK=>?_|refine uR trivial ?_|(refine uN hK ?_;clear hK)|apply zI)
  refine uU c1 (rname_c (s:=s) hs') ?_;try apply zI
  refine uU c1 (rvariable_c (s:=s) hs') ?_;repeat'(first|refine uT c1 ?_|(refine uN hK ?_;clear hK)|apply zI)
  rw[this]
theorem rall_c{h:Heap}{l:List ByteArray}(hl:l.length≤bigN)(hs: ∀ s∈l,s.size≤bigN):PCall Tryz.prog 68 [.imm 1 (strRows l)] h fun r h'=>r= .sc (.bool (l.all termB))∧h'=h:=by
 unfold bigN at hl;have hlen:=strRows_len l;refine uG0 Tryz.func68 Tryz.ntmps68 Tryz.results68 Ty.hb_68 ?_;repeat'(first|refine a_seq fun K hK=>?_|refine a_block ?_|refine uR hlen ?_|(refine uN hK ?_;clear hK)|apply zI)
 refine a_loop (fun m S h'=>h'=h∧S 0= .imm 1 (strRows l)∧ ∃ k:Nat,S 3= .sc (.int .i64 k)∧k≤l.length∧m=l.length-k∧l.all termB=(l.drop k).all termB) l.length ?_ ?_
 ·simp only[Ty.w,simprocAttr];exact⟨0,rfl,by omega,rfl,by simp⟩
 ·rintro m S h' ⟨rfl,g0,k,g3,hk,rfl,hinv⟩;by_cases hlt:k<l.length
  ·have hd:decide ((k:Int)<(l.length:Int))=true:=(by simp;omega);have w7:IntKind.i64.wrap ((k:Int)+1)=k+1:=(by rw[wrap64 (by omega) (by omega)]);obtain⟨w,hx⟩: ∃ w,l[k]? =some w:=⟨l[k],List.getElem?_eq_getElem hlt⟩;have hr:=strRows_get hx;have hc:=fun h:Heap=>rterm_c (h:=h) (hs w (List.mem_of_getElem? hx));rw[drop_of_get hx,List.all_cons]at hinv;generalize termB w=b at hc hinv;cases b with
   |false=>
    rw[Bool.false_and]at hinv;replace zz:=uu g0 (uu g3 (uu hd hr));(repeat'(first|refine a_seq fun K hK=>?_|refine uR zz ?_|refine uK ?_|(refine uC zz (fun hb=>?_) (fun hb=>?_)<;>(try simp only[hb0,simprocAttr]at hb)<;>(try(exfalso;omega)))|(refine uN hK ?_;clear hK)|apply zI));replace zz:=uu g0 (uu g3 (uu hd (uu hr @Bool.not_false)));refine uU zz (hc _) ?_;replace zz:=uu g0 (uu g3 @Bool.not_false);(repeat'(first|refine a_seq fun K hK=>?_|refine uR zz ?_|refine uT zz ?_|(refine uN hK ?_;clear hK)|apply zI));rw[hinv]
   |true=>
    rw[Bool.true_and]at hinv;replace zz:=uu g0 (uu g3 (uu hd hr));(repeat'(first|refine a_seq fun K hK=>?_|refine uR zz ?_|refine uK ?_|(refine uC zz (fun hb=>?_) (fun hb=>?_)<;>(try simp only[hb0,simprocAttr]at hb)<;>(try(exfalso;omega)))|(refine uN hK ?_;clear hK)|apply zI));replace zz:=uu g0 (uu g3 (uu hd (uu hr @Bool.not_true)));refine uU zz (hc _) ?_;replace zz:=uu g0 (uu g3 (uu w7 @Bool.not_true));(repeat'(first|refine a_block ?_|refine uR zz ?_|refine uK ?_|(refine uN hK ?_;clear hK)|apply zI));exact⟨l.length-(k+1),by omega,k+1,by simp,by omega,rfl,hinv⟩
  ·have hd:decide ((k:Int)<(l.length:Int))=false:=(by simp;omega);rw[List.drop_eq_nil_of_le (by omega)]at hinv;replace zz:=uu g0 (uu g3 (uu hlen hd));(repeat'(first|refine a_seq fun K hK=>?_|refine uR zz ?_|refine uT zz ?_|refine uX ?_|(refine uC zz (fun hb=>?_) (fun hb=>?_)<;>(try simp only[hb0,simprocAttr]at hb)<;>(try(exfalso;omega)))|(refine uN hK ?_;clear hK)|(clear hK;refine uN hK ?_;clear hK)|apply zI));rw[hinv];try rfl
theorem rwd_c{h:Heap}{s:ByteArray}:PCall Tryz.prog 109 [sPV s] h fun r h'=>r= .agg (wordM s).cells∧h'=h:=by
 refine PCall.frz Ty.hb_109 ?_;refine uG0 Tryz.func109 Tryz.ntmps109 Tryz.results109 Ty.hb_109 ?_;repeat'(first|refine a_seq fun K hK=>?_|refine uR trivial ?_|refine uT trivial ?_|(refine uN hK ?_;clear hK)|apply zI)
 refine⟨?_,((Grow.refl h).new _).set (Nat.le_refl _) _⟩;simp only[wordM,Sx.cells,Sx.rows,FrzTo,FrzL];exact⟨_,rfl,rfl,rfl,rfl,rfl,rfl,.inr (.inl ⟨rfl,.inr rfl⟩),trivial⟩
theorem rlist_c{h:Heap}{first:ByteArray}{l:List ByteArray}(hl:l.length≤1048576):PCall Tryz.prog 110 [sPV first,.imm 1 (strRows l)] h fun r h'=>r= .agg (wordsM first l).cells∧h'=h:=by
 refine PCall.frz Ty.hb_110 ?_;have hll:=strRows_len l;have hw: ∀ (s:ByteArray)(h:Heap),PCall Tryz.prog 109 [sPV s] h fun r h'=>r= .agg (wordM s).cells∧h'=h:=fun s h=>rwd_c;simp only[wordM,Sx.cells,Sx.rows]at hw;refine uG (ow:=fun t=>t==9) (wf:=fun _=>false) Tryz.func110 Tryz.ntmps110 Tryz.results110 Ty.hb_110 ?_;repeat'(first|refine a_seq fun K hK=>?_|refine uR trivial ?_|(refine uN hK ?_;clear hK)|apply zI)
 refine uU trivial (hw first _) ?_;repeat'(first|refine a_seq fun K hK=>?_|refine a_block ?_|refine uR hll ?_|(refine uN hK ?_;clear hK)|apply zI)
 refine a_loop (fun m S h'=>S 1= .imm 1 (strRows l)∧S 4= .ptr h.next 0 0∧ ∃ k id:Nat,S 6= .sc (.int .i64 k)∧S 5= .own id 0 (k+1)∧k≤l.length∧m=l.length-k∧Grow h h'∧h.next<id∧id<h'.next∧
  h'.obj h.next=some (.arr 6 [[.sc (.int .i64 0),.sc (.int .i64 0),.sc (.int .i64 0),.sc (.int .i64 0),.sc (.string ⟨#[]⟩),.sc (.slice none 0 0)]])∧h'.obj id=some (.arr 6 (Sx.rows ((first::l.take k).map wordM)))) l.length ?_ ?_
 ·simp only[Ty.w,simprocAttr];have e1:¬ h.next=h.next+1:=by omega
  refine⟨0,h.next+1,rfl,rfl,by omega,rfl,((Grow.refl h).new _).new _,by omega,by simp[Heap.new],?_,?_⟩
  ·simp [Heap.new]
  ·simp [Heap.new,wordM,Sx.rows,Sx.cells]
 ·rintro m S h' ⟨g1,g4,k,id,g6,g5,hk,rfl,hg,hlo,hhi,o1,o3⟩;by_cases hlt:k<l.length
  ·have hd:decide ((k:Int)<(l.length:Int))=true:=(by simp;omega);have w7:IntKind.i64.wrap ((k:Int)+1)=k+1:=(by rw[wrap64 (by omega) (by omega)]);obtain⟨s,hx⟩: ∃ s,l[k]? =some s:=⟨_,List.getElem?_eq_getElem hlt⟩;have hr:=strRows_get hx;have hrl:(Sx.rows ((first::l.take k).map wordM)).length=k+1:=(by rw[Sx.rows_len];simp;omega);generalize hR:Sx.rows ((first::l.take k).map wordM)=R at o3 hrl;have htk:List.take (k+1) R=R:=List.take_of_length_le (by omega);have hb:(k+1+1)*72≤140737488355328:=(by omega);replace zz:=uu g1 (uu g4 (uu g5 (uu g6 (uu hll (uu hd (uu hr (uu w7 o3)))))));(repeat'(first|refine a_seq fun K hK=>?_|refine a_block ?_|refine uR zz ?_|refine uQ zz fun K hK=>?_|refine uK ?_|(refine uC zz (fun hb=>?_) (fun hb=>?_)<;>(try simp only[hb0,simprocAttr]at hb)<;>(try(exfalso;omega)))|(refine uN hK ?_;clear hK)|apply zI));replace zz:=uu g1 (uu g4 (uu g5 (uu g6 (uu hll (uu hd (uu hr (uu w7 (uu o3 (uu hrl (uu htk hb))))))))));refine uU zz (hw s _) ?_;replace zz:=uu g1 (uu g4 (uu g5 (uu g6 (uu w7 (uu o3 (uu hrl (uu htk hb)))))));(repeat'(first|refine uR zz ?_|(refine uN hK ?_;clear hK)|(rw[if_pos];rotate_left 1;omega;simp(maxSteps:=2000000) only[Ty.w,simprocAttr,g1,g4,g5,g6,w7,o3,hrl,htk,hb])|apply zI));refine⟨l.length-(k+1),by omega,k+1,h'.next,by simp,rfl,by omega,rfl,(hg.kill (by omega)).new _,by omega,by simp[Heap.new,Heap.kill],?_,?_⟩
   ·have a2:¬ h.next=h'.next:=by omega
    have a3:¬ h.next=id:=by omega
    simp only[Heap.new,Heap.kill,a2,a3,if_false];exact o1
   ·simp only[Heap.new,Heap.kill,if_true];rw[List.take_add_one,hx, ← hR];simp only[Sx.rows_map,List.map_cons,List.map_append,List.map_nil,Option.toList_some,List.cons_append,wordM,Sx.cells]
  ·have hd:decide ((k:Int)<(l.length:Int))=false:=(by simp;omega);have hke:k=l.length:=(by omega);subst hke;rw[List.take_length]at o3;replace zz:=uu g1 (uu g4 (uu g5 (uu g6 (uu hll (uu hd (uu o1 o3))))));(repeat'(first|refine a_seq fun K hK=>?_|refine uR zz ?_|refine uT zz ?_|refine uX ?_|(refine uC zz (fun hb=>?_) (fun hb=>?_)<;>(try simp only[hb0,simprocAttr]at hb)<;>(try(exfalso;omega)))|(refine uN hK ?_;clear hK)|(clear hK;refine uN hK ?_;clear hK)|apply zI));refine⟨?_,hg.set (Nat.le_refl _) _⟩;simp only[wordsM,listM,Sx.cells,FrzTo,FrzL];refine⟨_,rfl,rfl,rfl,rfl,rfl,rfl,.inr (.inr ⟨id,0,l.length+1,Sx.rows ((first::l).map wordM),rfl,by omega,?_,?_,?_⟩),trivial⟩
   ·simp only[Heap.set];rw[if_neg (by omega)];exact o3
   ·rw [Sx.rows_len];simp
   ·rw [List.drop_zero,List.take_of_length_le (by rw[Sx.rows_len];simp)];exact sxs_frz _ _ _
theorem rwriteE_c: ∀ e:Ex,e.small→shapedE e=true→ ∀ h:Heap,PCall Tryz.prog 111 [.agg e.cells] h fun r h'=>r= .agg (exW e).cells∧h'=h:=by
 refine Ex.ind ?_;intro op name n args kids ih hsm hsh h;simp only[Ex.small]at hsm;obtain⟨hal,hks⟩:=hsm;rw[Ex.smalls_iff]at hks;unfold shapedE at hsh;unfold exW;refine PCall.frz Ty.hb_111 ?_;cases c1:bEq op opNum with
 |true=>
  have c1':(op.data.toList==(#[110,117,109,98,101,114]:Array UInt8).toList)=true:=c1;simp only[if_true,Ex.cells];refine uG0 Tryz.func111 Tryz.ntmps111 Tryz.results111 Ty.hb_111 ?_;repeat'(first|refine a_seq fun K hK=>?_|refine uR c1' ?_|refine uT c1' ?_|(refine uN hK ?_;clear hK)|apply zI)
  refine⟨?_,((Grow.refl h).new _).set (Nat.le_refl _) _⟩;simp only[Sx.cells,Sx.rows,FrzTo,FrzL];exact⟨_,rfl,rfl,rfl,rfl,rfl,rfl,.inr (.inl ⟨rfl,.inr rfl⟩),trivial⟩
 |false=>
  have c1':(op.data.toList==(#[110,117,109,98,101,114]:Array UInt8).toList)=false:=c1;rw[c1]at hsh;simp only[Bool.false_eq_true,if_false]at hsh⊢;cases c2:bEq op opFlu with
  |true=>
   have c2':(op.data.toList==(#[102,108,117,101,110,116]:Array UInt8).toList)=true:=c2;have hw:=fun h:Heap=>rlist_c (h:=h) (first:=name) hal;have hfz:=fun(n:Nat)(h:Heap)=>sx_frz n h (wordsM name args);simp only[if_true,Ex.cells];generalize wordsM name args=X at hw hfz;obtain⟨ki,va,li,co,te,ks⟩:=X;simp only[Sx.cells]at hw hfz⊢;refine uG0 Tryz.func111 Tryz.ntmps111 Tryz.results111 Ty.hb_111 ?_;(repeat'(first|refine a_seq fun K hK=>?_|refine uR (uu c1' c2') ?_|(refine uN hK ?_;clear hK)|apply zI));refine uU (uu c1' c2') (hw _) ?_;(repeat'(first|refine uT trivial ?_|(refine uN hK ?_;clear hK)|apply zI));refine⟨?_,((Grow.refl h).new _).set (Nat.le_refl _) _⟩;simp only[FrzTo];exact⟨_,rfl,hfz _ _⟩
  |false=>
   have c2':(op.data.toList==(#[102,108,117,101,110,116]:Array UInt8).toList)=false:=c2;rw[c2]at hsh;simp only[Bool.false_eq_true,if_false]at hsh⊢;split at hsh
   case isFalse=>simp at hsh
   simp only[Bool.and_eq_true]at hsh;obtain⟨⟨⟨_,_⟩,_⟩,hsh⟩:=hsh;split at hsh
   case h_2=>simp at hsh
   rename_i a b;simp only[Bool.and_eq_true]at hsh;have ca:=ih a (by simp) (hks a (by simp)) hsh.1;have cb:=ih b (by simp) (hks b (by simp)) hsh.2;have hw:=fun h:Heap=>rwd_c (h:=h) (s:=op);have hfz:=fun(n:Nat)(h:Heap)=>sx_frz n h (listM [wordM op,exW a,exW b]);generalize exW a=xa at ca hfz⊢;generalize exW b=xb at cb hfz⊢;(try clear zz);clear ih hks hsh;obtain⟨aop,aname,an,aargs,akids⟩:=a;obtain⟨bop,bname,bn,bargs,bkids⟩:=b;obtain⟨ki,va,li,co,te,ks⟩:=xa;obtain⟨ki2,va2,li2,co2,te2,ks2⟩:=xb;simp only[Ex.cells,Ex.rows,listM,Sx.cells,Sx.rows,wordM]at ca cb hw hfz⊢;refine uG0 Tryz.func111 Tryz.ntmps111 Tryz.results111 Ty.hb_111 ?_;replace zz:=uu c1' c2';(repeat'(first|refine a_seq fun K hK=>?_|refine a_block ?_|refine uR zz ?_|refine uD zz ?_|refine uK ?_|(refine uN hK ?_;clear hK)|apply zI));(first|refine uV trivial (hw _) ?_|refine uA trivial (hw _) ?_);(try apply zI);(first|refine uV trivial (ca _) ?_|refine uA trivial (ca _) ?_);(try apply zI);(first|refine uV trivial (cb _) ?_|refine uA trivial (cb _) ?_);(repeat'(first|refine uT trivial ?_|(refine uN hK ?_;clear hK)|refine uB trivial ?_|apply zI));refine⟨?_,((Grow.refl h).new _).set (Nat.le_refl _) _⟩;simp only[FrzTo];exact⟨_,rfl,hfz _ _⟩
set_option maxHeartbeats 4000000
abbrev iN(c:Int):PV:= .sc (.int .i64 c)
theorem rterms_c{l:List Sx}(hl:l.length≤1048576)(hok: ∀ x∈l,x.ok)(h:Heap):PCall Tryz.prog 146 [.imm 6 (Sx.rows l)] h fun r h'=>r= .tup [.imm 1 (strRows (termsM l).1),iN (termsM l).2]∧h'=h:=by
 refine PCall.frz Ty.hb_146 ?_;have hll:=Sx.rows_len l;refine uG0 Tryz.func146 Tryz.ntmps146 Tryz.results146 Ty.hb_146 ?_;repeat'(first|refine a_seq fun K hK=>?_|refine a_block ?_|refine uR hll ?_|(refine uN hK ?_;clear hK)|apply zI)
 refine a_loop (fun m S h'=>S 0= .imm 6 (Sx.rows l)∧ ∃ (k:Nat)(o:PV)(pre:List ByteArray),S 5= .sc (.int .i64 k)∧S 4=o∧k≤l.length∧m=l.length-k∧Grow h h'∧pre.length=k∧Tl h' h.next 1 o (strRows pre)∧
  termsM l=(match termsM (l.drop k)with|(t,c)=>bif c==0 then(pre++t,0)else([],c))) l.length ?_ ?_
 ·simp only[Ty.w,simprocAttr];refine⟨0,_,[],rfl,rfl,by omega,rfl,Grow.refl _,rfl,Tl.nil,?_⟩;have:=termsM_code l;rw[List.drop_zero];cases hq:(termsM l).2==0
  ·rcases this with h|h
   ·rw [h]at hq;simp at hq
   ·simp only[hq,cond_false];rw[← h.1]
  ·have h0:(termsM l).2=0:=(by simpa using hq);simp only[hq,cond_true,List.nil_append];rw[← h0]
 ·rintro m S h' ⟨g0,k,o,pre,g5,g4,hk,rfl,hg,hpl,tl,hinv⟩;by_cases hlt:k<l.length
  ·have hd:decide ((k:Int)<(l.length:Int))=true:=(by simp;omega);have w7:IntKind.i64.wrap ((k:Int)+1)=k+1:=(by rw[wrap64 (by omega) (by omega)]);obtain⟨x,hx⟩: ∃ x,l[k]? =some x:=⟨_,List.getElem?_eq_getElem hlt⟩;have hr:=Sx.rows_get hx;have hxk:=hok x (List.mem_of_getElem? hx);rw[drop_of_get hx]at hinv;simp only[termsM]at hinv;obtain⟨ki,va,li,co,te,ks⟩:=x;simp only[Sx.ok]at hxk;obtain⟨_,_,hte,_⟩:=hxk;simp only[Sx.cells]at hr;simp only[kindOf,textOf]at hinv;cases q1:(ki !=1)with
   |true=>
    rw[show(ki==1)=false by simpa using q1]at hinv;simp only[cond_false]at hinv;replace zz:=uu g0 (uu g5 (uu g4 (uu hd (uu hr (uu hll q1)))));(repeat'(first|refine a_seq fun K hK=>?_|refine uR zz ?_|refine uT zz ?_|refine uK ?_|refine uC1 zz ?_|(refine uN hK ?_;clear hK)|apply zI));have e:termsM l=([],2):=hinv;rw[e];refine⟨?_,hg⟩;simp only[FrzTo,FrzL];exact⟨_,rfl,.inr (.inl ⟨rfl,.inr rfl⟩),rfl,trivial⟩
   |false=>
    rw[show(ki==1)=true by simpa using q1]at hinv;simp only[cond_true]at hinv;have hc:=fun h:Heap=>rterm_c (h:=h) hte;generalize termB te=b at hc hinv;cases b with
    |false=>
     simp only[cond_false]at hinv;replace zz:=uu g0 (uu g5 (uu g4 (uu hd (uu hr (uu hll q1)))));(repeat'(first|refine a_seq fun K hK=>?_|refine uR zz ?_|refine uK ?_|refine uC1 zz ?_|(refine uN hK ?_;clear hK)|apply zI));replace zz:=uu g0 (uu g5 (uu g4 (uu hd (uu hr (uu q1 @Bool.not_false)))));refine uU zz (hc _) ?_;replace zz:=uu g0 (uu g5 (uu g4 @Bool.not_false));(repeat'(first|refine a_seq fun K hK=>?_|refine uR zz ?_|refine uT zz ?_|(refine uN hK ?_;clear hK)|apply zI));have e:termsM l=([],8):=hinv;rw[e];refine⟨?_,hg⟩;simp only[FrzTo,FrzL];exact⟨_,rfl,.inr (.inl ⟨rfl,.inr rfl⟩),rfl,trivial⟩
    |true=>
     simp only[cond_true]at hinv;obtain⟨H,t1,t2,t3,t4,t5⟩:=tl.tail;have hpr:(strRows pre).length=k:=(by rw[strRows_len];exact hpl);have hb:(k+1)*16≤140737488355328:=(by omega);replace zz:=uu g0 (uu g5 (uu g4 (uu hd (uu hr (uu hll q1)))));(repeat'(first|refine a_seq fun K hK=>?_|refine uR zz ?_|refine uK ?_|refine uC1 zz ?_|(refine uN hK ?_;clear hK)|apply zI));replace zz:=uu g0 (uu g5 (uu g4 (uu hd (uu hr (uu q1 @Bool.not_true)))));refine uU zz (hc _) ?_;replace zz:=uu g0 (uu g5 (uu g4 (uu hr (uu w7 (uu @Bool.not_true (uu t1 (uu t2 (uu hpr hb))))))));(repeat'(first|refine uR zz ?_|refine uQ zz fun K hK=>?_|refine uK ?_|refine uC1 zz ?_|(refine uN hK ?_;clear hK)|(rw[if_pos];rotate_left 1;omega;simp(maxSteps:=2000000) only[Ty.w,simprocAttr,g0,g5,g4,hr,w7,Bool.not_true,t1,t2,hpr,hb])|apply zI));have hkp:=t5 h ⟨hg.le,hg.old⟩ (Nat.le_refl _);have hgH:Grow h H:=⟨hkp.1,hkp.2⟩;have hap:strRows pre++[[PV.sc (.string te)]]=strRows (pre++[te]):=(by simp[strRows]);rw[hap];refine⟨l.length-(k+1),by omega,k+1,.own H.next 0 (k+1),pre++[te],by simp,by first|rfl|rw[t3],by omega,rfl,hgH.new _,by simp[hpl],Tl.grow hkp.1 (by rw[strRows_len];simp[hpl]),?_⟩;rw[hinv];generalize termsM (List.drop (k+1) l)=W;obtain⟨t,c⟩:=W;cases hq:c==0 with
     |false=>simp only[hq,cond_false]
     |true=>simp only[hq,cond_true,beq_self_eq_true,List.append_assoc,List.cons_append,List.nil_append]
  ·have hd:decide ((k:Int)<(l.length:Int))=false:=(by simp;omega);rw[List.drop_eq_nil_of_le (by omega)]at hinv;simp only[termsM,beq_self_eq_true,cond_true,List.append_nil]at hinv;replace zz:=uu g0 (uu g5 (uu g4 (uu hd hll)));(repeat'(first|refine a_seq fun K hK=>?_|refine uR zz ?_|refine uT zz ?_|refine uX ?_|refine uC1 zz ?_|(refine uN hK ?_;clear hK)|(clear hK;refine uN hK ?_;clear hK)|apply zI));have e:termsM l=(pre,0):=hinv;rw[e];refine⟨?_,hg⟩;have h1:=tl_frzS tl;unfold FrzTo;refine⟨_,rfl,?_⟩;unfold FrzL;refine⟨h1,?_⟩;unfold FrzL;exact⟨by simp only[FrzTo],by simp only[FrzL]⟩
def exprs2:List Sx→List Ex × Int
 |[a,b]=>(match exprP a with
  | (ea, ca) => bif ca == 0 then (match exprP b with
   |(eb,cb)=>bif cb==0 then([ea,eb],0)else([],cb))else([],ca))
 |_=>([],2)
theorem exprs2_len{l:List Sx}(h:¬ l.length=2):exprs2 l=([],2):=by
 match l,h with
 |[],_=>rfl
 |[_],_=>rfl
 |[_,_],h=>simp at h
 |_::_::_::_,_=>rfl
theorem frz_tup2{n:Nat}{H:Heap}{a b:PV}{v:Value}(h:FrzTo n H a b):FrzTo n H (.tup [a,.sc v]) (.tup [b,.sc v]):=by
 unfold FrzTo;refine⟨_,rfl,?_⟩;unfold FrzL;refine⟨h,?_⟩;unfold FrzL;exact⟨by simp only[FrzTo],by simp only[FrzL]⟩
theorem frz_agg{n:Nat}{H:Heap}{a b:List PV}(h:FrzL n H a b):FrzTo n H (.agg a) (.agg b):=by
 unfold FrzTo;exact⟨_,rfl,h⟩
theorem frz_nilslice{n z:Nat}{H:Heap}:FrzTo n H (.imm z []) (.sc (.slice none 0 0)):=by
 unfold FrzTo;exact .inr (.inl ⟨rfl,.inr rfl⟩)
theorem exsR_in(n:Nat): ∀ l:List Ex,inNR n (Ex.rows l)
 |[]=>by simp only[Ex.rows,inNR]
 |e::l=>by simp only[Ex.rows,inNR];exact⟨ex_in n e,exsR_in n l⟩
theorem rexprs_c{l:List Sx}(hl:l.length≤1048576)(ih: ∀ x∈l, ∀ h:Heap,PCall Tryz.prog 166 [.agg x.cells] h fun r h'=>r= .tup [.agg (exprP x).1.cells,iN (exprP x).2]∧h'=h)(h:Heap):
  PCall Tryz.prog 161 [.imm 6 (Sx.rows l)] h fun r h'=>r= .tup [.imm 5 (Ex.rows (exprs2 l).1),iN (exprs2 l).2]∧h'=h:=by
 refine PCall.frz Ty.hb_161 ?_;have hll:=Sx.rows_len l;have hg1: ∀ o r,Grow h ((h.new o).set h.next r):=fun o r=>((Grow.refl h).new _).set (Nat.le_refl _) _;have hg2: ∀ o r o2 r2,Grow h ((((h.new o).set h.next r).new o2).set (h.next+1) r2):=fun o r o2 r2=>((((Grow.refl h).new _).set (Nat.le_refl _) _).new _).set (Nat.le_succ _) _;cases q:((l.length:Int) !=2)with
 |true=>
  rw[exprs2_len (by simp at q;omega)];refine uG0 Tryz.func161 Tryz.ntmps161 Tryz.results161 Ty.hb_161 ?_;replace zz:=uu hll q;repeat'(first|refine a_seq fun K hK=>?_|refine uR zz ?_|refine uT zz ?_|(refine uN hK ?_;clear hK)|apply zI)
  exact⟨frz_tup2 (by simpa only[Ex.rows]using frz_nilslice),Grow.refl _⟩
 |false=>
  obtain⟨a,b,rfl⟩: ∃ a b,l=[a,b]:=by
   have h2:l.length=2:=by simp at q;omega
   match l,h2 with
   |[a,b],_=>exact⟨a,b,rfl⟩
  have ca:=ih a (by simp);have cb:=ih b (by simp);have hE:exprs2 [a,b]=(match exprP a with
   | (ea, ca) => bif ca == 0 then (match exprP b with
    |(eb,cb)=>bif cb==0 then([ea,eb],0)else([],cb))else([],ca)):=rfl
  rw[hE];try clear zz
  clear hE ih q;generalize exprP a=A at ca;generalize exprP b=B at cb;obtain⟨ea,na⟩:=A;obtain⟨eb,nb⟩:=B;simp only at ca cb⊢;have hfz:=fun n hh=>exs_frz n hh [ea,eb];simp only[Ex.rows]at hfz;obtain⟨ak,av,al,ac,at',aks⟩:=a;obtain⟨bk,bv,bl,bc,bt,bks⟩:=b;obtain⟨aop,aname,an,aargs,akids⟩:=ea;obtain⟨bop,bname,bn,bargs,bkids⟩:=eb;simp only[Sx.cells,Sx.rows,Ex.cells,Ex.rows]at ca cb hfz hll⊢;cases qa:na==0 with
  |false=>
   have qa':(na !=0)=true:=(by simp[bne,qa]);simp only[cond_false];refine uG0 Tryz.func161 Tryz.ntmps161 Tryz.results161 Ty.hb_161 ?_;(repeat'(first|refine a_seq fun K hK=>?_|refine uR hll ?_|refine uK ?_|refine uC1 hll ?_|(refine uN hK ?_;clear hK)|apply zI));refine uU hll (ca _) ?_;replace zz:=uu qa' @nsucc;(repeat'(first|refine a_seq fun K hK=>?_|refine uR zz ?_|refine uT zz ?_|(refine uN hK ?_;clear hK)|apply zI));exact⟨frz_tup2 (by simpa only[Ex.rows]using frz_nilslice),hg1 _ _⟩
  |true=>
   have qa':(na !=0)=false:=(by simp[bne,qa]);simp only[cond_true];cases qb:nb==0 with
   |false=>
    have qb':(nb !=0)=true:=(by simp[bne,qb]);simp only[cond_false];refine uG0 Tryz.func161 Tryz.ntmps161 Tryz.results161 Ty.hb_161 ?_;(repeat'(first|refine a_seq fun K hK=>?_|refine uR hll ?_|refine uK ?_|refine uC1 hll ?_|(refine uN hK ?_;clear hK)|apply zI));refine uU hll (ca _) ?_;replace zz:=uu qa' @nsucc;(repeat'(first|refine a_seq fun K hK=>?_|refine uR zz ?_|refine uK ?_|refine uC1 zz ?_|(refine uN hK ?_;clear hK)|apply zI));refine uU (uu hll @nsucc) (cb _) ?_;replace zz:=uu qb' @nsucc;(repeat'(first|refine a_seq fun K hK=>?_|refine uR zz ?_|refine uT zz ?_|(refine uN hK ?_;clear hK)|apply zI));exact⟨frz_tup2 (by simpa only[Ex.rows]using frz_nilslice),hg2 _ _ _ _⟩
   |true=>
    have qb':(nb !=0)=false:=(by simp[bne,qb]);simp only[cond_true,Ex.rows,Ex.cells];refine uG0 Tryz.func161 Tryz.ntmps161 Tryz.results161 Ty.hb_161 ?_;(repeat'(first|refine a_seq fun K hK=>?_|refine uR hll ?_|refine uK ?_|refine uC1 hll ?_|(refine uN hK ?_;clear hK)|apply zI));refine uU hll (ca _) ?_;replace zz:=uu qa' @nsucc;(repeat'(first|refine a_seq fun K hK=>?_|refine uR zz ?_|refine uK ?_|refine uC1 zz ?_|(refine uN hK ?_;clear hK)|apply zI));refine uU (uu hll @nsucc) (cb _) ?_;replace zz:=uu qb' (uu @nsucc (uu @Nat.add_eq_left @Nat.one_ne_zero));(repeat'(first|refine a_seq fun K hK=>?_|refine uR zz ?_|refine uT zz ?_|refine uK ?_|refine uC1 zz ?_|(refine uN hK ?_;clear hK)|apply zI));exact⟨frz_tup2 (by simp only[FrzTo];exact .inl ⟨trivial,by simpa only[Ex.rows,Ex.cells]using exsR_in _ [.mk aop aname an aargs akids,.mk bop bname bn bargs bkids]⟩),hg2 _ _ _ _⟩
theorem ssR_mem: ∀ {l:List Sx},shapedSs l=true→ ∀ x∈l,shapedS x=true
 |[],_,x,hx=>by simp at hx
 |a::l,h,x,hx=>by
  simp only[shapedSs,Bool.and_eq_true]at h;rcases List.mem_cons.1 hx with rfl|hx
  ·exact h.1
  ·exact ssR_mem h.2 x hx
theorem exprP_hd{kind value line col:Int}{text:ByteArray}{y:Sx}{rest:List Sx}(n2:¬ kind=2)(e3:kind=3):exprP (.mk kind value line col text (y::rest))=
  bif kindOf y==1 then(bif isPm (textOf y)then(bif (exprs2 rest).2==0 then(.mk (textOf y) ⟨#[]⟩ 0 [] (exprs2 rest).1,0)else(zeroEx,(exprs2 rest).2))
   else bif nameB (textOf y)then(bif (termsM rest).2==0 then(.mk opFlu (textOf y) 0 (termsM rest).1 [],0)else(zeroEx,(termsM rest).2))else(zeroEx,8))
  else(zeroEx,2):=by
 conv=>lhs;unfold exprP
 rw[if_neg n2,if_pos e3];dsimp only;cases kindOf y==1 with
 |false=>rfl
 |true=>
  cases isPm (textOf y)with
  |false=>rfl
  |true=>
   simp only[cond_true]
   match rest with
   |[]=>rfl
   |[_]=>rfl
   |[a,b]=>
    simp only[exprs2];cases qa:(exprP a).2==0 with
    |false=>simp only[cond_false,qa]
    |true=>
     cases qb:(exprP b).2==0 with
     |false=>simp only[cond_true,cond_false,qb]
     |true=>simp only[cond_true,beq_self_eq_true]
   |_::_::_::_=>rfl
theorem rexpr_c: ∀ x:Sx,x.ok→x.small→shapedS x=true→ ∀ h:Heap,PCall Tryz.prog 166 [.agg x.cells] h fun r h'=>r= .tup [.agg (exprP x).1.cells,iN (exprP x).2]∧h'=h:=by
 refine Sx.ind ?_;intro kind value line col text kids ih hok hsm hsh h;simp only[Sx.ok]at hok;obtain⟨_,_,_,_,hks⟩:=hok;rw[Sx.oks_iff]at hks;simp only[Sx.small]at hsm;obtain⟨hl,hss⟩:=hsm;rw[Sx.smalls_iff]at hss;have hll:=Sx.rows_len kids;refine PCall.frz Ty.hb_166 ?_;have hg1: ∀ r,Grow h ((h.new (.arr 5 [[.sc (.string ⟨#[]⟩),.sc (.string ⟨#[]⟩),.sc (.int .i64 0),.sc (.slice none 0 0),.sc (.slice none 0 0)]])).set h.next r):=fun r=>((Grow.refl h).new _).set (Nat.le_refl _) _;have hzero: ∀ (c:Int)(H:Heap),FrzTo h.next H (.tup [.agg zeroEx.cells,iN c]) (.tup [.agg [.sc (.string ⟨#[]⟩),.sc (.string ⟨#[]⟩),.sc (.int .i64 0),.sc (.slice none 0 0),.sc (.slice none 0 0)],iN c]):=fun c H=>frz_tup2 (frz_agg (by
  simp[zeroEx,Ex.cells,Ex.rows,strRows,FrzL,FrzTo]))
 generalize hF:exprP (.mk kind value line col text kids)=F;unfold shapedS at hsh;simp only[Sx.cells];cases k2:(kind==2)with
 |true=>
  unfold exprP at hF;rw[if_pos (by simpa using k2)]at hF;subst hF;refine uG0 Tryz.func166 Tryz.ntmps166 Tryz.results166 Ty.hb_166 ?_;repeat'(first|refine a_seq fun K hK=>?_|refine uR k2 ?_|refine uT k2 ?_|(refine uN hK ?_;clear hK)|apply zI)
  refine⟨frz_tup2 (frz_agg ?_),hg1 _⟩;simp[opNum,Ex.cells,Ex.rows,strRows,FrzL,FrzTo]
 |false=>
  have n2:¬ kind=2:=by simpa using k2
  cases k1:(kind==1)with
  |true=>
   have e1:kind=1:=(by simpa using k1);unfold exprP at hF;rw[if_neg n2,if_neg (by omega)]at hF;subst hF;refine uG0 Tryz.func166 Tryz.ntmps166 Tryz.results166 Ty.hb_166 ?_;replace zz:=uu k2 k1;(repeat'(first|refine a_seq fun K hK=>?_|refine uR zz ?_|refine uT zz ?_|refine uK ?_|refine uC1 zz ?_|(refine uN hK ?_;clear hK)|apply zI));exact⟨hzero 2 _,hg1 _⟩
  |false=>
   have n1:¬ kind=1:=(by simpa using k1);have e3:kind=3:=by
    rw[if_neg n1,if_neg n2]at hsh;by_cases h3:kind=3
    ·exact h3
    ·rw [if_neg h3]at hsh;simp at hsh
   rw[if_neg n1,if_neg n2,if_pos e3,Bool.and_eq_true]at hsh;cases kids with
   |nil=>
    unfold exprP at hF;rw[if_neg n2,if_pos e3]at hF;simp only at hF;subst hF;have q:(((Sx.rows []).length:Int)==0)=true:=rfl;generalize Sx.rows []=R at q hll;refine uG0 Tryz.func166 Tryz.ntmps166 Tryz.results166 Ty.hb_166 ?_;replace zz:=uu k2 (uu k1 q);(repeat'(first|refine a_seq fun K hK=>?_|refine uR zz ?_|refine uT zz ?_|refine uK ?_|refine uC1 zz ?_|(refine uN hK ?_;clear hK)|apply zI));exact⟨hzero 2 _,hg1 _⟩
   |cons y rest=>
    have hrs: ∀ x∈rest,shapedS x=true:=by
     have:=hsh.1;simp only[shapedSs,Bool.and_eq_true]at this;exact ssR_mem this.2
    have hyt:(textOf y).size≤9223372036854775807:=by
     have:=hks y (by simp);obtain⟨_,_,_,_,t,_⟩:=y;simp only[Sx.ok]at this;have h3:=this.2.2.1;unfold bigN at h3;simp only[textOf];omega
    have hrl:rest.length≤1048576:=(by simp at hl;omega);have ihr:=rexprs_c hrl (fun x hx=>ih x (by simp[hx]) (hks x (by simp[hx])) (hss x (by simp[hx])) (hrs x hx));have htm:=rterms_c hrl (fun x hx=>hks x (by simp[hx]));have hnm:=fun h:Heap=>rname_c (h:=h) (s:=textOf y) hyt;have q:(((Sx.rows (y::rest)).length:Int)==0)=false:=(by rw[hll];simp;omega);have r0:=Sx.rows_get (l:=y::rest) (i:=0) rfl;have q1:(1:Int)≤((Sx.rows (y::rest)).length:Int):=(by rw[hll];simp;omega);have ht:List.take (((Sx.rows (y::rest)).length:Int)-1).toNat (List.drop 1 (Sx.rows (y::rest)))=Sx.rows rest:=by
     simp only[Sx.rows,List.drop_succ_cons,List.drop_zero,List.length_cons];rw[List.take_of_length_le (by omega)]
    generalize Sx.rows (y::rest)=R at q r0 q1 ht hll⊢;rw[exprP_hd n2 e3]at hF;(try clear zz);clear ih hks hss hl hrs hsh;generalize exprs2 rest=E2 at hF ihr;generalize termsM rest=TM at hF htm;obtain⟨es,ec⟩:=E2;obtain⟨ts,tc⟩:=TM;obtain⟨yk,yv,yl,yc,yt,yks⟩:=y;simp only[Sx.cells,kindOf,textOf]at r0 hF hnm ihr htm;cases ky:(yk !=1)with
    |true=>
     rw[show(yk==1)=false by simpa using ky]at hF;simp only[cond_false]at hF;subst hF;refine uG0 Tryz.func166 Tryz.ntmps166 Tryz.results166 Ty.hb_166 ?_;replace zz:=uu k2 (uu k1 (uu q (uu r0 ky)));(repeat'(first|refine a_seq fun K hK=>?_|refine uR zz ?_|refine uT zz ?_|refine uK ?_|refine uC1 zz ?_|(refine uN hK ?_;clear hK)|apply zI));exact⟨hzero 2 _,hg1 _⟩
    |false=>
     rw[show(yk==1)=true by simpa using ky]at hF;simp only[cond_true]at hF;refine uG0 Tryz.func166 Tryz.ntmps166 Tryz.results166 Ty.hb_166 ?_;replace zz:=uu k2 (uu k1 (uu q (uu r0 ky)));(repeat'(first|with_reducible refine a_hold 6 ?_|refine a_seq fun K hK=>?_|refine uR zz ?_|refine uK ?_|refine uC1 zz ?_|(refine uN hK ?_;clear hK)|apply zI));refine⟨?_⟩;refine a_seq (fun K hK=>?_);refine a_cut (fun S h'=>S 1= .cptr [.sc (.int .i64 kind),.sc (.int .i64 value),.sc (.int .i64 line),.sc (.int .i64 col),sPV text,.imm 6 R]∧S 2= .ptr h.next 0 0∧S 4=sPV yt∧S 47= .sc (.bool (isPm yt))∧h'=h.new (.arr 5 [[.sc (.string ⟨#[]⟩),.sc (.string ⟨#[]⟩),.sc (.int .i64 0),.sc (.slice none 0 0),.sc (.slice none 0 0)]])) ?_ ?_
     ·have hpm:isPm yt=((yt.data.toList==(#[43]:Array UInt8).toList)||(yt.data.toList==(#[45]:Array UInt8).toList)||(yt.data.toList==(#[42]:Array UInt8).toList)):=rfl;rw[hpm];cases p1:(yt.data.toList==(#[43]:Array UInt8).toList)with
      |true=>
       (repeat'(first|refine uR p1 ?_|apply zI));all_goals exact⟨rfl,rfl,rfl,rfl,rfl⟩
      |false=>
       cases p2:(yt.data.toList==(#[45]:Array UInt8).toList)with
       |true=>
        (repeat'(first|refine uR (uu p1 p2) ?_|apply zI));all_goals exact⟨rfl,rfl,rfl,rfl,rfl⟩
       |false=>
        cases p3:(yt.data.toList==(#[42]:Array UInt8).toList)with
        |true=>
         (repeat'(first|refine uR (uu p1 (uu p2 p3)) ?_|apply zI));all_goals exact⟨rfl,rfl,rfl,rfl,rfl⟩
        |false=>
         (repeat'(first|refine uR (uu p1 (uu p2 p3)) ?_|apply zI));all_goals exact⟨rfl,rfl,rfl,rfl,rfl⟩
     ·rintro S h' ⟨g1,g2,g4,g47,rfl⟩;generalize isPm yt=pm at g47 hF;cases pm with
      |true=>
       simp only[cond_true]at hF;cases qc:ec==0 with
       |false=>
        have qc':(ec !=0)=true:=(by simp[bne,qc]);rw[qc]at hF;simp only[cond_false]at hF;subst hF;replace zz:=uu g1 (uu g2 (uu g4 (uu g47 (uu q1 (uu ht (uu @Int.le_refl @Int.toNat_one))))));(repeat'(first|refine a_seq fun K hK=>?_|refine uR zz ?_|refine uC1 zz ?_|apply zI));refine uU zz (ihr _) ?_;replace zz:=uu g1 (uu g2 (uu g4 (uu g47 qc')));(repeat'(first|refine a_seq fun K hK=>?_|refine uR zz ?_|refine uT zz ?_|(refine uN hK ?_;clear hK)|apply zI));exact⟨hzero _ _,hg1 _⟩
       |true=>
        have qc':(ec !=0)=false:=(by simp[bne,qc]);rw[qc]at hF;simp only[cond_true]at hF;subst hF;replace zz:=uu g1 (uu g2 (uu g4 (uu g47 (uu q1 (uu ht (uu @Int.le_refl @Int.toNat_one))))));(repeat'(first|refine a_seq fun K hK=>?_|refine uR zz ?_|refine uC1 zz ?_|apply zI));refine uU zz (ihr _) ?_;replace zz:=uu g1 (uu g2 (uu g4 (uu g47 qc')));(repeat'(first|refine a_seq fun K hK=>?_|refine uR zz ?_|refine uT zz ?_|refine uK ?_|refine uC1 zz ?_|(refine uN hK ?_;clear hK)|apply zI));refine⟨frz_tup2 (frz_agg ?_),hg1 _⟩;simp[Ex.cells,strRows,FrzL,FrzTo,exsR_in]
      |false=>
       simp only[cond_false]at hF;generalize nameB yt=bn at hnm hF;cases bn with
       |false=>
        simp only[cond_false]at hF;subst hF;replace zz:=uu g1 (uu g2 (uu g4 g47));(repeat'(first|refine a_seq fun K hK=>?_|refine uR zz ?_|refine uK ?_|refine uC1 zz ?_|(refine uN hK ?_;clear hK)|apply zI));replace zz:=uu g1 (uu g2 (uu g4 (uu g47 @Bool.not_false)));refine uU zz (hnm _) ?_;replace zz:=uu g1 (uu g2 (uu g4 @Bool.not_false));(repeat'(first|refine a_seq fun K hK=>?_|refine uR zz ?_|refine uT zz ?_|(refine uN hK ?_;clear hK)|apply zI));exact⟨hzero _ _,hg1 _⟩
       |true=>
        simp only[cond_true]at hF;cases qc:tc==0 with
        |false=>
         have qc':(tc !=0)=true:=(by simp[bne,qc]);rw[qc]at hF;simp only[cond_false]at hF;subst hF;replace zz:=uu g1 (uu g2 (uu g4 g47));(repeat'(first|refine a_seq fun K hK=>?_|refine uR zz ?_|refine uK ?_|refine uC1 zz ?_|(refine uN hK ?_;clear hK)|apply zI));replace zz:=uu g1 (uu g2 (uu g4 (uu g47 @Bool.not_true)));refine uU zz (hnm _) ?_;replace zz:=uu g1 (uu g2 (uu g4 (uu @Bool.not_true (uu q1 (uu ht (uu @Int.le_refl @Int.toNat_one))))));(repeat'(first|refine a_seq fun K hK=>?_|refine uR zz ?_|refine uK ?_|refine uC1 zz ?_|(refine uN hK ?_;clear hK)|apply zI));replace zz:=uu g1 (uu g2 (uu g4 (uu q1 (uu ht (uu @Int.le_refl @Int.toNat_one)))));refine uU zz (htm _) ?_;replace zz:=uu g1 (uu g2 (uu g4 qc'));(repeat'(first|refine a_seq fun K hK=>?_|refine uR zz ?_|refine uT zz ?_|(refine uN hK ?_;clear hK)|apply zI));exact⟨hzero _ _,hg1 _⟩
        |true=>
         have qc':(tc !=0)=false:=(by simp[bne,qc]);rw[qc]at hF;simp only[cond_true]at hF;subst hF;replace zz:=uu g1 (uu g2 (uu g4 g47));(repeat'(first|refine a_seq fun K hK=>?_|refine uR zz ?_|refine uK ?_|refine uC1 zz ?_|(refine uN hK ?_;clear hK)|apply zI));replace zz:=uu g1 (uu g2 (uu g4 (uu g47 @Bool.not_true)));refine uU zz (hnm _) ?_;replace zz:=uu g1 (uu g2 (uu g4 (uu @Bool.not_true (uu q1 (uu ht (uu @Int.le_refl @Int.toNat_one))))));(repeat'(first|refine a_seq fun K hK=>?_|refine uR zz ?_|refine uK ?_|refine uC1 zz ?_|(refine uN hK ?_;clear hK)|apply zI));replace zz:=uu g1 (uu g2 (uu g4 (uu q1 (uu ht (uu @Int.le_refl @Int.toNat_one)))));refine uU zz (htm _) ?_;replace zz:=uu g1 (uu g2 (uu g4 qc'));(repeat'(first|refine a_seq fun K hK=>?_|refine uR zz ?_|refine uT zz ?_|refine uK ?_|refine uC1 zz ?_|(refine uN hK ?_;clear hK)|apply zI));refine⟨frz_tup2 (frz_agg ?_),hg1 _⟩;simp[opFlu,Ex.cells,Ex.rows,FrzL,FrzTo,strs_in]
theorem rvalidS_c{x:Sx}(hok:x.ok)(hn:x.nodes≤bigN)(hd:x.depth≤bigN)(h:Heap):PCall Tryz.prog 21 [.agg x.cells] h fun r h'=>r= .sc (.bool (svalid x 0 0).1)∧h'=h:=by
 rw[valid_same hn];exact rvalid_c hok hd h
theorem rparams_p{vars:Bool}{l:List Sx}(hl:l.length≤1048576)(hok: ∀ x∈l,x.ok)(hnd: ∀ x∈l,x.nodes≤bigN∧x.depth≤bigN)(h:Heap):
  PCall Tryz.prog 81 [.imm 6 (Sx.rows l),.sc (.bool vars)] h fun r h'=>r= .tup [.imm 2 (pmRows (paramsP vars l).1),iN (paramsP vars l).2]∧h'=h:=by
 refine PCall.frz Ty.hb_81 ?_;have hll:=Sx.rows_len l;generalize hF:paramsP vars l=F;have bad: ∀ (c:Int)(h':Heap),Grow h h'→F=([],c)→FrzTo h.next h' (.tup [.imm 2 (pmRows F.1),iN F.2]) (.tup [.sc (.slice none 0 0),iN c])∧Grow h h':=by
  intro c h' hg hf;subst hf;exact⟨frz_tup2 (by simpa only[pmRows,List.map_nil]using frz_nilslice),hg⟩
 refine uG0 Tryz.func81 Tryz.ntmps81 Tryz.results81 Ty.hb_81 ?_;repeat'(first|refine a_seq fun K hK=>?_|refine a_block ?_|refine uR trivial ?_|(refine uN hK ?_;clear hK)|apply zI)
 refine a_loop (fun m S h'=>S 0= .imm 6 (Sx.rows l)∧S 1= .sc (.bool vars)∧ ∃ (k:Nat)(o:PV)(don:List Pm)(pen:List ByteArray),S 8= .sc (.int .i64 k)∧S 6=o∧S 7= .sc (.int .i64 pen.length)∧k≤l.length∧m=l.length-k∧don.length+pen.length≤k∧Grow h h'∧Tl h' h.next 2 o (pmRows (don++pmsOf opObj pen))∧F=paramsL vars (l.drop k) don pen) l.length ?_ ?_
 ·simp only[Ty.w,simprocAttr];exact⟨0,_,[],[],rfl,rfl,rfl,by omega,rfl,by simp,Grow.refl _,Tl.nil,by rw[← hF];try rfl⟩
 ·rintro m S h' ⟨g0,g1,k,o,don,pen,g8,g6,g7,hk,rfl,hdp,hg,tl,hinv⟩;try clear zz
  clear hF;by_cases hlt:k<l.length
  ·have hd:decide ((k:Int)<(l.length:Int))=true:=(by simp;omega);have w7:IntKind.i64.wrap ((k:Int)+1)=k+1:=(by rw[wrap64 (by omega) (by omega)]);obtain⟨x,hx⟩: ∃ x,l[k]? =some x:=⟨_,List.getElem?_eq_getElem hlt⟩;have hr:=Sx.rows_get hx;have hxk:=hok x (List.mem_of_getElem? hx);have hxn:=hnd x (List.mem_of_getElem? hx);have hv:=fun h:Heap=>rvalidS_c hxk hxn.1 hxn.2 h;have hte:=textOf_okQ hxk;rw[drop_of_get hx]at hinv;simp only[paramsL_cons,isWrd]at hinv;generalize svalid x 0 0=V at hv hinv;obtain⟨vb,vn⟩:=V;obtain⟨ki,va,li,co,te,ks⟩:=x;simp only[kindOf,textOf]at hinv hte;simp only[Sx.cells]at hr hv;have hte':te.size≤9223372036854775807:=(by unfold bigN at hte;omega);cases q1:(ki !=1)with
   |true=>
    rw[show(ki==1)=false by simpa using q1]at hinv;simp only[Bool.false_and,cond_false]at hinv;replace zz:=uu g0 (uu g1 (uu g6 (uu g7 (uu g8 (uu hll (uu hd (uu hr q1)))))));(repeat'(first|refine a_seq fun K hK=>?_|refine uR zz ?_|refine uT zz ?_|refine uK ?_|refine uC1 zz ?_|(refine uN hK ?_;clear hK)|apply zI));exact bad 2 _ hg hinv
   |false=>
    rw[show(ki==1)=true by simpa using q1]at hinv;cases vb with
    |false=>
     simp only[Bool.and_false,cond_false]at hinv;replace zz:=uu g0 (uu g1 (uu g6 (uu g7 (uu g8 (uu hll (uu hd (uu hr q1)))))));(repeat'(first|refine a_seq fun K hK=>?_|refine uR zz ?_|refine uK ?_|refine uC1 zz ?_|(refine uN hK ?_;clear hK)|apply zI));replace zz:=uu g0 (uu g1 (uu g6 (uu g7 (uu g8 (uu hll (uu hd (uu hr (uu q1 @Bool.not_false))))))));refine uU zz (hv _) ?_;replace zz:=uu g0 (uu g1 (uu g6 (uu g7 (uu g8 @Bool.not_false))));(repeat'(first|refine a_seq fun K hK=>?_|refine uR zz ?_|refine uT zz ?_|(refine uN hK ?_;clear hK)|apply zI));exact bad 2 _ hg hinv
    |true=>
     simp only[Bool.and_self,cond_true]at hinv;replace zz:=uu g0 (uu g1 (uu g6 (uu g7 (uu g8 (uu hll (uu hd (uu hr q1)))))));(repeat'(first|with_reducible refine a_hold 9 ?_|refine a_seq fun K hK=>?_|refine uR zz ?_|refine uK ?_|refine uC1 zz ?_|(refine uN hK ?_;clear hK)|apply zI));replace zz:=uu g0 (uu g1 (uu g6 (uu g7 (uu g8 (uu hll (uu hd (uu hr (uu q1 @Bool.not_true))))))));refine uU zz (hv _) ?_;replace zz:=uu g0 (uu g1 (uu g6 (uu g7 (uu g8 (uu hr @Bool.not_true)))));(repeat'(first|with_reducible refine a_hold 9 ?_|refine a_seq fun K hK=>?_|refine uR zz ?_|refine uK ?_|refine uC1 zz ?_|(refine uN hK ?_;clear hK)|apply zI));refine⟨?_⟩;refine a_gen (fun S h2=>S 0= .imm 6 (Sx.rows l)∧S 1= .sc (.bool vars)∧S 6=o∧S 7= .sc (.int .i64 pen.length)∧S 8= .sc (.int .i64 k)∧S 9=sPV te∧h2=h') ?_ ?_
     ·simp only[Ty.w,simprocAttr,g0,g1,g6,g7,g8]
     (try clear zz);clear g0 g1 g6 g7 g8 hv hr q1;rintro S h' ⟨g0,g1,g6,g7,g8,g9,rfl⟩;have hrl:(pmRows (don++pmsOf opObj pen)).length=don.length+pen.length:=(by rw[pmRows_len];simp[pmsOf]);obtain⟨n,hn⟩: ∃ n,n=don.length+pen.length:=⟨_,rfl⟩;rw[← hn]at hrl;cases q2:(te.data.toList==(#[45]:Array UInt8).toList)with
     |false=>
      have q2':(te.data.toList !=(#[45]:Array UInt8).toList)=true:=(by simp only[bne,q2,Bool.not_false]);rw[show bEq te opMin=false from q2]at hinv;simp only[cond_false]at hinv;have hap:pmRows (don++pmsOf opObj pen)++[[.sc (.string te),.sc (.string ⟨#[111,98,106,101,99,116]⟩)]]=pmRows (don++pmsOf opObj (pen++[te])):=(by simp[pmRows,pmsOf,pmRow,opObj]);have hb:(n+1)*32≤140737488355328:=(by omega);have wp:IntKind.i64.wrap ((pen.length:Int)+1)=((pen++[te]).length:Nat):=(by rw[wrap64 (by omega) (by omega)];simp);obtain⟨H,t1,t2,t3,t4,t5⟩:=tl.tail;have hkp:=t5 h ⟨hg.le,hg.old⟩ (Nat.le_refl _);have hgH:Grow h H:=⟨hkp.1,hkp.2⟩;have fin2:Grow h (H.new (.arr 2 (pmRows (don++pmsOf opObj (pen++[te])))))∧Tl (H.new (.arr 2 (pmRows (don++pmsOf opObj (pen++[te]))))) h.next 2 (.own H.next 0 (n+1)) (pmRows (don++pmsOf opObj (pen++[te]))):=
       ⟨hgH.new _,Tl.grow hkp.1 (by rw[pmRows_len];simp[pmsOf];omega)⟩
      rw[t3]at fin2;cases vars with
      |true=>
       simp only[cond_true]at hinv;have hc:=fun h:Heap=>rvariable_c (h:=h) hte';cases v1:varB te with
       |false=>
        rw[v1]at hinv hc;simp only[cond_false]at hinv;(repeat'(first|refine a_seq fun K hK=>?_|(refine a_regionS ?_;simp(maxSteps:=2000000) only[Ty.w,simprocAttr,g0,g1,g6,g7,g8,g9,q2,bne,Bool.not_true,Bool.not_false])|(refine hK _ _ ?_;clear hK;(try simp only[pst0,simprocAttr]))));replace zz:=uu g0 (uu g1 (uu g6 (uu g7 (uu g8 (uu g9 @Bool.not_false)))));refine uU zz (hc _) ?_;replace zz:=uu g0 (uu g1 (uu g6 (uu g7 (uu g8 (uu g9 (uu @Bool.not_true @Bool.not_false))))));(repeat'(first|refine a_seq fun K hK=>?_|refine uR zz ?_|refine uT zz ?_|(refine uN hK ?_;clear hK)|apply zI));exact bad 8 _ hg hinv
       |true=>
        rw[v1]at hinv hc;simp only[cond_true]at hinv;(repeat'(first|refine a_seq fun K hK=>?_|(refine a_regionS ?_;simp(maxSteps:=2000000) only[Ty.w,simprocAttr,g0,g1,g6,g7,g8,g9,q2,bne,Bool.not_true,Bool.not_false])|(refine hK _ _ ?_;clear hK;(try simp only[pst0,simprocAttr]))));replace zz:=uu g0 (uu g1 (uu g6 (uu g7 (uu g8 (uu g9 @Bool.not_true)))));refine uU zz (hc _) ?_;replace zz:=uu g0 (uu g1 (uu g6 (uu g7 (uu g8 (uu g9 (uu @Bool.not_true (uu @Bool.not_false (uu t1 (uu t2 (uu hrl (uu hb (uu hap (uu w7 wp)))))))))))));(repeat'(first|refine a_seq fun K hK=>?_|refine uR zz ?_|refine uK ?_|refine uX ?_|refine uC1 zz ?_|(refine uN hK ?_;clear hK)|(clear hK;refine uN hK ?_;clear hK)|(rw[if_pos];rotate_left 1;omega;simp(maxSteps:=2000000) only[Ty.w,simprocAttr,g0,g1,g6,g7,g8,g9,Bool.not_true,Bool.not_false,t1,t2,hrl,hb,hap,w7,wp])|apply zI));exact⟨l.length-(k+1),by omega,k+1,_,don,pen++[te],by simp,rfl,rfl,by omega,rfl,by simp;omega,fin2.1,fin2.2,hinv⟩
      |false=>
       simp only[cond_false]at hinv;have hc:=fun h:Heap=>rname_c (h:=h) hte';cases v1:nameB te with
       |false=>
        rw[v1]at hinv hc;simp only[cond_false]at hinv;(repeat'(first|refine a_seq fun K hK=>?_|(refine a_regionS ?_;simp(maxSteps:=2000000) only[Ty.w,simprocAttr,g0,g1,g6,g7,g8,g9,q2,bne,Bool.not_true,Bool.not_false])|(refine hK _ _ ?_;clear hK;(try simp only[pst0,simprocAttr]))));replace zz:=uu g0 (uu g1 (uu g6 (uu g7 (uu g8 (uu g9 @Bool.not_false)))));refine uU zz (hc _) ?_;replace zz:=uu g0 (uu g1 (uu g6 (uu g7 (uu g8 (uu g9 (uu @Bool.not_true @Bool.not_false))))));(repeat'(first|refine a_seq fun K hK=>?_|refine uR zz ?_|refine uT zz ?_|(refine uN hK ?_;clear hK)|apply zI));exact bad 8 _ hg hinv
       |true=>
        rw[v1]at hinv hc;simp only[cond_true]at hinv;(repeat'(first|refine a_seq fun K hK=>?_|(refine a_regionS ?_;simp(maxSteps:=2000000) only[Ty.w,simprocAttr,g0,g1,g6,g7,g8,g9,q2,bne,Bool.not_true,Bool.not_false])|(refine hK _ _ ?_;clear hK;(try simp only[pst0,simprocAttr]))));replace zz:=uu g0 (uu g1 (uu g6 (uu g7 (uu g8 (uu g9 @Bool.not_true)))));refine uU zz (hc _) ?_;replace zz:=uu g0 (uu g1 (uu g6 (uu g7 (uu g8 (uu g9 (uu @Bool.not_true (uu @Bool.not_false (uu t1 (uu t2 (uu hrl (uu hb (uu hap (uu w7 wp)))))))))))));(repeat'(first|refine a_seq fun K hK=>?_|refine uR zz ?_|refine uK ?_|refine uX ?_|refine uC1 zz ?_|(refine uN hK ?_;clear hK)|(clear hK;refine uN hK ?_;clear hK)|(rw[if_pos];rotate_left 1;omega;simp(maxSteps:=2000000) only[Ty.w,simprocAttr,g0,g1,g6,g7,g8,g9,Bool.not_true,Bool.not_false,t1,t2,hrl,hb,hap,w7,wp])|apply zI));exact⟨l.length-(k+1),by omega,k+1,_,don,pen++[te],by simp,rfl,rfl,by omega,rfl,by simp;omega,fin2.1,fin2.2,hinv⟩
     |true=>
      rw[show bEq te opMin=true from q2]at hinv;simp only[cond_true]at hinv;have hsl:=tl.sl;have hlo:=hsl.len;rw[hrl]at hlo;have hlk:=hsl.lk;obtain⟨k1,hk1⟩: ∃ k1:Int,k1=(k:Int)+1:=⟨_,rfl⟩;have w7:=w7.trans hk1.symm;cases hpe:pen.isEmpty with
      |true=>
       have hpe':pen=[]:=List.isEmpty_iff.1 hpe;have hF2:F=([],2):=by
        rw[hinv,hpe];split
        ·rfl
        ·rfl
       have hdd:((pen.length:Int)==0)=true:=(by rw[hpe'];simp);(repeat'(first|refine a_seq fun K hK=>?_|((first|refine a_regionS ?_|refine a_ret ?_);simp(maxSteps:=2000000) only[Ty.w,simprocAttr,g0,g1,g6,g7,g8,g9,q2,bne,Bool.not_true,w7,hdd])|(refine a_skip ?_;(try simp only[pst0,simprocAttr]))|(refine a_cond _ (by(try simp(maxSteps:=2000000) only[Ty.w,simprocAttr,g0,g1,g6,g7,g8,g9,q2,bne,Bool.not_true,w7,hdd]);rfl) (fun hb=>?_) (fun hb=>?_)<;>(try simp only[hb0,decide_eq_true_eq,decide_eq_false_iff_not,simprocAttr]at hb)<;>(try(exfalso;omega)))|(refine hK _ _ ?_;clear hK;(try simp only[pst0,simprocAttr]))));exact bad 2 _ hg hF2
      |false=>
       rw[hpe]at hinv;simp only[Bool.not_false,Bool.true_and]at hinv;have hp0:0<pen.length:=by
        cases pen with
        |nil=>simp at hpe
        |cons _ _=>simp
       have hdd:((pen.length:Int)==0)=false:=(by rw[beq_eq_false_iff_ne];omega);by_cases hl2:k+1<l.length
       ·have hd2:(k1==(l.length:Int))=false:=(by rw[hk1];simp;omega);obtain⟨y,hy⟩: ∃ y,l[k+1]? =some y:=⟨_,List.getElem?_eq_getElem hl2⟩;have hyk:=hok y (List.mem_of_getElem? hy);have hyn:=hnd y (List.mem_of_getElem? hy);have hvy:=fun h:Heap=>rvalidS_c hyk hyn.1 hyn.2 h;have htey:=textOf_okQ hyk;rw[drop_of_get hy]at hinv;simp only at hinv;have hry:(Sx.rows l)[k1.toNat]? =some y.cells:=(by rw[hk1];exact Sx.rows_get hy);generalize svalid y 0 0=V2 at hvy hinv;obtain⟨vb2,vn2⟩:=V2;obtain⟨ki2,va2,li2,co2,te2,ks2⟩:=y;simp only[kindOf,textOf]at hinv htey;simp only[Sx.cells]at hry hvy;have htey':te2.size≤9223372036854775807:=(by unfold bigN at htey;omega);have hcy:=fun h:Heap=>rname_c (h:=h) (s:=te2) htey';have hk0:(0:Int)≤k1:=(by omega);cases q3:(ki2 !=1)with
        |true=>
         rw[show(ki2==1)=false by simpa using q3]at hinv;simp only[Bool.false_and,cond_false]at hinv;(repeat'(first|refine a_seq fun K hK=>?_|((first|refine a_regionS ?_|refine a_ret ?_);simp(maxSteps:=2000000) only[Ty.w,simprocAttr,g0,g1,g6,g7,g8,g9,q2,bne,Bool.not_true,w7,hdd,hll,hd2,hry,hk0,show(!(ki2==1))=true from q3])|(refine a_skip ?_;(try simp only[pst0,simprocAttr]))|(refine a_cond _ (by(try simp(maxSteps:=2000000) only[Ty.w,simprocAttr,g0,g1,g6,g7,g8,g9,q2,bne,Bool.not_true,w7,hdd,hll,hd2,hry,hk0,show(!(ki2==1))=true from q3]);rfl) (fun hb=>?_) (fun hb=>?_)<;>(try simp only[hb0,decide_eq_true_eq,decide_eq_false_iff_not,simprocAttr]at hb)<;>(try(exfalso;omega)))|(refine hK _ _ ?_;clear hK;(try simp only[pst0,simprocAttr]))));exact bad 2 _ hg hinv
        |false=>
         rw[show(ki2==1)=true by simpa using q3]at hinv;simp only[Bool.true_and]at hinv;cases vb2 with
         |false=>
          simp only[cond_false]at hinv;(repeat'(first|refine a_seq fun K hK=>?_|(refine a_regionS ?_;simp(maxSteps:=2000000) only[Ty.w,simprocAttr,g0,g1,g6,g7,g8,g9,q2,bne,Bool.not_true,w7,hdd,hll,hd2,hry,hk0,show(!(ki2==1))=false from q3])|(refine a_skip ?_;(try simp only[pst0,simprocAttr]))|(refine a_cond _ (by(try simp(maxSteps:=2000000) only[Ty.w,simprocAttr,g0,g1,g6,g7,g8,g9,q2,bne,Bool.not_true,w7,hdd,hll,hd2,hry,hk0,show(!(ki2==1))=false from q3]);rfl) (fun hb=>?_) (fun hb=>?_)<;>(try simp only[hb0,decide_eq_true_eq,decide_eq_false_iff_not,simprocAttr]at hb)<;>(try(exfalso;omega)))|(refine hK _ _ ?_;clear hK;(try simp only[pst0,simprocAttr]))));replace zz:=uu g0 (uu g1 (uu g6 (uu g7 (uu g8 (uu hry (uu hk0 @Bool.not_false))))));refine uU zz (hvy _) ?_;replace zz:=uu g0 (uu g1 (uu g6 (uu g7 (uu g8 @Bool.not_false))));(repeat'(first|refine a_seq fun K hK=>?_|refine uR zz ?_|refine uT zz ?_|(refine uN hK ?_;clear hK)|apply zI));exact bad 2 _ hg hinv
         |true=>
          simp only[cond_true]at hinv;have hT:typedB te2=(nameB te2||(te2.data.toList==(#[111,98,106,101,99,116]:Array UInt8).toList)):=rfl;rw[hT]at hinv;(try clear zz);clear hT;(repeat'(first|(with_reducible refine a_hold 18 ?_)|refine a_seq fun K hK=>?_|(refine a_regionS ?_;simp(maxSteps:=2000000) only[Ty.w,simprocAttr,g0,g1,g6,g7,g8,g9,q2,bne,Bool.not_true,w7,hdd,hll,hd2,hry,hk0,show(!(ki2==1))=false from q3])|(refine a_skip ?_;(try simp only[pst0,simprocAttr]))|(refine a_cond _ (by(try simp(maxSteps:=2000000) only[Ty.w,simprocAttr,g0,g1,g6,g7,g8,g9,q2,bne,Bool.not_true,w7,hdd,hll,hd2,hry,hk0,show(!(ki2==1))=false from q3]);rfl) (fun hb=>?_) (fun hb=>?_)<;>(try simp only[hb0,decide_eq_true_eq,decide_eq_false_iff_not,simprocAttr]at hb)<;>(try(exfalso;omega)))|(refine hK _ _ ?_;clear hK;(try simp only[pst0,simprocAttr]))));replace zz:=uu g0 (uu g1 (uu g6 (uu g7 (uu g8 (uu hry (uu hk0 @Bool.not_true))))));refine uU zz (hvy _) ?_;replace zz:=uu g0 (uu g1 (uu g6 (uu g7 (uu g8 (uu w7 (uu hry (uu hk0 @Bool.not_true)))))));(repeat'(first|with_reducible refine a_hold 18 ?_|refine a_seq fun K hK=>?_|refine uR zz ?_|refine uK ?_|refine uC1 zz ?_|(refine uN hK ?_;clear hK)|apply zI));refine⟨?_⟩;refine a_gen (fun S h2=>S 0= .imm 6 (Sx.rows l)∧S 1= .sc (.bool vars)∧S 6=o∧S 7= .sc (.int .i64 pen.length)∧S 8= .sc (.int .i64 k1)∧S 10=sPV te2∧h2=h') ?_ ?_
          ·simp only[Ty.w,simprocAttr,g0,g1,g6,g7,g8]
          (try clear zz);clear g0 g1 g6 g7 g8 g9 w7 hry hvy hll;rintro S h' ⟨g0,g1,g6,g7,g8,g10,rfl⟩;refine a_cut (fun S h2=>S 0= .imm 6 (Sx.rows l)∧S 1= .sc (.bool vars)∧S 6=o∧S 7= .sc (.int .i64 pen.length)∧S 8= .sc (.int .i64 k1)∧S 10=sPV te2∧h2=h'∧F=paramsL vars (List.drop (k+1+1) l) (don++pmsOf te2 pen) []) ?_ ?_
          ·cases v4:(te2.data.toList==(#[111,98,106,101,99,116]:Array UInt8).toList)with
           |true=>
            rw[v4]at hinv;simp only[Bool.or_true,cond_true]at hinv;repeat'(first|refine a_seq fun K hK=>?_|(refine a_regionS ?_;simp(maxSteps:=2000000) only[Ty.w,simprocAttr,g0,g1,g6,g7,g8,g10,v4,bne,Bool.not_true])|(refine a_skip ?_;(try simp only[pst0,simprocAttr]))|(refine a_cond _ (by(try simp(maxSteps:=2000000) only[Ty.w,simprocAttr,g0,g1,g6,g7,g8,g10,v4,bne,Bool.not_true]);rfl) (fun hb=>?_) (fun hb=>?_)<;>(try simp only[hb0,decide_eq_true_eq,decide_eq_false_iff_not,simprocAttr]at hb)<;>(try(exfalso;omega)))|(refine hK _ _ ?_;clear hK;(try simp only[pst0,simprocAttr])))
            (try simp only[Ty.w,simprocAttr,g0,g1,g6,g7,g8,g10])
            exact hinv
           |false=>
            rw[v4,Bool.or_false]at hinv;cases v3:nameB te2 with
            |false=>
             rw[v3]at hinv hcy;simp only[cond_false]at hinv;(repeat'(first|refine a_seq fun K hK=>?_|(refine a_regionS ?_;simp(maxSteps:=2000000) only[Ty.w,simprocAttr,g0,g1,g6,g7,g8,g10,v4,bne,Bool.not_false])));replace zz:=uu g0 (uu g1 (uu g6 (uu g7 (uu g8 (uu g10 (uu v4 @Bool.not_false))))));refine uU zz (hcy _) ?_;replace zz:=uu g0 (uu g1 (uu g6 (uu g7 (uu g8 (uu g10 @Bool.not_false)))));(repeat'(first|refine a_seq fun K hK=>?_|refine uR zz ?_|refine uT zz ?_|(refine uN hK ?_;clear hK)|apply zI));exact bad 8 _ hg hinv
            |true=>
             rw[v3]at hinv hcy;simp only[cond_true]at hinv;(repeat'(first|refine a_seq fun K hK=>?_|(refine a_regionS ?_;simp(maxSteps:=2000000) only[Ty.w,simprocAttr,g0,g1,g6,g7,g8,g10,v4,bne,Bool.not_false,Bool.not_true])));replace zz:=uu g0 (uu g1 (uu g6 (uu g7 (uu g8 (uu g10 (uu v4 @Bool.not_true))))));refine uU zz (hcy _) ?_;replace zz:=uu g0 (uu g1 (uu g6 (uu g7 (uu g8 (uu g10 @Bool.not_true)))));repeat'(first|refine uK ?_|refine uC1 zz ?_|(refine uN hK ?_;clear hK)|apply zI)
             (try simp only[Ty.w,simprocAttr,g0,g1,g6,g7,g8,g10])
             exact hinv
          ·(try clear zz);clear g0 g1 g6 g7 g8 g10 hinv hcy;rintro S h' ⟨g0,g1,g6,g7,g8,g10,rfl,hinv⟩;obtain⟨id,i1,i2,ho,i4⟩: ∃ id,h.next≤id∧id<h'.next∧o= .own id 0 n∧h'.obj id=some (.arr 2 (pmRows (don++pmsOf opObj pen))):=by
            rcases tl with⟨hn0,_⟩|⟨id,i1,i2,i3,i4⟩
            ·rw [hn0]at hrl;simp at hrl;omega
            ·rw [hrl]at i3;exact⟨id,i1,i2,i3,i4⟩
           subst ho;(try clear zz);clear tl hsl;have ws:IntKind.i64.wrap ((n:Int)-(pen.length:Int))=((don.length+0:Nat):Int):=(by rw[wrap64 (by omega) (by omega)];omega);replace zz:=uu g0 (uu g1 (uu g6 (uu g7 (uu g8 (uu g10 (uu hlo (uu hlk ws)))))));(repeat'(first|refine a_seq fun K hK=>?_|refine a_block ?_|refine uR zz ?_|(refine uN hK ?_;clear hK)|apply zI));refine a_loop (fun m S h2=>S 0= .imm 6 (Sx.rows l)∧S 1= .sc (.bool vars)∧S 8= .sc (.int .i64 k1)∧S 6= .own id 0 n∧S 10=sPV te2∧ ∃ j:Nat,S 11= .sc (.int .i64 ((don.length+j:Nat):Int))∧j≤pen.length∧m=pen.length-j∧Grow h h2∧h2.next=h'.next∧h2.obj id=some (.arr 2 (pmRows (don++pmsOf te2 (pen.take j)++pmsOf opObj (pen.drop j))))) pen.length ?_ ?_
           ·simp only[Ty.w,simprocAttr,g0,g1,g6,g7,g8,g10];exact⟨0,rfl,by omega,rfl,hg,by simpa[pmsOf]using i4⟩
           ·(try clear zz);clear g0 g1 g6 g7 g8 g10 i4;rintro m S h2 ⟨g0,g1,g8,g6,g10,j,g11,hj,rfl,hg2,hn2,ob⟩;by_cases hjl:j<pen.length
            ·obtain ⟨q,hqn⟩: ∃ q,q=don.length+j:=⟨_,rfl⟩;obtain⟨s,hs⟩: ∃ s,pen[j]? =some s:=⟨_,List.getElem?_eq_getElem hjl⟩;obtain⟨hp1,hp2⟩:=pms_step (don:=don) (t:=te2) hs;rw[← hqn]at g11 hp1 hp2;have hdj:decide ((q:Int)<(n:Int))=true:=(by simp;omega);have wj:IntKind.i64.wrap ((q:Int)+1)=((q+1:Nat):Int):=(by rw[wrap64 (by omega) (by omega)];try rfl);have hjl2:q<n:=(by omega);generalize hR:pmRows (don++pmsOf te2 (pen.take j)++pmsOf opObj (pen.drop j))=R at ob hp1 hp2;replace zz:=uu g0 (uu g1 (uu g6 (uu g8 (uu g10 (uu g11 (uu hdj (uu wj (uu ob (uu hp1 (uu hp2 hjl2))))))))));(repeat'(first|refine a_seq fun K hK=>?_|refine a_block ?_|refine uR zz ?_|refine uQ zz fun K hK=>?_|refine uK ?_|refine uC1 zz ?_|(refine uN hK ?_;clear hK)|apply zI));refine⟨pen.length-(j+1),by omega,j+1,by rw[hqn];try rfl,by omega,rfl,hg2.set i1 _,hn2,?_⟩;try simp[Heap.set]
            ·have hje:j=pen.length:=(by omega);subst hje;rw[← hn]at g11;have hdj:decide ((n:Int)<(n:Int))=false:=(by simp);have w8:IntKind.i64.wrap (k1+1)=((k+2:Nat):Int):=(by rw[hk1,wrap64 (by omega) (by omega)];omega);rw[List.take_length,List.drop_length]at ob;have hz:pmRows (don++pmsOf te2 pen++pmsOf opObj [])=pmRows (don++pmsOf te2 pen):=(by simp[pmsOf]);rw[hz]at ob;replace zz:=uu g0 (uu g1 (uu g6 (uu g8 (uu g10 (uu g11 (uu hdj w8))))));(repeat'(first|refine a_seq fun K hK=>?_|refine uR zz ?_|refine uQ zz fun K hK=>?_|refine uX ?_|refine uC1 zz ?_|(refine uN hK ?_;clear hK)|(clear hK;refine uN hK ?_;clear hK)|apply zI));refine⟨l.length-(k+2),by omega,k+2,_,don++pmsOf te2 pen,[],rfl,rfl,rfl,by omega,rfl,by simp[pmsOf];omega,hg2,?_,hinv⟩;refine .inr ⟨id,i1,by omega,?_,?_⟩
             ·rw [pmRows_len,hn];simp[pmsOf]
             ·rw [ob];simp[pmsOf]
       ·have hke:k+1=l.length:=(by omega);have hd2:(k1==(l.length:Int))=true:=(by rw[hk1];simp;omega);rw[List.drop_eq_nil_of_le (by omega)]at hinv;simp only at hinv;(repeat'(first|refine a_seq fun K hK=>?_|((first|refine a_regionS ?_|refine a_ret ?_);simp(maxSteps:=2000000) only[Ty.w,simprocAttr,g0,g1,g6,g7,g8,g9,q2,bne,Bool.not_true,w7,hdd,hll,hd2])|(refine a_skip ?_;(try simp only[pst0,simprocAttr]))|(refine a_cond _ (by(try simp(maxSteps:=2000000) only[Ty.w,simprocAttr,g0,g1,g6,g7,g8,g9,q2,bne,Bool.not_true,w7,hdd,hll,hd2]);rfl) (fun hb=>?_) (fun hb=>?_)<;>(try simp only[hb0,decide_eq_true_eq,decide_eq_false_iff_not,simprocAttr]at hb)<;>(try(exfalso;omega)))|(refine hK _ _ ?_;clear hK;(try simp only[pst0,simprocAttr]))));exact bad 2 _ hg hinv
  ·have hd:decide ((k:Int)<(l.length:Int))=false:=(by simp;omega);rw[List.drop_eq_nil_of_le (by omega)]at hinv;simp only[paramsL]at hinv;subst hinv;replace zz:=uu g0 (uu g1 (uu g6 (uu g7 (uu g8 (uu hll hd)))));(repeat'(first|refine a_seq fun K hK=>?_|refine uR zz ?_|refine uT zz ?_|refine uX ?_|refine uC1 zz ?_|(refine uN hK ?_;clear hK)|(clear hK;refine uN hK ?_;clear hK)|apply zI));exact⟨frz_tup2 (pms_frzP tl),hg⟩
set_option maxHeartbeats 8000000
def opB(op name:ByteArray)(v:Int)(args:List ByteArray)(kids:List Ex):Bool:=
 if(op.data.toList==(#[110,117,109,98,101,114]:Array UInt8).toList)then decide (v≥ -1099511627776)&&(decide (v≤1099511627776)&&((name.data.toList==(#[]:Array UInt8).toList)&&(((args.length:Int)==0)&&((kids.length:Int)==0))))
 else if(op.data.toList==(#[102,108,117,101,110,116]:Array UInt8).toList)then(v==0)&&(nameB name&&(args.all termB&&((kids.length:Int)==0)))
 else if((op.data.toList==(#[43]:Array UInt8).toList)||((op.data.toList==(#[45]:Array UInt8).toList)||(op.data.toList==(#[42]:Array UInt8).toList)))then(v==0)&&((name.data.toList==(#[]:Array UInt8).toList)&&(((args.length:Int)==0)&&((kids.length:Int)==2)))
 else false
theorem shapedE_kid{op name:ByteArray}{v:Int}{args:List ByteArray}{kids:List Ex}(h:shapedE (.mk op name v args kids)=true): ∀ k∈kids,shapedE k=true:=by
 unfold shapedE at h;intro k hk;split at h
 ·simp only[Bool.and_eq_true,List.isEmpty_iff]at h;rw[h.1.2]at hk;simp at hk
 ·split at h
  ·simp only[Bool.and_eq_true,List.isEmpty_iff]at h;rw[h.1.1.2]at hk;simp at hk
  ·split at h
   ·simp only[Bool.and_eq_true]at h;obtain⟨_,h⟩:=h;split at h
    ·simp only[Bool.and_eq_true]at h;simp only[List.mem_cons,List.not_mem_nil,or_false]at hk;rcases hk with rfl|rfl
     ·exact h.1
     ·exact h.2
    ·simp at h
   ·simp at h
theorem shapedE_op{op name:ByteArray}{v:Int}{args:List ByteArray}{kids:List Ex}(h: ∀ k∈kids,shapedE k=true):shapedE (.mk op name v args kids)=opB op name v args kids:=by
 have n1:bEq op opNum=(op.data.toList==(#[110,117,109,98,101,114]:Array UInt8).toList):=rfl;have n2:bEq op opFlu=(op.data.toList==(#[102,108,117,101,110,116]:Array UInt8).toList):=rfl;have n3:bEq op opPls=(op.data.toList==(#[43]:Array UInt8).toList):=rfl;have n4:bEq op opMin=(op.data.toList==(#[45]:Array UInt8).toList):=rfl;have n5:bEq op opTim=(op.data.toList==(#[42]:Array UInt8).toList):=rfl;have n6:emptyB name=(name.data.toList==(#[]:Array UInt8).toList):=rfl;have n7:decide (v=0)=(v==0):=by by_cases h0:v=0<;>simp[h0]
 have n8:inNum v=(decide (v≥ -1099511627776)&&decide (v≤1099511627776)):=rfl;unfold shapedE opB;rw[n1,n2,n3,n4,n5,n6,n7,n8, ← emp_len args, ← emp_len kids];split
 ·generalize decide (v≥ -1099511627776)=a;generalize decide (v≤1099511627776)=b;generalize(name.data.toList==(#[]:Array UInt8).toList)=c;generalize((args.length:Int)==0)=d;generalize((kids.length:Int)==0)=e;cases a<;>cases b<;>cases c<;>cases d<;>cases e<;>rfl
 ·split
  ·generalize (v==0)=a;generalize nameB name=b;generalize args.all termB=c;generalize((kids.length:Int)==0)=e;cases a<;>cases b<;>cases c<;>cases e<;>rfl
  ·rw [Bool.or_assoc];split
   ·rw [Bool.and_assoc,Bool.and_assoc];congr 1;congr 1;congr 1
    match kids,h with
    |[],_=>rfl
    |[_],_=>rfl
    |[a,b],h=>simp only[h a (by simp),h b (by simp)];rfl
    |_::_::_::l,_=>simp;omega
   ·rfl
theorem rshapedE_c: ∀ e:Ex,e.ok→ ∀ h:Heap,PCall Tryz.prog 67 [.agg e.cells] h fun r h'=>r= .sc (.bool (shapedE e))∧h'=h:=by
 refine Ex.ind ?_;intro op name v args kids ih hok h;simp only[Ex.ok]at hok;obtain⟨_,hnm,_,⟨hal,hargs⟩,hkl,hks⟩:=hok;rw[Ex.oks_iff]at hks;have hnm':name.size≤9223372036854775807:=by unfold bigN at hnm;omega
 have hlA:=strRows_len args;have hlK:=Ex.rows_len kids;have hkid: ∀ k∈kids,shapedE k=false→shapedE (.mk op name v args kids)=false:=fun k hk hf=>by
  cases hh:shapedE (.mk op name v args kids)with
  |false=>rfl
  |true=>rw[shapedE_kid hh k hk]at hf;simp at hf
 have hop:(∀ k∈kids,shapedE k=true)→shapedE (.mk op name v args kids)=opB op name v args kids:=shapedE_op;generalize shapedE (.mk op name v args kids)=F at hkid hop;simp only[Ex.cells];refine uG0 Tryz.func67 Tryz.ntmps67 Tryz.results67 Ty.hb_67 ?_;repeat'(first|refine a_seq fun K hK=>?_|refine a_block ?_|refine uR hlK ?_|(refine uN hK ?_;clear hK)|apply zI)
 refine a_loop (fun m S h'=>h'=h∧S 1= .cptr (Ex.mk op name v args kids).cells∧ ∃ k:Nat,S 3= .sc (.int .i64 k)∧k≤kids.length∧m=kids.length-k∧ ∀ (i:Nat)(e:Ex),i<k→kids[i]? =some e→shapedE e=true) kids.length ?_ ?_
 ·simp only[Ty.w,simprocAttr];exact⟨rfl,0,rfl,by omega,rfl,by omega⟩
 ·rintro m S h' ⟨rfl,g1,k,g3,hkk,rfl,hall⟩;simp only[Ex.cells]at g1;by_cases hlt:k<kids.length
  ·(try clear zz);clear hop;have hd:decide ((k:Int)<(kids.length:Int))=true:=(by simp;omega);have w7:IntKind.i64.wrap ((k:Int)+1)=k+1:=(by unfold bigN at hkl;rw[wrap64 (by omega) (by omega)]);obtain⟨e,hx⟩: ∃ e,kids[k]? =some e:=⟨_,List.getElem?_eq_getElem hlt⟩;have hmem:=List.mem_of_getElem? hx;have hc:=ih e hmem (hks e hmem);have hr:=Ex.rows_get hx;have hbad:=hkid e hmem;have hgood:shapedE e=true→ ∀ (i:Nat)(e:Ex),i<k+1→kids[i]? =some e→shapedE e=true:=fun h1 i e2 hi hw=>by
    by_cases hik:i=k
    ·subst hik;rw[hx]at hw;simp at hw;rw[← hw];exact h1
    ·exact hall i e2 (by omega) hw
   generalize shapedE e=b at hc hbad hgood;(try clear zz);clear hkid hall;obtain⟨op2,name2,n2,args2,kids2⟩:=e;simp only[Ex.cells]at hr hc;cases b with
   |false=>
    have:=hbad rfl;subst this;replace zz:=uu g1 (uu g3 (uu hlK (uu hd (uu hr w7))));(repeat'(first|refine a_seq fun K hK=>?_|refine uR zz ?_|refine uK ?_|refine uC1 zz ?_|(refine uN hK ?_;clear hK)|apply zI));replace zz:=uu g1 (uu g3 (uu hlK (uu hd (uu hr @Bool.not_false))));refine uU zz (hc _) ?_;replace zz:=uu g1 (uu g3 (uu w7 @Bool.not_false));repeat'(first|refine a_seq fun K hK=>?_|refine uR zz ?_|refine uT zz ?_|(refine uN hK ?_;clear hK)|apply zI)
   |true=>
    replace zz:=uu g1 (uu g3 (uu hlK (uu hd (uu hr w7))));(repeat'(first|refine a_seq fun K hK=>?_|refine uR zz ?_|refine uK ?_|refine uC1 zz ?_|(refine uN hK ?_;clear hK)|apply zI));replace zz:=uu g1 (uu g3 (uu hlK (uu hd (uu hr @Bool.not_true))));refine uU zz (hc _) ?_;replace zz:=uu g1 (uu g3 (uu w7 @Bool.not_true));(repeat'(first|refine a_block ?_|refine uR zz ?_|refine uK ?_|(refine uN hK ?_;clear hK)|apply zI));exact⟨kids.length-(k+1),by omega,rfl,k+1,by simp,by omega,rfl,hgood rfl⟩
  ·have hd:decide ((k:Int)<(kids.length:Int))=false:=(by simp;omega);have hF:=hop fun e he=>by
    obtain⟨i,hi⟩:=List.getElem?_of_mem he;exact hall i e (by have:=(List.getElem?_eq_some_iff.1 hi).1;omega) hi
   (try clear zz);clear hop hall hkid ih;have hn:=fun h:Heap=>rname_c (h:=h) (s:=name) hnm';have hA:=fun h:Heap=>rall_c (h:=h) hal hargs;unfold opB at hF;cases k1:(op.data.toList==(#[110,117,109,98,101,114]:Array UInt8).toList)with
   |true=>
    rw[k1]at hF;simp only[if_true]at hF;cases q1:decide (v≥ -1099511627776)with
    |false=>
     rw[q1]at hF;simp only[Bool.false_and]at hF;subst hF;replace zz:=uu g1 (uu g3 (uu hd (uu hlA (uu hlK (uu k1 q1)))));repeat'(first|refine a_seq fun K hK=>?_|refine uR zz ?_|refine uT zz ?_|refine uX ?_|refine uC1 zz ?_|(refine uN hK ?_;clear hK)|(clear hK;refine uN hK ?_;clear hK)|apply zI)
    |true=>
     rw[q1,Bool.true_and]at hF;cases q2:decide (v≤1099511627776)with
     |false=>
      rw[q2]at hF;simp only[Bool.false_and]at hF;subst hF;replace zz:=uu g1 (uu g3 (uu hd (uu hlA (uu hlK (uu k1 (uu q1 q2))))));repeat'(first|refine a_seq fun K hK=>?_|refine uR zz ?_|refine uT zz ?_|refine uX ?_|refine uC1 zz ?_|(refine uN hK ?_;clear hK)|(clear hK;refine uN hK ?_;clear hK)|apply zI)
     |true=>
      rw[q2,Bool.true_and]at hF;cases q3:(name.data.toList==(#[]:Array UInt8).toList)with
      |false=>
       rw[q3]at hF;simp only[Bool.false_and]at hF;subst hF;replace zz:=uu g1 (uu g3 (uu hd (uu hlA (uu hlK (uu k1 (uu q1 (uu q2 q3)))))));repeat'(first|refine a_seq fun K hK=>?_|refine uR zz ?_|refine uT zz ?_|refine uX ?_|refine uC1 zz ?_|(refine uN hK ?_;clear hK)|(clear hK;refine uN hK ?_;clear hK)|apply zI)
      |true=>
       rw[q3,Bool.true_and]at hF;cases q4:((args.length:Int)==0)with
       |false=>
        rw[q4]at hF;simp only[Bool.false_and]at hF;subst hF;replace zz:=uu g1 (uu g3 (uu hd (uu hlA (uu hlK (uu k1 (uu q1 (uu q2 (uu q3 q4))))))));repeat'(first|refine a_seq fun K hK=>?_|refine uR zz ?_|refine uT zz ?_|refine uX ?_|refine uC1 zz ?_|(refine uN hK ?_;clear hK)|(clear hK;refine uN hK ?_;clear hK)|apply zI)
       |true=>
        rw[q4,Bool.true_and]at hF;subst hF;replace zz:=uu g1 (uu g3 (uu hd (uu hlA (uu hlK (uu k1 (uu q1 (uu q2 (uu q3 q4))))))));repeat'(first|refine a_seq fun K hK=>?_|refine uR zz ?_|refine uT zz ?_|refine uX ?_|refine uC1 zz ?_|(refine uN hK ?_;clear hK)|(clear hK;refine uN hK ?_;clear hK)|apply zI)
   |false=>
    rw[k1]at hF;simp only[Bool.false_eq_true,if_false]at hF;cases k2:(op.data.toList==(#[102,108,117,101,110,116]:Array UInt8).toList)with
    |true=>
     rw[k2]at hF;simp only[if_true]at hF;cases q1:(v==0)with
     |false=>
      rw[q1]at hF;simp only[Bool.false_and]at hF;subst hF;replace zz:=uu g1 (uu g3 (uu hd (uu hlA (uu hlK (uu k1 (uu k2 q1))))));repeat'(first|refine a_seq fun K hK=>?_|refine uR zz ?_|refine uT zz ?_|refine uX ?_|refine uC1 zz ?_|(refine uN hK ?_;clear hK)|(clear hK;refine uN hK ?_;clear hK)|apply zI)
     |true=>
      rw[q1,Bool.true_and]at hF;generalize nameB name=bn at hn hF;cases bn with
      |false=>
       simp only[Bool.false_and]at hF;subst hF;replace zz:=uu g1 (uu g3 (uu hd (uu hlA (uu hlK (uu k1 (uu k2 q1))))));(repeat'(first|refine a_seq fun K hK=>?_|refine uR zz ?_|refine uX ?_|refine uC1 zz ?_|(refine uN hK ?_;clear hK)|(clear hK;refine uN hK ?_;clear hK)|apply zI));refine uU zz (hn _) ?_;repeat'(first|refine uT zz ?_|(refine uN hK ?_;clear hK)|apply zI)
      |true=>
       rw[Bool.true_and]at hF;generalize args.all termB=ba at hA hF;cases ba with
       |false=>
        simp only[Bool.false_and]at hF;subst hF;replace zz:=uu g1 (uu g3 (uu hd (uu hlA (uu hlK (uu k1 (uu k2 q1))))));(repeat'(first|refine a_seq fun K hK=>?_|refine uR zz ?_|refine uX ?_|refine uC1 zz ?_|(refine uN hK ?_;clear hK)|(clear hK;refine uN hK ?_;clear hK)|apply zI));refine uU zz (hn _) ?_;(try apply zI);refine uU zz (hA _) ?_;repeat'(first|refine uT zz ?_|(refine uN hK ?_;clear hK)|apply zI)
       |true=>
        rw[Bool.true_and]at hF;subst hF;replace zz:=uu g1 (uu g3 (uu hd (uu hlA (uu hlK (uu k1 (uu k2 q1))))));(repeat'(first|refine a_seq fun K hK=>?_|refine uR zz ?_|refine uX ?_|refine uC1 zz ?_|(refine uN hK ?_;clear hK)|(clear hK;refine uN hK ?_;clear hK)|apply zI));refine uU zz (hn _) ?_;(try apply zI);refine uU zz (hA _) ?_;repeat'(first|refine uT zz ?_|(refine uN hK ?_;clear hK)|apply zI)
    |false=>
     rw[k2]at hF;simp only[Bool.false_eq_true,if_false]at hF;(try clear zz);clear hn hA;cases k3:(op.data.toList==(#[43]:Array UInt8).toList)with
     |true=>
      rw[k3]at hF;simp only[Bool.true_or,if_true]at hF;cases q1:(v==0)with
      |false=>
       rw[q1]at hF;simp only[Bool.false_and]at hF;subst hF;replace zz:=uu g1 (uu g3 (uu hd (uu hlA (uu hlK (uu k1 (uu k2 (uu k3 q1)))))));repeat'(first|refine a_seq fun K hK=>?_|refine uR zz ?_|refine uT zz ?_|refine uK ?_|refine uX ?_|refine uC1 zz ?_|(refine uN hK ?_;clear hK)|(clear hK;refine uN hK ?_;clear hK)|apply zI)
      |true=>
       rw[q1,Bool.true_and]at hF;cases q2:(name.data.toList==(#[]:Array UInt8).toList)with
       |false=>
        rw[q2]at hF;simp only[Bool.false_and]at hF;subst hF;replace zz:=uu g1 (uu g3 (uu hd (uu hlA (uu hlK (uu k1 (uu k2 (uu k3 (uu q1 q2))))))));repeat'(first|refine a_seq fun K hK=>?_|refine uR zz ?_|refine uT zz ?_|refine uK ?_|refine uX ?_|refine uC1 zz ?_|(refine uN hK ?_;clear hK)|(clear hK;refine uN hK ?_;clear hK)|apply zI)
       |true=>
        rw[q2,Bool.true_and]at hF;cases q3:((args.length:Int)==0)with
        |false=>
         rw[q3]at hF;simp only[Bool.false_and]at hF;subst hF;replace zz:=uu g1 (uu g3 (uu hd (uu hlA (uu hlK (uu k1 (uu k2 (uu k3 (uu q1 (uu q2 q3)))))))));repeat'(first|refine a_seq fun K hK=>?_|refine uR zz ?_|refine uT zz ?_|refine uK ?_|refine uX ?_|refine uC1 zz ?_|(refine uN hK ?_;clear hK)|(clear hK;refine uN hK ?_;clear hK)|apply zI)
        |true=>
         rw[q3,Bool.true_and]at hF;subst hF;replace zz:=uu g1 (uu g3 (uu hd (uu hlA (uu hlK (uu k1 (uu k2 (uu k3 (uu q1 (uu q2 q3)))))))));repeat'(first|refine a_seq fun K hK=>?_|refine uR zz ?_|refine uT zz ?_|refine uK ?_|refine uX ?_|refine uC1 zz ?_|(refine uN hK ?_;clear hK)|(clear hK;refine uN hK ?_;clear hK)|apply zI)
     |false=>
      rw[k3]at hF;simp only[Bool.false_or]at hF;cases k4:(op.data.toList==(#[45]:Array UInt8).toList)with
      |true=>
       rw[k4]at hF;simp only[Bool.true_or,if_true]at hF;cases q1:(v==0)with
       |false=>
        rw[q1]at hF;simp only[Bool.false_and]at hF;subst hF;replace zz:=uu g1 (uu g3 (uu hd (uu hlA (uu hlK (uu k1 (uu k2 (uu k3 (uu k4 q1))))))));repeat'(first|refine a_seq fun K hK=>?_|refine uR zz ?_|refine uT zz ?_|refine uK ?_|refine uX ?_|refine uC1 zz ?_|(refine uN hK ?_;clear hK)|(clear hK;refine uN hK ?_;clear hK)|apply zI)
       |true=>
        rw[q1,Bool.true_and]at hF;cases q2:(name.data.toList==(#[]:Array UInt8).toList)with
        |false=>
         rw[q2]at hF;simp only[Bool.false_and]at hF;subst hF;replace zz:=uu g1 (uu g3 (uu hd (uu hlA (uu hlK (uu k1 (uu k2 (uu k3 (uu k4 (uu q1 q2)))))))));repeat'(first|refine a_seq fun K hK=>?_|refine uR zz ?_|refine uT zz ?_|refine uK ?_|refine uX ?_|refine uC1 zz ?_|(refine uN hK ?_;clear hK)|(clear hK;refine uN hK ?_;clear hK)|apply zI)
        |true=>
         rw[q2,Bool.true_and]at hF;cases q3:((args.length:Int)==0)with
         |false=>
          rw[q3]at hF;simp only[Bool.false_and]at hF;subst hF;replace zz:=uu g1 (uu g3 (uu hd (uu hlA (uu hlK (uu k1 (uu k2 (uu k3 (uu k4 (uu q1 (uu q2 q3))))))))));repeat'(first|refine a_seq fun K hK=>?_|refine uR zz ?_|refine uT zz ?_|refine uK ?_|refine uX ?_|refine uC1 zz ?_|(refine uN hK ?_;clear hK)|(clear hK;refine uN hK ?_;clear hK)|apply zI)
         |true=>
          rw[q3,Bool.true_and]at hF;subst hF;replace zz:=uu g1 (uu g3 (uu hd (uu hlA (uu hlK (uu k1 (uu k2 (uu k3 (uu k4 (uu q1 (uu q2 q3))))))))));repeat'(first|refine a_seq fun K hK=>?_|refine uR zz ?_|refine uT zz ?_|refine uK ?_|refine uX ?_|refine uC1 zz ?_|(refine uN hK ?_;clear hK)|(clear hK;refine uN hK ?_;clear hK)|apply zI)
      |false=>
       rw[k4]at hF;simp only[Bool.false_or]at hF;cases k5:(op.data.toList==(#[42]:Array UInt8).toList)with
       |true=>
        rw[k5]at hF;simp only[if_true]at hF;cases q1:(v==0)with
        |false=>
         rw[q1]at hF;simp only[Bool.false_and]at hF;subst hF;replace zz:=uu g1 (uu g3 (uu hd (uu hlA (uu hlK (uu k1 (uu k2 (uu k3 (uu k4 (uu k5 q1)))))))));repeat'(first|refine a_seq fun K hK=>?_|refine uR zz ?_|refine uT zz ?_|refine uX ?_|refine uC1 zz ?_|(refine uN hK ?_;clear hK)|(clear hK;refine uN hK ?_;clear hK)|apply zI)
        |true=>
         rw[q1,Bool.true_and]at hF;cases q2:(name.data.toList==(#[]:Array UInt8).toList)with
         |false=>
          rw[q2]at hF;simp only[Bool.false_and]at hF;subst hF;replace zz:=uu g1 (uu g3 (uu hd (uu hlA (uu hlK (uu k1 (uu k2 (uu k3 (uu k4 (uu k5 (uu q1 q2))))))))));repeat'(first|refine a_seq fun K hK=>?_|refine uR zz ?_|refine uT zz ?_|refine uX ?_|refine uC1 zz ?_|(refine uN hK ?_;clear hK)|(clear hK;refine uN hK ?_;clear hK)|apply zI)
         |true=>
          rw[q2,Bool.true_and]at hF;cases q3:((args.length:Int)==0)with
          |false=>
           rw[q3]at hF;simp only[Bool.false_and]at hF;subst hF;replace zz:=uu g1 (uu g3 (uu hd (uu hlA (uu hlK (uu k1 (uu k2 (uu k3 (uu k4 (uu k5 (uu q1 (uu q2 q3)))))))))));repeat'(first|refine a_seq fun K hK=>?_|refine uR zz ?_|refine uT zz ?_|refine uX ?_|refine uC1 zz ?_|(refine uN hK ?_;clear hK)|(clear hK;refine uN hK ?_;clear hK)|apply zI)
          |true=>
           rw[q3,Bool.true_and]at hF;subst hF;replace zz:=uu g1 (uu g3 (uu hd (uu hlA (uu hlK (uu k1 (uu k2 (uu k3 (uu k4 (uu k5 (uu q1 (uu q2 q3)))))))))));repeat'(first|refine a_seq fun K hK=>?_|refine uR zz ?_|refine uT zz ?_|refine uX ?_|refine uC1 zz ?_|(refine uN hK ?_;clear hK)|(clear hK;refine uN hK ?_;clear hK)|apply zI)
       |false=>
        rw[k5]at hF;simp only[Bool.false_eq_true,if_false]at hF;subst hF;replace zz:=uu g1 (uu g3 (uu hd (uu hlA (uu hlK (uu k1 (uu k2 (uu k3 (uu k4 k5))))))));repeat'(first|refine a_seq fun K hK=>?_|refine a_block ?_|refine uR zz ?_|refine uT zz ?_|refine uK ?_|refine uX ?_|refine uC1 zz ?_|(refine uN hK ?_;clear hK)|(clear hK;refine uN hK ?_;clear hK)|apply zI)
theorem nodess_append: ∀ l m:List Sx,Sx.nodess (l++m)=Sx.nodess l+Sx.nodess m
 |[],m=>by simp[Sx.nodess]
 |k::l,m=>by simp only[List.cons_append,Sx.nodess,nodess_append l m];omega
theorem list_nodes(l:List Sx):(listM l).nodes=Sx.nodess l+1:=by simp only[listM,Sx.nodes]
theorem word_nodes(s:ByteArray):(wordM s).nodes=1:=by simp[wordM,Sx.nodes,Sx.nodess]
theorem formed_of: ∀ (e:Ex),shapedE e=true→ ∀ (d n:Nat),d+(exW e).depth≤32→n+(exW e).nodes≤4096→(formedM e d n).1=true∧(formedM e d n).2≤n+(exW e).nodes:=by
 refine Ex.ind ?_;intro op name v args kids ih hs d n hd hn;unfold shapedE at hs;unfold exW at hd hn⊢;unfold formedM;cases c1:bEq op opNum with
 |true=>
  rw[c1]at hs hd hn;simp only[if_true]at hs hd hn⊢;simp only[Sx.nodes,Sx.nodess]at hn⊢;rw[if_pos ⟨by omega,by omega⟩];exact⟨hs,by simp only;omega⟩
 |false=>
  rw[c1]at hs hd hn;simp only[Bool.false_eq_true,if_false]at hs hd hn⊢;cases c2:bEq op opFlu with
  |true=>
   rw[c2]at hs hd hn;simp only[if_true]at hs hd hn⊢;simp only[wordsM,listM,Sx.nodes]at hn⊢;rw[if_pos ⟨by omega,by omega⟩];exact⟨hs,by simp only;omega⟩
  |false=>
   rw[c2]at hs hd hn;simp only[Bool.false_eq_true,if_false]at hs hd hn⊢;split at hs
   case isFalse=>simp at hs
   rename_i hop;rw[if_pos hop];rw[Bool.and_eq_true]at hs;obtain⟨h1,h2⟩:=hs;rw[h1];simp only[if_true];split at h2
   case h_2=>simp at h2
   rename_i a b;simp only[Bool.and_eq_true]at h2;simp only[listM,Sx.depth,Sx.depths,Sx.nodes,Sx.nodess,wordM,if_true]at hd hn⊢;have k1:¬ ((1:Int)=3):=(by omega);rw[if_neg k1]at hd;rw[if_pos ⟨by omega,by omega⟩];obtain⟨f1,f2⟩:=ih a (by simp) h2.1 (d+1) (n+1) (by omega) (by omega);cases hw:formedM a (d+1) (n+1)with
   |mk x c=>
    rw[hw]at f1 f2;simp only at f1 f2;subst f1;simp only;obtain⟨g1,g2⟩:=ih b (by simp) h2.2 (d+1) c (by omega) (by omega);exact⟨g1,by omega⟩
end Go.Proofs.YtjeolbgpllbemaaGreat
namespace Go.AM
open Go.ChangeShapes Go.WideShapes
def partsT(P:Program)(t:TypeId):List (Nat × TypeId):=match P.underlying t with
 |some (.struct fs)=>fs.toList.map fun f=>(f.offset,f.type)
 |some (.array n e)=>(List.range n).map fun i=>(i*P.cellsOf e,e)
 |_=>[]
def inRow(P:Program)(e:Nat):Nat→List (Nat × TypeId)→Bool
 |o,[]=>o==e
 |o,p::l=>p.1==o&&inRow P e (o+P.cellsOf p.2) l
def Arg(P:Program):Nat→TypeId→List PV→Prop
 |0,_,_=>False
 |f+1,t,ps=>match P.underlying t with
  |some .bool=> ∃ b,ps=[.sc (.bool b)]
  |some (.int k)=> ∃ n,(Lit.int k n).wf=true∧ps=[.sc (.int k n)]
  |some .string=> ∃ s:ByteArray,s.size≤reachBytes∧ps=[.sc (.string s)]
  |some (.slice e)=> ∃ rows,ps=[.imm (P.cellsOf e) rows]∧rows.length*P.bytesOf e≤reachBytes∧rows.length≤maxLen∧ ∀ r∈rows,r.length=P.cellsOf e∧Arg P f e r
  |some (.struct _)=>ps.length=P.cellsOf t∧ ∀ p∈partsT P t,Arg P f p.2 ((ps.drop p.1).take (P.cellsOf p.2))
  |some (.array _ _)=>ps.length=P.cellsOf t∧ ∀ p∈partsT P t,Arg P f p.2 ((ps.drop p.1).take (P.cellsOf p.2))
  |_=>False
section
variable {H:Type}{enc:TypeId × Value→H}{P:Program}{w:World}{sp:Nat→Bool}{held:Bool}
def RA(w:World)(ps:List PV)(cs:List Value):Prop:=(∀ v∈cs,v.oneCell'=true)∧ ∀ β n,RepL β n (fun b=>b<w.heap.size) w ps cs
theorem RA.len{ps:List PV}{cs:List Value}(h:RA w ps cs):ps.length=cs.length:=(h.2 ⟨fun _=>⟨none,0,0,0⟩,fun _=>False⟩ 0).len
theorem RA.append{ps ps':List PV}{cs cs':List Value}(h:RA w ps cs)(k:RA w ps' cs'):RA w (ps++ps') (cs++cs'):=
 ⟨fun v hv=>by exact(List.mem_append.1 hv).elim (h.1 v) (k.1 v),fun β n=>(h.2 β n).append (k.2 β n)⟩
theorem inRow_le{e:Nat}:(l:List (Nat × TypeId))→(o:Nat)→inRow P e o l=true→o≤e∧ ∀ p∈l,o≤p.1∧p.1+P.cellsOf p.2≤e
 |[],o,h=>by simp[inRow]at h;simp[h]
 |p::l,o,h=>by
  simp only[inRow,Bool.and_eq_true,beq_iff_eq]at h;obtain⟨h1,h2⟩:=inRow_le l _ h.2;refine⟨by omega,fun q hq=>?_⟩;rcases List.mem_cons.1 hq with rfl|hq
  ·omega
  ·have:=h2 q hq;omega
theorem exists_list{α:Type}{R:Nat→α→Prop}:(n:Nat)→(∀ i,i<n→ ∃ x,R i x)→ ∃ l:List α,l.length=n∧ ∀ i x,l[i]? =some x→R i x
 |0,_=>⟨[],rfl,by simp⟩
 |n+1,h=>by
  obtain⟨l,h1,h2⟩:=exists_list n (fun i hi=>h i (by omega));obtain⟨x,hx⟩:=h n (by omega);refine⟨l++[x],by simp[h1],fun i y hy=>?_⟩;rw[List.getElem?_append]at hy;split at hy
  ·exact h2 i y hy
  ·rename_i hi;have:i=n:=by
    have:=(List.getElem?_eq_some_iff.1 hy).1;simp at this;omega
   subst this;rw[h1]at hy;simp at hy;subst hy;exact hx
theorem weightsAll_mem{e:TypeId}{n:Nat}:{ds:List (DataW H)}→{i:Nat}→{d:DataW H}→ds[i]? =some d→n∈d.weights P e→n∈DataW.weightsAll P e ds
 |[],_,_,h,_=>by simp at h
 |d0::ds,0,d,h,hn=>by
  simp at h;subst h;simp only[DataW.weightsAll,List.mem_append];exact .inl hn
 |d0::ds,i+1,d,h,hn=>by
  simp at h;simp only[DataW.weightsAll,List.mem_append];exact .inr (weightsAll_mem h hn)
theorem sc_RA{v:Value}(h:v.oneCell'=true):RA w [.sc v] [v]:=
 ⟨fun u hu=>by simp at hu;subst hu;exact h,fun β n=>by simp only[RepL,Rep];exact⟨trivial,trivial⟩⟩
end
end Go.AM
namespace Go.AM
open Go.ChangeShapes Go.WideShapes
section
variable {H:Type}{enc:TypeId × Value→H}{P:Program}{w:World}{sp:Nat→Bool}{held:Bool}
def covC(P:Program)(Ts:List TypeId):Bool:=Ts.all fun t=>match P.underlying t with
 |some .bool=>true
 |some (.int _)=>true
 |some .string=>true
 |some (.slice e)=>decide (0<P.cellsOf e)&&Ts.contains e
 |some (.struct _)=>inRow P (P.cellsOf t) 0 (partsT P t)&&(partsT P t).all fun p=>Ts.contains p.2
 |some (.array _ _)=>inRow P (P.cellsOf t) 0 (partsT P t)&&(partsT P t).all fun p=>Ts.contains p.2
 |_=>false
end
end Go.AM
namespace Go.AM
open Go.ChangeShapes Go.WideShapes
open Go.Proofs.YtjeolbgpllbemaaGreat
mutual
def PV.bulk:PV→Nat
 | .sc (.string s)=>s.size+1
 | .imm _ rows=>PV.bulkR rows+1
 |_=>1
def PV.bulkL:List PV→Nat
 |[]=>0
 |p::ps=>p.bulk+PV.bulkL ps
def PV.bulkR:List (List PV)→Nat
 |[]=>0
 |r::rs=>PV.bulkL r+PV.bulkR rs
end
theorem PV.bulkL_append: ∀ l m:List PV,PV.bulkL (l++m)=PV.bulkL l+PV.bulkL m
 |[],m=>by simp[PV.bulkL]
 |p::l,m=>by simp only[List.cons_append,PV.bulkL,PV.bulkL_append l m];omega
theorem List.getElem?_range_some{k i j:Nat}(h:(List.range k)[i]? =some j):i<k∧i=j:=by
 have h1:=(List.getElem?_eq_some_iff.1 h).1;simp at h1;rw[List.getElem?_range h1]at h;simp at h;exact⟨h1,h⟩
section
variable {H:Type}{enc:TypeId × Value→H}{P:Program}{w:World}{sp:Nat→Bool}{held:Bool}
theorem bulkR_le: ∀ (rows:List (List PV))(ds:List (DataW H)),rows.length=ds.length→(∀ (i:Nat)(r:List PV),rows[i]? =some r→ ∃ d,ds[i]? =some d∧PV.bulkL r≤Rows.uptoBulk d)→PV.bulkR rows≤Rows.uptoBulkAll ds
 |[],_,_,_=>by simp[PV.bulkR]
 |r::rows,[],h,_=>by simp at h
 |r::rows,d::ds,h,hb=>by
  have h1:=bulkR_le rows ds (by simpa using h) fun i q hq=>by simpa using hb (i+1) q (by simpa using hq)
  obtain⟨d',h2,h3⟩:=hb 0 r rfl;simp at h2;subst h2;simp only[PV.bulkR,Rows.uptoBulkAll];omega
theorem parts_rep5{c:Nat}{cs:List Value}:(l:List (Nat × TypeId))→(ds:List (DataW H))→(o:Nat)→inRow P cs.length o l=true→
  (∀ (i:Nat)(p:Nat × TypeId),l[i]? =some p→ ∃ d,ds[i]? =some d∧ ∃ ps,Arg P c p.2 ps∧RA w ps ((cs.drop p.1).take (P.cellsOf p.2))∧PV.bulkL ps≤Rows.uptoBulk d)→
  ∃ ps,RA w ps (cs.drop o)∧(∀ p∈l,Arg P c p.2 ((ps.drop (p.1-o)).take (P.cellsOf p.2)))∧PV.bulkL ps≤Rows.uptoBulkAll ds
 |[],ds,o,h,_=>by
  simp[inRow]at h;refine⟨[],⟨?_,fun β n=>?_⟩,by simp,by simp[PV.bulkL]⟩
  ·rw [List.drop_of_length_le (by omega)];simp
  ·rw [List.drop_of_length_le (by omega)];simp[RepL]
 |p::l,[],o,h,hp=>by
  obtain⟨d,hd,_⟩:=hp 0 p rfl;simp at hd
 |p::l,d::ds,o,h,hp=>by
  have hle:=(inRow_le (p::l) o h).2 p (by simp);simp only[inRow,Bool.and_eq_true,beq_iff_eq]at h;obtain⟨ps,h1,h2,h20⟩:=parts_rep5 l ds _ h.2 (fun i q hq=>by simpa using hp (i+1) q (by simpa using hq));obtain⟨d',hd,ps0,h3,h4,h40⟩:=hp 0 p rfl;simp at hd;subst hd;have hl2:=(inRow_le l _ h.2).2;have e0:p.1=o:=h.1;have l0:ps0.length=P.cellsOf p.2:=by rw[h4.len,List.length_take,List.length_drop];omega
  refine⟨ps0++ps,?_,fun q hq=>?_,by rw[PV.bulkL_append];simp only[Rows.uptoBulkAll];omega⟩
  ·have:cs.drop o=(cs.drop p.1).take (P.cellsOf p.2)++cs.drop (o+P.cellsOf p.2):=by
    rw[e0, ← List.drop_drop,List.take_append_drop]
   rw[this];exact h4.append h1
  ·rcases List.mem_cons.1 hq with rfl|hq
   ·rw [e0,Nat.sub_self,List.drop_zero,List.take_append_of_le_length (by omega),List.take_of_length_le (by omega)];exact h3
   ·have h5:=hl2 q hq;have:q.1-o=ps0.length+(q.1-(o+P.cellsOf p.2)):=(by omega);rw[this, ← List.drop_drop,List.drop_left];exact h2 q hq
theorem arg_rec5{Ts:List TypeId}(hT:covC P Ts=true): ∀ (fuel:Nat)(t:TypeId),Ts.contains t=true→ ∀ (cs:List Value)(x:DataW H × List MemPlace),DataW.trod enc P w 0 sp held fuel t cs=some x→(∀ n∈x.1.weights P t,n≤reachBytes)→
  ∃ ps,Arg P fuel t ps∧RA w ps cs∧PV.bulkL ps≤Rows.uptoBulk x.1
 |0,_,_,_,_,hx,_=>by simp[DataW.trod]at hx
 |c+1,t,ht,cs,x,hx,hw=>by
  have h:=List.all_eq_true.1 hT t (by simpa using ht);split at h
  ·rename_i hu;obtain⟨b,rfl,rfl⟩:=DataW.trod_bool hu hx;refine⟨[.sc (.bool b)],?_,sc_RA rfl,by simp[PV.bulkL,PV.bulk,Rows.uptoBulk]⟩;unfold Arg;rw[hu];exact⟨b,rfl⟩
  ·rename_i k hu;obtain⟨n,rfl,rfl,hwf⟩:=DataW.trod_int hu hx;refine⟨[.sc (.int k n)],?_,sc_RA rfl,by simp[PV.bulkL,PV.bulk,Rows.uptoBulk]⟩;unfold Arg;rw[hu];exact⟨n,hwf,rfl⟩
  ·rename_i hu;obtain⟨s,rfl,rfl,hs⟩:=DataW.trod_string hu hx;refine⟨[.sc (.string s)],?_,sc_RA rfl,by have e:s.data.toList.length=s.size:=by{rw[Array.length_toList];try rfl};simp only[PV.bulkL,PV.bulk,Rows.uptoBulk];omega⟩;unfold Arg;rw[hu];refine⟨s,?_,rfl⟩;have:=hw s.data.toList.length (by simp[DataW.weights]);simpa using this
  ·rename_i e hu;simp only[Bool.and_eq_true,decide_eq_true_eq]at h;obtain⟨hpos,hcov⟩:=h;rcases DataW.trod_slice hu hx with⟨rfl,rfl⟩|⟨a,len,cap,elems,rest,n,hfu,rfl,rfl,hb,hl,hm,hlen,hel,hsp,hns⟩
   ·refine ⟨[.imm (P.cellsOf e) []],?_,⟨fun v hv=>?_,fun β n=>?_⟩,by simp[PV.bulkL,PV.bulk,PV.bulkR,Rows.uptoBulk]⟩
    ·unfold Arg;rw[hu];exact⟨[],rfl,by simp,by simp,by simp⟩
    ·simp at hv;subst hv;rfl
    ·simp only[RepL,Rep];exact⟨⟨none,0,rfl,Nat.le_refl _,Nat.zero_le _,.inl (by trivial)⟩,trivial⟩
   ·obtain rfl:c=n:=(by omega);have each: ∀ i,i<len→ ∃ r:List PV,(r.length=P.cellsOf e∧Arg P c e r∧ ∃ d,(elems.map (·.1))[i]? =some d∧PV.bulkL r≤Rows.uptoBulk d)∧ ∃ ci,RA w r ci∧ci.length=P.cellsOf e∧ ∀ j,j<P.cellsOf e→w.cell? ((a.add (i*P.cellsOf e)).add j)=ci[j]?:=by
     intro i hi;have h1:=hel i hi;have h2:elems[i]? =some (elems[i]'(by omega)):=List.getElem?_eq_getElem _;rw[h2,Option.bind_eq_some_iff]at h1;obtain⟨ci,h3,h4⟩:=h1;obtain⟨_,h5,h6⟩:=World.cells?_some h3;obtain⟨r,h7,h8,h80⟩:=arg_rec5 hT c e hcov ci _ h4 (fun m hm=>hw m (by
      simp only[DataW.weights,hu,List.mem_cons,List.mem_append];exact .inr (.inl (weightsAll_mem (i:=i) (by rw[List.getElem?_map,h2];try rfl) hm))))
     exact⟨r,⟨by rw[h8.len,h5],h7,_,by rw[List.getElem?_map,h2];try rfl,h80⟩,ci,h8,h5,h6⟩
    obtain⟨rows,hrl,hrows⟩:=exists_list len each;refine⟨[.imm (P.cellsOf e) rows],?_,⟨fun v hv=>?_,fun β m=>?_⟩,?_⟩
    ·unfold Arg;rw[hu];refine⟨rows,rfl,?_,by omega,fun r hr=>?_⟩
     ·have:=hw ((elems.map (·.1)).length*P.bytesOf e+(rest.map (·.1)).length*P.bytesOf e) (by
       simp only[DataW.weights,hu,List.mem_cons,Nat.add_mul,true_or])
      have h9:rows.length=(elems.map (·.1)).length:=(by simp[hrl,hlen]);rw[h9];exact Nat.le_trans (Nat.le_add_right _ _) this
     ·obtain ⟨i,hi⟩:=List.getElem?_of_mem hr;exact⟨(hrows i r hi).1.1,(hrows i r hi).1.2.1⟩
    ·simp at hv;subst hv;rfl
    ·simp only[RepL,Rep];refine⟨⟨some a,cap,by rw[hrl],by omega,hm,?_⟩,trivial⟩;by_cases h0:len=0
     ·left;exact List.length_eq_zero_iff.1 (by omega)
     ·right;obtain⟨_,_,c0,_,hc0,hcell0⟩:=each 0 (by omega);have h10:=hcell0 0 hpos;rw[List.getElem?_eq_getElem (by omega)]at h10;simp only[Nat.zero_mul,Addr.add,if_true]at h10;have hs:a.spot=none:=by
       unfold World.cell? at h10;split at h10
       ·split at h10
        ·simp at h10
        ·rename_i hsp;simpa using hsp
       ·simp at h10
      have hblk:a.block<w.heap.size:=by
       unfold World.cell? at h10;split at h10
       ·rename_i hh;exact(Array.getElem?_eq_some_iff.1 hh).1
       ·simp at h10
      refine⟨a.block,a.off,hblk,by cases a;simp only at hs;subst hs;rfl,?_⟩;rw[RepR_iff];intro i r hr;obtain⟨⟨g1,_⟩,ci,g2,g3,g4⟩:=hrows i r hr;refine⟨g1,?_⟩;rw[RepS_iff];intro j p hp;obtain⟨v,hv,hrep⟩:=(g2.2 β m).get hp;have hj:j<P.cellsOf e:=(by rw[← g3];exact(List.getElem?_eq_some_iff.1 hv).1);refine⟨v,?_,g2.1 v (List.mem_of_getElem? hv),hrep⟩;rw[← hv, ← g4 j hj];congr 1;cases a;simp only at hs;subst hs;simp only[Addr.add];split<;>split<;>simp_all<;>omega
    ·have hb5:=bulkR_le rows (elems.map (·.1)) (by simp[hrl,hlen]) fun i r hr=>(hrows i r hr).1.2.2;simp only[PV.bulkL,PV.bulk,Rows.uptoBulk];omega
  ·rename_i fs hu;simp only[Bool.and_eq_true,List.all_eq_true]at h;obtain⟨xs,n,hfu,rfl,hcl,hxl,hp⟩:=DataW.trod_struct hu hx;obtain rfl:c=n:=(by omega);have hpt:partsT P t=fs.toList.map fun f=>(f.offset,f.type):=(by unfold partsT;rw[hu]);obtain⟨ps,h1,h2,h30⟩:=parts_rep5 (w:=w) (c:=c) (cs:=cs) (partsT P t) (xs.map (·.1)) 0 (by rw[hcl];exact h.1) (fun i p hi=>by
    have hcv:=h.2 p (List.mem_of_getElem? hi);rw[hpt]at hi;rw[List.getElem?_map,Option.map_eq_some_iff]at hi;obtain⟨f,hf,rfl⟩:=hi;have hf':fs[i]? =some f:=(by simpa using hf);have hi':i<xs.length:=by
     rw[hxl];exact(Array.getElem?_eq_some_iff.1 hf').1
    have h3:=hp i f hf';rw[List.getElem?_eq_getElem hi']at h3;exact⟨xs[i].1,by rw[List.getElem?_map,List.getElem?_eq_getElem hi'];try rfl,arg_rec5 hT c f.type hcv _ _ h3 (fun m hm=>hw m (by
     simp only[DataW.weights,hu];exact DataW.weights_mem_each (j:=i) (t:=f.type) (d:=xs[i].1) (by rw[List.getElem?_map,hf];try rfl) (by rw[List.getElem?_map,List.getElem?_eq_getElem hi'];try rfl) m hm))⟩)
   refine⟨ps,?_,by simpa using h1,by simp only[Rows.uptoBulk];omega⟩;unfold Arg;rw[hu];exact⟨by rw[h1.len,List.drop_zero,hcl],fun p hpm=>by simpa using h2 p hpm⟩
  ·rename_i k e hu;simp only[Bool.and_eq_true,List.all_eq_true]at h;obtain⟨xs,n,hfu,rfl,hcl,hxl,hp⟩:=DataW.trod_array hu hx;obtain rfl:c=n:=(by omega);have hpt:partsT P t=(List.range k).map fun i=>(i*P.cellsOf e,e):=(by unfold partsT;rw[hu]);obtain⟨ps,h1,h2,h30⟩:=parts_rep5 (w:=w) (c:=c) (cs:=cs) (partsT P t) (xs.map (·.1)) 0 (by rw[hcl];exact h.1) (fun i p hi=>by
    have hcv:=h.2 p (List.mem_of_getElem? hi);rw[hpt,List.getElem?_map,Option.map_eq_some_iff]at hi;obtain⟨j,hj,rfl⟩:=hi;obtain⟨hjk,rfl⟩:=List.getElem?_range_some hj;have hi':i<xs.length:=(by rw[hxl];exact hjk);have h3:=hp i hjk;rw[List.getElem?_eq_getElem hi']at h3;exact⟨xs[i].1,by rw[List.getElem?_map,List.getElem?_eq_getElem hi'];try rfl,arg_rec5 hT c e hcv _ _ h3 (fun m hm=>hw m (by
     simp only[DataW.weights,hu];exact weightsAll_mem (i:=i) (d:=xs[i].1) (by rw[List.getElem?_map,List.getElem?_eq_getElem hi'];try rfl) hm))⟩)
   refine⟨ps,?_,by simpa using h1,by simp only[Rows.uptoBulk];omega⟩;unfold Arg;rw[hu];exact⟨by rw[h1.len,List.drop_zero,hcl],fun p hpm=>by simpa using h2 p hpm⟩
  ·simp at h
theorem arg_value5{Ts:List TypeId}(hT:covC P Ts=true){t:TypeId}(ht:Ts.contains t=true){fs:Array Field}(hu:P.underlying t=some (.struct fs)){v:Value}{d:DataW H}{pl:List MemPlace}
  (h:DataW.Trod enc P w 0 sp held t v d pl)(hv: ∃ base,Value.okWide P w .any base t v)(hw: ∀ n∈d.weights P t,n≤reachBytes):
  ∃ c ps,Arg P c t ps∧(∀ β n,Rep β n (fun b=>b<w.heap.size) w (.agg ps) v)∧PV.bulkL ps≤Rows.uptoBulk d:=by
 obtain⟨fuel,hf⟩:=h;obtain⟨ps,h1,h2,h3⟩:=arg_rec5 hT fuel t ht _ _ hf hw;obtain⟨base,hv⟩:=hv;unfold Value.okWide at hv;simp only[hu]at hv;obtain⟨cs,rfl,_⟩:=hv;refine⟨fuel,ps,h1,fun β n=>?_,h3⟩;simp only[Rep];exact⟨cs.toList,by simp,h2.1,h2.2 β n⟩
end
end Go.AM
namespace Go.AM
mutual
theorem Sx.depth_nodes: ∀ (x:Sx),x.depth≤x.nodes
 | .mk kind _ _ _ _ kids=>by
  have:=Sx.depths_nodes kids 0;simp only[Sx.depth,Sx.nodes];split<;>omega
theorem Sx.depths_nodes: ∀ (l:List Sx)(m:Nat),Sx.depths m l≤max m (Sx.nodess l)
 |[],m=>by simp[Sx.depths,Sx.nodess]
 |k::ks,m=>by
  have h1:=Sx.depth_nodes k;have h2:=Sx.depths_nodes ks (max m k.depth);simp only[Sx.depths,Sx.nodess];omega
end
end Go.AM
namespace Go.Proofs.YtjeolbgpllbemaaGreat
open Go.AM
theorem nodess_words: ∀ l:List ByteArray,Sx.nodess (l.map wordM)=l.length
 |[]=>rfl
 |s::l=>by simp only[List.map_cons,Sx.nodess,word_nodes,nodess_words l,List.length_cons];omega
theorem words_nodes(first:ByteArray)(l:List ByteArray):(wordsM first l).nodes=l.length+2:=by
 simp only[wordsM,list_nodes,nodess_words,List.length_cons]
end Go.Proofs.YtjeolbgpllbemaaGreat
namespace Go.Proofs.YtjeolbgpllbemaaGreat
open Go.AM
set_option maxHeartbeats 8000000
set_option maxRecDepth 20000
def hdV:Option (ByteArray × List Sx)→PV
 |none=> .tup [sPV ⟨#[]⟩,.sc (.bool false)]
 |some (w,_)=> .tup [sPV w,.sc (.bool true)]
theorem qhead_c{x:Sx}(hok:x.ok)(h:Heap):PCall Tryz.prog 38 [.agg x.cells] h fun r h'=>r=hdV (headM x)∧h'=h:=by
 obtain⟨kind,value,line,col,text,kids⟩:=x;generalize hF:headM (.mk kind value line col text kids)=F;simp only[headM]at hF;simp only[Sx.cells];have hlen:=Sx.rows_len kids;cases k3:(kind !=3)with
 |true=>
  rw[if_neg (by simpa using k3)]at hF;subst hF;refine uG0 Tryz.func38 Tryz.ntmps38 Tryz.results38 Ty.hb_38 ?_;repeat'(first|refine a_seq fun K hK=>?_|refine uR k3 ?_|refine uT k3 ?_|(refine uN hK ?_;clear hK)|apply zI)
  all_goals rfl
 |false=>
  rw[if_pos (by simpa using k3)]at hF;cases kids with
  |nil=>
   simp only at hF;subst hF;have q:(((Sx.rows []).length:Int)==0)=true:=rfl;generalize Sx.rows []=R at q hlen;refine uG0 Tryz.func38 Tryz.ntmps38 Tryz.results38 Ty.hb_38 ?_;replace zz:=uu k3 q;(repeat'(first|refine a_seq fun K hK=>?_|refine uR zz ?_|refine uT zz ?_|(refine uN hK ?_;clear hK)|apply zI));all_goals rfl
  |cons y rest=>
   simp only at hF;have q:(((Sx.rows (y::rest)).length:Int)==0)=false:=(by rw[hlen];simp;omega);have r0:=Sx.rows_get (l:=y::rest) (i:=0) rfl;generalize Sx.rows (y::rest)=R at q r0 hlen⊢;obtain⟨ki,va,li,co,te,ks⟩:=y;simp only[Sx.cells,kindOf,textOf]at r0 hF;cases k1:(ki !=1)with
   |true=>
    rw[show(ki==1)=false by simpa using k1]at hF;simp only[cond_false]at hF;subst hF;refine uG0 Tryz.func38 Tryz.ntmps38 Tryz.results38 Ty.hb_38 ?_;replace zz:=uu k3 (uu q (uu r0 k1));(repeat'(first|refine a_seq fun K hK=>?_|refine uR zz ?_|refine uT zz ?_|(refine uN hK ?_;clear hK)|apply zI));all_goals rfl
   |false=>
    rw[show(ki==1)=true by simpa using k1]at hF;simp only[cond_true]at hF;subst hF;refine uG0 Tryz.func38 Tryz.ntmps38 Tryz.results38 Ty.hb_38 ?_;replace zz:=uu k3 (uu q (uu r0 k1));(repeat'(first|refine a_seq fun K hK=>?_|refine uR zz ?_|refine uT zz ?_|refine uK ?_|refine uC1 zz ?_|(refine uN hK ?_;clear hK)|apply zI));all_goals rfl
theorem thead_c{x:Sx}(hok:x.ok)(h:Heap):PCall Tryz.prog 79 [.agg x.cells] h fun r h'=>r=hdV (headM x)∧h'=h:=by
 obtain⟨kind,value,line,col,text,kids⟩:=x;generalize hF:headM (.mk kind value line col text kids)=F;simp only[headM]at hF;simp only[Sx.cells];have hlen:=Sx.rows_len kids;cases k3:(kind !=3)with
 |true=>
  rw[if_neg (by simpa using k3)]at hF;subst hF;refine uG0 Tryz.func79 Tryz.ntmps79 Tryz.results79 Ty.hb_79 ?_;repeat'(first|refine a_seq fun K hK=>?_|refine uR k3 ?_|refine uT k3 ?_|(refine uN hK ?_;clear hK)|apply zI)
  all_goals rfl
 |false=>
  rw[if_pos (by simpa using k3)]at hF;cases kids with
  |nil=>
   simp only at hF;subst hF;have q:(((Sx.rows []).length:Int)==0)=true:=rfl;generalize Sx.rows []=R at q hlen;refine uG0 Tryz.func79 Tryz.ntmps79 Tryz.results79 Ty.hb_79 ?_;replace zz:=uu k3 q;(repeat'(first|refine a_seq fun K hK=>?_|refine uR zz ?_|refine uT zz ?_|(refine uN hK ?_;clear hK)|apply zI));all_goals rfl
  |cons y rest=>
   simp only at hF;have q:(((Sx.rows (y::rest)).length:Int)==0)=false:=(by rw[hlen];simp;omega);have r0:=Sx.rows_get (l:=y::rest) (i:=0) rfl;generalize Sx.rows (y::rest)=R at q r0 hlen⊢;obtain⟨ki,va,li,co,te,ks⟩:=y;simp only[Sx.cells,kindOf,textOf]at r0 hF;cases k1:(ki !=1)with
   |true=>
    rw[show(ki==1)=false by simpa using k1]at hF;simp only[cond_false]at hF;subst hF;refine uG0 Tryz.func79 Tryz.ntmps79 Tryz.results79 Ty.hb_79 ?_;replace zz:=uu k3 (uu q (uu r0 k1));(repeat'(first|refine a_seq fun K hK=>?_|refine uR zz ?_|refine uT zz ?_|(refine uN hK ?_;clear hK)|apply zI));all_goals rfl
   |false=>
    rw[show(ki==1)=true by simpa using k1]at hF;simp only[cond_true]at hF;subst hF;refine uG0 Tryz.func79 Tryz.ntmps79 Tryz.results79 Ty.hb_79 ?_;replace zz:=uu k3 (uu q (uu r0 k1));(repeat'(first|refine a_seq fun K hK=>?_|refine uR zz ?_|refine uT zz ?_|refine uK ?_|refine uC1 zz ?_|(refine uN hK ?_;clear hK)|apply zI));all_goals rfl
theorem headM_kids{kind value line col:Int}{text:ByteArray}{kids:List Sx}{w:ByteArray}{rest:List Sx}(h:headM (.mk kind value line col text kids)=some (w,rest)): ∃ va li co ks,kids= .mk 1 va li co w ks::rest:=by
 simp only[headM]at h;split at h
 ·cases kids with
  |nil=>simp at h
  |cons y l=>
   simp only at h;cases hh:kindOf y==1 with
   |false=>rw[hh]at h;simp at h
   |true=>
    rw[hh]at h;simp only[cond_true,Option.some.injEq,Prod.mk.injEq]at h;obtain⟨rfl,rfl⟩:=h;obtain⟨ki,va,li,co,te,ks⟩:=y;simp only[kindOf,beq_iff_eq]at hh;subst hh;exact⟨_,_,_,_,rfl⟩
 ·simp at h
theorem ttitle_c{x:Sx}{want:ByteArray}(hok:x.ok)(h:Heap):PCall Tryz.prog 80 [.agg x.cells,sPV want] h fun r h'=>r= .tup [sPV (namedP x want).1,iN (namedP x want).2]∧h'=h:=by
 have hc:=thead_c hok;generalize hF:namedP x want=F;unfold namedP at hF;have ho:=fun w l=>headM_ok2 hok (w:=w) (l:=l);obtain⟨kind,value,line,col,text,kids⟩:=x;have hkd:=fun w l=>headM_kids (kind:=kind) (value:=value) (line:=line) (col:=col) (text:=text) (kids:=kids) (w:=w) (rest:=l);simp only[Sx.cells]at hc⊢;generalize headM (.mk kind value line col text kids)=D at hF hc ho hkd;cases D with
 |none=>
  simp only at hF;subst hF;simp only[hdV]at hc;refine uG0 Tryz.func80 Tryz.ntmps80 Tryz.results80 Ty.hb_80 ?_;repeat'(first|refine a_seq fun K hK=>?_|refine uR trivial ?_|(refine uN hK ?_;clear hK)|apply zI)
  refine uU @Bool.not_false (hc _) ?_;repeat'(first|refine a_seq fun K hK=>?_|refine uR @Bool.not_false ?_|refine uT @Bool.not_false ?_|(refine uN hK ?_;clear hK)|apply zI)
  all_goals rfl
 |some wr=>
  obtain⟨w,rest⟩:=wr;obtain⟨o1,o2,o3⟩:=ho w rest rfl;obtain⟨yv,yl,yc,yk,rfl⟩:=hkd w rest rfl;generalize Sx.mk 1 yv yl yc w yk=y at hc⊢;try clear zz
  clear hkd ho;simp only[hdV]at hc;simp only at hF;have hl:((Sx.rows (y::rest)).length:Int)=(rest.length:Int)+1:=by rw[Sx.rows_len];simp
  cases q1:(w.data.toList==want.data.toList)with
  |false=>
   rw[show bEq w want=false from q1]at hF;simp only[cond_false]at hF;subst hF;refine uG0 Tryz.func80 Tryz.ntmps80 Tryz.results80 Ty.hb_80 ?_;(repeat'(first|refine a_seq fun K hK=>?_|refine uR trivial ?_|(refine uN hK ?_;clear hK)|apply zI));refine uU (uu @Bool.not_true (uu @Bool.not_false q1)) (hc _) ?_;replace zz:=uu @Bool.not_true (uu @Bool.not_false q1);(repeat'(first|refine a_seq fun K hK=>?_|refine uR zz ?_|refine uT zz ?_|(refine uN hK ?_;clear hK)|apply zI));all_goals rfl
  |true=>
   rw[show bEq w want=true from q1]at hF;simp only[cond_true]at hF;cases q2:((rest.length:Int)+1 !=2)with
   |true=>
    have e:F=(⟨#[]⟩,2):=by
     rw[← hF]
     match rest,q2 with
     |[],_=>rfl
     |[a],q=>simp at q
     |_::_::_,_=>rfl
    subst e;(try clear zz);clear hF;generalize Sx.rows (y::rest)=R at hc hl⊢;refine uG0 Tryz.func80 Tryz.ntmps80 Tryz.results80 Ty.hb_80 ?_;(repeat'(first|refine a_seq fun K hK=>?_|refine uR trivial ?_|(refine uN hK ?_;clear hK)|apply zI));replace zz:=uu @Bool.not_true (uu @Bool.not_false (uu q1 (uu q2 hl)));refine uU zz (hc _) ?_;(repeat'(first|refine a_seq fun K hK=>?_|refine uR zz ?_|refine uT zz ?_|(refine uN hK ?_;clear hK)|apply zI));all_goals rfl
   |false=>
    obtain⟨r,rfl⟩: ∃ r,rest=[r]:=by
     match rest,q2 with
     |[],q=>simp at q
     |[a],_=>exact⟨a,rfl⟩
     |_::_::l,q=>simp at q;omega
    have hr:=Sx.rows_get (l:=[y,r]) (i:=1) rfl;have hro:=o3 r (by simp);simp only[List.length_cons,List.length_nil,Nat.zero_add]at hl q2;(try clear zz);clear o1 o2 o3;simp only at hF;generalize Sx.rows [y,r]=R at hc hl hr⊢;obtain⟨ki,va,li,co,te,ks⟩:=r;simp only[Sx.ok]at hro;simp only[Sx.cells,kindOf,textOf]at hr hF;have hte:te.size≤9223372036854775807:=(by have:=hro.2.2.1;unfold bigN at this;omega);have hn:=fun h:Heap=>rname_c (h:=h) hte;cases q3:(ki !=1)with
    |true=>
     rw[show(ki==1)=false by simpa using q3]at hF;simp only[cond_false]at hF;subst hF;refine uG0 Tryz.func80 Tryz.ntmps80 Tryz.results80 Ty.hb_80 ?_;(repeat'(first|refine a_seq fun K hK=>?_|refine uR trivial ?_|(refine uN hK ?_;clear hK)|apply zI));replace zz:=uu @Bool.not_true (uu @Bool.not_false (uu q1 (uu q2 (uu q3 (uu hl hr)))));refine uU zz (hc _) ?_;(repeat'(first|refine a_seq fun K hK=>?_|refine uR zz ?_|refine uT zz ?_|(refine uN hK ?_;clear hK)|apply zI));all_goals rfl
    |false=>
     rw[show(ki==1)=true by simpa using q3]at hF;simp only[cond_true]at hF;generalize nameB te=b at hF hn;cases b with
     |false=>
      simp only[cond_false]at hF;subst hF;refine uG0 Tryz.func80 Tryz.ntmps80 Tryz.results80 Ty.hb_80 ?_;(repeat'(first|refine a_seq fun K hK=>?_|refine uR trivial ?_|(refine uN hK ?_;clear hK)|apply zI));replace zz:=uu @Bool.not_true (uu @Bool.not_false (uu q1 (uu q2 (uu q3 (uu hl hr)))));refine uU zz (hc _) ?_;(repeat'(first|refine a_seq fun K hK=>?_|refine uR zz ?_|refine uK ?_|refine uC1 zz ?_|(refine uN hK ?_;clear hK)|apply zI));refine uU (uu hr (uu hl @Bool.not_false)) (hn _) ?_;(repeat'(first|refine a_seq fun K hK=>?_|refine uR @Bool.not_false ?_|refine uT @Bool.not_false ?_|(refine uN hK ?_;clear hK)|apply zI));all_goals rfl
     |true=>
      simp only[cond_true]at hF;subst hF;refine uG0 Tryz.func80 Tryz.ntmps80 Tryz.results80 Ty.hb_80 ?_;(repeat'(first|refine a_seq fun K hK=>?_|refine uR trivial ?_|(refine uN hK ?_;clear hK)|apply zI));replace zz:=uu @Bool.not_true (uu @Bool.not_false (uu q1 (uu q2 (uu q3 (uu hl hr)))));refine uU zz (hc _) ?_;(repeat'(first|refine a_seq fun K hK=>?_|refine uR zz ?_|refine uK ?_|refine uC1 zz ?_|(refine uN hK ?_;clear hK)|apply zI));refine uU (uu hr (uu hl @Bool.not_true)) (hn _) ?_;replace zz:=uu @Bool.not_true (uu hr hl);(repeat'(first|refine a_seq fun K hK=>?_|refine uR zz ?_|refine uT zz ?_|refine uK ?_|refine uC1 zz ?_|(refine uN hK ?_;clear hK)|apply zI));all_goals rfl
def goodD(D:Option (ByteArray × List Sx))(b:Bool):Option (Sx × List Sx):=match D with
 |some (w,n::rest)=>bif bEq w opDef&&b then some (n,rest)else none
 |_=>none
def goodT(x:Sx):Option (Sx × List Sx):=goodD (headM x) (svalid x 0 0).1
theorem goodD_false(D:Option (ByteArray × List Sx)):goodD D false=none:=by
 unfold goodD;split
 ·rw [Bool.and_false];try rfl
 ·rfl
theorem goodD_word{w:ByteArray}{rest:List Sx}(h:bEq w opDef=false):goodD (some (w,rest)) true=none:=by
 cases rest with
 |nil=>rfl
 |cons n l=>simp only[goodD];rw[h];try rfl
theorem tTitle_c{x:Sx}{want:ByteArray}(hok:x.ok)(hn:x.nodes≤bigN)(h:Heap):PCall Tryz.prog 37 [.agg x.cells,sPV want] h fun r h'=>
  r=(match goodT x with|none=> .tup [sPV ⟨#[]⟩,.sc (.slice none 0 0),.sc (.int .i64 2)]|some (n,rest)=> .tup [sPV (namedP n want).1,.imm 6 (Sx.rows rest),iN (namedP n want).2])∧h'=h:=by
 have hc:=thead_c hok;have hv:=rvalidS_c hok hn (Nat.le_trans (Sx.depth_nodes _) hn);unfold goodT;have ho:=fun w l=>headM_ok2 hok (w:=w) (l:=l);obtain⟨kind,value,line,col,text,kids⟩:=x;have hkd:=fun w l=>headM_kids (kind:=kind) (value:=value) (line:=line) (col:=col) (text:=text) (kids:=kids) (w:=w) (rest:=l);simp only[Sx.cells]at hc hv⊢;generalize headM (.mk kind value line col text kids)=D at hc ho hkd⊢;generalize(svalid (.mk kind value line col text kids) 0 0).1=sv at hv⊢;cases sv with
 |false=>
  rw[goodD_false];try clear zz
  clear ho hkd;cases D with
  |none=>
   simp only[hdV]at hc;refine uG0 Tryz.func37 Tryz.ntmps37 Tryz.results37 Ty.hb_37 ?_;(repeat'(first|refine a_seq fun K hK=>?_|refine uR trivial ?_|(refine uN hK ?_;clear hK)|apply zI));refine uU trivial (hc _) ?_;(repeat'(first|refine a_seq fun K hK=>?_|refine uR trivial ?_|(refine uN hK ?_;clear hK)|apply zI));refine uU @Bool.not_false (hv _) ?_;repeat'(first|refine a_seq fun K hK=>?_|refine uR @Bool.not_false ?_|refine uT @Bool.not_false ?_|(refine uN hK ?_;clear hK)|apply zI)
  |some wr=>
   obtain⟨w,rest⟩:=wr;simp only[hdV]at hc;refine uG0 Tryz.func37 Tryz.ntmps37 Tryz.results37 Ty.hb_37 ?_;(repeat'(first|refine a_seq fun K hK=>?_|refine uR trivial ?_|(refine uN hK ?_;clear hK)|apply zI));refine uU trivial (hc _) ?_;(repeat'(first|refine a_seq fun K hK=>?_|refine uR trivial ?_|(refine uN hK ?_;clear hK)|apply zI));refine uU @Bool.not_false (hv _) ?_;repeat'(first|refine a_seq fun K hK=>?_|refine uR @Bool.not_false ?_|refine uT @Bool.not_false ?_|(refine uN hK ?_;clear hK)|apply zI)
 |true=>
  cases D with
  |none=>
   simp only[hdV]at hc;(try clear zz);clear ho hkd;refine uG0 Tryz.func37 Tryz.ntmps37 Tryz.results37 Ty.hb_37 ?_;(repeat'(first|refine a_seq fun K hK=>?_|refine uR trivial ?_|(refine uN hK ?_;clear hK)|apply zI));refine uU trivial (hc _) ?_;(repeat'(first|refine a_seq fun K hK=>?_|refine uR trivial ?_|(refine uN hK ?_;clear hK)|apply zI));refine uU (uu @Bool.not_false @Bool.not_true) (hv _) ?_;replace zz:=uu @Bool.not_false @Bool.not_true;(repeat'(first|refine a_seq fun K hK=>?_|refine uR zz ?_|refine uT zz ?_|(refine uN hK ?_;clear hK)|apply zI));all_goals rfl
  |some wr=>
   obtain⟨w,rest⟩:=wr;obtain⟨o1,o2,o3⟩:=ho w rest rfl;obtain⟨yv,yl,yc,yk,rfl⟩:=hkd w rest rfl;generalize Sx.mk 1 yv yl yc w yk=y at hc hv⊢;(try clear zz);clear ho hkd;simp only[hdV]at hc;have hl:((Sx.rows (y::rest)).length:Int)=(rest.length:Int)+1:=(by rw[Sx.rows_len];simp);cases q1:(w.data.toList==(#[100,101,102,105,110,101]:Array UInt8).toList)with
   |false=>
    rw[goodD_word q1];(try clear zz);clear hl;generalize Sx.rows (y::rest)=R at hc hv⊢;refine uG0 Tryz.func37 Tryz.ntmps37 Tryz.results37 Ty.hb_37 ?_;(repeat'(first|refine a_seq fun K hK=>?_|refine uR trivial ?_|(refine uN hK ?_;clear hK)|apply zI));refine uU trivial (hc _) ?_;(repeat'(first|refine a_seq fun K hK=>?_|refine uR trivial ?_|(refine uN hK ?_;clear hK)|apply zI));refine uU (uu @Bool.not_false (uu @Bool.not_true q1)) (hv _) ?_;replace zz:=uu @Bool.not_false (uu @Bool.not_true q1);repeat'(first|refine a_seq fun K hK=>?_|refine uR zz ?_|refine uT zz ?_|(refine uN hK ?_;clear hK)|apply zI)
   |true=>
    cases rest with
    |nil=>
     simp only[goodD];have hd:decide ((([]:List Sx).length:Int)+1<2)=true:=rfl;generalize Sx.rows [y]=R at hc hv hl⊢;refine uG0 Tryz.func37 Tryz.ntmps37 Tryz.results37 Ty.hb_37 ?_;(repeat'(first|refine a_seq fun K hK=>?_|refine uR trivial ?_|(refine uN hK ?_;clear hK)|apply zI));refine uU trivial (hc _) ?_;(repeat'(first|refine a_seq fun K hK=>?_|refine uR trivial ?_|(refine uN hK ?_;clear hK)|apply zI));replace zz:=uu @Bool.not_false (uu @Bool.not_true (uu q1 (uu hl hd)));refine uU zz (hv _) ?_;repeat'(first|refine a_seq fun K hK=>?_|refine uR zz ?_|refine uT zz ?_|(refine uN hK ?_;clear hK)|apply zI)
    |cons n l=>
     simp only[goodD];rw[show bEq w opDef=true from q1];simp only[Bool.and_true,cond_true];have ht:=fun h:Heap=>ttitle_c (want:=want) (o3 n (by simp)) h;have hr:=Sx.rows_get (l:=y::n::l) (i:=1) rfl;have hl:((Sx.rows (y::n::l)).length:Int)=(l.length:Int)+2:=(by rw[Sx.rows_len];simp;omega);have hd:decide ((l.length:Int)+2<2)=false:=(by simp;omega);have hk:List.take ((l.length:Int)+2-2).toNat (List.drop 2 (Sx.rows (y::n::l)))=Sx.rows l:=by
      simp only[Sx.rows,List.drop_succ_cons,List.drop_zero];rw[List.take_of_length_le (by rw[Sx.rows_len];omega)]
     have q3:(2:Int)≤(l.length:Int)+2:=(by omega);(try clear zz);clear o1 o2 o3;generalize namedP n want=N at ht⊢;obtain⟨na,cn⟩:=N;obtain⟨ki,va,li,co,te,ks⟩:=n;simp only[Sx.cells]at hr ht;generalize Sx.rows (y::Sx.mk ki va li co te ks::l)=R at hc hv hl hr hk⊢;simp only[iN]at ht⊢;refine uG0 Tryz.func37 Tryz.ntmps37 Tryz.results37 Ty.hb_37 ?_;(repeat'(first|refine a_seq fun K hK=>?_|refine uR trivial ?_|(refine uN hK ?_;clear hK)|apply zI));refine uU trivial (hc _) ?_;(repeat'(first|refine a_seq fun K hK=>?_|refine uR trivial ?_|(refine uN hK ?_;clear hK)|apply zI));replace zz:=uu @Bool.not_false (uu @Bool.not_true (uu q1 (uu hl hd)));refine uU zz (hv _) ?_;replace zz:=uu @Bool.not_false (uu @Bool.not_true (uu q1 (uu hl (uu hd hr))));(repeat'(first|refine a_seq fun K hK=>?_|refine uR zz ?_|refine uK ?_|refine uC1 zz ?_|(refine uN hK ?_;clear hK)|apply zI));refine uU hr (ht _) ?_;replace zz:=uu hl (uu hk (uu q3 @Int.le_refl));repeat'(first|refine a_seq fun K hK=>?_|refine uD zz ?_|refine uT zz ?_|(refine uN hK ?_;clear hK)|apply zI)
end Go.Proofs.YtjeolbgpllbemaaGreat
namespace Go.Proofs.YtjeolbgpllbemaaGreat
open Go.AM
set_option maxHeartbeats 8000000
set_option maxRecDepth 20000
theorem ground_c{x:Sx}{w:ByteArray}{l:List Sx}(hok:x.ok)(hd0:headM x=some (w,l))(hl:l.length≤1048576)(h:Heap):PCall Tryz.prog 115 [.agg x.cells] h fun r h'=>r= .tup [.agg (atRow (atomP w l).1),iN (atomP w l).2]∧h'=h:=by
 refine PCall.frz Ty.hb_115 ?_;have hc:=qhead_c hok;rw[hd0]at hc;simp only[hdV]at hc;obtain⟨hw,_,hok2⟩:=headM_ok2 hok hd0;have hw':w.size≤9223372036854775807:=by unfold bigN at hw;omega
 have hn:=fun h:Heap=>rname_c (h:=h) hw';generalize hF:atomP w l=F;unfold atomP at hF;have bad: ∀ (c:Int)(h':Heap),F=(zeroAt,c)→FrzTo h.next h' (.tup [.agg (atRow F.1),iN F.2]) (.tup [.agg atZ,.sc (.int .i64 c)]):=by
  intro c h' hf;subst hf;simp only[iN,zeroAt,atRow,strRows,List.map_nil,FrzTo,FrzL];exact⟨_,rfl,⟨_,rfl,rfl,.inr (.inl ⟨rfl,.inr rfl⟩),trivial⟩,rfl,trivial⟩
 obtain⟨kind,value,line,col,text,kids⟩:=x;obtain⟨yv,yl,yc,yk,rfl⟩:=headM_kids hd0;have hll:((Sx.rows (Sx.mk 1 yv yl yc w yk::l)).length:Int)=(l.length:Int)+1:=by rw[Sx.rows_len];simp
 have hget: ∀ (k:Nat)(y:Sx),l[k]? =some y→(Sx.rows (Sx.mk 1 yv yl yc w yk::l))[k+1]? =some y.cells:=fun k y hy=>Sx.rows_get (by simpa using hy);try clear zz
 clear hd0 hok;simp only[Sx.cells]at hc⊢;generalize Sx.rows (Sx.mk 1 yv yl yc w yk::l)=R at hc hll hget⊢;cases q1:nameB w with
 |false=>
  rw[q1]at hF hn;simp only[cond_false]at hF;refine uG0 Tryz.func115 Tryz.ntmps115 Tryz.results115 Ty.hb_115 ?_;repeat'(first|refine a_seq fun K hK=>?_|refine uR trivial ?_|(refine uN hK ?_;clear hK)|apply zI)
  refine uU trivial (hc _) ?_;repeat'(first|refine a_seq fun K hK=>?_|refine uR trivial ?_|(refine uN hK ?_;clear hK)|apply zI)
  refine uU @Bool.not_false (hn _) ?_;repeat'(first|refine a_seq fun K hK=>?_|refine uR @Bool.not_false ?_|refine uT @Bool.not_false ?_|(refine uN hK ?_;clear hK)|apply zI)
  exact⟨bad 8 _ hF.symm,((Grow.refl h).new _).set (Nat.le_refl _) _⟩
 |true=>
  rw[q1]at hF hn;simp only[cond_true]at hF;refine uG0 Tryz.func115 Tryz.ntmps115 Tryz.results115 Ty.hb_115 ?_;repeat'(first|refine a_seq fun K hK=>?_|refine uR trivial ?_|(refine uN hK ?_;clear hK)|apply zI)
  refine uU trivial (hc _) ?_;repeat'(first|refine a_seq fun K hK=>?_|refine uR trivial ?_|(refine uN hK ?_;clear hK)|apply zI)
  refine uU @Bool.not_true (hn _) ?_;repeat'(first|with_reducible refine a_hold 5 ?_|refine a_seq fun K hK=>?_|refine uR @Bool.not_true ?_|refine uK ?_|refine uC1 @Bool.not_true ?_|(refine uN hK ?_;clear hK)|apply zI)
  refine⟨?_⟩;refine a_heap (GrI h h.next (h.next+1) (h.next+2) 2 2 1 atZ [sPV w] [] []) ?_ (fun H0 hI=>?_)
  ·exact GrI.mk2 (p:= .sc (.slice none 0 0)) ((((Grow.refl h).new _).new _).set (by simp[Heap.new]) _) (by simp[Heap.new,Heap.set]) (by simp[Heap.new,Heap.set]) (by simp[Heap.new,Heap.set]) Tl.nil
  repeat'(first|refine a_seq fun K hK=>?_|refine a_block ?_|refine uR hll ?_|(refine uN hK ?_;clear hK)|apply zI)
  refine a_loop (fun m S h'=>S 1= .cptr [.sc (.int .i64 kind),.sc (.int .i64 value),.sc (.int .i64 line),.sc (.int .i64 col),sPV text,.imm 6 R]∧S 2= .ptr h.next 0 0∧S 6= .ptr (h.next+1) 0 0∧ ∃ (k:Nat)(pre:List ByteArray),S 7= .sc (.int .i64 ((k+1:Nat):Int))∧k≤l.length∧m=l.length-k∧pre.length=k∧GrI h h.next (h.next+1) (h.next+2) 2 2 1 atZ [sPV w] [] (strRows pre) h'∧
   F=(match namesM (l.drop k)with|(t,c)=>bif c==0 then(⟨w,pre++t⟩,0)else(zeroAt,c))) l.length ?_ ?_
  ·simp only[Ty.w,simprocAttr];refine⟨0,[],rfl,by omega,rfl,rfl,hI,?_⟩;rw[List.drop_zero, ← hF];try rfl
  ·(try clear zz);clear hI hF hn hc;rintro m S h' ⟨g1,g2,g6,k,pre,g7,hk,rfl,hpl,hI,hinv⟩;by_cases hlt:k<l.length
   ·have hd:decide (((k+1:Nat):Int)<(l.length:Int)+1)=true:=(by simp;omega);have w7:IntKind.i64.wrap (((k+1:Nat):Int)+1)=((k+1+1:Nat):Int):=(by rw[wrap64 (by omega) (by omega)];omega);obtain⟨x,hx⟩: ∃ x,l[k]? =some x:=⟨_,List.getElem?_eq_getElem hlt⟩;have hr:=hget _ _ hx;have hxk:=hok2 x (List.mem_of_getElem? hx);rw[drop_of_get hx]at hinv;simp only[namesM]at hinv;obtain⟨ki,va,li,co,te,ks⟩:=x;simp only[Sx.ok]at hxk;have hte:te.size≤9223372036854775807:=(by have:=hxk.2.2.1;unfold bigN at this;omega);(try clear zz);clear hxk;simp only[Sx.cells]at hr;simp only[kindOf,textOf]at hinv;obtain⟨hg,ids,o1,p,H,o2,tl,t1,t2,t3,t4,hgH,hpc,hp1⟩:=hI;simp only[List.cons_append,List.nil_append]at o2;cases q2:(ki !=1)with
    |true=>
     rw[show(ki==1)=false by simpa using q2]at hinv;simp only[cond_false]at hinv;replace zz:=uu g1 (uu g2 (uu g6 (uu g7 (uu hll (uu hd (uu hr (uu q2 o1)))))));(repeat'(first|refine a_seq fun K hK=>?_|refine uR zz ?_|refine uT zz ?_|refine uK ?_|refine uC1 zz ?_|(refine uN hK ?_;clear hK)|apply zI));exact⟨bad 2 _ hinv,hg.set (Nat.le_refl _) _⟩
    |false=>
     rw[show(ki==1)=true by simpa using q2]at hinv;simp only[cond_true]at hinv;have hc:=fun h:Heap=>rname_c (h:=h) hte;generalize nameB te=b at hc hinv;cases b with
     |false=>
      simp only[cond_false]at hinv;replace zz:=uu g1 (uu g2 (uu g6 (uu g7 (uu hll (uu hd (uu hr q2))))));(repeat'(first|refine a_seq fun K hK=>?_|refine uR zz ?_|refine uK ?_|refine uC1 zz ?_|(refine uN hK ?_;clear hK)|apply zI));replace zz:=uu g1 (uu g2 (uu g6 (uu g7 (uu hr @Bool.not_false))));refine uU zz (hc _) ?_;replace zz:=uu g1 (uu g2 (uu g6 (uu g7 (uu @Bool.not_false o1))));(repeat'(first|refine a_seq fun K hK=>?_|refine uR zz ?_|refine uT zz ?_|(refine uN hK ?_;clear hK)|apply zI));exact⟨bad 8 _ hinv,hg.set (Nat.le_refl _) _⟩
     |true=>
      simp only[cond_true]at hinv;have hpr:(strRows pre).length=k:=(by rw[strRows_len];exact hpl);have hb:(k+1)*16≤140737488355328:=(by omega);have n2:(h.next+1=H.next)=False:=(by simp;omega);have n3:(h.next+1=h'.next)=False:=(by simp;omega);have o2H:H.obj (h.next+1)=_:=(t4 _ (by omega)).trans o2;have hpush:=GrI.push (m:=k+1) (zo:=2) (zl:=1) (pre:=[sPV w]) (post:=[]) (R:=strRows pre) [sPV te] hgH ids o1 t3 t4 (by omega);have hap:strRows pre++[[sPV te]]=strRows (pre++[te]):=(by simp[strRows]);simp only[hap,List.cons_append,List.nil_append]at hpush;have hap2:strRows pre++[[PV.sc (.string te)]]=strRows (pre++[te]):=hap;replace zz:=uu g1 (uu g2 (uu g6 (uu g7 (uu hll (uu hd (uu hr q2))))));(repeat'(first|refine a_seq fun K hK=>?_|refine uR zz ?_|refine uK ?_|refine uC1 zz ?_|(refine uN hK ?_;clear hK)|apply zI));replace zz:=uu g1 (uu g2 (uu g6 (uu g7 (uu hr @Bool.not_true))));refine uU zz (hc _) ?_;replace zz:=uu g1 (uu g2 (uu g6 (uu g7 (uu hr (uu @Bool.not_true (uu o2 (uu o2H (uu n2 (uu n3 (uu t1 (uu t2 (uu t3 (uu hpr (uu hpc (uu hp1 (uu hb (uu hap2 w7)))))))))))))))));(repeat'(first|refine uR zz ?_|refine uE zz fun K hK=>?_|refine uK ?_|refine uC1 zz ?_|(refine uN hK ?_;clear hK)|refine uB zz ?_|(rw[if_pos];rotate_left 1;omega;simp(maxSteps:=2000000) only[Ty.w,simprocAttr,g1,g2,g6,g7,hr,Bool.not_true,o2,o2H,n2,n3,t1,t2,t3,hpr,hpc,hp1,hb,hap2,w7])|apply zI));refine⟨l.length-(k+1),by omega,k+1,pre++[te],rfl,by omega,rfl,by simp[hpl],hpush,?_⟩;rw[hinv];generalize namesM (List.drop (k+1) l)=W;obtain⟨t,c⟩:=W;cases hq:c==0 with
      |false=>simp only[hq,cond_false]
      |true=>simp only[hq,cond_true,beq_self_eq_true,List.append_assoc,List.cons_append,List.nil_append]
   ·have hd:decide (((k+1:Nat):Int)<(l.length:Int)+1)=false:=(by simp;omega);rw[List.drop_eq_nil_of_le (by omega)]at hinv;simp only[namesM,beq_self_eq_true,cond_true,List.append_nil]at hinv;subst hinv;obtain⟨hg,ids,o1,p,H,o2,tl,t1,t2,t3,t4,hgH,hpc,hp1⟩:=hI;simp only[List.cons_append,List.nil_append]at o2;have n2:(h.next+1=h.next)=False:=(by simp);replace zz:=uu g1 (uu g2 (uu g6 (uu g7 (uu hll (uu hd (uu o1 (uu o2 (uu n2 (uu hpc hp1)))))))));(repeat'(first|refine a_seq fun K hK=>?_|refine uR zz ?_|refine uT zz ?_|refine uX ?_|refine uC1 zz ?_|(refine uN hK ?_;clear hK)|(clear hK;refine uN hK ?_;clear hK)|apply zI));refine⟨?_,hg.set (Nat.le_refl _) _⟩;have tl2:Tl (h'.set h.next (.arr 2 [[sPV w,p]])) (h.next+2) 1 p (strRows pre):=tl.up (Nat.le_refl _) fun j hj _=>(by simp only[Heap.set];rw[if_neg (by omega)]);simp only[atRow,iN,FrzTo,FrzL];exact⟨_,rfl,⟨_,rfl,rfl,by have:=tl_frzS (Tl.low tl2 (show h.next≤h.next+2 by omega));simpa only[FrzTo]using this,trivial⟩,rfl,trivial⟩
end Go.Proofs.YtjeolbgpllbemaaGreat
namespace Go.Proofs.YtjeolbgpllbemaaGreat
open Go.AM
set_option maxHeartbeats 8000000
set_option maxRecDepth 20000
theorem relement_c{h0:Heap}{id:Nat}{p:Pb}{x:Sx}(hok:x.ok)(hsm:x.small)(hb1:p.init.length≤2199023255552)(hb2:p.values.length≤2199023255552)(h:Heap)(hI:PbI h0 id p h):
  PCall Tryz.prog 82 [.ptr id 0 0,.agg x.cells] h fun r h'=>r=iN (elemP p.init p.values x).2.2∧PbI h0 id ⟨p.name,p.domain,p.objects,(elemP p.init p.values x).1,(elemP p.init p.values x).2.1,p.goal⟩ h':=by
 have hc:=qhead_c hok;have ho:=fun w l=>headM_ok2 hok (w:=w) (l:=l);have hs:=fun w l=>headM_small hsm (w:=w) (l:=l);have hgr:=fun w l (hd:headM x=some (w,l))(hl:l.length≤1048576)(h:Heap)=>ground_c hok hd hl h;generalize hF:elemP p.init p.values x=F;unfold elemP at hF;have bad: ∀ (c:Int)(h':Heap),F=(p.init,p.values,c)→PbI h0 id p h'→PV.sc (.int .i64 c)=iN F.2.2∧PbI h0 id ⟨p.name,p.domain,p.objects,F.1,F.2.1,p.goal⟩ h':=by
  intro c h' hf hI;subst hf;exact⟨rfl,hI⟩
 obtain⟨kind,value,line,col,text,kids⟩:=x;have hkd:=fun w l=>headM_kids (kind:=kind) (value:=value) (line:=line) (col:=col) (text:=text) (kids:=kids) (w:=w) (rest:=l);simp only[Sx.cells]at hc hgr⊢;generalize headM (.mk kind value line col text kids)=D at hF hc ho hs hgr hkd;cases D with
 |none=>
  simp only at hF;simp only[hdV]at hc;refine uG0 Tryz.func82 Tryz.ntmps82 Tryz.results82 Ty.hb_82 ?_;repeat'(first|refine a_seq fun K hK=>?_|refine uR trivial ?_|(refine uN hK ?_;clear hK)|apply zI)
  refine uU @Bool.not_false (hc _) ?_;repeat'(first|refine a_seq fun K hK=>?_|refine uR @Bool.not_false ?_|refine uT @Bool.not_false ?_|(refine uN hK ?_;clear hK)|apply zI)
  exact bad 2 _ hF.symm hI
 |some wr=>
  obtain⟨w,rest⟩:=wr;obtain⟨o1,o2,o3⟩:=ho w rest rfl;obtain⟨s2,s3⟩:=hs w rest rfl;have ha:=hgr w rest rfl s2;obtain⟨yv,yl,yc,yk,rfl⟩:=hkd w rest rfl;try clear zz
  clear ho hs hgr hkd;simp only[hdV]at hc;simp only at hF;have hl:((Sx.rows (Sx.mk 1 yv yl yc w yk::rest)).length:Int)=(rest.length:Int)+1:=by rw[Sx.rows_len];simp
  cases q1:(w.data.toList==(#[61]:Array UInt8).toList)with
  |false=>
   rw[show bEq w opEq=false from q1]at hF;simp only[cond_false]at hF;generalize Sx.rows (Sx.mk 1 yv yl yc w yk::rest)=R at hc ha hl⊢;generalize atomP w rest=A at hF ha;obtain⟨a,c⟩:=A;simp only at hF ha;simp only[iN,atRow]at ha;cases hcc:c==0 with
   |false=>
    rw[hcc]at hF;simp only[cond_false]at hF;refine uG0 Tryz.func82 Tryz.ntmps82 Tryz.results82 Ty.hb_82 ?_;(repeat'(first|refine a_seq fun K hK=>?_|refine uR trivial ?_|(refine uN hK ?_;clear hK)|apply zI));refine uU (uu @Bool.not_true (uu @Bool.not_false q1)) (hc _) ?_;replace zz:=uu @Bool.not_true (uu @Bool.not_false q1);(repeat'(first|refine a_seq fun K hK=>?_|refine uR zz ?_|refine uK ?_|refine uC1 zz ?_|(refine uN hK ?_;clear hK)|apply zI));refine uU trivial (ha _) ?_;(repeat'(first|with_reducible refine a_hold 6 ?_|(refine uN hK ?_;clear hK)|apply zI));refine⟨?_⟩;refine a_tmp 7 rfl (by simp only[Ty.w,simprocAttr]) (fun n H=>by simp only[FrzL,FrzTo,and_true,true_and];exact .inl (strs_in _ _)) ?_;have hI2:=hI.tmp (.arr 2 [[.sc (.string ⟨#[]⟩),.sc (.slice none 0 0)]]) (.arr 2 [atRow a]);simp only[atRow]at hI2;(repeat'(first|refine a_seq fun K hK=>?_|refine uR hcc ?_|refine uT hcc ?_|refine uK ?_|refine uC1 hcc ?_|(refine uN hK ?_;clear hK)|apply zI));exact bad c _ hF.symm hI2
   |true=>
    rw[hcc]at hF;simp only[cond_true]at hF;obtain⟨an,aa⟩:=a;simp only at ha;refine uG0 Tryz.func82 Tryz.ntmps82 Tryz.results82 Ty.hb_82 ?_;(repeat'(first|refine a_seq fun K hK=>?_|refine uR trivial ?_|(refine uN hK ?_;clear hK)|apply zI));refine uU (uu @Bool.not_true (uu @Bool.not_false q1)) (hc _) ?_;replace zz:=uu @Bool.not_true (uu @Bool.not_false q1);(repeat'(first|refine a_seq fun K hK=>?_|refine uR zz ?_|refine uK ?_|refine uC1 zz ?_|(refine uN hK ?_;clear hK)|apply zI));refine uU trivial (ha _) ?_;(repeat'(first|with_reducible refine a_hold 6 ?_|(refine uN hK ?_;clear hK)|apply zI));refine⟨?_⟩;refine a_tmp 7 rfl (by simp only[Ty.w,simprocAttr]) (fun n H=>by simp only[FrzL,FrzTo,and_true,true_and];exact .inl (strs_in _ _)) ?_;refine a_gen (fun S H=>S 0= .ptr id 0 0∧S 7= .cptr [sPV an,.imm 1 (strRows aa)]∧S 8= .sc (.int .i64 c)∧PbI h0 id p H) ⟨by simp only[Ty.w,simprocAttr],by simp only[Ty.w,simprocAttr],by simp only[Ty.w,simprocAttr],hI.tmp _ _⟩ ?_;(try clear zz);clear hI;rintro S h' ⟨g0,g8,g9,hI⟩;obtain⟨g,idl,o,i,v,g2,g3,g4,g5,gop,gna,gar,gpa,gex,gki,e1,e2,e3,e4,e5,e6⟩:=hI;obtain⟨H,t1,t2,t3,t4,t5⟩:=e4.tail;have hk:=t5 h0 ⟨g.le,g.old⟩ (by omega);have eo:=Tl.other e4 e5 (by decide) t1 t3;have hri:=atRows_len p.init;have hbb:(p.init.length+1)*40≤140737488355328:=(by omega);have n2:(id=H.next)=False:=(by simp;omega);have n3:(id=h'.next)=False:=(by simp;omega);have o2H:H.obj id=_:=(t4 _ (Nat.lt_succ_self _)).trans e2;have hpc:=e4.cell;have hap:atRows p.init++[[PV.sc (.string an),.imm 1 (strRows aa)]]=atRows (p.init++[⟨an,aa⟩]):=atRows_app p.init ⟨an,aa⟩;have hc0:c=0:=(by simpa using hcc);subst hc0;(repeat'(first|refine a_seq fun K hK=>?_|((first|refine a_regionS ?_|refine a_drawS (by decide+kernel) ?_|refine a_ret ?_);simp(maxSteps:=2000000) only[Ty.w,simprocAttr,g0,g8,g9,e2,o2H,n2,n3,t1,t2,t3,hri,hbb,hpc,hap,BEq.rfl])|(refine a_cond _ (by(try simp(maxSteps:=2000000) only[Ty.w,simprocAttr,g0,g8,g9,e2,o2H,n2,n3,t1,t2,t3,hri,hbb,hpc,hap,BEq.rfl]);rfl) (fun hb=>?_) (fun hb=>?_)<;>(try simp only[hb0,decide_eq_true_eq,decide_eq_false_iff_not,simprocAttr]at hb)<;>(try(exfalso;omega)))|(refine hK _ _ ?_;clear hK;(try simp only[pst0,simprocAttr]))|(with_reducible refine a_past2 (by simp only[List.forall_mem_cons,Ty.w,simprocAttr,g0,g8,g9,e2,o2H,n2,n3,t1,t2,t3,hri,hbb,hpc,hap,BEq.rfl]<;>(repeat' apply And.intro)<;>first|trivial|exact .inl (by decide+kernel)) ?_;try simp(maxSteps:=2000000) only[Ty.w,simprocAttr,g0,g8,g9,e2,o2H,n2,n3,t1,t2,t3,hri,hbb,hpc,hap,BEq.rfl])));subst hF;refine⟨rfl,⟨(Grow.new (⟨hk.1,hk.2⟩:Grow h0 H) _).set idl.1 _,⟨idl.1,by simp only[Heap.set,Heap.new];omega⟩,o,.own h'.next 0 (p.init.length+1),v,g2,g3,g4,g5,gop,gna,gar,gpa,gex,gki,e1,by simp only[Heap.set,if_true],e3,?_,?_,e6⟩⟩
    ·rw [← t3];exact(Tl.grow (id0:=id+1) (H:=H) (z:=2) (len:=p.init.length+1) (rows:=atRows (p.init++[⟨an,aa⟩])) (by omega) (by simp[atRows_len])).mid (Nat.lt_succ_self _) _
    ·exact eo.up (by simp only[Heap.set,Heap.new];omega) (fun j hj hj2=>by simp only[Heap.set,Heap.new];rw[if_neg (by omega),if_neg (by omega)])
  |true=>
   rw[show bEq w opEq=true from q1]at hF;simp only[cond_true]at hF;(try clear zz);clear ha;cases q2:((rest.length:Int)+1 !=3)with
   |true=>
    have e:(p.init,p.values,2)=F:=by
     rw[← hF]
     match rest,q2 with
     |[],_=>rfl
     |[a],_=>rfl
     |[_,_],q=>simp at q
     |_::_::_::_,_=>rfl
    (try clear zz);clear hF;generalize Sx.rows (Sx.mk 1 yv yl yc w yk::rest)=R at hc hl⊢;refine uG0 Tryz.func82 Tryz.ntmps82 Tryz.results82 Ty.hb_82 ?_;(repeat'(first|refine a_seq fun K hK=>?_|refine uR trivial ?_|(refine uN hK ?_;clear hK)|apply zI));refine uU (uu @Bool.not_true q1) (hc _) ?_;replace zz:=uu @Bool.not_true (uu q1 (uu q2 hl));(repeat'(first|refine a_seq fun K hK=>?_|refine uR zz ?_|refine uT zz ?_|refine uK ?_|refine uC1 zz ?_|(refine uN hK ?_;clear hK)|apply zI));exact bad 2 _ e.symm hI
   |false=>
    obtain⟨f,n,rfl⟩: ∃ f n,rest=[f,n]:=by
     match rest,q2 with
     |[],q=>simp at q
     |[a],q=>simp at q
     |[a,b],_=>exact⟨a,b,rfl⟩
     |_::_::_::l,q=>simp at q;omega
    have hr0:=Sx.rows_get (l:=[Sx.mk 1 yv yl yc w yk,f,n]) (i:=1) rfl;have hr1:=Sx.rows_get (l:=[Sx.mk 1 yv yl yc w yk,f,n]) (i:=2) rfl;have hfo:=o3 f (by simp);have hfs:=s3 f (by simp);simp only[List.length_cons,List.length_nil,Nat.zero_add,Nat.reduceAdd]at hl q2;(try clear zz);clear o1 o2 o3 s2 s3;simp only at hF;generalize Sx.rows [Sx.mk 1 yv yl yc w yk,f,n]=R at hc hl hr0 hr1⊢;have hcf:=qhead_c hfo;have hof:=fun w l=>headM_ok2 hfo (w:=w) (l:=l);have hsf:=fun w l=>headM_small hfs (w:=w) (l:=l);have hgr:=fun w l (hd:headM f=some (w,l))(hl:l.length≤1048576)(h:Heap)=>ground_c hfo hd hl h;generalize headM f=D at hF hcf hof hsf hgr;obtain⟨ki,va,li,co,te,ks⟩:=f;obtain⟨ki2,va2,li2,co2,te2,ks2⟩:=n;simp only[Sx.cells,kindOf,valOf]at hr0 hr1 hF hcf hgr;(try clear zz);clear hfo hfs;cases q3:(ki2 !=2)with
    |true=>
     rw[show(ki2==2)=false by simpa using q3]at hF;simp only[cond_false]at hF;refine uG0 Tryz.func82 Tryz.ntmps82 Tryz.results82 Ty.hb_82 ?_;(repeat'(first|refine a_seq fun K hK=>?_|refine uR trivial ?_|(refine uN hK ?_;clear hK)|apply zI));refine uU (uu @Bool.not_true q1) (hc _) ?_;replace zz:=uu @Bool.not_true (uu q1 (uu q2 (uu q3 (uu hl hr1))));(repeat'(first|refine a_seq fun K hK=>?_|refine uR zz ?_|refine uT zz ?_|refine uK ?_|refine uC1 zz ?_|(refine uN hK ?_;clear hK)|apply zI));exact bad 2 _ hF.symm hI
    |false=>
     rw[show(ki2==2)=true by simpa using q3]at hF;simp only[cond_true]at hF;cases D with
     |none=>
      simp only at hF;simp only[hdV]at hcf;refine uG0 Tryz.func82 Tryz.ntmps82 Tryz.results82 Ty.hb_82 ?_;(repeat'(first|refine a_seq fun K hK=>?_|refine uR trivial ?_|(refine uN hK ?_;clear hK)|apply zI));refine uU (uu @Bool.not_true q1) (hc _) ?_;replace zz:=uu @Bool.not_true (uu q1 (uu q2 (uu q3 (uu hl (uu hr0 hr1)))));(repeat'(first|refine a_seq fun K hK=>?_|refine uR zz ?_|refine uK ?_|refine uC1 zz ?_|(refine uN hK ?_;clear hK)|apply zI));refine uU (uu hr0 hr1) (hcf _) ?_;(repeat'(first|refine a_seq fun K hK=>?_|refine uR @Bool.not_false ?_|refine uT @Bool.not_false ?_|(refine uN hK ?_;clear hK)|apply zI));exact bad 2 _ hF.symm hI
     |some wr=>
      obtain⟨name,args⟩:=wr;obtain⟨s2,s3⟩:=hsf name args rfl;have ha:=hgr name args rfl s2;(try clear zz);clear hof hsf hgr;simp only[hdV]at hcf;simp only at hF;generalize atomP name args=A at hF ha;obtain⟨a,c⟩:=A;simp only at hF ha;simp only[iN,atRow]at ha;cases hcc:c==0 with
      |false=>
       rw[hcc]at hF;simp only[cond_false]at hF;refine uG0 Tryz.func82 Tryz.ntmps82 Tryz.results82 Ty.hb_82 ?_;(repeat'(first|refine a_seq fun K hK=>?_|refine uR trivial ?_|(refine uN hK ?_;clear hK)|apply zI));refine uU (uu @Bool.not_true q1) (hc _) ?_;replace zz:=uu @Bool.not_true (uu q1 (uu q2 (uu q3 (uu hl (uu hr0 hr1)))));(repeat'(first|refine a_seq fun K hK=>?_|refine uR zz ?_|refine uK ?_|refine uC1 zz ?_|(refine uN hK ?_;clear hK)|apply zI));refine uU (uu hr0 hr1) (hcf _) ?_;replace zz:=uu @Bool.not_true (uu hr0 hr1);(repeat'(first|refine a_seq fun K hK=>?_|refine uR zz ?_|refine uK ?_|refine uC1 zz ?_|(refine uN hK ?_;clear hK)|apply zI));refine uU (uu hr0 hr1) (ha _) ?_;(repeat'(first|with_reducible refine a_hold 15 ?_|(refine uN hK ?_;clear hK)|apply zI));refine⟨?_⟩;refine a_tmp 9 rfl (by simp only[Ty.w,simprocAttr]) (fun n H=>by simp only[FrzL,FrzTo,and_true,true_and];exact .inl (strs_in _ _)) ?_;have hI2:=hI.tmp (.arr 2 [[.sc (.string ⟨#[]⟩),.sc (.slice none 0 0)]]) (.arr 2 [atRow a]);simp only[atRow]at hI2;(repeat'(first|refine a_seq fun K hK=>?_|refine uR hcc ?_|refine uT hcc ?_|refine uK ?_|refine uC1 hcc ?_|(refine uN hK ?_;clear hK)|apply zI));exact bad c _ hF.symm hI2
      |true=>
       rw[hcc]at hF;simp only[cond_true]at hF;obtain⟨an,aa⟩:=a;simp only at ha;refine uG0 Tryz.func82 Tryz.ntmps82 Tryz.results82 Ty.hb_82 ?_;(repeat'(first|refine a_seq fun K hK=>?_|refine uR trivial ?_|(refine uN hK ?_;clear hK)|apply zI));refine uU (uu @Bool.not_true q1) (hc _) ?_;replace zz:=uu @Bool.not_true (uu q1 (uu q2 (uu q3 (uu hl (uu hr0 hr1)))));(repeat'(first|refine a_seq fun K hK=>?_|refine uR zz ?_|refine uK ?_|refine uC1 zz ?_|(refine uN hK ?_;clear hK)|apply zI));refine uU (uu hr0 hr1) (hcf _) ?_;replace zz:=uu @Bool.not_true (uu hr0 hr1);(repeat'(first|refine a_seq fun K hK=>?_|refine uR zz ?_|refine uK ?_|refine uC1 zz ?_|(refine uN hK ?_;clear hK)|apply zI));refine uU (uu hr0 hr1) (ha _) ?_;(repeat'(first|with_reducible refine a_hold 15 ?_|(refine uN hK ?_;clear hK)|apply zI));refine⟨?_⟩;refine a_tmp 9 rfl (by simp only[Ty.w,simprocAttr]) (fun n H=>by simp only[FrzL,FrzTo,and_true,true_and];exact .inl (strs_in _ _)) ?_;refine a_gen (fun S H=>S 0= .ptr id 0 0∧S 3= .cptr [.sc (.int .i64 kind),.sc (.int .i64 value),.sc (.int .i64 line),.sc (.int .i64 col),sPV text,.imm 6 R]∧S 9= .cptr [sPV an,.imm 1 (strRows aa)]∧S 10= .sc (.int .i64 c)∧PbI h0 id p H) ⟨by simp only[Ty.w,simprocAttr],by simp only[Ty.w,simprocAttr],by simp only[Ty.w,simprocAttr],by simp only[Ty.w,simprocAttr],hI.tmp _ _⟩ ?_;(try clear zz);clear hI;rintro S h' ⟨g0,g6,g12,g13,hI⟩;obtain⟨g,idl,o,i,v,g2,g3,g4,g5,gop,gna,gar,gpa,gex,gki,e1,e2,e3,e4,e5,e6⟩:=hI;obtain⟨H,t1,t2,t3,t4,t5⟩:=e5.tail;have hk:=t5 h0 ⟨g.le,g.old⟩ (by omega);have eo:=Tl.other e5 e4 (by decide) t1 t3;have hri:=vlRows_len p.values;have hbb:(p.values.length+1)*48≤140737488355328:=(by omega);have n2:(id=H.next)=False:=(by simp;omega);have n3:(id=h'.next)=False:=(by simp;omega);have o2H:H.obj id=_:=(t4 _ (Nat.lt_succ_self _)).trans e2;have hpc:=e5.cell;have hap:vlRows p.values++[[PV.sc (.string an),.imm 1 (strRows aa),.sc (.int .i64 va2)]]=vlRows (p.values++[⟨⟨an,aa⟩,va2⟩]):=vlRows_app p.values ⟨⟨an,aa⟩,va2⟩;have hc0:c=0:=(by simpa using hcc);subst hc0;(repeat'(first|refine a_seq fun K hK=>?_|((first|refine a_regionS ?_|refine a_drawS (by decide+kernel) ?_|refine a_ret ?_);simp(maxSteps:=2000000) only[Ty.w,simprocAttr,g0,g6,g12,g13,hr1,e2,o2H,n2,n3,t1,t2,t3,hri,hbb,hpc,hap,BEq.rfl])|(refine a_cond _ (by(try simp(maxSteps:=2000000) only[Ty.w,simprocAttr,g0,g6,g12,g13,hr1,e2,o2H,n2,n3,t1,t2,t3,hri,hbb,hpc,hap,BEq.rfl]);rfl) (fun hb=>?_) (fun hb=>?_)<;>(try simp only[hb0,decide_eq_true_eq,decide_eq_false_iff_not,simprocAttr]at hb)<;>(try(exfalso;omega)))|(refine hK _ _ ?_;clear hK;(try simp only[pst0,simprocAttr]))|(with_reducible refine a_past2 (by simp only[List.forall_mem_cons,Ty.w,simprocAttr,g0,g6,g12,g13,hr1,e2,o2H,n2,n3,t1,t2,t3,hri,hbb,hpc,hap,BEq.rfl]<;>(repeat' apply And.intro)<;>first|trivial|exact .inl (by decide+kernel)) ?_;try simp(maxSteps:=2000000) only[Ty.w,simprocAttr,g0,g6,g12,g13,hr1,e2,o2H,n2,n3,t1,t2,t3,hri,hbb,hpc,hap,BEq.rfl])));subst hF;refine⟨rfl,⟨(Grow.new (⟨hk.1,hk.2⟩:Grow h0 H) _).set idl.1 _,⟨idl.1,by simp only[Heap.set,Heap.new];omega⟩,o,i,.own h'.next 0 (p.values.length+1),g2,g3,g4,g5,gop,gna,gar,gpa,gex,gki,e1,by simp only[Heap.set,if_true],e3,?_,?_,e6⟩⟩
       ·exact eo.up (by simp only[Heap.set,Heap.new];omega) (fun j hj hj2=>by simp only[Heap.set,Heap.new];rw[if_neg (by omega),if_neg (by omega)])
       ·rw [← t3];exact(Tl.grow (id0:=id+1) (H:=H) (z:=3) (len:=p.values.length+1) (rows:=vlRows (p.values++[⟨⟨an,aa⟩,va2⟩])) (by omega) (by simp[vlRows_len])).mid (Nat.lt_succ_self _) _
end Go.Proofs.YtjeolbgpllbemaaGreat
namespace Go.Proofs.YtjeolbgpllbemaaGreat
open Go.AM
set_option maxHeartbeats 4000000
set_option maxRecDepth 20000
theorem fmz_frz(c:Int)(n:Nat)(H:Heap):FrzTo n H (.tup [.agg zeroFm.cells,iN c]) (.tup [.agg [.sc (.string ⟨#[]⟩),.sc (.string ⟨#[]⟩),.sc (.slice none 0 0),.sc (.slice none 0 0),.sc (.slice none 0 0),.sc (.slice none 0 0)],iN c]):=frz_tup2 (frz_agg (by
 simp[zeroFm,Fm.cells,Ex.rows,Fm.rows,pmRows,strRows,FrzL,FrzTo]))
theorem grow_zF(h:Heap)(r:AObj):Grow h ((h.new (.arr 6 [[.sc (.string ⟨#[]⟩),.sc (.string ⟨#[]⟩),.sc (.slice none 0 0),.sc (.slice none 0 0),.sc (.slice none 0 0),.sc (.slice none 0 0)]])).set h.next r):=((Grow.refl h).new _).set (Nat.le_refl _) _
theorem fmPs_code: ∀ l:List Sx,((fmPs l).2==0)=false→(fmPs l).1=[]
 |[],h=>by simp[fmPs]at h
 |x::l,h=>by
  have ih:=fmPs_code l;simp only[fmPs]at h⊢;cases q:(fmP x).2==0 with
  |false=>simp only[q,cond_false]
  |true=>
   cases q2:(fmPs l).2==0 with
   |false=>simp only[q,q2,cond_true,cond_false]
   |true=>simp only[q,q2,cond_true]at h;simp at h
theorem rformulas_c{l:List Sx}(hl:l.length≤1048576)(ih: ∀ x∈l, ∀ h:Heap,PCall Tryz.prog 116 [.agg x.cells] h fun r h'=>r= .tup [.agg (fmP x).1.cells,iN (fmP x).2]∧h'=h)(h:Heap):
  PCall Tryz.prog 143 [.imm 6 (Sx.rows l)] h fun r h'=>r= .tup [.imm 6 (Fm.rows (fmPs l).1),iN (fmPs l).2]∧h'=h:=by
 refine PCall.frz Ty.hb_143 ?_;have hll:=Sx.rows_len l;generalize hF:fmPs l=F;refine uG0 Tryz.func143 Tryz.ntmps143 Tryz.results143 Ty.hb_143 ?_;repeat'(first|refine a_seq fun K hK=>?_|refine a_block ?_|refine uR hll ?_|(refine uN hK ?_;clear hK)|apply zI)
 refine a_loop (fun m S h'=>S 0= .imm 6 (Sx.rows l)∧ ∃ (k:Nat)(o:PV)(pre:List Fm),S 5= .sc (.int .i64 k)∧S 4=o∧k≤l.length∧m=l.length-k∧Grow h h'∧pre.length=k∧Tl h' h.next 6 o (Fm.rows pre)∧
  F=(match fmPs (l.drop k)with|(t,c)=>bif c==0 then(pre++t,0)else([],c))) l.length ?_ ?_
 ·simp only[Ty.w,simprocAttr];refine⟨0,_,[],rfl,rfl,by omega,rfl,Grow.refl _,rfl,Tl.nil,?_⟩;have:=fmPs_code l;rw[List.drop_zero, ← hF];cases hq:(fmPs l).2==0
  ·have h1:=this hq;simp only[hq,cond_false];rw[← h1]
  ·have h0:(fmPs l).2=0:=(by simpa using hq);simp only[hq,cond_true,List.nil_append];rw[← h0]
 ·rintro m S h' ⟨g0,k,o,pre,g5,g4,hk,rfl,hg,hpl,tl,hinv⟩;try clear zz
  clear hF;by_cases hlt:k<l.length
  ·have hd:decide ((k:Int)<(l.length:Int))=true:=(by simp;omega);have w7:IntKind.i64.wrap ((k:Int)+1)=k+1:=(by rw[wrap64 (by omega) (by omega)]);obtain⟨x,hx⟩: ∃ x,l[k]? =some x:=⟨_,List.getElem?_eq_getElem hlt⟩;have hr:=Sx.rows_get hx;have hc:=ih x (List.mem_of_getElem? hx);rw[drop_of_get hx]at hinv;simp only[fmPs]at hinv;generalize fmP x=E at hc hinv;obtain⟨f,c⟩:=E;have hap:Fm.rows (pre++[f])=Fm.rows pre++[f.cells]:=(by simp[Fm.rows_map]);obtain⟨ki,va,li,co,te,ks⟩:=x;simp only[Sx.cells]at hr hc;simp only at hinv;generalize hO:AObj.arr 6 [f.cells]=O;have tl2:=tl.up (h':=(h'.new (.arr 6 [[.sc (.string ⟨#[]⟩),.sc (.string ⟨#[]⟩),.sc (.slice none 0 0),.sc (.slice none 0 0),.sc (.slice none 0 0),.sc (.slice none 0 0)]])).set h'.next O) (by simp[Heap.new,Heap.set]) (fun j _ hj=>by simp only[Heap.new,Heap.set];rw[if_neg (by omega),if_neg (by omega)]);have hg2:Grow h ((h'.new (.arr 6 [[.sc (.string ⟨#[]⟩),.sc (.string ⟨#[]⟩),.sc (.slice none 0 0),.sc (.slice none 0 0),.sc (.slice none 0 0),.sc (.slice none 0 0)]])).set h'.next O):=(hg.new _).set hg.le _;subst hO;cases hq:c==0 with
   |false=>
    have hq':(c !=0)=true:=(by simp[bne,hq]);rw[hq]at hinv;simp only[cond_false,hq]at hinv;obtain⟨fop,fna,far,fpa,fex,fki⟩:=f;simp only[Fm.cells]at hc hg2;subst hinv;replace zz:=uu g0 (uu g5 (uu g4 (uu hd (uu hr hll))));(repeat'(first|refine a_seq fun K hK=>?_|refine uR zz ?_|refine uK ?_|refine uC1 zz ?_|(refine uN hK ?_;clear hK)|apply zI));replace zz:=uu g0 (uu g5 (uu g4 (uu hd hr)));refine uU zz (hc _) ?_;replace zz:=uu g0 (uu g5 (uu g4 (uu hq' @nsucc)));(repeat'(first|refine a_seq fun K hK=>?_|refine uR zz ?_|refine uT zz ?_|(refine uN hK ?_;clear hK)|apply zI));exact⟨frz_tup2 (by simpa only[Fm.rows]using frz_nilslice),hg2⟩
   |true=>
    have hq':(c !=0)=false:=(by simp[bne,hq]);rw[hq]at hinv;simp only[cond_true]at hinv;obtain⟨H,t1,t2,t3,t4,t5⟩:=tl2.tail;have hpr:(Fm.rows pre).length=k:=(by rw[Fm.rows_len];exact hpl);have hb:(k+1)*128≤140737488355328:=(by omega);have hkp:=t5 h ⟨hg2.le,hg2.old⟩ (Nat.le_refl _);have hgH:Grow h H:=⟨hkp.1,hkp.2⟩;have t3':H.next=h'.next+1:=by rw[t3];simp[Heap.new,Heap.set]
    obtain⟨fop,fna,far,fpa,fex,fki⟩:=f;simp only[Fm.cells]at hc t1 t2 hap;replace zz:=uu g0 (uu g5 (uu g4 (uu hd (uu hr hll))));(repeat'(first|refine a_seq fun K hK=>?_|refine uR zz ?_|refine uK ?_|refine uC1 zz ?_|(refine uN hK ?_;clear hK)|apply zI));replace zz:=uu g0 (uu g5 (uu g4 (uu hd hr)));refine uU zz (hc _) ?_;replace zz:=uu g0 (uu g5 (uu g4 (uu hq' (uu @nsucc (uu w7 (uu t1 (uu t2 (uu hpr hb))))))));(repeat'(first|refine a_seq fun K hK=>?_|refine uR zz ?_|refine uQ zz fun K hK=>?_|refine uK ?_|refine uC1 zz ?_|(refine uN hK ?_;clear hK)|(rw[if_pos];rotate_left 1;omega;simp(maxSteps:=2000000) only[Ty.w,simprocAttr,g0,g5,g4,hq',nsucc,w7,t1,t2,hpr,hb])|apply zI));rw[← hap];refine⟨l.length-(k+1),by omega,k+1,.own H.next 0 (k+1),pre++[_],by simp,by first|rfl|rw[t3'],by omega,rfl,hgH.new _,by simp[hpl],Tl.grow hkp.1 (by rw[Fm.rows_len];simp[hpl]),?_⟩;rw[hinv];generalize fmPs (List.drop (k+1) l)=W;obtain⟨t,c⟩:=W;cases hq:c==0 with
    |false=>simp only[hq,cond_false]
    |true=>simp only[hq,cond_true,beq_self_eq_true,List.append_assoc,List.cons_append,List.nil_append]
  ·have hd:decide ((k:Int)<(l.length:Int))=false:=(by simp;omega);rw[List.drop_eq_nil_of_le (by omega)]at hinv;simp only[fmPs,beq_self_eq_true,cond_true,List.append_nil]at hinv;subst hinv;replace zz:=uu g0 (uu g5 (uu g4 (uu hd hll)));(repeat'(first|refine a_seq fun K hK=>?_|refine uR zz ?_|refine uT zz ?_|refine uX ?_|refine uC1 zz ?_|(refine uN hK ?_;clear hK)|(clear hK;refine uN hK ?_;clear hK)|apply zI));exact⟨frz_tup2 (tl_frzF (Nat.le_refl _) tl),hg⟩
def cmpR(w:ByteArray)(l:List Sx):Fm × Int:=
 bif (exprs2 l).2==0 then(match(exprs2 l).1 with
  |[a,b]=>(if bEq w opGt then(.mk opLt ⟨#[]⟩ [] [] [b,a] [],0)else if bEq w opGe then(.mk opLe ⟨#[]⟩ [] [] [b,a] [],0)else(.mk w ⟨#[]⟩ [] [] [a,b] [],0))
  |_=>(zeroFm,2))else(zeroFm,(exprs2 l).2)
theorem exprs2_two(l:List Sx):((exprs2 l).2==0)=true→ ∃ a b,(exprs2 l).1=[a,b]:=by
 intro h
 match l,h with
 |[],h=>simp[exprs2]at h
 |[_],h=>simp[exprs2]at h
 |[a,b],h=>
  simp only[exprs2]at h⊢;cases qa:(exprP a).2==0 with
  |false=>simp only[qa,cond_false]at h;exact absurd h (by simp)
  |true=>
   cases qb:(exprP b).2==0 with
   |false=>simp only[qa,qb,cond_true,cond_false]at h;exact absurd h (by simp)
   |true=>exact⟨(exprP a).1,(exprP b).1,by simp only[cond_true]⟩
 |_::_::_::_,h=>simp[exprs2]at h
theorem rcomparison_c{w:ByteArray}{l:List Sx}(hx: ∀ h:Heap,PCall Tryz.prog 161 [.imm 6 (Sx.rows l)] h fun r h'=>r= .tup [.imm 5 (Ex.rows (exprs2 l).1),iN (exprs2 l).2]∧h'=h)(h:Heap):
  PCall Tryz.prog 145 [sPV w,.imm 6 (Sx.rows l)] h fun r h'=>r= .tup [.agg (cmpR w l).1.cells,iN (cmpR w l).2]∧h'=h:=by
 refine PCall.frz Ty.hb_145 ?_;have h2:=exprs2_two l;unfold cmpR;generalize exprs2 l=E at hx h2;generalize Sx.rows l=R at hx;obtain⟨es,c⟩:=E;simp only at hx h2⊢;cases hq:c==0 with
 |false=>
  have hq':(c !=0)=true:=by simp[bne,hq]
  simp only[cond_false];refine uG0 Tryz.func145 Tryz.ntmps145 Tryz.results145 Ty.hb_145 ?_;repeat'(first|refine a_seq fun K hK=>?_|refine uR trivial ?_|(refine uN hK ?_;clear hK)|apply zI)
  refine uU trivial (hx _) ?_;repeat'(first|refine a_seq fun K hK=>?_|refine uR hq' ?_|refine uT hq' ?_|(refine uN hK ?_;clear hK)|apply zI)
  exact⟨fmz_frz _ _ _,grow_zF _ _⟩
 |true=>
  have hq':(c !=0)=false:=by simp[bne,hq]
  obtain⟨a,b,rfl⟩:=h2 hq;simp only[cond_true];have ea:=exsR_in h.next [a,b]
  have eb:=exsR_in h.next [b,a]
  obtain⟨aop,aname,an,aargs,akids⟩:=a;obtain⟨bop,bname,bn,bargs,bkids⟩:=b;simp only[Ex.rows,Ex.cells]at hx ea eb;cases q1:(w.data.toList==(#[62]:Array UInt8).toList)with
  |true=>
   rw[if_pos (show bEq w opGt=true from q1)];refine uG0 Tryz.func145 Tryz.ntmps145 Tryz.results145 Ty.hb_145 ?_;(repeat'(first|refine a_seq fun K hK=>?_|refine uR trivial ?_|(refine uN hK ?_;clear hK)|apply zI));refine uU trivial (hx _) ?_;replace zz:=uu hq' q1;(repeat'(first|refine a_seq fun K hK=>?_|refine uR zz ?_|refine uD zz ?_|refine uT zz ?_|refine uK ?_|refine uC1 zz ?_|(refine uN hK ?_;clear hK)|refine uB zz ?_|apply zI));(try refine a_past [7,6,5,4,3,2,1,0] rfl (by decide+kernel) ?_);(try simp(maxSteps:=2000000) only[Ty.w,simprocAttr,Ty.all]);(try apply zI);refine⟨frz_tup2 (frz_agg ?_),grow_zF _ _⟩;simp[opLt,Fm.cells,Ex.rows,Ex.cells,Fm.rows,pmRows,show strRows []=[]from rfl,FrzL,FrzTo,eb]
  |false=>
   rw[if_neg (by rw[show bEq w opGt=false from q1];simp)];cases q2:(w.data.toList==(#[62,61]:Array UInt8).toList)with
   |true=>
    rw[if_pos (show bEq w opGe=true from q2)];refine uG0 Tryz.func145 Tryz.ntmps145 Tryz.results145 Ty.hb_145 ?_;(repeat'(first|refine a_seq fun K hK=>?_|refine uR trivial ?_|(refine uN hK ?_;clear hK)|apply zI));refine uU trivial (hx _) ?_;replace zz:=uu hq' (uu q1 q2);(repeat'(first|refine a_seq fun K hK=>?_|refine uR zz ?_|refine uD zz ?_|refine uT zz ?_|refine uK ?_|refine uC1 zz ?_|(refine uN hK ?_;clear hK)|refine uB zz ?_|apply zI));(try refine a_past [7,6,5,4,3,2,1,0] rfl (by decide+kernel) ?_);(try simp(maxSteps:=2000000) only[Ty.w,simprocAttr,Ty.all]);(try apply zI);refine⟨frz_tup2 (frz_agg ?_),grow_zF _ _⟩;simp[opLe,Fm.cells,Ex.rows,Ex.cells,Fm.rows,pmRows,show strRows []=[]from rfl,FrzL,FrzTo,eb]
   |false=>
    rw[if_neg (by rw[show bEq w opGe=false from q2];simp)];refine uG0 Tryz.func145 Tryz.ntmps145 Tryz.results145 Ty.hb_145 ?_;(repeat'(first|refine a_seq fun K hK=>?_|refine uR trivial ?_|(refine uN hK ?_;clear hK)|apply zI));refine uU trivial (hx _) ?_;replace zz:=uu hq' (uu q1 q2);(repeat'(first|refine a_seq fun K hK=>?_|refine a_block ?_|refine uR zz ?_|refine uT zz ?_|refine uK ?_|refine uC1 zz ?_|(refine uN hK ?_;clear hK)|apply zI));refine⟨frz_tup2 (frz_agg ?_),grow_zF _ _⟩;simp[Fm.cells,Ex.rows,Ex.cells,Fm.rows,pmRows,show strRows []=[]from rfl,FrzL,FrzTo,ea]
def quantR(w:ByteArray):List Sx→Fm × Int
 |[p,y]=>bif kindOf p==3 then(bif (paramsP true (kidsOf p)).2==0 then(bif (fmP y).2==0 then(.mk w ⟨#[]⟩ [] (paramsP true (kidsOf p)).1 [] [(fmP y).1],0)else(zeroFm,(fmP y).2))else(zeroFm,(paramsP true (kidsOf p)).2))else(zeroFm,2)
 |_=>(zeroFm,2)
theorem quantR_len{w:ByteArray}{l:List Sx}(h:¬ l.length=2):quantR w l=(zeroFm,2):=by
 match l,h with
 |[],_=>rfl
 |[_],_=>rfl
 |[_,_],h=>simp at h
 |_::_::_::_,_=>rfl
theorem pms_inR(n:Nat): ∀ l:List Pm,inNR n (pmRows l)
 |[]=>by simp only[pmRows,List.map_nil,inNR]
 |p::l=>by
  have:=pms_inR n l;simp only[pmRows,List.map_cons,pmRow,inNR,inNL,inN,and_true,true_and]at this⊢;exact this
theorem rquantified_c{w:ByteArray}{l:List Sx}(hp: ∀ p∈l, ∀ h:Heap,PCall Tryz.prog 81 [.imm 6 (Sx.rows (kidsOf p)),.sc (.bool true)] h fun r h'=>r= .tup [.imm 2 (pmRows (paramsP true (kidsOf p)).1),iN (paramsP true (kidsOf p)).2]∧h'=h)
  (hl:l.length≤bigN)(ih: ∀ x∈l, ∀ h:Heap,PCall Tryz.prog 116 [.agg x.cells] h fun r h'=>r= .tup [.agg (fmP x).1.cells,iN (fmP x).2]∧h'=h)(h:Heap):
  PCall Tryz.prog 144 [sPV w,.imm 6 (Sx.rows l)] h fun r h'=>r= .tup [.agg (quantR w l).1.cells,iN (quantR w l).2]∧h'=h:=by
 refine PCall.frz Ty.hb_144 ?_;have hll:=Sx.rows_len l;unfold bigN at hl;cases q:((l.length:Int) !=2)with
 |true=>
  rw[quantR_len (by simp at q;omega)];refine uG0 Tryz.func144 Tryz.ntmps144 Tryz.results144 Ty.hb_144 ?_;replace zz:=uu hll q;repeat'(first|refine a_seq fun K hK=>?_|refine uR zz ?_|refine uT zz ?_|(refine uN hK ?_;clear hK)|apply zI)
  exact⟨fmz_frz _ _ _,grow_zF _ _⟩
 |false=>
  obtain⟨p,y,rfl⟩: ∃ a b,l=[a,b]:=by
   have h2:l.length=2:=by simp at q;omega
   match l,h2 with
   |[a,b],_=>exact⟨a,b,rfl⟩
  have hcp:=hp p (by simp);have hcy:=ih y (by simp);rw[show quantR w [p,y]=(bif kindOf p==3 then(bif (paramsP true (kidsOf p)).2==0 then(bif (fmP y).2==0 then(.mk w ⟨#[]⟩ [] (paramsP true (kidsOf p)).1 [] [(fmP y).1],0)else(zeroFm,(fmP y).2))else(zeroFm,(paramsP true (kidsOf p)).2))else(zeroFm,2))from rfl];try clear zz
  clear ih hp q hl;generalize fmP y=Y at hcy⊢;generalize paramsP true (kidsOf p)=PP at hcp⊢;obtain⟨f,c⟩:=Y;obtain⟨ps,pc⟩:=PP;simp only at hcp hcy⊢;have ef:=fms_in h.next [f]
  have ep:=pms_inR h.next ps
  obtain⟨pk,pv,pl,pco,pt,pks⟩:=p;obtain⟨yk,yv,yl,yco,yt,yks⟩:=y;obtain⟨fop,fna,far,fpa,fex,fki⟩:=f;simp only[Sx.cells,Sx.rows,Fm.cells,Fm.rows,kindOf,kidsOf]at hcp hcy hll ef⊢;cases k3:(pk !=3)with
  |true=>
   rw[show(pk==3)=false by simpa using k3];simp only[cond_false];refine uG0 Tryz.func144 Tryz.ntmps144 Tryz.results144 Ty.hb_144 ?_;replace zz:=uu hll k3;(repeat'(first|refine a_seq fun K hK=>?_|refine uR zz ?_|refine uT zz ?_|(with_reducible refine ite_in (fun hb=>?_) (fun hb=>?_)<;>(try simp only[Decidable.not_not]at hb)<;>(try simp only[hb,if_true,if_false,not_false_eq_true,not_true_eq_false, ↓reduceIte])<;>(try simp only[hb0,simprocAttr]at hb)<;>(try(exfalso;omega)))|(refine uN hK ?_;clear hK)|apply zI));exact⟨fmz_frz _ _ _,grow_zF _ _⟩
  |false=>
   rw[show(pk==3)=true by simpa using k3];simp only[cond_true];cases q1:pc==0 with
   |false=>
    have q1':(pc !=0)=true:=(by simp[bne,q1]);(try simp only[q1,cond_false]);refine uG0 Tryz.func144 Tryz.ntmps144 Tryz.results144 Ty.hb_144 ?_;replace zz:=uu hll k3;(repeat'(first|refine a_seq fun K hK=>?_|refine uR zz ?_|refine uK ?_|refine uC1 zz ?_|(with_reducible refine ite_in (fun hb=>?_) (fun hb=>?_)<;>(try simp only[Decidable.not_not]at hb)<;>(try simp only[hb,if_true,if_false,not_false_eq_true,not_true_eq_false, ↓reduceIte])<;>(try simp only[hb0,simprocAttr]at hb)<;>(try(exfalso;omega)))|(refine uN hK ?_;clear hK)|apply zI));refine uU (uu hll k3) (hcp _) ?_;(repeat'(first|refine a_seq fun K hK=>?_|refine uR q1' ?_|refine uT q1' ?_|(refine uN hK ?_;clear hK)|apply zI));exact⟨fmz_frz _ _ _,grow_zF _ _⟩
   |true=>
    have q1':(pc !=0)=false:=(by simp[bne,q1]);(try simp only[q1,cond_true]);have hg2: ∀ r o2 r2,Grow h ((((h.new (.arr 6 [[.sc (.string ⟨#[]⟩),.sc (.string ⟨#[]⟩),.sc (.slice none 0 0),.sc (.slice none 0 0),.sc (.slice none 0 0),.sc (.slice none 0 0)]])).new o2).set (h.next+1) r2).set h.next r):=fun r o2 r2=>((((Grow.refl h).new _).new _).set (Nat.le_succ _) _).set (Nat.le_refl _) _;cases q2:c==0 with
    |false=>
     have q2':(c !=0)=true:=(by simp[bne,q2]);(try simp only[q2,cond_false]);refine uG0 Tryz.func144 Tryz.ntmps144 Tryz.results144 Ty.hb_144 ?_;replace zz:=uu hll k3;(repeat'(first|refine a_seq fun K hK=>?_|refine uR zz ?_|refine uK ?_|refine uC1 zz ?_|(with_reducible refine ite_in (fun hb=>?_) (fun hb=>?_)<;>(try simp only[Decidable.not_not]at hb)<;>(try simp only[hb,if_true,if_false,not_false_eq_true,not_true_eq_false, ↓reduceIte])<;>(try simp only[hb0,simprocAttr]at hb)<;>(try(exfalso;omega)))|(refine uN hK ?_;clear hK)|apply zI));refine uU (uu hll k3) (hcp _) ?_;replace zz:=uu q1' hll;(repeat'(first|refine a_seq fun K hK=>?_|refine uR zz ?_|refine uK ?_|refine uC1 zz ?_|(refine uN hK ?_;clear hK)|apply zI));refine uU hll (hcy _) ?_;replace zz:=uu q2' @nsucc;(repeat'(first|refine a_seq fun K hK=>?_|refine uR zz ?_|refine uT zz ?_|(refine uN hK ?_;clear hK)|apply zI));exact⟨fmz_frz _ _ _,hg2 _ _ _⟩
    |true=>
     have q2':(c !=0)=false:=(by simp[bne,q2]);(try simp only[q2,cond_true]);refine uG0 Tryz.func144 Tryz.ntmps144 Tryz.results144 Ty.hb_144 ?_;replace zz:=uu hll k3;(repeat'(first|refine a_seq fun K hK=>?_|refine uR zz ?_|refine uK ?_|refine uC1 zz ?_|(with_reducible refine ite_in (fun hb=>?_) (fun hb=>?_)<;>(try simp only[Decidable.not_not]at hb)<;>(try simp only[hb,if_true,if_false,not_false_eq_true,not_true_eq_false, ↓reduceIte])<;>(try simp only[hb0,simprocAttr]at hb)<;>(try(exfalso;omega)))|(refine uN hK ?_;clear hK)|apply zI));refine uU (uu hll k3) (hcp _) ?_;replace zz:=uu q1' hll;(repeat'(first|refine a_seq fun K hK=>?_|refine uR zz ?_|refine uK ?_|refine uC1 zz ?_|(refine uN hK ?_;clear hK)|apply zI));refine uU hll (hcy _) ?_;replace zz:=uu q2' (uu @nsucc (uu @Nat.add_eq_left @Nat.one_ne_zero));(repeat'(first|refine a_seq fun K hK=>?_|refine uR zz ?_|refine uT zz ?_|refine uK ?_|refine uC1 zz ?_|(refine uN hK ?_;clear hK)|apply zI));refine⟨frz_tup2 (frz_agg ?_),hg2 _ _ _⟩;simp[Fm.cells,Fm.rows,Ex.rows,show strRows []=[]from rfl,FrzL,FrzTo,ep,ef]
end Go.Proofs.YtjeolbgpllbemaaGreat
namespace Go.Proofs.YtjeolbgpllbemaaGreat
open Go.AM
set_option maxHeartbeats 4000000
set_option maxRecDepth 20000
def lstR(w:ByteArray)(rest:List Sx):Fm × Int:=bif (fmPs rest).2==0 then(.mk w ⟨#[]⟩ [] [] [] (fmPs rest).1,0)else(zeroFm,(fmPs rest).2)
def wordsB:List Sx→Bool
 |[a,b]=>kindOf a==1&&kindOf b==1
 |_=>false
def termsR(op name:ByteArray)(rest:List Sx):Fm × Int:=bif (termsM rest).2==0 then(.mk op name (termsM rest).1 [] [] [],0)else(zeroFm,(termsM rest).2)
def topR(w:ByteArray)(rest:List Sx):Fm × Int:=
 if bEq w opAnd then lstR w rest
 else if bEq w opOr then lstR w rest
 else if bEq w opNot then(bif (rest.length:Int) !=1 then(zeroFm,2)else lstR w rest)
 else if bEq w opImp then(bif (rest.length:Int) !=2 then(zeroFm,2)else lstR w rest)
 else if bEq w opAll then quantR w rest
 else if bEq w opSome then quantR w rest
 else if bEq w opLt then cmpR w rest
 else if bEq w opLe then cmpR w rest
 else if bEq w opGt then cmpR w rest
 else if bEq w opGe then cmpR w rest
 else if bEq w opEq then(bif wordsB rest then termsR opSame ⟨#[]⟩ rest else cmpR w rest)
 else bif nameB w then termsR opAtom w rest else(zeroFm,8)
theorem cmpR_bad{w:ByteArray}{l:List Sx}(h:¬ l.length=2):cmpR w l=(zeroFm,2):=by
 unfold cmpR;rw[exprs2_len h];try rfl
theorem cmpR_fin(w:ByteArray)(a b:Sx)(h:(bEq w opEq&&kindOf a==1&&kindOf b==1)=false):fin (compareP w a b)=cmpR w [a,b]:=by
 unfold compareP cmpR;rw[h];simp only[cond_false,exprs2];cases qa:(exprP a).2==0 with
 |false=>simp only[cond_false,qa,fin]
 |true=>
  cases qb:(exprP b).2==0 with
  |false=>simp only[cond_true,cond_false,qb,fin]
  |true=>
   simp only[cond_true,beq_self_eq_true];split
   ·simp only[fin,beq_self_eq_true,cond_true]
   ·split<;>simp only[fin,beq_self_eq_true,cond_true]
theorem fmPs_one(y:Sx):fmPs [y]=(bif (fmP y).2==0 then([(fmP y).1],0)else([],(fmP y).2)):=by
 simp only[fmPs,beq_self_eq_true,cond_true]
theorem quantR_eq(w:ByteArray)(p y:Sx):(bif kindOf p==3 then(bif (paramsP true (kidsOf p)).2==0 then(match fmPs [y]with
       |(ks,c)=>bif c==0 then(Fm.mk w ⟨#[]⟩ [] (paramsP true (kidsOf p)).1 [] ks,(0:Int))else(zeroFm,c))
      else(zeroFm,(paramsP true (kidsOf p)).2))else(zeroFm,2))=quantR w [p,y]:=by
 rw[fmPs_one];unfold quantR;cases q:(fmP y).2==0 with
 |false=>simp only[cond_false,q]
 |true=>simp only[cond_true,beq_self_eq_true,q]
theorem fmP_top{kind value line col:Int}{text:ByteArray}{y:Sx}{rest:List Sx}(e3:kind=3)(hy:kindOf y=1):fmP (.mk kind value line col text (y::rest))=topR (textOf y) rest:=by
 conv=>lhs;unfold fmP
 rw[if_pos e3];dsimp only;rw[hy];simp only[beq_self_eq_true,cond_true];generalize textOf y=w;unfold topR;by_cases c0:bEq w opAnd=true
 ·have e:=bEq_eq c0;subst e;have hc:countW opAnd= -1:=rfl;have h1:isQ opAnd=false:=rfl;have h2:isLst opAnd=true:=rfl;have h3:isCmp5 opAnd=false:=rfl;rw[if_pos (show bEq opAnd opAnd=true from rfl)];rw[hc,h1,h2,h3];have hd:decide ((-1:Int)≥0)=false:=by decide
  rw[hd];try rfl
 rw[if_neg c0];by_cases c1:bEq w opOr=true
 ·have e:=bEq_eq c1;subst e;have hc:countW opOr= -1:=rfl;have h1:isQ opOr=false:=rfl;have h2:isLst opOr=true:=rfl;have h3:isCmp5 opOr=false:=rfl;rw[if_pos (show bEq opOr opOr=true from rfl)];rw[hc,h1,h2,h3];have hd:decide ((-1:Int)≥0)=false:=by decide
  rw[hd];try rfl
 rw[if_neg c1];by_cases c2:bEq w opNot=true
 ·have e:=bEq_eq c2;subst e;have hc:countW opNot=1:=rfl;have h1:isQ opNot=false:=rfl;have h2:isLst opNot=true:=rfl;have h3:isCmp5 opNot=false:=rfl;rw[if_pos (show bEq opNot opNot=true from rfl)];rw[hc,h1,h2,h3];have hd:decide ((1:Int)≥0)=true:=by decide
  rw[hd];have hl:(!decide ((1:Int)=(rest.length:Int)))=((rest.length:Int) !=1):=by
   by_cases h:rest.length=1
   ·rw [h];try rfl
   ·have h1:¬ (1:Int)=(rest.length:Int):=(by omega);have h2:¬ (rest.length:Int)=1:=(by omega);simp[h1,h2,bne]
  rw[hl];cases(rest.length:Int) !=1<;>rfl
 rw[if_neg c2];by_cases c3:bEq w opImp=true
 ·have e:=bEq_eq c3;subst e;have hc:countW opImp=2:=rfl;have h1:isQ opImp=false:=rfl;have h2:isLst opImp=true:=rfl;have h3:isCmp5 opImp=false:=rfl;rw[if_pos (show bEq opImp opImp=true from rfl)];rw[hc,h1,h2,h3];have hd:decide ((2:Int)≥0)=true:=by decide
  rw[hd];have hl:(!decide ((2:Int)=(rest.length:Int)))=((rest.length:Int) !=2):=by
   by_cases h:rest.length=2
   ·rw [h];try rfl
   ·have h1:¬ (2:Int)=(rest.length:Int):=(by omega);have h2:¬ (rest.length:Int)=2:=(by omega);simp[h1,h2,bne]
  rw[hl];cases(rest.length:Int) !=2<;>rfl
 rw[if_neg c3];by_cases c4:bEq w opAll=true
 ·have e:=bEq_eq c4;subst e;have hc:countW opAll=2:=rfl;have h1:isQ opAll=true:=rfl;have h2:isLst opAll=false:=rfl;have h3:isCmp5 opAll=false:=rfl;rw[if_pos (show bEq opAll opAll=true from rfl)];rw[hc,h1,h2,h3];have hd:decide ((2:Int)≥0)=true:=by decide
  rw[hd];by_cases hl:rest.length=2
  ·have hn:(!decide ((2:Int)=(rest.length:Int)))=false:=(by simp;omega);rw[hn]
   match rest,hl with
   |[p,y2],_=>
    simp only[Bool.true_and,cond_false,cond_true];exact quantR_eq opAll p y2
  ·have hn:(!decide ((2:Int)=(rest.length:Int)))=true:=(by simp;omega);rw[hn];simp only[Bool.and_self,cond_true];rw[quantR_len hl]
 rw[if_neg c4];by_cases c5:bEq w opSome=true
 ·have e:=bEq_eq c5;subst e;have hc:countW opSome=2:=rfl;have h1:isQ opSome=true:=rfl;have h2:isLst opSome=false:=rfl;have h3:isCmp5 opSome=false:=rfl;rw[if_pos (show bEq opSome opSome=true from rfl)];rw[hc,h1,h2,h3];have hd:decide ((2:Int)≥0)=true:=by decide
  rw[hd];by_cases hl:rest.length=2
  ·have hn:(!decide ((2:Int)=(rest.length:Int)))=false:=(by simp;omega);rw[hn]
   match rest,hl with
   |[p,y2],_=>
    simp only[Bool.true_and,cond_false,cond_true];exact quantR_eq opSome p y2
  ·have hn:(!decide ((2:Int)=(rest.length:Int)))=true:=(by simp;omega);rw[hn];simp only[Bool.and_self,cond_true];rw[quantR_len hl]
 rw[if_neg c5];by_cases c6:bEq w opLt=true
 ·have e:=bEq_eq c6;subst e;have hc:countW opLt=2:=rfl;have h1:isQ opLt=false:=rfl;have h2:isLst opLt=false:=rfl;have h3:isCmp5 opLt=true:=rfl;rw[if_pos (show bEq opLt opLt=true from rfl)];rw[hc,h1,h2,h3];have hd:decide ((2:Int)≥0)=true:=by decide
  rw[hd];by_cases hl:rest.length=2
  ·have hn:(!decide ((2:Int)=(rest.length:Int)))=false:=(by simp;omega);rw[hn]
   match rest,hl with
   |[a,b],_=>
    simp only[Bool.true_and,cond_false,cond_true];exact cmpR_fin opLt a b (by rw[show bEq opLt opEq=false from rfl];try rfl)
  ·have hn:(!decide ((2:Int)=(rest.length:Int)))=true:=(by simp;omega);rw[hn];simp only[Bool.and_self,cond_true];rw[cmpR_bad hl]
 rw[if_neg c6];by_cases c7:bEq w opLe=true
 ·have e:=bEq_eq c7;subst e;have hc:countW opLe=2:=rfl;have h1:isQ opLe=false:=rfl;have h2:isLst opLe=false:=rfl;have h3:isCmp5 opLe=true:=rfl;rw[if_pos (show bEq opLe opLe=true from rfl)];rw[hc,h1,h2,h3];have hd:decide ((2:Int)≥0)=true:=by decide
  rw[hd];by_cases hl:rest.length=2
  ·have hn:(!decide ((2:Int)=(rest.length:Int)))=false:=(by simp;omega);rw[hn]
   match rest,hl with
   |[a,b],_=>
    simp only[Bool.true_and,cond_false,cond_true];exact cmpR_fin opLe a b (by rw[show bEq opLe opEq=false from rfl];try rfl)
  ·have hn:(!decide ((2:Int)=(rest.length:Int)))=true:=(by simp;omega);rw[hn];simp only[Bool.and_self,cond_true];rw[cmpR_bad hl]
 rw[if_neg c7];by_cases c8:bEq w opGt=true
 ·have e:=bEq_eq c8;subst e;have hc:countW opGt=2:=rfl;have h1:isQ opGt=false:=rfl;have h2:isLst opGt=false:=rfl;have h3:isCmp5 opGt=true:=rfl;rw[if_pos (show bEq opGt opGt=true from rfl)];rw[hc,h1,h2,h3];have hd:decide ((2:Int)≥0)=true:=by decide
  rw[hd];by_cases hl:rest.length=2
  ·have hn:(!decide ((2:Int)=(rest.length:Int)))=false:=(by simp;omega);rw[hn]
   match rest,hl with
   |[a,b],_=>
    simp only[Bool.true_and,cond_false,cond_true];exact cmpR_fin opGt a b (by rw[show bEq opGt opEq=false from rfl];try rfl)
  ·have hn:(!decide ((2:Int)=(rest.length:Int)))=true:=(by simp;omega);rw[hn];simp only[Bool.and_self,cond_true];rw[cmpR_bad hl]
 rw[if_neg c8];by_cases c9:bEq w opGe=true
 ·have e:=bEq_eq c9;subst e;have hc:countW opGe=2:=rfl;have h1:isQ opGe=false:=rfl;have h2:isLst opGe=false:=rfl;have h3:isCmp5 opGe=true:=rfl;rw[if_pos (show bEq opGe opGe=true from rfl)];rw[hc,h1,h2,h3];have hd:decide ((2:Int)≥0)=true:=by decide
  rw[hd];by_cases hl:rest.length=2
  ·have hn:(!decide ((2:Int)=(rest.length:Int)))=false:=(by simp;omega);rw[hn]
   match rest,hl with
   |[a,b],_=>
    simp only[Bool.true_and,cond_false,cond_true];exact cmpR_fin opGe a b (by rw[show bEq opGe opEq=false from rfl];try rfl)
  ·have hn:(!decide ((2:Int)=(rest.length:Int)))=true:=(by simp;omega);rw[hn];simp only[Bool.and_self,cond_true];rw[cmpR_bad hl]
 rw[if_neg c9];by_cases c10:bEq w opEq=true
 ·have e:=bEq_eq c10;subst e;have hc:countW opEq=2:=rfl;have h1:isQ opEq=false:=rfl;have h2:isLst opEq=false:=rfl;have h3:isCmp5 opEq=true:=rfl;rw[if_pos (show bEq opEq opEq=true from rfl)];rw[hc,h1,h2,h3];have hd:decide ((2:Int)≥0)=true:=by decide
  rw[hd];by_cases hl:rest.length=2
  ·have hn:(!decide ((2:Int)=(rest.length:Int)))=false:=(by simp;omega);rw[hn]
   match rest,hl with
   |[a,b],_=>
    simp only[Bool.true_and,cond_false,cond_true,wordsB];cases hw:(kindOf a==1&&kindOf b==1)with
    |false=>
     simp only[cond_false];exact cmpR_fin opEq a b (by rw[Bool.and_assoc,hw,Bool.and_false])
    |true=>
     simp only[cond_true];unfold compareP;rw[Bool.and_assoc,hw,show bEq opEq opEq=true from rfl];simp only[Bool.and_self,cond_true,fin,termsR];cases qt:(termsM [a,b]).2==0 with
     |false=>rfl
     |true=>rw[show(termsM [a,b]).2=0 by simpa using qt]
  ·have hn:(!decide ((2:Int)=(rest.length:Int)))=true:=(by simp;omega);rw[hn];simp only[Bool.and_self,cond_true];have hw:wordsB rest=false:=by
    match rest,hl with
    |[],_=>rfl
    |[_],_=>rfl
    |[_,_],hl=>simp at hl
    |_::_::_::_,_=>rfl
   rw[hw,cmpR_bad hl];try rfl
 rw[if_neg c10];have d0:bEq w opAnd=false:=Bool.eq_false_iff.2 c0;have d1:bEq w opOr=false:=Bool.eq_false_iff.2 c1;have d2:bEq w opNot=false:=Bool.eq_false_iff.2 c2;have d3:bEq w opImp=false:=Bool.eq_false_iff.2 c3;have d4:bEq w opAll=false:=Bool.eq_false_iff.2 c4;have d5:bEq w opSome=false:=Bool.eq_false_iff.2 c5;have d6:bEq w opLt=false:=Bool.eq_false_iff.2 c6;have d7:bEq w opLe=false:=Bool.eq_false_iff.2 c7;have d8:bEq w opGt=false:=Bool.eq_false_iff.2 c8;have d9:bEq w opGe=false:=Bool.eq_false_iff.2 c9;have d10:bEq w opEq=false:=Bool.eq_false_iff.2 c10;have hc:countW w= -1:=by
  have n1:=d2;have n2:=d3;have n3:=d4;have n4:=d5;have n5:=d10;have n6:=d6;have n7:=d7;have n8:=d8;have n9:=d9;simp only[bEq,opNot,opImp,opAll,opSome,opEq,opLt,opLe,opGt,opGe]at n1 n2 n3 n4 n5 n6 n7 n8 n9;simp only[countW,n1,n2,n3,n4,n5,n6,n7,n8,n9,Bool.false_eq_true,if_false]
 have h1:isQ w=false:=by simp[isQ,d4,d5]
 have h2:isLst w=false:=by simp[isLst,d0,d1,d2,d3]
 have h3:isCmp5 w=false:=by simp[isCmp5,isCmp,d6,d7,d8,d9,d10]
 rw[hc,h1,h2,h3];have hd:decide ((-1:Int)≥0)=false:=by decide
 rw[hd];simp only[Bool.false_and,cond_false,termsR]
theorem nodess_mem{l:List Sx}{x:Sx}(h:x∈l):x.nodes≤Sx.nodess l:=by
 induction l with
 |nil=>simp at h
 |cons a l ih=>
  simp only[Sx.nodess];rcases List.mem_cons.1 h with rfl|h
  ·omega
  ·have:=ih h;omega
theorem rformula_c: ∀ x:Sx,x.ok→x.small→shapedS x=true→x.nodes≤bigN→ ∀ h:Heap,PCall Tryz.prog 116 [.agg x.cells] h fun r h'=>r= .tup [.agg (fmP x).1.cells,iN (fmP x).2]∧h'=h:=by
 refine Sx.ind ?_;intro kind value line col text kids ih hok hsm hsh hnd h;simp only[Sx.ok]at hok;obtain⟨_,_,_,_,hks⟩:=hok;rw[Sx.oks_iff]at hks;simp only[Sx.small]at hsm;obtain⟨hl,hss⟩:=hsm;rw[Sx.smalls_iff]at hss;simp only[Sx.nodes]at hnd;have hll:=Sx.rows_len kids;refine PCall.frz Ty.hb_116 ?_;generalize hF:fmP (.mk kind value line col text kids)=F;unfold shapedS at hsh;simp only[Sx.cells];cases k3:(kind==3)with
 |false=>
  have n3:¬ kind=3:=by simpa using k3
  have k3':(kind !=3)=true:=by simp[bne,k3]
  unfold fmP at hF;rw[if_neg n3]at hF;subst hF;refine uG0 Tryz.func116 Tryz.ntmps116 Tryz.results116 Ty.hb_116 ?_;replace zz:=uu k3 k3';repeat'(first|refine a_seq fun K hK=>?_|refine uR zz ?_|refine uT zz ?_|refine uK ?_|refine uC1 zz ?_|(refine uN hK ?_;clear hK)|apply zI)
  exact⟨fmz_frz _ _ _,grow_zF _ _⟩
 |true=>
  have e3:kind=3:=by simpa using k3
  have k3':(kind !=3)=false:=by simp[bne,k3]
  rw[if_neg (by omega),if_neg (by omega),if_pos e3,Bool.and_eq_true]at hsh;cases kids with
  |nil=>
   unfold fmP at hF;rw[if_pos e3]at hF;dsimp only at hF;subst hF;have q:(((Sx.rows []).length:Int)==0)=true:=rfl;generalize Sx.rows []=R at q hll;refine uG0 Tryz.func116 Tryz.ntmps116 Tryz.results116 Ty.hb_116 ?_;replace zz:=uu k3 (uu k3' q);(repeat'(first|refine a_seq fun K hK=>?_|refine uR zz ?_|refine uT zz ?_|(refine uN hK ?_;clear hK)|apply zI));exact⟨frz_tup2 (frz_agg (by simp[opAnd,Fm.cells,Ex.rows,Fm.rows,pmRows,strRows,FrzL,FrzTo])),grow_zF _ _⟩
  |cons y rest=>
   have hrs: ∀ x∈rest,shapedS x=true:=by
    have:=hsh.1;simp only[shapedSs,Bool.and_eq_true]at this;exact ssR_mem this.2
   have hyt:(textOf y).size≤9223372036854775807:=by
    have:=hks y (by simp);obtain⟨_,_,_,_,t,_⟩:=y;simp only[Sx.ok]at this;have h3:=this.2.2.1;unfold bigN at h3;simp only[textOf];omega
   simp only[Sx.nodess]at hnd;have hrl:rest.length≤1048576:=(by simp at hl;omega);have hrb:rest.length≤bigN:=(by unfold bigN;omega);have ihr: ∀ x∈rest, ∀ h:Heap,PCall Tryz.prog 116 [.agg x.cells] h fun r h'=>r= .tup [.agg (fmP x).1.cells,iN (fmP x).2]∧h'=h:=fun x hx=>ih x (by simp[hx]) (hks x (by simp[hx])) (hss x (by simp[hx])) (hrs x hx) (by have:=nodess_mem hx;omega);have hfs:=rformulas_c hrl ihr;have hex:=rexprs_c hrl (fun x hx=>rexpr_c x (hks x (by simp[hx])) (hss x (by simp[hx])) (hrs x hx));have htm:=rterms_c hrl (fun x hx=>hks x (by simp[hx]));have hpp: ∀ p∈rest, ∀ h:Heap,PCall Tryz.prog 81 [.imm 6 (Sx.rows (kidsOf p)),.sc (.bool true)] h fun r h'=>r= .tup [.imm 2 (pmRows (paramsP true (kidsOf p)).1),iN (paramsP true (kidsOf p)).2]∧h'=h:=by
    intro p hp;have h1:=hks p (by simp[hp]);have h2:=hss p (by simp[hp]);have h3:=nodess_mem hp;obtain⟨_,_,_,_,_,pk⟩:=p;simp only[Sx.ok]at h1;simp only[Sx.small]at h2;simp only[Sx.nodes]at h3;refine rparams_p h2.1 (Sx.oks_iff.1 h1.2.2.2.2) fun x hx=>?_;have h4:x.nodes≤Sx.nodess pk:=nodess_mem hx;have h5:=Sx.depth_nodes x;exact⟨by omega,by omega⟩
   have hqu:=fun w=>rquantified_c (w:=w) hpp hrb ihr;have hcm:=fun w=>rcomparison_c (w:=w) hex;have hnm:=fun h:Heap=>rname_c (h:=h) (s:=textOf y) hyt;have q:(((Sx.rows (y::rest)).length:Int)==0)=false:=(by rw[hll];simp;omega);have r0:=Sx.rows_get (l:=y::rest) (i:=0) rfl;have q1:(1:Int)≤((Sx.rows (y::rest)).length:Int):=(by rw[hll];simp;omega);have ht:List.take (((Sx.rows (y::rest)).length:Int)-1).toNat (List.drop 1 (Sx.rows (y::rest)))=Sx.rows rest:=by
    simp only[Sx.rows,List.drop_succ_cons,List.drop_zero,List.length_cons];rw[List.take_of_length_le (by omega)]
   have hlr:=Sx.rows_len rest;generalize Sx.rows (y::rest)=R at q r0 q1 ht hll⊢;have hF1:kindOf y=1→F=topR (textOf y) rest:=fun hy=>(by rw[← hF,fmP_top e3 hy]);have hF0:¬ kindOf y=1→F=(zeroFm,2):=fun hy=>by
    rw[← hF];unfold fmP;rw[if_pos e3];dsimp only;rw[show(kindOf y==1)=false by simpa using hy];try rfl
   (try clear zz);clear hF ih ihr hks hss hl hsh hpp hex hnd;obtain⟨yk,yv,yl,yc,yt,yks⟩:=y;simp only[Sx.cells,kindOf,textOf]at r0 hF1 hF0 hnm hyt;cases ky:(yk !=1)with
   |true=>
    have hF:=hF0 (by simpa using ky);subst hF;refine uG0 Tryz.func116 Tryz.ntmps116 Tryz.results116 Ty.hb_116 ?_;replace zz:=uu k3 (uu k3' (uu q (uu r0 ky)));(repeat'(first|refine a_seq fun K hK=>?_|refine uR zz ?_|refine uT zz ?_|refine uK ?_|refine uC1 zz ?_|(refine uN hK ?_;clear hK)|apply zI));exact⟨fmz_frz _ _ _,grow_zF _ _⟩
   |false=>
    have hF:=hF1 (by simpa using ky);(try clear zz);clear hF1 hF0;refine uG0 Tryz.func116 Tryz.ntmps116 Tryz.results116 Ty.hb_116 ?_;(repeat'(first|(with_reducible refine a_hold 6 ?_)|(first|refine a_seq fun K hK=>?_|refine uR (uu k3 (uu k3' (uu q (uu r0 (uu ky (uu q1 (uu ht (uu @Int.le_refl @Int.toNat_one)))))))) ?_|refine uD (uu k3 (uu k3' (uu q (uu r0 (uu ky (uu q1 (uu ht (uu @Int.le_refl @Int.toNat_one)))))))) ?_|refine uK ?_|refine uC1 (uu k3 (uu k3' (uu q (uu r0 (uu ky (uu q1 (uu ht (uu @Int.le_refl @Int.toNat_one)))))))) ?_|(refine uN hK ?_;clear hK)|apply zI)));refine⟨?_⟩;refine a_gen (fun S h'=>S 1= .cptr [.sc (.int .i64 kind),.sc (.int .i64 value),.sc (.int .i64 line),.sc (.int .i64 col),sPV text,.imm 6 R]∧S 2= .ptr h.next 0 0∧S 4=sPV yt∧S 5= .imm 6 (Sx.rows rest)∧h'=h.new (.arr 6 [[.sc (.string ⟨#[]⟩),.sc (.string ⟨#[]⟩),.sc (.slice none 0 0),.sc (.slice none 0 0),.sc (.slice none 0 0),.sc (.slice none 0 0)]])) ?_ ?_
    ·simp only[Ty.w,simprocAttr]
    (try clear zz);clear q r0 q1 ht hll hrs;rintro S h' ⟨g1,g2,g4,g5,rfl⟩;unfold topR at hF;cases c0:(yt.data.toList==(#[97,110,100]:Array UInt8).toList)with
    |true=>
     simp only[show bEq yt opAnd=true from c0,if_true,Bool.false_eq_true,if_false]at hF;have m1:(yt.data.toList==(#[110,111,116]:Array UInt8).toList)=false:=ne_of_eq c0 rfl;have m2:(yt.data.toList==(#[105,109,112,108,121]:Array UInt8).toList)=false:=ne_of_eq c0 rfl;unfold lstR at hF;generalize fmPs rest=E at hF hfs;obtain⟨fs,fc⟩:=E;simp only at hF hfs;have ef:=fms_in h.next fs
     cases qc:fc==0 with
     |false=>
      have qc':(fc !=0)=true:=(by simp[bne,qc]);rw[qc]at hF;simp only[cond_false]at hF;subst hF;replace zz:=uu g1 (uu g2 (uu g4 (uu g5 (uu c0 (uu m1 m2)))));(repeat'(first|refine a_seq fun K hK=>?_|refine uR zz ?_|refine uK ?_|refine uC1 zz ?_|(refine uN hK ?_;clear hK)|apply zI));refine uU zz (hfs _) ?_;replace zz:=uu g1 (uu g2 (uu g4 (uu g5 (uu c0 (uu m1 (uu m2 qc'))))));(repeat'(first|refine a_seq fun K hK=>?_|refine uR zz ?_|refine uT zz ?_|(refine uN hK ?_;clear hK)|apply zI));exact⟨fmz_frz _ _ _,grow_zF _ _⟩
     |true=>
      have qc':(fc !=0)=false:=(by simp[bne,qc]);rw[qc]at hF;simp only[cond_true]at hF;subst hF;replace zz:=uu g1 (uu g2 (uu g4 (uu g5 (uu c0 (uu m1 m2)))));(repeat'(first|refine a_seq fun K hK=>?_|refine uR zz ?_|refine uK ?_|refine uC1 zz ?_|(refine uN hK ?_;clear hK)|apply zI));refine uU zz (hfs _) ?_;replace zz:=uu g1 (uu g2 (uu g4 (uu g5 (uu c0 (uu m1 (uu m2 qc'))))));(repeat'(first|refine a_seq fun K hK=>?_|refine uR zz ?_|refine uT zz ?_|refine uK ?_|refine uC1 zz ?_|(refine uN hK ?_;clear hK)|apply zI));exact⟨frz_tup2 (frz_agg (by simp[Fm.cells,Ex.rows,pmRows,strRows,FrzL,FrzTo,ef])),grow_zF _ _⟩
    |false=>
     simp only[show bEq yt opAnd=false from c0,Bool.false_eq_true,if_false]at hF;cases c1:(yt.data.toList==(#[111,114]:Array UInt8).toList)with
     |true=>
      simp only[show bEq yt opAnd=false from c0,show bEq yt opOr=true from c1,if_true,Bool.false_eq_true,if_false]at hF;have m1:(yt.data.toList==(#[110,111,116]:Array UInt8).toList)=false:=ne_of_eq c1 rfl;have m2:(yt.data.toList==(#[105,109,112,108,121]:Array UInt8).toList)=false:=ne_of_eq c1 rfl;unfold lstR at hF;generalize fmPs rest=E at hF hfs;obtain⟨fs,fc⟩:=E;simp only at hF hfs;have ef:=fms_in h.next fs
      cases qc:fc==0 with
      |false=>
       have qc':(fc !=0)=true:=(by simp[bne,qc]);rw[qc]at hF;simp only[cond_false]at hF;subst hF;replace zz:=uu g1 (uu g2 (uu g4 (uu g5 (uu c0 (uu c1 (uu m1 m2))))));(repeat'(first|refine a_seq fun K hK=>?_|refine uR zz ?_|refine uK ?_|refine uC1 zz ?_|(refine uN hK ?_;clear hK)|apply zI));refine uU zz (hfs _) ?_;replace zz:=uu g1 (uu g2 (uu g4 (uu g5 (uu c0 (uu c1 (uu m1 (uu m2 qc')))))));(repeat'(first|refine a_seq fun K hK=>?_|refine uR zz ?_|refine uT zz ?_|(refine uN hK ?_;clear hK)|apply zI));exact⟨fmz_frz _ _ _,grow_zF _ _⟩
      |true=>
       have qc':(fc !=0)=false:=(by simp[bne,qc]);rw[qc]at hF;simp only[cond_true]at hF;subst hF;replace zz:=uu g1 (uu g2 (uu g4 (uu g5 (uu c0 (uu c1 (uu m1 m2))))));(repeat'(first|refine a_seq fun K hK=>?_|refine uR zz ?_|refine uK ?_|refine uC1 zz ?_|(refine uN hK ?_;clear hK)|apply zI));refine uU zz (hfs _) ?_;replace zz:=uu g1 (uu g2 (uu g4 (uu g5 (uu c0 (uu c1 (uu m1 (uu m2 qc')))))));(repeat'(first|refine a_seq fun K hK=>?_|refine uR zz ?_|refine uT zz ?_|refine uK ?_|refine uC1 zz ?_|(refine uN hK ?_;clear hK)|apply zI));exact⟨frz_tup2 (frz_agg (by simp[Fm.cells,Ex.rows,pmRows,strRows,FrzL,FrzTo,ef])),grow_zF _ _⟩
     |false=>
      simp only[show bEq yt opOr=false from c1,Bool.false_eq_true,if_false]at hF;cases c2:(yt.data.toList==(#[110,111,116]:Array UInt8).toList)with
      |true=>
       simp only[show bEq yt opAnd=false from c0,show bEq yt opOr=false from c1,show bEq yt opNot=true from c2,if_true,Bool.false_eq_true,if_false]at hF;have m2:(yt.data.toList==(#[105,109,112,108,121]:Array UInt8).toList)=false:=ne_of_eq c2 rfl;unfold lstR at hF;generalize fmPs rest=E at hF hfs;obtain⟨fs,fc⟩:=E;simp only at hF hfs;have ef:=fms_in h.next fs
       cases ql:((rest.length:Int) !=1)with
       |true=>
        simp only[ql,cond_true]at hF;subst hF;replace zz:=uu g1 (uu g2 (uu g4 (uu g5 (uu c0 (uu c1 (uu c2 (uu m2 (uu hlr ql))))))));(repeat'(first|refine a_seq fun K hK=>?_|refine uR zz ?_|refine uT zz ?_|refine uK ?_|refine uC1 zz ?_|(refine uN hK ?_;clear hK)|apply zI));exact⟨fmz_frz _ _ _,grow_zF _ _⟩
       |false=>
        simp only[ql,cond_false]at hF;cases qc:fc==0 with
        |false=>
         have qc':(fc !=0)=true:=(by simp[bne,qc]);rw[qc]at hF;simp only[cond_false]at hF;subst hF;replace zz:=uu g1 (uu g2 (uu g4 (uu g5 (uu c0 (uu c1 (uu c2 (uu m2 (uu hlr ql))))))));(repeat'(first|refine a_seq fun K hK=>?_|refine uR zz ?_|refine uK ?_|refine uC1 zz ?_|(refine uN hK ?_;clear hK)|apply zI));refine uU zz (hfs _) ?_;replace zz:=uu g1 (uu g2 (uu g4 (uu g5 (uu c0 (uu c1 (uu c2 (uu m2 (uu hlr (uu ql qc')))))))));(repeat'(first|refine a_seq fun K hK=>?_|refine uR zz ?_|refine uT zz ?_|(refine uN hK ?_;clear hK)|apply zI));exact⟨fmz_frz _ _ _,grow_zF _ _⟩
        |true=>
         have qc':(fc !=0)=false:=(by simp[bne,qc]);rw[qc]at hF;simp only[cond_true]at hF;subst hF;replace zz:=uu g1 (uu g2 (uu g4 (uu g5 (uu c0 (uu c1 (uu c2 (uu m2 (uu hlr ql))))))));(repeat'(first|refine a_seq fun K hK=>?_|refine uR zz ?_|refine uK ?_|refine uC1 zz ?_|(refine uN hK ?_;clear hK)|apply zI));refine uU zz (hfs _) ?_;replace zz:=uu g1 (uu g2 (uu g4 (uu g5 (uu c0 (uu c1 (uu c2 (uu m2 (uu hlr (uu ql qc')))))))));(repeat'(first|refine a_seq fun K hK=>?_|refine uR zz ?_|refine uT zz ?_|refine uK ?_|refine uC1 zz ?_|(refine uN hK ?_;clear hK)|apply zI));exact⟨frz_tup2 (frz_agg (by simp[Fm.cells,Ex.rows,pmRows,strRows,FrzL,FrzTo,ef])),grow_zF _ _⟩
      |false=>
       simp only[show bEq yt opNot=false from c2,Bool.false_eq_true,if_false]at hF;cases c3:(yt.data.toList==(#[105,109,112,108,121]:Array UInt8).toList)with
       |true=>
        simp only[show bEq yt opAnd=false from c0,show bEq yt opOr=false from c1,show bEq yt opNot=false from c2,show bEq yt opImp=true from c3,if_true,Bool.false_eq_true,if_false]at hF;unfold lstR at hF;generalize fmPs rest=E at hF hfs;obtain⟨fs,fc⟩:=E;simp only at hF hfs;have ef:=fms_in h.next fs
        cases ql:((rest.length:Int) !=2)with
        |true=>
         simp only[ql,cond_true]at hF;subst hF;replace zz:=uu g1 (uu g2 (uu g4 (uu g5 (uu c0 (uu c1 (uu c2 (uu c3 (uu hlr ql))))))));(repeat'(first|refine a_seq fun K hK=>?_|refine uR zz ?_|refine uT zz ?_|refine uC1 zz ?_|(refine uN hK ?_;clear hK)|apply zI));exact⟨fmz_frz _ _ _,grow_zF _ _⟩
        |false=>
         simp only[ql,cond_false]at hF;cases qc:fc==0 with
         |false=>
          have qc':(fc !=0)=true:=(by simp[bne,qc]);rw[qc]at hF;simp only[cond_false]at hF;subst hF;replace zz:=uu g1 (uu g2 (uu g4 (uu g5 (uu c0 (uu c1 (uu c2 (uu c3 (uu hlr ql))))))));(repeat'(first|refine a_seq fun K hK=>?_|refine uR zz ?_|refine uK ?_|refine uC1 zz ?_|(refine uN hK ?_;clear hK)|apply zI));refine uU zz (hfs _) ?_;replace zz:=uu g1 (uu g2 (uu g4 (uu g5 (uu c0 (uu c1 (uu c2 (uu c3 (uu hlr (uu ql qc')))))))));(repeat'(first|refine a_seq fun K hK=>?_|refine uR zz ?_|refine uT zz ?_|(refine uN hK ?_;clear hK)|apply zI));exact⟨fmz_frz _ _ _,grow_zF _ _⟩
         |true=>
          have qc':(fc !=0)=false:=(by simp[bne,qc]);rw[qc]at hF;simp only[cond_true]at hF;subst hF;replace zz:=uu g1 (uu g2 (uu g4 (uu g5 (uu c0 (uu c1 (uu c2 (uu c3 (uu hlr ql))))))));(repeat'(first|refine a_seq fun K hK=>?_|refine uR zz ?_|refine uK ?_|refine uC1 zz ?_|(refine uN hK ?_;clear hK)|apply zI));refine uU zz (hfs _) ?_;replace zz:=uu g1 (uu g2 (uu g4 (uu g5 (uu c0 (uu c1 (uu c2 (uu c3 (uu hlr (uu ql qc')))))))));(repeat'(first|refine a_seq fun K hK=>?_|refine uR zz ?_|refine uT zz ?_|refine uK ?_|refine uC1 zz ?_|(refine uN hK ?_;clear hK)|apply zI));exact⟨frz_tup2 (frz_agg (by simp[Fm.cells,Ex.rows,pmRows,strRows,FrzL,FrzTo,ef])),grow_zF _ _⟩
       |false=>
        simp only[show bEq yt opImp=false from c3,Bool.false_eq_true,if_false]at hF;cases c4:(yt.data.toList==(#[102,111,114,97,108,108]:Array UInt8).toList)with
        |true=>
         simp only[show bEq yt opAnd=false from c0,show bEq yt opOr=false from c1,show bEq yt opNot=false from c2,show bEq yt opImp=false from c3,show bEq yt opAll=true from c4,if_true,Bool.false_eq_true,if_false]at hF;have hcl:=fun h:Heap=>hqu yt h;generalize quantR yt rest=E at hF hcl;subst hF;obtain⟨f,fc⟩:=F;have ef:=fm_frz h.next
         obtain⟨fop,fna,far,fpa,fex,fki⟩:=f;simp only[Fm.cells]at hcl;replace zz:=uu g1 (uu g2 (uu g4 (uu g5 (uu c0 (uu c1 (uu c2 (uu c3 c4)))))));(repeat'(first|refine a_seq fun K hK=>?_|refine uR zz ?_|refine uK ?_|refine uC1 zz ?_|(refine uN hK ?_;clear hK)|apply zI));refine uU zz (hcl _) ?_;(repeat'(first|refine uT zz ?_|(refine uN hK ?_;clear hK)|apply zI));exact⟨frz_tup2 (frz_agg (by simpa only[Fm.cells]using ef _ (.mk fop fna far fpa fex fki))),grow_zF _ _⟩
        |false=>
         simp only[show bEq yt opAll=false from c4,Bool.false_eq_true,if_false]at hF;cases c5:(yt.data.toList==(#[101,120,105,115,116,115]:Array UInt8).toList)with
         |true=>
          simp only[show bEq yt opAnd=false from c0,show bEq yt opOr=false from c1,show bEq yt opNot=false from c2,show bEq yt opImp=false from c3,show bEq yt opAll=false from c4,show bEq yt opSome=true from c5,if_true,Bool.false_eq_true,if_false]at hF;have hcl:=fun h:Heap=>hqu yt h;generalize quantR yt rest=E at hF hcl;subst hF;obtain⟨f,fc⟩:=F;have ef:=fm_frz h.next
          obtain⟨fop,fna,far,fpa,fex,fki⟩:=f;simp only[Fm.cells]at hcl;replace zz:=uu g1 (uu g2 (uu g4 (uu g5 (uu c0 (uu c1 (uu c2 (uu c3 (uu c4 c5))))))));(repeat'(first|refine a_seq fun K hK=>?_|refine uR zz ?_|refine uC1 zz ?_|(refine uN hK ?_;clear hK)|apply zI));refine uU zz (hcl _) ?_;(repeat'(first|refine uT zz ?_|(refine uN hK ?_;clear hK)|apply zI));exact⟨frz_tup2 (frz_agg (by simpa only[Fm.cells]using ef _ (.mk fop fna far fpa fex fki))),grow_zF _ _⟩
         |false=>
          simp only[show bEq yt opSome=false from c5,Bool.false_eq_true,if_false]at hF;cases c6:(yt.data.toList==(#[60]:Array UInt8).toList)with
          |true=>
           simp only[show bEq yt opAnd=false from c0,show bEq yt opOr=false from c1,show bEq yt opNot=false from c2,show bEq yt opImp=false from c3,show bEq yt opAll=false from c4,show bEq yt opSome=false from c5,show bEq yt opLt=true from c6,if_true,Bool.false_eq_true,if_false]at hF;have hcl:=fun h:Heap=>hcm yt h;generalize cmpR yt rest=E at hF hcl;subst hF;obtain⟨f,fc⟩:=F;have ef:=fm_frz h.next
           obtain⟨fop,fna,far,fpa,fex,fki⟩:=f;simp only[Fm.cells]at hcl;replace zz:=uu g1 (uu g2 (uu g4 (uu g5 (uu c0 (uu c1 (uu c2 (uu c3 (uu c4 (uu c5 c6)))))))));(repeat'(first|refine a_seq fun K hK=>?_|refine uR zz ?_|refine uK ?_|refine uC1 zz ?_|(refine uN hK ?_;clear hK)|apply zI));refine uU zz (hcl _) ?_;(repeat'(first|refine uT zz ?_|(refine uN hK ?_;clear hK)|apply zI));exact⟨frz_tup2 (frz_agg (by simpa only[Fm.cells]using ef _ (.mk fop fna far fpa fex fki))),grow_zF _ _⟩
          |false=>
           simp only[show bEq yt opLt=false from c6,Bool.false_eq_true,if_false]at hF;cases c7:(yt.data.toList==(#[60,61]:Array UInt8).toList)with
           |true=>
            simp only[show bEq yt opAnd=false from c0,show bEq yt opOr=false from c1,show bEq yt opNot=false from c2,show bEq yt opImp=false from c3,show bEq yt opAll=false from c4,show bEq yt opSome=false from c5,show bEq yt opLt=false from c6,show bEq yt opLe=true from c7,if_true,Bool.false_eq_true,if_false]at hF;have hcl:=fun h:Heap=>hcm yt h;generalize cmpR yt rest=E at hF hcl;subst hF;obtain⟨f,fc⟩:=F;have ef:=fm_frz h.next
            obtain⟨fop,fna,far,fpa,fex,fki⟩:=f;simp only[Fm.cells]at hcl;replace zz:=uu g1 (uu g2 (uu g4 (uu g5 (uu c0 (uu c1 (uu c2 (uu c3 (uu c4 (uu c5 (uu c6 c7))))))))));(repeat'(first|refine a_seq fun K hK=>?_|refine uR zz ?_|refine uK ?_|refine uC1 zz ?_|(refine uN hK ?_;clear hK)|apply zI));refine uU zz (hcl _) ?_;(repeat'(first|refine uT zz ?_|(refine uN hK ?_;clear hK)|apply zI));exact⟨frz_tup2 (frz_agg (by simpa only[Fm.cells]using ef _ (.mk fop fna far fpa fex fki))),grow_zF _ _⟩
           |false=>
            simp only[show bEq yt opLe=false from c7,Bool.false_eq_true,if_false]at hF;cases c8:(yt.data.toList==(#[62]:Array UInt8).toList)with
            |true=>
             simp only[show bEq yt opAnd=false from c0,show bEq yt opOr=false from c1,show bEq yt opNot=false from c2,show bEq yt opImp=false from c3,show bEq yt opAll=false from c4,show bEq yt opSome=false from c5,show bEq yt opLt=false from c6,show bEq yt opLe=false from c7,show bEq yt opGt=true from c8,if_true,Bool.false_eq_true,if_false]at hF;have hcl:=fun h:Heap=>hcm yt h;generalize cmpR yt rest=E at hF hcl;subst hF;obtain⟨f,fc⟩:=F;have ef:=fm_frz h.next
             obtain⟨fop,fna,far,fpa,fex,fki⟩:=f;simp only[Fm.cells]at hcl;replace zz:=uu g1 (uu g2 (uu g4 (uu g5 (uu c0 (uu c1 (uu c2 (uu c3 (uu c4 (uu c5 (uu c6 (uu c7 c8)))))))))));(repeat'(first|refine a_seq fun K hK=>?_|refine uR zz ?_|refine uK ?_|refine uC1 zz ?_|(refine uN hK ?_;clear hK)|apply zI));refine uU zz (hcl _) ?_;(repeat'(first|refine uT zz ?_|(refine uN hK ?_;clear hK)|apply zI));exact⟨frz_tup2 (frz_agg (by simpa only[Fm.cells]using ef _ (.mk fop fna far fpa fex fki))),grow_zF _ _⟩
            |false=>
             simp only[show bEq yt opGt=false from c8,Bool.false_eq_true,if_false]at hF;cases c9:(yt.data.toList==(#[62,61]:Array UInt8).toList)with
             |true=>
              simp only[show bEq yt opAnd=false from c0,show bEq yt opOr=false from c1,show bEq yt opNot=false from c2,show bEq yt opImp=false from c3,show bEq yt opAll=false from c4,show bEq yt opSome=false from c5,show bEq yt opLt=false from c6,show bEq yt opLe=false from c7,show bEq yt opGt=false from c8,show bEq yt opGe=true from c9,if_true,Bool.false_eq_true,if_false]at hF;have hcl:=fun h:Heap=>hcm yt h;generalize cmpR yt rest=E at hF hcl;subst hF;obtain⟨f,fc⟩:=F;have ef:=fm_frz h.next
              obtain⟨fop,fna,far,fpa,fex,fki⟩:=f;simp only[Fm.cells]at hcl;replace zz:=uu g1 (uu g2 (uu g4 (uu g5 (uu c0 (uu c1 (uu c2 (uu c3 (uu c4 (uu c5 (uu c6 (uu c7 (uu c8 c9))))))))))));(repeat'(first|refine a_seq fun K hK=>?_|refine uR zz ?_|refine uC1 zz ?_|(refine uN hK ?_;clear hK)|apply zI));refine uU zz (hcl _) ?_;(repeat'(first|refine uT zz ?_|(refine uN hK ?_;clear hK)|apply zI));exact⟨frz_tup2 (frz_agg (by simpa only[Fm.cells]using ef _ (.mk fop fna far fpa fex fki))),grow_zF _ _⟩
             |false=>
              simp only[show bEq yt opGe=false from c9,Bool.false_eq_true,if_false]at hF;cases c10:(yt.data.toList==(#[61]:Array UInt8).toList)with
              |true=>
               simp only[show bEq yt opAnd=false from c0,show bEq yt opOr=false from c1,show bEq yt opNot=false from c2,show bEq yt opImp=false from c3,show bEq yt opAll=false from c4,show bEq yt opSome=false from c5,show bEq yt opLt=false from c6,show bEq yt opLe=false from c7,show bEq yt opGt=false from c8,show bEq yt opGe=false from c9,show bEq yt opEq=true from c10,if_true,Bool.false_eq_true,if_false]at hF;have hcl:=fun h:Heap=>hcm yt h;generalize cmpR yt rest=E at hF hcl;unfold termsR at hF;generalize termsM rest=TM at hF htm;obtain⟨ts,tc⟩:=TM;simp only at hF htm;cases ql:((rest.length:Int)==2)with
               |false=>
                have hw:wordsB rest=false:=by
                 match rest,ql with
                 |[],_=>rfl
                 |[_],_=>rfl
                 |[_,_],ql=>exact absurd ql (by simp)
                 |_::_::_::_,_=>rfl
                rw[hw]at hF;simp only[cond_false]at hF;subst hF;obtain⟨f,fc⟩:=F;have ef:=fm_frz h.next
                obtain⟨fop,fna,far,fpa,fex,fki⟩:=f;simp only[Fm.cells]at hcl;replace zz:=uu g1 (uu g2 (uu g4 (uu g5 (uu c0 (uu c1 (uu c2 (uu c3 (uu c4 (uu c5 (uu c6 (uu c7 (uu c8 (uu c9 (uu c10 (uu hlr ql)))))))))))))));(repeat'(first|refine a_seq fun K hK=>?_|refine uR zz ?_|refine uK ?_|refine uC1 zz ?_|(refine uN hK ?_;clear hK)|apply zI));refine uU zz (hcl _) ?_;(repeat'(first|refine uT zz ?_|(refine uN hK ?_;clear hK)|apply zI));exact⟨frz_tup2 (frz_agg (by simpa only[Fm.cells]using ef _ (.mk fop fna far fpa fex fki))),grow_zF _ _⟩
               |true=>
                obtain⟨a,b,rfl⟩: ∃ a b,rest=[a,b]:=by
                 have h2:rest.length=2:=by simp at ql;omega
                 match rest,h2 with
                 |[a,b],_=>exact⟨a,b,rfl⟩
                (try clear zz);clear hfs hqu hcm hnm hrl hrb ql;have ra:=Sx.rows_get (l:=[a,b]) (i:=0) rfl;have rb:=Sx.rows_get (l:=[a,b]) (i:=1) rfl;obtain⟨n2,hn2⟩: ∃ n2:Nat,n2=2:=⟨2,rfl⟩;have hl2:(Sx.rows [a,b]).length=n2:=(by rw[hlr,hn2];try rfl);have ql:((n2:Int)==2)=true:=(by rw[hn2];try rfl);(try clear zz);clear hlr hn2;generalize Sx.rows [a,b]=R2 at g5 htm hcl ra rb hl2;obtain⟨ak,av,al,ac,at2,aks⟩:=a;obtain⟨bk,bv,bl,bc,bt2,bks⟩:=b;simp only[Sx.cells]at ra rb;simp only[wordsB,kindOf]at hF;cases ka:(ak==1)with
                |false=>
                 simp only[ka,Bool.false_and,cond_false]at hF;subst hF;obtain⟨f,fc⟩:=F;have ef:=fm_frz h.next
                 obtain⟨fop,fna,far,fpa,fex,fki⟩:=f;simp only[Fm.cells]at hcl;replace zz:=uu g1 (uu g2 (uu g4 (uu g5 (uu c0 (uu c1 (uu c2 (uu c3 (uu c4 (uu c5 (uu c6 (uu c7 (uu c8 (uu c9 (uu c10 (uu hl2 (uu ql (uu ra (uu rb ka))))))))))))))))));(repeat'(first|refine a_seq fun K hK=>?_|refine uR zz ?_|refine uK ?_|refine uC1 zz ?_|(refine uN hK ?_;clear hK)|apply zI));refine uU zz (hcl _) ?_;(repeat'(first|refine uT zz ?_|(refine uN hK ?_;clear hK)|apply zI));exact⟨frz_tup2 (frz_agg (by simpa only[Fm.cells]using ef _ (.mk fop fna far fpa fex fki))),grow_zF _ _⟩
                |true=>
                 cases kb:(bk==1)with
                 |false=>
                  simp only[ka,kb,Bool.true_and,cond_false]at hF;subst hF;obtain⟨f,fc⟩:=F;have ef:=fm_frz h.next
                  obtain⟨fop,fna,far,fpa,fex,fki⟩:=f;simp only[Fm.cells]at hcl;replace zz:=uu g1 (uu g2 (uu g4 (uu g5 (uu c0 (uu c1 (uu c2 (uu c3 (uu c4 (uu c5 (uu c6 (uu c7 (uu c8 (uu c9 (uu c10 (uu hl2 (uu ql (uu ra (uu rb (uu ka kb)))))))))))))))))));(repeat'(first|refine a_seq fun K hK=>?_|refine uR zz ?_|refine uK ?_|refine uC1 zz ?_|(refine uN hK ?_;clear hK)|apply zI));refine uU zz (hcl _) ?_;(repeat'(first|refine uT zz ?_|(refine uN hK ?_;clear hK)|apply zI));exact⟨frz_tup2 (frz_agg (by simpa only[Fm.cells]using ef _ (.mk fop fna far fpa fex fki))),grow_zF _ _⟩
                 |true=>
                  simp only[ka,kb,Bool.true_and,cond_true]at hF;cases qc:tc==0 with
                  |false=>
                   have qc':(tc !=0)=true:=(by simp[bne,qc]);rw[qc]at hF;simp only[cond_false]at hF;subst hF;replace zz:=uu g1 (uu g2 (uu g4 (uu g5 (uu c0 (uu c1 (uu c2 (uu c3 (uu c4 (uu c5 (uu c6 (uu c7 (uu c8 (uu c9 (uu c10 (uu hl2 (uu ql (uu ra (uu rb (uu ka kb)))))))))))))))))));(repeat'(first|refine a_seq fun K hK=>?_|refine uR zz ?_|refine uC1 zz ?_|(refine uN hK ?_;clear hK)|apply zI));refine uU zz (htm _) ?_;replace zz:=uu g1 (uu g2 (uu g4 (uu g5 (uu c0 (uu c1 (uu c2 (uu c3 (uu c4 (uu c5 (uu c6 (uu c7 (uu c8 (uu c9 (uu c10 (uu hl2 (uu ql (uu ra (uu rb (uu ka (uu kb qc'))))))))))))))))))));(repeat'(first|refine a_seq fun K hK=>?_|refine uR zz ?_|refine uT zz ?_|(refine uN hK ?_;clear hK)|apply zI));exact⟨fmz_frz _ _ _,grow_zF _ _⟩
                  |true=>
                   have qc':(tc !=0)=false:=(by simp[bne,qc]);rw[qc]at hF;simp only[cond_true]at hF;subst hF;replace zz:=uu g1 (uu g2 (uu g4 (uu g5 (uu c0 (uu c1 (uu c2 (uu c3 (uu c4 (uu c5 (uu c6 (uu c7 (uu c8 (uu c9 (uu c10 (uu hl2 (uu ql (uu ra (uu rb (uu ka kb)))))))))))))))))));(repeat'(first|refine a_seq fun K hK=>?_|refine uR zz ?_|refine uC1 zz ?_|(refine uN hK ?_;clear hK)|apply zI));refine uU zz (htm _) ?_;replace zz:=uu g1 (uu g2 (uu g4 (uu g5 (uu c0 (uu c1 (uu c2 (uu c3 (uu c4 (uu c5 (uu c6 (uu c7 (uu c8 (uu c9 (uu c10 (uu hl2 (uu ql (uu ra (uu rb (uu ka (uu kb qc'))))))))))))))))))));(repeat'(first|refine a_seq fun K hK=>?_|refine uR zz ?_|refine uT zz ?_|refine uK ?_|refine uC1 zz ?_|(refine uN hK ?_;clear hK)|apply zI));exact⟨frz_tup2 (frz_agg (by simp[opSame,Fm.cells,Ex.rows,Fm.rows,pmRows,FrzL,FrzTo,strs_in])),grow_zF _ _⟩
              |false=>
               simp only[show bEq yt opEq=false from c10,Bool.false_eq_true,if_false]at hF;generalize nameB yt=bn at hnm hF;cases bn with
               |false=>
                simp only[cond_false]at hF;subst hF;replace zz:=uu g1 (uu g2 (uu g4 (uu g5 (uu c0 (uu c1 (uu c2 (uu c3 (uu c4 (uu c5 (uu c6 (uu c7 (uu c8 (uu c9 c10)))))))))))));(repeat'(first|refine a_seq fun K hK=>?_|refine a_block ?_|refine uR zz ?_|refine uK ?_|refine uC1 zz ?_|(refine uN hK ?_;clear hK)|apply zI));replace zz:=uu g1 (uu g2 (uu g4 (uu g5 (uu c0 (uu c1 (uu c2 (uu c3 (uu c4 (uu c5 (uu c6 (uu c7 (uu c8 (uu c9 (uu c10 @Bool.not_false))))))))))))));refine uU zz (hnm _) ?_;replace zz:=uu g1 (uu g2 (uu g4 (uu g5 @Bool.not_false)));(repeat'(first|refine a_seq fun K hK=>?_|refine uR zz ?_|refine uT zz ?_|(refine uN hK ?_;clear hK)|apply zI));exact⟨fmz_frz _ _ _,grow_zF _ _⟩
               |true=>
                simp only[cond_true]at hF;unfold termsR at hF;generalize termsM rest=TM at hF htm;obtain⟨ts,tc⟩:=TM;simp only at hF htm;cases qc:tc==0 with
                |false=>
                 have qc':(tc !=0)=true:=(by simp[bne,qc]);rw[qc]at hF;simp only[cond_false]at hF;subst hF;replace zz:=uu g1 (uu g2 (uu g4 (uu g5 (uu c0 (uu c1 (uu c2 (uu c3 (uu c4 (uu c5 (uu c6 (uu c7 (uu c8 (uu c9 c10)))))))))))));(repeat'(first|refine a_seq fun K hK=>?_|refine a_block ?_|refine uR zz ?_|refine uK ?_|refine uC1 zz ?_|(refine uN hK ?_;clear hK)|apply zI));replace zz:=uu g1 (uu g2 (uu g4 (uu g5 (uu c0 (uu c1 (uu c2 (uu c3 (uu c4 (uu c5 (uu c6 (uu c7 (uu c8 (uu c9 (uu c10 @Bool.not_true))))))))))))));refine uU zz (hnm _) ?_;replace zz:=uu g1 (uu g2 (uu g4 (uu g5 @Bool.not_true)));(repeat'(first|refine a_seq fun K hK=>?_|refine uR zz ?_|refine uK ?_|refine uC1 zz ?_|(refine uN hK ?_;clear hK)|apply zI));replace zz:=uu g1 (uu g2 (uu g4 g5));refine uU zz (htm _) ?_;replace zz:=uu g1 (uu g2 (uu g4 (uu g5 qc')));(repeat'(first|refine a_seq fun K hK=>?_|refine uR zz ?_|refine uT zz ?_|(refine uN hK ?_;clear hK)|apply zI));exact⟨fmz_frz _ _ _,grow_zF _ _⟩
                |true=>
                 have qc':(tc !=0)=false:=(by simp[bne,qc]);rw[qc]at hF;simp only[cond_true]at hF;subst hF;replace zz:=uu g1 (uu g2 (uu g4 (uu g5 (uu c0 (uu c1 (uu c2 (uu c3 (uu c4 (uu c5 (uu c6 (uu c7 (uu c8 (uu c9 c10)))))))))))));(repeat'(first|refine a_seq fun K hK=>?_|refine a_block ?_|refine uR zz ?_|refine uK ?_|refine uC1 zz ?_|(refine uN hK ?_;clear hK)|apply zI));replace zz:=uu g1 (uu g2 (uu g4 (uu g5 (uu c0 (uu c1 (uu c2 (uu c3 (uu c4 (uu c5 (uu c6 (uu c7 (uu c8 (uu c9 (uu c10 @Bool.not_true))))))))))))));refine uU zz (hnm _) ?_;replace zz:=uu g1 (uu g2 (uu g4 (uu g5 @Bool.not_true)));(repeat'(first|refine a_seq fun K hK=>?_|refine uR zz ?_|refine uK ?_|refine uC1 zz ?_|(refine uN hK ?_;clear hK)|apply zI));replace zz:=uu g1 (uu g2 (uu g4 g5));refine uU zz (htm _) ?_;replace zz:=uu g1 (uu g2 (uu g4 (uu g5 qc')));(repeat'(first|refine a_seq fun K hK=>?_|refine uR zz ?_|refine uT zz ?_|refine uK ?_|refine uC1 zz ?_|(refine uN hK ?_;clear hK)|apply zI));exact⟨frz_tup2 (frz_agg (by simp[opAtom,Fm.cells,Ex.rows,Fm.rows,pmRows,FrzL,FrzTo,strs_in])),grow_zF _ _⟩
end Go.Proofs.YtjeolbgpllbemaaGreat
namespace Go.Proofs.YtjeolbgpllbemaaGreat
open Go.AM
def fkids:Fm→List Fm
 | .mk _ _ _ _ _ kids=>kids
section
variable {name:ByteArray}{args:List ByteArray}{params:List Pm}{exprs:List Ex}{kids p q:List Fm}{s:Bool}
end
theorem sf_cases{C:Fm→Prop}(f:Fm)(hf:shapedF f=true)
  (h1: ∀ name args,nameB name=true→args.all termB=true→C (.mk opAtom name args [] [] []))
  (h2: ∀ args,args.length=2→args.all termB=true→C (.mk opSame ⟨#[]⟩ args [] [] []))
  (h3: ∀ op a b,(op=opLt∨op=opLe∨op=opEq)→shapedE a=true→shapedE b=true→C (.mk op ⟨#[]⟩ [] [] [a,b] []))
  (h4: ∀ op kids,(op=opAnd∨op=opOr)→(∀ k∈kids,shapedF k=true)→C (.mk op ⟨#[]⟩ [] [] [] kids))
  (h5: ∀ k,shapedF k=true→C (.mk opNot ⟨#[]⟩ [] [] [] [k]))
  (h6: ∀ a b,shapedF a=true→shapedF b=true→C (.mk opImp ⟨#[]⟩ [] [] [] [a,b]))
  (h7: ∀ op params k,(op=opAll∨op=opSome)→params.all pmOk=true→shapedF k=true→C (.mk op ⟨#[]⟩ [] params [] [k])):C f:=by
 obtain⟨op,name,args,params,exprs,kids⟩:=f;simp only[shapedF,Bool.and_eq_true,List.all_eq_true]at hf;obtain⟨⟨hp,he⟩,hk⟩:=hf;rw[shapedFs_iff]at hk;rcases partsOk_cases hp with⟨rfl,a1,a2,rfl,a3,a4⟩|⟨rfl,rfl,a1,a2,rfl,a3,a4⟩|⟨a1,rfl,rfl,rfl,a3,a4⟩|⟨a1,rfl,rfl,rfl,a3⟩|⟨a1,rfl,rfl,a3,a4,a5⟩
 ·obtain rfl:=List.eq_nil_of_length_eq_zero a3;obtain rfl:=List.eq_nil_of_length_eq_zero a4;exact h1 _ _ a1 a2
 ·obtain rfl:=List.eq_nil_of_length_eq_zero a3;obtain rfl:=List.eq_nil_of_length_eq_zero a4;exact h2 _ a1 a2
 ·obtain rfl:=List.eq_nil_of_length_eq_zero a4
  match exprs,a3,he with
  |[a,b],_,he=>exact h3 _ _ _ a1 (he a (by simp)) (he b (by simp))
 ·obtain rfl:=List.eq_nil_of_length_eq_zero a3;rcases a1 with rfl|rfl|⟨rfl,a4⟩|⟨rfl,a4⟩
  ·exact h4 _ _ (.inl rfl) hk
  ·exact h4 _ _ (.inr rfl) hk
  ·match kids,a4,hk with
   |[k],_,hk=>exact h5 _ (hk k (by simp))
  ·match kids,a4,hk with
   |[a,b],_,hk=>exact h6 _ _ (hk a (by simp)) (hk b (by simp))
 ·obtain rfl:=List.eq_nil_of_length_eq_zero a3
  match kids,a4,hk with
  |[k],_,hk=>exact h7 _ _ _ a1 a5 (hk k (by simp))
theorem sf_ind{C:Fm→Prop}
  (h1: ∀ name args,nameB name=true→args.all termB=true→C (.mk opAtom name args [] [] []))
  (h2: ∀ args,args.length=2→args.all termB=true→C (.mk opSame ⟨#[]⟩ args [] [] []))
  (h3: ∀ op a b,(op=opLt∨op=opLe∨op=opEq)→shapedE a=true→shapedE b=true→C (.mk op ⟨#[]⟩ [] [] [a,b] []))
  (h4: ∀ op kids,(op=opAnd∨op=opOr)→(∀ k∈kids,shapedF k=true)→(∀ k∈kids,C k)→C (.mk op ⟨#[]⟩ [] [] [] kids))
  (h5: ∀ k,shapedF k=true→C k→C (.mk opNot ⟨#[]⟩ [] [] [] [k]))
  (h6: ∀ a b,shapedF a=true→shapedF b=true→C a→C b→C (.mk opImp ⟨#[]⟩ [] [] [] [a,b]))
  (h7: ∀ op params k,(op=opAll∨op=opSome)→params.all pmOk=true→shapedF k=true→C k→C (.mk op ⟨#[]⟩ [] params [] [k])): ∀ f,shapedF f=true→C f:=by
 refine Fm.ind (C:=fun f=>shapedF f=true→C f) ?_;intro op name args params exprs kids ih hf;refine sf_cases (C:=fun f=>(∀ k∈fkids f,shapedF k=true→C k)→C f) _ hf (fun a b c d _=>h1 a b c d) (fun a b c _=>h2 a b c) (fun a b c d e f _=>h3 a b c d e f) (fun a b c d ih=>h4 a b c d fun k hk=>ih k hk (d k hk)) (fun k hk ih=>h5 k hk (ih k (by simp[fkids]) hk)) (fun a b ha hb ih=>h6 a b ha hb (ih a (by simp[fkids]) ha) (ih b (by simp[fkids]) hb)) (fun op ps k a b c ih=>h7 op ps k a b c (ih k (by simp[fkids]) c)) ?_;exact ih
end Go.Proofs.YtjeolbgpllbemaaGreat
namespace Go.Proofs.YtjeolbgpllbemaaGreat
open Go.AM
theorem list_depth{l:List Sx}{k:Sx}(h:k∈l):k.depth+1≤(listM l).depth:=by
 have:=Sx.depths_mem 0 h;simp only[listM,Sx.depth,if_true];omega
theorem fmW_rest{op name:ByteArray}{args:List ByteArray}{params:List Pm}{exprs:List Ex}{kids:List Fm}(h1:bEq op opAtom=false)(h2:bEq op opSame=false)(h3:isCmp op=false): ∃ pre,fmW (.mk op name args params exprs kids)=listM (pre++kids.map fmW):=by
 unfold fmW;rw[h1,h2,h3,fmWs_map];exact⟨_,rfl⟩
theorem fmW_parts: ∀ f,shapedF f=true→match f with
  | .mk _ _ _ _ exprs kids=>1+Sx.nodess (exprs.map exW)+Sx.nodess (kids.map fmW)≤(fmW f).nodes∧1≤(fmW f).depth∧(∀ e∈exprs,(exW e).depth+1≤(fmW f).depth)∧(∀ k∈kids,(fmW k).depth+1≤(fmW f).depth):=by
 intro f hf;have d1: ∀ l:List Sx,1≤(listM l).depth:=fun l=>by simp only[listM,Sx.depth,if_true];omega
 have rest: ∀ {op:ByteArray}{params:List Pm}{kids:List Fm}{pre:List Sx},fmW (.mk op ⟨#[]⟩ [] params [] kids)=listM (pre++kids.map fmW)→
   1+Sx.nodess (([]:List Ex).map exW)+Sx.nodess (kids.map fmW)≤(fmW (.mk op ⟨#[]⟩ [] params [] kids)).nodes∧1≤(fmW (.mk op ⟨#[]⟩ [] params [] kids)).depth∧(∀ e∈([]:List Ex),(exW e).depth+1≤(fmW (.mk op ⟨#[]⟩ [] params [] kids)).depth)∧(∀ k∈kids,(fmW k).depth+1≤(fmW (.mk op ⟨#[]⟩ [] params [] kids)).depth):=by
  intro op params kids pre e;rw[e];refine⟨?_,d1 _,by simp,fun k hk=>list_depth (List.mem_append.2 (.inr (List.mem_map.2 ⟨k,hk,rfl⟩)))⟩;rw[list_nodes,nodess_append];simp only[List.map_nil,Sx.nodess];omega
 refine sf_cases (C:=fun f=>match f with
  | .mk _ _ _ _ exprs kids=>1+Sx.nodess (exprs.map exW)+Sx.nodess (kids.map fmW)≤(fmW f).nodes∧1≤(fmW f).depth∧(∀ e∈exprs,(exW e).depth+1≤(fmW f).depth)∧(∀ k∈kids,(fmW k).depth+1≤(fmW f).depth)) f hf ?_ ?_ ?_ ?_ ?_ ?_ ?_
 ·intro name args _ _;have e:fmW (.mk opAtom name args [] [] [])=wordsM name args:=rfl;simp only[e];exact⟨by simp only[wordsM,list_nodes,List.map_nil,Sx.nodess];omega,d1 _,by simp,by simp⟩
 ·intro args _ _;have e:fmW (.mk opSame ⟨#[]⟩ args [] [] [])=wordsM opEq args:=rfl;simp only[e];exact⟨by simp only[wordsM,list_nodes,List.map_nil,Sx.nodess];omega,d1 _,by simp,by simp⟩
 ·intro op a b ho _ _;have e:fmW (.mk op ⟨#[]⟩ [] [] [a,b] [])=listM [wordM op,exW a,exW b]:=by rcases ho with rfl|rfl|rfl<;>rfl
  simp only[e];refine⟨?_,d1 _,?_,by simp⟩
  ·simp only[list_nodes,List.map_cons,List.map_nil,Sx.nodess,word_nodes];omega
  ·intro x hx;simp only[List.mem_cons,List.not_mem_nil,or_false]at hx;rcases hx with rfl|rfl<;>exact list_depth (by simp)
 ·intro op kids ho _;obtain⟨pre,e⟩: ∃ pre,fmW (.mk op ⟨#[]⟩ [] [] [] kids)=listM (pre++kids.map fmW):=by rcases ho with rfl|rfl<;>exact fmW_rest rfl rfl rfl
  exact rest e
 ·intro k _;obtain⟨pre,e⟩: ∃ pre,fmW (.mk opNot ⟨#[]⟩ [] [] [] [k])=listM (pre++[k].map fmW):=fmW_rest rfl rfl rfl;exact rest e
 ·intro a b _ _;obtain⟨pre,e⟩: ∃ pre,fmW (.mk opImp ⟨#[]⟩ [] [] [] [a,b])=listM (pre++[a,b].map fmW):=fmW_rest rfl rfl rfl;exact rest e
 ·intro op params k ho _ _;obtain⟨pre,e⟩: ∃ pre,fmW (.mk op ⟨#[]⟩ [] params [] [k])=listM (pre++[k].map fmW):=by rcases ho with rfl|rfl<;>exact fmW_rest rfl rfl rfl
  exact rest e
theorem formeds_of: ∀ (l:List Ex),(∀ e∈l,shapedE e=true)→ ∀ (d n:Nat),(∀ e∈l,d+(exW e).depth≤32)→n+Sx.nodess (l.map exW)≤4096→(formedMs l d n).1=true∧(formedMs l d n).2≤n+Sx.nodess (l.map exW)
 |[],_,d,n,_,hn=>by simp[formedMs,Sx.nodess]
 |e::l,hs,d,n,hd,hn=>by
  simp only[List.map_cons,Sx.nodess]at hn⊢;obtain⟨f1,f2⟩:=formed_of e (hs e (by simp)) d n (hd e (by simp)) (by omega);unfold formedMs;cases hw:formedM e d n with
  |mk x c=>
   rw[hw]at f1 f2;simp only at f1 f2;subst f1;simp only;obtain⟨g1,g2⟩:=formeds_of l (fun q hq=>hs q (by simp[hq])) d c (fun q hq=>hd q (by simp[hq])) (by omega);exact⟨g1,by omega⟩
theorem shapeds_of: ∀ (l:List Fm)(d:Nat),(∀ k∈l, ∀ n,n+(fmW k).nodes≤4096→(shapedM k d n).1=true∧(shapedM k d n).2≤n+(fmW k).nodes)→ ∀ n,n+Sx.nodess (l.map fmW)≤4096→(shapedMs l d n).1=true∧(shapedMs l d n).2≤n+Sx.nodess (l.map fmW)
 |[],_,_,n,hn=>by simp[shapedMs,Sx.nodess]
 |k::l,d,h,n,hn=>by
  simp only[List.map_cons,Sx.nodess]at hn⊢;obtain⟨f1,f2⟩:=h k (by simp) n (by omega);unfold shapedMs;cases hw:shapedM k d n with
  |mk x c=>
   rw[hw]at f1 f2;simp only at f1 f2;subst f1;simp only;obtain⟨g1,g2⟩:=shapeds_of l d (fun q hq=>h q (by simp[hq])) c (by omega);exact⟨g1,by omega⟩
theorem shaped_of: ∀ (f:Fm),shapedF f=true→ ∀ (d n:Nat),d+(fmW f).depth≤32→n+(fmW f).nodes≤4096→(shapedM f d n).1=true∧(shapedM f d n).2≤n+(fmW f).nodes:=by
 refine Fm.ind ?_;intro op name args params exprs kids ih hs d n hd hn;have hp:=fmW_parts _ hs;simp only at hp;obtain⟨p1,p2,p3,p4⟩:=hp;have hs2:=hs;simp only[shapedF,Bool.and_eq_true,List.all_eq_true]at hs2;obtain⟨⟨h1,h2⟩,h3⟩:=hs2;rw[shapedFs_iff]at h3;generalize fmW (.mk op name args params exprs kids)=X at*;unfold shapedM;rw[if_pos ⟨by omega,by omega⟩,if_pos h1];obtain⟨f1,f2⟩:=formeds_of exprs h2 (d+1) (n+1) (fun e he=>by have:=p3 e he;omega) (by omega);cases hw:formedMs exprs (d+1) (n+1)with
 |mk x c=>
  rw[hw]at f1 f2;simp only at f1 f2;subst f1;simp only;obtain⟨g1,g2⟩:=shapeds_of kids (d+1) (fun k hk m hm=>ih k hk (h3 k hk) (d+1) m (by have:=p4 k hk;omega) hm) c (by omega);exact⟨g1,by omega⟩
theorem validF_same{f:Fm}(hn:(fmW f).nodes≤bigN):validF f=(shapedF f&&rvalidB (fmW f)):=by
 unfold validF;rw[valid_same hn];cases hs:shapedF f with
 |false=>
  have:(shapedM f 0 0).1=false:=by
   cases h:(shapedM f 0 0).1 with
   |false=>rfl
   |true=>rw[shapedM_F f 0 0 h]at hs;simp at hs
  simp only[this,Bool.false_and]
 |true=>
  cases hv:rvalidB (fmW f)with
  |false=>simp
  |true=>
   have h1:=(svalid_iff (fmW f) 0 0 (by omega) (by omega)).1.1 (by rw[valid_same hn];exact hv);rw[(shaped_of f hs 0 0 h1.2.1 h1.2.2).1]
end Go.Proofs.YtjeolbgpllbemaaGreat
namespace Go.Proofs.YtjeolbgpllbemaaGreat
open Go.AM
theorem nodess_wds: ∀ l:List ByteArray,Sx.nodess (l.map wordM)=l.length
 |[]=>rfl
 |s::l=>by simp only[List.map_cons,Sx.nodess,word_nodes,nodess_wds l,List.length_cons];omega
theorem wds_nodes(first:ByteArray)(l:List ByteArray):(wordsM first l).nodes=l.length+2:=by
 simp only[wordsM,list_nodes,nodess_wds,List.length_cons]
theorem nodess_pms: ∀ l:List Pm,Sx.nodess (paramsW l)=3*l.length
 |[]=>rfl
 |s::l=>by simp only[paramsW,Sx.nodess,word_nodes,nodess_pms l,List.length_cons];omega
theorem nodess_len: ∀ l:List Sx,l.length≤Sx.nodess l
 |[]=>by simp
 |k::l=>by
  have:=nodess_len l;cases k;simp only[Sx.nodess,Sx.nodes,List.length_cons];omega
theorem exW_le(op name:ByteArray)(v:Int)(args:List ByteArray)(kids:List Ex):(exW (.mk op name v args kids)).nodes≤2+args.length+Sx.nodess (kids.map exW):=by
 unfold exW;split
 ·simp only[Sx.nodes,Sx.nodess];omega
 ·split
  ·rw [wds_nodes];omega
  ·split
   ·simp only[list_nodes,Sx.nodess,word_nodes,List.map_cons,List.map_nil];omega
   ·simp only[list_nodes,Sx.nodess,word_nodes];omega
theorem zeroEx_nodes:(exW zeroEx).nodes≤2:=exW_le ⟨#[]⟩ ⟨#[]⟩ 0 [] []
theorem termsM_len: ∀ l:List Sx,(termsM l).1.length≤l.length
 |[]=>by simp[termsM]
 |x::l=>by
  have ih:=termsM_len l;simp only[termsM];cases kindOf x==1 with
  |false=>simp
  |true=>
   cases termB (textOf x)with
   |false=>simp
   |true=>
    simp only[cond_true];cases(termsM l).2==0 with
    |false=>simp
    |true=>simp only[cond_true,List.length_cons];omega
theorem exprP_nodes: ∀ x:Sx,(exW (exprP x).1).nodes≤3*x.nodes:=by
 refine Sx.ind ?_;intro kind value line col text kids ih;have h1:1≤(Sx.mk kind value line col text kids).nodes:=by simp only[Sx.nodes];omega
 have hz:(exW zeroEx).nodes≤3*(Sx.mk kind value line col text kids).nodes:=by have:=zeroEx_nodes;omega
 by_cases n2:kind=2
 ·unfold exprP;rw[if_pos n2];have:=exW_le opNum ⟨#[]⟩ value [] [];simp only[List.length_nil,List.map_nil,Sx.nodess]at this;simp only;omega
 ·by_cases e3:kind=3
  ·cases kids with
   |nil=>
    unfold exprP;rw[if_neg n2,if_pos e3];exact hz
   |cons y rest=>
    rw[exprP_hd n2 e3];have hn:(Sx.mk kind value line col text (y::rest)).nodes=y.nodes+Sx.nodess rest+1:=(by simp only[Sx.nodes,Sx.nodess]);have hy:1≤y.nodes:=(by cases y;simp only[Sx.nodes];omega);cases kindOf y==1 with
    |false=>exact hz
    |true=>
     simp only[cond_true];cases isPm (textOf y)with
     |true=>
      simp only[cond_true];cases q:(exprs2 rest).2==0 with
      |false=>exact hz
      |true=>
       simp only[cond_true];have h2:=exW_le (textOf y) ⟨#[]⟩ 0 [] (exprs2 rest).1;have h3:Sx.nodess ((exprs2 rest).1.map exW)≤3*Sx.nodess rest:=by
        (try clear zz);clear h2 hz h1 hn
        match rest,q with
        |[],q=>simp[exprs2]at q
        |[_],q=>simp[exprs2]at q
        |[a,b],q=>
         have ha:=ih a (by simp);have hb:=ih b (by simp);simp only[exprs2];cases(exprP a).2==0 with
         |false=>simp[Sx.nodess]
         |true=>
          cases(exprP b).2==0 with
          |false=>simp[Sx.nodess]
          |true=>simp only[cond_true,List.map_cons,List.map_nil,Sx.nodess];omega
        |_::_::_::_,q=>simp[exprs2]at q
       simp only[List.length_nil]at h2;omega
     |false=>
      simp only[cond_false];cases nameB (textOf y)with
      |false=>exact hz
      |true=>
       simp only[cond_true];cases(termsM rest).2==0 with
       |false=>exact hz
       |true=>
        simp only[cond_true];have h2:=exW_le opFlu (textOf y) 0 (termsM rest).1 [];have h3:=termsM_len rest;have h4:=nodess_len rest;simp only[List.map_nil,Sx.nodess]at h2;omega
  ·unfold exprP;rw[if_neg n2,if_neg e3];exact hz
theorem fmW_le(op name:ByteArray)(args:List ByteArray)(params:List Pm)(exprs:List Ex)(kids:List Fm):(fmW (.mk op name args params exprs kids)).nodes≤3+args.length+3*params.length+Sx.nodess (exprs.map exW)+Sx.nodess (kids.map fmW):=by
 unfold fmW;split
 ·rw [wds_nodes];omega
 ·split
  ·rw [wds_nodes];omega
  ·split
   ·simp only[list_nodes,Sx.nodess,word_nodes];omega
   ·rw [fmWs_map];simp only[list_nodes,nodess_append];split<;>split<;>simp only[Sx.nodess,word_nodes,list_nodes,nodess_pms]<;>omega
theorem zeroFm_nodes:(fmW zeroFm).nodes=2:=rfl
theorem fmPs_nodes: ∀ l:List Sx,(∀ x∈l,(fmW (fmP x).1).nodes≤3*x.nodes)→Sx.nodess ((fmPs l).1.map fmW)≤3*Sx.nodess l
 |[],_=>by simp[fmPs,Sx.nodess]
 |x::l,h=>by
  have h1:=h x (by simp);have h2:=fmPs_nodes l fun y hy=>h y (by simp[hy]);simp only[fmPs];cases(fmP x).2==0 with
  |false=>simp[Sx.nodess]
  |true=>
   simp only[cond_true];cases(fmPs l).2==0 with
   |false=>simp[Sx.nodess]
   |true=>simp only[cond_true,List.map_cons,Sx.nodess];omega
theorem paramsL_len(vars:Bool): ∀ (n:Nat)(l:List Sx),l.length≤n→ ∀ (don:List Pm)(pen:List ByteArray),(paramsL vars l don pen).1.length≤don.length+pen.length+l.length:=by
 intro n
 induction n with
 |zero=>
  intro l hl don pen
  match l,hl with
  |[],_=>simp[paramsL,pmsOf]
 |succ n ih=>
  intro l hl don pen;cases l with
  |nil=>simp[paramsL,pmsOf]
  |cons x l=>
   rw[paramsL_cons];cases isWrd x with
   |false=>simp
   |true=>
    simp only[cond_true];cases bEq (textOf x) opMin with
    |true=>
     simp only[cond_true];cases l with
     |nil=>simp
     |cons t l'=>
      simp only;cases(!pen.isEmpty&&isWrd t)with
      |false=>simp
      |true=>
       cases typedB (textOf t)with
       |false=>simp
       |true=>
        simp only[cond_true];have:=ih l' (by simp at hl;omega) (don++pmsOf (textOf t) pen) [];simp[pmsOf]at this⊢;omega
    |false=>
     simp only[cond_false];cases(bif vars then varB (textOf x)else nameB (textOf x))with
     |false=>simp
     |true=>
      simp only[cond_true];have:=ih l (by simp at hl;omega) don (pen++[textOf x]);simp at this⊢;omega
theorem topR_nodes(w:ByteArray)(rest:List Sx)(ih: ∀ x∈rest,(fmW (fmP x).1).nodes≤3*x.nodes):(fmW (topR w rest).1).nodes≤3*(2+Sx.nodess rest)∧(((topR w rest).2==0)=false→(topR w rest).1=zeroFm):=by
 have hz:(fmW zeroFm).nodes≤3*(2+Sx.nodess rest):=by rw[zeroFm_nodes];omega
 have z2: ∀ c:Int,(fmW ((zeroFm,c):Fm × Int).1).nodes≤3*(2+Sx.nodess rest)∧((((zeroFm,c):Fm × Int).2==0)=false→((zeroFm,c):Fm × Int).1=zeroFm):=fun c=>⟨hz,fun _=>rfl⟩;have l1: ∀ w,(fmW (lstR w rest).1).nodes≤3*(2+Sx.nodess rest)∧(((lstR w rest).2==0)=false→(lstR w rest).1=zeroFm):=by
  intro w;unfold lstR;cases(fmPs rest).2==0 with
  |false=>exact z2 _
  |true=>
   have h1:=fmW_le w ⟨#[]⟩ [] [] [] (fmPs rest).1;have h2:=fmPs_nodes rest ih;simp only[List.length_nil,List.map_nil,Sx.nodess]at h1;simp only[cond_true];exact⟨by omega,fun h=>by simp at h⟩
 have c1: ∀ w,(fmW (cmpR w rest).1).nodes≤3*(2+Sx.nodess rest)∧(((cmpR w rest).2==0)=false→(cmpR w rest).1=zeroFm):=by
  intro w;unfold cmpR;cases q:(exprs2 rest).2==0 with
  |false=>exact z2 _
  |true=>
   simp only[cond_true]
   match rest,q with
   |[],q=>simp[exprs2]at q
   |[_],q=>simp[exprs2]at q
   |[a,b],q=>
    have ha:=exprP_nodes a;have hb:=exprP_nodes b;simp only[exprs2]at q⊢;cases qa:(exprP a).2==0 with
    |false=>simp only[qa,cond_false]at q;exact absurd q (by simp)
    |true=>
     cases qb:(exprP b).2==0 with
     |false=>simp only[qa,qb,cond_true,cond_false]at q;exact absurd q (by simp)
     |true=>
      simp only[cond_true];have key: ∀ o c d,(c=(exprP a).1∧d=(exprP b).1∨c=(exprP b).1∧d=(exprP a).1)→(fmW (.mk o ⟨#[]⟩ [] [] [c,d] [])).nodes≤3*(2+Sx.nodess [a,b]):=by
       intro o c d hcd;have h1:=fmW_le o ⟨#[]⟩ [] [] [c,d] [];simp only[List.length_nil,List.map_cons,List.map_nil,Sx.nodess]at h1⊢;rcases hcd with⟨rfl,rfl⟩|⟨rfl,rfl⟩<;>omega
      split
      ·exact ⟨key _ _ _ (.inr ⟨rfl,rfl⟩),fun h=>by simp at h⟩
      ·split
       ·exact ⟨key _ _ _ (.inr ⟨rfl,rfl⟩),fun h=>by simp at h⟩
       ·exact ⟨key _ _ _ (.inl ⟨rfl,rfl⟩),fun h=>by simp at h⟩
   |_::_::_::_,q=>simp[exprs2]at q
 have q1: ∀ w,(fmW (quantR w rest).1).nodes≤3*(2+Sx.nodess rest)∧(((quantR w rest).2==0)=false→(quantR w rest).1=zeroFm):=by
  intro w;by_cases hl:rest.length=2
  ·match rest,hl with
   |[p,y],_=>
    unfold quantR;dsimp only;cases kindOf p==3 with
    |false=>exact z2 _
    |true=>
     cases(paramsP true (kidsOf p)).2==0 with
     |false=>exact z2 _
     |true=>
      cases(fmP y).2==0 with
      |false=>exact z2 _
      |true=>
       simp only[cond_true];have h1:=fmW_le w ⟨#[]⟩ [] (paramsP true (kidsOf p)).1 [] [(fmP y).1];have h2:=ih y (by simp);have h3:=paramsL_len true (kidsOf p).length (kidsOf p) (Nat.le_refl _) [] [];have h4:=nodess_len (kidsOf p);have h5:p.nodes=Sx.nodess (kidsOf p)+1:=(by cases p;simp only[Sx.nodes,kidsOf]);unfold paramsP at h1⊢;simp only[List.length_nil,List.map_cons,List.map_nil,Sx.nodess]at h1 h3⊢;exact⟨by omega,fun h=>by simp at h⟩
  ·rw [quantR_len hl];exact z2 _
 have t1: ∀ op name,(fmW (termsR op name rest).1).nodes≤3*(2+Sx.nodess rest)∧(((termsR op name rest).2==0)=false→(termsR op name rest).1=zeroFm):=by
  intro op name;unfold termsR;cases(termsM rest).2==0 with
  |false=>exact z2 _
  |true=>
   simp only[cond_true];have h1:=fmW_le op name (termsM rest).1 [] [] [];have h2:=termsM_len rest;have h3:=nodess_len rest;simp only[List.length_nil,List.map_nil,Sx.nodess]at h1;exact⟨by omega,fun h=>by simp at h⟩
 unfold topR;split
 ·exact l1 _
 split
 ·exact l1 _
 split
 ·cases ((rest.length:Int) !=1)with
  |true=>exact z2 _
  |false=>exact l1 _
 split
 ·cases ((rest.length:Int) !=2)with
  |true=>exact z2 _
  |false=>exact l1 _
 split
 ·exact q1 _
 split
 ·exact q1 _
 split
 ·exact c1 _
 split
 ·exact c1 _
 split
 ·exact c1 _
 split
 ·exact c1 _
 split
 ·cases wordsB rest with
  |true=>exact t1 _ _
  |false=>exact c1 _
 cases nameB w with
 |true=>exact t1 _ _
 |false=>exact z2 _
theorem fmP_nodes: ∀ x:Sx,(fmW (fmP x).1).nodes≤3*x.nodes∧(((fmP x).2==0)=false→(fmP x).1=zeroFm):=by
 refine Sx.ind ?_;intro kind value line col text kids ih;have h1:1≤(Sx.mk kind value line col text kids).nodes:=by simp only[Sx.nodes];omega
 have hz:(fmW zeroFm).nodes≤3*(Sx.mk kind value line col text kids).nodes:=by rw[zeroFm_nodes];omega
 by_cases e3:kind=3
 ·cases kids with
  |nil=>
   unfold fmP;rw[if_pos e3];have:=fmW_le opAnd ⟨#[]⟩ [] [] [] [];simp only[List.length_nil,List.map_nil,Sx.nodess]at this;exact⟨by simp only;omega,fun h=>by simp at h⟩
  |cons y rest=>
   by_cases hy:kindOf y=1
   ·rw [fmP_top e3 hy];have h2:=topR_nodes (textOf y) rest fun x hx=>(ih x (by simp[hx])).1;have hn:(Sx.mk kind value line col text (y::rest)).nodes=y.nodes+Sx.nodess rest+1:=(by simp only[Sx.nodes,Sx.nodess]);have h3:1≤y.nodes:=(by cases y;simp only[Sx.nodes];omega);exact⟨by omega,h2.2⟩
   ·unfold fmP;rw[if_pos e3];dsimp only;rw[show(kindOf y==1)=false by simpa using hy];exact⟨hz,fun _=>rfl⟩
 ·unfold fmP;rw[if_neg e3];exact⟨hz,fun _=>rfl⟩
end Go.Proofs.YtjeolbgpllbemaaGreat
namespace Go.Proofs.YtjeolbgpllbemaaGreat
open Go.AM
def opF(op name:ByteArray)(args:List ByteArray)(params:List Pm)(ne nk:Nat):Bool:=
 if bEq op opAtom then nameB name&&(args.all termB&&((((params.length:Int)+ne)+nk)==0))
 else if bEq op opSame then bEq name ⟨#[]⟩&&(((args.length:Int)==2)&&(args.all termB&&((((params.length:Int)+ne)+nk)==0)))
 else if(bEq op opLt||(bEq op opLe||bEq op opEq))then bEq name ⟨#[]⟩&&(((((args.length:Int)+params.length)+nk)==0)&&((ne:Int)==2))
 else if(bEq op opAnd||bEq op opOr)then bEq name ⟨#[]⟩&&((((args.length:Int)+params.length)+ne)==0)
 else if bEq op opNot then bEq name ⟨#[]⟩&&(((((args.length:Int)+params.length)+ne)==0)&&((nk:Int)==1))
 else if bEq op opImp then bEq name ⟨#[]⟩&&(((((args.length:Int)+params.length)+ne)==0)&&((nk:Int)==2))
 else if(bEq op opAll||bEq op opSome)then bEq name ⟨#[]⟩&&((((args.length:Int)+ne)==0)&&(((nk:Int)==1)&&params.all pmOk))
 else false
theorem partsOk_opF(op name:ByteArray)(args:List ByteArray)(params:List Pm)(ne nk:Nat):partsOk op name args params ne nk=opF op name args params ne nk:=by
 have ea:args.isEmpty=decide (args.length=0):=by cases args<;>simp
 have ep:params.isEmpty=decide (params.length=0):=by cases params<;>simp
 have ep2:params.length=0→params.all pmOk=true:=fun h=>by rw[List.length_eq_zero_iff.1 h];try rfl
 have en:emptyB name=bEq name ⟨#[]⟩:=rfl;unfold partsOk shapeOf termsOk opF;rw[ea,en,ep];generalize args.all termB=ta;generalize params.all pmOk=pa at ep2;generalize bEq name ⟨#[]⟩=nm;generalize nameB name=nn;generalize args.length=la;generalize params.length=lp at ep2;cases k1:bEq op opAtom
 ·cases k2:bEq op opSame
  ·cases k3:bEq op opLt
   ·cases k4:bEq op opLe
    ·cases k5:bEq op opEq
     ·cases k6:bEq op opAnd
      ·cases k7:bEq op opOr
       ·cases k8:bEq op opNot
        ·cases k9:bEq op opImp
         ·cases k10:bEq op opAll
          ·cases k11:bEq op opSome
           ·simp
           ·rw [Bool.eq_iff_iff];simp;cases nm<;>cases pa<;>simp<;>omega
          ·rw [Bool.eq_iff_iff];simp;cases nm<;>cases pa<;>simp<;>omega
         ·rw [Bool.eq_iff_iff];simp;cases nm<;>cases pa<;>simp at ep2⊢ <;>omega
        ·rw [Bool.eq_iff_iff];simp;cases nm<;>cases pa<;>simp at ep2⊢ <;>omega
       ·rw [Bool.eq_iff_iff];simp;cases nm<;>cases pa<;>simp at ep2⊢ <;>omega
      ·rw [Bool.eq_iff_iff];simp;cases nm<;>cases pa<;>simp at ep2⊢ <;>omega
     ·rw [Bool.eq_iff_iff];simp;cases nm<;>cases pa<;>simp at ep2⊢ <;>omega
    ·rw [Bool.eq_iff_iff];simp;cases nm<;>cases pa<;>simp at ep2⊢ <;>omega
   ·rw [Bool.eq_iff_iff];simp;cases nm<;>cases pa<;>simp at ep2⊢ <;>omega
  ·rw [Bool.eq_iff_iff];simp;cases nm<;>cases pa<;>cases ta<;>simp at ep2⊢ <;>omega
 ·rw [Bool.eq_iff_iff];simp;cases nn<;>cases pa<;>cases ta<;>simp at ep2⊢ <;>omega
theorem shapedF_op{op name:ByteArray}{args:List ByteArray}{params:List Pm}{exprs:List Ex}{kids:List Fm}(hE: ∀ e∈exprs,shapedE e=true)(hK: ∀ k∈kids,shapedF k=true):
  shapedF (.mk op name args params exprs kids)=opF op name args params exprs.length kids.length:=by
 have h1:exprs.all shapedE=true:=List.all_eq_true.2 hE;have h2:shapedFs kids=true:=shapedFs_iff.2 hK;simp only[shapedF,h1,h2,Bool.and_true,partsOk_opF]
theorem shapedF_kid{op name:ByteArray}{args:List ByteArray}{params:List Pm}{exprs:List Ex}{kids:List Fm}(h:shapedF (.mk op name args params exprs kids)=true):(∀ e∈exprs,shapedE e=true)∧ ∀ k∈kids,shapedF k=true:=by
 simp only[shapedF,Bool.and_eq_true]at h;exact⟨List.all_eq_true.1 h.1.2,shapedFs_iff.1 h.2⟩
end Go.Proofs.YtjeolbgpllbemaaGreat
