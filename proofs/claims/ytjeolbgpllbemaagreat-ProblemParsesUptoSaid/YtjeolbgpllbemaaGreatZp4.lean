/- What the claim rests on, part 4: the abstract machine, contracts of the functions, plain data. -/
import Derived.Test.YtjeolbgpllbemaaGreatZp3
set_option linter.unusedVariables false
set_option linter.unusedSimpArgs false
set_option linter.unusedSectionVars false
namespace Go.Proofs.YtjeolbgpllbemaaGreat
open Go.AM
set_option maxHeartbeats 2000000
set_option maxRecDepth 20000
theorem dig_cls(c:UInt8):(digB c=true∧decide ((c.toNat:Int)<48)=false∧decide ((c.toNat:Int)>57)=false)∨(digB c=false∧decide ((c.toNat:Int)<48)=true)∨(digB c=false∧decide ((c.toNat:Int)<48)=false∧decide ((c.toNat:Int)>57)=true):=by
 simp only[digB,Bool.and_eq_true,Bool.and_eq_false_iff,decide_eq_true_eq,decide_eq_false_iff_not];omega
theorem rdigits_c{h:Heap}{s:ByteArray}(hs:s.size≤bigN):PCall Tryz.prog 147 [sPV s] h fun r h'=>r= .sc (.bool (s.data.toList.all digB&&decide (0<s.size)))∧h'=h:=by
 unfold bigN at hs;have htl:s.data.toList.length=s.size:=by rw[Array.length_toList];try rfl
 refine uG0 Tryz.func147 Tryz.ntmps147 Tryz.results147 Ty.hb_147 ?_;repeat'(first|refine a_seq fun K hK=>?_|refine a_block ?_|refine uR trivial ?_|(refine uN hK ?_;clear hK)|apply zI)
 refine a_loop (fun m S h'=>h'=h∧S 0=sPV s∧ ∃ k:Nat,S 3= .sc (.int .i64 k)∧k≤s.size∧m=s.size-k∧ ∀ (i:Nat)(c:UInt8),i<k→s.data.toList[i]? =some c→digB c=true) s.size ?_ ?_
 ·simp only[Ty.w,simprocAttr];exact⟨0,rfl,by omega,rfl,by omega⟩
 ·rintro m S h' ⟨rfl,g0,k,g3,hk,rfl,hall⟩;by_cases hlt:k<s.size
  ·have hd:decide ((k:Int)<(s.size:Int))=true:=(by simp;omega);have w7:IntKind.i64.wrap ((k:Int)+1)=k+1:=(by rw[wrap64 (by omega) (by omega)]);obtain⟨c,hx⟩: ∃ c,s.data.toList[k]? =some c:=⟨_,List.getElem?_eq_getElem (by omega)⟩;have hr:s[k]? =some c:=(by rw[ba_get];exact hx);have bad:digB c=false→s.data.toList.all digB=false:=fun hg=>(by rw[List.all_eq_false];exact⟨c,List.mem_of_getElem? hx,by simp[hg]⟩);rcases dig_cls c with⟨hg,c1,c2⟩|⟨hg,c1⟩|⟨hg,c1,c2⟩
   ·replace zz:=uu g0 (uu g3 (uu hd (uu hr (uu c1 (uu c2 w7)))));(repeat'(first|refine a_seq fun K hK=>?_|refine a_block ?_|refine uR zz ?_|refine uK ?_|refine uC1 zz ?_|(refine uN hK ?_;clear hK)|apply zI));refine⟨s.size-(k+1),by omega,k+1,by simp,by omega,rfl,fun i c2 hi hw=>?_⟩;by_cases hik:i=k
    ·subst hik;rw[hx]at hw;simp at hw;rw[← hw];exact hg
    ·exact hall i c2 (by omega) hw
   ·replace zz:=uu g0 (uu g3 (uu hd (uu hr c1)));(repeat'(first|refine a_seq fun K hK=>?_|refine uR zz ?_|refine uT zz ?_|refine uK ?_|refine uC1 zz ?_|(refine uN hK ?_;clear hK)|apply zI));rw[bad hg];try rfl
   ·replace zz:=uu g0 (uu g3 (uu hd (uu hr (uu c1 c2))));(repeat'(first|refine a_seq fun K hK=>?_|refine uR zz ?_|refine uT zz ?_|refine uK ?_|refine uC1 zz ?_|(refine uN hK ?_;clear hK)|apply zI));rw[bad hg];try rfl
  ·have hd:decide ((k:Int)<(s.size:Int))=false:=(by simp;omega);have hok:s.data.toList.all digB=true:=by
    rw[List.all_eq_true];intro c hc;obtain⟨i,hi⟩:=List.getElem?_of_mem hc;exact hall i c (by have:=(List.getElem?_eq_some_iff.1 hi).1;omega) hi
   have e1:decide ((s.size:Int)>0)=decide (0<s.size):=decide_eq_decide.2 (by omega);(try clear zz);clear hall;replace zz:=uu g0 (uu g3 hd);(repeat'(first|refine a_seq fun K hK=>?_|refine uR zz ?_|refine uT zz ?_|refine uX ?_|refine uC1 zz ?_|(refine uN hK ?_;clear hK)|(clear hK;refine uN hK ?_;clear hK)|apply zI));rw[hok,e1];try rfl
theorem rnumeric_c{h:Heap}{s:ByteArray}(hs:s.size≤bigN):PCall Tryz.prog 119 [sPV s] h fun r h'=>r= .sc (.bool (numB s))∧h'=h:=by
 have htl:s.data.toList.length=s.size:=by rw[Array.length_toList];try rfl
 cases b1:decide ((s.size:Int)>0)with
 |false=>
  have ht:trimB s=s:=by
   have:s.data.toList=[]:=List.eq_nil_of_length_eq_zero (by have:=of_decide_eq_false b1;omega);unfold trimB;rw[this]
  have hd:=rdigits_c (h:=h) hs;refine uG0 Tryz.func119 Tryz.ntmps119 Tryz.results119 Ty.hb_119 ?_;repeat'(first|refine a_seq fun K hK=>?_|refine uR b1 ?_|refine uK ?_|refine uC1 b1 ?_|(refine uN hK ?_;clear hK)|apply zI)
  refine uU b1 (hd) ?_;repeat'(first|refine uT trivial ?_|(refine uN hK ?_;clear hK)|apply zI)
  rw[show numB s=((trimB s).data.toList.all digB&&decide (0<(trimB s).size))from rfl,ht]
 |true=>
  have hpos:0<s.size:=by simp at b1;omega
  obtain⟨c,hx⟩: ∃ c,s.data.toList[0]? =some c:=⟨_,List.getElem?_eq_getElem (by omega)⟩;have hr:s[0]? =some c:=by rw[ba_get];exact hx
  cases b2:((c.toNat:Int)==45)with
  |false=>
   have ht:trimB s=s:=by
    unfold trimB;split
    ·rename_i l heq;rw[heq]at hx;simp at hx;subst hx;simp at b2
    ·rfl
   have hd:=rdigits_c (h:=h) hs;refine uG0 Tryz.func119 Tryz.ntmps119 Tryz.results119 Ty.hb_119 ?_;replace zz:=uu b1 (uu hr b2);(repeat'(first|refine a_seq fun K hK=>?_|refine uR zz ?_|refine uK ?_|refine uC1 zz ?_|(refine uN hK ?_;clear hK)|apply zI));refine uU (uu b1 b2) (hd) ?_;(repeat'(first|refine uT trivial ?_|(refine uN hK ?_;clear hK)|apply zI));rw[show numB s=((trimB s).data.toList.all digB&&decide (0<(trimB s).size))from rfl,ht]
  |true=>
   have hc:c=45:=by
    have:c.toNat=45:=(by simp at b2;omega);exact UInt8.toNat_inj.1 this
   have q1:(1:Int)≤(s.size:Int):=(by omega);have ht:trimB s=s.extract 1 s.size:=by
    cases hl:s.data.toList with
    |nil=>rw[hl]at hx;simp at hx
    |cons d l=>
     rw[hl]at hx;simp at hx;subst hx;subst hc;unfold trimB;rw[hl];refine ba_ext ?_;have hl2:=htl;rw[hl]at hl2;simp at hl2;simp only[ByteArray.data_extract,Array.toList_extract,List.extract_eq_take_drop,hl];rw[List.drop_succ_cons,List.drop_zero,List.take_of_length_le (by omega)]
   have hsz:(s.extract 1 s.size).size≤bigN:=(by simp only[ByteArray.size_extract];omega);have hd:=rdigits_c (h:=h) hsz;refine uG0 Tryz.func119 Tryz.ntmps119 Tryz.results119 Ty.hb_119 ?_;replace zz:=uu b1 (uu hr (uu b2 (uu q1 (uu @Int.le_refl @Int.toNat_one))));(repeat'(first|refine a_seq fun K hK=>?_|refine uR zz ?_|(refine uN hK ?_;clear hK)|apply zI));replace zz:=uu b1 (uu b2 (uu q1 (uu @Int.le_refl @Int.toNat_one)));refine uU zz (hd) ?_;(repeat'(first|refine uT trivial ?_|(refine uN hK ?_;clear hK)|apply zI));rw[show numB s=((trimB s).data.toList.all digB&&decide (0<(trimB s).size))from rfl,ht]
theorem let_cls(c:UInt8):(wB c=true∧decide ((c.toNat:Int)≥97)=true∧decide ((c.toNat:Int)≤122)=true)∨
  (letB c=false∧decide ((c.toNat:Int)≥97)=true∧decide ((c.toNat:Int)≤122)=false∧decide ((c.toNat:Int)≥48)=true∧decide ((c.toNat:Int)≤57)=false∧digB c=false)∨
  (letB c=false∧decide ((c.toNat:Int)≥97)=false∧decide ((c.toNat:Int)≥48)=false∧digB c=false)∨
  (wB c=true∧decide ((c.toNat:Int)≥97)=false∧decide ((c.toNat:Int)≥48)=true∧decide ((c.toNat:Int)≤57)=true)∨
  (letB c=false∧decide ((c.toNat:Int)≥97)=false∧decide ((c.toNat:Int)≥48)=true∧decide ((c.toNat:Int)≤57)=false∧digB c=false):=by
 simp only[wB,letB,digB,Bool.and_eq_true,Bool.or_eq_true,Bool.and_eq_false_iff,decide_eq_true_eq,decide_eq_false_iff_not];omega
theorem signs_c(c:UInt8):signs.contains c=(((c.toNat:Int)==45)||((c.toNat:Int)==95)||((c.toNat:Int)==63)||((c.toNat:Int)==58)||((c.toNat:Int)==60)||((c.toNat:Int)==62)||((c.toNat:Int)==61)||((c.toNat:Int)==43)||((c.toNat:Int)==42)):=by
 have hh: ∀ d:UInt8,(c==d)=((c.toNat:Int)==(d.toNat:Int)):=by
  intro d;by_cases h:c=d
  ·subst h;simp
  ·have:¬ c.toNat=d.toNat:=fun e=>h (UInt8.toNat_inj.1 e);have:¬ (c.toNat:Int)=(d.toNat:Int):=(by omega);rw[beq_eq_false_iff_ne.2 h,beq_eq_false_iff_ne.2 this]
 have e:signs.contains c=(c==45||(c==95||(c==63||(c==58||(c==60||(c==62||(c==61||(c==43||(c==42||false))))))))):=rfl;rw[e,hh,hh,hh,hh,hh,hh,hh,hh,hh];simp only[Bool.or_false,Bool.or_assoc];rfl
theorem letter_c{h:Heap}{c:UInt8}:PCall Tryz.prog 118 [.sc (.int .u8 c.toNat)] h fun r h'=>r= .sc (.bool (wB c))∧h'=h:=by
 refine uG0 Tryz.func118 Tryz.ntmps118 Tryz.results118 Ty.hb_118 ?_;rcases let_cls c with⟨hw,c1,c2⟩|⟨hlet,c1,c2,c3,c4,hdig⟩|⟨hlet,c1,c3,hdig⟩|⟨hw,c1,c3,c4⟩|⟨hlet,c1,c3,c4,hdig⟩
 ·replace zz:=uu c1 c2;repeat'(first|refine a_seq fun K hK=>?_|refine uR zz ?_|refine uT zz ?_|(refine uN hK ?_;clear hK)|apply zI)
  all_goals(rw[hw])
 ·cases s0:((c.toNat:Int)==45)with
  |true=>
   have hw:wB c=true:=(by simp only[wB,hlet,hdig,signs_c,s0,Bool.or_true,Bool.true_or,Bool.false_or]);replace zz:=uu c1 (uu c2 (uu c3 (uu c4 s0)));(repeat'(first|refine a_seq fun K hK=>?_|refine uR zz ?_|refine uT zz ?_|refine uK ?_|refine uC1 zz ?_|(refine uN hK ?_;clear hK)|apply zI));all_goals(rw[hw])
  |false=>
   cases s1:((c.toNat:Int)==95)with
   |true=>
    have hw:wB c=true:=(by simp only[wB,hlet,hdig,signs_c,s0,s1,Bool.or_true,Bool.true_or,Bool.false_or]);replace zz:=uu c1 (uu c2 (uu c3 (uu c4 (uu s0 s1))));(repeat'(first|refine a_seq fun K hK=>?_|refine uR zz ?_|refine uT zz ?_|refine uK ?_|refine uC1 zz ?_|(refine uN hK ?_;clear hK)|apply zI));all_goals(rw[hw])
   |false=>
    cases s2:((c.toNat:Int)==63)with
    |true=>
     have hw:wB c=true:=(by simp only[wB,hlet,hdig,signs_c,s0,s1,s2,Bool.or_true,Bool.true_or,Bool.false_or]);replace zz:=uu c1 (uu c2 (uu c3 (uu c4 (uu s0 (uu s1 s2)))));(repeat'(first|refine a_seq fun K hK=>?_|refine uR zz ?_|refine uT zz ?_|refine uK ?_|refine uC1 zz ?_|(refine uN hK ?_;clear hK)|apply zI));all_goals(rw[hw])
    |false=>
     cases s3:((c.toNat:Int)==58)with
     |true=>
      have hw:wB c=true:=(by simp only[wB,hlet,hdig,signs_c,s0,s1,s2,s3,Bool.or_true,Bool.true_or,Bool.false_or]);replace zz:=uu c1 (uu c2 (uu c3 (uu c4 (uu s0 (uu s1 (uu s2 s3))))));(repeat'(first|refine a_seq fun K hK=>?_|refine uR zz ?_|refine uT zz ?_|refine uK ?_|refine uC1 zz ?_|(refine uN hK ?_;clear hK)|apply zI));all_goals(rw[hw])
     |false=>
      cases s4:((c.toNat:Int)==60)with
      |true=>
       have hw:wB c=true:=(by simp only[wB,hlet,hdig,signs_c,s0,s1,s2,s3,s4,Bool.or_true,Bool.true_or,Bool.false_or]);replace zz:=uu c1 (uu c2 (uu c3 (uu c4 (uu s0 (uu s1 (uu s2 (uu s3 s4)))))));(repeat'(first|refine a_seq fun K hK=>?_|refine uR zz ?_|refine uT zz ?_|refine uK ?_|refine uC1 zz ?_|(refine uN hK ?_;clear hK)|apply zI));all_goals(rw[hw])
      |false=>
       cases s5:((c.toNat:Int)==62)with
       |true=>
        have hw:wB c=true:=(by simp only[wB,hlet,hdig,signs_c,s0,s1,s2,s3,s4,s5,Bool.or_true,Bool.true_or,Bool.false_or]);replace zz:=uu c1 (uu c2 (uu c3 (uu c4 (uu s0 (uu s1 (uu s2 (uu s3 (uu s4 s5))))))));(repeat'(first|refine a_seq fun K hK=>?_|refine uR zz ?_|refine uT zz ?_|refine uK ?_|refine uC1 zz ?_|(refine uN hK ?_;clear hK)|apply zI));all_goals(rw[hw])
       |false=>
        cases s6:((c.toNat:Int)==61)with
        |true=>
         have hw:wB c=true:=(by simp only[wB,hlet,hdig,signs_c,s0,s1,s2,s3,s4,s5,s6,Bool.or_true,Bool.true_or,Bool.false_or]);replace zz:=uu c1 (uu c2 (uu c3 (uu c4 (uu s0 (uu s1 (uu s2 (uu s3 (uu s4 (uu s5 s6)))))))));(repeat'(first|refine a_seq fun K hK=>?_|refine uR zz ?_|refine uT zz ?_|refine uK ?_|refine uC1 zz ?_|(refine uN hK ?_;clear hK)|apply zI));all_goals(rw[hw])
        |false=>
         cases s7:((c.toNat:Int)==43)with
         |true=>
          have hw:wB c=true:=(by simp only[wB,hlet,hdig,signs_c,s0,s1,s2,s3,s4,s5,s6,s7,Bool.or_true,Bool.true_or,Bool.false_or]);replace zz:=uu c1 (uu c2 (uu c3 (uu c4 (uu s0 (uu s1 (uu s2 (uu s3 (uu s4 (uu s5 (uu s6 s7))))))))));(repeat'(first|refine a_seq fun K hK=>?_|refine uR zz ?_|refine uT zz ?_|refine uK ?_|refine uC1 zz ?_|(refine uN hK ?_;clear hK)|apply zI));all_goals(rw[hw])
         |false=>
          cases s8:((c.toNat:Int)==42)with
          |true=>
           have hw:wB c=true:=(by simp only[wB,hlet,hdig,signs_c,s0,s1,s2,s3,s4,s5,s6,s7,s8,Bool.or_true,Bool.true_or,Bool.false_or]);replace zz:=uu c1 (uu c2 (uu c3 (uu c4 (uu s0 (uu s1 (uu s2 (uu s3 (uu s4 (uu s5 (uu s6 (uu s7 s8)))))))))));(repeat'(first|refine a_seq fun K hK=>?_|refine uR zz ?_|refine uT zz ?_|refine uK ?_|refine uC1 zz ?_|(refine uN hK ?_;clear hK)|apply zI));all_goals(rw[hw])
          |false=>
           have hw:wB c=false:=(by simp only[wB,hlet,hdig,signs_c,s0,s1,s2,s3,s4,s5,s6,s7,s8,Bool.or_false]);replace zz:=uu c1 (uu c2 (uu c3 (uu c4 (uu s0 (uu s1 (uu s2 (uu s3 (uu s4 (uu s5 (uu s6 (uu s7 s8)))))))))));(repeat'(first|refine a_seq fun K hK=>?_|refine uR zz ?_|refine uT zz ?_|refine uK ?_|refine uC1 zz ?_|(refine uN hK ?_;clear hK)|apply zI));all_goals(rw[hw])
 ·cases s0:((c.toNat:Int)==45)with
  |true=>
   have hw:wB c=true:=(by simp only[wB,hlet,hdig,signs_c,s0,Bool.or_true,Bool.true_or,Bool.false_or]);replace zz:=uu c1 (uu c3 s0);(repeat'(first|refine a_seq fun K hK=>?_|refine uR zz ?_|refine uT zz ?_|refine uK ?_|refine uC1 zz ?_|(refine uN hK ?_;clear hK)|apply zI));all_goals(rw[hw])
  |false=>
   cases s1:((c.toNat:Int)==95)with
   |true=>
    have hw:wB c=true:=(by simp only[wB,hlet,hdig,signs_c,s0,s1,Bool.or_true,Bool.true_or,Bool.false_or]);replace zz:=uu c1 (uu c3 (uu s0 s1));(repeat'(first|refine a_seq fun K hK=>?_|refine uR zz ?_|refine uT zz ?_|refine uK ?_|refine uC1 zz ?_|(refine uN hK ?_;clear hK)|apply zI));all_goals(rw[hw])
   |false=>
    cases s2:((c.toNat:Int)==63)with
    |true=>
     have hw:wB c=true:=(by simp only[wB,hlet,hdig,signs_c,s0,s1,s2,Bool.or_true,Bool.true_or,Bool.false_or]);replace zz:=uu c1 (uu c3 (uu s0 (uu s1 s2)));(repeat'(first|refine a_seq fun K hK=>?_|refine uR zz ?_|refine uT zz ?_|refine uK ?_|refine uC1 zz ?_|(refine uN hK ?_;clear hK)|apply zI));all_goals(rw[hw])
    |false=>
     cases s3:((c.toNat:Int)==58)with
     |true=>
      have hw:wB c=true:=(by simp only[wB,hlet,hdig,signs_c,s0,s1,s2,s3,Bool.or_true,Bool.true_or,Bool.false_or]);replace zz:=uu c1 (uu c3 (uu s0 (uu s1 (uu s2 s3))));(repeat'(first|refine a_seq fun K hK=>?_|refine uR zz ?_|refine uT zz ?_|refine uK ?_|refine uC1 zz ?_|(refine uN hK ?_;clear hK)|apply zI));all_goals(rw[hw])
     |false=>
      cases s4:((c.toNat:Int)==60)with
      |true=>
       have hw:wB c=true:=(by simp only[wB,hlet,hdig,signs_c,s0,s1,s2,s3,s4,Bool.or_true,Bool.true_or,Bool.false_or]);replace zz:=uu c1 (uu c3 (uu s0 (uu s1 (uu s2 (uu s3 s4)))));(repeat'(first|refine a_seq fun K hK=>?_|refine uR zz ?_|refine uT zz ?_|refine uK ?_|refine uC1 zz ?_|(refine uN hK ?_;clear hK)|apply zI));all_goals(rw[hw])
      |false=>
       cases s5:((c.toNat:Int)==62)with
       |true=>
        have hw:wB c=true:=(by simp only[wB,hlet,hdig,signs_c,s0,s1,s2,s3,s4,s5,Bool.or_true,Bool.true_or,Bool.false_or]);replace zz:=uu c1 (uu c3 (uu s0 (uu s1 (uu s2 (uu s3 (uu s4 s5))))));(repeat'(first|refine a_seq fun K hK=>?_|refine uR zz ?_|refine uT zz ?_|refine uK ?_|refine uC1 zz ?_|(refine uN hK ?_;clear hK)|apply zI));all_goals(rw[hw])
       |false=>
        cases s6:((c.toNat:Int)==61)with
        |true=>
         have hw:wB c=true:=(by simp only[wB,hlet,hdig,signs_c,s0,s1,s2,s3,s4,s5,s6,Bool.or_true,Bool.true_or,Bool.false_or]);replace zz:=uu c1 (uu c3 (uu s0 (uu s1 (uu s2 (uu s3 (uu s4 (uu s5 s6)))))));(repeat'(first|refine a_seq fun K hK=>?_|refine uR zz ?_|refine uT zz ?_|refine uK ?_|refine uC1 zz ?_|(refine uN hK ?_;clear hK)|apply zI));all_goals(rw[hw])
        |false=>
         cases s7:((c.toNat:Int)==43)with
         |true=>
          have hw:wB c=true:=(by simp only[wB,hlet,hdig,signs_c,s0,s1,s2,s3,s4,s5,s6,s7,Bool.or_true,Bool.true_or,Bool.false_or]);replace zz:=uu c1 (uu c3 (uu s0 (uu s1 (uu s2 (uu s3 (uu s4 (uu s5 (uu s6 s7))))))));(repeat'(first|refine a_seq fun K hK=>?_|refine uR zz ?_|refine uT zz ?_|refine uK ?_|refine uC1 zz ?_|(refine uN hK ?_;clear hK)|apply zI));all_goals(rw[hw])
         |false=>
          cases s8:((c.toNat:Int)==42)with
          |true=>
           have hw:wB c=true:=(by simp only[wB,hlet,hdig,signs_c,s0,s1,s2,s3,s4,s5,s6,s7,s8,Bool.or_true,Bool.true_or,Bool.false_or]);replace zz:=uu c1 (uu c3 (uu s0 (uu s1 (uu s2 (uu s3 (uu s4 (uu s5 (uu s6 (uu s7 s8)))))))));(repeat'(first|refine a_seq fun K hK=>?_|refine uR zz ?_|refine uT zz ?_|refine uK ?_|refine uC1 zz ?_|(refine uN hK ?_;clear hK)|apply zI));all_goals(rw[hw])
          |false=>
           have hw:wB c=false:=(by simp only[wB,hlet,hdig,signs_c,s0,s1,s2,s3,s4,s5,s6,s7,s8,Bool.or_false]);replace zz:=uu c1 (uu c3 (uu s0 (uu s1 (uu s2 (uu s3 (uu s4 (uu s5 (uu s6 (uu s7 s8)))))))));(repeat'(first|refine a_seq fun K hK=>?_|refine uR zz ?_|refine uT zz ?_|refine uK ?_|refine uC1 zz ?_|(refine uN hK ?_;clear hK)|apply zI));all_goals(rw[hw])
 ·replace zz:=uu c1 (uu c3 c4);repeat'(first|refine a_seq fun K hK=>?_|refine uR zz ?_|refine uT zz ?_|(refine uN hK ?_;clear hK)|apply zI)
  all_goals(rw[hw])
 ·cases s0:((c.toNat:Int)==45)with
  |true=>
   have hw:wB c=true:=(by simp only[wB,hlet,hdig,signs_c,s0,Bool.or_true,Bool.true_or,Bool.false_or]);replace zz:=uu c1 (uu c3 (uu c4 s0));(repeat'(first|refine a_seq fun K hK=>?_|refine uR zz ?_|refine uT zz ?_|refine uK ?_|refine uC1 zz ?_|(refine uN hK ?_;clear hK)|apply zI));all_goals(rw[hw])
  |false=>
   cases s1:((c.toNat:Int)==95)with
   |true=>
    have hw:wB c=true:=(by simp only[wB,hlet,hdig,signs_c,s0,s1,Bool.or_true,Bool.true_or,Bool.false_or]);replace zz:=uu c1 (uu c3 (uu c4 (uu s0 s1)));(repeat'(first|refine a_seq fun K hK=>?_|refine uR zz ?_|refine uT zz ?_|refine uK ?_|refine uC1 zz ?_|(refine uN hK ?_;clear hK)|apply zI));all_goals(rw[hw])
   |false=>
    cases s2:((c.toNat:Int)==63)with
    |true=>
     have hw:wB c=true:=(by simp only[wB,hlet,hdig,signs_c,s0,s1,s2,Bool.or_true,Bool.true_or,Bool.false_or]);replace zz:=uu c1 (uu c3 (uu c4 (uu s0 (uu s1 s2))));(repeat'(first|refine a_seq fun K hK=>?_|refine uR zz ?_|refine uT zz ?_|refine uK ?_|refine uC1 zz ?_|(refine uN hK ?_;clear hK)|apply zI));all_goals(rw[hw])
    |false=>
     cases s3:((c.toNat:Int)==58)with
     |true=>
      have hw:wB c=true:=(by simp only[wB,hlet,hdig,signs_c,s0,s1,s2,s3,Bool.or_true,Bool.true_or,Bool.false_or]);replace zz:=uu c1 (uu c3 (uu c4 (uu s0 (uu s1 (uu s2 s3)))));(repeat'(first|refine a_seq fun K hK=>?_|refine uR zz ?_|refine uT zz ?_|refine uK ?_|refine uC1 zz ?_|(refine uN hK ?_;clear hK)|apply zI));all_goals(rw[hw])
     |false=>
      cases s4:((c.toNat:Int)==60)with
      |true=>
       have hw:wB c=true:=(by simp only[wB,hlet,hdig,signs_c,s0,s1,s2,s3,s4,Bool.or_true,Bool.true_or,Bool.false_or]);replace zz:=uu c1 (uu c3 (uu c4 (uu s0 (uu s1 (uu s2 (uu s3 s4))))));(repeat'(first|refine a_seq fun K hK=>?_|refine uR zz ?_|refine uT zz ?_|refine uK ?_|refine uC1 zz ?_|(refine uN hK ?_;clear hK)|apply zI));all_goals(rw[hw])
      |false=>
       cases s5:((c.toNat:Int)==62)with
       |true=>
        have hw:wB c=true:=(by simp only[wB,hlet,hdig,signs_c,s0,s1,s2,s3,s4,s5,Bool.or_true,Bool.true_or,Bool.false_or]);replace zz:=uu c1 (uu c3 (uu c4 (uu s0 (uu s1 (uu s2 (uu s3 (uu s4 s5)))))));(repeat'(first|refine a_seq fun K hK=>?_|refine uR zz ?_|refine uT zz ?_|refine uK ?_|refine uC1 zz ?_|(refine uN hK ?_;clear hK)|apply zI));all_goals(rw[hw])
       |false=>
        cases s6:((c.toNat:Int)==61)with
        |true=>
         have hw:wB c=true:=(by simp only[wB,hlet,hdig,signs_c,s0,s1,s2,s3,s4,s5,s6,Bool.or_true,Bool.true_or,Bool.false_or]);replace zz:=uu c1 (uu c3 (uu c4 (uu s0 (uu s1 (uu s2 (uu s3 (uu s4 (uu s5 s6))))))));(repeat'(first|refine a_seq fun K hK=>?_|refine uR zz ?_|refine uT zz ?_|refine uK ?_|refine uC1 zz ?_|(refine uN hK ?_;clear hK)|apply zI));all_goals(rw[hw])
        |false=>
         cases s7:((c.toNat:Int)==43)with
         |true=>
          have hw:wB c=true:=(by simp only[wB,hlet,hdig,signs_c,s0,s1,s2,s3,s4,s5,s6,s7,Bool.or_true,Bool.true_or,Bool.false_or]);replace zz:=uu c1 (uu c3 (uu c4 (uu s0 (uu s1 (uu s2 (uu s3 (uu s4 (uu s5 (uu s6 s7)))))))));(repeat'(first|refine a_seq fun K hK=>?_|refine uR zz ?_|refine uT zz ?_|refine uK ?_|refine uC1 zz ?_|(refine uN hK ?_;clear hK)|apply zI));all_goals(rw[hw])
         |false=>
          cases s8:((c.toNat:Int)==42)with
          |true=>
           have hw:wB c=true:=(by simp only[wB,hlet,hdig,signs_c,s0,s1,s2,s3,s4,s5,s6,s7,s8,Bool.or_true,Bool.true_or,Bool.false_or]);replace zz:=uu c1 (uu c3 (uu c4 (uu s0 (uu s1 (uu s2 (uu s3 (uu s4 (uu s5 (uu s6 (uu s7 s8))))))))));(repeat'(first|refine a_seq fun K hK=>?_|refine uR zz ?_|refine uT zz ?_|refine uK ?_|refine uC1 zz ?_|(refine uN hK ?_;clear hK)|apply zI));all_goals(rw[hw])
          |false=>
           have hw:wB c=false:=(by simp only[wB,hlet,hdig,signs_c,s0,s1,s2,s3,s4,s5,s6,s7,s8,Bool.or_false]);replace zz:=uu c1 (uu c3 (uu c4 (uu s0 (uu s1 (uu s2 (uu s3 (uu s4 (uu s5 (uu s6 (uu s7 s8))))))))));(repeat'(first|refine a_seq fun K hK=>?_|refine uR zz ?_|refine uT zz ?_|refine uK ?_|refine uC1 zz ?_|(refine uN hK ?_;clear hK)|apply zI));all_goals(rw[hw])
def wordR(s:ByteArray):Bool:=s.data.toList.all wB&&decide (1≤s.size)&&decide (s.size≤32)&&!(numB s)
theorem rword_c{h:Heap}{s:ByteArray}(hs:s.size≤bigN):PCall Tryz.prog 91 [sPV s] h fun r h'=>r= .sc (.bool (wordR s))∧h'=h:=by
 have hs':=hs;unfold bigN at hs';have htl:s.data.toList.length=s.size:=by rw[Array.length_toList];try rfl
 refine uG0 Tryz.func91 Tryz.ntmps91 Tryz.results91 Ty.hb_91 ?_;repeat'(first|refine a_seq fun K hK=>?_|refine a_block ?_|refine uR trivial ?_|(refine uN hK ?_;clear hK)|apply zI)
 refine a_loop (fun m S h'=>h'=h∧S 0=sPV s∧ ∃ k:Nat,S 3= .sc (.int .i64 k)∧k≤s.size∧m=s.size-k∧ ∀ (i:Nat)(c:UInt8),i<k→s.data.toList[i]? =some c→wB c=true) s.size ?_ ?_
 ·simp only[Ty.w,simprocAttr];exact⟨0,rfl,by omega,rfl,by omega⟩
 ·rintro m S h' ⟨rfl,g0,k,g3,hk,rfl,hall⟩;by_cases hlt:k<s.size
  ·have hd:decide ((k:Int)<(s.size:Int))=true:=(by simp;omega);have w7:IntKind.i64.wrap ((k:Int)+1)=k+1:=(by rw[wrap64 (by omega) (by omega)]);obtain⟨c,hx⟩: ∃ c,s.data.toList[k]? =some c:=⟨_,List.getElem?_eq_getElem (by omega)⟩;have hr:s[k]? =some c:=(by rw[ba_get];exact hx);cases hg:wB c with
   |false=>
    have bad:s.data.toList.all wB=false:=(by rw[List.all_eq_false];exact⟨c,List.mem_of_getElem? hx,by simp[hg]⟩);have hw:wordR s=false:=(by simp only[wordR,bad,Bool.false_and]);replace zz:=uu g0 (uu g3 (uu hd hr));(repeat'(first|refine a_seq fun K hK=>?_|refine uR zz ?_|refine uK ?_|refine uC1 zz ?_|(refine uN hK ?_;clear hK)|apply zI));replace zz:=uu g0 (uu g3 (uu hd (uu hr (uu hg @Bool.not_false))));refine uU zz (letter_c (c:=c)) ?_;replace zz:=uu g0 (uu g3 @Bool.not_false);(repeat'(first|refine a_seq fun K hK=>?_|refine uR zz ?_|refine uT zz ?_|(refine uN hK ?_;clear hK)|apply zI));all_goals(rw[hw])
   |true=>
    replace zz:=uu g0 (uu g3 (uu hd hr));(repeat'(first|refine a_seq fun K hK=>?_|refine uR zz ?_|refine uK ?_|refine uC1 zz ?_|(refine uN hK ?_;clear hK)|apply zI));replace zz:=uu g0 (uu g3 (uu hd (uu hr (uu hg @Bool.not_true))));refine uU zz (letter_c (c:=c)) ?_;replace zz:=uu g0 (uu g3 (uu w7 @Bool.not_true));(repeat'(first|refine a_block ?_|refine uR zz ?_|refine uK ?_|(refine uN hK ?_;clear hK)|apply zI));refine⟨s.size-(k+1),by omega,k+1,by simp,by omega,rfl,fun i c2 hi hw=>?_⟩;by_cases hik:i=k
    ·subst hik;rw[hx]at hw;simp at hw;rw[← hw];exact hg
    ·exact hall i c2 (by omega) hw
  ·have hd:decide ((k:Int)<(s.size:Int))=false:=(by simp;omega);have hok:s.data.toList.all wB=true:=by
    rw[List.all_eq_true];intro c hc;obtain⟨i,hi⟩:=List.getElem?_of_mem hc;exact hall i c (by have:=(List.getElem?_eq_some_iff.1 hi).1;omega) hi
   have e1:decide ((s.size:Int)≥1)=decide (1≤s.size):=decide_eq_decide.2 (by omega);have e2:decide ((s.size:Int)≤32)=decide (s.size≤32):=decide_eq_decide.2 (by omega);have hW:wordR s=(decide ((s.size:Int)≥1)&&decide ((s.size:Int)≤32)&&!(numB s)):=(by simp only[wordR,hok,e1,e2,Bool.true_and]);(try clear zz);clear hall e1 e2;have hn:=fun h:Heap=>rnumeric_c (h:=h) hs;cases q1:decide ((s.size:Int)≥1)with
   |false=>
    replace zz:=uu g0 (uu g3 (uu hd q1));(repeat'(first|refine a_seq fun K hK=>?_|refine uR zz ?_|refine uT zz ?_|refine uX ?_|refine uC1 zz ?_|(refine uN hK ?_;clear hK)|(clear hK;refine uN hK ?_;clear hK)|apply zI));all_goals(rw[hW,q1];try rfl)
   |true=>
    cases q2:decide ((s.size:Int)≤32)with
    |false=>
     replace zz:=uu g0 (uu g3 (uu hd (uu q1 q2)));(repeat'(first|refine a_seq fun K hK=>?_|refine uR zz ?_|refine uT zz ?_|refine uX ?_|refine uC1 zz ?_|(refine uN hK ?_;clear hK)|(clear hK;refine uN hK ?_;clear hK)|apply zI));all_goals(rw[hW,q1,q2];try rfl)
    |true=>
     replace zz:=uu g0 (uu g3 (uu hd (uu q1 q2)));(repeat'(first|refine a_seq fun K hK=>?_|refine uR zz ?_|refine uX ?_|refine uC1 zz ?_|(refine uN hK ?_;clear hK)|(clear hK;refine uN hK ?_;clear hK)|apply zI));refine uU (uu q1 q2) (hn _) ?_;(repeat'(first|refine uT (uu q1 q2) ?_|(refine uN hK ?_;clear hK)|apply zI));all_goals(rw[hW,q1,q2];try rfl)
end Go.Proofs.YtjeolbgpllbemaaGreat
namespace Go.AM
mutual
def Sx.count:Sx→Int
 | .mk _ _ _ _ _ kids=>Sx.counts 1 kids
def Sx.counts(n:Int):List Sx→Int
 |[]=>n
 |k::ks=>Sx.counts (IntKind.i64.wrap (n+k.count)) ks
end
theorem Sx.counts_append: ∀ (l m:List Sx)(n:Int),Sx.counts n (l++m)=Sx.counts (Sx.counts n l) m
 |[],m,n=>by simp[Sx.counts]
 |k::l,m,n=>by simp only[List.cons_append,Sx.counts];exact Sx.counts_append l m _
theorem Sx.counts_take{l:List Sx}{i:Nat}{k:Sx}(n:Int)(h:l[i]? =some k):Sx.counts n (l.take (i+1))=IntKind.i64.wrap (Sx.counts n (l.take i)+k.count):=by
 rw[List.take_add_one,h,Sx.counts_append];try rfl
mutual
def Sx.depth:Sx→Nat
 | .mk kind _ _ _ _ kids=>if kind=3 then Sx.depths 0 kids+1 else Sx.depths 0 kids
def Sx.depths(n:Nat):List Sx→Nat
 |[]=>n
 |k::ks=>Sx.depths (max n k.depth) ks
end
theorem Sx.depths_append: ∀ (l m:List Sx)(n:Nat),Sx.depths n (l++m)=Sx.depths (Sx.depths n l) m
 |[],m,n=>by simp[Sx.depths]
 |k::l,m,n=>by simp only[List.cons_append,Sx.depths];exact Sx.depths_append l m _
theorem Sx.depths_take{l:List Sx}{i:Nat}{k:Sx}(n:Nat)(h:l[i]? =some k):Sx.depths n (l.take (i+1))=max (Sx.depths n (l.take i)) k.depth:=by
 rw[List.take_add_one,h,Sx.depths_append];try rfl
theorem Sx.depths_le: ∀ (l:List Sx)(n:Nat),n≤Sx.depths n l
 |[],n=>Nat.le_refl _
 |k::l,n=>by simp only[Sx.depths];exact Nat.le_trans (Nat.le_max_left _ _) (Sx.depths_le l _)
theorem Sx.depths_mem: ∀ {l:List Sx}{k:Sx}(n:Nat),k∈l→k.depth≤Sx.depths n l
 |k'::l,k,n,h=>by
  simp only[Sx.depths];rcases List.mem_cons.1 h with rfl|h
  ·exact Nat.le_trans (Nat.le_max_right _ _) (Sx.depths_le l _)
  ·exact Sx.depths_mem _ h
end Go.AM
namespace Go.Proofs.YtjeolbgpllbemaaGreat
open Go.AM
set_option maxHeartbeats 2000000
set_option maxRecDepth 20000
mutual
def shapedS:Sx→Bool
 | .mk kind value _ _ text kids=>
  if kind=1 then(value==0)&&kids.isEmpty&&wordR text
  else if kind=2 then(text.data.toList==(#[]:Array UInt8).toList)&&kids.isEmpty&&decide (value≥ -1099511627776)&&decide (value≤1099511627776)
  else if kind=3 then shapedSs kids&&((text.data.toList==(#[]:Array UInt8).toList)&&(value==0))
  else false
def shapedSs:List Sx→Bool
 |[]=>true
 |k::ks=>shapedS k&&shapedSs ks
end
theorem emp_lenS(l:List Sx):((l.length:Int)==0)=l.isEmpty:=by cases l<;>simp;omega
theorem rcount_c: ∀ (e:Sx),e.ok→ ∀ h:Heap,PCall Tryz.prog 13 [.agg e.cells] h fun r h'=>r= .sc (.int .i64 e.count)∧h'=h:=by
 refine Sx.ind ?_;intro kind value line col text kids ih hok h;simp only[Sx.ok]at hok;obtain⟨_,_,_,hk,hks⟩:=hok;rw[Sx.oks_iff]at hks;have hlen:=Sx.rows_len kids;simp only[Sx.cells,Sx.count];refine uG0 Tryz.func13 Tryz.ntmps13 Tryz.results13 Ty.hb_13 ?_;repeat'(first|refine a_seq fun K hK=>?_|refine a_block ?_|refine uR hlen ?_|(refine uN hK ?_;clear hK)|apply zI)
 refine a_loop (fun m S h'=>h'=h∧S 1= .cptr (Sx.mk kind value line col text kids).cells∧ ∃ k:Nat,S 4= .sc (.int .i64 k)∧k≤kids.length∧m=kids.length-k∧S 3= .sc (.int .i64 (Sx.counts 1 (kids.take k)))) kids.length ?_ ?_
 ·simp only[Ty.w,simprocAttr];exact⟨rfl,0,rfl,by omega,rfl,by simp[Sx.counts]⟩
 ·rintro m S h' ⟨rfl,g1,k,g4,hkl,rfl,g3⟩;simp only[Sx.cells]at g1;by_cases hlt:k<kids.length
  ·have hd:decide ((k:Int)<(kids.length:Int))=true:=(by simp;omega);have w7:IntKind.i64.wrap ((k:Int)+1)=k+1:=(by unfold bigN at hk;rw[wrap64 (by omega) (by omega)]);obtain⟨e,hx⟩: ∃ e,kids[k]? =some e:=⟨_,List.getElem?_eq_getElem hlt⟩;have hmem:=List.mem_of_getElem? hx;have hc:=ih e hmem (hks e hmem);have hsz:=Sx.counts_take 1 hx;have hr:=Sx.rows_get hx;obtain⟨ki,va,li,co,te,ks⟩:=e;simp only[Sx.cells]at hr hc;replace zz:=uu g1 (uu g3 (uu g4 (uu hlen (uu hd (uu hr w7)))));(repeat'(first|refine a_seq fun K hK=>?_|refine a_block ?_|refine uR zz ?_|refine uQ zz fun K hK=>?_|refine uK ?_|refine uC1 zz ?_|(refine uN hK ?_;clear hK)|apply zI));replace zz:=uu g1 (uu g3 (uu g4 (uu hlen (uu hd hr))));refine uU zz (hc _) ?_;replace zz:=uu g1 (uu g3 (uu g4 w7));(repeat'(first|refine uR zz ?_|(refine uN hK ?_;clear hK)|apply zI));exact⟨kids.length-(k+1),by omega,rfl,k+1,by simp,by omega,rfl,by rw[hsz]⟩
  ·have hd:decide ((k:Int)<(kids.length:Int))=false:=(by simp;omega);have hke:k=kids.length:=(by omega);subst hke;rw[List.take_length]at g3;replace zz:=uu g1 (uu g3 (uu g4 (uu hlen hd)));repeat'(first|refine a_seq fun K hK=>?_|refine uR zz ?_|refine uT zz ?_|refine uX ?_|refine uC1 zz ?_|(refine uN hK ?_;clear hK)|(clear hK;refine uN hK ?_;clear hK)|apply zI)
theorem rdepth_c: ∀ (e:Sx),e.ok→e.depth≤bigN→ ∀ h:Heap,PCall Tryz.prog 51 [.agg e.cells] h fun r h'=>r= .sc (.int .i64 e.depth)∧h'=h:=by
 refine Sx.ind ?_;intro kind value line col text kids ih hok hdp h;simp only[Sx.ok]at hok;obtain⟨_,_,_,hk,hks⟩:=hok;rw[Sx.oks_iff]at hks;have hlen:=Sx.rows_len kids;simp only[Sx.depth]at hdp;have hdb:Sx.depths 0 kids≤bigN:=by split at hdp<;>omega
 simp only[Sx.cells,Sx.depth];refine uG0 Tryz.func51 Tryz.ntmps51 Tryz.results51 Ty.hb_51 ?_;repeat'(first|refine a_seq fun K hK=>?_|refine a_block ?_|refine uR hlen ?_|(refine uN hK ?_;clear hK)|apply zI)
 refine a_loop (fun m S h'=>h'=h∧S 1= .cptr (Sx.mk kind value line col text kids).cells∧ ∃ k:Nat,S 4= .sc (.int .i64 k)∧k≤kids.length∧m=kids.length-k∧S 3= .sc (.int .i64 (Sx.depths 0 (kids.take k):Nat))) kids.length ?_ ?_
 ·simp only[Ty.w,simprocAttr];exact⟨rfl,0,rfl,by omega,rfl,by simp[Sx.depths]⟩
 ·rintro m S h' ⟨rfl,g1,k,g4,hkl,rfl,g3⟩;simp only[Sx.cells]at g1;by_cases hlt:k<kids.length
  ·have hd:decide ((k:Int)<(kids.length:Int))=true:=(by simp;omega);have w7:IntKind.i64.wrap ((k:Int)+1)=k+1:=(by unfold bigN at hk;rw[wrap64 (by omega) (by omega)]);obtain⟨e,hx⟩: ∃ e,kids[k]? =some e:=⟨_,List.getElem?_eq_getElem hlt⟩;have hmem:=List.mem_of_getElem? hx;have hc:=ih e hmem (hks e hmem) (Nat.le_trans (Sx.depths_mem 0 hmem) hdb);have hsz:=Sx.depths_take 0 hx;have hr:=Sx.rows_get hx;generalize Sx.depths 0 (kids.take k)=D at g3 hsz;generalize e.depth=E at hc hsz;obtain⟨ki,va,li,co,te,ks⟩:=e;simp only[Sx.cells]at hr hc;cases q:decide ((E:Int)>(D:Int))with
   |true=>
    have hm:max D E=E:=(by have:=of_decide_eq_true q;omega);replace zz:=uu g1 (uu g3 (uu g4 (uu hlen (uu hd (uu hr w7)))));(repeat'(first|refine a_seq fun K hK=>?_|refine uR zz ?_|refine uK ?_|refine uC1 zz ?_|(refine uN hK ?_;clear hK)|apply zI));replace zz:=uu g1 (uu g3 (uu g4 (uu hlen (uu hd (uu hr q)))));refine uU zz (hc _) ?_;replace zz:=uu g1 (uu g3 (uu g4 (uu w7 q)));(repeat'(first|refine a_seq fun K hK=>?_|refine a_block ?_|refine uR zz ?_|refine uQ zz fun K hK=>?_|(refine uN hK ?_;clear hK)|apply zI));exact⟨kids.length-(k+1),by omega,rfl,k+1,by simp,by omega,rfl,by rw[hsz,hm]⟩
   |false=>
    have hm:max D E=D:=(by have:=of_decide_eq_false q;omega);replace zz:=uu g1 (uu g3 (uu g4 (uu hlen (uu hd (uu hr w7)))));(repeat'(first|refine a_seq fun K hK=>?_|refine uR zz ?_|refine uK ?_|refine uC1 zz ?_|(refine uN hK ?_;clear hK)|apply zI));replace zz:=uu g1 (uu g3 (uu g4 (uu hlen (uu hd (uu hr q)))));refine uU zz (hc _) ?_;replace zz:=uu g1 (uu g3 (uu g4 (uu w7 q)));(repeat'(first|refine a_seq fun K hK=>?_|refine a_block ?_|refine uR zz ?_|refine uK ?_|(refine uN hK ?_;clear hK)|apply zI));exact⟨kids.length-(k+1),by omega,rfl,k+1,by simp,by omega,rfl,by rw[hsz,hm]⟩
  ·have hd:decide ((k:Int)<(kids.length:Int))=false:=(by simp;omega);have hke:k=kids.length:=(by omega);subst hke;rw[List.take_length]at g3;generalize hD:Sx.depths 0 kids=D at g3 hdb;have wd:IntKind.i64.wrap ((D:Int)+1)=(D:Int)+1:=(by unfold bigN at hdb;rw[wrap64 (by omega) (by omega)]);cases q:(kind==3)with
   |true=>
    have hk3:kind=3:=(by simpa using q);replace zz:=uu g1 (uu g3 (uu g4 (uu hlen (uu hd (uu q wd)))));(repeat'(first|refine a_seq fun K hK=>?_|refine uR zz ?_|refine uT zz ?_|refine uX ?_|refine uC1 zz ?_|(refine uN hK ?_;clear hK)|(clear hK;refine uN hK ?_;clear hK)|apply zI));rw[if_pos hk3,hD];simp
   |false=>
    have hk3:¬ kind=3:=(by simpa using q);replace zz:=uu g1 (uu g3 (uu g4 (uu hlen (uu hd (uu q wd)))));(repeat'(first|refine a_seq fun K hK=>?_|refine uR zz ?_|refine uT zz ?_|refine uK ?_|refine uX ?_|refine uC1 zz ?_|(refine uN hK ?_;clear hK)|(clear hK;refine uN hK ?_;clear hK)|apply zI));rw[if_neg hk3,hD]
theorem rshaped_c: ∀ (e:Sx),e.ok→ ∀ h:Heap,PCall Tryz.prog 50 [.agg e.cells] h fun r h'=>r= .sc (.bool (shapedS e))∧h'=h:=by
 refine Sx.ind ?_;intro kind value line col text kids ih hok h;simp only[Sx.ok]at hok;obtain⟨_,_,ht,hk,hks⟩:=hok;rw[Sx.oks_iff]at hks;have hlen:=Sx.rows_len kids;have e1:=emp_lenS kids;have hw:=fun h:Heap=>rword_c (h:=h) ht;generalize hF:shapedS (.mk kind value line col text kids)=F;unfold shapedS at hF;rw[← e1]at hF;try clear zz
 clear e1;simp only[Sx.cells];cases k1:(kind==1)with
 |true=>
  rw[if_pos (by simpa using k1)]at hF;cases q1:(value==0)with
  |false=>
   rw[q1]at hF;simp only[Bool.false_and]at hF;subst hF;refine uG0 Tryz.func50 Tryz.ntmps50 Tryz.results50 Ty.hb_50 ?_;replace zz:=uu k1 (uu q1 hlen);repeat'(first|refine a_seq fun K hK=>?_|refine uR zz ?_|refine uT zz ?_|(refine uN hK ?_;clear hK)|apply zI)
  |true=>
   rw[q1]at hF;cases q2:((kids.length:Int)==0)with
   |false=>
    rw[q2]at hF;simp only[Bool.false_and,Bool.and_false]at hF;subst hF;refine uG0 Tryz.func50 Tryz.ntmps50 Tryz.results50 Ty.hb_50 ?_;replace zz:=uu k1 (uu q1 (uu q2 hlen));repeat'(first|refine a_seq fun K hK=>?_|refine uR zz ?_|refine uT zz ?_|(refine uN hK ?_;clear hK)|apply zI)
   |true=>
    rw[q2]at hF;simp only[Bool.true_and]at hF;subst hF;refine uG0 Tryz.func50 Tryz.ntmps50 Tryz.results50 Ty.hb_50 ?_;replace zz:=uu k1 (uu q1 (uu q2 hlen));(repeat'(first|refine a_seq fun K hK=>?_|refine uR zz ?_|(refine uN hK ?_;clear hK)|apply zI));refine uU zz (hw _) ?_;repeat'(first|refine uT zz ?_|(refine uN hK ?_;clear hK)|apply zI)
 |false=>
  rw[if_neg (by simpa using k1)]at hF;cases k2:(kind==2)with
  |true=>
   rw[if_pos (by simpa using k2)]at hF;cases q1:(text.data.toList==(#[]:Array UInt8).toList)with
   |false=>
    rw[q1]at hF;simp only[Bool.false_and]at hF;subst hF;refine uG0 Tryz.func50 Tryz.ntmps50 Tryz.results50 Ty.hb_50 ?_;replace zz:=uu k1 (uu k2 (uu q1 hlen));repeat'(first|refine a_seq fun K hK=>?_|refine uR zz ?_|refine uT zz ?_|(refine uN hK ?_;clear hK)|apply zI)
   |true=>
    rw[q1]at hF;cases q2:((kids.length:Int)==0)with
    |false=>
     rw[q2]at hF;simp only[Bool.false_and,Bool.and_false]at hF;subst hF;refine uG0 Tryz.func50 Tryz.ntmps50 Tryz.results50 Ty.hb_50 ?_;replace zz:=uu k1 (uu k2 (uu q1 (uu q2 hlen)));repeat'(first|refine a_seq fun K hK=>?_|refine uR zz ?_|refine uT zz ?_|(refine uN hK ?_;clear hK)|apply zI)
    |true=>
     rw[q2]at hF;cases q3:decide (value≥ -1099511627776)with
     |false=>
      rw[q3]at hF;simp only[Bool.false_and,Bool.and_false]at hF;subst hF;refine uG0 Tryz.func50 Tryz.ntmps50 Tryz.results50 Ty.hb_50 ?_;replace zz:=uu k1 (uu k2 (uu q1 (uu q2 (uu q3 hlen))));repeat'(first|refine a_seq fun K hK=>?_|refine uR zz ?_|refine uT zz ?_|(refine uN hK ?_;clear hK)|apply zI)
     |true=>
      rw[q3]at hF;simp only[Bool.true_and]at hF;subst hF;refine uG0 Tryz.func50 Tryz.ntmps50 Tryz.results50 Ty.hb_50 ?_;replace zz:=uu k1 (uu k2 (uu q1 (uu q2 (uu q3 hlen))));repeat'(first|refine a_seq fun K hK=>?_|refine uR zz ?_|refine uT zz ?_|(refine uN hK ?_;clear hK)|apply zI)
  |false=>
   rw[if_neg (by simpa using k2)]at hF;cases k3:(kind==3)with
   |false=>
    rw[if_neg (by simpa using k3)]at hF;subst hF;refine uG0 Tryz.func50 Tryz.ntmps50 Tryz.results50 Ty.hb_50 ?_;replace zz:=uu k1 (uu k2 k3);repeat'(first|refine a_seq fun K hK=>?_|refine a_block ?_|refine uR zz ?_|refine uT zz ?_|refine uK ?_|(refine uN hK ?_;clear hK)|apply zI)
   |true=>
    rw[if_pos (by simpa using k3)]at hF;refine uG0 Tryz.func50 Tryz.ntmps50 Tryz.results50 Ty.hb_50 ?_;replace zz:=uu k1 (uu k2 (uu k3 hlen));(repeat'(first|refine a_seq fun K hK=>?_|refine a_block ?_|refine uR zz ?_|(refine uN hK ?_;clear hK)|apply zI));refine a_loop (fun m S h'=>h'=h∧S 1= .cptr (Sx.mk kind value line col text kids).cells∧ ∃ k:Nat,S 3= .sc (.int .i64 k)∧k≤kids.length∧m=kids.length-k∧shapedSs kids=shapedSs (kids.drop k)) kids.length ?_ ?_
    ·simp only[Ty.w,simprocAttr];exact⟨rfl,0,rfl,by omega,rfl,by simp⟩
    ·rintro m S h' ⟨rfl,g1,k,g3,hkl,rfl,hinv⟩;simp only[Sx.cells]at g1;by_cases hlt:k<kids.length
     ·have hd:decide ((k:Int)<(kids.length:Int))=true:=(by simp;omega);have w7:IntKind.i64.wrap ((k:Int)+1)=k+1:=(by unfold bigN at hk;rw[wrap64 (by omega) (by omega)]);obtain⟨e,hx⟩: ∃ e,kids[k]? =some e:=⟨_,List.getElem?_eq_getElem hlt⟩;have hmem:=List.mem_of_getElem? hx;have hc:=ih e hmem (hks e hmem);rw[drop_of_get hx]at hinv;simp only[shapedSs]at hinv;have hr:=Sx.rows_get hx;generalize shapedS e=b at hc hinv;obtain⟨ki,va,li,co,te,ks⟩:=e;simp only[Sx.cells]at hr hc;cases b with
      |false=>
       rw[hinv]at hF;simp only[Bool.false_and]at hF;subst hF;replace zz:=uu g1 (uu g3 (uu hlen (uu hd (uu hr w7))));(repeat'(first|refine a_seq fun K hK=>?_|refine uR zz ?_|refine uK ?_|refine uC1 zz ?_|(refine uN hK ?_;clear hK)|apply zI));replace zz:=uu g1 (uu g3 (uu hlen (uu hd (uu hr @Bool.not_false))));refine uU zz (hc _) ?_;replace zz:=uu g1 (uu g3 (uu w7 @Bool.not_false));repeat'(first|refine a_seq fun K hK=>?_|refine uR zz ?_|refine uT zz ?_|(refine uN hK ?_;clear hK)|apply zI)
      |true=>
       rw[Bool.true_and]at hinv;replace zz:=uu g1 (uu g3 (uu hlen (uu hd (uu hr w7))));(repeat'(first|refine a_seq fun K hK=>?_|refine uR zz ?_|refine uK ?_|refine uC1 zz ?_|(refine uN hK ?_;clear hK)|apply zI));replace zz:=uu g1 (uu g3 (uu hlen (uu hd (uu hr @Bool.not_true))));refine uU zz (hc _) ?_;replace zz:=uu g1 (uu g3 (uu w7 @Bool.not_true));(repeat'(first|refine a_block ?_|refine uR zz ?_|refine uK ?_|(refine uN hK ?_;clear hK)|apply zI));exact⟨kids.length-(k+1),by omega,rfl,k+1,by simp,by omega,rfl,hinv⟩
     ·have hd:decide ((k:Int)<(kids.length:Int))=false:=(by simp;omega);rw[List.drop_eq_nil_of_le (by omega)]at hinv;rw[hinv]at hF;simp only[shapedSs,Bool.true_and]at hF;cases q1:(text.data.toList==(#[]:Array UInt8).toList)with
      |false=>
       rw[q1]at hF;simp only[Bool.false_and]at hF;subst hF;replace zz:=uu g1 (uu g3 (uu hlen (uu hd q1)));repeat'(first|refine a_seq fun K hK=>?_|refine uR zz ?_|refine uT zz ?_|refine uX ?_|refine uC1 zz ?_|(refine uN hK ?_;clear hK)|(clear hK;refine uN hK ?_;clear hK)|apply zI)
      |true=>
       rw[q1]at hF;simp only[Bool.true_and]at hF;subst hF;replace zz:=uu g1 (uu g3 (uu hlen (uu hd q1)));repeat'(first|refine a_seq fun K hK=>?_|refine uR zz ?_|refine uT zz ?_|refine uX ?_|refine uC1 zz ?_|(refine uN hK ?_;clear hK)|(clear hK;refine uN hK ?_;clear hK)|apply zI)
theorem rvalid_c{x:Sx}(hok:x.ok)(hd:x.depth≤bigN)(h:Heap):PCall Tryz.prog 21 [.agg x.cells] h fun r h'=>r= .sc (.bool (shapedS x&&decide ((x.depth:Int)≤32)&&decide (x.count≤4096)))∧h'=h:=by
 have c1:=rshaped_c x hok;have c2:=rdepth_c x hok hd;have c3:=rcount_c x hok;generalize shapedS x=b at c1⊢;generalize x.depth=D at c2⊢;generalize x.count=N at c3⊢;obtain⟨ki,va,li,co,te,ks⟩:=x;simp only[Sx.cells]at c1 c2 c3⊢;cases b with
 |false=>
  refine uG0 Tryz.func21 Tryz.ntmps21 Tryz.results21 Ty.hb_21 ?_;repeat'(first|refine a_seq fun K hK=>?_|refine uR trivial ?_|(refine uN hK ?_;clear hK)|apply zI)
  refine uU trivial (c1 _) ?_;repeat'(first|refine uT trivial ?_|(refine uN hK ?_;clear hK)|apply zI)
  all_goals rfl
 |true=>
  cases q:decide ((D:Int)≤32)with
  |false=>
   refine uG0 Tryz.func21 Tryz.ntmps21 Tryz.results21 Ty.hb_21 ?_;(repeat'(first|refine a_seq fun K hK=>?_|refine uR trivial ?_|(refine uN hK ?_;clear hK)|apply zI));refine uU trivial (c1 _) ?_;(try apply zI);refine uU q (c2 _) ?_;(repeat'(first|refine uT q ?_|(refine uN hK ?_;clear hK)|apply zI));all_goals rfl
  |true=>
   refine uG0 Tryz.func21 Tryz.ntmps21 Tryz.results21 Ty.hb_21 ?_;(repeat'(first|refine a_seq fun K hK=>?_|refine uR trivial ?_|(refine uN hK ?_;clear hK)|apply zI));refine uU trivial (c1 _) ?_;(try apply zI);refine uU q (c2 _) ?_;(try apply zI);refine uU q (c3 _) ?_;(repeat'(first|refine uT q ?_|(refine uN hK ?_;clear hK)|apply zI));all_goals(simp only[Bool.true_and])
end Go.Proofs.YtjeolbgpllbemaaGreat
namespace Go.AM
mutual
def Sx.nodes:Sx→Nat
 | .mk _ _ _ _ _ kids=>Sx.nodess kids+1
def Sx.nodess:List Sx→Nat
 |[]=>0
 |k::ks=>k.nodes+Sx.nodess ks
end
mutual
theorem Sx.count_eq: ∀ (x:Sx),x.nodes≤bigN→x.count=x.nodes
 | .mk _ _ _ _ _ kids,h=>by
  simp only[Sx.nodes]at h;simp only[Sx.count,Sx.nodes];have:=Sx.counts_eq kids 1 (by omega);simp only[Int.natCast_one]at this;rw[this];congr 1;omega
theorem Sx.counts_eq: ∀ (l:List Sx)(n:Nat),n+Sx.nodess l≤bigN→Sx.counts n l=(n+Sx.nodess l:Nat)
 |[],n,h=>by simp[Sx.counts,Sx.nodess]
 |k::ks,n,h=>by
  simp only[Sx.nodess]at h;simp only[Sx.counts,Sx.nodess];rw[Sx.count_eq k (by omega)];have hw:IntKind.i64.wrap ((n:Int)+(k.nodes:Int))=((n+k.nodes:Nat):Int):=by unfold bigN at h;rw[wrap64 (by omega) (by omega)];omega
  rw[hw,Sx.counts_eq ks (n+k.nodes) (by omega)];congr 1;omega
end
end Go.AM
namespace Go.Proofs.YtjeolbgpllbemaaGreat
open Go.AM
theorem lowB_self(c:UInt8):lowB c=some c↔wB c=true:=by
 unfold lowB;cases hu:upB c with
 |true=>
  have h1:65≤c.toNat∧c.toNat≤90:=by simpa[upB]using hu
  have hw:wB c=false:=by
   have h2:letB c=false:=(by simp[letB];omega);have h3:digB c=false:=(by simp[digB];omega);have h4:signs.contains c=false:=by
    rw[signs_c];have: ∀ v:Int,v=45∨v=95∨v=63∨v=58∨v=60∨v=62∨v=61∨v=43∨v=42→((c.toNat:Int)==v)=false:=by
     intro v hv;rw[beq_eq_false_iff_ne];omega
    simp[this]
   simp only[wB,h2,h3,h4,Bool.or_false]
  rw[hw];simp only[if_true,Option.some.injEq,Bool.false_eq_true,iff_false];intro e;have:=congrArg UInt8.toNat e;rw[UInt8.toNat_add]at this;simp at this;omega
 |false=>
  simp only[Bool.false_eq_true,if_false];cases wB c<;>simp
theorem lowL_self: ∀ l:List UInt8,lowL l=some l↔l.all wB=true
 |[]=>by simp[lowL]
 |c::l=>by
  have h1:=lowB_self c;have h2:=lowL_self l;simp only[lowL,List.all_cons,Bool.and_eq_true];cases hc:lowB c with
  |none=>rw[hc]at h1;simp at h1⊢;intro hw;rw[h1]at hw;simp at hw
  |some d=>
   rw[hc]at h1;cases hl:lowL l with
   |none=>rw[hl]at h2;simp at h2⊢;intro _;simpa using h2
   |some p=>
    rw[hl]at h2;simp only[Option.map_some,Option.some.injEq,List.cons.injEq];rw[← h1, ← h2];simp
theorem word_same(s:ByteArray):wordB s=wordR s:=by
 have hsl:s.data.toList.length=s.size:=by rw[Array.length_toList];try rfl
 have hself:=lowL_self s.data.toList;unfold wordB wordR lowS;by_cases hc:0<s.size∧s.size≤32
 ·rw [if_pos hc];have d1:decide (1≤s.size)=true:=by simp;omega
  have d2:decide (s.size≤32)=true:=by simp;omega
  rw[d1,d2];cases hl:lowL s.data.toList with
  |none=>
   rw[hl]at hself;have:s.data.toList.all wB=false:=by
    cases h:s.data.toList.all wB with
    |false=>rfl
    |true=>rw[h]at hself;simp at hself
   simp only[this,Bool.false_and]
  |some p=>
   rw[hl]at hself;cases h:s.data.toList.all wB with
   |true=>
    rw[h]at hself;have hp:p=s.data.toList:=(by simpa using hself);subst hp;have:(⟨s.data.toList.toArray⟩:ByteArray)=s:=ba_ext rfl;simp only[this,bEq,beq_self_eq_true,Bool.true_and]
   |false=>
    rw[h]at hself;have hp:¬ p=s.data.toList:=(by simpa using hself);have:bEq (⟨p.toArray⟩:ByteArray) s=false:=(by simp only[bEq,beq_eq_false_iff_ne];exact hp);simp only[this,Bool.and_false,Bool.false_and]
 ·rw [if_neg hc];have:(decide (1≤s.size)&&decide (s.size≤32))=false:=by
   cases h:(decide (1≤s.size)&&decide (s.size≤32))with
   |false=>rfl
   |true=>
    simp only[Bool.and_eq_true,decide_eq_true_eq]at h;exact absurd ⟨by omega,h.2⟩ hc
  simp only[Bool.false_and];rw[Bool.and_assoc (s.data.toList.all wB),this];simp
mutual
theorem svalid_iff: ∀ (x:Sx)(d n:Nat),d≤32→n≤4096→((svalid x d n).1=true↔shapedS x=true∧d+x.depth≤32∧n+x.nodes≤4096)∧((svalid x d n).1=true→(svalid x d n).2=n+x.nodes)
 | .mk kind value line col text kids,d,n,hd,hn=>by
  have e1:(kids.isEmpty=true)↔kids=[]:=List.isEmpty_iff;unfold svalid shapedS;simp only[Sx.depth,Sx.nodes];by_cases h0:n+1>4096
  ·rw [if_pos h0];refine⟨⟨by simp,fun⟨_,_,h⟩=>by omega⟩,by simp⟩
  ·rw [if_neg h0];by_cases k1:kind=1
   ·rw [if_pos k1,if_pos k1,word_same];have k3:¬ kind=3:=(by omega);rw[if_neg k3];simp only[Bool.and_eq_true,e1,decide_eq_true_eq,beq_iff_eq];constructor
    ·constructor
     ·rintro ⟨⟨h1,h2⟩,rfl⟩;exact⟨⟨⟨h2,rfl⟩,h1⟩,by simp only[Sx.depths];omega,by simp only[Sx.nodess];omega⟩
     ·rintro ⟨⟨⟨h1,h2⟩,h3⟩,_⟩;exact⟨⟨h3,h1⟩,h2⟩
    ·rintro ⟨_,rfl⟩;simp[Sx.nodess]
   ·rw [if_neg k1,if_neg k1];by_cases k2:kind=2
    ·rw [if_pos k2,if_pos k2];have k3:¬ kind=3:=(by omega);rw[if_neg k3];simp only[Bool.and_eq_true,e1,decide_eq_true_eq,bEq,ge_iff_le];constructor
     ·constructor
      ·rintro ⟨⟨⟨h1,rfl⟩,h3⟩,h4⟩;exact⟨⟨⟨⟨h1,rfl⟩,h3⟩,h4⟩,by simp only[Sx.depths];omega,by simp only[Sx.nodess];omega⟩
      ·rintro ⟨⟨⟨⟨h1,h2⟩,h3⟩,h4⟩,_⟩;exact⟨⟨⟨h1,h2⟩,h3⟩,h4⟩
     ·rintro ⟨⟨⟨_,rfl⟩,_⟩,_⟩;simp[Sx.nodess]
    ·rw [if_neg k2,if_neg k2];by_cases k3:kind=3
     ·rw [if_pos k3,if_pos k3,if_pos k3];simp only[Bool.and_eq_true,beq_iff_eq];by_cases hc:bEq text ⟨#[]⟩=true∧value=0∧d≠32
      ·rw [if_pos hc];obtain⟨g1,g2⟩:=svalids_iff kids (d+1) (n+1) (by omega) (by omega);rw[g1];refine⟨⟨fun⟨h1,h2,h3⟩=>⟨⟨h1,by simpa[bEq]using hc.1,hc.2.1⟩,by omega,by omega⟩,fun⟨⟨h1,_,_⟩,h2,h3⟩=>⟨h1,by omega,by omega⟩⟩,fun h=>?_⟩;rw[g2 (g1.2 h)];omega
      ·rw [if_neg hc];refine⟨⟨by simp,fun⟨⟨h1,h4,h5⟩,h2,h3⟩=>?_⟩,by simp⟩;exact absurd ⟨by simp only[bEq,beq_iff_eq];exact h4,h5,by omega⟩ hc
     ·rw [if_neg k3,if_neg k3];simp
theorem svalids_iff: ∀ (l:List Sx)(d n:Nat),d≤32→n≤4096→((svalids l d n).1=true↔shapedSs l=true∧d+Sx.depths 0 l≤32∧n+Sx.nodess l≤4096)∧((svalids l d n).1=true→(svalids l d n).2=n+Sx.nodess l)
 |[],d,n,hd,hn=>by simp[svalids,shapedSs,Sx.depths,Sx.nodess,hd,hn]
 |k::ks,d,n,hd,hn=>by
  obtain⟨g1,g2⟩:=svalid_iff k d n hd hn;have hdm: ∀ (m:Nat)(l:List Sx),Sx.depths m l=max m (Sx.depths 0 l):=by
   intro m l
   induction l generalizing m with
   |nil=>simp[Sx.depths]
   |cons k l ih=>simp only[Sx.depths];rw[ih (max m k.depth),ih (max 0 k.depth)];omega
  simp only[svalids,shapedSs,Sx.depths,Sx.nodess,Bool.and_eq_true];rw[hdm];cases hb:svalid k d n with
  |mk b n'=>
   rw[hb]at g1 g2;cases b with
   |false=>
    simp only at g1⊢;refine⟨⟨by simp,fun⟨⟨h1,_⟩,h2,h3⟩=>?_⟩,by simp⟩;exact absurd (g1.2 ⟨h1,by omega,by omega⟩) (by simp)
   |true=>
    simp only at g1 g2⊢;obtain⟨a1,a2,a3⟩:=g1.1 trivial;have e:=g2 trivial;obtain⟨f1,f2⟩:=svalids_iff ks d n' hd (by omega);rw[f1];refine⟨⟨fun⟨h1,h2,h3⟩=>⟨⟨a1,h1⟩,by omega,by omega⟩,fun⟨⟨_,h1⟩,h2,h3⟩=>⟨h1,by omega,by omega⟩⟩,fun h=>?_⟩;rw[f2 (f1.2 h)];omega
end
def rvalidB(x:Sx):Bool:=shapedS x&&decide ((x.depth:Int)≤32)&&decide (x.count≤4096)
theorem valid_same{x:Sx}(h:x.nodes≤bigN):(svalid x 0 0).1=rvalidB x:=by
 have h1:=(svalid_iff x 0 0 (by omega) (by omega)).1;unfold rvalidB;rw[Sx.count_eq x h];rw[Bool.eq_iff_iff,h1];simp only[Bool.and_eq_true,decide_eq_true_eq];constructor
 ·rintro ⟨a,b,c⟩;exact⟨⟨a,by omega⟩,by omega⟩
 ·rintro ⟨⟨a,b⟩,c⟩;exact⟨a,by omega,by omega⟩
end Go.Proofs.YtjeolbgpllbemaaGreat
namespace Go.AM
mutual
theorem Sx.small_of: ∀ (x:Sx),x.nodes≤1048576→x.small
 | .mk _ _ _ _ _ kids,h=>by
  simp only[Sx.nodes]at h;simp only[Sx.small];have:=Sx.smalls_of kids (by omega);exact⟨by omega,this.2⟩
theorem Sx.smalls_of: ∀ (l:List Sx),Sx.nodess l≤1048576→l.length≤Sx.nodess l∧Sx.smalls l
 |[],_=>by simp[Sx.nodess,Sx.smalls]
 |k::ks,h=>by
  simp only[Sx.nodess]at h;have h1:=Sx.small_of k (by omega);have h2:=Sx.smalls_of ks (by omega);have h3:1≤k.nodes:=by cases k;simp only[Sx.nodes];omega
  simp only[Sx.nodess,Sx.smalls,List.length_cons];exact⟨by omega,h1,h2.2⟩
end
end Go.AM
namespace Go.Proofs.YtjeolbgpllbemaaGreat
open Go.AM
theorem svalid_small{x:Sx}(h:(svalid x 0 0).1=true):x.small:=by
 have:=(svalid_iff x 0 0 (by omega) (by omega)).1.1 h;exact Sx.small_of x (by omega)
theorem termsM_ok: ∀ {l:List Sx},(∀ x∈l,x.ok)→(∀ s∈(termsM l).1,s.size≤bigN)∧(termsM l).1.length≤l.length
 |[],_=>by simp[termsM]
 |x::l,h=>by
  have h1:=termsM_ok (l:=l) fun y hy=>h y (by simp[hy]);have h2:(textOf x).size≤bigN:=by
   have:=h x (by simp);obtain⟨_,_,_,_,t,_⟩:=x;simp only[Sx.ok]at this;exact this.2.2.1
  simp only[termsM];cases kindOf x==1 with
  |false=>simp
  |true=>
   cases termB (textOf x)with
   |false=>simp
   |true=>
    simp only[cond_true];cases hq:(termsM l).2==0 with
    |false=>simp
    |true=>
     simp only[cond_true,List.mem_cons,List.length_cons];exact⟨fun s hs=>hs.elim (fun e=>by rw[e];exact h2) (h1.1 s),by omega⟩
theorem zeroEx_ok:zeroEx.ok∧zeroEx.small:=by
 simp only[zeroEx,Ex.ok,Ex.oks,Ex.small,Ex.smalls,List.length_nil];refine⟨⟨by simp[bigN,ByteArray.size],by simp[bigN,ByteArray.size],by omega,⟨by simp,by simp⟩,by simp,trivial⟩,by omega,trivial⟩
theorem exprP_ok: ∀ x:Sx,x.ok→x.small→(exprP x).1.ok∧(exprP x).1.small:=by
 refine Sx.ind ?_;intro kind value line col text kids ih hok hsm;have hok':=hok;simp only[Sx.ok]at hok';obtain⟨hq1,hv,hq3,hq4,hks⟩:=hok';rw[Sx.oks_iff]at hks;simp only[Sx.small]at hsm;obtain⟨hl,hss⟩:=hsm;rw[Sx.smalls_iff]at hss;rw[exprP_head];have kk:kindOf (.mk kind value line col text kids)=kind:=rfl;rw[kk];cases hk:kind==2 with
 |true=>
  simp only[cond_true,Ex.ok,Ex.oks,Ex.small,Ex.smalls,List.length_nil];exact⟨⟨by simp[opNum,bigN,ByteArray.size],by simp[bigN,ByteArray.size],hv,⟨by simp,by simp⟩,by simp,trivial⟩,by omega,trivial⟩
 |false=>
  simp only[cond_false];cases hM:headM (.mk kind value line col text kids)with
  |none=>exact zeroEx_ok
  |some wr=>
   obtain⟨w,rest⟩:=wr;obtain⟨hw,hr⟩:=headM_ok hok hM;obtain⟨y,rfl⟩:=headM_rest hM;simp only;cases hp:isPm w with
   |true=>
    simp only[cond_true];split
    ·rename_i a b;have ha:=ih a (by simp) (hks a (by simp)) (hss a (by simp));have hb:=ih b (by simp) (hks b (by simp)) (hss b (by simp));cases q1:(exprP a).2==0 with
     |false=>exact zeroEx_ok
     |true=>
      cases q2:(exprP b).2==0 with
      |false=>exact zeroEx_ok
      |true=>
       simp only[cond_true,Ex.ok,Ex.oks,Ex.small,Ex.smalls,List.length_nil,List.length_cons];exact⟨⟨hw,by simp[bigN,ByteArray.size],by omega,⟨by simp,by simp⟩,by simp[bigN],ha.1,hb.1,trivial⟩,by omega,ha.2,hb.2,trivial⟩
    ·exact zeroEx_ok
   |false=>
    simp only[cond_false];cases nameB w with
    |false=>exact zeroEx_ok
    |true=>
     have ht:=termsM_ok hr;simp only[cond_true];cases q1:(termsM rest).2==0 with
     |false=>exact zeroEx_ok
     |true=>
      simp at hl;simp only[cond_true,Ex.ok,Ex.oks,Ex.small,Ex.smalls,List.length_nil];exact⟨⟨by simp[opFlu,bigN,ByteArray.size],hw,by omega,⟨by have:=ht.2;unfold bigN;omega,ht.1⟩,by simp,trivial⟩,by have:=ht.2;omega,trivial⟩
end Go.Proofs.YtjeolbgpllbemaaGreat
namespace Go.Proofs.YtjeolbgpllbemaaGreat
open Go.AM
def opAtom:ByteArray:=⟨#[97,116,111,109]⟩
def opSame:ByteArray:=⟨#[115,97,109,101]⟩
def opAnd:ByteArray:=⟨#[97,110,100]⟩
def opOr:ByteArray:=⟨#[111,114]⟩
def opNot:ByteArray:=⟨#[110,111,116]⟩
def opImp:ByteArray:=⟨#[105,109,112,108,121]⟩
def opAll:ByteArray:=⟨#[102,111,114,97,108,108]⟩
def opSome:ByteArray:=⟨#[101,120,105,115,116,115]⟩
def opEq:ByteArray:=⟨#[61]⟩
def opLt:ByteArray:=⟨#[60]⟩
def opLe:ByteArray:=⟨#[60,61]⟩
def opGt:ByteArray:=⟨#[62]⟩
def opGe:ByteArray:=⟨#[62,61]⟩
def isCmp(op:ByteArray):Bool:=bEq op opLt||bEq op opLe||bEq op opEq
def isQ(op:ByteArray):Bool:=bEq op opAll||bEq op opSome
def zeroFm:Fm:= .mk ⟨#[]⟩ ⟨#[]⟩ [] [] [] []
def shapeOf(op:ByteArray)(nk:Nat):Option (Nat × Nat × Bool):=
 if bEq op opAtom then some (0,0,false)
 else if bEq op opSame then some (0,0,false)
 else if bEq op opLt then some (2,0,false)
 else if bEq op opLe then some (2,0,false)
 else if bEq op opEq then some (2,0,false)
 else if bEq op opAnd then some (0,nk,false)
 else if bEq op opOr then some (0,nk,false)
 else if bEq op opNot then some (0,1,false)
 else if bEq op opImp then some (0,2,false)
 else if bEq op opAll then some (0,1,true)
 else if bEq op opSome then some (0,1,true)
 else none
def termsOk(op name:ByteArray)(args:List ByteArray):Bool:=
 if bEq op opAtom then nameB name&&args.all termB
 else if bEq op opSame then emptyB name&&decide (args.length=2)&&args.all termB
 else emptyB name&&args.isEmpty
def pmOk(p:Pm):Bool:=varB p.name&&typedB p.type
def partsOk(op name:ByteArray)(args:List ByteArray)(params:List Pm)(ne nk:Nat):Bool:=
 match shapeOf op nk with
 |none=>false
 |some (e,m,q)=>termsOk op name args&&decide (ne=e)&&decide (nk=m)&&(params.isEmpty||q)&&params.all pmOk
def formedMs:List Ex→Nat→Nat→Bool × Nat
 |[],_,c=>(true,c)
 |e::l,d,c=>match formedM e d c with
  |(true,c')=>formedMs l d c'
  |(false,c')=>(false,c')
mutual
def shapedM:Fm→Nat→Nat→Bool × Nat
 | .mk op name args params exprs kids,d,c=>
  if c+1≤4096∧d≤32 then
   (if partsOk op name args params exprs.length kids.length = true then (match formedMs exprs (d + 1) (c + 1) with
    |(true,c')=>shapedMs kids (d+1) c'
    |(false,c')=>(false,c'))else(false,c+1))
  else(false,c+1)
def shapedMs:List Fm→Nat→Nat→Bool × Nat
 |[],_,c=>(true,c)
 |k::l,d,c=>match shapedM k d c with
  |(true,c')=>shapedMs l d c'
  |(false,c')=>(false,c')
end
mutual
def shapedF:Fm→Bool
 | .mk op name args params exprs kids=>partsOk op name args params exprs.length kids.length&&exprs.all shapedE&&shapedFs kids
def shapedFs:List Fm→Bool
 |[]=>true
 |k::l=>shapedF k&&shapedFs l
end
theorem shapedFs_iff: ∀ {l:List Fm},(shapedFs l=true↔ ∀ k∈l,shapedF k=true)
 |[]=>by simp[shapedFs]
 |k::l=>by simp[shapedFs,shapedFs_iff (l:=l)]
mutual
def fmW:Fm→Sx
 | .mk op name args params exprs kids=>
  if bEq op opAtom then wordsM name args
  else if bEq op opSame then wordsM opEq args
  else if isCmp op=true then listM (wordM op::exprs.map exW)
  else listM ((if(bEq op opAnd&&kids.isEmpty)=true then[]else[wordM op])++(if isQ op=true then[listM (paramsW params)]else[])++fmWs kids)
def fmWs:List Fm→List Sx
 |[]=>[]
 |k::l=>fmW k::fmWs l
end
theorem fmWs_map: ∀ l:List Fm,fmWs l=l.map fmW
 |[]=>rfl
 |k::l=>by simp[fmWs,fmWs_map l]
def validF(f:Fm):Bool:=(shapedM f 0 0).1&&(svalid (fmW f) 0 0).1
end Go.Proofs.YtjeolbgpllbemaaGreat
namespace Go.Proofs.YtjeolbgpllbemaaGreat
open Go.AM
def kidsOf:Sx→List Sx
 | .mk _ _ _ _ _ kids=>kids
def isWrd(x:Sx):Bool:=kindOf x==1&&(svalid x 0 0).1
def pmsOf(t:ByteArray)(l:List ByteArray):List Pm:=l.map (⟨·,t⟩)
def paramsL(vars:Bool):List Sx→List Pm→List ByteArray→List Pm × Int
 |[],don,pen=>(don++pmsOf opObj pen,0)
 | x :: l, don, pen => bif isWrd x then
   (bif bEq (textOf x) opMin then (match l with
    |[]=>([],2)
    |t::l'=>bif !pen.isEmpty&&isWrd t then(bif typedB (textOf t)then paramsL vars l' (don++pmsOf (textOf t) pen) []else([],8))else([],2))
   else bif (bif vars then varB (textOf x)else nameB (textOf x))then paramsL vars l don (pen++[textOf x])else([],8))
  else([],2)
def paramsP(vars:Bool)(l:List Sx):List Pm × Int:=paramsL vars l [] []
def compareP(w:ByteArray)(x y:Sx):Fm × Int:=
 bif bEq w opEq&&kindOf x==1&&kindOf y==1 then(.mk opSame ⟨#[]⟩ (termsM [x,y]).1 [] [] [],(termsM [x,y]).2)
 else bif (exprP x).2==0 then(bif (exprP y).2==0 then
   (if bEq w opGt then(.mk opLt ⟨#[]⟩ [] [] [(exprP y).1,(exprP x).1] [],0)
   else if bEq w opGe then(.mk opLe ⟨#[]⟩ [] [] [(exprP y).1,(exprP x).1] [],0)
   else(.mk w ⟨#[]⟩ [] [] [(exprP x).1,(exprP y).1] [],0))else(zeroFm,(exprP y).2))else(zeroFm,(exprP x).2)
def fin(r:Fm × Int):Fm × Int:=bif r.2==0 then r else(zeroFm,r.2)
def isCmp5(w:ByteArray):Bool:=isCmp w||bEq w opGt||bEq w opGe
def isLst(w:ByteArray):Bool:=bEq w opNot||bEq w opImp||bEq w opAnd||bEq w opOr
mutual
def fmP:Sx→Fm × Int
 | .mk kind _ _ _ _ kids=>
  if kind=3 then(match kids with
   |[]=>(.mk opAnd ⟨#[]⟩ [] [] [] [],0)
   |x::rest=>bif kindOf x==1 then
    (bif decide (countW (textOf x)≥0)&&!(decide (countW (textOf x)=rest.length))then(zeroFm,2)
    else bif isQ (textOf x)then(match rest with
     |[]=>(zeroFm,2)
     |p::body=>bif kindOf p==3 then(bif (paramsP true (kidsOf p)).2==0 then(match fmPs body with
       |(ks,c)=>bif c==0 then(.mk (textOf x) ⟨#[]⟩ [] (paramsP true (kidsOf p)).1 [] ks,0)else(zeroFm,c))
      else(zeroFm,(paramsP true (kidsOf p)).2))else(zeroFm,2))
    else bif isLst (textOf x)then(match fmPs rest with
     |(ks,c)=>bif c==0 then(.mk (textOf x) ⟨#[]⟩ [] [] [] ks,0)else(zeroFm,c))
    else bif isCmp5 (textOf x)then(match rest with
     |[a,b]=>fin (compareP (textOf x) a b)
     |_=>(zeroFm,2))
    else bif nameB (textOf x)then(bif (termsM rest).2==0 then(.mk opAtom (textOf x) (termsM rest).1 [] [] [],0)else(zeroFm,(termsM rest).2))
    else(zeroFm,8))
   else(zeroFm,2))else(zeroFm,2)
def fmPs:List Sx→List Fm × Int
 |[]=>([],0)
 |x::l=>match fmP x with
  | (f, c) => bif c == 0 then (match fmPs l with
   |(fs,c')=>bif c'==0 then(f::fs,0)else([],c'))else([],c)
end
end Go.Proofs.YtjeolbgpllbemaaGreat
namespace Go.Proofs.YtjeolbgpllbemaaGreat
open Go.AM
theorem name_ne{s w:ByteArray}(h:nameB s=true)(hw:nameB w=false):bEq s w=false:=by
 cases he:bEq s w with
 |false=>rfl
 |true=>rw[bEq_eq he,hw]at h;simp at h
theorem countW_eq(op:ByteArray):countW op=if bEq op opNot then 1 else if bEq op opImp then 2 else if bEq op opAll then 2 else if bEq op opSome then 2 else if bEq op opEq then 2 else if bEq op opLt then 2 else if bEq op opLe then 2 else if bEq op opGt then 2 else if bEq op opGe then 2 else-1:=rfl
theorem name_count{s:ByteArray}(h:nameB s=true):countW s= -1∧isQ s=false∧isLst s=false∧isCmp5 s=false:=by
 rw[countW_eq];unfold isQ isLst isCmp5 isCmp;rw[name_ne h (w:=opNot) (by decide),name_ne h (w:=opImp) (by decide),name_ne h (w:=opAll) (by decide),name_ne h (w:=opSome) (by decide),name_ne h (w:=opEq) (by decide),name_ne h (w:=opLt) (by decide),name_ne h (w:=opLe) (by decide),name_ne h (w:=opGt) (by decide),name_ne h (w:=opGe) (by decide),name_ne h (w:=opAnd) (by decide),name_ne h (w:=opOr) (by decide)];exact⟨rfl,rfl,rfl,rfl⟩
theorem partsOk_cases{op name:ByteArray}{args:List ByteArray}{params:List Pm}{ne nk:Nat}(h:partsOk op name args params ne nk=true):
  (op=opAtom∧nameB name=true∧args.all termB=true∧params=[]∧ne=0∧nk=0)∨
  (op=opSame∧name=⟨#[]⟩∧args.length=2∧args.all termB=true∧params=[]∧ne=0∧nk=0)∨
  ((op=opLt∨op=opLe∨op=opEq)∧name=⟨#[]⟩∧args=[]∧params=[]∧ne=2∧nk=0)∨
  ((op=opAnd∨op=opOr∨(op=opNot∧nk=1)∨(op=opImp∧nk=2))∧name=⟨#[]⟩∧args=[]∧params=[]∧ne=0)∨
  ((op=opAll∨op=opSome)∧name=⟨#[]⟩∧args=[]∧ne=0∧nk=1∧params.all pmOk=true):=by
 unfold partsOk shapeOf at h;have t1: ∀ o:ByteArray,bEq o opAtom=false→bEq o opSame=false→termsOk o name args=true→name=⟨#[]⟩∧args=[]:=by
  intro o h1 h2 h3;unfold termsOk at h3;rw[h1,h2]at h3;simp only[Bool.false_eq_true,if_false,Bool.and_eq_true,List.isEmpty_iff]at h3;exact⟨bEq_eq h3.1,h3.2⟩
 cases c1:bEq op opAtom with
 |true=>
  have:=bEq_eq c1;subst this;left;simp[c1,termsOk,and_assoc]at h;exact⟨rfl,h.1,by simpa using h.2.1,h.2.2.2.2.1,h.2.2.1,h.2.2.2.1⟩
 |false=>
 cases c2:bEq op opSame with
 |true=>
  have:=bEq_eq c2;subst this;right;left;simp[c1,c2,termsOk,and_assoc]at h;obtain⟨h1,h2,h3,h4,h5,h6,_⟩:=h;exact⟨rfl,bEq_eq h1,h2,by simpa using h3,h6,h4,h5⟩
 |false=>
  have t2:=t1 op c1 c2;rw[c1,c2]at h;simp only[Bool.false_eq_true,if_false]at h;right;right;by_cases c3:bEq op opLt=true∨bEq op opLe=true∨bEq op opEq=true
  ·left;have h':termsOk op name args=true∧ne=2∧nk=0∧params=[]:=by
    split at h
    ·simp at h
    ·rename_i e m q he;have:(e,m,q)=(2,0,false):=by
      rcases c3 with c|c|c
      ·simp [c]at he;simp[he]
      ·by_cases c0:bEq op opLt=true
       ·simp [c0]at he;simp[he]
       ·simp [c0,c]at he;simp[he]
      ·by_cases c0:bEq op opLt=true
       ·simp [c0]at he;simp[he]
       ·by_cases c00:bEq op opLe=true
        ·simp [c0,c00]at he;simp[he]
        ·simp [c0,c00,c]at he;simp[he]
     simp at this;obtain⟨rfl,rfl,rfl⟩:=this;simp[and_assoc]at h;exact⟨h.1,h.2.1,h.2.2.1,h.2.2.2.1⟩
   obtain⟨g1,g2,g3,g4⟩:=h';obtain⟨g5,g6⟩:=t2 g1;exact⟨c3.imp bEq_eq (fun c=>c.imp bEq_eq bEq_eq),g5,g6,g4,g2,g3⟩
  ·simp only[not_or,Bool.not_eq_true]at c3;rw[c3.1,c3.2.1,c3.2.2]at h;simp only[Bool.false_eq_true,if_false]at h;right;cases c4:bEq op opAnd with
   |true=>
    left;simp[c4,and_assoc]at h;exact⟨.inl (bEq_eq c4),(t2 h.1).1,(t2 h.1).2,h.2.2.1,h.2.1⟩
   |false=>
   cases c5:bEq op opOr with
   |true=>
    left;simp[c4,c5,and_assoc]at h;exact⟨.inr (.inl (bEq_eq c5)),(t2 h.1).1,(t2 h.1).2,h.2.2.1,h.2.1⟩
   |false=>
   cases c6:bEq op opNot with
   |true=>
    left;simp[c4,c5,c6,and_assoc]at h;exact⟨.inr (.inr (.inl ⟨bEq_eq c6,h.2.2.1⟩)),(t2 h.1).1,(t2 h.1).2,h.2.2.2.1,h.2.1⟩
   |false=>
   cases c7:bEq op opImp with
   |true=>
    left;simp[c4,c5,c6,c7,and_assoc]at h;exact⟨.inr (.inr (.inr ⟨bEq_eq c7,h.2.2.1⟩)),(t2 h.1).1,(t2 h.1).2,h.2.2.2.1,h.2.1⟩
   |false=>
   cases c8:bEq op opAll with
   |true=>
    right;simp[c4,c5,c6,c7,c8,and_assoc]at h;exact⟨.inl (bEq_eq c8),(t2 h.1).1,(t2 h.1).2,h.2.1,h.2.2.1,by simpa using h.2.2.2⟩
   |false=>
   cases c9:bEq op opSome with
   |true=>
    right;simp[c4,c5,c6,c7,c8,c9,and_assoc]at h;exact⟨.inr (bEq_eq c9),(t2 h.1).1,(t2 h.1).2,h.2.1,h.2.2.1,by simpa using h.2.2.2⟩
   |false=>simp[c4,c5,c6,c7,c8,c9]at h
theorem midB_low{c:UInt8}(h:midB c=true):lowB c=some c:=by
 have h45:c.toNat=45→c=45:=fun e=>UInt8.toNat_inj.1 (by rw[e];try rfl);have h95:c.toNat=95→c=95:=fun e=>UInt8.toNat_inj.1 (by rw[e];try rfl);have hu:upB c=false:=by
  unfold midB letB at h;unfold upB;simp at h⊢;omega
 have hw:wB c=true:=by
  unfold wB digB;unfold midB at h;simp only[Bool.or_eq_true]at h⊢;rcases h with((h|h)|h)|h
  ·exact .inl (.inl h)
  ·exact .inl (.inr h)
  ·rw [h45 (by simpa using h)];exact .inr (by decide)
  ·rw [h95 (by simpa using h)];exact .inr (by decide)
 unfold lowB;rw[hu,hw];try rfl
theorem lowL_mid: ∀ {l:List UInt8},l.all midB=true→lowL l=some l
 |[],_=>rfl
 |c::l,h=>by
  simp only[List.all_cons,Bool.and_eq_true]at h;simp only[lowL,midB_low h.1,lowL_mid h.2,Option.map_some]
theorem bytesOk_mid{l:List UInt8}(h:bytesOkB l=true):l.all midB=true:=by
 cases l with
 |nil=>rfl
 |cons c l=>
  simp only[bytesOkB,Bool.and_eq_true]at h;simp only[List.all_cons,Bool.and_eq_true];exact⟨letB_mid h.1,h.2⟩
theorem word_of{s:ByteArray}(h1:0<s.size)(h2:s.size≤32)(h3:lowL s.data.toList=some s.data.toList)(h4: ∀ c l,s.data.toList=c::l→digB c=false∧c≠45):wordB s=true:=by
 have hl:lowS s=(s,true):=by
  unfold lowS;rw[if_pos ⟨h1,h2⟩,h3]
 unfold wordB;rw[hl];have hn:numB s=false:=by
  have hsz:s.data.toList≠[]:=by
   intro e;have:s.data.toList.length=0:=(by rw[e];try rfl);rw[Array.length_toList]at this;have:s.size=0:=this;omega
  unfold numB trimB;cases he:s.data.toList with
  |nil=>exact(hsz he).elim
  |cons c l=>
   obtain⟨g1,g2⟩:=h4 c l he;split
   ·rename_i e;simp at e;exact(g2 e.1).elim
   ·rw [he,List.all_cons,g1];try rfl
 simp[hn,bEq]
theorem name_word{s:ByteArray}(h:nameB s=true):wordB s=true:=by
 unfold nameB at h;simp only[Bool.and_eq_true,decide_eq_true_eq]at h;obtain⟨⟨⟨h1,h2⟩,h3⟩,_⟩:=h;refine word_of h2 h3 (lowL_mid (bytesOk_mid h1)) ?_;intro c l he;rw[he]at h1;simp only[bytesOkB,Bool.and_eq_true]at h1;have h4:=h1.1;unfold letB at h4;simp at h4;refine⟨by unfold digB;simp;omega,fun e=>?_⟩;subst e;simp at h4
theorem var_word{s:ByteArray}(h:varB s=true):wordB s=true∧bEq s opMin=false:=by
 unfold varB at h;simp only[Bool.and_eq_true,decide_eq_true_eq]at h;obtain⟨⟨⟨h1,h2⟩,h3⟩,h4⟩:=h;cases he:s.data.toList with
 |nil=>rw[he]at h3;simp at h3
 |cons c l=>
  rw[he]at h3;simp at h3;have hc:c=63:=UInt8.toNat_inj.1 (by rw[h3];try rfl);subst hc;have hx:(s.extract 1 s.size).data.toList=l:=by
   have:(s.extract 1 s.size).data.toList=(s.data.toList.take s.size).drop 1:=by
    simp[ByteArray.data_extract,List.drop_take]
   rw[this,List.take_of_length_le (by rw[Array.length_toList];exact Nat.le_refl _),he];rfl
  unfold nameB at h4;simp only[Bool.and_eq_true]at h4;have h5:=bytesOk_mid h4.1.1.1;rw[hx]at h5;refine⟨word_of (by omega) h2 ?_ ?_,?_⟩
  ·rw [he];simp only[lowL,lowL_mid h5];rfl
  ·intro d m hd;rw[he]at hd;simp at hd;rw[← hd.1];exact⟨by decide,by decide⟩
  ·unfold bEq;rw[he];simp[opMin]
theorem isWrd_word{s:ByteArray}(h:wordB s=true):isWrd (wordM s)=true:=by
 unfold isWrd wordM;simp[kindOf,svalid,h]
theorem typed_word{s:ByteArray}(h:typedB s=true):wordB s=true:=by
 unfold typedB at h;simp only[Bool.or_eq_true]at h;rcases h with h|h
 ·exact name_word h
 ·rw [bEq_eq h];decide
theorem paramsL_W: ∀ (l:List Pm)(don:List Pm),l.all pmOk=true→paramsL true (paramsW l) don []=(don++l,0)
 |[],don,_=>by simp[paramsW,paramsL,pmsOf]
 |p::l,don,h=>by
  simp only[List.all_cons,Bool.and_eq_true]at h;obtain⟨h1,h2⟩:=h;unfold pmOk at h1;simp only[Bool.and_eq_true]at h1;obtain⟨g1,g2⟩:=var_word h1.1;have t1: ∀ s:ByteArray,textOf (wordM s)=s:=fun _=>rfl;have w1:isWrd (wordM ⟨#[45]⟩)=true:=isWrd_word (by decide);have w2:bEq (⟨#[45]⟩:ByteArray) opMin=true:=by decide
  simp only[paramsW];rw[paramsL,isWrd_word g1,t1,g2,h1.1];simp only[cond_true,cond_false,List.nil_append];rw[paramsL,w1,t1,w2];simp only[cond_true,isWrd_word (typed_word h1.2),t1,h1.2];simp only[List.isEmpty_cons,Bool.not_false,Bool.true_and,cond_true,pmsOf,List.map_cons,List.map_nil];rw[paramsL_W l _ h2];simp
theorem paramsP_W{l:List Pm}(h:l.all pmOk=true):paramsP true (paramsW l)=(l,0):=by
 unfold paramsP;rw[paramsL_W l [] h];rfl
theorem fmPs_map: ∀ (l:List Fm),(∀ k∈l,fmP (fmW k)=(k,0))→fmPs (l.map fmW)=(l,0)
 |[],_=>rfl
 |k::l,h=>by
  simp only[List.map_cons,fmPs,h k (by simp),beq_self_eq_true,cond_true,fmPs_map l (fun q hq=>h q (by simp[hq]))]
theorem fmP_fmW: ∀ f:Fm,shapedF f=true→fmP (fmW f)=(f,0):=by
 refine Fm.ind ?_;intro op name args params exprs kids ih hs;unfold shapedF at hs;simp only[Bool.and_eq_true]at hs;obtain⟨⟨h1,h2⟩,h3⟩:=hs;rw[shapedFs_iff]at h3;have hk:=fmPs_map kids (fun k hk=>ih k hk (h3 k hk));have t1: ∀ s:ByteArray,textOf (wordM s)=s:=fun _=>rfl;have t2: ∀ s:ByteArray,kindOf (wordM s)=1:=fun _=>rfl;rcases partsOk_cases h1 with⟨rfl,hn,ha,rfl,he,hk0⟩|⟨rfl,rfl,hl,ha,rfl,he,hk0⟩|⟨ho,rfl,rfl,rfl,he,hk0⟩|⟨ho,rfl,rfl,rfl,he⟩|⟨ho,rfl,rfl,he,hk1,hp⟩
 ·obtain rfl:=List.length_eq_zero_iff.1 he;obtain rfl:=List.length_eq_zero_iff.1 hk0;obtain⟨n1,n2,n3,n4⟩:=name_count hn;unfold fmW;rw[if_pos (by decide)];unfold wordsM listM;simp only[List.map_cons];unfold fmP;simp only[t1,t2,n1,n2,n3,n4,hn,termsM_words args ha,beq_self_eq_true,cond_true,cond_false,if_true];rfl
 ·obtain rfl:=List.length_eq_zero_iff.1 he;obtain rfl:=List.length_eq_zero_iff.1 hk0
  match args,hl with
  |[a,b],_=>
   unfold fmW;rw[if_neg (by decide),if_pos (by decide)];have e:=termsM_words [a,b] ha;simp only[List.map_cons,List.map_nil]at e;unfold wordsM listM;simp only[List.map_cons,List.map_nil];unfold fmP;simp only[t1,t2];have c1:countW opEq=2:=(by decide);have c2:isQ opEq=false:=(by decide);have c3:isLst opEq=false:=(by decide);have c4:isCmp5 opEq=true:=(by decide);have c5:bEq opEq opEq=true:=(by decide);simp only[c1,c2,c3,c4,compareP,c5,t2,e,fin,beq_self_eq_true,cond_true,cond_false,if_true,List.length_cons,List.length_nil,Bool.and_self];rfl
 ·obtain rfl:=List.length_eq_zero_iff.1 hk0
  match exprs,he with
  |[a,b],_=>
   simp only[List.all_cons,Bool.and_eq_true]at h2;have ea:=exprP_exW a h2.1;have eb:=exprP_exW b h2.2.1;have key: ∀ w:ByteArray,bEq w opAtom=false→bEq w opSame=false→isCmp w=true→countW w=2→isQ w=false→isLst w=false→bEq w opGt=false→bEq w opGe=false→(bEq w opEq&&kindOf (exW a)==1&&kindOf (exW b)==1)=false→
     fmP (fmW (.mk w ⟨#[]⟩ [] [] [a,b] []))=(.mk w ⟨#[]⟩ [] [] [a,b] [],0):=by
    intro w k1 k2 k3 k4 k5 k6 k7 k8 k9;unfold fmW;rw[k1,k2,k3];simp only[Bool.false_eq_true,if_false,if_true,List.map_cons,List.map_nil];unfold listM fmP;have k10:isCmp5 w=true:=(by unfold isCmp5;rw[k3];try rfl);simp only[t1,t2,k4,k5,k6,k10,compareP,k9,ea,eb,k7,k8,fin,beq_self_eq_true,cond_true,cond_false,if_true,List.length_cons,List.length_nil,Bool.false_eq_true,if_false];rfl
   have hkn:kindOf (exW a)≠1:=by
    obtain⟨o,n,v,ar,ks⟩:=a;unfold exW;split
    ·simp [kindOf]
    ·split
     ·simp [wordsM,listM,kindOf]
     ·split<;>simp[listM,kindOf]
   have hkb:(kindOf (exW a)==1)=false:=(by simpa using hkn);rcases ho with rfl|rfl|rfl
   ·exact key opLt (by decide) (by decide) (by decide) (by decide) (by decide) (by decide) (by decide) (by decide) (by rw[hkb];simp)
   ·exact key opLe (by decide) (by decide) (by decide) (by decide) (by decide) (by decide) (by decide) (by decide) (by rw[hkb];simp)
   ·exact key opEq (by decide) (by decide) (by decide) (by decide) (by decide) (by decide) (by decide) (by decide) (by rw[hkb];simp)
 ·obtain rfl:=List.length_eq_zero_iff.1 he;have key: ∀ w:ByteArray,bEq w opAtom=false→bEq w opSame=false→isCmp w=false→isQ w=false→(bEq w opAnd&&kids.isEmpty)=false→isLst w=true→(decide (countW w≥0)&&!(decide (countW w=kids.length)))=false→
    fmP (fmW (.mk w ⟨#[]⟩ [] [] [] kids))=(.mk w ⟨#[]⟩ [] [] [] kids,0):=by
   intro w k1 k2 k3 k4 k5 k6 k7;unfold fmW;rw[k1,k2,k3,k4,k5,fmWs_map];simp only[Bool.false_eq_true,if_false,List.append_nil,List.singleton_append];unfold listM fmP;have k8:(decide (countW w≥0)&&!(decide (countW w=(kids.map fmW).length)))=false:=(by rw[List.length_map];exact k7);simp only[t1,t2,k8,k4,k6,hk,beq_self_eq_true,cond_true,cond_false,if_true]
  rcases ho with rfl|rfl|⟨rfl,hn⟩|⟨rfl,hn⟩
  ·cases kids with
   |nil=>rfl
   |cons k ks=>exact key opAnd (by decide) (by decide) (by decide) (by decide) (by simp) (by decide) (by rw[show decide (countW opAnd≥0)=false by decide];try rfl)
  ·exact key opOr (by decide) (by decide) (by decide) (by decide) (by rw[show bEq opOr opAnd=false by decide];try rfl) (by decide) (by rw[show decide (countW opOr≥0)=false by decide];try rfl)
  ·exact key opNot (by decide) (by decide) (by decide) (by decide) (by rw[show bEq opNot opAnd=false by decide];try rfl) (by decide) (by rw[hn];decide)
  ·exact key opImp (by decide) (by decide) (by decide) (by decide) (by rw[show bEq opImp opAnd=false by decide];try rfl) (by decide) (by rw[hn];decide)
 ·obtain rfl:=List.length_eq_zero_iff.1 he;have t3: ∀ l,kindOf (listM l)=3:=fun _=>rfl;have t4: ∀ l,kidsOf (listM l)=l:=fun _=>rfl;have key: ∀ w:ByteArray,bEq w opAtom=false→bEq w opSame=false→isCmp w=false→isQ w=true→bEq w opAnd=false→countW w=2→
    fmP (fmW (.mk w ⟨#[]⟩ [] params [] kids))=(.mk w ⟨#[]⟩ [] params [] kids,0):=by
   intro w k1 k2 k3 k4 k5 k6;unfold fmW;rw[k1,k2,k3,k4,k5,fmWs_map];simp only[Bool.false_eq_true,if_false,if_true,Bool.false_and,List.cons_append,List.nil_append];generalize hm:kids.map fmW=M at hk;have hml:M.length=1:=(by rw[← hm,List.length_map];exact hk1);unfold listM fmP;have k8:(decide ((2:Int)≥0)&&!(decide ((2:Int)=((listM (paramsW params)::M).length:Int))))=false:=(by rw[List.length_cons,hml];decide);unfold listM at k8 t3 t4;simp only[t1,t2,k6,k8,k4,t3,t4,paramsP_W hp,hk,beq_self_eq_true,cond_true,cond_false,if_true]
  rcases ho with rfl|rfl
  ·exact key opAll (by decide) (by decide) (by decide) (by decide) (by decide) (by decide)
  ·exact key opSome (by decide) (by decide) (by decide) (by decide) (by decide) (by decide)
end Go.Proofs.YtjeolbgpllbemaaGreat
namespace Go.Proofs.YtjeolbgpllbemaaGreat
open Go.AM
set_option maxHeartbeats 4000000
set_option maxRecDepth 20000
theorem textOf_okQ{x:Sx}(h:x.ok):(textOf x).size≤bigN:=by
 obtain⟨_,_,_,_,t,_⟩:=x;simp only[Sx.ok]at h;exact h.2.2.1
theorem pms_in(n:Nat)(l:List Pm):inNR n (pmRows l):=by
 induction l with
 |nil=>simp only[pmRows,List.map_nil,inNR]
 |cons a l ih=>simp only[pmRows,List.map_cons,inNR,pmRow,inNL,inN,and_true,true_and]at ih⊢;exact ih
theorem exs_in(n:Nat): ∀ l:List Ex,inNR n (Ex.rows l)
 |[]=>by simp only[Ex.rows,inNR]
 |k::ks=>by simp only[Ex.rows,inNR];exact⟨ex_in n k,exs_in n ks⟩
theorem fm_in(n:Nat): ∀ f:Fm,inNL n f.cells:=by
 refine Fm.ind ?_;intro op name args params exprs kids ih;have:inNR n (Fm.rows kids):=by
  try clear zz
  clear op name args params exprs
  induction kids with
  |nil=>simp only[Fm.rows,inNR]
  |cons k ks ih2=>
   simp only[Fm.rows,inNR];exact⟨ih k (by simp),ih2 fun q hq=>ih q (by simp[hq])⟩
 simp only[Fm.cells,inNL,inN,and_true,true_and];exact⟨strs_in n args,pms_in n params,exs_in n exprs,this⟩
theorem fms_in(n:Nat): ∀ l:List Fm,inNR n (Fm.rows l)
 |[]=>by simp only[Fm.rows,inNR]
 |k::ks=>by simp only[Fm.rows,inNR];exact⟨fm_in n k,fms_in n ks⟩
theorem fm_frz(n:Nat)(h:Heap)(f:Fm):FrzL n h f.cells f.cells:=by
 have hi:=fm_in n f;obtain⟨op,name,args,params,exprs,kids⟩:=f;simp only[Fm.cells,inNL,inN,and_true,true_and]at hi;simp only[Fm.cells,FrzL,FrzTo,and_true,true_and];exact⟨.inl hi.1,.inl hi.2.1,.inl hi.2.2.1,.inl hi.2.2.2⟩
theorem fms_frz(n:Nat)(h:Heap): ∀ l:List Fm,FrzR n h (Fm.rows l) (Fm.rows l)
 |[]=>by simp only[Fm.rows,FrzR]
 |k::ks=>by simp only[Fm.rows,FrzR];exact⟨fm_frz n h k,fms_frz n h ks⟩
theorem tl_frzF{h:Heap}{id0 n:Nat}{p:PV}{l:List Fm}(hn:n≤id0)(t:Tl h id0 6 p (Fm.rows l)):FrzTo n h (.imm 6 (Fm.rows l)) p:=by
 simp only[FrzTo];rcases t with⟨h1,h2⟩|⟨id,h1,h2,rfl,ho⟩
 ·exact .inr (.inl ⟨h1,h2.symm⟩)
 ·refine .inr (.inr ⟨id,0,_,_,rfl,by omega,ho,by omega,?_⟩);rw[List.drop_zero,List.take_of_length_le (by omega)];exact fms_frz _ _ _
theorem fmPs_nil: ∀ l:List Sx,((fmPs l).2==0)=false→(fmPs l).1=[]
 |[],h=>by simp[fmPs]at h
 |x::l,h=>by
  simp only[fmPs]at h⊢;cases hq:(fmP x).2==0 with
  |false=>simp only[cond_false]
  |true=>
   rw[hq]at h;simp only[cond_true]at h⊢;cases hr:(fmPs l).2==0 with
   |false=>simp only[cond_false]
   |true=>rw[hr]at h;simp at h
theorem kids_c{l:List Sx}(hl:l.length≤1048576)(hf: ∀ x∈l, ∀ h:Heap,PCall Tryz.prog 142 [.agg x.cells] h fun r h'=>r= .tup [.agg (fmP x).1.cells,errP (fmP x).2]∧h'=h)(h:Heap):
  PCall Tryz.prog 158 [.imm 6 (Sx.rows l)] h fun r h'=>r= .tup [.imm 6 (Fm.rows (fmPs l).1),errP (fmPs l).2]∧h'=h:=by
 refine PCall.frz Ty.hb_158 ?_;have hll:=Sx.rows_len l;refine uG0 Tryz.func158 Tryz.ntmps158 Tryz.results158 Ty.hb_158 ?_;repeat'(first|refine a_seq fun K hK=>?_|refine a_block ?_|refine uR hll ?_|(refine uN hK ?_;clear hK)|apply zI)
 refine a_loop (fun m S h'=>S 9= .imm 6 (Sx.rows l)∧S 10= .sc (.int .i64 l.length)∧ ∃ (k:Nat)(o:PV)(pre:List Fm),S 11= .sc (.int .i64 k)∧S 4=o∧k≤l.length∧m=l.length-k∧Grow h h'∧pre.length=k∧Tl h' h.next 6 o (Fm.rows pre)∧
  fmPs l=(bif (fmPs (l.drop k)).2==0 then(pre++(fmPs (l.drop k)).1,0)else([],(fmPs (l.drop k)).2))) l.length ?_ ?_
 ·simp only[Ty.w,simprocAttr];refine⟨0,_,[],rfl,rfl,by omega,rfl,Grow.refl _,rfl,Tl.nil,?_⟩;rw[List.drop_zero];cases hq:(fmPs l).2==0
  ·simp only[cond_false];rw[← fmPs_nil l hq]
  ·have h0:(fmPs l).2=0:=(by simpa using hq);simp only[cond_true,List.nil_append];rw[← h0]
 ·rintro m S h' ⟨g9,g10,k,o,pre,g11,g4,hk,rfl,hg,hpl,tl,hinv⟩;by_cases hlt:k<l.length
  ·have hd:decide ((k:Int)<(l.length:Int))=true:=(by simp;omega);have w7:IntKind.i64.wrap ((k:Int)+1)=k+1:=(by rw[wrap64 (by omega) (by omega)]);obtain⟨x,hx⟩: ∃ x,l[k]? =some x:=⟨_,List.getElem?_eq_getElem hlt⟩;have hr:=Sx.rows_get hx;have hc:=hf x (List.mem_of_getElem? hx);rw[drop_of_get hx]at hinv;simp only[fmPs]at hinv;generalize hE:fmP x=E at hc hinv;obtain⟨f,c⟩:=E;simp only at hc hinv;(try clear zz);clear hE hf;obtain⟨ki,va,li,co,te,ks⟩:=x;simp only[Sx.cells]at hr hc;have n3:(h'.next=h'.next+1)=False:=(by simp);cases hcc:c==0 with
   |false=>
    rw[hcc]at hinv;simp only[cond_false]at hinv;have e0:errP c=errV c:=(by simp only[errP,hcc,cond_false]);rw[e0]at hc;simp only[errV]at hc;have hq:fmPs l=([],c):=(by rw[hinv];simp only[hcc,cond_false]);rw[hq];obtain⟨fop,fna,far,fpa,fex,fki⟩:=f;simp only[Fm.cells]at hc;replace zz:=uu g9 (uu g10 (uu g11 (uu g4 (uu hd hr))));(repeat'(first|refine a_seq fun K hK=>?_|refine uR zz ?_|refine uK ?_|refine uC1 zz ?_|(refine uN hK ?_;clear hK)|apply zI));refine uU zz (hc _) ?_;replace zz:=uu g9 (uu g10 (uu g11 (uu g4 (uu hd (uu hr (uu n3 @nsucc))))));(repeat'(first|refine a_seq fun K hK=>?_|refine uR zz ?_|refine uT zz ?_|(refine uN hK ?_;clear hK)|apply zI));rw[e0];refine⟨?_,(((hg.new _).set hg.le _).new _).set (show h.next≤h'.next+1 by have:=hg.le;omega) _⟩;simp only[errV,Fm.rows,FrzTo,FrzL];exact⟨_,rfl,.inr (.inl ⟨rfl,.inr rfl⟩),rfl,trivial⟩
   |true=>
    have e0:errP c= .sc .nilIface:=(by simp only[errP,hcc,cond_true]);rw[e0]at hc;have hto:=tl_one tl;have hrows:Fm.rows (pre++[f])=Fm.rows pre++[f.cells]:=(by simp only[Fm.rows_map,List.map_append,List.map_cons,List.map_nil]);obtain⟨fop,fna,far,fpa,fex,fki⟩:=f;simp only[Fm.cells]at hc hrows;generalize hH2:((((h'.new (.arr 6 [[.sc (.int .i64 0),.sc (.int .i64 0),.sc (.int .i64 0),.sc (.int .i64 0),.sc (.string ⟨#[]⟩),.sc (.slice none 0 0)]])).set h'.next (.arr 6 [[.sc (.int .i64 ki),.sc (.int .i64 va),.sc (.int .i64 li),.sc (.int .i64 co),sPV te,.imm 6 (Sx.rows ks)]])).new (.arr 6 [[.sc (.string ⟨#[]⟩),.sc (.string ⟨#[]⟩),.sc (.slice none 0 0),.sc (.slice none 0 0),.sc (.slice none 0 0),.sc (.slice none 0 0)]])).set (h'.next+1) (.arr 6 [[sPV fop,sPV fna,.imm 1 (strRows far),.imm 2 (pmRows fpa),.imm 5 (Ex.rows fex),.imm 6 (Fm.rows fki)]]))=H2;have hnn:H2.next=h'.next+1+1:=by rw[← hH2];simp[Heap.new,Heap.set]
    have hold: ∀ j,j<h'.next→H2.obj j=h'.obj j:=fun j hj=>by
     have a1:¬ j=h'.next:=by omega
     have a2:¬ j=h'.next+1:=by omega
     rw[← hH2];simp only[Heap.new,Heap.set,a1,a2,if_false]
    have tl2:=tl.up (h':=H2) (by omega) (fun j _ hj=>hold j hj);have hg2:Grow h H2:=(by rw[← hH2];exact(((hg.new _).set hg.le _).new _).set (show h.next≤h'.next+1 by have:=hg.le;omega) _);obtain⟨H,t1,t2,t3,t4,t5⟩:=tl2.tail;have hkp:=t5 h ⟨hg2.le,hg2.old⟩ (Nat.le_refl _);have hgH:Grow h H:=⟨hkp.1,hkp.2⟩;have hpr:(Fm.rows pre).length=k:=(by rw[Fm.rows_len];exact hpl);have hb:(k+1)*128≤140737488355328:=(by omega);have hob:H2.obj (h'.next+1)=some (.arr 6 [[sPV fop,sPV fna,.imm 1 (strRows far),.imm 2 (pmRows fpa),.imm 5 (Ex.rows fex),.imm 6 (Fm.rows fki)]]):=(by rw[← hH2];simp[Heap.set]);replace zz:=uu g9 (uu g10 (uu g11 (uu g4 (uu hd hr))));(repeat'(first|refine a_seq fun K hK=>?_|refine uR zz ?_|refine uK ?_|refine uC1 zz ?_|(refine uN hK ?_;clear hK)|apply zI));refine uU zz (hc _) ?_;replace zz:=uu g9 (uu g10 (uu g11 (uu g4 (uu n3 (uu @nsucc (uu hH2 (uu hob (uu t1 (uu t2 (uu hpr (uu hb w7)))))))))));(repeat'(first|refine a_seq fun K hK=>?_|refine uR zz ?_|refine uQ zz fun K hK=>?_|refine uK ?_|refine uC1 zz ?_|(refine uN hK ?_;clear hK)|(rw[if_pos];rotate_left 1;omega;simp(maxSteps:=2000000) only[Ty.w,simprocAttr,g9,g10,g11,g4,n3,nsucc,hH2,hob,t1,t2,hpr,hb,w7])|apply zI));rw[← hrows];have hgr:=Tl.grow (H:=H) (id0:=h.next) (z:=6) (len:=k+1) (rows:=Fm.rows (pre++[Fm.mk fop fna far fpa fex fki])) hkp.1 (by rw[Fm.rows_len];simp[hpl]);refine⟨l.length-(k+1),by omega,k+1,.own H.next 0 (k+1),pre++[Fm.mk fop fna far fpa fex fki],by simp,by rw[t3,hnn],by omega,rfl,hgH.new _,by simp[hpl],hgr,?_⟩;rw[hinv,hcc];simp only[cond_true];cases hq:(fmPs (List.drop (k+1) l)).2==0 with
    |false=>simp only[hq,cond_false]
    |true=>simp only[cond_true,beq_self_eq_true,List.append_assoc,List.cons_append,List.nil_append]
  ·have hd:decide ((k:Int)<(l.length:Int))=false:=(by simp;omega);rw[List.drop_eq_nil_of_le (by omega)]at hinv;have hq:fmPs l=(pre,0):=(by rw[hinv];simp[fmPs]);replace zz:=uu g9 (uu g10 (uu g11 (uu g4 hd)));(repeat'(first|refine a_seq fun K hK=>?_|refine uR zz ?_|refine uT zz ?_|refine uX ?_|refine uC1 zz ?_|(refine uN hK ?_;clear hK)|(clear hK;refine uN hK ?_;clear hK)|apply zI));have e2:errP 0= .sc .nilIface:=rfl;rw[hq];simp only[e2];refine⟨?_,hg⟩;have h1:=tl_frzF (Nat.le_refl _) tl;unfold FrzTo;refine⟨_,rfl,?_⟩;unfold FrzL;refine⟨h1,?_⟩;unfold FrzL;exact⟨by simp only[FrzTo],by simp only[FrzL]⟩
end Go.Proofs.YtjeolbgpllbemaaGreat
namespace Go.Proofs.YtjeolbgpllbemaaGreat
open Go.AM
set_option maxHeartbeats 4000000
set_option maxRecDepth 20000
theorem compare_c{w:ByteArray}{x y:Sx}(hx:x.ok)(hy:y.ok)
  (cx: ∀ h:Heap,PCall Tryz.prog 165 [.agg x.cells] h fun r h'=>r= .tup [.agg (exprP x).1.cells,errP (exprP x).2]∧h'=h)
  (cy: ∀ h:Heap,PCall Tryz.prog 165 [.agg y.cells] h fun r h'=>r= .tup [.agg (exprP y).1.cells,errP (exprP y).2]∧h'=h)(h:Heap):
  PCall Tryz.prog 159 [sPV w,.agg x.cells,.agg y.cells] h fun r h'=>r= .tup [.agg (compareP w x y).1.cells,errP (compareP w x y).2]∧h'=h:=by
 refine PCall.frz Ty.hb_159 ?_;have ht:=fun h:Heap=>terms_c (l:=[x,y]) (by simp) (by simp[hx,hy]) h;generalize hF:compareP w x y=F;unfold compareP at hF;have hti:=strs_in;generalize termsM [x,y]=T at ht hF;obtain⟨t,c⟩:=T;have hi1:=ex_in;generalize exprP x=X at cx hF;obtain⟨ex,c1⟩:=X;generalize exprP y=Y at cy hF;obtain⟨ey,c2⟩:=Y;obtain⟨kx,vx,lx,ox,tx,sx⟩:=x;obtain⟨ky,vy,ly,oy,ty,sy⟩:=y;obtain⟨aop,ana,an,aar,aki⟩:=ex;obtain⟨bop,bna,bn,bar,bki⟩:=ey;simp only[kindOf]at hF;simp only[Sx.rows,Sx.cells,Ex.cells]at ht cx cy⊢;have hgr: ∀ r,Grow h ((h.new (.arr 6 [[.sc (.string ⟨#[]⟩),.sc (.string ⟨#[]⟩),.sc (.slice none 0 0),.sc (.slice none 0 0),.sc (.slice none 0 0),.sc (.slice none 0 0)]])).set h.next r):=fun r=>((Grow.refl h).new _).set (Nat.le_refl _) _;refine uG0 Tryz.func159 Tryz.ntmps159 Tryz.results159 Ty.hb_159 ?_;repeat'(first|with_reducible refine a_hold 1 ?_|refine a_seq fun K hK=>?_|refine uR trivial ?_|(refine uN hK ?_;clear hK)|apply zI)
 refine⟨?_⟩;refine a_cut (fun S h'=>S 0=sPV w∧S 4= .cptr (Sx.mk kx vx lx ox tx sx).cells∧S 5= .cptr (Sx.mk ky vy ly oy ty sy).cells∧S 6= .ptr h.next 0 0∧h'=h.new (.arr 6 [[.sc (.string ⟨#[]⟩),.sc (.string ⟨#[]⟩),.sc (.slice none 0 0),.sc (.slice none 0 0),.sc (.slice none 0 0),.sc (.slice none 0 0)]])∧(bEq w opEq&&kx==1&&ky==1)=false) ?_ ?_
 ·try clear zz
  clear cx cy;simp only[Sx.cells];cases q1:(w.data.toList==(#[61]:Array UInt8).toList)with
  |false=>
   have q1':bEq w opEq=false:=q1;(repeat'(first|refine a_seq fun K hK=>?_|refine uR q1 ?_|refine uK ?_|refine uC1 q1 ?_|(refine uN hK ?_;clear hK)|apply zI));all_goals first|rfl|(simp only[Ty.w,simprocAttr,q1',Bool.false_and];done)
  |true=>
   have q1':bEq w opEq=true:=q1;cases q2:(kx==1)with
   |false=>
    replace zz:=uu q1 q2;(repeat'(first|refine a_seq fun K hK=>?_|refine uR zz ?_|refine uK ?_|refine uC1 zz ?_|(refine uN hK ?_;clear hK)|apply zI));all_goals first|rfl|(simp only[Ty.w,simprocAttr,q1',q2,Bool.false_and,Bool.true_and];done)
   |true=>
    cases q3:(ky==1)with
    |false=>
     replace zz:=uu q1 (uu q2 q3);(repeat'(first|refine a_seq fun K hK=>?_|refine uR zz ?_|refine uK ?_|refine uC1 zz ?_|(refine uN hK ?_;clear hK)|apply zI));all_goals first|rfl|(simp only[Ty.w,simprocAttr,q1',q2,q3,Bool.true_and];done)
    |true=>
     rw[q1',q2,q3]at hF;simp only[Bool.and_true,cond_true]at hF;subst hF;cases hc:c==0 with
     |true=>
      have e0:errP c= .sc .nilIface:=(by simp only[errP,hc,cond_true]);rw[e0]at ht⊢;(repeat'(first|refine a_seq fun K hK=>?_|refine uR (uu q1 (uu q2 q3)) ?_|(refine uN hK ?_;clear hK)|apply zI));refine uU (uu q1 (uu q2 q3)) (ht _) ?_;(repeat'(first|refine a_seq fun K hK=>?_|refine uR trivial ?_|refine uT trivial ?_|(refine uN hK ?_;clear hK)|apply zI));refine⟨?_,hgr _⟩;simp only[opSame,Fm.cells,Ex.rows,Fm.rows,pmRows,List.map_nil,FrzTo,FrzL];exact⟨_,rfl,⟨_,rfl,rfl,rfl,.inl ⟨rfl,hti _ _⟩,.inr (.inl ⟨rfl,.inr rfl⟩),.inr (.inl ⟨rfl,.inr rfl⟩),.inr (.inl ⟨rfl,.inr rfl⟩),trivial⟩,rfl,trivial⟩
     |false=>
      have e0:errP c=errV c:=(by simp only[errP,hc,cond_false]);rw[e0]at ht⊢;simp only[errV]at ht⊢;(repeat'(first|refine a_seq fun K hK=>?_|refine uR (uu q1 (uu q2 q3)) ?_|(refine uN hK ?_;clear hK)|apply zI));refine uU (uu q1 (uu q2 q3)) (ht _) ?_;(repeat'(first|refine a_seq fun K hK=>?_|refine uR trivial ?_|refine uT trivial ?_|(refine uN hK ?_;clear hK)|apply zI));refine⟨?_,hgr _⟩;simp only[opSame,Fm.cells,Ex.rows,Fm.rows,pmRows,List.map_nil,FrzTo,FrzL];exact⟨_,rfl,⟨_,rfl,rfl,rfl,.inl ⟨rfl,hti _ _⟩,.inr (.inl ⟨rfl,.inr rfl⟩),.inr (.inl ⟨rfl,.inr rfl⟩),.inr (.inl ⟨rfl,.inr rfl⟩),trivial⟩,rfl,trivial⟩
 ·rintro S h' ⟨g0,g4,g5,g6,rfl,hq⟩;rw[hq]at hF;try clear zz
  clear ht hq;simp only[cond_false]at hF;simp only[Sx.cells]at g4 g5;have n1:(h.next=h.next+1)=False:=by simp
  have n2:(h.next=h.next+1+1)=False:=by simp;omega
  have n3:(h.next+1=h.next+1+1)=False:=by simp
  have hgr2: ∀ o1 o2 r,Grow h ((((h.new (.arr 6 [[.sc (.string ⟨#[]⟩),.sc (.string ⟨#[]⟩),.sc (.slice none 0 0),.sc (.slice none 0 0),.sc (.slice none 0 0),.sc (.slice none 0 0)]])).new o1).set (h.next+1) o2).set h.next r):=fun o1 o2 r=>((((Grow.refl h).new _).new _).set (Nat.le_succ _) _).set (Nat.le_refl _) _;have hgr3: ∀ o1 o2 o3 o4 r,Grow h ((((((h.new (.arr 6 [[.sc (.string ⟨#[]⟩),.sc (.string ⟨#[]⟩),.sc (.slice none 0 0),.sc (.slice none 0 0),.sc (.slice none 0 0),.sc (.slice none 0 0)]])).new o1).set (h.next+1) o2).new o3).set (h.next+1+1) o4).set h.next r):=fun o1 o2 o3 o4 r=>((((((Grow.refl h).new _).new _).set (Nat.le_succ _) _).new _).set (by omega) _).set (Nat.le_refl _) _;cases hc1:c1==0 with
  |false=>
   rw[hc1]at hF;simp only[cond_false]at hF;subst hF;have e0:errP c1=errV c1:=(by simp only[errP,hc1,cond_false]);rw[e0]at cx⊢;simp only[errV]at cx⊢;replace zz:=uu g0 (uu g4 (uu g5 g6));(repeat'(first|refine a_seq fun K hK=>?_|refine uR zz ?_|apply zI));refine uU zz (cx _) ?_;replace zz:=uu g0 (uu g4 (uu g5 (uu g6 (uu n1 @nsucc))));(repeat'(first|refine a_seq fun K hK=>?_|refine uR zz ?_|refine uT zz ?_|(refine uN hK ?_;clear hK)|apply zI));refine⟨?_,hgr2 _ _ _⟩;simp only[zeroFm,Fm.cells,Ex.rows,Fm.rows,pmRows,strRows,List.map_nil,FrzTo,FrzL];exact⟨_,rfl,⟨_,rfl,rfl,rfl,.inr (.inl ⟨rfl,.inr rfl⟩),.inr (.inl ⟨rfl,.inr rfl⟩),.inr (.inl ⟨rfl,.inr rfl⟩),.inr (.inl ⟨rfl,.inr rfl⟩),trivial⟩,rfl,trivial⟩
  |true=>
   rw[hc1]at hF;simp only[cond_true]at hF;have e0:errP c1= .sc .nilIface:=(by simp only[errP,hc1,cond_true]);rw[e0]at cx;cases hc2:c2==0 with
   |false=>
    rw[hc2]at hF;simp only[cond_false]at hF;subst hF;have e1:errP c2=errV c2:=(by simp only[errP,hc2,cond_false]);rw[e1]at cy⊢;simp only[errV]at cy⊢;replace zz:=uu g0 (uu g4 (uu g5 g6));(repeat'(first|refine a_seq fun K hK=>?_|refine uR zz ?_|apply zI));refine uU zz (cx _) ?_;replace zz:=uu g0 (uu g4 (uu g5 (uu g6 (uu n1 @nsucc))));(repeat'(first|refine a_seq fun K hK=>?_|refine uR zz ?_|refine uK ?_|refine uC1 zz ?_|(refine uN hK ?_;clear hK)|apply zI));replace zz:=uu g0 (uu g4 (uu g5 g6));refine uU zz (cy _) ?_;replace zz:=uu g0 (uu g4 (uu g5 (uu g6 (uu n1 (uu n2 (uu n3 @nsucc))))));(repeat'(first|refine a_seq fun K hK=>?_|refine uR zz ?_|refine uT zz ?_|(refine uN hK ?_;clear hK)|apply zI));refine⟨?_,hgr3 _ _ _ _ _⟩;simp only[zeroFm,Fm.cells,Ex.rows,Fm.rows,pmRows,strRows,List.map_nil,FrzTo,FrzL];exact⟨_,rfl,⟨_,rfl,rfl,rfl,.inr (.inl ⟨rfl,.inr rfl⟩),.inr (.inl ⟨rfl,.inr rfl⟩),.inr (.inl ⟨rfl,.inr rfl⟩),.inr (.inl ⟨rfl,.inr rfl⟩),trivial⟩,rfl,trivial⟩
   |true=>
    rw[hc2]at hF;simp only[cond_true]at hF;have e1:errP c2= .sc .nilIface:=(by simp only[errP,hc2,cond_true]);rw[e1]at cy;have e2:errP 0= .sc .nilIface:=rfl;cases p1:(w.data.toList==(#[62]:Array UInt8).toList)with
    |true=>
     rw[if_pos (show bEq w opGt=true from p1)]at hF;subst hF;replace zz:=uu g0 (uu g4 (uu g5 g6));(repeat'(first|refine a_seq fun K hK=>?_|refine uR zz ?_|apply zI));refine uU zz (cx _) ?_;replace zz:=uu g0 (uu g4 (uu g5 (uu g6 (uu n1 @nsucc))));(repeat'(first|refine a_seq fun K hK=>?_|refine uR zz ?_|refine uK ?_|refine uC1 zz ?_|(refine uN hK ?_;clear hK)|apply zI));replace zz:=uu g0 (uu g4 (uu g5 g6));refine uU zz (cy _) ?_;replace zz:=uu g0 (uu g4 (uu g5 (uu g6 (uu n1 (uu n2 (uu n3 (uu @nsucc p1)))))));(repeat'(first|refine a_seq fun K hK=>?_|refine uR zz ?_|refine uT zz ?_|refine uK ?_|refine uC1 zz ?_|(refine uN hK ?_;clear hK)|apply zI));refine⟨?_,hgr3 _ _ _ _ _⟩;simp only[e2,opLt,Fm.cells,Ex.cells,Ex.rows,Fm.rows,pmRows,strRows,List.map_nil,FrzTo,FrzL];exact⟨_,rfl,⟨_,rfl,rfl,rfl,.inr (.inl ⟨rfl,.inr rfl⟩),.inr (.inl ⟨rfl,.inr rfl⟩),.inl ⟨rfl,exs_in _ [.mk bop bna bn bar bki,.mk aop ana an aar aki]⟩,.inr (.inl ⟨rfl,.inr rfl⟩),trivial⟩,rfl,trivial⟩
    |false=>
     rw[if_neg (show ¬ bEq w opGt=true by rw[show bEq w opGt=false from p1];simp)]at hF;cases p2:(w.data.toList==(#[62,61]:Array UInt8).toList)with
     |true=>
      rw[if_pos (show bEq w opGe=true from p2)]at hF;subst hF;replace zz:=uu g0 (uu g4 (uu g5 g6));(repeat'(first|refine a_seq fun K hK=>?_|refine uR zz ?_|apply zI));refine uU zz (cx _) ?_;replace zz:=uu g0 (uu g4 (uu g5 (uu g6 (uu n1 @nsucc))));(repeat'(first|refine a_seq fun K hK=>?_|refine uR zz ?_|refine uK ?_|refine uC1 zz ?_|(refine uN hK ?_;clear hK)|apply zI));replace zz:=uu g0 (uu g4 (uu g5 g6));refine uU zz (cy _) ?_;replace zz:=uu g0 (uu g4 (uu g5 (uu g6 (uu n1 (uu n2 (uu n3 (uu @nsucc (uu p1 p2))))))));(repeat'(first|refine a_seq fun K hK=>?_|refine uR zz ?_|refine uT zz ?_|refine uK ?_|refine uC1 zz ?_|(refine uN hK ?_;clear hK)|apply zI));refine⟨?_,hgr3 _ _ _ _ _⟩;simp only[e2,opLe,Fm.cells,Ex.cells,Ex.rows,Fm.rows,pmRows,strRows,List.map_nil,FrzTo,FrzL];exact⟨_,rfl,⟨_,rfl,rfl,rfl,.inr (.inl ⟨rfl,.inr rfl⟩),.inr (.inl ⟨rfl,.inr rfl⟩),.inl ⟨rfl,exs_in _ [.mk bop bna bn bar bki,.mk aop ana an aar aki]⟩,.inr (.inl ⟨rfl,.inr rfl⟩),trivial⟩,rfl,trivial⟩
     |false=>
      rw[if_neg (show ¬ bEq w opGe=true by rw[show bEq w opGe=false from p2];simp)]at hF;subst hF;replace zz:=uu g0 (uu g4 (uu g5 g6));(repeat'(first|refine a_seq fun K hK=>?_|refine uR zz ?_|apply zI));refine uU zz (cx _) ?_;replace zz:=uu g0 (uu g4 (uu g5 (uu g6 (uu n1 @nsucc))));(repeat'(first|refine a_seq fun K hK=>?_|refine uR zz ?_|refine uK ?_|refine uC1 zz ?_|(refine uN hK ?_;clear hK)|apply zI));replace zz:=uu g0 (uu g4 (uu g5 g6));refine uU zz (cy _) ?_;replace zz:=uu g0 (uu g4 (uu g5 (uu g6 (uu n1 (uu n2 (uu n3 (uu @nsucc (uu p1 p2))))))));(repeat'(first|refine a_seq fun K hK=>?_|refine a_block ?_|refine uR zz ?_|refine uT zz ?_|refine uK ?_|refine uC1 zz ?_|(refine uN hK ?_;clear hK)|apply zI));refine⟨?_,hgr3 _ _ _ _ _⟩;simp only[e2,Fm.cells,Ex.cells,Ex.rows,Fm.rows,pmRows,strRows,List.map_nil,FrzTo,FrzL];exact⟨_,rfl,⟨_,rfl,rfl,rfl,.inr (.inl ⟨rfl,.inr rfl⟩),.inr (.inl ⟨rfl,.inr rfl⟩),.inl ⟨rfl,exs_in _ [.mk aop ana an aar aki,.mk bop bna bn bar bki]⟩,.inr (.inl ⟨rfl,.inr rfl⟩),trivial⟩,rfl,trivial⟩
end Go.Proofs.YtjeolbgpllbemaaGreat
namespace Go.Proofs.YtjeolbgpllbemaaGreat
open Go.AM
set_option maxHeartbeats 4000000
set_option maxRecDepth 20000
theorem pms_step{don:List Pm}{pen:List ByteArray}{t s:ByteArray}{j:Nat}(hj:pen[j]? =some s):
  (pmRows (don++pmsOf t (pen.take j)++pmsOf opObj (pen.drop j)))[don.length+j]? =some [sPV s,sPV opObj]∧
  (pmRows (don++pmsOf t (pen.take j)++pmsOf opObj (pen.drop j))).set (don.length+j) [sPV s,sPV t]=pmRows (don++pmsOf t (pen.take (j+1))++pmsOf opObj (pen.drop (j+1))):=by
 have hjl:j<pen.length:=(List.getElem?_eq_some_iff.1 hj).1;have hA:(pmRows (don++pmsOf t (pen.take j))).length=don.length+j:=by simp[pmRows,pmsOf];omega
 have e1:pmRows (don++pmsOf t (pen.take j)++pmsOf opObj (pen.drop j))=pmRows (don++pmsOf t (pen.take j))++([sPV s,sPV opObj]::pmRows (pmsOf opObj (pen.drop (j+1)))):=by
  rw[drop_of_get hj];simp[pmRows,pmsOf,pmRow]
 have e2:pmRows (don++pmsOf t (pen.take (j+1))++pmsOf opObj (pen.drop (j+1)))=pmRows (don++pmsOf t (pen.take j))++([sPV s,sPV t]::pmRows (pmsOf opObj (pen.drop (j+1)))):=by
  rw[List.take_add_one,hj];simp[pmRows,pmsOf,pmRow]
 rw[e1,e2];constructor
 ·rw [List.getElem?_append_right (by omega),hA];simp
 ·rw [List.set_append_right _ _ (by omega),hA];simp
theorem paramsL_cons(vars:Bool)(x:Sx)(l:List Sx)(don:List Pm)(pen:List ByteArray):paramsL vars (x::l) don pen=(bif isWrd x then
   (bif bEq (textOf x) opMin then (match l with
    |[]=>([],2)
    |t::l'=>bif !pen.isEmpty&&isWrd t then(bif typedB (textOf t)then paramsL vars l' (don++pmsOf (textOf t) pen) []else([],8))else([],2))
   else bif (bif vars then varB (textOf x)else nameB (textOf x))then paramsL vars l don (pen++[textOf x])else([],8))
  else([],2)):=by
 cases l<;>(conv=>lhs;unfold paramsL)
theorem a_gen{P:Program}{ow:Nat→Bool}{wf:FuncId→Bool}{n:Nat}{Q:Post}{s:Slots}{h:Heap}{c:Code}(I:Slots→Heap→Prop)(hi:I s h)(hh: ∀ s h,I s h→awp P ow wf n c Q s h):awp P ow wf n c Q s h:=hh _ _ hi
theorem pms_scal(l:List Pm): ∀ r∈pmRows l, ∀ p∈r, ∃ v,p=PV.sc v:=by
 intro r hr p hp;simp only[pmRows,List.mem_map]at hr;obtain⟨x,_,rfl⟩:=hr;simp only[pmRow,List.mem_cons,List.not_mem_nil,or_false]at hp;rcases hp with rfl|rfl
 ·exact ⟨_,rfl⟩
 ·exact ⟨_,rfl⟩
theorem pms_frzP{h:Heap}{id0:Nat}{p:PV}{l:List Pm}(t:Tl h id0 2 p (pmRows l)):FrzTo id0 h (.imm 2 (pmRows l)) p:=t.frz (pms_scal l)
theorem parseParams_c{vars:Bool}{l:List Sx}(hl:l.length≤1048576)(hok: ∀ x∈l,x.ok)(h:Heap):
  PCall Tryz.prog 112 [.imm 6 (Sx.rows l),.sc (.bool vars)] h fun r h'=>r= .tup [.imm 2 (pmRows (paramsP vars l).1),errP (paramsP vars l).2]∧h'=h:=by
 refine PCall.frz Ty.hb_112 ?_;have hll:=Sx.rows_len l;generalize hF:paramsP vars l=F;have bad: ∀ (c:Int)(h':Heap),c=2∨c=8→Grow h h'→F=([],c)→FrzTo h.next h' (.tup [.imm 2 (pmRows F.1),errP F.2]) (.tup [.sc (.slice none 0 0),errV c])∧Grow h h':=by
  intro c h' hc hg hf;subst hf;have:errP c=errV c:=by rcases hc with rfl|rfl<;>rfl
  simp only[this];refine⟨?_,hg⟩;simp only[errV,pmRows,List.map_nil,FrzTo,FrzL];exact⟨_,rfl,.inr (.inl ⟨rfl,.inr rfl⟩),rfl,trivial⟩
 simp only[errV]at bad;refine uG0 Tryz.func112 Tryz.ntmps112 Tryz.results112 Ty.hb_112 ?_;repeat'(first|refine a_seq fun K hK=>?_|refine a_block ?_|refine uR trivial ?_|(refine uN hK ?_;clear hK)|apply zI)
 refine a_loop (fun m S h'=>S 0= .imm 6 (Sx.rows l)∧S 1= .sc (.bool vars)∧ ∃ (k:Nat)(o:PV)(don:List Pm)(pen:List ByteArray),S 8= .sc (.int .i64 k)∧S 6=o∧S 7= .sc (.int .i64 don.length)∧k≤l.length∧m=l.length-k∧don.length+pen.length≤k∧Grow h h'∧Tl h' h.next 2 o (pmRows (don++pmsOf opObj pen))∧F=paramsL vars (l.drop k) don pen) l.length ?_ ?_
 ·simp only[Ty.w,simprocAttr];exact⟨0,_,[],[],rfl,rfl,rfl,by omega,rfl,by simp,Grow.refl _,Tl.nil,by rw[← hF];try rfl⟩
 ·rintro m S h' ⟨g0,g1,k,o,don,pen,g8,g6,g7,hk,rfl,hdp,hg,tl,hinv⟩;try clear zz
  clear hF;by_cases hlt:k<l.length
  ·have hd:decide ((k:Int)<(l.length:Int))=true:=(by simp;omega);have w7:IntKind.i64.wrap ((k:Int)+1)=k+1:=(by rw[wrap64 (by omega) (by omega)]);obtain⟨x,hx⟩: ∃ x,l[k]? =some x:=⟨_,List.getElem?_eq_getElem hlt⟩;have hr:=Sx.rows_get hx;have hxk:=hok x (List.mem_of_getElem? hx);have hv:=fun h:Heap=>svalid_c hxk h;have hte:=textOf_okQ hxk;rw[drop_of_get hx]at hinv;simp only[paramsL_cons,isWrd]at hinv;generalize svalid x 0 0=V at hv hinv;obtain⟨vb,vn⟩:=V;obtain⟨ki,va,li,co,te,ks⟩:=x;simp only[kindOf,textOf]at hinv hte;simp only[Sx.cells]at hr hv;have hte':te.size≤9223372036854775807:=(by unfold bigN at hte;omega);cases q1:(ki !=1)with
   |true=>
    rw[show(ki==1)=false by simpa using q1]at hinv;simp only[Bool.false_and,cond_false]at hinv;replace zz:=uu g0 (uu g1 (uu g6 (uu g7 (uu g8 (uu hll (uu hd (uu hr q1)))))));(repeat'(first|refine a_seq fun K hK=>?_|refine uR zz ?_|refine uT zz ?_|refine uK ?_|refine uC1 zz ?_|(refine uN hK ?_;clear hK)|apply zI));exact bad 2 _ (.inl rfl) hg hinv
   |false=>
    rw[show(ki==1)=true by simpa using q1]at hinv;cases vb with
    |false=>
     simp only[Bool.and_false,cond_false]at hinv;replace zz:=uu g0 (uu g1 (uu g6 (uu g7 (uu g8 (uu hll (uu hd (uu hr q1)))))));(repeat'(first|refine a_seq fun K hK=>?_|refine uR zz ?_|refine uK ?_|refine uC1 zz ?_|(refine uN hK ?_;clear hK)|apply zI));replace zz:=uu g0 (uu g1 (uu g6 (uu g7 (uu g8 (uu hll (uu hd (uu hr (uu q1 @Bool.not_false))))))));refine uU zz (hv _) ?_;replace zz:=uu g0 (uu g1 (uu g6 (uu g7 (uu g8 @Bool.not_false))));(repeat'(first|refine a_seq fun K hK=>?_|refine uR zz ?_|refine uT zz ?_|(refine uN hK ?_;clear hK)|apply zI));exact bad 2 _ (.inl rfl) hg hinv
    |true=>
     simp only[Bool.and_self,cond_true]at hinv;replace zz:=uu g0 (uu g1 (uu g6 (uu g7 (uu g8 (uu hll (uu hd (uu hr q1)))))));(repeat'(first|with_reducible refine a_hold 9 ?_|refine a_seq fun K hK=>?_|refine uR zz ?_|refine uK ?_|refine uC1 zz ?_|(refine uN hK ?_;clear hK)|apply zI));replace zz:=uu g0 (uu g1 (uu g6 (uu g7 (uu g8 (uu hll (uu hd (uu hr (uu q1 @Bool.not_true))))))));refine uU zz (hv _) ?_;replace zz:=uu g0 (uu g1 (uu g6 (uu g7 (uu g8 (uu hr @Bool.not_true)))));(repeat'(first|with_reducible refine a_hold 9 ?_|refine a_seq fun K hK=>?_|refine uR zz ?_|refine uK ?_|refine uC1 zz ?_|(refine uN hK ?_;clear hK)|apply zI));refine⟨?_⟩;refine a_gen (fun S h2=>S 0= .imm 6 (Sx.rows l)∧S 1= .sc (.bool vars)∧S 6=o∧S 7= .sc (.int .i64 don.length)∧S 8= .sc (.int .i64 k)∧S 9=sPV te∧h2=h') ?_ ?_
     ·simp only[Ty.w,simprocAttr,g0,g1,g6,g7,g8]
     (try clear zz);clear g0 g1 g6 g7 g8 hv hr q1;rintro S h' ⟨g0,g1,g6,g7,g8,g9,rfl⟩;have hrl:(pmRows (don++pmsOf opObj pen)).length=don.length+pen.length:=(by rw[pmRows_len];simp[pmsOf]);obtain⟨n,hn⟩: ∃ n,n=don.length+pen.length:=⟨_,rfl⟩;rw[← hn]at hrl;cases q2:(te.data.toList==(#[45]:Array UInt8).toList)with
     |false=>
      rw[show bEq te opMin=false from q2]at hinv;simp only[cond_false]at hinv;have hap:pmRows (don++pmsOf opObj pen)++[[.sc (.string te),.sc (.string ⟨#[111,98,106,101,99,116]⟩)]]=pmRows (don++pmsOf opObj (pen++[te])):=(by simp[pmRows,pmsOf,pmRow,opObj]);have hb:(n+1)*32≤140737488355328:=(by omega);obtain⟨H,t1,t2,t3,t4,t5⟩:=tl.tail;have hkp:=t5 h ⟨hg.le,hg.old⟩ (Nat.le_refl _);have hgH:Grow h H:=⟨hkp.1,hkp.2⟩;have fin2:Grow h (H.new (.arr 2 (pmRows (don++pmsOf opObj (pen++[te])))))∧Tl (H.new (.arr 2 (pmRows (don++pmsOf opObj (pen++[te]))))) h.next 2 (.own H.next 0 (n+1)) (pmRows (don++pmsOf opObj (pen++[te]))):=
       ⟨hgH.new _,Tl.grow hkp.1 (by rw[pmRows_len];simp[pmsOf];omega)⟩
      rw[t3]at fin2;cases vars with
      |true=>
       simp only[cond_true]at hinv;have hc:=fun h:Heap=>fvariable_c (h:=h) hte';cases v1:varB te with
       |false=>
        rw[v1]at hinv hc;simp only[cond_false]at hinv;replace zz:=uu g0 (uu g1 (uu g6 (uu g7 (uu g8 (uu g9 (uu q2 (uu @Bool.not_true @Bool.not_false)))))));(repeat'(first|refine a_seq fun K hK=>?_|refine uR zz ?_|(refine uN hK ?_;clear hK)|apply zI));replace zz:=uu g0 (uu g1 (uu g6 (uu g7 (uu g8 (uu g9 @Bool.not_false)))));refine uU zz (hc _) ?_;(repeat'(first|refine a_seq fun K hK=>?_|refine uR zz ?_|refine uT zz ?_|(refine uN hK ?_;clear hK)|apply zI));exact bad 8 _ (.inr rfl) hg hinv
       |true=>
        rw[v1]at hinv hc;simp only[cond_true]at hinv;replace zz:=uu g0 (uu g1 (uu g6 (uu g7 (uu g8 (uu g9 (uu q2 (uu @Bool.not_true @Bool.not_false)))))));(repeat'(first|refine a_seq fun K hK=>?_|refine uR zz ?_|(refine uN hK ?_;clear hK)|apply zI));replace zz:=uu g0 (uu g1 (uu g6 (uu g7 (uu g8 (uu g9 @Bool.not_true)))));refine uU zz (hc _) ?_;replace zz:=uu g0 (uu g1 (uu g6 (uu g7 (uu g8 (uu g9 (uu @Bool.not_true (uu t1 (uu t2 (uu hrl (uu hb (uu hap w7)))))))))));(repeat'(first|refine a_seq fun K hK=>?_|refine uR zz ?_|refine uK ?_|refine uX ?_|refine uC1 zz ?_|(refine uN hK ?_;clear hK)|(clear hK;refine uN hK ?_;clear hK)|(rw[if_pos];rotate_left 1;omega;simp(maxSteps:=2000000) only[Ty.w,simprocAttr,g0,g1,g6,g7,g8,g9,Bool.not_true,t1,t2,hrl,hb,hap,w7])|apply zI));exact⟨l.length-(k+1),by omega,k+1,_,don,pen++[te],by simp,rfl,rfl,by omega,rfl,by simp;omega,fin2.1,fin2.2,hinv⟩
      |false=>
       simp only[cond_false]at hinv;have hc:=fun h:Heap=>fname_c (h:=h) hte';cases v1:nameB te with
       |false=>
        rw[v1]at hinv hc;simp only[cond_false]at hinv;replace zz:=uu g0 (uu g1 (uu g6 (uu g7 (uu g8 (uu g9 (uu q2 (uu @Bool.not_true @Bool.not_false)))))));(repeat'(first|refine a_seq fun K hK=>?_|refine uR zz ?_|(refine uN hK ?_;clear hK)|apply zI));replace zz:=uu g0 (uu g1 (uu g6 (uu g7 (uu g8 (uu g9 @Bool.not_false)))));refine uU zz (hc _) ?_;(repeat'(first|refine a_seq fun K hK=>?_|refine uR zz ?_|refine uT zz ?_|(refine uN hK ?_;clear hK)|apply zI));exact bad 8 _ (.inr rfl) hg hinv
       |true=>
        rw[v1]at hinv hc;simp only[cond_true]at hinv;replace zz:=uu g0 (uu g1 (uu g6 (uu g7 (uu g8 (uu g9 (uu q2 (uu @Bool.not_true @Bool.not_false)))))));(repeat'(first|refine a_seq fun K hK=>?_|refine uR zz ?_|(refine uN hK ?_;clear hK)|apply zI));replace zz:=uu g0 (uu g1 (uu g6 (uu g7 (uu g8 (uu g9 @Bool.not_true)))));refine uU zz (hc _) ?_;replace zz:=uu g0 (uu g1 (uu g6 (uu g7 (uu g8 (uu g9 (uu @Bool.not_true (uu t1 (uu t2 (uu hrl (uu hb (uu hap w7)))))))))));(repeat'(first|refine a_seq fun K hK=>?_|refine uR zz ?_|refine uK ?_|refine uX ?_|refine uC1 zz ?_|(refine uN hK ?_;clear hK)|(clear hK;refine uN hK ?_;clear hK)|(rw[if_pos];rotate_left 1;omega;simp(maxSteps:=2000000) only[Ty.w,simprocAttr,g0,g1,g6,g7,g8,g9,Bool.not_true,t1,t2,hrl,hb,hap,w7])|apply zI));exact⟨l.length-(k+1),by omega,k+1,_,don,pen++[te],by simp,rfl,rfl,by omega,rfl,by simp;omega,fin2.1,fin2.2,hinv⟩
     |true=>
      rw[show bEq te opMin=true from q2]at hinv;simp only[cond_true]at hinv;have hsl:=tl.sl;have hlo:=hsl.len;rw[hrl]at hlo;have hlk:=hsl.lk;replace zz:=uu g0 (uu g1 (uu g6 (uu g7 (uu g8 (uu g9 (uu q2 (uu w7 @Bool.not_true)))))));(repeat'(first|with_reducible refine a_hold 14 ?_|refine a_seq fun K hK=>?_|refine uR zz ?_|refine uK ?_|refine uC1 zz ?_|(refine uN hK ?_;clear hK)|apply zI));refine⟨?_⟩;refine a_gen (fun S h2=>S 0= .imm 6 (Sx.rows l)∧S 1= .sc (.bool vars)∧S 6=o∧S 7= .sc (.int .i64 don.length)∧S 8= .sc (.int .i64 ((k:Int)+1))∧h2=h') ?_ ?_
      ·simp only[Ty.w,simprocAttr,g0,g1,g6,g7,g8]
      (try clear zz);clear g0 g1 g6 g7 g8 g9 w7;rintro S h' ⟨g0,g1,g6,g7,g8,rfl⟩;obtain⟨k1,hk1⟩: ∃ k1:Int,k1=(k:Int)+1:=⟨_,rfl⟩;rw[← hk1]at g8;cases hpe:pen.isEmpty with
      |true=>
       have hpe':pen=[]:=List.isEmpty_iff.1 hpe;have hF2:F=([],2):=by
        rw[hinv,hpe];split
        ·rfl
        ·rfl
       have hdd:((don.length:Int)==(n:Int))=true:=(by rw[hn,hpe'];simp);replace zz:=uu g0 (uu g1 (uu g6 (uu g7 (uu g8 (uu hlo (uu hlk hdd))))));(repeat'(first|refine a_seq fun K hK=>?_|refine uR zz ?_|refine uT zz ?_|(refine uN hK ?_;clear hK)|apply zI));exact bad 2 _ (.inl rfl) hg hF2
      |false=>
       rw[hpe]at hinv;simp only[Bool.not_false,Bool.true_and]at hinv;have hp0:0<pen.length:=by
        cases pen with
        |nil=>simp at hpe
        |cons _ _=>simp
       have hdd:((don.length:Int)==(n:Int))=false:=(by rw[hn];simp;omega);by_cases hl2:k+1<l.length
       ·have hd2:(k1==(l.length:Int))=false:=(by rw[hk1];simp;omega);obtain⟨y,hy⟩: ∃ y,l[k+1]? =some y:=⟨_,List.getElem?_eq_getElem hl2⟩;have hyk:=hok y (List.mem_of_getElem? hy);have hvy:=fun h:Heap=>svalid_c hyk h;have htey:=textOf_okQ hyk;rw[drop_of_get hy]at hinv;simp only at hinv;have hry:(Sx.rows l)[k1.toNat]? =some y.cells:=(by rw[hk1];exact Sx.rows_get hy);generalize svalid y 0 0=V2 at hvy hinv;obtain⟨vb2,vn2⟩:=V2;obtain⟨ki2,va2,li2,co2,te2,ks2⟩:=y;simp only[kindOf,textOf]at hinv htey;simp only[Sx.cells]at hry hvy;have hcy:=fun h:Heap=>typed_c (h:=h) htey;have hk0:(0:Int)≤k1:=(by omega);cases q3:(ki2 !=1)with
        |true=>
         rw[show(ki2==1)=false by simpa using q3]at hinv;simp only[Bool.false_and,cond_false]at hinv;replace zz:=uu g0 (uu g1 (uu g6 (uu g7 (uu g8 (uu hlo (uu hlk (uu hdd (uu hll (uu hd2 (uu hry (uu hk0 q3)))))))))));(repeat'(first|refine a_seq fun K hK=>?_|refine uR zz ?_|refine uT zz ?_|(refine uN hK ?_;clear hK)|apply zI));exact bad 2 _ (.inl rfl) hg hinv
        |false=>
         rw[show(ki2==1)=true by simpa using q3]at hinv;simp only[Bool.true_and]at hinv;cases vb2 with
         |false=>
          simp only[cond_false]at hinv;replace zz:=uu g0 (uu g1 (uu g6 (uu g7 (uu g8 (uu hlo (uu hlk (uu hdd (uu hll (uu hd2 (uu hry (uu hk0 q3)))))))))));(repeat'(first|refine a_seq fun K hK=>?_|refine uR zz ?_|apply zI));replace zz:=uu g0 (uu g1 (uu g6 (uu g7 (uu g8 (uu hry (uu hk0 @Bool.not_false))))));refine uU zz (hvy _) ?_;replace zz:=uu g0 (uu g1 (uu g6 (uu g7 (uu g8 @Bool.not_false))));(repeat'(first|refine a_seq fun K hK=>?_|refine uR zz ?_|refine uT zz ?_|(refine uN hK ?_;clear hK)|apply zI));exact bad 2 _ (.inl rfl) hg hinv
         |true=>
          simp only[cond_true]at hinv;cases v3:typedB te2 with
          |false=>
           rw[v3]at hinv hcy;simp only[cond_false]at hinv;replace zz:=uu g0 (uu g1 (uu g6 (uu g7 (uu g8 (uu hlo (uu hlk (uu hdd (uu hll (uu hd2 (uu hry (uu hk0 q3)))))))))));(repeat'(first|refine a_seq fun K hK=>?_|refine uR zz ?_|apply zI));replace zz:=uu g0 (uu g1 (uu g6 (uu g7 (uu g8 (uu hry (uu hk0 @Bool.not_true))))));refine uU zz (hvy _) ?_;(repeat'(first|refine a_seq fun K hK=>?_|refine uR zz ?_|refine uK ?_|refine uC1 zz ?_|(refine uN hK ?_;clear hK)|apply zI));replace zz:=uu g0 (uu g1 (uu g6 (uu g7 (uu g8 (uu hry (uu hk0 @Bool.not_false))))));refine uU zz (hcy _) ?_;replace zz:=uu g0 (uu g1 (uu g6 (uu g7 (uu g8 @Bool.not_false))));(repeat'(first|refine a_seq fun K hK=>?_|refine uR zz ?_|refine uT zz ?_|(refine uN hK ?_;clear hK)|apply zI));exact bad 8 _ (.inr rfl) hg hinv
          |true=>
           rw[v3]at hinv hcy;simp only[cond_true]at hinv;obtain⟨id,i1,i2,ho,i4⟩: ∃ id,h.next≤id∧id<h'.next∧o= .own id 0 n∧h'.obj id=some (.arr 2 (pmRows (don++pmsOf opObj pen))):=by
            rcases tl with⟨hn0,_⟩|⟨id,i1,i2,i3,i4⟩
            ·rw [hn0]at hrl;simp at hrl;omega
            ·rw [hrl]at i3;exact⟨id,i1,i2,i3,i4⟩
           subst ho;(try clear zz);clear tl hsl;replace zz:=uu g0 (uu g1 (uu g6 (uu g7 (uu g8 (uu hlo (uu hlk (uu hdd (uu hll (uu hd2 (uu hry (uu hk0 q3)))))))))));(repeat'(first|refine a_seq fun K hK=>?_|refine uR zz ?_|apply zI));replace zz:=uu g0 (uu g1 (uu g6 (uu g7 (uu g8 (uu hry (uu hk0 @Bool.not_true))))));refine uU zz (hvy _) ?_;(repeat'(first|refine a_seq fun K hK=>?_|refine uR zz ?_|refine uK ?_|refine uC1 zz ?_|(refine uN hK ?_;clear hK)|apply zI));refine uU zz (hcy _) ?_;(repeat'(first|refine a_block ?_|refine uK ?_|refine uC1 zz ?_|(refine uN hK ?_;clear hK)|apply zI));refine a_loop (fun m S h2=>S 0= .imm 6 (Sx.rows l)∧S 1= .sc (.bool vars)∧S 8= .sc (.int .i64 k1)∧S 6= .own id 0 n∧ ∃ j:Nat,S 7= .sc (.int .i64 ((don.length+j:Nat):Int))∧j≤pen.length∧m=pen.length-j∧Grow h h2∧h2.next=h'.next∧h2.obj id=some (.arr 2 (pmRows (don++pmsOf te2 (pen.take j)++pmsOf opObj (pen.drop j))))) pen.length ?_ ?_
           ·simp only[Ty.w,simprocAttr,g0,g1,g6,g7,g8];exact⟨0,by simp,by omega,rfl,hg,by simpa[pmsOf]using i4⟩
           ·(try clear zz);clear g0 g1 g6 g7 g8 i4;rintro m S h2 ⟨g0,g1,g8,g6,j,g7,hj,rfl,hg2,hn2,ob⟩;by_cases hjl:j<pen.length
            ·obtain ⟨q,hqn⟩: ∃ q,q=don.length+j:=⟨_,rfl⟩;obtain⟨s,hs⟩: ∃ s,pen[j]? =some s:=⟨_,List.getElem?_eq_getElem hjl⟩;obtain⟨hp1,hp2⟩:=pms_step (don:=don) (t:=te2) hs;rw[← hqn]at g7 hp1 hp2;have hdj:decide ((q:Int)<(n:Int))=true:=(by simp;omega);have wj:IntKind.i64.wrap ((q:Int)+1)=((q+1:Nat):Int):=(by rw[wrap64 (by omega) (by omega)];try rfl);have hjl2:q<n:=(by omega);generalize hR:pmRows (don++pmsOf te2 (pen.take j)++pmsOf opObj (pen.drop j))=R at ob hp1 hp2;replace zz:=uu g0 (uu g1 (uu g6 (uu g7 (uu g8 (uu hdj (uu wj (uu hry (uu hk0 (uu ob (uu hp1 (uu hp2 hjl2)))))))))));(repeat'(first|refine a_seq fun K hK=>?_|refine a_block ?_|refine uR zz ?_|refine uQ zz fun K hK=>?_|refine uK ?_|refine uC1 zz ?_|(refine uN hK ?_;clear hK)|apply zI));refine⟨pen.length-(j+1),by omega,j+1,by rw[hqn];try rfl,by omega,rfl,hg2.set i1 _,hn2,?_⟩;try simp[Heap.set]
            ·have hje:j=pen.length:=(by omega);subst hje;rw[← hn]at g7;have hdj:decide ((n:Int)<(n:Int))=false:=(by simp);have w8:IntKind.i64.wrap (k1+1)=((k+2:Nat):Int):=(by rw[hk1,wrap64 (by omega) (by omega)];omega);rw[List.take_length,List.drop_length]at ob;have hz:pmRows (don++pmsOf te2 pen++pmsOf opObj [])=pmRows (don++pmsOf te2 pen):=(by simp[pmsOf]);rw[hz]at ob;replace zz:=uu g0 (uu g1 (uu g6 (uu g7 (uu g8 (uu hdj w8)))));(repeat'(first|refine a_seq fun K hK=>?_|refine uR zz ?_|refine uX ?_|refine uC1 zz ?_|(refine uN hK ?_;clear hK)|(clear hK;refine uN hK ?_;clear hK)|apply zI));refine⟨l.length-(k+2),by omega,k+2,_,don++pmsOf te2 pen,[],rfl,rfl,by rw[hn];simp[pmsOf],by omega,rfl,by simp[pmsOf];omega,hg2,?_,hinv⟩;refine .inr ⟨id,i1,by omega,?_,?_⟩
             ·rw [pmRows_len,hn];simp[pmsOf]
             ·rw [ob];simp[pmsOf]
       ·have hke:k+1=l.length:=(by omega);have hd2:(k1==(l.length:Int))=true:=(by rw[hk1];simp;omega);rw[List.drop_eq_nil_of_le (by omega)]at hinv;simp only at hinv;replace zz:=uu g0 (uu g1 (uu g6 (uu g7 (uu g8 (uu hlo (uu hlk (uu hdd (uu hll hd2))))))));(repeat'(first|refine a_seq fun K hK=>?_|refine uR zz ?_|refine uT zz ?_|(refine uN hK ?_;clear hK)|apply zI));exact bad 2 _ (.inl rfl) hg hinv
  ·have hd:decide ((k:Int)<(l.length:Int))=false:=(by simp;omega);rw[List.drop_eq_nil_of_le (by omega)]at hinv;simp only[paramsL]at hinv;subst hinv;replace zz:=uu g0 (uu g1 (uu g6 (uu g7 (uu g8 (uu hll hd)))));(repeat'(first|refine a_seq fun K hK=>?_|refine uR zz ?_|refine uT zz ?_|refine uX ?_|refine uC1 zz ?_|(refine uN hK ?_;clear hK)|(clear hK;refine uN hK ?_;clear hK)|apply zI));have e2:errP 0= .sc .nilIface:=rfl;simp only[e2];refine⟨?_,hg⟩;have h1:=pms_frzP tl;unfold FrzTo;refine⟨_,rfl,?_⟩;unfold FrzL;refine⟨h1,?_⟩;unfold FrzL;exact⟨by simp only[FrzTo],by simp only[FrzL]⟩
end Go.Proofs.YtjeolbgpllbemaaGreat
namespace Go.AM
theorem obj_new{h:Heap}{o:AObj}{j:Nat}(hj:j<h.next):(h.new o).obj j=h.obj j:=by
 simp only[Heap.new];rw[if_neg (by omega)]
theorem obj_kill{h:Heap}{id j:Nat}(hj:j≠id):(h.kill id).obj j=h.obj j:=by
 simp only[Heap.kill];rw[if_neg hj]
theorem obj_set{h:Heap}{o:AObj}{id j:Nat}(hj:j≠id):(h.set id o).obj j=h.obj j:=by
 simp only[Heap.set];rw[if_neg hj]
theorem obj_at{h:Heap}{o:AObj}{id:Nat}:(h.set id o).obj id=some o:=by simp only[Heap.set,if_true]
theorem obj_lit{h:Heap}{a b:AObj}{j:Nat}(hj:j<h.next):(((h.new a).kill h.next).new b).obj j=h.obj j:=
 (obj_new (show j<h.next+1 by omega)).trans ((obj_kill (by omega)).trans (obj_new hj))
def tmpH(h:Heap)(o o':AObj):Heap:=below h.next ((h.new o).set h.next o')
theorem tmpH_next{h:Heap}{o o':AObj}:(tmpH h o o').next=h.next+1:=rfl
theorem tmpH_obj{h:Heap}{o o':AObj}{j:Nat}(hj:j<h.next):(tmpH h o o').obj j=h.obj j:=by
 simp only[tmpH,below,Heap.set,Heap.new];rw[if_pos hj,if_neg (by omega),if_neg (by omega)]
theorem a_tmp{P:Program}{ow:Nat→Bool}{wf:FuncId→Bool}{m z:Nat}{c:Code}{Q:Post}{s:Slots}{h:Heap}{o:AObj}{cells:List PV}(t:Nat)(hc:startsR c=true)(hs:s t= .ptr h.next 0 0)(hf: ∀ n H,FrzL n H cells cells)
  (hw:awp P ow wf m c Q (upd s t (.cptr cells)) (tmpH h o (.arr z [cells]))):awp P ow wf m c Q s ((h.new o).set h.next (.arr z [cells])):=by
 refine a_drop h.next [(t,.cptr cells)] hc (by simp[Heap.new,Heap.set]) ?_ hw
 intro x hx;simp only[List.mem_cons,List.not_mem_nil,or_false]at hx;subst hx;simp only[hs,FrzTo];exact .inr ⟨h.next,0,0,z,[cells],cells,rfl,Nat.le_refl _,by simp[Heap.set],rfl,hf _ _⟩
theorem Grow.tmp{h h':Heap}(g:Grow h h')(o o':AObj):Grow h (tmpH h' o o'):=
 ⟨by rw[tmpH_next];have:=g.le;omega,fun id hid=>by rw[tmpH_obj (by have:=g.le;omega)];exact g.old id hid⟩
theorem Tl.tmp{h:Heap}{lo z:Nat}{p:PV}{R:List (List PV)}(t:Tl h lo z p R)(o o':AObj):Tl (tmpH h o o') lo z p R:=t.up (by rw[tmpH_next];omega) fun j _ hj=>tmpH_obj hj
theorem Tl.cell{h:Heap}{lo z:Nat}{p:PV}{R:List (List PV)}(t:Tl h lo z p R):p.cells=[p]∧oneC p=true:=by
 rcases t with⟨_,rfl|rfl⟩|⟨_,_,_,rfl,_⟩<;>exact⟨rfl,rfl⟩
theorem Tl.mid{h:Heap}{lo z:Nat}{p:PV}{R:List (List PV)}(t:Tl h lo z p R){id:Nat}(hid:id<lo)(o:AObj):Tl (h.set id o) lo z p R:=t.up (Nat.le_refl _) fun j hj _=>by simp only[Heap.set];rw[if_neg (by omega)]
theorem Tl.frzR{h:Heap}{id0 z:Nat}{p:PV}{rows:List (List PV)}(t:Tl h id0 z p rows){n:Nat}(hn:n≤id0)(hr:FrzR n h rows rows):FrzTo n h (.imm z rows) p:=by
 simp only[FrzTo];rcases t with⟨h1,h2⟩|⟨id,h1,h2,rfl,ho⟩
 ·exact .inr (.inl ⟨h1,h2.symm⟩)
 ·refine .inr (.inr ⟨id,0,_,_,rfl,by omega,ho,by omega,?_⟩);rw[List.drop_zero,List.take_of_length_le (by omega)];exact hr
theorem isTail_keep{h0 h H:Heap}{lo z j:Nat}{p:PV}{R R2:List (List PV)}(t:Tl h0 lo z p R)(t1:isTail h p=some (H,R2))(hj:h0.next≤j):H.obj j=h.obj j:=by
 rcases t with⟨_,rfl|rfl⟩|⟨id,b1,b2,rfl,b3⟩
 ·simp only[isTail,Option.some.injEq,Prod.mk.injEq]at t1;rw[← t1.1]
 ·simp only[isTail,Option.some.injEq,Prod.mk.injEq]at t1;rw[← t1.1]
 ·unfold isTail at t1;simp only at t1;split at t1
  ·split at t1
   ·simp only[Option.some.injEq,Prod.mk.injEq]at t1;rw[← t1.1];exact obj_kill (by omega)
   ·cases t1
  ·cases t1
structure GrI(h:Heap)(ir io lo zr zo zl:Nat)(Z pre post:List PV)(R:List (List PV))(h':Heap):Prop where
 grow:Grow h h'
 ids:h.next≤ir∧h.next≤io∧ir<lo∧io<lo∧lo≤h'.next∧ir≠io
 ores:h'.obj ir=some (.arr zr [Z])
 ex: ∃ p H,h'.obj io=some (.arr zo [pre++p::post])∧Tl h' lo zl p R∧isTail h' p=some (H,R)∧zOk h' zl p=true∧H.next=h'.next∧(∀ j,j<lo→H.obj j=h'.obj j)∧Grow h H∧p.cells=[p]∧oneC p=true
theorem GrI.mk2{h h':Heap}{ir io lo zr zo zl:Nat}{Z pre post:List PV}{R:List (List PV)}{p:PV}(g:Grow h h')(ids:h.next≤ir∧h.next≤io∧ir<lo∧io<lo∧lo≤h'.next∧ir≠io)(o1:h'.obj ir=some (.arr zr [Z]))(o2:h'.obj io=some (.arr zo [pre++p::post]))(tl:Tl h' lo zl p R):
  GrI h ir io lo zr zo zl Z pre post R h':=by
 obtain⟨H,t1,t2,t3,t4,t5⟩:=tl.tail;have hk:=t5 h ⟨g.le,g.old⟩ (by omega);exact⟨g,ids,o1,p,H,o2,tl,t1,t2,t3,t4,⟨hk.1,hk.2⟩,tl.cell.1,tl.cell.2⟩
theorem GrI.tmp{h h':Heap}{ir io lo zr zo zl:Nat}{Z pre post:List PV}{R:List (List PV)}(i:GrI h ir io lo zr zo zl Z pre post R h')(o o':AObj):GrI h ir io lo zr zo zl Z pre post R (tmpH h' o o'):=by
 obtain⟨g,ids,o1,p,H,o2,tl,_⟩:=i;exact .mk2 (g.tmp o o') ⟨ids.1,ids.2.1,ids.2.2.1,ids.2.2.2.1,by rw[tmpH_next];omega,ids.2.2.2.2.2⟩ (by rw[tmpH_obj (by omega)];exact o1) (by rw[tmpH_obj (by omega)];exact o2) (tl.tmp o o')
theorem GrI.push{h h' H:Heap}{ir io lo zr zo zl m:Nat}{Z pre post:List PV}{R:List (List PV)}(X:List PV)(g:Grow h H)(ids:h.next≤ir∧h.next≤io∧ir<lo∧io<lo∧lo≤h'.next∧ir≠io)(o1:h'.obj ir=some (.arr zr [Z]))(t3:H.next=h'.next)(t4: ∀ j,j<lo→H.obj j=h'.obj j)(hm:m=R.length+1):
  GrI h ir io lo zr zo zl Z pre post (R++[X]) ((H.new (.arr zl (R++[X]))).set io (.arr zo [pre++ .own h'.next 0 m::post])):=by
 obtain⟨i1,i2,i3,i4,i5,i6⟩:=ids;refine GrI.mk2 (p:= .own h'.next 0 m) ((g.new _).set i2 _) ⟨i1,i2,i3,i4,by simp only[Heap.set,Heap.new];omega,i6⟩ ?_ ?_ ?_
 ·simp only[Heap.set,Heap.new];rw[if_neg i6,if_neg (by omega),t4 _ i3];exact o1
 ·simp only[Heap.set,if_true]
 ·rw [← t3];have:Tl (H.new (.arr zl (R++[X]))) lo zl (.own H.next 0 m) (R++[X]):=Tl.grow (by omega) (by rw[hm];simp);exact this.up (Nat.le_refl _) (fun j hj _=>by simp only[Heap.set];rw[if_neg (by omega)])
def Gv(X z:Nat)(R:List (List PV))(p q:PV):Prop:=p=q∨(p= .own X 0 R.length∧q= .imm z R)
def GvL(X z:Nat)(R:List (List PV)):List PV→List PV→Prop
 |[],[]=>True
 |p::ps,q::qs=>Gv X z R p q∧GvL X z R ps qs
 |_,_=>False
def GvR(X z:Nat)(R:List (List PV)):List (List PV)→List (List PV)→Prop
 |[],[]=>True
 |p::ps,q::qs=>GvL X z R p q∧GvR X z R ps qs
 |_,_=>False
theorem GvL.refl{X z:Nat}{R:List (List PV)}: ∀ l:List PV,GvL X z R l l
 |[]=>trivial
 |_::l=>⟨.inl rfl,GvL.refl l⟩
theorem GvR.snoc{X z:Nat}{R:List (List PV)}{r r':List PV}(h:GvL X z R r r'): ∀ l:List (List PV),GvR X z R (l++[r]) (l++[r'])
 |[]=>⟨h,trivial⟩
 |a::l=>⟨GvL.refl a,GvR.snoc h l⟩
theorem GvL.len{X z:Nat}{R:List (List PV)}: ∀ l l':List PV,GvL X z R l l'→l.length=l'.length
 |[],[],_=>rfl
 |[],_::_,h=>h.elim
 |_::_,[],h=>h.elim
 |_::l,_::l',h=>by simp only[List.length_cons,GvL.len l l' h.2]
theorem GvR.len{X z:Nat}{R:List (List PV)}: ∀ l l':List (List PV),GvR X z R l l'→l.length=l'.length
 |[],[],_=>rfl
 |[],_::_,h=>h.elim
 |_::_,[],h=>h.elim
 |_::l,_::l',h=>by simp only[List.length_cons,GvR.len l l' h.2]
section
variable {β:Env}{h:Heap}{w:World}{X z:Nat}{R:List (List PV)}{F':Nat→Prop}
theorem Gv.rep(sm:Sim β h w)(hX:h.obj X=some (.arr z R))(mv:Mv β h.next (Fz β h w) w β h.next F' w)(hB: ∀ b,(β X).b=some b→F' b){p q:PV}{x:Value}(hg:Gv X z R p q)(hr:Rep β h.next (Fz β h w) w p x):Rep β h.next F' w q x:=by
 rcases hg with rfl|⟨rfl,rfl⟩
 ·exact Rep.mv mv _ _ hr
 ·simp only[Rep]at hr⊢;obtain⟨_,a,cap,rfl,h1,h2,h3⟩:=hr;refine⟨a,cap,rfl,h1,h2,?_⟩;rcases h3 with h3|⟨b,g1,g2,g3⟩
  ·exact .inl (List.eq_nil_of_length_eq_zero (by omega))
  ·have hok:=sm.ok X _ hX;simp only[ObjOk]at hok;obtain⟨hz,hok⟩:=hok;rcases hok with⟨k1,_⟩|⟨b',c,e,fr,k1,k2,k3,k4,k5,k6⟩
   ·rw [k1]at g1;cases g1
   ·rw [k1]at g1;simp only[Option.some.injEq]at g1;subst g1;exact .inr ⟨b',_,hB b' k1,g2,by simpa using RepR.mvb mv rfl z R _ k6⟩
theorem GvL.rep(sm:Sim β h w)(hX:h.obj X=some (.arr z R))(mv:Mv β h.next (Fz β h w) w β h.next F' w)(hB: ∀ b,(β X).b=some b→F' b): ∀ (l l':List PV)(b o:Nat),GvL X z R l l'→RepS β h.next (Fz β h w) w l b o→RepS β h.next F' w l' b o
 |[],[],_,_,_,_=>by simp only[RepS]
 |[],_::_,_,_,h,_=>h.elim
 |_::_,[],_,_,h,_=>h.elim
 |p::l,q::l',b,o,hg,hr=>by
  simp only[RepS]at hr⊢;obtain⟨⟨v,h1,h2,h3⟩,h4⟩:=hr;exact⟨⟨v,h1,h2,Gv.rep sm hX mv hB hg.1 h3⟩,GvL.rep sm hX mv hB l l' b (o+1) hg.2 h4⟩
theorem GvR.rep(sm:Sim β h w)(hX:h.obj X=some (.arr z R))(mv:Mv β h.next (Fz β h w) w β h.next F' w)(hB: ∀ b,(β X).b=some b→F' b)(zY:Nat): ∀ (l l':List (List PV))(b o:Nat),GvR X z R l l'→RepR β h.next (Fz β h w) w zY l b o→RepR β h.next F' w zY l' b o
 |[],[],_,_,_,_=>by simp only[RepR]
 |[],_::_,_,_,h,_=>h.elim
 |_::_,[],_,_,h,_=>h.elim
 |p::l,q::l',b,o,hg,hr=>by
  simp only[RepR]at hr⊢;obtain⟨⟨h1,h2⟩,h3⟩:=hr;exact⟨⟨by rw[← GvL.len _ _ hg.1];exact h1,GvL.rep sm hX mv hB p q b o hg.1 h2⟩,GvR.rep sm hX mv hB zY l l' b (o+zY) hg.2 h3⟩
end
def giveH(h:Heap)(X Y zY:Nat)(R':List (List PV)):Heap:=(h.kill X).set Y (.arr zY R')
theorem Wk.give{s:Slots}{h:Heap}{X Y z zY:Nat}{R RY RY':List (List PV)}(hX:h.obj X=some (.arr z R))(hY:h.obj Y=some (.arr zY RY))(hne:X≠Y)(hg:GvR X z R RY RY'):Wk s h s (giveH h X Y zY RY'):=by
 intro β w sm;have ho: ∀ j,(giveH h X Y zY RY').obj j=if j=Y then some (.arr zY RY')else if j=X then none else h.obj j:=fun j=>rfl
 have hsome: ∀ id,((giveH h X Y zY RY').obj id).isSome=true→id≠X∧(h.obj id).isSome=true:=fun id hid=>by
  rw[ho]at hid;split at hid
  ·rename_i e;subst e;exact⟨fun e=>hne e.symm,by rw[hY];try rfl⟩
  ·split at hid
   ·simp at hid
   ·exact ⟨by assumption,hid⟩
 have hF: ∀ b,Fz β h w b→Fz β (giveH h X Y zY RY') w b:=fun b hb=>⟨hb.1,fun id hid=>hb.2.1 id (hsome id hid).2,hb.2.2⟩;have hsX:(h.obj X).isSome=true:=by rw[hX];try rfl
 have hB: ∀ b,(β X).b=some b→Fz β (giveH h X Y zY RY') w b:=fun b hb=>
  ⟨sm.blk_lt hX hb,fun j hj hjb=>(hsome j hj).1 (sm.inj j X (hsome j hj).2 hsX b hjb hb),sm.nx X hsX b hb⟩
 have mv:Mv β h.next (Fz β h w) w β h.next (Fz β (giveH h X Y zY RY') w) w:=⟨Nat.le_refl _,fun _ _ _=>rfl,fun b hb=>⟨hF b hb,rfl⟩⟩
 refine⟨⟨fun id hid=>sm.lt id (hsome id hid).2,fun id o hoo=>?_,fun i j hi hj=>sm.inj i j (hsome i hi).2 (hsome j hj).2,sm.xs,fun id hid=>sm.nx id (hsome id hid).2⟩,
  ⟨rfl,rfl,rfl,Nat.le_refl _,Nat.le_refl _,fun _ _=>rfl,rfl,fun _ _ _=>rfl,fun b hb=>⟨hF b hb,rfl⟩⟩,fun t x hr=>Rep.mv mv _ _ hr⟩
 rw[ho]at hoo;split at hoo
 ·rename_i e;subst e;simp only[Option.some.injEq]at hoo;subst hoo;have hok:=sm.ok id _ hY;simp only[ObjOk]at hok⊢;refine⟨hok.1,?_⟩;rcases hok.2 with⟨k1,k2⟩|⟨b,c,e,fr,k1,k2,k3,k4,k5,k6⟩
  ·left;refine⟨k1,?_⟩;have:=hg.len;rw[k2]at this;exact List.eq_nil_of_length_eq_zero this.symm
  ·exact .inr ⟨b,c,e,fr,k1,k2,k3,by rw[← hg.len];exact k4,k5,GvR.rep sm hX mv hB zY RY RY' b _ hg k6⟩
 ·split at hoo
  ·cases hoo
  ·exact ObjOk.mv mv (fun _ _=>rfl) (sm.ok id o hoo)
theorem a_give{P:Program}{ow:Nat→Bool}{wf:FuncId→Bool}{m:Nat}{c:Code}{Q:Post}{s:Slots}{h:Heap}{X Y z zY:Nat}{R RY:List (List PV)}(RY':List (List PV))(hc:startsR c=true)(hX:h.obj X=some (.arr z R))(hY:h.obj Y=some (.arr zY RY))(hne:X≠Y)(hg:GvR X z R RY RY')
  (hw:awp P ow wf m c Q s (giveH h X Y zY RY')):awp P ow wf m c Q s h:=a_weak hc (Wk.give hX hY hne hg) hw
def GrJ(h:Heap)(ir io lo zr zo zl:Nat)(Z pre post:List PV)(R':List (List PV))(H:Heap):Prop:=
 ∃ X Y z RX R,Grow h H∧(h.next≤ir∧h.next≤io∧ir<lo∧io<lo∧lo≤H.next∧ir≠io)∧H.obj ir=some (.arr zr [Z])∧H.obj io=some (.arr zo [pre++ .own Y 0 R.length::post])∧
  H.obj Y=some (.arr zl R)∧H.obj X=some (.arr z RX)∧X≠Y∧lo≤X∧lo≤Y∧Y<H.next∧GvR X z RX R R'
theorem GrJ.push{h H3:Heap}{ir io lo zr zo zl X Y z m:Nat}{Z pre post r r':List PV}{RX R R':List (List PV)}(g:Grow h H3)(ids:h.next≤ir∧h.next≤io∧ir<lo∧io<lo∧lo≤H3.next∧ir≠io)(o1:H3.obj ir=some (.arr zr [Z]))(oX:H3.obj X=some (.arr z RX))(hx:lo≤X)(hxn:X<H3.next)
  (hY:H3.next=Y)(hm:m=R.length+1)(hr:R'=R++[r'])(hg:GvL X z RX r r'):GrJ h ir io lo zr zo zl Z pre post R' ((H3.new (.arr zl (R++[r]))).set io (.arr zo [pre++ .own Y 0 m::post])):=by
 subst hY;subst hr;obtain⟨i1,i2,i3,i4,i5,i6⟩:=ids;refine⟨X,H3.next,z,RX,R++[r],(g.new _).set i2 _,⟨i1,i2,i3,i4,show lo≤H3.next+1 by omega,i6⟩,?_,?_,?_,?_,by omega,hx,i5,show H3.next<H3.next+1 by omega,GvR.snoc hg R⟩
 ·rw [obj_set i6,obj_new (by omega)];exact o1
 ·rw [obj_at,hm];simp
 ·rw [obj_set (by omega)];simp only[Heap.new,if_true]
 ·rw [obj_set (by omega),obj_new hxn];exact oX
theorem a_giveO{P:Program}{ow:Nat→Bool}{wf:FuncId→Bool}{m:Nat}{c:Code}{Q:Post}{s:Slots}{h H:Heap}{ir io lo zr zo zl:Nat}{Z pre post:List PV}{R':List (List PV)}(hc:startsR c=true)
  (hI:GrI h ir io lo zr zo zl Z pre post R' H∨GrJ h ir io lo zr zo zl Z pre post R' H)(hw: ∀ H',GrI h ir io lo zr zo zl Z pre post R' H'→awp P ow wf m c Q s H'):awp P ow wf m c Q s H:=by
 rcases hI with hI|⟨X,Y,z,RX,R,g,ids,o1,o2,oY,oX,hne,hx,hy,hyn,hg⟩
 ·exact hw _ hI
 ·refine a_give R' hc oX oY hne hg (hw _ ?_);have ho: ∀ j,j<lo→(giveH H X Y zl R').obj j=H.obj j:=fun j hj=>by
   simp only[giveH,Heap.set,Heap.kill];rw[if_neg (by omega),if_neg (by omega)]
  refine GrI.mk2 (p:= .own Y 0 R.length) ⟨g.le,fun j hj=>by rw[ho j (by omega)];exact g.old j hj⟩ ids (by rw[ho _ ids.2.2.1];exact o1) (by rw[ho _ ids.2.2.2.1];exact o2) (.inr ⟨Y,hy,hyn,by rw[hg.len],?_⟩);simp only[giveH,Heap.set,if_true]
theorem Tl.old{h H:Heap}{lo z:Nat}{p:PV}{R:List (List PV)}(t:Tl h lo z p R)(g:Grow h H):Tl H lo z p R:=t.up g.le fun j _ hj=>g.old j hj
theorem GrI.up{h H H':Heap}{ir io lo zr zo zl:Nat}{Z pre post:List PV}{R:List (List PV)}(i:GrI h ir io lo zr zo zl Z pre post R H)(g:Grow H H'):GrI h ir io lo zr zo zl Z pre post R H':=by
 obtain⟨g0,ids,o1,p,Hk,o2,tl,_⟩:=i;exact .mk2 (g0.trans g) ⟨ids.1,ids.2.1,ids.2.2.1,ids.2.2.2.1,Nat.le_trans ids.2.2.2.2.1 g.le,ids.2.2.2.2.2⟩ (by rw[g.old _ (by omega)];exact o1) (by rw[g.old _ (by omega)];exact o2) (tl.old g)
structure GrV(h:Heap)(io lo zo zl:Nat)(pre post:List PV)(R:List (List PV))(H:Heap):Prop where
 grow:Grow h H
 ids:h.next≤io∧h.next≤lo∧io<H.next
 ex: ∃ p Hk,H.obj io=some (.arr zo [pre++p::post])∧Tl H lo zl p R∧isTail H p=some (Hk,R)∧zOk H zl p=true∧Hk.next=H.next∧Hk.obj io=H.obj io∧Grow h Hk∧p.cells=[p]∧oneC p=true
theorem GrV.mk2{h H:Heap}{io lo zo zl:Nat}{pre post:List PV}{R:List (List PV)}{p:PV}(g:Grow h H)(ids:h.next≤io∧h.next≤lo∧io<H.next)(o2:H.obj io=some (.arr zo [pre++p::post]))(tl:Tl H lo zl p R)(sep: ∀ id,p= .own id 0 R.length→id≠io):
  GrV h io lo zo zl pre post R H:=by
 obtain⟨Hk,t1,t2,t3,t4,t5⟩:=tl.tail;have hk:=t5 h ⟨g.le,g.old⟩ ids.2.1;refine⟨g,ids,p,Hk,o2,tl,t1,t2,t3,?_,⟨hk.1,hk.2⟩,tl.cell.1,tl.cell.2⟩;rcases tl with⟨_,rfl|rfl⟩|⟨id,b1,b2,rfl,b3⟩
 ·simp only[isTail,Option.some.injEq,Prod.mk.injEq]at t1;rw[← t1.1]
 ·simp only[isTail,Option.some.injEq,Prod.mk.injEq]at t1;rw[← t1.1]
 ·have:=sep id rfl;simp only[isTail,b3]at t1;split at t1
  ·simp only[Option.some.injEq,Prod.mk.injEq]at t1;rw[← t1.1];exact obj_kill (by omega)
  ·cases t1
theorem GrV.tmp{h H:Heap}{io lo zo zl:Nat}{pre post:List PV}{R:List (List PV)}(i:GrV h io lo zo zl pre post R H)(o o':AObj):GrV h io lo zo zl pre post R (tmpH H o o'):=by
 obtain⟨g,ids,p,Hk,o2,tl,t1,t2,t3,t4,t5,t6,t7⟩:=i;refine .mk2 (p:=p) (g.tmp o o') ⟨ids.1,ids.2.1,by rw[tmpH_next];omega⟩ (by rw[tmpH_obj ids.2.2];exact o2) (tl.tmp o o') ?_;rintro id rfl;rintro rfl;rcases tl with⟨_,h1|h1⟩|⟨id,b1,b2,h1,b3⟩
 ·cases h1
 ·cases h1
 ·simp only[PV.own.injEq]at h1;obtain⟨rfl,_⟩:=h1;simp only[isTail,b3]at t1;split at t1
  ·simp only[Option.some.injEq,Prod.mk.injEq]at t1;rw[← t1.1]at t4;simp only[Heap.kill,if_true]at t4;rw[o2]at t4;cases t4
  ·cases t1
theorem GrV.push{h H Hk:Heap}{io lo zo zl m:Nat}{pre post:List PV}{R:List (List PV)}(X:List PV)(g:Grow h Hk)(ids:h.next≤io∧h.next≤lo∧io<H.next)(hlo:lo≤H.next)(t3:Hk.next=H.next)(hm:m=R.length+1):
  GrV h io lo zo zl pre post (R++[X]) ((Hk.new (.arr zl (R++[X]))).set io (.arr zo [pre++ .own H.next 0 m::post])):=by
 refine GrV.mk2 (p:= .own H.next 0 m) ((g.new _).set ids.1 _) ⟨ids.1,ids.2.1,show io<Hk.next+1 by omega⟩ obj_at ?_ ?_
 ·rw [← t3];exact .inr ⟨Hk.next,by omega,Nat.lt_succ_self _,by rw[hm];simp,by rw[obj_set (by omega)];simp only[Heap.new,if_true]⟩
 ·intro id he;simp only[PV.own.injEq]at he;omega
theorem below_grow{h H:Heap}(g:Grow h H):Grow h (below h.next H):=⟨g.le,fun j hj=>by simp only[below];rw[if_pos hj];exact g.old j hj⟩
theorem a_dropV{P:Program}{ow:Nat→Bool}{wf:FuncId→Bool}{m:Nat}{c:Code}{Q:Post}{s:Slots}{h H:Heap}{io lo zo zl:Nat}{pre post:List PV}{R:List (List PV)}(t:Nat)(hc:startsR c=true)(i:GrV h io lo zo zl pre post R H)(hs:s t= .ptr io 0 0)(hR: ∀ n H,FrzR n H R R)(h1: ∀ n H p q,FrzTo n H p q→FrzL n H (pre++p::post) (pre++q::post))
  (hw:awp P ow wf m c Q (upd s t (.cptr (pre++ .imm zl R::post))) (below h.next H)):awp P ow wf m c Q s H:=by
 obtain⟨g,ids,p,Hk,o2,tl,_⟩:=i;refine a_drop h.next [(t,.cptr (pre++ .imm zl R::post))] hc g.le ?_ hw
 intro x hx;simp only[List.mem_cons,List.not_mem_nil,or_false]at hx;subst hx;simp only[hs,FrzTo];exact .inr ⟨io,0,0,zo,_,_,rfl,ids.1,o2,rfl,h1 _ _ _ _ (tl.frzR ids.2.1 (hR _ _))⟩
end Go.AM
namespace Go.Proofs.YtjeolbgpllbemaaGreat
open Go.AM
theorem a_holdR{P:Program}{ow:Nat→Bool}{wf:FuncId→Bool}{n:Nat}{Q:Post}{s:Slots}{h:Heap}(id:Nat){ops:Array Oper}{d:Bool}{y:Code}(hh:Hold (awp P ow wf n (.seq (.region id ops d) y) Q s h)):awp P ow wf n (.seq (.region id ops d) y) Q s h:=hh.out
theorem a_holdB{P:Program}{ow:Nat→Bool}{wf:FuncId→Bool}{n:Nat}{Q:Post}{s:Slots}{h:Heap}(id:Nat){ops:Array Oper}{d:Bool}(hh:Hold (awp P ow wf n (.region id ops d) Q s h)):awp P ow wf n (.region id ops d) Q s h:=hh.out
end Go.Proofs.YtjeolbgpllbemaaGreat
namespace Go.AM
section
variable {P:Program}{ow:Nat→Bool}{n:Nat}{ops:List Oper}{I K:Slots→Heap→Prop}
theorem lwp_cut: ∀ (l:List Oper)(k:Nat){s:Slots}{h:Heap},lwp P ow n ops (l.take k) I s h→(∀ s h,I s h→lwp P ow n ops (l.drop k) K s h)→lwp P ow n ops l K s h
 |[],k,s,h,h1,hk=>by
  rw[List.take_nil]at h1;have:=hk s h (by simpa only[lwp]using h1)
  rwa [List.drop_nil]at this
 |o::rest,0,s,h,h1,hk=>hk s h (by simpa only[lwp,List.take_zero]using h1)
 |o::rest,k+1,s,h,h1,hk=>by
  rw[List.take_succ_cons]at h1;simp only[lwp]at h1⊢;refine⟨h1.1,?_⟩;have h3:=h1.2;try clear zz
  clear h1;cases hw:wantedB ops s o with
  |none=>rw[hw]at h3;exact h3
  |some b=>
   rw[hw]at h3;simp only at h3⊢;split at h3
   ·rename_i hb;rw[if_pos hb];exact owp_mono (fun s h hh=>lwp_cut rest k hh hk) h3
   ·rename_i hb;rw[if_neg hb];exact lwp_cut rest k h3 hk
theorem lwn_cutl: ∀ (l:List Oper)(k:Nat){s:Slots}{h:Heap},lwn P ow n ops (l.take k) I s h→(∀ s h,I s h→lwn P ow n ops (l.drop k) K s h)→lwn P ow n ops l K s h
 |[],k,s,h,h1,hk=>by
  rw[List.take_nil]at h1;have:=hk s h (by simpa only[lwn]using h1)
  rwa [List.drop_nil]at this
 |o::rest,0,s,h,h1,hk=>hk s h (by simpa only[lwn,List.take_zero]using h1)
 |o::rest,k+1,s,h,h1,hk=>by
  rw[List.take_succ_cons]at h1;simp only[lwn]at h1⊢;refine⟨h1.1,?_⟩;have h3:=h1.2;try clear zz
  clear h1;cases hw:wantedB ops s o with
  |none=>rw[hw]at h3;exact h3
  |some b=>
   rw[hw]at h3;simp only at h3⊢;split at h3
   ·rename_i hb;rw[if_pos hb];cases hc:callee (pev s) o.op with
    |none=>
     rw[hc]at h3;simp only at h3⊢;cases he:eff P (o.dst.any ow) o.op (pev s) h with
     |none=>rw[he]at h3;exact h3
     |some r=>
      rw[he]at h3;exact lwn_cutl rest k h3 hk
    |some f=>
     rw[hc]at h3;simp only at h3⊢;exact owp_mono (fun s h hh=>lwp_cut rest k hh fun s h hi=>lwn_lwp _ _ _ (hk s h hi)) h3
   ·rename_i hb;rw[if_neg hb];exact lwn_cutl rest k h3 hk
theorem lwn_cut{l:List Oper}{s:Slots}{h:Heap}(k:Nat)(I:Slots→Heap→Prop)(h1:lwn P ow n ops (l.take k) I s h)(h2: ∀ s h,I s h→lwn P ow n ops (l.drop k) K s h):lwn P ow n ops l K s h:=lwn_cutl l k h1 h2
end
end Go.AM
namespace Go.Proofs.YtjeolbgpllbemaaGreat
open Go.AM
set_option maxHeartbeats 16000000
set_option maxRecDepth 20000
theorem ne_of_eq{a x y:List UInt8}(h:(a==x)=true)(h2:(x==y)=false):(a==y)=false:=by rw[eq_of_beq h];exact h2
def headOk(op name:ByteArray)(args:List ByteArray)(np ne nk:Nat):Bool:=
 match shapeOf op nk with
 |none=>false
 |some (e,m,q)=>termsOk op name args&&decide (ne=e)&&decide (nk=m)&&(decide (np=0)||q)
theorem partsOk_head(op name:ByteArray)(args:List ByteArray)(params:List Pm)(ne nk:Nat):partsOk op name args params ne nk=(headOk op name args params.length ne nk&&params.all pmOk):=by
 unfold partsOk headOk;have e1:params.isEmpty=decide (params.length=0):=by cases params<;>simp
 cases shapeOf op nk with
 |none=>rfl
 |some p=>obtain⟨e,m,q⟩:=p;simp only[e1]
theorem drop_get{α:Type}{l:List α}{k:Nat}{x:α}(h:l[k]? =some x):l.drop k=x::l.drop (k+1):=by
 obtain⟨h1,h2⟩:=List.getElem?_eq_some_iff.1 h;rw[List.drop_eq_getElem_cons h1,h2]
theorem formedMs_le: ∀ (l:List Ex)(d n:Nat),n≤4096→(formedMs l d n).1=true→(formedMs l d n).2≤4096
 |[],d,n,hn=>by simp[formedMs,hn]
 |e::l,d,n,hn=>by
  unfold formedMs;have h1:=formedM_le e d n;split
  ·rename_i c he;rw[he]at h1;exact formedMs_le l d c (h1 rfl)
  ·simp
mutual
theorem shapedM_le: ∀ (f:Fm)(d n:Nat),(shapedM f d n).1=true→(shapedM f d n).2≤4096
 | .mk op name args params exprs kids,d,n=>by
  unfold shapedM;split
  ·rename_i hc;split
   ·have h1:=formedMs_le exprs (d+1) (n+1) hc.1;split
    ·rename_i c he;rw[he]at h1;exact shapedMs_le kids (d+1) c (h1 rfl)
    ·simp
   ·simp
  ·simp
theorem shapedMs_le: ∀ (l:List Fm)(d n:Nat),n≤4096→(shapedMs l d n).1=true→(shapedMs l d n).2≤4096
 |[],d,n,hn=>by simp[shapedMs,hn]
 |k::l,d,n,hn=>by
  unfold shapedMs;have h1:=shapedM_le k d n;split
  ·rename_i c he;rw[he]at h1;exact shapedMs_le l d c (h1 rfl)
  ·simp
end
theorem shaped_c: ∀ f:Fm,f.ok→ ∀ (d n:Nat),d≤33→n≤4096→ ∀ (id:Nat)(h:Heap),h.obj id=some (cntO n)→
  PCall Tryz.prog 97 [.agg f.cells,.sc (.int .i64 d),.ptr id 0 0] h fun r h'=>r= .sc (.bool (shapedM f d n).1)∧h'=h.set id (cntO (shapedM f d n).2):=by
 refine Fm.ind ?_;intro op name args params exprs kids ih hok d n hd hn id h ho;simp only[Fm.ok]at hok;obtain⟨_,hnm,⟨hal,hargs⟩,⟨hpl,hps⟩,⟨hel,hes⟩,hkl,hks⟩:=hok;rw[Ex.oks_iff]at hes;rw[Fm.oks_iff]at hks;have hnm':name.size≤9223372036854775807:=by unfold bigN at hnm;omega
 unfold bigN at hpl hel hkl;have hlA:=strRows_len args;have hlP:=pmRows_len params;have hlE:=Ex.rows_len exprs;have hlK:=Fm.rows_len kids;refine pcall_wf Ty.hb_97 fun hwf=>?_;have hid:id<h.next:=hwf id (by rw[ho];try rfl)
 refine PCall.quietX Ty.hb_97 ho (by simp[cntO,inNO,inNR,inNL,inN]) ?_;generalize hF:shapedM (.mk op name args params exprs kids) d n=F;unfold shapedM at hF;by_cases hc:n+1≤4096∧d≤32;rotate_left
 ·rw [if_neg hc]at hF;subst hF;have hT:=take_c (by omega) hn ho (decide_eq_false hc);simp only[Fm.cells];refine uG0 Tryz.func97 Tryz.ntmps97 Tryz.results97 Ty.hb_97 ?_;repeat'(first|refine a_seq fun K hK=>?_|refine uR trivial ?_|(refine uN hK ?_;clear hK)|apply zI)
  refine owp_useH (hT) (by(try simp only[Ty.w,simprocAttr,Bool.not_false]);try rfl) ?_;simp(maxSteps:=2000000) only[Ty.w,simprocAttr,Bool.not_false];repeat'(first|refine a_seq fun K hK=>?_|refine uR @Bool.not_false ?_|refine uT @Bool.not_false ?_|(refine uN hK ?_;clear hK)|apply zI)
  exact(GrowX.refl ho).put
 rw[if_pos hc]at hF;have hT:=take_c (by omega) hn ho (decide_eq_true hc);have wd:IntKind.i64.wrap ((d:Int)+1)=(d:Int)+1:=by rw[wrap64 (by omega) (by omega)]
 have G1:GrowX h id (cntO (n+1)) (h.set id (cntO (n+1))):=(GrowX.refl ho).put;have hO1:(h.set id (cntO (n+1))).obj id=some (cntO (n+1)):=by simp[Heap.set]
 have hN1:(h.set id (cntO (n+1))).next=h.next:=rfl
 have hFf:partsOk op name args params exprs.length kids.length=false→F=(false,n+1):=fun hp=>by rw[← hF,if_neg (by rw[hp];simp)]
 have hFt:partsOk op name args params exprs.length kids.length=true→F=(match formedMs exprs (d+1) (n+1)with
  |(true,c')=>shapedMs kids (d+1) c'
  |(false,c')=>(false,c')):=fun hp=>by rw[← hF,if_pos hp];try rfl
 try clear zz
 clear hF;simp only[Fm.cells];refine uG0 Tryz.func97 Tryz.ntmps97 Tryz.results97 Ty.hb_97 ?_;repeat'(first|refine a_seq fun K hK=>?_|refine uR trivial ?_|(refine uN hK ?_;clear hK)|apply zI)
 refine owp_useH (hT) (by(try simp only[Ty.w,simprocAttr,Bool.not_true]);try rfl) ?_;simp(maxSteps:=2000000) only[Ty.w,simprocAttr,Bool.not_true];try clear zz
 clear hT;generalize h.set id (cntO (n+1))=H1 at G1 hO1 hN1⊢;repeat'(first|with_reducible refine a_hold 4 ?_|refine a_seq fun K hK=>?_|refine uR @Bool.not_true ?_|refine uK ?_|refine uC1 @Bool.not_true ?_|(refine uN hK ?_;clear hK)|apply zI)
 refine⟨?_⟩;refine a_cut (fun S h'=>h'=H1∧S 1= .sc (.int .i64 d)∧S 2= .ptr id 0 0∧S 3= .cptr (Fm.mk op name args params exprs kids).cells∧ ∃ (e m:Nat)(q:Bool),shapeOf op kids.length=some (e,m,q)∧((bEq op opAtom||bEq op opSame)=true→termsOk op name args=true)∧S 7= .sc (.int .i64 e)∧S 8= .sc (.bool q)∧S 9= .sc (.int .i64 m)) ?_ ?_
 ·have hfc: ∀ s∈args, ∀ h:Heap,PCall Tryz.prog 132 [sPV s] h fun r h'=>r= .sc (.bool (!termB s))∧h'=h:=fun s hs h=>fclosure2_c (hargs s hs);cases k1:(op.data.toList==(#[97,116,111,109]:Array UInt8).toList)with
  |true=>
   have k2:(op.data.toList==(#[115,97,109,101]:Array UInt8).toList)=false:=ne_of_eq k1 rfl;cases q1:nameB name with
   |false=>
    have hp:=hFf (by simp[partsOk,shapeOf,termsOk,(show bEq op opAtom=true from k1),q1]);subst hp;replace zz:=uu k1 k2;(repeat'(first|refine a_seq fun K hK=>?_|refine uR zz ?_|refine uK ?_|refine uC1 zz ?_|(refine uN hK ?_;clear hK)|apply zI));refine uU (uu k1 (uu k2 q1)) (fname_c (s:=name) hnm') ?_;replace zz:=uu k1 (uu k2 (uu q1 @Bool.not_false));(repeat'(first|refine a_seq fun K hK=>?_|refine uR zz ?_|refine uT zz ?_|(refine uN hK ?_;clear hK)|apply zI));all_goals first|exact G1|exact⟨rfl,G1⟩
   |true=>
    cases q2:args.all termB with
    |false=>
     have hp:=hFf (by simp[partsOk,shapeOf,termsOk,(show bEq op opAtom=true from k1),q1,q2]);subst hp;replace zz:=uu k1 k2;(repeat'(first|refine a_seq fun K hK=>?_|refine uR zz ?_|refine uK ?_|refine uC1 zz ?_|(refine uN hK ?_;clear hK)|apply zI));refine uU (uu k1 (uu k2 q1)) (fname_c (s:=name) hnm') ?_;(try apply zI);replace zz:=uu k1 (uu k2 (uu q1 q2));refine uU zz (containsFunc_c hal hfc) ?_;replace zz:=uu k1 (uu k2 (uu q1 (uu q2 (uu @Bool.not_false @Bool.not_true))));(repeat'(first|refine a_seq fun K hK=>?_|refine uR zz ?_|refine uT zz ?_|(refine uN hK ?_;clear hK)|apply zI));all_goals first|exact G1|exact⟨rfl,G1⟩
    |true=>
     replace zz:=uu k1 k2;(repeat'(first|refine a_seq fun K hK=>?_|refine uR zz ?_|refine uK ?_|refine uC1 zz ?_|(refine uN hK ?_;clear hK)|apply zI));refine uU (uu k1 (uu k2 q1)) (fname_c (s:=name) hnm') ?_;(try apply zI);replace zz:=uu k1 (uu k2 (uu q1 q2));refine uU zz (containsFunc_c hal hfc) ?_;replace zz:=uu k1 (uu k2 (uu q1 (uu q2 (uu @Bool.not_false @Bool.not_true))));(repeat'(first|refine a_block ?_|refine uK ?_|(refine uN hK ?_;clear hK)|apply zI));simp(maxSteps:=2000000) only[Ty.w,simprocAttr,Ty.all,Fm.cells];exact⟨0,0,false,by simp[shapeOf,(show bEq op opAtom=true from k1)],fun _=>by simp[termsOk,(show bEq op opAtom=true from k1),q1,q2],rfl,rfl,rfl⟩
  |false=>
   cases k2:(op.data.toList==(#[115,97,109,101]:Array UInt8).toList)with
   |true=>
    cases q1:(name.data.toList==(#[]:Array UInt8).toList)with
    |false=>
     have hp:=hFf (by simp[partsOk,shapeOf,termsOk,(show bEq op opAtom=false from k1),(show bEq op opSame=true from k2),(show emptyB name=false from q1)]);subst hp;replace zz:=uu k1 (uu k2 (uu q1 @Bool.not_false));(repeat'(first|refine a_seq fun K hK=>?_|refine uR zz ?_|refine uT zz ?_|refine uC1 zz ?_|(refine uN hK ?_;clear hK)|apply zI));all_goals first|exact G1|exact⟨rfl,G1⟩
    |true=>
     cases q2:((args.length:Int)==2)with
     |false=>
      have hp:=hFf (by simp[partsOk,shapeOf,termsOk,(show bEq op opAtom=false from k1),(show bEq op opSame=true from k2),(show emptyB name=true from q1),(show ¬ args.length=2 by simp at q2;omega)]);subst hp;have q2p:=eq_false (ne_of_beq_false q2);have q2i:¬ args.length=2:=(by have:=ne_of_beq_false q2;omega);(repeat'(first|refine a_seq fun K hK=>?_|((first|refine a_regionS ?_|refine a_ret ?_);simp(maxSteps:=2000000) only[Ty.w,simprocAttr,k1,k2,q1,q2,q2p,hlA,Bool.not_true,Bool.not_false,not_false_eq_true,not_true_eq_false,if_true,if_false])|(refine a_cond _ (by(try simp(maxSteps:=2000000) only[Ty.w,simprocAttr,k1,k2,q1,q2,q2p,hlA,Bool.not_true,Bool.not_false,not_false_eq_true,not_true_eq_false,if_true,if_false]);rfl) (fun hb=>?_) (fun hb=>?_)<;>(try simp only[hb0,decide_eq_true_eq,decide_eq_false_iff_not,simprocAttr]at hb)<;>(try(exfalso;omega)))|(with_reducible refine ite_in (fun hb=>?_) (fun hb=>?_)<;>(try simp only[Decidable.not_not]at hb)<;>(try simp only[hb,if_true,if_false,not_false_eq_true,not_true_eq_false, ↓reduceIte])<;>(try simp only[hb0,decide_eq_true_eq,decide_eq_false_iff_not,simprocAttr]at hb)<;>(try(exfalso;omega)))|(refine hK _ _ ?_;clear hK;(try simp only[pst0,simprocAttr]))));all_goals first|exact G1|exact⟨rfl,G1⟩
     |true=>
      cases q3:args.all termB with
      |false=>
       have hp:=hFf (by simp[partsOk,shapeOf,termsOk,(show bEq op opAtom=false from k1),(show bEq op opSame=true from k2),(show emptyB name=true from q1),(show args.length=2 by simp at q2;omega),q3]);subst hp;have q2p:=eq_true (eq_of_beq q2);have q2i:args.length=2:=(by have:=eq_of_beq q2;omega);(repeat'(first|refine a_seq fun K hK=>?_|(refine a_regionS ?_;simp(maxSteps:=2000000) only[Ty.w,simprocAttr,k1,k2,q1,q2,q2p,hlA,Bool.not_true,not_false_eq_true,not_true_eq_false,if_true,if_false])|(refine a_cond _ (by(try simp(maxSteps:=2000000) only[Ty.w,simprocAttr,k1,k2,q1,q2,q2p,hlA,Bool.not_true,not_false_eq_true,not_true_eq_false,if_true,if_false]);rfl) (fun hb=>?_) (fun hb=>?_)<;>(try simp only[hb0,decide_eq_true_eq,decide_eq_false_iff_not,simprocAttr]at hb)<;>(try(exfalso;omega)))|(with_reducible refine ite_in (fun hb=>?_) (fun hb=>?_)<;>(try simp only[Decidable.not_not]at hb)<;>(try simp only[hb,if_true,if_false,not_false_eq_true,not_true_eq_false, ↓reduceIte])<;>(try simp only[hb0,decide_eq_true_eq,decide_eq_false_iff_not,simprocAttr]at hb)<;>(try(exfalso;omega)))|(refine hK _ _ ?_;clear hK;(try simp only[pst0,simprocAttr]))));replace zz:=uu k1 (uu k2 (uu q1 (uu q2 q3)));refine uU zz (containsFunc_c hal hfc) ?_;(repeat'(first|refine a_seq fun K hK=>?_|((first|refine a_regionS ?_|refine a_ret ?_);simp(maxSteps:=2000000) only[Ty.w,simprocAttr,k1,k2,q1,q2,q2p,q3,Bool.not_false,Bool.not_true,not_false_eq_true,not_true_eq_false,if_true,if_false])|(refine hK _ _ ?_;clear hK;(try simp only[pst0,simprocAttr]))));all_goals first|exact G1|exact⟨rfl,G1⟩
      |true=>
       have q2p:=eq_true (eq_of_beq q2);have q2i:args.length=2:=(by have:=eq_of_beq q2;omega);(repeat'(first|refine a_seq fun K hK=>?_|(refine a_regionS ?_;simp(maxSteps:=2000000) only[Ty.w,simprocAttr,k1,k2,q1,q2,q2p,hlA,Bool.not_true,not_false_eq_true,not_true_eq_false,if_true,if_false])|(refine a_cond _ (by(try simp(maxSteps:=2000000) only[Ty.w,simprocAttr,k1,k2,q1,q2,q2p,hlA,Bool.not_true,not_false_eq_true,not_true_eq_false,if_true,if_false]);rfl) (fun hb=>?_) (fun hb=>?_)<;>(try simp only[hb0,decide_eq_true_eq,decide_eq_false_iff_not,simprocAttr]at hb)<;>(try(exfalso;omega)))|(with_reducible refine ite_in (fun hb=>?_) (fun hb=>?_)<;>(try simp only[Decidable.not_not]at hb)<;>(try simp only[hb,if_true,if_false,not_false_eq_true,not_true_eq_false, ↓reduceIte])<;>(try simp only[hb0,decide_eq_true_eq,decide_eq_false_iff_not,simprocAttr]at hb)<;>(try(exfalso;omega)))|(refine hK _ _ ?_;clear hK;(try simp only[pst0,simprocAttr]))));replace zz:=uu k1 (uu k2 (uu q1 (uu q2 q3)));refine uU zz (containsFunc_c hal hfc) ?_;(repeat'(first|(refine a_block ?_)|(refine a_skip ?_;(try simp only[pst0,simprocAttr]))|(refine hK _ _ ?_;clear hK;(try simp only[pst0,simprocAttr]))));simp(maxSteps:=2000000) only[Ty.w,simprocAttr,Ty.all,Fm.cells];exact⟨0,0,false,by simp[shapeOf,(show bEq op opAtom=false from k1),(show bEq op opSame=true from k2)],fun _=>by simp[termsOk,(show bEq op opAtom=false from k1),(show bEq op opSame=true from k2),(show emptyB name=true from q1),(show args.length=2 by simp at q2;omega),q3],rfl,rfl,rfl⟩
   |false=>
    cases k3:(op.data.toList==(#[60]:Array UInt8).toList)with
    |true=>
     replace zz:=uu k1 (uu k2 (uu k3 hlK));(repeat'(first|refine a_seq fun K hK=>?_|refine a_block ?_|refine uR zz ?_|refine uQ zz fun K hK=>?_|refine uK ?_|refine uC1 zz ?_|(refine uN hK ?_;clear hK)|apply zI));simp(maxSteps:=2000000) only[Ty.w,simprocAttr,Ty.all,Fm.cells];exact⟨2,0,false,by simp[shapeOf,(show bEq op opAtom=false from k1),(show bEq op opSame=false from k2),(show bEq op opLt=true from k3)],fun hh=>by simp[(show bEq op opAtom=false from k1),(show bEq op opSame=false from k2)]at hh,rfl,rfl,rfl⟩
    |false=>
     cases k4:(op.data.toList==(#[60,61]:Array UInt8).toList)with
     |true=>
      replace zz:=uu k1 (uu k2 (uu k3 (uu k4 hlK)));(repeat'(first|refine a_seq fun K hK=>?_|refine a_block ?_|refine uR zz ?_|refine uQ zz fun K hK=>?_|refine uK ?_|refine uC1 zz ?_|(refine uN hK ?_;clear hK)|apply zI));simp(maxSteps:=2000000) only[Ty.w,simprocAttr,Ty.all,Fm.cells];exact⟨2,0,false,by simp[shapeOf,(show bEq op opAtom=false from k1),(show bEq op opSame=false from k2),(show bEq op opLt=false from k3),(show bEq op opLe=true from k4)],fun hh=>by simp[(show bEq op opAtom=false from k1),(show bEq op opSame=false from k2)]at hh,rfl,rfl,rfl⟩
     |false=>
      cases k5:(op.data.toList==(#[61]:Array UInt8).toList)with
      |true=>
       replace zz:=uu k1 (uu k2 (uu k3 (uu k4 (uu k5 hlK))));(repeat'(first|refine a_seq fun K hK=>?_|refine a_block ?_|refine uR zz ?_|refine uQ zz fun K hK=>?_|refine uC1 zz ?_|(refine uN hK ?_;clear hK)|apply zI));simp(maxSteps:=2000000) only[Ty.w,simprocAttr,Ty.all,Fm.cells];exact⟨2,0,false,by simp[shapeOf,(show bEq op opAtom=false from k1),(show bEq op opSame=false from k2),(show bEq op opLt=false from k3),(show bEq op opLe=false from k4),(show bEq op opEq=true from k5)],fun hh=>by simp[(show bEq op opAtom=false from k1),(show bEq op opSame=false from k2)]at hh,rfl,rfl,rfl⟩
      |false=>
       cases k6:(op.data.toList==(#[97,110,100]:Array UInt8).toList)with
       |true=>
        replace zz:=uu k1 (uu k2 (uu k3 (uu k4 (uu k5 (uu k6 hlK)))));(repeat'(first|refine a_seq fun K hK=>?_|refine a_block ?_|refine uR zz ?_|refine uQ zz fun K hK=>?_|refine uK ?_|refine uC1 zz ?_|(refine uN hK ?_;clear hK)|apply zI));simp(maxSteps:=2000000) only[Ty.w,simprocAttr,Ty.all,Fm.cells];exact⟨0,kids.length,false,by simp[shapeOf,(show bEq op opAtom=false from k1),(show bEq op opSame=false from k2),(show bEq op opLt=false from k3),(show bEq op opLe=false from k4),(show bEq op opEq=false from k5),(show bEq op opAnd=true from k6)],fun hh=>by simp[(show bEq op opAtom=false from k1),(show bEq op opSame=false from k2)]at hh,rfl,rfl,rfl⟩
       |false=>
        cases k7:(op.data.toList==(#[111,114]:Array UInt8).toList)with
        |true=>
         replace zz:=uu k1 (uu k2 (uu k3 (uu k4 (uu k5 (uu k6 (uu k7 hlK))))));(repeat'(first|refine a_seq fun K hK=>?_|refine a_block ?_|refine uR zz ?_|refine uQ zz fun K hK=>?_|refine uC1 zz ?_|(refine uN hK ?_;clear hK)|apply zI));simp(maxSteps:=2000000) only[Ty.w,simprocAttr,Ty.all,Fm.cells];exact⟨0,kids.length,false,by simp[shapeOf,(show bEq op opAtom=false from k1),(show bEq op opSame=false from k2),(show bEq op opLt=false from k3),(show bEq op opLe=false from k4),(show bEq op opEq=false from k5),(show bEq op opAnd=false from k6),(show bEq op opOr=true from k7)],fun hh=>by simp[(show bEq op opAtom=false from k1),(show bEq op opSame=false from k2)]at hh,rfl,rfl,rfl⟩
        |false=>
         cases k8:(op.data.toList==(#[110,111,116]:Array UInt8).toList)with
         |true=>
          replace zz:=uu k1 (uu k2 (uu k3 (uu k4 (uu k5 (uu k6 (uu k7 (uu k8 hlK)))))));(repeat'(first|refine a_seq fun K hK=>?_|refine a_block ?_|refine uR zz ?_|refine uQ zz fun K hK=>?_|refine uC1 zz ?_|(refine uN hK ?_;clear hK)|apply zI));simp(maxSteps:=2000000) only[Ty.w,simprocAttr,Ty.all,Fm.cells];exact⟨0,1,false,by simp[shapeOf,(show bEq op opAtom=false from k1),(show bEq op opSame=false from k2),(show bEq op opLt=false from k3),(show bEq op opLe=false from k4),(show bEq op opEq=false from k5),(show bEq op opAnd=false from k6),(show bEq op opOr=false from k7),(show bEq op opNot=true from k8)],fun hh=>by simp[(show bEq op opAtom=false from k1),(show bEq op opSame=false from k2)]at hh,rfl,rfl,rfl⟩
         |false=>
          cases k9:(op.data.toList==(#[105,109,112,108,121]:Array UInt8).toList)with
          |true=>
           replace zz:=uu k1 (uu k2 (uu k3 (uu k4 (uu k5 (uu k6 (uu k7 (uu k8 (uu k9 hlK))))))));(repeat'(first|refine a_seq fun K hK=>?_|refine a_block ?_|refine uR zz ?_|refine uQ zz fun K hK=>?_|refine uC1 zz ?_|(refine uN hK ?_;clear hK)|apply zI));simp(maxSteps:=2000000) only[Ty.w,simprocAttr,Ty.all,Fm.cells];exact⟨0,2,false,by simp[shapeOf,(show bEq op opAtom=false from k1),(show bEq op opSame=false from k2),(show bEq op opLt=false from k3),(show bEq op opLe=false from k4),(show bEq op opEq=false from k5),(show bEq op opAnd=false from k6),(show bEq op opOr=false from k7),(show bEq op opNot=false from k8),(show bEq op opImp=true from k9)],fun hh=>by simp[(show bEq op opAtom=false from k1),(show bEq op opSame=false from k2)]at hh,rfl,rfl,rfl⟩
          |false=>
           cases k10:(op.data.toList==(#[102,111,114,97,108,108]:Array UInt8).toList)with
           |true=>
            replace zz:=uu k1 (uu k2 (uu k3 (uu k4 (uu k5 (uu k6 (uu k7 (uu k8 (uu k9 (uu k10 hlK)))))))));(repeat'(first|refine a_seq fun K hK=>?_|refine a_block ?_|refine uR zz ?_|refine uQ zz fun K hK=>?_|refine uK ?_|refine uC1 zz ?_|(refine uN hK ?_;clear hK)|apply zI));simp(maxSteps:=2000000) only[Ty.w,simprocAttr,Ty.all,Fm.cells];exact⟨0,1,true,by simp[shapeOf,(show bEq op opAtom=false from k1),(show bEq op opSame=false from k2),(show bEq op opLt=false from k3),(show bEq op opLe=false from k4),(show bEq op opEq=false from k5),(show bEq op opAnd=false from k6),(show bEq op opOr=false from k7),(show bEq op opNot=false from k8),(show bEq op opImp=false from k9),(show bEq op opAll=true from k10)],fun hh=>by simp[(show bEq op opAtom=false from k1),(show bEq op opSame=false from k2)]at hh,rfl,rfl,rfl⟩
           |false=>
            cases k11:(op.data.toList==(#[101,120,105,115,116,115]:Array UInt8).toList)with
            |true=>
             replace zz:=uu k1 (uu k2 (uu k3 (uu k4 (uu k5 (uu k6 (uu k7 (uu k8 (uu k9 (uu k10 (uu k11 hlK))))))))));(repeat'(first|refine a_seq fun K hK=>?_|refine a_block ?_|refine uR zz ?_|refine uQ zz fun K hK=>?_|refine uC1 zz ?_|(refine uN hK ?_;clear hK)|apply zI));simp(maxSteps:=2000000) only[Ty.w,simprocAttr,Ty.all,Fm.cells];exact⟨0,1,true,by simp[shapeOf,(show bEq op opAtom=false from k1),(show bEq op opSame=false from k2),(show bEq op opLt=false from k3),(show bEq op opLe=false from k4),(show bEq op opEq=false from k5),(show bEq op opAnd=false from k6),(show bEq op opOr=false from k7),(show bEq op opNot=false from k8),(show bEq op opImp=false from k9),(show bEq op opAll=false from k10),(show bEq op opSome=true from k11)],fun hh=>by simp[(show bEq op opAtom=false from k1),(show bEq op opSame=false from k2)]at hh,rfl,rfl,rfl⟩
            |false=>
             have hp:=hFf (by simp[partsOk,shapeOf,termsOk,(show bEq op opAtom=false from k1),(show bEq op opSame=false from k2),(show bEq op opLt=false from k3),(show bEq op opLe=false from k4),(show bEq op opEq=false from k5),(show bEq op opAnd=false from k6),(show bEq op opOr=false from k7),(show bEq op opNot=false from k8),(show bEq op opImp=false from k9),(show bEq op opAll=false from k10),(show bEq op opSome=false from k11)]);subst hp;replace zz:=uu k1 (uu k2 (uu k3 (uu k4 (uu k5 (uu k6 (uu k7 (uu k8 (uu k9 (uu k10 k11)))))))));(repeat'(first|refine a_seq fun K hK=>?_|refine uR zz ?_|refine uT zz ?_|refine uC1 zz ?_|(refine uN hK ?_;clear hK)|apply zI));all_goals first|exact G1|exact⟨rfl,G1⟩
 ·rintro S h' ⟨rfl,g1,g2,g3,e,m,q,hs,ht,g7,g8,g9⟩;simp only[Fm.cells]at g3;have hO:headOk op name args params.length exprs.length kids.length=(termsOk op name args&&decide (exprs.length=e)&&decide (kids.length=m)&&(decide (params.length=0)||q)):=by unfold headOk;rw[hs]
  repeat'(first|with_reducible refine a_hold 24 ?_|apply zI)
  refine⟨?_⟩;refine a_cut (fun S h2=>h2=h'∧S 1= .sc (.int .i64 d)∧S 2= .ptr id 0 0∧S 3= .cptr (Fm.mk op name args params exprs kids).cells∧headOk op name args params.length exprs.length kids.length=true) ?_ ?_
  ·have hFh:headOk op name args params.length exprs.length kids.length=false→F=(false,n+1):=fun hh=>hFf (by rw[partsOk_head,hh];try rfl);have tA:bEq op opAtom=(op.data.toList==(#[97,116,111,109]:Array UInt8).toList):=rfl;have tS:bEq op opSame=(op.data.toList==(#[115,97,109,101]:Array UInt8).toList):=rfl;(try clear zz);clear hFf hFt ih hs;refine a_seq (fun K hK=>?_);refine a_regionS (lwn_cut 20 (fun S h2=>h2=h'∧S 1= .sc (.int .i64 d)∧S 2= .ptr id 0 0∧S 3= .cptr (Fm.mk op name args params exprs kids).cells∧S 7= .sc (.int .i64 e)∧S 8= .sc (.bool q)∧S 9= .sc (.int .i64 m)∧ ∃ b,S 91= .sc (.bool b)∧(b=true→F=(false,n+1))∧(b=false→termsOk op name args=true)) ?_ ?_)
   ·cases k1:(op.data.toList==(#[97,116,111,109]:Array UInt8).toList)with
    |true=>
     simp(maxSteps:=2000000) only[Ty.w,simprocAttr,Ty.all,g1,g2,g3,g7,g8,g9,hlA,k1,Bool.not_true,Bool.not_false,Fm.cells];exact⟨false,rfl,fun hh=>absurd hh (by simp),fun _=>ht (by rw[tA,k1];try rfl)⟩
    |false=>
     cases k2:(op.data.toList==(#[115,97,109,101]:Array UInt8).toList)with
     |true=>
      simp(maxSteps:=2000000) only[Ty.w,simprocAttr,Ty.all,g1,g2,g3,g7,g8,g9,hlA,k1,k2,Bool.not_true,Bool.not_false,Fm.cells];exact⟨false,rfl,fun hh=>absurd hh (by simp),fun _=>ht (by rw[tS,k2];simp)⟩
     |false=>
      cases q1:(name.data.toList==(#[]:Array UInt8).toList)with
      |false=>
       simp(maxSteps:=2000000) only[Ty.w,simprocAttr,Ty.all,g1,g2,g3,g7,g8,g9,hlA,k1,k2,q1,Bool.not_true,Bool.not_false,Fm.cells];exact⟨true,rfl,fun _=>hFh (by rw[hO];simp[termsOk,tA,tS,k1,k2,(show emptyB name=false from q1)]),fun hh=>absurd hh (by simp)⟩
      |true=>
       cases q2:decide ((args.length:Int)>0)with
       |true=>
        simp(maxSteps:=2000000) only[Ty.w,simprocAttr,Ty.all,g1,g2,g3,g7,g8,g9,hlA,k1,k2,q1,q2,Bool.not_true,Bool.not_false,Fm.cells];exact⟨true,rfl,fun _=>hFh (by rw[hO];cases args with|nil=>simp at q2|cons a l=>simp[termsOk,tA,tS,k1,k2]),fun hh=>absurd hh (by simp)⟩
       |false=>
        simp(maxSteps:=2000000) only[Ty.w,simprocAttr,Ty.all,g1,g2,g3,g7,g8,g9,hlA,k1,k2,q1,q2,Bool.not_true,Bool.not_false,Fm.cells];exact⟨false,rfl,fun hh=>absurd hh (by simp),fun _=>by cases args with|nil=>simp[termsOk,tA,tS,k1,k2,(show emptyB name=true from q1)]|cons a l=>simp at q2⟩
   ·(try clear zz);clear g1 g2 g3 g7 g8 g9;rintro S h2 ⟨rfl,g1,g2,g3,g7,g8,g9,b,g91,hbt,hbf⟩;simp only[Fm.cells]at g3;(try clear zz);clear ht tA tS;cases b with
    |true=>
     have hp:=hbt rfl;subst hp;simp(maxSteps:=2000000) only[Ty.w,simprocAttr,Ty.all,g1,g2,g3,g91,Bool.not_true,Bool.not_false];replace zz:=uu g1 (uu g2 (uu g3 g91));(repeat'(first|refine a_seq fun K hK=>?_|refine uR zz ?_|refine uT zz ?_|(refine uN hK ?_;clear hK)|apply zI));all_goals first|exact G1|exact⟨rfl,G1⟩
    |false=>
     have hts:=hbf rfl;(try clear zz);clear hbt hbf;cases c1:((exprs.length:Int)==(e:Int))with
     |false=>
      have hp:=hFh (by rw[hO];simp[(show ¬ exprs.length=e by simp at c1;omega)]);subst hp;have c1p:=eq_false (ne_of_beq_false c1);have c1i:¬ exprs.length=e:=(by have:=ne_of_beq_false c1;omega);simp(maxSteps:=2000000) only[Ty.w,simprocAttr,Ty.all,g1,g2,g3,g7,g8,g9,hlA,hlP,hlE,hlK,g91,c1,c1p,Bool.not_true,Bool.not_false,not_false_eq_true,not_true_eq_false,if_true,if_false];(repeat'(first|refine a_seq fun K hK=>?_|((first|refine a_regionS ?_|refine a_ret ?_);simp(maxSteps:=2000000) only[Ty.w,simprocAttr,g1,g2,g3,g7,g8,g9,hlA,hlP,hlE,hlK,g91,c1,c1p,Bool.not_true,Bool.not_false,not_false_eq_true,not_true_eq_false,if_true,if_false])|(with_reducible refine ite_in (fun hb=>?_) (fun hb=>?_)<;>(try simp only[Decidable.not_not]at hb)<;>(try simp only[hb,if_true,if_false,not_false_eq_true,not_true_eq_false, ↓reduceIte])<;>(try simp only[hb0,decide_eq_true_eq,decide_eq_false_iff_not,simprocAttr]at hb)<;>(try(exfalso;omega)))|(refine hK _ _ ?_;clear hK;(try simp only[pst0,simprocAttr]))));all_goals first|exact G1|exact⟨rfl,G1⟩
     |true=>
      have c1p:=eq_true (eq_of_beq c1);have c1i:exprs.length=e:=(by have:=eq_of_beq c1;omega);cases c2:((kids.length:Int)==(m:Int))with
      |false=>
       have c2p:=eq_false (ne_of_beq_false c2);have c2i:¬ kids.length=m:=(by have:=ne_of_beq_false c2;omega);have hp:=hFh (by rw[hO];simp[(show ¬ kids.length=m by simp at c2;omega)]);subst hp;simp(maxSteps:=2000000) only[Ty.w,simprocAttr,Ty.all,g1,g2,g3,g7,g8,g9,hlA,hlP,hlE,hlK,g91,c1,c2,c1p,c2p,Bool.not_true,Bool.not_false,not_false_eq_true,not_true_eq_false,if_true,if_false];(repeat'(first|refine a_seq fun K hK=>?_|((first|refine a_regionS ?_|refine a_ret ?_);simp(maxSteps:=2000000) only[Ty.w,simprocAttr,g1,g2,g3,g7,g8,g9,hlA,hlP,hlE,hlK,g91,c1,c2,c1p,c2p,Bool.not_true,Bool.not_false,not_false_eq_true,not_true_eq_false,if_true,if_false])|(with_reducible refine ite_in (fun hb=>?_) (fun hb=>?_)<;>(try simp only[Decidable.not_not]at hb)<;>(try simp only[hb,if_true,if_false,not_false_eq_true,not_true_eq_false, ↓reduceIte])<;>(try simp only[hb0,decide_eq_true_eq,decide_eq_false_iff_not,simprocAttr]at hb)<;>(try(exfalso;omega)))|(refine hK _ _ ?_;clear hK;(try simp only[pst0,simprocAttr]))));all_goals first|exact G1|exact⟨rfl,G1⟩
      |true=>
       have c2p:=eq_true (eq_of_beq c2);have c2i:kids.length=m:=(by have:=eq_of_beq c2;omega);cases c3:decide ((params.length:Int)>0)with
       |false=>
        have c3e:params=[]:=List.eq_nil_of_length_eq_zero (by have:=of_decide_eq_false c3;omega);simp(maxSteps:=2000000) only[Ty.w,simprocAttr,Ty.all,g1,g2,g3,g7,g8,g9,hlA,hlP,hlE,hlK,g91,c1,c2,c3,c1p,c2p,Bool.not_true,Bool.not_false,not_false_eq_true,not_true_eq_false,if_true,if_false];(repeat'(first|(refine a_skip ?_;(try simp only[pst0,simprocAttr]))|(refine a_cond _ (by(try simp(maxSteps:=2000000) only[Ty.w,simprocAttr,g1,g2,g3,g7,g8,g9,hlA,hlP,hlE,hlK,g91,c1,c2,c3,c1p,c2p,Bool.not_true,Bool.not_false,not_false_eq_true,not_true_eq_false,if_true,if_false]);rfl) (fun hb=>?_) (fun hb=>?_)<;>(try simp only[hb0,decide_eq_true_eq,decide_eq_false_iff_not,simprocAttr]at hb)<;>(try(exfalso;omega)))|(with_reducible refine ite_in (fun hb=>?_) (fun hb=>?_)<;>(try simp only[Decidable.not_not]at hb)<;>(try simp only[hb,if_true,if_false,not_false_eq_true,not_true_eq_false, ↓reduceIte])<;>(try simp only[hb0,decide_eq_true_eq,decide_eq_false_iff_not,simprocAttr]at hb)<;>(try(exfalso;omega)))|(refine hK _ _ ?_;clear hK;(try simp only[pst0,simprocAttr]))));simp(maxSteps:=2000000) only[Ty.w,simprocAttr,Ty.all,g1,g2,g3,Fm.cells];rw[hO,hts];simp[(show exprs.length=e by simp at c1;omega),(show kids.length=m by simp at c2;omega),c3e]
       |true=>
        cases q with
        |false=>
         have hp:=hFh (by rw[hO];simp[(show ¬ params.length=0 by have:=of_decide_eq_true c3;omega)]);subst hp;simp(maxSteps:=2000000) only[Ty.w,simprocAttr,Ty.all,g1,g2,g3,g7,g8,g9,hlA,hlP,hlE,hlK,g91,c1,c2,c3,c1p,c2p,Bool.not_true,Bool.not_false,not_false_eq_true,not_true_eq_false,if_true,if_false];(repeat'(first|refine a_seq fun K hK=>?_|((first|refine a_regionS ?_|refine a_ret ?_);simp(maxSteps:=2000000) only[Ty.w,simprocAttr,g1,g2,g3,g7,g8,g9,hlA,hlP,hlE,hlK,g91,c1,c2,c3,c1p,c2p,Bool.not_true,Bool.not_false,not_false_eq_true,not_true_eq_false,if_true,if_false])|(with_reducible refine ite_in (fun hb=>?_) (fun hb=>?_)<;>(try simp only[Decidable.not_not]at hb)<;>(try simp only[hb,if_true,if_false,not_false_eq_true,not_true_eq_false, ↓reduceIte])<;>(try simp only[hb0,decide_eq_true_eq,decide_eq_false_iff_not,simprocAttr]at hb)<;>(try(exfalso;omega)))|(refine hK _ _ ?_;clear hK;(try simp only[pst0,simprocAttr]))));all_goals first|exact G1|exact⟨rfl,G1⟩
        |true=>
         simp(maxSteps:=2000000) only[Ty.w,simprocAttr,Ty.all,g1,g2,g3,g7,g8,g9,hlA,hlP,hlE,hlK,g91,c1,c2,c3,c1p,c2p,Bool.not_true,Bool.not_false,not_false_eq_true,not_true_eq_false,if_true,if_false];(repeat'(first|(refine a_skip ?_;(try simp only[pst0,simprocAttr]))|(refine a_cond _ (by(try simp(maxSteps:=2000000) only[Ty.w,simprocAttr,g1,g2,g3,g7,g8,g9,hlA,hlP,hlE,hlK,g91,c1,c2,c3,c1p,c2p,Bool.not_true,Bool.not_false,not_false_eq_true,not_true_eq_false,if_true,if_false]);rfl) (fun hb=>?_) (fun hb=>?_)<;>(try simp only[hb0,decide_eq_true_eq,decide_eq_false_iff_not,simprocAttr]at hb)<;>(try(exfalso;omega)))|(with_reducible refine ite_in (fun hb=>?_) (fun hb=>?_)<;>(try simp only[Decidable.not_not]at hb)<;>(try simp only[hb,if_true,if_false,not_false_eq_true,not_true_eq_false, ↓reduceIte])<;>(try simp only[hb0,decide_eq_true_eq,decide_eq_false_iff_not,simprocAttr]at hb)<;>(try(exfalso;omega)))|(refine hK _ _ ?_;clear hK;(try simp only[pst0,simprocAttr]))));simp(maxSteps:=2000000) only[Ty.w,simprocAttr,Ty.all,g1,g2,g3,Fm.cells];rw[hO,hts];simp[(show exprs.length=e by simp at c1;omega),(show kids.length=m by simp at c2;omega)]
  ·(try clear zz);clear g1 g2 g3 g7 g8 g9 ht hO hs;rintro S h2 ⟨rfl,g1,g2,g3,hH⟩;simp only[Fm.cells]at g3;(repeat'(first|with_reducible refine a_hold 26 ?_|apply zI));refine⟨?_⟩;refine a_cut (fun S h'=>S 1= .sc (.int .i64 d)∧S 2= .ptr id 0 0∧S 3= .cptr (Fm.mk op name args params exprs kids).cells∧GrowX h id (cntO (n+1)) h'∧params.all pmOk=true) ?_ ?_
   ·have hFp:params.all pmOk=false→F=(false,n+1):=fun hh=>hFf (by rw[partsOk_head,hh];simp);(try clear zz);clear hFf hFt ih;replace zz:=uu g1 (uu g2 (uu g3 hlP));(repeat'(first|refine a_seq fun K hK=>?_|refine a_block ?_|refine uR zz ?_|(refine uN hK ?_;clear hK)|apply zI));refine a_loop (fun c S h'=>S 1= .sc (.int .i64 d)∧S 2= .ptr id 0 0∧S 3= .cptr (Fm.mk op name args params exprs kids).cells∧S 116= .imm 2 (pmRows params)∧S 117= .sc (.int .i64 params.length)∧ ∃ k:Nat,S 118= .sc (.int .i64 k)∧k≤params.length∧c=params.length-k∧GrowX h id (cntO (n+1)) h'∧params.all pmOk=(params.drop k).all pmOk) params.length ?_ ?_
    ·simp only[Ty.w,simprocAttr,g1,g2,g3,Fm.cells];exact⟨0,rfl,by omega,rfl,G1,rfl⟩
    ·(try clear zz);clear G1 hO1 g1 g2 g3;rintro c S h' ⟨g1,g2,g3,g116,g117,k,g118,hk,rfl,hG,hall⟩;simp only[Fm.cells]at g3;by_cases hlt:k<params.length
     ·have hdk:decide ((k:Int)<(params.length:Int))=true:=(by simp;omega);have w7:IntKind.i64.wrap ((k:Int)+1)=k+1:=(by rw[wrap64 (by omega) (by omega)]);obtain⟨p,hx⟩: ∃ p,params[k]? =some p:=⟨_,List.getElem?_eq_getElem hlt⟩;have hr:=pmRows_get hx;have hpk:=hps p (List.mem_of_getElem? hx);obtain⟨hp1,hp2⟩:=hpk;have hp1':p.name.size≤9223372036854775807:=(by unfold bigN at hp1;omega);have hG2:GrowX h id (cntO (n+1)) ((h'.new (.arr 2 [[.sc (.string ⟨#[]⟩),.sc (.string ⟨#[]⟩)]])).set h'.next (.arr 2 [[sPV p.name,sPV p.type]])):=(hG.new hid).set hid hG.le;rw[drop_get hx]at hall;simp only[List.all_cons,pmOk]at hall;cases v1:varB p.name with
      |false=>
       have hp:=hFp (by rw[hall,v1];try rfl);subst hp;replace zz:=uu g1 (uu g2 (uu g3 (uu g116 (uu g117 (uu g118 (uu hdk hr))))));(repeat'(first|refine a_seq fun K hK=>?_|refine uR zz ?_|refine uK ?_|refine uC1 zz ?_|(refine uN hK ?_;clear hK)|apply zI));replace zz:=uu g1 (uu g2 (uu g3 (uu g116 (uu g117 (uu g118 v1)))));refine uU zz (fvariable_c (s:=p.name) hp1') ?_;replace zz:=uu g1 (uu g2 (uu g3 (uu g116 (uu g117 (uu g118 (uu v1 @Bool.not_false))))));(repeat'(first|refine a_seq fun K hK=>?_|refine uR zz ?_|refine uT zz ?_|(refine uN hK ?_;clear hK)|apply zI));first|exact hG2|exact⟨rfl,hG2⟩
      |true=>
       cases v2:typedB p.type with
       |false=>
        have hp:=hFp (by rw[hall,v1,v2];try rfl);subst hp;replace zz:=uu g1 (uu g2 (uu g3 (uu g116 (uu g117 (uu g118 (uu hdk hr))))));(repeat'(first|refine a_seq fun K hK=>?_|refine uR zz ?_|refine uK ?_|refine uC1 zz ?_|(refine uN hK ?_;clear hK)|apply zI));replace zz:=uu g1 (uu g2 (uu g3 (uu g116 (uu g117 (uu g118 v1)))));refine uU zz (fvariable_c (s:=p.name) hp1') ?_;(try apply zI);replace zz:=uu g1 (uu g2 (uu g3 (uu g116 (uu g117 (uu g118 (uu v1 v2))))));refine uU zz (typed_c (s:=p.type) hp2) ?_;replace zz:=uu g1 (uu g2 (uu g3 (uu g116 (uu g117 (uu g118 (uu v1 (uu v2 (uu @Bool.not_false @Bool.not_true))))))));(repeat'(first|refine a_seq fun K hK=>?_|refine uR zz ?_|refine uT zz ?_|(refine uN hK ?_;clear hK)|apply zI));first|exact hG2|exact⟨rfl,hG2⟩
       |true=>
        rw[v1,v2]at hall;replace zz:=uu g1 (uu g2 (uu g3 (uu g116 (uu g117 (uu g118 (uu hdk hr))))));(repeat'(first|refine a_seq fun K hK=>?_|refine uR zz ?_|refine uK ?_|refine uC1 zz ?_|(refine uN hK ?_;clear hK)|apply zI));replace zz:=uu g1 (uu g2 (uu g3 (uu g116 (uu g117 (uu g118 v1)))));refine uU zz (fvariable_c (s:=p.name) hp1') ?_;(try apply zI);replace zz:=uu g1 (uu g2 (uu g3 (uu g116 (uu g117 (uu g118 (uu v1 v2))))));refine uU zz (typed_c (s:=p.type) hp2) ?_;replace zz:=uu g1 (uu g2 (uu g3 (uu g116 (uu g117 (uu g118 (uu v1 (uu v2 (uu w7 @Bool.not_true))))))));(repeat'(first|refine a_block ?_|refine uR zz ?_|refine uK ?_|(refine uN hK ?_;clear hK)|apply zI));exact⟨params.length-(k+1),by omega,by simp only[Fm.cells],k+1,by simp,by omega,rfl,hG2,by simpa using hall⟩
     ·have hdk:decide ((k:Int)<(params.length:Int))=false:=(by simp;omega);rw[List.drop_eq_nil_of_le (by omega)]at hall;replace zz:=uu g1 (uu g2 (uu g3 (uu g116 (uu g117 (uu g118 hdk)))));(repeat'(first|refine a_seq fun K hK=>?_|refine uR zz ?_|refine uX ?_|refine uC1 zz ?_|(refine uN hK ?_;clear hK)|apply zI));simp(maxSteps:=2000000) only[Ty.w,simprocAttr,Ty.all,g1,g2,g3,Fm.cells];exact⟨hG,hall⟩
   ·(try clear zz);clear g1 g2 g3 G1 hO1;rintro S h' ⟨g1,g2,g3,hG,hall⟩;simp only[Fm.cells]at g3;have hFe:=hFt (by rw[partsOk_head,hH,hall];try rfl);(try clear zz);clear hFt hFf hH hall;(repeat'(first|with_reducible refine a_hold 32 ?_|apply zI));refine⟨?_⟩;refine a_cut (fun S h'=>S 1= .sc (.int .i64 d)∧S 2= .ptr id 0 0∧S 3= .cptr (Fm.mk op name args params exprs kids).cells∧ ∃ n':Nat,n'≤4096∧GrowX h id (cntO n') h'∧F=shapedMs kids (d+1) n') ?_ ?_
    ·(try clear zz);clear ih;replace zz:=uu g1 (uu g2 (uu g3 hlE));(repeat'(first|refine a_seq fun K hK=>?_|refine a_block ?_|refine uR zz ?_|(refine uN hK ?_;clear hK)|apply zI));refine a_loop (fun c S h'=>S 1= .sc (.int .i64 d)∧S 2= .ptr id 0 0∧S 3= .cptr (Fm.mk op name args params exprs kids).cells∧S 134= .imm 5 (Ex.rows exprs)∧S 135= .sc (.int .i64 exprs.length)∧ ∃ k n':Nat,S 136= .sc (.int .i64 k)∧k≤exprs.length∧c=exprs.length-k∧n'≤4096∧GrowX h id (cntO n') h'∧F=(match formedMs (exprs.drop k) (d+1) n' with
      |(true,c')=>shapedMs kids (d+1) c'
      |(false,c')=>(false,c'))) exprs.length ?_ ?_
     ·simp only[Ty.w,simprocAttr,g1,g2,g3,Fm.cells];exact⟨0,n+1,rfl,by omega,rfl,by omega,hG,hFe⟩
     ·(try clear zz);clear g1 g2 g3 hG hFe;rintro c S h' ⟨g1,g2,g3,g134,g135,k,n',g136,hk,rfl,hn',hG,hFe⟩;simp only[Fm.cells]at g3;by_cases hlt:k<exprs.length
      ·have hdk:decide ((k:Int)<(exprs.length:Int))=true:=(by simp;omega);have w7:IntKind.i64.wrap ((k:Int)+1)=k+1:=(by rw[wrap64 (by omega) (by omega)]);obtain⟨x,hx⟩: ∃ x,exprs[k]? =some x:=⟨_,List.getElem?_eq_getElem hlt⟩;have hmem:=List.mem_of_getElem? hx;have hr:=Ex.rows_get hx;have hne:id≠h'.next:=by have:=hG.le;omega
       have hcx:=formed_c x (hes x hmem) (d+1) n' (by omega) hn' id ((h'.new (.arr 5 [[.sc (.string ⟨#[]⟩),.sc (.string ⟨#[]⟩),.sc (.int .i64 0),.sc (.slice none 0 0),.sc (.slice none 0 0)]])).set h'.next (.arr 5 [x.cells])) (by simp only[Heap.set,Heap.new];rw[if_neg hne,if_neg hne];exact hG.at_);have hG2:GrowX h id (cntO n') ((h'.new (.arr 5 [[.sc (.string ⟨#[]⟩),.sc (.string ⟨#[]⟩),.sc (.int .i64 0),.sc (.slice none 0 0),.sc (.slice none 0 0)]])).set h'.next (.arr 5 [x.cells])):=(hG.new hid).set hid hG.le;have hle:=formedM_le x (d+1) n';rw[drop_get hx]at hFe;simp only[formedMs]at hFe;generalize formedM x (d+1) n'=V at hcx hle hFe;obtain⟨b,n''⟩:=V;simp only[natc]at hcx hle hFe;obtain⟨xo,xn,xv,xa,xk⟩:=x;simp only[Ex.cells]at hr hcx hG2;replace zz:=uu g1 (uu g2 (uu g3 (uu g134 (uu g135 (uu g136 (uu hdk (uu hr wd)))))));(repeat'(first|refine a_seq fun K hK=>?_|refine uR zz ?_|refine uK ?_|refine uC1 zz ?_|(refine uN hK ?_;clear hK)|apply zI));refine owp_useH (hcx) (by(try simp only[Ty.w,simprocAttr,g1,g2,g3,g134,g135,g136,hr,wd]);try rfl) ?_;simp(maxSteps:=2000000) only[Ty.w,simprocAttr,g1,g2,g3,g134,g135,g136,hr,wd];cases b with
       |false=>
        simp only at hFe;subst hFe;replace zz:=uu g1 (uu g2 (uu g3 (uu g134 (uu g135 (uu g136 @Bool.not_false)))));(repeat'(first|refine a_seq fun K hK=>?_|refine uR zz ?_|refine uT zz ?_|(refine uN hK ?_;clear hK)|apply zI));first|exact hG2.put|exact⟨rfl,hG2.put⟩
       |true=>
        simp only at hFe;replace zz:=uu g1 (uu g2 (uu g3 (uu g134 (uu g135 (uu g136 (uu w7 @Bool.not_true))))));(repeat'(first|refine a_block ?_|refine uR zz ?_|refine uK ?_|(refine uN hK ?_;clear hK)|apply zI));exact⟨exprs.length-(k+1),by omega,by simp only[Fm.cells],k+1,n'',by simp,by omega,rfl,hle rfl,hG2.put,hFe⟩
      ·have hdk:decide ((k:Int)<(exprs.length:Int))=false:=(by simp;omega);rw[List.drop_eq_nil_of_le (by omega)]at hFe;simp only[formedMs]at hFe;replace zz:=uu g1 (uu g2 (uu g3 (uu g134 (uu g135 (uu g136 hdk)))));(repeat'(first|refine a_seq fun K hK=>?_|refine uR zz ?_|refine uX ?_|refine uC1 zz ?_|(refine uN hK ?_;clear hK)|apply zI));simp(maxSteps:=2000000) only[Ty.w,simprocAttr,Ty.all,g1,g2,g3,Fm.cells];exact⟨n',hn',hG,hFe⟩
    ·(try clear zz);clear g1 g2 g3 hG hFe;rintro S h' ⟨g1,g2,g3,n0,hn0,hG,hFe⟩;simp only[Fm.cells]at g3;replace zz:=uu g1 (uu g2 (uu g3 hlK));(repeat'(first|refine a_seq fun K hK=>?_|refine a_block ?_|refine uR zz ?_|(refine uN hK ?_;clear hK)|apply zI));refine a_loop (fun c S h'=>S 1= .sc (.int .i64 d)∧S 2= .ptr id 0 0∧S 148= .imm 6 (Fm.rows kids)∧S 149= .sc (.int .i64 kids.length)∧ ∃ k n':Nat,S 150= .sc (.int .i64 k)∧k≤kids.length∧c=kids.length-k∧n'≤4096∧GrowX h id (cntO n') h'∧F=shapedMs (kids.drop k) (d+1) n') kids.length ?_ ?_
     ·simp only[Ty.w,simprocAttr,g1,g2];exact⟨0,n0,rfl,by omega,rfl,hn0,hG,hFe⟩
     ·(try clear zz);clear g1 g2 g3 hG hFe;rintro c S h' ⟨g1,g2,g148,g149,k,n',g150,hk,rfl,hn',hG,hFe⟩;by_cases hlt:k<kids.length
      ·have hdk:decide ((k:Int)<(kids.length:Int))=true:=(by simp;omega);have w7:IntKind.i64.wrap ((k:Int)+1)=k+1:=(by rw[wrap64 (by omega) (by omega)]);obtain⟨x,hx⟩: ∃ x,kids[k]? =some x:=⟨_,List.getElem?_eq_getElem hlt⟩;have hmem:=List.mem_of_getElem? hx;have hr:=Fm.rows_get hx;have hne:id≠h'.next:=by have:=hG.le;omega
       have hcx:=ih x hmem (hks x hmem) (d+1) n' (by omega) hn' id ((h'.new (.arr 6 [[.sc (.string ⟨#[]⟩),.sc (.string ⟨#[]⟩),.sc (.slice none 0 0),.sc (.slice none 0 0),.sc (.slice none 0 0),.sc (.slice none 0 0)]])).set h'.next (.arr 6 [x.cells])) (by simp only[Heap.set,Heap.new];rw[if_neg hne,if_neg hne];exact hG.at_);have hG2:GrowX h id (cntO n') ((h'.new (.arr 6 [[.sc (.string ⟨#[]⟩),.sc (.string ⟨#[]⟩),.sc (.slice none 0 0),.sc (.slice none 0 0),.sc (.slice none 0 0),.sc (.slice none 0 0)]])).set h'.next (.arr 6 [x.cells])):=(hG.new hid).set hid hG.le;have hle:=shapedM_le x (d+1) n';rw[drop_get hx]at hFe;simp only[shapedMs]at hFe;generalize shapedM x (d+1) n'=V at hcx hle hFe;obtain⟨b,n''⟩:=V;simp only[natc]at hcx hle hFe;obtain⟨xo,xn,xa,xp,xe,xk⟩:=x;simp only[Fm.cells]at hr hcx hG2;replace zz:=uu g1 (uu g2 (uu g148 (uu g149 (uu g150 (uu hdk (uu hr wd))))));(repeat'(first|refine a_seq fun K hK=>?_|refine uR zz ?_|refine uK ?_|refine uC1 zz ?_|(refine uN hK ?_;clear hK)|apply zI));refine owp_useH (hcx) (by(try simp only[Ty.w,simprocAttr,g1,g2,g148,g149,g150,hr,wd]);try rfl) ?_;simp(maxSteps:=2000000) only[Ty.w,simprocAttr,g1,g2,g148,g149,g150,hr,wd];cases b with
       |false=>
        simp only at hFe;subst hFe;replace zz:=uu g1 (uu g2 (uu g148 (uu g149 (uu g150 @Bool.not_false))));(repeat'(first|refine a_seq fun K hK=>?_|refine uR zz ?_|refine uT zz ?_|(refine uN hK ?_;clear hK)|apply zI));first|exact hG2.put|exact⟨rfl,hG2.put⟩
       |true=>
        simp only at hFe;replace zz:=uu g1 (uu g2 (uu g148 (uu g149 (uu g150 (uu w7 @Bool.not_true)))));(repeat'(first|refine a_block ?_|refine uR zz ?_|refine uK ?_|(refine uN hK ?_;clear hK)|apply zI));exact⟨kids.length-(k+1),by omega,k+1,n'',by simp,by omega,rfl,hle rfl,hG2.put,hFe⟩
      ·have hdk:decide ((k:Int)<(kids.length:Int))=false:=(by simp;omega);rw[List.drop_eq_nil_of_le (by omega)]at hFe;simp only[shapedMs]at hFe;subst hFe;replace zz:=uu g1 (uu g2 (uu g148 (uu g149 (uu g150 hdk))));(repeat'(first|refine a_seq fun K hK=>?_|refine uR zz ?_|refine uT zz ?_|refine uX ?_|refine uC1 zz ?_|(refine uN hK ?_;clear hK)|(clear hK;refine uN hK ?_;clear hK)|apply zI));first|exact hG|exact⟨rfl,hG⟩
end Go.Proofs.YtjeolbgpllbemaaGreat
namespace Go.AM
mutual
def Fm.small:Fm→Prop
 | .mk _ _ args params exprs kids=>args.length≤1048576∧params.length≤1048576∧Ex.smalls exprs∧kids.length≤1048576∧Fm.smalls kids
def Fm.smalls:List Fm→Prop
 |[]=>True
 |k::ks=>k.small∧Fm.smalls ks
end
theorem Fm.smalls_iff:{l:List Fm}→(Fm.smalls l↔ ∀ k∈l,k.small)
 |[]=>by simp[Fm.smalls]
 |k::ks=>by simp[Fm.smalls,Fm.smalls_iff (l:=ks)]
end Go.AM
namespace Go.Proofs.YtjeolbgpllbemaaGreat
open Go.AM
set_option maxHeartbeats 4000000
set_option maxRecDepth 20000
structure WrI(h:Heap)(L:List Sx)(h':Heap):Prop where
 grow:Grow h h'
 ex: ∃ p H,h.next+1<h'.next∧h'.obj h.next=some (.arr 6 [[.sc (.int .i64 0),.sc (.int .i64 0),.sc (.int .i64 0),.sc (.int .i64 0),.sc (.string ⟨#[]⟩),.sc (.slice none 0 0)]])∧
  h'.obj (h.next+1)=some (.arr 6 [[.sc (.int .i64 3),.sc (.int .i64 0),.sc (.int .i64 0),.sc (.int .i64 0),.sc (.string ⟨#[]⟩),p]])∧Tl h' (h.next+2) 6 p (Sx.rows L)∧
  isTail h' p=some (H,Sx.rows L)∧zOk h' 6 p=true∧H.next=h'.next∧(∀ j,j<h.next+2→H.obj j=h'.obj j)∧Grow h H∧p.cells=[p]∧oneC p=true
theorem WrI.mk2{h h':Heap}{L:List Sx}{p:PV}(g:Grow h h')(hn:h.next+1<h'.next)(o1:h'.obj h.next=some (.arr 6 [[.sc (.int .i64 0),.sc (.int .i64 0),.sc (.int .i64 0),.sc (.int .i64 0),.sc (.string ⟨#[]⟩),.sc (.slice none 0 0)]]))(o2:h'.obj (h.next+1)=some (.arr 6 [[.sc (.int .i64 3),.sc (.int .i64 0),.sc (.int .i64 0),.sc (.int .i64 0),.sc (.string ⟨#[]⟩),p]]))(tl:Tl h' (h.next+2) 6 p (Sx.rows L)):WrI h L h':=by
 obtain⟨H,t1,t2,t3,t4,t5⟩:=tl.tail;have hk:=t5 h ⟨g.le,g.old⟩ (by omega);refine⟨g,p,H,hn,o1,o2,tl,t1,t2,t3,t4,⟨hk.1,hk.2⟩,?_,?_⟩
 ·rcases tl with⟨_,rfl|rfl⟩|⟨_,_,_,rfl,_⟩<;>rfl
 ·rcases tl with⟨_,rfl|rfl⟩|⟨_,_,_,rfl,_⟩<;>rfl
theorem Tl.low{h:Heap}{a b z:Nat}{p:PV}{rows:List (List PV)}(t:Tl h a z p rows)(hab:b≤a):Tl h b z p rows:=by
 rcases t with ht|⟨id,h1,h2⟩
 ·exact .inl ht
 ·exact .inr ⟨id,by omega,h2⟩
theorem WrI.push{h h' H:Heap}{L:List Sx}{X:Sx}{m:Nat}(hn:h.next+1<h'.next)(o1:h'.obj h.next=some (.arr 6 [[.sc (.int .i64 0),.sc (.int .i64 0),.sc (.int .i64 0),.sc (.int .i64 0),.sc (.string ⟨#[]⟩),.sc (.slice none 0 0)]]))(t3:H.next=h'.next)(t4: ∀ j,j<h.next+2→H.obj j=h'.obj j)(g:Grow h H)(hm:m=L.length+1):
  WrI h (L++[X]) ((H.new (.arr 6 (Sx.rows L++[X.cells]))).set (h.next+1) (.arr 6 [[.sc (.int .i64 3),.sc (.int .i64 0),.sc (.int .i64 0),.sc (.int .i64 0),.sc (.string ⟨#[]⟩),.own h'.next 0 m]])):=by
 have e1:Sx.rows (L++[X])=Sx.rows L++[X.cells]:=by simp[Sx.rows_map]
 have n1:¬ h.next=h.next+1:=by omega
 have n2:¬ h.next=H.next:=by omega
 refine WrI.mk2 (p:= .own h'.next 0 m) ((g.new _).set (by omega) _) (by simp only[Heap.set,Heap.new];omega) ?_ ?_ ?_;rotate_left
 ·simp only[Heap.set,if_true]
 ·rw [e1, ← t3];have:Tl (H.new (.arr 6 (Sx.rows L++[X.cells]))) (h.next+2) 6 (.own H.next 0 m) (Sx.rows L++[X.cells]):=Tl.grow (by omega) (by rw[hm];simp[Sx.rows_len]);exact this.up (Nat.le_refl _) (fun j hj _=>by simp only[Heap.set];rw[if_neg (by omega)])
 ·simp only[Heap.set,Heap.new,n1,n2,if_false];rw[t4 _ (by omega)];exact o1
theorem a_heap{P:Program}{ow:Nat→Bool}{wf:FuncId→Bool}{n:Nat}{Q:Post}{s:Slots}{h0:Heap}{c:Code}(I:Heap→Prop)(hi:I h0)(hh: ∀ h',I h'→awp P ow wf n c Q s h'):awp P ow wf n c Q s h0:=hh _ hi
theorem write_c: ∀ f:Fm,f.small→shapedF f=true→ ∀ h:Heap,PCall Tryz.prog 58 [.agg f.cells] h fun r h'=>r= .agg (fmW f).cells∧h'=h:=by
 refine Fm.ind ?_;intro op name args params exprs kids ih hsm hsh h;simp only[Fm.small]at hsm;obtain⟨hal,hpl,hes,hkl,hks⟩:=hsm;rw[Ex.smalls_iff]at hes;rw[Fm.smalls_iff]at hks;simp only[shapedF,Bool.and_eq_true]at hsh;obtain⟨⟨hpo,hse⟩,hsk⟩:=hsh;rw[shapedFs_iff]at hsk;rw[List.all_eq_true]at hse;have hlK:=Fm.rows_len kids;unfold fmW;refine PCall.frz Ty.hb_58 ?_;cases k1:(op.data.toList==(#[97,116,111,109]:Array UInt8).toList)with
 |true=>
  rw[if_pos (show bEq op opAtom=true from k1)];have hw: ∀ h:Heap,PCall Tryz.prog 98 [sPV name,.imm 1 (strRows args)] h fun r h'=>r= .agg (wordsM name args).cells∧h'=h:=fun h=>words_c hal;have hfz:=fun(n:Nat)(h:Heap)=>sx_frz n h (wordsM name args);simp only[Fm.cells];generalize wordsM name args=X at hw hfz⊢;obtain⟨ki,va,li,co,te,ks⟩:=X;simp only[Sx.cells]at hw hfz⊢;refine uG0 Tryz.func58 Tryz.ntmps58 Tryz.results58 Ty.hb_58 ?_;repeat'(first|refine a_seq fun K hK=>?_|refine uR k1 ?_|(refine uN hK ?_;clear hK)|apply zI)
  refine uU k1 (hw _) ?_;repeat'(first|refine uT trivial ?_|(refine uN hK ?_;clear hK)|apply zI)
  refine⟨?_,((Grow.refl h).new _).set (Nat.le_refl _) _⟩;simp only[FrzTo];exact⟨_,rfl,hfz _ _⟩
 |false=>
  cases k2:(op.data.toList==(#[115,97,109,101]:Array UInt8).toList)with
  |true=>
   rw[if_neg (by rw[(show bEq op opAtom=false from k1)];simp)];rw[if_pos (show bEq op opSame=true from k2)];have hw: ∀ h:Heap,PCall Tryz.prog 98 [sPV ⟨#[61]⟩,.imm 1 (strRows args)] h fun r h'=>r= .agg (wordsM opEq args).cells∧h'=h:=fun h=>words_c hal;have hfz:=fun(n:Nat)(h:Heap)=>sx_frz n h (wordsM opEq args);simp only[Fm.cells];generalize wordsM opEq args=X at hw hfz⊢;obtain⟨ki,va,li,co,te,ks⟩:=X;simp only[Sx.cells]at hw hfz⊢;refine uG0 Tryz.func58 Tryz.ntmps58 Tryz.results58 Ty.hb_58 ?_;(repeat'(first|refine a_seq fun K hK=>?_|refine uR (uu k1 k2) ?_|(refine uN hK ?_;clear hK)|apply zI));refine uU (uu k1 k2) (hw _) ?_;(repeat'(first|refine uT trivial ?_|(refine uN hK ?_;clear hK)|apply zI));refine⟨?_,((Grow.refl h).new _).set (Nat.le_refl _) _⟩;simp only[FrzTo];exact⟨_,rfl,hfz _ _⟩
  |false=>
   rw[if_neg (by rw[(show bEq op opAtom=false from k1)];simp),if_neg (by rw[(show bEq op opSame=false from k2)];simp)];cases k3:(op.data.toList==(#[60]:Array UInt8).toList)with
   |true=>
    rw[if_pos (by simp[isCmp,(show bEq op opAtom=false from k1),(show bEq op opSame=false from k2),(show bEq op opLt=true from k3)])];have hx2:exprs.length=2:=(by have q:=hpo;simp[partsOk,shapeOf,(show bEq op opAtom=false from k1),(show bEq op opSame=false from k2),(show bEq op opLt=true from k3)]at q;omega);obtain⟨a,b,rfl⟩: ∃ a b,exprs=[a,b]:=by
     match exprs,hx2 with
     |[a,b],_=>exact⟨a,b,rfl⟩
    have ca:=writeE_c a (hes a (by simp)) (hse a (by simp));have cb:=writeE_c b (hes b (by simp)) (hse b (by simp));have hw:=fun h:Heap=>word_c (h:=h) (s:=op);simp only[List.map_cons,List.map_nil];have hfz:=fun(n:Nat)(h:Heap)=>sx_frz n h (listM [wordM op,exW a,exW b]);have hl:=fun h:Heap=>list_c (h:=h) (p:= .imm 6 (Sx.rows [wordM op,exW a,exW b])) rfl (fun _=>frz_imm (sxs_in _ _));generalize exW a=xa at ca hfz hl⊢;generalize exW b=xb at cb hfz hl⊢;(try clear zz);clear ih hks hpo hse hsk hes;obtain⟨aop,aname,an,aargs,akids⟩:=a;obtain⟨bop,bname,bn,bargs,bkids⟩:=b;obtain⟨ki,va,li,co,te,ks⟩:=xa;obtain⟨ki2,va2,li2,co2,te2,ks2⟩:=xb;simp only[Fm.cells,Ex.cells,Ex.rows,listM,Sx.cells,Sx.rows,wordM]at ca cb hw hfz hl⊢;refine uG0 Tryz.func58 Tryz.ntmps58 Tryz.results58 Ty.hb_58 ?_;replace zz:=uu k1 (uu k2 k3);(repeat'(first|refine a_seq fun K hK=>?_|refine uR zz ?_|refine uD zz ?_|refine uK ?_|refine uC1 zz ?_|(refine uN hK ?_;clear hK)|apply zI));(first|refine uV trivial (hw _) ?_|refine uA trivial (hw _) ?_);(try apply zI);(first|refine uV trivial (ca _) ?_|refine uA trivial (ca _) ?_);(try apply zI);(first|refine uV trivial (cb _) ?_|refine uA trivial (cb _) ?_);(try apply zI);(first|refine uV trivial (hl _) ?_|refine uA trivial (hl _) ?_);(repeat'(first|refine uT trivial ?_|(refine uN hK ?_;clear hK)|refine uB trivial ?_|apply zI));refine⟨?_,((Grow.refl h).new _).set (Nat.le_refl _) _⟩;simp only[FrzTo];exact⟨_,rfl,hfz _ _⟩
   |false=>
    cases k4:(op.data.toList==(#[60,61]:Array UInt8).toList)with
    |true=>
     rw[if_pos (by simp[isCmp,(show bEq op opAtom=false from k1),(show bEq op opSame=false from k2),(show bEq op opLt=false from k3),(show bEq op opLe=true from k4)])];have hx2:exprs.length=2:=(by have q:=hpo;simp[partsOk,shapeOf,(show bEq op opAtom=false from k1),(show bEq op opSame=false from k2),(show bEq op opLt=false from k3),(show bEq op opLe=true from k4)]at q;omega);obtain⟨a,b,rfl⟩: ∃ a b,exprs=[a,b]:=by
      match exprs,hx2 with
      |[a,b],_=>exact⟨a,b,rfl⟩
     have ca:=writeE_c a (hes a (by simp)) (hse a (by simp));have cb:=writeE_c b (hes b (by simp)) (hse b (by simp));have hw:=fun h:Heap=>word_c (h:=h) (s:=op);simp only[List.map_cons,List.map_nil];have hfz:=fun(n:Nat)(h:Heap)=>sx_frz n h (listM [wordM op,exW a,exW b]);have hl:=fun h:Heap=>list_c (h:=h) (p:= .imm 6 (Sx.rows [wordM op,exW a,exW b])) rfl (fun _=>frz_imm (sxs_in _ _));generalize exW a=xa at ca hfz hl⊢;generalize exW b=xb at cb hfz hl⊢;(try clear zz);clear ih hks hpo hse hsk hes;obtain⟨aop,aname,an,aargs,akids⟩:=a;obtain⟨bop,bname,bn,bargs,bkids⟩:=b;obtain⟨ki,va,li,co,te,ks⟩:=xa;obtain⟨ki2,va2,li2,co2,te2,ks2⟩:=xb;simp only[Fm.cells,Ex.cells,Ex.rows,listM,Sx.cells,Sx.rows,wordM]at ca cb hw hfz hl⊢;refine uG0 Tryz.func58 Tryz.ntmps58 Tryz.results58 Ty.hb_58 ?_;replace zz:=uu k1 (uu k2 (uu k3 k4));(repeat'(first|refine a_seq fun K hK=>?_|refine uR zz ?_|refine uD zz ?_|refine uK ?_|refine uC1 zz ?_|(refine uN hK ?_;clear hK)|apply zI));(first|refine uV trivial (hw _) ?_|refine uA trivial (hw _) ?_);(try apply zI);(first|refine uV trivial (ca _) ?_|refine uA trivial (ca _) ?_);(try apply zI);(first|refine uV trivial (cb _) ?_|refine uA trivial (cb _) ?_);(try apply zI);(first|refine uV trivial (hl _) ?_|refine uA trivial (hl _) ?_);(repeat'(first|refine uT trivial ?_|(refine uN hK ?_;clear hK)|refine uB trivial ?_|apply zI));refine⟨?_,((Grow.refl h).new _).set (Nat.le_refl _) _⟩;simp only[FrzTo];exact⟨_,rfl,hfz _ _⟩
    |false=>
     cases k5:(op.data.toList==(#[61]:Array UInt8).toList)with
     |true=>
      rw[if_pos (by simp[isCmp,(show bEq op opAtom=false from k1),(show bEq op opSame=false from k2),(show bEq op opLt=false from k3),(show bEq op opLe=false from k4),(show bEq op opEq=true from k5)])];have hx2:exprs.length=2:=(by have q:=hpo;simp[partsOk,shapeOf,(show bEq op opAtom=false from k1),(show bEq op opSame=false from k2),(show bEq op opLt=false from k3),(show bEq op opLe=false from k4),(show bEq op opEq=true from k5)]at q;omega);obtain⟨a,b,rfl⟩: ∃ a b,exprs=[a,b]:=by
       match exprs,hx2 with
       |[a,b],_=>exact⟨a,b,rfl⟩
      have ca:=writeE_c a (hes a (by simp)) (hse a (by simp));have cb:=writeE_c b (hes b (by simp)) (hse b (by simp));have hw:=fun h:Heap=>word_c (h:=h) (s:=op);simp only[List.map_cons,List.map_nil];have hfz:=fun(n:Nat)(h:Heap)=>sx_frz n h (listM [wordM op,exW a,exW b]);have hl:=fun h:Heap=>list_c (h:=h) (p:= .imm 6 (Sx.rows [wordM op,exW a,exW b])) rfl (fun _=>frz_imm (sxs_in _ _));generalize exW a=xa at ca hfz hl⊢;generalize exW b=xb at cb hfz hl⊢;(try clear zz);clear ih hks hpo hse hsk hes;obtain⟨aop,aname,an,aargs,akids⟩:=a;obtain⟨bop,bname,bn,bargs,bkids⟩:=b;obtain⟨ki,va,li,co,te,ks⟩:=xa;obtain⟨ki2,va2,li2,co2,te2,ks2⟩:=xb;simp only[Fm.cells,Ex.cells,Ex.rows,listM,Sx.cells,Sx.rows,wordM]at ca cb hw hfz hl⊢;refine uG0 Tryz.func58 Tryz.ntmps58 Tryz.results58 Ty.hb_58 ?_;replace zz:=uu k1 (uu k2 (uu k3 (uu k4 k5)));(repeat'(first|refine a_seq fun K hK=>?_|refine uR zz ?_|refine uD zz ?_|refine uC1 zz ?_|(refine uN hK ?_;clear hK)|apply zI));(first|refine uV trivial (hw _) ?_|refine uA trivial (hw _) ?_);(try apply zI);(first|refine uV trivial (ca _) ?_|refine uA trivial (ca _) ?_);(try apply zI);(first|refine uV trivial (cb _) ?_|refine uA trivial (cb _) ?_);(try apply zI);(first|refine uV trivial (hl _) ?_|refine uA trivial (hl _) ?_);(repeat'(first|refine uT trivial ?_|(refine uN hK ?_;clear hK)|refine uB trivial ?_|apply zI));refine⟨?_,((Grow.refl h).new _).set (Nat.le_refl _) _⟩;simp only[FrzTo];exact⟨_,rfl,hfz _ _⟩
     |false=>
      rw[if_neg (by simp[isCmp,(show bEq op opLt=false from k3),(show bEq op opLe=false from k4),(show bEq op opEq=false from k5)])];(try clear zz);clear hse hes hpo;simp only[Fm.cells];refine uG0 Tryz.func58 Tryz.ntmps58 Tryz.results58 Ty.hb_58 ?_;replace zz:=uu k1 (uu k2 (uu k3 (uu k4 k5)));(repeat'(first|refine a_seq fun K hK=>?_|refine a_block ?_|refine uR zz ?_|refine uK ?_|refine uC1 zz ?_|(refine uN hK ?_;clear hK)|apply zI));refine uU k1 (list_c (p:= .sc (.slice none 0 0)) rfl (fun _=>by simp only[FrzTo])) ?_;(repeat'(first|with_reducible refine a_hold 11 ?_|(refine uN hK ?_;clear hK)|apply zI));refine⟨?_⟩;refine a_heap (WrI h []) ?_ (fun H0 hI=>?_)
      ·refine WrI.mk2 (p:= .sc (.slice none 0 0)) ((((Grow.refl h).new _).new _).set (by omega) _) (by simp[Heap.new,Heap.set]) (by simp[Heap.new,Heap.set]) (by simp[Heap.new,Heap.set]) Tl.nil
      refine a_cut (fun S h'=>S 1= .cptr (Fm.mk op name args params exprs kids).cells∧S 2= .ptr h.next 0 0∧S 3= .ptr (h.next+1) 0 0∧WrI h (if(bEq op opAnd&&kids.isEmpty)=true then[]else[wordM op]) h') ?_ ?_
      ·have n6:bEq op opAnd=(op.data.toList==(#[97,110,100]:Array UInt8).toList):=rfl;cases k6:(op.data.toList==(#[97,110,100]:Array UInt8).toList)with
       |false=>
        rw[if_neg (by rw[n6,k6];simp)];obtain⟨hg,p,H,hn,o1,o2,tl,t1,t2,t3,t4,hgH,hpc,hp1⟩:=hI;have hw: ∀ (s:ByteArray)(h:Heap),PCall Tryz.prog 63 [sPV s] h fun r h'=>r= .agg (wordM s).cells∧h'=h:=fun s h=>word_c;simp only[wordM,Sx.cells,Sx.rows]at hw;have o2H:H.obj (h.next+1)=_:=(t4 _ (by omega)).trans o2;have n2:(h.next+1=H.next)=False:=(by simp;omega);have hpr:(Sx.rows ([]:List Sx)).length=0:=rfl;have hpush:=fun X:Sx=>WrI.push (L:=[]) (X:=X) (m:=1) hn o1 t3 t4 hgH rfl;generalize Sx.rows []=R at t1 hpr hpush;replace zz:=uu k6 (uu @Bool.not_false (uu o2 (uu o2H (uu n2 (uu t1 (uu t2 (uu hpr (uu hpc hp1))))))));(repeat'(first|refine a_seq fun K hK=>?_|refine uR zz ?_|refine uD zz ?_|refine uC1 zz ?_|(refine uN hK ?_;clear hK)|apply zI));replace zz:=uu k6 (uu @Bool.not_false (uu o2 o2H));(first|refine uV zz (hw op _) ?_|refine uA zz (hw op _) ?_);replace zz:=uu k6 (uu @Bool.not_false (uu o2 (uu o2H (uu n2 (uu t1 (uu t2 (uu hpr (uu hpc hp1))))))));repeat'(first|refine uB zz ?_|(rw[if_pos];rotate_left 1;omega;simp(maxSteps:=2000000) only[Ty.w,simprocAttr,k6,Bool.not_false,o2,o2H,n2,t1,t2,hpr,hpc,hp1])|apply zI)
        (simp(maxSteps:=2000000) only[Ty.w,simprocAttr,Ty.all,Fm.cells])
        exact hpush (wordM op)
       |true=>
        cases q6:decide ((kids.length:Int)>0)with
        |false=>
         have hk0:kids.isEmpty=true:=(by cases kids with|nil=>rfl|cons a l=>simp at q6);rw[if_pos (by rw[n6,k6,hk0];try rfl)];replace zz:=uu k6 (uu q6 (uu hlK @Bool.not_true));repeat'(first|refine a_seq fun K hK=>?_|refine uR zz ?_|refine uK ?_|refine uC1 zz ?_|(refine uN hK ?_;clear hK)|apply zI)
         (simp(maxSteps:=2000000) only[Ty.w,simprocAttr,Ty.all,Fm.cells])
         exact hI
        |true=>
         have hk0:kids.isEmpty=false:=(by cases kids with|nil=>simp at q6|cons a l=>rfl);rw[if_neg (by rw[hk0];simp)];obtain⟨hg,p,H,hn,o1,o2,tl,t1,t2,t3,t4,hgH,hpc,hp1⟩:=hI;have hw: ∀ (s:ByteArray)(h:Heap),PCall Tryz.prog 63 [sPV s] h fun r h'=>r= .agg (wordM s).cells∧h'=h:=fun s h=>word_c;simp only[wordM,Sx.cells,Sx.rows]at hw;have o2H:H.obj (h.next+1)=_:=(t4 _ (by omega)).trans o2;have n2:(h.next+1=H.next)=False:=(by simp;omega);have hpr:(Sx.rows ([]:List Sx)).length=0:=rfl;have hpush:=fun X:Sx=>WrI.push (L:=[]) (X:=X) (m:=1) hn o1 t3 t4 hgH rfl;generalize Sx.rows []=R at t1 hpr hpush;replace zz:=uu k6 (uu q6 (uu hlK (uu @Bool.not_true (uu o2 (uu o2H (uu n2 (uu t1 (uu t2 (uu hpr (uu hpc hp1))))))))));(repeat'(first|refine a_seq fun K hK=>?_|refine uR zz ?_|refine uD zz ?_|refine uC1 zz ?_|(refine uN hK ?_;clear hK)|apply zI));replace zz:=uu k6 (uu q6 (uu hlK (uu @Bool.not_true (uu o2 o2H))));(first|refine uV zz (hw op _) ?_|refine uA zz (hw op _) ?_);replace zz:=uu k6 (uu q6 (uu hlK (uu @Bool.not_true (uu o2 (uu o2H (uu n2 (uu t1 (uu t2 (uu hpr (uu hpc hp1))))))))));repeat'(first|refine uB zz ?_|(rw[if_pos];rotate_left 1;omega;simp(maxSteps:=2000000) only[Ty.w,simprocAttr,k6,q6,hlK,Bool.not_true,o2,o2H,n2,t1,t2,hpr,hpc,hp1])|apply zI)
         (simp(maxSteps:=2000000) only[Ty.w,simprocAttr,Ty.all,Fm.cells])
         exact hpush (wordM op)
      ·(try clear zz);clear hI;obtain⟨L0,hL0,hl0⟩: ∃ L0:List Sx,(if(bEq op opAnd&&kids.isEmpty)=true then[]else[wordM op])=L0∧L0.length≤1:=⟨_,rfl,by split<;>simp⟩;rw[hL0];rintro S h' ⟨g1,g2,g3,hI⟩;simp only[Fm.cells]at g1;(repeat'(first|with_reducible refine a_hold 13 ?_|apply zI));refine⟨?_⟩;refine a_cut (fun S h'=>S 1= .cptr (Fm.mk op name args params exprs kids).cells∧S 2= .ptr h.next 0 0∧S 3= .ptr (h.next+1) 0 0∧WrI h (L0++(if isQ op=true then[listM (paramsW params)]else[])) h') ?_ ?_
       ·have n7:bEq op opAll=(op.data.toList==(#[102,111,114,97,108,108]:Array UInt8).toList):=rfl;have n8:bEq op opSome=(op.data.toList==(#[101,120,105,115,116,115]:Array UInt8).toList):=rfl;cases k7:(op.data.toList==(#[102,111,114,97,108,108]:Array UInt8).toList)with
        |true=>
         rw[if_pos (by simp[isQ,n7,n8,k7])];obtain⟨hg,p,H,hn,o1,o2,tl,t1,t2,t3,t4,hgH,hpc,hp1⟩:=hI;have hwp:=writeParams_c (l:=params) hpl;have hli: ∀ h:Heap,PCall Tryz.prog 99 [.imm 6 (Sx.rows (paramsW params))] h fun r h'=>r= .agg (listM (paramsW params)).cells∧h'=h:=fun h=>list_c rfl (fun _=>frz_imm (sxs_in _ _));generalize hX:listM (paramsW params)=X at hli⊢;(try clear zz);clear hX;generalize Sx.rows (paramsW params)=PR at hwp hli;have o2H:H.obj (h.next+1)=_:=(t4 _ (by omega)).trans o2;have n2:(h.next+1=H.next)=False:=(by simp;omega);have hpr:=Sx.rows_len L0;have hpush:=WrI.push (L:=L0) (X:=X) (m:=L0.length+1) hn o1 t3 t4 hgH rfl;generalize Sx.rows L0=R at t1 hpr hpush;have hb:(L0.length+1)*72≤140737488355328:=(by omega);obtain⟨ki,va,li,co,te,ks⟩:=X;simp only[Sx.cells]at hli hpush;replace zz:=uu g1 (uu g2 (uu g3 (uu k7 (uu o2 (uu o2H (uu n2 (uu t1 (uu t2 (uu hpr (uu hpc (uu hp1 hb)))))))))));(repeat'(first|refine a_seq fun K hK=>?_|refine uR zz ?_|refine uD zz ?_|refine uC1 zz ?_|(refine uN hK ?_;clear hK)|apply zI));replace zz:=uu g1 (uu g2 (uu g3 (uu k7 (uu o2 o2H))));(first|refine uV zz (hwp _) ?_|refine uA zz (hwp _) ?_);(try apply zI);(first|refine uV zz (hli _) ?_|refine uA zz (hli _) ?_);replace zz:=uu g1 (uu g2 (uu g3 (uu k7 (uu o2 (uu o2H (uu n2 (uu t1 (uu t2 (uu hpr (uu hpc (uu hp1 hb)))))))))));repeat'(first|refine uB zz ?_|(rw[if_pos];rotate_left 1;omega;simp(maxSteps:=2000000) only[Ty.w,simprocAttr,g1,g2,g3,k7,o2,o2H,n2,t1,t2,hpr,hpc,hp1,hb])|apply zI)
         (simp(maxSteps:=2000000) only[Ty.w,simprocAttr,Ty.all,g1,g2,g3,Fm.cells])
         exact hpush
        |false=>
         cases k8:(op.data.toList==(#[101,120,105,115,116,115]:Array UInt8).toList)with
         |true=>
          rw[if_pos (by simp[isQ,n7,n8,k8])];obtain⟨hg,p,H,hn,o1,o2,tl,t1,t2,t3,t4,hgH,hpc,hp1⟩:=hI;have hwp:=writeParams_c (l:=params) hpl;have hli: ∀ h:Heap,PCall Tryz.prog 99 [.imm 6 (Sx.rows (paramsW params))] h fun r h'=>r= .agg (listM (paramsW params)).cells∧h'=h:=fun h=>list_c rfl (fun _=>frz_imm (sxs_in _ _));generalize hX:listM (paramsW params)=X at hli⊢;(try clear zz);clear hX;generalize Sx.rows (paramsW params)=PR at hwp hli;have o2H:H.obj (h.next+1)=_:=(t4 _ (by omega)).trans o2;have n2:(h.next+1=H.next)=False:=(by simp;omega);have hpr:=Sx.rows_len L0;have hpush:=WrI.push (L:=L0) (X:=X) (m:=L0.length+1) hn o1 t3 t4 hgH rfl;generalize Sx.rows L0=R at t1 hpr hpush;have hb:(L0.length+1)*72≤140737488355328:=(by omega);obtain⟨ki,va,li,co,te,ks⟩:=X;simp only[Sx.cells]at hli hpush;replace zz:=uu g1 (uu g2 (uu g3 (uu k7 (uu k8 (uu o2 (uu o2H (uu n2 (uu t1 (uu t2 (uu hpr (uu hpc (uu hp1 hb))))))))))));(repeat'(first|refine a_seq fun K hK=>?_|refine uR zz ?_|refine uD zz ?_|refine uC1 zz ?_|(refine uN hK ?_;clear hK)|apply zI));replace zz:=uu g1 (uu g2 (uu g3 (uu k7 (uu k8 (uu o2 o2H)))));(first|refine uV zz (hwp _) ?_|refine uA zz (hwp _) ?_);(try apply zI);(first|refine uV zz (hli _) ?_|refine uA zz (hli _) ?_);replace zz:=uu g1 (uu g2 (uu g3 (uu k7 (uu k8 (uu o2 (uu o2H (uu n2 (uu t1 (uu t2 (uu hpr (uu hpc (uu hp1 hb))))))))))));repeat'(first|refine uB zz ?_|(rw[if_pos];rotate_left 1;omega;simp(maxSteps:=2000000) only[Ty.w,simprocAttr,g1,g2,g3,k7,k8,o2,o2H,n2,t1,t2,hpr,hpc,hp1,hb])|apply zI)
          (simp(maxSteps:=2000000) only[Ty.w,simprocAttr,Ty.all,g1,g2,g3,Fm.cells])
          exact hpush
         |false=>
          rw[if_neg (by simp[isQ,n7,n8,k7,k8]),List.append_nil];replace zz:=uu g1 (uu g2 (uu g3 (uu k7 k8)));repeat'(first|refine a_seq fun K hK=>?_|refine uR zz ?_|refine uK ?_|refine uC1 zz ?_|(refine uN hK ?_;clear hK)|apply zI)
          (simp(maxSteps:=2000000) only[Ty.w,simprocAttr,Ty.all,g1,g2,g3,Fm.cells])
          exact hI
       ·(try clear zz);clear hI g1 g2 g3;obtain⟨L1,hL1,hl1⟩: ∃ L1:List Sx,L0++(if isQ op=true then[listM (paramsW params)]else[])=L1∧L1.length≤2:=⟨_,rfl,by split<;>simp<;>omega⟩;rw[hL1];rw[fmWs_map];(try clear zz);clear hL1 hL0 hl0;rintro S h' ⟨g1,g2,g3,hI⟩;simp only[Fm.cells]at g1;have hrl: ∀ k,(L1++(kids.take k).map fmW).length≤1048578:=fun k=>(by simp;omega);replace zz:=uu g1 (uu g2 (uu g3 hlK));(repeat'(first|refine a_seq fun K hK=>?_|refine a_block ?_|refine uR zz ?_|(refine uN hK ?_;clear hK)|apply zI));refine a_loop (fun c S h'=>S 2= .ptr h.next 0 0∧S 3= .ptr (h.next+1) 0 0∧S 75= .imm 6 (Fm.rows kids)∧S 76= .sc (.int .i64 kids.length)∧ ∃ k:Nat,S 77= .sc (.int .i64 k)∧k≤kids.length∧c=kids.length-k∧WrI h (L1++(kids.take k).map fmW) h') kids.length ?_ ?_
        ·simp only[Ty.w,simprocAttr,g2,g3];refine⟨0,rfl,by omega,rfl,?_⟩;simpa using hI
        ·(try clear zz);clear hI g1 g2 g3;rintro c S h' ⟨g2,g3,g75,g76,k,g77,hk,rfl,hI⟩;by_cases hlt:k<kids.length
         ·have hdk:decide ((k:Int)<(kids.length:Int))=true:=(by simp;omega);have w7:IntKind.i64.wrap ((k:Int)+1)=k+1:=(by rw[wrap64 (by omega) (by omega)]);obtain⟨x,hx⟩: ∃ x,kids[k]? =some x:=⟨_,List.getElem?_eq_getElem hlt⟩;have hmem:=List.mem_of_getElem? hx;have hr:=Fm.rows_get hx;have hcx:=ih x hmem (hks x hmem) (hsk x hmem);have hL:L1++(kids.take (k+1)).map fmW=L1++(kids.take k).map fmW++[fmW x]:=(by rw[List.take_add_one,hx];simp);have hrk:=hrl k;generalize L1++(kids.take k).map fmW=L2 at hI hrk hL;obtain⟨hg,p,H,hn,o1,o2,tl,t1,t2,t3,t4,hgH,hpc,hp1⟩:=hI;generalize fmW x=X at hcx hL;obtain⟨xo,xn,xa,xp,xe,xk⟩:=x;obtain⟨ki,va,li,co,te,ks⟩:=X;simp only[Fm.cells,Sx.cells]at hr hcx;(try clear zz);clear t1 t2 t3 t4 hgH H;have hG2:Grow h ((h'.new (.arr 6 [[.sc (.string ⟨#[]⟩),.sc (.string ⟨#[]⟩),.sc (.slice none 0 0),.sc (.slice none 0 0),.sc (.slice none 0 0),.sc (.slice none 0 0)]])).set h'.next (.arr 6 [[sPV xo,sPV xn,.imm 1 (strRows xa),.imm 2 (pmRows xp),.imm 5 (Ex.rows xe),.imm 6 (Fm.rows xk)]])):=(hg.new _).set hg.le _;have m1:¬ h.next=h'.next:=by omega
          have m2:¬ h.next+1=h'.next:=by omega
          have m2':(h.next+1=h'.next)=False:=eq_false m2;have tl2:=tl.up (h':=((h'.new (.arr 6 [[.sc (.string ⟨#[]⟩),.sc (.string ⟨#[]⟩),.sc (.slice none 0 0),.sc (.slice none 0 0),.sc (.slice none 0 0),.sc (.slice none 0 0)]])).set h'.next (.arr 6 [[sPV xo,sPV xn,.imm 1 (strRows xa),.imm 2 (pmRows xp),.imm 5 (Ex.rows xe),.imm 6 (Fm.rows xk)]]))) (by simp[Heap.set,Heap.new]) fun j _ hj=>(by simp only[Heap.set,Heap.new];rw[if_neg (by omega),if_neg (by omega)]);obtain⟨H,t1,t2,t3,t4,t5⟩:=tl2.tail;have hgH:=t5 h ⟨hG2.le,hG2.old⟩ (by omega);have o1x:((h'.new (.arr 6 [[.sc (.string ⟨#[]⟩),.sc (.string ⟨#[]⟩),.sc (.slice none 0 0),.sc (.slice none 0 0),.sc (.slice none 0 0),.sc (.slice none 0 0)]])).set h'.next (.arr 6 [[sPV xo,sPV xn,.imm 1 (strRows xa),.imm 2 (pmRows xp),.imm 5 (Ex.rows xe),.imm 6 (Fm.rows xk)]])).obj h.next=some (.arr 6 [[.sc (.int .i64 0),.sc (.int .i64 0),.sc (.int .i64 0),.sc (.int .i64 0),.sc (.string ⟨#[]⟩),.sc (.slice none 0 0)]]):=by simp only[Heap.set,Heap.new,m1,if_false];exact o1
          have o2H:H.obj (h.next+1)=_:=(t4 _ (by omega)).trans (show((h'.new (.arr 6 [[.sc (.string ⟨#[]⟩),.sc (.string ⟨#[]⟩),.sc (.slice none 0 0),.sc (.slice none 0 0),.sc (.slice none 0 0),.sc (.slice none 0 0)]])).set h'.next (.arr 6 [[sPV xo,sPV xn,.imm 1 (strRows xa),.imm 2 (pmRows xp),.imm 5 (Ex.rows xe),.imm 6 (Fm.rows xk)]])).obj (h.next+1)=_ by simp only[Heap.set,Heap.new,m2,if_false];exact o2);have t3':H.next=h'.next+1:=by rw[t3];simp[Heap.new,Heap.set]
          have n2:(h.next+1=H.next)=False:=(by simp;omega);have hpr:=Sx.rows_len L2;have hpush:=WrI.push (h':=((h'.new (.arr 6 [[.sc (.string ⟨#[]⟩),.sc (.string ⟨#[]⟩),.sc (.slice none 0 0),.sc (.slice none 0 0),.sc (.slice none 0 0),.sc (.slice none 0 0)]])).set h'.next (.arr 6 [[sPV xo,sPV xn,.imm 1 (strRows xa),.imm 2 (pmRows xp),.imm 5 (Ex.rows xe),.imm 6 (Fm.rows xk)]]))) (L:=L2) (X:= .mk ki va li co te ks) (m:=L2.length+1) (by simp only[Heap.set,Heap.new];omega) o1x t3 t4 ⟨hgH.1,hgH.2⟩ rfl;have hb:(L2.length+1)*72≤140737488355328:=(by omega);simp only[Sx.cells]at hpush;(try clear zz);clear tl tl2 t5;generalize Sx.rows L2=R at t1 hpr hpush;replace zz:=uu g2 (uu g3 (uu g75 (uu g76 (uu g77 (uu hdk (uu hr (uu m2' (uu o2 (uu o2H (uu n2 (uu t1 (uu t2 (uu hpr (uu hpc (uu hp1 hb)))))))))))))));(repeat'(first|refine a_seq fun K hK=>?_|refine uR zz ?_|refine uE zz fun K hK=>?_|refine uK ?_|refine uC1 zz ?_|(refine uN hK ?_;clear hK)|apply zI));replace zz:=uu g2 (uu g3 (uu g75 (uu g76 (uu g77 (uu m2' (uu o2 o2H))))));(first|refine uV zz (hcx _) ?_|refine uA zz (hcx _) ?_);replace zz:=uu g2 (uu g3 (uu g75 (uu g76 (uu g77 (uu w7 (uu m2' (uu o2 (uu o2H (uu n2 (uu t1 (uu t2 (uu hpr (uu hpc (uu hp1 hb))))))))))))));(repeat'(first|refine uR zz ?_|(refine uN hK ?_;clear hK)|refine uB zz ?_|(rw[if_pos];rotate_left 1;omega;simp(maxSteps:=2000000) only[Ty.w,simprocAttr,g2,g3,g75,g76,g77,w7,m2',o2,o2H,n2,t1,t2,hpr,hpc,hp1,hb])|apply zI));exact⟨kids.length-(k+1),by omega,k+1,by simp,by omega,rfl,by rw[hL];exact hpush⟩
         ·have hdk:decide ((k:Int)<(kids.length:Int))=false:=(by simp;omega);have hke:k=kids.length:=(by omega);subst hke;rw[List.take_length]at hI;obtain⟨hg,p,H,hn,o1,o2,tl,t1,t2,t3,t4,hgH,hpc,hp1⟩:=hI;replace zz:=uu g2 (uu g3 (uu g75 (uu g76 (uu g77 (uu hdk (uu o1 (uu o2 hpc)))))));(repeat'(first|refine a_seq fun K hK=>?_|refine uR zz ?_|refine uT zz ?_|refine uX ?_|refine uC1 zz ?_|(refine uN hK ?_;clear hK)|(clear hK;refine uN hK ?_;clear hK)|(rw[if_pos];rotate_left 1;omega;simp(maxSteps:=2000000) only[Ty.w,simprocAttr,g2,g3,g75,g76,g77,hdk,o1,o2,hpc])|apply zI));refine⟨?_,hg.set (Nat.le_refl _) _⟩;have tl2:Tl (h'.set h.next (.arr 6 [[.sc (.int .i64 3),.sc (.int .i64 0),.sc (.int .i64 0),.sc (.int .i64 0),.sc (.string ⟨#[]⟩),p]])) (h.next+2) 6 p (Sx.rows (L1++kids.map fmW)):=tl.up (Nat.le_refl _) fun j hj _=>(by simp only[Heap.set];rw[if_neg (by omega)]);simp only[listM,Sx.cells,FrzTo,FrzL];exact⟨_,rfl,rfl,rfl,rfl,rfl,rfl,by have:=tl_frzX (Tl.low tl2 (show h.next≤h.next+2 by omega));simpa only[FrzTo]using this,trivial⟩
theorem paramsW_ok: ∀ l:List Pm,(∀ p∈l,p.ok)→Sx.oks (paramsW l)
 |[],_=>by simp[paramsW,Sx.oks]
 |p::l,h=>by
  have hp:=h p (by simp);simp only[paramsW,Sx.oks];exact⟨wordM_ok hp.1,wordM_ok (by simp[bigN,ByteArray.size]),wordM_ok hp.2,paramsW_ok l fun q hq=>h q (by simp[hq])⟩
theorem parts_cmp{op name:ByteArray}{args:List ByteArray}{params:List Pm}{ne nk:Nat}(h1:¬ bEq op opAtom=true)(h2:¬ bEq op opSame=true)(h3:isCmp op=true)(hp:partsOk op name args params ne nk=true):ne=2:=by
 unfold partsOk shapeOf at hp;rw[if_neg h1,if_neg h2]at hp;simp only[isCmp,Bool.or_eq_true]at h3;by_cases k1:bEq op opLt=true
 ·simp [k1]at hp;omega
 by_cases k2:bEq op opLe=true
 ·simp [k1,k2]at hp;omega
 have k3:bEq op opEq=true:=by rcases h3 with(h3|h3)|h3<;>simp_all
 simp[k1,k2,k3]at hp;omega
theorem fmW_ok: ∀ f:Fm,f.ok→f.small→shapedF f=true→(fmW f).ok:=by
 refine Fm.ind ?_;intro op name args params exprs kids ih hok hsm hsh;simp only[Fm.ok]at hok;simp only[Fm.small]at hsm;simp only[shapedF,Bool.and_eq_true]at hsh;obtain⟨⟨hpo,_⟩,hsh⟩:=hsh;rw[shapedFs_iff]at hsh;obtain⟨hop,hname,hargs,⟨_,hps⟩,⟨_,hes⟩,_,hks⟩:=hok;obtain⟨hal,hpl,hse,hkl,hsk⟩:=hsm;rw[Fm.oks_iff]at hks;rw[Ex.oks_iff]at hes;have hse:=Ex.smalls_iff.1 hse;have hsk:=Fm.smalls_iff.1 hsk;unfold fmW;split
 ·exact wordsM_ok hname hal hargs.2
 split
 ·exact wordsM_ok (by simp[opEq,bigN,ByteArray.size]) hal hargs.2
 split
 ·rename_i c1 c2 c3;have h2:=parts_cmp c1 c2 c3 hpo;refine listM_ok (by simp only[List.length_cons,List.length_map];unfold bigN;omega) (Sx.oks_iff.2 ?_);intro k hk;simp only[List.mem_cons,List.mem_map]at hk;rcases hk with rfl|⟨e,he,rfl⟩
  ·exact wordM_ok hop
  ·exact exW_ok e (hes e he) (hse e he)
 ·rw [fmWs_map];refine listM_ok ?_ (Sx.oks_iff.2 ?_)
  ·simp only[List.length_append,List.length_map];have a1:(if(bEq op opAnd&&kids.isEmpty)=true then[]else[wordM op]).length≤1:=(by split<;>simp);have a2:(if isQ op=true then[listM (paramsW params)]else[]).length≤1:=(by split<;>simp);unfold bigN;omega
  ·intro k hk;simp only[List.mem_append,List.mem_map]at hk;rcases hk with(hk|hk)|⟨e,he,rfl⟩
   ·split at hk
    ·simp at hk
    ·simp only[List.mem_singleton]at hk;subst hk;exact wordM_ok hop
   ·split at hk
    ·simp only[List.mem_singleton]at hk;subst hk;exact listM_ok (by rw[paramsW_len];unfold bigN;omega) (paramsW_ok _ hps)
    ·simp at hk
   ·exact ih e he (hks e he) (hsk e he) (hsh e he)
theorem formedMs_shaped: ∀ (l:List Ex)(d n:Nat),(formedMs l d n).1=true→ ∀ e∈l,shapedE e=true
 |[],_,_,_=>by simp
 |e::l,d,n,h=>by
  unfold formedMs at h;have h1:=formedM_shaped e d n;split at h
  ·rename_i c he;rw[he]at h1;intro x hx;rcases List.mem_cons.1 hx with rfl|hx
   ·exact h1 rfl
   ·exact formedMs_shaped l d c h x hx
  ·simp at h
mutual
theorem shapedM_F: ∀ (f:Fm)(d n:Nat),(shapedM f d n).1=true→shapedF f=true
 | .mk op name args params exprs kids,d,n,h=>by
  unfold shapedM at h;split at h
  ·split at h
   ·rename_i hp;have h1:=formedMs_shaped exprs (d+1) (n+1);split at h
    ·rename_i c he;rw[he]at h1;simp only[shapedF,Bool.and_eq_true,List.all_eq_true];exact⟨⟨hp,h1 rfl⟩,shapedMs_F kids (d+1) c h⟩
    ·simp at h
   ·simp at h
  ·simp at h
theorem shapedMs_F: ∀ (l:List Fm)(d n:Nat),(shapedMs l d n).1=true→shapedFs l=true
 |[],_,_,_=>by simp[shapedFs]
 |k::l,d,n,h=>by
  unfold shapedMs at h;have h1:=shapedM_F k d n;split at h
  ·rename_i c he;rw[he]at h1;simp only[shapedFs,Bool.and_eq_true];exact⟨h1 rfl,shapedMs_F l d c h⟩
  ·simp at h
end
theorem fvalid_c{f:Fm}(hok:f.ok)(hsm:f.small)(h:Heap):PCall Tryz.prog 57 [.agg f.cells] h fun r h'=>r= .sc (.bool (validF f))∧h'=h:=by
 have hf:=shaped_c f hok 0 0 (by omega) (by omega) h.next (h.new (.arr 1 [[.sc (.int .i64 0)]])) (by simp[Heap.new,cntO])
 have hsh:=shapedM_F f 0 0;have hx:=fmW_ok f hok hsm;have hw0:=write_c f hsm;have hv:validF f=((shapedM f 0 0).1&&(svalid (fmW f) 0 0).1):=rfl;rw[hv];refine PCall.quiet Ty.hb_57 ?_;generalize shapedM f 0 0=V at hf hsh⊢;obtain⟨b,c⟩:=V;cases b with
 |false=>
  obtain⟨op,name,args,params,exprs,kids⟩:=f;simp only[Fm.cells,Int.natCast_zero]at hf⊢;refine uG (ow:=fun t=>t==5) (wf:=fun _=>false) Tryz.func57 Tryz.ntmps57 Tryz.results57 Ty.hb_57 ?_;repeat'(first|refine a_seq fun K hK=>?_|refine uR trivial ?_|(refine uN hK ?_;clear hK)|apply zI)
  refine owp_useH (hf) (by(try simp only[Ty.w,simprocAttr]);try rfl) ?_;simp(maxSteps:=2000000) only[Ty.w,simprocAttr];repeat'(first|refine uT trivial ?_|(refine uN hK ?_;clear hK)|apply zI)
  exact((Grow.refl h).new _).set (Nat.le_refl _) _
 |true=>
  have hw:=hw0 (hsh rfl);have hvv:=svalid_c (hx (hsh rfl));try clear zz
  clear hw0;generalize fmW f=X at hw hvv⊢;obtain⟨op,name,args,params,exprs,kids⟩:=f;obtain⟨ki,va,li,co,te,ks⟩:=X;simp only[Fm.cells,Sx.cells,Int.natCast_zero]at hf hw hvv⊢;refine uG (ow:=fun t=>t==5) (wf:=fun _=>false) Tryz.func57 Tryz.ntmps57 Tryz.results57 Ty.hb_57 ?_;repeat'(first|refine a_seq fun K hK=>?_|refine uR trivial ?_|(refine uN hK ?_;clear hK)|apply zI)
  refine owp_useH (hf) (by(try simp only[Ty.w,simprocAttr]);try rfl) ?_;simp(maxSteps:=2000000) only[Ty.w,simprocAttr];try apply zI
  refine uU trivial (hw _) ?_;try apply zI
  refine uU trivial (hvv _) ?_;repeat'(first|refine uT trivial ?_|(refine uN hK ?_;clear hK)|apply zI)
  exact((Grow.refl h).new _).set (Nat.le_refl _) _
theorem fWrite_c{f:Fm}(hok:f.ok)(hsm:f.small)(h:Heap):PCall Tryz.prog 24 [.agg f.cells] h fun r h'=>r=(if validF f then .tup [.agg (fmW f).cells,.sc .nilIface]else .tup [.agg zeroSx.cells,errV 2])∧h'=h:=by
 have hv:=fvalid_c hok hsm;refine PCall.frz Ty.hb_24 ?_;cases hb:validF f with
 |false=>
  rw[hb]at hv;obtain⟨op,name,args,params,exprs,kids⟩:=f;simp only[Fm.cells,Bool.false_eq_true,if_false]at hv⊢;refine uG0 Tryz.func24 Tryz.ntmps24 Tryz.results24 Ty.hb_24 ?_;repeat'(first|refine a_seq fun K hK=>?_|refine uR trivial ?_|(refine uN hK ?_;clear hK)|apply zI)
  refine uU @Bool.not_false (hv _) ?_;repeat'(first|refine a_seq fun K hK=>?_|refine uR @Bool.not_false ?_|refine uT @Bool.not_false ?_|(refine uN hK ?_;clear hK)|apply zI)
  refine⟨?_,((Grow.refl h).new _).set (Nat.le_refl _) _⟩;simp only[zeroSx,errV,Sx.cells,Sx.rows,FrzTo,FrzL];exact⟨_,rfl,⟨_,rfl,rfl,rfl,rfl,rfl,rfl,.inr (.inl ⟨rfl,.inr rfl⟩),trivial⟩,rfl,trivial⟩
 |true=>
  rw[hb]at hv;have hsh:=shapedM_F f 0 0 (by unfold validF at hb;simp only[Bool.and_eq_true]at hb;exact hb.1);have hw:=write_c f hsm hsh;have hfz:=fun(n:Nat)(h:Heap)=>sx_frz n h (fmW f);generalize fmW f=X at hw hfz⊢;obtain⟨op,name,args,params,exprs,kids⟩:=f;obtain⟨ki,va,li,co,te,ks⟩:=X;simp only[Fm.cells,Sx.cells,if_true]at hv hw hfz⊢;refine uG0 Tryz.func24 Tryz.ntmps24 Tryz.results24 Ty.hb_24 ?_;repeat'(first|refine a_seq fun K hK=>?_|refine uR trivial ?_|(refine uN hK ?_;clear hK)|apply zI)
  refine uU @Bool.not_true (hv _) ?_;repeat'(first|refine a_seq fun K hK=>?_|refine uR @Bool.not_true ?_|refine uK ?_|refine uC1 @Bool.not_true ?_|(refine uN hK ?_;clear hK)|apply zI)
  refine uU trivial (hw _) ?_;repeat'(first|refine uT trivial ?_|(refine uN hK ?_;clear hK)|apply zI)
  refine⟨?_,((Grow.refl h).new _).set (Nat.le_refl _) _⟩;simp only[FrzTo,FrzL];exact⟨_,rfl,⟨_,rfl,hfz _ _⟩,rfl,trivial⟩
end Go.Proofs.YtjeolbgpllbemaaGreat
namespace Go.Proofs.YtjeolbgpllbemaaGreat
open Go.AM
set_option maxHeartbeats 2000000
set_option maxRecDepth 20000
theorem pword_c{h:Heap}{s:ByteArray}:PCall Tryz.prog 27 [sPV s] h fun r h'=>r= .agg (wordM s).cells∧h'=h:=by
 refine PCall.frz Ty.hb_27 ?_;refine uG0 Tryz.func27 Tryz.ntmps27 Tryz.results27 Ty.hb_27 ?_;repeat'(first|refine a_seq fun K hK=>?_|refine uR trivial ?_|refine uT trivial ?_|(refine uN hK ?_;clear hK)|apply zI)
 refine⟨?_,((Grow.refl h).new _).set (Nat.le_refl _) _⟩;simp only[wordM,Sx.cells,Sx.rows,FrzTo,FrzL];exact⟨_,rfl,rfl,rfl,rfl,rfl,rfl,.inr (.inl ⟨rfl,.inr rfl⟩),trivial⟩
theorem plist_c{h:Heap}{p:PV}(h1:oneC p=true)(hf: ∀ h',FrzTo h.next h' p p):PCall Tryz.prog 26 [p] h fun r h'=>r= .agg [.sc (.int .i64 3),.sc (.int .i64 0),.sc (.int .i64 0),.sc (.int .i64 0),.sc (.string ⟨#[]⟩),p]∧h'=h:=by
 refine PCall.frz Ty.hb_26 ?_;have hc:p.cells=[p]:=by cases p<;>simp[oneC]at h1<;>rfl
 refine uG0 Tryz.func26 Tryz.ntmps26 Tryz.results26 Ty.hb_26 ?_;replace zz:=uu hc h1;repeat'(first|refine a_seq fun K hK=>?_|refine uR zz ?_|refine uT zz ?_|(refine uN hK ?_;clear hK)|apply zI)
 refine⟨?_,((Grow.refl h).new _).set (Nat.le_refl _) _⟩;simp only[FrzTo,FrzL];exact⟨_,rfl,rfl,rfl,rfl,rfl,rfl,hf _,trivial⟩
theorem writeAtom_c{h:Heap}{first:ByteArray}{l:List ByteArray}(hl:l.length≤1048576):PCall Tryz.prog 29 [.agg [sPV first,.imm 1 (strRows l)]] h fun r h'=>r= .agg (wordsM first l).cells∧h'=h:=by
 refine PCall.frz Ty.hb_29 ?_;have hll:=strRows_len l;have hw: ∀ (s:ByteArray)(h:Heap),PCall Tryz.prog 27 [sPV s] h fun r h'=>r= .agg (wordM s).cells∧h'=h:=fun s h=>pword_c;simp only[wordM,Sx.cells,Sx.rows]at hw;refine uG (ow:=fun t=>t==9) (wf:=fun _=>false) Tryz.func29 Tryz.ntmps29 Tryz.results29 Ty.hb_29 ?_;repeat'(first|refine a_seq fun K hK=>?_|refine uR trivial ?_|(refine uN hK ?_;clear hK)|apply zI)
 refine uU trivial (hw first _) ?_;try apply zI
 refine uU trivial (plist_c (p:= .own (h.next+1) 0 1) rfl (fun _=>frz_own (by simp[Heap.new]))) ?_;repeat'(first|refine a_seq fun K hK=>?_|refine a_block ?_|refine uR hll ?_|(refine uN hK ?_;clear hK)|apply zI)
 refine a_loop (fun m S h'=>S 2= .ptr h.next 0 0∧S 3= .ptr (h.next+1+1) 0 0∧S 12= .imm 1 (strRows l)∧S 13= .sc (.int .i64 l.length)∧ ∃ k:Nat,S 14= .sc (.int .i64 k)∧k≤l.length∧m=l.length-k∧WordsI h first l k h') l.length ?_ ?_
 ·simp only[Ty.w,simprocAttr];refine⟨0,rfl,by omega,rfl,?_⟩;have e1:¬ h.next=h.next+1+1:=by omega
  refine⟨(((((Grow.refl h).new _).new _).new _).set (show h.next≤h.next+1+1 by omega) _),h.next+1,by simp[Heap.new,Heap.set],by omega,by omega,by simp[Heap.new,Heap.set],?_,?_,?_⟩
  ·simp [Heap.new,Heap.set,e1]
  ·simp [Heap.new,Heap.set]
  ·simp [Heap.new,Heap.set,wordM,Sx.rows,Sx.cells]
 ·rintro m S h' ⟨g2,g3,g12,g13,k,g14,hk,rfl,hI⟩;obtain⟨hg,id,hn2,hne,hlo,hhi,o1,o2,o3⟩:=hI;by_cases hlt:k<l.length
  ·have hd:decide ((k:Int)<(l.length:Int))=true:=(by simp;omega);have w7:IntKind.i64.wrap ((k:Int)+1)=k+1:=(by rw[wrap64 (by omega) (by omega)]);obtain⟨s,hx⟩: ∃ s,l[k]? =some s:=⟨_,List.getElem?_eq_getElem hlt⟩;have hr:=strRows_get hx;have hrl:(Sx.rows ((first::l.take k).map wordM)).length=k+1:=(by rw[Sx.rows_len];simp;omega);generalize hR:Sx.rows ((first::l.take k).map wordM)=R at o3 hrl;have n1:(h.next+1+1=id)=False:=(by simp;omega);have n2:(h.next+1+1=h'.next)=False:=(by simp;omega);have htk:List.take (k+1) R=R:=List.take_of_length_le (by omega);have hb:(k+1+1)*72≤140737488355328:=(by omega);replace zz:=uu g2 (uu g3 (uu g12 (uu g13 (uu g14 (uu hd (uu hr (uu w7 (uu o2 o3))))))));(repeat'(first|refine a_seq fun K hK=>?_|refine uR zz ?_|refine uE zz fun K hK=>?_|refine uK ?_|refine uC1 zz ?_|(refine uN hK ?_;clear hK)|apply zI));replace zz:=uu g2 (uu g3 (uu g12 (uu g13 (uu g14 (uu o2 o3)))));(first|refine uV zz (hw s _) ?_|refine uA zz (hw s _) ?_);replace zz:=uu g2 (uu g3 (uu g12 (uu g13 (uu g14 (uu w7 (uu o2 (uu o3 (uu n1 (uu n2 (uu hrl (uu htk hb)))))))))));(repeat'(first|refine uR zz ?_|(refine uN hK ?_;clear hK)|refine uB zz ?_|(rw[if_pos];rotate_left 1;omega;simp(maxSteps:=2000000) only[Ty.w,simprocAttr,g2,g3,g12,g13,g14,w7,o2,o3,n1,n2,hrl,htk,hb])|apply zI));refine⟨l.length-(k+1),by omega,k+1,by simp,by omega,rfl,((hg.kill (by omega)).new _).set (by omega) _,h'.next,?_,?_,?_,?_,?_,?_,?_⟩
   ·simp only[Heap.set,Heap.new,Heap.kill];omega
   ·omega
   ·omega
   ·simp only[Heap.set,Heap.new,Heap.kill];omega
   ·have a1:¬ h.next=h.next+1+1:=by omega
    have a2:¬ h.next=h'.next:=by omega
    have a3:¬ h.next=id:=by omega
    simp only[Heap.set,Heap.new,Heap.kill,a1,a2,a3,if_false];exact o1
   ·simp only[Heap.set,if_true]
   ·have a1:¬ h'.next=h.next+1+1:=by omega
    simp only[Heap.set,Heap.new,Heap.kill,a1,if_false,if_true];rw[List.take_add_one,hx, ← hR];simp only[Sx.rows_map,List.map_cons,List.map_append,List.map_nil,Option.toList_some,List.cons_append,wordM,Sx.cells]
  ·have hd:decide ((k:Int)<(l.length:Int))=false:=(by simp;omega);have hke:k=l.length:=(by omega);subst hke;rw[List.take_length]at o3;have n1:(h.next+1+1=h.next)=False:=(by simp;omega);replace zz:=uu g2 (uu g3 (uu g12 (uu g13 (uu g14 (uu hd (uu o1 (uu o2 o3)))))));(repeat'(first|refine a_seq fun K hK=>?_|refine uR zz ?_|refine uT zz ?_|refine uX ?_|refine uC1 zz ?_|(refine uN hK ?_;clear hK)|(clear hK;refine uN hK ?_;clear hK)|apply zI));refine⟨?_,hg.set (Nat.le_refl _) _⟩;simp only[wordsM,listM,Sx.cells,FrzTo,FrzL];refine⟨_,rfl,rfl,rfl,rfl,rfl,rfl,.inr (.inr ⟨id,0,l.length+1,Sx.rows ((first::l).map wordM),rfl,by omega,?_,?_,?_⟩),trivial⟩
   ·simp only[Heap.set];rw[if_neg (by omega)];exact o3
   ·rw [Sx.rows_len];simp
   ·rw [List.drop_zero,List.take_of_length_le (by rw[Sx.rows_len];simp)];exact sxs_frz _ _ _
end Go.Proofs.YtjeolbgpllbemaaGreat
namespace Go.AM
end Go.AM
namespace Go.Proofs.YtjeolbgpllbemaaGreat
open Go.AM
set_option maxHeartbeats 2000000
set_option maxRecDepth 20000
def idxQ(q:ByteArray→Bool)(l:List ByteArray):Int:=match l.findIdx? q with
 |some i=>i
 |none=> -1
theorem idxQ_any(q:ByteArray→Bool)(l:List ByteArray):decide (idxQ q l≥0)=l.any q:=by
 unfold idxQ;cases h:l.findIdx? q with
 |none=>
  rw[List.findIdx?_eq_none_iff]at h;have:l.any q=false:=by
   rw[List.any_eq_false];intro s hs;simpa using h s hs
  rw[this];try rfl
 |some i=>
  rw[List.findIdx?_eq_some_iff_getElem]at h;obtain⟨hi,h1,_⟩:=h;have:l.any q=true:=by
   rw[List.any_eq_true];exact⟨l[i],List.getElem_mem hi,by simpa using h1⟩
  rw[this];simp
theorem indexFuncQ_c{h:Heap}{g:FuncId}{l:List ByteArray}{q:ByteArray→Bool}(hl:l.length≤bigN)(hf: ∀ s∈l, ∀ h:Heap,PCall Tryz.prog g [sPV s] h fun r h'=>r= .sc (.bool (q s))∧h'=h):
  PCall Tryz.prog 137 [.imm 1 (strRows l),.sc (.func (.func g) #[] #[])] h fun r h'=>r= .sc (.int .i64 (idxQ q l))∧h'=h:=by
 unfold bigN at hl;have hlen:=strRows_len l;refine uG0 Tryz.func137 Tryz.ntmps137 Tryz.results137 Ty.hb_137 ?_;repeat'(first|refine a_seq fun K hK=>?_|refine a_block ?_|refine uR hlen ?_|(refine uN hK ?_;clear hK)|apply zI)
 refine a_loop (fun m S h'=>h'=h∧S 0= .imm 1 (strRows l)∧S 1= .sc (.func (.func g) #[] #[])∧S 7= .sc (.int .i64 l.length)∧ ∃ k:Nat,S 8= .sc (.int .i64 k)∧k≤l.length∧m=l.length-k∧ ∀ (i:Nat)(w:ByteArray),i<k→l[i]? =some w→q w=false) l.length ?_ ?_
 ·simp only[Ty.w,simprocAttr];exact⟨0,rfl,by omega,rfl,by omega⟩
 ·rintro m S h' ⟨rfl,g0,g1,g7,k,g8,hk,rfl,hall⟩;by_cases hlt:k<l.length
  ·have hd:decide ((k:Int)<(l.length:Int))=true:=(by simp;omega);have w7:IntKind.i64.wrap ((k:Int)+1)=k+1:=(by rw[wrap64 (by omega) (by omega)]);obtain⟨w,hx⟩: ∃ w,l[k]? =some w:=⟨l[k],List.getElem?_eq_getElem hlt⟩;have hr:=strRows_get hx;have hc:=hf w (List.mem_of_getElem? hx);cases he:q w with
   |true=>
    rw[he]at hc;replace zz:=uu g0 (uu g1 (uu g7 (uu g8 (uu hd hr))));(repeat'(first|refine a_seq fun K hK=>?_|refine uR zz ?_|refine uK ?_|refine uC1 zz ?_|(refine uN hK ?_;clear hK)|apply zI));refine owp_useV (by simp only[Ty.w,simprocAttr,g1]) (hc _) (by simp only[Ty.w,simprocAttr,g0,g1,g7,g8];try rfl) ?_;simp(maxSteps:=2000000) only[Ty.w,simprocAttr,Ty.all];replace zz:=uu g0 (uu g1 (uu g7 g8));(repeat'(first|refine a_seq fun K hK=>?_|refine uR zz ?_|refine uT zz ?_|(refine uN hK ?_;clear hK)|apply zI));have:l.findIdx? q=some k:=by
     rw[List.findIdx?_eq_some_iff_getElem];refine⟨hlt,?_,fun j hj=>?_⟩
     ·rw [List.getElem?_eq_getElem hlt]at hx;simp only[Option.some.injEq]at hx;rw[hx,he]
     ·rw [hall j l[j] hj (List.getElem?_eq_getElem (by omega))];simp
    simp only[idxQ,this]
   |false=>
    rw[he]at hc;replace zz:=uu g0 (uu g1 (uu g7 (uu g8 (uu hd hr))));(repeat'(first|refine a_seq fun K hK=>?_|refine uR zz ?_|refine uK ?_|refine uC1 zz ?_|(refine uN hK ?_;clear hK)|apply zI));refine owp_useV (by simp only[Ty.w,simprocAttr,g1]) (hc _) (by simp only[Ty.w,simprocAttr,g0,g1,g7,g8];try rfl) ?_;simp(maxSteps:=2000000) only[Ty.w,simprocAttr,Ty.all];replace zz:=uu g0 (uu g1 (uu g7 (uu g8 w7)));(repeat'(first|refine a_block ?_|refine uR zz ?_|refine uK ?_|(refine uN hK ?_;clear hK)|apply zI));refine⟨l.length-(k+1),by omega,k+1,by simp,by omega,rfl,fun i w2 hi hw=>?_⟩;by_cases hik:i=k
    ·subst hik;rw[hx]at hw;simp at hw;rw[← hw];exact he
    ·exact hall i w2 (by omega) hw
  ·have hd:decide ((k:Int)<(l.length:Int))=false:=(by simp;omega);replace zz:=uu g0 (uu g1 (uu g7 (uu g8 hd)));(repeat'(first|refine a_seq fun K hK=>?_|refine uR zz ?_|refine uT zz ?_|refine uX ?_|refine uC1 zz ?_|(refine uN hK ?_;clear hK)|(clear hK;refine uN hK ?_;clear hK)|apply zI));have:l.findIdx? q=none:=by
    rw[List.findIdx?_eq_none_iff];intro w hw;obtain⟨i,hi⟩:=List.getElem?_of_mem hw;have:i<l.length:=(List.getElem?_eq_some_iff.1 hi).1;rw[hall i w (by omega) hi]
   simp only[idxQ,this]
theorem containsFuncQ_c{h:Heap}{g:FuncId}{l:List ByteArray}{q:ByteArray→Bool}(hl:l.length≤bigN)(hf: ∀ s∈l, ∀ h:Heap,PCall Tryz.prog g [sPV s] h fun r h'=>r= .sc (.bool (q s))∧h'=h):
  PCall Tryz.prog 103 [.imm 1 (strRows l),.sc (.func (.func g) #[] #[])] h fun r h'=>r= .sc (.bool (l.any q))∧h'=h:=by
 refine uG0 Tryz.func103 Tryz.ntmps103 Tryz.results103 Ty.hb_103 ?_;repeat'(first|refine a_seq fun K hK=>?_|refine uR trivial ?_|(refine uN hK ?_;clear hK)|apply zI)
 refine uU trivial (indexFuncQ_c (l:=l) (g:=g) hl hf) ?_;repeat'(first|refine uT trivial ?_|(refine uN hK ?_;clear hK)|apply zI)
 rw[← idxQ_any]
theorem pright1_c{h:Heap}{s:ByteArray}(hs:s.size≤bigN):PCall Tryz.prog 104 [sPV s] h fun r h'=>r= .sc (.bool (!nameB s))∧h'=h:=by
 have hs':s.size≤9223372036854775807:=by unfold bigN at hs;omega
 refine uG0 Tryz.func104 Tryz.ntmps104 Tryz.results104 Ty.hb_104 ?_;repeat'(first|refine a_seq fun K hK=>?_|refine uR trivial ?_|(refine uN hK ?_;clear hK)|apply zI)
 refine uU trivial (fname_c (s:=s) hs') ?_;repeat'(first|refine uT trivial ?_|(refine uN hK ?_;clear hK)|apply zI)
def rightB(name:ByteArray)(args:List ByteArray):Bool:=nameB name&&!(args.any fun s=>!nameB s)
theorem right_c{name:ByteArray}{args:List ByteArray}(hn:name.size≤bigN)(hl:args.length≤bigN)(ha: ∀ s∈args,s.size≤bigN)(h:Heap):PCall Tryz.prog 60 [.agg [sPV name,.imm 1 (strRows args)]] h fun r h'=>r= .sc (.bool (rightB name args))∧h'=h:=by
 have hn':name.size≤9223372036854775807:=by unfold bigN at hn;omega
 have hf: ∀ s∈args, ∀ h:Heap,PCall Tryz.prog 104 [sPV s] h fun r h'=>r= .sc (.bool (!nameB s))∧h'=h:=fun s hs h=>pright1_c (ha s hs);unfold rightB;cases q1:nameB name with
 |false=>
  refine uG0 Tryz.func60 Tryz.ntmps60 Tryz.results60 Ty.hb_60 ?_;repeat'(first|refine a_seq fun K hK=>?_|refine uR trivial ?_|(refine uN hK ?_;clear hK)|apply zI)
  refine uU q1 (fname_c (s:=name) hn') ?_;repeat'(first|(refine a_ret ?_;simp(maxSteps:=2000000) only[Ty.w,simprocAttr,q1,Bool.false_and])|(refine hK _ _ ?_;clear hK;(try simp only[pst0,simprocAttr])))
 |true=>
  refine uG0 Tryz.func60 Tryz.ntmps60 Tryz.results60 Ty.hb_60 ?_;repeat'(first|refine a_seq fun K hK=>?_|refine uR trivial ?_|(refine uN hK ?_;clear hK)|apply zI)
  refine uU q1 (fname_c (s:=name) hn') ?_;try apply zI
  refine uU q1 (containsFuncQ_c (q:=fun s=>!nameB s) hl hf) ?_;repeat'(first|(refine a_ret ?_;simp(maxSteps:=2000000) only[Ty.w,simprocAttr,q1,Bool.true_and])|(refine hK _ _ ?_;clear hK;(try simp only[pst0,simprocAttr])))
end Go.Proofs.YtjeolbgpllbemaaGreat
namespace Go.AM
structure At where
 name:ByteArray
 args:List ByteArray
structure Vl where
 at_:At
 n:Int
structure Pb where
 name:ByteArray
 domain:ByteArray
 objects:List Pm
 init:List At
 values:List Vl
 goal:Fm
def atRow(a:At):List PV:=[sPV a.name,.imm 1 (strRows a.args)]
def atRows(l:List At):List (List PV):=l.map atRow
theorem atRows_len(l:List At):(atRows l).length=l.length:=by simp[atRows]
theorem atRows_get{l:List At}{i:Nat}{a:At}(h:l[i]? =some a):(atRows l)[i]? =some [sPV a.name,.imm 1 (strRows a.args)]:=by simp[atRows,h,atRow]
def vlRow(v:Vl):List PV:=[sPV v.at_.name,.imm 1 (strRows v.at_.args),.sc (.int .i64 v.n)]
def vlRows(l:List Vl):List (List PV):=l.map vlRow
theorem vlRows_len(l:List Vl):(vlRows l).length=l.length:=by simp[vlRows]
theorem vlRows_get{l:List Vl}{i:Nat}{v:Vl}(h:l[i]? =some v):(vlRows l)[i]? =some [sPV v.at_.name,.imm 1 (strRows v.at_.args),.sc (.int .i64 v.n)]:=by simp[vlRows,h,vlRow]
def Pb.cells(p:Pb):List PV:=[sPV p.name,sPV p.domain,.imm 2 (pmRows p.objects),.imm 2 (atRows p.init),.imm 3 (vlRows p.values)]++p.goal.cells
def At.ok(a:At):Prop:=a.name.size≤bigN∧a.args.length≤bigN∧ ∀ s∈a.args,s.size≤bigN
end Go.AM
namespace Go.Proofs.YtjeolbgpllbemaaGreat
open Go.AM
set_option maxHeartbeats 2000000
set_option maxRecDepth 20000
def idxA(q:At→Bool)(l:List At):Int:=match l.findIdx? q with
 |some i=>i
 |none=> -1
theorem idxA_any(q:At→Bool)(l:List At):decide (idxA q l≥0)=l.any q:=by
 unfold idxA;cases h:l.findIdx? q with
 |none=>
  rw[List.findIdx?_eq_none_iff]at h;have:l.any q=false:=by
   rw[List.any_eq_false];intro s hs;simpa using h s hs
  rw[this];try rfl
 |some i=>
  rw[List.findIdx?_eq_some_iff_getElem]at h;obtain⟨hi,h1,_⟩:=h;have:l.any q=true:=by
   rw[List.any_eq_true];exact⟨l[i],List.getElem_mem hi,by simpa using h1⟩
  rw[this];simp
theorem indexFuncA_c{h:Heap}{g:FuncId}{l:List At}{q:At→Bool}(hl:l.length≤bigN)(hf: ∀ s∈l, ∀ h:Heap,PCall Tryz.prog g [.agg (atRow s)] h fun r h'=>r= .sc (.bool (q s))∧h'=h):
  PCall Tryz.prog 105 [.imm 2 (atRows l),.sc (.func (.func g) #[] #[])] h fun r h'=>r= .sc (.int .i64 (idxA q l))∧h'=h:=by
 unfold bigN at hl;have hlen:=atRows_len l;refine uG0 Tryz.func105 Tryz.ntmps105 Tryz.results105 Ty.hb_105 ?_;repeat'(first|refine a_seq fun K hK=>?_|refine a_block ?_|refine uR hlen ?_|(refine uN hK ?_;clear hK)|apply zI)
 refine a_loop (fun m S h'=>h'=h∧S 0= .imm 2 (atRows l)∧S 1= .sc (.func (.func g) #[] #[])∧S 7= .sc (.int .i64 l.length)∧ ∃ k:Nat,S 8= .sc (.int .i64 k)∧k≤l.length∧m=l.length-k∧ ∀ (i:Nat)(w:At),i<k→l[i]? =some w→q w=false) l.length ?_ ?_
 ·simp only[Ty.w,simprocAttr];exact⟨0,rfl,by omega,rfl,by omega⟩
 ·rintro m S h' ⟨rfl,g0,g1,g7,k,g8,hk,rfl,hall⟩;by_cases hlt:k<l.length
  ·have hd:decide ((k:Int)<(l.length:Int))=true:=(by simp;omega);have w7:IntKind.i64.wrap ((k:Int)+1)=k+1:=(by rw[wrap64 (by omega) (by omega)]);obtain⟨w,hx⟩: ∃ w,l[k]? =some w:=⟨l[k],List.getElem?_eq_getElem hlt⟩;have hr:=atRows_get hx;have hc:=hf w (List.mem_of_getElem? hx);simp only[atRow]at hc;cases he:q w with
   |true=>
    rw[he]at hc;replace zz:=uu g0 (uu g1 (uu g7 (uu g8 (uu hd hr))));(repeat'(first|refine a_seq fun K hK=>?_|refine uR zz ?_|refine uK ?_|refine uC1 zz ?_|(refine uN hK ?_;clear hK)|apply zI));refine owp_useV (by simp only[Ty.w,simprocAttr,g1]) (hc _) (by simp only[Ty.w,simprocAttr,g0,g1,g7,g8];try rfl) ?_;simp(maxSteps:=2000000) only[Ty.w,simprocAttr,Ty.all];replace zz:=uu g0 (uu g1 (uu g7 g8));(repeat'(first|refine a_seq fun K hK=>?_|refine uR zz ?_|refine uT zz ?_|(refine uN hK ?_;clear hK)|apply zI));have:l.findIdx? q=some k:=by
     rw[List.findIdx?_eq_some_iff_getElem];refine⟨hlt,?_,fun j hj=>?_⟩
     ·rw [List.getElem?_eq_getElem hlt]at hx;simp only[Option.some.injEq]at hx;rw[hx,he]
     ·rw [hall j l[j] hj (List.getElem?_eq_getElem (by omega))];simp
    simp only[idxA,this]
   |false=>
    rw[he]at hc;replace zz:=uu g0 (uu g1 (uu g7 (uu g8 (uu hd hr))));(repeat'(first|refine a_seq fun K hK=>?_|refine uR zz ?_|refine uK ?_|refine uC1 zz ?_|(refine uN hK ?_;clear hK)|apply zI));refine owp_useV (by simp only[Ty.w,simprocAttr,g1]) (hc _) (by simp only[Ty.w,simprocAttr,g0,g1,g7,g8];try rfl) ?_;simp(maxSteps:=2000000) only[Ty.w,simprocAttr,Ty.all];replace zz:=uu g0 (uu g1 (uu g7 (uu g8 w7)));(repeat'(first|refine a_block ?_|refine uR zz ?_|refine uK ?_|(refine uN hK ?_;clear hK)|apply zI));refine⟨l.length-(k+1),by omega,k+1,by simp,by omega,rfl,fun i w2 hi hw=>?_⟩;by_cases hik:i=k
    ·subst hik;rw[hx]at hw;simp at hw;rw[← hw];exact he
    ·exact hall i w2 (by omega) hw
  ·have hd:decide ((k:Int)<(l.length:Int))=false:=(by simp;omega);replace zz:=uu g0 (uu g1 (uu g7 (uu g8 hd)));(repeat'(first|refine a_seq fun K hK=>?_|refine uR zz ?_|refine uT zz ?_|refine uX ?_|refine uC1 zz ?_|(refine uN hK ?_;clear hK)|(clear hK;refine uN hK ?_;clear hK)|apply zI));have:l.findIdx? q=none:=by
    rw[List.findIdx?_eq_none_iff];intro w hw;obtain⟨i,hi⟩:=List.getElem?_of_mem hw;have:i<l.length:=(List.getElem?_eq_some_iff.1 hi).1;rw[hall i w (by omega) hi]
   simp only[idxA,this]
theorem containsFuncA_c{h:Heap}{g:FuncId}{l:List At}{q:At→Bool}(hl:l.length≤bigN)(hf: ∀ s∈l, ∀ h:Heap,PCall Tryz.prog g [.agg (atRow s)] h fun r h'=>r= .sc (.bool (q s))∧h'=h):
  PCall Tryz.prog 61 [.imm 2 (atRows l),.sc (.func (.func g) #[] #[])] h fun r h'=>r= .sc (.bool (l.any q))∧h'=h:=by
 refine uG0 Tryz.func61 Tryz.ntmps61 Tryz.results61 Ty.hb_61 ?_;repeat'(first|refine a_seq fun K hK=>?_|refine uR trivial ?_|(refine uN hK ?_;clear hK)|apply zI)
 refine uU trivial (indexFuncA_c (l:=l) (g:=g) hl hf) ?_;repeat'(first|refine uT trivial ?_|(refine uN hK ?_;clear hK)|apply zI)
 rw[← idxA_any]
def rightA(a:At):Bool:=rightB a.name a.args
theorem pexpr1_c{h:Heap}{a:At}(ha:a.ok):PCall Tryz.prog 62 [.agg (atRow a)] h fun r h'=>r= .sc (.bool (!rightA a))∧h'=h:=by
 have hr:=right_c ha.1 ha.2.1 ha.2.2;unfold rightA;simp only[atRow];generalize rightB a.name a.args=b at hr⊢;refine uG0 Tryz.func62 Tryz.ntmps62 Tryz.results62 Ty.hb_62 ?_;repeat'(first|refine a_seq fun K hK=>?_|refine uR trivial ?_|(refine uN hK ?_;clear hK)|apply zI)
 refine uU trivial (hr _) ?_;repeat'(first|refine uT trivial ?_|(refine uN hK ?_;clear hK)|apply zI)
end Go.Proofs.YtjeolbgpllbemaaGreat
