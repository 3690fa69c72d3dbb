/- What the claim rests on, part 6: the abstract machine, contracts of the functions, plain data. -/
import Derived.OpenShut
import Derived.ChangeShapes
import Derived.SizedLaws
import Derived.Test.YtblgchkahpgdjaaGreatZn5
set_option linter.unusedVariables false
set_option linter.unusedSimpArgs false
set_option linter.unusedSectionVars false
namespace Go.Proofs.YtblgchkahpgdjaaGreat
open Go.AM
set_option maxHeartbeats 4000000
set_option maxRecDepth 20000
theorem rsameE_c: ∀ a:Ex,a.ok→ ∀ b:Ex,b.ok→ ∀ h:Heap,PCall Tryz.prog 57 [.agg a.cells,.agg b.cells] h fun r h'=>r= .sc (.bool (a.same b))∧h'=h:=by
 refine Ex.ind ?_;intro op name n args kids ih hok;rintro⟨op3,name3,n3,args3,kids3⟩ hok3 h;simp only[Ex.ok]at hok hok3;obtain⟨_,_,_,⟨ha,_⟩,hk,hks⟩:=hok;obtain⟨_,_,_,⟨ha3,_⟩,hk3,hks3⟩:=hok3;rw[Ex.oks_iff]at hks hks3;have hfk: ∀ a∈kids, ∀ b∈kids3, ∀ h:Heap,PCall Tryz.prog 57 [.agg a.cells,.agg b.cells] h fun r h'=>r= .sc (.bool (a.same b))∧h'=h:=fun a ha b hb=>ih a ha (hks a ha) b (hks3 b hb);try clear Z
 clear ih;have hl_kids:=Ex.rows_len kids;have hl_kids3:=Ex.rows_len kids3;have cellsA:(Ex.mk op name n args kids).cells=(Ex.mk op name n args kids).cells:=rfl;have cellsB:(Ex.mk op3 name3 n3 args3 kids3).cells=(Ex.mk op3 name3 n3 args3 kids3).cells:=rfl
 conv at cellsA=>rhs;simp only[Ex.cells]
 conv at cellsB=>rhs;simp only[Ex.cells]
 rw[cellsA,cellsB];refine uG0 Tryz.func57 Tryz.ntmps57 Tryz.results57 Ty.hb_57 ?_;cases e0:(op.data.toList==op3.data.toList)with
 |false=>
  have hs:(Ex.mk op name n args kids).same (.mk op3 name3 n3 args3 kids3)=false:=by simp only[Ex.same,bEq,e0,Bool.false_and,Bool.and_false]
  replace Z:=U @Bool.not_true (U @Bool.not_false e0);repeat'(first|refine G fun K J=>?_|refine uR Z ?_|refine uT Z ?_|(refine O J ?_;clear J)|apply zI)
  rw[hs]
 |true=>
  cases e1:(name.data.toList==name3.data.toList)with
  |false=>
   have hs:(Ex.mk op name n args kids).same (.mk op3 name3 n3 args3 kids3)=false:=(by simp only[Ex.same,bEq,e0,e1,Bool.false_and,Bool.and_false]);replace Z:=U @Bool.not_true (U @Bool.not_false (U e0 e1));(repeat'(first|refine G fun K J=>?_|refine uR Z ?_|refine uT Z ?_|(refine O J ?_;clear J)|apply zI));rw[hs]
  |true=>
   cases e2:(n !=n3)with
   |true=>
    have en:(n==n3)=false:=(by simpa using e2);have hs:(Ex.mk op name n args kids).same (.mk op3 name3 n3 args3 kids3)=false:=(by simp only[Ex.same,bEq,e0,e1,en,Bool.false_and,Bool.and_false]);replace Z:=U @Bool.not_true (U @Bool.not_false (U e0 (U e1 e2)));(repeat'(first|refine G fun K J=>?_|refine uR Z ?_|refine uT Z ?_|(refine O J ?_;clear J)|apply zI));rw[hs]
   |false=>
    have en:(n==n3)=true:=(by simpa using e2);replace Z:=U @Bool.not_true (U @Bool.not_false (U e0 (U e1 e2)));(repeat'(first|refine G fun K J=>?_|refine uR Z ?_|(refine O J ?_;clear J)|apply zI));cases e3:bsEq args args3 with
    |false=>
     have hs:(Ex.mk op name n args kids).same (.mk op3 name3 n3 args3 kids3)=false:=(by simp only[Ex.same,bEq,e0,e1,en,e3,Bool.false_and,Bool.and_false]);replace Z:=U @Bool.not_true (U @Bool.not_false (U e0 (U e1 (U e2 e3))));refine uU Z (rtexts_c (l:=args) (m:=args3) ha ha3) ?_;(repeat'(first|refine G fun K J=>?_|refine uR Z ?_|refine uT Z ?_|(refine O J ?_;clear J)|apply zI));rw[hs]
    |true=>
     cases l_kids:((kids.length:Int) !=kids3.length)with
     |true=>
      have hlen:Ex.sames kids kids3=false:=Ex.sames_len (by simp at l_kids;omega);have hs:(Ex.mk op name n args kids).same (.mk op3 name3 n3 args3 kids3)=false:=(by simp only[Ex.same,bEq,e0,e1,en,e3,hlen,Bool.false_and,Bool.and_false]);replace Z:=U @Bool.not_true (U @Bool.not_false (U e0 (U e1 (U e2 (U e3 (U l_kids (U hl_kids hl_kids3)))))));refine uU Z (rtexts_c (l:=args) (m:=args3) ha ha3) ?_;(repeat'(first|refine G fun K J=>?_|refine uR Z ?_|refine uT Z ?_|(refine O J ?_;clear J)|apply zI));rw[hs]
     |false=>
      have hn_kids:kids.length=kids3.length:=(by simp at l_kids;omega);replace Z:=U @Bool.not_true (U @Bool.not_false (U e0 (U e1 (U e2 (U e3 (U l_kids (U hl_kids hl_kids3)))))));refine uU Z (rtexts_c (l:=args) (m:=args3) ha ha3) ?_;(repeat'(first|refine G fun K J=>?_|refine a_block ?_|refine uR Z ?_|refine uK ?_|refine uC1 Z ?_|(refine O J ?_;clear J)|apply zI));refine a_loop (fun c S h7=>h7=h∧S 2= .cptr (Ex.mk op name n args kids).cells∧S 3= .cptr (Ex.mk op3 name3 n3 args3 kids3).cells∧ ∃ k:Nat,S 5= .sc (.int .i64 k)∧k≤kids.length∧c=kids.length-k∧Ex.sames kids kids3=Ex.sames (kids.drop k) (kids3.drop k)) kids.length ?_ ?_
      ·simp only[Ty.w,simprocAttr,cellsA,cellsB];exact⟨0,rfl,by omega,rfl,by simp⟩
      ·rintro c S h7 ⟨rfl,g2,g3,k,gk,hkl,rfl,hinv⟩;rw[cellsA]at g2;rw[cellsB]at g3;by_cases hlt:k<kids.length
       ·have hd:decide ((k:Int)<(kids.length:Int))=true:=(by simp;omega);have w7:IntKind.i64.wrap ((k:Int)+1)=k+1:=(by unfold bigN at hk;rw[wrap64 (by omega) (by omega)]);obtain⟨a,hx⟩: ∃ a,kids[k]? =some a:=⟨_,List.getElem?_eq_getElem hlt⟩;obtain⟨b,hy⟩: ∃ b,kids3[k]? =some b:=⟨_,List.getElem?_eq_getElem (by omega)⟩;have hc:=hfk a (List.mem_of_getElem? hx) b (List.mem_of_getElem? hy);rw[drop_of_get hx,drop_of_get hy]at hinv;simp only[Ex.sames]at hinv;have hr:=Ex.rows_get hx;have hr2:=Ex.rows_get hy;generalize he:a.same b=e at hc hinv;(try clear Z);clear he;obtain⟨op2,name2,n2,args2,kids2⟩:=a;obtain⟨op4,name4,n4,args4,kids4⟩:=b;simp only[Ex.cells]at hr hr2 hc;cases e with
        |false=>
         have hs:(Ex.mk op name n args kids).same (.mk op3 name3 n3 args3 kids3)=false:=(by simp only[Ex.same,bEq,hinv,e0,e1,en,e3,Bool.false_and,Bool.and_false]);replace Z:=U g2 (U g3 (U gk (U hl_kids (U hl_kids3 (U hd (U hr (U hr2 (U w7 @Bool.not_false))))))));(repeat'(first|refine G fun K J=>?_|refine uR Z ?_|refine uD Z ?_|refine uK ?_|refine uC1 Z ?_|(refine O J ?_;clear J)|apply zI));replace Z:=U g2 (U g3 (U gk (U hl_kids (U hl_kids3 (U hd (U hr hr2))))));(first|refine uV Z (hc _) ?_|refine uA Z (hc _) ?_);replace Z:=U g2 (U g3 (U gk (U w7 @Bool.not_false)));(repeat'(first|refine G fun K J=>?_|refine uR Z ?_|refine uT Z ?_|(refine O J ?_;clear J)|apply zI));rw[hs]
        |true=>
         rw[Bool.true_and]at hinv;replace Z:=U g2 (U g3 (U gk (U hl_kids (U hl_kids3 (U hd (U hr (U hr2 (U w7 @Bool.not_true))))))));(repeat'(first|refine G fun K J=>?_|refine uR Z ?_|refine uD Z ?_|refine uK ?_|refine uC1 Z ?_|(refine O J ?_;clear J)|apply zI));replace Z:=U g2 (U g3 (U gk (U hl_kids (U hl_kids3 (U hd (U hr hr2))))));(first|refine uV Z (hc _) ?_|refine uA Z (hc _) ?_);replace Z:=U g2 (U g3 (U gk (U w7 @Bool.not_true)));(repeat'(first|refine a_block ?_|refine uR Z ?_|refine uK ?_|(refine O J ?_;clear J)|apply zI));exact⟨kids.length-(k+1),by omega,by rw[cellsA],by rw[cellsB],k+1,by simp,by omega,rfl,hinv⟩
       ·have hd:decide ((k:Int)<(kids.length:Int))=false:=(by simp;omega);rw[List.drop_eq_nil_of_le (by omega),List.drop_eq_nil_of_le (by omega)]at hinv;have hq0:=hinv;simp only[Ex.sames]at hq0;(try clear Z);clear hinv;have hs:(Ex.mk op name n args kids).same (.mk op3 name3 n3 args3 kids3)=true:=(by simp only[Ex.same,bEq,e0,e1,en,e3,hq0,Bool.true_and]);replace Z:=U g2 (U g3 (U gk (U hl_kids (U hl_kids3 hd))));(repeat'(first|refine G fun K J=>?_|refine uR Z ?_|refine uT Z ?_|refine uX ?_|refine uC1 Z ?_|(refine O J ?_;clear J)|(clear J;refine O J ?_;clear J)|apply zI));rw[hs]
theorem rsame_c: ∀ a:Fm,a.ok→ ∀ b:Fm,b.ok→ ∀ h:Heap,PCall Tryz.prog 56 [.agg a.cells,.agg b.cells] h fun r h'=>r= .sc (.bool (a.same b))∧h'=h:=by
 refine Fm.ind ?_;intro op name args params exprs kids ih hok;rintro⟨op3,name3,args3,params3,exprs3,kids3⟩ hok3 h;simp only[Fm.ok]at hok hok3;obtain⟨_,_,⟨ha,_⟩,⟨hp,_⟩,⟨he,hes⟩,hk,hks⟩:=hok;obtain⟨_,_,⟨ha3,_⟩,⟨hp3,_⟩,⟨he3,hes3⟩,hk3,hks3⟩:=hok3;rw[Fm.oks_iff]at hks hks3;have hfk: ∀ a∈kids, ∀ b∈kids3, ∀ h:Heap,PCall Tryz.prog 56 [.agg a.cells,.agg b.cells] h fun r h'=>r= .sc (.bool (a.same b))∧h'=h:=fun a ha b hb=>ih a ha (hks a ha) b (hks3 b hb);rw[Ex.oks_iff]at hes hes3;have hfe: ∀ a∈exprs, ∀ b∈exprs3, ∀ h:Heap,PCall Tryz.prog 57 [.agg a.cells,.agg b.cells] h fun r h'=>r= .sc (.bool (a.same b))∧h'=h:=fun a ha b hb=>rsameE_c a (hes a ha) b (hes3 b hb);try clear Z
 clear ih;have hl_exprs:=Ex.rows_len exprs;have hl_exprs3:=Ex.rows_len exprs3;have hl_kids:=Fm.rows_len kids;have hl_kids3:=Fm.rows_len kids3;have cellsA:(Fm.mk op name args params exprs kids).cells=(Fm.mk op name args params exprs kids).cells:=rfl;have cellsB:(Fm.mk op3 name3 args3 params3 exprs3 kids3).cells=(Fm.mk op3 name3 args3 params3 exprs3 kids3).cells:=rfl
 conv at cellsA=>rhs;simp only[Fm.cells]
 conv at cellsB=>rhs;simp only[Fm.cells]
 rw[cellsA,cellsB];refine uG0 Tryz.func56 Tryz.ntmps56 Tryz.results56 Ty.hb_56 ?_;cases e0:(op.data.toList==op3.data.toList)with
 |false=>
  have hs:(Fm.mk op name args params exprs kids).same (.mk op3 name3 args3 params3 exprs3 kids3)=false:=by simp only[Fm.same,bEq,e0,Bool.false_and,Bool.and_false]
  replace Z:=U @Bool.not_true (U @Bool.not_false e0);repeat'(first|refine G fun K J=>?_|refine uR Z ?_|refine uT Z ?_|(refine O J ?_;clear J)|apply zI)
  rw[hs]
 |true=>
  cases e1:(name.data.toList==name3.data.toList)with
  |false=>
   have hs:(Fm.mk op name args params exprs kids).same (.mk op3 name3 args3 params3 exprs3 kids3)=false:=(by simp only[Fm.same,bEq,e0,e1,Bool.false_and,Bool.and_false]);replace Z:=U @Bool.not_true (U @Bool.not_false (U e0 e1));(repeat'(first|refine G fun K J=>?_|refine uR Z ?_|refine uT Z ?_|(refine O J ?_;clear J)|apply zI));rw[hs]
  |true=>
   replace Z:=U @Bool.not_true (U @Bool.not_false (U e0 e1));(repeat'(first|refine G fun K J=>?_|refine uR Z ?_|(refine O J ?_;clear J)|apply zI));cases e2:bsEq args args3 with
   |false=>
    have hs:(Fm.mk op name args params exprs kids).same (.mk op3 name3 args3 params3 exprs3 kids3)=false:=(by simp only[Fm.same,bEq,e0,e1,e2,Bool.false_and,Bool.and_false]);replace Z:=U @Bool.not_true (U @Bool.not_false (U e0 (U e1 e2)));refine uU Z (rtexts_c (l:=args) (m:=args3) ha ha3) ?_;(repeat'(first|refine G fun K J=>?_|refine uR Z ?_|refine uT Z ?_|(refine O J ?_;clear J)|apply zI));rw[hs]
   |true=>
    replace Z:=U @Bool.not_true (U @Bool.not_false (U e0 (U e1 (U e2 (U hl_exprs (U hl_exprs3 (U hl_kids hl_kids3)))))));refine uU Z (rtexts_c (l:=args) (m:=args3) ha ha3) ?_;(try apply zI);cases e3:pmsEq params params3 with
    |false=>
     have hs:(Fm.mk op name args params exprs kids).same (.mk op3 name3 args3 params3 exprs3 kids3)=false:=(by simp only[Fm.same,bEq,e0,e1,e2,e3,Bool.false_and,Bool.and_false]);replace Z:=U @Bool.not_true (U @Bool.not_false (U e0 (U e1 (U e2 e3))));refine uU Z (rparams_c (l:=params) (m:=params3) hp hp3) ?_;(repeat'(first|refine G fun K J=>?_|refine uR Z ?_|refine uT Z ?_|(refine O J ?_;clear J)|apply zI));rw[hs]
    |true=>
     cases l_exprs:((exprs.length:Int) !=exprs3.length)with
     |true=>
      have hlen:Ex.sames exprs exprs3=false:=Ex.sames_len (by simp at l_exprs;omega);have hs:(Fm.mk op name args params exprs kids).same (.mk op3 name3 args3 params3 exprs3 kids3)=false:=(by simp only[Fm.same,bEq,e0,e1,e2,e3,hlen,Bool.false_and,Bool.and_false]);replace Z:=U @Bool.not_true (U @Bool.not_false (U e0 (U e1 (U e2 (U e3 (U l_exprs (U hl_exprs (U hl_exprs3 (U hl_kids hl_kids3)))))))));refine uU Z (rparams_c (l:=params) (m:=params3) hp hp3) ?_;(repeat'(first|refine G fun K J=>?_|refine uR Z ?_|refine uT Z ?_|(refine O J ?_;clear J)|apply zI));rw[hs]
     |false=>
      have hn_exprs:exprs.length=exprs3.length:=(by simp at l_exprs;omega);cases l_kids:((kids.length:Int) !=kids3.length)with
      |true=>
       have hlen:Fm.sames kids kids3=false:=Fm.sames_len (by simp at l_kids;omega);have hs:(Fm.mk op name args params exprs kids).same (.mk op3 name3 args3 params3 exprs3 kids3)=false:=(by simp only[Fm.same,bEq,e0,e1,e2,e3,hlen,Bool.false_and,Bool.and_false]);replace Z:=U @Bool.not_true (U @Bool.not_false (U e0 (U e1 (U e2 (U e3 (U l_exprs (U l_kids (U hl_exprs (U hl_exprs3 (U hl_kids hl_kids3))))))))));refine uU Z (rparams_c (l:=params) (m:=params3) hp hp3) ?_;(repeat'(first|refine G fun K J=>?_|refine uR Z ?_|refine uT Z ?_|(refine O J ?_;clear J)|apply zI));rw[hs]
      |false=>
       have hn_kids:kids.length=kids3.length:=(by simp at l_kids;omega);replace Z:=U @Bool.not_true (U @Bool.not_false (U e0 (U e1 (U e2 (U e3 (U l_exprs (U l_kids (U hl_exprs (U hl_exprs3 (U hl_kids hl_kids3))))))))));refine uU Z (rparams_c (l:=params) (m:=params3) hp hp3) ?_;(repeat'(first|refine G fun K J=>?_|refine a_block ?_|refine uR Z ?_|refine uK ?_|refine uC1 Z ?_|(refine O J ?_;clear J)|apply zI));refine a_loop (fun c S h7=>h7=h∧S 2= .cptr (Fm.mk op name args params exprs kids).cells∧S 3= .cptr (Fm.mk op3 name3 args3 params3 exprs3 kids3).cells∧ ∃ k:Nat,S 5= .sc (.int .i64 k)∧k≤exprs.length∧c=exprs.length-k∧Ex.sames exprs exprs3=Ex.sames (exprs.drop k) (exprs3.drop k)) exprs.length ?_ ?_
       ·simp only[Ty.w,simprocAttr,cellsA,cellsB];exact⟨0,rfl,by omega,rfl,by simp⟩
       ·rintro c S h7 ⟨rfl,g2,g3,k,gk,hkl,rfl,hinv⟩;rw[cellsA]at g2;rw[cellsB]at g3;by_cases hlt:k<exprs.length
        ·have hd:decide ((k:Int)<(exprs.length:Int))=true:=(by simp;omega);have w7:IntKind.i64.wrap ((k:Int)+1)=k+1:=(by unfold bigN at he;rw[wrap64 (by omega) (by omega)]);obtain⟨a,hx⟩: ∃ a,exprs[k]? =some a:=⟨_,List.getElem?_eq_getElem hlt⟩;obtain⟨b,hy⟩: ∃ b,exprs3[k]? =some b:=⟨_,List.getElem?_eq_getElem (by omega)⟩;have hc:=hfe a (List.mem_of_getElem? hx) b (List.mem_of_getElem? hy);rw[drop_of_get hx,drop_of_get hy]at hinv;simp only[Ex.sames]at hinv;have hr:=Ex.rows_get hx;have hr2:=Ex.rows_get hy;generalize he:a.same b=e at hc hinv;(try clear Z);clear he;obtain⟨op2,name2,n2,args2,kids2⟩:=a;obtain⟨op4,name4,n4,args4,kids4⟩:=b;simp only[Ex.cells]at hr hr2 hc;cases e with
         |false=>
          have hs:(Fm.mk op name args params exprs kids).same (.mk op3 name3 args3 params3 exprs3 kids3)=false:=(by simp only[Fm.same,bEq,hinv,e0,e1,e2,e3,Bool.false_and,Bool.and_false]);replace Z:=U g2 (U g3 (U gk (U hl_exprs (U hl_exprs3 (U hl_kids (U hl_kids3 (U hd (U hr (U hr2 (U w7 @Bool.not_false))))))))));(repeat'(first|refine G fun K J=>?_|refine uR Z ?_|refine uD Z ?_|refine uK ?_|refine uC1 Z ?_|(refine O J ?_;clear J)|apply zI));replace Z:=U g2 (U g3 (U gk (U hl_exprs (U hl_exprs3 (U hl_kids (U hl_kids3 (U hd (U hr hr2))))))));(first|refine uV Z (hc _) ?_|refine uA Z (hc _) ?_);replace Z:=U g2 (U g3 (U gk (U w7 @Bool.not_false)));(repeat'(first|refine G fun K J=>?_|refine uR Z ?_|refine uT Z ?_|(refine O J ?_;clear J)|apply zI));rw[hs]
         |true=>
          rw[Bool.true_and]at hinv;replace Z:=U g2 (U g3 (U gk (U hl_exprs (U hl_exprs3 (U hl_kids (U hl_kids3 (U hd (U hr (U hr2 (U w7 @Bool.not_true))))))))));(repeat'(first|refine G fun K J=>?_|refine uR Z ?_|refine uD Z ?_|refine uK ?_|refine uC1 Z ?_|(refine O J ?_;clear J)|apply zI));replace Z:=U g2 (U g3 (U gk (U hl_exprs (U hl_exprs3 (U hl_kids (U hl_kids3 (U hd (U hr hr2))))))));(first|refine uV Z (hc _) ?_|refine uA Z (hc _) ?_);replace Z:=U g2 (U g3 (U gk (U w7 @Bool.not_true)));(repeat'(first|refine a_block ?_|refine uR Z ?_|refine uK ?_|(refine O J ?_;clear J)|apply zI));exact⟨exprs.length-(k+1),by omega,by rw[cellsA],by rw[cellsB],k+1,by simp,by omega,rfl,hinv⟩
        ·have hd:decide ((k:Int)<(exprs.length:Int))=false:=(by simp;omega);rw[List.drop_eq_nil_of_le (by omega),List.drop_eq_nil_of_le (by omega)]at hinv;have hq0:=hinv;simp only[Ex.sames]at hq0;(try clear Z);clear hinv;replace Z:=U g2 (U g3 (U gk (U hl_exprs (U hl_exprs3 (U hl_kids (U hl_kids3 hd))))));(repeat'(first|refine G fun K J=>?_|refine a_block ?_|refine uR Z ?_|refine uX ?_|refine uC1 Z ?_|(refine O J ?_;clear J)|(clear J;refine O J ?_;clear J)|apply zI));(try clear Z);clear gk;refine a_loop (fun c S h8=>h8=h7∧S 2= .cptr (Fm.mk op name args params exprs kids).cells∧S 3= .cptr (Fm.mk op3 name3 args3 params3 exprs3 kids3).cells∧ ∃ k:Nat,S 6= .sc (.int .i64 k)∧k≤kids.length∧c=kids.length-k∧Fm.sames kids kids3=Fm.sames (kids.drop k) (kids3.drop k)) kids.length ?_ ?_
         ·simp only[Ty.w,simprocAttr,cellsA,cellsB,g2,g3];exact⟨0,rfl,by omega,rfl,by simp⟩
         ·(try clear Z);clear g2 g3;rintro c S h8 ⟨rfl,g2,g3,k,gk,hkl,rfl,hinv⟩;rw[cellsA]at g2;rw[cellsB]at g3;by_cases hlt:k<kids.length
          ·have hd:decide ((k:Int)<(kids.length:Int))=true:=(by simp;omega);have w7:IntKind.i64.wrap ((k:Int)+1)=k+1:=(by unfold bigN at hk;rw[wrap64 (by omega) (by omega)]);obtain⟨a,hx⟩: ∃ a,kids[k]? =some a:=⟨_,List.getElem?_eq_getElem hlt⟩;obtain⟨b,hy⟩: ∃ b,kids3[k]? =some b:=⟨_,List.getElem?_eq_getElem (by omega)⟩;have hc:=hfk a (List.mem_of_getElem? hx) b (List.mem_of_getElem? hy);rw[drop_of_get hx,drop_of_get hy]at hinv;simp only[Fm.sames]at hinv;have hr:=Fm.rows_get hx;have hr2:=Fm.rows_get hy;generalize he:a.same b=e at hc hinv;(try clear Z);clear he;obtain⟨op2,name2,args2,params2,exprs2,kids2⟩:=a;obtain⟨op4,name4,args4,params4,exprs4,kids4⟩:=b;simp only[Fm.cells]at hr hr2 hc;cases e with
           |false=>
            have hs:(Fm.mk op name args params exprs kids).same (.mk op3 name3 args3 params3 exprs3 kids3)=false:=(by simp only[Fm.same,bEq,hinv,e0,e1,e2,e3,hq0,Bool.false_and,Bool.and_false]);replace Z:=U g2 (U g3 (U gk (U hl_exprs (U hl_exprs3 (U hl_kids (U hl_kids3 (U hd (U hr (U hr2 (U w7 @Bool.not_false))))))))));(repeat'(first|refine G fun K J=>?_|refine uR Z ?_|refine uD Z ?_|refine uK ?_|refine uC1 Z ?_|(refine O J ?_;clear J)|apply zI));replace Z:=U g2 (U g3 (U gk (U hl_exprs (U hl_exprs3 (U hl_kids (U hl_kids3 (U hd (U hr hr2))))))));(first|refine uV Z (hc _) ?_|refine uA Z (hc _) ?_);replace Z:=U g2 (U g3 (U gk (U w7 @Bool.not_false)));(repeat'(first|refine G fun K J=>?_|refine uR Z ?_|refine uT Z ?_|(refine O J ?_;clear J)|apply zI));rw[hs]
           |true=>
            rw[Bool.true_and]at hinv;replace Z:=U g2 (U g3 (U gk (U hl_exprs (U hl_exprs3 (U hl_kids (U hl_kids3 (U hd (U hr (U hr2 (U w7 @Bool.not_true))))))))));(repeat'(first|refine G fun K J=>?_|refine uR Z ?_|refine uD Z ?_|refine uK ?_|refine uC1 Z ?_|(refine O J ?_;clear J)|apply zI));replace Z:=U g2 (U g3 (U gk (U hl_exprs (U hl_exprs3 (U hl_kids (U hl_kids3 (U hd (U hr hr2))))))));(first|refine uV Z (hc _) ?_|refine uA Z (hc _) ?_);replace Z:=U g2 (U g3 (U gk (U w7 @Bool.not_true)));(repeat'(first|refine a_block ?_|refine uR Z ?_|refine uK ?_|(refine O J ?_;clear J)|apply zI));exact⟨kids.length-(k+1),by omega,by rw[cellsA],by rw[cellsB],k+1,by simp,by omega,rfl,hinv⟩
          ·have hd:decide ((k:Int)<(kids.length:Int))=false:=(by simp;omega);rw[List.drop_eq_nil_of_le (by omega),List.drop_eq_nil_of_le (by omega)]at hinv;have hq1:=hinv;simp only[Fm.sames]at hq1;(try clear Z);clear hinv;have hs:(Fm.mk op name args params exprs kids).same (.mk op3 name3 args3 params3 exprs3 kids3)=true:=(by simp only[Fm.same,bEq,e0,e1,e2,e3,hq0,hq1,Bool.true_and]);replace Z:=U g2 (U g3 (U gk (U hl_exprs (U hl_exprs3 (U hl_kids (U hl_kids3 hd))))));(repeat'(first|refine G fun K J=>?_|refine uR Z ?_|refine uT Z ?_|refine uX ?_|refine uC1 Z ?_|(refine O J ?_;clear J)|(clear J;refine O J ?_;clear J)|apply zI));rw[hs]
end Go.Proofs.YtblgchkahpgdjaaGreat
namespace Go.AM
open Go.ChangeShapes Go.WideShapes
def partsT(P:Program)(t:TypeId):List (Nat × TypeId):=match P.underlying t with
 |some (.struct fs)=>fs.toList.map fun f=>(f.offset,f.type)
 |some (.array n e)=>(List.range n).map fun i=>(i*P.cellsOf e,e)
 |_=>[]
def inRow(P:Program)(e:Nat):Nat→List (Nat × TypeId)→Bool
 |o,[]=>o==e
 |o,p::l=>p.1==o&&inRow P e (o+P.cellsOf p.2) l
def covB(P:Program):Nat→TypeId→Bool
 |0,_=>false
 |f+1,t=>match P.underlying t with
  |some .bool=>true
  |some (.int _)=>true
  |some .string=>true
  |some (.slice e)=>decide (0<P.cellsOf e)&&covB P f e
  |some (.struct _)=>inRow P (P.cellsOf t) 0 (partsT P t)&&(partsT P t).all fun p=>covB P f p.2
  |some (.array _ _)=>inRow P (P.cellsOf t) 0 (partsT P t)&&(partsT P t).all fun p=>covB P f p.2
  |_=>false
def Arg(P:Program):Nat→TypeId→List PV→Prop
 |0,_,_=>False
 |f+1,t,ps=>match P.underlying t with
  |some .bool=> ∃ b,ps=[.sc (.bool b)]
  |some (.int k)=> ∃ n,(Lit.int k n).wf=true∧ps=[.sc (.int k n)]
  |some .string=> ∃ s:ByteArray,s.size≤reachBytes∧ps=[.sc (.string s)]
  |some (.slice e)=> ∃ rows,ps=[.imm (P.cellsOf e) rows]∧rows.length*P.bytesOf e≤reachBytes∧rows.length≤maxLen∧ ∀ r∈rows,r.length=P.cellsOf e∧Arg P f e r
  |some (.struct _)=>ps.length=P.cellsOf t∧ ∀ p∈partsT P t,Arg P f p.2 ((ps.drop p.1).take (P.cellsOf p.2))
  |some (.array _ _)=>ps.length=P.cellsOf t∧ ∀ p∈partsT P t,Arg P f p.2 ((ps.drop p.1).take (P.cellsOf p.2))
  |_=>False
section
variable {H:Type}{enc:TypeId × Value→H}{P:Program}{w:World}{sp:Nat→Bool}{held:Bool}
def RA(w:World)(ps:List PV)(cs:List Value):Prop:=(∀ v∈cs,v.oneCell'=true)∧ ∀ β n,RepL β n (fun b=>b<w.heap.size) w ps cs
theorem RA.len{ps:List PV}{cs:List Value}(h:RA w ps cs):ps.length=cs.length:=(h.2 ⟨fun _=>⟨none,0,0,0⟩,fun _=>False⟩ 0).len
theorem RA.append{ps ps':List PV}{cs cs':List Value}(h:RA w ps cs)(k:RA w ps' cs'):RA w (ps++ps') (cs++cs'):=
 ⟨fun v hv=>by exact(List.mem_append.1 hv).elim (h.1 v) (k.1 v),fun β n=>(h.2 β n).append (k.2 β n)⟩
theorem inRow_le{e:Nat}:(l:List (Nat × TypeId))→(o:Nat)→inRow P e o l=true→o≤e∧ ∀ p∈l,o≤p.1∧p.1+P.cellsOf p.2≤e
 |[],o,h=>by simp[inRow]at h;simp[h]
 |p::l,o,h=>by
  simp only[inRow,Bool.and_eq_true,beq_iff_eq]at h;obtain⟨h1,h2⟩:=inRow_le l _ h.2;refine⟨by omega,fun q hq=>?_⟩;rcases List.mem_cons.1 hq with rfl|hq
  ·omega
  ·have:=h2 q hq;omega
theorem parts_rep{c:Nat}{cs:List Value}:(l:List (Nat × TypeId))→(o:Nat)→inRow P cs.length o l=true→
  (∀ p∈l, ∃ ps,Arg P c p.2 ps∧RA w ps ((cs.drop p.1).take (P.cellsOf p.2)))→
  ∃ ps,RA w ps (cs.drop o)∧ ∀ p∈l,Arg P c p.2 ((ps.drop (p.1-o)).take (P.cellsOf p.2))
 |[],o,h,_=>by
  simp[inRow]at h;refine⟨[],⟨?_,fun β n=>?_⟩,by simp⟩
  ·rw [List.drop_of_length_le (by omega)];simp
  ·rw [List.drop_of_length_le (by omega)];simp[RepL]
 |p::l,o,h,hp=>by
  have hle:=(inRow_le (p::l) o h).2 p (by simp);simp only[inRow,Bool.and_eq_true,beq_iff_eq]at h;obtain⟨ps,h1,h2⟩:=parts_rep l _ h.2 (fun q hq=>hp q (by simp[hq]));obtain⟨ps0,h3,h4⟩:=hp p (by simp);have hl2:=(inRow_le l _ h.2).2;have e0:p.1=o:=h.1;have l0:ps0.length=P.cellsOf p.2:=by rw[h4.len,List.length_take,List.length_drop];omega
  refine⟨ps0++ps,?_,fun q hq=>?_⟩
  ·have:cs.drop o=(cs.drop p.1).take (P.cellsOf p.2)++cs.drop (o+P.cellsOf p.2):=by
    rw[e0, ← List.drop_drop,List.take_append_drop]
   rw[this];exact h4.append h1
  ·rcases List.mem_cons.1 hq with rfl|hq
   ·rw [e0,Nat.sub_self,List.drop_zero,List.take_append_of_le_length (by omega),List.take_of_length_le (by omega)];exact h3
   ·have h5:=hl2 q hq;have:q.1-o=ps0.length+(q.1-(o+P.cellsOf p.2)):=(by omega);rw[this, ← List.drop_drop,List.drop_left];exact h2 q hq
theorem exists_list{α:Type}{R:Nat→α→Prop}:(n:Nat)→(∀ i,i<n→ ∃ x,R i x)→ ∃ l:List α,l.length=n∧ ∀ i x,l[i]? =some x→R i x
 |0,_=>⟨[],rfl,by simp⟩
 |n+1,h=>by
  obtain⟨l,h1,h2⟩:=exists_list n (fun i hi=>h i (by omega));obtain⟨x,hx⟩:=h n (by omega);refine⟨l++[x],by simp[h1],fun i y hy=>?_⟩;rw[List.getElem?_append]at hy;split at hy
  ·exact h2 i y hy
  ·rename_i hi;have:i=n:=by
    have:=(List.getElem?_eq_some_iff.1 hy).1;simp at this;omega
   subst this;rw[h1]at hy;simp at hy;subst hy;exact hx
theorem weightsAll_mem{e:TypeId}{n:Nat}:{ds:List (DataW H)}→{i:Nat}→{d:DataW H}→ds[i]? =some d→n∈d.weights P e→n∈DataW.weightsAll P e ds
 |[],_,_,h,_=>by simp at h
 |d0::ds,0,d,h,hn=>by
  simp at h;subst h;simp only[DataW.weightsAll,List.mem_append];exact .inl hn
 |d0::ds,i+1,d,h,hn=>by
  simp at h;simp only[DataW.weightsAll,List.mem_append];exact .inr (weightsAll_mem h hn)
theorem sc_RA{v:Value}(h:v.oneCell'=true):RA w [.sc v] [v]:=
 ⟨fun u hu=>by simp at hu;subst hu;exact h,fun β n=>by simp only[RepL,Rep];exact⟨trivial,trivial⟩⟩
theorem arg_of: ∀ (c:Nat)(t:TypeId),covB P c t=true→ ∀ (fuel:Nat)(cs:List Value)(x:DataW H × List MemPlace),DataW.trod enc P w 0 sp held fuel t cs=some x→(∀ n∈x.1.weights P t,n≤reachBytes)→
  ∃ ps,Arg P c t ps∧RA w ps cs
 |0,_,h,_,_,_,_,_=>by simp[covB]at h
 |c+1,t,h,fuel,cs,x,hx,hw=>by
  unfold covB at h;split at h
  ·rename_i hu;obtain⟨b,rfl,rfl⟩:=DataW.trod_bool hu hx;refine⟨[.sc (.bool b)],?_,sc_RA rfl⟩;unfold Arg;rw[hu];exact⟨b,rfl⟩
  ·rename_i k hu;obtain⟨n,rfl,rfl,hwf⟩:=DataW.trod_int hu hx;refine⟨[.sc (.int k n)],?_,sc_RA rfl⟩;unfold Arg;rw[hu];exact⟨n,hwf,rfl⟩
  ·rename_i hu;obtain⟨s,rfl,rfl,hs⟩:=DataW.trod_string hu hx;refine⟨[.sc (.string s)],?_,sc_RA rfl⟩;unfold Arg;rw[hu];refine⟨s,?_,rfl⟩;have:=hw s.data.toList.length (by simp[DataW.weights]);simpa using this
  ·rename_i e hu;simp only[Bool.and_eq_true,decide_eq_true_eq]at h;obtain⟨hpos,hcov⟩:=h;rcases DataW.trod_slice hu hx with⟨rfl,rfl⟩|⟨a,len,cap,elems,rest,n,rfl,rfl,rfl,hb,hl,hm,hlen,hel,hsp,hns⟩
   ·refine ⟨[.imm (P.cellsOf e) []],?_,fun v hv=>?_,fun β n=>?_⟩
    ·unfold Arg;rw[hu];exact⟨[],rfl,by simp,by simp,by simp⟩
    ·simp at hv;subst hv;rfl
    ·simp only[RepL,Rep];exact⟨⟨none,0,rfl,Nat.le_refl _,Nat.zero_le _,.inl (by trivial)⟩,trivial⟩
   ·have each: ∀ i,i<len→ ∃ r:List PV,(r.length=P.cellsOf e∧Arg P c e r)∧ ∃ ci,RA w r ci∧ci.length=P.cellsOf e∧ ∀ j,j<P.cellsOf e→w.cell? ((a.add (i*P.cellsOf e)).add j)=ci[j]?:=by
     intro i hi;have h1:=hel i hi;have h2:elems[i]? =some (elems[i]'(by omega)):=List.getElem?_eq_getElem _;rw[h2,Option.bind_eq_some_iff]at h1;obtain⟨ci,h3,h4⟩:=h1;obtain⟨_,h5,h6⟩:=World.cells?_some h3;obtain⟨r,h7,h8⟩:=arg_of c e hcov n ci _ h4 (fun m hm=>hw m (by
      simp only[DataW.weights,hu,List.mem_cons,List.mem_append];exact .inr (.inl (weightsAll_mem (i:=i) (by rw[List.getElem?_map,h2];try rfl) hm))))
     exact⟨r,⟨by rw[h8.len,h5],h7⟩,ci,h8,h5,h6⟩
    obtain⟨rows,hrl,hrows⟩:=exists_list len each;refine⟨[.imm (P.cellsOf e) rows],?_,fun v hv=>?_,fun β m=>?_⟩
    ·unfold Arg;rw[hu];refine⟨rows,rfl,?_,by omega,fun r hr=>?_⟩
     ·have:=hw ((elems.map (·.1)).length*P.bytesOf e+(rest.map (·.1)).length*P.bytesOf e) (by
       simp only[DataW.weights,hu,List.mem_cons,Nat.add_mul,true_or])
      have h9:rows.length=(elems.map (·.1)).length:=(by simp[hrl,hlen]);rw[h9];exact Nat.le_trans (Nat.le_add_right _ _) this
     ·obtain ⟨i,hi⟩:=List.getElem?_of_mem hr;exact(hrows i r hi).1
    ·simp at hv;subst hv;rfl
    ·simp only[RepL,Rep];refine⟨⟨some a,cap,by rw[hrl],by omega,hm,?_⟩,trivial⟩;by_cases h0:len=0
     ·left;exact List.length_eq_zero_iff.1 (by omega)
     ·right;obtain⟨_,_,c0,_,hc0,hcell0⟩:=each 0 (by omega);have h10:=hcell0 0 hpos;rw[List.getElem?_eq_getElem (by omega)]at h10;simp only[Nat.zero_mul,Addr.add,if_true]at h10;have hs:a.spot=none:=by
       unfold World.cell? at h10;split at h10
       ·split at h10
        ·simp at h10
        ·rename_i hsp;simpa using hsp
       ·simp at h10
      have hblk:a.block<w.heap.size:=by
       unfold World.cell? at h10;split at h10
       ·rename_i hh;exact(Array.getElem?_eq_some_iff.1 hh).1
       ·simp at h10
      refine⟨a.block,a.off,hblk,by cases a;simp only at hs;subst hs;rfl,?_⟩;rw[RepR_iff];intro i r hr;obtain⟨⟨g1,_⟩,ci,g2,g3,g4⟩:=hrows i r hr;refine⟨g1,?_⟩;rw[RepS_iff];intro j p hp;obtain⟨v,hv,hrep⟩:=(g2.2 β m).get hp;have hj:j<P.cellsOf e:=(by rw[← g3];exact(List.getElem?_eq_some_iff.1 hv).1);refine⟨v,?_,g2.1 v (List.mem_of_getElem? hv),hrep⟩;rw[← hv, ← g4 j hj];congr 1;cases a;simp only at hs;subst hs;simp only[Addr.add];split<;>split<;>simp_all<;>omega
  ·rename_i fs hu;simp only[Bool.and_eq_true,List.all_eq_true]at h;obtain⟨xs,n,rfl,rfl,hcl,hxl,hp⟩:=DataW.trod_struct hu hx;have hpt:partsT P t=fs.toList.map fun f=>(f.offset,f.type):=(by unfold partsT;rw[hu]);obtain⟨ps,h1,h2⟩:=parts_rep (w:=w) (c:=c) (cs:=cs) (partsT P t) 0 (by rw[hcl];exact h.1) (fun p hpm=>by
    have hcv:=h.2 p hpm;rw[hpt]at hpm;obtain⟨i,hi⟩:=List.getElem?_of_mem hpm;rw[List.getElem?_map,Option.map_eq_some_iff]at hi;obtain⟨f,hf,rfl⟩:=hi;have hf':fs[i]? =some f:=(by simpa using hf);have hi':i<xs.length:=by
     rw[hxl];exact(Array.getElem?_eq_some_iff.1 hf').1
    have h3:=hp i f hf';rw[List.getElem?_eq_getElem hi']at h3;exact arg_of c f.type hcv n _ _ h3 (fun m hm=>hw m (by
     simp only[DataW.weights,hu];exact DataW.weights_mem_each (j:=i) (t:=f.type) (d:=xs[i].1) (by rw[List.getElem?_map,hf];try rfl) (by rw[List.getElem?_map,List.getElem?_eq_getElem hi'];try rfl) m hm)))
   refine⟨ps,?_,by simpa using h1⟩;unfold Arg;rw[hu];exact⟨by rw[h1.len,List.drop_zero,hcl],fun p hpm=>by simpa using h2 p hpm⟩
  ·rename_i k e hu;simp only[Bool.and_eq_true,List.all_eq_true]at h;obtain⟨xs,n,rfl,rfl,hcl,hxl,hp⟩:=DataW.trod_array hu hx;have hpt:partsT P t=(List.range k).map fun i=>(i*P.cellsOf e,e):=(by unfold partsT;rw[hu]);obtain⟨ps,h1,h2⟩:=parts_rep (w:=w) (c:=c) (cs:=cs) (partsT P t) 0 (by rw[hcl];exact h.1) (fun p hpm=>by
    have hcv:=h.2 p hpm;rw[hpt]at hpm;obtain⟨i,hi,rfl⟩:=List.mem_map.1 hpm;have hi':i<xs.length:=(by rw[hxl];simpa using hi);have h3:=hp i (by simpa using hi);rw[List.getElem?_eq_getElem hi']at h3;exact arg_of c e hcv n _ _ h3 (fun m hm=>hw m (by
     simp only[DataW.weights,hu];exact weightsAll_mem (i:=i) (d:=xs[i].1) (by rw[List.getElem?_map,List.getElem?_eq_getElem hi'];try rfl) hm)))
   refine⟨ps,?_,by simpa using h1⟩;unfold Arg;rw[hu];exact⟨by rw[h1.len,List.drop_zero,hcl],fun p hpm=>by simpa using h2 p hpm⟩
  ·simp at h
def ArgV(P:Program)(c:Nat)(t:TypeId)(p:PV):Prop:=match P.underlying t with
 |some (.struct _)=> ∃ ps,p= .agg ps∧Arg P c t ps
 |some (.array _ _)=> ∃ ps,p= .agg ps∧Arg P c t ps
 |_=>Arg P c t [p]
theorem arg_value{c:Nat}{t:TypeId}(hc:covB P c t=true){v:Value}{d:DataW H}{pl:List MemPlace}(h:DataW.Trod enc P w 0 sp held t v d pl)(hv: ∃ base,Value.okWide P w .any base t v)
  (hw: ∀ n∈d.weights P t,n≤reachBytes): ∃ p,ArgV P c t p∧ ∀ β n,Rep β n (fun b=>b<w.heap.size) w p v:=by
 obtain⟨fuel,hf⟩:=h;obtain⟨ps,h1,h2⟩:=arg_of c t hc fuel _ _ hf hw;obtain⟨base,hv⟩:=hv;unfold Value.okWide at hv;cases c with
 |zero=>simp[covB]at hc
 |succ c=>
  unfold covB at hc;unfold ArgV;have one:(∃ q,ps=[q])→(∃ u,v.cells.toList=[u]∧v=u)→ ∃ p,Arg P (c+1) t [p]∧ ∀ β n,Rep β n (fun b=>b<w.heap.size) w p v:=by
   rintro⟨q,rfl⟩ ⟨u,hu,rfl⟩;refine⟨q,h1,fun β n=>?_⟩;have:=h2.2 β n;rw[hu]at this;simp only[RepL]at this;exact this.1
  have agg:(∃ cs,v= .agg cs)→ ∃ p,(∃ ps,p= .agg ps∧Arg P (c+1) t ps)∧ ∀ β n,Rep β n (fun b=>b<w.heap.size) w p v:=by
   rintro⟨cs,rfl⟩;refine⟨.agg ps,⟨ps,rfl,h1⟩,fun β n=>?_⟩;simp only[Rep];exact⟨cs.toList,by simp,h2.1,h2.2 β n⟩
  split at hc
  ·rename_i hu;obtain⟨b,hb,_⟩:=DataW.trod_bool hu hf;simp only[hu]at hv⊢;refine one ?_ ⟨_,hb,?_⟩
   ·unfold Arg at h1;rw[hu]at h1;obtain⟨b,rfl⟩:=h1;exact⟨_,rfl⟩
   ·obtain ⟨b',rfl⟩:=okWide_bool hu (r:= .any) (base:=base) (v:=v) (w:=w) (by unfold Value.okWide;rw[hu];exact hv);simpa[Value.cells]using hb
  ·rename_i k hu;obtain⟨n,hb,_⟩:=DataW.trod_int hu hf;simp only[hu]at hv⊢;refine one ?_ ⟨_,hb,?_⟩
   ·unfold Arg at h1;rw[hu]at h1;obtain⟨n,_,rfl⟩:=h1;exact⟨_,rfl⟩
   ·obtain ⟨b',rfl⟩:=okWide_int hu (r:= .any) (base:=base) (v:=v) (w:=w) (by unfold Value.okWide;rw[hu];exact hv);simpa[Value.cells]using hb
  ·rename_i hu;obtain⟨n,hb,_⟩:=DataW.trod_string hu hf;simp only[hu]at hv⊢;refine one ?_ ⟨_,hb,?_⟩
   ·unfold Arg at h1;rw[hu]at h1;obtain⟨n,_,rfl⟩:=h1;exact⟨_,rfl⟩
   ·obtain ⟨b',rfl⟩:=okWide_string hu (r:= .any) (base:=base) (v:=v) (w:=w) (by unfold Value.okWide;rw[hu];exact hv);simpa[Value.cells]using hb
  ·rename_i e hu;simp only[hu]at hv⊢;obtain⟨a,len,cap,rfl⟩:=okWide_slice hu (r:= .any) (base:=base) (v:=v) (w:=w) (by unfold Value.okWide;rw[hu];exact hv);refine one ?_ ⟨_,rfl,rfl⟩;unfold Arg at h1;rw[hu]at h1;obtain⟨n,rfl,_⟩:=h1;exact⟨_,rfl⟩
  ·rename_i fs hu;simp only[hu]at hv⊢;obtain⟨cs,rfl,_⟩:=hv;exact agg ⟨_,rfl⟩
  ·rename_i n e hu;simp only[hu]at hv⊢;obtain⟨cs,rfl,_⟩:=hv;exact agg ⟨_,rfl⟩
  ·simp at hc
end
end Go.AM
namespace Go.AM
open Go.ChangeShapes Go.WideShapes
section
variable {H:Type}{enc:TypeId × Value→H}{P:Program}{w:World}{sp:Nat→Bool}{held:Bool}
def covC(P:Program)(Ts:List TypeId):Bool:=Ts.all fun t=>match P.underlying t with
 |some .bool=>true
 |some (.int _)=>true
 |some .string=>true
 |some (.slice e)=>decide (0<P.cellsOf e)&&Ts.contains e
 |some (.struct _)=>inRow P (P.cellsOf t) 0 (partsT P t)&&(partsT P t).all fun p=>Ts.contains p.2
 |some (.array _ _)=>inRow P (P.cellsOf t) 0 (partsT P t)&&(partsT P t).all fun p=>Ts.contains p.2
 |_=>false
end
end Go.AM
namespace Go.AM
open Go.ChangeShapes Go.WideShapes
section
variable {P:Program}{c:Nat}{t e:TypeId}{ps:List PV}{a:PV}
theorem Arg_int{k:IntKind}(hu:P.underlying t=some (.int k))(h:Arg P (c+1) t ps): ∃ n,(Lit.int k n).wf=true∧ps=[.sc (.int k n)]:=by
 unfold Arg at h;rw[hu]at h;exact h
theorem Arg_slice(hu:P.underlying t=some (.slice e))(h:Arg P (c+1) t ps): ∃ rows,ps=[.imm (P.cellsOf e) rows]∧rows.length*P.bytesOf e≤reachBytes∧rows.length≤maxLen∧ ∀ r∈rows,r.length=P.cellsOf e∧Arg P c e r:=by
 unfold Arg at h;rw[hu]at h;exact h
theorem Arg_struct{fs:Array Field}(hu:P.underlying t=some (.struct fs))(h:Arg P (c+1) t ps):ps.length=P.cellsOf t∧ ∀ p∈partsT P t,Arg P c p.2 ((ps.drop p.1).take (P.cellsOf p.2)):=by
 unfold Arg at h;rw[hu]at h;exact h
theorem rows_map{α:Type}{Q:α→Prop}{f:α→List PV}:(rows:List (List PV))→(∀ r∈rows, ∃ x,Q x∧r=f x)→ ∃ xs:List α,rows=xs.map f∧ ∀ x∈xs,Q x
 |[],_=>⟨[],rfl,by simp⟩
 |r::rows,h=>by
  obtain⟨xs,h1,h2⟩:=rows_map rows (fun q hq=>h q (by simp[hq]));obtain⟨x,h3,h4⟩:=h r (by simp);refine⟨x::xs,by simp[h1,h4],fun y hy=>?_⟩;rcases List.mem_cons.1 hy with rfl|hy
  ·exact h3
  ·exact h2 y hy
theorem i64_in{n:Int}(h:(Lit.int .i64 n).wf=true): -9223372036854775808≤n∧n≤9223372036854775807:=by
 simp[Lit.wf,IntKind.min,IntKind.max,IntKind.bits,IntKind.signed]at h;omega
end
end Go.AM
namespace Go.Proofs.YtblgchkahpgdjaaGreat
open Go.AM
set_option maxHeartbeats 1000000
set_option maxRecDepth 20000
def recTs:List TypeId:=[67,75,123,9,3,64,22,65,63]
theorem parts57:partsT Tryz.prog 75=[(0,9),(1,9),(2,3),(3,64),(4,65)]:=by kernel_rfl
theorem parts29:partsT Tryz.prog 67=[(0,9),(1,9),(2,64),(3,22),(4,65),(5,63)]:=by kernel_rfl
theorem parts99:partsT Tryz.prog 123=[(0,9),(1,9)]:=by kernel_rfl
theorem co9:Tryz.prog.cellsOf 9=1:=by kernel_rfl
theorem co3:Tryz.prog.cellsOf 3=1:=by kernel_rfl
theorem co24:Tryz.prog.cellsOf 64=1:=by kernel_rfl
theorem co25:Tryz.prog.cellsOf 22=1:=by kernel_rfl
theorem co26:Tryz.prog.cellsOf 65=1:=by kernel_rfl
theorem co27:Tryz.prog.cellsOf 63=1:=by kernel_rfl
theorem co57:Tryz.prog.cellsOf 75=5:=by kernel_rfl
theorem co29:Tryz.prog.cellsOf 67=6:=by kernel_rfl
theorem co99:Tryz.prog.cellsOf 123=2:=by kernel_rfl
theorem by9:0<Tryz.prog.bytesOf 9:=by rw[show Tryz.prog.bytesOf 9=16 by kernel_rfl];omega
theorem by99:0<Tryz.prog.bytesOf 123:=by rw[show Tryz.prog.bytesOf 123=32 by kernel_rfl];omega
theorem by57:0<Tryz.prog.bytesOf 75:=by rw[show Tryz.prog.bytesOf 75=88 by kernel_rfl];omega
theorem by29:0<Tryz.prog.bytesOf 67:=by rw[show Tryz.prog.bytesOf 67=128 by kernel_rfl];omega
theorem len_le{n b:Nat}(h:n*b≤reachBytes)(hb:0<b):n≤bigN:=by
 have:=Nat.le_mul_of_pos_right n hb;unfold reachBytes at h;unfold bigN;omega
theorem arg_str{c:Nat}{ps:List PV}(h:Arg Tryz.prog c 9 ps): ∃ s:ByteArray,s.size≤bigN∧ps=[sPV s]:=by
 cases c with
 |zero=>simp[Arg]at h
 |succ c=>
  unfold Arg at h;rw[Tryz.underlying9]at h;obtain⟨s,h1,h2⟩:=h;exact⟨s,by unfold reachBytes at h1;unfold bigN;omega,h2⟩
theorem arg_i64{c:Nat}{ps:List PV}(h:Arg Tryz.prog c 3 ps): ∃ n:Int,(-9223372036854775808≤n∧n≤9223372036854775807)∧ps=[.sc (.int .i64 n)]:=by
 cases c with
 |zero=>simp[Arg]at h
 |succ c=>
  obtain⟨n,h1,h2⟩:=Arg_int Tryz.underlying3 h;exact⟨n,i64_in h1,h2⟩
theorem arg_strs{c:Nat}{ps:List PV}(h:Arg Tryz.prog c 64 ps): ∃ l:List ByteArray,(l.length≤bigN∧ ∀ a∈l,a.size≤bigN)∧ps=[.imm 1 (strRows l)]:=by
 cases c with
 |zero=>simp[Arg]at h
 |succ c=>
  obtain⟨rows,rfl,h1,_,h2⟩:=Arg_slice Tryz.underlying64 h;obtain⟨xs,rfl,h3⟩:=rows_map (Q:=fun s:ByteArray=>s.size≤bigN) (f:=fun s=>[sPV s]) rows (fun r hr=>arg_str (h2 r hr).2);refine⟨xs,⟨len_le (by simpa using h1) by9,h3⟩,?_⟩;rw[co9];try rfl
theorem arg_pm{c:Nat}{ps:List PV}(h:Arg Tryz.prog c 123 ps): ∃ p:Pm,p.ok∧ps=pmRow p:=by
 cases c with
 |zero=>simp[Arg]at h
 |succ c=>
  obtain⟨h1,h2⟩:=Arg_struct Tryz.underlying123 h;rw[co99]at h1;rw[parts99]at h2
  match ps,h1,h2 with
  |[p0,p1],_,h2=>
   have a0:=h2 (0,9) (by simp);have a1:=h2 (1,9) (by simp);simp only[co9,List.drop_zero,List.drop_succ_cons,List.take_succ_cons,List.take_zero]at a0 a1;obtain⟨s,hs,e1⟩:=arg_str a0;obtain⟨t,ht,e2⟩:=arg_str a1;simp at e1 e2;exact⟨⟨s,t⟩,⟨hs,ht⟩,by simp[pmRow,e1,e2]⟩
theorem arg_pms{c:Nat}{ps:List PV}(h:Arg Tryz.prog c 22 ps): ∃ l:List Pm,(l.length≤bigN∧ ∀ a∈l,a.ok)∧ps=[.imm 2 (pmRows l)]:=by
 cases c with
 |zero=>simp[Arg]at h
 |succ c=>
  obtain⟨rows,rfl,h1,_,h2⟩:=Arg_slice Tryz.underlying22 h;obtain⟨xs,rfl,h3⟩:=rows_map (Q:=Pm.ok) (f:=pmRow) rows (fun r hr=>arg_pm (h2 r hr).2);refine⟨xs,⟨len_le (by simpa using h1) by99,h3⟩,?_⟩;rw[co99];try rfl
theorem arg_ex: ∀ (c:Nat){ps:List PV},Arg Tryz.prog c 75 ps→ ∃ e:Ex,e.ok∧ps=e.cells:=by
 intro c
 induction c using Nat.strongRecOn with
 |_ c ih=>
  intro ps h;cases c with
  |zero=>simp[Arg]at h
  |succ c=>
   obtain⟨h1,h2⟩:=Arg_struct Tryz.underlying75 h;rw[co57]at h1;rw[parts57]at h2
   match ps,h1,h2 with
   |[p0,p1,p2,p3,p4],_,h2=>
    have a0:=h2 (0,9) (by simp);have a1:=h2 (1,9) (by simp);have a2:=h2 (2,3) (by simp);have a3:=h2 (3,64) (by simp);have a4:=h2 (4,65) (by simp);simp only[co9,co3,co24,co26,List.drop_zero,List.drop_succ_cons,List.take_succ_cons,List.take_zero]at a0 a1 a2 a3 a4;obtain⟨op,hop,e0⟩:=arg_str a0;obtain⟨name,hname,e1⟩:=arg_str a1;obtain⟨n,hn,e2⟩:=arg_i64 a2;obtain⟨args,hargs,e3⟩:=arg_strs a3;cases c with
    |zero=>simp[Arg]at a4
    |succ c=>
     obtain⟨rows,e4,h3,_,h4⟩:=Arg_slice Tryz.underlying65 a4;obtain⟨xs,rfl,h5⟩:=rows_map (Q:=Ex.ok) (f:=Ex.cells) rows (fun r hr=>ih c (by omega) (h4 r hr).2);rw[co57]at e4;simp at e0 e1 e2 e3 e4;refine⟨.mk op name n args xs,?_,?_⟩
     ·simp only[Ex.ok];exact⟨hop,hname,hn,hargs,len_le (by simpa using h3) by57,Ex.oks_iff.2 h5⟩
     ·simp only[Ex.cells,e0,e1,e2,e3,e4,Ex.rows_map]
theorem arg_exs{c:Nat}{ps:List PV}(h:Arg Tryz.prog c 65 ps): ∃ l:List Ex,(l.length≤bigN∧Ex.oks l)∧ps=[.imm 5 (Ex.rows l)]:=by
 cases c with
 |zero=>simp[Arg]at h
 |succ c=>
  obtain⟨rows,rfl,h1,_,h2⟩:=Arg_slice Tryz.underlying65 h;obtain⟨xs,rfl,h3⟩:=rows_map (Q:=Ex.ok) (f:=Ex.cells) rows (fun r hr=>arg_ex c (h2 r hr).2);refine⟨xs,⟨len_le (by simpa using h1) by57,Ex.oks_iff.2 h3⟩,?_⟩;rw[co57,Ex.rows_map]
theorem arg_fm: ∀ (c:Nat){ps:List PV},Arg Tryz.prog c 67 ps→ ∃ f:Fm,f.ok∧ps=f.cells:=by
 intro c
 induction c using Nat.strongRecOn with
 |_ c ih=>
  intro ps h;cases c with
  |zero=>simp[Arg]at h
  |succ c=>
   obtain⟨h1,h2⟩:=Arg_struct Tryz.underlying67 h;rw[co29]at h1;rw[parts29]at h2
   match ps,h1,h2 with
   |[p0,p1,p2,p3,p4,p5],_,h2=>
    have a0:=h2 (0,9) (by simp);have a1:=h2 (1,9) (by simp);have a2:=h2 (2,64) (by simp);have a3:=h2 (3,22) (by simp);have a4:=h2 (4,65) (by simp);have a5:=h2 (5,63) (by simp);simp only[co9,co24,co25,co26,co27,List.drop_zero,List.drop_succ_cons,List.take_succ_cons,List.take_zero]at a0 a1 a2 a3 a4 a5;obtain⟨op,hop,e0⟩:=arg_str a0;obtain⟨name,hname,e1⟩:=arg_str a1;obtain⟨args,hargs,e2⟩:=arg_strs a2;obtain⟨params,hparams,e3⟩:=arg_pms a3;obtain⟨exprs,hexprs,e4⟩:=arg_exs a4;cases c with
    |zero=>simp[Arg]at a5
    |succ c=>
     obtain⟨rows,e5,h3,_,h4⟩:=Arg_slice Tryz.underlying63 a5;obtain⟨xs,rfl,h5⟩:=rows_map (Q:=Fm.ok) (f:=Fm.cells) rows (fun r hr=>ih c (by omega) (h4 r hr).2);rw[co29]at e5;simp at e0 e1 e2 e3 e4 e5;refine⟨.mk op name args params exprs xs,?_,?_⟩
     ·simp only[Fm.ok];exact⟨hop,hname,hargs,hparams,hexprs,len_le (by simpa using h3) by29,Fm.oks_iff.2 h5⟩
     ·simp only[Fm.cells,e0,e1,e2,e3,e4,e5,Fm.rows_map]
set_option maxHeartbeats 2000000
theorem rsizeE_c: ∀ (e:Ex),e.ok→ ∀ h:Heap,PCall Tryz.prog 50 [.agg e.cells] h fun r h'=>r= .sc (.int .i64 e.size)∧h'=h:=by
 refine Ex.ind ?_;intro op name n args kids ih hok h;simp only[Ex.ok]at hok;obtain⟨_,_,_,_,hk,hks⟩:=hok;rw[Ex.oks_iff]at hks;have hlen:=Ex.rows_len kids;simp only[Ex.cells,Ex.size];refine uG0 Tryz.func50 Tryz.ntmps50 Tryz.results50 Ty.hb_50 ?_;repeat'(first|refine G fun K J=>?_|refine a_block ?_|refine uR hlen ?_|(refine O J ?_;clear J)|apply zI)
 refine a_loop (fun m S h'=>h'=h∧S 1= .cptr (Ex.mk op name n args kids).cells∧ ∃ k:Nat,S 4= .sc (.int .i64 k)∧k≤kids.length∧m=kids.length-k∧S 3= .sc (.int .i64 (Ex.sizes 1 (kids.take k)))) kids.length ?_ ?_
 ·simp only[Ty.w,simprocAttr];exact⟨rfl,0,rfl,by omega,rfl,by simp[Ex.sizes]⟩
 ·rintro m S h' ⟨rfl,g1,k,g4,hkl,rfl,g3⟩;simp only[Ex.cells]at g1;by_cases hlt:k<kids.length
  ·have hd:decide ((k:Int)<(kids.length:Int))=true:=(by simp;omega);have w7:IntKind.i64.wrap ((k:Int)+1)=k+1:=(by unfold bigN at hk;rw[wrap64 (by omega) (by omega)]);obtain⟨e,hx⟩: ∃ e,kids[k]? =some e:=⟨_,List.getElem?_eq_getElem hlt⟩;have hmem:=List.mem_of_getElem? hx;have hc:=ih e hmem (hks e hmem);have hsz:=Ex.sizes_take 1 hx;have hr:=Ex.rows_get hx;obtain⟨op2,name2,n2,args2,kids2⟩:=e;simp only[Ex.cells]at hr hc;replace Z:=U g1 (U g3 (U g4 (U hlen (U hd (U hr w7)))));(repeat'(first|refine G fun K J=>?_|refine a_block ?_|refine uR Z ?_|refine uQ Z fun K J=>?_|refine uK ?_|refine uC1 Z ?_|(refine O J ?_;clear J)|apply zI));replace Z:=U g1 (U g3 (U g4 (U hlen (U hd hr))));refine uU Z (hc _) ?_;replace Z:=U g1 (U g3 (U g4 w7));(repeat'(first|refine uR Z ?_|(refine O J ?_;clear J)|apply zI));exact⟨kids.length-(k+1),by omega,rfl,k+1,by simp,by omega,rfl,by rw[hsz]⟩
  ·have hd:decide ((k:Int)<(kids.length:Int))=false:=(by simp;omega);have hke:k=kids.length:=(by omega);subst hke;rw[List.take_length]at g3;replace Z:=U g1 (U g3 (U g4 (U hlen hd)));repeat'(first|refine G fun K J=>?_|refine uR Z ?_|refine uT Z ?_|refine uX ?_|refine uC1 Z ?_|(refine O J ?_;clear J)|(clear J;refine O J ?_;clear J)|apply zI)
theorem rsize_c: ∀ (f:Fm),f.ok→ ∀ h:Heap,PCall Tryz.prog 31 [.agg f.cells] h fun r h'=>r= .sc (.int .i64 f.size)∧h'=h:=by
 refine Fm.ind ?_;intro op name args params exprs kids ih hok h;simp only[Fm.ok]at hok;obtain⟨_,_,_,_,⟨he,hes⟩,hk,hks⟩:=hok;rw[Ex.oks_iff]at hes;rw[Fm.oks_iff]at hks;have hlen:=Fm.rows_len kids;have hlene:=Ex.rows_len exprs;simp only[Fm.cells,Fm.size];refine uG0 Tryz.func31 Tryz.ntmps31 Tryz.results31 Ty.hb_31 ?_;repeat'(first|refine G fun K J=>?_|refine a_block ?_|refine uR hlen ?_|(refine O J ?_;clear J)|apply zI)
 refine a_loop (fun m S h'=>h'=h∧S 1= .cptr (Fm.mk op name args params exprs kids).cells∧ ∃ k:Nat,S 4= .sc (.int .i64 k)∧k≤exprs.length∧m=exprs.length-k∧S 3= .sc (.int .i64 (Ex.sizes 1 (exprs.take k)))) exprs.length ?_ ?_
 ·simp only[Ty.w,simprocAttr];exact⟨rfl,0,rfl,by omega,rfl,by simp[Ex.sizes]⟩
 ·rintro m S h' ⟨rfl,g1,k,g4,hkl,rfl,g3⟩;simp only[Fm.cells]at g1;by_cases hlt:k<exprs.length
  ·have hd:decide ((k:Int)<(exprs.length:Int))=true:=(by simp;omega);have w7:IntKind.i64.wrap ((k:Int)+1)=k+1:=(by unfold bigN at he;rw[wrap64 (by omega) (by omega)]);obtain⟨e,hx⟩: ∃ e,exprs[k]? =some e:=⟨_,List.getElem?_eq_getElem hlt⟩;have hmem:=List.mem_of_getElem? hx;have hc:=rsizeE_c e (hes e hmem);have hsz:=Ex.sizes_take 1 hx;have hr:=Ex.rows_get hx;obtain⟨op2,name2,n2,args2,kids2⟩:=e;simp only[Ex.cells]at hr hc;replace Z:=U g1 (U g3 (U g4 (U hlene (U hd (U hr w7)))));(repeat'(first|refine G fun K J=>?_|refine a_block ?_|refine uR Z ?_|refine uQ Z fun K J=>?_|refine uK ?_|refine uC1 Z ?_|(refine O J ?_;clear J)|apply zI));replace Z:=U g1 (U g3 (U g4 (U hlene (U hd hr))));refine uU Z (hc _) ?_;replace Z:=U g1 (U g3 (U g4 w7));(repeat'(first|refine uR Z ?_|(refine O J ?_;clear J)|apply zI));exact⟨exprs.length-(k+1),by omega,by simp only[Fm.cells],k+1,by simp,by omega,rfl,by rw[hsz]⟩
  ·have hd:decide ((k:Int)<(exprs.length:Int))=false:=(by simp;omega);have hke:k=exprs.length:=(by omega);subst hke;rw[List.take_length]at g3;replace Z:=U g1 (U g3 (U g4 (U hlene hd)));(repeat'(first|refine G fun K J=>?_|refine a_block ?_|refine uR Z ?_|refine uX ?_|refine uC1 Z ?_|(refine O J ?_;clear J)|(clear J;refine O J ?_;clear J)|apply zI));refine a_loop (fun m S h2=>h2=h'∧S 1= .cptr (Fm.mk op name args params exprs kids).cells∧ ∃ k:Nat,S 5= .sc (.int .i64 k)∧k≤kids.length∧m=kids.length-k∧S 3= .sc (.int .i64 (Fm.sizes (Ex.sizes 1 exprs) (kids.take k)))) kids.length ?_ ?_
   ·simp only[Ty.w,simprocAttr,g1,g3];exact⟨by simp only[Fm.cells],0,rfl,by omega,rfl,by simp[Fm.sizes]⟩
   ·(try clear Z);clear g1 g3 g4;rintro m S h' ⟨rfl,g1,k,g5,hkl,rfl,g3⟩;simp only[Fm.cells]at g1;by_cases hlt:k<kids.length
    ·have hd:decide ((k:Int)<(kids.length:Int))=true:=(by simp;omega);have w7:IntKind.i64.wrap ((k:Int)+1)=k+1:=(by unfold bigN at hk;rw[wrap64 (by omega) (by omega)]);obtain⟨e,hx⟩: ∃ e,kids[k]? =some e:=⟨_,List.getElem?_eq_getElem hlt⟩;have hmem:=List.mem_of_getElem? hx;have hc:=ih e hmem (hks e hmem);have hsz:=Fm.sizes_take (Ex.sizes 1 exprs) hx;have hr:=Fm.rows_get hx;obtain⟨op2,name2,args2,params2,exprs2,kids2⟩:=e;simp only[Fm.cells]at hr hc;replace Z:=U g1 (U g3 (U g5 (U hlen (U hd (U hr w7)))));(repeat'(first|refine G fun K J=>?_|refine a_block ?_|refine uR Z ?_|refine uQ Z fun K J=>?_|refine uK ?_|refine uC1 Z ?_|(refine O J ?_;clear J)|apply zI));replace Z:=U g1 (U g3 (U g5 (U hlen (U hd hr))));refine uU Z (hc _) ?_;replace Z:=U g1 (U g3 (U g5 w7));(repeat'(first|refine uR Z ?_|(refine O J ?_;clear J)|apply zI));exact⟨kids.length-(k+1),by omega,by simp only[Fm.cells],k+1,by simp,by omega,rfl,by rw[hsz]⟩
    ·have hd:decide ((k:Int)<(kids.length:Int))=false:=(by simp;omega);have hke:k=kids.length:=(by omega);subst hke;rw[List.take_length]at g3;replace Z:=U g1 (U g3 (U g5 (U hlen hd)));repeat'(first|refine G fun K J=>?_|refine uR Z ?_|refine uT Z ?_|refine uX ?_|refine uC1 Z ?_|(refine O J ?_;clear J)|(clear J;refine O J ?_;clear J)|apply zI)
theorem bEq_refl(a:ByteArray):bEq a a=true:=by simp[bEq]
theorem bsEq_refl: ∀ l:List ByteArray,bsEq l l=true
 |[]=>rfl
 |a::l=>by simp[bsEq,bEq_refl,bsEq_refl l]
theorem pmsEq_refl: ∀ l:List Pm,pmsEq l l=true
 |[]=>rfl
 |a::l=>by simp[pmsEq,pmEq,bEq_refl,pmsEq_refl l]
theorem exs_refl: ∀ {l:List Ex},(∀ e∈l,e.same e=true)→Ex.sames l l=true
 |[],_=>rfl
 |a::l,h=>by rw[Ex.sames,h a (List.mem_cons_self ..),exs_refl (l:=l) fun e he=>h e (List.mem_cons_of_mem _ he)];try rfl
theorem ex_refl: ∀ e:Ex,e.same e=true:=by
 refine Ex.ind ?_;intro op name n args kids ih;simp only[Ex.same,bEq_refl,bsEq_refl,exs_refl ih,beq_self_eq_true,Bool.and_true]
theorem fms_refl: ∀ {l:List Fm},(∀ e∈l,e.same e=true)→Fm.sames l l=true
 |[],_=>rfl
 |a::l,h=>by rw[Fm.sames,h a (List.mem_cons_self ..),fms_refl (l:=l) fun e he=>h e (List.mem_cons_of_mem _ he)];try rfl
theorem fm_refl: ∀ f:Fm,f.same f=true:=by
 refine Fm.ind ?_;intro op name args params exprs kids ih;simp only[Fm.same,bEq_refl,bsEq_refl,pmsEq_refl,exs_refl (fun e _=>ex_refl e),fms_refl ih,Bool.and_true]
end Go.Proofs.YtblgchkahpgdjaaGreat
namespace Go.AM
def Ch.same(a b:Ch):Bool:=(a.kind==b.kind)&&(pmsEq a.params b.params&&(a.cond.same b.cond&&(bEq a.name b.name&&(bsEq a.args b.args&&a.value.same b.value))))
def chsEq:List Ch→List Ch→Bool
 |[],[]=>true
 |a::l,b::m=>a.same b&&chsEq l m
 |_,_=>false
theorem chsEq_len: ∀ {l m:List Ch},¬ l.length=m.length→chsEq l m=false
 |[],[],h=>by simp at h
 |[],_::_,_=>rfl
 |_::_,[],_=>rfl
 |a::l,b::m,h=>by simp only[chsEq,chsEq_len (l:=l) (m:=m) (by simpa using h),Bool.and_false]
end Go.AM
namespace Go.Proofs.YtblgchkahpgdjaaGreat
open Go.AM
theorem ch_refl(a:Ch):a.same a=true:=by simp[Ch.same,pmsEq_refl,fm_refl,bEq_refl,bsEq_refl,ex_refl]
theorem chsEq_refl: ∀ l:List Ch,chsEq l l=true
 |[]=>rfl
 |a::l=>by simp[chsEq,ch_refl,chsEq_refl l]
end Go.Proofs.YtblgchkahpgdjaaGreat
namespace Go.AM
section
variable {P:Program}{ow:Nat→Bool}{wf:FuncId→Bool}{n:Nat}
def Loc(P:Program)(ow:Nat→Bool)(wf:FuncId→Bool)(n:Nat)(ops:List Oper)(base j:Nat)(o:Oper)(s s':Slots)(h h':Heap)(v:PV)(l:Option (Nat × AObj)):Prop:=
 o.dst.all (fun d=>decide (d<n))=true∧ ∃ b,wantedB ops s o=some b∧
  (b=false→s'=updO s o.dst (.sc undef)∧h'=h∧l=none)∧
  (b = true → s' = updO s o.dst v ∧
   (isW ow wf o=false→h'=h∧l=none∧ ∀ H,Does P ow o (pev s) H v H)∧
   (isW ow wf o = true →
    (isA ow o=true∧ ∃ ob,l=some (base+j,ob)∧aop P ow (base+j) o (pev s)=some (v,ob)∧h'=h.set (base+j) ob)∨
    (∃ t x y id r f ob,o.op= .store t x y∧pev s x= .ptr id r f∧l=some (id,ob)∧h'=h.set id ob∧(∀ f q,j<f→ops[f]? =some q→isA ow q=true→base+f≠id)∧eff P (o.dst.any ow) o.op (pev s) h=some (v,h'))))
def dr3(P:Program)(ow:Nat→Bool)(wf:FuncId→Bool)(n:Nat)(ops:List Oper)(base:Nat):Nat→List Oper→List (Nat × Nat)→(Slots→Heap→Prop)→Slots→Heap→Prop
 |_,[],_,K,s,h=>K s h
 |k,o::rest,ls,K,s,h=> ∃ s' h' v l,Loc P ow wf n ops base k o s s' h h' v l∧(∀ p,l=some p→ ∀ x∈ls,pre ops x.1 k=true∨x.2≠p.1)∧dr3 P ow wf n ops base (k+1) rest (match l with|some p=>(k,p.1)::ls|none=>ls) K s' h'
theorem dr3_facts{ops:List Oper}{base:Nat}{K:Slots→Heap→Prop}: ∀ (rest:List Oper)(k:Nat)(ls:List (Nat × Nat))(s:Slots)(h:Heap),ops.drop k=rest→k≤ops.length→dr3 P ow wf n ops base k rest ls K s h→
  ∃ (sk:Nat→Slots)(hk:Nat→Heap)(vk:Nat→PV)(lt:Nat→Option (Nat × AObj)),sk k=s∧hk k=h∧K (sk ops.length) (hk ops.length)∧
   (∀ j o,k≤j→ops[j]? =some o→Loc P ow wf n ops base j o (sk j) (sk (j+1)) (hk j) (hk (j+1)) (vk j) (lt j))∧
   (∀ j p,k≤j→j<ops.length→lt j=some p→ ∀ x∈ls,pre ops x.1 j=true∨x.2≠p.1)∧
   (∀ i j p q,k≤i→i<j→j<ops.length→lt i=some p→lt j=some q→pre ops i j=true∨p.1≠q.1)
 |[],k,ls,s,h,hd,hk,hr=>by
  have hl:ops.length≤k:=by simpa using hd
  have hke:k=ops.length:=by omega
  refine⟨fun _=>s,fun _=>h,fun _=> .emp,fun _=>none,rfl,rfl,hr,fun j o hj ho=>?_,fun j p _ _ hp=>by simp at hp,fun i j p q _ _ _ hp=>by simp at hp⟩;have:=(List.getElem?_eq_some_iff.1 ho).1;omega
 |o::rest,k,ls,s,h,hd,hk,hr=>by
  have ho:ops[k]? =some o:=by
   have:(ops.drop k)[0]? =some o:=(by rw[hd];try rfl);simpa using this
  have hkl:k<ops.length:=(List.getElem?_eq_some_iff.1 ho).1;have hd2:ops.drop (k+1)=rest:=by
   have:=List.drop_eq_getElem_cons hkl;rw[hd]at this;simp only[List.cons.injEq]at this;exact this.2.symm
  obtain⟨s',h',v,l,hloc,hls,hrec⟩:=hr;obtain⟨sk,hk',vk,lt,e1,e2,e3,e4,e5,e6⟩:=dr3_facts rest (k+1) _ s' h' hd2 (by omega) hrec;refine⟨fun j=>if j=k then s else sk j,fun j=>if j=k then h else hk' j,fun j=>if j=k then v else vk j,fun j=>if j=k then l else lt j,by simp,by simp,?_,fun j q hj hq=>?_,fun j p hj hjl hp x hx=>?_,fun i j p q hi hij hjl hp hq=>?_⟩
  ·simp only;rw[if_neg (by omega),if_neg (by omega)];exact e3
  ·by_cases hjk:j=k
   ·subst hjk;rw[ho]at hq;simp only[Option.some.injEq]at hq;subst hq;simp only[if_true];rw[if_neg (by omega),if_neg (by omega),e1,e2];exact hloc
   ·simp only[hjk,if_false];rw[if_neg (by omega),if_neg (by omega)];exact e4 j q (by omega) hq
  ·by_cases hjk:j=k
   ·subst hjk;simp only[if_true]at hp;exact hls p hp x hx
   ·simp only[hjk,if_false]at hp;refine e5 j p (by omega) hjl hp x ?_;cases l with
    |none=>exact hx
    |some y=>exact List.mem_cons_of_mem _ hx
  ·have hjk:¬ j=k:=(by omega);simp only[hjk,if_false]at hq;by_cases hik:i=k
   ·subst hik;simp only[if_true]at hp;subst hp;exact e5 j q (by omega) hjl hq (i,p.1) (List.mem_cons_self ..)
   ·simp only[hik,if_false]at hp;exact e6 i j p q (by omega) hij hjl hp hq
theorem dwp3_of{ops:List Oper}{K:Slots→Heap→Prop}{s:Slots}{h:Heap}(hd:dOk3 ops=true)(hr:dr3 P ow wf n ops h.next 0 ops [] K s ⟨h.next+ops.length,h.obj⟩):dwp3 P ow wf n ops K s h:=by
 obtain⟨sk,hk,vk,lt,e1,e2,e3,e4,_,e6⟩:=dr3_facts ops 0 [] s _ rfl (Nat.zero_le _) hr;refine⟨hd,sk,hk,vk,lt,fun _=>false,e1,e2,e3,⟨fun j o ho=>?_,fun i j hij hj hi hj2=>?_⟩⟩
 ·obtain ⟨g1,b,g2,g3,g4⟩:=e4 j o (Nat.zero_le _) ho;refine⟨g1,b,g2,fun hb=>?_,fun hb=>?_⟩
  ·obtain ⟨k1,k2,k3⟩:=g3 hb;exact⟨k1,k2,k3,rfl⟩
  ·obtain ⟨k1,k2,k3⟩:=g4 hb;refine⟨k1,fun hw=>?_,fun hw=>?_⟩
   ·obtain ⟨m1,m2,m3⟩:=k2 hw;exact⟨m1,m2,rfl,fun M _=>⟨kx ow ops lt j,fun _ hx=>hx,m3 _⟩⟩
   ·rcases k3 hw with⟨m1,ob,m2,m3,m4⟩|⟨t,x,y,id,r,f,ob,m1,m2,m3,m4,m5,m6⟩
    ·exact .inr (.inl ⟨rfl,m1,ob,m2,m3,m4⟩)
    ·exact .inr (.inr ⟨rfl,t,x,y,id,r,f,ob,m1,m2,m3,m4,m5,m6⟩)
 ·have hi':(lt i).isSome=true:=hi.resolve_left (by simp);have hj':(lt j).isSome=true:=hj2.resolve_left (by simp);obtain⟨p,hp⟩:=Option.isSome_iff_exists.1 hi';obtain⟨q,hq⟩:=Option.isSome_iff_exists.1 hj';rcases e6 i j p q (Nat.zero_le _) hij hj hp hq with h1|h1
  ·exact .inl h1
  ·exact .inr (.inl ⟨p,q,hp,hq,h1⟩)
theorem a_draw3{Q:Post}{s:Slots}{h:Heap}{id:Nat}{ops:List Oper}(hd:dOk3 ops=true)(hk: ∀ K:Slots→Heap→Prop,(∀ s h,Q .normal s h→K s h)→dr3 P ow wf n ops h.next 0 ops [] K s ⟨h.next+ops.length,h.obj⟩):awp P ow wf n (.region id ops.toArray true) Q s h:=by
 simp only[awp,if_true];exact⟨_,_,.refl,.inr (.inr (dwp3_of hd (hk _ fun _ _ hq=>hq)))⟩
theorem a_draw3S{Q:Post}{s:Slots}{h:Heap}{id:Nat}{ops:List Oper}{K:Slots→Heap→Prop}(hd:dOk3 ops=true)(hk:dr3 P ow wf n ops h.next 0 ops [] K s ⟨h.next+ops.length,h.obj⟩):awp P ow wf n (.region id ops.toArray true) (Post.seq K Q) s h:=
 a_draw3 hd fun K' hK'=>by
  have hm: ∀ (l:List Oper)(k:Nat)(ls:List (Nat × Nat))(s:Slots)(h0:Heap),dr3 P ow wf n ops h.next k l ls K s h0→dr3 P ow wf n ops h.next k l ls K' s h0:=by
   intro l
   induction l with
   |nil=>intro k ls s h0 hr;exact hK' _ _ hr
   |cons o l ih=>
    intro k ls s h0 hr;obtain⟨s',h',v,l',a,b,c⟩:=hr;exact⟨s',h',v,l',a,b,ih _ _ _ _ c⟩
  exact hm _ _ _ _ _ hk
variable {ops rest:List Oper}{base k:Nat}{o:Oper}{ls:List (Nat × Nat)}{K:Slots→Heap→Prop}{s:Slots}{h:Heap}
theorem d3_end(J:K s h):dr3 P ow wf n ops base k [] ls K s h:=J
theorem d3_quiet(v:PV)(hd:o.dst.all (fun d=>decide (d<n))=true)(hw:wantedB ops s o=some true)(hW:isW ow wf o=false)(he: ∀ H,Does P ow o (pev s) H v H)(hk:dr3 P ow wf n ops base (k+1) rest ls K (updO s o.dst v) h):dr3 P ow wf n ops base k (o::rest) ls K s h:=
 ⟨_,_,v,none,⟨hd,true,hw,fun hb=>(by cases hb),fun _=>⟨rfl,fun _=>⟨rfl,rfl,he⟩,fun hw2=>(by rw[hW]at hw2;cases hw2)⟩⟩,fun p hp=>(by cases hp),hk⟩
theorem d3_alloc{t:TypeId}{zs:List Value}(hop:o.op= .alloc t)(hd:o.dst.all (fun d=>decide (d<n))=true)(hw:wantedB ops s o=some true)(hz:zeroT P t=some zs)(hl:0<zs.length)(hls: ∀ x∈ls,pre ops x.1 k=true∨x.2≠base+k)
  (hk:dr3 P ow wf n ops base (k+1) rest ((k,base+k)::ls) K (updO s o.dst (.ptr (base+k) 0 0)) (h.set (base+k) (.arr zs.length [zs.map .sc]))):dr3 P ow wf n ops base k (o::rest) ls K s h:=by
 refine⟨_,_,.ptr (base+k) 0 0,some (base+k,.arr zs.length [zs.map .sc]),⟨hd,true,hw,fun hb=>(by cases hb),fun _=>⟨rfl,fun hw2=>?_,fun _=> .inl ⟨?_,_,rfl,?_,rfl⟩⟩⟩,fun p hp=>?_,hk⟩
 ·unfold isW at hw2;rw[hop]at hw2;simp at hw2
 ·unfold isA;rw[hop]
 ·unfold aop;rw[hop];simp[eff,hz,hl,Heap.new]
 ·simp only[Option.some.injEq]at hp;subst hp;exact hls
theorem d3_store{t:TypeId}{x y:Operand}{id r f:Nat}{ob:AObj}{v:PV}(hop:o.op= .store t x y)(hd:o.dst.all (fun d=>decide (d<n))=true)(hw:wantedB ops s o=some true)(hx:pev s x= .ptr id r f)(he:eff P (o.dst.any ow) (.store t x y) (pev s) h=some (v,h.set id ob))
  (hlate: ∀ f q,k<f→ops[f]? =some q→isA ow q=true→base+f≠id)(hls: ∀ x∈ls,pre ops x.1 k=true∨x.2≠id)
  (hk:dr3 P ow wf n ops base (k+1) rest ((k,id)::ls) K (updO s o.dst v) (h.set id ob)):dr3 P ow wf n ops base k (o::rest) ls K s h:=by
 refine⟨_,_,v,some (id,ob),⟨hd,true,hw,fun hb=>(by cases hb),fun _=>⟨rfl,fun hw2=>?_,fun _=> .inr ⟨t,x,y,id,r,f,ob,hop,hx,rfl,rfl,hlate,by rw[hop];exact he⟩⟩⟩,fun p hp=>?_,hk⟩
 ·unfold isW at hw2;rw[hop]at hw2;simp at hw2
 ·simp only[Option.some.injEq]at hp;subst hp;exact hls
end
end Go.AM
namespace Go.AM
def nil1(q p:PV):Prop:=q=p∨(q= .sc (.slice none 0 0)∧ ∃ z,p= .imm z [])
def nilL:List PV→List PV→Prop
 |[],[]=>True
 |q::qs,p::ps=>nil1 q p∧nilL qs ps
 |_,_=>False
theorem Rep.nil1{β:Env}{n:Nat}{F:Nat→Prop}{w:World}{q p:PV}{x:Value}(hq:nil1 q p)(h:Rep β n F w q x):Rep β n F w p x:=by
 rcases hq with rfl|⟨rfl,z,rfl⟩
 ·exact h
 ·simp only[Rep]at h⊢;exact⟨none,0,h,Nat.le_refl _,Nat.zero_le _,.inl (by trivial)⟩
theorem RepL.nilL{β:Env}{n:Nat}{F:Nat→Prop}{w:World}: ∀ {qs ps:List PV}{xs:List Value},nilL qs ps→RepL β n F w qs xs→RepL β n F w ps xs
 |[],[],[],_,_=>by simp only[RepL]
 |[],[],_::_,_,h=>by simp[RepL]at h
 |q::qs,p::ps,[],_,h=>by simp[RepL]at h
 |q::qs,p::ps,x::xs,hq,h=>by
  simp only[Go.AM.nilL]at hq;simp only[RepL]at h⊢;exact⟨Rep.nil1 hq.1 h.1,RepL.nilL hq.2 h.2⟩
 |[],_::_,_,hq,_=>by simp[Go.AM.nilL]at hq
 |_::_,[],_,hq,_=>by simp[Go.AM.nilL]at hq
theorem PCall.nil2{P:Program}{f:FuncId}{a a' b b':List PV}{h:Heap}{K:PV→Heap→Prop}(ha:nilL a' a)(hb:nilL b' b)(hc:PCall P f [.agg a,.agg b] h K):PCall P f [.agg a',.agg b'] h K:=by
 intro β w vals sm hr;refine hc β w vals sm ?_
 match vals,hr with
 |[x,y],hr=>
  simp only[RepL,Rep]at hr⊢;obtain⟨⟨xs,h1,h2,h3⟩,⟨ys,k1,k2,k3⟩,_⟩:=hr;exact⟨⟨xs,h1,h2,RepL.nilL ha h3⟩,⟨ys,k1,k2,RepL.nilL hb k3⟩,trivial⟩
end Go.AM
namespace Go.Proofs.YtblgchkahpgdjaaGreat
open Go.AM
set_option maxHeartbeats 4000000
set_option maxRecDepth 20000
theorem dsameE_c{a b:Ex}(ha:a.ok)(hb:b.ok)(h:Heap):PCall Tryz.prog 145 [.agg a.cells,.agg b.cells] h fun r h'=>r= .sc (.bool (a.same b))∧h'=h:=by
 have ok1: ∀ e:Ex,e.ok→(Fm.mk ⟨#[]⟩ ⟨#[]⟩ [] [] [e] []).ok:=fun e he=>by
  simp only[Fm.ok,Fm.oks,Ex.oks,List.length_nil,List.length_cons];exact⟨by simp[bigN,ByteArray.size],by simp[bigN,ByteArray.size],⟨by simp,by simp⟩,⟨by simp,by simp⟩,⟨by simp[bigN],he,trivial⟩,by simp,trivial⟩
 have hc:=fun h:Heap=>fsame_c _ (ok1 a ha) _ (ok1 b hb) h;have hs:(Fm.mk ⟨#[]⟩ ⟨#[]⟩ [] [] [a] []).same (.mk ⟨#[]⟩ ⟨#[]⟩ [] [] [b] [])=a.same b:=by simp[Fm.same,Fm.sames,Ex.sames,bEq,bsEq,pmsEq]
 rw[hs]at hc;generalize a.same b=e at hc⊢;have hc2:=fun h:Heap=>PCall.nil2 (a':=[.sc (.string ⟨#[]⟩),.sc (.string ⟨#[]⟩),.sc (.slice none 0 0),.sc (.slice none 0 0),.imm 5 [a.cells],.sc (.slice none 0 0)]) (b':=[.sc (.string ⟨#[]⟩),.sc (.string ⟨#[]⟩),.sc (.slice none 0 0),.sc (.slice none 0 0),.imm 5 [b.cells],.sc (.slice none 0 0)]) (by
  simp only[Fm.cells,Ex.rows,Fm.rows,strRows,pmRows,List.map_nil,nilL];exact⟨.inl rfl,.inl rfl,.inr ⟨rfl,_,rfl⟩,.inr ⟨rfl,_,rfl⟩,.inl rfl,.inr ⟨rfl,_,rfl⟩,trivial⟩) (by
  simp only[Fm.cells,Ex.rows,Fm.rows,strRows,pmRows,List.map_nil,nilL];exact⟨.inl rfl,.inl rfl,.inr ⟨rfl,_,rfl⟩,.inr ⟨rfl,_,rfl⟩,.inl rfl,.inr ⟨rfl,_,rfl⟩,trivial⟩) (hc h)
 try clear Z
 clear ok1 ha hb hc hs;obtain⟨op,name,n,args,kids⟩:=a;obtain⟨op2,name2,n2,args2,kids2⟩:=b;simp only[Ex.cells]at hc2⊢;refine uG0 Tryz.func145 Tryz.ntmps145 Tryz.results145 Ty.hb_145 ?_;repeat'(first|refine G fun K J=>?_|refine uR trivial ?_|(refine O J ?_;clear J)|apply zI)
 refine uU trivial (hc2 _) ?_;repeat'(first|refine uT trivial ?_|(refine O J ?_;clear J)|apply zI)
set_option maxHeartbeats 8000000
abbrev sxZd:List PV:=[.sc (.int .i64 0),.sc (.int .i64 0),.sc (.int .i64 0),.sc (.int .i64 0),.sc (.string ⟨#[]⟩),.sc (.slice none 0 0)]
structure ChI(h:Heap)(id:Nat)(b:Bool)(x:Sx)(H:Heap):Prop where
 grow:GrowX h id (wO b) H
 nx:h.next+2≤H.next
 res:H.obj h.next=some (.arr 6 [sxZd])
 at_:H.obj (h.next+1)=some (.arr 6 [x.cells])
theorem ChI.put{h H:Heap}{id:Nat}{b b2:Bool}{x:Sx}(i:ChI h id b x H)(hid:id<h.next):ChI h id b2 x (H.set id (wO b2)):=by
 refine⟨i.grow.put,i.nx,?_,?_⟩
 ·simp only[Heap.set];rw[if_neg (by omega)];exact i.res
 ·simp only[Heap.set];rw[if_neg (by omega)];exact i.at_
theorem ChI.upd{h H:Heap}{id:Nat}{b:Bool}{x y:Sx}(i:ChI h id b x H)(hid:id<h.next):ChI h id b y (H.set (h.next+1) (.arr 6 [y.cells])):=by
 refine⟨i.grow.set hid (by omega),i.nx,?_,?_⟩
 ·simp only[Heap.set];rw[if_neg (by omega)];exact i.res
 ·simp only[Heap.set,if_true]
theorem ChI.new{h H:Heap}{id:Nat}{b:Bool}{x:Sx}{o:AObj}(i:ChI h id b x H)(hid:id<h.next):ChI h id b x (H.new o):=by
 have:=i.nx;refine⟨i.grow.new hid,by simp only[Heap.new];omega,?_,?_⟩
 ·simp only[Heap.new];rw[if_neg (by omega)];exact i.res
 ·simp only[Heap.new];rw[if_neg (by omega)];exact i.at_
theorem ChI.hi{h H:Heap}{id j:Nat}{b:Bool}{x:Sx}{o:AObj}(i:ChI h id b x H)(hid:id<h.next)(hj:h.next+2≤j):ChI h id b x (H.set j o):=by
 refine⟨i.grow.set hid (by omega),i.nx,?_,?_⟩
 ·simp only[Heap.set];rw[if_neg (by omega)];exact i.res
 ·simp only[Heap.set];rw[if_neg (by omega)];exact i.at_
structure ChSm(c:Ch):Prop where
 cond:c.cond.small
 value:c.value.small
 params:c.params.length≤1048576
 args:c.args.length≤1048576
def kindB(c:Ch):Bool:=bif c.kind==1||c.kind==2 then c.value.same zeroEx else(bif c.kind==3||c.kind==4||c.kind==5 then validE c.value else false)
theorem nilL_refl: ∀ l:List PV,nilL l l
 |[]=>by simp[nilL]
 |p::l=>by simp only[nilL];exact⟨.inl rfl,nilL_refl l⟩
theorem andFm_ok:andFm.ok:=(fm_mk_ok (by decide) (by decide) (by simp) (by simp) (by simp) (by simp) (by simp) (by simp) (by simp) (by simp)).1
theorem wchange_c{h:Heap}{id:Nat}{b:Bool}{c:Ch}(hok:c.ok)(hsm:ChSm c)(hid:id<h.next)(ho:h.obj id=some (wO b)):
  PCall Tryz.prog 107 [.ptr id 0 0,.agg (chRow c)] h fun r h'=>r= .agg (chX c).cells∧h'=h.set id (wO (b||!chB c)):=by
 refine PCall.frzX Ty.hb_107 ho (wO_in _ _) ?_;obtain⟨kind,params,cond,name,args,value⟩:=c;have hns:name.size≤9223372036854775807:=by have:=hok.name;unfold bigN at this;simp only at this;omega
 have hchB:chB ⟨kind,params,cond,name,args,value⟩=((nameB name&&args.all termB)&&kindB ⟨kind,params,cond,name,args,value⟩&&(isAlw cond||validF cond)&&params.all (parB true)):=rfl;have hX2:chX ⟨kind,params,cond,name,args,value⟩=(bif params.isEmpty then ch2 ⟨kind,params,cond,name,args,value⟩else listM [wordM opAll,listM (paramsW params),ch2 ⟨kind,params,cond,name,args,value⟩]):=rfl;have hX1:ch2 ⟨kind,params,cond,name,args,value⟩=(bif isAlw cond then ch1 ⟨kind,params,cond,name,args,value⟩else listM [wordM opWhen,fmX cond,ch1 ⟨kind,params,cond,name,args,value⟩]):=rfl;have hX0:ch1 ⟨kind,params,cond,name,args,value⟩=(bif kind==1 then wordsM name args else bif kind==2 then listM [wordM opNot,wordsM name args]
  else bif kind==3||kind==4||kind==5 then listM [wordM (kwK kind),wordsM name args,exX value]else wordsM name args):=rfl
 have hK0:kindB ⟨kind,params,cond,name,args,value⟩=(bif kind==1||kind==2 then value.same zeroEx else(bif kind==3||kind==4||kind==5 then validE value else false)):=rfl;rw[hchB];have c0:=fun(z:AObj)=>watom_c (h:=h.new z) (b:=b) (first:=name) (l:=args) hns hsm.args hok.args.2 (show id<h.next+1 by omega) ((obj_new hid).trans ho);have hvs:=fun(h:Heap)=>PCall.nil2 (nilL_refl _) (b':=[.sc (.string ⟨#[]⟩),.sc (.string ⟨#[]⟩),.sc (.int .i64 0),.sc (.slice none 0 0),.sc (.slice none 0 0)]) (by
  simp only[zeroEx,Ex.cells,Ex.rows,strRows,List.map_nil,nilL];exact⟨.inl rfl,.inl rfl,.inl rfl,.inr ⟨rfl,_,rfl⟩,.inr ⟨rfl,_,rfl⟩,trivial⟩) (dsameE_c (a:=value) (b:=zeroEx) hok.value zeroEx_ok.1 h)
 have hWE:=fun h:Heap=>WriteExpr_c hok.value hsm.value h;have hXE:(if validE value then(PV.tup [.agg (exW value).cells,.sc .nilIface])else .tup [.agg zeroSx.cells,errV 2])= .tup [.agg (exX value).cells,if validE value then .sc .nilIface else errV 2]:=by
  unfold exX;cases validE value<;>rfl
 simp only at hWE;rw[hXE]at hWE;have hSame:=fun h:Heap=>fsame_c cond hok.cond andFm andFm_ok h;have hAl:cond.same andFm=isAlw cond:=rfl;rw[hAl]at hSame;have hWF:=fun(h':Heap)(b':Bool)(hid':id<h'.next)(ho':h'.obj id=some (wO b'))=>wformula_c (f:=cond) hok.cond hsm.cond hid' ho';have hWP:=fun(h':Heap)(b':Bool)(hid':id<h'.next)(ho':h'.obj id=some (wO b'))=>wparams_c (vars:=true) (l:=params) hsm.params hok.params.2 hid' ho';have hw: ∀ (s:ByteArray)(h:Heap),PCall Tryz.prog 40 [sPV s] h fun r h'=>r= .agg (wordM s).cells∧h'=h:=fun s h=>dword_c;have hpl:=pmRows_len params;have hpb0:params.isEmpty=true→params.all (parB true)=true:=by cases params<;>simp
 have hpe:params.isEmpty=decide (params.length=0):=by cases params<;>simp
 try clear Z
 clear hok hsm;generalize chX ⟨kind,params,cond,name,args,value⟩=R2 at hX2⊢;generalize ch2 ⟨kind,params,cond,name,args,value⟩=R1 at hX1 hX2;generalize ch1 ⟨kind,params,cond,name,args,value⟩=R0 at hX0 hX1;generalize kindB ⟨kind,params,cond,name,args,value⟩=kB at hK0⊢;generalize(nameB name&&args.all termB)=a1 at c0⊢;generalize value.same zeroEx=vs at hvs hK0;generalize validE value=ve at hWE hK0;generalize exX value=eX at hWE hX0;generalize isAlw cond=al at hSame hX1⊢;generalize validF cond=vf at hWF⊢;generalize fmX cond=fX at hWF hX1;generalize paramsW params=pw at hWP hX2;generalize params.all (parB true)=pb at hWP hpb0⊢;generalize wordsM name args=X0 at c0 hX0;obtain⟨gop,gna,gar,gpa,gex,gki⟩:=cond;obtain⟨eop,ena,en,ear,eki⟩:=value;generalize hF:(b||!(a1&&kB&&(al||vf)&&pb))=F;simp only[chRow,Fm.cells,Ex.cells,List.cons_append,List.nil_append,wordM,Sx.cells,Sx.rows,andFm]at hw c0 hvs hWE hWF hSame⊢;obtain⟨xk,xv,xl,xc,xt,xs⟩:=X0;simp only[Sx.cells]at c0;refine uG (ow:=fun _=>false) (wf:=fun f=>f==100||f==43) Tryz.func107 Tryz.ntmps107 Tryz.results107 Ty.hb_107 ?_;repeat'(first|refine G fun K J=>?_|refine uR trivial ?_|(refine O J ?_;clear J)|apply zI)
 refine owp_useH (c0 _) (by(try simp only[Ty.w,simprocAttr,ho]);try rfl) ?_;simp(maxSteps:=2000000) only[Ty.w,simprocAttr,ho];repeat'(first|with_reducible refine a_hold 2 ?_|(refine O J ?_;clear J)|apply zI)
 refine⟨?_⟩;refine a_genX (fun S H=>S 0= .ptr id 0 0∧S 3= .cptr [.sc (.int .i64 kind),.imm 2 (pmRows params),sPV gop,sPV gna,.imm 1 (strRows gar),.imm 2 (pmRows gpa),.imm 5 (Ex.rows gex),.imm 6 (Fm.rows gki),sPV name,.imm 1 (strRows args),sPV eop,sPV ena,.sc (.int .i64 en),.imm 1 (strRows ear),.imm 5 (Ex.rows eki)]∧S 4= .ptr h.next 0 0∧S 5= .ptr (h.next+1) 0 0∧ChI h id (b||!a1) (.mk xk xv xl xc xt xs) H) ⟨by simp only[Ty.w,simprocAttr],by simp only[Ty.w,simprocAttr],by simp only[Ty.w,simprocAttr],by simp only[Ty.w,simprocAttr],?_⟩ ?_
 ·refine ⟨?_,by simp only[Heap.set,Heap.new];omega,?_,?_⟩
  ·exact ((((GrowX.refl ho).new hid).put).new hid).set hid (by omega)
  ·simp only[Heap.set,Heap.new];repeat(first|rw[if_neg (by omega)]|rw[if_pos trivial])
  ·simp only[Heap.set,Heap.new,Sx.cells];repeat(first|rw[if_neg (by omega)]|rw[if_pos trivial])
 try clear Z
 clear c0;rintro S H ⟨s0,s3,s4,s5,hI⟩;refine a_cut (fun S H=>S 0= .ptr id 0 0∧S 3= .cptr [.sc (.int .i64 kind),.imm 2 (pmRows params),sPV gop,sPV gna,.imm 1 (strRows gar),.imm 2 (pmRows gpa),.imm 5 (Ex.rows gex),.imm 6 (Fm.rows gki),sPV name,.imm 1 (strRows args),sPV eop,sPV ena,.sc (.int .i64 en),.imm 1 (strRows ear),.imm 5 (Ex.rows eki)]∧S 4= .ptr h.next 0 0∧S 5= .ptr (h.next+1) 0 0∧ ∃ b1,ChI h id b1 R0 H∧b1=(b||!(a1&&kB))) ?_ ?_
 ·try clear Z
  clear hX1 hX2 hF hSame hWF hWP;have stepK: ∀ b1:Bool,b1=((b||!a1)||!kB)→b1=(b||!(a1&&kB)):=fun b1 e=>by
   rw[e];cases b<;>cases a1<;>cases kB<;>rfl
  generalize(b||!a1)=b0 at hI stepK;have hnx:=hI.nx;cases k12:(kind==1||kind==2)with
  |true=>
   have hKv:kB=vs:=(by rw[hK0,k12,cond_true]);subst hKv;(try clear Z);clear hK0;cases k1:(kind==1)with
   |true=>
    have k2:(kind==2)=false:=(by have:=eq_of_beq k1;subst this;rfl);rw[k1,cond_true]at hX0;subst hX0;have hno:=hI.grow.at_;cases b0 with
    |true=>
     replace Z:=U s0 (U s3 (U s4 (U s5 (U k1 (U k2 hno)))));(repeat'(first|refine G fun K J=>?_|refine a_block ?_|refine uR Z ?_|refine uK ?_|refine uC1 Z ?_|(refine O J ?_;clear J)|apply zI));first
      |exact⟨true,hI.put hid,stepK _ (by simp)⟩
      |exact⟨by simp only[Ty.w,simprocAttr,s0],by simp only[Ty.w,simprocAttr,s3],by simp only[Ty.w,simprocAttr,s4],by simp only[Ty.w,simprocAttr,s5],true,hI.put hid,stepK _ (by simp)⟩
    |false=>
     replace Z:=U s0 (U s3 (U s4 (U s5 (U k1 (U k2 hno)))));(repeat'(first|refine G fun K J=>?_|refine uR Z ?_|refine uK ?_|refine uC1 Z ?_|(refine O J ?_;clear J)|apply zI));replace Z:=U s0 (U s3 (U s4 (U s5 hno)));refine uU Z (hvs _) ?_;replace Z:=U s0 (U s3 (U s4 (U s5 (U k1 (U k2 hno)))));(repeat'(first|refine G fun K J=>?_|refine a_block ?_|refine uR Z ?_|refine uK ?_|(refine O J ?_;clear J)|apply zI));first
      |exact⟨_,hI.put hid,stepK _ (by simp)⟩
      |exact⟨by simp only[Ty.w,simprocAttr,s0],by simp only[Ty.w,simprocAttr,s3],by simp only[Ty.w,simprocAttr,s4],by simp only[Ty.w,simprocAttr,s5],_,hI.put hid,stepK _ (by simp)⟩
   |false=>
    have k2:(kind==2)=true:=(by rw[k1,Bool.false_or]at k12;exact k12);rw[k1,k2,cond_false,cond_true]at hX0;subst hX0;have hl2:=fun h:Heap=>dlistS_c [wordM opNot,.mk xk xv xl xc xt xs] h;simp only[wordM,opNot,listM,Sx.cells,Sx.rows]at hl2;replace Z:=U s0 (U s3 (U s4 (U s5 (U k1 k2))));(repeat'(first|with_reducible refine a_holdB 6 ?_|refine G fun K J=>?_|refine uR Z ?_|refine uC1 Z ?_|(refine O J ?_;clear J)|apply zI));refine⟨?_⟩;refine a_cutK (fun S H=>S 0= .ptr id 0 0∧S 3= .cptr [.sc (.int .i64 kind),.imm 2 (pmRows params),sPV gop,sPV gna,.imm 1 (strRows gar),.imm 2 (pmRows gpa),.imm 5 (Ex.rows gex),.imm 6 (Fm.rows gki),sPV name,.imm 1 (strRows args),sPV eop,sPV ena,.sc (.int .i64 en),.imm 1 (strRows ear),.imm 5 (Ex.rows eki)]∧S 4= .ptr h.next 0 0∧S 5= .ptr (h.next+1) 0 0∧ ∃ b1,ChI h id b1 (.mk xk xv xl xc xt xs) H∧b1=(b0||!kB)) ?_ ?_
    ·have hno:=hI.grow.at_;cases b0 with
     |true=>
      replace Z:=U s0 (U s3 (U s4 (U s5 (U k1 (U k2 hno)))));(repeat'(first|refine uR Z ?_|apply zI));first
       |exact⟨true,hI.put hid,by simp⟩
       |exact⟨by simp only[Ty.w,simprocAttr,s0],by simp only[Ty.w,simprocAttr,s3],by simp only[Ty.w,simprocAttr,s4],by simp only[Ty.w,simprocAttr,s5],true,hI.put hid,by simp⟩
     |false=>
      replace Z:=U s0 (U s3 (U s4 (U s5 (U k1 (U k2 hno)))));(repeat'(first|refine uR Z ?_|apply zI));replace Z:=U s0 (U s3 (U s4 (U s5 hno)));refine uU Z (hvs _) ?_;(try apply zI);first
       |exact⟨_,hI.put hid,by simp⟩
       |exact⟨by simp only[Ty.w,simprocAttr,s0],by simp only[Ty.w,simprocAttr,s3],by simp only[Ty.w,simprocAttr,s4],by simp only[Ty.w,simprocAttr,s5],_,hI.put hid,by simp⟩
    ·(try clear Z);clear s0 s3 s4 s5 hI hnx hvs;rintro S H ⟨s0,s3,s4,s5,b1,hI,hb1⟩;refine J _ _ ?_;(try clear Z);clear J;have hat:=hI.at_;simp only[Sx.cells]at hat;replace Z:=U s0 (U s3 (U s4 (U s5 (U k1 (U k2 hat)))));(repeat'(first|refine G fun K J=>?_|refine a_block ?_|refine uR Z ?_|refine uE Z fun K J=>?_|(refine O J ?_;clear J)|apply zI));replace Z:=U s0 (U s3 (U s4 (U s5 hat)));(first|refine uV Z (hw _ _) ?_|refine uA Z (hw _ _) ?_);(try apply zI);(first|refine uV Z (hl2 _) ?_|refine uA Z (hl2 _) ?_);(repeat'(first|(refine O J ?_;clear J)|refine uB Z ?_|apply zI));first
      |exact⟨b1,hI.upd hid,stepK _ hb1⟩
      |exact⟨by simp only[Ty.w,simprocAttr,s0],by simp only[Ty.w,simprocAttr,s3],by simp only[Ty.w,simprocAttr,s4],by simp only[Ty.w,simprocAttr,s5],b1,hI.upd hid,stepK _ hb1⟩
  |false=>
   have k1:(kind==1)=false:=(by revert k12;cases(kind==1)<;>simp);have k2:(kind==2)=false:=(by revert k12;cases(kind==2)<;>simp);rw[k1,k2,cond_false,cond_false]at hX0;rw[k12,cond_false]at hK0;(try clear Z);clear hvs k12;cases k345:(kind==3||kind==4||kind==5)with
   |false=>
    have k3:(kind==3)=false:=(by revert k345;cases(kind==3)<;>simp);have k4:(kind==4)=false:=(by revert k345;cases(kind==4)<;>simp);have k5:(kind==5)=false:=(by revert k345;cases(kind==5)<;>simp);rw[k345,cond_false]at hX0 hK0;subst hX0 hK0;have hno:=hI.grow.at_;replace Z:=U s0 (U s3 (U s4 (U s5 (U k1 (U k2 (U k3 (U k4 (U k5 hno))))))));(repeat'(first|refine G fun K J=>?_|refine a_block ?_|refine uR Z ?_|refine uQ Z fun K J=>?_|refine uC1 Z ?_|(refine O J ?_;clear J)|apply zI));first
     |exact⟨true,hI.put hid,stepK _ (by simp)⟩
     |exact⟨by simp only[Ty.w,simprocAttr,s0],by simp only[Ty.w,simprocAttr,s3],by simp only[Ty.w,simprocAttr,s4],by simp only[Ty.w,simprocAttr,s5],true,hI.put hid,stepK _ (by simp)⟩
   |true=>
    rw[k345,cond_true]at hX0 hK0;subst hX0 hK0;obtain⟨ev,hev⟩: ∃ ev,ev=(if kB=true then PV.sc .nilIface else errV 2):=⟨_,rfl⟩;rw[← hev]at hWE;have hk:kind=3∨kind=4∨kind=5:=(by simpa[or_assoc]using k345);(try clear Z);clear k345 k1 k2;obtain⟨ek,ea,el,ec,et,es⟩:=eX;simp only[Sx.cells]at hWE;rcases hk with rfl|rfl|rfl
    ·have k1:((3:Int)==1)=false:=rfl;have k2:((3:Int)==2)=false:=rfl;have k3:((3:Int)==3)=true:=rfl;have k4:((3:Int)==4)=false:=rfl;have k5:((3:Int)==5)=false:=rfl;have kw:kwK 3=opAsg:=rfl;have wi:IntKind.i64.wrap ((3:Int)-3)=0:=rfl;have wj:IntKind.i64.wrap 0=0:=rfl;have hl3:=fun h:Heap=>dlistS_c [wordM opAsg,.mk xk xv xl xc xt xs,.mk ek ea el ec et es] h;simp only[wordM,opAsg,listM,Sx.cells,Sx.rows]at hl3;replace Z:=U s0 (U s3 (U s4 (U s5 (U k1 (U k2 (U k3 (U k4 k5)))))));(repeat'(first|refine G fun K J=>?_|refine uR Z ?_|refine uK ?_|refine uC1 Z ?_|(refine O J ?_;clear J)|apply zI));replace Z:=U s0 (U s3 (U s4 s5));refine uU Z (hWE _) ?_;replace Z:=U s0 (U s3 (U s4 (U s5 @nsucc)));(repeat'(first|with_reducible refine a_holdB 13 ?_|refine G fun K J=>?_|(refine O J ?_;clear J)|apply zI));refine⟨?_⟩;refine a_genX (fun S H2=>S 0= .ptr id 0 0∧S 3= .cptr [.sc (.int .i64 3),.imm 2 (pmRows params),sPV gop,sPV gna,.imm 1 (strRows gar),.imm 2 (pmRows gpa),.imm 5 (Ex.rows gex),.imm 6 (Fm.rows gki),sPV name,.imm 1 (strRows args),sPV eop,sPV ena,.sc (.int .i64 en),.imm 1 (strRows ear),.imm 5 (Ex.rows eki)]∧S 4= .ptr h.next 0 0∧S 5= .ptr (h.next+1) 0 0∧S 6= .ptr H.next 0 0∧S 7=ev∧ChI h id b0 (.mk xk xv xl xc xt xs) H2∧H2.obj H.next=some (.arr 6 [[.sc (.int .i64 ek),.sc (.int .i64 ea),.sc (.int .i64 el),.sc (.int .i64 ec),sPV et,.imm 6 (Sx.rows es)]])) ⟨by simp only[Ty.w,simprocAttr,s0],by simp only[Ty.w,simprocAttr,s3],by simp only[Ty.w,simprocAttr,s4],by simp only[Ty.w,simprocAttr,s5],by simp only[Ty.w,simprocAttr],by simp only[Ty.w,simprocAttr],(hI.new hid).hi hid hnx,by simp only[Heap.set,if_true]⟩ ?_;obtain⟨j,hj⟩: ∃ j,j=H.next:=⟨_,rfl⟩
     rw[← hj]at hnx;(try clear Z);clear s0 s3 s4 s5 hI hWE;rw[← hj];(try clear Z);clear hj;rintro S H2 ⟨s0,s3,s4,s5,s6,s7,hI,hej⟩;refine a_cutK (fun S H2=>S 0= .ptr id 0 0∧S 3= .cptr [.sc (.int .i64 3),.imm 2 (pmRows params),sPV gop,sPV gna,.imm 1 (strRows gar),.imm 2 (pmRows gpa),.imm 5 (Ex.rows gex),.imm 6 (Fm.rows gki),sPV name,.imm 1 (strRows args),sPV eop,sPV ena,.sc (.int .i64 en),.imm 1 (strRows ear),.imm 5 (Ex.rows eki)]∧S 4= .ptr h.next 0 0∧S 5= .ptr (h.next+1) 0 0∧S 6= .ptr j 0 0∧H2.obj j=some (.arr 6 [[.sc (.int .i64 ek),.sc (.int .i64 ea),.sc (.int .i64 el),.sc (.int .i64 ec),sPV et,.imm 6 (Sx.rows es)]])∧ ∃ b1,ChI h id b1 (.mk xk xv xl xc xt xs) H2∧b1=(b0||!kB)) ?_ ?_
     ·have hno:=hI.grow.at_;have hej2: ∀ b1,(H2.set id (wO b1)).obj j=some (.arr 6 [[.sc (.int .i64 ek),.sc (.int .i64 ea),.sc (.int .i64 el),.sc (.int .i64 ec),sPV et,.imm 6 (Sx.rows es)]]):=fun b1=>by
       simp only[Heap.set];rw[if_neg (by omega)];exact hej
      cases b0 with
      |true=>
       replace Z:=U s0 (U s3 (U s4 (U s5 (U s6 (U s7 hno)))));(repeat'(first|refine uR Z ?_|apply zI));first
        |exact⟨hej2 _,true,hI.put hid,by simp⟩
        |exact⟨by simp only[Ty.w,simprocAttr,s0],by simp only[Ty.w,simprocAttr,s3],by simp only[Ty.w,simprocAttr,s4],by simp only[Ty.w,simprocAttr,s5],by simp only[Ty.w,simprocAttr,s6],hej2 _,true,hI.put hid,by simp⟩
      |false=>
       cases kB with
       |true=>
        simp only[if_true]at hev;subst hev;replace Z:=U s0 (U s3 (U s4 (U s5 (U s6 (U s7 hno)))));(repeat'(first|refine uR Z ?_|apply zI));exact⟨hej2 _,_,hI.put hid,by simp⟩
       |false=>
        simp only[Bool.false_eq_true,if_false,errV]at hev;subst hev;replace Z:=U s0 (U s3 (U s4 (U s5 (U s6 (U s7 hno)))));(repeat'(first|refine uR Z ?_|apply zI));exact⟨hej2 _,_,hI.put hid,by simp⟩
     ·(try clear Z);clear s0 s3 s4 s5 s6 s7 hI hej;rintro S H3 ⟨s0,s3,s4,s5,s6,hej,b1,hI,hb1⟩;refine J _ _ ?_;(try clear Z);clear J;have hat:=hI.at_;simp only[Sx.cells]at hat;replace Z:=U s0 (U s3 (U s4 (U s5 (U s6 (U hat (U hej (U wi wj)))))));(repeat'(first|refine uE Z fun K J=>?_|apply zI));replace Z:=U s0 (U s3 (U s4 (U s5 (U s6 (U hat hej)))));(first|refine uV Z (hw _ _) ?_|refine uA Z (hw _ _) ?_);(try apply zI);(first|refine uV Z (hl3 _) ?_|refine uA Z (hl3 _) ?_);(repeat'(first|(refine O J ?_;clear J)|refine uB Z ?_|apply zI));first
       |exact⟨b1,hI.upd hid,stepK _ hb1⟩
       |exact⟨by simp only[Ty.w,simprocAttr,s0],by simp only[Ty.w,simprocAttr,s3],by simp only[Ty.w,simprocAttr,s4],by simp only[Ty.w,simprocAttr,s5],b1,hI.upd hid,stepK _ hb1⟩
    ·have k1:((4:Int)==1)=false:=rfl;have k2:((4:Int)==2)=false:=rfl;have k3:((4:Int)==3)=false:=rfl;have k4:((4:Int)==4)=true:=rfl;have k5:((4:Int)==5)=false:=rfl;have kw:kwK 4=opInc:=rfl;have wi:IntKind.i64.wrap ((4:Int)-3)=1:=rfl;have wj:IntKind.i64.wrap 1=1:=rfl;have hl3:=fun h:Heap=>dlistS_c [wordM opInc,.mk xk xv xl xc xt xs,.mk ek ea el ec et es] h;simp only[wordM,opInc,listM,Sx.cells,Sx.rows]at hl3;replace Z:=U s0 (U s3 (U s4 (U s5 (U k1 (U k2 (U k3 (U k4 k5)))))));(repeat'(first|refine G fun K J=>?_|refine uR Z ?_|refine uK ?_|refine uC1 Z ?_|(refine O J ?_;clear J)|apply zI));replace Z:=U s0 (U s3 (U s4 s5));refine uU Z (hWE _) ?_;replace Z:=U s0 (U s3 (U s4 (U s5 @nsucc)));(repeat'(first|with_reducible refine a_holdB 13 ?_|refine G fun K J=>?_|(refine O J ?_;clear J)|apply zI));refine⟨?_⟩;refine a_genX (fun S H2=>S 0= .ptr id 0 0∧S 3= .cptr [.sc (.int .i64 4),.imm 2 (pmRows params),sPV gop,sPV gna,.imm 1 (strRows gar),.imm 2 (pmRows gpa),.imm 5 (Ex.rows gex),.imm 6 (Fm.rows gki),sPV name,.imm 1 (strRows args),sPV eop,sPV ena,.sc (.int .i64 en),.imm 1 (strRows ear),.imm 5 (Ex.rows eki)]∧S 4= .ptr h.next 0 0∧S 5= .ptr (h.next+1) 0 0∧S 6= .ptr H.next 0 0∧S 7=ev∧ChI h id b0 (.mk xk xv xl xc xt xs) H2∧H2.obj H.next=some (.arr 6 [[.sc (.int .i64 ek),.sc (.int .i64 ea),.sc (.int .i64 el),.sc (.int .i64 ec),sPV et,.imm 6 (Sx.rows es)]])) ⟨by simp only[Ty.w,simprocAttr,s0],by simp only[Ty.w,simprocAttr,s3],by simp only[Ty.w,simprocAttr,s4],by simp only[Ty.w,simprocAttr,s5],by simp only[Ty.w,simprocAttr],by simp only[Ty.w,simprocAttr],(hI.new hid).hi hid hnx,by simp only[Heap.set,if_true]⟩ ?_;obtain⟨j,hj⟩: ∃ j,j=H.next:=⟨_,rfl⟩
     rw[← hj]at hnx;(try clear Z);clear s0 s3 s4 s5 hI hWE;rw[← hj];(try clear Z);clear hj;rintro S H2 ⟨s0,s3,s4,s5,s6,s7,hI,hej⟩;refine a_cutK (fun S H2=>S 0= .ptr id 0 0∧S 3= .cptr [.sc (.int .i64 4),.imm 2 (pmRows params),sPV gop,sPV gna,.imm 1 (strRows gar),.imm 2 (pmRows gpa),.imm 5 (Ex.rows gex),.imm 6 (Fm.rows gki),sPV name,.imm 1 (strRows args),sPV eop,sPV ena,.sc (.int .i64 en),.imm 1 (strRows ear),.imm 5 (Ex.rows eki)]∧S 4= .ptr h.next 0 0∧S 5= .ptr (h.next+1) 0 0∧S 6= .ptr j 0 0∧H2.obj j=some (.arr 6 [[.sc (.int .i64 ek),.sc (.int .i64 ea),.sc (.int .i64 el),.sc (.int .i64 ec),sPV et,.imm 6 (Sx.rows es)]])∧ ∃ b1,ChI h id b1 (.mk xk xv xl xc xt xs) H2∧b1=(b0||!kB)) ?_ ?_
     ·have hno:=hI.grow.at_;have hej2: ∀ b1,(H2.set id (wO b1)).obj j=some (.arr 6 [[.sc (.int .i64 ek),.sc (.int .i64 ea),.sc (.int .i64 el),.sc (.int .i64 ec),sPV et,.imm 6 (Sx.rows es)]]):=fun b1=>by
       simp only[Heap.set];rw[if_neg (by omega)];exact hej
      cases b0 with
      |true=>
       replace Z:=U s0 (U s3 (U s4 (U s5 (U s6 (U s7 hno)))));(repeat'(first|refine uR Z ?_|apply zI));first
        |exact⟨hej2 _,true,hI.put hid,by simp⟩
        |exact⟨by simp only[Ty.w,simprocAttr,s0],by simp only[Ty.w,simprocAttr,s3],by simp only[Ty.w,simprocAttr,s4],by simp only[Ty.w,simprocAttr,s5],by simp only[Ty.w,simprocAttr,s6],hej2 _,true,hI.put hid,by simp⟩
      |false=>
       cases kB with
       |true=>
        simp only[if_true]at hev;subst hev;replace Z:=U s0 (U s3 (U s4 (U s5 (U s6 (U s7 hno)))));(repeat'(first|refine uR Z ?_|apply zI));exact⟨hej2 _,_,hI.put hid,by simp⟩
       |false=>
        simp only[Bool.false_eq_true,if_false,errV]at hev;subst hev;replace Z:=U s0 (U s3 (U s4 (U s5 (U s6 (U s7 hno)))));(repeat'(first|refine uR Z ?_|apply zI));exact⟨hej2 _,_,hI.put hid,by simp⟩
     ·(try clear Z);clear s0 s3 s4 s5 s6 s7 hI hej;rintro S H3 ⟨s0,s3,s4,s5,s6,hej,b1,hI,hb1⟩;refine J _ _ ?_;(try clear Z);clear J;have hat:=hI.at_;simp only[Sx.cells]at hat;replace Z:=U s0 (U s3 (U s4 (U s5 (U s6 (U hat (U hej (U wi wj)))))));(repeat'(first|refine uE Z fun K J=>?_|apply zI));replace Z:=U s0 (U s3 (U s4 (U s5 (U s6 (U hat hej)))));(first|refine uV Z (hw _ _) ?_|refine uA Z (hw _ _) ?_);(try apply zI);(first|refine uV Z (hl3 _) ?_|refine uA Z (hl3 _) ?_);(repeat'(first|(refine O J ?_;clear J)|refine uB Z ?_|apply zI));first
       |exact⟨b1,hI.upd hid,stepK _ hb1⟩
       |exact⟨by simp only[Ty.w,simprocAttr,s0],by simp only[Ty.w,simprocAttr,s3],by simp only[Ty.w,simprocAttr,s4],by simp only[Ty.w,simprocAttr,s5],b1,hI.upd hid,stepK _ hb1⟩
    ·have k1:((5:Int)==1)=false:=rfl;have k2:((5:Int)==2)=false:=rfl;have k3:((5:Int)==3)=false:=rfl;have k4:((5:Int)==4)=false:=rfl;have k5:((5:Int)==5)=true:=rfl;have kw:kwK 5=opDec:=rfl;have wi:IntKind.i64.wrap ((5:Int)-3)=2:=rfl;have wj:IntKind.i64.wrap 2=2:=rfl;have hl3:=fun h:Heap=>dlistS_c [wordM opDec,.mk xk xv xl xc xt xs,.mk ek ea el ec et es] h;simp only[wordM,opDec,listM,Sx.cells,Sx.rows]at hl3;replace Z:=U s0 (U s3 (U s4 (U s5 (U k1 (U k2 (U k3 (U k4 k5)))))));(repeat'(first|refine G fun K J=>?_|refine uR Z ?_|refine uC1 Z ?_|(refine O J ?_;clear J)|apply zI));replace Z:=U s0 (U s3 (U s4 s5));refine uU Z (hWE _) ?_;replace Z:=U s0 (U s3 (U s4 (U s5 @nsucc)));(repeat'(first|with_reducible refine a_holdB 13 ?_|refine G fun K J=>?_|(refine O J ?_;clear J)|apply zI));refine⟨?_⟩;refine a_genX (fun S H2=>S 0= .ptr id 0 0∧S 3= .cptr [.sc (.int .i64 5),.imm 2 (pmRows params),sPV gop,sPV gna,.imm 1 (strRows gar),.imm 2 (pmRows gpa),.imm 5 (Ex.rows gex),.imm 6 (Fm.rows gki),sPV name,.imm 1 (strRows args),sPV eop,sPV ena,.sc (.int .i64 en),.imm 1 (strRows ear),.imm 5 (Ex.rows eki)]∧S 4= .ptr h.next 0 0∧S 5= .ptr (h.next+1) 0 0∧S 6= .ptr H.next 0 0∧S 7=ev∧ChI h id b0 (.mk xk xv xl xc xt xs) H2∧H2.obj H.next=some (.arr 6 [[.sc (.int .i64 ek),.sc (.int .i64 ea),.sc (.int .i64 el),.sc (.int .i64 ec),sPV et,.imm 6 (Sx.rows es)]])) ⟨by simp only[Ty.w,simprocAttr,s0],by simp only[Ty.w,simprocAttr,s3],by simp only[Ty.w,simprocAttr,s4],by simp only[Ty.w,simprocAttr,s5],by simp only[Ty.w,simprocAttr],by simp only[Ty.w,simprocAttr],(hI.new hid).hi hid hnx,by simp only[Heap.set,if_true]⟩ ?_;obtain⟨j,hj⟩: ∃ j,j=H.next:=⟨_,rfl⟩
     rw[← hj]at hnx;(try clear Z);clear s0 s3 s4 s5 hI hWE;rw[← hj];(try clear Z);clear hj;rintro S H2 ⟨s0,s3,s4,s5,s6,s7,hI,hej⟩;refine a_cutK (fun S H2=>S 0= .ptr id 0 0∧S 3= .cptr [.sc (.int .i64 5),.imm 2 (pmRows params),sPV gop,sPV gna,.imm 1 (strRows gar),.imm 2 (pmRows gpa),.imm 5 (Ex.rows gex),.imm 6 (Fm.rows gki),sPV name,.imm 1 (strRows args),sPV eop,sPV ena,.sc (.int .i64 en),.imm 1 (strRows ear),.imm 5 (Ex.rows eki)]∧S 4= .ptr h.next 0 0∧S 5= .ptr (h.next+1) 0 0∧S 6= .ptr j 0 0∧H2.obj j=some (.arr 6 [[.sc (.int .i64 ek),.sc (.int .i64 ea),.sc (.int .i64 el),.sc (.int .i64 ec),sPV et,.imm 6 (Sx.rows es)]])∧ ∃ b1,ChI h id b1 (.mk xk xv xl xc xt xs) H2∧b1=(b0||!kB)) ?_ ?_
     ·have hno:=hI.grow.at_;have hej2: ∀ b1,(H2.set id (wO b1)).obj j=some (.arr 6 [[.sc (.int .i64 ek),.sc (.int .i64 ea),.sc (.int .i64 el),.sc (.int .i64 ec),sPV et,.imm 6 (Sx.rows es)]]):=fun b1=>by
       simp only[Heap.set];rw[if_neg (by omega)];exact hej
      cases b0 with
      |true=>
       replace Z:=U s0 (U s3 (U s4 (U s5 (U s6 (U s7 hno)))));(repeat'(first|refine uR Z ?_|apply zI));first
        |exact⟨hej2 _,true,hI.put hid,by simp⟩
        |exact⟨by simp only[Ty.w,simprocAttr,s0],by simp only[Ty.w,simprocAttr,s3],by simp only[Ty.w,simprocAttr,s4],by simp only[Ty.w,simprocAttr,s5],by simp only[Ty.w,simprocAttr,s6],hej2 _,true,hI.put hid,by simp⟩
      |false=>
       cases kB with
       |true=>
        simp only[if_true]at hev;subst hev;replace Z:=U s0 (U s3 (U s4 (U s5 (U s6 (U s7 hno)))));(repeat'(first|refine uR Z ?_|apply zI));exact⟨hej2 _,_,hI.put hid,by simp⟩
       |false=>
        simp only[Bool.false_eq_true,if_false,errV]at hev;subst hev;replace Z:=U s0 (U s3 (U s4 (U s5 (U s6 (U s7 hno)))));(repeat'(first|refine uR Z ?_|apply zI));exact⟨hej2 _,_,hI.put hid,by simp⟩
     ·(try clear Z);clear s0 s3 s4 s5 s6 s7 hI hej;rintro S H3 ⟨s0,s3,s4,s5,s6,hej,b1,hI,hb1⟩;refine J _ _ ?_;(try clear Z);clear J;have hat:=hI.at_;simp only[Sx.cells]at hat;replace Z:=U s0 (U s3 (U s4 (U s5 (U s6 (U hat (U hej (U wi wj)))))));(repeat'(first|refine uE Z fun K J=>?_|apply zI));replace Z:=U s0 (U s3 (U s4 (U s5 (U s6 (U hat hej)))));(first|refine uV Z (hw _ _) ?_|refine uA Z (hw _ _) ?_);(try apply zI);(first|refine uV Z (hl3 _) ?_|refine uA Z (hl3 _) ?_);(repeat'(first|(refine O J ?_;clear J)|refine uB Z ?_|apply zI));first
       |exact⟨b1,hI.upd hid,stepK _ hb1⟩
       |exact⟨by simp only[Ty.w,simprocAttr,s0],by simp only[Ty.w,simprocAttr,s3],by simp only[Ty.w,simprocAttr,s4],by simp only[Ty.w,simprocAttr,s5],b1,hI.upd hid,stepK _ hb1⟩
 ·try clear Z
  clear hvs hWE hX0 hK0 hI s0 s3 s4 s5;rintro S H ⟨s0,s3,s4,s5,b1,hI,hb1⟩;refine a_cut (fun S H=>S 0= .ptr id 0 0∧S 3= .cptr [.sc (.int .i64 kind),.imm 2 (pmRows params),sPV gop,sPV gna,.imm 1 (strRows gar),.imm 2 (pmRows gpa),.imm 5 (Ex.rows gex),.imm 6 (Fm.rows gki),sPV name,.imm 1 (strRows args),sPV eop,sPV ena,.sc (.int .i64 en),.imm 1 (strRows ear),.imm 5 (Ex.rows eki)]∧S 4= .ptr h.next 0 0∧S 5= .ptr (h.next+1) 0 0∧ ∃ b2,ChI h id b2 R1 H∧b2=(b1||!(al||vf))) ?_ ?_
  ·have hda:=fun h:Heap=>dalways_c (h:=h);simp only[andFm,opAnd,Fm.cells]at hda hSame;replace Z:=U s0 (U s3 (U s4 s5));(repeat'(first|refine G fun K J=>?_|refine uD Z ?_|apply zI));(first|refine uV Z (hda _) ?_|refine uA Z (hda _) ?_);(try apply zI);(first|refine uV Z (hSame _) ?_|refine uA Z (hSame _) ?_);cases al with
   |true=>
    rw[cond_true]at hX1;subst hX1;replace Z:=U s0 (U s3 (U s4 (U s5 @Bool.not_true)));(repeat'(first|refine uK ?_|refine uC1 Z ?_|(refine O J ?_;clear J)|apply zI));first
     |exact⟨b1,hI,by simp⟩
     |exact⟨by simp only[Ty.w,simprocAttr,s0],by simp only[Ty.w,simprocAttr,s3],by simp only[Ty.w,simprocAttr,s4],by simp only[Ty.w,simprocAttr,s5],b1,hI,by simp⟩
   |false=>
    rw[cond_false]at hX1;subst hX1;obtain⟨rk,rv,rl,rc,rt,rs⟩:=R0;obtain⟨fk,fv,fl,fc,ft,fs⟩:=fX;simp only[Sx.cells]at hWF;have hl3:=fun h:Heap=>dlistS_c [wordM opWhen,.mk fk fv fl fc ft fs,.mk rk rv rl rc rt rs] h;simp only[wordM,opWhen,listM,Sx.cells,Sx.rows]at hl3;have hat:=hI.at_;simp only[Sx.cells]at hat;have hno:=hI.grow.at_;have hnx:=hI.nx;have d1:(h.next+1=id)=False:=eq_false (by omega);replace Z:=U s0 (U s3 (U s4 (U s5 (U @Bool.not_false hat))));(repeat'(first|refine uD Z ?_|refine uC1 Z ?_|(refine O J ?_;clear J)|apply zI));replace Z:=U s0 (U s3 (U s4 (U s5 hat)));(first|refine uV Z (hw _ _) ?_|refine uA Z (hw _ _) ?_);(try apply zI);refine a_dcallW (hWF H b1 (by omega) hno) (by(try simp only[Ty.w,simprocAttr,s0,s3,s4,s5]);try rfl) (by
     try simp only[Ty.w,simprocAttr,pastC,List.map_cons,List.map_nil,List.forall_mem_cons]
     (repeat' apply And.intro)<;>first
      |trivial
      |exact .inl (by decide+kernel)
      |exact .inr (Does_use (hw _ _) (by(try simp only[Ty.w,simprocAttr]);try rfl))) ?_
    simp(maxSteps:=2000000) only[Ty.w,simprocAttr,Ty.all,Option.getD_some,s0,s3,s4,s5,hat,d1];replace Z:=U s0 (U s3 (U s4 (U s5 (U hat d1))));(repeat'(first|refine uB Z ?_|apply zI));refine a_dcallA (hl3 _) (by(try simp only[Ty.w,simprocAttr,s0,s3,s4,s5,hat,d1]);try rfl) (by first|exact .inl (by decide+kernel)|exact⟨.inl (by decide+kernel),trivial⟩|(simp only[List.forall_mem_cons];exact⟨.inl (by decide+kernel),fun _ hx=>by cases hx⟩)) ?_;simp(maxSteps:=2000000) only[Ty.w,simprocAttr,Ty.all,Option.getD_some,s0,s3,s4,s5,hat,d1];replace Z:=U s0 (U s3 (U s4 (U s5 (U hat d1))));(repeat'(first|refine uB Z ?_|apply zI));first
     |exact⟨b1||!vf,(hI.put hid).upd hid,by simp⟩
     |exact⟨by simp only[Ty.w,simprocAttr,s0],by simp only[Ty.w,simprocAttr,s3],by simp only[Ty.w,simprocAttr,s4],by simp only[Ty.w,simprocAttr,s5],b1||!vf,(hI.put hid).upd hid,by simp⟩
  ·(try clear Z);clear hSame hWF hX1 hI s0 s3 s4 s5;rintro S H ⟨s0,s3,s4,s5,b2,hI,hb2⟩;have hfin:(b2||!pb)=F:=by
    rw[hb2,hb1, ← hF];cases b<;>cases a1<;>cases kB<;>cases al<;>cases vf<;>cases pb<;>rfl
   (try clear Z);clear hb1 hb2 hF;have hat:=hI.at_;have hno:=hI.grow.at_;have hnx:=hI.nx;have hrs:=hI.res;have d1:(h.next+1=id)=False:=eq_false (by omega);have d2:(h.next+1=h.next)=False:=eq_false (by omega);have d3:(h.next=h.next+1)=False:=eq_false (by omega);have d4:(h.next=id)=False:=eq_false (by omega);have fin: ∀ (X:Sx)(H:Heap),ChI h id F X H→FrzTo h.next (H.set h.next (.arr 6 [X.cells])) (.agg X.cells) (.agg X.cells)∧GrowX h id (wO F) (H.set h.next (.arr 6 [X.cells])):=fun X H i=>⟨by
    simp only[FrzTo];exact⟨_,rfl,sx_frz _ _ _⟩,i.grow.set hid (Nat.le_refl _)⟩
   obtain⟨rk,rv,rl,rc,rt,rs⟩:=R1;simp only[Sx.cells]at hat;cases hpn:decide ((params.length:Int)>0)with
   |false=>
    have e0:params.isEmpty=true:=by
     have h0:params.length=0:=(by have:=of_decide_eq_false hpn;omega);rw[hpe,h0];try rfl
    have hpb:pb=true:=hpb0 e0;rw[e0,cond_true]at hX2;subst hX2;rw[hpb,Bool.not_true,Bool.or_false]at hfin;subst hfin;have hf:=fin _ _ hI;simp only[Sx.cells]at hf;replace Z:=U s0 (U s3 (U s4 (U s5 (U hpl (U hpn (U hat (U hrs d2)))))));(repeat'(first|refine G fun K J=>?_|refine uR Z ?_|refine uT Z ?_|refine uK ?_|refine uC1 Z ?_|(refine O J ?_;clear J)|apply zI));exact hf
   |true=>
    have e0:params.isEmpty=false:=by
     have h0:¬ params.length=0:=(by have:=of_decide_eq_true hpn;omega);rw[hpe];exact decide_eq_false h0
    rw[e0,cond_false]at hX2;subst hX2;have hl2:=fun h:Heap=>dlistS_c pw h;have hl3:=fun h:Heap=>dlistS_c [wordM opAll,listM pw,.mk rk rv rl rc rt rs] h;simp only[wordM,opAll,listM,Sx.cells,Sx.rows]at hl2 hl3;have hf:=fun i=>fin (listM [wordM opAll,listM pw,.mk rk rv rl rc rt rs]) ((H.set id (wO F)).set (h.next+1) (.arr 6 [(listM [wordM opAll,listM pw,.mk rk rv rl rc rt rs]).cells])) i;have hf:=hf ((hI.put hid).upd hid);simp only[wordM,opAll,listM,Sx.cells,Sx.rows]at hf;replace Z:=U s0 (U s3 (U s4 (U s5 (U hpl (U hpn hat)))));(repeat'(first|refine G fun K J=>?_|refine uR Z ?_|refine uD Z ?_|refine uC1 Z ?_|(refine O J ?_;clear J)|apply zI));replace Z:=U s0 (U s3 (U s4 (U s5 hat)));(first|refine uV Z (hw _ _) ?_|refine uA Z (hw _ _) ?_);(try apply zI);refine a_dcallW (hWP H b2 (by omega) hno) (by(try simp only[Ty.w,simprocAttr,s0,s3,s4,s5]);try rfl) (by
     try simp only[Ty.w,simprocAttr,pastC,List.map_cons,List.map_nil,List.forall_mem_cons]
     (repeat' apply And.intro)<;>first
      |trivial
      |exact .inl (by decide+kernel)
      |exact .inr (Does_use (hw _ _) (by(try simp only[Ty.w,simprocAttr]);try rfl))) ?_
    simp(maxSteps:=2000000) only[Ty.w,simprocAttr,Ty.all,Option.getD_some,s0,s3,s4,s5,hat,d1];(try apply zI);refine a_dcallA (hl2 _) (by(try simp only[Ty.w,simprocAttr,s0,s3,s4,s5,hat,d1]);try rfl) (by first|exact .inl (by decide+kernel)|exact⟨.inl (by decide+kernel),trivial⟩|(simp only[List.forall_mem_cons];exact⟨.inl (by decide+kernel),fun _ hx=>by cases hx⟩)) ?_;simp(maxSteps:=2000000) only[Ty.w,simprocAttr,Ty.all,Option.getD_some,s0,s3,s4,s5,hat,d1];replace Z:=U s0 (U s3 (U s4 (U s5 (U hat d1))));(repeat'(first|refine uB Z ?_|apply zI));refine a_dcallA (hl3 _) (by(try simp only[Ty.w,simprocAttr,s0,s3,s4,s5,hat,d1]);try rfl) (by first|exact .inl (by decide+kernel)|exact⟨.inl (by decide+kernel),trivial⟩|(simp only[List.forall_mem_cons];exact⟨.inl (by decide+kernel),fun _ hx=>by cases hx⟩)) ?_;simp(maxSteps:=2000000) only[Ty.w,simprocAttr,Ty.all,Option.getD_some,s0,s3,s4,s5,hat,d1];replace Z:=U s0 (U s3 (U s4 (U s5 (U hat (U d1 (U d2 (U d3 (U d4 hrs))))))));(repeat'(first|refine G fun K J=>?_|refine uR Z ?_|refine uT Z ?_|(refine O J ?_;clear J)|refine uB Z ?_|apply zI));rw[hfin];exact hf
structure EffI(h:Heap)(id:Nat)(b:Bool)(l:List Sx)(h':Heap):Prop where
 grow:GrowX h id (wO b) h'
 ex: ∃ j,h.next+1+1<h'.next∧j≠h.next+1+1∧h.next<j∧j<h'.next∧
  h'.obj h.next=some (.arr 6 [sxZd])∧
  h'.obj (h.next+1+1)=some (.arr 6 [[.sc (.int .i64 3),.sc (.int .i64 0),.sc (.int .i64 0),.sc (.int .i64 0),.sc (.string ⟨#[]⟩),.own j 0 l.length]])∧
  h'.obj j=some (.arr 6 (Sx.rows l))
theorem EffI.newset{h h':Heap}{id:Nat}{b:Bool}{l:List Sx}{o o2:AObj}(i:EffI h id b l h')(hid:id<h.next):EffI h id b l ((h'.new o).set h'.next o2):=by
 obtain⟨hg,j,h1,h2,h3,h4,p1,p2,p3⟩:=i;refine⟨(hg.new hid).set hid hg.le,j,by simp only[Heap.new,Heap.set];omega,h2,h3,by simp only[Heap.new,Heap.set];omega,?_,?_,?_⟩
 ·simp only[Heap.set,Heap.new];rw[if_neg (by omega),if_neg (by omega)];exact p1
 ·simp only[Heap.set,Heap.new];rw[if_neg (by omega),if_neg (by omega)];exact p2
 ·simp only[Heap.set,Heap.new];rw[if_neg (by omega),if_neg (by omega)];exact p3
theorem EffI.push{h h':Heap}{id j:Nat}{b:Bool}{l:List Sx}{x:Sx}(hg:GrowX h id (wO b) h')(hid:id<h.next)(h1:h.next+1+1<h'.next)(h2:j≠h.next+1+1)(h3:h.next<j)(h4:j<h'.next)(o1:h'.obj h.next=some (.arr 6 [sxZd])):
  EffI h id b (l++[x]) (((h'.kill j).new (.arr 6 (Sx.rows l++[x.cells]))).set (h.next+1+1) (.arr 6 [[.sc (.int .i64 3),.sc (.int .i64 0),.sc (.int .i64 0),.sc (.int .i64 0),.sc (.string ⟨#[]⟩),.own h'.next 0 (l.length+1)]])):=by
 have e:Sx.rows (l++[x])=Sx.rows l++[x.cells]:=by rw[Sx.rows_map,Sx.rows_map];simp
 refine⟨((hg.kill hid (by omega)).new hid).set hid (by omega),h'.next,?_,?_,?_,?_,?_,?_,?_⟩
 ·simp only[Heap.set,Heap.new,Heap.kill];omega
 ·omega
 ·omega
 ·simp only[Heap.set,Heap.new,Heap.kill];omega
 ·have a1:¬ h.next=h.next+1+1:=by omega
  have a2:¬ h.next=h'.next:=by omega
  have a3:¬ h.next=j:=by omega
  simp only[Heap.set,Heap.new,Heap.kill,a1,a2,a3,if_false];exact o1
 ·simp only[Heap.set,if_true,List.length_append,List.length_cons,List.length_nil]
 ·have a1:¬ h'.next=h.next+1+1:=by omega
  simp only[Heap.set,Heap.new,Heap.kill,a1,if_false,if_true,e]
theorem weffect_c{h:Heap}{id:Nat}{b:Bool}{l:List Ch}(hl:l.length≤1048576)(hok: ∀ c∈l,c.ok)(hsm: ∀ c∈l,ChSm c)(hid:id<h.next)(ho:h.obj id=some (wO b)):
  PCall Tryz.prog 51 [.ptr id 0 0,.imm 15 (chRows l)] h fun r h'=>r= .agg (effX l).cells∧h'=h.set id (wO (b||!(l.all chB))):=by
 refine PCall.frzX Ty.hb_51 ho (wO_in _ _) ?_;have hll:=chRows_len l;have hw: ∀ (s:ByteArray)(h:Heap),PCall Tryz.prog 40 [sPV s] h fun r h'=>r= .agg (wordM s).cells∧h'=h:=fun s h=>dword_c;simp only[wordM,Sx.cells,Sx.rows]at hw;have hE:effX l=(bif l.isEmpty then listM []else listM (wordM opAnd::l.map chX)):=rfl;cases q0:((l.length:Int)==0)with
 |true=>
  have e0:l=[]:=by have:=eq_of_beq q0;exact List.length_eq_zero_iff.1 (by omega)
  rw[hE,e0];simp only[List.isEmpty_nil,cond_true,List.all_nil,Bool.not_true,Bool.or_false];subst e0;have hl0:=fun h:Heap=>dlist_c (h:=h) (p:= .sc (.slice none 0 0)) rfl (fun _=>by simp only[FrzTo]);refine uG0 Tryz.func51 Tryz.ntmps51 Tryz.results51 Ty.hb_51 ?_;repeat'(first|refine G fun K J=>?_|refine uR (U hll q0) ?_|(refine O J ?_;clear J)|apply zI)
  refine uU trivial (hl0 _) ?_;repeat'(first|refine uT trivial ?_|(refine O J ?_;clear J)|apply zI)
  refine⟨?_,((GrowX.refl ho).new hid).set hid (Nat.le_refl _)⟩;simp only[listM,Sx.cells,Sx.rows,FrzTo,FrzL];exact⟨_,rfl,rfl,rfl,rfl,rfl,rfl,.inr (.inl ⟨rfl,.inr rfl⟩),trivial⟩
 |false=>
  have e0:l.isEmpty=false:=by cases l with
   |nil=>simp at q0
   |cons=>rfl
  rw[hE,e0,cond_false];try clear Z
  clear hE e0;generalize hF:(b||!(l.all chB))=F;refine uG (ow:=fun t=>t==13) (wf:=fun f=>f==107||f==41||f==43||f==100||f==51) Tryz.func51 Tryz.ntmps51 Tryz.results51 Ty.hb_51 ?_;replace Z:=U hll q0;repeat'(first|refine G fun K J=>?_|refine uR Z ?_|refine uK ?_|refine uC1 Z ?_|(refine O J ?_;clear J)|apply zI)
  refine uU trivial (hw opAnd _) ?_;try apply zI
  refine uU trivial (dlist_c (p:= .own (h.next+1) 0 1) rfl (fun _=>frz_own (by simp[Heap.new]))) ?_;repeat'(first|refine G fun K J=>?_|refine a_block ?_|refine uR hll ?_|(refine O J ?_;clear J)|apply zI)
  refine a_loop (fun m S h'=>S 0= .ptr id 0 0∧S 4= .ptr h.next 0 0∧S 5= .ptr (h.next+1+1) 0 0∧S 15= .imm 15 (chRows l)∧S 16= .sc (.int .i64 l.length)∧ ∃ (k:Nat)(b':Bool),S 17= .sc (.int .i64 k)∧k≤l.length∧m=l.length-k∧EffI h id b' (wordM opAnd::(l.take k).map chX) h'∧F=(b'||!((l.drop k).all chB))) l.length ?_ ?_
  ·simp only[Ty.w,simprocAttr];refine⟨0,b,rfl,by omega,rfl,⟨?_,h.next+1,by simp[Heap.new,Heap.set],by omega,by omega,by simp[Heap.new,Heap.set],?_,?_,?_⟩,by rw[List.drop_zero];exact hF.symm⟩
   ·exact ((((GrowX.refl ho).new hid).new hid).new hid).set hid (by omega)
   ·simp only[Heap.new,Heap.set];repeat(first|rw[if_neg (by omega)]|rw[if_pos trivial])
   ·simp only[Heap.new,Heap.set];(repeat(first|rw[if_neg (by omega)]|rw[if_pos trivial]));try rfl
   ·simp only[Heap.new,Heap.set];(repeat(first|rw[if_neg (by omega)]|rw[if_pos trivial]));simp[wordM,Sx.rows,Sx.cells]
  ·(try clear Z);clear hF;rintro m S h' ⟨g0,g4,g5,g15,g16,k,b',g17,hk,rfl,hI,hinv⟩;by_cases hlt:k<l.length
   ·have hd:decide ((k:Int)<(l.length:Int))=true:=(by simp;omega);have w7:IntKind.i64.wrap ((k:Int)+1)=k+1:=(by rw[wrap64 (by omega) (by omega)]);obtain⟨c,hx⟩: ∃ c,l[k]? =some c:=⟨_,List.getElem?_eq_getElem hlt⟩;have hr:=chRows_get hx;have hcc:=fun(H:Heap)(b':Bool)(hid':id<H.next)(ho':H.obj id=some (wO b'))=>wchange_c (h:=H) (b:=b') (hok c (List.mem_of_getElem? hx)) (hsm c (List.mem_of_getElem? hx)) hid' ho';rw[drop_of_get hx,List.all_cons]at hinv;have htk:(l.take (k+1)).map chX=(l.take k).map chX++[chX c]:=(by rw[List.take_add_one,hx];simp);generalize chB c=q at hcc hinv;generalize chX c=X at hcc htk;have hlen:(wordM opAnd::(l.take k).map chX).length=k+1:=(by simp;omega);have hcon:wordM opAnd::(l.take (k+1)).map chX=(wordM opAnd::(l.take k).map chX)++[X]:=(by rw[htk];try rfl);generalize(wordM opAnd::(l.take k).map chX)=L at hI hlen hcon;(try clear Z);clear htk;obtain⟨kind,params,⟨gop,gna,gar,gpa,gex,gki⟩,name,args,⟨eop,ena,en,ear,eki⟩⟩:=c;simp only[chRow,Fm.cells,Ex.cells,List.cons_append,List.nil_append]at hr hcc;obtain⟨xk,xv,xl,xc,xt,xs⟩:=X;simp only[Sx.cells]at hcc;replace Z:=U g0 (U g4 (U g5 (U g15 (U g16 (U g17 (U hd hr))))));(repeat'(first|with_reducible refine a_holdB 7 ?_|refine G fun K J=>?_|refine uR Z ?_|refine uK ?_|refine uC1 Z ?_|(refine O J ?_;clear J)|apply zI));refine⟨?_⟩;refine a_genX (fun S H=>S 0= .ptr id 0 0∧S 4= .ptr h.next 0 0∧S 5= .ptr (h.next+1+1) 0 0∧S 15= .imm 15 (chRows l)∧S 16= .sc (.int .i64 l.length)∧S 17= .sc (.int .i64 k)∧ ∃ j7,S 7= .ptr j7 0 0∧h.next+1+1<j7∧H.obj j7=some (.arr 15 [[.sc (.int .i64 kind),.imm 2 (pmRows params),sPV gop,sPV gna,.imm 1 (strRows gar),.imm 2 (pmRows gpa),.imm 5 (Ex.rows gex),.imm 6 (Fm.rows gki),sPV name,.imm 1 (strRows args),sPV eop,sPV ena,.sc (.int .i64 en),.imm 1 (strRows ear),.imm 5 (Ex.rows eki)]])∧EffI h id b' L H) ?_ ?_
    ·obtain ⟨_,hlt2,_⟩:=hI.ex;exact⟨by simp only[Ty.w,simprocAttr,g0],by simp only[Ty.w,simprocAttr,g4],by simp only[Ty.w,simprocAttr,g5],by simp only[Ty.w,simprocAttr,g15],by simp only[Ty.w,simprocAttr,g16],by simp only[Ty.w,simprocAttr,g17],h'.next,by simp only[Ty.w,simprocAttr],hlt2,by simp only[Heap.set,if_true],hI.newset hid⟩
    ·(try clear Z);clear g0 g4 g5 g15 g16 g17 hI hd hr;rintro S H ⟨g0,g4,g5,g15,g16,g17,j7,g7,hj7,ho7,hI⟩;have stepF:(b'||!q)=(b'||!q)∧F=((b'||!q)||!((l.drop (k+1)).all chB)):=⟨rfl,by rw[hinv];cases b'<;>cases q<;>simp⟩;have hno:=hI.grow.at_;have hle:=hI.grow.le;obtain⟨hg,j,h1,h2,h3,h4,o1,o2,o3⟩:=hI;have d1:(h.next+1+1=id)=False:=eq_false (by omega);have d2:(j=id)=False:=eq_false (by omega);have d3:(h.next+1+1=j)=False:=eq_false (by omega);have d4:(h.next+1+1=H.next)=False:=eq_false (by omega);have hrl:(Sx.rows L).length=k+1:=(by rw[Sx.rows_len];exact hlen);have htk:List.take (k+1) (Sx.rows L)=Sx.rows L:=List.take_of_length_le (by omega);have hb:(k+1+1)*72≤140737488355328:=(by omega);rw[hlen]at o2;generalize hRe:Sx.rows L=R at o3 hrl htk;replace Z:=U g0 (U g4 (U g5 (U g15 (U g16 (U g17 (U g7 (U ho7 o2)))))));(repeat'(first|refine uE Z fun K J=>?_|apply zI));refine a_dcallW (hcc H b' (by omega) hno) (by(try simp only[Ty.w,simprocAttr,g0,g4,g5,g15,g16,g17,g7,ho7]);try rfl) (by
      try simp only[Ty.w,simprocAttr,Ty.all,pastC,List.map_cons,List.map_nil,List.forall_mem_cons,g0,g4,g5,g7,ho7,o2,d1]
      (repeat' apply And.intro)<;>first
       |trivial
       |exact .inl (by decide+kernel)
       |exact .inr trivial) ?_
     simp(maxSteps:=2000000) only[Ty.w,simprocAttr,Ty.all,Option.getD_some,g0,g4,g5,g15,g16,g17,g7,ho7,o2,o3,d1,d2];replace Z:=U g0 (U g4 (U g5 (U g15 (U g16 (U g17 (U g7 (U o2 (U o3 (U d1 (U d2 (U d3 (U d4 (U hrl (U htk (U hb w7)))))))))))))));(repeat'(first|refine uR Z ?_|(refine O J ?_;clear J)|refine uB Z ?_|(rw[if_pos];rotate_left 1;omega;simp(maxSteps:=2000000) only[Ty.w,simprocAttr,g0,g4,g5,g15,g16,g17,g7,o2,o3,d1,d2,d3,d4,hrl,htk,hb,w7])|apply zI));have hp:=EffI.push (x:= .mk xk xv xl xc xt xs) (l:=L) ((hg.put (o2:=wO (b'||!q)))) hid h1 h2 h3 h4 (by simp only[Heap.set];rw[if_neg (by omega)];exact o1);rw[← hcon,hRe,hlen]at hp;exact⟨l.length-(k+1),by omega,k+1,b'||!q,by simp,by omega,rfl,hp,stepF.2⟩
   ·have hd:decide ((k:Int)<(l.length:Int))=false:=(by simp;omega);have hke:k=l.length:=(by omega);subst hke;obtain⟨hg,j,hn2,hne,hlo,hhi,o1,o2,o3⟩:=hI;rw[List.take_length]at o2 o3;rw[List.drop_length,List.all_nil,Bool.not_true,Bool.or_false]at hinv;subst hinv;have n1:(h.next+1+1=h.next)=False:=(by simp;omega);generalize hLe:wordM opAnd::l.map chX=L at o2 o3;replace Z:=U g0 (U g4 (U g5 (U g15 (U g16 (U g17 (U hd (U o1 (U o2 (U o3 n1)))))))));(repeat'(first|refine G fun K J=>?_|refine uR Z ?_|refine uT Z ?_|refine uX ?_|refine uC1 Z ?_|(refine O J ?_;clear J)|(clear J;refine O J ?_;clear J)|apply zI));refine⟨?_,hg.set hid (Nat.le_refl _)⟩;rw[hLe];simp only[listM,Sx.cells,FrzTo,FrzL];refine⟨_,rfl,rfl,rfl,rfl,rfl,rfl,.inr (.inr ⟨j,0,L.length,Sx.rows L,rfl,by omega,?_,?_,?_⟩),trivial⟩
    ·simp only[Heap.set];rw[if_neg (by omega)];exact o3
    ·rw [Sx.rows_len];omega
    ·rw [List.drop_zero,List.take_of_length_le (by rw[Sx.rows_len];omega)];exact sxs_frz _ _ _
theorem zeroSx_frz{n:Nat}{h:Heap}:FrzTo n h (.agg zeroSx.cells) (.agg sxZd):=by
 simp only[zeroSx,Sx.cells,Sx.rows,FrzTo,FrzL];exact⟨_,rfl,rfl,rfl,rfl,rfl,rfl,.inr (.inl ⟨rfl,.inr rfl⟩),trivial⟩
theorem WriteEffect_c{l:List Ch}(hl:l.length≤1048576)(hok: ∀ c∈l,c.ok)(hsm: ∀ c∈l,ChSm c)(hX:(effX l).ok)(h:Heap):
  PCall Tryz.prog 17 [.imm 15 (chRows l)] h fun r h'=>r=(if writeEB l then .tup [.agg (effX l).cells,.sc .nilIface]else .tup [.agg zeroSx.cells,errV 2])∧h'=h:=by
 refine PCall.frz Ty.hb_17 ?_;have hc:=fun(H:Heap)(hid:h.next+1<H.next)(ho:H.obj (h.next+1)=some (wO false))=>weffect_c (h:=H) (b:=false) hl hok hsm hid ho;have hV:=fun h:Heap=>svalid_c (x:=effX l) hX h;have hW:writeEB l=(l.all chB&&(svalid (effX l) 0 0).1):=rfl;rw[hW];generalize(svalid (effX l) 0 0).1=v at hV⊢;generalize l.all chB=a at hc⊢;generalize effX l=X at hc hV⊢;generalize chRows l=R at hc⊢;obtain⟨xk,xv,xl,xc,xt,xs⟩:=X;simp only[Sx.cells]at hc hV⊢;have n1:(h.next=h.next+1)=False:=eq_false (by omega);have n2:(h.next=h.next+1+1)=False:=eq_false (by omega);have n3:(h.next+1=h.next+1+1)=False:=eq_false (by omega);have n4:(h.next+1+1=h.next+1)=False:=eq_false (by omega);have n5:(h.next+1+1=h.next)=False:=eq_false (by omega);have n6:(h.next+1=h.next)=False:=eq_false (by omega);cases a with
 |false=>
  refine uG (ow:=fun t=>t==7) (wf:=fun _=>false) Tryz.func17 Tryz.ntmps17 Tryz.results17 Ty.hb_17 ?_;repeat'(first|refine G fun K J=>?_|refine uR trivial ?_|(refine O J ?_;clear J)|apply zI)
  refine owp_useH (hc _ (by simp[Heap.new]) (by simp[Heap.new])) (by(try simp only[Ty.w,simprocAttr]);try rfl) ?_;simp(maxSteps:=2000000) only[Ty.w,simprocAttr];repeat'(first|refine G fun K J=>?_|((first|refine a_regionS ?_|refine a_ret ?_);simp(maxSteps:=2000000) only[Ty.w,simprocAttr,n1,n2,n3,n4,n5,n6,Bool.not_false,Bool.false_or])|(refine J _ _ ?_;clear J;(try simp only[pst0,simprocAttr])))
  refine⟨?_,((((((Grow.refl h).new _).new _).set (by omega) _).new _).set (by omega) _).set (Nat.le_refl _) _⟩;simp only[Bool.false_and,Bool.false_eq_true,if_false,errV,FrzTo,FrzL,and_true];exact⟨_,rfl,zeroSx_frz,rfl,trivial⟩
 |true=>
  cases v with
  |false=>
   refine uG (ow:=fun t=>t==7) (wf:=fun _=>false) Tryz.func17 Tryz.ntmps17 Tryz.results17 Ty.hb_17 ?_;(repeat'(first|refine G fun K J=>?_|refine uR trivial ?_|(refine O J ?_;clear J)|apply zI));refine owp_useH (hc _ (by simp[Heap.new]) (by simp[Heap.new])) (by(try simp only[Ty.w,simprocAttr]);try rfl) ?_;simp(maxSteps:=2000000) only[Ty.w,simprocAttr];(repeat'(first|refine G fun K J=>?_|(refine a_regionS ?_;simp(maxSteps:=2000000) only[Ty.w,simprocAttr,n1,n2,n3,n4,n5,n6,Bool.not_true,Bool.false_or])|(refine J _ _ ?_;clear J;(try simp only[pst0,simprocAttr]))));replace Z:=U n1 (U n2 (U n3 (U n4 (U n5 n6))));refine uU Z (hV _) ?_;replace Z:=U n1 (U n2 (U n3 (U n4 (U n5 (U n6 @Bool.not_false)))));(repeat'(first|refine G fun K J=>?_|refine uR Z ?_|refine uT Z ?_|(refine O J ?_;clear J)|apply zI));refine⟨?_,((((((Grow.refl h).new _).new _).set (by omega) _).new _).set (by omega) _).set (Nat.le_refl _) _⟩;simp only[Bool.and_false,Bool.false_eq_true,if_false,errV,FrzTo,FrzL,and_true];exact⟨_,rfl,zeroSx_frz,rfl,trivial⟩
  |true=>
   refine uG (ow:=fun t=>t==7) (wf:=fun _=>false) Tryz.func17 Tryz.ntmps17 Tryz.results17 Ty.hb_17 ?_;(repeat'(first|refine G fun K J=>?_|refine uR trivial ?_|(refine O J ?_;clear J)|apply zI));refine owp_useH (hc _ (by simp[Heap.new]) (by simp[Heap.new])) (by(try simp only[Ty.w,simprocAttr]);try rfl) ?_;simp(maxSteps:=2000000) only[Ty.w,simprocAttr];(repeat'(first|refine G fun K J=>?_|(refine a_regionS ?_;simp(maxSteps:=2000000) only[Ty.w,simprocAttr,n1,n2,n3,n4,n5,n6,Bool.not_true,Bool.false_or])|(refine J _ _ ?_;clear J;(try simp only[pst0,simprocAttr]))));replace Z:=U n1 (U n2 (U n3 (U n4 (U n5 n6))));refine uU Z (hV _) ?_;replace Z:=U n1 (U n2 (U n3 (U n4 (U n5 (U n6 @Bool.not_true)))));(repeat'(first|refine G fun K J=>?_|refine uR Z ?_|refine uT Z ?_|refine uK ?_|refine uC1 Z ?_|(refine O J ?_;clear J)|apply zI));refine⟨?_,((((((Grow.refl h).new _).new _).set (by omega) _).new _).set (by omega) _).set (Nat.le_refl _) _⟩;simp only[Bool.and_self,if_true,FrzTo];exact⟨_,rfl,by simp only[FrzL,FrzTo,and_true];exact⟨_,rfl,sx_frz _ _ (.mk xk xv xl xc xt xs)⟩⟩
set_option maxHeartbeats 4000000
theorem headM_okS{x:Sx}(hok:x.ok)(hsm:x.small){w:ByteArray}{l:List Sx}(h:headM x=some (w,l)):w.size≤bigN∧l.length≤1048576∧ ∀ y∈l,y.ok:=by
 obtain⟨kind,value,line,col,text,kids⟩:=x;simp only[Sx.ok]at hok;simp only[Sx.small]at hsm;obtain⟨_,_,_,hk,hks⟩:=hok;simp only[headM]at h;split at h
 ·cases kids with
  |nil=>simp at h
  |cons y rest=>
   simp only at h;rw[Sx.oks_iff]at hks;cases hh:kindOf y==1 with
   |false=>rw[hh]at h;simp at h
   |true=>
    rw[hh]at h;simp only[cond_true,Option.some.injEq,Prod.mk.injEq]at h;obtain⟨rfl,rfl⟩:=h;have hy:=hks y (by simp);have hl1:=hsm.1;refine⟨?_,by simp only[List.length_cons]at hl1;omega,fun z hz=>hks z (by simp[hz])⟩;obtain⟨ki,va,li,co,te,ks⟩:=y;simp only[Sx.ok]at hy;exact hy.2.2.1
 ·simp at h
theorem headM_cons{kind value line col:Int}{text w:ByteArray}{kids l:List Sx}(h:headM (.mk kind value line col text kids)=some (w,l)): ∃ y,kids=y::l∧(kindOf y==1)=true∧textOf y=w:=by
 simp only[headM]at h;split at h
 ·cases kids with
  |nil=>simp at h
  |cons y rest=>
   simp only at h;cases hh:kindOf y==1 with
   |false=>rw[hh]at h;simp at h
   |true=>
    rw[hh]at h;simp only[cond_true,Option.some.injEq,Prod.mk.injEq]at h;obtain⟨rfl,rfl⟩:=h;exact⟨y,rfl,hh,rfl⟩
 ·simp at h
theorem disWord_c{x:Sx}(h:Heap):PCall Tryz.prog 116 [.agg x.cells] h fun r h'=>r= .sc (.bool (kindOf x==1))∧h'=h:=by
 obtain⟨kind,value,line,col,text,kids⟩:=x;simp only[Sx.cells,kindOf];refine uG0 Tryz.func116 Tryz.ntmps116 Tryz.results116 Ty.hb_116 ?_;repeat'(first|refine G fun K J=>?_|refine uR trivial ?_|refine uT trivial ?_|(refine O J ?_;clear J)|apply zI)
theorem dbegins_c{x:Sx}(hok:x.ok)(h:Heap):PCall Tryz.prog 58 [.agg x.cells] h fun r h'=>r= .sc (.bool (headM x).isSome)∧h'=h:=by
 obtain⟨kind,value,line,col,text,kids⟩:=x;simp only[Sx.ok]at hok;obtain⟨_,_,_,hk,_⟩:=hok;generalize hF:(headM (.mk kind value line col text kids)).isSome=F;simp only[headM]at hF;simp only[Sx.cells];have hlen:=Sx.rows_len kids;cases k3:(kind==3)with
 |false=>
  rw[if_neg (by simpa using k3)]at hF;subst hF;refine uG0 Tryz.func58 Tryz.ntmps58 Tryz.results58 Ty.hb_58 ?_;repeat'(first|refine G fun K J=>?_|refine uR k3 ?_|refine uT k3 ?_|(refine O J ?_;clear J)|apply zI)
  all_goals rfl
 |true=>
  rw[if_pos (by simpa using k3)]at hF;cases kids with
  |nil=>
   simp only at hF;subst hF;have q:decide (((Sx.rows []).length:Int)>0)=false:=rfl;generalize Sx.rows []=R at q hlen;refine uG0 Tryz.func58 Tryz.ntmps58 Tryz.results58 Ty.hb_58 ?_;replace Z:=U k3 q;(repeat'(first|refine G fun K J=>?_|refine uR Z ?_|refine uT Z ?_|(refine O J ?_;clear J)|apply zI));all_goals rfl
  |cons y rest=>
   simp only at hF;have q:decide (((Sx.rows (y::rest)).length:Int)>0)=true:=(by rw[hlen];simp<;>omega);have q1:((0:Int)<((Sx.rows (y::rest)).length:Int))=True:=eq_true (by rw[hlen];simp<;>omega);have r0:=Sx.rows_get (l:=y::rest) (i:=0) rfl;have hc:=fun h:Heap=>disWord_c (x:=y) h;generalize Sx.rows (y::rest)=R at q q1 r0 hlen⊢;obtain⟨ki,va,li,co,te,ks⟩:=y;simp only[Sx.cells,kindOf,textOf]at r0 hF hc;have e:F=(ki==1):=(by rw[← hF];cases ki==1<;>rfl);subst e;(try clear Z);clear hF;refine uG0 Tryz.func58 Tryz.ntmps58 Tryz.results58 Ty.hb_58 ?_;replace Z:=U k3 (U q (U q1 r0));(repeat'(first|refine G fun K J=>?_|refine uR Z ?_|(refine O J ?_;clear J)|apply zI));refine uU r0 (hc _) ?_;(repeat'(first|refine uT (U k3 q) ?_|(refine O J ?_;clear J)|apply zI));all_goals rfl
theorem dkinds_c{w:ByteArray}(h:Heap):PCall Tryz.prog 109 [sPV w] h fun r h'=>r= .sc (.int .i64 (kindW w))∧h'=h:=by
 unfold kindW bEq opAsg opInc opDec;cases e1:(w.data.toList==[97,115,115,105,103,110])with
 |true=>
  refine uG0 Tryz.func109 Tryz.ntmps109 Tryz.results109 Ty.hb_109 ?_;repeat'(first|refine G fun K J=>?_|refine uR e1 ?_|refine uT e1 ?_|(refine O J ?_;clear J)|apply zI)
  all_goals rfl
 |false=>
  cases e2:(w.data.toList==[105,110,99,114,101,97,115,101])with
  |true=>
   refine uG0 Tryz.func109 Tryz.ntmps109 Tryz.results109 Ty.hb_109 ?_;replace Z:=U e1 e2;(repeat'(first|refine G fun K J=>?_|refine uR Z ?_|refine uT Z ?_|(refine O J ?_;clear J)|apply zI));all_goals rfl
  |false=>
   cases e3:(w.data.toList==[100,101,99,114,101,97,115,101])with
   |true=>
    refine uG0 Tryz.func109 Tryz.ntmps109 Tryz.results109 Ty.hb_109 ?_;replace Z:=U e1 (U e2 e3);(repeat'(first|refine G fun K J=>?_|refine uR Z ?_|refine uT Z ?_|(refine O J ?_;clear J)|apply zI));all_goals rfl
   |false=>
    refine uG0 Tryz.func109 Tryz.ntmps109 Tryz.results109 Ty.hb_109 ?_;replace Z:=U e1 (U e2 e3);(repeat'(first|refine G fun K J=>?_|refine a_block ?_|refine uR Z ?_|refine uT Z ?_|refine uK ?_|(refine O J ?_;clear J)|apply zI));all_goals rfl
abbrev atomV(a:ByteArray × List ByteArray × Int):PV:= .tup [sPV a.1,.imm 1 (strRows a.2.1),errP a.2.2]
theorem datom_c{x:Sx}(hok:x.ok)(hsm:x.small)(h:Heap):PCall Tryz.prog 113 [.agg x.cells] h fun r h'=>r=atomV (dAtomP x)∧h'=h:=by
 refine PCall.frz Ty.hb_113 ?_;have hb:=dbegins_c hok;generalize hF:dAtomP x=F;unfold dAtomP at hF;have bad: ∀ (c:Int)(h':Heap),c=2∨c=8→F=(⟨#[]⟩,[],c)→FrzTo h.next h' (atomV F) (.tup [sPV ⟨#[]⟩,.sc (.slice none 0 0),errV c]):=by
  intro c h' hc hf;subst hf;have e:errP c=errV c:=by rcases hc with rfl|rfl<;>rfl
  simp only[atomV,e,errV,strRows,List.map_nil,FrzTo,FrzL];exact⟨_,rfl,rfl,.inr (.inl ⟨rfl,.inr rfl⟩),rfl,trivial⟩
 simp only[errV]at bad;have hO:=fun w l=>headM_okS hok hsm (w:=w) (l:=l);obtain⟨kind,value,line,col,text,kids⟩:=x;generalize hD:headM (.mk kind value line col text kids)=D at hF hb hO;cases D with
 |none=>
  simp only at hF;simp only[Sx.cells,Option.isSome_none]at hb⊢;refine uG0 Tryz.func113 Tryz.ntmps113 Tryz.results113 Ty.hb_113 ?_;repeat'(first|refine G fun K J=>?_|refine uR trivial ?_|(refine O J ?_;clear J)|apply zI)
  refine uU trivial (hb _) ?_;repeat'(first|refine G fun K J=>?_|refine uR @Bool.not_false ?_|refine uT @Bool.not_false ?_|(refine O J ?_;clear J)|apply zI)
  exact⟨bad 2 _ (.inl rfl) hF.symm,Grow.refl _⟩
 |some wl=>
  obtain⟨w,l⟩:=wl;obtain⟨hw,hl,hlo⟩:=hO w l rfl;simp only at hF;simp only[Sx.cells,Option.isSome_some]at hb⊢;obtain⟨y,rfl,hy1,hy2⟩:=headM_cons hD;have hlen:=Sx.rows_len (y::l);have r0:=Sx.rows_get (l:=y::l) (i:=0) rfl;have q1:(1:Int)≤((Sx.rows (y::l)).length:Int):=by rw[hlen];simp<;>omega
  have q0:((0:Int)<((Sx.rows (y::l)).length:Int))=True:=eq_true (by rw[hlen];simp<;>omega);have ht:List.take (((Sx.rows (y::l)).length:Int)-1).toNat (List.drop 1 (Sx.rows (y::l)))=Sx.rows l:=by
   simp only[Sx.rows,List.drop_succ_cons,List.drop_zero,List.length_cons];rw[List.take_of_length_le (by omega)]
  have hll:=Sx.rows_len l;have hwn:w.size≤9223372036854775807:=by unfold bigN at hw;omega
  have hn:=fun h:Heap=>fname_c (h:=h) hwn;try clear Z
  clear hD hO hlen;generalize Sx.rows (y::l)=R at r0 q1 q0 ht hb⊢;obtain⟨yk,yv,yl,yc,yt,ys⟩:=y;simp only[kindOf,textOf]at hy1 hy2;subst hy2;simp only[Sx.cells]at r0;cases q2:nameB yt with
  |false=>
   rw[q2]at hF hn;simp only[cond_false]at hF;refine uG0 Tryz.func113 Tryz.ntmps113 Tryz.results113 Ty.hb_113 ?_;(repeat'(first|refine G fun K J=>?_|refine uR trivial ?_|(refine O J ?_;clear J)|apply zI));refine uU trivial (hb _) ?_;replace Z:=U @Bool.not_true (U r0 q0);(repeat'(first|refine G fun K J=>?_|refine uR Z ?_|refine uK ?_|refine uC1 Z ?_|(refine O J ?_;clear J)|apply zI));refine uU (U r0 q0) (hn _) ?_;(repeat'(first|refine G fun K J=>?_|refine uR @Bool.not_false ?_|refine uT @Bool.not_false ?_|(refine O J ?_;clear J)|apply zI));exact⟨bad 8 _ (.inr rfl) hF.symm,Grow.refl _⟩
  |true=>
   rw[q2]at hF hn;simp only[cond_true]at hF;refine uG0 Tryz.func113 Tryz.ntmps113 Tryz.results113 Ty.hb_113 ?_;(repeat'(first|refine G fun K J=>?_|refine uR trivial ?_|(refine O J ?_;clear J)|apply zI));refine uU trivial (hb _) ?_;replace Z:=U @Bool.not_true (U r0 q0);(repeat'(first|refine G fun K J=>?_|refine uR Z ?_|refine uK ?_|refine uC1 Z ?_|(refine O J ?_;clear J)|apply zI));refine uU (U r0 q0) (hn _) ?_;replace Z:=U @Bool.not_true (U q1 (U ht (U hll (U @Int.le_refl @Int.toNat_one))));(repeat'(first|refine G fun K J=>?_|refine a_block ?_|refine uR Z ?_|refine uK ?_|refine uC1 Z ?_|(refine O J ?_;clear J)|apply zI));refine a_loop (fun m S h'=>S 1= .cptr [.sc (.int .i64 kind),.sc (.int .i64 value),.sc (.int .i64 line),.sc (.int .i64 col),sPV text,.imm 6 R]∧S 22= .imm 6 (Sx.rows l)∧S 23= .sc (.int .i64 l.length)∧ ∃ (k:Nat)(p:PV)(pre:List ByteArray),S 24= .sc (.int .i64 k)∧S 5=p∧k≤l.length∧m=l.length-k∧Grow h h'∧pre.length=k∧Tl h' h.next 1 p (strRows pre)∧
    F=(match termsM (l.drop k)with|(t,c)=>bif c==0 then(yt,pre++t,0)else(⟨#[]⟩,[],c))) l.length ?_ ?_
   ·simp only[Ty.w,simprocAttr];refine⟨0,_,[],rfl,rfl,by omega,rfl,Grow.refl _,rfl,Tl.nil,?_⟩;rw[List.drop_zero, ← hF];try rfl
   ·(try clear Z);clear hF hb hn;rintro m S h' ⟨g1,g22,g23,k,p,pre,g24,g5,hk,rfl,hg,hpl,tl,hinv⟩;by_cases hlt:k<l.length
    ·have hd:decide ((k:Int)<(l.length:Int))=true:=(by simp;omega);have w7:IntKind.i64.wrap ((k:Int)+1)=k+1:=(by rw[wrap64 (by omega) (by omega)]);obtain⟨x,hx⟩: ∃ x,l[k]? =some x:=⟨_,List.getElem?_eq_getElem hlt⟩;have hr:=Sx.rows_get hx;have hxk:=hlo x (List.mem_of_getElem? hx);have hcw:=fun h:Heap=>disWord_c (x:=x) h;rw[drop_of_get hx]at hinv;simp only[termsM]at hinv;obtain⟨ki,va,li,co,te,ks⟩:=x;simp only[Sx.ok]at hxk;have hte:te.size≤9223372036854775807:=(by have:=hxk.2.2.1;unfold bigN at this;omega);simp only[Sx.cells,kindOf]at hr hcw;simp only[kindOf,textOf]at hinv;have tl2:=tl.up (h':=(h'.new (.arr 6 [[.sc (.int .i64 0),.sc (.int .i64 0),.sc (.int .i64 0),.sc (.int .i64 0),.sc (.string ⟨#[]⟩),.sc (.slice none 0 0)]])).set h'.next (.arr 6 [[.sc (.int .i64 ki),.sc (.int .i64 va),.sc (.int .i64 li),.sc (.int .i64 co),sPV te,.imm 6 (Sx.rows ks)]])) (by simp[Heap.new,Heap.set]) fun j hj _=>by
      simp only[Heap.set,Heap.new];rw[if_neg (by omega),if_neg (by omega)]
     have hg2:Grow h ((h'.new (.arr 6 [[.sc (.int .i64 0),.sc (.int .i64 0),.sc (.int .i64 0),.sc (.int .i64 0),.sc (.string ⟨#[]⟩),.sc (.slice none 0 0)]])).set h'.next (.arr 6 [[.sc (.int .i64 ki),.sc (.int .i64 va),.sc (.int .i64 li),.sc (.int .i64 co),sPV te,.imm 6 (Sx.rows ks)]])):=(hg.new _).set hg.le _;cases q3:(ki==1)with
     |false=>
      rw[q3]at hinv hcw;simp only[cond_false]at hinv;replace Z:=U g1 (U g22 (U g23 (U g24 (U g5 (U hd hr)))));(repeat'(first|refine G fun K J=>?_|refine uR Z ?_|refine uK ?_|refine uC1 Z ?_|(refine O J ?_;clear J)|apply zI));replace Z:=U g1 (U g22 (U g23 (U g24 (U g5 hr))));refine uU Z (hcw _) ?_;replace Z:=U g1 (U g22 (U g23 (U g24 (U g5 @Bool.not_false))));(repeat'(first|refine G fun K J=>?_|refine uR Z ?_|refine uT Z ?_|(refine O J ?_;clear J)|apply zI));exact⟨bad 2 _ (.inl rfl) hinv,hg2⟩
     |true=>
      rw[q3]at hinv hcw;simp only[cond_true]at hinv;have hc:=fun h:Heap=>dterm_c (h:=h) hte;generalize termB te=b at hc hinv;cases b with
      |false=>
       simp only[cond_false]at hinv;replace Z:=U g1 (U g22 (U g23 (U g24 (U g5 (U hd hr)))));(repeat'(first|refine G fun K J=>?_|refine uR Z ?_|refine uK ?_|refine uC1 Z ?_|(refine O J ?_;clear J)|apply zI));replace Z:=U g1 (U g22 (U g23 (U g24 (U g5 hr))));refine uU Z (hcw _) ?_;replace Z:=U g1 (U g22 (U g23 (U g24 (U g5 @Bool.not_true))));(repeat'(first|refine G fun K J=>?_|refine uR Z ?_|refine uK ?_|refine uC1 Z ?_|(refine O J ?_;clear J)|apply zI));replace Z:=U g1 (U g22 (U g23 (U g24 g5)));refine uU Z (hc _) ?_;replace Z:=U g1 (U g22 (U g23 (U g24 (U g5 @Bool.not_false))));(repeat'(first|refine G fun K J=>?_|refine uR Z ?_|refine uT Z ?_|(refine O J ?_;clear J)|apply zI));exact⟨bad 8 _ (.inr rfl) hinv,hg2⟩
      |true=>
       simp only[cond_true]at hinv;obtain⟨H,t1,t2,t3,t4,t5⟩:=tl2.tail;have hpr:(strRows pre).length=k:=(by rw[strRows_len];exact hpl);have hb:(k+1)*16≤140737488355328:=(by omega);replace Z:=U g1 (U g22 (U g23 (U g24 (U g5 (U hd hr)))));(repeat'(first|refine G fun K J=>?_|refine uR Z ?_|refine uK ?_|refine uC1 Z ?_|(refine O J ?_;clear J)|apply zI));replace Z:=U g1 (U g22 (U g23 (U g24 (U g5 hr))));refine uU Z (hcw _) ?_;replace Z:=U g1 (U g22 (U g23 (U g24 (U g5 @Bool.not_true))));(repeat'(first|refine G fun K J=>?_|refine uR Z ?_|refine uK ?_|refine uC1 Z ?_|(refine O J ?_;clear J)|apply zI));replace Z:=U g1 (U g22 (U g23 (U g24 g5)));refine uU Z (hc _) ?_;replace Z:=U g1 (U g22 (U g23 (U g24 (U g5 (U w7 (U @Bool.not_true (U t1 (U t2 (U hpr hb)))))))));(repeat'(first|refine uR Z ?_|refine uQ Z fun K J=>?_|refine uK ?_|refine uC1 Z ?_|(refine O J ?_;clear J)|(rw[if_pos];rotate_left 1;omega;simp(maxSteps:=2000000) only[Ty.w,simprocAttr,g1,g22,g23,g24,g5,w7,Bool.not_true,t1,t2,hpr,hb])|apply zI));have t3':H.next=h'.next+1:=by rw[t3];simp[Heap.new,Heap.set]
       have hkp:=t5 h ⟨hg2.le,hg2.old⟩ (Nat.le_refl _);have hgH:Grow h H:=⟨hkp.1,hkp.2⟩;have hap:strRows pre++[[PV.sc (.string te)]]=strRows (pre++[te]):=(by simp[strRows]);rw[hap];refine⟨l.length-(k+1),by omega,k+1,.own H.next 0 (k+1),pre++[te],by simp,by rw[t3'],by omega,rfl,hgH.new _,by simp[hpl],Tl.grow hkp.1 (by rw[strRows_len];simp[hpl]),?_⟩;rw[hinv];generalize termsM (List.drop (k+1) l)=W;obtain⟨t,c⟩:=W;cases hq:c==0 with
       |false=>simp only[hq,cond_false]
       |true=>simp only[hq,cond_true,beq_self_eq_true,List.append_assoc,List.cons_append,List.nil_append]
    ·have hd:decide ((k:Int)<(l.length:Int))=false:=(by simp;omega);rw[List.drop_eq_nil_of_le (by omega)]at hinv;simp only[termsM,beq_self_eq_true,cond_true,List.append_nil]at hinv;replace Z:=U g1 (U g22 (U g23 (U g24 (U g5 (U hd (U r0 q0))))));(repeat'(first|refine G fun K J=>?_|refine uR Z ?_|refine uT Z ?_|refine uX ?_|refine uC1 Z ?_|(refine O J ?_;clear J)|(clear J;refine O J ?_;clear J)|apply zI));subst hinv;refine⟨?_,hg⟩;have h1:=tl_frzS tl;have e2:errP 0= .sc .nilIface:=rfl;simp only[atomV,e2];unfold FrzTo;refine⟨_,rfl,?_⟩;unfold FrzL;refine⟨by simp only[FrzTo],?_⟩;unfold FrzL;refine⟨h1,?_⟩;unfold FrzL;exact⟨by simp only[FrzTo],by simp only[FrzL]⟩
end Go.Proofs.YtblgchkahpgdjaaGreat
namespace Go.AM
section
variable {P:Program}{f:FuncId}{z:Nat}{h:Heap}{K:PV→Heap→Prop}
theorem RepL.nil_split{β:Env}{n:Nat}{F:Nat→Prop}{w:World}{z:Nat}: ∀ {pre post:List PV}{vals:List Value},RepL β n F w (pre++ .imm z []::post) vals→ ∃ a cap,RepL β n F w (pre++ .sc (.slice a 0 cap)::post) vals
 |[],post,[],h=>by simp[RepL]at h
 |[],post,v::vals,h=>by
  simp only[List.nil_append,RepL,Rep]at h⊢;obtain⟨⟨a,cap,hv,_⟩,h2⟩:=h;exact⟨a,cap,by simpa using hv,h2⟩
 |p::pre,post,[],h=>by simp[RepL]at h
 |p::pre,post,v::vals,h=>by
  simp only[List.cons_append,RepL]at h⊢;obtain⟨a,cap,hx⟩:=RepL.nil_split h.2;exact⟨a,cap,h.1,hx⟩
theorem PCall.nil_split{pre post:List PV}(h0: ∀ a cap,PCall P f (pre++ .sc (.slice a 0 cap)::post) h K):PCall P f (pre++ .imm z []::post) h K:=by
 intro β w vals sm hr;obtain⟨a,cap,hx⟩:=RepL.nil_split hr;exact h0 a cap β w vals sm hx
theorem PCall.nil1(h0: ∀ a cap,PCall P f [.sc (.slice a 0 cap)] h K):PCall P f [.imm z []] h K:=PCall.nil_split (pre:=[]) (post:=[]) h0
theorem peq_none(c:Bool)(cap:Nat):peq 5 c (.sc (.slice none 0 cap)) (.sc (.slice none 0 0))=some true:=rfl
theorem peq_some(c:Bool)(x:Addr)(cap:Nat):peq 5 c (.sc (.slice (some x) 0 cap)) (.sc (.slice none 0 0))=some false:=rfl
theorem view_some(h:Heap)(x:Option Addr)(cap:Nat):view h (.sc (.slice x 0 cap))=some []:=by
 unfold view;split<;>first|rfl|(simp_all;done)|(simp_all)
theorem zOk_some(h:Heap)(z:Nat)(x:Option Addr)(cap:Nat):zOk h z (.sc (.slice x 0 cap))=true:=by
 unfold zOk;split<;>first|rfl|(simp_all;done)|(simp_all)
end
end Go.AM
namespace Go.Proofs.YtblgchkahpgdjaaGreat
open Go.AM
set_option maxHeartbeats 4000000
set_option maxRecDepth 20000
theorem textOf_okQ{x:Sx}(h:x.ok):(textOf x).size≤bigN:=by
 obtain⟨_,_,_,_,t,_⟩:=x;simp only[Sx.ok]at h;exact h.2.2.1
theorem pms_in(n:Nat)(l:List Pm):inNR n (pmRows l):=by
 induction l with
 |nil=>simp only[pmRows,List.map_nil,inNR]
 |cons a l ih=>simp only[pmRows,List.map_cons,inNR,pmRow,inNL,inN,and_true,true_and]at ih⊢;exact ih
theorem exs_in(n:Nat): ∀ l:List Ex,inNR n (Ex.rows l)
 |[]=>by simp only[Ex.rows,inNR]
 |k::ks=>by simp only[Ex.rows,inNR];exact⟨ex_in n k,exs_in n ks⟩
theorem fm_in(n:Nat): ∀ f:Fm,inNL n f.cells:=by
 refine Fm.ind ?_;intro op name args params exprs kids ih;have:inNR n (Fm.rows kids):=by
  try clear Z
  clear op name args params exprs
  induction kids with
  |nil=>simp only[Fm.rows,inNR]
  |cons k ks ih2=>
   simp only[Fm.rows,inNR];exact⟨ih k (by simp),ih2 fun q hq=>ih q (by simp[hq])⟩
 simp only[Fm.cells,inNL,inN,and_true,true_and];exact⟨strs_in n args,pms_in n params,exs_in n exprs,this⟩
theorem fms_in(n:Nat): ∀ l:List Fm,inNR n (Fm.rows l)
 |[]=>by simp only[Fm.rows,inNR]
 |k::ks=>by simp only[Fm.rows,inNR];exact⟨fm_in n k,fms_in n ks⟩
theorem fm_frz(n:Nat)(h:Heap)(f:Fm):FrzL n h f.cells f.cells:=by
 have hi:=fm_in n f;obtain⟨op,name,args,params,exprs,kids⟩:=f;simp only[Fm.cells,inNL,inN,and_true,true_and]at hi;simp only[Fm.cells,FrzL,FrzTo,and_true,true_and];exact⟨.inl hi.1,.inl hi.2.1,.inl hi.2.2.1,.inl hi.2.2.2⟩
theorem fms_frz(n:Nat)(h:Heap): ∀ l:List Fm,FrzR n h (Fm.rows l) (Fm.rows l)
 |[]=>by simp only[Fm.rows,FrzR]
 |k::ks=>by simp only[Fm.rows,FrzR];exact⟨fm_frz n h k,fms_frz n h ks⟩
theorem tl_frzF{h:Heap}{id0 n:Nat}{p:PV}{l:List Fm}(hn:n≤id0)(t:Tl h id0 6 p (Fm.rows l)):FrzTo n h (.imm 6 (Fm.rows l)) p:=by
 simp only[FrzTo];rcases t with⟨h1,h2⟩|⟨id,h1,h2,rfl,ho⟩
 ·exact .inr (.inl ⟨h1,h2.symm⟩)
 ·refine .inr (.inr ⟨id,0,_,_,rfl,by omega,ho,by omega,?_⟩);rw[List.drop_zero,List.take_of_length_le (by omega)];exact fms_frz _ _ _
theorem fmPs_nil: ∀ l:List Sx,((fmPs l).2==0)=false→(fmPs l).1=[]
 |[],h=>by simp[fmPs]at h
 |x::l,h=>by
  simp only[fmPs]at h⊢;cases hq:(fmP x).2==0 with
  |false=>simp only[cond_false]
  |true=>
   rw[hq]at h;simp only[cond_true]at h⊢;cases hr:(fmPs l).2==0 with
   |false=>simp only[cond_false]
   |true=>rw[hr]at h;simp at h
theorem kids_c{l:List Sx}(hl:l.length≤1048576)(hf: ∀ x∈l, ∀ h:Heap,PCall Tryz.prog 169 [.agg x.cells] h fun r h'=>r= .tup [.agg (fmP x).1.cells,errP (fmP x).2]∧h'=h)(h:Heap):
  PCall Tryz.prog 182 [.imm 6 (Sx.rows l)] h fun r h'=>r= .tup [.imm 6 (Fm.rows (fmPs l).1),errP (fmPs l).2]∧h'=h:=by
 refine PCall.frz Ty.hb_182 ?_;have hll:=Sx.rows_len l;refine uG0 Tryz.func182 Tryz.ntmps182 Tryz.results182 Ty.hb_182 ?_;repeat'(first|refine G fun K J=>?_|refine a_block ?_|refine uR hll ?_|(refine O J ?_;clear J)|apply zI)
 refine a_loop (fun m S h'=>S 9= .imm 6 (Sx.rows l)∧S 10= .sc (.int .i64 l.length)∧ ∃ (k:Nat)(o:PV)(pre:List Fm),S 11= .sc (.int .i64 k)∧S 4=o∧k≤l.length∧m=l.length-k∧Grow h h'∧pre.length=k∧Tl h' h.next 6 o (Fm.rows pre)∧
  fmPs l=(bif (fmPs (l.drop k)).2==0 then(pre++(fmPs (l.drop k)).1,0)else([],(fmPs (l.drop k)).2))) l.length ?_ ?_
 ·simp only[Ty.w,simprocAttr];refine⟨0,_,[],rfl,rfl,by omega,rfl,Grow.refl _,rfl,Tl.nil,?_⟩;rw[List.drop_zero];cases hq:(fmPs l).2==0
  ·simp only[cond_false];rw[← fmPs_nil l hq]
  ·have h0:(fmPs l).2=0:=(by simpa using hq);simp only[cond_true,List.nil_append];rw[← h0]
 ·rintro m S h' ⟨g9,g10,k,o,pre,g11,g4,hk,rfl,hg,hpl,tl,hinv⟩;by_cases hlt:k<l.length
  ·have hd:decide ((k:Int)<(l.length:Int))=true:=(by simp;omega);have w7:IntKind.i64.wrap ((k:Int)+1)=k+1:=(by rw[wrap64 (by omega) (by omega)]);obtain⟨x,hx⟩: ∃ x,l[k]? =some x:=⟨_,List.getElem?_eq_getElem hlt⟩;have hr:=Sx.rows_get hx;have hc:=hf x (List.mem_of_getElem? hx);rw[drop_of_get hx]at hinv;simp only[fmPs]at hinv;generalize hE:fmP x=E at hc hinv;obtain⟨f,c⟩:=E;simp only at hc hinv;(try clear Z);clear hE hf;obtain⟨ki,va,li,co,te,ks⟩:=x;simp only[Sx.cells]at hr hc;have n3:(h'.next=h'.next+1)=False:=(by simp);cases hcc:c==0 with
   |false=>
    rw[hcc]at hinv;simp only[cond_false]at hinv;have e0:errP c=errV c:=(by simp only[errP,hcc,cond_false]);rw[e0]at hc;simp only[errV]at hc;have hq:fmPs l=([],c):=(by rw[hinv];simp only[hcc,cond_false]);rw[hq];obtain⟨fop,fna,far,fpa,fex,fki⟩:=f;simp only[Fm.cells]at hc;replace Z:=U g9 (U g10 (U g11 (U g4 (U hd hr))));(repeat'(first|refine G fun K J=>?_|refine uR Z ?_|refine uK ?_|refine uC1 Z ?_|(refine O J ?_;clear J)|apply zI));refine uU Z (hc _) ?_;replace Z:=U g9 (U g10 (U g11 (U g4 (U hd (U hr (U n3 @nsucc))))));(repeat'(first|refine G fun K J=>?_|refine uR Z ?_|refine uT Z ?_|(refine O J ?_;clear J)|apply zI));rw[e0];refine⟨?_,(((hg.new _).set hg.le _).new _).set (show h.next≤h'.next+1 by have:=hg.le;omega) _⟩;simp only[errV,Fm.rows,FrzTo,FrzL];exact⟨_,rfl,.inr (.inl ⟨rfl,.inr rfl⟩),rfl,trivial⟩
   |true=>
    have e0:errP c= .sc .nilIface:=(by simp only[errP,hcc,cond_true]);rw[e0]at hc;have hto:=tl_one tl;have hrows:Fm.rows (pre++[f])=Fm.rows pre++[f.cells]:=(by simp only[Fm.rows_map,List.map_append,List.map_cons,List.map_nil]);obtain⟨fop,fna,far,fpa,fex,fki⟩:=f;simp only[Fm.cells]at hc hrows;generalize hH2:((((h'.new (.arr 6 [[.sc (.int .i64 0),.sc (.int .i64 0),.sc (.int .i64 0),.sc (.int .i64 0),.sc (.string ⟨#[]⟩),.sc (.slice none 0 0)]])).set h'.next (.arr 6 [[.sc (.int .i64 ki),.sc (.int .i64 va),.sc (.int .i64 li),.sc (.int .i64 co),sPV te,.imm 6 (Sx.rows ks)]])).new (.arr 6 [[.sc (.string ⟨#[]⟩),.sc (.string ⟨#[]⟩),.sc (.slice none 0 0),.sc (.slice none 0 0),.sc (.slice none 0 0),.sc (.slice none 0 0)]])).set (h'.next+1) (.arr 6 [[sPV fop,sPV fna,.imm 1 (strRows far),.imm 2 (pmRows fpa),.imm 5 (Ex.rows fex),.imm 6 (Fm.rows fki)]]))=H2;have hnn:H2.next=h'.next+1+1:=by rw[← hH2];simp[Heap.new,Heap.set]
    have hold: ∀ j,j<h'.next→H2.obj j=h'.obj j:=fun j hj=>by
     have a1:¬ j=h'.next:=by omega
     have a2:¬ j=h'.next+1:=by omega
     rw[← hH2];simp only[Heap.new,Heap.set,a1,a2,if_false]
    have tl2:=tl.up (h':=H2) (by omega) (fun j _ hj=>hold j hj);have hg2:Grow h H2:=(by rw[← hH2];exact(((hg.new _).set hg.le _).new _).set (show h.next≤h'.next+1 by have:=hg.le;omega) _);obtain⟨H,t1,t2,t3,t4,t5⟩:=tl2.tail;have hkp:=t5 h ⟨hg2.le,hg2.old⟩ (Nat.le_refl _);have hgH:Grow h H:=⟨hkp.1,hkp.2⟩;have hpr:(Fm.rows pre).length=k:=(by rw[Fm.rows_len];exact hpl);have hb:(k+1)*128≤140737488355328:=(by omega);have hob:H2.obj (h'.next+1)=some (.arr 6 [[sPV fop,sPV fna,.imm 1 (strRows far),.imm 2 (pmRows fpa),.imm 5 (Ex.rows fex),.imm 6 (Fm.rows fki)]]):=(by rw[← hH2];simp[Heap.set]);replace Z:=U g9 (U g10 (U g11 (U g4 (U hd hr))));(repeat'(first|refine G fun K J=>?_|refine uR Z ?_|refine uK ?_|refine uC1 Z ?_|(refine O J ?_;clear J)|apply zI));refine uU Z (hc _) ?_;replace Z:=U g9 (U g10 (U g11 (U g4 (U n3 (U @nsucc (U hH2 (U hob (U t1 (U t2 (U hpr (U hb w7)))))))))));(repeat'(first|refine G fun K J=>?_|refine uR Z ?_|refine uQ Z fun K J=>?_|refine uK ?_|refine uC1 Z ?_|(refine O J ?_;clear J)|(rw[if_pos];rotate_left 1;omega;simp(maxSteps:=2000000) only[Ty.w,simprocAttr,g9,g10,g11,g4,n3,nsucc,hH2,hob,t1,t2,hpr,hb,w7])|apply zI));rw[← hrows];have hgr:=Tl.grow (H:=H) (id0:=h.next) (z:=6) (len:=k+1) (rows:=Fm.rows (pre++[Fm.mk fop fna far fpa fex fki])) hkp.1 (by rw[Fm.rows_len];simp[hpl]);refine⟨l.length-(k+1),by omega,k+1,.own H.next 0 (k+1),pre++[Fm.mk fop fna far fpa fex fki],by simp,by rw[t3,hnn],by omega,rfl,hgH.new _,by simp[hpl],hgr,?_⟩;rw[hinv,hcc];simp only[cond_true];cases hq:(fmPs (List.drop (k+1) l)).2==0 with
    |false=>simp only[hq,cond_false]
    |true=>simp only[cond_true,beq_self_eq_true,List.append_assoc,List.cons_append,List.nil_append]
  ·have hd:decide ((k:Int)<(l.length:Int))=false:=(by simp;omega);rw[List.drop_eq_nil_of_le (by omega)]at hinv;have hq:fmPs l=(pre,0):=(by rw[hinv];simp[fmPs]);replace Z:=U g9 (U g10 (U g11 (U g4 hd)));(repeat'(first|refine G fun K J=>?_|refine uR Z ?_|refine uT Z ?_|refine uX ?_|refine uC1 Z ?_|(refine O J ?_;clear J)|(clear J;refine O J ?_;clear J)|apply zI));have e2:errP 0= .sc .nilIface:=rfl;rw[hq];simp only[e2];refine⟨?_,hg⟩;have h1:=tl_frzF (Nat.le_refl _) tl;unfold FrzTo;refine⟨_,rfl,?_⟩;unfold FrzL;refine⟨h1,?_⟩;unfold FrzL;exact⟨by simp only[FrzTo],by simp only[FrzL]⟩
theorem compare_c{w:ByteArray}{x y:Sx}(hx:x.ok)(hy:y.ok)
  (cx: ∀ h:Heap,PCall Tryz.prog 168 [.agg x.cells] h fun r h'=>r= .tup [.agg (exprP x).1.cells,errP (exprP x).2]∧h'=h)
  (cy: ∀ h:Heap,PCall Tryz.prog 168 [.agg y.cells] h fun r h'=>r= .tup [.agg (exprP y).1.cells,errP (exprP y).2]∧h'=h)(h:Heap):
  PCall Tryz.prog 183 [sPV w,.agg x.cells,.agg y.cells] h fun r h'=>r= .tup [.agg (compareP w x y).1.cells,errP (compareP w x y).2]∧h'=h:=by
 refine PCall.frz Ty.hb_183 ?_;have ht:=fun h:Heap=>terms_c (l:=[x,y]) (by simp) (by simp[hx,hy]) h;generalize hF:compareP w x y=F;unfold compareP at hF;have hti:=strs_in;generalize termsM [x,y]=T at ht hF;obtain⟨t,c⟩:=T;have hi1:=ex_in;generalize exprP x=X at cx hF;obtain⟨ex,c1⟩:=X;generalize exprP y=Y at cy hF;obtain⟨ey,c2⟩:=Y;obtain⟨kx,vx,lx,ox,tx,sx⟩:=x;obtain⟨ky,vy,ly,oy,ty,sy⟩:=y;obtain⟨aop,ana,an,aar,aki⟩:=ex;obtain⟨bop,bna,bn,bar,bki⟩:=ey;simp only[kindOf]at hF;simp only[Sx.rows,Sx.cells,Ex.cells]at ht cx cy⊢;have hgr: ∀ r,Grow h ((h.new (.arr 6 [[.sc (.string ⟨#[]⟩),.sc (.string ⟨#[]⟩),.sc (.slice none 0 0),.sc (.slice none 0 0),.sc (.slice none 0 0),.sc (.slice none 0 0)]])).set h.next r):=fun r=>((Grow.refl h).new _).set (Nat.le_refl _) _;refine uG0 Tryz.func183 Tryz.ntmps183 Tryz.results183 Ty.hb_183 ?_;repeat'(first|with_reducible refine a_hold 1 ?_|refine G fun K J=>?_|refine uR trivial ?_|(refine O J ?_;clear J)|apply zI)
 refine⟨?_⟩;refine a_cut (fun S h'=>S 0=sPV w∧S 4= .cptr (Sx.mk kx vx lx ox tx sx).cells∧S 5= .cptr (Sx.mk ky vy ly oy ty sy).cells∧S 6= .ptr h.next 0 0∧h'=h.new (.arr 6 [[.sc (.string ⟨#[]⟩),.sc (.string ⟨#[]⟩),.sc (.slice none 0 0),.sc (.slice none 0 0),.sc (.slice none 0 0),.sc (.slice none 0 0)]])∧(bEq w opEq&&kx==1&&ky==1)=false) ?_ ?_
 ·try clear Z
  clear cx cy;simp only[Sx.cells];cases q1:(w.data.toList==(#[61]:Array UInt8).toList)with
  |false=>
   have q1':bEq w opEq=false:=q1;(repeat'(first|refine G fun K J=>?_|refine uR q1 ?_|refine uK ?_|refine uC1 q1 ?_|(refine O J ?_;clear J)|apply zI));all_goals first|rfl|(simp only[Ty.w,simprocAttr,q1',Bool.false_and];done)
  |true=>
   have q1':bEq w opEq=true:=q1;cases q2:(kx==1)with
   |false=>
    replace Z:=U q1 q2;(repeat'(first|refine G fun K J=>?_|refine uR Z ?_|refine uK ?_|refine uC1 Z ?_|(refine O J ?_;clear J)|apply zI));all_goals first|rfl|(simp only[Ty.w,simprocAttr,q1',q2,Bool.false_and,Bool.true_and];done)
   |true=>
    cases q3:(ky==1)with
    |false=>
     replace Z:=U q1 (U q2 q3);(repeat'(first|refine G fun K J=>?_|refine uR Z ?_|refine uK ?_|refine uC1 Z ?_|(refine O J ?_;clear J)|apply zI));all_goals first|rfl|(simp only[Ty.w,simprocAttr,q1',q2,q3,Bool.true_and];done)
    |true=>
     rw[q1',q2,q3]at hF;simp only[Bool.and_true,cond_true]at hF;subst hF;cases hc:c==0 with
     |true=>
      have e0:errP c= .sc .nilIface:=(by simp only[errP,hc,cond_true]);rw[e0]at ht⊢;(repeat'(first|refine G fun K J=>?_|refine uR (U q1 (U q2 q3)) ?_|(refine O J ?_;clear J)|apply zI));refine uU (U q1 (U q2 q3)) (ht _) ?_;(repeat'(first|refine G fun K J=>?_|refine uR trivial ?_|refine uT trivial ?_|(refine O J ?_;clear J)|apply zI));refine⟨?_,hgr _⟩;simp only[opSame,Fm.cells,Ex.rows,Fm.rows,pmRows,List.map_nil,FrzTo,FrzL];exact⟨_,rfl,⟨_,rfl,rfl,rfl,.inl ⟨rfl,hti _ _⟩,.inr (.inl ⟨rfl,.inr rfl⟩),.inr (.inl ⟨rfl,.inr rfl⟩),.inr (.inl ⟨rfl,.inr rfl⟩),trivial⟩,rfl,trivial⟩
     |false=>
      have e0:errP c=errV c:=(by simp only[errP,hc,cond_false]);rw[e0]at ht⊢;simp only[errV]at ht⊢;(repeat'(first|refine G fun K J=>?_|refine uR (U q1 (U q2 q3)) ?_|(refine O J ?_;clear J)|apply zI));refine uU (U q1 (U q2 q3)) (ht _) ?_;(repeat'(first|refine G fun K J=>?_|refine uR trivial ?_|refine uT trivial ?_|(refine O J ?_;clear J)|apply zI));refine⟨?_,hgr _⟩;simp only[opSame,Fm.cells,Ex.rows,Fm.rows,pmRows,List.map_nil,FrzTo,FrzL];exact⟨_,rfl,⟨_,rfl,rfl,rfl,.inl ⟨rfl,hti _ _⟩,.inr (.inl ⟨rfl,.inr rfl⟩),.inr (.inl ⟨rfl,.inr rfl⟩),.inr (.inl ⟨rfl,.inr rfl⟩),trivial⟩,rfl,trivial⟩
 ·rintro S h' ⟨g0,g4,g5,g6,rfl,hq⟩;rw[hq]at hF;try clear Z
  clear ht hq;simp only[cond_false]at hF;simp only[Sx.cells]at g4 g5;have n1:(h.next=h.next+1)=False:=by simp
  have n2:(h.next=h.next+1+1)=False:=by simp;omega
  have n3:(h.next+1=h.next+1+1)=False:=by simp
  have hgr2: ∀ o1 o2 r,Grow h ((((h.new (.arr 6 [[.sc (.string ⟨#[]⟩),.sc (.string ⟨#[]⟩),.sc (.slice none 0 0),.sc (.slice none 0 0),.sc (.slice none 0 0),.sc (.slice none 0 0)]])).new o1).set (h.next+1) o2).set h.next r):=fun o1 o2 r=>((((Grow.refl h).new _).new _).set (Nat.le_succ _) _).set (Nat.le_refl _) _;have hgr3: ∀ o1 o2 o3 o4 r,Grow h ((((((h.new (.arr 6 [[.sc (.string ⟨#[]⟩),.sc (.string ⟨#[]⟩),.sc (.slice none 0 0),.sc (.slice none 0 0),.sc (.slice none 0 0),.sc (.slice none 0 0)]])).new o1).set (h.next+1) o2).new o3).set (h.next+1+1) o4).set h.next r):=fun o1 o2 o3 o4 r=>((((((Grow.refl h).new _).new _).set (Nat.le_succ _) _).new _).set (by omega) _).set (Nat.le_refl _) _;cases hc1:c1==0 with
  |false=>
   rw[hc1]at hF;simp only[cond_false]at hF;subst hF;have e0:errP c1=errV c1:=(by simp only[errP,hc1,cond_false]);rw[e0]at cx⊢;simp only[errV]at cx⊢;replace Z:=U g0 (U g4 (U g5 g6));(repeat'(first|refine G fun K J=>?_|refine uR Z ?_|apply zI));refine uU Z (cx _) ?_;replace Z:=U g0 (U g4 (U g5 (U g6 (U n1 @nsucc))));(repeat'(first|refine G fun K J=>?_|refine uR Z ?_|refine uT Z ?_|(refine O J ?_;clear J)|apply zI));refine⟨?_,hgr2 _ _ _⟩;simp only[zeroFm,Fm.cells,Ex.rows,Fm.rows,pmRows,strRows,List.map_nil,FrzTo,FrzL];exact⟨_,rfl,⟨_,rfl,rfl,rfl,.inr (.inl ⟨rfl,.inr rfl⟩),.inr (.inl ⟨rfl,.inr rfl⟩),.inr (.inl ⟨rfl,.inr rfl⟩),.inr (.inl ⟨rfl,.inr rfl⟩),trivial⟩,rfl,trivial⟩
  |true=>
   rw[hc1]at hF;simp only[cond_true]at hF;have e0:errP c1= .sc .nilIface:=(by simp only[errP,hc1,cond_true]);rw[e0]at cx;cases hc2:c2==0 with
   |false=>
    rw[hc2]at hF;simp only[cond_false]at hF;subst hF;have e1:errP c2=errV c2:=(by simp only[errP,hc2,cond_false]);rw[e1]at cy⊢;simp only[errV]at cy⊢;replace Z:=U g0 (U g4 (U g5 g6));(repeat'(first|refine G fun K J=>?_|refine uR Z ?_|apply zI));refine uU Z (cx _) ?_;replace Z:=U g0 (U g4 (U g5 (U g6 (U n1 @nsucc))));(repeat'(first|refine G fun K J=>?_|refine uR Z ?_|refine uK ?_|refine uC1 Z ?_|(refine O J ?_;clear J)|apply zI));replace Z:=U g0 (U g4 (U g5 g6));refine uU Z (cy _) ?_;replace Z:=U g0 (U g4 (U g5 (U g6 (U n1 (U n2 (U n3 @nsucc))))));(repeat'(first|refine G fun K J=>?_|refine uR Z ?_|refine uT Z ?_|(refine O J ?_;clear J)|apply zI));refine⟨?_,hgr3 _ _ _ _ _⟩;simp only[zeroFm,Fm.cells,Ex.rows,Fm.rows,pmRows,strRows,List.map_nil,FrzTo,FrzL];exact⟨_,rfl,⟨_,rfl,rfl,rfl,.inr (.inl ⟨rfl,.inr rfl⟩),.inr (.inl ⟨rfl,.inr rfl⟩),.inr (.inl ⟨rfl,.inr rfl⟩),.inr (.inl ⟨rfl,.inr rfl⟩),trivial⟩,rfl,trivial⟩
   |true=>
    rw[hc2]at hF;simp only[cond_true]at hF;have e1:errP c2= .sc .nilIface:=(by simp only[errP,hc2,cond_true]);rw[e1]at cy;have e2:errP 0= .sc .nilIface:=rfl;cases p1:(w.data.toList==(#[62]:Array UInt8).toList)with
    |true=>
     rw[if_pos (show bEq w opGt=true from p1)]at hF;subst hF;replace Z:=U g0 (U g4 (U g5 g6));(repeat'(first|refine G fun K J=>?_|refine uR Z ?_|apply zI));refine uU Z (cx _) ?_;replace Z:=U g0 (U g4 (U g5 (U g6 (U n1 @nsucc))));(repeat'(first|refine G fun K J=>?_|refine uR Z ?_|refine uK ?_|refine uC1 Z ?_|(refine O J ?_;clear J)|apply zI));replace Z:=U g0 (U g4 (U g5 g6));refine uU Z (cy _) ?_;replace Z:=U g0 (U g4 (U g5 (U g6 (U n1 (U n2 (U n3 (U @nsucc p1)))))));(repeat'(first|refine G fun K J=>?_|refine uR Z ?_|refine uT Z ?_|refine uK ?_|refine uC1 Z ?_|(refine O J ?_;clear J)|apply zI));refine⟨?_,hgr3 _ _ _ _ _⟩;simp only[e2,opLt,Fm.cells,Ex.cells,Ex.rows,Fm.rows,pmRows,strRows,List.map_nil,FrzTo,FrzL];exact⟨_,rfl,⟨_,rfl,rfl,rfl,.inr (.inl ⟨rfl,.inr rfl⟩),.inr (.inl ⟨rfl,.inr rfl⟩),.inl ⟨rfl,exs_in _ [.mk bop bna bn bar bki,.mk aop ana an aar aki]⟩,.inr (.inl ⟨rfl,.inr rfl⟩),trivial⟩,rfl,trivial⟩
    |false=>
     rw[if_neg (show ¬ bEq w opGt=true by rw[show bEq w opGt=false from p1];simp)]at hF;cases p2:(w.data.toList==(#[62,61]:Array UInt8).toList)with
     |true=>
      rw[if_pos (show bEq w opGe=true from p2)]at hF;subst hF;replace Z:=U g0 (U g4 (U g5 g6));(repeat'(first|refine G fun K J=>?_|refine uR Z ?_|apply zI));refine uU Z (cx _) ?_;replace Z:=U g0 (U g4 (U g5 (U g6 (U n1 @nsucc))));(repeat'(first|refine G fun K J=>?_|refine uR Z ?_|refine uK ?_|refine uC1 Z ?_|(refine O J ?_;clear J)|apply zI));replace Z:=U g0 (U g4 (U g5 g6));refine uU Z (cy _) ?_;replace Z:=U g0 (U g4 (U g5 (U g6 (U n1 (U n2 (U n3 (U @nsucc (U p1 p2))))))));(repeat'(first|refine G fun K J=>?_|refine uR Z ?_|refine uT Z ?_|refine uK ?_|refine uC1 Z ?_|(refine O J ?_;clear J)|apply zI));refine⟨?_,hgr3 _ _ _ _ _⟩;simp only[e2,opLe,Fm.cells,Ex.cells,Ex.rows,Fm.rows,pmRows,strRows,List.map_nil,FrzTo,FrzL];exact⟨_,rfl,⟨_,rfl,rfl,rfl,.inr (.inl ⟨rfl,.inr rfl⟩),.inr (.inl ⟨rfl,.inr rfl⟩),.inl ⟨rfl,exs_in _ [.mk bop bna bn bar bki,.mk aop ana an aar aki]⟩,.inr (.inl ⟨rfl,.inr rfl⟩),trivial⟩,rfl,trivial⟩
     |false=>
      rw[if_neg (show ¬ bEq w opGe=true by rw[show bEq w opGe=false from p2];simp)]at hF;subst hF;replace Z:=U g0 (U g4 (U g5 g6));(repeat'(first|refine G fun K J=>?_|refine uR Z ?_|apply zI));refine uU Z (cx _) ?_;replace Z:=U g0 (U g4 (U g5 (U g6 (U n1 @nsucc))));(repeat'(first|refine G fun K J=>?_|refine uR Z ?_|refine uK ?_|refine uC1 Z ?_|(refine O J ?_;clear J)|apply zI));replace Z:=U g0 (U g4 (U g5 g6));refine uU Z (cy _) ?_;replace Z:=U g0 (U g4 (U g5 (U g6 (U n1 (U n2 (U n3 (U @nsucc (U p1 p2))))))));(repeat'(first|refine G fun K J=>?_|refine a_block ?_|refine uR Z ?_|refine uT Z ?_|refine uK ?_|refine uC1 Z ?_|(refine O J ?_;clear J)|apply zI));refine⟨?_,hgr3 _ _ _ _ _⟩;simp only[e2,Fm.cells,Ex.cells,Ex.rows,Fm.rows,pmRows,strRows,List.map_nil,FrzTo,FrzL];exact⟨_,rfl,⟨_,rfl,rfl,rfl,.inr (.inl ⟨rfl,.inr rfl⟩),.inr (.inl ⟨rfl,.inr rfl⟩),.inl ⟨rfl,exs_in _ [.mk aop ana an aar aki,.mk bop bna bn bar bki]⟩,.inr (.inl ⟨rfl,.inr rfl⟩),trivial⟩,rfl,trivial⟩
theorem pms_step{don:List Pm}{pen:List ByteArray}{t s:ByteArray}{j:Nat}(hj:pen[j]? =some s):
  (pmRows (don++pmsOf t (pen.take j)++pmsOf opObj (pen.drop j)))[don.length+j]? =some [sPV s,sPV opObj]∧
  (pmRows (don++pmsOf t (pen.take j)++pmsOf opObj (pen.drop j))).set (don.length+j) [sPV s,sPV t]=pmRows (don++pmsOf t (pen.take (j+1))++pmsOf opObj (pen.drop (j+1))):=by
 have hjl:j<pen.length:=(List.getElem?_eq_some_iff.1 hj).1;have hA:(pmRows (don++pmsOf t (pen.take j))).length=don.length+j:=by simp[pmRows,pmsOf];omega
 have e1:pmRows (don++pmsOf t (pen.take j)++pmsOf opObj (pen.drop j))=pmRows (don++pmsOf t (pen.take j))++([sPV s,sPV opObj]::pmRows (pmsOf opObj (pen.drop (j+1)))):=by
  rw[drop_of_get hj];simp[pmRows,pmsOf,pmRow]
 have e2:pmRows (don++pmsOf t (pen.take (j+1))++pmsOf opObj (pen.drop (j+1)))=pmRows (don++pmsOf t (pen.take j))++([sPV s,sPV t]::pmRows (pmsOf opObj (pen.drop (j+1)))):=by
  rw[List.take_add_one,hj];simp[pmRows,pmsOf,pmRow]
 rw[e1,e2];constructor
 ·rw [List.getElem?_append_right (by omega),hA];simp
 ·rw [List.set_append_right _ _ (by omega),hA];simp
theorem paramsL_cons(vars:Bool)(x:Sx)(l:List Sx)(don:List Pm)(pen:List ByteArray):paramsL vars (x::l) don pen=(bif isWrd x then
   (bif bEq (textOf x) opMin then (match l with
    |[]=>([],2)
    |t::l'=>bif !pen.isEmpty&&isWrd t then(bif typedB (textOf t)then paramsL vars l' (don++pmsOf (textOf t) pen) []else([],8))else([],2))
   else bif (bif vars then varB (textOf x)else nameB (textOf x))then paramsL vars l don (pen++[textOf x])else([],8))
  else([],2)):=by
 cases l<;>(conv=>lhs;unfold paramsL)
theorem a_gen{P:Program}{ow:Nat→Bool}{wf:FuncId→Bool}{n:Nat}{Q:Post}{s:Slots}{h:Heap}{c:Code}(I:Slots→Heap→Prop)(hi:I s h)(hh: ∀ s h,I s h→awp P ow wf n c Q s h):awp P ow wf n c Q s h:=hh _ _ hi
theorem pms_scal(l:List Pm): ∀ r∈pmRows l, ∀ p∈r, ∃ v,p=PV.sc v:=by
 intro r hr p hp;simp only[pmRows,List.mem_map]at hr;obtain⟨x,_,rfl⟩:=hr;simp only[pmRow,List.mem_cons,List.not_mem_nil,or_false]at hp;rcases hp with rfl|rfl
 ·exact ⟨_,rfl⟩
 ·exact ⟨_,rfl⟩
theorem pms_frzP{h:Heap}{id0:Nat}{p:PV}{l:List Pm}(t:Tl h id0 2 p (pmRows l)):FrzTo id0 h (.imm 2 (pmRows l)) p:=t.frz (pms_scal l)
theorem parseParams_c{vars:Bool}{l:List Sx}(hl:l.length≤1048576)(hok: ∀ x∈l,x.ok)(h:Heap):
  PCall Tryz.prog 118 [.imm 6 (Sx.rows l),.sc (.bool vars)] h fun r h'=>r= .tup [.imm 2 (pmRows (paramsP vars l).1),errP (paramsP vars l).2]∧h'=h:=by
 refine PCall.frz Ty.hb_118 ?_;have hll:=Sx.rows_len l;generalize hF:paramsP vars l=F;have bad: ∀ (c:Int)(h':Heap),c=2∨c=8→Grow h h'→F=([],c)→FrzTo h.next h' (.tup [.imm 2 (pmRows F.1),errP F.2]) (.tup [.sc (.slice none 0 0),errV c])∧Grow h h':=by
  intro c h' hc hg hf;subst hf;have:errP c=errV c:=by rcases hc with rfl|rfl<;>rfl
  simp only[this];refine⟨?_,hg⟩;simp only[errV,pmRows,List.map_nil,FrzTo,FrzL];exact⟨_,rfl,.inr (.inl ⟨rfl,.inr rfl⟩),rfl,trivial⟩
 simp only[errV]at bad;refine uG0 Tryz.func118 Tryz.ntmps118 Tryz.results118 Ty.hb_118 ?_;repeat'(first|refine G fun K J=>?_|refine a_block ?_|refine uR trivial ?_|(refine O J ?_;clear J)|apply zI)
 refine a_loop (fun m S h'=>S 0= .imm 6 (Sx.rows l)∧S 1= .sc (.bool vars)∧ ∃ (k:Nat)(o:PV)(don:List Pm)(pen:List ByteArray),S 8= .sc (.int .i64 k)∧S 6=o∧S 7= .sc (.int .i64 don.length)∧k≤l.length∧m=l.length-k∧don.length+pen.length≤k∧Grow h h'∧Tl h' h.next 2 o (pmRows (don++pmsOf opObj pen))∧F=paramsL vars (l.drop k) don pen) l.length ?_ ?_
 ·simp only[Ty.w,simprocAttr];exact⟨0,_,[],[],rfl,rfl,rfl,by omega,rfl,by simp,Grow.refl _,Tl.nil,by rw[← hF];try rfl⟩
 ·rintro m S h' ⟨g0,g1,k,o,don,pen,g8,g6,g7,hk,rfl,hdp,hg,tl,hinv⟩;try clear Z
  clear hF;by_cases hlt:k<l.length
  ·have hd:decide ((k:Int)<(l.length:Int))=true:=(by simp;omega);have w7:IntKind.i64.wrap ((k:Int)+1)=k+1:=(by rw[wrap64 (by omega) (by omega)]);obtain⟨x,hx⟩: ∃ x,l[k]? =some x:=⟨_,List.getElem?_eq_getElem hlt⟩;have hr:=Sx.rows_get hx;have hxk:=hok x (List.mem_of_getElem? hx);have hv:=fun h:Heap=>svalid_c hxk h;have hte:=textOf_okQ hxk;rw[drop_of_get hx]at hinv;simp only[paramsL_cons,isWrd]at hinv;generalize svalid x 0 0=V at hv hinv;obtain⟨vb,vn⟩:=V;obtain⟨ki,va,li,co,te,ks⟩:=x;simp only[kindOf,textOf]at hinv hte;simp only[Sx.cells]at hr hv;have hte':te.size≤9223372036854775807:=(by unfold bigN at hte;omega);cases q1:(ki !=1)with
   |true=>
    rw[show(ki==1)=false by simpa using q1]at hinv;simp only[Bool.false_and,cond_false]at hinv;replace Z:=U g0 (U g1 (U g6 (U g7 (U g8 (U hll (U hd (U hr q1)))))));(repeat'(first|refine G fun K J=>?_|refine uR Z ?_|refine uT Z ?_|refine uK ?_|refine uC1 Z ?_|(refine O J ?_;clear J)|apply zI));exact bad 2 _ (.inl rfl) hg hinv
   |false=>
    rw[show(ki==1)=true by simpa using q1]at hinv;cases vb with
    |false=>
     simp only[Bool.and_false,cond_false]at hinv;replace Z:=U g0 (U g1 (U g6 (U g7 (U g8 (U hll (U hd (U hr q1)))))));(repeat'(first|refine G fun K J=>?_|refine uR Z ?_|refine uK ?_|refine uC1 Z ?_|(refine O J ?_;clear J)|apply zI));replace Z:=U g0 (U g1 (U g6 (U g7 (U g8 (U hll (U hd (U hr (U q1 @Bool.not_false))))))));refine uU Z (hv _) ?_;replace Z:=U g0 (U g1 (U g6 (U g7 (U g8 @Bool.not_false))));(repeat'(first|refine G fun K J=>?_|refine uR Z ?_|refine uT Z ?_|(refine O J ?_;clear J)|apply zI));exact bad 2 _ (.inl rfl) hg hinv
    |true=>
     simp only[Bool.and_self,cond_true]at hinv;replace Z:=U g0 (U g1 (U g6 (U g7 (U g8 (U hll (U hd (U hr q1)))))));(repeat'(first|with_reducible refine a_hold 9 ?_|refine G fun K J=>?_|refine uR Z ?_|refine uK ?_|refine uC1 Z ?_|(refine O J ?_;clear J)|apply zI));replace Z:=U g0 (U g1 (U g6 (U g7 (U g8 (U hll (U hd (U hr (U q1 @Bool.not_true))))))));refine uU Z (hv _) ?_;replace Z:=U g0 (U g1 (U g6 (U g7 (U g8 (U hr @Bool.not_true)))));(repeat'(first|with_reducible refine a_hold 9 ?_|refine G fun K J=>?_|refine uR Z ?_|refine uK ?_|refine uC1 Z ?_|(refine O J ?_;clear J)|apply zI));refine⟨?_⟩;refine a_gen (fun S h2=>S 0= .imm 6 (Sx.rows l)∧S 1= .sc (.bool vars)∧S 6=o∧S 7= .sc (.int .i64 don.length)∧S 8= .sc (.int .i64 k)∧S 9=sPV te∧h2=h') ?_ ?_
     ·simp only[Ty.w,simprocAttr,g0,g1,g6,g7,g8]
     (try clear Z);clear g0 g1 g6 g7 g8 hv hr q1;rintro S h' ⟨g0,g1,g6,g7,g8,g9,rfl⟩;have hrl:(pmRows (don++pmsOf opObj pen)).length=don.length+pen.length:=(by rw[pmRows_len];simp[pmsOf]);obtain⟨n,hn⟩: ∃ n,n=don.length+pen.length:=⟨_,rfl⟩;rw[← hn]at hrl;cases q2:(te.data.toList==(#[45]:Array UInt8).toList)with
     |false=>
      rw[show bEq te opMin=false from q2]at hinv;simp only[cond_false]at hinv;have hap:pmRows (don++pmsOf opObj pen)++[[.sc (.string te),.sc (.string ⟨#[111,98,106,101,99,116]⟩)]]=pmRows (don++pmsOf opObj (pen++[te])):=(by simp[pmRows,pmsOf,pmRow,opObj]);have hb:(n+1)*32≤140737488355328:=(by omega);obtain⟨H,t1,t2,t3,t4,t5⟩:=tl.tail;have hkp:=t5 h ⟨hg.le,hg.old⟩ (Nat.le_refl _);have hgH:Grow h H:=⟨hkp.1,hkp.2⟩;have fin2:Grow h (H.new (.arr 2 (pmRows (don++pmsOf opObj (pen++[te])))))∧Tl (H.new (.arr 2 (pmRows (don++pmsOf opObj (pen++[te]))))) h.next 2 (.own H.next 0 (n+1)) (pmRows (don++pmsOf opObj (pen++[te]))):=
       ⟨hgH.new _,Tl.grow hkp.1 (by rw[pmRows_len];simp[pmsOf];omega)⟩
      rw[t3]at fin2;cases vars with
      |true=>
       simp only[cond_true]at hinv;have hc:=fun h:Heap=>fvariable_c (h:=h) hte';cases v1:varB te with
       |false=>
        rw[v1]at hinv hc;simp only[cond_false]at hinv;replace Z:=U g0 (U g1 (U g6 (U g7 (U g8 (U g9 (U q2 (U @Bool.not_true @Bool.not_false)))))));(repeat'(first|refine G fun K J=>?_|refine uR Z ?_|(refine O J ?_;clear J)|apply zI));replace Z:=U g0 (U g1 (U g6 (U g7 (U g8 (U g9 @Bool.not_false)))));refine uU Z (hc _) ?_;(repeat'(first|refine G fun K J=>?_|refine uR Z ?_|refine uT Z ?_|(refine O J ?_;clear J)|apply zI));exact bad 8 _ (.inr rfl) hg hinv
       |true=>
        rw[v1]at hinv hc;simp only[cond_true]at hinv;replace Z:=U g0 (U g1 (U g6 (U g7 (U g8 (U g9 (U q2 (U @Bool.not_true @Bool.not_false)))))));(repeat'(first|refine G fun K J=>?_|refine uR Z ?_|(refine O J ?_;clear J)|apply zI));replace Z:=U g0 (U g1 (U g6 (U g7 (U g8 (U g9 @Bool.not_true)))));refine uU Z (hc _) ?_;replace Z:=U g0 (U g1 (U g6 (U g7 (U g8 (U g9 (U @Bool.not_true (U t1 (U t2 (U hrl (U hb (U hap w7)))))))))));(repeat'(first|refine G fun K J=>?_|refine uR Z ?_|refine uK ?_|refine uX ?_|refine uC1 Z ?_|(refine O J ?_;clear J)|(clear J;refine O J ?_;clear J)|(rw[if_pos];rotate_left 1;omega;simp(maxSteps:=2000000) only[Ty.w,simprocAttr,g0,g1,g6,g7,g8,g9,Bool.not_true,t1,t2,hrl,hb,hap,w7])|apply zI));exact⟨l.length-(k+1),by omega,k+1,_,don,pen++[te],by simp,rfl,rfl,by omega,rfl,by simp;omega,fin2.1,fin2.2,hinv⟩
      |false=>
       simp only[cond_false]at hinv;have hc:=fun h:Heap=>fname_c (h:=h) hte';cases v1:nameB te with
       |false=>
        rw[v1]at hinv hc;simp only[cond_false]at hinv;replace Z:=U g0 (U g1 (U g6 (U g7 (U g8 (U g9 (U q2 (U @Bool.not_true @Bool.not_false)))))));(repeat'(first|refine G fun K J=>?_|refine uR Z ?_|(refine O J ?_;clear J)|apply zI));replace Z:=U g0 (U g1 (U g6 (U g7 (U g8 (U g9 @Bool.not_false)))));refine uU Z (hc _) ?_;(repeat'(first|refine G fun K J=>?_|refine uR Z ?_|refine uT Z ?_|(refine O J ?_;clear J)|apply zI));exact bad 8 _ (.inr rfl) hg hinv
       |true=>
        rw[v1]at hinv hc;simp only[cond_true]at hinv;replace Z:=U g0 (U g1 (U g6 (U g7 (U g8 (U g9 (U q2 (U @Bool.not_true @Bool.not_false)))))));(repeat'(first|refine G fun K J=>?_|refine uR Z ?_|(refine O J ?_;clear J)|apply zI));replace Z:=U g0 (U g1 (U g6 (U g7 (U g8 (U g9 @Bool.not_true)))));refine uU Z (hc _) ?_;replace Z:=U g0 (U g1 (U g6 (U g7 (U g8 (U g9 (U @Bool.not_true (U t1 (U t2 (U hrl (U hb (U hap w7)))))))))));(repeat'(first|refine G fun K J=>?_|refine uR Z ?_|refine uK ?_|refine uX ?_|refine uC1 Z ?_|(refine O J ?_;clear J)|(clear J;refine O J ?_;clear J)|(rw[if_pos];rotate_left 1;omega;simp(maxSteps:=2000000) only[Ty.w,simprocAttr,g0,g1,g6,g7,g8,g9,Bool.not_true,t1,t2,hrl,hb,hap,w7])|apply zI));exact⟨l.length-(k+1),by omega,k+1,_,don,pen++[te],by simp,rfl,rfl,by omega,rfl,by simp;omega,fin2.1,fin2.2,hinv⟩
     |true=>
      rw[show bEq te opMin=true from q2]at hinv;simp only[cond_true]at hinv;have hsl:=tl.sl;have hlo:=hsl.len;rw[hrl]at hlo;have hlk:=hsl.lk;replace Z:=U g0 (U g1 (U g6 (U g7 (U g8 (U g9 (U q2 (U w7 @Bool.not_true)))))));(repeat'(first|with_reducible refine a_hold 14 ?_|refine G fun K J=>?_|refine uR Z ?_|refine uK ?_|refine uC1 Z ?_|(refine O J ?_;clear J)|apply zI));refine⟨?_⟩;refine a_gen (fun S h2=>S 0= .imm 6 (Sx.rows l)∧S 1= .sc (.bool vars)∧S 6=o∧S 7= .sc (.int .i64 don.length)∧S 8= .sc (.int .i64 ((k:Int)+1))∧h2=h') ?_ ?_
      ·simp only[Ty.w,simprocAttr,g0,g1,g6,g7,g8]
      (try clear Z);clear g0 g1 g6 g7 g8 g9 w7;rintro S h' ⟨g0,g1,g6,g7,g8,rfl⟩;obtain⟨k1,hk1⟩: ∃ k1:Int,k1=(k:Int)+1:=⟨_,rfl⟩;rw[← hk1]at g8;cases hpe:pen.isEmpty with
      |true=>
       have hpe':pen=[]:=List.isEmpty_iff.1 hpe;have hF2:F=([],2):=by
        rw[hinv,hpe];split
        ·rfl
        ·rfl
       have hdd:((don.length:Int)==(n:Int))=true:=(by rw[hn,hpe'];simp);replace Z:=U g0 (U g1 (U g6 (U g7 (U g8 (U hlo (U hlk hdd))))));(repeat'(first|refine G fun K J=>?_|refine uR Z ?_|refine uT Z ?_|(refine O J ?_;clear J)|apply zI));exact bad 2 _ (.inl rfl) hg hF2
      |false=>
       rw[hpe]at hinv;simp only[Bool.not_false,Bool.true_and]at hinv;have hp0:0<pen.length:=by
        cases pen with
        |nil=>simp at hpe
        |cons _ _=>simp
       have hdd:((don.length:Int)==(n:Int))=false:=(by rw[hn];simp;omega);by_cases hl2:k+1<l.length
       ·have hd2:(k1==(l.length:Int))=false:=(by rw[hk1];simp;omega);obtain⟨y,hy⟩: ∃ y,l[k+1]? =some y:=⟨_,List.getElem?_eq_getElem hl2⟩;have hyk:=hok y (List.mem_of_getElem? hy);have hvy:=fun h:Heap=>svalid_c hyk h;have htey:=textOf_okQ hyk;rw[drop_of_get hy]at hinv;simp only at hinv;have hry:(Sx.rows l)[k1.toNat]? =some y.cells:=(by rw[hk1];exact Sx.rows_get hy);generalize svalid y 0 0=V2 at hvy hinv;obtain⟨vb2,vn2⟩:=V2;obtain⟨ki2,va2,li2,co2,te2,ks2⟩:=y;simp only[kindOf,textOf]at hinv htey;simp only[Sx.cells]at hry hvy;have hcy:=fun h:Heap=>typed_c (h:=h) htey;have hk0:(0:Int)≤k1:=(by omega);cases q3:(ki2 !=1)with
        |true=>
         rw[show(ki2==1)=false by simpa using q3]at hinv;simp only[Bool.false_and,cond_false]at hinv;replace Z:=U g0 (U g1 (U g6 (U g7 (U g8 (U hlo (U hlk (U hdd (U hll (U hd2 (U hry (U hk0 q3)))))))))));(repeat'(first|refine G fun K J=>?_|refine uR Z ?_|refine uT Z ?_|(refine O J ?_;clear J)|apply zI));exact bad 2 _ (.inl rfl) hg hinv
        |false=>
         rw[show(ki2==1)=true by simpa using q3]at hinv;simp only[Bool.true_and]at hinv;cases vb2 with
         |false=>
          simp only[cond_false]at hinv;replace Z:=U g0 (U g1 (U g6 (U g7 (U g8 (U hlo (U hlk (U hdd (U hll (U hd2 (U hry (U hk0 q3)))))))))));(repeat'(first|refine G fun K J=>?_|refine uR Z ?_|apply zI));replace Z:=U g0 (U g1 (U g6 (U g7 (U g8 (U hry (U hk0 @Bool.not_false))))));refine uU Z (hvy _) ?_;replace Z:=U g0 (U g1 (U g6 (U g7 (U g8 @Bool.not_false))));(repeat'(first|refine G fun K J=>?_|refine uR Z ?_|refine uT Z ?_|(refine O J ?_;clear J)|apply zI));exact bad 2 _ (.inl rfl) hg hinv
         |true=>
          simp only[cond_true]at hinv;cases v3:typedB te2 with
          |false=>
           rw[v3]at hinv hcy;simp only[cond_false]at hinv;replace Z:=U g0 (U g1 (U g6 (U g7 (U g8 (U hlo (U hlk (U hdd (U hll (U hd2 (U hry (U hk0 q3)))))))))));(repeat'(first|refine G fun K J=>?_|refine uR Z ?_|apply zI));replace Z:=U g0 (U g1 (U g6 (U g7 (U g8 (U hry (U hk0 @Bool.not_true))))));refine uU Z (hvy _) ?_;(repeat'(first|refine G fun K J=>?_|refine uR Z ?_|refine uK ?_|refine uC1 Z ?_|(refine O J ?_;clear J)|apply zI));replace Z:=U g0 (U g1 (U g6 (U g7 (U g8 (U hry (U hk0 @Bool.not_false))))));refine uU Z (hcy _) ?_;replace Z:=U g0 (U g1 (U g6 (U g7 (U g8 @Bool.not_false))));(repeat'(first|refine G fun K J=>?_|refine uR Z ?_|refine uT Z ?_|(refine O J ?_;clear J)|apply zI));exact bad 8 _ (.inr rfl) hg hinv
          |true=>
           rw[v3]at hinv hcy;simp only[cond_true]at hinv;obtain⟨id,i1,i2,ho,i4⟩: ∃ id,h.next≤id∧id<h'.next∧o= .own id 0 n∧h'.obj id=some (.arr 2 (pmRows (don++pmsOf opObj pen))):=by
            rcases tl with⟨hn0,_⟩|⟨id,i1,i2,i3,i4⟩
            ·rw [hn0]at hrl;simp at hrl;omega
            ·rw [hrl]at i3;exact⟨id,i1,i2,i3,i4⟩
           subst ho;(try clear Z);clear tl hsl;replace Z:=U g0 (U g1 (U g6 (U g7 (U g8 (U hlo (U hlk (U hdd (U hll (U hd2 (U hry (U hk0 q3)))))))))));(repeat'(first|refine G fun K J=>?_|refine uR Z ?_|apply zI));replace Z:=U g0 (U g1 (U g6 (U g7 (U g8 (U hry (U hk0 @Bool.not_true))))));refine uU Z (hvy _) ?_;(repeat'(first|refine G fun K J=>?_|refine uR Z ?_|refine uK ?_|refine uC1 Z ?_|(refine O J ?_;clear J)|apply zI));refine uU Z (hcy _) ?_;(repeat'(first|refine a_block ?_|refine uK ?_|refine uC1 Z ?_|(refine O J ?_;clear J)|apply zI));refine a_loop (fun m S h2=>S 0= .imm 6 (Sx.rows l)∧S 1= .sc (.bool vars)∧S 8= .sc (.int .i64 k1)∧S 6= .own id 0 n∧ ∃ j:Nat,S 7= .sc (.int .i64 ((don.length+j:Nat):Int))∧j≤pen.length∧m=pen.length-j∧Grow h h2∧h2.next=h'.next∧h2.obj id=some (.arr 2 (pmRows (don++pmsOf te2 (pen.take j)++pmsOf opObj (pen.drop j))))) pen.length ?_ ?_
           ·simp only[Ty.w,simprocAttr,g0,g1,g6,g7,g8];exact⟨0,by simp,by omega,rfl,hg,by simpa[pmsOf]using i4⟩
           ·(try clear Z);clear g0 g1 g6 g7 g8 i4;rintro m S h2 ⟨g0,g1,g8,g6,j,g7,hj,rfl,hg2,hn2,ob⟩;by_cases hjl:j<pen.length
            ·obtain ⟨q,hqn⟩: ∃ q,q=don.length+j:=⟨_,rfl⟩;obtain⟨s,hs⟩: ∃ s,pen[j]? =some s:=⟨_,List.getElem?_eq_getElem hjl⟩;obtain⟨hp1,hp2⟩:=pms_step (don:=don) (t:=te2) hs;rw[← hqn]at g7 hp1 hp2;have hdj:decide ((q:Int)<(n:Int))=true:=(by simp;omega);have wj:IntKind.i64.wrap ((q:Int)+1)=((q+1:Nat):Int):=(by rw[wrap64 (by omega) (by omega)];try rfl);have hjl2:q<n:=(by omega);generalize hR:pmRows (don++pmsOf te2 (pen.take j)++pmsOf opObj (pen.drop j))=R at ob hp1 hp2;replace Z:=U g0 (U g1 (U g6 (U g7 (U g8 (U hdj (U wj (U hry (U hk0 (U ob (U hp1 (U hp2 hjl2)))))))))));(repeat'(first|refine G fun K J=>?_|refine a_block ?_|refine uR Z ?_|refine uQ Z fun K J=>?_|refine uK ?_|refine uC1 Z ?_|(refine O J ?_;clear J)|apply zI));refine⟨pen.length-(j+1),by omega,j+1,by rw[hqn];try rfl,by omega,rfl,hg2.set i1 _,hn2,?_⟩;try simp[Heap.set]
            ·have hje:j=pen.length:=(by omega);subst hje;rw[← hn]at g7;have hdj:decide ((n:Int)<(n:Int))=false:=(by simp);have w8:IntKind.i64.wrap (k1+1)=((k+2:Nat):Int):=(by rw[hk1,wrap64 (by omega) (by omega)];omega);rw[List.take_length,List.drop_length]at ob;have hz:pmRows (don++pmsOf te2 pen++pmsOf opObj [])=pmRows (don++pmsOf te2 pen):=(by simp[pmsOf]);rw[hz]at ob;replace Z:=U g0 (U g1 (U g6 (U g7 (U g8 (U hdj w8)))));(repeat'(first|refine G fun K J=>?_|refine uR Z ?_|refine uX ?_|refine uC1 Z ?_|(refine O J ?_;clear J)|(clear J;refine O J ?_;clear J)|apply zI));refine⟨l.length-(k+2),by omega,k+2,_,don++pmsOf te2 pen,[],rfl,rfl,by rw[hn];simp[pmsOf],by omega,rfl,by simp[pmsOf];omega,hg2,?_,hinv⟩;refine .inr ⟨id,i1,by omega,?_,?_⟩
             ·rw [pmRows_len,hn];simp[pmsOf]
             ·rw [ob];simp[pmsOf]
       ·have hke:k+1=l.length:=(by omega);have hd2:(k1==(l.length:Int))=true:=(by rw[hk1];simp;omega);rw[List.drop_eq_nil_of_le (by omega)]at hinv;simp only at hinv;replace Z:=U g0 (U g1 (U g6 (U g7 (U g8 (U hlo (U hlk (U hdd (U hll hd2))))))));(repeat'(first|refine G fun K J=>?_|refine uR Z ?_|refine uT Z ?_|(refine O J ?_;clear J)|apply zI));exact bad 2 _ (.inl rfl) hg hinv
  ·have hd:decide ((k:Int)<(l.length:Int))=false:=(by simp;omega);rw[List.drop_eq_nil_of_le (by omega)]at hinv;simp only[paramsL]at hinv;subst hinv;replace Z:=U g0 (U g1 (U g6 (U g7 (U g8 (U hll hd)))));(repeat'(first|refine G fun K J=>?_|refine uR Z ?_|refine uT Z ?_|refine uX ?_|refine uC1 Z ?_|(refine O J ?_;clear J)|(clear J;refine O J ?_;clear J)|apply zI));have e2:errP 0= .sc .nilIface:=rfl;simp only[e2];refine⟨?_,hg⟩;have h1:=pms_frzP tl;unfold FrzTo;refine⟨_,rfl,?_⟩;unfold FrzL;refine⟨h1,?_⟩;unfold FrzL;exact⟨by simp only[FrzTo],by simp only[FrzL]⟩
set_option maxHeartbeats 2000000
theorem cloneP_c{l:List Pm}(hl:l.length≤1099511627776)(h:Heap):PCall Tryz.prog 150 [.imm 2 (pmRows l)] h fun r h'=>Grow h h'∧Tl h' h.next 2 r (pmRows l):=by
 have hll:=pmRows_len l;cases l with
 |nil=>
  have e0:pmRows []=[]:=rfl;rw[e0];refine PCall.nil1 fun a cap=>?_;cases a with
  |none=>
   refine uG0 Tryz.func150 Tryz.ntmps150 Tryz.results150 Ty.hb_150 ?_;(repeat'(first|refine G fun K J=>?_|((first|refine a_regionS ?_|refine a_ret ?_);simp(maxSteps:=2000000) only[Ty.w,simprocAttr,peq_none])|(refine J _ _ ?_;clear J;(try simp only[pst0,simprocAttr]))));exact⟨Grow.refl _,Tl.nil⟩
  |some x=>
   refine uG0 Tryz.func150 Tryz.ntmps150 Tryz.results150 Ty.hb_150 ?_;(repeat'(first|refine G fun K J=>?_|((first|refine a_regionS ?_|refine a_ret ?_);simp(maxSteps:=2000000) only[Ty.w,simprocAttr,peq_some,view_some,zOk_some])|(refine a_skip ?_;(try simp only[pst0,simprocAttr]))|(refine a_cond _ (by(try simp(maxSteps:=2000000) only[Ty.w,simprocAttr,peq_some,view_some,zOk_some]);rfl) (fun hb=>?_) (fun hb=>?_)<;>(try simp only[hb0,decide_eq_true_eq,decide_eq_false_iff_not,simprocAttr]at hb)<;>(try(exfalso;omega)))|(refine J _ _ ?_;clear J;(try simp only[pst0,simprocAttr]))));exact⟨(Grow.refl h).new _,Tl.grow (Nat.le_refl _) rfl⟩
 |cons x l=>
  have h0:(0<(pmRows (x::l)).length)=True:=by rw[hll];simp
  have hb:((x::l).length)*32≤140737488355328:=by omega
  have hz:0+(pmRows (x::l)).length=(x::l).length:=by omega
  generalize pmRows (x::l)=R at hll h0 hz;refine uG0 Tryz.func150 Tryz.ntmps150 Tryz.results150 Ty.hb_150 ?_;replace Z:=U h0 (U hll hb);repeat'(first|refine G fun K J=>?_|refine uR Z ?_|refine uT Z ?_|refine uK ?_|refine uC1 Z ?_|(refine O J ?_;clear J)|(rw[if_pos];rotate_left 1;omega;simp(maxSteps:=2000000) only[Ty.w,simprocAttr,h0,hll,hb])|apply zI)
  exact⟨(Grow.refl h).new _,Tl.grow (Nat.le_refl _) (by simp[hll])⟩
theorem cloneP_q{l:List Pm}(hl:l.length≤1099511627776)(h:Heap):PCall Tryz.prog 150 [.imm 2 (pmRows l)] h fun r h'=>r= .imm 2 (pmRows l)∧h'=h:=by
 refine PCall.frz Ty.hb_150 ((cloneP_c hl h).mono ?_);rintro r h' ⟨hg,tl⟩;exact⟨pms_frzP tl,hg⟩
theorem cloneF_c{l:List Fm}(hl:l.length≤1099511627776)(h:Heap):PCall Tryz.prog 149 [.imm 6 (Fm.rows l)] h fun r h'=>Grow h h'∧Tl h' h.next 6 r (Fm.rows l):=by
 have hll:=Fm.rows_len l;cases l with
 |nil=>
  have e0:Fm.rows []=[]:=rfl;rw[e0];refine PCall.nil1 fun a cap=>?_;cases a with
  |none=>
   refine uG0 Tryz.func149 Tryz.ntmps149 Tryz.results149 Ty.hb_149 ?_;(repeat'(first|refine G fun K J=>?_|((first|refine a_regionS ?_|refine a_ret ?_);simp(maxSteps:=2000000) only[Ty.w,simprocAttr,peq_none])|(refine J _ _ ?_;clear J;(try simp only[pst0,simprocAttr]))));exact⟨Grow.refl _,Tl.nil⟩
  |some x=>
   refine uG0 Tryz.func149 Tryz.ntmps149 Tryz.results149 Ty.hb_149 ?_;(repeat'(first|refine G fun K J=>?_|((first|refine a_regionS ?_|refine a_ret ?_);simp(maxSteps:=2000000) only[Ty.w,simprocAttr,peq_some,view_some,zOk_some])|(refine a_skip ?_;(try simp only[pst0,simprocAttr]))|(refine a_cond _ (by(try simp(maxSteps:=2000000) only[Ty.w,simprocAttr,peq_some,view_some,zOk_some]);rfl) (fun hb=>?_) (fun hb=>?_)<;>(try simp only[hb0,decide_eq_true_eq,decide_eq_false_iff_not,simprocAttr]at hb)<;>(try(exfalso;omega)))|(refine J _ _ ?_;clear J;(try simp only[pst0,simprocAttr]))));exact⟨(Grow.refl h).new _,Tl.grow (Nat.le_refl _) rfl⟩
 |cons x l=>
  have h0:(0<(Fm.rows (x::l)).length)=True:=by rw[hll];simp
  have hb:((x::l).length)*128≤140737488355328:=by omega
  have hz:0+(Fm.rows (x::l)).length=(x::l).length:=by omega
  generalize Fm.rows (x::l)=R at hll h0 hz;refine uG0 Tryz.func149 Tryz.ntmps149 Tryz.results149 Ty.hb_149 ?_;replace Z:=U h0 (U hll hb);repeat'(first|refine G fun K J=>?_|refine uR Z ?_|refine uT Z ?_|refine uK ?_|refine uC1 Z ?_|(refine O J ?_;clear J)|(rw[if_pos];rotate_left 1;omega;simp(maxSteps:=2000000) only[Ty.w,simprocAttr,h0,hll,hb])|apply zI)
  exact⟨(Grow.refl h).new _,Tl.grow (Nat.le_refl _) (by simp[hll])⟩
theorem cloneF_q{l:List Fm}(hl:l.length≤1099511627776)(h:Heap):PCall Tryz.prog 149 [.imm 6 (Fm.rows l)] h fun r h'=>r= .imm 6 (Fm.rows l)∧h'=h:=by
 refine PCall.frz Ty.hb_149 ((cloneF_c hl h).mono ?_);rintro r h' ⟨hg,tl⟩;exact⟨tl_frzF (Nat.le_refl _) tl,hg⟩
set_option maxHeartbeats 8000000
def fmBody(w:ByteArray)(rest:List Sx):Fm × Int:=
 bif isQ w then(match rest with
  |[]=>(zeroFm,2)
  |p::body=>bif kindOf p==3 then(bif (paramsP true (kidsOf p)).2==0 then(match fmPs body with
    |(ks,c)=>bif c==0 then(.mk w ⟨#[]⟩ [] (paramsP true (kidsOf p)).1 [] ks,0)else(zeroFm,c))
   else(zeroFm,(paramsP true (kidsOf p)).2))else(zeroFm,2))
 else bif isLst w then(match fmPs rest with
  |(ks,c)=>bif c==0 then(.mk w ⟨#[]⟩ [] [] [] ks,0)else(zeroFm,c))
 else bif isCmp5 w then(match rest with
  |[a,b]=>fin (compareP w a b)
  |_=>(zeroFm,2))
 else bif nameB w then(bif (termsM rest).2==0 then(.mk opAtom w (termsM rest).1 [] [] [],0)else(zeroFm,(termsM rest).2))
 else(zeroFm,8)
theorem fmP_head(x:Sx):fmP x=(bif kindOf x==3&&(kidsOf x).isEmpty then(.mk opAnd ⟨#[]⟩ [] [] [] [],0)else(match headM x with
  |none=>(zeroFm,2)
  |some (w,rest)=>bif decide (countW w≥0)&&!(decide (countW w=rest.length))then(zeroFm,2)else fmBody w rest)):=by
 obtain⟨kind,value,line,col,text,kids⟩:=x
 conv=>lhs;unfold fmP
 have kk:kindOf (.mk kind value line col text kids)=kind:=rfl;have k5:kidsOf (.mk kind value line col text kids)=kids:=rfl;rw[kk,k5];simp only[headM];by_cases h3:kind=3
 ·rw [if_pos h3,if_pos h3];cases kids with
  |nil=>simp[h3]
  |cons y rest=>
   simp only[List.isEmpty_cons,Bool.and_false,cond_false];cases hk:kindOf y==1<;>simp only[hk,cond_true,cond_false]<;>rfl
 ·rw [if_neg h3,if_neg h3];rw[show(kind==3)=false by simpa using h3];try rfl
theorem count_two{w:ByteArray}{n:Nat}(hw:isQ w=true∨isCmp5 w=true)(hc:(decide (countW w≥0)&&!(decide (countW w=n)))=false):n=2:=by
 have:countW w=2:=by
  rw[countW_eq];unfold isQ isCmp5 isCmp at hw;simp only[Bool.or_eq_true]at hw;rcases hw with(h|h)|(((h|h)|h)|h)|h<;>(have h:=bEq_eq h;subst h;decide)
 rw[this]at hc;simp at hc;omega
def fmZ:AObj:= .arr 6 [[.sc (.string ⟨#[]⟩),.sc (.string ⟨#[]⟩),.sc (.slice none 0 0),.sc (.slice none 0 0),.sc (.slice none 0 0),.sc (.slice none 0 0)]]
structure PI(h:Heap)(w:ByteArray)(h':Heap):Prop where
 grow:Grow h h'
 nxt:h'.next=h.next+2
 o1:h'.obj h.next=some fmZ
 o2:h'.obj (h.next+1)=some (.arr 6 [[sPV w,.sc (.string ⟨#[]⟩),.sc (.slice none 0 0),.sc (.slice none 0 0),.sc (.slice none 0 0),.sc (.slice none 0 0)]])
def PJ(h:Heap)(F:Fm × Int)(S:Slots)(h':Heap):Prop:=S 2= .ptr h.next 0 0∧S 8= .ptr (h.next+1) 0 0∧Grow h h'∧ ∃ (c:Int)(a b:ByteArray)(p2 p3 p4 p5:PV),S 9=errP c∧h'.obj h.next=some fmZ∧h'.obj (h.next+1)=some (.arr 6 [[sPV a,sPV b,p2,p3,p4,p5]])∧
 (oneC p2=true∧oneC p3=true∧oneC p4=true∧oneC p5=true)∧((c==0)=false→F=(zeroFm,c))∧((c==0)=true→F.2=0∧ ∀ hh,FrzL h.next hh F.1.cells [sPV a,sPV b,p2,p3,p4,p5])
theorem PJ.mk2{h h':Heap}{w:ByteArray}{F:Fm × Int}{S:Slots}(hp:PI h w h')(c:Int)(a b:ByteArray)(p2 p3 p4 p5:PV)(g2:S 2= .ptr h.next 0 0)(g8:S 8= .ptr (h.next+1) 0 0)(g9:S 9=errP c)
  (ho:oneC p2=true∧oneC p3=true∧oneC p4=true∧oneC p5=true)(hc:(c==0)=false→F=(zeroFm,c))(hd:(c==0)=true→F.2=0∧ ∀ hh,FrzL h.next hh F.1.cells [sPV a,sPV b,p2,p3,p4,p5]):
  PJ h F S (h'.set (h.next+1) (.arr 6 [[sPV a,sPV b,p2,p3,p4,p5]])):=by
 refine⟨g2,g8,hp.grow.set (Nat.le_succ _) _,c,a,b,p2,p3,p4,p5,g9,?_,by simp[Heap.set],ho,hc,hd⟩;simp only[Heap.set];rw[if_neg (by omega)];exact hp.o1
theorem errRet{h h':Heap}{c:Int}{F:Fm × Int}(hc:c=2∨c=8)(hg:Grow h h')(hF:F=(zeroFm,c)):
  FrzTo h.next h' (.tup [.agg F.1.cells,errP F.2]) (.tup [.agg [.sc (.string ⟨#[]⟩),.sc (.string ⟨#[]⟩),.sc (.slice none 0 0),.sc (.slice none 0 0),.sc (.slice none 0 0),.sc (.slice none 0 0)],errV c])∧Grow h h':=by
 subst hF;have:errP c=errV c:=by rcases hc with rfl|rfl<;>rfl
 simp only[this];refine⟨?_,hg⟩;simp only[errV,zeroFm,Fm.cells,Ex.rows,Fm.rows,pmRows,strRows,List.map_nil,FrzTo,FrzL];exact⟨_,rfl,⟨_,rfl,rfl,rfl,.inr (.inl ⟨rfl,.inr rfl⟩),.inr (.inl ⟨rfl,.inr rfl⟩),.inr (.inl ⟨rfl,.inr rfl⟩),.inr (.inl ⟨rfl,.inr rfl⟩),trivial⟩,rfl,trivial⟩
theorem parse_step{kind value line col:Int}{text:ByteArray}{kids:List Sx}(hok:(Sx.mk kind value line col text kids).ok)(hsm:(Sx.mk kind value line col text kids).small)
  (ih: ∀ x∈kids, ∀ h:Heap,PCall Tryz.prog 169 [.agg x.cells] h fun r h'=>r= .tup [.agg (fmP x).1.cells,errP (fmP x).2]∧h'=h)(h:Heap):
  PCall Tryz.prog 169 [.agg (Sx.mk kind value line col text kids).cells] h fun r h'=>r= .tup [.agg (fmP (.mk kind value line col text kids)).1.cells,errP (fmP (.mk kind value line col text kids)).2]∧h'=h:=by
 refine PCall.frz Ty.hb_169 ?_;have hok':=hok;simp only[Sx.ok]at hok';obtain⟨_,_,_,hkl,hks⟩:=hok';rw[Sx.oks_iff]at hks;simp only[Sx.small]at hsm;obtain⟨hl,hss⟩:=hsm;rw[Sx.smalls_iff]at hss;have hh:=head_c hok;have hX:=fmP_head (.mk kind value line col text kids);generalize fmP (.mk kind value line col text kids)=F at hX;have hMo:=fun w rest e=>headM_ok (w:=w) (rest:=rest) hok e;have hMr:=fun w rest e=>headM_rest (kind:=kind) (value:=value) (line:=line) (col:=col) (text:=text) (kids:=kids) (w:=w) (rest:=rest) e;generalize headM (.mk kind value line col text kids)=M at hh hX hMo hMr;have kk:kindOf (.mk kind value line col text kids)=kind:=rfl;have k5:kidsOf (.mk kind value line col text kids)=kids:=rfl;rw[kk,k5]at hX;have hlk:=Sx.rows_len kids;have hg1: ∀ r,Grow h ((h.new (.arr 6 [[.sc (.string ⟨#[]⟩),.sc (.string ⟨#[]⟩),.sc (.slice none 0 0),.sc (.slice none 0 0),.sc (.slice none 0 0),.sc (.slice none 0 0)]])).set h.next r):=fun r=>((Grow.refl h).new _).set (Nat.le_refl _) _;refine uG0 Tryz.func169 Tryz.ntmps169 Tryz.results169 Ty.hb_169 ?_;simp only[Sx.cells]at hh⊢;repeat'(first|with_reducible refine a_hold 1 ?_|refine G fun K J=>?_|refine uR trivial ?_|(refine O J ?_;clear J)|apply zI)
 refine⟨?_⟩;refine a_cut (fun S h'=>S 1= .cptr (Sx.mk kind value line col text kids).cells∧S 2= .ptr h.next 0 0∧h'=h.new fmZ∧(kind==3&&kids.isEmpty)=false) ?_ ?_
 ·try clear Z
  clear hh;simp only[Sx.cells,fmZ];cases k3:(kind==3)with
  |false=>
   (repeat'(first|refine G fun K J=>?_|refine uR k3 ?_|refine uK ?_|refine uC1 k3 ?_|(refine O J ?_;clear J)|apply zI));all_goals first|rfl|(simp only[Ty.w,simprocAttr,Bool.false_and];done)
  |true=>
   cases q:(((Sx.rows kids).length:Int)==0)with
   |false=>
    have q':kids.isEmpty=false:=by
     cases kids with
     |nil=>simp[Sx.rows]at q
     |cons _ _=>rfl
    replace Z:=U k3 q;(repeat'(first|refine G fun K J=>?_|refine uR Z ?_|refine uK ?_|refine uC1 Z ?_|(refine O J ?_;clear J)|apply zI));all_goals first|rfl|(simp only[Ty.w,simprocAttr,q',Bool.true_and];done)
   |true=>
    have q':kids.isEmpty=true:=by
     cases kids with
     |nil=>rfl
     |cons _ _=>simp[Sx.rows]at q;omega
    rw[k3,q']at hX;simp only[Bool.and_self,cond_true]at hX;subst hX;replace Z:=U k3 q;(repeat'(first|refine G fun K J=>?_|refine uR Z ?_|refine uT Z ?_|(refine O J ?_;clear J)|apply zI));refine⟨?_,hg1 _⟩;have e2:errP 0= .sc .nilIface:=rfl;simp only[e2,opAnd,Fm.cells,Ex.rows,Fm.rows,pmRows,strRows,List.map_nil,FrzTo,FrzL];exact⟨_,rfl,⟨_,rfl,rfl,rfl,.inr (.inl ⟨rfl,.inr rfl⟩),.inr (.inl ⟨rfl,.inr rfl⟩),.inr (.inl ⟨rfl,.inr rfl⟩),.inr (.inl ⟨rfl,.inr rfl⟩),trivial⟩,rfl,trivial⟩
 ·rintro S h' ⟨g1,g2,rfl,hq⟩;rw[hq]at hX;simp only[cond_false]at hX;simp only[Sx.cells]at g1;simp only[fmZ];try clear Z
  clear hq;cases M with
  |none=>
   simp only at hX;simp only[headV]at hh;(repeat'(first|refine G fun K J=>?_|refine uR (U g1 g2) ?_|apply zI));refine uU (U g1 g2) (hh _) ?_;replace Z:=U g1 (U g2 @Bool.not_false);(repeat'(first|refine G fun K J=>?_|refine uR Z ?_|refine uT Z ?_|(refine O J ?_;clear J)|apply zI));exact errRet (.inl rfl) (hg1 _) hX
  |some wr=>
   obtain⟨w,rest⟩:=wr;obtain⟨hw,hro⟩:=hMo w rest rfl;obtain⟨y0,hy0⟩:=hMr w rest rfl;have hrl:rest.length≤1048576:=(by rw[hy0]at hl;simp at hl;omega);have ihr: ∀ x∈rest, ∀ h:Heap,PCall Tryz.prog 169 [.agg x.cells] h fun r h'=>r= .tup [.agg (fmP x).1.cells,errP (fmP x).2]∧h'=h:=fun x hx=>ih x (by rw[hy0];simp[hx]);have hsr: ∀ x∈rest,x.small:=fun x hx=>hss x (by rw[hy0];simp[hx]);(try clear Z);clear ih hMo hMr hks hss hl hkl hlk hy0 y0;simp only at hX;simp only[headV]at hh;have hlr:=Sx.rows_len rest;(repeat'(first|with_reducible refine a_hold 6 ?_|refine G fun K J=>?_|refine uR (U g1 g2) ?_|apply zI));refine uU (U g1 g2) (hh _) ?_;replace Z:=U g1 (U g2 @Bool.not_true);(repeat'(first|with_reducible refine a_hold 6 ?_|refine G fun K J=>?_|refine uR Z ?_|refine uK ?_|refine uC1 Z ?_|(refine O J ?_;clear J)|apply zI));refine⟨?_⟩;refine a_cut (fun S h'=>S 2= .ptr h.next 0 0∧S 4=sPV w∧S 5= .imm 6 (Sx.rows rest)∧h'=h.new fmZ∧(decide (countW w≥0)&&!(decide (countW w=rest.length)))=false) ?_ ?_
   ·have hcn:=fun h:Heap=>count_c (h:=h) (op:=w);simp only[fmZ];generalize countW w=n at hcn hX;cases c1:decide (n≥0)with
    |false=>
     (repeat'(first|refine G fun K J=>?_|refine uR (U g1 g2) ?_|apply zI));refine uU (U g1 g2) (hcn _) ?_;replace Z:=U g1 (U g2 c1);(repeat'(first|refine G fun K J=>?_|refine uR Z ?_|refine uK ?_|refine uC1 Z ?_|(refine O J ?_;clear J)|apply zI));all_goals first|rfl|(simp only[Ty.w,simprocAttr,g2,Bool.false_and];done)
    |true=>
     cases c2:(n !=(rest.length:Int))with
     |false=>
      have c2':decide (n=(rest.length:Int))=true:=(by simpa using c2);(repeat'(first|refine G fun K J=>?_|refine uR (U g1 g2) ?_|apply zI));refine uU (U g1 g2) (hcn _) ?_;replace Z:=U g1 (U g2 (U c1 (U hlr c2)));(repeat'(first|refine G fun K J=>?_|refine uR Z ?_|refine uK ?_|refine uC1 Z ?_|(refine O J ?_;clear J)|apply zI));all_goals first|rfl|(simp only[Ty.w,simprocAttr,g2,c2',Bool.true_and,Bool.not_true];done)
     |true=>
      have c2':decide (n=(rest.length:Int))=false:=(by simpa using c2);rw[c1,c2']at hX;simp only[Bool.not_false,Bool.and_self,cond_true]at hX;(repeat'(first|refine G fun K J=>?_|refine uR (U g1 g2) ?_|apply zI));refine uU (U g1 g2) (hcn _) ?_;replace Z:=U g1 (U g2 (U c1 (U hlr c2)));(repeat'(first|refine G fun K J=>?_|refine uR Z ?_|refine uT Z ?_|(refine O J ?_;clear J)|apply zI));exact errRet (.inl rfl) (hg1 _) hX
   ·(try clear Z);clear g1 g2 hh;rintro S h' ⟨g2,g4,g5,rfl,hcnt⟩;rw[hcnt]at hX;simp only[cond_false]at hX;simp only[fmZ];have n1:(h.next=h.next+1)=False:=(by simp);(repeat'(first|with_reducible refine a_hold 11 ?_|refine G fun K J=>?_|refine uR (U g2 (U g4 g5)) ?_|(refine O J ?_;clear J)|apply zI));refine⟨?_⟩;refine a_gen (fun S h'=>S 2= .ptr h.next 0 0∧S 4=sPV w∧S 5= .imm 6 (Sx.rows rest)∧S 8= .ptr (h.next+1) 0 0∧S 9= .sc .nilIface∧PI h w h') ?_ ?_
    ·simp only[Ty.w,simprocAttr,g2,g4,g5];refine⟨(((Grow.refl h).new _).new _).set (Nat.le_succ _) _,rfl,?_,?_⟩
     ·simp [Heap.new,Heap.set,fmZ]
     ·simp [Heap.new,Heap.set]
    ·(try clear Z);clear g2 g4 g5;rintro S h' ⟨g2,g4,g5,g8,g9,hpi⟩;refine a_cut (PJ h F) ?_ ?_
     ·have o1:=hpi.o1;have o2:=hpi.o2;simp only[fmZ]at o1;have hN:=hpi.nxt;have n1:(h.next=h.next+1)=False:=(by simp);have n2:(h.next+1=h.next)=False:=(by simp);have hz2:errP 0= .sc .nilIface:=rfl;replace Z:=U g2 (U g4 (U g5 (U g8 g9)));(repeat'(first|refine a_hold 16 ?_|apply zI));refine⟨?_⟩;refine a_cut (fun S h2=>h2=h'∧S 2= .ptr h.next 0 0∧S 4=sPV w∧S 5= .imm 6 (Sx.rows rest)∧S 8= .ptr (h.next+1) 0 0∧S 9= .sc .nilIface∧S 44=sPV w∧S 59= .sc (.bool (isQ w))) ?_ ?_
      ·cases u1:(w.data.toList==(#[102,111,114,97,108,108]:Array UInt8).toList)with
       |true=>
        have hq:isQ w=true:=(by unfold isQ;simp[show bEq w opAll=true from u1]);rw[hq];replace Z:=U g2 (U g4 (U g5 (U g8 (U g9 u1))));(repeat'(first|refine G fun K J=>?_|refine uR Z ?_|refine uK ?_|refine uC1 Z ?_|(refine O J ?_;clear J)|apply zI));all_goals first|rfl|(simp only[Ty.w,simprocAttr,g2,g4,g5,g8,g9];done)
       |false=>
        cases u2:(w.data.toList==(#[101,120,105,115,116,115]:Array UInt8).toList)with
        |true=>
         have hq:isQ w=true:=(by unfold isQ;simp[show bEq w opAll=false from u1,show bEq w opSome=true from u2]);rw[hq];replace Z:=U g2 (U g4 (U g5 (U g8 (U g9 (U u1 u2)))));(repeat'(first|refine G fun K J=>?_|refine uR Z ?_|refine uC1 Z ?_|(refine O J ?_;clear J)|apply zI));all_goals first|rfl|(simp only[Ty.w,simprocAttr,g2,g4,g5,g8,g9];done)
        |false=>
         have hq:isQ w=false:=(by unfold isQ;simp[show bEq w opAll=false from u1,show bEq w opSome=false from u2]);rw[hq];replace Z:=U g2 (U g4 (U g5 (U g8 (U g9 (U u1 u2)))));(repeat'(first|refine G fun K J=>?_|refine uR Z ?_|refine uC1 Z ?_|(refine O J ?_;clear J)|apply zI));all_goals first|rfl|(simp only[Ty.w,simprocAttr,g2,g4,g5,g8,g9];done)
      ·(try clear Z);clear g2 g4 g5 g8 g9;rintro S h' ⟨rfl,g2,g4,g5,g8,g9,g44,g59⟩;cases hQ:isQ w with
       |true=>
        rw[hQ]at g59;simp only[fmBody,hQ,cond_true]at hX;obtain⟨p,b,rfl⟩: ∃ p b,rest=[p,b]:=by
         have h2:=count_two (.inl hQ) hcnt
         match rest,h2 with
         |[p,b],_=>exact⟨p,b,rfl⟩
        simp only at hX;have hpo:=hro p (by simp);have hps:=hsr p (by simp);have hck:=fun h=>kids_c (l:=[b]) (by simp) (fun x hx=>ihr x (by simp at hx⊢;exact .inr hx)) h;obtain⟨pk,pv,pl,pc,pt,pks⟩:=p;simp only[kindOf,kidsOf]at hX;simp only[Sx.ok]at hpo;simp only[Sx.small]at hps;have hcp:=fun h=>parseParams_c (vars:=true) (l:=pks) hps.1 (Sx.oks_iff.1 hpo.2.2.2.2) h;have r0:=Sx.rows_get (l:=[.mk pk pv pl pc pt pks,b]) (i:=0) rfl;have hq1:(1:Int)≤((Sx.rows [.mk pk pv pl pc pt pks,b]).length:Int):=(by rw[hlr];simp);have ht:List.take (((Sx.rows [.mk pk pv pl pc pt pks,b]).length:Int)-1).toNat (List.drop 1 (Sx.rows [.mk pk pv pl pc pt pks,b]))=Sx.rows [b]:=(by rw[hlr];try rfl);generalize Sx.rows [.mk pk pv pl pc pt pks,b]=R at g5 r0 hq1 ht hlr;generalize Sx.rows [b]=R1 at ht hck;simp only[Sx.cells]at r0;cases q3:(pk !=3)with
        |true=>
         rw[show(pk==3)=false by simpa using q3]at hX;simp only[cond_false]at hX;replace Z:=U g2 (U g4 (U g5 (U g8 (U g9 (U g44 (U g59 (U r0 (U q3 (U o1 o2)))))))));(repeat'(first|refine G fun K J=>?_|refine uR Z ?_|refine uT Z ?_|refine uC1 Z ?_|(refine O J ?_;clear J)|apply zI));exact errRet (.inl rfl) (hpi.grow.set (Nat.le_refl _) _) hX
        |false=>
         rw[show(pk==3)=true by simpa using q3]at hX;simp only[cond_true]at hX;generalize paramsP true pks=PP at hcp hX;obtain⟨pms,c⟩:=PP;simp only at hcp hX;cases hc:c==0 with
         |false=>
          rw[hc]at hX;simp only[cond_false]at hX;have e0:errP c=errV c:=(by simp only[errP,hc,cond_false]);rw[e0]at hcp;simp only[errV]at hcp e0;replace Z:=U g2 (U g4 (U g5 (U g8 (U g9 (U g44 (U g59 (U r0 (U q3 (U o1 o2)))))))));(repeat'(first|refine G fun K J=>?_|refine uR Z ?_|refine uK ?_|refine uC1 Z ?_|(refine O J ?_;clear J)|apply zI));refine owp_useQ (hcp _) (by(try simp only[Ty.w,simprocAttr,g2,g4,g5,g8,g9,g44,r0,o1,o2,n1,n2,set_set]);try rfl) ?_;simp(maxSteps:=2000000) only[Ty.w,simprocAttr,g2,g4,g5,g8,g9,g44,r0,o1,o2,n1,n2,set_set];replace Z:=U g2 (U g4 (U g5 (U g8 (U g9 (U g44 (U r0 (U o1 (U o2 (U n1 n2)))))))));(repeat'(first|refine G fun K J=>?_|refine a_block ?_|refine uR Z ?_|refine uK ?_|(refine O J ?_;clear J)|apply zI));refine PJ.mk2 hpi c w ⟨#[]⟩ _ _ _ _ ?_ ?_ ?_ ?_ ?_ ?_
          ·simp only[Ty.w,simprocAttr,g2]
          ·simp only[Ty.w,simprocAttr,g8]
          ·simp only[Ty.w,simprocAttr];first|exact e0.symm|rfl
          ·exact ⟨rfl,rfl,rfl,rfl⟩
          ·exact fun _=>hX
          ·intro hh;rw[hc]at hh;exact absurd hh (by simp)
         |true=>
          rw[hc]at hX;simp only[cond_true]at hX;have e0:errP c= .sc .nilIface:=(by simp only[errP,hc,cond_true]);rw[e0]at hcp;(try clear Z);clear e0;generalize fmPs [b]=KK at hck hX;obtain⟨ks,c2⟩:=KK;simp only at hck hX;cases hc2:c2==0 with
          |false=>
           rw[hc2]at hX;simp only[cond_false]at hX;have e0:errP c2=errV c2:=(by simp only[errP,hc2,cond_false]);rw[e0]at hck;simp only[errV]at hck e0;replace Z:=U g2 (U g4 (U g5 (U g8 (U g9 (U g44 (U g59 (U r0 (U q3 (U o1 o2)))))))));(repeat'(first|refine G fun K J=>?_|refine uR Z ?_|refine uK ?_|refine uC1 Z ?_|(refine O J ?_;clear J)|apply zI));refine owp_useQ (hcp _) (by(try simp only[Ty.w,simprocAttr,g2,g4,g5,g8,g9,g44,r0,o1,o2,n1,n2,set_set]);try rfl) ?_;simp(maxSteps:=2000000) only[Ty.w,simprocAttr,g2,g4,g5,g8,g9,g44,r0,o1,o2,n1,n2,set_set];(repeat'(first|refine G fun K J=>?_|(refine a_block ?_)|((first|refine a_regionS ?_|refine a_region (fun K J=>?_));simp(maxSteps:=2000000) only[Ty.w,simprocAttr,g2,g4,g5,g8,g9,g44,r0,o1,o2,n1,n2,hq1,ht,Option.getD_some,Option.getD_none,Int.le_refl,Int.toNat_one])|(refine J _ _ ?_;clear J;(try simp only[pst0,simprocAttr]))));refine owp_useQ (hck _) (by(try simp only[Ty.w,simprocAttr,g2,g4,g5,g8,g9,g44,r0,o1,o2,n1,n2,hq1,ht,Option.getD_some,Option.getD_none,Int.le_refl,Int.toNat_one,set_set]);try rfl) ?_;simp(maxSteps:=2000000) only[Ty.w,simprocAttr,g2,g4,g5,g8,g9,g44,r0,o1,o2,n1,n2,hq1,ht,Option.getD_some,Option.getD_none,Int.le_refl,Int.toNat_one,set_set];(repeat'(refine J _ _ ?_;clear J;(try simp only[pst0,simprocAttr])));(try rw[set_set]);refine PJ.mk2 hpi c2 w ⟨#[]⟩ _ _ _ _ ?_ ?_ ?_ ?_ ?_ ?_
           ·simp only[Ty.w,simprocAttr,g2]
           ·simp only[Ty.w,simprocAttr,g8]
           ·simp only[Ty.w,simprocAttr];first|exact e0.symm|rfl
           ·exact ⟨rfl,rfl,rfl,rfl⟩
           ·exact fun _=>hX
           ·intro hh;rw[hc2]at hh;exact absurd hh (by simp)
          |true=>
           rw[hc2]at hX;simp only[cond_true]at hX;have e0:errP c2= .sc .nilIface:=(by simp only[errP,hc2,cond_true]);rw[e0]at hck;replace Z:=U g2 (U g4 (U g5 (U g8 (U g9 (U g44 (U g59 (U r0 (U q3 (U o1 o2)))))))));(repeat'(first|refine G fun K J=>?_|refine uR Z ?_|refine uK ?_|refine uC1 Z ?_|(refine O J ?_;clear J)|apply zI));refine owp_useQ (hcp _) (by(try simp only[Ty.w,simprocAttr,g2,g4,g5,g8,g9,g44,r0,o1,o2,n1,n2,set_set]);try rfl) ?_;simp(maxSteps:=2000000) only[Ty.w,simprocAttr,g2,g4,g5,g8,g9,g44,r0,o1,o2,n1,n2,set_set];(repeat'(first|refine G fun K J=>?_|(refine a_block ?_)|((first|refine a_regionS ?_|refine a_region (fun K J=>?_));simp(maxSteps:=2000000) only[Ty.w,simprocAttr,g2,g4,g5,g8,g9,g44,r0,o1,o2,n1,n2,hq1,ht,Option.getD_some,Option.getD_none,Int.le_refl,Int.toNat_one])|(refine J _ _ ?_;clear J;(try simp only[pst0,simprocAttr]))));refine owp_useQ (hck _) (by(try simp only[Ty.w,simprocAttr,g2,g4,g5,g8,g9,g44,r0,o1,o2,n1,n2,hq1,ht,Option.getD_some,Option.getD_none,Int.le_refl,Int.toNat_one,set_set]);try rfl) ?_;simp(maxSteps:=2000000) only[Ty.w,simprocAttr,g2,g4,g5,g8,g9,g44,r0,o1,o2,n1,n2,hq1,ht,Option.getD_some,Option.getD_none,Int.le_refl,Int.toNat_one,set_set];(repeat'(refine J _ _ ?_;clear J;(try simp only[pst0,simprocAttr])));(try rw[set_set]);refine PJ.mk2 hpi c2 w ⟨#[]⟩ _ _ _ _ ?_ ?_ ?_ ?_ ?_ ?_
           ·simp only[Ty.w,simprocAttr,g2]
           ·simp only[Ty.w,simprocAttr,g8]
           ·simp only[Ty.w,simprocAttr];first|exact e0.symm|rfl
           ·exact ⟨rfl,rfl,rfl,rfl⟩
           ·intro hh;rw[hc2]at hh;exact absurd hh (by simp)
           ·subst hX;refine fun _=>⟨rfl,fun hh=>?_⟩;simp only[Fm.cells,FrzL];refine⟨?_,?_,?_,?_,?_,?_,trivial⟩<;>(unfold FrzTo;first|rfl|exact .inr (.inl ⟨rfl,.inr rfl⟩)|exact .inl ⟨rfl,strs_in _ _⟩|exact .inl ⟨rfl,pms_in _ _⟩|exact .inl ⟨rfl,fms_in _ _⟩)
       |false=>
        rw[hQ]at g59;simp only[fmBody,hQ,cond_false]at hX;replace Z:=U g2 (U g4 (U g5 (U g8 (U g9 (U g44 g59)))));(repeat'(first|refine a_hold 23 ?_|refine uC1 Z ?_|apply zI));refine⟨?_⟩;refine a_cut (fun S h2=>h2=h'∧S 2= .ptr h.next 0 0∧S 4=sPV w∧S 5= .imm 6 (Sx.rows rest)∧S 8= .ptr (h.next+1) 0 0∧S 9= .sc .nilIface∧S 44=sPV w∧S 87= .sc (.bool (isLst w))) ?_ ?_
        ·cases u1:(w.data.toList==(#[110,111,116]:Array UInt8).toList)with
         |true=>
          have hq:isLst w=true:=(by unfold isLst;simp[show bEq w opNot=true from u1]);rw[hq];replace Z:=U g2 (U g4 (U g5 (U g8 (U g9 (U g44 (U g59 u1))))));(repeat'(first|refine G fun K J=>?_|refine uR Z ?_|refine uK ?_|refine uC1 Z ?_|(refine O J ?_;clear J)|apply zI));all_goals first|rfl|(simp only[Ty.w,simprocAttr,g2,g4,g5,g8,g9,g44];done)
         |false=>
          cases u2:(w.data.toList==(#[105,109,112,108,121]:Array UInt8).toList)with
          |true=>
           have hq:isLst w=true:=(by unfold isLst;simp[show bEq w opNot=false from u1,show bEq w opImp=true from u2]);rw[hq];replace Z:=U g2 (U g4 (U g5 (U g8 (U g9 (U g44 (U g59 (U u1 u2)))))));(repeat'(first|refine G fun K J=>?_|refine uR Z ?_|refine uK ?_|refine uC1 Z ?_|(refine O J ?_;clear J)|apply zI));all_goals first|rfl|(simp only[Ty.w,simprocAttr,g2,g4,g5,g8,g9,g44];done)
          |false=>
           cases u3:(w.data.toList==(#[97,110,100]:Array UInt8).toList)with
           |true=>
            have hq:isLst w=true:=(by unfold isLst;simp[show bEq w opNot=false from u1,show bEq w opImp=false from u2,show bEq w opAnd=true from u3]);rw[hq];replace Z:=U g2 (U g4 (U g5 (U g8 (U g9 (U g44 (U g59 (U u1 (U u2 u3))))))));(repeat'(first|refine G fun K J=>?_|refine uR Z ?_|refine uK ?_|refine uC1 Z ?_|(refine O J ?_;clear J)|apply zI));all_goals first|rfl|(simp only[Ty.w,simprocAttr,g2,g4,g5,g8,g9,g44];done)
           |false=>
            cases u4:(w.data.toList==(#[111,114]:Array UInt8).toList)with
            |true=>
             have hq:isLst w=true:=(by unfold isLst;simp[show bEq w opNot=false from u1,show bEq w opImp=false from u2,show bEq w opAnd=false from u3,show bEq w opOr=true from u4]);rw[hq];replace Z:=U g2 (U g4 (U g5 (U g8 (U g9 (U g44 (U g59 (U u1 (U u2 (U u3 u4)))))))));(repeat'(first|refine G fun K J=>?_|refine uR Z ?_|refine uC1 Z ?_|(refine O J ?_;clear J)|apply zI));all_goals first|rfl|(simp only[Ty.w,simprocAttr,g2,g4,g5,g8,g9,g44];done)
            |false=>
             have hq:isLst w=false:=(by unfold isLst;simp[show bEq w opNot=false from u1,show bEq w opImp=false from u2,show bEq w opAnd=false from u3,show bEq w opOr=false from u4]);rw[hq];replace Z:=U g2 (U g4 (U g5 (U g8 (U g9 (U g44 (U g59 (U u1 (U u2 (U u3 u4)))))))));(repeat'(first|refine G fun K J=>?_|refine uR Z ?_|refine uC1 Z ?_|(refine O J ?_;clear J)|apply zI));all_goals first|rfl|(simp only[Ty.w,simprocAttr,g2,g4,g5,g8,g9,g44];done)
        ·(try clear Z);clear g2 g4 g5 g8 g9 g44 g59;rintro S h' ⟨rfl,g2,g4,g5,g8,g9,g44,g87⟩;cases hL:isLst w with
         |true=>
          rw[hL]at g87 hX;simp only[cond_true]at hX;have hck:=fun h=>kids_c (l:=rest) hrl ihr h;generalize fmPs rest=KK at hck hX;obtain⟨ks,c2⟩:=KK;simp only at hck hX;cases hc2:c2==0 with
          |false=>
           rw[hc2]at hX;simp only[cond_false]at hX;have e0:errP c2=errV c2:=(by simp only[errP,hc2,cond_false]);rw[e0]at hck;simp only[errV]at hck e0;replace Z:=U g2 (U g4 (U g5 (U g8 (U g9 (U g44 (U g87 (U o1 o2)))))));(repeat'(first|refine uQ Z fun K J=>?_|refine uC1 Z ?_|apply zI));refine owp_useQ (hck _) (by(try simp only[Ty.w,simprocAttr,g2,g4,g5,g8,g9,g44,g87,o1,o2,n1,n2,set_set]);try rfl) ?_;simp(maxSteps:=2000000) only[Ty.w,simprocAttr,g2,g4,g5,g8,g9,g44,g87,o1,o2,n1,n2,set_set];replace Z:=U g2 (U g4 (U g5 (U g8 (U g9 (U g44 (U g87 (U o1 (U o2 (U n1 n2)))))))));(repeat'(first|(refine O J ?_;clear J)|apply zI));refine PJ.mk2 hpi c2 w ⟨#[]⟩ _ _ _ _ ?_ ?_ ?_ ?_ ?_ ?_
           ·simp only[Ty.w,simprocAttr,g2]
           ·simp only[Ty.w,simprocAttr,g8]
           ·simp only[Ty.w,simprocAttr];first|exact e0.symm|rfl
           ·exact ⟨rfl,rfl,rfl,rfl⟩
           ·exact fun _=>hX
           ·intro hh;rw[hc2]at hh;exact absurd hh (by simp)
          |true=>
           rw[hc2]at hX;simp only[cond_true]at hX;have e0:errP c2= .sc .nilIface:=(by simp only[errP,hc2,cond_true]);rw[e0]at hck;replace Z:=U g2 (U g4 (U g5 (U g8 (U g9 (U g44 (U g87 (U o1 o2)))))));(repeat'(first|refine uQ Z fun K J=>?_|refine uC1 Z ?_|apply zI));refine owp_useQ (hck _) (by(try simp only[Ty.w,simprocAttr,g2,g4,g5,g8,g9,g44,g87,o1,o2,n1,n2,set_set]);try rfl) ?_;simp(maxSteps:=2000000) only[Ty.w,simprocAttr,g2,g4,g5,g8,g9,g44,g87,o1,o2,n1,n2,set_set];replace Z:=U g2 (U g4 (U g5 (U g8 (U g9 (U g44 (U g87 (U o1 (U o2 (U n1 n2)))))))));(repeat'(first|(refine O J ?_;clear J)|apply zI));refine PJ.mk2 hpi c2 w ⟨#[]⟩ _ _ _ _ ?_ ?_ ?_ ?_ ?_ ?_
           ·simp only[Ty.w,simprocAttr,g2]
           ·simp only[Ty.w,simprocAttr,g8]
           ·simp only[Ty.w,simprocAttr];first|exact e0.symm|rfl
           ·exact ⟨rfl,rfl,rfl,rfl⟩
           ·intro hh;rw[hc2]at hh;exact absurd hh (by simp)
           ·subst hX;refine fun _=>⟨rfl,fun hh=>?_⟩;simp only[Fm.cells,FrzL];refine⟨?_,?_,?_,?_,?_,?_,trivial⟩<;>(unfold FrzTo;first|rfl|exact .inr (.inl ⟨rfl,.inr rfl⟩)|exact .inl ⟨rfl,strs_in _ _⟩|exact .inl ⟨rfl,pms_in _ _⟩|exact .inl ⟨rfl,fms_in _ _⟩)
         |false=>
          rw[hL]at g87 hX;simp only[cond_false]at hX;replace Z:=U g2 (U g4 (U g5 (U g8 (U g9 (U g44 g87)))));(repeat'(first|refine a_hold 28 ?_|refine uC1 Z ?_|apply zI));refine⟨?_⟩;refine a_cut (fun S h2=>h2=h'∧S 2= .ptr h.next 0 0∧S 4=sPV w∧S 5= .imm 6 (Sx.rows rest)∧S 8= .ptr (h.next+1) 0 0∧S 9= .sc .nilIface∧S 44=sPV w∧S 98= .sc (.bool (isCmp5 w))) ?_ ?_
          ·cases u1:(w.data.toList==(#[61]:Array UInt8).toList)with
           |true=>
            have hq:isCmp5 w=true:=(by unfold isCmp5 isCmp;simp[show bEq w opEq=true from u1]);rw[hq];replace Z:=U g2 (U g4 (U g5 (U g8 (U g9 (U g44 (U g87 u1))))));(repeat'(first|refine G fun K J=>?_|refine uR Z ?_|refine uK ?_|refine uC1 Z ?_|(refine O J ?_;clear J)|apply zI));all_goals first|rfl|(simp only[Ty.w,simprocAttr,g2,g4,g5,g8,g9,g44];done)
           |false=>
            cases u2:(w.data.toList==(#[60]:Array UInt8).toList)with
            |true=>
             have hq:isCmp5 w=true:=(by unfold isCmp5 isCmp;simp[show bEq w opEq=false from u1,show bEq w opLt=true from u2]);rw[hq];replace Z:=U g2 (U g4 (U g5 (U g8 (U g9 (U g44 (U g87 (U u1 u2)))))));(repeat'(first|refine G fun K J=>?_|refine uR Z ?_|refine uK ?_|refine uC1 Z ?_|(refine O J ?_;clear J)|apply zI));all_goals first|rfl|(simp only[Ty.w,simprocAttr,g2,g4,g5,g8,g9,g44];done)
            |false=>
             cases u3:(w.data.toList==(#[60,61]:Array UInt8).toList)with
             |true=>
              have hq:isCmp5 w=true:=(by unfold isCmp5 isCmp;simp[show bEq w opEq=false from u1,show bEq w opLt=false from u2,show bEq w opLe=true from u3]);rw[hq];replace Z:=U g2 (U g4 (U g5 (U g8 (U g9 (U g44 (U g87 (U u1 (U u2 u3))))))));(repeat'(first|refine G fun K J=>?_|refine uR Z ?_|refine uK ?_|refine uC1 Z ?_|(refine O J ?_;clear J)|apply zI));all_goals first|rfl|(simp only[Ty.w,simprocAttr,g2,g4,g5,g8,g9,g44];done)
             |false=>
              cases u4:(w.data.toList==(#[62]:Array UInt8).toList)with
              |true=>
               have hq:isCmp5 w=true:=(by unfold isCmp5 isCmp;simp[show bEq w opEq=false from u1,show bEq w opLt=false from u2,show bEq w opLe=false from u3,show bEq w opGt=true from u4]);rw[hq];replace Z:=U g2 (U g4 (U g5 (U g8 (U g9 (U g44 (U g87 (U u1 (U u2 (U u3 u4)))))))));(repeat'(first|refine G fun K J=>?_|refine uR Z ?_|refine uK ?_|refine uC1 Z ?_|(refine O J ?_;clear J)|apply zI));all_goals first|rfl|(simp only[Ty.w,simprocAttr,g2,g4,g5,g8,g9,g44];done)
              |false=>
               cases u5:(w.data.toList==(#[62,61]:Array UInt8).toList)with
               |true=>
                have hq:isCmp5 w=true:=(by unfold isCmp5 isCmp;simp[show bEq w opEq=false from u1,show bEq w opLt=false from u2,show bEq w opLe=false from u3,show bEq w opGt=false from u4,show bEq w opGe=true from u5]);rw[hq];replace Z:=U g2 (U g4 (U g5 (U g8 (U g9 (U g44 (U g87 (U u1 (U u2 (U u3 (U u4 u5))))))))));(repeat'(first|refine G fun K J=>?_|refine uR Z ?_|refine uC1 Z ?_|(refine O J ?_;clear J)|apply zI));all_goals first|rfl|(simp only[Ty.w,simprocAttr,g2,g4,g5,g8,g9,g44];done)
               |false=>
                have hq:isCmp5 w=false:=(by unfold isCmp5 isCmp;simp[show bEq w opEq=false from u1,show bEq w opLt=false from u2,show bEq w opLe=false from u3,show bEq w opGt=false from u4,show bEq w opGe=false from u5]);rw[hq];replace Z:=U g2 (U g4 (U g5 (U g8 (U g9 (U g44 (U g87 (U u1 (U u2 (U u3 (U u4 u5))))))))));(repeat'(first|refine G fun K J=>?_|refine uR Z ?_|refine uC1 Z ?_|(refine O J ?_;clear J)|apply zI));all_goals first|rfl|(simp only[Ty.w,simprocAttr,g2,g4,g5,g8,g9,g44];done)
          ·(try clear Z);clear g2 g4 g5 g8 g9 g44 g87;rintro S h' ⟨rfl,g2,g4,g5,g8,g9,g44,g98⟩;cases hC:isCmp5 w with
           |true=>
            rw[hC]at g98 hX;simp only[cond_true]at hX;obtain⟨x,y,rfl⟩: ∃ x y,rest=[x,y]:=by
             have h2:=count_two (.inr hC) hcnt
             match rest,h2 with
             |[p,b],_=>exact⟨p,b,rfl⟩
            simp only at hX;have hcc:=fun h=>compare_c (w:=w) (hro x (by simp)) (hro y (by simp)) (expr_c x (hro x (by simp)) (hsr x (by simp))) (expr_c y (hro y (by simp)) (hsr y (by simp))) h;have hfz:=fun hh=>fm_frz h.next hh (compareP w x y).1
            generalize compareP w x y=CC at hcc hX hfz;obtain⟨f,c⟩:=CC;simp only at hcc hfz;have r0:=Sx.rows_get (l:=[x,y]) (i:=0) rfl;have r1:=Sx.rows_get (l:=[x,y]) (i:=1) rfl;generalize Sx.rows [x,y]=R at g5 r0 r1 hlr;obtain⟨xk,xv,xl,xc,xt,xks⟩:=x;obtain⟨yk,yv,yl,yc,yt,yks⟩:=y;obtain⟨fop,fna,far,fpa,fex,fki⟩:=f;simp only[Sx.cells]at r0 r1 hcc;simp only[Fm.cells]at hcc hfz;cases hc2:c==0 with
            |false=>
             simp only[fin,hc2,cond_false]at hX;have e0:errP c=errV c:=(by simp only[errP,hc2,cond_false]);rw[e0]at hcc;simp only[errV]at hcc e0;replace Z:=U g2 (U g4 (U g5 (U g8 (U g9 (U g44 (U g98 (U r0 (U r1 (U o1 o2)))))))));repeat'(first|refine uE Z fun K J=>?_|refine uC1 Z ?_|apply zI)
             (first|refine a_dcall0 (hcc _) (by(try simp only[Ty.w,simprocAttr,g2,g4,g5,g8,g9,g44,g98,r0,r1,o1,o2,n1,n2,set_set]);try rfl) ?_|refine a_dcallA (hcc _) (by(try simp only[Ty.w,simprocAttr,g2,g4,g5,g8,g9,g44,g98,r0,r1,o1,o2,n1,n2,set_set]);try rfl) (by simp only[Ty.w,simprocAttr,g2,g4,g5,g8,g9,g44,g98,r0,r1,o1,o2,n1,n2,set_set];try trivial) ?_);simp(maxSteps:=2000000) only[Ty.w,simprocAttr,Option.getD_some,g2,g4,g5,g8,g9,g44,g98,r0,r1,o1,o2,n1,n2,set_set]
             replace Z:=U g2 (U g4 (U g5 (U g8 (U g9 (U g44 (U g98 (U o1 (U o2 (U n1 n2)))))))));(repeat'(first|(refine O J ?_;clear J)|refine uB Z ?_|apply zI));refine PJ.mk2 hpi c fop fna _ _ _ _ ?_ ?_ ?_ ?_ ?_ ?_
             ·simp only[Ty.w,simprocAttr,g2]
             ·simp only[Ty.w,simprocAttr,g8]
             ·simp only[Ty.w,simprocAttr];first|exact e0.symm|rfl
             ·exact ⟨rfl,rfl,rfl,rfl⟩
             ·exact fun _=>hX
             ·intro hh;rw[hc2]at hh;exact absurd hh (by simp)
            |true=>
             simp only[fin,hc2,cond_true]at hX;have e0:errP c= .sc .nilIface:=(by simp only[errP,hc2,cond_true]);rw[e0]at hcc;replace Z:=U g2 (U g4 (U g5 (U g8 (U g9 (U g44 (U g98 (U r0 (U r1 (U o1 o2)))))))));repeat'(first|refine uE Z fun K J=>?_|refine uC1 Z ?_|apply zI)
             (first|refine a_dcall0 (hcc _) (by(try simp only[Ty.w,simprocAttr,g2,g4,g5,g8,g9,g44,g98,r0,r1,o1,o2,n1,n2,set_set]);try rfl) ?_|refine a_dcallA (hcc _) (by(try simp only[Ty.w,simprocAttr,g2,g4,g5,g8,g9,g44,g98,r0,r1,o1,o2,n1,n2,set_set]);try rfl) (by simp only[Ty.w,simprocAttr,g2,g4,g5,g8,g9,g44,g98,r0,r1,o1,o2,n1,n2,set_set];try trivial) ?_);simp(maxSteps:=2000000) only[Ty.w,simprocAttr,Option.getD_some,g2,g4,g5,g8,g9,g44,g98,r0,r1,o1,o2,n1,n2,set_set]
             replace Z:=U g2 (U g4 (U g5 (U g8 (U g9 (U g44 (U g98 (U o1 (U o2 (U n1 n2)))))))));(repeat'(first|(refine O J ?_;clear J)|refine uB Z ?_|apply zI));refine PJ.mk2 hpi c fop fna _ _ _ _ ?_ ?_ ?_ ?_ ?_ ?_
             ·simp only[Ty.w,simprocAttr,g2]
             ·simp only[Ty.w,simprocAttr,g8]
             ·simp only[Ty.w,simprocAttr];first|exact e0.symm|rfl
             ·exact ⟨rfl,rfl,rfl,rfl⟩
             ·intro hh;rw[hc2]at hh;exact absurd hh (by simp)
             ·subst hX;exact fun _=>⟨by simpa using hc2,fun hh=>by simpa only[Fm.cells]using hfz hh⟩
           |false=>
            rw[hC]at g98 hX;simp only[cond_false]at hX;have hw':w.size≤9223372036854775807:=(by unfold bigN at hw;omega);have hn:=fun h:Heap=>fname_c (h:=h) hw';cases hN1:nameB w with
            |false=>
             rw[hN1]at hn hX;simp only[cond_false]at hX;replace Z:=U g2 (U g4 (U g5 (U g8 (U g9 (U g44 (U g98 (U o1 o2)))))));(repeat'(first|refine G fun K J=>?_|refine uR Z ?_|refine uC1 Z ?_|apply zI));replace Z:=U g2 (U g4 (U g5 (U g8 (U g9 (U g44 g98)))));refine uU Z (hn _) ?_;replace Z:=U g2 (U g4 (U g5 (U g8 (U g9 (U g44 (U g98 (U o1 (U o2 @Bool.not_false))))))));(repeat'(first|refine G fun K J=>?_|refine uR Z ?_|refine uT Z ?_|(refine O J ?_;clear J)|apply zI));exact errRet (.inr rfl) (hpi.grow.set (Nat.le_refl _) _) hX
            |true=>
             rw[hN1]at hn hX;simp only[cond_true]at hX;have ht:=fun h:Heap=>terms_c hrl hro h;generalize termsM rest=T at ht hX;obtain⟨t,c⟩:=T;simp only at ht hX;cases hc2:c==0 with
             |false=>
              rw[hc2]at hX;simp only[cond_false]at hX;have e0:errP c=errV c:=(by simp only[errP,hc2,cond_false]);rw[e0]at ht;simp only[errV]at ht e0;replace Z:=U g2 (U g4 (U g5 (U g8 (U g9 (U g44 (U g98 (U o1 o2)))))));(repeat'(first|refine G fun K J=>?_|refine uR Z ?_|refine uC1 Z ?_|apply zI));replace Z:=U g2 (U g4 (U g5 (U g8 (U g9 (U g44 g98)))));refine uU Z (hn _) ?_;replace Z:=U g2 (U g4 (U g5 (U g8 (U g9 (U g44 (U o1 (U o2 (U n1 (U n2 @Bool.not_true)))))))));(repeat'(first|refine G fun K J=>?_|refine uR Z ?_|refine uQ Z fun K J=>?_|refine uK ?_|refine uC1 Z ?_|(refine O J ?_;clear J)|apply zI));refine owp_useQ (ht _) (by(try simp only[Ty.w,simprocAttr,g2,g4,g5,g8,g9,g44,o1,o2,n1,n2,set_set]);try rfl) ?_;simp(maxSteps:=2000000) only[Ty.w,simprocAttr,g2,g4,g5,g8,g9,g44,o1,o2,n1,n2,set_set];(repeat'(refine J _ _ ?_;clear J;(try simp only[pst0,simprocAttr])));(try simp only[set_set]);refine PJ.mk2 hpi c ⟨#[97,116,111,109]⟩ w _ _ _ _ ?_ ?_ ?_ ?_ ?_ ?_
              ·simp only[Ty.w,simprocAttr,g2]
              ·simp only[Ty.w,simprocAttr,g8]
              ·simp only[Ty.w,simprocAttr];first|exact e0.symm|rfl
              ·exact ⟨rfl,rfl,rfl,rfl⟩
              ·exact fun _=>hX
              ·intro hh;rw[hc2]at hh;exact absurd hh (by simp)
             |true=>
              rw[hc2]at hX;simp only[cond_true]at hX;have e0:errP c= .sc .nilIface:=(by simp only[errP,hc2,cond_true]);rw[e0]at ht;replace Z:=U g2 (U g4 (U g5 (U g8 (U g9 (U g44 (U g98 (U o1 o2)))))));(repeat'(first|refine G fun K J=>?_|refine uR Z ?_|refine uC1 Z ?_|apply zI));replace Z:=U g2 (U g4 (U g5 (U g8 (U g9 (U g44 g98)))));refine uU Z (hn _) ?_;replace Z:=U g2 (U g4 (U g5 (U g8 (U g9 (U g44 (U o1 (U o2 (U n1 (U n2 @Bool.not_true)))))))));(repeat'(first|refine G fun K J=>?_|refine uR Z ?_|refine uQ Z fun K J=>?_|refine uK ?_|refine uC1 Z ?_|(refine O J ?_;clear J)|apply zI));refine owp_useQ (ht _) (by(try simp only[Ty.w,simprocAttr,g2,g4,g5,g8,g9,g44,o1,o2,n1,n2,set_set]);try rfl) ?_;simp(maxSteps:=2000000) only[Ty.w,simprocAttr,g2,g4,g5,g8,g9,g44,o1,o2,n1,n2,set_set];(repeat'(refine J _ _ ?_;clear J;(try simp only[pst0,simprocAttr])));(try simp only[set_set]);refine PJ.mk2 hpi c ⟨#[97,116,111,109]⟩ w _ _ _ _ ?_ ?_ ?_ ?_ ?_ ?_
              ·simp only[Ty.w,simprocAttr,g2]
              ·simp only[Ty.w,simprocAttr,g8]
              ·simp only[Ty.w,simprocAttr];first|exact e0.symm|rfl
              ·exact ⟨rfl,rfl,rfl,rfl⟩
              ·intro hh;rw[hc2]at hh;exact absurd hh (by simp)
              ·subst hX;refine fun _=>⟨rfl,fun hh=>?_⟩;simp only[Fm.cells,FrzL];refine⟨?_,?_,?_,?_,?_,?_,trivial⟩<;>(unfold FrzTo;first|rfl|exact .inr (.inl ⟨rfl,.inr rfl⟩)|exact .inl ⟨rfl,strs_in _ _⟩|exact .inl ⟨rfl,pms_in _ _⟩|exact .inl ⟨rfl,fms_in _ _⟩)
     ·(try clear Z);clear g2 g4 g5 g8 g9 hpi;rintro S h' ⟨g2,g8,hg,c,a,b,p2,p3,p4,p5,g9,o1,o2,⟨z2,z3,z4,z5⟩,hc,hd⟩;simp only[fmZ]at o1;cases hcc:c==0 with
      |false=>
       have hF:=hc hcc;have e0:errP c=errV c:=(by simp only[errP,hcc,cond_false]);rw[e0]at g9;simp only[errV]at g9;subst hF;rw[e0];simp only[errV];replace Z:=U g2 (U g8 (U g9 (U o1 o2)));(repeat'(first|refine G fun K J=>?_|refine uR Z ?_|refine uT Z ?_|(refine O J ?_;clear J)|apply zI));refine⟨?_,hg.set (Nat.le_refl _) _⟩;simp only[zeroFm,Fm.cells,Ex.rows,Fm.rows,pmRows,strRows,List.map_nil,FrzTo,FrzL];exact⟨_,rfl,⟨_,rfl,rfl,rfl,.inr (.inl ⟨rfl,.inr rfl⟩),.inr (.inl ⟨rfl,.inr rfl⟩),.inr (.inl ⟨rfl,.inr rfl⟩),.inr (.inl ⟨rfl,.inr rfl⟩),trivial⟩,rfl,trivial⟩
      |true=>
       have hF:=hd hcc;have e0:errP c= .sc .nilIface:=(by simp only[errP,hcc,cond_true]);rw[e0]at g9;have e2:errP F.2= .sc .nilIface:=(by rw[hF.1];try rfl);rw[e2];replace Z:=U g2 (U g8 (U g9 (U o1 (U o2 (U z2 (U z3 (U z4 z5)))))));(repeat'(first|refine G fun K J=>?_|refine uR Z ?_|refine uT Z ?_|refine uK ?_|refine uC1 Z ?_|(refine O J ?_;clear J)|apply zI));refine⟨?_,hg.set (Nat.le_refl _) _⟩;have h1:=hF.2 (h'.set h.next (.arr 6 [[sPV a,sPV b,p2,p3,p4,p5]]));unfold FrzTo;refine⟨_,rfl,?_⟩;unfold FrzL;refine⟨?_,by unfold FrzL;exact⟨by simp only[FrzTo],by simp only[FrzL]⟩⟩;unfold FrzTo;exact⟨_,rfl,h1⟩
set_option maxHeartbeats 4000000
theorem parse_c: ∀ x:Sx,x.ok→x.small→ ∀ h:Heap,PCall Tryz.prog 169 [.agg x.cells] h fun r h'=>r= .tup [.agg (fmP x).1.cells,errP (fmP x).2]∧h'=h:=by
 refine Sx.ind ?_;intro kind value line col text kids ih hok hsm h;have hok':=hok;simp only[Sx.ok]at hok';obtain⟨_,_,_,_,hks⟩:=hok';rw[Sx.oks_iff]at hks;have hsm':=hsm;simp only[Sx.small]at hsm';have hss:=hsm'.2;rw[Sx.smalls_iff]at hss;exact parse_step hok hsm (fun x hx=>ih x hx (hks x hx) (hss x hx)) h
theorem Parse_c{x:Sx}(hok:x.ok)(h:Heap):PCall Tryz.prog 148 [.agg x.cells] h fun r h'=>r= .tup [.agg (parseF x).1.cells,errP (parseF x).2]∧h'=h:=by
 refine PCall.frz Ty.hb_148 ?_;have hv:=fun h:Heap=>svalid_c hok h;have hX:parseF x=(if(svalid x 0 0).1=true then(if(fmP x).2=0 then(if validF (fmP x).1=true then((fmP x).1,0)else(zeroFm,5))else(zeroFm,(fmP x).2))else(zeroFm,2)):=rfl;generalize parseF x=F at hX;have bad: ∀ (c:Int)(h':Heap),(c==0)=false→Grow h h'→F=(zeroFm,c)→FrzTo h.next h' (.tup [.agg F.1.cells,errP F.2]) (.tup [.agg [.sc (.string ⟨#[]⟩),.sc (.string ⟨#[]⟩),.sc (.slice none 0 0),.sc (.slice none 0 0),.sc (.slice none 0 0),.sc (.slice none 0 0)],errV c])∧Grow h h':=by
  intro c h' hc hg hF;subst hF;have:errP c=errV c:=by simp only[errP,hc,cond_false]
  simp only[this];refine⟨?_,hg⟩;simp only[errV,zeroFm,Fm.cells,Ex.rows,Fm.rows,pmRows,strRows,List.map_nil,FrzTo,FrzL];exact⟨_,rfl,⟨_,rfl,rfl,rfl,.inr (.inl ⟨rfl,.inr rfl⟩),.inr (.inl ⟨rfl,.inr rfl⟩),.inr (.inl ⟨rfl,.inr rfl⟩),.inr (.inl ⟨rfl,.inr rfl⟩),trivial⟩,rfl,trivial⟩
 simp only[errV]at bad;have hg1: ∀ r,Grow h ((h.new (.arr 6 [[.sc (.string ⟨#[]⟩),.sc (.string ⟨#[]⟩),.sc (.slice none 0 0),.sc (.slice none 0 0),.sc (.slice none 0 0),.sc (.slice none 0 0)]])).set h.next r):=fun r=>((Grow.refl h).new _).set (Nat.le_refl _) _;have hg2: ∀ o1 o2 r,Grow h ((((h.new (.arr 6 [[.sc (.string ⟨#[]⟩),.sc (.string ⟨#[]⟩),.sc (.slice none 0 0),.sc (.slice none 0 0),.sc (.slice none 0 0),.sc (.slice none 0 0)]])).new o1).set (h.next+1) o2).set h.next r):=fun o1 o2 r=>((((Grow.refl h).new _).new _).set (Nat.le_succ _) _).set (Nat.le_refl _) _;have n1:(h.next=h.next+1)=False:=by simp
 cases v1:(svalid x 0 0).1 with
 |false=>
  rw[v1]at hv;rw[if_neg (by rw[v1];simp)]at hX;obtain⟨kind,value,line,col,text,kids⟩:=x;simp only[Sx.cells]at hv⊢;refine uG0 Tryz.func148 Tryz.ntmps148 Tryz.results148 Ty.hb_148 ?_;repeat'(first|refine G fun K J=>?_|refine uR trivial ?_|(refine O J ?_;clear J)|apply zI)
  refine uU trivial (hv _) ?_;repeat'(first|refine G fun K J=>?_|refine uR @Bool.not_false ?_|refine uT @Bool.not_false ?_|(refine O J ?_;clear J)|apply zI)
  exact bad 2 _ rfl (hg1 _) hX
 |true=>
  have hsm:=svalid_small v1;have hp:=parse_c x hok hsm;have hfo:=fmP_ok x hok hsm;rw[v1]at hv;rw[if_pos v1]at hX;have hfz:=fun n hh=>fm_frz n hh (fmP x).1;generalize fmP x=E at hp hfo hX hfz;obtain⟨f,c⟩:=E;simp only at hp hfo hX hfz;obtain⟨kind,value,line,col,text,kids⟩:=x;simp only[Sx.cells]at hv hp⊢;cases hc:c==0 with
  |false=>
   rw[if_neg (by simpa using hc)]at hX;have e0:errP c=errV c:=(by simp only[errP,hc,cond_false]);rw[e0]at hp;simp only[errV]at hp;obtain⟨fop,fna,far,fpa,fex,fki⟩:=f;simp only[Fm.cells]at hp;refine uG0 Tryz.func148 Tryz.ntmps148 Tryz.results148 Ty.hb_148 ?_;(repeat'(first|refine G fun K J=>?_|refine uR trivial ?_|(refine O J ?_;clear J)|apply zI));refine uU trivial (hv _) ?_;(repeat'(first|refine G fun K J=>?_|refine uR @Bool.not_true ?_|refine uK ?_|refine uC1 @Bool.not_true ?_|(refine O J ?_;clear J)|apply zI));refine uU trivial (hp _) ?_;replace Z:=U n1 @nsucc;(repeat'(first|refine G fun K J=>?_|refine uR Z ?_|refine uT Z ?_|(refine O J ?_;clear J)|apply zI));exact bad c _ hc (hg2 _ _ _) hX
  |true=>
   rw[if_pos (by simpa using hc)]at hX;have e0:errP c= .sc .nilIface:=(by simp only[errP,hc,cond_true]);rw[e0]at hp;have hV:=fun h:Heap=>fvalid_c hfo.1 hfo.2 h;cases v2:validF f with
   |false=>
    rw[v2]at hV;rw[if_neg (by rw[v2];simp)]at hX;obtain⟨fop,fna,far,fpa,fex,fki⟩:=f;simp only[Fm.cells]at hp hV;refine uG0 Tryz.func148 Tryz.ntmps148 Tryz.results148 Ty.hb_148 ?_;(repeat'(first|refine G fun K J=>?_|refine uR trivial ?_|(refine O J ?_;clear J)|apply zI));refine uU trivial (hv _) ?_;(repeat'(first|refine G fun K J=>?_|refine uR @Bool.not_true ?_|refine uK ?_|refine uC1 @Bool.not_true ?_|(refine O J ?_;clear J)|apply zI));refine uU trivial (hp _) ?_;replace Z:=U n1 @nsucc;(repeat'(first|refine G fun K J=>?_|refine uR Z ?_|refine uK ?_|refine uC1 Z ?_|(refine O J ?_;clear J)|apply zI));refine uU (U n1 @nsucc) (hV _) ?_;replace Z:=U n1 (U @nsucc @Bool.not_false);(repeat'(first|refine G fun K J=>?_|refine uR Z ?_|refine uT Z ?_|(refine O J ?_;clear J)|apply zI));exact bad 5 _ rfl (hg2 _ _ _) hX
   |true=>
    rw[v2]at hV;rw[if_pos v2]at hX;subst hX;obtain⟨fop,fna,far,fpa,fex,fki⟩:=f;simp only[Fm.cells]at hp hV hfz;have e2:errP 0= .sc .nilIface:=rfl;simp only[e2,Fm.cells];refine uG0 Tryz.func148 Tryz.ntmps148 Tryz.results148 Ty.hb_148 ?_;(repeat'(first|refine G fun K J=>?_|refine uR trivial ?_|(refine O J ?_;clear J)|apply zI));refine uU trivial (hv _) ?_;(repeat'(first|refine G fun K J=>?_|refine uR @Bool.not_true ?_|refine uK ?_|refine uC1 @Bool.not_true ?_|(refine O J ?_;clear J)|apply zI));refine uU trivial (hp _) ?_;replace Z:=U n1 @nsucc;(repeat'(first|refine G fun K J=>?_|refine uR Z ?_|refine uK ?_|refine uC1 Z ?_|(refine O J ?_;clear J)|apply zI));refine uU (U n1 @nsucc) (hV _) ?_;replace Z:=U n1 (U @nsucc @Bool.not_true);(repeat'(first|refine G fun K J=>?_|refine uR Z ?_|refine uT Z ?_|refine uK ?_|refine uC1 Z ?_|(refine O J ?_;clear J)|apply zI));refine⟨?_,hg2 _ _ _⟩;have h1:=fun hh=>hfz h.next hh
    unfold FrzTo;refine⟨_,rfl,?_⟩;unfold FrzL;refine⟨?_,by unfold FrzL;exact⟨by simp only[FrzTo],by simp only[FrzL]⟩⟩;unfold FrzTo;exact⟨_,rfl,h1 _⟩
end Go.Proofs.YtblgchkahpgdjaaGreat
namespace Go.AM
mutual
def Nz:PV→PV→Prop
 | .imm z rows,p=>(∃ rows',p= .imm z rows'∧NzR rows rows')∨(rows=[]∧(p= .emp∨p= .sc (.slice none 0 0)))
 | .agg l,p=> ∃ l',p= .agg l'∧NzL l l'
 |q,p=>p=q
def NzL:List PV→List PV→Prop
 |[],[]=>True
 |p::ps,q::qs=>Nz p q∧NzL ps qs
 |_,_=>False
def NzR:List (List PV)→List (List PV)→Prop
 |[],[]=>True
 |p::ps,q::qs=>NzL p q∧NzR ps qs
 |_,_=>False
end
theorem NzL.len:(l l':List PV)→NzL l l'→l.length=l'.length
 |[],[],_=>rfl
 |[],_::_,h=>by simp[NzL]at h
 |_::_,[],h=>by simp[NzL]at h
 |p::l,q::l',h=>by
  unfold NzL at h;simp only[List.length_cons,NzL.len l l' h.2]
theorem NzR.len:(l l':List (List PV))→NzR l l'→l.length=l'.length
 |[],[],_=>rfl
 |[],_::_,h=>by simp[NzR]at h
 |_::_,[],h=>by simp[NzR]at h
 |p::l,q::l',h=>by
  unfold NzR at h;simp only[List.length_cons,NzR.len l l' h.2]
mutual
theorem Nz.refl:(p:PV)→Nz p p
 | .imm z rows=>by unfold Nz;exact .inl ⟨rows,rfl,NzR.refl rows⟩
 | .agg l=>by unfold Nz;exact⟨l,rfl,NzL.refl l⟩
 | .sc v=>by unfold Nz;rfl
 | .ptr _ _ _=>by unfold Nz;rfl
 | .cptr _=>by unfold Nz;rfl
 | .own _ _ _=>by unfold Nz;rfl
 | .emp=>by unfold Nz;rfl
 | .mp _=>by unfold Nz;rfl
 | .tup _=>by unfold Nz;rfl
 | .fn _ _ _=>by unfold Nz;rfl
 | .ab _ _ _ _ _=>by unfold Nz;rfl
theorem NzL.refl:(l:List PV)→NzL l l
 |[]=>by unfold NzL;trivial
 |p::l=>by unfold NzL;exact⟨Nz.refl p,NzL.refl l⟩
theorem NzR.refl:(l:List (List PV))→NzR l l
 |[]=>by unfold NzR;trivial
 |p::l=>by unfold NzR;exact⟨NzL.refl p,NzR.refl l⟩
end
section
variable {β:Env}{n:Nat}{F:Nat→Prop}{w:World}
mutual
theorem Nz.rep:(q p:PV)→(x:Value)→Nz q p→Rep β n F w p x→Rep β n F w q x
 | .imm z rows,p,x,h,hr=>by
  unfold Nz at h;rcases h with⟨rows',rfl,hR⟩|⟨rfl,rfl|rfl⟩
  ·simp only[Rep]at hr⊢;have hl:=NzR.len rows rows' hR;obtain⟨a,cap,rfl,g1,g2,g3⟩:=hr;refine⟨a,cap,by rw[hl],by omega,g2,?_⟩;rcases g3 with g3|⟨b,o,hF,ha,hRR⟩
   ·left;rw[g3]at hl;exact List.length_eq_zero_iff.1 hl
   ·exact .inr ⟨b,o,hF,ha,NzR.rep z rows rows' b o hR hRR⟩
  ·simp only[Rep]at hr⊢;obtain⟨a,rfl⟩:=hr;exact⟨a,0,rfl,Nat.le_refl _,Nat.zero_le _,.inl trivial⟩
  ·simp only[Rep]at hr⊢;exact⟨none,0,hr,Nat.le_refl _,Nat.zero_le _,.inl trivial⟩
 | .agg l,p,x,h,hr=>by
  unfold Nz at h;obtain⟨l',rfl,hl⟩:=h;simp only[Rep]at hr⊢;obtain⟨xs,rfl,h1,h2⟩:=hr;exact⟨xs,rfl,h1,NzL.rep l l' xs hl h2⟩
 | .sc _,p,x,h,hr=>by unfold Nz at h;subst h;exact hr
 | .ptr _ _ _,p,x,h,hr=>by unfold Nz at h;subst h;exact hr
 | .cptr _,p,x,h,hr=>by unfold Nz at h;subst h;exact hr
 | .own _ _ _,p,x,h,hr=>by unfold Nz at h;subst h;exact hr
 | .emp,p,x,h,hr=>by unfold Nz at h;subst h;exact hr
 | .mp _,p,x,h,hr=>by unfold Nz at h;subst h;exact hr
 | .tup _,p,x,h,hr=>by unfold Nz at h;subst h;exact hr
 | .fn _ _ _,p,x,h,hr=>by unfold Nz at h;subst h;exact hr
 | .ab _ _ _ _ _,p,x,h,hr=>by unfold Nz at h;subst h;exact hr
theorem NzL.rep:(l l':List PV)→(xs:List Value)→NzL l l'→RepL β n F w l' xs→RepL β n F w l xs
 |[],[],xs,_,hr=>hr
 |[],_::_,_,h,_=>by simp[NzL]at h
 |_::_,[],_,h,_=>by simp[NzL]at h
 |p::l,q::l',[],_,hr=>by simp[RepL]at hr
 |p::l,q::l',v::xs,h,hr=>by
  unfold NzL at h;unfold RepL at hr⊢;exact⟨Nz.rep p q v h.1 hr.1,NzL.rep l l' xs h.2 hr.2⟩
theorem NzS.rep:(l l':List PV)→(b o:Nat)→NzL l l'→RepS β n F w l' b o→RepS β n F w l b o
 |[],[],_,_,_,_=>by unfold RepS;trivial
 |[],_::_,_,_,h,_=>by simp[NzL]at h
 |_::_,[],_,_,h,_=>by simp[NzL]at h
 |p::l,q::l',b,o,h,hr=>by
  unfold NzL at h;unfold RepS at hr⊢;obtain⟨⟨v,h1,h2,h3⟩,h4⟩:=hr;exact⟨⟨v,h1,h2,Nz.rep p q v h.1 h3⟩,NzS.rep l l' b (o+1) h.2 h4⟩
theorem NzR.rep(z:Nat):(l l':List (List PV))→(b o:Nat)→NzR l l'→RepR β n F w z l' b o→RepR β n F w z l b o
 |[],[],_,_,_,_=>by unfold RepR;trivial
 |[],_::_,_,_,h,_=>by simp[NzR]at h
 |_::_,[],_,_,h,_=>by simp[NzR]at h
 |p::l,q::l',b,o,h,hr=>by
  unfold NzR at h;unfold RepR at hr⊢;exact⟨⟨by rw[NzL.len p q h.1];exact hr.1.1,NzS.rep p q b o h.1 hr.1.2⟩,NzR.rep z l l' b (o+z) h.2 hr.2⟩
end
end
theorem PCall.nz{P:Program}{f:FuncId}{ys xs:List PV}{h:Heap}{K:PV→Heap→Prop}(hc:PCall P f ys h K)(hz:NzL ys xs):PCall P f xs h K:=
 fun β w vals sm hr=>hc β w vals sm (NzL.rep ys xs vals hz hr)
theorem nz_nil{z:Nat}:Nz (.imm z []) (.sc (.slice none 0 0)):=by unfold Nz;exact .inr ⟨rfl,.inr rfl⟩
theorem nz_agg{r r':List PV}(h:NzL r r'):Nz (.agg r) (.agg r'):=by unfold Nz;exact⟨_,rfl,h⟩
theorem nz_cons{p q:PV}{l m:List PV}(h:Nz p q)(h2:NzL l m):NzL (p::l) (q::m):=by unfold NzL;exact⟨h,h2⟩
end Go.AM
