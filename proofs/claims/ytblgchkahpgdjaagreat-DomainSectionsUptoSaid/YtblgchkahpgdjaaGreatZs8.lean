/- What the claim rests on, part 8: the abstract machine, contracts of the functions, plain data. -/
import Derived.Test.YtblgchkahpgdjaaGreatZs7
set_option linter.unusedVariables false
set_option linter.unusedSimpArgs false
set_option linter.unusedSectionVars false
namespace Go.AM
section
variable {P:Program}{ow:Nat->Bool}{wf:FuncId->Bool}{n:Nat}
def Hw(ow:Nat->Bool)(wf:FuncId->Bool)(ops:List Oper)(i:Nat):Bool:=(ops[i]?).any (BL ow wf)
def K6(ow:Nat->Bool)(ops:List Oper)(i:Nat):Bool:=(ops[i]?).any (Cc ow)
def SK(ow:Nat->Bool)(wf:FuncId->Bool)(ops:List Oper)(c:Nat):Bool:=
 Ma ops&&decide (c<=ops.length)&&((List.range c).all λi=>(List.range ops.length).all λf=>
  (!(decide (i<f)&&decide (f<c))||((!(Hw ow wf ops i&&Hw ow wf ops f)||pre ops i f)&&!(Hw ow wf ops i&&K6 ow ops f)))&&
  (!(decide (c<=f)&&Hw ow wf ops f)||(pre ops i f&&!(pre ops f i))))&&
 ((List.range ops.length).all λf=>!(decide (c<=f))||!(K6 ow ops f))
def jG(P:Program)(ow:Nat->Bool)(wf:FuncId->Bool)(n:Nat)(ops:List Oper)(lo hi j:Nat)(o:Oper)(sk:Nat->AD)(hk:Nat->A1)(vk:Nat->PV)(br:Nat->Bool):Prop:=
 o.dst.all (λd=>decide (d<n))=true/\ ∃ b,D3 ops (sk j) o=some b/\
  (b=false->sk (j+1)=Ai (sk j) o.dst (.sc undef)/\hk (j+1)=hk j/\br j=false)/\
  (b = true -> sk (j + 1) = Ai (sk j) o.dst (vk j) /\
   (BL ow wf o = false -> hk (j + 1) = hk j /\ br j = false /\ Ar P ow o (AB (sk j)) (hk j) (vk j) (hk j) /\
    (∀ i,lo<=i->i<j->br i=true->pre ops i j=true\/Ar P ow o (AB (sk j)) (hk i) (vk j) (hk i))/\
    (∀ i,j<i->i<hi->br i=true->pre ops j i=true\/Ar P ow o (AB (sk j)) (hk (i+1)) (vk j) (hk (i+1))))/\
   (BL ow wf o=true->br j=true/\Ar P ow o (AB (sk j)) (hk j) (vk j) (hk (j+1))))
theorem Q2{ops:List Oper}{K:AD->A1->Prop}: ∀ (rest:List Oper)(k:Nat)(past:List (Nat × (A1->Prop)))(hist:List (Nat × A1))(s:AD)(h:A1),(∀ i o,rest[i]? =some o->ops[k+i]? =some o)->EG P ow wf n ops k rest past hist K s h->
  ∃ (sk:Nat->AD)(hk:Nat->A1)(vk:Nat->PV)(br:Nat->Bool),sk k=s/\hk k=h/\K (sk (k+rest.length)) (hk (k+rest.length))/\
   (∀ j o,k<=j->j<k+rest.length->ops[j]? =some o->jG P ow wf n ops k (k+rest.length) j o sk hk vk br)/\
   (∀ j o,k<=j->j<k+rest.length->ops[j]? =some o->BL ow wf o=false->D3 ops (sk j) o=some true-> ∀ x∈hist,pre ops x.1 j=true\/Ar P ow o (AB (sk j)) x.2 (vk j) x.2)/\
   (∀ j,k<=j->j<k+rest.length->br j=true-> ∀ x∈past,pre ops x.1 j=true\/x.2 (hk (j+1)))
 |[],k,past,hist,s,h,_,hr=>⟨λ_=>s,λ_=>h,λ_=> .emp,λ_=>false,rfl,rfl,hr,λj o h1 h2=>by simp at h2;omega,λj o h1 h2=>by simp at h2;omega,λj h1 h2=>by simp at h2;omega⟩
 |o::rest,k,past,hist,s,h,hops,hr=>by
  have ho:ops[k]? =some o:=hops 0 o rfl;have hops2: ∀ i q,rest[i]? =some q->ops[k+1+i]? =some q:=λi q hq=>by
   have:=hops (i+1) q (by simpa using hq);rw[show k+1+i=k+(i+1) by omega];exact this
  have hlen:k+1+rest.length=k+(o::rest).length:=by simp only[List.length_cons];omega
  unfold EG at hr;obtain⟨hdst,hr⟩:=hr;cases hw:D3 ops s o with
  |none=>rw[hw]at hr;exact hr.elim
  |some b=>
   rw[hw]at hr;simp only at hr;cases b with
   |false=>
    simp only[BR,AQ]at hr;obtain⟨sk,hk,vk,br,e1,e2,e3,e4,e5,e6⟩:=Q2 rest (k+1) _ _ _ _ hops2 hr;rw[hlen]at e3 e4 e5 e6;have hs: ∀ j,¬ j=k->(λj=>if j=k then s else sk j) j=sk j:=λj hj=>A8 hj;refine⟨λj=>if j=k then s else sk j,λj=>if j=k then h else hk j,vk,λj=>if j=k then false else br j,AK rfl,AK rfl,?_,λj q hj hj2 hq=>?_,λj q hj hj2 hq hW hwt x hx=>?_,λj hj hj2 hb x hx=>?_⟩
    ·simp only[List.length_cons];rw[A8 (by omega),A8 (by omega)];simpa only[List.length_cons]using e3
    ·by_cases hjk:j=k
     ·subst hjk;rw[ho]at hq;obtain rfl:=JE hq;refine⟨hdst,false,?_,λ_=>⟨?_,?_,?_⟩,λhb=>by cases hb⟩
      ·simp only[AO];exact hw
      ·simp only[AO];rw[A8 (by omega)];exact e1
      ·simp only[AO];rw[A8 (by omega)];exact e2
      ·simp only[AO]
     ·obtain ⟨g1,b,g2,g3,g4⟩:=e4 j q (by omega) hj2 hq;refine⟨g1,b,?_,λhb=>?_,λhb=>?_⟩
      ·simp only[hjk,AQ];exact g2
      ·obtain ⟨q1,q2,q3⟩:=g3 hb;refine⟨?_,?_,?_⟩
       ·simp only[hjk,AQ];rw[A8 (by omega)];exact q1
       ·simp only[hjk,AQ];rw[A8 (by omega)];exact q2
       ·simp only[hjk,AQ];exact q3
      ·obtain ⟨q1,q2,q3⟩:=g4 hb;refine⟨?_,λhW=>?_,λhW=>?_⟩
       ·simp only[hjk,AQ];rw[A8 (by omega)];exact q1
       ·obtain ⟨p1,p2,p3,p4,p5⟩:=q2 hW;refine⟨?_,?_,?_,λi hi hij hbi=>?_,λi hi hij hbi=>?_⟩
        ·simp only[hjk,AQ];rw[A8 (by omega)];exact p1
        ·simp only[hjk,AQ];exact p2
        ·simp only[hjk,AQ];exact p3
        ·by_cases hik:i=k
         ·subst hik;simp only[AO]at hbi;cases hbi
         ·simp only[hik,hjk,AQ]at hbi⊢;exact p4 i (by omega) hij hbi
        ·have hik:¬ i=k:=(by omega);have hik1:¬ i+1=k:=(by omega);simp only[hik,hik1,hjk,AQ]at hbi⊢;exact p5 i hi hij hbi
       ·obtain ⟨p1,p2⟩:=q3 hW;refine⟨?_,?_⟩
        ·simp only[hjk,AQ];exact p1
        ·simp only[hjk,AQ];rw[A8 (by omega)];exact p2
    ·by_cases hjk:j=k
     ·subst hjk;rw[ho]at hq;obtain rfl:=JE hq;simp only[AO]at hwt;rw[hw]at hwt;cases hwt
     ·simp only[hjk,AQ]at hwt⊢;exact e5 j q (by omega) hj2 hq hW hwt x hx
    ·by_cases hjk:j=k
     ·subst hjk;simp only[AO]at hb;cases hb
     ·simp only[hjk,AQ]at hb⊢;rw[A8 (by omega)];exact e6 j (by omega) hj2 hb x hx
   |true=>
    simp only[AO]at hr;by_cases hW0:BL ow wf o=true
    ·rw [AK hW0]at hr;obtain⟨v,h',hdo,hpast,hrec⟩:=hr;obtain⟨sk,hk,vk,br,e1,e2,e3,e4,e5,e6⟩:=Q2 rest (k+1) _ _ _ _ hops2 hrec;rw[hlen]at e3 e4 e5 e6;refine⟨λj=>if j=k then s else sk j,λj=>if j=k then h else hk j,λj=>if j=k then v else vk j,λj=>if j=k then true else br j,AK rfl,AK rfl,?_,λj q hj hj2 hq=>?_,λj q hj hj2 hq hW hwt x hx=>?_,λj hj hj2 hb x hx=>?_⟩
     ·simp only[List.length_cons];rw[A8 (by omega),A8 (by omega)];simpa only[List.length_cons]using e3
     ·by_cases hjk:j=k
      ·subst hjk;rw[ho]at hq;obtain rfl:=JE hq;refine⟨hdst,true,?_,λhb=>(by cases hb),λ_=>⟨?_,λhW=>?_,λhW=>⟨?_,?_⟩⟩⟩
       ·simp only[AO];exact hw
       ·simp only[AO];rw[A8 (by omega)];exact e1
       ·rw [hW0]at hW;cases hW
       ·simp only[AO]
       ·simp only[AO];rw[A8 (by omega),e2];exact hdo
      ·obtain ⟨g1,b,g2,g3,g4⟩:=e4 j q (by omega) hj2 hq;refine⟨g1,b,?_,λhb=>?_,λhb=>?_⟩
       ·simp only[hjk,AQ];exact g2
       ·obtain ⟨q1,q2,q3⟩:=g3 hb;refine⟨?_,?_,?_⟩
        ·simp only[hjk,AQ];rw[A8 (by omega)];exact q1
        ·simp only[hjk,AQ];rw[A8 (by omega)];exact q2
        ·simp only[hjk,AQ];exact q3
       ·subst hb;obtain⟨q1,q2,q3⟩:=g4 rfl;refine⟨?_,λhW=>?_,λhW=>?_⟩
        ·simp only[hjk,AQ];rw[A8 (by omega)];exact q1
        ·obtain ⟨p1,p2,p3,p4,p5⟩:=q2 hW;refine⟨?_,?_,?_,λi hi hij hbi=>?_,λi hi hij hbi=>?_⟩
         ·simp only[hjk,AQ];rw[A8 (by omega)];exact p1
         ·simp only[hjk,AQ];exact p2
         ·simp only[hjk,AQ];exact p3
         ·by_cases hik:i=k
          ·subst hik;simp only[hjk,AQ,AO];exact e5 j q (by omega) hj2 hq hW g2 (i,h) (List.mem_cons_self ..)
          ·simp only[hik,hjk,AQ]at hbi⊢;exact p4 i (by omega) hij hbi
         ·have hik:¬ i=k:=(by omega);have hik1:¬ i+1=k:=(by omega);simp only[hik,hik1,hjk,AQ]at hbi⊢;exact p5 i hi hij hbi
        ·obtain ⟨p1,p2⟩:=q3 hW;refine⟨?_,?_⟩
         ·simp only[hjk,AQ];exact p1
         ·simp only[hjk,AQ];rw[A8 (by omega)];exact p2
     ·by_cases hjk:j=k
      ·subst hjk;rw[ho]at hq;obtain rfl:=JE hq;rw[hW0]at hW;cases hW
      ·simp only[hjk,AQ]at hwt⊢;exact e5 j q (by omega) hj2 hq hW hwt x (List.mem_cons_of_mem _ hx)
     ·by_cases hjk:j=k
      ·subst hjk;simp only[AQ];rw[A8 (by omega),e2];exact hpast x hx
      ·simp only[hjk,AQ]at hb⊢;rw[A8 (by omega)];exact e6 j (by omega) hj2 hb x hx
    ·rw [A8 hW0]at hr;have hW1:BL ow wf o=false:=(by simpa using hW0);obtain⟨v,hdo,hhist,hrec⟩:=hr;obtain⟨sk,hk,vk,br,e1,e2,e3,e4,e5,e6⟩:=Q2 rest (k+1) _ _ _ _ hops2 hrec;rw[hlen]at e3 e4 e5 e6;refine⟨λj=>if j=k then s else sk j,λj=>if j=k then h else hk j,λj=>if j=k then v else vk j,λj=>if j=k then false else br j,AK rfl,AK rfl,?_,λj q hj hj2 hq=>?_,λj q hj hj2 hq hW hwt x hx=>?_,λj hj hj2 hb x hx=>?_⟩
     ·simp only[List.length_cons];rw[A8 (by omega),A8 (by omega)];simpa only[List.length_cons]using e3
     ·by_cases hjk:j=k
      ·subst hjk;rw[ho]at hq;obtain rfl:=JE hq;refine⟨hdst,true,?_,λhb=>(by cases hb),λ_=>⟨?_,λhW=>⟨?_,?_,?_,λi hi hij=>by omega,λi hi hij hbi=>?_⟩,λhW=>?_⟩⟩
       ·simp only[AO];exact hw
       ·simp only[AO];rw[A8 (by omega)];exact e1
       ·simp only[AO];rw[A8 (by omega)];exact e2
       ·simp only[AO]
       ·simp only[AO];exact hdo
       ·have hik:¬ i=j:=(by omega);have hik1:¬ i+1=j:=(by omega);simp only[hik,hik1,AQ,AO]at hbi⊢;exact e6 i (by omega) hij hbi (j,λh'=>Ar P ow o (AB s) h' v h') (List.mem_cons_self ..)
       ·rw [hW1]at hW;cases hW
      ·obtain ⟨g1,b,g2,g3,g4⟩:=e4 j q (by omega) hj2 hq;refine⟨g1,b,?_,λhb=>?_,λhb=>?_⟩
       ·simp only[hjk,AQ];exact g2
       ·obtain ⟨q1,q2,q3⟩:=g3 hb;refine⟨?_,?_,?_⟩
        ·simp only[hjk,AQ];rw[A8 (by omega)];exact q1
        ·simp only[hjk,AQ];rw[A8 (by omega)];exact q2
        ·simp only[hjk,AQ];exact q3
       ·obtain ⟨q1,q2,q3⟩:=g4 hb;refine⟨?_,λhW=>?_,λhW=>?_⟩
        ·simp only[hjk,AQ];rw[A8 (by omega)];exact q1
        ·obtain ⟨p1,p2,p3,p4,p5⟩:=q2 hW;refine⟨?_,?_,?_,λi hi hij hbi=>?_,λi hi hij hbi=>?_⟩
         ·simp only[hjk,AQ];rw[A8 (by omega)];exact p1
         ·simp only[hjk,AQ];exact p2
         ·simp only[hjk,AQ];exact p3
         ·by_cases hik:i=k
          ·subst hik;simp only[AO]at hbi;cases hbi
          ·simp only[hik,hjk,AQ]at hbi⊢;exact p4 i (by omega) hij hbi
         ·have hik:¬ i=k:=(by omega);have hik1:¬ i+1=k:=(by omega);simp only[hik,hik1,hjk,AQ]at hbi⊢;exact p5 i hi hij hbi
        ·obtain ⟨p1,p2⟩:=q3 hW;refine⟨?_,?_⟩
         ·simp only[hjk,AQ];exact p1
         ·simp only[hjk,AQ];rw[A8 (by omega)];exact p2
     ·by_cases hjk:j=k
      ·subst hjk;rw[ho]at hq;obtain rfl:=JE hq;simp only[AO];exact hhist x hx
      ·simp only[hjk,AQ]at hwt⊢;exact e5 j q (by omega) hj2 hq hW hwt x hx
     ·by_cases hjk:j=k
      ·subst hjk;simp only[AO]at hb;cases hb
      ·simp only[hjk,AQ]at hb⊢;rw[A8 (by omega)];exact e6 j (by omega) hj2 hb x (List.mem_cons_of_mem _ hx)
def WC(ow:Nat->Bool)(wf:FuncId->Bool)(ops:List Oper)(c k:Nat):Bool:=(List.range c).all λi=>!(Hw ow wf ops i)||pre ops i k
def WD(P:Program)(ow:Nat->Bool)(wf:FuncId->Bool)(n:Nat)(ops:List Oper)(c j:Nat)(o:Oper)(s s':AD)(h h':A1)(v:PV)(l:Option (Nat × An))(U:List Nat):Prop:=
 (U=[]\/WC ow wf ops c j=true)/\o.dst.all (λd=>decide (d<n))=true/\ ∃ b,D3 ops s o=some b/\
  (b=false->s'=Ai s o.dst (.sc undef)/\h'=h/\l=none)/\
  (b = true -> s' = Ai s o.dst v /\
   (BL ow wf o=false->h'=h/\l=none/\ ∀ H:A1,(∀ u∈U,H.obj u=h.obj u)->Ar P ow o (AB s) H v H)/\
   (BL ow wf o=true-> ∃ t x y id r f ob,o.op= .store t x y/\AB s x= .ptr id r f/\l=some (id,ob)/\h'=h.set id ob/\(∀ f q,j<f->ops[f]? =some q->Cc ow q=true->False)/\AX P (o.dst.any ow) o.op (AB s) h=some (v,h')))
def WE(k:Nat)(ls:List (Nat × Nat)):Option (Nat × An)->List (Nat × Nat)
 |some p=>(k,p.1)::ls
 |none=>ls
def K7(P:Program)(ow:Nat->Bool)(wf:FuncId->Bool)(n:Nat)(ops:List Oper)(c:Nat):Nat->List Oper->List (Nat × Nat)->List (Nat × List Nat)->(AD->A1->Prop)->AD->A1->Prop
 |_,[],_,_,K,s,h=>K s h
 | k, o :: rest, ls, qs, K, s, h => ∃ s' h' v l U, WD P ow wf n ops c k o s s' h h' v l U /\
   (∀ p,l=some p->(∀ x∈ls,pre ops x.1 k=true\/x.2≠p.1)/\(∀ x∈qs,pre ops x.1 k=true\/p.1 ∉ x.2))/\(∀ x∈ls,pre ops x.1 k=true\/x.2 ∉ U)/\
   K7 P ow wf n ops c (k+1) rest (WE k ls l) ((k,U)::qs) K s' h'
theorem WG{ops:List Oper}{c:Nat}{K:AD->A1->Prop}: ∀ (rest:List Oper)(k:Nat)(ls:List (Nat × Nat))(qs:List (Nat × List Nat))(s:AD)(h:A1),ops.drop k=rest->k<=ops.length->K7 P ow wf n ops c k rest ls qs K s h->
  ∃ (sk:Nat->AD)(hk:Nat->A1)(vk:Nat->PV)(lt:Nat->Option (Nat × An))(Uk:Nat->List Nat),sk k=s/\hk k=h/\K (sk ops.length) (hk ops.length)/\
   (∀ j o,k<=j->ops[j]? =some o->WD P ow wf n ops c j o (sk j) (sk (j+1)) (hk j) (hk (j+1)) (vk j) (lt j) (Uk j))/\
   (∀ j p,k<=j->j<ops.length->lt j=some p->(∀ x∈ls,pre ops x.1 j=true\/x.2≠p.1)/\(∀ x∈qs,pre ops x.1 j=true\/p.1 ∉ x.2))/\
   (∀ j,k<=j->j<ops.length-> ∀ x∈ls,pre ops x.1 j=true\/x.2 ∉ Uk j)/\
   (∀ i j p q,k<=i->i<j->j<ops.length->lt i=some p->lt j=some q->pre ops i j=true\/p.1≠q.1)/\
   (∀ i j p,k<=i->i<j->j<ops.length->lt i=some p->pre ops i j=true\/p.1 ∉ Uk j)/\
   (∀ i j p,k<=i->i<j->j<ops.length->lt j=some p->pre ops i j=true\/p.1 ∉ Uk i)
 |[],k,ls,qs,s,h,hd,hk,hr=>by
  have hl:ops.length<=k:=by simpa using hd
  have hke:k=ops.length:=by omega
  refine⟨λ_=>s,λ_=>h,λ_=> .emp,λ_=>none,λ_=>[],rfl,rfl,hr,λj o hj ho=>?_,λj p _ _ hp=>by simp at hp,λj h1 h2=>by omega,λi j p q _ _ _ hp=>by simp at hp,λi j p _ _ _ hp=>by simp at hp,λi j p _ _ _ hp=>by simp at hp⟩;have:=(List.getElem?_eq_some_iff.1 ho).1;omega
 |o::rest,k,ls,qs,s,h,hd,hk,hr=>by
  have ho:ops[k]? =some o:=by
   have:(ops.drop k)[0]? =some o:=(by rw[hd];try rfl);simpa using this
  have hkl:k<ops.length:=(List.getElem?_eq_some_iff.1 ho).1;have hd2:ops.drop (k+1)=rest:=by
   have:=List.drop_eq_getElem_cons hkl;rw[hd]at this;simp only[List.cons.injEq]at this;exact this.2.symm
  obtain⟨s',h',v,l,U,hloc,hls,hU,hrec⟩:=hr;obtain⟨sk,hk',vk,lt,Uk,e1,e2,e3,e4,e5,e6,e7,e8,e9⟩:=WG rest (k+1) _ _ s' h' hd2 (by omega) hrec;have hls2: ∀ x∈ls,x∈WE k ls l:=λx hx=>by
   cases l with
   |none=>exact hx
   |some y=>exact List.mem_cons_of_mem _ hx
  refine⟨λj=>if j=k then s else sk j,λj=>if j=k then h else hk' j,λj=>if j=k then v else vk j,λj=>if j=k then l else lt j,λj=>if j=k then U else Uk j,by simp,by simp,?_,λj q hj hq=>?_,λj p hj hjl hp=>?_,λj hj hjl x hx=>?_,λi j p q hi hij hjl hp hq=>?_,λi j p hi hij hjl hp=>?_,λi j p hi hij hjl hp=>?_⟩
  ·simp only;rw[A8 (by omega),A8 (by omega)];exact e3
  ·by_cases hjk:j=k
   ·subst hjk;rw[ho]at hq;simp only[BD]at hq;subst hq;simp only[AO];rw[A8 (by omega),A8 (by omega),e1,e2];exact hloc
   ·simp only[hjk,AQ];rw[A8 (by omega),A8 (by omega)];exact e4 j q (by omega) hq
  ·by_cases hjk:j=k
   ·subst hjk;simp only[AO]at hp;exact hls p hp
   ·simp only[hjk,AQ]at hp;exact⟨λx hx=>(e5 j p (by omega) hjl hp).1 x (hls2 x hx),λx hx=>(e5 j p (by omega) hjl hp).2 x (List.mem_cons_of_mem _ hx)⟩
  ·by_cases hjk:j=k
   ·subst hjk;simp only[AO];exact hU x hx
   ·simp only[hjk,AQ];exact e6 j (by omega) hjl x (hls2 x hx)
  ·have hjk:¬ j=k:=(by omega);simp only[hjk,AQ]at hq;by_cases hik:i=k
   ·subst hik;simp only[AO]at hp;subst hp;exact(e5 j q (by omega) hjl hq).1 (i,p.1) (List.mem_cons_self ..)
   ·simp only[hik,AQ]at hp;exact e7 i j p q (by omega) hij hjl hp hq
  ·have hjk:¬ j=k:=(by omega);simp only[hjk,AQ];by_cases hik:i=k
   ·subst hik;simp only[AO]at hp;subst hp;exact e6 j (by omega) hjl (i,p.1) (List.mem_cons_self ..)
   ·simp only[hik,AQ]at hp;exact e8 i j p (by omega) hij hjl hp
  ·have hjk:¬ j=k:=(by omega);simp only[hjk,AQ]at hp;by_cases hik:i=k
   ·subst hik;simp only[AO];exact(e5 j p (by omega) hjl hp).2 (i,U) (List.mem_cons_self ..)
   ·simp only[hik,AQ];exact e9 i j p (by omega) hij hjl hp
theorem WH(H:A1):BE H []=H:=by
 unfold BE;cases H;simp
theorem jH(h' H:A1):Cb h' H []=h':=by
 unfold Cb;cases h';simp
theorem WI{lt:Nat->Option (Nat × An)}{p:Nat->Bool}{H:A1}: ∀ m,(∀ f,f<m->(lt f).isSome=true->p f=false)->Ct lt p H m=H
 |0,_=>rfl
 |m+1,h=>by
  have ih:=WI (lt:=lt) (p:=p) (H:=H) m λf hf=>h f (by omega);unfold Ct;cases q:lt m with
  |none=>exact ih
  |some x=>
   simp only;rw[A8 (by rw[h m (by omega) (by rw[q];try rfl)];simp)];exact ih
theorem jI{ops:List Oper}{c:Nat}{K:AD->A1->Prop}{s:AD}{h:A1}(hd:SK ow wf ops c=true)
  (hr:EG P ow wf n ops 0 (ops.take c) [] [] (λs' h'=>K7 P ow wf n ops c c (ops.drop c) [] [] K s' h') s ⟨h.next+ops.length,h.obj⟩):P4 P ow wf n ops K s h:=by
 unfold SK at hd;simp only[AV,Bg]at hd;obtain⟨⟨⟨hd3,hc⟩,hp⟩,hA⟩:=hd;have htl:(ops.take c).length=c:=by rw[List.length_take];omega
 have P1: ∀ i f,i<c->f<ops.length->i<f->f<c->((Hw ow wf ops i&&Hw ow wf ops f)=false\/pre ops i f=true)/\(Hw ow wf ops i&&K6 ow ops f)=false:=λi f hi hf hif hfc=>by
  have:=(AV _ _ ▸ (List.all_eq_true.1 (List.all_eq_true.1 hp i (List.mem_range.2 hi)) f (List.mem_range.2 hf))).1;rw[LQ hif,LQ hfc]at this;revert this;cases Hw ow wf ops i<;>cases Hw ow wf ops f<;>cases K6 ow ops f<;>cases pre ops i f<;>simp
 have P2: ∀ i f,i<c->f<ops.length->c<=f->Hw ow wf ops f=true->pre ops i f=true/\pre ops f i=false:=λi f hi hf hcf hw=>by
  have:=(AV _ _ ▸ (List.all_eq_true.1 (List.all_eq_true.1 hp i (List.mem_range.2 hi)) f (List.mem_range.2 hf))).2;rw[LQ hcf,hw]at this;simpa using this
 have P3: ∀ f,f<ops.length->c<=f->K6 ow ops f=false:=λf hf hcf=>by
  have:=List.all_eq_true.1 hA f (List.mem_range.2 hf);rw[LQ hcf]at this;simpa using this
 obtain⟨ska,hka,vka,br,a1,a2,a3,a4,_,_⟩:=Q2 (ops.take c) 0 [] [] s _ (λi o ho=>by
  rw[Bf];rw[List.getElem?_take]at ho;split at ho
  ·exact ho
  ·cases ho) hr
 rw[htl,Bf]at a3 a4;obtain⟨skb,hkb,vkb,lt,Uk,b1,b2,b3,b4,_,_,b6,b7,b8⟩:=WG (ops.drop c) c [] [] _ _ rfl hc a3;have hltn: ∀ f,(if f<c then none else lt f:Option (Nat × An)).isSome=true->c<=f:=λf hf=>by
  by_cases hfc:f<c
  ·rw [AK hfc]at hf;cases hf
  ·omega
 have hltw: ∀ f o,c<=f->ops[f]? =some o->(lt f).isSome=true->BL ow wf o=true:=λf o hcf ho hl=>by
  obtain⟨_,_,b,_,g3,g4⟩:=b4 f o hcf ho;cases b with
  |false=>rw[(g3 rfl).2.2]at hl;cases hl
  |true=>
   cases hw:BL ow wf o with
   |true=>rfl
   |false=>rw[((g4 rfl).2.1 hw).2.1]at hl;cases hl
 have hwAt: ∀ f o,ops[f]? =some o->Hw ow wf ops f=BL ow wf o:=λf o ho=>by unfold Hw;rw[ho];try rfl
 have haAt: ∀ f o,ops[f]? =some o->K6 ow ops f=Cc ow o:=λf o ho=>by unfold K6;rw[ho];try rfl
 have hltp: ∀ j f,j<c->f<ops.length->(if f<c then none else lt f:Option (Nat × An)).isSome=true->pre ops j f=true/\pre ops f j=false:=λj f hj hf hs=>by
  have hcf:=hltn f hs;rw[A8 (by omega)]at hs;exact P2 j f hj hf hcf (by rw[hwAt f _ (List.getElem?_eq_getElem hf)];exact hltw f _ hcf (List.getElem?_eq_getElem hf) hs)
 have hkx: ∀ j,j<c->kx ow ops (λf=>if f<c then none else lt f) j=[]:=λj hj=>by
  unfold kx;rw[List.filterMap_eq_nil_iff];intro f hf;have hf:=List.mem_range.1 hf;split
  ·rename_i hcond;show Option.map _ (if f<c then none else lt f:Option (Nat × An))=none;cases q:(if f<c then none else lt f:Option (Nat × An))with
   |none=>rfl
   |some x=>
    exfalso;have hsm:(if f<c then none else lt f:Option (Nat × An)).isSome=true:=(by rw[q];try rfl);have h1:=hltp j f hj hf hsm;have h2:=P3 f hf (hltn f hsm);unfold K6 at h2;rw[h1.1,h1.2,h2]at hcond;simp at hcond
  ·rfl
 have down: ∀ j o,j<c->ops[j]? =some o->BL ow wf o=false->D3 ops (ska j) o=some true-> ∀ d M,M+d=j->(∀ b,M<=b->b<j->br b=true->pre ops b j=false)->Ar P ow o (AB (ska j)) (hka M) (vka j) (hka M):=λj o hj ho hW hw d=>by
  obtain⟨_,b,g2,_,g4⟩:=a4 j o (BY _) hj ho;rw[hw]at g2;obtain rfl:=JE g2;obtain⟨_,_,p3,p4,_⟩:=(g4 rfl).2.1 hW
  induction d with
  |zero=>intro M hM _;rw[G8]at hM;rw[hM];exact p3
  |succ d ih=>
   intro M hM hcut;cases hb:br M with
   |true=>
    rcases p4 M (BY _) (by omega) hb with h1|h1
    ·rw [hcut M (AG _) (by omega) hb]at h1;cases h1
    ·exact h1
   |false=>
    have hMl:M<ops.length:=(by omega);obtain⟨_,b2,_,q3,q4⟩:=a4 M _ (BY _) (by omega) (List.getElem?_eq_getElem hMl);have e:hka (M+1)=hka M:=by
     cases b2 with
     |false=>exact(q3 rfl).2.1
     |true=>
      cases hw2:BL ow wf ops[M]with
      |false=>exact((q4 rfl).2.1 hw2).1
      |true=>rw[((q4 rfl).2.2 hw2).1]at hb;cases hb
    rw[← e];exact ih (M+1) (by omega) λb hb1 hb2 hb3=>hcut b (by omega) hb2 hb3
 have up: ∀ j o,j<c->ops[j]? =some o->BL ow wf o=false->D3 ops (ska j) o=some true-> ∀ d,j+1+d<=c->(∀ b,b<j+1+d->br b=true->pre ops j b=false)->Ar P ow o (AB (ska j)) (hka (j+1+d)) (vka j) (hka (j+1+d)):=λj o hj ho hW hw d=>by
  obtain⟨_,b,g2,_,g4⟩:=a4 j o (BY _) hj ho;rw[hw]at g2;obtain rfl:=JE g2;obtain⟨p1,_,p3,_,p5⟩:=(g4 rfl).2.1 hW
  induction d with
  |zero=>intro _ _;rw[G8,p1];exact p3
  |succ d ih=>
   intro hdc hcut;cases hb:br (j+1+d)with
   |true=>
    rcases p5 (j+1+d) (by omega) (by omega) hb with h1|h1
    ·rw [hcut _ (by omega) hb]at h1;cases h1
    ·exact h1
   |false=>
    have hMl:j+1+d<ops.length:=(by omega);obtain⟨_,b2,_,q3,q4⟩:=a4 (j+1+d) _ (BY _) (by omega) (List.getElem?_eq_getElem hMl);have e:hka (j+1+d+1)=hka (j+1+d):=by
     cases b2 with
     |false=>exact(q3 rfl).2.1
     |true=>
      cases hw2:BL ow wf ops[j+1+d]with
      |false=>exact((q4 rfl).2.1 hw2).1
      |true=>rw[((q4 rfl).2.2 hw2).1]at hb;cases hb
    rw[show j+1+(d+1)=j+1+d+1 by omega,e];exact ih (by omega) λb hb1 hb3=>hcut b (by omega) hb3
 have hbrw: ∀ j o,j<c->ops[j]? =some o->br j=true->BL ow wf o=true:=λj o hj ho hb=>by
  obtain⟨_,b,_,g3,g4⟩:=a4 j o (BY _) hj ho;cases b with
  |false=>rw[(g3 rfl).2.2]at hb;cases hb
  |true=>
   cases hw:BL ow wf o with
   |true=>rfl
   |false=>rw[((g4 rfl).2.1 hw).2.1]at hb;cases hb
 refine⟨hd3,λj=>if j<c then ska j else skb j,λj=>if j<c then hka j else hkb j,λj=>if j<c then vka j else vkb j,λf=>if f<c then none else lt f,λj=>if j<c then br j else false,?_,?_,?_,⟨λj o ho=>?_,λi j hij hj hi hj2=>?_⟩⟩
 ·by_cases h0:0<c
  ·simp only[h0,AO];exact a1
  ·have:c=0:=(by omega);subst this;simp only[Yi,AQ];rw[b1];exact a1
 ·by_cases h0:0<c
  ·simp only[h0,AO];exact a2
  ·have:c=0:=(by omega);subst this;simp only[Yi,AQ];rw[b2];exact a2
 ·have:¬ ops.length<c:=by omega
  simp only[this,AQ];exact b3
 ·have hjl:j<ops.length:=(List.getElem?_eq_some_iff.1 ho).1;have es: ∀ j,j<c->(if j+1<c then ska (j+1)else skb (j+1))=ska (j+1):=λj hj=>by
   by_cases h1:j+1<c
   ·rw [AK h1]
   ·rw [A8 h1];have:j+1=c:=(by omega);rw[this,b1]
  have eh: ∀ j,j<c->(if j+1<c then hka (j+1)else hkb (j+1))=hka (j+1):=λj hj=>by
   by_cases h1:j+1<c
   ·rw [AK h1]
   ·rw [A8 h1];have:j+1=c:=(by omega);rw[this,b2]
  have ehM: ∀ M,M<=c->(if M<c then hka M else hkb M)=hka M:=λM hM=>by
   by_cases h1:M<c
   ·rw [AK h1]
   ·rw [A8 h1];have:M=c:=(by omega);rw[this,b2]
  by_cases hjc:j<c
  ·obtain ⟨g1,b,g2,g3,g4⟩:=a4 j o (BY _) hjc ho;refine⟨g1,b,?_,λhb=>?_,λhb=>?_⟩
   ·simp only[hjc,AO];exact g2
   ·obtain ⟨q1,q2,q3⟩:=g3 hb;simp only[hjc,AO];rw[es j hjc,eh j hjc];exact⟨q1,q2,trivial,q3⟩
   ·subst hb;obtain⟨q1,q2,q3⟩:=g4 rfl;refine⟨?_,λhW=>?_,λhW=> .inl ?_⟩
    ·simp only[hjc,AO];rw[es j hjc];exact q1
    ·obtain ⟨p1,p2,p3,p4,p5⟩:=q2 hW;refine⟨?_,?_,?_,λM hM=>⟨[],λid hid=>?_,?_⟩⟩
     ·simp only[hjc,AO];rw[eh j hjc];exact p1
     ·simp only[hjc,AO]
     ·simp only[hjc,AO];exact p2
     ·rw [hkx j hjc]at hid;exact hid
     ·obtain ⟨m1,m2,m3,m4⟩:=hM;have hMc:M<=c:=by
       rcases m4 with h0|h0
       ·omega
       ·by_cases h1:M-1<c
        ·omega
        ·simp only[h1,AQ]at h0;cases h0
      have hg:gx ops (λf=>if f<c then none else lt f) (λj=>if j<c then hka j else hkb j) j M []=hka M:=by
       unfold gx;rw[WH,WI ops.length (λf hf hs=>by rw[(hltp j f hjc hf hs).2,BH])];exact ehM M hMc
      rw[hg];simp only[hjc,AO];have hcd: ∀ b,M<=b->b<j->br b=true->pre ops b j=false:=λb hb1 hb2 hb3=>by
       refine m3 b hb1 ?_;have:b<c:=(by omega);simp only[this,AO];exact hb3
      have hcu: ∀ b,b<M->br b=true->pre ops j b=false:=λb hb1 hb3=>by
       refine m2 b hb1 ?_;have:b<c:=(by omega);simp only[this,AO];exact hb3
      by_cases hMj:M<=j
      ·exact down j o hjc ho hW g2 (j-M) M (by omega) hcd
      ·obtain ⟨d,rfl⟩: ∃ d,M=j+1+d:=⟨M-(j+1),by omega⟩;exact up j o hjc ho hW g2 d hMc hcu
    ·obtain ⟨p1,p2⟩:=q3 hW;simp only[hjc,AO];rw[eh j hjc,hkx j hjc,WH];refine⟨p1,trivial,⟨hka (j+1),p2,λid hid=>(by cases hid),(by rw[jH])⟩,λf q hf hq ha=>?_⟩;exfalso;have hfl:=(List.getElem?_eq_some_iff.1 hq).1;have ha2:=haAt f q hq;rw[ha]at ha2;by_cases hfc:f<c
     ·have:=(P1 j f hjc hfl hf hfc).2;rw[ha2,hwAt j o ho,hW]at this;cases this
     ·rw [P3 f hfl (by omega)]at ha2;cases ha2
  ·obtain ⟨g0,g1,b,g2,g3,g4⟩:=b4 j o (by omega) ho;have hj1:¬ j+1<c:=(by omega);refine⟨g1,b,?_,λhb=>?_,λhb=>?_⟩
   ·simp only[hjc,AQ];exact g2
   ·obtain ⟨q1,q2,q3⟩:=g3 hb;simp only[hjc,hj1,AQ];exact⟨q1,q2,q3,trivial⟩
   ·obtain ⟨q1,q2,q3⟩:=g4 hb;refine⟨?_,λhW=>?_,λhW=>?_⟩
    ·simp only[hjc,hj1,AQ];exact q1
    ·obtain ⟨m1,m2,m3⟩:=q2 hW;simp only[hjc,hj1,AQ];refine⟨m1,m2,trivial,λM hM=>⟨_,λ_ hx=>hx,m3 _ λu hu=>?_⟩⟩;rcases g0 with g0|g0
     ·rw [g0]at hu;cases hu
     obtain⟨n1,n2,n3,n4⟩:=hM;have hMc:M<=c:=by
      rcases n4 with h0|h0
      ·omega
      ·by_cases h1:M-1<c
       ·omega
       ·simp only[h1,AQ]at h0;cases h0
     have hnb: ∀ b,M<=b->b<c->br b=false:=λb hb1 hb2=>by
      cases hb:br b with
      |false=>rfl
      |true=>
       have h1:=n3 b hb1 (by simp only[hb2,AO];exact hb);have hbl:b<ops.length:=(by omega);have h2:=List.all_eq_true.1 g0 b (List.mem_range.2 hb2);rw[hwAt b _ (List.getElem?_eq_getElem hbl),hbrw b _ hb2 (List.getElem?_eq_getElem hbl) hb,h1]at h2;cases h2
     have hMe: ∀ d,M+d<=c->hka (M+d)=hka M:=by
      intro d
      induction d with
      |zero=>intro _;rfl
      |succ d ih=>
       intro hdc;have hMl:M+d<ops.length:=(by omega);obtain⟨_,b2,_,q3,q4⟩:=a4 (M+d) _ (BY _) (by omega) (List.getElem?_eq_getElem hMl);have e:hka (M+d+1)=hka (M+d):=by
        cases b2 with
        |false=>exact(q3 rfl).2.1
        |true=>
         cases hw2:BL ow wf ops[M+d]with
         |false=>exact((q4 rfl).2.1 hw2).1
         |true=>have:=hnb (M+d) (by omega) (by omega);rw[((q4 rfl).2.2 hw2).1]at this;cases this
       rw[show M+(d+1)=M+d+1 by omega,e];exact ih (by omega)
     have hMh:hka M=hkb c:=by
      rw[b2, ← hMe (c-M) (by omega),show M+(c-M)=c by omega]
     have hlob: ∀ m,m<=ops.length->(Ct (λf=>if f<c then none else lt f) (λf=>decide (M<=f)&&pre ops f j) (hka M) m).obj u=(hkb (if m<c then c else if m<j then m else j)).obj u:=by
      intro m
      induction m with
      |zero=>
       intro _;have hz:(Ct (λf=>if f<c then none else lt f) (λf=>decide (M<=f)&&pre ops f j) (hka M) 0)=hka M:=rfl;rw[hz,hMh];by_cases h0:0<c
       ·rw [AK h0]
       ·have:c=0:=(by omega);subst this;rw[A8 (by omega)];by_cases h1:0<j
        ·rw [AK h1]
        ·have:j=0:=(by omega);rw[A8 h1,this]
      |succ m ih=>
       intro hml;have ih:=ih (by omega);unfold Ct;by_cases hmc:m<c
       ·rw [AK hmc]at ih;simp only[hmc,AO];rw[ih];by_cases h1:m+1<c
        ·rw [AK h1]
        ·have:m+1=c:=(by omega);rw[A8 h1];by_cases h2:m+1<j
         ·rw [AK h2,this]
         ·rw [A8 h2];have:j=c:=(by omega);rw[this]
       ·rw [A8 hmc]at ih;simp only[hmc,AQ];rw[A8 (by omega:¬ m+1<c)];have hmo:m<ops.length:=(by omega);obtain⟨_,_,b2,_,r3,r4⟩:=b4 m _ (by omega) (List.getElem?_eq_getElem hmo);by_cases hmj:m<j
        ·rw [AK hmj]at ih;have hnx:(if m+1<j then m+1 else j)=m+1:=by
          by_cases h1:m+1<j
          ·rw [AK h1]
          ·rw [A8 h1];omega
         rw[hnx];cases hlm:lt m with
         |none=>
          simp only;rw[ih];have e:hkb (m+1)=hkb m:=by
           cases b2 with
           |false=>exact(r3 rfl).2.1
           |true=>
            cases hw2:BL ow wf ops[m]with
            |false=>exact((r4 rfl).2.1 hw2).1
            |true=>obtain⟨_,_,_,_,_,_,_,_,_,z,_⟩:=(r4 rfl).2.2 hw2;rw[hlm]at z;cases z
          rw[e]
         |some q=>
          simp only;have e:hkb (m+1)=(hkb m).set q.1 q.2:=by
           cases b2 with
           |false=>have:=(r3 rfl).2.2;rw[hlm]at this;cases this
           |true=>
            cases hw2:BL ow wf ops[m]with
            |false=>have:=((r4 rfl).2.1 hw2).2.1;rw[hlm]at this;cases this
            |true=>
             obtain⟨_,_,_,_,_,_,_,_,_,z,z2,_⟩:=(r4 rfl).2.2 hw2;rw[hlm]at z;simp only[BD]at z;rw[z2,z]
          rw[e];by_cases hqu:u=q.1
          ·rcases b7 m j q (by omega) hmj hjl hlm with h1|h1
           ·rw [LQ (by omega:M<=m),h1,hqu];simp[A1.set]
           ·exact absurd (hqu ▸ hu) h1
          ·split
           ·simp only[A1.set];rw[A8 hqu,A8 hqu];exact ih
           ·simp only[A1.set];rw[A8 hqu];exact ih
        ·rw [A8 hmj]at ih;rw[A8 (by omega:¬ m+1<j)];cases hlm:lt m with
         |none=>exact ih
         |some q=>
          simp only;by_cases hqu:u=q.1
          ·have hpf:pre ops m j=false:=by
            by_cases hmj2:m=j
            ·exfalso;subst hmj2;rw[m2]at hlm;cases hlm
            ·rcases b8 j m q (by omega) (by omega) hmo hlm with h1|h1
             ·cases h2:pre ops m j with
              |false=>rfl
              |true=>have:=Kk (Hh.of hd3) j m hjl h2;omega
             ·exact absurd (hqu ▸ hu) h1
           rw[hpf,BH];simp only[BR,AQ];exact ih
          ·split
           ·simp only[A1.set];rw[A8 hqu];exact ih
           ·exact ih
     have hkn:(kx ow ops (λf=>if f<c then none else lt f) j).contains u=false:=by
      cases hct:(kx ow ops (λf=>if f<c then none else lt f) j).contains u with
      |false=>rfl
      |true=>
       exfalso;have hmem:u∈kx ow ops (λf=>if f<c then none else lt f) j:=(by simpa using hct);unfold kx at hmem;obtain⟨f,hf,he⟩:=List.mem_filterMap.1 hmem;have hfl:=List.mem_range.1 hf;split at he
       ·rename_i hcond;by_cases hfc:f<c
        ·simp only[hfc,AO,Ol]at he;cases he
        ·simp only[hfc,AQ]at he;obtain⟨q,hq,hq2⟩:=KR.1 he;simp only[AV,EF,ED,NJ]at hcond;have hA2:=P3 f hfl (by omega);unfold K6 at hA2;rw[hA2]at hcond;obtain⟨⟨hne,hp1⟩,hp2⟩:=hcond;have hp2:pre ops j f=false:=(by rcases hp2 with h|h;exact h;cases h);by_cases hfj:f<j
         ·rcases b7 f j q (by omega) hfj hjl hq with h1|h1
          ·rw [h1]at hp1;cases hp1
          ·exact h1 (hq2 ▸ hu)
         ·rcases b8 j f q (by omega) (by omega) hfl hq with h1|h1
          ·rw [h1]at hp2;cases hp2
          ·exact h1 (hq2 ▸ hu)
       ·cases he
     have hcut:(if M<c then hka M else hkb M)=hka M:=ehM M hMc;show(gx ops (λf=>if f<c then none else lt f) (λj=>if j<c then hka j else hkb j) j M _).obj u=_;unfold gx BE;simp only[hkn,BR,AQ];rw[hcut,hlob ops.length (AG _),A8 (by omega),A8 (by omega)]
    ·simp only[hjc,hj1,AQ];obtain⟨t,x,y,id,r,f,ob,m1,m2,m3,m4,m5,m6⟩:=q3 hW;exact .inr (.inr ⟨trivial,t,x,y,id,r,f,ob,m1,m2,m3,m4,λf q hf hq ha=>(m5 f q hf hq ha).elim,m6⟩)
 ·have hil:i<ops.length:=by omega
  by_cases hjc:j<c
  ·have hic:i<c:=(by omega);simp only[hjc,hic,AO]at hi hj2;have hi':br i=true:=hi.resolve_right (by simp);have hj':br j=true:=hj2.resolve_right (by simp);rcases(P1 i j hic hj hij hjc).1 with h1|h1
   ·rw [hwAt i _ (List.getElem?_eq_getElem hil),hwAt j _ (List.getElem?_eq_getElem hj),hbrw i _ hic (List.getElem?_eq_getElem hil) hi',hbrw j _ hjc (List.getElem?_eq_getElem hj) hj']at h1;cases h1
   ·exact .inl h1
  ·simp only[hjc,AQ]at hj2;have hj':(lt j).isSome=true:=hj2.resolve_left (by simp);by_cases hic:i<c
   ·exact .inl (P2 i j hic hj (by omega) (by rw[hwAt j _ (List.getElem?_eq_getElem hj)];exact hltw j _ (by omega) (List.getElem?_eq_getElem hj) hj')).1
   ·simp only[hic,AQ]at hi;have hi':(lt i).isSome=true:=hi.resolve_left (by simp);obtain⟨p,hp⟩:=Jl.1 hi';obtain⟨q,hq⟩:=Jl.1 hj';rcases b6 i j p q (by omega) hij hj hp hq with h1|h1
    ·exact .inl h1
    ·refine .inr (.inl ⟨p,q,?_,?_,h1⟩)
     ·simp only[hic,AQ];exact hp
     ·simp only[hjc,AQ];exact hq
theorem Q3{Q:BW}{s:AD}{h:A1}{id:Nat}{ops:List Oper}(c:Nat)(hd:SK ow wf ops c=true)
  (hk: ∀ K:AD->A1->Prop,(∀ s h,Q .normal s h->K s h)->FA P ow wf n ops 0 (ops.take c) [] [] (λs' h'=>K7 P ow wf n ops c c (ops.drop c) [] [] K s' h') s ⟨h.next+ops.length,h.obj⟩):Aq P ow wf n (.region id ops.toArray true) Q s h:=by
 simp only[Aq,AO];exact⟨_,_,.refl,.inr (.inr (jI hd (JK _ _ _ _ _ _ (hk _ λ_ _ hq=>hq))))⟩
variable {ops rest:List Oper}{c k:Nat}{o:Oper}{ls:List (Nat × Nat)}{qs:List (Nat × List Nat)}{K:AD->A1->Prop}{s:AD}{h:A1}
theorem Q4(hK:K s h):K7 P ow wf n ops c k [] ls qs K s h:=hK
theorem IR(v:PV)(U:List Nat)(hU:U=[]\/WC ow wf ops c k=true)(hd:o.dst.all (λd=>decide (d<n))=true)(hw:D3 ops s o=some true)(hW:BL ow wf o=false)(he: ∀ H:A1,(∀ u∈U,H.obj u=h.obj u)->Ar P ow o (AB s) H v H)(hl: ∀ x∈ls,pre ops x.1 k=true\/x.2 ∉ U)
  (hk:K7 P ow wf n ops c (k+1) rest ls ((k,U)::qs) K (Ai s o.dst v) h):K7 P ow wf n ops c k (o::rest) ls qs K s h:=
 ⟨_,_,v,none,U,⟨hU,hd,true,hw,λhb=>(by cases hb),λ_=>⟨rfl,λ_=>⟨rfl,rfl,he⟩,λhw2=>(by rw[hW]at hw2;cases hw2)⟩⟩,λp hp=>(by cases hp),hl,hk⟩
theorem K8{t:TypeId}{x y:Operand}{id r f:Nat}{ob:An}{v:PV}(hop:o.op= .store t x y)(hd:o.dst.all (λd=>decide (d<n))=true)(hw:D3 ops s o=some true)(hx:AB s x= .ptr id r f)(he:AX P (o.dst.any ow) (.store t x y) (AB s) h=some (v,h.set id ob))
  (hlate: ∀ f q,k<f->ops[f]? =some q->Cc ow q=true->False)(hls: ∀ x∈ls,pre ops x.1 k=true\/x.2≠id)(hqs: ∀ x∈qs,pre ops x.1 k=true\/id ∉ x.2)
  (hk:K7 P ow wf n ops c (k+1) rest ((k,id)::ls) ((k,[])::qs) K (Ai s o.dst v) (h.set id ob)):K7 P ow wf n ops c k (o::rest) ls qs K s h:=by
 refine⟨_,_,v,some (id,ob),[],⟨.inl rfl,hd,true,hw,λhb=>(by cases hb),λ_=>⟨rfl,λhw2=>?_,λ_=>⟨t,x,y,id,r,f,ob,hop,hx,rfl,rfl,hlate,by rw[hop];exact he⟩⟩⟩,λp hp=>?_,λx _=> .inr (by simp),hk⟩
 ·unfold BL at hw2;rw[hop]at hw2;simp at hw2
 ·simp only[BD]at hp;subst hp;exact⟨hls,hqs⟩
end
end Go.AM
namespace Go.AM
section
variable {P:Program}{ow:Nat->Bool}{wf:FuncId->Bool}{n:Nat}{Q:BW}{s:AD}{h:A1}
def M4(ops:List Oper):List Nat:=(List.range ops.length).filter (Fw ops)
def EL(P:Program)(ow:Nat->Bool)(wf:FuncId->Bool)(n:Nat)(ops:List Oper)(al:List Nat)(base:Nat):Nat->List Oper->Gi->List (Nat × A1)->(AD->A1->Prop)->AD->A1->Prop
 |_,[],_,_,K,s,h=>K s h
 |k,o::rest,past,hist,K,s,h=>(o.dst.all (λd=>decide (d<n))=true)/\match D3 ops s o with
  |none=>False
  | some b => if b = true then
    (match o.op with
    | .alloc t=>(match DN P t with
     | some zs => 0 < zs.length /\ (∀ f ∈ al, k < f -> (h.set (base + k) (.arr zs.length [zs.map .sc])).obj (base + f) = none) /\ (∀ x ∈ past, pre ops x.1 k = true \/ Ar P ow x.2.1 (AB x.2.2.1) (h.set (base + k) (.arr zs.length [zs.map .sc])) x.2.2.2 (h.set (base + k) (.arr zs.length [zs.map .sc]))) /\
       EL P ow wf n ops al base (k+1) rest past ((k,h)::hist) K (Ai s o.dst (.ptr (base+k) 0 0)) (h.set (base+k) (.arr zs.length [zs.map .sc]))
     |none=>False)
    |_=>(match callee (AB s) o.op with
     |none=>(match AX P (o.dst.any ow) o.op (AB s) h with
      |some (v,h1)=>if BL ow wf o=true then(∀ f∈al,k<f->h1.obj (base+f)=none)/\(∀ x∈past,pre ops x.1 k=true\/Ar P ow x.2.1 (AB x.2.2.1) h1 x.2.2.2 h1)/\EL P ow wf n ops al base (k+1) rest past ((k,h)::hist) K (Ai s o.dst v) h1
       else h1=h/\(∀ x∈hist,pre ops x.1 k=true\/Ar P ow o (AB s) x.2 v x.2)/\EL P ow wf n ops al base (k+1) rest ((k,o,s,v)::past) hist K (Ai s o.dst v) h
      |none=>False)
     |some _=>(if BL ow wf o=true then ∃ v h',Ar P ow o (AB s) h v h'/\((∀ f∈al,k<f->h'.obj (base+f)=none)/\ ∀ x∈Df P ow past,pre ops x.1 k=true\/x.2 h')/\GB P ow wf n ops base (k+1) rest (Df P ow past) ((k,h)::hist) K (Ai s o.dst v) h'
      else ∃ v,Ar P ow o (AB s) h v h/\(∀ x∈hist,pre ops x.1 k=true\/Ar P ow o (AB s) x.2 v x.2)/\GB P ow wf n ops base (k+1) rest (Df P ow ((k,o,s,v)::past)) hist K (Ai s o.dst v) h)))
   else EL P ow wf n ops al base (k+1) rest past hist K (Ai s o.dst (.sc undef)) h
theorem jJ{ops:List Oper}{f:Nat}(h:Fw ops f=true):f∈M4 ops:=by
 simp only[M4,List.mem_filter,List.mem_range];refine⟨?_,h⟩;unfold Fw at h;split at h
 ·rename_i o ho;exact(List.getElem?_eq_some_iff.1 ho).1
 ·simp at h
theorem L4{ops:List Oper}{al:List Nat}(hal:M4 ops=al){base:Nat}{K:AD->A1->Prop}:(rest:List Oper)->(k:Nat)->(past:Gi)->(hist:List (Nat × A1))->(s:AD)->(h:A1)->EL P ow wf n ops al base k rest past hist K s h->GB P ow wf n ops base k rest (Df P ow past) hist K s h
 |[],_,_,_,_,_,hh=>by simpa only[EL,GB]using hh
 |o::rest,k,past,hist,s,h,hh=>by
  simp only[EL]at hh;simp only[GB];refine⟨hh.1,?_⟩;have h2:=hh.2
  clear hh;have pc: ∀ h1,(∀ x∈past,pre ops x.1 k=true\/Ar P ow x.2.1 (AB x.2.2.1) h1 x.2.2.2 h1)-> ∀ x∈Df P ow past,pre ops x.1 k=true\/x.2 h1:=by
   intro h1 hp x hx;obtain⟨y,hy,rfl⟩:=List.mem_map.1 hx;exact hp y hy
  have alc: ∀ h1:A1,(∀ f∈al,k<f->h1.obj (base+f)=none)-> ∀ f,k<f->Fw ops f=true->h1.obj (base+f)=none:=λh1 hp f hf ha=>hp f (by rw[← hal];exact jJ ha) hf;cases hw:D3 ops s o with
  |none=>rw[hw]at h2;exact h2
  |some b=>
   rw[hw]at h2;simp only at h2⊢;split at h2
   ·rename_i hb;rw[AK hb];split at h2
    ·rename_i t hop;split at h2
     ·rename_i zs hz;obtain⟨a1,a2,a3,a4⟩:=h2;have hi:BL ow wf o=true:=(by unfold BL;rw[hop]);rw[AK hi];exact⟨_,_,by unfold Im;rw[hop];exact⟨zs,hz,a1,rfl,rfl⟩,alc _ a2,pc _ a3,L4 hal rest (k+1) _ _ _ _ a4⟩
     ·exact h2.elim
    ·rename_i hne;cases hc:callee (AB s) o.op with
     |none=>
      rw[hc]at h2;simp only at h2;cases he:AX P (o.dst.any ow) o.op (AB s) h with
      |none=>rw[he]at h2;exact h2.elim
      |some r=>
       obtain⟨v,h1⟩:=r;rw[he]at h2;simp only at h2;have hd:Ar P ow o (AB s) h v h1:=(by unfold Ar;rw[hc];exact he);split at h2
       ·rename_i hi;rw[AK hi];have hdr:Im P ow (base+k) o (AB s) h v h1:=by
         unfold Im;split
         ·rename_i t hop;exact absurd hop (hne t)
         ·exact hd
        exact⟨v,h1,hdr,alc h1 h2.1,pc h1 h2.2.1,L4 hal rest (k+1) _ _ _ _ h2.2.2⟩
       ·rename_i hi;rw[A8 hi];obtain⟨rfl,h3,h4⟩:=h2;exact⟨v,hd,h3,L4 hal rest (k+1) _ _ _ _ h4⟩
     |some f=>
      rw[hc]at h2;simp only at h2;have dr: ∀ {v:PV}{h1:A1},Ar P ow o (AB s) h v h1->Im P ow (base+k) o (AB s) h v h1:=λhd=>by
       unfold Im;split
       ·rename_i t hop;exact absurd hop (hne t)
       ·exact hd
      split at h2
      ·rename_i hi;rw[AK hi];obtain⟨v,h1,hd,h3,h4⟩:=h2;exact⟨v,h1,dr hd,alc h1 h3.1,h3.2,h4⟩
      ·rename_i hi;rw[A8 hi];obtain⟨v,hd,h3,h4⟩:=h2;exact⟨v,hd,h3,h4⟩
   ·rename_i hb;rw[A8 hb];exact L4 hal rest (k+1) _ _ _ _ h2
theorem SM{id:Nat}{ops:List Oper}{K:AD->A1->Prop}(al:List Nat)(hd:P0 ow wf ops=true)(ha:M4 ops=al)(hk:EL P ow wf n ops al h.next 0 ops [] [] K s ⟨h.next+ops.length,h.obj⟩):Aq P ow wf n (.region id ops.toArray true) (BW.seq K Q) s h:=by
 simp only[Aq,AO];exact⟨_,_,.refl,.inr (.inl ⟨hd,L4 ha ops 0 _ _ _ _ hk⟩)⟩
theorem Q5{f:FuncId}{d:Nat}{args:List Operand}{ts:Array TypeId}{ty:TypeId}{pos:String}{af:Array Edge}{gd:Option (Nat × Bool)}{aS:List PV}{v:PV}{ops rest:List Oper}{base k k':Nat}{past:Gi}{hist:List (Nat × A1)}{K:AD->A1->Prop}(al:List Nat)(ha:M4 ops=al)
  (hc:A6 P f aS h λr h'=>r=v/\h'=h)(hs:args.map (AB s)=aS)
  (hk:EL P ow wf n ops al base k rest ((k',{dst:=some d,op:= .call {callee:= .value (.func f),args:=args.toArray,argTypes:=ts},type:=ty,pos:=pos,after:=af,guard:=gd},s,v)::past) hist K (Cf s d v) h):
  ∃ v,Ar P ow {dst:=some d,op:= .call {callee:= .value (.func f),args:=args.toArray,argTypes:=ts},type:=ty,pos:=pos,after:=af,guard:=gd} (AB s) h v h/\
   GB P ow wf n ops base k rest (Df P ow ((k',{dst:=some d,op:= .call {callee:= .value (.func f),args:=args.toArray,argTypes:=ts},type:=ty,pos:=pos,after:=af,guard:=gd},s,v)::past)) hist K (Cf s d v) h:=
 ⟨v,CW hc hs,L4 ha _ _ _ _ _ _ hk⟩
theorem L5{f:FuncId}{d:Nat}{args:List Operand}{ts:Array TypeId}{ty:TypeId}{pos:String}{af:Array Edge}{gd:Option (Nat × Bool)}{aS:List PV}{v:PV}{ops rest:List Oper}{base k k':Nat}{past:Gi}{hist:List (Nat × A1)}{K:AD->A1->Prop}{A:PV->Prop}(al:List Nat)(ha:M4 ops=al)
  (hc:A6 P f aS h λr h'=>r=v/\h'=h)(hs:args.map (AB s)=aS)(hA:A v)
  (hk:EL P ow wf n ops al base k rest ((k',{dst:=some d,op:= .call {callee:= .value (.func f),args:=args.toArray,argTypes:=ts},type:=ty,pos:=pos,after:=af,guard:=gd},s,v)::past) hist K (Cf s d v) h):
  ∃ v,Ar P ow {dst:=some d,op:= .call {callee:= .value (.func f),args:=args.toArray,argTypes:=ts},type:=ty,pos:=pos,after:=af,guard:=gd} (AB s) h v h/\A v/\
   GB P ow wf n ops base k rest (Df P ow ((k',{dst:=some d,op:= .call {callee:= .value (.func f),args:=args.toArray,argTypes:=ts},type:=ty,pos:=pos,after:=af,guard:=gd},s,v)::past)) hist K (Cf s d v) h:=
 ⟨v,CW hc hs,hA,L4 ha _ _ _ _ _ _ hk⟩
end
end Go.AM
namespace Go.AM
section
variable {P:Program}{ow:Nat->Bool}{wf:FuncId->Bool}{n:Nat}
def Mx(ow:Nat->Bool)(ops:List Oper)(L:List (Nat × Nat))(x:Nat):List Nat:=(List.range ops.length).filterMap λf=>if(!(x==f)&&!(pre ops f x)&&(!(pre ops x f)||(ops[f]?).any (Cc ow)))=true then L.lookup f else none
def OD(ow:Nat->Bool)(ops:List Oper)(k:Nat):List Nat:=(List.range ops.length).filter λf=>decide (k<f)&&(ops[f]?).any (Cc ow)
def WJ(ow:Nat->Bool)(ops:List Oper)(L:List (Nat × Nat))(B:List Nat):Bool:=(List.range ops.length).all λj=>(List.range j).all λi=>!(B.contains i||(L.lookup i).isSome)||!(B.contains j||(L.lookup j).isSome)||pre ops i j||(match L.lookup i,L.lookup j with|some p,some q=>p !=q|_,_=>false)||(B.contains i&&(L.lookup j).isSome&&(ops[j]?).any (Cc ow))||((L.lookup i).isSome&&B.contains j&&(ops[i]?).any (Cc ow))
def WK(P:Program)(ow:Nat->Bool)(wf:FuncId->Bool)(n:Nat)(ops:List Oper)(L:List (Nat × Nat))(B:List Nat)(base j:Nat)(o:Oper)(s s':AD)(h h':A1)(v:PV)(l:Option (Nat × An)):Prop:=
 l.map (·.1)=(L.lookup j).map (base+·)/\o.dst.all (λd=>decide (d<n))=true/\ ∃ b,D3 ops s o=some b/\
  (b=false->s'=Ai s o.dst (.sc undef)/\h'=h/\l=none/\B.contains j=false)/\
  (b = true -> s' = Ai s o.dst v /\
   (BL ow wf o=false->h'=h/\l=none/\B.contains j=false/\ ∀ H,Ar P ow o (AB s) H v H)/\
   (BL ow wf o = true ->
    (B.contains j=true/\l=none/\(∃ H',Ar P ow o (AB s) (BE h ((Mx ow ops L j).map (base+·))) v H'/\(∀ q∈Mx ow ops L j,H'.obj (base+q)=none)/\h'=Cb H' h ((Mx ow ops L j).map (base+·)))/\ ∀ f∈OD ow ops j,h'.obj (base+f)=none)\/
    (B.contains j=false/\Cc ow o=true/\ ∃ ob,l=some (base+j,ob)/\Es P ow (base+j) o (AB s)=some (v,ob)/\h'=h.set (base+j) ob)\/
    (B.contains j=false/\ ∃ t x y id r f ob,o.op= .store t x y/\AB s x= .ptr id r f/\l=some (id,ob)/\h'=h.set id ob/\(∀ f∈OD ow ops j,base+f≠id)/\AX P (o.dst.any ow) o.op (AB s) h=some (v,h'))))
def Hx(P:Program)(ow:Nat->Bool)(wf:FuncId->Bool)(n:Nat)(ops:List Oper)(L:List (Nat × Nat))(B:List Nat)(base:Nat):Nat->List Oper->(AD->A1->Prop)->AD->A1->Prop
 |_,[],K,s,h=>K s h
 |k,o::rest,K,s,h=> ∃ s' h' v l,WK P ow wf n ops L B base k o s s' h h' v l/\Hx P ow wf n ops L B base (k+1) rest K s' h'
theorem WL{ops:List Oper}{L:List (Nat × Nat)}{B:List Nat}{base:Nat}{K:AD->A1->Prop}: ∀ (rest:List Oper)(k:Nat)(s:AD)(h:A1),ops.drop k=rest->k<=ops.length->Hx P ow wf n ops L B base k rest K s h->
  ∃ (sk:Nat->AD)(hk:Nat->A1)(vk:Nat->PV)(lt:Nat->Option (Nat × An)),sk k=s/\hk k=h/\K (sk ops.length) (hk ops.length)/\
   ∀ j o,k<=j->ops[j]? =some o->WK P ow wf n ops L B base j o (sk j) (sk (j+1)) (hk j) (hk (j+1)) (vk j) (lt j)
 |[],k,s,h,hd,hk,hr=>by
  have hl:ops.length<=k:=by simpa using hd
  have hke:k=ops.length:=by omega
  refine⟨λ_=>s,λ_=>h,λ_=> .emp,λ_=>none,rfl,rfl,hr,λj o hj ho=>?_⟩;have:=(List.getElem?_eq_some_iff.1 ho).1;omega
 |o::rest,k,s,h,hd,hk,hr=>by
  have ho:ops[k]? =some o:=by
   have:(ops.drop k)[0]? =some o:=(by rw[hd];try rfl);simpa using this
  have hkl:k<ops.length:=(List.getElem?_eq_some_iff.1 ho).1;have hd2:ops.drop (k+1)=rest:=by
   have:=List.drop_eq_getElem_cons hkl;rw[hd]at this;simp only[List.cons.injEq]at this;exact this.2.symm
  obtain⟨s',h',v,l,hloc,hrec⟩:=hr;obtain⟨sk,hk',vk,lt,e1,e2,e3,e4⟩:=WL rest (k+1) s' h' hd2 (by omega) hrec;refine⟨λj=>if j=k then s else sk j,λj=>if j=k then h else hk' j,λj=>if j=k then v else vk j,λj=>if j=k then l else lt j,by simp,by simp,?_,λj q hj hq=>?_⟩
  ·simp only;rw[A8 (by omega),A8 (by omega)];exact e3
  ·by_cases hjk:j=k
   ·subst hjk;rw[ho]at hq;simp only[BD]at hq;subst hq;simp only[AO];rw[A8 (by omega),A8 (by omega),e1,e2];exact hloc
   ·simp only[hjk,AQ];rw[A8 (by omega),A8 (by omega)];exact e4 j q (by omega) hq
theorem jK{ops:List Oper}{L:List (Nat × Nat)}{base:Nat}{lt:Nat->Option (Nat × An)}(h: ∀ f,f<ops.length->(lt f).map (·.1)=(L.lookup f).map (base+·))(x:Nat):kx ow ops lt x=(Mx ow ops L x).map (base+·):=by
 unfold kx Mx;rw[List.map_filterMap];have: ∀ l:List Nat,(∀ f∈l,f<ops.length)->l.filterMap (λf=>if(!(x==f)&&!(pre ops f x)&&(!(pre ops x f)||(ops[f]?).any (Cc ow)))=true then(lt f).map (·.1)else none)=l.filterMap (λf=>Option.map (base+·) (if(!(x==f)&&!(pre ops f x)&&(!(pre ops x f)||(ops[f]?).any (Cc ow)))=true then L.lookup f else none)):=by
  intro l
  induction l with
  |nil=>intro _;rfl
  |cons f l ih=>
   intro hl;have e:(if(!(x==f)&&!(pre ops f x)&&(!(pre ops x f)||(ops[f]?).any (Cc ow)))=true then(lt f).map (·.1)else none)=Option.map (base+·) (if(!(x==f)&&!(pre ops f x)&&(!(pre ops x f)||(ops[f]?).any (Cc ow)))=true then L.lookup f else none):=by
    split
    ·exact h f (hl f (by simp))
    ·rfl
   rw[List.filterMap_cons,List.filterMap_cons,e,ih λy hy=>hl y (by simp[hy])]
 exact this _ λf hf=>List.mem_range.1 hf
theorem WM{ops:List Oper}{k f:Nat}{q:Oper}(hf:k<f)(hq:ops[f]? =some q)(ha:Cc ow q=true):f∈OD ow ops k:=by
 simp only[OD,List.mem_filter,List.mem_range,AV,Bg];exact⟨(List.getElem?_eq_some_iff.1 hq).1,hf,by rw[hq];exact ha⟩
theorem jL{ops:List Oper}{L:List (Nat × Nat)}{B:List Nat}{K:AD->A1->Prop}{s:AD}{h:A1}(hd:Ma ops=true)(hw:WJ ow ops L B=true)(hr:Hx P ow wf n ops L B h.next 0 ops K s ⟨h.next+ops.length,h.obj⟩):P4 P ow wf n ops K s h:=by
 obtain⟨sk,hk,vk,lt,e1,e2,e3,e4⟩:=WL ops 0 s _ rfl (BY _) hr;have hlt: ∀ f,f<ops.length->(lt f).map (·.1)=(L.lookup f).map (h.next+·):=λf hf=>(e4 f _ (BY _) (List.getElem?_eq_getElem hf)).1;have hkx:=λx=>jK (ow:=ow) hlt x;have hsome: ∀ f,f<ops.length->((lt f).isSome=(L.lookup f).isSome):=λf hf=>by
  have:=If Option.isSome (hlt f hf);simpa using this
 refine⟨hd,sk,hk,vk,lt,λj=>B.contains j,e1,e2,e3,⟨λj o ho=>?_,λi j hij hj hi hj2=>?_⟩⟩
 ·obtain ⟨_,g1,b,g2,g3,g4⟩:=e4 j o (BY _) ho;refine⟨g1,b,g2,λhb=>g3 hb,λhb=>?_⟩;obtain⟨k1,k2,k3⟩:=g4 hb;refine⟨k1,λhw=>?_,λhw=>?_⟩
  ·obtain ⟨m1,m2,m3,m4⟩:=k2 hw;exact⟨m1,m2,m3,λM _=>⟨kx ow ops lt j,λ_ hx=>hx,m4 _⟩⟩
  ·rcases k3 hw with⟨m1,m2,⟨H',m3,m4,m6⟩,m5⟩|⟨m0,m1,ob,m2,m3,m4⟩|⟨m0,t,x,y,id,r,f,ob,m1,m2,m3,m4,m5,m6⟩
   ·refine .inl ⟨m1,m2,⟨H',?_,λid hid=>?_,?_⟩,λf q hf hq ha=>m5 f (WM hf hq ha)⟩
    ·rw [hkx];exact m3
    ·rw [hkx]at hid;obtain⟨q,hq,rfl⟩:=List.mem_map.1 hid;exact m4 q hq
    ·rw [hkx];exact m6
   ·exact .inr (.inl ⟨m0,m1,ob,m2,m3,m4⟩)
   ·exact .inr (.inr ⟨m0,t,x,y,id,r,f,ob,m1,m2,m3,m4,λf q hf hq ha=>m5 f (WM hf hq ha),m6⟩)
 ·have hwij:=List.all_eq_true.1 (List.all_eq_true.1 hw j (List.mem_range.2 hj)) i (List.mem_range.2 hij);have si:=hsome i (by omega);have sj:=hsome j hj;have li:=hlt i (by omega);have lj:=hlt j hj;have ei:(B.contains i||(L.lookup i).isSome)=true:=by
   rw[← si];rcases hi with h1|h1
   ·rw [h1];try rfl
   ·rw [h1];simp
  have ej:(B.contains j||(L.lookup j).isSome)=true:=by
   rw[← sj];rcases hj2 with h1|h1
   ·rw [h1];try rfl
   ·rw [h1];simp
  rw[ei,ej]at hwij;simp only[Av,HZ,ED,AV]at hwij;rcases hwij with((h1|h1)|h1)|h1
  ·exact .inl h1
  ·refine .inr (.inl ?_);cases h2:L.lookup i with
   |none=>rw[h2]at h1;simp at h1
   |some p=>
    cases h3:L.lookup j with
    |none=>rw[h2,h3]at h1;simp at h1
    |some q=>
     rw[h2,h3]at h1;rw[h2]at li;rw[h3]at lj;obtain⟨x,hx,hx2⟩:=KR.1 li;obtain⟨y,hy,hy2⟩:=KR.1 lj;refine⟨x,y,hx,hy,?_⟩;rw[hx2,hy2];have hpq:p≠q:=(by simpa using h1);show h.next+p≠h.next+q
     omega
  ·refine .inr (.inr (.inl ⟨h1.1.1,by rw[sj];exact h1.1.2,ops[j],List.getElem?_eq_getElem hj,?_⟩));have:=h1.2;rw[List.getElem?_eq_getElem hj]at this;exact this
  ·have hil:i<ops.length:=(by omega);refine .inr (.inr (.inr ⟨by rw[si];exact h1.1.1,h1.1.2,ops[i],List.getElem?_eq_getElem hil,?_⟩));have:=h1.2;rw[List.getElem?_eq_getElem hil]at this;exact this
theorem SN{Q:BW}{s:AD}{h:A1}{id:Nat}{ops:List Oper}(L:List (Nat × Nat))(B:List Nat)(hd:Ma ops=true)(hw:WJ ow ops L B=true)(hk: ∀ K:AD->A1->Prop,(∀ s h,Q .normal s h->K s h)->Hx P ow wf n ops L B h.next 0 ops K s ⟨h.next+ops.length,h.obj⟩):Aq P ow wf n (.region id ops.toArray true) Q s h:=by
 simp only[Aq,AO];exact⟨_,_,.refl,.inr (.inr (jL hd hw (hk _ λ_ _ hq=>hq)))⟩
variable {ops rest:List Oper}{L:List (Nat × Nat)}{B:List Nat}{base k:Nat}{o:Oper}{K:AD->A1->Prop}{s:AD}{h:A1}
theorem SO(hK:K s h):Hx P ow wf n ops L B base k [] K s h:=hK
theorem EA(v:PV)(hl:L.lookup k=none)(hB:B.contains k=false)(hd:o.dst.all (λd=>decide (d<n))=true)(hw:D3 ops s o=some true)(hW:BL ow wf o=false)(he: ∀ H,Ar P ow o (AB s) H v H)(hk:Hx P ow wf n ops L B base (k+1) rest K (Ai s o.dst v) h):Hx P ow wf n ops L B base k (o::rest) K s h:=
 ⟨_,_,v,none,⟨by rw[hl];try rfl,hd,true,hw,λhb=>(by cases hb),λ_=>⟨rfl,λ_=>⟨rfl,rfl,hB,he⟩,λhw2=>(by rw[hW]at hw2;cases hw2)⟩⟩,hk⟩
theorem Q6{v:PV}{ob:An}(hl:L.lookup k=some k)(hB:B.contains k=false)(hd:o.dst.all (λd=>decide (d<n))=true)(hw:D3 ops s o=some true)(hW:BL ow wf o=true)(hA:Cc ow o=true)(he:Es P ow (base+k) o (AB s)=some (v,ob))(hk:Hx P ow wf n ops L B base (k+1) rest K (Ai s o.dst v) (h.set (base+k) ob)):Hx P ow wf n ops L B base k (o::rest) K s h:=
 ⟨_,_,v,some (base+k,ob),⟨by rw[hl];try rfl,hd,true,hw,λhb=>(by cases hb),λ_=>⟨rfl,λhw2=>(by rw[hW]at hw2;cases hw2),λ_=> .inr (.inl ⟨hB,hA,ob,rfl,he,rfl⟩)⟩⟩,hk⟩
theorem K9{v:PV}{H':A1}{kl la:List Nat}(hl:L.lookup k=none)(hB:B.contains k=true)(hd:o.dst.all (λd=>decide (d<n))=true)(hw:D3 ops s o=some true)(hW:BL ow wf o=true)(hkl:Mx ow ops L k=kl)(hla:OD ow ops k=la)(he:Ar P ow o (AB s) (BE h (kl.map (base+·))) v H')(h1: ∀ q∈kl,H'.obj (base+q)=none)(h2: ∀ q∈la,(Cb H' h (kl.map (base+·))).obj (base+q)=none)
  (hk:Hx P ow wf n ops L B base (k+1) rest K (Ai s o.dst v) (Cb H' h (kl.map (base+·)))):Hx P ow wf n ops L B base k (o::rest) K s h:=
 ⟨_,_,v,none,⟨by rw[hl];try rfl,hd,true,hw,λhb=>(by cases hb),λ_=>⟨rfl,λhw2=>(by rw[hW]at hw2;cases hw2),λ_=> .inl ⟨hB,rfl,⟨H',by rw[hkl];exact he,by rw[hkl];exact h1,by rw[hkl]⟩,by rw[hla];exact h2⟩⟩⟩,hk⟩
end
end Go.AM
namespace Go.AM
section
variable {P:Program}{f:FuncId}{z:Nat}{h:A1}{K:PV->A1->Prop}
theorem AU.Ow{β:BK}{n:Nat}{F:Nat->Prop}{w:World}{z:Nat}: ∀ {pre post:List PV}{vals:List Value},AU β n F w (pre++ .A2 z []::post) vals-> ∃ a cap,AU β n F w (pre++ .sc (.slice a 0 cap)::post) vals
 |[],post,[],h=>by simp[AU]at h
 |[],post,v::vals,h=>by
  simp only[List.nil_append,AU,AA]at h⊢;obtain⟨⟨a,cap,hv,_⟩,h2⟩:=h;exact⟨a,cap,by simpa using hv,h2⟩
 |p::pre,post,[],h=>by simp[AU]at h
 |p::pre,post,v::vals,h=>by
  simp only[List.cons_append,AU]at h⊢;obtain⟨a,cap,hx⟩:=AU.Ow h.2;exact⟨a,cap,h.1,hx⟩
theorem A6.Ow{pre post:List PV}(h0: ∀ a cap,A6 P f (pre++ .sc (.slice a 0 cap)::post) h K):A6 P f (pre++ .A2 z []::post) h K:=by
 intro β w vals sm hr;obtain⟨a,cap,hx⟩:=AU.Ow hr;exact h0 a cap β w vals sm hx
theorem A6.nil1(h0: ∀ a cap,A6 P f [.sc (.slice a 0 cap)] h K):A6 P f [.A2 z []] h K:=A6.Ow (pre:=[]) (post:=[]) h0
theorem Q7(c:Bool)(cap:Nat):EU 5 c (.sc (.slice none 0 cap)) (.sc (.slice none 0 0))=some true:=rfl
theorem L6(c:Bool)(x:Addr)(cap:Nat):EU 5 c (.sc (.slice (some x) 0 cap)) (.sc (.slice none 0 0))=some false:=rfl
theorem L7(h:A1)(x:Option Addr)(cap:Nat):Gg h (.sc (.slice x 0 cap))=some []:=by
 unfold Gg;split<;>first|rfl|(simp_all;done)|(simp_all)
theorem L8(h:A1)(z:Nat)(x:Option Addr)(cap:Nat):De h z (.sc (.slice x 0 cap))=true:=by
 unfold De;split<;>first|rfl|(simp_all;done)|(simp_all)
end
end Go.AM
namespace Go.Proofs.YtblgchkahpgdjaaGreat
open Go.AM Go.Proofs.Tryz
set_option maxHeartbeats 2000000
set_option maxRecDepth 20000
theorem jM{l:List Pm}(hl:l.length<=1099511627776)(h:A1):A6 prog 150 [.A2 2 (A9 l)] h λr h'=>AH h h'/\Tl h' h.next 2 r (A9 l):=by
 have hll:=Gw l;cases l with
 |nil=>
  have e0:A9 []=[]:=rfl;rw[e0];refine A6.nil1 λa cap=>?_;cases a with
  |none=>
   refine AF func150 ntmps150 results150 Ty.Lr ?_;(repeat'(first|refine Af λK hK=>?_|((first|refine Bn ?_|refine Ej ?_);simp only[Ty.w,simprocAttr,Q7])|(refine hK _ _ ?_;clear hK;(try simp only[Au,simprocAttr]))));exact⟨AH.refl _,Tl.nil⟩
  |some x=>
   refine AF func150 ntmps150 results150 Ty.Lr ?_;(repeat'(first|refine Af λK hK=>?_|((first|refine Bn ?_|refine Ej ?_);simp only[Ty.w,simprocAttr,L6,L7,L8])|(refine Gh ?_;(try simp only[Au,simprocAttr]))|(refine EX _ (by(try simp only[Ty.w,simprocAttr,L6,L7,L8]);rfl) (λhb=>?_) (λhb=>?_)<;>(try simp only[DD,Bg,D7,simprocAttr]at hb)<;>(try(exfalso;omega)))|(refine hK _ _ ?_;clear hK;(try simp only[Au,simprocAttr]))));exact⟨(AH.refl h).new _,Tl.grow (AG _) rfl⟩
 |cons x l=>
  have h0:(0<(A9 (x::l)).length)=True:=by rw[hll];simp
  have hb:((x::l).length)*32<=140737488355328:=by omega
  have hz:0+(A9 (x::l)).length=(x::l).length:=by omega
  generalize A9 (x::l)=R at hll h0 hz;refine AF func150 ntmps150 results150 Ty.Lr ?_;replace zz:=AY h0 hll hb;repeat'(first|refine Af λK hK=>?_|refine uR zz ?_|refine uT zz ?_|refine uK ?_|refine C2 zz ?_|(refine uN hK ?_;clear hK)|(rw[AK];rotate_left 1;omega;simp only[Ty.w,simprocAttr,h0,hll,hb])|apply zI)
  exact⟨(AH.refl h).new _,Tl.grow (AG _) (by simp[hll])⟩
theorem jN{l:List Pm}(hl:l.length<=1099511627776)(h:A1):A6 prog 150 [.A2 2 (A9 l)] h λr h'=>r= .A2 2 (A9 l)/\h'=h:=by
 refine A6.CF Ty.Lr ((jM hl h).mono ?_);rintro r h' ⟨hg,tl⟩;exact⟨WB tl,hg⟩
theorem jO{l:List Fm}(hl:l.length<=1099511627776)(h:A1):A6 prog 149 [.A2 6 (Fm.rows l)] h λr h'=>AH h h'/\Tl h' h.next 6 r (Fm.rows l):=by
 have hll:=Fm.B4 l;cases l with
 |nil=>
  have e0:Fm.rows []=[]:=rfl;rw[e0];refine A6.nil1 λa cap=>?_;cases a with
  |none=>
   refine AF func149 ntmps149 results149 Ty.Lq ?_;(repeat'(first|refine Af λK hK=>?_|((first|refine Bn ?_|refine Ej ?_);simp only[Ty.w,simprocAttr,Q7])|(refine hK _ _ ?_;clear hK;(try simp only[Au,simprocAttr]))));exact⟨AH.refl _,Tl.nil⟩
  |some x=>
   refine AF func149 ntmps149 results149 Ty.Lq ?_;(repeat'(first|refine Af λK hK=>?_|((first|refine Bn ?_|refine Ej ?_);simp only[Ty.w,simprocAttr,L6,L7,L8])|(refine Gh ?_;(try simp only[Au,simprocAttr]))|(refine EX _ (by(try simp only[Ty.w,simprocAttr,L6,L7,L8]);rfl) (λhb=>?_) (λhb=>?_)<;>(try simp only[DD,Bg,D7,simprocAttr]at hb)<;>(try(exfalso;omega)))|(refine hK _ _ ?_;clear hK;(try simp only[Au,simprocAttr]))));exact⟨(AH.refl h).new _,Tl.grow (AG _) rfl⟩
 |cons x l=>
  have h0:(0<(Fm.rows (x::l)).length)=True:=by rw[hll];simp
  have hb:((x::l).length)*128<=140737488355328:=by omega
  have hz:0+(Fm.rows (x::l)).length=(x::l).length:=by omega
  generalize Fm.rows (x::l)=R at hll h0 hz;refine AF func149 ntmps149 results149 Ty.Lq ?_;replace zz:=AY h0 hll hb;repeat'(first|refine Af λK hK=>?_|refine uR zz ?_|refine uT zz ?_|refine uK ?_|refine C2 zz ?_|(refine uN hK ?_;clear hK)|(rw[AK];rotate_left 1;omega;simp only[Ty.w,simprocAttr,h0,hll,hb])|apply zI)
  exact⟨(AH.refl h).new _,Tl.grow (AG _) (by simp[hll])⟩
theorem jP{l:List Fm}(hl:l.length<=1099511627776)(h:A1):A6 prog 149 [.A2 6 (Fm.rows l)] h λr h'=>r= .A2 6 (Fm.rows l)/\h'=h:=by
 refine A6.CF Ty.Lq ((jO hl h).mono ?_);rintro r h' ⟨hg,tl⟩;exact⟨W8 (AG _) tl,hg⟩
set_option maxHeartbeats 8000000
def SP(w:ByteArray)(rest:List Sx):Fm × Int:=
 bif E8 w then(match rest with
  |[]=>(Cm,2)
  |p::body=>bif Ax p==3 then(bif (C5 true (C9 p)).2==0 then(match DL body with
    |(ks,c)=>bif c==0 then(.mk w ⟨#[]⟩ [] (C5 true (C9 p)).1 [] ks,0)else(Cm,c))
   else(Cm,(C5 true (C9 p)).2))else(Cm,2))
 else bif Fg w then(match DL rest with
  |(ks,c)=>bif c==0 then(.mk w ⟨#[]⟩ [] [] [] ks,0)else(Cm,c))
 else bif El w then(match rest with
  |[a,b]=>D9 (Hn w a b)
  |_=>(Cm,2))
 else bif As w then(bif (CN rest).2==0 then(.mk Bx w (CN rest).1 [] [] [],0)else(Cm,(CN rest).2))
 else(Cm,8)
theorem jQ(x:Sx):Cn x=(bif Ax x==3&&(C9 x).isEmpty then(.mk Bo ⟨#[]⟩ [] [] [] [],0)else(match Bt x with
  |none=>(Cm,2)
  |some (w,rest)=>bif decide (EK w>=0)&&!(decide (EK w=rest.length))then(Cm,2)else SP w rest)):=by
 obtain⟨kind,value,line,col,text,kids⟩:=x
 conv=>lhs;unfold Cn
 have kk:Ax (.mk kind value line col text kids)=kind:=rfl;have k5:C9 (.mk kind value line col text kids)=kids:=rfl;rw[kk,k5];simp only[Bt];by_cases h3:kind=3
 ·rw [AK h3,AK h3];cases kids with
  |nil=>simp[h3]
  |cons y rest=>
   simp only[List.isEmpty_cons,BH,AL];cases hk:Ax y==1<;>simp only[hk,AC,AL]<;>rfl
 ·rw [A8 h3,A8 h3];rw[show(kind==3)=false by simpa using h3];try rfl
theorem WN{w:ByteArray}{n:Nat}(hw:E8 w=true\/El w=true)(hc:(decide (EK w>=0)&&!(decide (EK w=n)))=false):n=2:=by
 have:EK w=2:=by
  rw[VZ];unfold E8 El FQ at hw;simp only[ED]at hw;rcases hw with(h|h)|(((h|h)|h)|h)|h<;>(have h:=E9 h;subst h;decide)
 rw[this]at hc;simp at hc;omega
def J3:An:= .arr 6 [[.sc (.string ⟨#[]⟩),.sc (.string ⟨#[]⟩),.sc (.slice none 0 0),.sc (.slice none 0 0),.sc (.slice none 0 0),.sc (.slice none 0 0)]]
structure PI(h:A1)(w:ByteArray)(h':A1):Prop where
 grow:AH h h'
 pH:h'.next=h.next+2
 o1:h'.obj h.next=some J3
 o2:h'.obj (h.next+1)=some (.arr 6 [[A4 w,.sc (.string ⟨#[]⟩),.sc (.slice none 0 0),.sc (.slice none 0 0),.sc (.slice none 0 0),.sc (.slice none 0 0)]])
def PJ(h:A1)(F:Fm × Int)(S:AD)(h':A1):Prop:=S 2= .ptr h.next 0 0/\S 8= .ptr (h.next+1) 0 0/\AH h h'/\ ∃ (c:Int)(a b:ByteArray)(p2 p3 p4 p5:PV),S 9=AS c/\h'.obj h.next=some J3/\h'.obj (h.next+1)=some (.arr 6 [[A4 a,A4 b,p2,p3,p4,p5]])/\
 (Cx p2=true/\Cx p3=true/\Cx p4=true/\Cx p5=true)/\((c==0)=false->F=(Cm,c))/\((c==0)=true->F.2=0/\ ∀ hh,AP h.next hh F.1.cells [A4 a,A4 b,p2,p3,p4,p5])
theorem PJ.Ih{h h':A1}{w:ByteArray}{F:Fm × Int}{S:AD}(hp:PI h w h')(c:Int)(a b:ByteArray)(p2 p3 p4 p5:PV)(g2:S 2= .ptr h.next 0 0)(g8:S 8= .ptr (h.next+1) 0 0)(g9:S 9=AS c)
  (ho:Cx p2=true/\Cx p3=true/\Cx p4=true/\Cx p5=true)(hc:(c==0)=false->F=(Cm,c))(hd:(c==0)=true->F.2=0/\ ∀ hh,AP h.next hh F.1.cells [A4 a,A4 b,p2,p3,p4,p5]):
  PJ h F S (h'.set (h.next+1) (.arr 6 [[A4 a,A4 b,p2,p3,p4,p5]])):=by
 refine⟨g2,g8,hp.grow.set (Oo _) _,c,a,b,p2,p3,p4,p5,g9,?_,by simp[A1.set],ho,hc,hd⟩;simp only[A1.set];rw[A8 (by omega)];exact hp.o1
theorem Q8{h h':A1}{c:Int}{F:Fm × Int}(hc:c=2\/c=8)(hg:AH h h')(hF:F=(Cm,c)):
  AJ h.next h' (.Am [.agg F.1.cells,AS F.2]) (.Am [.agg [.sc (.string ⟨#[]⟩),.sc (.string ⟨#[]⟩),.sc (.slice none 0 0),.sc (.slice none 0 0),.sc (.slice none 0 0),.sc (.slice none 0 0)],Ao c])/\AH h h':=by
 subst hF;have:AS c=Ao c:=by rcases hc with rfl|rfl<;>rfl
 simp only[this];refine⟨?_,hg⟩;simp only[Ao,Cm,Fm.cells,Ex.rows,Fm.rows,A9,AN,List.map_nil,AJ,AP];exact⟨_,rfl,⟨_,rfl,rfl,rfl,.inr (.inl ⟨rfl,.inr rfl⟩),.inr (.inl ⟨rfl,.inr rfl⟩),.inr (.inl ⟨rfl,.inr rfl⟩),.inr (.inl ⟨rfl,.inr rfl⟩),trivial⟩,rfl,trivial⟩
theorem jR{kind value line col:Int}{text:ByteArray}{kids:List Sx}(hok:(Sx.mk kind value line col text kids).ok)(hsm:(Sx.mk kind value line col text kids).small)
  (ih: ∀ x∈kids, ∀ h:A1,A6 prog 169 [.agg x.cells] h λr h'=>r= .Am [.agg (Cn x).1.cells,AS (Cn x).2]/\h'=h)(h:A1):
  A6 prog 169 [.agg (Sx.mk kind value line col text kids).cells] h λr h'=>r= .Am [.agg (Cn (.mk kind value line col text kids)).1.cells,AS (Cn (.mk kind value line col text kids)).2]/\h'=h:=by
 refine A6.CF Ty.Uw ?_;have hok':=hok;simp only[Sx.ok]at hok';obtain⟨_,_,_,hkl,hks⟩:=hok';rw[Sx.Bz]at hks;simp only[Sx.small]at hsm;obtain⟨hl,hss⟩:=hsm;rw[Sx.Eh]at hss;have hh:=Rw hok;have hX:=jQ (.mk kind value line col text kids);generalize Cn (.mk kind value line col text kids)=F at hX;have hMo:=λw rest e=>S0 (w:=w) (rest:=rest) hok e;have hMr:=λw rest e=>Pv (kind:=kind) (value:=value) (line:=line) (col:=col) (text:=text) (kids:=kids) (w:=w) (rest:=rest) e;generalize Bt (.mk kind value line col text kids)=M at hh hX hMo hMr;have kk:Ax (.mk kind value line col text kids)=kind:=rfl;have k5:C9 (.mk kind value line col text kids)=kids:=rfl;rw[kk,k5]at hX;have hlk:=Sx.B4 kids;have hg1: ∀ r,AH h ((h.new (.arr 6 [[.sc (.string ⟨#[]⟩),.sc (.string ⟨#[]⟩),.sc (.slice none 0 0),.sc (.slice none 0 0),.sc (.slice none 0 0),.sc (.slice none 0 0)]])).set h.next r):=λr=>((AH.refl h).new _).set (AG _) _;refine AF func169 ntmps169 results169 Ty.Uw ?_;simp only[Sx.cells]at hh⊢;refine xH 1 A5 ?_;refine⟨?_⟩;refine DB (λS h'=>S 1= .Ag (Sx.mk kind value line col text kids).cells/\S 2= .ptr h.next 0 0/\h'=h.new J3/\(kind==3&&kids.isEmpty)=false) ?_ ?_
 ·clear hh;simp only[Sx.cells,J3];cases k3:(kind==3)with
  |false=>
   refine wm k3 ?_;try exact zI
   all_goals first|rfl|(simp only[Ty.w,simprocAttr,BF];done)
  |true=>
   cases q:(((Sx.rows kids).length:Int)==0)with
   |false=>
    have q':kids.isEmpty=false:=by
     cases kids with
     |nil=>simp[Sx.rows]at q
     |cons _ _=>rfl
    refine wm (uu k3 q) ?_;try exact zI
    all_goals first|rfl|(simp only[Ty.w,simprocAttr,q',BG];done)
   |true=>
    have q':kids.isEmpty=true:=by
     cases kids with
     |nil=>rfl
     |cons _ _=>simp[Sx.rows]at q;omega
    rw[k3,q']at hX;simp only[LP,AC]at hX;subst hX;refine wt (uu k3 q) ?_;refine⟨?_,hg1 _⟩;have e2:AS 0= .sc .nilIface:=rfl;simp only[e2,Bo,Fm.cells,Ex.rows,Fm.rows,A9,AN,List.map_nil,AJ,AP];exact⟨_,rfl,⟨_,rfl,rfl,rfl,.inr (.inl ⟨rfl,.inr rfl⟩),.inr (.inl ⟨rfl,.inr rfl⟩),.inr (.inl ⟨rfl,.inr rfl⟩),.inr (.inl ⟨rfl,.inr rfl⟩),trivial⟩,rfl,trivial⟩
 ·rintro S h' ⟨g1,g2,rfl,hq⟩;rw[hq]at hX;simp only[AL]at hX;simp only[Sx.cells]at g1;simp only[J3]
  clear hq;cases M with
  |none=>
   simp only at hX;simp only[Mq]at hh;refine wt (uu g1 g2) ?_;refine uU (uu g1 g2) (hh _) ?_;refine wt (AY g1 g2 yF) ?_;exact Q8 (.inl rfl) (hg1 _) hX
  |some wr=>
   obtain⟨w,rest⟩:=wr;obtain⟨hw,hro⟩:=hMo w rest rfl;obtain⟨y0,hy0⟩:=hMr w rest rfl;have hrl:rest.length<=1048576:=(by rw[hy0]at hl;simp at hl;omega);have ihr: ∀ x∈rest, ∀ h:A1,A6 prog 169 [.agg x.cells] h λr h'=>r= .Am [.agg (Cn x).1.cells,AS (Cn x).2]/\h'=h:=λx hx=>ih x (by rw[hy0];simp[hx]);have hsr: ∀ x∈rest,x.small:=λx hx=>hss x (by rw[hy0];simp[hx]);clear ih hMo hMr hks hss hl hkl hlk hy0 y0;simp only at hX;simp only[Mq]at hh;have hlr:=Sx.B4 rest;refine xH 6 (uu g1 g2) ?_;refine uU (uu g1 g2) (hh _) ?_;refine xH 6 (AY g1 g2 yT) ?_;refine⟨?_⟩;refine DB (λS h'=>S 2= .ptr h.next 0 0/\S 4=A4 w/\S 5= .A2 6 (Sx.rows rest)/\h'=h.new J3/\(decide (EK w>=0)&&!(decide (EK w=rest.length)))=false) ?_ ?_
   ·have hcn:=λh:A1=>iB (h:=h) (op:=w);simp only[J3];generalize EK w=n at hcn hX;cases c1:decide (n>=0)with
    |false=>
     refine wt (uu g1 g2) ?_;refine uU (uu g1 g2) (hcn _) ?_;refine wm (AY g1 g2 c1) ?_;try exact zI
     all_goals first|rfl|(simp only[Ty.w,simprocAttr,g2,BF];done)
    |true=>
     cases c2:(n !=(rest.length:Int))with
     |false=>
      have c2':decide (n=(rest.length:Int))=true:=(by simpa using c2);refine wt (uu g1 g2) ?_;refine uU (uu g1 g2) (hcn _) ?_;replace zz:=Ak g1 g2 c1 hlr c2;refine wm zz ?_;try exact zI
      all_goals first|rfl|(simp only[Ty.w,simprocAttr,g2,c2',BG,Av];done)
     |true=>
      have c2':decide (n=(rest.length:Int))=false:=(by simpa using c2);rw[c1,c2']at hX;simp only[CB,LP,AC]at hX;refine wt (uu g1 g2) ?_;refine uU (uu g1 g2) (hcn _) ?_;replace zz:=Ak g1 g2 c1 hlr c2;refine wt zz ?_;exact Q8 (.inl rfl) (hg1 _) hX
   ·clear g1 g2 hh;rintro S h' ⟨g2,g4,g5,rfl,hcnt⟩;rw[hcnt]at hX;simp only[AL]at hX;simp only[J3];have n1:(h.next=h.next+1)=False:=(by simp);refine xH 11 (AY g2 g4 g5) ?_;refine⟨?_⟩;refine L3 (λS h'=>S 2= .ptr h.next 0 0/\S 4=A4 w/\S 5= .A2 6 (Sx.rows rest)/\S 8= .ptr (h.next+1) 0 0/\S 9= .sc .nilIface/\PI h w h') ?_ ?_
    ·simp only[Ty.w,simprocAttr,g2,g4,g5];refine⟨(((AH.refl h).new _).new _).set (Oo _) _,rfl,?_,?_⟩
     ·simp [A1.new,A1.set,J3]
     ·simp [A1.new,A1.set]
    ·clear g2 g4 g5;rintro S h' ⟨g2,g4,g5,g8,g9,hpi⟩;refine DB (PJ h F) ?_ ?_
     ·have o1:=hpi.o1;have o2:=hpi.o2;simp only[J3]at o1;have hN:=hpi.pH;have n1:(h.next=h.next+1)=False:=(by simp);have n2:(h.next+1=h.next)=False:=(by simp);have hz2:AS 0= .sc .nilIface:=rfl;replace zz:=Ak g2 g4 g5 g8 g9;(repeat'(first|refine cK ?_|refine nK ?_|refine M0 16 ?_|apply zI));refine⟨?_⟩;refine DB (λS h2=>h2=h'/\S 2= .ptr h.next 0 0/\S 4=A4 w/\S 5= .A2 6 (Sx.rows rest)/\S 8= .ptr (h.next+1) 0 0/\S 9= .sc .nilIface/\S 44=A4 w/\S 59= .sc (.bool (E8 w))) ?_ ?_
      ·cases u1:(w.data.toList==(#[102,111,114,97,108,108]:Array UInt8).toList)with
       |true=>
        have hq:E8 w=true:=(by unfold E8;simp[show A3 w DV=true from u1]);rw[hq];replace zz:=Al g2 g4 g5 g8 g9 u1;refine wm zz ?_;try exact zI
        all_goals first|rfl|(simp only[Ty.w,simprocAttr,g2,g4,g5,g8,g9];done)
       |false=>
        cases u2:(w.data.toList==(#[101,120,105,115,116,115]:Array UInt8).toList)with
        |true=>
         have hq:E8 w=true:=(by unfold E8;simp[show A3 w DV=false from u1,show A3 w HM=true from u2]);rw[hq];replace zz:=Ah g2 g4 g5 g8 g9 u1 u2;refine wm zz ?_;try exact zI
         all_goals first|rfl|(simp only[Ty.w,simprocAttr,g2,g4,g5,g8,g9];done)
        |false=>
         have hq:E8 w=false:=(by unfold E8;simp[show A3 w DV=false from u1,show A3 w HM=false from u2]);rw[hq];replace zz:=Ah g2 g4 g5 g8 g9 u1 u2;refine wm zz ?_;try exact zI
         all_goals first|rfl|(simp only[Ty.w,simprocAttr,g2,g4,g5,g8,g9];done)
      ·clear g2 g4 g5 g8 g9;rintro S h' ⟨rfl,g2,g4,g5,g8,g9,g44,g59⟩;cases hQ:E8 w with
       |true=>
        rw[hQ]at g59;simp only[SP,hQ,AC]at hX;obtain⟨p,b,rfl⟩: ∃ p b,rest=[p,b]:=by
         have h2:=WN (.inl hQ) hcnt
         match rest,h2 with
         |[p,b],_=>exact⟨p,b,rfl⟩
        simp only at hX;have hpo:=hro p (by simp);have hps:=hsr p (by simp);have hck:=λh=>W9 (l:=[b]) (by simp) (λx hx=>ihr x (by simp at hx⊢;exact .inr hx)) h;obtain⟨pk,pv,pl,pc,pt,pks⟩:=p;simp only[Ax,C9]at hX;simp only[Sx.ok]at hpo;simp only[Sx.small]at hps;have hcp:=λh=>M3 (vars:=true) (l:=pks) hps.1 (Sx.Bz.1 hpo.2.2.2.2) h;have r0:=Sx.CL (l:=[.mk pk pv pl pc pt pks,b]) (i:=0) rfl;have hq1:(1:Int)<=((Sx.rows [.mk pk pv pl pc pt pks,b]).length:Int):=(by rw[hlr];simp);have ht:List.take (((Sx.rows [.mk pk pv pl pc pt pks,b]).length:Int)-1).toNat (List.drop 1 (Sx.rows [.mk pk pv pl pc pt pks,b]))=Sx.rows [b]:=(by rw[hlr];try rfl);generalize Sx.rows [.mk pk pv pl pc pt pks,b]=R at g5 r0 hq1 ht hlr;generalize Sx.rows [b]=R1 at ht hck;simp only[Sx.cells]at r0;cases q3:(pk !=3)with
        |true=>
         rw[show(pk==3)=false by simpa using q3]at hX;simp only[AL]at hX;replace zz:=EI g2 g4 g5 g8 g9 g44 g59 r0 q3 o1 o2;refine wt zz ?_;exact Q8 (.inl rfl) (hpi.grow.set (AG _) _) hX
        |false=>
         rw[show(pk==3)=true by simpa using q3]at hX;simp only[AC]at hX;generalize C5 true pks=PP at hcp hX;obtain⟨pms,c⟩:=PP;simp only at hcp hX;cases hc:c==0 with
         |false=>
          rw[hc]at hX;simp only[AL]at hX;have e0:AS c=Ao c:=(by simp only[AS,hc,AL]);rw[e0]at hcp;simp only[Ao]at hcp e0;replace zz:=EI g2 g4 g5 g8 g9 g44 g59 r0 q3 o1 o2;refine wt zz ?_;refine Gu (hcp _) (by(try simp only[Ty.w,simprocAttr,g2,g4,g5,g8,g9,g44,r0,o1,o2,n1,n2,Da]);try rfl) ?_;simp only[Ty.w,simprocAttr,g2,g4,g5,g8,g9,g44,r0,o1,o2,n1,n2,Da];replace zz:=EI g2 g4 g5 g8 g9 g44 r0 o1 o2 n1 n2;refine wt zz ?_;refine PJ.Ih hpi c w ⟨#[]⟩ _ _ _ _ ?_ ?_ ?_ ?_ ?_ ?_
          ·simp only[Ty.w,simprocAttr,g2]
          ·simp only[Ty.w,simprocAttr,g8]
          ·simp only[Ty.w,simprocAttr];first|exact e0.symm|rfl
          ·exact ⟨rfl,rfl,rfl,rfl⟩
          ·exact λ_=>hX
          ·intro hh;rw[hc]at hh;exact absurd hh (by simp)
         |true=>
          rw[hc]at hX;simp only[AC]at hX;have e0:AS c= .sc .nilIface:=(by simp only[AS,hc,AC]);rw[e0]at hcp;clear e0;generalize DL [b]=KK at hck hX;obtain⟨ks,c2⟩:=KK;simp only at hck hX;cases hc2:c2==0 with
          |false=>
           rw[hc2]at hX;simp only[AL]at hX;have e0:AS c2=Ao c2:=(by simp only[AS,hc2,AL]);rw[e0]at hck;simp only[Ao]at hck e0;replace zz:=EI g2 g4 g5 g8 g9 g44 g59 r0 q3 o1 o2;refine wt zz ?_;refine Gu (hcp _) (by(try simp only[Ty.w,simprocAttr,g2,g4,g5,g8,g9,g44,r0,o1,o2,n1,n2,Da]);try rfl) ?_;simp only[Ty.w,simprocAttr,g2,g4,g5,g8,g9,g44,r0,o1,o2,n1,n2,Da];(repeat'(first|refine cK ?_|(refine nK ?_;try exact zI)|refine Af λK hK=>?_|(refine Ci ?_)|((first|refine Bn ?_|refine FN (λK hK=>?_));simp only[Ty.w,simprocAttr,g2,g4,g5,g8,g9,g44,r0,o1,o2,n1,n2,hq1,ht,B8,Bl,CT,Ce])|(refine hK _ _ ?_;clear hK;(try simp only[Au,simprocAttr]))));refine Gu (hck _) (by(try simp only[Ty.w,simprocAttr,g2,g4,g5,g8,g9,g44,r0,o1,o2,n1,n2,hq1,ht,B8,Bl,CT,Ce,Da]);try rfl) ?_;simp only[Ty.w,simprocAttr,g2,g4,g5,g8,g9,g44,r0,o1,o2,n1,n2,hq1,ht,B8,Bl,CT,Ce,Da];(repeat'(first|refine cK ?_|(refine nK ?_;try exact zI)|(refine hK _ _ ?_;clear hK;(try simp only[Au,simprocAttr]))));(try rw[Da]);refine PJ.Ih hpi c2 w ⟨#[]⟩ _ _ _ _ ?_ ?_ ?_ ?_ ?_ ?_
           ·simp only[Ty.w,simprocAttr,g2]
           ·simp only[Ty.w,simprocAttr,g8]
           ·simp only[Ty.w,simprocAttr];first|exact e0.symm|rfl
           ·exact ⟨rfl,rfl,rfl,rfl⟩
           ·exact λ_=>hX
           ·intro hh;rw[hc2]at hh;exact absurd hh (by simp)
          |true=>
           rw[hc2]at hX;simp only[AC]at hX;have e0:AS c2= .sc .nilIface:=(by simp only[AS,hc2,AC]);rw[e0]at hck;replace zz:=EI g2 g4 g5 g8 g9 g44 g59 r0 q3 o1 o2;refine wt zz ?_;refine Gu (hcp _) (by(try simp only[Ty.w,simprocAttr,g2,g4,g5,g8,g9,g44,r0,o1,o2,n1,n2,Da]);try rfl) ?_;simp only[Ty.w,simprocAttr,g2,g4,g5,g8,g9,g44,r0,o1,o2,n1,n2,Da];(repeat'(first|refine cK ?_|(refine nK ?_;try exact zI)|refine Af λK hK=>?_|(refine Ci ?_)|((first|refine Bn ?_|refine FN (λK hK=>?_));simp only[Ty.w,simprocAttr,g2,g4,g5,g8,g9,g44,r0,o1,o2,n1,n2,hq1,ht,B8,Bl,CT,Ce])|(refine hK _ _ ?_;clear hK;(try simp only[Au,simprocAttr]))));refine Gu (hck _) (by(try simp only[Ty.w,simprocAttr,g2,g4,g5,g8,g9,g44,r0,o1,o2,n1,n2,hq1,ht,B8,Bl,CT,Ce,Da]);try rfl) ?_;simp only[Ty.w,simprocAttr,g2,g4,g5,g8,g9,g44,r0,o1,o2,n1,n2,hq1,ht,B8,Bl,CT,Ce,Da];(repeat'(first|refine cK ?_|(refine nK ?_;try exact zI)|(refine hK _ _ ?_;clear hK;(try simp only[Au,simprocAttr]))));(try rw[Da]);refine PJ.Ih hpi c2 w ⟨#[]⟩ _ _ _ _ ?_ ?_ ?_ ?_ ?_ ?_
           ·simp only[Ty.w,simprocAttr,g2]
           ·simp only[Ty.w,simprocAttr,g8]
           ·simp only[Ty.w,simprocAttr];first|exact e0.symm|rfl
           ·exact ⟨rfl,rfl,rfl,rfl⟩
           ·intro hh;rw[hc2]at hh;exact absurd hh (by simp)
           ·subst hX;refine λ_=>⟨rfl,λhh=>?_⟩;simp only[Fm.cells,AP];refine⟨?_,?_,?_,?_,?_,?_,trivial⟩<;>(unfold AJ;first|rfl|exact .inr (.inl ⟨rfl,.inr rfl⟩)|exact .inl ⟨rfl,Dc _ _⟩|exact .inl ⟨rfl,C6 _ _⟩|exact .inl ⟨rfl,Ed _ _⟩)
       |false=>
        rw[hQ]at g59;simp only[SP,hQ,AL]at hX;replace zz:=Ah g2 g4 g5 g8 g9 g44 g59;(repeat'(first|refine cK ?_|refine nK ?_|refine M0 23 ?_|refine C2 zz ?_|apply zI));refine⟨?_⟩;refine DB (λS h2=>h2=h'/\S 2= .ptr h.next 0 0/\S 4=A4 w/\S 5= .A2 6 (Sx.rows rest)/\S 8= .ptr (h.next+1) 0 0/\S 9= .sc .nilIface/\S 44=A4 w/\S 87= .sc (.bool (Fg w))) ?_ ?_
        ·cases u1:(w.data.toList==(#[110,111,116]:Array UInt8).toList)with
         |true=>
          have hq:Fg w=true:=(by unfold Fg;simp[show A3 w DR=true from u1]);rw[hq];replace zz:=BT g2 g4 g5 g8 g9 g44 g59 u1;refine wm zz ?_;try exact zI
          all_goals first|rfl|(simp only[Ty.w,simprocAttr,g2,g4,g5,g8,g9,g44];done)
         |false=>
          cases u2:(w.data.toList==(#[105,109,112,108,121]:Array UInt8).toList)with
          |true=>
           have hq:Fg w=true:=(by unfold Fg;simp[show A3 w DR=false from u1,show A3 w GF=true from u2]);rw[hq];replace zz:=BO g2 g4 g5 g8 g9 g44 g59 u1 u2;refine wm zz ?_;try exact zI
           all_goals first|rfl|(simp only[Ty.w,simprocAttr,g2,g4,g5,g8,g9,g44];done)
          |false=>
           cases u3:(w.data.toList==(#[97,110,100]:Array UInt8).toList)with
           |true=>
            have hq:Fg w=true:=(by unfold Fg;simp[show A3 w DR=false from u1,show A3 w GF=false from u2,show A3 w Bo=true from u3]);rw[hq];replace zz:=B9 g2 g4 g5 g8 g9 g44 g59 u1 u2 u3;refine wm zz ?_;try exact zI
            all_goals first|rfl|(simp only[Ty.w,simprocAttr,g2,g4,g5,g8,g9,g44];done)
           |false=>
            cases u4:(w.data.toList==(#[111,114]:Array UInt8).toList)with
            |true=>
             have hq:Fg w=true:=(by unfold Fg;simp[show A3 w DR=false from u1,show A3 w GF=false from u2,show A3 w Bo=false from u3,show A3 w GR=true from u4]);rw[hq];replace zz:=EI g2 g4 g5 g8 g9 g44 g59 u1 u2 u3 u4;refine wm zz ?_;try exact zI
             all_goals first|rfl|(simp only[Ty.w,simprocAttr,g2,g4,g5,g8,g9,g44];done)
            |false=>
             have hq:Fg w=false:=(by unfold Fg;simp[show A3 w DR=false from u1,show A3 w GF=false from u2,show A3 w Bo=false from u3,show A3 w GR=false from u4]);rw[hq];replace zz:=EI g2 g4 g5 g8 g9 g44 g59 u1 u2 u3 u4;refine wm zz ?_;try exact zI
             all_goals first|rfl|(simp only[Ty.w,simprocAttr,g2,g4,g5,g8,g9,g44];done)
        ·clear g2 g4 g5 g8 g9 g44 g59;rintro S h' ⟨rfl,g2,g4,g5,g8,g9,g44,g87⟩;cases hL:Fg w with
         |true=>
          rw[hL]at g87 hX;simp only[AC]at hX;have hck:=λh=>W9 (l:=rest) hrl ihr h;generalize DL rest=KK at hck hX;obtain⟨ks,c2⟩:=KK;simp only at hck hX;cases hc2:c2==0 with
          |false=>
           rw[hc2]at hX;simp only[AL]at hX;have e0:AS c2=Ao c2:=(by simp only[AS,hc2,AL]);rw[e0]at hck;simp only[Ao]at hck e0;replace zz:=BO g2 g4 g5 g8 g9 g44 g87 o1 o2;refine wt zz ?_;refine Gu (hck _) (by(try simp only[Ty.w,simprocAttr,g2,g4,g5,g8,g9,g44,g87,o1,o2,n1,n2,Da]);try rfl) ?_;simp only[Ty.w,simprocAttr,g2,g4,g5,g8,g9,g44,g87,o1,o2,n1,n2,Da];replace zz:=EI g2 g4 g5 g8 g9 g44 g87 o1 o2 n1 n2;refine wt zz ?_;refine PJ.Ih hpi c2 w ⟨#[]⟩ _ _ _ _ ?_ ?_ ?_ ?_ ?_ ?_
           ·simp only[Ty.w,simprocAttr,g2]
           ·simp only[Ty.w,simprocAttr,g8]
           ·simp only[Ty.w,simprocAttr];first|exact e0.symm|rfl
           ·exact ⟨rfl,rfl,rfl,rfl⟩
           ·exact λ_=>hX
           ·intro hh;rw[hc2]at hh;exact absurd hh (by simp)
          |true=>
           rw[hc2]at hX;simp only[AC]at hX;have e0:AS c2= .sc .nilIface:=(by simp only[AS,hc2,AC]);rw[e0]at hck;replace zz:=BO g2 g4 g5 g8 g9 g44 g87 o1 o2;refine wt zz ?_;refine Gu (hck _) (by(try simp only[Ty.w,simprocAttr,g2,g4,g5,g8,g9,g44,g87,o1,o2,n1,n2,Da]);try rfl) ?_;simp only[Ty.w,simprocAttr,g2,g4,g5,g8,g9,g44,g87,o1,o2,n1,n2,Da];replace zz:=EI g2 g4 g5 g8 g9 g44 g87 o1 o2 n1 n2;refine wt zz ?_;refine PJ.Ih hpi c2 w ⟨#[]⟩ _ _ _ _ ?_ ?_ ?_ ?_ ?_ ?_
           ·simp only[Ty.w,simprocAttr,g2]
           ·simp only[Ty.w,simprocAttr,g8]
           ·simp only[Ty.w,simprocAttr];first|exact e0.symm|rfl
           ·exact ⟨rfl,rfl,rfl,rfl⟩
           ·intro hh;rw[hc2]at hh;exact absurd hh (by simp)
           ·subst hX;refine λ_=>⟨rfl,λhh=>?_⟩;simp only[Fm.cells,AP];refine⟨?_,?_,?_,?_,?_,?_,trivial⟩<;>(unfold AJ;first|rfl|exact .inr (.inl ⟨rfl,.inr rfl⟩)|exact .inl ⟨rfl,Dc _ _⟩|exact .inl ⟨rfl,C6 _ _⟩|exact .inl ⟨rfl,Ed _ _⟩)
         |false=>
          rw[hL]at g87 hX;simp only[AL]at hX;replace zz:=Ah g2 g4 g5 g8 g9 g44 g87;(repeat'(first|refine cK ?_|refine nK ?_|refine M0 28 ?_|refine C2 zz ?_|apply zI));refine⟨?_⟩;refine DB (λS h2=>h2=h'/\S 2= .ptr h.next 0 0/\S 4=A4 w/\S 5= .A2 6 (Sx.rows rest)/\S 8= .ptr (h.next+1) 0 0/\S 9= .sc .nilIface/\S 44=A4 w/\S 98= .sc (.bool (El w))) ?_ ?_
          ·cases u1:(w.data.toList==(#[61]:Array UInt8).toList)with
           |true=>
            have hq:El w=true:=(by unfold El FQ;simp[show A3 w Ca=true from u1]);rw[hq];replace zz:=BT g2 g4 g5 g8 g9 g44 g87 u1;refine wm zz ?_;try exact zI
            all_goals first|rfl|(simp only[Ty.w,simprocAttr,g2,g4,g5,g8,g9,g44];done)
           |false=>
            cases u2:(w.data.toList==(#[60]:Array UInt8).toList)with
            |true=>
             have hq:El w=true:=(by unfold El FQ;simp[show A3 w Ca=false from u1,show A3 w DG=true from u2]);rw[hq];replace zz:=BO g2 g4 g5 g8 g9 g44 g87 u1 u2;refine wm zz ?_;try exact zI
             all_goals first|rfl|(simp only[Ty.w,simprocAttr,g2,g4,g5,g8,g9,g44];done)
            |false=>
             cases u3:(w.data.toList==(#[60,61]:Array UInt8).toList)with
             |true=>
              have hq:El w=true:=(by unfold El FQ;simp[show A3 w Ca=false from u1,show A3 w DG=false from u2,show A3 w Db=true from u3]);rw[hq];replace zz:=B9 g2 g4 g5 g8 g9 g44 g87 u1 u2 u3;refine wm zz ?_;try exact zI
              all_goals first|rfl|(simp only[Ty.w,simprocAttr,g2,g4,g5,g8,g9,g44];done)
             |false=>
              cases u4:(w.data.toList==(#[62]:Array UInt8).toList)with
              |true=>
               have hq:El w=true:=(by unfold El FQ;simp[show A3 w Ca=false from u1,show A3 w DG=false from u2,show A3 w Db=false from u3,show A3 w Ix=true from u4]);rw[hq];replace zz:=EI g2 g4 g5 g8 g9 g44 g87 u1 u2 u3 u4;refine wm zz ?_;try exact zI
               all_goals first|rfl|(simp only[Ty.w,simprocAttr,g2,g4,g5,g8,g9,g44];done)
              |false=>
               cases u5:(w.data.toList==(#[62,61]:Array UInt8).toList)with
               |true=>
                have hq:El w=true:=(by unfold El FQ;simp[show A3 w Ca=false from u1,show A3 w DG=false from u2,show A3 w Db=false from u3,show A3 w Ix=false from u4,show A3 w JP=true from u5]);rw[hq];replace zz:=Ab g2 g4 g5 g8 g9 g44 g87 u1 u2 u3 u4 u5;refine wm zz ?_;try exact zI
                all_goals first|rfl|(simp only[Ty.w,simprocAttr,g2,g4,g5,g8,g9,g44];done)
               |false=>
                have hq:El w=false:=(by unfold El FQ;simp[show A3 w Ca=false from u1,show A3 w DG=false from u2,show A3 w Db=false from u3,show A3 w Ix=false from u4,show A3 w JP=false from u5]);rw[hq];replace zz:=Ab g2 g4 g5 g8 g9 g44 g87 u1 u2 u3 u4 u5;refine wm zz ?_;try exact zI
                all_goals first|rfl|(simp only[Ty.w,simprocAttr,g2,g4,g5,g8,g9,g44];done)
          ·clear g2 g4 g5 g8 g9 g44 g87;rintro S h' ⟨rfl,g2,g4,g5,g8,g9,g44,g98⟩;cases hC:El w with
           |true=>
            rw[hC]at g98 hX;simp only[AC]at hX;obtain⟨x,y,rfl⟩: ∃ x y,rest=[x,y]:=by
             have h2:=WN (.inr hC) hcnt
             match rest,h2 with
             |[p,b],_=>exact⟨p,b,rfl⟩
            simp only at hX;have hcc:=λh=>jD (w:=w) (hro x (by simp)) (hro y (by simp)) (S4 x (hro x (by simp)) (hsr x (by simp))) (S4 y (hro y (by simp)) (hsr y (by simp))) h;have hfz:=λhh=>SI h.next hh (Hn w x y).1
            generalize Hn w x y=CC at hcc hX hfz;obtain⟨f,c⟩:=CC;simp only at hcc hfz;have r0:=Sx.CL (l:=[x,y]) (i:=0) rfl;have r1:=Sx.CL (l:=[x,y]) (i:=1) rfl;generalize Sx.rows [x,y]=R at g5 r0 r1 hlr;obtain⟨xk,xv,xl,xc,xt,xks⟩:=x;obtain⟨yk,yv,yl,yc,yt,yks⟩:=y;obtain⟨fop,fna,far,fpa,fex,fki⟩:=f;simp only[Sx.cells]at r0 r1 hcc;simp only[Fm.cells]at hcc hfz;cases hc2:c==0 with
            |false=>
             simp only[D9,hc2,AL]at hX;have e0:AS c=Ao c:=(by simp only[AS,hc2,AL]);rw[e0]at hcc;simp only[Ao]at hcc e0;replace zz:=EI g2 g4 g5 g8 g9 g44 g98 r0 r1 o1 o2;refine wy zz ?_
             (first|refine Mh (hcc _) (by(try simp only[Ty.w,simprocAttr,g2,g4,g5,g8,g9,g44,g98,r0,r1,o1,o2,n1,n2,Da]);try rfl) ?_|refine Ip (hcc _) (by(try simp only[Ty.w,simprocAttr,g2,g4,g5,g8,g9,g44,g98,r0,r1,o1,o2,n1,n2,Da]);try rfl) (by simp only[Ty.w,simprocAttr,g2,g4,g5,g8,g9,g44,g98,r0,r1,o1,o2,n1,n2,Da];try trivial) ?_);simp only[Ty.w,simprocAttr,B8,g2,g4,g5,g8,g9,g44,g98,r0,r1,o1,o2,n1,n2,Da]
             replace zz:=EI g2 g4 g5 g8 g9 g44 g98 o1 o2 n1 n2;refine wy zz ?_;refine PJ.Ih hpi c fop fna _ _ _ _ ?_ ?_ ?_ ?_ ?_ ?_
             ·simp only[Ty.w,simprocAttr,g2]
             ·simp only[Ty.w,simprocAttr,g8]
             ·simp only[Ty.w,simprocAttr];first|exact e0.symm|rfl
             ·exact ⟨rfl,rfl,rfl,rfl⟩
             ·exact λ_=>hX
             ·intro hh;rw[hc2]at hh;exact absurd hh (by simp)
            |true=>
             simp only[D9,hc2,AC]at hX;have e0:AS c= .sc .nilIface:=(by simp only[AS,hc2,AC]);rw[e0]at hcc;replace zz:=EI g2 g4 g5 g8 g9 g44 g98 r0 r1 o1 o2;refine wy zz ?_
             (first|refine Mh (hcc _) (by(try simp only[Ty.w,simprocAttr,g2,g4,g5,g8,g9,g44,g98,r0,r1,o1,o2,n1,n2,Da]);try rfl) ?_|refine Ip (hcc _) (by(try simp only[Ty.w,simprocAttr,g2,g4,g5,g8,g9,g44,g98,r0,r1,o1,o2,n1,n2,Da]);try rfl) (by simp only[Ty.w,simprocAttr,g2,g4,g5,g8,g9,g44,g98,r0,r1,o1,o2,n1,n2,Da];try trivial) ?_);simp only[Ty.w,simprocAttr,B8,g2,g4,g5,g8,g9,g44,g98,r0,r1,o1,o2,n1,n2,Da]
             replace zz:=EI g2 g4 g5 g8 g9 g44 g98 o1 o2 n1 n2;refine wy zz ?_;refine PJ.Ih hpi c fop fna _ _ _ _ ?_ ?_ ?_ ?_ ?_ ?_
             ·simp only[Ty.w,simprocAttr,g2]
             ·simp only[Ty.w,simprocAttr,g8]
             ·simp only[Ty.w,simprocAttr];first|exact e0.symm|rfl
             ·exact ⟨rfl,rfl,rfl,rfl⟩
             ·intro hh;rw[hc2]at hh;exact absurd hh (by simp)
             ·subst hX;exact λ_=>⟨by simpa using hc2,λhh=>by simpa only[Fm.cells]using hfz hh⟩
           |false=>
            rw[hC]at g98 hX;simp only[AL]at hX;have hw':w.size<=9223372036854775807:=(by unfold AI at hw;omega);have hn:=λh:A1=>FP (h:=h) hw';cases hN1:As w with
            |false=>
             rw[hN1]at hn hX;simp only[AL]at hX;replace zz:=BO g2 g4 g5 g8 g9 g44 g98 o1 o2;refine wt zz ?_;replace zz:=Ah g2 g4 g5 g8 g9 g44 g98;refine uU zz (hn _) ?_;replace zz:=B9 g2 g4 g5 g8 g9 g44 g98 o1 o2 yF;refine wt zz ?_;exact Q8 (.inr rfl) (hpi.grow.set (AG _) _) hX
            |true=>
             rw[hN1]at hn hX;simp only[AC]at hX;have ht:=λh:A1=>Rx hrl hro h;generalize CN rest=T at ht hX;obtain⟨t,c⟩:=T;simp only at ht hX;cases hc2:c==0 with
             |false=>
              rw[hc2]at hX;simp only[AL]at hX;have e0:AS c=Ao c:=(by simp only[AS,hc2,AL]);rw[e0]at ht;simp only[Ao]at ht e0;replace zz:=BO g2 g4 g5 g8 g9 g44 g98 o1 o2;refine wt zz ?_;replace zz:=Ah g2 g4 g5 g8 g9 g44 g98;refine uU zz (hn _) ?_;replace zz:=EI g2 g4 g5 g8 g9 g44 o1 o2 n1 n2 yT;refine wt zz ?_;refine Gu (ht _) (by(try simp only[Ty.w,simprocAttr,g2,g4,g5,g8,g9,g44,o1,o2,n1,n2,Da]);try rfl) ?_;simp only[Ty.w,simprocAttr,g2,g4,g5,g8,g9,g44,o1,o2,n1,n2,Da];(repeat'(first|refine cK ?_|(refine nK ?_;try exact zI)|(refine hK _ _ ?_;clear hK;(try simp only[Au,simprocAttr]))));(try simp only[Da]);refine PJ.Ih hpi c ⟨#[97,116,111,109]⟩ w _ _ _ _ ?_ ?_ ?_ ?_ ?_ ?_
              ·simp only[Ty.w,simprocAttr,g2]
              ·simp only[Ty.w,simprocAttr,g8]
              ·simp only[Ty.w,simprocAttr];first|exact e0.symm|rfl
              ·exact ⟨rfl,rfl,rfl,rfl⟩
              ·exact λ_=>hX
              ·intro hh;rw[hc2]at hh;exact absurd hh (by simp)
             |true=>
              rw[hc2]at hX;simp only[AC]at hX;have e0:AS c= .sc .nilIface:=(by simp only[AS,hc2,AC]);rw[e0]at ht;replace zz:=BO g2 g4 g5 g8 g9 g44 g98 o1 o2;refine wt zz ?_;replace zz:=Ah g2 g4 g5 g8 g9 g44 g98;refine uU zz (hn _) ?_;replace zz:=EI g2 g4 g5 g8 g9 g44 o1 o2 n1 n2 yT;refine wt zz ?_;refine Gu (ht _) (by(try simp only[Ty.w,simprocAttr,g2,g4,g5,g8,g9,g44,o1,o2,n1,n2,Da]);try rfl) ?_;simp only[Ty.w,simprocAttr,g2,g4,g5,g8,g9,g44,o1,o2,n1,n2,Da];(repeat'(first|refine cK ?_|(refine nK ?_;try exact zI)|(refine hK _ _ ?_;clear hK;(try simp only[Au,simprocAttr]))));(try simp only[Da]);refine PJ.Ih hpi c ⟨#[97,116,111,109]⟩ w _ _ _ _ ?_ ?_ ?_ ?_ ?_ ?_
              ·simp only[Ty.w,simprocAttr,g2]
              ·simp only[Ty.w,simprocAttr,g8]
              ·simp only[Ty.w,simprocAttr];first|exact e0.symm|rfl
              ·exact ⟨rfl,rfl,rfl,rfl⟩
              ·intro hh;rw[hc2]at hh;exact absurd hh (by simp)
              ·subst hX;refine λ_=>⟨rfl,λhh=>?_⟩;simp only[Fm.cells,AP];refine⟨?_,?_,?_,?_,?_,?_,trivial⟩<;>(unfold AJ;first|rfl|exact .inr (.inl ⟨rfl,.inr rfl⟩)|exact .inl ⟨rfl,Dc _ _⟩|exact .inl ⟨rfl,C6 _ _⟩|exact .inl ⟨rfl,Ed _ _⟩)
     ·clear g2 g4 g5 g8 g9 hpi;rintro S h' ⟨g2,g8,hg,c,a,b,p2,p3,p4,p5,g9,o1,o2,⟨z2,z3,z4,z5⟩,hc,hd⟩;simp only[J3]at o1;cases hcc:c==0 with
      |false=>
       have hF:=hc hcc;have e0:AS c=Ao c:=(by simp only[AS,hcc,AL]);rw[e0]at g9;simp only[Ao]at g9;subst hF;rw[e0];simp only[Ao];replace zz:=Ak g2 g8 g9 o1 o2;refine wt zz ?_;refine⟨?_,hg.set (AG _) _⟩;simp only[Cm,Fm.cells,Ex.rows,Fm.rows,A9,AN,List.map_nil,AJ,AP];exact⟨_,rfl,⟨_,rfl,rfl,rfl,.inr (.inl ⟨rfl,.inr rfl⟩),.inr (.inl ⟨rfl,.inr rfl⟩),.inr (.inl ⟨rfl,.inr rfl⟩),.inr (.inl ⟨rfl,.inr rfl⟩),trivial⟩,rfl,trivial⟩
      |true=>
       have hF:=hd hcc;have e0:AS c= .sc .nilIface:=(by simp only[AS,hcc,AC]);rw[e0]at g9;have e2:AS F.2= .sc .nilIface:=(by rw[hF.1];try rfl);rw[e2];replace zz:=BO g2 g8 g9 o1 o2 z2 z3 z4 z5;refine wt zz ?_;refine⟨?_,hg.set (AG _) _⟩;have h1:=hF.2 (h'.set h.next (.arr 6 [[A4 a,A4 b,p2,p3,p4,p5]]));unfold AJ;refine⟨_,rfl,?_⟩;unfold AP;refine⟨?_,by unfold AP;exact⟨by simp only[AJ],by simp only[AP]⟩⟩;unfold AJ;exact⟨_,rfl,h1⟩
theorem OE: ∀ l m:List Sx,Sx.Aw (l++m)=Sx.Aw l+Sx.Aw m
 |[],m=>by simp[Sx.Aw]
 |k::l,m=>by simp only[List.cons_append,Sx.Aw,OE l m];omega
theorem My(l:List Sx):(AE l).nodes=Sx.Aw l+1:=by simp only[AE,Sx.nodes]
theorem jS(s:ByteArray):(A7 s).nodes=1:=by simp[A7,Sx.nodes,Sx.Aw]
theorem WO: ∀ (e:Ex),FD e=true-> ∀ (d n:Nat),d+(BI e).depth<=32->n+(BI e).nodes<=4096->(EJ e d n).1=true/\(EJ e d n).2<=n+(BI e).nodes:=by
 refine Ex.ind ?_;intro op name v args kids ih hs d n hd hn;unfold FD at hs;unfold BI at hd hn⊢;unfold EJ;cases c1:A3 op Iv with
 |true=>
  rw[c1]at hs hd hn;simp only[AO]at hs hd hn⊢;simp only[Sx.nodes,Sx.Aw]at hn⊢;rw[AK ⟨by omega,by omega⟩];exact⟨hs,by simp only;omega⟩
 |false=>
  rw[c1]at hs hd hn;simp only[BR,AQ]at hs hd hn⊢;cases c2:A3 op Iw with
  |true=>
   rw[c2]at hs hd hn;simp only[AO]at hs hd hn⊢;simp only[Cu,AE,Sx.nodes]at hn⊢;rw[AK ⟨by omega,by omega⟩];exact⟨hs,by simp only;omega⟩
  |false=>
   rw[c2]at hs hd hn;simp only[BR,AQ]at hs hd hn⊢;split at hs
   case isFalse=>simp at hs
   rename_i hop;rw[AK hop];rw[AV]at hs;obtain⟨h1,h2⟩:=hs;rw[h1];simp only[AO];split at h2
   case h_2=>simp at h2
   rename_i a b;simp only[AV]at h2;simp only[AE,Sx.depth,Sx.F8,Sx.nodes,Sx.Aw,A7,AO]at hd hn⊢;have k1:¬ ((1:Int)=3):=(by omega);rw[A8 k1]at hd;rw[AK ⟨by omega,by omega⟩];obtain⟨f1,f2⟩:=ih a (by simp) h2.1 (d+1) (n+1) (by omega) (by omega);cases hw:EJ a (d+1) (n+1)with
   |mk x c=>
    rw[hw]at f1 f2;simp only at f1 f2;subst f1;simp only;obtain⟨g1,g2⟩:=ih b (by simp) h2.2 (d+1) c (by omega) (by omega);exact⟨g1,by omega⟩
theorem jT{e:Ex}(hn:(BI e).nodes<=AI):Ea e=(FD e&&Mr (BI e)):=by
 unfold Ea;rw[Ms hn];cases hs:FD e with
 |false=>
  have:(EJ e 0 0).1=false:=by
   cases h:(EJ e 0 0).1 with
   |false=>rfl
   |true=>rw[O2 e 0 0 h]at hs;simp at hs
  simp only[this,BF]
 |true=>
  cases hv:Mr (BI e)with
  |false=>simp
  |true=>
   have h1:=(JQ (BI e) 0 0 (by omega) (by omega)).1.1 (by rw[Ms hn];exact hv);rw[(WO e hs 0 0 h1.2.1 h1.2.2).1]
section
variable {name:ByteArray}{args:List ByteArray}{params:List Pm}{exprs:List Ex}{kids p q:List Fm}{s:Bool}
end
theorem jU{C:Fm->Prop}(f:Fm)(hf:DH f=true)
  (h1: ∀ name args,As name=true->args.all CH=true->C (.mk Bx name args [] [] []))
  (h2: ∀ args,args.length=2->args.all CH=true->C (.mk CI ⟨#[]⟩ args [] [] []))
  (h3: ∀ op a b,(op=DG\/op=Db\/op=Ca)->FD a=true->FD b=true->C (.mk op ⟨#[]⟩ [] [] [a,b] []))
  (h4: ∀ op kids,(op=Bo\/op=GR)->(∀ k∈kids,DH k=true)->C (.mk op ⟨#[]⟩ [] [] [] kids))
  (h5: ∀ k,DH k=true->C (.mk DR ⟨#[]⟩ [] [] [] [k]))
  (h6: ∀ a b,DH a=true->DH b=true->C (.mk GF ⟨#[]⟩ [] [] [] [a,b]))
  (h7: ∀ op params k,(op=DV\/op=HM)->params.all Hl=true->DH k=true->C (.mk op ⟨#[]⟩ [] params [] [k])):C f:=by
 obtain⟨op,name,args,params,exprs,kids⟩:=f;simp only[DH,AV,List.all_eq_true]at hf;obtain⟨⟨hp,he⟩,hk⟩:=hf;rw[Mo]at hk;rcases Va hp with⟨rfl,a1,a2,rfl,a3,a4⟩|⟨rfl,rfl,a1,a2,rfl,a3,a4⟩|⟨a1,rfl,rfl,rfl,a3,a4⟩|⟨a1,rfl,rfl,rfl,a3⟩|⟨a1,rfl,rfl,a3,a4,a5⟩
 ·obtain rfl:=List.eq_nil_of_length_eq_zero a3;obtain rfl:=List.eq_nil_of_length_eq_zero a4;exact h1 _ _ a1 a2
 ·obtain rfl:=List.eq_nil_of_length_eq_zero a3;obtain rfl:=List.eq_nil_of_length_eq_zero a4;exact h2 _ a1 a2
 ·obtain rfl:=List.eq_nil_of_length_eq_zero a4
  match exprs,a3,he with
  |[a,b],_,he=>exact h3 _ _ _ a1 (he a (by simp)) (he b (by simp))
 ·obtain rfl:=List.eq_nil_of_length_eq_zero a3;rcases a1 with rfl|rfl|⟨rfl,a4⟩|⟨rfl,a4⟩
  ·exact h4 _ _ (.inl rfl) hk
  ·exact h4 _ _ (.inr rfl) hk
  ·match kids,a4,hk with
   |[k],_,hk=>exact h5 _ (hk k (by simp))
  ·match kids,a4,hk with
   |[a,b],_,hk=>exact h6 _ _ (hk a (by simp)) (hk b (by simp))
 ·obtain rfl:=List.eq_nil_of_length_eq_zero a3
  match kids,a4,hk with
  |[k],_,hk=>exact h7 _ _ _ a1 a5 (hk k (by simp))
set_option maxHeartbeats 4000000
def IS(n:Int):List Ch->Int
 |[]=>n
 |c::l=>IS (IntKind.i64.wrap (n+IntKind.i64.wrap (IntKind.i64.wrap (IntKind.i64.wrap (IntKind.i64.wrap (1+(c.params.length:Int))+(c.args.length:Int))+c.cond.size)+c.value.size))) l
theorem SQ{l:List Ch}(hl:Chs.ok l)(h:A1):A6 prog 16 [.A2 15 (Ae l)] h λr h'=>r= .sc (.int .i64 (IS 0 l))/\h'=h:=by
 obtain⟨hll,hlo⟩:=hl;unfold AI at hll;have hlen:=Ko l;generalize hF:IS 0 l=F;refine AF func16 ntmps16 results16 Ty.fR ?_;refine wt A5 ?_;refine CG (λc S h'=>h'=h/\S 0= .A2 15 (Ae l)/\ ∃ (k:Nat)(n:Int),S 4= .sc (.int .i64 k)/\S 3= .sc (.int .i64 n)/\k<=l.length/\c=l.length-k/\F=IS n (l.drop k)) l.length ?_ ?_
 ·simp only[Ty.w,simprocAttr];exact⟨0,0,rfl,rfl,by omega,rfl,by rw[← hF];try rfl⟩
 ·clear hF;rintro c S h' ⟨rfl,g0,k,n,g4,g3,hk,rfl,hinv⟩;by_cases hlt:k<l.length
  ·have hd:decide ((k:Int)<(l.length:Int))=true:=(by simp;omega);have w7:IntKind.i64.wrap ((k:Int)+1)=k+1:=(by rw[BZ (by omega) (by omega)]);obtain⟨a,hx⟩: ∃ a,l[k]? =some a:=⟨_,List.getElem?_eq_getElem hlt⟩;have hr:=No hx;have ha:=hlo a (List.mem_of_getElem? hx);rw[Cd hx]at hinv;simp only[IS]at hinv;have c1:=OC a.cond ha.cond;have c2:=Vq a.value ha.value;have hp:=Gw a.params;have hs:=GP a.args;clear ha;obtain⟨kind,params,cond,name,args,value⟩:=a;simp only at hinv c1 c2 hp hs;generalize cond.size=s1 at hinv c1;generalize value.size=s2 at hinv c2;obtain⟨fop,fna,far,fpa,fex,fki⟩:=cond;obtain⟨eop,ena,en,ear,eki⟩:=value;simp only[CZ,Fm.cells,Ex.cells,List.cons_append,List.nil_append]at hr c1 c2;replace zz:=BT g0 g3 g4 hlen hd hr hp hs;refine wy zz ?_;replace zz:=Ah g0 g3 g4 hlen hr hp hs;(first|refine uV zz (c1 _) ?_|refine uA zz (c1 _) ?_);refine wy zz ?_;replace zz:=Ah g0 g3 g4 hlen hr hp hs;(first|refine uV zz (c2 _) ?_|refine uA zz (c2 _) ?_);replace zz:=BT g0 g3 g4 hlen hr hp hs w7;refine wy zz ?_;exact⟨l.length-(k+1),by omega,k+1,_,by simp,rfl,by omega,rfl,hinv⟩
  ·have hd:decide ((k:Int)<(l.length:Int))=false:=(by simp;omega);rw[List.drop_eq_nil_of_le (by omega)]at hinv;simp only[IS]at hinv;replace zz:=Ak g0 g3 g4 hlen hd;refine wm zz ?_;try exact zI
   all_goals rw[hinv]
def Mz(n:Int):List Ac->Int
 |[]=>n
 |a::l=>Mz (IntKind.i64.wrap (n+IntKind.i64.wrap (IntKind.i64.wrap (1+a.pre.size)+IS 0 a.changes))) l
def N0(n:Int):List Du->Int
 |[]=>n
 |a::l=>N0 (IntKind.i64.wrap (n+IntKind.i64.wrap (IntKind.i64.wrap (IntKind.i64.wrap (IntKind.i64.wrap (IntKind.i64.wrap (1+a.start.size)+a.over.size)+a.stop.size)+IS 0 a.Bp)+IS 0 a.Bq))) l
def SR(d:Dm):Bool:=decide (N0 (Mz (IntKind.i64.wrap (IntKind.i64.wrap (IntKind.i64.wrap ((d.types.length:Int)+d.constants.length)+d.B5.length)+d.Ay.length)) d.At) d.duratives>3000)
theorem jV(d:Dm)(hd0:d.ok)(h:A1):A6 prog 10 [.agg d.cells] h λr h'=>r= .sc (.bool (SR d))/\h'=h:=by
 obtain⟨_,_,_,_,_,⟨hal,hao⟩,⟨hul,huo⟩⟩:=hd0;obtain⟨name,types,constants,B5,Ay,At,duratives⟩:=d;simp only at hal hao hul huo;refine A6.quiet Ty.UP ?_;unfold SR;simp only;have l1:=Gw types;have l2:=Gw constants;have l3:=Mi B5;have l4:=Mj Ay;have l5:=Ll At;have l6:=Lm duratives;unfold AI at hal hul;generalize hN0:IntKind.i64.wrap (IntKind.i64.wrap (IntKind.i64.wrap ((types.length:Int)+constants.length)+B5.length)+Ay.length)=n0;generalize hNA:Mz n0 At=nA;generalize hNV:N0 nA duratives=nV;have hC:(Dm.mk name types constants B5 Ay At duratives).cells=[A4 name,.A2 2 (A9 types),.A2 2 (A9 constants),.A2 2 (Ba B5),.A2 4 (BX Ay),.A2 10 (BP At),.A2 23 (BU duratives)]:=rfl;rw[hC];refine AF func10 ntmps10 results10 Ty.UP ?_;replace zz:=Ak l1 l2 l3 l4 hN0;refine xH 2 zz ?_;refine⟨?_⟩;refine DB (λS h'=>h'=h/\S 1= .Ag (Dm.mk name types constants B5 Ay At duratives).cells/\S 3= .sc (.int .i64 nA)) ?_ ?_
 ·rw [hC];refine wt A5 ?_;refine CG (λc S h'=>h'=h/\S 1= .Ag (Dm.mk name types constants B5 Ay At duratives).cells/\ ∃ (k:Nat)(n:Int),S 4= .sc (.int .i64 k)/\S 3= .sc (.int .i64 n)/\k<=At.length/\c=At.length-k/\nA=Mz n (At.drop k)) At.length ?_ ?_
  ·simp only[Ty.w,simprocAttr,hC];exact⟨0,n0,rfl,rfl,by omega,rfl,by rw[← hNA];try rfl⟩
  ·rintro c S h' ⟨rfl,g1,k,n,g4,g3,hk,rfl,hinv⟩;rw[hC]at g1;by_cases hlt:k<At.length
   ·have hd:decide ((k:Int)<(At.length:Int))=true:=(by simp;omega);have w7:IntKind.i64.wrap ((k:Int)+1)=k+1:=(by rw[BZ (by omega) (by omega)]);obtain⟨a,hx⟩: ∃ a,At[k]? =some a:=⟨_,List.getElem?_eq_getElem hlt⟩;have hr:=Np hx;have ha:=hao a (List.mem_of_getElem? hx);rw[Cd hx]at hinv;simp only[Mz]at hinv;have c1:=OC a.pre ha.pre;have c2:=λh:A1=>SQ ha.changes h;clear ha;obtain⟨aname,aparams,acost,pre,changes⟩:=a;simp only at hinv c1 c2;generalize pre.size=s1 at hinv c1;generalize IS 0 changes=s2 at hinv c2;obtain⟨fop,fna,far,fpa,fex,fki⟩:=pre;simp only[DE,Fm.cells,List.cons_append,List.nil_append]at hr c1;replace zz:=Al g1 g3 g4 l5 hd hr;refine wy zz ?_;replace zz:=Ak g1 g3 g4 l5 hr;(first|refine uV zz (c1 _) ?_|refine uA zz (c1 _) ?_);refine wy zz ?_;replace zz:=Ak g1 g3 g4 l5 hr;(first|refine uV zz (c2 _) ?_|refine uA zz (c2 _) ?_);replace zz:=Al g1 g3 g4 l5 hr w7;refine wy zz ?_;exact⟨At.length-(k+1),by omega,by rw[hC],k+1,_,by simp,rfl,by omega,rfl,hinv⟩
   ·have hd:decide ((k:Int)<(At.length:Int))=false:=(by simp;omega);rw[List.drop_eq_nil_of_le (by omega)]at hinv;simp only[Mz]at hinv;replace zz:=Ak g1 g3 g4 l5 hd;refine wt zz ?_;simp only[Ty.w,simprocAttr,g1,g3,hinv,hC]
 ·rintro S h' ⟨rfl,g1,g3⟩;rw[hC]at g1
  clear hNA hN0;refine xH 6 (uu g1 g3) ?_;refine⟨?_⟩;refine DB (λS h2=>AH h' h2/\S 3= .sc (.int .i64 nV)) ?_ ?_
  ·refine wt (uu g1 g3) ?_;refine CG (λc S h2=>AH h' h2/\S 1= .Ag (Dm.mk name types constants B5 Ay At duratives).cells/\ ∃ (k:Nat)(n:Int),S 5= .sc (.int .i64 k)/\S 3= .sc (.int .i64 n)/\k<=duratives.length/\c=duratives.length-k/\nV=N0 n (duratives.drop k)) duratives.length ?_ ?_
   ·simp only[Ty.w,simprocAttr,g1,g3,hC];exact⟨AH.refl _,0,nA,rfl,rfl,by omega,rfl,by rw[← hNV];try rfl⟩
   ·clear g1 g3;rintro c S h2 ⟨hg,g1,k,n,g5,g3,hk,rfl,hinv⟩;rw[hC]at g1;by_cases hlt:k<duratives.length
    ·have hd:decide ((k:Int)<(duratives.length:Int))=true:=(by simp;omega);have w7:IntKind.i64.wrap ((k:Int)+1)=k+1:=(by rw[BZ (by omega) (by omega)]);obtain⟨a,hx⟩: ∃ a,duratives[k]? =some a:=⟨_,List.getElem?_eq_getElem hlt⟩;have hr:=Nq hx;have ha:=huo a (List.mem_of_getElem? hx);rw[Cd hx]at hinv;simp only[N0]at hinv;have c1:=OC a.start ha.start;have c2:=OC a.over ha.over;have c3:=OC a.stop ha.stop;have c4:=λh:A1=>SQ ha.Bp h;have c5:=λh:A1=>SQ ha.Bq h;clear ha;obtain⟨aname,aparams,adur,start,over,stop,Bp,Bq⟩:=a;simp only at hinv c1 c2 c3 c4 c5;generalize start.size=s1 at hinv c1;generalize over.size=s2 at hinv c2;generalize stop.size=s3 at hinv c3;generalize IS 0 Bp=s4 at hinv c4;generalize IS 0 Bq=s5 at hinv c5;obtain⟨fop,fna,far,fpa,fex,fki⟩:=start;obtain⟨fop2,fna2,far2,fpa2,fex2,fki2⟩:=over;obtain⟨fop3,fna3,far3,fpa3,fex3,fki3⟩:=stop;simp only[DF,Fm.cells,List.cons_append,List.nil_append]at hr c1 c2 c3;replace zz:=Al g1 g3 g5 l6 hd hr;refine wy zz ?_;replace zz:=Ak g1 g3 g5 l6 hr;(first|refine uV zz (c1 _) ?_|refine uA zz (c1 _) ?_);refine wy zz ?_;replace zz:=Ak g1 g3 g5 l6 hr;(first|refine uV zz (c2 _) ?_|refine uA zz (c2 _) ?_);refine wy zz ?_;replace zz:=Ak g1 g3 g5 l6 hr;(first|refine uV zz (c3 _) ?_|refine uA zz (c3 _) ?_);refine wy zz ?_;replace zz:=Ak g1 g3 g5 l6 hr;(first|refine uV zz (c4 _) ?_|refine uA zz (c4 _) ?_);refine wy zz ?_;replace zz:=Ak g1 g3 g5 l6 hr;(first|refine uV zz (c5 _) ?_|refine uA zz (c5 _) ?_);replace zz:=Al g1 g3 g5 l6 hr w7;refine wy zz ?_;exact⟨duratives.length-(k+1),by omega,(hg.new _).set hg.le _,by rw[hC],k+1,_,by simp,rfl,by omega,rfl,hinv⟩
    ·have hd:decide ((k:Int)<(duratives.length:Int))=false:=(by simp;omega);rw[List.drop_eq_nil_of_le (by omega)]at hinv;simp only[N0]at hinv;replace zz:=Ak g1 g3 g5 l6 hd;refine wt zz ?_;simp only[Ty.w,simprocAttr,g1,g3,hinv];exact hg
  ·clear g1 g3;rintro S h2 ⟨hg,g3⟩;refine wm g3 ?_;try exact zI
   all_goals first|exact hg|exact⟨rfl,hg⟩
end Go.Proofs.YtblgchkahpgdjaaGreat
namespace Go.AM
def jW:PV->Nat
 | .ptr id _ _=>id
 |_=>0
def jX:PV->Nat
 | .mp id=>id
 |_=>0
def jY(n:Nat):PV->Nat
 | .own id _ _=>if id<=n then id else n
 |_=>n
def jZ(op:Op)(ρ:Operand->PV)(h:A1):Nat:=match op with
 | .store _ a _=>jW (ρ a)
 | .mapUpdate _ x _ _=>jX (ρ x)
 | .call {callee:= .builtin .append,args:=args,.. }=>(match args.toList with
  |x::_=>jY h.next (ρ x)
  |[]=>0)
 |_=>h.next
mutual
def ja(n:Nat):PV->Bool
 | .sc _=>true
 | .ptr id _ _=>decide (id<n)
 | .Ag cs=>JV n cs
 | .own id _ _=>decide (id<n)
 | .A2 _ rows=>SS n rows
 | .emp=>true
 | .mp id=>decide (id<n)
 | .agg cs=>JV n cs
 | .Am cs=>JV n cs
 | .fn _ a b=>JV n a&&JV n b
 | .ab _ _ _ _ _=>true
def JV(n:Nat):List PV->Bool
 |[]=>true
 |p::ps=>ja n p&&JV n ps
def SS(n:Nat):List (List PV)->Bool
 |[]=>true
 |r::rs=>JV n r&&SS n rs
end
mutual
def jb(h':A1)(n:Nat):Nat->PV->Option PV
 |0,_=>none
 |k+1,p=>match p with
  | .sc v=>some (.sc v)
  | .ptr id i f=>if id<n then some (.ptr id i f)else match h'.obj id with
   |some (.arr _ rows)=>(match rows[i]? with
    |some q=>(OF h' n k (q.drop f)).map .Ag
    |none=>none)
   |_=>none
  | .own id off len=>if id<n then some (.own id off len)else match h'.obj id with
   |some (.arr z rows)=>if off+len<=rows.length then(WQ h' n k ((rows.drop off).take len)).map (.A2 z)else none
   |_=>none
  | .A2 z rows=>if SS n rows=true then some (.A2 z rows)else none
  | .Ag cs=>if JV n cs=true then some (.Ag cs)else none
  | .emp=>some .emp
  | .mp id=>if id<n then some (.mp id)else none
  | .agg cs=>(OF h' n k cs).map .agg
  | .Am cs=>(OF h' n k cs).map .Am
  | .fn f a b=>if(JV n a&&JV n b)=true then some (.fn f a b)else none
  | .ab k lo hi m r=>some (.ab k lo hi m r)
def OF(h':A1)(n:Nat):Nat->List PV->Option (List PV)
 |0,_=>none
 |_+1,[]=>some []
 |k+1,p::ps=>match jb h' n k p with
  |some q=>(OF h' n k ps).map (q::·)
  |none=>none
def WQ(h':A1)(n:Nat):Nat->List (List PV)->Option (List (List PV))
 |0,_=>none
 |_+1,[]=>some []
 |k+1,p::ps=>match OF h' n k p with
  |some q=>(WQ h' n k ps).map (q::·)
  |none=>none
end
abbrev WR:=FuncId->List PV->A1->Option (PV × Option Nat × A1)
section
variable (P:Program)(wf:FuncId->Bool)(own:FuncId->Nat->Bool)(CV:FuncId->List PV->A1->Option PV)
def WS(call:WR)(ow:Nat->Bool)(o:Oper)(ρ:Operand->PV)(h:A1):Option (PV × Option Nat × A1):=
 match callee ρ o.op with
 |some (f,args)=>call f args h
 |none=>match AX P (o.dst.any ow) o.op ρ h with
  |some (v,h')=>some (v,(if BL ow wf o=true then some (jZ o.op ρ h)else none),h')
  |none=>none
def jc(ops:List Oper)(x f:Nat):Bool:=!(x==f)&&!(pre ops x f)&&!(pre ops f x)
def WT(ow:Nat->Bool)(ops:List Oper)(k:Nat):List Nat:=(List.range ops.length).filter λf=>decide (k<f)&&(ops[f]?).any (Cc ow)
def Q9(ow:Nat->Bool)(ops:List Oper)(base k:Nat)(ls:List (Nat × Nat)):List Nat:=(ls.filterMap λp=>if jc ops k p.1=true then some p.2 else none)++(WT ow ops k).map (base+·)
def x4(call:WR)(ow:Nat->Bool)(ops:List Oper)(base k:Nat)(ls:List (Nat × Nat))(o:Oper)(s:AD)(h:A1):Option (PV × Option Nat × A1 × Option (Nat × An)× Bool):=
 if BL ow wf o=true then
  (if Cc ow o = true then (match Es P ow (base + k) o (AB s) with
   |some (v,ob)=>some (v,some (base+k),h.set (base+k) ob,some (base+k,ob),false)
   |none=>none)
  else match o.op with
   | .store t x y=>(match AB s x with
    | .ptr id _ _=>(match AX P (o.dst.any ow) (.store t x y) (AB s) h with
     |some (v,h')=>(match h'.obj id with
      |some ob=>some (v,some id,h.set id ob,some (id,ob),false)
      |none=>none)
     |none=>none)
    |_=>none)
   |_=>(match WS P wf call ow o (AB s) (BE h (Q9 ow ops base k ls))with
    |some (v,q,h')=>if((Q9 ow ops base k ls).all (λid=>(h'.obj id).isNone)&&(WT ow ops k).all (λf=>(h.obj (base+f)).isNone))=true then some (v,q,Cb h' h (Q9 ow ops base k ls),none,true)else none
    |none=>none))
 else match WS P wf call ow o (AB s) (BE h (Q9 ow ops base k ls))with
  |some (v,q,_)=>if q.isNone=true then some (v,none,h,none,false)else none
  |none=>none
end
section
variable {P:Program}{wf:FuncId->Bool}{own:FuncId->Nat->Bool}
end
end Go.AM
