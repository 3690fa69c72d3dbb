/- What the claim rests on, part 8: the abstract machine, contracts of the functions, plain data. -/
import Derived.Test.YtblgchkahpgdjaaGreatZr7
set_option linter.unusedVariables false
set_option linter.unusedSimpArgs false
set_option linter.unusedSectionVars false
namespace Go.AM
section
variable {P:Program}{ow:Nat->Bool}{wf:FuncId->Bool}{n:Nat}
def Hr(ow:Nat->Bool)(wf:FuncId->Bool)(ops:List Oper)(i:Nat):Bool:=(ops[i]?).any (B0 ow wf)
def Jv(ow:Nat->Bool)(ops:List Oper)(i:Nat):Bool:=(ops[i]?).any (Bl ow)
def SA(ow:Nat->Bool)(wf:FuncId->Bool)(ops:List Oper)(c:Nat):Bool:=
 LL ops&&decide (c<=ops.length)&&((List.range c).all λi=>(List.range ops.length).all λf=>
  (!(decide (i<f)&&decide (f<c))||((!(Hr ow wf ops i&&Hr ow wf ops f)||pre ops i f)&&!(Hr ow wf ops i&&Jv ow ops f)))&&
  (!(decide (c<=f)&&Hr ow wf ops f)||(pre ops i f&&!(pre ops f i))))&&
 ((List.range ops.length).all λf=>!(decide (c<=f))||!(Jv ow ops f))
def gq(P:Program)(ow:Nat->Bool)(wf:FuncId->Bool)(n:Nat)(ops:List Oper)(lo hi j:Nat)(o:Oper)(sk:Nat->A9)(hk:Nat->A0)(vk:Nat->PV)(br:Nat->Bool):Prop:=
 o.dst.all (λd=>decide (d<n))=true/\ ∃ b,CN ops (sk j) o=some b/\
  (b=false->sk (j+1)=AZ (sk j) o.dst (.sc undef)/\hk (j+1)=hk j/\br j=false)/\
  (b = true -> sk (j + 1) = AZ (sk j) o.dst (vk j) /\
   (B0 ow wf o = false -> hk (j + 1) = hk j /\ br j = false /\ Af P ow o (A5 (sk j)) (hk j) (vk j) (hk j) /\
    (∀ i,lo<=i->i<j->br i=true->pre ops i j=true\/Af P ow o (A5 (sk j)) (hk i) (vk j) (hk i))/\
    (∀ i,j<i->i<hi->br i=true->pre ops j i=true\/Af P ow o (A5 (sk j)) (hk (i+1)) (vk j) (hk (i+1))))/\
   (B0 ow wf o=true->br j=true/\Af P ow o (A5 (sk j)) (hk j) (vk j) (hk (j+1))))
theorem Pp{ops:List Oper}{K:A9->A0->Prop}: ∀ (rest:List Oper)(k:Nat)(past:List (Nat × (A0->Prop)))(hist:List (Nat × A0))(s:A9)(h:A0),(∀ i o,rest[i]? =some o->ops[k+i]? =some o)->Do P ow wf n ops k rest past hist K s h->
  ∃ (sk:Nat->A9)(hk:Nat->A0)(vk:Nat->PV)(br:Nat->Bool),sk k=s/\hk k=h/\K (sk (k+rest.length)) (hk (k+rest.length))/\
   (∀ j o,k<=j->j<k+rest.length->ops[j]? =some o->gq P ow wf n ops k (k+rest.length) j o sk hk vk br)/\
   (∀ j o,k<=j->j<k+rest.length->ops[j]? =some o->B0 ow wf o=false->CN ops (sk j) o=some true-> ∀ x∈hist,pre ops x.1 j=true\/Af P ow o (A5 (sk j)) x.2 (vk j) x.2)/\
   (∀ j,k<=j->j<k+rest.length->br j=true-> ∀ x∈past,pre ops x.1 j=true\/x.2 (hk (j+1)))
 |[],k,past,hist,s,h,_,hr=>⟨λ_=>s,λ_=>h,λ_=> .emp,λ_=>false,rfl,rfl,hr,λj o h1 h2=>by simp at h2;omega,λj o h1 h2=>by simp at h2;omega,λj h1 h2=>by simp at h2;omega⟩
 |o::rest,k,past,hist,s,h,hops,hr=>by
  have ho:ops[k]? =some o:=hops 0 o rfl;have hops2: ∀ i q,rest[i]? =some q->ops[k+1+i]? =some q:=λi q hq=>by
   have:=hops (i+1) q (by simpa using hq);rw[show k+1+i=k+(i+1) by omega];exact this
  have hlen:k+1+rest.length=k+(o::rest).length:=by simp only[Aw];omega
  unfold Do at hr;obtain⟨hdst,hr⟩:=hr;cases hw:CN ops s o with
  |none=>rw[hw]at hr;exact hr.elim
  |some b=>
   rw[hw]at hr;simp only at hr;cases b with
   |false=>
    simp only[BG,AP]at hr;obtain⟨sk,hk,vk,br,e1,e2,e3,e4,e5,e6⟩:=Pp rest (k+1) _ _ _ _ hops2 hr;rw[hlen]at e3 e4 e5 e6;have hs: ∀ j,¬ j=k->(λj=>if j=k then s else sk j) j=sk j:=λj hj=>A4 hj;refine⟨λj=>if j=k then s else sk j,λj=>if j=k then h else hk j,vk,λj=>if j=k then false else br j,AG rfl,AG rfl,?_,λj q hj hj2 hq=>?_,λj q hj hj2 hq hW hwt x hx=>?_,λj hj hj2 hb x hx=>?_⟩
    ·simp only[Aw];rw[A4 (by omega),A4 (by omega)];simpa only[Aw]using e3
    ·by_cases hjk:j=k
     ·subst hjk;rw[ho]at hq;obtain rfl:=J8 hq;refine⟨hdst,false,?_,λ_=>⟨?_,?_,?_⟩,λhb=>by cases hb⟩
      ·simp only[AH];exact hw
      ·simp only[AH];rw[A4 (by omega)];exact e1
      ·simp only[AH];rw[A4 (by omega)];exact e2
      ·simp only[AH]
     ·obtain ⟨g1,b,g2,g3,g4⟩:=e4 j q (by omega) hj2 hq;refine⟨g1,b,?_,λhb=>?_,λhb=>?_⟩
      ·simp only[hjk,AP];exact g2
      ·obtain ⟨q1,q2,q3⟩:=g3 hb;refine⟨?_,?_,?_⟩
       ·simp only[hjk,AP];rw[A4 (by omega)];exact q1
       ·simp only[hjk,AP];rw[A4 (by omega)];exact q2
       ·simp only[hjk,AP];exact q3
      ·obtain ⟨q1,q2,q3⟩:=g4 hb;refine⟨?_,λhW=>?_,λhW=>?_⟩
       ·simp only[hjk,AP];rw[A4 (by omega)];exact q1
       ·obtain ⟨p1,p2,p3,p4,p5⟩:=q2 hW;refine⟨?_,?_,?_,λi hi hij hbi=>?_,λi hi hij hbi=>?_⟩
        ·simp only[hjk,AP];rw[A4 (by omega)];exact p1
        ·simp only[hjk,AP];exact p2
        ·simp only[hjk,AP];exact p3
        ·by_cases hik:i=k
         ·subst hik;simp only[AH]at hbi;cases hbi
         ·simp only[hik,hjk,AP]at hbi⊢;exact p4 i (by omega) hij hbi
        ·have hik:¬ i=k:=(by omega);have hik1:¬ i+1=k:=(by omega);simp only[hik,hik1,hjk,AP]at hbi⊢;exact p5 i hi hij hbi
       ·obtain ⟨p1,p2⟩:=q3 hW;refine⟨?_,?_⟩
        ·simp only[hjk,AP];exact p1
        ·simp only[hjk,AP];rw[A4 (by omega)];exact p2
    ·by_cases hjk:j=k
     ·subst hjk;rw[ho]at hq;obtain rfl:=J8 hq;simp only[AH]at hwt;rw[hw]at hwt;cases hwt
     ·simp only[hjk,AP]at hwt⊢;exact e5 j q (by omega) hj2 hq hW hwt x hx
    ·by_cases hjk:j=k
     ·subst hjk;simp only[AH]at hb;cases hb
     ·simp only[hjk,AP]at hb⊢;rw[A4 (by omega)];exact e6 j (by omega) hj2 hb x hx
   |true=>
    simp only[AH]at hr;by_cases hW0:B0 ow wf o=true
    ·rw [AG hW0]at hr;obtain⟨v,h',hdo,hpast,hrec⟩:=hr;obtain⟨sk,hk,vk,br,e1,e2,e3,e4,e5,e6⟩:=Pp rest (k+1) _ _ _ _ hops2 hrec;rw[hlen]at e3 e4 e5 e6;refine⟨λj=>if j=k then s else sk j,λj=>if j=k then h else hk j,λj=>if j=k then v else vk j,λj=>if j=k then true else br j,AG rfl,AG rfl,?_,λj q hj hj2 hq=>?_,λj q hj hj2 hq hW hwt x hx=>?_,λj hj hj2 hb x hx=>?_⟩
     ·simp only[Aw];rw[A4 (by omega),A4 (by omega)];simpa only[Aw]using e3
     ·by_cases hjk:j=k
      ·subst hjk;rw[ho]at hq;obtain rfl:=J8 hq;refine⟨hdst,true,?_,λhb=>(by cases hb),λ_=>⟨?_,λhW=>?_,λhW=>⟨?_,?_⟩⟩⟩
       ·simp only[AH];exact hw
       ·simp only[AH];rw[A4 (by omega)];exact e1
       ·rw [hW0]at hW;cases hW
       ·simp only[AH]
       ·simp only[AH];rw[A4 (by omega),e2];exact hdo
      ·obtain ⟨g1,b,g2,g3,g4⟩:=e4 j q (by omega) hj2 hq;refine⟨g1,b,?_,λhb=>?_,λhb=>?_⟩
       ·simp only[hjk,AP];exact g2
       ·obtain ⟨q1,q2,q3⟩:=g3 hb;refine⟨?_,?_,?_⟩
        ·simp only[hjk,AP];rw[A4 (by omega)];exact q1
        ·simp only[hjk,AP];rw[A4 (by omega)];exact q2
        ·simp only[hjk,AP];exact q3
       ·subst hb;obtain⟨q1,q2,q3⟩:=g4 rfl;refine⟨?_,λhW=>?_,λhW=>?_⟩
        ·simp only[hjk,AP];rw[A4 (by omega)];exact q1
        ·obtain ⟨p1,p2,p3,p4,p5⟩:=q2 hW;refine⟨?_,?_,?_,λi hi hij hbi=>?_,λi hi hij hbi=>?_⟩
         ·simp only[hjk,AP];rw[A4 (by omega)];exact p1
         ·simp only[hjk,AP];exact p2
         ·simp only[hjk,AP];exact p3
         ·by_cases hik:i=k
          ·subst hik;simp only[hjk,AP,AH];exact e5 j q (by omega) hj2 hq hW g2 (i,h) (KF ..)
          ·simp only[hik,hjk,AP]at hbi⊢;exact p4 i (by omega) hij hbi
         ·have hik:¬ i=k:=(by omega);have hik1:¬ i+1=k:=(by omega);simp only[hik,hik1,hjk,AP]at hbi⊢;exact p5 i hi hij hbi
        ·obtain ⟨p1,p2⟩:=q3 hW;refine⟨?_,?_⟩
         ·simp only[hjk,AP];exact p1
         ·simp only[hjk,AP];rw[A4 (by omega)];exact p2
     ·by_cases hjk:j=k
      ·subst hjk;rw[ho]at hq;obtain rfl:=J8 hq;rw[hW0]at hW;cases hW
      ·simp only[hjk,AP]at hwt⊢;exact e5 j q (by omega) hj2 hq hW hwt x (Gm _ hx)
     ·by_cases hjk:j=k
      ·subst hjk;simp only[AP];rw[A4 (by omega),e2];exact hpast x hx
      ·simp only[hjk,AP]at hb⊢;rw[A4 (by omega)];exact e6 j (by omega) hj2 hb x hx
    ·rw [A4 hW0]at hr;have hW1:B0 ow wf o=false:=(by simpa using hW0);obtain⟨v,hdo,hhist,hrec⟩:=hr;obtain⟨sk,hk,vk,br,e1,e2,e3,e4,e5,e6⟩:=Pp rest (k+1) _ _ _ _ hops2 hrec;rw[hlen]at e3 e4 e5 e6;refine⟨λj=>if j=k then s else sk j,λj=>if j=k then h else hk j,λj=>if j=k then v else vk j,λj=>if j=k then false else br j,AG rfl,AG rfl,?_,λj q hj hj2 hq=>?_,λj q hj hj2 hq hW hwt x hx=>?_,λj hj hj2 hb x hx=>?_⟩
     ·simp only[Aw];rw[A4 (by omega),A4 (by omega)];simpa only[Aw]using e3
     ·by_cases hjk:j=k
      ·subst hjk;rw[ho]at hq;obtain rfl:=J8 hq;refine⟨hdst,true,?_,λhb=>(by cases hb),λ_=>⟨?_,λhW=>⟨?_,?_,?_,λi hi hij=>by omega,λi hi hij hbi=>?_⟩,λhW=>?_⟩⟩
       ·simp only[AH];exact hw
       ·simp only[AH];rw[A4 (by omega)];exact e1
       ·simp only[AH];rw[A4 (by omega)];exact e2
       ·simp only[AH]
       ·simp only[AH];exact hdo
       ·have hik:¬ i=j:=(by omega);have hik1:¬ i+1=j:=(by omega);simp only[hik,hik1,AP,AH]at hbi⊢;exact e6 i (by omega) hij hbi (j,λh'=>Af P ow o (A5 s) h' v h') (KF ..)
       ·rw [hW1]at hW;cases hW
      ·obtain ⟨g1,b,g2,g3,g4⟩:=e4 j q (by omega) hj2 hq;refine⟨g1,b,?_,λhb=>?_,λhb=>?_⟩
       ·simp only[hjk,AP];exact g2
       ·obtain ⟨q1,q2,q3⟩:=g3 hb;refine⟨?_,?_,?_⟩
        ·simp only[hjk,AP];rw[A4 (by omega)];exact q1
        ·simp only[hjk,AP];rw[A4 (by omega)];exact q2
        ·simp only[hjk,AP];exact q3
       ·obtain ⟨q1,q2,q3⟩:=g4 hb;refine⟨?_,λhW=>?_,λhW=>?_⟩
        ·simp only[hjk,AP];rw[A4 (by omega)];exact q1
        ·obtain ⟨p1,p2,p3,p4,p5⟩:=q2 hW;refine⟨?_,?_,?_,λi hi hij hbi=>?_,λi hi hij hbi=>?_⟩
         ·simp only[hjk,AP];rw[A4 (by omega)];exact p1
         ·simp only[hjk,AP];exact p2
         ·simp only[hjk,AP];exact p3
         ·by_cases hik:i=k
          ·subst hik;simp only[AH]at hbi;cases hbi
          ·simp only[hik,hjk,AP]at hbi⊢;exact p4 i (by omega) hij hbi
         ·have hik:¬ i=k:=(by omega);have hik1:¬ i+1=k:=(by omega);simp only[hik,hik1,hjk,AP]at hbi⊢;exact p5 i hi hij hbi
        ·obtain ⟨p1,p2⟩:=q3 hW;refine⟨?_,?_⟩
         ·simp only[hjk,AP];exact p1
         ·simp only[hjk,AP];rw[A4 (by omega)];exact p2
     ·by_cases hjk:j=k
      ·subst hjk;rw[ho]at hq;obtain rfl:=J8 hq;simp only[AH];exact hhist x hx
      ·simp only[hjk,AP]at hwt⊢;exact e5 j q (by omega) hj2 hq hW hwt x hx
     ·by_cases hjk:j=k
      ·subst hjk;simp only[AH]at hb;cases hb
      ·simp only[hjk,AP]at hb⊢;rw[A4 (by omega)];exact e6 j (by omega) hj2 hb x (Gm _ hx)
def Vx(ow:Nat->Bool)(wf:FuncId->Bool)(ops:List Oper)(c k:Nat):Bool:=(List.range c).all λi=>!(Hr ow wf ops i)||pre ops i k
def Vy(P:Program)(ow:Nat->Bool)(wf:FuncId->Bool)(n:Nat)(ops:List Oper)(c j:Nat)(o:Oper)(s s':A9)(h h':A0)(v:PV)(l:Option (Nat × Ab))(U:List Nat):Prop:=
 (U=[]\/Vx ow wf ops c j=true)/\o.dst.all (λd=>decide (d<n))=true/\ ∃ b,CN ops s o=some b/\
  (b=false->s'=AZ s o.dst (.sc undef)/\h'=h/\l=none)/\
  (b = true -> s' = AZ s o.dst v /\
   (B0 ow wf o=false->h'=h/\l=none/\ ∀ H:A0,(∀ u∈U,H.obj u=h.obj u)->Af P ow o (A5 s) H v H)/\
   (B0 ow wf o=true-> ∃ t x y id r f ob,o.op= .store t x y/\A5 s x= .ptr id r f/\l=some (id,ob)/\h'=h.set id ob/\(∀ f q,j<f->ops[f]? =some q->Bl ow q=true->False)/\AT P (o.dst.any ow) o.op (A5 s) h=some (v,h')))
def Vz(k:Nat)(ls:List (Nat × Nat)):Option (Nat × Ab)->List (Nat × Nat)
 |some p=>(k,p.1)::ls
 |none=>ls
def Jw(P:Program)(ow:Nat->Bool)(wf:FuncId->Bool)(n:Nat)(ops:List Oper)(c:Nat):Nat->List Oper->List (Nat × Nat)->List (Nat × List Nat)->(A9->A0->Prop)->A9->A0->Prop
 |_,[],_,_,K,s,h=>K s h
 | k, o :: rest, ls, qs, K, s, h => ∃ s' h' v l U, Vy P ow wf n ops c k o s s' h h' v l U /\
   (∀ p,l=some p->(∀ x∈ls,pre ops x.1 k=true\/x.2≠p.1)/\(∀ x∈qs,pre ops x.1 k=true\/p.1 ∉ x.2))/\(∀ x∈ls,pre ops x.1 k=true\/x.2 ∉ U)/\
   Jw P ow wf n ops c (k+1) rest (Vz k ls l) ((k,U)::qs) K s' h'
theorem W0{ops:List Oper}{c:Nat}{K:A9->A0->Prop}: ∀ (rest:List Oper)(k:Nat)(ls:List (Nat × Nat))(qs:List (Nat × List Nat))(s:A9)(h:A0),ops.drop k=rest->k<=ops.length->Jw P ow wf n ops c k rest ls qs K s h->
  ∃ (sk:Nat->A9)(hk:Nat->A0)(vk:Nat->PV)(lt:Nat->Option (Nat × Ab))(Uk:Nat->List Nat),sk k=s/\hk k=h/\K (sk ops.length) (hk ops.length)/\
   (∀ j o,k<=j->ops[j]? =some o->Vy P ow wf n ops c j o (sk j) (sk (j+1)) (hk j) (hk (j+1)) (vk j) (lt j) (Uk j))/\
   (∀ j p,k<=j->j<ops.length->lt j=some p->(∀ x∈ls,pre ops x.1 j=true\/x.2≠p.1)/\(∀ x∈qs,pre ops x.1 j=true\/p.1 ∉ x.2))/\
   (∀ j,k<=j->j<ops.length-> ∀ x∈ls,pre ops x.1 j=true\/x.2 ∉ Uk j)/\
   (∀ i j p q,k<=i->i<j->j<ops.length->lt i=some p->lt j=some q->pre ops i j=true\/p.1≠q.1)/\
   (∀ i j p,k<=i->i<j->j<ops.length->lt i=some p->pre ops i j=true\/p.1 ∉ Uk j)/\
   (∀ i j p,k<=i->i<j->j<ops.length->lt j=some p->pre ops i j=true\/p.1 ∉ Uk i)
 |[],k,ls,qs,s,h,hd,hk,hr=>by
  have hl:ops.length<=k:=by simpa using hd
  have hke:k=ops.length:=by omega
  refine⟨λ_=>s,λ_=>h,λ_=> .emp,λ_=>none,λ_=>[],rfl,rfl,hr,λj o hj ho=>?_,λj p _ _ hp=>by simp at hp,λj h1 h2=>by omega,λi j p q _ _ _ hp=>by simp at hp,λi j p _ _ _ hp=>by simp at hp,λi j p _ _ _ hp=>by simp at hp⟩;have:=(BC.1 ho).1;omega
 |o::rest,k,ls,qs,s,h,hd,hk,hr=>by
  have ho:ops[k]? =some o:=by
   have:(ops.drop k)[0]? =some o:=(by rw[hd];try rfl);simpa using this
  have hkl:k<ops.length:=(BC.1 ho).1;have hd2:ops.drop (k+1)=rest:=by
   have:=MK hkl;rw[hd]at this;simp only[T5]at this;exact this.2.symm
  obtain⟨s',h',v,l,U,hloc,hls,hU,hrec⟩:=hr;obtain⟨sk,hk',vk,lt,Uk,e1,e2,e3,e4,e5,e6,e7,e8,e9⟩:=W0 rest (k+1) _ _ s' h' hd2 (by omega) hrec;have hls2: ∀ x∈ls,x∈Vz k ls l:=λx hx=>by
   cases l with
   |none=>exact hx
   |some y=>exact Gm _ hx
  refine⟨λj=>if j=k then s else sk j,λj=>if j=k then h else hk' j,λj=>if j=k then v else vk j,λj=>if j=k then l else lt j,λj=>if j=k then U else Uk j,by simp,by simp,?_,λj q hj hq=>?_,λj p hj hjl hp=>?_,λj hj hjl x hx=>?_,λi j p q hi hij hjl hp hq=>?_,λi j p hi hij hjl hp=>?_,λi j p hi hij hjl hp=>?_⟩
  ·simp only;rw[A4 (by omega),A4 (by omega)];exact e3
  ·by_cases hjk:j=k
   ·subst hjk;rw[ho]at hq;simp only[Ak]at hq;subst hq;simp only[AH];rw[A4 (by omega),A4 (by omega),e1,e2];exact hloc
   ·simp only[hjk,AP];rw[A4 (by omega),A4 (by omega)];exact e4 j q (by omega) hq
  ·by_cases hjk:j=k
   ·subst hjk;simp only[AH]at hp;exact hls p hp
   ·simp only[hjk,AP]at hp;exact⟨λx hx=>(e5 j p (by omega) hjl hp).1 x (hls2 x hx),λx hx=>(e5 j p (by omega) hjl hp).2 x (Gm _ hx)⟩
  ·by_cases hjk:j=k
   ·subst hjk;simp only[AH];exact hU x hx
   ·simp only[hjk,AP];exact e6 j (by omega) hjl x (hls2 x hx)
  ·have hjk:¬ j=k:=(by omega);simp only[hjk,AP]at hq;by_cases hik:i=k
   ·subst hik;simp only[AH]at hp;subst hp;exact(e5 j q (by omega) hjl hq).1 (i,p.1) (KF ..)
   ·simp only[hik,AP]at hp;exact e7 i j p q (by omega) hij hjl hp hq
  ·have hjk:¬ j=k:=(by omega);simp only[hjk,AP];by_cases hik:i=k
   ·subst hik;simp only[AH]at hp;subst hp;exact e6 j (by omega) hjl (i,p.1) (KF ..)
   ·simp only[hik,AP]at hp;exact e8 i j p (by omega) hij hjl hp
  ·have hjk:¬ j=k:=(by omega);simp only[hjk,AP]at hp;by_cases hik:i=k
   ·subst hik;simp only[AH];exact(e5 j p (by omega) hjl hp).2 (i,U) (KF ..)
   ·simp only[hik,AP];exact e9 i j p (by omega) hij hjl hp
theorem W1(H:A0):Az H []=H:=by
 unfold Az;cases H;simp
theorem gr(h' H:A0):CD h' H []=h':=by
 unfold CD;cases h';simp
theorem W4{lt:Nat->Option (Nat × Ab)}{p:Nat->Bool}{H:A0}: ∀ m,(∀ f,f<m->(lt f).isSome=true->p f=false)->CZ lt p H m=H
 |0,_=>rfl
 |m+1,h=>by
  have ih:=W4 (lt:=lt) (p:=p) (H:=H) m λf hf=>h f (by omega);unfold CZ;cases q:lt m with
  |none=>exact ih
  |some x=>
   simp only;rw[A4 (by rw[h m (by omega) (by rw[q];try rfl)];simp)];exact ih
theorem gu{ops:List Oper}{c:Nat}{K:A9->A0->Prop}{s:A9}{h:A0}(hd:SA ow wf ops c=true)
  (hr:Do P ow wf n ops 0 (ops.take c) [] [] (λs' h'=>Jw P ow wf n ops c c (ops.drop c) [] [] K s' h') s ⟨h.next+ops.length,h.obj⟩):On P ow wf n ops K s h:=by
 unfold SA at hd;simp only[AR,BP]at hd;obtain⟨⟨⟨hd3,hc⟩,hp⟩,hA⟩:=hd;have htl:(ops.take c).length=c:=by rw[HX];omega
 have P1: ∀ i f,i<c->f<ops.length->i<f->f<c->((Hr ow wf ops i&&Hr ow wf ops f)=false\/pre ops i f=true)/\(Hr ow wf ops i&&Jv ow ops f)=false:=λi f hi hf hif hfc=>by
  have:=(AR _ _ ▸ (Bq.1 (Bq.1 hp i (EY.2 hi)) f (EY.2 hf))).1;rw[NI hif,NI hfc]at this;revert this;cases Hr ow wf ops i<;>cases Hr ow wf ops f<;>cases Jv ow ops f<;>cases pre ops i f<;>simp
 have P2: ∀ i f,i<c->f<ops.length->c<=f->Hr ow wf ops f=true->pre ops i f=true/\pre ops f i=false:=λi f hi hf hcf hw=>by
  have:=(AR _ _ ▸ (Bq.1 (Bq.1 hp i (EY.2 hi)) f (EY.2 hf))).2;rw[NI hcf,hw]at this;simpa using this
 have P3: ∀ f,f<ops.length->c<=f->Jv ow ops f=false:=λf hf hcf=>by
  have:=Bq.1 hA f (EY.2 hf);rw[NI hcf]at this;simpa using this
 obtain⟨ska,hka,vka,br,a1,a2,a3,a4,_,_⟩:=Pp (ops.take c) 0 [] [] s _ (λi o ho=>by
  rw[Be];rw[Oc]at ho;split at ho
  ·exact ho
  ·cases ho) hr
 rw[htl,Be]at a3 a4;obtain⟨skb,hkb,vkb,lt,Uk,b1,b2,b3,b4,_,_,b6,b7,b8⟩:=W0 (ops.drop c) c [] [] _ _ rfl hc a3;have hltn: ∀ f,(if f<c then none else lt f:Option (Nat × Ab)).isSome=true->c<=f:=λf hf=>by
  by_cases hfc:f<c
  ·rw [AG hfc]at hf;cases hf
  ·omega
 have hltw: ∀ f o,c<=f->ops[f]? =some o->(lt f).isSome=true->B0 ow wf o=true:=λf o hcf ho hl=>by
  obtain⟨_,_,b,_,g3,g4⟩:=b4 f o hcf ho;cases b with
  |false=>rw[(g3 rfl).2.2]at hl;cases hl
  |true=>
   cases hw:B0 ow wf o with
   |true=>rfl
   |false=>rw[((g4 rfl).2.1 hw).2.1]at hl;cases hl
 have hwAt: ∀ f o,ops[f]? =some o->Hr ow wf ops f=B0 ow wf o:=λf o ho=>by unfold Hr;rw[ho];try rfl
 have haAt: ∀ f o,ops[f]? =some o->Jv ow ops f=Bl ow o:=λf o ho=>by unfold Jv;rw[ho];try rfl
 have hltp: ∀ j f,j<c->f<ops.length->(if f<c then none else lt f:Option (Nat × Ab)).isSome=true->pre ops j f=true/\pre ops f j=false:=λj f hj hf hs=>by
  have hcf:=hltn f hs;rw[A4 (by omega)]at hs;exact P2 j f hj hf hcf (by rw[hwAt f _ (AU hf)];exact hltw f _ hcf (AU hf) hs)
 have hkx: ∀ j,j<c->kx ow ops (λf=>if f<c then none else lt f) j=[]:=λj hj=>by
  unfold kx;rw[List.filterMap_eq_nil_iff];intro f hf;have hf:=EY.1 hf;split
  ·rename_i hcond;show Option.map _ (if f<c then none else lt f:Option (Nat × Ab))=none;cases q:(if f<c then none else lt f:Option (Nat × Ab))with
   |none=>rfl
   |some x=>
    exfalso;have hsm:(if f<c then none else lt f:Option (Nat × Ab)).isSome=true:=(by rw[q];try rfl);have h1:=hltp j f hj hf hsm;have h2:=P3 f hf (hltn f hsm);unfold Jv at h2;rw[h1.1,h1.2,h2]at hcond;simp at hcond
  ·rfl
 -- what does not change the heap, at another cut
 have down: ∀ j o,j<c->ops[j]? =some o->B0 ow wf o=false->CN ops (ska j) o=some true-> ∀ d M,M+d=j->(∀ b,M<=b->b<j->br b=true->pre ops b j=false)->Af P ow o (A5 (ska j)) (hka M) (vka j) (hka M):=λj o hj ho hW hw d=>by
  obtain⟨_,b,g2,_,g4⟩:=a4 j o (Bx _) hj ho;rw[hw]at g2;obtain rfl:=J8 g2;obtain⟨_,_,p3,p4,_⟩:=(g4 rfl).2.1 hW
  induction d with
  |zero=>intro M hM _;rw[Fi]at hM;rw[hM];exact p3
  |succ d ih=>
   intro M hM hcut;cases hb:br M with
   |true=>
    rcases p4 M (Bx _) (by omega) hb with h1|h1
    ·rw [hcut M (AD _) (by omega) hb]at h1;cases h1
    ·exact h1
   |false=>
    have hMl:M<ops.length:=(by omega);obtain⟨_,b2,_,q3,q4⟩:=a4 M _ (Bx _) (by omega) (AU hMl);have e:hka (M+1)=hka M:=by
     cases b2 with
     |false=>exact(q3 rfl).2.1
     |true=>
      cases hw2:B0 ow wf ops[M]with
      |false=>exact((q4 rfl).2.1 hw2).1
      |true=>rw[((q4 rfl).2.2 hw2).1]at hb;cases hb
    rw[← e];exact ih (M+1) (by omega) λb hb1 hb2 hb3=>hcut b (by omega) hb2 hb3
 have up: ∀ j o,j<c->ops[j]? =some o->B0 ow wf o=false->CN ops (ska j) o=some true-> ∀ d,j+1+d<=c->(∀ b,b<j+1+d->br b=true->pre ops j b=false)->Af P ow o (A5 (ska j)) (hka (j+1+d)) (vka j) (hka (j+1+d)):=λj o hj ho hW hw d=>by
  obtain⟨_,b,g2,_,g4⟩:=a4 j o (Bx _) hj ho;rw[hw]at g2;obtain rfl:=J8 g2;obtain⟨p1,_,p3,_,p5⟩:=(g4 rfl).2.1 hW
  induction d with
  |zero=>intro _ _;rw[Fi,p1];exact p3
  |succ d ih=>
   intro hdc hcut;cases hb:br (j+1+d)with
   |true=>
    rcases p5 (j+1+d) (by omega) (by omega) hb with h1|h1
    ·rw [hcut _ (by omega) hb]at h1;cases h1
    ·exact h1
   |false=>
    have hMl:j+1+d<ops.length:=(by omega);obtain⟨_,b2,_,q3,q4⟩:=a4 (j+1+d) _ (Bx _) (by omega) (AU hMl);have e:hka (j+1+d+1)=hka (j+1+d):=by
     cases b2 with
     |false=>exact(q3 rfl).2.1
     |true=>
      cases hw2:B0 ow wf ops[j+1+d]with
      |false=>exact((q4 rfl).2.1 hw2).1
      |true=>rw[((q4 rfl).2.2 hw2).1]at hb;cases hb
    rw[show j+1+(d+1)=j+1+d+1 by omega,e];exact ih (by omega) λb hb1 hb3=>hcut b (by omega) hb3
 have hbrw: ∀ j o,j<c->ops[j]? =some o->br j=true->B0 ow wf o=true:=λj o hj ho hb=>by
  obtain⟨_,b,_,g3,g4⟩:=a4 j o (Bx _) hj ho;cases b with
  |false=>rw[(g3 rfl).2.2]at hb;cases hb
  |true=>
   cases hw:B0 ow wf o with
   |true=>rfl
   |false=>rw[((g4 rfl).2.1 hw).2.1]at hb;cases hb
 refine⟨hd3,λj=>if j<c then ska j else skb j,λj=>if j<c then hka j else hkb j,λj=>if j<c then vka j else vkb j,λf=>if f<c then none else lt f,λj=>if j<c then br j else false,?_,?_,?_,⟨λj o ho=>?_,λi j hij hj hi hj2=>?_⟩⟩
 ·by_cases h0:0<c
  ·simp only[h0,AH];exact a1
  ·have:c=0:=(by omega);subst this;simp only[YH,AP];rw[b1];exact a1
 ·by_cases h0:0<c
  ·simp only[h0,AH];exact a2
  ·have:c=0:=(by omega);subst this;simp only[YH,AP];rw[b2];exact a2
 ·have:¬ ops.length<c:=by omega
  simp only[this,AP];exact b3
 ·have hjl:j<ops.length:=(BC.1 ho).1;have es: ∀ j,j<c->(if j+1<c then ska (j+1)else skb (j+1))=ska (j+1):=λj hj=>by
   by_cases h1:j+1<c
   ·rw [AG h1]
   ·rw [A4 h1];have:j+1=c:=(by omega);rw[this,b1]
  have eh: ∀ j,j<c->(if j+1<c then hka (j+1)else hkb (j+1))=hka (j+1):=λj hj=>by
   by_cases h1:j+1<c
   ·rw [AG h1]
   ·rw [A4 h1];have:j+1=c:=(by omega);rw[this,b2]
  have ehM: ∀ M,M<=c->(if M<c then hka M else hkb M)=hka M:=λM hM=>by
   by_cases h1:M<c
   ·rw [AG h1]
   ·rw [A4 h1];have:M=c:=(by omega);rw[this,b2]
  by_cases hjc:j<c
  ·obtain ⟨g1,b,g2,g3,g4⟩:=a4 j o (Bx _) hjc ho;refine⟨g1,b,?_,λhb=>?_,λhb=>?_⟩
   ·simp only[hjc,AH];exact g2
   ·obtain ⟨q1,q2,q3⟩:=g3 hb;simp only[hjc,AH];rw[es j hjc,eh j hjc];exact⟨q1,q2,trivial,q3⟩
   ·subst hb;obtain⟨q1,q2,q3⟩:=g4 rfl;refine⟨?_,λhW=>?_,λhW=> .inl ?_⟩
    ·simp only[hjc,AH];rw[es j hjc];exact q1
    ·obtain ⟨p1,p2,p3,p4,p5⟩:=q2 hW;refine⟨?_,?_,?_,λM hM=>⟨[],λid hid=>?_,?_⟩⟩
     ·simp only[hjc,AH];rw[eh j hjc];exact p1
     ·simp only[hjc,AH]
     ·simp only[hjc,AH];exact p2
     ·rw [hkx j hjc]at hid;exact hid
     ·obtain ⟨m1,m2,m3,m4⟩:=hM;have hMc:M<=c:=by
       rcases m4 with h0|h0
       ·omega
       ·by_cases h1:M-1<c
        ·omega
        ·simp only[h1,AP]at h0;cases h0
      have hg:gx ops (λf=>if f<c then none else lt f) (λj=>if j<c then hka j else hkb j) j M []=hka M:=by
       unfold gx;rw[W1,W4 ops.length (λf hf hs=>by rw[(hltp j f hjc hf hs).2,BD])];exact ehM M hMc
      rw[hg];simp only[hjc,AH];have hcd: ∀ b,M<=b->b<j->br b=true->pre ops b j=false:=λb hb1 hb2 hb3=>by
       refine m3 b hb1 ?_;have:b<c:=(by omega);simp only[this,AH];exact hb3
      have hcu: ∀ b,b<M->br b=true->pre ops j b=false:=λb hb1 hb3=>by
       refine m2 b hb1 ?_;have:b<c:=(by omega);simp only[this,AH];exact hb3
      by_cases hMj:M<=j
      ·exact down j o hjc ho hW g2 (j-M) M (by omega) hcd
      ·obtain ⟨d,rfl⟩: ∃ d,M=j+1+d:=⟨M-(j+1),by omega⟩;exact up j o hjc ho hW g2 d hMc hcu
    ·obtain ⟨p1,p2⟩:=q3 hW;simp only[hjc,AH];rw[eh j hjc,hkx j hjc,W1];refine⟨p1,trivial,⟨hka (j+1),p2,λid hid=>(by cases hid),(by rw[gr])⟩,λf q hf hq ha=>?_⟩;exfalso;have hfl:=(BC.1 hq).1;have ha2:=haAt f q hq;rw[ha]at ha2;by_cases hfc:f<c
     ·have:=(P1 j f hjc hfl hf hfc).2;rw[ha2,hwAt j o ho,hW]at this;cases this
     ·rw [P3 f hfl (by omega)]at ha2;cases ha2
  ·obtain ⟨g0,g1,b,g2,g3,g4⟩:=b4 j o (by omega) ho;have hj1:¬ j+1<c:=(by omega);refine⟨g1,b,?_,λhb=>?_,λhb=>?_⟩
   ·simp only[hjc,AP];exact g2
   ·obtain ⟨q1,q2,q3⟩:=g3 hb;simp only[hjc,hj1,AP];exact⟨q1,q2,q3,trivial⟩
   ·obtain ⟨q1,q2,q3⟩:=g4 hb;refine⟨?_,λhW=>?_,λhW=>?_⟩
    ·simp only[hjc,hj1,AP];exact q1
    ·obtain ⟨m1,m2,m3⟩:=q2 hW;simp only[hjc,hj1,AP];refine⟨m1,m2,trivial,λM hM=>⟨_,λ_ hx=>hx,m3 _ λu hu=>?_⟩⟩;rcases g0 with g0|g0
     ·rw [g0]at hu;cases hu
     obtain⟨n1,n2,n3,n4⟩:=hM;have hMc:M<=c:=by
      rcases n4 with h0|h0
      ·omega
      ·by_cases h1:M-1<c
       ·omega
       ·simp only[h1,AP]at h0;cases h0
     have hnb: ∀ b,M<=b->b<c->br b=false:=λb hb1 hb2=>by
      cases hb:br b with
      |false=>rfl
      |true=>
       have h1:=n3 b hb1 (by simp only[hb2,AH];exact hb);have hbl:b<ops.length:=(by omega);have h2:=Bq.1 g0 b (EY.2 hb2);rw[hwAt b _ (AU hbl),hbrw b _ hb2 (AU hbl) hb,h1]at h2;cases h2
     have hMe: ∀ d,M+d<=c->hka (M+d)=hka M:=by
      intro d
      induction d with
      |zero=>intro _;rfl
      |succ d ih=>
       intro hdc;have hMl:M+d<ops.length:=(by omega);obtain⟨_,b2,_,q3,q4⟩:=a4 (M+d) _ (Bx _) (by omega) (AU hMl);have e:hka (M+d+1)=hka (M+d):=by
        cases b2 with
        |false=>exact(q3 rfl).2.1
        |true=>
         cases hw2:B0 ow wf ops[M+d]with
         |false=>exact((q4 rfl).2.1 hw2).1
         |true=>have:=hnb (M+d) (by omega) (by omega);rw[((q4 rfl).2.2 hw2).1]at this;cases this
       rw[show M+(d+1)=M+d+1 by omega,e];exact ih (by omega)
     have hMh:hka M=hkb c:=by
      rw[b2, ← hMe (c-M) (by omega),show M+(c-M)=c by omega]
     have hlob: ∀ m,m<=ops.length->(CZ (λf=>if f<c then none else lt f) (λf=>decide (M<=f)&&pre ops f j) (hka M) m).obj u=(hkb (if m<c then c else if m<j then m else j)).obj u:=by
      intro m
      induction m with
      |zero=>
       intro _;have hz:(CZ (λf=>if f<c then none else lt f) (λf=>decide (M<=f)&&pre ops f j) (hka M) 0)=hka M:=rfl;rw[hz,hMh];by_cases h0:0<c
       ·rw [AG h0]
       ·have:c=0:=(by omega);subst this;rw[A4 (by omega)];by_cases h1:0<j
        ·rw [AG h1]
        ·have:j=0:=(by omega);rw[A4 h1,this]
      |succ m ih=>
       intro hml;have ih:=ih (by omega);unfold CZ;by_cases hmc:m<c
       ·rw [AG hmc]at ih;simp only[hmc,AH];rw[ih];by_cases h1:m+1<c
        ·rw [AG h1]
        ·have:m+1=c:=(by omega);rw[A4 h1];by_cases h2:m+1<j
         ·rw [AG h2,this]
         ·rw [A4 h2];have:j=c:=(by omega);rw[this]
       ·rw [A4 hmc]at ih;simp only[hmc,AP];rw[A4 (by omega:¬ m+1<c)];have hmo:m<ops.length:=(by omega);obtain⟨_,_,b2,_,r3,r4⟩:=b4 m _ (by omega) (AU hmo);by_cases hmj:m<j
        ·rw [AG hmj]at ih;have hnx:(if m+1<j then m+1 else j)=m+1:=by
          by_cases h1:m+1<j
          ·rw [AG h1]
          ·rw [A4 h1];omega
         rw[hnx];cases hlm:lt m with
         |none=>
          simp only;rw[ih];have e:hkb (m+1)=hkb m:=by
           cases b2 with
           |false=>exact(r3 rfl).2.1
           |true=>
            cases hw2:B0 ow wf ops[m]with
            |false=>exact((r4 rfl).2.1 hw2).1
            |true=>obtain⟨_,_,_,_,_,_,_,_,_,z,_⟩:=(r4 rfl).2.2 hw2;rw[hlm]at z;cases z
          rw[e]
         |some q=>
          simp only;have e:hkb (m+1)=(hkb m).set q.1 q.2:=by
           cases b2 with
           |false=>have:=(r3 rfl).2.2;rw[hlm]at this;cases this
           |true=>
            cases hw2:B0 ow wf ops[m]with
            |false=>have:=((r4 rfl).2.1 hw2).2.1;rw[hlm]at this;cases this
            |true=>
             obtain⟨_,_,_,_,_,_,_,_,_,z,z2,_⟩:=(r4 rfl).2.2 hw2;rw[hlm]at z;simp only[Ak]at z;rw[z2,z]
          rw[e];by_cases hqu:u=q.1
          ·rcases b7 m j q (by omega) hmj hjl hlm with h1|h1
           ·rw [NI (by omega:M<=m),h1,hqu];simp[A0.set]
           ·exact absurd (hqu ▸ hu) h1
          ·split
           ·simp only[A0.set];rw[A4 hqu,A4 hqu];exact ih
           ·simp only[A0.set];rw[A4 hqu];exact ih
        ·rw [A4 hmj]at ih;rw[A4 (by omega:¬ m+1<j)];cases hlm:lt m with
         |none=>exact ih
         |some q=>
          simp only;by_cases hqu:u=q.1
          ·have hpf:pre ops m j=false:=by
            by_cases hmj2:m=j
            ·exfalso;subst hmj2;rw[m2]at hlm;cases hlm
            ·rcases b8 j m q (by omega) (by omega) hmo hlm with h1|h1
             ·cases h2:pre ops m j with
              |false=>rfl
              |true=>have:=Jn (HG.of hd3) j m hjl h2;omega
             ·exact absurd (hqu ▸ hu) h1
           rw[hpf,BD];simp only[BG,AP];exact ih
          ·split
           ·simp only[A0.set];rw[A4 hqu];exact ih
           ·exact ih
     have hkn:(kx ow ops (λf=>if f<c then none else lt f) j).contains u=false:=by
      cases hct:(kx ow ops (λf=>if f<c then none else lt f) j).contains u with
      |false=>rfl
      |true=>
       exfalso;have hmem:u∈kx ow ops (λf=>if f<c then none else lt f) j:=(by simpa using hct);unfold kx at hmem;obtain⟨f,hf,he⟩:=KG.1 hmem;have hfl:=EY.1 hf;split at he
       ·rename_i hcond;by_cases hfc:f<c
        ·simp only[hfc,AH,Of]at he;cases he
        ·simp only[hfc,AP]at he;obtain⟨q,hq,hq2⟩:=Dt.1 he;simp only[AR,E5,DG,NG]at hcond;have hA2:=P3 f hfl (by omega);unfold Jv at hA2;rw[hA2]at hcond;obtain⟨⟨hne,hp1⟩,hp2⟩:=hcond;have hp2:pre ops j f=false:=(by rcases hp2 with h|h;exact h;cases h);by_cases hfj:f<j
         ·rcases b7 f j q (by omega) hfj hjl hq with h1|h1
          ·rw [h1]at hp1;cases hp1
          ·exact h1 (hq2 ▸ hu)
         ·rcases b8 j f q (by omega) (by omega) hfl hq with h1|h1
          ·rw [h1]at hp2;cases hp2
          ·exact h1 (hq2 ▸ hu)
       ·cases he
     have hcut:(if M<c then hka M else hkb M)=hka M:=ehM M hMc;show(gx ops (λf=>if f<c then none else lt f) (λj=>if j<c then hka j else hkb j) j M _).obj u=_;unfold gx Az;simp only[hkn,BG,AP];rw[hcut,hlob ops.length (AD _),A4 (by omega),A4 (by omega)]
    ·simp only[hjc,hj1,AP];obtain⟨t,x,y,id,r,f,ob,m1,m2,m3,m4,m5,m6⟩:=q3 hW;exact .inr (.inr ⟨trivial,t,x,y,id,r,f,ob,m1,m2,m3,m4,λf q hf hq ha=>(m5 f q hf hq ha).elim,m6⟩)
 ·have hil:i<ops.length:=by omega
  by_cases hjc:j<c
  ·have hic:i<c:=(by omega);simp only[hjc,hic,AH]at hi hj2;have hi':br i=true:=hi.resolve_right (by simp);have hj':br j=true:=hj2.resolve_right (by simp);rcases(P1 i j hic hj hij hjc).1 with h1|h1
   ·rw [hwAt i _ (AU hil),hwAt j _ (AU hj),hbrw i _ hic (AU hil) hi',hbrw j _ hjc (AU hj) hj']at h1;cases h1
   ·exact .inl h1
  ·simp only[hjc,AP]at hj2;have hj':(lt j).isSome=true:=hj2.resolve_left (by simp);by_cases hic:i<c
   ·exact .inl (P2 i j hic hj (by omega) (by rw[hwAt j _ (AU hj)];exact hltw j _ (by omega) (AU hj) hj')).1
   ·simp only[hic,AP]at hi;have hi':(lt i).isSome=true:=hi.resolve_left (by simp);obtain⟨p,hp⟩:=Jb.1 hi';obtain⟨q,hq⟩:=Jb.1 hj';rcases b6 i j p q (by omega) hij hj hp hq with h1|h1
    ·exact .inl h1
    ·refine .inr (.inl ⟨p,q,?_,?_,h1⟩)
     ·simp only[hic,AP];exact hp
     ·simp only[hjc,AP];exact hq
theorem Pq{Q:BA}{s:A9}{h:A0}{id:Nat}{ops:List Oper}(c:Nat)(hd:SA ow wf ops c=true)
  (hk: ∀ K:A9->A0->Prop,(∀ s h,Q .normal s h->K s h)->Eu P ow wf n ops 0 (ops.take c) [] [] (λs' h'=>Jw P ow wf n ops c c (ops.drop c) [] [] K s' h') s ⟨h.next+ops.length,h.obj⟩):Ad P ow wf n (.region id ops.toArray true) Q s h:=by
 simp only[Ad,AH];exact⟨_,_,.refl,.inr (.inr (gu hd (JE _ _ _ _ _ _ (hk _ λ_ _ hq=>hq))))⟩
variable {ops rest:List Oper}{c k:Nat}{o:Oper}{ls:List (Nat × Nat)}{qs:List (Nat × List Nat)}{K:A9->A0->Prop}{s:A9}{h:A0}
theorem Ps(hK:K s h):Jw P ow wf n ops c k [] ls qs K s h:=hK
theorem IH(v:PV)(U:List Nat)(hU:U=[]\/Vx ow wf ops c k=true)(hd:o.dst.all (λd=>decide (d<n))=true)(hw:CN ops s o=some true)(hW:B0 ow wf o=false)(he: ∀ H:A0,(∀ u∈U,H.obj u=h.obj u)->Af P ow o (A5 s) H v H)(hl: ∀ x∈ls,pre ops x.1 k=true\/x.2 ∉ U)
  (hk:Jw P ow wf n ops c (k+1) rest ls ((k,U)::qs) K (AZ s o.dst v) h):Jw P ow wf n ops c k (o::rest) ls qs K s h:=
 ⟨_,_,v,none,U,⟨hU,hd,true,hw,λhb=>(by cases hb),λ_=>⟨rfl,λ_=>⟨rfl,rfl,he⟩,λhw2=>(by rw[hW]at hw2;cases hw2)⟩⟩,λp hp=>(by cases hp),hl,hk⟩
theorem Jx{t:TypeId}{x y:Operand}{id r f:Nat}{ob:Ab}{v:PV}(hop:o.op= .store t x y)(hd:o.dst.all (λd=>decide (d<n))=true)(hw:CN ops s o=some true)(hx:A5 s x= .ptr id r f)(he:AT P (o.dst.any ow) (.store t x y) (A5 s) h=some (v,h.set id ob))
  (hlate: ∀ f q,k<f->ops[f]? =some q->Bl ow q=true->False)(hls: ∀ x∈ls,pre ops x.1 k=true\/x.2≠id)(hqs: ∀ x∈qs,pre ops x.1 k=true\/id ∉ x.2)
  (hk:Jw P ow wf n ops c (k+1) rest ((k,id)::ls) ((k,[])::qs) K (AZ s o.dst v) (h.set id ob)):Jw P ow wf n ops c k (o::rest) ls qs K s h:=by
 refine⟨_,_,v,some (id,ob),[],⟨.inl rfl,hd,true,hw,λhb=>(by cases hb),λ_=>⟨rfl,λhw2=>?_,λ_=>⟨t,x,y,id,r,f,ob,hop,hx,rfl,rfl,hlate,by rw[hop];exact he⟩⟩⟩,λp hp=>?_,λx _=> .inr (by simp),hk⟩
 ·unfold B0 at hw2;rw[hop]at hw2;simp at hw2
 ·simp only[Ak]at hp;subst hp;exact⟨hls,hqs⟩
end
end Go.AM
namespace Go.AM
section
variable {P:Program}{ow:Nat->Bool}{wf:FuncId->Bool}{n:Nat}{Q:BA}{s:A9}{h:A0}
def Lq(ops:List Oper):List Nat:=(List.range ops.length).filter (FB ops)
def EB(P:Program)(ow:Nat->Bool)(wf:FuncId->Bool)(n:Nat)(ops:List Oper)(al:List Nat)(base:Nat):Nat->List Oper->Ga->List (Nat × A0)->(A9->A0->Prop)->A9->A0->Prop
 |_,[],_,_,K,s,h=>K s h
 |k,o::rest,past,hist,K,s,h=>(o.dst.all (λd=>decide (d<n))=true)/\match CN ops s o with
  |none=>False
  | some b => if b = true then
    (match o.op with
    | .alloc t=>(match D4 P t with
     | some zs => 0 < zs.length /\ (∀ f ∈ al, k < f -> (h.set (base + k) (.arr zs.length [zs.map .sc])).obj (base + f) = none) /\ (∀ x ∈ past, pre ops x.1 k = true \/ Af P ow x.2.1 (A5 x.2.2.1) (h.set (base + k) (.arr zs.length [zs.map .sc])) x.2.2.2 (h.set (base + k) (.arr zs.length [zs.map .sc]))) /\
       EB P ow wf n ops al base (k+1) rest past ((k,h)::hist) K (AZ s o.dst (.ptr (base+k) 0 0)) (h.set (base+k) (.arr zs.length [zs.map .sc]))
     |none=>False)
    |_=>(match callee (A5 s) o.op with
     |none=>(match AT P (o.dst.any ow) o.op (A5 s) h with
      |some (v,h1)=>if B0 ow wf o=true then(∀ f∈al,k<f->h1.obj (base+f)=none)/\(∀ x∈past,pre ops x.1 k=true\/Af P ow x.2.1 (A5 x.2.2.1) h1 x.2.2.2 h1)/\EB P ow wf n ops al base (k+1) rest past ((k,h)::hist) K (AZ s o.dst v) h1
       else h1=h/\(∀ x∈hist,pre ops x.1 k=true\/Af P ow o (A5 s) x.2 v x.2)/\EB P ow wf n ops al base (k+1) rest ((k,o,s,v)::past) hist K (AZ s o.dst v) h
      |none=>False)
     |some _=>(if B0 ow wf o=true then ∃ v h',Af P ow o (A5 s) h v h'/\((∀ f∈al,k<f->h'.obj (base+f)=none)/\ ∀ x∈DR P ow past,pre ops x.1 k=true\/x.2 h')/\FU P ow wf n ops base (k+1) rest (DR P ow past) ((k,h)::hist) K (AZ s o.dst v) h'
      else ∃ v,Af P ow o (A5 s) h v h/\(∀ x∈hist,pre ops x.1 k=true\/Af P ow o (A5 s) x.2 v x.2)/\FU P ow wf n ops base (k+1) rest (DR P ow ((k,o,s,v)::past)) hist K (AZ s o.dst v) h)))
   else EB P ow wf n ops al base (k+1) rest past hist K (AZ s o.dst (.sc undef)) h
theorem gv{ops:List Oper}{f:Nat}(h:FB ops f=true):f∈Lq ops:=by
 simp only[Lq,LB,EY];refine⟨?_,h⟩;unfold FB at h;split at h
 ·rename_i o ho;exact(BC.1 ho).1
 ·simp at h
theorem Kh{ops:List Oper}{al:List Nat}(hal:Lq ops=al){base:Nat}{K:A9->A0->Prop}:(rest:List Oper)->(k:Nat)->(past:Ga)->(hist:List (Nat × A0))->(s:A9)->(h:A0)->EB P ow wf n ops al base k rest past hist K s h->FU P ow wf n ops base k rest (DR P ow past) hist K s h
 |[],_,_,_,_,_,hh=>by simpa only[EB,FU]using hh
 |o::rest,k,past,hist,s,h,hh=>by
  simp only[EB]at hh;simp only[FU];refine⟨hh.1,?_⟩;have h2:=hh.2
  clear hh;have pc: ∀ h1,(∀ x∈past,pre ops x.1 k=true\/Af P ow x.2.1 (A5 x.2.2.1) h1 x.2.2.2 h1)-> ∀ x∈DR P ow past,pre ops x.1 k=true\/x.2 h1:=by
   intro h1 hp x hx;obtain⟨y,hy,rfl⟩:=Er.1 hx;exact hp y hy
  have alc: ∀ h1:A0,(∀ f∈al,k<f->h1.obj (base+f)=none)-> ∀ f,k<f->FB ops f=true->h1.obj (base+f)=none:=λh1 hp f hf ha=>hp f (by rw[← hal];exact gv ha) hf;cases hw:CN ops s o with
  |none=>rw[hw]at h2;exact h2
  |some b=>
   rw[hw]at h2;simp only at h2⊢;split at h2
   ·rename_i hb;rw[AG hb];split at h2
    ·rename_i t hop;split at h2
     ·rename_i zs hz;obtain⟨a1,a2,a3,a4⟩:=h2;have hi:B0 ow wf o=true:=(by unfold B0;rw[hop]);rw[AG hi];exact⟨_,_,by unfold Ha;rw[hop];exact⟨zs,hz,a1,rfl,rfl⟩,alc _ a2,pc _ a3,Kh hal rest (k+1) _ _ _ _ a4⟩
     ·exact h2.elim
    ·rename_i hne;cases hc:callee (A5 s) o.op with
     |none=>
      rw[hc]at h2;simp only at h2;cases he:AT P (o.dst.any ow) o.op (A5 s) h with
      |none=>rw[he]at h2;exact h2.elim
      |some r=>
       obtain⟨v,h1⟩:=r;rw[he]at h2;simp only at h2;have hd:Af P ow o (A5 s) h v h1:=(by unfold Af;rw[hc];exact he);split at h2
       ·rename_i hi;rw[AG hi];have hdr:Ha P ow (base+k) o (A5 s) h v h1:=by
         unfold Ha;split
         ·rename_i t hop;exact absurd hop (hne t)
         ·exact hd
        exact⟨v,h1,hdr,alc h1 h2.1,pc h1 h2.2.1,Kh hal rest (k+1) _ _ _ _ h2.2.2⟩
       ·rename_i hi;rw[A4 hi];obtain⟨rfl,h3,h4⟩:=h2;exact⟨v,hd,h3,Kh hal rest (k+1) _ _ _ _ h4⟩
     |some f=>
      rw[hc]at h2;simp only at h2;have dr: ∀ {v:PV}{h1:A0},Af P ow o (A5 s) h v h1->Ha P ow (base+k) o (A5 s) h v h1:=λhd=>by
       unfold Ha;split
       ·rename_i t hop;exact absurd hop (hne t)
       ·exact hd
      split at h2
      ·rename_i hi;rw[AG hi];obtain⟨v,h1,hd,h3,h4⟩:=h2;exact⟨v,h1,dr hd,alc h1 h3.1,h3.2,h4⟩
      ·rename_i hi;rw[A4 hi];obtain⟨v,hd,h3,h4⟩:=h2;exact⟨v,hd,h3,h4⟩
   ·rename_i hb;rw[A4 hb];exact Kh hal rest (k+1) _ _ _ _ h2
theorem SB{id:Nat}{ops:List Oper}{K:A9->A0->Prop}(al:List Nat)(hd:NS ow wf ops=true)(ha:Lq ops=al)(hk:EB P ow wf n ops al h.next 0 ops [] [] K s ⟨h.next+ops.length,h.obj⟩):Ad P ow wf n (.region id ops.toArray true) (BA.seq K Q) s h:=by
 simp only[Ad,AH];exact⟨_,_,.refl,.inr (.inl ⟨hd,Kh ha ops 0 _ _ _ _ hk⟩)⟩
theorem Pt{f:FuncId}{d:Nat}{args:List Operand}{ts:Array TypeId}{ty:TypeId}{pos:String}{af:Array Edge}{gd:Option (Nat × Bool)}{aS:List PV}{v:PV}{ops rest:List Oper}{base k k':Nat}{past:Ga}{hist:List (Nat × A0)}{K:A9->A0->Prop}(al:List Nat)(ha:Lq ops=al)
  (hc:A6 P f aS h λr h'=>r=v/\h'=h)(hs:args.map (A5 s)=aS)
  (hk:EB P ow wf n ops al base k rest ((k',{dst:=some d,op:= .call {callee:= .value (.func f),args:=args.toArray,argTypes:=ts},type:=ty,pos:=pos,after:=af,guard:=gd},s,v)::past) hist K (CX s d v) h):
  ∃ v,Af P ow {dst:=some d,op:= .call {callee:= .value (.func f),args:=args.toArray,argTypes:=ts},type:=ty,pos:=pos,after:=af,guard:=gd} (A5 s) h v h/\
   FU P ow wf n ops base k rest (DR P ow ((k',{dst:=some d,op:= .call {callee:= .value (.func f),args:=args.toArray,argTypes:=ts},type:=ty,pos:=pos,after:=af,guard:=gd},s,v)::past)) hist K (CX s d v) h:=
 ⟨v,CO hc hs,Kh ha _ _ _ _ _ _ hk⟩
theorem Ki{f:FuncId}{d:Nat}{args:List Operand}{ts:Array TypeId}{ty:TypeId}{pos:String}{af:Array Edge}{gd:Option (Nat × Bool)}{aS:List PV}{v:PV}{ops rest:List Oper}{base k k':Nat}{past:Ga}{hist:List (Nat × A0)}{K:A9->A0->Prop}{A:PV->Prop}(al:List Nat)(ha:Lq ops=al)
  (hc:A6 P f aS h λr h'=>r=v/\h'=h)(hs:args.map (A5 s)=aS)(hA:A v)
  (hk:EB P ow wf n ops al base k rest ((k',{dst:=some d,op:= .call {callee:= .value (.func f),args:=args.toArray,argTypes:=ts},type:=ty,pos:=pos,after:=af,guard:=gd},s,v)::past) hist K (CX s d v) h):
  ∃ v,Af P ow {dst:=some d,op:= .call {callee:= .value (.func f),args:=args.toArray,argTypes:=ts},type:=ty,pos:=pos,after:=af,guard:=gd} (A5 s) h v h/\A v/\
   FU P ow wf n ops base k rest (DR P ow ((k',{dst:=some d,op:= .call {callee:= .value (.func f),args:=args.toArray,argTypes:=ts},type:=ty,pos:=pos,after:=af,guard:=gd},s,v)::past)) hist K (CX s d v) h:=
 ⟨v,CO hc hs,hA,Kh ha _ _ _ _ _ _ hk⟩
end
end Go.AM
namespace Go.AM
section
variable {P:Program}{ow:Nat->Bool}{wf:FuncId->Bool}{n:Nat}
def Mo(ow:Nat->Bool)(ops:List Oper)(L:List (Nat × Nat))(x:Nat):List Nat:=(List.range ops.length).filterMap λf=>if(!(x==f)&&!(pre ops f x)&&(!(pre ops x f)||(ops[f]?).any (Bl ow)))=true then L.lookup f else none
def O9(ow:Nat->Bool)(ops:List Oper)(k:Nat):List Nat:=(List.range ops.length).filter λf=>decide (k<f)&&(ops[f]?).any (Bl ow)
def W5(ow:Nat->Bool)(ops:List Oper)(L:List (Nat × Nat))(B:List Nat):Bool:=(List.range ops.length).all λj=>(List.range j).all λi=>!(B.contains i||(L.lookup i).isSome)||!(B.contains j||(L.lookup j).isSome)||pre ops i j||(match L.lookup i,L.lookup j with|some p,some q=>p !=q|_,_=>false)||(B.contains i&&(L.lookup j).isSome&&(ops[j]?).any (Bl ow))||((L.lookup i).isSome&&B.contains j&&(ops[i]?).any (Bl ow))
def W6(P:Program)(ow:Nat->Bool)(wf:FuncId->Bool)(n:Nat)(ops:List Oper)(L:List (Nat × Nat))(B:List Nat)(base j:Nat)(o:Oper)(s s':A9)(h h':A0)(v:PV)(l:Option (Nat × Ab)):Prop:=
 l.map (·.1)=(L.lookup j).map (base+·)/\o.dst.all (λd=>decide (d<n))=true/\ ∃ b,CN ops s o=some b/\
  (b=false->s'=AZ s o.dst (.sc undef)/\h'=h/\l=none/\B.contains j=false)/\
  (b = true -> s' = AZ s o.dst v /\
   (B0 ow wf o=false->h'=h/\l=none/\B.contains j=false/\ ∀ H,Af P ow o (A5 s) H v H)/\
   (B0 ow wf o = true ->
    (B.contains j=true/\l=none/\(∃ H',Af P ow o (A5 s) (Az h ((Mo ow ops L j).map (base+·))) v H'/\(∀ q∈Mo ow ops L j,H'.obj (base+q)=none)/\h'=CD H' h ((Mo ow ops L j).map (base+·)))/\ ∀ f∈O9 ow ops j,h'.obj (base+f)=none)\/
    (B.contains j=false/\Bl ow o=true/\ ∃ ob,l=some (base+j,ob)/\ER P ow (base+j) o (A5 s)=some (v,ob)/\h'=h.set (base+j) ob)\/
    (B.contains j=false/\ ∃ t x y id r f ob,o.op= .store t x y/\A5 s x= .ptr id r f/\l=some (id,ob)/\h'=h.set id ob/\(∀ f∈O9 ow ops j,base+f≠id)/\AT P (o.dst.any ow) o.op (A5 s) h=some (v,h'))))
def Ht(P:Program)(ow:Nat->Bool)(wf:FuncId->Bool)(n:Nat)(ops:List Oper)(L:List (Nat × Nat))(B:List Nat)(base:Nat):Nat->List Oper->(A9->A0->Prop)->A9->A0->Prop
 |_,[],K,s,h=>K s h
 |k,o::rest,K,s,h=> ∃ s' h' v l,W6 P ow wf n ops L B base k o s s' h h' v l/\Ht P ow wf n ops L B base (k+1) rest K s' h'
theorem W7{ops:List Oper}{L:List (Nat × Nat)}{B:List Nat}{base:Nat}{K:A9->A0->Prop}: ∀ (rest:List Oper)(k:Nat)(s:A9)(h:A0),ops.drop k=rest->k<=ops.length->Ht P ow wf n ops L B base k rest K s h->
  ∃ (sk:Nat->A9)(hk:Nat->A0)(vk:Nat->PV)(lt:Nat->Option (Nat × Ab)),sk k=s/\hk k=h/\K (sk ops.length) (hk ops.length)/\
   ∀ j o,k<=j->ops[j]? =some o->W6 P ow wf n ops L B base j o (sk j) (sk (j+1)) (hk j) (hk (j+1)) (vk j) (lt j)
 |[],k,s,h,hd,hk,hr=>by
  have hl:ops.length<=k:=by simpa using hd
  have hke:k=ops.length:=by omega
  refine⟨λ_=>s,λ_=>h,λ_=> .emp,λ_=>none,rfl,rfl,hr,λj o hj ho=>?_⟩;have:=(BC.1 ho).1;omega
 |o::rest,k,s,h,hd,hk,hr=>by
  have ho:ops[k]? =some o:=by
   have:(ops.drop k)[0]? =some o:=(by rw[hd];try rfl);simpa using this
  have hkl:k<ops.length:=(BC.1 ho).1;have hd2:ops.drop (k+1)=rest:=by
   have:=MK hkl;rw[hd]at this;simp only[T5]at this;exact this.2.symm
  obtain⟨s',h',v,l,hloc,hrec⟩:=hr;obtain⟨sk,hk',vk,lt,e1,e2,e3,e4⟩:=W7 rest (k+1) s' h' hd2 (by omega) hrec;refine⟨λj=>if j=k then s else sk j,λj=>if j=k then h else hk' j,λj=>if j=k then v else vk j,λj=>if j=k then l else lt j,by simp,by simp,?_,λj q hj hq=>?_⟩
  ·simp only;rw[A4 (by omega),A4 (by omega)];exact e3
  ·by_cases hjk:j=k
   ·subst hjk;rw[ho]at hq;simp only[Ak]at hq;subst hq;simp only[AH];rw[A4 (by omega),A4 (by omega),e1,e2];exact hloc
   ·simp only[hjk,AP];rw[A4 (by omega),A4 (by omega)];exact e4 j q (by omega) hq
theorem gz{ops:List Oper}{L:List (Nat × Nat)}{base:Nat}{lt:Nat->Option (Nat × Ab)}(h: ∀ f,f<ops.length->(lt f).map (·.1)=(L.lookup f).map (base+·))(x:Nat):kx ow ops lt x=(Mo ow ops L x).map (base+·):=by
 unfold kx Mo;rw[List.map_filterMap];have: ∀ l:List Nat,(∀ f∈l,f<ops.length)->l.filterMap (λf=>if(!(x==f)&&!(pre ops f x)&&(!(pre ops x f)||(ops[f]?).any (Bl ow)))=true then(lt f).map (·.1)else none)=l.filterMap (λf=>Option.map (base+·) (if(!(x==f)&&!(pre ops f x)&&(!(pre ops x f)||(ops[f]?).any (Bl ow)))=true then L.lookup f else none)):=by
  intro l
  induction l with
  |nil=>intro _;rfl
  |cons f l ih=>
   intro hl;have e:(if(!(x==f)&&!(pre ops f x)&&(!(pre ops x f)||(ops[f]?).any (Bl ow)))=true then(lt f).map (·.1)else none)=Option.map (base+·) (if(!(x==f)&&!(pre ops f x)&&(!(pre ops x f)||(ops[f]?).any (Bl ow)))=true then L.lookup f else none):=by
    split
    ·exact h f (hl f (by simp))
    ·rfl
   rw[YF,YF,e,ih λy hy=>hl y (by simp[hy])]
 exact this _ λf hf=>EY.1 hf
theorem W8{ops:List Oper}{k f:Nat}{q:Oper}(hf:k<f)(hq:ops[f]? =some q)(ha:Bl ow q=true):f∈O9 ow ops k:=by
 simp only[O9,LB,EY,AR,BP];exact⟨(BC.1 hq).1,hf,by rw[hq];exact ha⟩
theorem hJ{ops:List Oper}{L:List (Nat × Nat)}{B:List Nat}{K:A9->A0->Prop}{s:A9}{h:A0}(hd:LL ops=true)(hw:W5 ow ops L B=true)(hr:Ht P ow wf n ops L B h.next 0 ops K s ⟨h.next+ops.length,h.obj⟩):On P ow wf n ops K s h:=by
 obtain⟨sk,hk,vk,lt,e1,e2,e3,e4⟩:=W7 ops 0 s _ rfl (Bx _) hr;have hlt: ∀ f,f<ops.length->(lt f).map (·.1)=(L.lookup f).map (h.next+·):=λf hf=>(e4 f _ (Bx _) (AU hf)).1;have hkx:=λx=>gz (ow:=ow) hlt x;have hsome: ∀ f,f<ops.length->((lt f).isSome=(L.lookup f).isSome):=λf hf=>by
  have:=L8 Option.isSome (hlt f hf);simpa using this
 refine⟨hd,sk,hk,vk,lt,λj=>B.contains j,e1,e2,e3,⟨λj o ho=>?_,λi j hij hj hi hj2=>?_⟩⟩
 ·obtain ⟨_,g1,b,g2,g3,g4⟩:=e4 j o (Bx _) ho;refine⟨g1,b,g2,λhb=>g3 hb,λhb=>?_⟩;obtain⟨k1,k2,k3⟩:=g4 hb;refine⟨k1,λhw=>?_,λhw=>?_⟩
  ·obtain ⟨m1,m2,m3,m4⟩:=k2 hw;exact⟨m1,m2,m3,λM _=>⟨kx ow ops lt j,λ_ hx=>hx,m4 _⟩⟩
  ·rcases k3 hw with⟨m1,m2,⟨H',m3,m4,m6⟩,m5⟩|⟨m0,m1,ob,m2,m3,m4⟩|⟨m0,t,x,y,id,r,f,ob,m1,m2,m3,m4,m5,m6⟩
   ·refine .inl ⟨m1,m2,⟨H',?_,λid hid=>?_,?_⟩,λf q hf hq ha=>m5 f (W8 hf hq ha)⟩
    ·rw [hkx];exact m3
    ·rw [hkx]at hid;obtain⟨q,hq,rfl⟩:=Er.1 hid;exact m4 q hq
    ·rw [hkx];exact m6
   ·exact .inr (.inl ⟨m0,m1,ob,m2,m3,m4⟩)
   ·exact .inr (.inr ⟨m0,t,x,y,id,r,f,ob,m1,m2,m3,m4,λf q hf hq ha=>m5 f (W8 hf hq ha),m6⟩)
 ·have hwij:=Bq.1 (Bq.1 hw j (EY.2 hj)) i (EY.2 hij);have si:=hsome i (by omega);have sj:=hsome j hj;have li:=hlt i (by omega);have lj:=hlt j hj;have ei:(B.contains i||(L.lookup i).isSome)=true:=by
   rw[← si];rcases hi with h1|h1
   ·rw [h1];try rfl
   ·rw [h1];simp
  have ej:(B.contains j||(L.lookup j).isSome)=true:=by
   rw[← sj];rcases hj2 with h1|h1
   ·rw [h1];try rfl
   ·rw [h1];simp
  rw[ei,ej]at hwij;simp only[Ap,Fw,DG,AR]at hwij;rcases hwij with((h1|h1)|h1)|h1
  ·exact .inl h1
  ·refine .inr (.inl ?_);cases h2:L.lookup i with
   |none=>rw[h2]at h1;simp at h1
   |some p=>
    cases h3:L.lookup j with
    |none=>rw[h2,h3]at h1;simp at h1
    |some q=>
     rw[h2,h3]at h1;rw[h2]at li;rw[h3]at lj;obtain⟨x,hx,hx2⟩:=Dt.1 li;obtain⟨y,hy,hy2⟩:=Dt.1 lj;refine⟨x,y,hx,hy,?_⟩;rw[hx2,hy2];have hpq:p≠q:=(by simpa using h1);show h.next+p≠h.next+q
     omega
  ·refine .inr (.inr (.inl ⟨h1.1.1,by rw[sj];exact h1.1.2,ops[j],AU hj,?_⟩));have:=h1.2;rw[AU hj]at this;exact this
  ·have hil:i<ops.length:=(by omega);refine .inr (.inr (.inr ⟨by rw[si];exact h1.1.1,h1.1.2,ops[i],AU hil,?_⟩));have:=h1.2;rw[AU hil]at this;exact this
theorem SC{Q:BA}{s:A9}{h:A0}{id:Nat}{ops:List Oper}(L:List (Nat × Nat))(B:List Nat)(hd:LL ops=true)(hw:W5 ow ops L B=true)(hk: ∀ K:A9->A0->Prop,(∀ s h,Q .normal s h->K s h)->Ht P ow wf n ops L B h.next 0 ops K s ⟨h.next+ops.length,h.obj⟩):Ad P ow wf n (.region id ops.toArray true) Q s h:=by
 simp only[Ad,AH];exact⟨_,_,.refl,.inr (.inr (hJ hd hw (hk _ λ_ _ hq=>hq)))⟩
variable {ops rest:List Oper}{L:List (Nat × Nat)}{B:List Nat}{base k:Nat}{o:Oper}{K:A9->A0->Prop}{s:A9}{h:A0}
theorem SD(hK:K s h):Ht P ow wf n ops L B base k [] K s h:=hK
theorem E0(v:PV)(hl:L.lookup k=none)(hB:B.contains k=false)(hd:o.dst.all (λd=>decide (d<n))=true)(hw:CN ops s o=some true)(hW:B0 ow wf o=false)(he: ∀ H,Af P ow o (A5 s) H v H)(hk:Ht P ow wf n ops L B base (k+1) rest K (AZ s o.dst v) h):Ht P ow wf n ops L B base k (o::rest) K s h:=
 ⟨_,_,v,none,⟨by rw[hl];try rfl,hd,true,hw,λhb=>(by cases hb),λ_=>⟨rfl,λ_=>⟨rfl,rfl,hB,he⟩,λhw2=>(by rw[hW]at hw2;cases hw2)⟩⟩,hk⟩
theorem Pu{v:PV}{ob:Ab}(hl:L.lookup k=some k)(hB:B.contains k=false)(hd:o.dst.all (λd=>decide (d<n))=true)(hw:CN ops s o=some true)(hW:B0 ow wf o=true)(hA:Bl ow o=true)(he:ER P ow (base+k) o (A5 s)=some (v,ob))(hk:Ht P ow wf n ops L B base (k+1) rest K (AZ s o.dst v) (h.set (base+k) ob)):Ht P ow wf n ops L B base k (o::rest) K s h:=
 ⟨_,_,v,some (base+k,ob),⟨by rw[hl];try rfl,hd,true,hw,λhb=>(by cases hb),λ_=>⟨rfl,λhw2=>(by rw[hW]at hw2;cases hw2),λ_=> .inr (.inl ⟨hB,hA,ob,rfl,he,rfl⟩)⟩⟩,hk⟩
theorem Jy{v:PV}{H':A0}{kl la:List Nat}(hl:L.lookup k=none)(hB:B.contains k=true)(hd:o.dst.all (λd=>decide (d<n))=true)(hw:CN ops s o=some true)(hW:B0 ow wf o=true)(hkl:Mo ow ops L k=kl)(hla:O9 ow ops k=la)(he:Af P ow o (A5 s) (Az h (kl.map (base+·))) v H')(h1: ∀ q∈kl,H'.obj (base+q)=none)(h2: ∀ q∈la,(CD H' h (kl.map (base+·))).obj (base+q)=none)
  (hk:Ht P ow wf n ops L B base (k+1) rest K (AZ s o.dst v) (CD H' h (kl.map (base+·)))):Ht P ow wf n ops L B base k (o::rest) K s h:=
 ⟨_,_,v,none,⟨by rw[hl];try rfl,hd,true,hw,λhb=>(by cases hb),λ_=>⟨rfl,λhw2=>(by rw[hW]at hw2;cases hw2),λ_=> .inl ⟨hB,rfl,⟨H',by rw[hkl];exact he,by rw[hkl];exact h1,by rw[hkl]⟩,by rw[hla];exact h2⟩⟩⟩,hk⟩
end
end Go.AM
namespace Go.AM
section
variable {P:Program}{f:FuncId}{z:Nat}{h:A0}{K:PV->A0->Prop}
theorem AS.nil_split{β:BH}{n:Nat}{F:Nat->Prop}{w:World}{z:Nat}: ∀ {pre post:List PV}{vals:List Value},AS β n F w (pre++ .imm z []::post) vals-> ∃ a cap,AS β n F w (pre++ .sc (.slice a 0 cap)::post) vals
 |[],post,[],h=>by simp[AS]at h
 |[],post,v::vals,h=>by
  simp only[Au,AS,A8]at h⊢;obtain⟨⟨a,cap,hv,_⟩,h2⟩:=h;exact⟨a,cap,by simpa using hv,h2⟩
 |p::pre,post,[],h=>by simp[AS]at h
 |p::pre,post,v::vals,h=>by
  simp only[C3,AS]at h⊢;obtain⟨a,cap,hx⟩:=AS.nil_split h.2;exact⟨a,cap,h.1,hx⟩
theorem A6.nil_split{pre post:List PV}(h0: ∀ a cap,A6 P f (pre++ .sc (.slice a 0 cap)::post) h K):A6 P f (pre++ .imm z []::post) h K:=by
 intro β w vals sm hr;obtain⟨a,cap,hx⟩:=AS.nil_split hr;exact h0 a cap β w vals sm hx
theorem A6.nil1(h0: ∀ a cap,A6 P f [.sc (.slice a 0 cap)] h K):A6 P f [.imm z []] h K:=A6.nil_split (pre:=[]) (post:=[]) h0
theorem Pv(c:Bool)(cap:Nat):EF 5 c (.sc (.slice none 0 cap)) (.sc (.slice none 0 0))=some true:=rfl
theorem Kj(c:Bool)(x:Addr)(cap:Nat):EF 5 c (.sc (.slice (some x) 0 cap)) (.sc (.slice none 0 0))=some false:=rfl
theorem Kk(h:A0)(x:Option Addr)(cap:Nat):EZ h (.sc (.slice x 0 cap))=some []:=by
 unfold EZ;split<;>first|rfl|(simp_all;done)|(simp_all)
theorem Kl(h:A0)(z:Nat)(x:Option Addr)(cap:Nat):Cw h z (.sc (.slice x 0 cap))=true:=by
 unfold Cw;split<;>first|rfl|(simp_all;done)|(simp_all)
end
end Go.AM
namespace Go.Proofs.YtblgchkahpgdjaaGreat
open Go.AM Go.Proofs.Tryz
set_option maxHeartbeats 2000000
set_option maxRecDepth 20000
theorem hZ{l:List Pm}(hl:l.length<=1099511627776)(h:A0):A6 prog 150 [.imm 2 (A7 l)] h λr h'=>AC h h'/\Tl h' h.next 2 r (A7 l):=by
 have hll:=IA l;cases l with
 |nil=>
  have e0:A7 []=[]:=rfl;rw[e0];refine A6.nil1 λa cap=>?_;cases a with
  |none=>
   refine AE func150 ntmps150 results150 Ty.Le ?_;(repeat'(first|refine Ae λK hK=>?_|((first|refine BZ ?_|refine ES ?_);simp only[Ty.w,simprocAttr,Pv])|(refine hK _ _ ?_;clear hK;(try simp only[Ao,simprocAttr]))));exact⟨AC.refl _,Tl.nil⟩
  |some x=>
   refine AE func150 ntmps150 results150 Ty.Le ?_;(repeat'(first|refine Ae λK hK=>?_|((first|refine BZ ?_|refine ES ?_);simp only[Ty.w,simprocAttr,Kj,Kk,Kl])|(refine GZ ?_;(try simp only[Ao,simprocAttr]))|(refine EI _ (by(try simp only[Ty.w,simprocAttr,Kj,Kk,Kl]);rfl) (λhb=>?_) (λhb=>?_)<;>(try simp only[Cz,BP,Cv,simprocAttr]at hb)<;>(try(exfalso;omega)))|(refine hK _ _ ?_;clear hK;(try simp only[Ao,simprocAttr]))));exact⟨(AC.refl h).new _,Tl.grow (AD _) rfl⟩
 |cons x l=>
  have h0:(0<(A7 (x::l)).length)=True:=by rw[hll];simp
  have hb:((x::l).length)*32<=140737488355328:=by omega
  have hz:0+(A7 (x::l)).length=(x::l).length:=by omega
  generalize A7 (x::l)=R at hll h0 hz;refine AE func150 ntmps150 results150 Ty.Le ?_;replace zz:=AV h0 hll hb;repeat'(first|refine Ae λK hK=>?_|refine uR zz ?_|refine uT zz ?_|refine uK ?_|refine Bo zz ?_|(refine uN hK ?_;clear hK)|(rw[AG];rotate_left 1;omega;simp only[Ty.w,simprocAttr,h0,hll,hb])|apply zI)
  exact⟨(AC.refl h).new _,Tl.grow (AD _) (by simp[hll])⟩
theorem iA{l:List Pm}(hl:l.length<=1099511627776)(h:A0):A6 prog 150 [.imm 2 (A7 l)] h λr h'=>r= .imm 2 (A7 l)/\h'=h:=by
 refine A6.frz Ty.Le ((hZ hl h).mono ?_);rintro r h' ⟨hg,tl⟩;exact⟨Vw tl,hg⟩
theorem iB{l:List Fm}(hl:l.length<=1099511627776)(h:A0):A6 prog 149 [.imm 6 (Fm.rows l)] h λr h'=>AC h h'/\Tl h' h.next 6 r (Fm.rows l):=by
 have hll:=Fm.rows_len l;cases l with
 |nil=>
  have e0:Fm.rows []=[]:=rfl;rw[e0];refine A6.nil1 λa cap=>?_;cases a with
  |none=>
   refine AE func149 ntmps149 results149 Ty.Ld ?_;(repeat'(first|refine Ae λK hK=>?_|((first|refine BZ ?_|refine ES ?_);simp only[Ty.w,simprocAttr,Pv])|(refine hK _ _ ?_;clear hK;(try simp only[Ao,simprocAttr]))));exact⟨AC.refl _,Tl.nil⟩
  |some x=>
   refine AE func149 ntmps149 results149 Ty.Ld ?_;(repeat'(first|refine Ae λK hK=>?_|((first|refine BZ ?_|refine ES ?_);simp only[Ty.w,simprocAttr,Kj,Kk,Kl])|(refine GZ ?_;(try simp only[Ao,simprocAttr]))|(refine EI _ (by(try simp only[Ty.w,simprocAttr,Kj,Kk,Kl]);rfl) (λhb=>?_) (λhb=>?_)<;>(try simp only[Cz,BP,Cv,simprocAttr]at hb)<;>(try(exfalso;omega)))|(refine hK _ _ ?_;clear hK;(try simp only[Ao,simprocAttr]))));exact⟨(AC.refl h).new _,Tl.grow (AD _) rfl⟩
 |cons x l=>
  have h0:(0<(Fm.rows (x::l)).length)=True:=by rw[hll];simp
  have hb:((x::l).length)*128<=140737488355328:=by omega
  have hz:0+(Fm.rows (x::l)).length=(x::l).length:=by omega
  generalize Fm.rows (x::l)=R at hll h0 hz;refine AE func149 ntmps149 results149 Ty.Ld ?_;replace zz:=AV h0 hll hb;repeat'(first|refine Ae λK hK=>?_|refine uR zz ?_|refine uT zz ?_|refine uK ?_|refine Bo zz ?_|(refine uN hK ?_;clear hK)|(rw[AG];rotate_left 1;omega;simp only[Ty.w,simprocAttr,h0,hll,hb])|apply zI)
  exact⟨(AC.refl h).new _,Tl.grow (AD _) (by simp[hll])⟩
theorem iC{l:List Fm}(hl:l.length<=1099511627776)(h:A0):A6 prog 149 [.imm 6 (Fm.rows l)] h λr h'=>r= .imm 6 (Fm.rows l)/\h'=h:=by
 refine A6.frz Ty.Ld ((iB hl h).mono ?_);rintro r h' ⟨hg,tl⟩;exact⟨Vt (AD _) tl,hg⟩
end Go.Proofs.YtblgchkahpgdjaaGreat
namespace Go.AM
def Cl(h:A0)(id0 z:Nat)(p:PV)(rows:List (List PV)):Prop:=
 (rows=[]/\p= .imm z [])\/ ∃ id,id0<=id/\id<h.next/\p= .own id 0 rows.length/\h.obj id=some (.arr z rows)
variable {h:A0}{id0 z:Nat}{p:PV}{rows:List (List PV)}
theorem Cl.sl(t:Cl h id0 z p rows):Sl h z p rows:=by
 rcases t with⟨rfl,rfl⟩|⟨id,_,_,rfl,ho⟩
 ·exact Sl.imm _
 ·exact Sl.own0 ho
theorem Cl.up{h':A0}(t:Cl h id0 z p rows)(hn:h.next<=h'.next)(ho: ∀ j,id0<=j->j<h.next->h'.obj j=h.obj j):Cl h' id0 z p rows:=by
 rcases t with ht|⟨id,h1,h2,rfl,h3⟩
 ·exact .inl ht
 ·exact .inr ⟨id,h1,by omega,rfl,by rw[ho id h1 h2];exact h3⟩
theorem Cl.keep{h':A0}(t:Cl h id0 z p rows)(hn:h.next<=h'.next)(ho: ∀ j,p= .own j 0 rows.length->j<h.next->h'.obj j=h.obj j):Cl h' id0 z p rows:=by
 rcases t with ht|⟨id,h1,h2,rfl,h3⟩
 ·exact .inl ht
 ·exact .inr ⟨id,h1,by omega,rfl,by rw[ho id rfl h2];exact h3⟩
theorem Cl.low{a:Nat}(t:Cl h a z p rows)(hab:id0<=a):Cl h id0 z p rows:=by
 rcases t with ht|⟨id,h1,h2,h3,h4⟩
 ·exact .inl ht
 ·exact .inr ⟨id,by omega,h2,h3,h4⟩
theorem Cl.grow{H:A0}{len:Nat}(hn:id0<=H.next)(hl:len=rows.length):Cl (H.new (.arr z rows)) id0 z (.own H.next 0 len) rows:=
 .inr ⟨H.next,hn,YM _,by rw[hl],by rw[Nj,AG rfl]⟩
theorem Cl.pc(t:Cl h id0 z p rows):p.cells=[p]/\CW p=true:=by
 rcases t with⟨_,rfl⟩|⟨_,_,_,rfl,_⟩<;>exact⟨rfl,rfl⟩
theorem Cl.frz{n:Nat}(t:Cl h id0 z p rows)(hf:Tl h id0 z p rows->AF n h (.imm z rows) p):AF n h (.imm z rows) p:=by
 rcases t with⟨rfl,rfl⟩|ht
 ·simp only[AF];exact .inl ⟨trivial,by simp only[B1]⟩
 ·exact hf (.inr ht)
end Go.AM
namespace Go.Proofs.YtblgchkahpgdjaaGreat
open Go.AM Go.Proofs.Tryz
set_option maxHeartbeats 2000000
set_option maxRecDepth 20000
set_option maxHeartbeats 8000000
def SE(w:ByteArray)(rest:List Sx):Fm × Int:=
 bif Dy w then(match rest with
  |[]=>(Ce,2)
  |p::body=>bif Ax p==3 then(bif (Bt true (CA p)).2==0 then(match D6 body with
    |(ks,c)=>bif c==0 then(.mk w ⟨#[]⟩ [] (Bt true (CA p)).1 [] ks,0)else(Ce,c))
   else(Ce,(Bt true (CA p)).2))else(Ce,2))
 else bif Fa w then(match D6 rest with
  |(ks,c)=>bif c==0 then(.mk w ⟨#[]⟩ [] [] [] ks,0)else(Ce,c))
 else bif EU w then(match rest with
  |[a,b]=>Ck (Hi w a b)
  |_=>(Ce,2))
 else bif An w then(bif (CF rest).2==0 then(.mk Bk w (CF rest).1 [] [] [],0)else(Ce,(CF rest).2))
 else(Ce,8)
theorem iD(x:Sx):Cf x=(bif Ax x==3&&(CA x).isEmpty then(.mk Bc ⟨#[]⟩ [] [] [] [],0)else(match Bd x with
  |none=>(Ce,2)
  |some (w,rest)=>bif decide (EA w>=0)&&!(decide (EA w=rest.length))then(Ce,2)else SE w rest)):=by
 obtain⟨kind,value,line,col,text,kids⟩:=x
 conv=>lhs;unfold Cf
 have kk:Ax (.mk kind value line col text kids)=kind:=rfl;have k5:CA (.mk kind value line col text kids)=kids:=rfl;rw[kk,k5];simp only[Bd];by_cases h3:kind=3
 ·rw [AG h3,AG h3];cases kids with
  |nil=>simp[h3]
  |cons y rest=>
   simp only[NJ,BD,AI];cases hk:Ax y==1<;>simp only[hk,AB,AI]<;>rfl
 ·rw [A4 h3,A4 h3];rw[show(kind==3)=false by simpa using h3];try rfl
theorem W9{w:ByteArray}{n:Nat}(hw:Dy w=true\/EU w=true)(hc:(decide (EA w>=0)&&!(decide (EA w=n)))=false):n=2:=by
 have:EA w=2:=by
  rw[VN];unfold Dy EU FJ at hw;simp only[DG]at hw;rcases hw with(h|h)|(((h|h)|h)|h)|h<;>(have h:=Dz h;subst h;decide)
 rw[this]at hc;simp at hc;omega
def Ir:Ab:= .arr 6 [[.sc (.string ⟨#[]⟩),.sc (.string ⟨#[]⟩),.sc (.slice none 0 0),.sc (.slice none 0 0),.sc (.slice none 0 0),.sc (.slice none 0 0)]]
structure PI(h:A0)(w:ByteArray)(h':A0):Prop where
 grow:AC h h'
 nxt:h'.next=h.next+2
 o1:h'.obj h.next=some Ir
 o2:h'.obj (h.next+1)=some (.arr 6 [[A2 w,.sc (.string ⟨#[]⟩),.sc (.slice none 0 0),.sc (.slice none 0 0),.sc (.slice none 0 0),.sc (.slice none 0 0)]])
def PJ(h:A0)(F:Fm × Int)(S:A9)(h':A0):Prop:=S 2= .ptr h.next 0 0/\S 8= .ptr (h.next+1) 0 0/\AC h h'/\ ∃ (c:Int)(a b:ByteArray)(p2 p3 p4 p5:PV),S 9=AO c/\h'.obj h.next=some Ir/\h'.obj (h.next+1)=some (.arr 6 [[A2 a,A2 b,p2,p3,p4,p5]])/\
 (CW p2=true/\CW p3=true/\CW p4=true/\CW p5=true)/\((c==0)=false->F=(Ce,c))/\((c==0)=true->F.2=0/\ ∀ hh,AL h.next hh F.1.cells [A2 a,A2 b,p2,p3,p4,p5])
theorem PJ.mk2{h h':A0}{w:ByteArray}{F:Fm × Int}{S:A9}(hp:PI h w h')(c:Int)(a b:ByteArray)(p2 p3 p4 p5:PV)(g2:S 2= .ptr h.next 0 0)(g8:S 8= .ptr (h.next+1) 0 0)(g9:S 9=AO c)
  (ho:CW p2=true/\CW p3=true/\CW p4=true/\CW p5=true)(hc:(c==0)=false->F=(Ce,c))(hd:(c==0)=true->F.2=0/\ ∀ hh,AL h.next hh F.1.cells [A2 a,A2 b,p2,p3,p4,p5]):
  PJ h F S (h'.set (h.next+1) (.arr 6 [[A2 a,A2 b,p2,p3,p4,p5]])):=by
 refine⟨g2,g8,hp.grow.set (Oj _) _,c,a,b,p2,p3,p4,p5,g9,?_,by simp[A0.set],ho,hc,hd⟩;simp only[A0.set];rw[A4 (by omega)];exact hp.o1
theorem Pw{h h':A0}{c:Int}{F:Fm × Int}(hc:c=2\/c=8)(hg:AC h h')(hF:F=(Ce,c)):
  AF h.next h' (.tup [.agg F.1.cells,AO F.2]) (.tup [.agg [.sc (.string ⟨#[]⟩),.sc (.string ⟨#[]⟩),.sc (.slice none 0 0),.sc (.slice none 0 0),.sc (.slice none 0 0),.sc (.slice none 0 0)],Aj c])/\AC h h':=by
 subst hF;have:AO c=Aj c:=by rcases hc with rfl|rfl<;>rfl
 simp only[this];refine⟨?_,hg⟩;simp only[Aj,Ce,Fm.cells,Ex.rows,Fm.rows,A7,AN,B5,AF,AL];exact⟨_,rfl,⟨_,rfl,rfl,rfl,.inr (.inl ⟨rfl,.inr rfl⟩),.inr (.inl ⟨rfl,.inr rfl⟩),.inr (.inl ⟨rfl,.inr rfl⟩),.inr (.inl ⟨rfl,.inr rfl⟩),trivial⟩,rfl,trivial⟩
theorem iE{kind value line col:Int}{text:ByteArray}{kids:List Sx}(hok:(Sx.mk kind value line col text kids).ok)(hsm:(Sx.mk kind value line col text kids).small)
  (ih: ∀ x∈kids, ∀ h:A0,A6 prog 169 [.agg x.cells] h λr h'=>r= .tup [.agg (Cf x).1.cells,AO (Cf x).2]/\h'=h)(h:A0):
  A6 prog 169 [.agg (Sx.mk kind value line col text kids).cells] h λr h'=>r= .tup [.agg (Cf (.mk kind value line col text kids)).1.cells,AO (Cf (.mk kind value line col text kids)).2]/\h'=h:=by
 refine A6.frz Ty.Um ?_;have hok':=hok;simp only[Sx.ok]at hok';obtain⟨_,_,_,hkl,hks⟩:=hok';rw[Sx.oks_iff]at hks;simp only[Sx.small]at hsm;obtain⟨hl,hss⟩:=hsm;rw[Sx.smalls_iff]at hss;have hh:=Rk hok;have hX:=iD (.mk kind value line col text kids);generalize Cf (.mk kind value line col text kids)=F at hX;have hMo:=λw rest e=>Ro (w:=w) (rest:=rest) hok e;have hMr:=λw rest e=>Pj (kind:=kind) (value:=value) (line:=line) (col:=col) (text:=text) (kids:=kids) (w:=w) (rest:=rest) e;generalize Bd (.mk kind value line col text kids)=M at hh hX hMo hMr;have kk:Ax (.mk kind value line col text kids)=kind:=rfl;have k5:CA (.mk kind value line col text kids)=kids:=rfl;rw[kk,k5]at hX;have hlk:=Sx.rows_len kids;have hg1: ∀ r,AC h ((h.new (.arr 6 [[.sc (.string ⟨#[]⟩),.sc (.string ⟨#[]⟩),.sc (.slice none 0 0),.sc (.slice none 0 0),.sc (.slice none 0 0),.sc (.slice none 0 0)]])).set h.next r):=λr=>((AC.refl h).new _).set (AD _) _;refine AE func169 ntmps169 results169 Ty.Um ?_;simp only[Sx.cells]at hh⊢;refine xH 1 A3 ?_;refine⟨?_⟩;refine DA (λS h'=>S 1= .cptr (Sx.mk kind value line col text kids).cells/\S 2= .ptr h.next 0 0/\h'=h.new Ir/\(kind==3&&kids.isEmpty)=false) ?_ ?_
 ·clear hh;simp only[Sx.cells,Ir];cases k3:(kind==3)with
  |false=>
   refine wm k3 ?_;try exact zI
   all_goals first|rfl|(simp only[Ty.w,simprocAttr,B9];done)
  |true=>
   cases q:(((Sx.rows kids).length:Int)==0)with
   |false=>
    have q':kids.isEmpty=false:=by
     cases kids with
     |nil=>simp[Sx.rows]at q
     |cons _ _=>rfl
    refine wm (uu k3 q) ?_;try exact zI
    all_goals first|rfl|(simp only[Ty.w,simprocAttr,q',B8];done)
   |true=>
    have q':kids.isEmpty=true:=by
     cases kids with
     |nil=>rfl
     |cons _ _=>simp[Sx.rows]at q;omega
    rw[k3,q']at hX;simp only[L9,AB]at hX;subst hX;refine wt (uu k3 q) ?_;refine⟨?_,hg1 _⟩;have e2:AO 0= .sc .nilIface:=rfl;simp only[e2,Bc,Fm.cells,Ex.rows,Fm.rows,A7,AN,B5,AF,AL];exact⟨_,rfl,⟨_,rfl,rfl,rfl,.inr (.inl ⟨rfl,.inr rfl⟩),.inr (.inl ⟨rfl,.inr rfl⟩),.inr (.inl ⟨rfl,.inr rfl⟩),.inr (.inl ⟨rfl,.inr rfl⟩),trivial⟩,rfl,trivial⟩
 ·rintro S h' ⟨g1,g2,rfl,hq⟩;rw[hq]at hX;simp only[AI]at hX;simp only[Sx.cells]at g1;simp only[Ir]
  clear hq;cases M with
  |none=>
   simp only at hX;simp only[Mj]at hh;refine wt (uu g1 g2) ?_;refine uU (uu g1 g2) (hh _) ?_;refine wt (AV g1 g2 yF) ?_;exact Pw (.inl rfl) (hg1 _) hX
  |some wr=>
   obtain⟨w,rest⟩:=wr;obtain⟨hw,hro⟩:=hMo w rest rfl;obtain⟨y0,hy0⟩:=hMr w rest rfl;have hrl:rest.length<=1048576:=(by rw[hy0]at hl;simp at hl;omega);have ihr: ∀ x∈rest, ∀ h:A0,A6 prog 169 [.agg x.cells] h λr h'=>r= .tup [.agg (Cf x).1.cells,AO (Cf x).2]/\h'=h:=λx hx=>ih x (by rw[hy0];simp[hx]);have hsr: ∀ x∈rest,x.small:=λx hx=>hss x (by rw[hy0];simp[hx]);clear ih hMo hMr hks hss hl hkl hlk hy0 y0;simp only at hX;simp only[Mj]at hh;have hlr:=Sx.rows_len rest;refine xH 6 (uu g1 g2) ?_;refine uU (uu g1 g2) (hh _) ?_;refine xH 6 (AV g1 g2 yT) ?_;refine⟨?_⟩;refine DA (λS h'=>S 2= .ptr h.next 0 0/\S 4=A2 w/\S 5= .imm 6 (Sx.rows rest)/\h'=h.new Ir/\(decide (EA w>=0)&&!(decide (EA w=rest.length)))=false) ?_ ?_
   ·have hcn:=λh:A0=>fY (h:=h) (op:=w);simp only[Ir];generalize EA w=n at hcn hX;cases c1:decide (n>=0)with
    |false=>
     refine wt (uu g1 g2) ?_;refine uU (uu g1 g2) (hcn _) ?_;refine wm (AV g1 g2 c1) ?_;try exact zI
     all_goals first|rfl|(simp only[Ty.w,simprocAttr,g2,B9];done)
    |true=>
     cases c2:(n !=(rest.length:Int))with
     |false=>
      have c2':decide (n=(rest.length:Int))=true:=(by simpa using c2);refine wt (uu g1 g2) ?_;refine uU (uu g1 g2) (hcn _) ?_;replace zz:=As g1 g2 c1 hlr c2;refine wm zz ?_;try exact zI
      all_goals first|rfl|(simp only[Ty.w,simprocAttr,g2,c2',B8,Ap];done)
     |true=>
      have c2':decide (n=(rest.length:Int))=false:=(by simpa using c2);rw[c1,c2']at hX;simp only[C4,L9,AB]at hX;refine wt (uu g1 g2) ?_;refine uU (uu g1 g2) (hcn _) ?_;replace zz:=As g1 g2 c1 hlr c2;refine wt zz ?_;exact Pw (.inl rfl) (hg1 _) hX
   ·clear g1 g2 hh;rintro S h' ⟨g2,g4,g5,rfl,hcnt⟩;rw[hcnt]at hX;simp only[AI]at hX;simp only[Ir];have n1:(h.next=h.next+1)=False:=(by simp);refine xH 11 (AV g2 g4 g5) ?_;refine⟨?_⟩;refine S9 (λS h'=>S 2= .ptr h.next 0 0/\S 4=A2 w/\S 5= .imm 6 (Sx.rows rest)/\S 8= .ptr (h.next+1) 0 0/\S 9= .sc .nilIface/\PI h w h') ?_ ?_
    ·simp only[Ty.w,simprocAttr,g2,g4,g5];refine⟨(((AC.refl h).new _).new _).set (Oj _) _,rfl,?_,?_⟩
     ·simp [A0.new,A0.set,Ir]
     ·simp [A0.new,A0.set]
    ·clear g2 g4 g5;rintro S h' ⟨g2,g4,g5,g8,g9,hpi⟩;refine DA (PJ h F) ?_ ?_
     ·have o1:=hpi.o1;have o2:=hpi.o2;simp only[Ir]at o1;have hN:=hpi.nxt;have n1:(h.next=h.next+1)=False:=(by simp);have n2:(h.next+1=h.next)=False:=(by simp);have hz2:AO 0= .sc .nilIface:=rfl;replace zz:=As g2 g4 g5 g8 g9;(repeat'(first|refine cK ?_|refine nK ?_|refine Ln 16 ?_|apply zI));refine⟨?_⟩;refine DA (λS h2=>h2=h'/\S 2= .ptr h.next 0 0/\S 4=A2 w/\S 5= .imm 6 (Sx.rows rest)/\S 8= .ptr (h.next+1) 0 0/\S 9= .sc .nilIface/\S 44=A2 w/\S 59= .sc (.bool (Dy w))) ?_ ?_
      ·cases u1:(w.data.toList==(#[102,111,114,97,108,108]:Array UInt8).toList)with
       |true=>
        have hq:Dy w=true:=(by unfold Dy;simp[show A1 w DH=true from u1]);rw[hq];replace zz:=Aq g2 g4 g5 g8 g9 u1;refine wm zz ?_;try exact zI
        all_goals first|rfl|(simp only[Ty.w,simprocAttr,g2,g4,g5,g8,g9];done)
       |false=>
        cases u2:(w.data.toList==(#[101,120,105,115,116,115]:Array UInt8).toList)with
        |true=>
         have hq:Dy w=true:=(by unfold Dy;simp[show A1 w DH=false from u1,show A1 w HK=true from u2]);rw[hq];replace zz:=Ag g2 g4 g5 g8 g9 u1 u2;refine wm zz ?_;try exact zI
         all_goals first|rfl|(simp only[Ty.w,simprocAttr,g2,g4,g5,g8,g9];done)
        |false=>
         have hq:Dy w=false:=(by unfold Dy;simp[show A1 w DH=false from u1,show A1 w HK=false from u2]);rw[hq];replace zz:=Ag g2 g4 g5 g8 g9 u1 u2;refine wm zz ?_;try exact zI
         all_goals first|rfl|(simp only[Ty.w,simprocAttr,g2,g4,g5,g8,g9];done)
      ·clear g2 g4 g5 g8 g9;rintro S h' ⟨rfl,g2,g4,g5,g8,g9,g44,g59⟩;cases hQ:Dy w with
       |true=>
        rw[hQ]at g59;simp only[SE,hQ,AB]at hX;obtain⟨p,b,rfl⟩: ∃ p b,rest=[p,b]:=by
         have h2:=W9 (.inl hQ) hcnt
         match rest,h2 with
         |[p,b],_=>exact⟨p,b,rfl⟩
        simp only at hX;have hpo:=hro p (by simp);have hps:=hsr p (by simp);have hck:=λh=>Vu (l:=[b]) (by simp) (λx hx=>ihr x (by simp at hx⊢;exact .inr hx)) h;obtain⟨pk,pv,pl,pc,pt,pks⟩:=p;simp only[Ax,CA]at hX;simp only[Sx.ok]at hpo;simp only[Sx.small]at hps;have hcp:=λh=>Lp (vars:=true) (l:=pks) hps.1 (Sx.oks_iff.1 hpo.2.2.2.2) h;have r0:=Sx.rows_get (l:=[.mk pk pv pl pc pt pks,b]) (i:=0) rfl;have hq1:(1:Int)<=((Sx.rows [.mk pk pv pl pc pt pks,b]).length:Int):=(by rw[hlr];simp);have ht:List.take (((Sx.rows [.mk pk pv pl pc pt pks,b]).length:Int)-1).toNat (List.drop 1 (Sx.rows [.mk pk pv pl pc pt pks,b]))=Sx.rows [b]:=(by rw[hlr];try rfl);generalize Sx.rows [.mk pk pv pl pc pt pks,b]=R at g5 r0 hq1 ht hlr;generalize Sx.rows [b]=R1 at ht hck;simp only[Sx.cells]at r0;cases q3:(pk !=3)with
        |true=>
         rw[show(pk==3)=false by simpa using q3]at hX;simp only[AI]at hX;replace zz:=E7 g2 g4 g5 g8 g9 g44 g59 r0 q3 o1 o2;refine wt zz ?_;exact Pw (.inl rfl) (hpi.grow.set (AD _) _) hX
        |false=>
         rw[show(pk==3)=true by simpa using q3]at hX;simp only[AB]at hX;generalize Bt true pks=PP at hcp hX;obtain⟨pms,c⟩:=PP;simp only at hcp hX;cases hc:c==0 with
         |false=>
          rw[hc]at hX;simp only[AI]at hX;have e0:AO c=Aj c:=(by simp only[AO,hc,AI]);rw[e0]at hcp;simp only[Aj]at hcp e0;replace zz:=E7 g2 g4 g5 g8 g9 g44 g59 r0 q3 o1 o2;refine wt zz ?_;refine Gs (hcp _) (by(try simp only[Ty.w,simprocAttr,g2,g4,g5,g8,g9,g44,r0,o1,o2,n1,n2,DM]);try rfl) ?_;simp only[Ty.w,simprocAttr,g2,g4,g5,g8,g9,g44,r0,o1,o2,n1,n2,DM];replace zz:=E7 g2 g4 g5 g8 g9 g44 r0 o1 o2 n1 n2;refine wt zz ?_;refine PJ.mk2 hpi c w ⟨#[]⟩ _ _ _ _ ?_ ?_ ?_ ?_ ?_ ?_
          ·simp only[Ty.w,simprocAttr,g2]
          ·simp only[Ty.w,simprocAttr,g8]
          ·simp only[Ty.w,simprocAttr];first|exact e0.symm|rfl
          ·exact ⟨rfl,rfl,rfl,rfl⟩
          ·exact λ_=>hX
          ·intro hh;rw[hc]at hh;exact absurd hh (by simp)
         |true=>
          rw[hc]at hX;simp only[AB]at hX;have e0:AO c= .sc .nilIface:=(by simp only[AO,hc,AB]);rw[e0]at hcp;clear e0;generalize D6 [b]=KK at hck hX;obtain⟨ks,c2⟩:=KK;simp only at hck hX;cases hc2:c2==0 with
          |false=>
           rw[hc2]at hX;simp only[AI]at hX;have e0:AO c2=Aj c2:=(by simp only[AO,hc2,AI]);rw[e0]at hck;simp only[Aj]at hck e0;replace zz:=E7 g2 g4 g5 g8 g9 g44 g59 r0 q3 o1 o2;refine wt zz ?_;refine Gs (hcp _) (by(try simp only[Ty.w,simprocAttr,g2,g4,g5,g8,g9,g44,r0,o1,o2,n1,n2,DM]);try rfl) ?_;simp only[Ty.w,simprocAttr,g2,g4,g5,g8,g9,g44,r0,o1,o2,n1,n2,DM];(repeat'(first|refine cK ?_|(refine nK ?_;try exact zI)|refine Ae λK hK=>?_|(refine Ca ?_)|((first|refine BZ ?_|refine FD (λK hK=>?_));simp only[Ty.w,simprocAttr,g2,g4,g5,g8,g9,g44,r0,o1,o2,n1,n2,hq1,ht,B6,Bf,CU,CV])|(refine hK _ _ ?_;clear hK;(try simp only[Ao,simprocAttr]))));refine Gs (hck _) (by(try simp only[Ty.w,simprocAttr,g2,g4,g5,g8,g9,g44,r0,o1,o2,n1,n2,hq1,ht,B6,Bf,CU,CV,DM]);try rfl) ?_;simp only[Ty.w,simprocAttr,g2,g4,g5,g8,g9,g44,r0,o1,o2,n1,n2,hq1,ht,B6,Bf,CU,CV,DM];(repeat'(first|refine cK ?_|(refine nK ?_;try exact zI)|(refine hK _ _ ?_;clear hK;(try simp only[Ao,simprocAttr]))));(try rw[DM]);refine PJ.mk2 hpi c2 w ⟨#[]⟩ _ _ _ _ ?_ ?_ ?_ ?_ ?_ ?_
           ·simp only[Ty.w,simprocAttr,g2]
           ·simp only[Ty.w,simprocAttr,g8]
           ·simp only[Ty.w,simprocAttr];first|exact e0.symm|rfl
           ·exact ⟨rfl,rfl,rfl,rfl⟩
           ·exact λ_=>hX
           ·intro hh;rw[hc2]at hh;exact absurd hh (by simp)
          |true=>
           rw[hc2]at hX;simp only[AB]at hX;have e0:AO c2= .sc .nilIface:=(by simp only[AO,hc2,AB]);rw[e0]at hck;replace zz:=E7 g2 g4 g5 g8 g9 g44 g59 r0 q3 o1 o2;refine wt zz ?_;refine Gs (hcp _) (by(try simp only[Ty.w,simprocAttr,g2,g4,g5,g8,g9,g44,r0,o1,o2,n1,n2,DM]);try rfl) ?_;simp only[Ty.w,simprocAttr,g2,g4,g5,g8,g9,g44,r0,o1,o2,n1,n2,DM];(repeat'(first|refine cK ?_|(refine nK ?_;try exact zI)|refine Ae λK hK=>?_|(refine Ca ?_)|((first|refine BZ ?_|refine FD (λK hK=>?_));simp only[Ty.w,simprocAttr,g2,g4,g5,g8,g9,g44,r0,o1,o2,n1,n2,hq1,ht,B6,Bf,CU,CV])|(refine hK _ _ ?_;clear hK;(try simp only[Ao,simprocAttr]))));refine Gs (hck _) (by(try simp only[Ty.w,simprocAttr,g2,g4,g5,g8,g9,g44,r0,o1,o2,n1,n2,hq1,ht,B6,Bf,CU,CV,DM]);try rfl) ?_;simp only[Ty.w,simprocAttr,g2,g4,g5,g8,g9,g44,r0,o1,o2,n1,n2,hq1,ht,B6,Bf,CU,CV,DM];(repeat'(first|refine cK ?_|(refine nK ?_;try exact zI)|(refine hK _ _ ?_;clear hK;(try simp only[Ao,simprocAttr]))));(try rw[DM]);refine PJ.mk2 hpi c2 w ⟨#[]⟩ _ _ _ _ ?_ ?_ ?_ ?_ ?_ ?_
           ·simp only[Ty.w,simprocAttr,g2]
           ·simp only[Ty.w,simprocAttr,g8]
           ·simp only[Ty.w,simprocAttr];first|exact e0.symm|rfl
           ·exact ⟨rfl,rfl,rfl,rfl⟩
           ·intro hh;rw[hc2]at hh;exact absurd hh (by simp)
           ·subst hX;refine λ_=>⟨rfl,λhh=>?_⟩;simp only[Fm.cells,AL];refine⟨?_,?_,?_,?_,?_,?_,trivial⟩<;>(unfold AF;first|rfl|exact .inr (.inl ⟨rfl,.inr rfl⟩)|exact .inl ⟨rfl,DO _ _⟩|exact .inl ⟨rfl,Bu _ _⟩|exact .inl ⟨rfl,EO _ _⟩)
       |false=>
        rw[hQ]at g59;simp only[SE,hQ,AI]at hX;replace zz:=Ag g2 g4 g5 g8 g9 g44 g59;(repeat'(first|refine cK ?_|refine nK ?_|refine Ln 23 ?_|refine Bo zz ?_|apply zI));refine⟨?_⟩;refine DA (λS h2=>h2=h'/\S 2= .ptr h.next 0 0/\S 4=A2 w/\S 5= .imm 6 (Sx.rows rest)/\S 8= .ptr (h.next+1) 0 0/\S 9= .sc .nilIface/\S 44=A2 w/\S 87= .sc (.bool (Fa w))) ?_ ?_
        ·cases u1:(w.data.toList==(#[110,111,116]:Array UInt8).toList)with
         |true=>
          have hq:Fa w=true:=(by unfold Fa;simp[show A1 w DD=true from u1]);rw[hq];replace zz:=BO g2 g4 g5 g8 g9 g44 g59 u1;refine wm zz ?_;try exact zI
          all_goals first|rfl|(simp only[Ty.w,simprocAttr,g2,g4,g5,g8,g9,g44];done)
         |false=>
          cases u2:(w.data.toList==(#[105,109,112,108,121]:Array UInt8).toList)with
          |true=>
           have hq:Fa w=true:=(by unfold Fa;simp[show A1 w DD=false from u1,show A1 w G6=true from u2]);rw[hq];replace zz:=BK g2 g4 g5 g8 g9 g44 g59 u1 u2;refine wm zz ?_;try exact zI
           all_goals first|rfl|(simp only[Ty.w,simprocAttr,g2,g4,g5,g8,g9,g44];done)
          |false=>
           cases u3:(w.data.toList==(#[97,110,100]:Array UInt8).toList)with
           |true=>
            have hq:Fa w=true:=(by unfold Fa;simp[show A1 w DD=false from u1,show A1 w G6=false from u2,show A1 w Bc=true from u3]);rw[hq];replace zz:=B7 g2 g4 g5 g8 g9 g44 g59 u1 u2 u3;refine wm zz ?_;try exact zI
            all_goals first|rfl|(simp only[Ty.w,simprocAttr,g2,g4,g5,g8,g9,g44];done)
           |false=>
            cases u4:(w.data.toList==(#[111,114]:Array UInt8).toList)with
            |true=>
             have hq:Fa w=true:=(by unfold Fa;simp[show A1 w DD=false from u1,show A1 w G6=false from u2,show A1 w Bc=false from u3,show A1 w GF=true from u4]);rw[hq];replace zz:=E7 g2 g4 g5 g8 g9 g44 g59 u1 u2 u3 u4;refine wm zz ?_;try exact zI
             all_goals first|rfl|(simp only[Ty.w,simprocAttr,g2,g4,g5,g8,g9,g44];done)
            |false=>
             have hq:Fa w=false:=(by unfold Fa;simp[show A1 w DD=false from u1,show A1 w G6=false from u2,show A1 w Bc=false from u3,show A1 w GF=false from u4]);rw[hq];replace zz:=E7 g2 g4 g5 g8 g9 g44 g59 u1 u2 u3 u4;refine wm zz ?_;try exact zI
             all_goals first|rfl|(simp only[Ty.w,simprocAttr,g2,g4,g5,g8,g9,g44];done)
        ·clear g2 g4 g5 g8 g9 g44 g59;rintro S h' ⟨rfl,g2,g4,g5,g8,g9,g44,g87⟩;cases hL:Fa w with
         |true=>
          rw[hL]at g87 hX;simp only[AB]at hX;have hck:=λh=>Vu (l:=rest) hrl ihr h;generalize D6 rest=KK at hck hX;obtain⟨ks,c2⟩:=KK;simp only at hck hX;cases hc2:c2==0 with
          |false=>
           rw[hc2]at hX;simp only[AI]at hX;have e0:AO c2=Aj c2:=(by simp only[AO,hc2,AI]);rw[e0]at hck;simp only[Aj]at hck e0;replace zz:=BK g2 g4 g5 g8 g9 g44 g87 o1 o2;refine wt zz ?_;refine Gs (hck _) (by(try simp only[Ty.w,simprocAttr,g2,g4,g5,g8,g9,g44,g87,o1,o2,n1,n2,DM]);try rfl) ?_;simp only[Ty.w,simprocAttr,g2,g4,g5,g8,g9,g44,g87,o1,o2,n1,n2,DM];replace zz:=E7 g2 g4 g5 g8 g9 g44 g87 o1 o2 n1 n2;refine wt zz ?_;refine PJ.mk2 hpi c2 w ⟨#[]⟩ _ _ _ _ ?_ ?_ ?_ ?_ ?_ ?_
           ·simp only[Ty.w,simprocAttr,g2]
           ·simp only[Ty.w,simprocAttr,g8]
           ·simp only[Ty.w,simprocAttr];first|exact e0.symm|rfl
           ·exact ⟨rfl,rfl,rfl,rfl⟩
           ·exact λ_=>hX
           ·intro hh;rw[hc2]at hh;exact absurd hh (by simp)
          |true=>
           rw[hc2]at hX;simp only[AB]at hX;have e0:AO c2= .sc .nilIface:=(by simp only[AO,hc2,AB]);rw[e0]at hck;replace zz:=BK g2 g4 g5 g8 g9 g44 g87 o1 o2;refine wt zz ?_;refine Gs (hck _) (by(try simp only[Ty.w,simprocAttr,g2,g4,g5,g8,g9,g44,g87,o1,o2,n1,n2,DM]);try rfl) ?_;simp only[Ty.w,simprocAttr,g2,g4,g5,g8,g9,g44,g87,o1,o2,n1,n2,DM];replace zz:=E7 g2 g4 g5 g8 g9 g44 g87 o1 o2 n1 n2;refine wt zz ?_;refine PJ.mk2 hpi c2 w ⟨#[]⟩ _ _ _ _ ?_ ?_ ?_ ?_ ?_ ?_
           ·simp only[Ty.w,simprocAttr,g2]
           ·simp only[Ty.w,simprocAttr,g8]
           ·simp only[Ty.w,simprocAttr];first|exact e0.symm|rfl
           ·exact ⟨rfl,rfl,rfl,rfl⟩
           ·intro hh;rw[hc2]at hh;exact absurd hh (by simp)
           ·subst hX;refine λ_=>⟨rfl,λhh=>?_⟩;simp only[Fm.cells,AL];refine⟨?_,?_,?_,?_,?_,?_,trivial⟩<;>(unfold AF;first|rfl|exact .inr (.inl ⟨rfl,.inr rfl⟩)|exact .inl ⟨rfl,DO _ _⟩|exact .inl ⟨rfl,Bu _ _⟩|exact .inl ⟨rfl,EO _ _⟩)
         |false=>
          rw[hL]at g87 hX;simp only[AI]at hX;replace zz:=Ag g2 g4 g5 g8 g9 g44 g87;(repeat'(first|refine cK ?_|refine nK ?_|refine Ln 28 ?_|refine Bo zz ?_|apply zI));refine⟨?_⟩;refine DA (λS h2=>h2=h'/\S 2= .ptr h.next 0 0/\S 4=A2 w/\S 5= .imm 6 (Sx.rows rest)/\S 8= .ptr (h.next+1) 0 0/\S 9= .sc .nilIface/\S 44=A2 w/\S 98= .sc (.bool (EU w))) ?_ ?_
          ·cases u1:(w.data.toList==(#[61]:Array UInt8).toList)with
           |true=>
            have hq:EU w=true:=(by unfold EU FJ;simp[show A1 w CR=true from u1]);rw[hq];replace zz:=BO g2 g4 g5 g8 g9 g44 g87 u1;refine wm zz ?_;try exact zI
            all_goals first|rfl|(simp only[Ty.w,simprocAttr,g2,g4,g5,g8,g9,g44];done)
           |false=>
            cases u2:(w.data.toList==(#[60]:Array UInt8).toList)with
            |true=>
             have hq:EU w=true:=(by unfold EU FJ;simp[show A1 w CR=false from u1,show A1 w D0=true from u2]);rw[hq];replace zz:=BK g2 g4 g5 g8 g9 g44 g87 u1 u2;refine wm zz ?_;try exact zI
             all_goals first|rfl|(simp only[Ty.w,simprocAttr,g2,g4,g5,g8,g9,g44];done)
            |false=>
             cases u3:(w.data.toList==(#[60,61]:Array UInt8).toList)with
             |true=>
              have hq:EU w=true:=(by unfold EU FJ;simp[show A1 w CR=false from u1,show A1 w D0=false from u2,show A1 w DN=true from u3]);rw[hq];replace zz:=B7 g2 g4 g5 g8 g9 g44 g87 u1 u2 u3;refine wm zz ?_;try exact zI
              all_goals first|rfl|(simp only[Ty.w,simprocAttr,g2,g4,g5,g8,g9,g44];done)
             |false=>
              cases u4:(w.data.toList==(#[62]:Array UInt8).toList)with
              |true=>
               have hq:EU w=true:=(by unfold EU FJ;simp[show A1 w CR=false from u1,show A1 w D0=false from u2,show A1 w DN=false from u3,show A1 w Il=true from u4]);rw[hq];replace zz:=E7 g2 g4 g5 g8 g9 g44 g87 u1 u2 u3 u4;refine wm zz ?_;try exact zI
               all_goals first|rfl|(simp only[Ty.w,simprocAttr,g2,g4,g5,g8,g9,g44];done)
              |false=>
               cases u5:(w.data.toList==(#[62,61]:Array UInt8).toList)with
               |true=>
                have hq:EU w=true:=(by unfold EU FJ;simp[show A1 w CR=false from u1,show A1 w D0=false from u2,show A1 w DN=false from u3,show A1 w Il=false from u4,show A1 w JJ=true from u5]);rw[hq];replace zz:=AY g2 g4 g5 g8 g9 g44 g87 u1 u2 u3 u4 u5;refine wm zz ?_;try exact zI
                all_goals first|rfl|(simp only[Ty.w,simprocAttr,g2,g4,g5,g8,g9,g44];done)
               |false=>
                have hq:EU w=false:=(by unfold EU FJ;simp[show A1 w CR=false from u1,show A1 w D0=false from u2,show A1 w DN=false from u3,show A1 w Il=false from u4,show A1 w JJ=false from u5]);rw[hq];replace zz:=AY g2 g4 g5 g8 g9 g44 g87 u1 u2 u3 u4 u5;refine wm zz ?_;try exact zI
                all_goals first|rfl|(simp only[Ty.w,simprocAttr,g2,g4,g5,g8,g9,g44];done)
          ·clear g2 g4 g5 g8 g9 g44 g87;rintro S h' ⟨rfl,g2,g4,g5,g8,g9,g44,g98⟩;cases hC:EU w with
           |true=>
            rw[hC]at g98 hX;simp only[AB]at hX;obtain⟨x,y,rfl⟩: ∃ x y,rest=[x,y]:=by
             have h2:=W9 (.inr hC) hcnt
             match rest,h2 with
             |[p,b],_=>exact⟨p,b,rfl⟩
            simp only at hX;have hcc:=λh=>gl (w:=w) (hro x (by simp)) (hro y (by simp)) (Rs x (hro x (by simp)) (hsr x (by simp))) (Rs y (hro y (by simp)) (hsr y (by simp))) h;have hfz:=λhh=>S7 h.next hh (Hi w x y).1
            generalize Hi w x y=CC at hcc hX hfz;obtain⟨f,c⟩:=CC;simp only at hcc hfz;have r0:=Sx.rows_get (l:=[x,y]) (i:=0) rfl;have r1:=Sx.rows_get (l:=[x,y]) (i:=1) rfl;generalize Sx.rows [x,y]=R at g5 r0 r1 hlr;obtain⟨xk,xv,xl,xc,xt,xks⟩:=x;obtain⟨yk,yv,yl,yc,yt,yks⟩:=y;obtain⟨fop,fna,far,fpa,fex,fki⟩:=f;simp only[Sx.cells]at r0 r1 hcc;simp only[Fm.cells]at hcc hfz;cases hc2:c==0 with
            |false=>
             simp only[Ck,hc2,AI]at hX;have e0:AO c=Aj c:=(by simp only[AO,hc2,AI]);rw[e0]at hcc;simp only[Aj]at hcc e0;replace zz:=E7 g2 g4 g5 g8 g9 g44 g98 r0 r1 o1 o2;refine wy zz ?_
             (first|refine Mb (hcc _) (by(try simp only[Ty.w,simprocAttr,g2,g4,g5,g8,g9,g44,g98,r0,r1,o1,o2,n1,n2,DM]);try rfl) ?_|refine If (hcc _) (by(try simp only[Ty.w,simprocAttr,g2,g4,g5,g8,g9,g44,g98,r0,r1,o1,o2,n1,n2,DM]);try rfl) (by simp only[Ty.w,simprocAttr,g2,g4,g5,g8,g9,g44,g98,r0,r1,o1,o2,n1,n2,DM];try trivial) ?_);simp only[Ty.w,simprocAttr,B6,g2,g4,g5,g8,g9,g44,g98,r0,r1,o1,o2,n1,n2,DM]
             replace zz:=E7 g2 g4 g5 g8 g9 g44 g98 o1 o2 n1 n2;refine wy zz ?_;refine PJ.mk2 hpi c fop fna _ _ _ _ ?_ ?_ ?_ ?_ ?_ ?_
             ·simp only[Ty.w,simprocAttr,g2]
             ·simp only[Ty.w,simprocAttr,g8]
             ·simp only[Ty.w,simprocAttr];first|exact e0.symm|rfl
             ·exact ⟨rfl,rfl,rfl,rfl⟩
             ·exact λ_=>hX
             ·intro hh;rw[hc2]at hh;exact absurd hh (by simp)
            |true=>
             simp only[Ck,hc2,AB]at hX;have e0:AO c= .sc .nilIface:=(by simp only[AO,hc2,AB]);rw[e0]at hcc;replace zz:=E7 g2 g4 g5 g8 g9 g44 g98 r0 r1 o1 o2;refine wy zz ?_
             (first|refine Mb (hcc _) (by(try simp only[Ty.w,simprocAttr,g2,g4,g5,g8,g9,g44,g98,r0,r1,o1,o2,n1,n2,DM]);try rfl) ?_|refine If (hcc _) (by(try simp only[Ty.w,simprocAttr,g2,g4,g5,g8,g9,g44,g98,r0,r1,o1,o2,n1,n2,DM]);try rfl) (by simp only[Ty.w,simprocAttr,g2,g4,g5,g8,g9,g44,g98,r0,r1,o1,o2,n1,n2,DM];try trivial) ?_);simp only[Ty.w,simprocAttr,B6,g2,g4,g5,g8,g9,g44,g98,r0,r1,o1,o2,n1,n2,DM]
             replace zz:=E7 g2 g4 g5 g8 g9 g44 g98 o1 o2 n1 n2;refine wy zz ?_;refine PJ.mk2 hpi c fop fna _ _ _ _ ?_ ?_ ?_ ?_ ?_ ?_
             ·simp only[Ty.w,simprocAttr,g2]
             ·simp only[Ty.w,simprocAttr,g8]
             ·simp only[Ty.w,simprocAttr];first|exact e0.symm|rfl
             ·exact ⟨rfl,rfl,rfl,rfl⟩
             ·intro hh;rw[hc2]at hh;exact absurd hh (by simp)
             ·subst hX;exact λ_=>⟨by simpa using hc2,λhh=>by simpa only[Fm.cells]using hfz hh⟩
           |false=>
            rw[hC]at g98 hX;simp only[AI]at hX;have hw':w.size<=9223372036854775807:=(by unfold AJ at hw;omega);have hn:=λh:A0=>FI (h:=h) hw';cases hN1:An w with
            |false=>
             rw[hN1]at hn hX;simp only[AI]at hX;replace zz:=BK g2 g4 g5 g8 g9 g44 g98 o1 o2;refine wt zz ?_;replace zz:=Ag g2 g4 g5 g8 g9 g44 g98;refine uU zz (hn _) ?_;replace zz:=B7 g2 g4 g5 g8 g9 g44 g98 o1 o2 yF;refine wt zz ?_;exact Pw (.inr rfl) (hpi.grow.set (AD _) _) hX
            |true=>
             rw[hN1]at hn hX;simp only[AB]at hX;have ht:=λh:A0=>Rl hrl hro h;generalize CF rest=T at ht hX;obtain⟨t,c⟩:=T;simp only at ht hX;cases hc2:c==0 with
             |false=>
              rw[hc2]at hX;simp only[AI]at hX;have e0:AO c=Aj c:=(by simp only[AO,hc2,AI]);rw[e0]at ht;simp only[Aj]at ht e0;replace zz:=BK g2 g4 g5 g8 g9 g44 g98 o1 o2;refine wt zz ?_;replace zz:=Ag g2 g4 g5 g8 g9 g44 g98;refine uU zz (hn _) ?_;replace zz:=E7 g2 g4 g5 g8 g9 g44 o1 o2 n1 n2 yT;refine wt zz ?_;refine Gs (ht _) (by(try simp only[Ty.w,simprocAttr,g2,g4,g5,g8,g9,g44,o1,o2,n1,n2,DM]);try rfl) ?_;simp only[Ty.w,simprocAttr,g2,g4,g5,g8,g9,g44,o1,o2,n1,n2,DM];(repeat'(first|refine cK ?_|(refine nK ?_;try exact zI)|(refine hK _ _ ?_;clear hK;(try simp only[Ao,simprocAttr]))));(try simp only[DM]);refine PJ.mk2 hpi c ⟨#[97,116,111,109]⟩ w _ _ _ _ ?_ ?_ ?_ ?_ ?_ ?_
              ·simp only[Ty.w,simprocAttr,g2]
              ·simp only[Ty.w,simprocAttr,g8]
              ·simp only[Ty.w,simprocAttr];first|exact e0.symm|rfl
              ·exact ⟨rfl,rfl,rfl,rfl⟩
              ·exact λ_=>hX
              ·intro hh;rw[hc2]at hh;exact absurd hh (by simp)
             |true=>
              rw[hc2]at hX;simp only[AB]at hX;have e0:AO c= .sc .nilIface:=(by simp only[AO,hc2,AB]);rw[e0]at ht;replace zz:=BK g2 g4 g5 g8 g9 g44 g98 o1 o2;refine wt zz ?_;replace zz:=Ag g2 g4 g5 g8 g9 g44 g98;refine uU zz (hn _) ?_;replace zz:=E7 g2 g4 g5 g8 g9 g44 o1 o2 n1 n2 yT;refine wt zz ?_;refine Gs (ht _) (by(try simp only[Ty.w,simprocAttr,g2,g4,g5,g8,g9,g44,o1,o2,n1,n2,DM]);try rfl) ?_;simp only[Ty.w,simprocAttr,g2,g4,g5,g8,g9,g44,o1,o2,n1,n2,DM];(repeat'(first|refine cK ?_|(refine nK ?_;try exact zI)|(refine hK _ _ ?_;clear hK;(try simp only[Ao,simprocAttr]))));(try simp only[DM]);refine PJ.mk2 hpi c ⟨#[97,116,111,109]⟩ w _ _ _ _ ?_ ?_ ?_ ?_ ?_ ?_
              ·simp only[Ty.w,simprocAttr,g2]
              ·simp only[Ty.w,simprocAttr,g8]
              ·simp only[Ty.w,simprocAttr];first|exact e0.symm|rfl
              ·exact ⟨rfl,rfl,rfl,rfl⟩
              ·intro hh;rw[hc2]at hh;exact absurd hh (by simp)
              ·subst hX;refine λ_=>⟨rfl,λhh=>?_⟩;simp only[Fm.cells,AL];refine⟨?_,?_,?_,?_,?_,?_,trivial⟩<;>(unfold AF;first|rfl|exact .inr (.inl ⟨rfl,.inr rfl⟩)|exact .inl ⟨rfl,DO _ _⟩|exact .inl ⟨rfl,Bu _ _⟩|exact .inl ⟨rfl,EO _ _⟩)
     ·clear g2 g4 g5 g8 g9 hpi;rintro S h' ⟨g2,g8,hg,c,a,b,p2,p3,p4,p5,g9,o1,o2,⟨z2,z3,z4,z5⟩,hc,hd⟩;simp only[Ir]at o1;cases hcc:c==0 with
      |false=>
       have hF:=hc hcc;have e0:AO c=Aj c:=(by simp only[AO,hcc,AI]);rw[e0]at g9;simp only[Aj]at g9;subst hF;rw[e0];simp only[Aj];replace zz:=As g2 g8 g9 o1 o2;refine wt zz ?_;refine⟨?_,hg.set (AD _) _⟩;simp only[Ce,Fm.cells,Ex.rows,Fm.rows,A7,AN,B5,AF,AL];exact⟨_,rfl,⟨_,rfl,rfl,rfl,.inr (.inl ⟨rfl,.inr rfl⟩),.inr (.inl ⟨rfl,.inr rfl⟩),.inr (.inl ⟨rfl,.inr rfl⟩),.inr (.inl ⟨rfl,.inr rfl⟩),trivial⟩,rfl,trivial⟩
      |true=>
       have hF:=hd hcc;have e0:AO c= .sc .nilIface:=(by simp only[AO,hcc,AB]);rw[e0]at g9;have e2:AO F.2= .sc .nilIface:=(by rw[hF.1];try rfl);rw[e2];replace zz:=BK g2 g8 g9 o1 o2 z2 z3 z4 z5;refine wt zz ?_;refine⟨?_,hg.set (AD _) _⟩;have h1:=hF.2 (h'.set h.next (.arr 6 [[A2 a,A2 b,p2,p3,p4,p5]]));unfold AF;refine⟨_,rfl,?_⟩;unfold AL;refine⟨?_,by unfold AL;exact⟨by simp only[AF],by simp only[AL]⟩⟩;unfold AF;exact⟨_,rfl,h1⟩
theorem WA: ∀ l m:List Sx,Sx.nodess (l++m)=Sx.nodess l+Sx.nodess m
 |[],m=>by simp[Sx.nodess]
 |k::l,m=>by simp only[C3,Sx.nodess,WA l m];omega
theorem Px(l:List Sx):(AK l).nodes=Sx.nodess l+1:=by simp only[AK,Sx.nodes]
theorem iF(s:ByteArray):(AA s).nodes=1:=by simp[AA,Sx.nodes,Sx.nodess]
theorem WB: ∀ (e:Ex),Ey e=true-> ∀ (d n:Nat),d+(BE e).depth<=32->n+(BE e).nodes<=4096->(E9 e d n).1=true/\(E9 e d n).2<=n+(BE e).nodes:=by
 refine Ex.ind ?_;intro op name v args kids ih hs d n hd hn;unfold Ey at hs;unfold BE at hd hn⊢;unfold E9;cases c1:A1 op Ij with
 |true=>
  rw[c1]at hs hd hn;simp only[AH]at hs hd hn⊢;simp only[Sx.nodes,Sx.nodess]at hn⊢;rw[AG ⟨by omega,by omega⟩];exact⟨hs,by simp only;omega⟩
 |false=>
  rw[c1]at hs hd hn;simp only[BG,AP]at hs hd hn⊢;cases c2:A1 op Ik with
  |true=>
   rw[c2]at hs hd hn;simp only[AH]at hs hd hn⊢;simp only[Cn,AK,Sx.nodes]at hn⊢;rw[AG ⟨by omega,by omega⟩];exact⟨hs,by simp only;omega⟩
  |false=>
   rw[c2]at hs hd hn;simp only[BG,AP]at hs hd hn⊢;split at hs
   case isFalse=>simp at hs
   rename_i hop;rw[AG hop];rw[AR]at hs;obtain⟨h1,h2⟩:=hs;rw[h1];simp only[AH];split at h2
   case h_2=>simp at h2
   rename_i a b;simp only[AR]at h2;simp only[AK,Sx.depth,Sx.depths,Sx.nodes,Sx.nodess,AA,AH]at hd hn⊢;have k1:¬ ((1:Int)=3):=(by omega);rw[A4 k1]at hd;rw[AG ⟨by omega,by omega⟩];obtain⟨f1,f2⟩:=ih a (by simp) h2.1 (d+1) (n+1) (by omega) (by omega);cases hw:E9 a (d+1) (n+1)with
   |mk x c=>
    rw[hw]at f1 f2;simp only at f1 f2;subst f1;simp only;obtain⟨g1,g2⟩:=ih b (by simp) h2.2 (d+1) c (by omega) (by omega);exact⟨g1,by omega⟩
theorem iG{e:Ex}(hn:(BE e).nodes<=AJ):EL e=(Ey e&&Mk (BE e)):=by
 unfold EL;rw[Ml hn];cases hs:Ey e with
 |false=>
  have:(E9 e 0 0).1=false:=by
   cases h:(E9 e 0 0).1 with
   |false=>rfl
   |true=>rw[O5 e 0 0 h]at hs;simp at hs
  simp only[this,B9]
 |true=>
  cases hv:Mk (BE e)with
  |false=>simp
  |true=>
   have h1:=(JK (BE e) 0 0 (by omega) (by omega)).1.1 (by rw[Ml hn];exact hv);rw[(WB e hs 0 0 h1.2.1 h1.2.2).1]
section
variable {name:ByteArray}{args:List ByteArray}{params:List Pm}{exprs:List Ex}{kids p q:List Fm}{s:Bool}
end
theorem iH{C:Fm->Prop}(f:Fm)(hf:D1 f=true)
  (h1: ∀ name args,An name=true->args.all C8=true->C (.mk Bk name args [] [] []))
  (h2: ∀ args,args.length=2->args.all C8=true->C (.mk C9 ⟨#[]⟩ args [] [] []))
  (h3: ∀ op a b,(op=D0\/op=DN\/op=CR)->Ey a=true->Ey b=true->C (.mk op ⟨#[]⟩ [] [] [a,b] []))
  (h4: ∀ op kids,(op=Bc\/op=GF)->(∀ k∈kids,D1 k=true)->C (.mk op ⟨#[]⟩ [] [] [] kids))
  (h5: ∀ k,D1 k=true->C (.mk DD ⟨#[]⟩ [] [] [] [k]))
  (h6: ∀ a b,D1 a=true->D1 b=true->C (.mk G6 ⟨#[]⟩ [] [] [] [a,b]))
  (h7: ∀ op params k,(op=DH\/op=HK)->params.all Hg=true->D1 k=true->C (.mk op ⟨#[]⟩ [] params [] [k])):C f:=by
 obtain⟨op,name,args,params,exprs,kids⟩:=f;simp only[D1,AR,Bq]at hf;obtain⟨⟨hp,he⟩,hk⟩:=hf;rw[Mh]at hk;rcases VO hp with⟨rfl,a1,a2,rfl,a3,a4⟩|⟨rfl,rfl,a1,a2,rfl,a3,a4⟩|⟨a1,rfl,rfl,rfl,a3,a4⟩|⟨a1,rfl,rfl,rfl,a3⟩|⟨a1,rfl,rfl,a3,a4,a5⟩
 ·obtain rfl:=GT a3;obtain rfl:=GT a4;exact h1 _ _ a1 a2
 ·obtain rfl:=GT a3;obtain rfl:=GT a4;exact h2 _ a1 a2
 ·obtain rfl:=GT a4
  match exprs,a3,he with
  |[a,b],_,he=>exact h3 _ _ _ a1 (he a (by simp)) (he b (by simp))
 ·obtain rfl:=GT a3;rcases a1 with rfl|rfl|⟨rfl,a4⟩|⟨rfl,a4⟩
  ·exact h4 _ _ (.inl rfl) hk
  ·exact h4 _ _ (.inr rfl) hk
  ·match kids,a4,hk with
   |[k],_,hk=>exact h5 _ (hk k (by simp))
  ·match kids,a4,hk with
   |[a,b],_,hk=>exact h6 _ _ (hk a (by simp)) (hk b (by simp))
 ·obtain rfl:=GT a3
  match kids,a4,hk with
  |[k],_,hk=>exact h7 _ _ _ a1 a5 (hk k (by simp))
end Go.Proofs.YtblgchkahpgdjaaGreat
namespace Go.AM
theorem AC.bump{h h':A0}(g:AC h h')(k:Nat):AC h ⟨h'.next+k,h'.obj⟩:=⟨Nat.le_add_right_of_le g.1,g.2⟩
end Go.AM
namespace Go.Proofs.YtblgchkahpgdjaaGreat
open Go.AM Go.Proofs.Tryz
set_option maxHeartbeats 4000000
set_option maxRecDepth 20000
end Go.Proofs.YtblgchkahpgdjaaGreat
