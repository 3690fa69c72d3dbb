/- What the claim rests on, part 16: the abstract machine, contracts of the functions, plain data. -/
import Derived.Test.YtblgchkahpgdjaaGreatZs14
import Derived.Test.YtblgchkahpgdjaaGreatZs15
set_option linter.unusedVariables false
set_option linter.unusedSimpArgs false
set_option linter.unusedSectionVars false
namespace Go.Proofs.YtblgchkahpgdjaaGreat
open Go.AM Go.Proofs.Tryz
set_option maxHeartbeats 4000000
set_option maxRecDepth 20000
def Ga(t:Fm->Bool)(ff:Fm->Sx)(fe:List Ch->Sx)(a:Ac):List Sx:=BQ (BQ (BQ (BQ [A7 a.name] ((a.params.length:Int)==0) Cj (AE (AZ a.params))) (a.cost==1) G6 (DO a.cost)) (t a.pre) GY (ff a.pre)) ((a.changes.length:Int)==0) FH (fe a.changes)
def FY(t:Fm->Bool)(ff:Fm->Sx)(fe:List Ch->Sx)(a:Du):List Sx:=BQ (BQ (BQ (BQ (BQ (BQ (BQ [A7 a.name] ((a.params.length:Int)==0) Cj (AE (AZ a.params))) (a.Dp==1) Eo (DO a.Dp)) (t a.start) F5 (ff a.start)) (t a.over) FI (ff a.over)) (t a.stop) FW (ff a.stop)) ((a.Bp.length:Int)==0) Fk (fe a.Bp)) ((a.Bq.length:Int)==0) Gk (fe a.Bq)
def I0(fa:Ac->Sx)(fd:Du->Sx)(d:Dm):List Sx:=CJ (CJ (CJ (CJ [AE [A7 Cv,A7 d.name]] Dl (AZ d.types)) Dw (AZ d.constants)) E1 (d.B5.map Cr)) E2 (d.Ay.map Cw)++d.At.map fa++d.duratives.map fd
def MD(a:Ac):Sx:=AE (A7 D0::Ga IX Ap IY a)
def ME(a:Du):Sx:=AE (A7 EN::FY IX Ap IY a)
def NC(d:Dm):Sx:=AE (A7 Dk::I0 MD ME d)
theorem XW(x:Sx)(L:List Sx)(m:Bool)(kw:ByteArray)(v:Sx):BQ (x::L) m kw v=x::BQ L m kw v:=by unfold BQ;cases m<;>rfl
theorem G7{x:Sx}{L:List Sx}{m:Bool}{kw:ByteArray}{v:Sx}(h:x∈L):x∈BQ L m kw v:=by
 unfold BQ;cases m with
 |true=>exact h
 |false=>exact List.mem_append_left _ h
theorem Ia{L:List Sx}{m:Bool}{kw:ByteArray}{v:Sx}(h:m=false):v∈BQ L m kw v:=by subst h;simp[BQ]
theorem JB{x:Sx}{L:List Sx}{m:Bool}{kw:ByteArray}{v:Sx}(h:x∈BQ L m kw v):x∈L\/x=A7 kw\/x=v:=by
 unfold BQ at h;cases m with
 |true=>exact .inl h
 |false=>
  simp only[AL,List.mem_append,List.mem_cons,List.not_mem_nil,ET]at h;exact h
theorem mB(x:Sx)(L:List Sx)(kw:ByteArray)(ks:List Sx):CJ (x::L) kw ks=x::CJ L kw ks:=by unfold CJ;cases ks.isEmpty<;>rfl
theorem mC{k:Sx}{L:List Sx}{kw:ByteArray}{ks:List Sx}(h:k∈ks):AE (A7 kw::ks)∈CJ L kw ks:=by
 cases ks with
 |nil=>cases h
 |cons a l=>simp[CJ]
theorem QM{x:Sx}{L:List Sx}{kw:ByteArray}{ks:List Sx}(h:x∈CJ L kw ks):x∈L\/x=AE (A7 kw::ks):=by
 unfold CJ at h;cases hk:ks.isEmpty with
 |true=>rw[hk]at h;exact .inl h
 |false=>
  rw[hk]at h;simp only[AL,List.mem_append,List.mem_cons,List.not_mem_nil,ET]at h;exact h
theorem QN(a:Ac):EM a=AE (A7 D0::Ga C3 Bb CS a):=by
 unfold EM Wx Ga;simp only[XW]
theorem QO(a:Du):EO a=AE (A7 EN::FY C3 Bb CS a):=by
 unfold EO Wy FY;simp only[XW]
theorem XX(d:Dm):Ee d=AE (A7 Dk::I0 EM EO d):=by
 unfold Ee J9 I0;simp only[mB,List.cons_append]
theorem mD{a:Ac}(h:Fj a=true):EM a=MD a:=by
 unfold Fj at h;simp only[AV]at h;obtain⟨⟨⟨⟨_,_⟩,_⟩,f⟩,c⟩:=h;rw[QN];unfold MD Ga;rw[MA (J5 f),(KH c).2,show Bb a.pre=Ap a.pre from by unfold Bb;rw[f];try rfl]
theorem mE{a:Du}(h:FJ a=true):EO a=ME a:=by
 unfold FJ at h;simp only[AV]at h;obtain⟨⟨⟨⟨⟨⟨_,_⟩,f1⟩,f2⟩,f3⟩,c1⟩,c2⟩:=h;rw[QO];unfold ME FY;rw[MA (J5 f1),MA (J5 f2),MA (J5 f3),(KH c1).2,(KH c2).2,show Bb a.start=Ap a.start from by unfold Bb;rw[f1];try rfl,show Bb a.over=Ap a.over from by unfold Bb;rw[f2];try rfl,show Bb a.stop=Ap a.stop from by unfold Bb;rw[f3];try rfl]
theorem XY{d:Dm}(h:GI d=true):Ee d=NC d:=by
 unfold GI at h;simp only[AV]at h;obtain⟨⟨_,ha⟩,hd⟩:=h;rw[List.all_eq_true]at ha hd;rw[XX];unfold NC I0;rw[List.map_congr_left λa h=>mD (ha a h),List.map_congr_left λa h=>mE (hd a h)]
theorem Jf(v:Bool):BN v=IN v:=by
 funext p;cases v<;>simp only[BN,IN,Gj,AC,AL,AO,BR,AQ,Ym]
theorem Ss{n:Int}(h:VS (DO n)):KE n=true:=by
 have:=h.1;simp only[DO,IL]at this;simp only[KE];simp at this⊢;omega
theorem XZ{n:Int}(hv:(n==1)=false->VS (DO n)):KE n=true:=by
 cases q:n==1 with
 |true=>
  simp only[Eg]at q;subst q;decide
 |false=>exact Ss (hv q)
theorem mF:VS (Ap Bw):=by
 have:Ap Bw=AE []:=by simp[Ap,O3,Bw,Bo,Bx,CI,DG,Db,Ca,DV,HM,FQ,E8,A3]
 rw[this];refine⟨by decide,by decide,by decide⟩
theorem QP{f:Fm}(hs:DH f=true)(hv:IX f=false->VS (Ap f)):Bh f=true:=by
 cases q:IX f with
 |true=>
  rw[MA hs]at q;have e:=LK q;subst e;exact Sq hs mF
 |false=>exact Sq hs (hv q)
theorem Su{l:List Ch}(hR:l.all Jc=true)(hv:((l.length:Int)==0)=false->VS (IY l)):l.all CA=true:=by
 cases l with
 |nil=>rfl
 |cons c l=>exact XQ (by unfold LH;rw[hR,Je.2 (hv (by simp only[List.length_cons,NJ,ne_eq];omega))];rfl)
theorem mG{a:Ac}(h:N7 a=true)(hv:VS (MD a)):Fj a=true:=by
 unfold N7 at h;simp only[AV]at h;obtain⟨n,p,c,s,f,ch⟩:=h;have hk: ∀ x∈Ga IX Ap IY a,VS x:=λx hx=>Gl hv (List.mem_cons_of_mem _ hx);have f2:=QP f (λq=>hk _ (by unfold Ga;exact G7 (Ia q)));have e2:=Su ch (λq=>hk _ (by unfold Ga;exact Ia q));unfold Fj;rw[n,f2,e2,Jf,p,c];try rfl
theorem mH{a:Du}(h:N8 a=true)(hv:VS (ME a)):FJ a=true:=by
 unfold N8 at h;simp only[AV]at h;obtain⟨n,p,s,c1,c2,f1,f2,f3⟩:=h;have hk: ∀ x∈FY IX Ap IY a,VS x:=λx hx=>Gl hv (List.mem_cons_of_mem _ hx);have g1:=QP f1 (λq=>hk _ (by unfold FY;exact G7 (G7 (G7 (G7 (Ia q))))));have g2:=QP f2 (λq=>hk _ (by unfold FY;exact G7 (G7 (G7 (Ia q)))));have g3:=QP f3 (λq=>hk _ (by unfold FY;exact G7 (G7 (Ia q))));have e1:=Su c1 (λq=>hk _ (by unfold FY;exact G7 (Ia q)));have e2:=Su c2 (λq=>hk _ (by unfold FY;exact Ia q));unfold FJ;rw[n,g1,g2,g3,e1,e2,Jf,p];try rfl
theorem mI{a:Ac}(h:Fj a=true)(hv:VS (MD a)):N7 a=true:=by
 unfold Fj at h;simp only[AV]at h;obtain⟨⟨⟨⟨n,c⟩,p⟩,f⟩,ch⟩:=h;have hk: ∀ x∈Ga IX Ap IY a,VS x:=λx hx=>Gl hv (List.mem_cons_of_mem _ hx);have hs:=XZ (n:=a.cost) (λq=>hk _ (by unfold Ga;exact G7 (G7 (Ia q))));unfold N7;rw[n,J5 f,(KH ch).1, ← Jf,p,c,hs];try rfl
theorem mJ{a:Du}(h:FJ a=true)(hv:VS (ME a)):N8 a=true:=by
 unfold FJ at h;simp only[AV]at h;obtain⟨⟨⟨⟨⟨⟨n,p⟩,f1⟩,f2⟩,f3⟩,c1⟩,c2⟩:=h;have hk: ∀ x∈FY IX Ap IY a,VS x:=λx hx=>Gl hv (List.mem_cons_of_mem _ hx);have hs:=XZ (n:=a.Dp) (λq=>hk _ (by unfold FY;exact G7 (G7 (G7 (G7 (G7 (Ia q)))))));unfold N8;rw[n,J5 f1,J5 f2,J5 f3,(KH c1).1,(KH c2).1, ← Jf,p,hs];try rfl
theorem Xa:Hz=Sh:=by
 funext p;simp only[Hz,Sh,Jf]
theorem Sv{d:Dm}(hv:VS (NC d)):(∀ a∈d.At,VS (MD a))/\(∀ a∈d.duratives,VS (ME a))/\ ∀ f∈d.Ay,VS (Cw f):=by
 have hk: ∀ x∈I0 MD ME d,VS x:=λx hx=>Gl hv (List.mem_cons_of_mem _ hx);refine⟨λa ha=>hk _ ?_,λa ha=>hk _ ?_,λf hf=>?_⟩
 ·unfold I0;exact List.mem_append_left _ (List.mem_append_right _ (List.mem_map_of_mem ha))
 ·unfold I0;exact List.mem_append_right _ (List.mem_map_of_mem ha)
 ·have:VS (AE (A7 E2::d.Ay.map Cw)):=hk _ (by unfold I0;exact List.mem_append_left _ (List.mem_append_left _ (mC (List.mem_map_of_mem hf))));exact Gl this (List.mem_cons_of_mem _ (List.mem_map_of_mem hf))
theorem mK{d:Dm}(h:OO d=true)(hv:VS (NC d)):GI d=true:=by
 unfold OO at h;simp only[AV]at h;obtain⟨n,t,c,p,f,a,u⟩:=h;obtain⟨va,vu,_⟩:=Sv hv;have a2:d.At.all Fj=true:=by
  rw[List.all_eq_true]at a⊢;exact λx hx=>mG (a x hx) (va x hx)
 have u2:d.duratives.all FJ=true:=by
  rw[List.all_eq_true]at u⊢;exact λx hx=>mH (u x hx) (vu x hx)
 have f2:d.Ay.all HT=true:=by
  rw[List.all_eq_true]at f⊢;intro x hx;have:=f x hx;unfold QH at this;simp only[AV]at this;unfold HT;rw[this.1,Jf,this.2.1];try rfl
 unfold GI;rw[n,Jf,t,c,Xa,p,f2,a2,u2];try rfl
theorem mL{d:Dm}(h:GI d=true)(hv:VS (NC d)):OO d=true:=by
 unfold GI at h;simp only[AV]at h;obtain⟨⟨⟨⟨⟨⟨n,t⟩,c⟩,p⟩,f⟩,a⟩,u⟩:=h;obtain⟨va,vu,vf⟩:=Sv hv;have a2:d.At.all N7=true:=by
  rw[List.all_eq_true]at a⊢;exact λx hx=>mI (a x hx) (va x hx)
 have u2:d.duratives.all N8=true:=by
  rw[List.all_eq_true]at u⊢;exact λx hx=>mJ (u x hx) (vu x hx)
 have f2:d.Ay.all QH=true:=by
  rw[List.all_eq_true]at f⊢;intro x hx;have:=f x hx;unfold HT at this;simp only[AV]at this;have w:=vf x hx;have w1:KE x.lo=true:=Ss (Gl w (by simp));have w2:KE x.hi=true:=Ss (Gl w (by simp));unfold QH;rw[this.1, ← Jf,this.2,w1,w2];try rfl
 unfold OO;rw[n, ← Jf,t,c, ← Xa,p,f2,a2,u2];try rfl
def H6(d:Dm):Bool:=GI d&&(CM (Ee d) 0 0).1
def LL(d:Dm):Bool:=OO d&&(CM (NC d) 0 0).1
theorem Xb{d:Dm}(h:LL d=true):GI d=true:=by
 unfold LL at h;simp only[AV]at h;exact mK h.1 (Je.1 h.2)
theorem mM(d:Dm):H6 d=LL d:=by
 cases hr:LL d with
 |true=>
  have hb:=Xb hr;unfold LL at hr;simp only[AV]at hr;unfold H6;rw[hb,XY hb,hr.2];try rfl
 |false=>
  cases he:H6 d with
  |false=>rfl
  |true=>
   unfold H6 at he;simp only[AV]at he;have hx:=XY he.1;rw[hx]at he;unfold LL at hr;rw[mL he.1 (Je.1 he.2),he.2]at hr;exact hr
theorem OY{α:Type}(f:α->List PV)(hf: ∀ a,1<=PV.bulkL (f a)): ∀ l:List α,l.length<=PV.D2 (l.map f)
 |[]=>BY _
 |a::l=>by
  have:=OY f hf l;have:=hf a;simp only[List.map_cons,PV.D2,List.length_cons];omega
theorem OZ{α:Type}(f:α->List PV){a:α}: ∀ {l:List α},a∈l->PV.bulkL (f a)<=PV.D2 (l.map f)
 |b::l,h=>by
  simp only[List.map_cons,PV.D2];rcases List.mem_cons.1 h with rfl|h
  ·omega
  ·have:=OZ f h;omega
theorem Xc(p:Pr):PV.D2 (A9 p.params)+2<=PV.bulkL (Dr p):=by
 obtain⟨n,l⟩:=p;simp only[Dr,PV.bulkL,PV.bulk,A4];omega
theorem Xd(p:Fu):PV.D2 (A9 p.params)+4<=PV.bulkL (Ds p):=by
 obtain⟨n,l,a,b⟩:=p;simp only[Ds,PV.bulkL,PV.bulk,A4];omega
theorem Xe(a:Ac):PV.D2 (A9 a.params)+PV.bulkL a.pre.cells+PV.D2 (Ae a.changes)+4<=PV.bulkL (DE a):=by
 obtain⟨n,p,c,f,l⟩:=a;simp only[DE,List.cons_append,List.nil_append,PV.Ox,PV.bulkL,PV.bulk,A4];omega
theorem Xf(a:Du):PV.D2 (A9 a.params)+PV.bulkL a.start.cells+PV.bulkL a.over.cells+PV.bulkL a.stop.cells+PV.D2 (Ae a.Bp)+PV.D2 (Ae a.Bq)+5<=PV.bulkL (DF a):=by
 obtain⟨n,p,c,f,g,k,l,m⟩:=a;simp only[DF,List.cons_append,List.nil_append,PV.Ox,PV.bulkL,PV.bulk,A4];omega
theorem mN(d:Dm):PV.D2 (A9 d.types)+PV.D2 (A9 d.constants)+PV.D2 (Ba d.B5)+PV.D2 (BX d.Ay)+PV.D2 (BP d.At)+PV.D2 (BU d.duratives)+7<=PV.bulkL d.cells:=by
 obtain⟨n,t,c,p,f,a,u⟩:=d;simp only[Dm.cells,PV.bulkL,PV.bulk,A4];omega
theorem Sw{l:List Ch}(h:PV.D2 (Ae l)<=1048576):l.length<=1048576/\ ∀ c∈l,FV c:=
 ⟨ES (XS l) h,λ_ hc=>mA (ES (XT hc) h)⟩
theorem mO{a:Ac}(h:PV.bulkL (DE a)<=1048576):OP a:=by
 have:=Xe a;have p1:=KD a.params;have hc:=Sw (l:=a.changes) (by omega);exact⟨by omega,Fm.KY _ (by omega),hc.1,hc.2⟩
theorem mP{a:Du}(h:PV.bulkL (DF a)<=1048576):OQ a:=by
 have:=Xf a;have p1:=KD a.params;exact⟨by omega,Fm.KY _ (by omega),Fm.KY _ (by omega),Fm.KY _ (by omega),Sw (by omega),Sw (by omega)⟩
theorem mQ{d:Dm}(hb:PV.bulkL d.cells<=1048576):OX d:=by
 have:=mN d;have p1:=KD d.types;have p2:=KD d.constants;have l1:=OY Dr (λa=>by have:=Xc a;omega) d.B5;have l2:=OY Ds (λa=>by have:=Xd a;omega) d.Ay;have l3:=OY DE (λa=>by have:=Xe a;omega) d.At;have l4:=OY DF (λa=>by have:=Xf a;omega) d.duratives;have e1:d.B5.map Dr=Ba d.B5:=rfl;have e2:d.Ay.map Ds=BX d.Ay:=rfl;have e3:d.At.map DE=BP d.At:=rfl;have e4:d.duratives.map DF=BU d.duratives:=rfl;rw[e1]at l1;rw[e2]at l2;rw[e3]at l3;rw[e4]at l4;refine⟨by omega,by omega,⟨by omega,λp hp=>?_⟩,⟨by omega,λp hp=>?_⟩,⟨by omega,λa ha=>mO ?_⟩,⟨by omega,λa ha=>mP ?_⟩⟩
 ·have hm:=OZ Dr hp;rw[e1]at hm;have:=Xc p;have:=KD p.params;omega
 ·have hm:=OZ Ds hp;rw[e2]at hm;have:=Xd p;have:=KD p.params;omega
 ·have hm:=OZ DE ha;rw[e3]at hm;omega
 ·have hm:=OZ DF ha;rw[e4]at hm;omega
theorem mR{t:Fm->Bool}{ff:Fm->Sx}{fe:List Ch->Sx}{a:Ac}{x:Sx}(h:x∈Ga t ff fe a):(∃ w,x=A7 w/\(w=a.name\/w.size<=20))\/x=AE (AZ a.params)\/x=DO a.cost\/x=ff a.pre\/x=fe a.changes:=by
 unfold Ga at h;rcases JB h with h|rfl|rfl;rcases JB h with h|rfl|rfl;rcases JB h with h|rfl|rfl;rcases JB h with h|rfl|rfl
 ·simp only[List.mem_cons,List.not_mem_nil,ET]at h;exact .inl ⟨_,h,.inl rfl⟩
 all_goals first
  |exact .inl ⟨_,rfl,.inr (by decide)⟩
  |simp
theorem mS{t:Fm->Bool}{ff:Fm->Sx}{fe:List Ch->Sx}{a:Du}{x:Sx}(h:x∈FY t ff fe a):(∃ w,x=A7 w/\(w=a.name\/w.size<=20))\/x=AE (AZ a.params)\/x=DO a.Dp\/x=ff a.start\/x=ff a.over\/x=ff a.stop\/x=fe a.Bp\/x=fe a.Bq:=by
 unfold FY at h;rcases JB h with h|rfl|rfl;rcases JB h with h|rfl|rfl;rcases JB h with h|rfl|rfl;rcases JB h with h|rfl|rfl;rcases JB h with h|rfl|rfl;rcases JB h with h|rfl|rfl;rcases JB h with h|rfl|rfl
 ·simp only[List.mem_cons,List.not_mem_nil,ET]at h;exact .inl ⟨_,h,.inl rfl⟩
 all_goals first
  |exact .inl ⟨_,rfl,.inr (by decide)⟩
  |simp
theorem JC{L:List Sx}{m:Bool}{kw:ByteArray}{v:Sx}{n:Nat}(h:L.length<=n):(BQ L m kw v).length<=n+2:=by have:=IZ L m kw v;omega
theorem QQ{L ks:List Sx}{kw:ByteArray}{n:Nat}(h:L.length<=n):(CJ L kw ks).length<=n+1:=by have:=OW L kw ks;omega
theorem QR{n:Int}(h: -9223372036854775808<=n/\n<=9223372036854775807):(DO n).ok:=⟨⟨by decide,by decide⟩,h,by decide,by simp,trivial⟩
theorem Xg{l:List Pm}(hl:l.length<=1048576)(h: ∀ p∈l,p.ok):(AE (AZ l)).ok:=GE (by rw[Gy];unfold AI;omega) (L9 _ h)
theorem QS{l:List Sx}(hl:l.length<=AI)(h: ∀ x∈l,x.ok):(AE l).ok:=GE hl (Sx.Bz.2 h)
theorem mT{t:Fm->Bool}{ff:Fm->Sx}{fe:List Ch->Sx}{a:Ac}(ha:a.ok)(hs:OP a)(hf:(ff a.pre).ok)(he:(fe a.changes).ok):(AE (A7 D0::Ga t ff fe a)).ok:=by
 have hl:(Ga t ff fe a).length<=1+2+2+2+2:=by unfold Ga;exact JC (JC (JC (JC (AG _))))
 refine QS (by simp only[List.length_cons,AI];omega) ?_;intro x hx;rcases List.mem_cons.1 hx with rfl|hx
 ·exact D5 (by decide)
 rcases mR hx with⟨w,rfl,rfl|hw⟩|rfl|rfl|rfl|rfl
 ·exact D5 ha.name
 ·exact D5 (by unfold AI;omega)
 ·exact Xg hs.params ha.params.2
 ·exact QR ha.cost
 ·exact hf
 ·exact he
theorem mU{t:Fm->Bool}{ff:Fm->Sx}{fe:List Ch->Sx}{a:Du}(ha:a.ok)(hs:OQ a)(h1:(ff a.start).ok)(h2:(ff a.over).ok)(h3:(ff a.stop).ok)(h4:(fe a.Bp).ok)(h5:(fe a.Bq).ok):(AE (A7 EN::FY t ff fe a)).ok:=by
 have hl:(FY t ff fe a).length<=1+2+2+2+2+2+2+2:=by unfold FY;exact JC (JC (JC (JC (JC (JC (JC (AG _)))))))
 refine QS (by simp only[List.length_cons,AI];omega) ?_;intro x hx;rcases List.mem_cons.1 hx with rfl|hx
 ·exact D5 (by decide)
 rcases mS hx with⟨w,rfl,rfl|hw⟩|rfl|rfl|rfl|rfl|rfl|rfl|rfl
 ·exact D5 ha.name
 ·exact D5 (by unfold AI;omega)
 ·exact Xg hs.params ha.params.2
 ·exact QR ha.Dp
 ·exact h1
 ·exact h2
 ·exact h3
 ·exact h4
 ·exact h5
theorem mV{fa:Ac->Sx}{fd:Du->Sx}{d:Dm}{x:Sx}(h:x∈I0 fa fd d):x=AE [A7 Cv,A7 d.name]\/(∃ w,w.size<=20/\(x=AE (A7 w::AZ d.types)\/x=AE (A7 w::AZ d.constants)\/x=AE (A7 w::d.B5.map Cr)\/x=AE (A7 w::d.Ay.map Cw)))\/(∃ a∈d.At,x=fa a)\/ ∃ a∈d.duratives,x=fd a:=by
 unfold I0 at h;rcases List.mem_append.1 h with h|h
 ·rcases List.mem_append.1 h with h|h
  ·rcases QM h with h|rfl
   ·rcases QM h with h|rfl
    ·rcases QM h with h|rfl
     ·rcases QM h with h|rfl
      ·simp only[List.mem_cons,List.not_mem_nil,ET]at h;exact .inl h
      ·exact .inr (.inl ⟨_,by decide,.inl rfl⟩)
     ·exact .inr (.inl ⟨_,by decide,.inr (.inl rfl)⟩)
    ·exact .inr (.inl ⟨_,by decide,.inr (.inr (.inl rfl))⟩)
   ·exact .inr (.inl ⟨_,by decide,.inr (.inr (.inr rfl))⟩)
  ·rw [List.mem_map]at h;obtain⟨a,ha,rfl⟩:=h;exact .inr (.inr (.inl ⟨a,ha,rfl⟩))
 ·rw [List.mem_map]at h;obtain⟨a,ha,rfl⟩:=h;exact .inr (.inr (.inr ⟨a,ha,rfl⟩))
theorem mW{p:Pr}(h:p.ok)(hl:p.params.length<=1048576):(Cr p).ok:=GE (by simp only[List.length_cons,Gy,AI];omega) ⟨D5 h.name,L9 _ h.params.2⟩
theorem mX{p:Fu}(h:p.ok)(hl:p.params.length<=1048576):(Cw p).ok:=by
 refine QS (by simp only[List.length_cons,List.length_append,Gy,List.length_nil,AI];omega) ?_;intro x hx;simp only[List.cons_append,List.mem_cons,List.mem_append,List.not_mem_nil,ET]at hx;rcases hx with rfl|hx|rfl|rfl
 ·exact D5 h.name
 ·exact Sx.Bz.1 (L9 _ h.params.2) x hx
 ·exact QR h.lo
 ·exact QR h.hi
theorem mY{fa:Ac->Sx}{fd:Du->Sx}{d:Dm}(hd:d.ok)(hs:OX d)(ha: ∀ a∈d.At,(fa a).ok)(hu: ∀ a∈d.duratives,(fd a).ok):(AE (A7 Dk::I0 fa fd d)).ok:=by
 have hl:(I0 fa fd d).length<=1+1+1+1+1+d.At.length+d.duratives.length:=by
  unfold I0;rw[List.length_append,List.length_append,List.length_map,List.length_map];have:(CJ (CJ (CJ (CJ [AE [A7 Cv,A7 d.name]] Dl (AZ d.types)) Dw (AZ d.constants)) E1 (d.B5.map Cr)) E2 (d.Ay.map Cw)).length<=1+1+1+1+1:=QQ (QQ (QQ (QQ (AG _))));omega
 have l1:=hs.Kd.1;have l2:=hs.LU.1;have l3:=hs.Ka.1;have l4:=hs.Kb.1;have l5:=hs.types;have l6:=hs.consts;refine QS (by simp only[List.length_cons,AI];omega) ?_;intro x hx;rcases List.mem_cons.1 hx with rfl|hx
 ·exact D5 (by decide)
 rcases mV hx with rfl|⟨w,hw,rfl|rfl|rfl|rfl⟩|⟨a,h,rfl⟩|⟨a,h,rfl⟩
 ·exact XF (D5 (by decide)) (D5 hd.name)
 ·exact GE (by simp only[List.length_cons,Gy,AI];omega) ⟨D5 (by unfold AI;omega),L9 _ hd.types.2⟩
 ·exact GE (by simp only[List.length_cons,Gy,AI];omega) ⟨D5 (by unfold AI;omega),L9 _ hd.constants.2⟩
 ·refine GE (by simp only[List.length_cons,List.length_map,AI];omega) ⟨D5 (by unfold AI;omega),Sx.Bz.2 ?_⟩;intro y hy;rw[List.mem_map]at hy;obtain⟨p,hp,rfl⟩:=hy;exact mW (hd.B5.2 p hp) (hs.Ka.2 p hp)
 ·refine GE (by simp only[List.length_cons,List.length_map,AI];omega) ⟨D5 (by unfold AI;omega),Sx.Bz.2 ?_⟩;intro y hy;rw[List.mem_map]at hy;obtain⟨p,hp,rfl⟩:=hy;exact mX (hd.Ay.2 p hp) (hs.Kb.2 p hp)
 ·exact ha a h
 ·exact hu a h
theorem Sy{l:List Ch}(h1:Chs.ok l)(h2: ∀ c∈l,FV c): ∀ c∈l,c.ok/\FV c:=λc hc=>⟨h1.2 c hc,h2 c hc⟩
theorem Xh{d:Dm}(hd:d.ok)(hs:OX d):(Ee d).ok:=by
 rw[XX];refine mY hd hs (λa ha=>?_) (λa ha=>?_)
 ·have h1:=hd.At.2 a ha;have h2:=hs.Kd.2 a ha;rw[QN];exact mT h1 h2 (OV h1.pre h2.pre) (QK h2.Z4 (Sy h1.changes h2.ch))
 ·have h1:=hd.duratives.2 a ha;have h2:=hs.LU.2 a ha;rw[QO];exact mU h1 h2 (OV h1.start h2.start) (OV h1.over h2.over) (OV h1.stop h2.stop) (QK h2.Qm.1 (Sy h1.Bp h2.Qm.2)) (QK h2.Qn.1 (Sy h1.Bq h2.Qn.2))
def FK:ByteArray:=⟨#[58,114,101,113,117,105,114,101,109,101,110,116,115]⟩
def Ib:List ByteArray:=[Cj,G6,GY,FH]
def Ic:List ByteArray:=[Cj,Eo,F5,FI,FW,Fk,Gk]
def CK:List Sx->List ByteArray->List (ByteArray × Sx)× Int
 |[],_=>([],0)
 |[_],_=>([],2)
 |a::v::rest,kws=>bif Ax a==1 then(match IT kws (Aj a)with
   |some kws'=>((Aj a,v)::(CK rest kws').1,(CK rest kws').2)
   |none=>([],2))else([],2)
def Dn(x:Sx):ByteArray × Int:=match C9 x with
 |_::n::_=>bif Ax n==1 then(bif As (Aj n)then(Aj n,0)else(⟨#[]⟩,8))else(⟨#[]⟩,2)
 |_=>(⟨#[]⟩,2)
def GJ(x:Sx):List Pm × Int:=bif Ax x==3 then C5 true (C9 x)else([],2)
def FL(x:Sx):Int × Int:=bif Ax x==2 then(LB x,0)else(0,2)
def EP(a:Ac)(k:ByteArray)(v:Sx):Ac × Int:=
 bif A3 k Cj then({a with params:=(GJ v).1},(GJ v).2)
 else bif A3 k G6 then({a with cost:=(FL v).1},bif (FL v).2==0 then(bif decide ((FL v).1<0)then 1 else 0)else(FL v).2)
 else bif A3 k GY then({a with pre:=(Co v).1},(Co v).2)
 else({a with changes:=(En v).1},(En v).2)
def H7:Ac->List (ByteArray × Sx)->Ac × Int
 |a,[]=>(a,0)
 |a,kv::l=>bif (EP a kv.1 kv.2).2==0 then H7 (EP a kv.1 kv.2).1 l else EP a kv.1 kv.2
def ER(n:ByteArray):Ac:=⟨n,[],1,Bw,[]⟩
def H8(x:Sx):Ac × Int:=bif (Dn x).2==0 then(bif (H7 (ER (Dn x).1) (CK ((C9 x).drop 2) Ib).1).2==0 then((H7 (ER (Dn x).1) (CK ((C9 x).drop 2) Ib).1).1,(CK ((C9 x).drop 2) Ib).2)else H7 (ER (Dn x).1) (CK ((C9 x).drop 2) Ib).1)else(ER (Dn x).1,(Dn x).2)
def DS(a:Du)(k:ByteArray)(v:Sx):Du × Int:=
 bif A3 k Cj then({a with params:=(GJ v).1},(GJ v).2)
 else bif A3 k Eo then({a with Dp:=(FL v).1},(FL v).2)
 else bif A3 k F5 then({a with start:=(Co v).1},(Co v).2)
 else bif A3 k FI then({a with over:=(Co v).1},(Co v).2)
 else bif A3 k FW then({a with stop:=(Co v).1},(Co v).2)
 else bif A3 k Fk then({a with Bp:=(En v).1},(En v).2)
 else({a with Bq:=(En v).1},(En v).2)
def H9:Du->List (ByteArray × Sx)->Du × Int
 |a,[]=>(a,0)
 |a,kv::l=>bif (DS a kv.1 kv.2).2==0 then H9 (DS a kv.1 kv.2).1 l else DS a kv.1 kv.2
def DW(n:ByteArray):Du:=⟨n,[],1,Bw,Bw,Bw,[],[]⟩
def HA(x:Sx):Du × Int:=bif (Dn x).2==0 then(bif (H9 (DW (Dn x).1) (CK ((C9 x).drop 2) Ic).1).2==0 then((H9 (DW (Dn x).1) (CK ((C9 x).drop 2) Ic).1).1,(CK ((C9 x).drop 2) Ic).2)else H9 (DW (Dn x).1) (CK ((C9 x).drop 2) Ic).1)else(DW (Dn x).1,(Dn x).2)
def LM:Pr:=⟨⟨#[]⟩,[]⟩
def I1:Fu:=⟨⟨#[]⟩,[],0,0⟩
def HV(x:Sx):Pr × Int:=match Bt x with
 |none=>(LM,2)
 |some (w,rest)=>bif As w then(⟨w,(C5 true rest).1⟩,(C5 true rest).2)else(LM,8)
def HW(x:Sx):Fu × Int:=match Bt x with
 |none=>(I1,2)
 |some (w,rest)=>match rest.drop (rest.length-2)with
  |[lo,hi]=>bif Ax lo==2&&Ax hi==2 then(bif As w then(⟨w,(C5 true (rest.take (rest.length-2))).1,LB lo,LB hi⟩,(C5 true (rest.take (rest.length-2))).2)else(I1,8))else(I1,2)
  |_=>(I1,2)
def Gb:List Pr->List Sx->List Pr × Int
 |l,[]=>(l,0)
 |l,x::xs=>bif (HV x).2==0 then Gb (l++[(HV x).1]) xs else(l,(HV x).2)
def Gc:List Fu->List Sx->List Fu × Int
 |l,[]=>(l,0)
 |l,x::xs=>bif (HW x).2==0 then Gc (l++[(HW x).1]) xs else(l,(HW x).2)
def D1(d:Dm)(w:ByteArray)(rest:List Sx)(x:Sx):Dm × Int:=
 bif A3 w FK then(d,0)
 else bif A3 w Dl then({d with types:=(C5 false rest).1},(C5 false rest).2)
 else bif A3 w Dw then({d with constants:=(C5 false rest).1},(C5 false rest).2)
 else bif A3 w E1 then({d with B5:=(Gb d.B5 rest).1},(Gb d.B5 rest).2)
 else bif A3 w E2 then({d with Ay:=(Gc d.Ay rest).1},(Gc d.Ay rest).2)
 else bif A3 w D0 then({d with At:=d.At++[(H8 x).1]},(H8 x).2)
 else bif A3 w EN then({d with duratives:=d.duratives++[(HA x).1]},(HA x).2)
 else(d,2)
def MF:List ByteArray:=[Dl,Dw,E1,E2]
def F6(d:Dm)(seen:List ByteArray)(k:Sx):Dm × List ByteArray × Int:=match Bt k with
 |none=>(d,seen,2)
 |some (w,rest)=>bif MF.any (A3 w)then(bif seen.any (A3 w)then(d,seen,4)else((D1 d w rest k).1,w::seen,(D1 d w rest k).2))else((D1 d w rest k).1,seen,(D1 d w rest k).2)
def Jg:Dm->List ByteArray->List Sx->Dm × Int
 |d,_,[]=>(d,0)
 |d,seen,k::l=>bif (F6 d seen k).2.2==0 then Jg (F6 d seen k).1 (F6 d seen k).2.1 l else((F6 d seen k).1,(F6 d seen k).2.2)
def Fl:Dm:=⟨⟨#[]⟩,[],[],[],[],[],[]⟩
def Fo(n:ByteArray):Dm:=⟨n,[],[],[],[],[],[]⟩
def Jh(x:Sx):Dm × Int:=match Bt x with
 |none=>(Fl,2)
 |some (w,rest)=>bif A3 w Dk then(match rest with
  |[]=>(Fl,2)
  |n::secs=>bif (HQ n Cv).2==0 then Jg (Fo (HQ n Cv).1) [] secs else(Fl,(HQ n Cv).2))else(Fl,2)
def KL(x:Sx):Dm × Int:=
 if(CM x 0 0).1=true then(if(Jh x).2=0 then(if H6 (Jh x).1=true then((Jh x).1,0)else(Fl,5))else(Fl,(Jh x).2))else(Fl,2)
theorem Oa{v:Bool}{l:List Pm}(h:l.all (BN v)=true):C5 v (AZ l)=(l,0):=by
 rw[Jf]at h;cases v with
 |true=>exact S7 h
 |false=>exact kc (List.all_eq_true.1 h)
theorem Xi{l:List Pm}(h:l.all (BN true)=true):GJ (AE (AZ l))=(l,0):=Oa h
theorem Xj{kw:ByteArray}{r:List ByteArray}: ∀ {pre:List ByteArray},(∀ p∈pre,A3 p kw=false)->IT (pre++kw::r) kw=some r
 |[],_=>by simp only[List.nil_append,IT,Fh,AC]
 |p::pre,h=>by
  simp only[List.cons_append,IT,h p (by simp),AL];exact Xj λq hq=>h q (by simp[hq])
def Gd:List (Bool × ByteArray × Sx)->List Sx
 |[]=>[]
 |(m,kw,v)::T=>bif m then Gd T else A7 kw::v::Gd T
def FZ:List (Bool × ByteArray × Sx)->List (ByteArray × Sx)
 |[]=>[]
 |(m,kw,v)::T=>bif m then FZ T else(kw,v)::FZ T
def Ob:List ByteArray->Bool
 |[]=>true
 |k::l=>l.all (λq=>!(A3 k q))&&Ob l
theorem QT: ∀ (T:List (Bool × ByteArray × Sx))(pre:List ByteArray),Ob (T.map (·.2.1))=true->(∀ p∈pre, ∀ t∈T,A3 p t.2.1=false)->CK (Gd T) (pre++T.map (·.2.1))=(FZ T,0)
 |[],pre,_,_=>by simp[Gd,FZ,CK]
 |(m,kw,v)::T,pre,hd,hp=>by
  simp only[List.map_cons,Ob,AV,List.all_eq_true,List.mem_map,forall_exists_index,and_imp,forall_apply_eq_imp_iff₂,EF]at hd;cases m with
  |true=>
   simp only[Gd,FZ,AC,List.map_cons];have:=QT T (pre++[kw]) hd.2 (λp hp2 t ht=>by
    rcases List.mem_append.1 hp2 with h|h
    ·exact hp p h t (by simp[ht])
    ·simp only[List.mem_singleton]at h;subst h;exact hd.1 t ht)
   rw[List.append_assoc]at this;exact this
  |false=>
   simp only[Gd,FZ,AL,List.map_cons];rw[CK];simp only[kW,tW,D8,AC];rw[Xj (pre:=pre) (λp hp2=>hp p hp2 (false,kw,v) (by simp))];have:=QT T [] hd.2 (by simp);rw[List.nil_append]at this;simp only[this]
theorem Ji(L:List Sx)(m:Bool)(kw:ByteArray)(v:Sx)(T:List (Bool × ByteArray × Sx)):BQ L m kw v++Gd T=L++Gd ((m,kw,v)::T):=by
 unfold BQ;cases m<;>simp[Gd]
theorem Xk(L:List Sx)(m:Bool)(kw:ByteArray)(v:Sx):BQ L m kw v=L++Gd [(m,kw,v)]:=by
 have:=Ji L m kw v [];simpa[Gd]using this
def MG(t:Fm->Bool)(ff:Fm->Sx)(fe:List Ch->Sx)(a:Ac):List (Bool × ByteArray × Sx):=[((a.params.length:Int)==0,Cj,AE (AZ a.params)),(a.cost==1,G6,DO a.cost),(t a.pre,GY,ff a.pre),((a.changes.length:Int)==0,FH,fe a.changes)]
def MH(t:Fm->Bool)(ff:Fm->Sx)(fe:List Ch->Sx)(a:Du):List (Bool × ByteArray × Sx):=[((a.params.length:Int)==0,Cj,AE (AZ a.params)),(a.Dp==1,Eo,DO a.Dp),(t a.start,F5,ff a.start),(t a.over,FI,ff a.over),(t a.stop,FW,ff a.stop),((a.Bp.length:Int)==0,Fk,fe a.Bp),((a.Bq.length:Int)==0,Gk,fe a.Bq)]
theorem mZ(t:Fm->Bool)(ff:Fm->Sx)(fe:List Ch->Sx)(a:Ac):Ga t ff fe a=A7 a.name::Gd (MG t ff fe a):=by
 unfold Ga;rw[Xk,Ji,Ji,Ji];try rfl
theorem ma(t:Fm->Bool)(ff:Fm->Sx)(fe:List Ch->Sx)(a:Du):FY t ff fe a=A7 a.name::Gd (MH t ff fe a):=by
 unfold FY;rw[Xk,Ji,Ji,Ji,Ji,Ji,Ji];try rfl
theorem Xl{k n:ByteArray}{l:List Sx}(h:As n=true):Dn (AE (A7 k::A7 n::l))=(n,0):=by
 simp[Dn,AE,C9,kW,tW,h]
theorem ND{α:Type}{l:List α}(h:((l.length:Int)==0)=true):l=[]:=by
 cases l with
 |nil=>rfl
 |cons a l=>simp only[List.length_cons,Eg]at h;omega
theorem QU{a a':Ac}{m:Bool}{kw:ByteArray}{v:Sx}{L:List (ByteArray × Sx)}(h1:m=true->a'=a)(h2:m=false->EP a kw v=(a',0)):H7 a (bif m then L else(kw,v)::L)=H7 a' L:=by
 cases m with
 |true=>rw[h1 rfl];try rfl
 |false=>
  simp only[AL,H7,h2 rfl,D8,AC]
theorem MI{a a':Du}{m:Bool}{kw:ByteArray}{v:Sx}{L:List (ByteArray × Sx)}(h1:m=true->a'=a)(h2:m=false->DS a kw v=(a',0)):H9 a (bif m then L else(kw,v)::L)=H9 a' L:=by
 cases m with
 |true=>rw[h1 rfl];try rfl
 |false=>
  simp only[AL,H9,h2 rfl,D8,AC]
theorem mc(n:Int):FL (DO n)=(n,0):=rfl
theorem me{a:Ac}(h:Fj a=true)(he:GX a.changes=true):H8 (EM a)=(a,0):=by
 unfold Fj at h;simp only[AV,EF]at h;obtain⟨⟨⟨⟨n,c⟩,p⟩,f⟩,ch⟩:=h;have hf:Bb a.pre=Ap a.pre:=by unfold Bb;rw[f];try rfl
 have hx:EM a=AE (A7 D0::A7 a.name::Gd (MG C3 Bb CS a)):=by rw[QN,mZ]
 have hp:=QT (MG C3 Bb CS a) [] (show Ob Ib=true by decide) (by simp);have hk:(MG C3 Bb CS a).map (·.2.1)=Ib:=rfl;rw[hk,List.nil_append]at hp;have hd:(C9 (EM a)).drop 2=Gd (MG C3 Bb CS a):=by rw[hx];try rfl
 have hH:Dn (EM a)=(a.name,0):=by rw[hx];exact Xl n
 have hA:H7 (ER a.name) (FZ (MG C3 Bb CS a))=(a,0):=by
  obtain⟨an,ap,aco,af,ac⟩:=a;simp only at n c p f ch he hf;unfold MG FZ FZ FZ FZ FZ;simp only;rw[QU (a:=ER an) (a':=⟨an,ap,1,Bw,[]⟩) (λm=>by rw[ND m];try rfl) (λ_=>by
   unfold EP;simp only[Fh,AC,Xi p,ER])]
  rw[QU (a:=⟨an,ap,1,Bw,[]⟩) (a':=⟨an,ap,aco,Bw,[]⟩) (λm=>by rw[eq_of_beq m]) (λ_=>by
   have e:EP ⟨an,ap,1,Bw,[]⟩ G6 (DO aco)=(⟨an,ap,aco,Bw,[]⟩,bif decide (aco<0)then 1 else 0):=by
    unfold EP;rw[show A3 G6 Cj=false by decide,Fh];try rfl
   rw[e,c];rfl)]
  rw[QU (a:=⟨an,ap,aco,Bw,[]⟩) (a':=⟨an,ap,aco,af,[]⟩) (λm=>by rw[LK m]) (λ_=>by
   unfold EP;simp only[show A3 GY Cj=false by decide,show A3 GY G6=false by decide,Fh,AC,AL,hf,OJ f])]
  rw[QU (a:=⟨an,ap,aco,af,[]⟩) (a':=⟨an,ap,aco,af,ac⟩) (λm=>by rw[ND m]) (λ_=>by
   unfold EP;simp only[show A3 FH Cj=false by decide,show A3 FH G6=false by decide,show A3 FH GY=false by decide,AL,Sp he])]
  rfl
 unfold H8;rw[hH,hd];simp only[D8,AC,hp,hA]
theorem mf{a:Du}(h:FJ a=true)(he:GX a.Bp=true)(he2:GX a.Bq=true):HA (EO a)=(a,0):=by
 unfold FJ at h;simp only[AV]at h;obtain⟨⟨⟨⟨⟨⟨n,p⟩,f1⟩,f2⟩,f3⟩,c1⟩,c2⟩:=h;have g1:Bb a.start=Ap a.start:=by unfold Bb;rw[f1];try rfl
 have g2:Bb a.over=Ap a.over:=by unfold Bb;rw[f2];try rfl
 have g3:Bb a.stop=Ap a.stop:=by unfold Bb;rw[f3];try rfl
 have hx:EO a=AE (A7 EN::A7 a.name::Gd (MH C3 Bb CS a)):=by rw[QO,ma]
 have hp:=QT (MH C3 Bb CS a) [] (show Ob Ic=true by decide) (by simp);have hk:(MH C3 Bb CS a).map (·.2.1)=Ic:=rfl;rw[hk,List.nil_append]at hp;have hd:(C9 (EO a)).drop 2=Gd (MH C3 Bb CS a):=by rw[hx];try rfl
 have hH:Dn (EO a)=(a.name,0):=by rw[hx];exact Xl n
 have hA:H9 (DW a.name) (FZ (MH C3 Bb CS a))=(a,0):=by
  obtain⟨an,ap,ad,s,o,e,sa,se⟩:=a;simp only at n p f1 f2 f3 c1 c2 he he2 g1 g2 g3;unfold MH FZ FZ FZ FZ FZ FZ FZ FZ;simp only;rw[MI (a:=DW an) (a':=⟨an,ap,1,Bw,Bw,Bw,[],[]⟩) (λm=>by rw[ND m];try rfl) (λ_=>by
   unfold DS;simp only[Fh,AC,Xi p,DW])]
  rw[MI (a':=⟨an,ap,ad,Bw,Bw,Bw,[],[]⟩) (λm=>by rw[eq_of_beq m]) (λ_=>by
   unfold DS;simp only[show A3 Eo Cj=false by decide,Fh,AC,AL,mc])]
  rw[MI (a':=⟨an,ap,ad,s,Bw,Bw,[],[]⟩) (λm=>by rw[LK m]) (λ_=>by
   unfold DS;simp only[show A3 F5 Cj=false by decide,show A3 F5 Eo=false by decide,Fh,AC,AL,g1,OJ f1])]
  rw[MI (a':=⟨an,ap,ad,s,o,Bw,[],[]⟩) (λm=>by rw[LK m]) (λ_=>by
   unfold DS;simp only[show A3 FI Cj=false by decide,show A3 FI Eo=false by decide,show A3 FI F5=false by decide,Fh,AC,AL,g2,OJ f2])]
  rw[MI (a':=⟨an,ap,ad,s,o,e,[],[]⟩) (λm=>by rw[LK m]) (λ_=>by
   unfold DS;simp only[show A3 FW Cj=false by decide,show A3 FW Eo=false by decide,show A3 FW F5=false by decide,show A3 FW FI=false by decide,Fh,AC,AL,g3,OJ f3])]
  rw[MI (a':=⟨an,ap,ad,s,o,e,sa,[]⟩) (λm=>by rw[ND m]) (λ_=>by
   unfold DS;simp only[show A3 Fk Cj=false by decide,show A3 Fk Eo=false by decide,show A3 Fk F5=false by decide,show A3 Fk FI=false by decide,show A3 Fk FW=false by decide,Fh,AC,AL,Sp he])]
  rw[MI (a':=⟨an,ap,ad,s,o,e,sa,se⟩) (λm=>by rw[ND m]) (λ_=>by
   unfold DS;simp only[show A3 Gk Cj=false by decide,show A3 Gk Eo=false by decide,show A3 Gk F5=false by decide,show A3 Gk FI=false by decide,show A3 Gk FW=false by decide,show A3 Gk Fk=false by decide,AL,Sp he2])]
  rfl
 unfold HA;rw[hH,hd];simp only[D8,AC,hp,hA]
theorem mg{p:Pr}(h:Hz p=true):HV (Cr p)=(p,0):=by
 unfold Hz at h;simp only[AV]at h;unfold HV Cr;rw[N2];simp only[h.1,AC,Oa h.2]
theorem mh{f:Fu}(h:HT f=true):HW (Cw f)=(f,0):=by
 unfold HT at h;simp only[AV]at h;unfold HW Cw;rw[List.cons_append,N2];have hl:(AZ f.params++[DO f.lo,DO f.hi]).length-2=(AZ f.params).length:=by simp
 simp only[hl,List.drop_left,List.take_left];simp only[DO,Ax,LB,D8,LP,AC,h.1,Oa h.2]
theorem Xm: ∀ (l p:List Pr),l.all Hz=true->Gb p (l.map Cr)=(p++l,0)
 |[],p,_=>by simp[Gb]
 |a::l,p,h=>by
  simp only[List.all_cons,AV]at h;simp only[List.map_cons,Gb,mg h.1,D8,AC,Xm l _ h.2,List.append_assoc,List.singleton_append]
theorem Xn: ∀ (l p:List Fu),l.all HT=true->Gc p (l.map Cw)=(p++l,0)
 |[],p,_=>by simp[Gc]
 |a::l,p,h=>by
  simp only[List.all_cons,AV]at h;simp only[List.map_cons,Gc,mh h.1,D8,AC,Xn l _ h.2,List.append_assoc,List.singleton_append]
def Fa:Dm->List ByteArray->List Sx->Dm × List ByteArray × Int
 |d,seen,[]=>(d,seen,0)
 |d,seen,k::l=>bif (F6 d seen k).2.2==0 then Fa (F6 d seen k).1 (F6 d seen k).2.1 l else F6 d seen k
theorem Xo: ∀ (l:List Sx)(d:Dm)(seen:List ByteArray),Jg d seen l=((Fa d seen l).1,(Fa d seen l).2.2)
 |[],d,seen=>rfl
 |k::l,d,seen=>by
  simp only[Jg,Fa];cases(F6 d seen k).2.2==0 with
  |true=>exact Xo l _ _
  |false=>rfl
theorem Sz: ∀ (l m:List Sx){d d':Dm}{seen seen':List ByteArray},Fa d seen l=(d',seen',0)->Fa d seen (l++m)=Fa d' seen' m
 |[],m,d,d',seen,seen',h=>by
  simp only[Fa,C4,Dh]at h;rw[h.1,h.2];try rfl
 |k::l,m,d,d',seen,seen',h=>by
  simp only[List.cons_append,Fa]at h⊢;cases hc:(F6 d seen k).2.2==0 with
  |true=>
   rw[hc]at h;exact Sz l m h
  |false=>
   rw[hc]at h;simp only[AL]at h;rw[h]at hc;simp at hc
theorem mi{d:Dm}{seen:List ByteArray}{kw:ByteArray}{ks:List Sx}(h1:MF.any (A3 kw)=true)(h2:seen.any (A3 kw)=false):F6 d seen (AE (A7 kw::ks))=((D1 d kw ks (AE (A7 kw::ks))).1,kw::seen,(D1 d kw ks (AE (A7 kw::ks))).2):=by
 unfold F6;rw[N2];simp only[h1,h2,AC,AL]
theorem T0{d:Dm}{seen:List ByteArray}{kw:ByteArray}{ks:List Sx}(h1:MF.any (A3 kw)=false):F6 d seen (AE (A7 kw::ks))=((D1 d kw ks (AE (A7 kw::ks))).1,seen,(D1 d kw ks (AE (A7 kw::ks))).2):=by
 unfold F6;rw[N2];simp only[h1,AL]
theorem Xp(a:Ac): ∃ ks,EM a=AE (A7 D0::ks):=⟨_,QN a⟩
theorem Xq(a:Du): ∃ ks,EO a=AE (A7 EN::ks):=⟨_,QO a⟩
theorem Xr(seen:List ByteArray): ∀ (l:List Ac)(d:Dm),(∀ a∈l,H8 (EM a)=(a,0))->Fa d seen (l.map EM)=({d with At:=d.At++l},seen,0)
 |[],d,_=>by simp[Fa]
 |a::l,d,h=>by
  obtain⟨ks,hx⟩:=Xp a;have h1:=h a (by simp);have hs:F6 d seen (EM a)=({d with At:=d.At++[a]},seen,0):=by
   rw[hx,T0 (by decide), ← hx];unfold D1;simp only[show A3 D0 FK=false by decide,show A3 D0 Dl=false by decide,show A3 D0 Dw=false by decide,show A3 D0 E1=false by decide,show A3 D0 E2=false by decide,Fh,AC,AL,h1]
  simp only[List.map_cons,Fa,hs,D8,AC,Xr seen l _ (λb hb=>h b (by simp[hb])),List.append_assoc,List.singleton_append]
theorem Xt(seen:List ByteArray): ∀ (l:List Du)(d:Dm),(∀ a∈l,HA (EO a)=(a,0))->Fa d seen (l.map EO)=({d with duratives:=d.duratives++l},seen,0)
 |[],d,_=>by simp[Fa]
 |a::l,d,h=>by
  obtain⟨ks,hx⟩:=Xq a;have h1:=h a (by simp);have hs:F6 d seen (EO a)=({d with duratives:=d.duratives++[a]},seen,0):=by
   rw[hx,T0 (by decide), ← hx];unfold D1;simp only[show A3 EN FK=false by decide,show A3 EN Dl=false by decide,show A3 EN Dw=false by decide,show A3 EN E1=false by decide,show A3 EN E2=false by decide,show A3 EN D0=false by decide,Fh,AC,AL,h1]
  simp only[List.map_cons,Fa,hs,D8,AC,Xt seen l _ (λb hb=>h b (by simp[hb])),List.append_assoc,List.singleton_append]
theorem mj{d:Dm}(h:H6 d=true):(∀ a∈d.At,Fj a=true/\GX a.changes=true)/\ ∀ a∈d.duratives,FJ a=true/\GX a.Bp=true/\GX a.Bq=true:=by
 have hr:LL d=true:=by rw[← mM];exact h
 have hw: ∀ {l:List Ch},l.all CA=true->(((l.length:Int)==0)=false->VS (IY l))->GX l=true:=by
  intro l hl hv;rw[m9];unfold LH;rw[(KH hl).1,BG];cases q:((l.length:Int)==0)with
  |true=>rw[ND q];decide
  |false=>exact Je.2 (hv q)
 have hb:=Xb hr;unfold LL at hr;simp only[AV]at hr;obtain⟨va,vu,_⟩:=Sv (Je.1 hr.2);unfold GI at hb;simp only[AV]at hb;obtain⟨⟨_,ba⟩,bd⟩:=hb;rw[List.all_eq_true]at ba bd;refine⟨λa ha=>⟨ba a ha,?_⟩,λa ha=>⟨bd a ha,?_,?_⟩⟩
 ·have b:=ba a ha;have v:=va a ha;unfold Fj at b;simp only[AV]at b;exact hw b.2 λq=>Gl v (List.mem_cons_of_mem _ (by unfold Ga;exact Ia q))
 ·have b:=bd a ha;have v:=vu a ha;unfold FJ at b;simp only[AV]at b;exact hw b.1.2 λq=>Gl v (List.mem_cons_of_mem _ (by unfold FY;exact G7 (Ia q)))
 ·have b:=bd a ha;have v:=vu a ha;unfold FJ at b;simp only[AV]at b;exact hw b.2 λq=>Gl v (List.mem_cons_of_mem _ (by unfold FY;exact Ia q))
theorem Xu{l:List Pm}(h:(AZ l).isEmpty=true):l=[]:=by
 cases l with
 |nil=>rfl
 |cons a l=>simp[AZ]at h
theorem Xv{α β:Type}{f:α->β}{l:List α}(h:(l.map f).isEmpty=true):l=[]:=by
 cases l with
 |nil=>rfl
 |cons a l=>simp at h
set_option maxHeartbeats 8000000
theorem Do(c:Int): ∃ u,AS c= .sc u:=by
 unfold AS Ao;cases c==0<;>exact⟨_,rfl⟩
theorem Xw{x:Sx}(h:A1):A6 prog 156 [.agg x.cells] h λr h'=>r= .Am [.sc (.int .i64 (FL x).1),AS (FL x).2]/\h'=h:=by
 generalize hF:FL x=F;obtain⟨kind,value,line,col,text,kids⟩:=x;simp only[FL,Ax,LB]at hF;simp only[Sx.cells];cases q:(kind==2)with
 |false=>
  rw[q]at hF;subst hF;have q2:(kind !=2)=true:=by simpa using q
  refine AF func156 ntmps156 results156 Ty.Uu ?_;refine wm q2 ?_;try exact zI
  all_goals rfl
 |true=>
  rw[q]at hF;subst hF;have q2:(kind !=2)=false:=by simpa using q
  refine AF func156 ntmps156 results156 Ty.Uu ?_;refine wm q2 ?_;try exact zI
  all_goals rfl
theorem Xx{x:Sx}(hok:x.ok)(hsm:x.small)(h:A1):A6 prog 155 [.agg x.cells] h λr h'=>r= .Am [.A2 2 (A9 (GJ x).1),AS (GJ x).2]/\h'=h:=by
 refine A6.CF Ty.Rc ?_;generalize hF:GJ x=F;obtain⟨kind,value,line,col,text,kids⟩:=x;simp only[GJ,Ax,C9]at hF;simp only[Sx.ok]at hok;simp only[Sx.small]at hsm;have hp:=λh:A1=>M3 (vars:=true) (l:=kids) hsm.1 (Sx.Bz.1 hok.2.2.2.2) h;simp only[Sx.cells];cases q:(kind==3)with
 |false=>
  rw[q]at hF;subst hF;have q2:(kind !=3)=true:=by simpa using q
  refine AF func155 ntmps155 results155 Ty.Rc ?_;refine wt q2 ?_;refine⟨?_,AH.refl _⟩;simp only[AL,AJ,AP];exact⟨_,rfl,.inr (.inl ⟨rfl,.inr rfl⟩),rfl,trivial⟩
 |true=>
  rw[q,AC]at hF;have q2:(kind !=3)=false:=by simpa using q
  rw[hF]at hp;obtain⟨l,c⟩:=F;obtain⟨u,hu⟩:=Do c;simp only[hu]at hp⊢;refine AF func155 ntmps155 results155 Ty.Rc ?_;refine wt q2 ?_;refine uU A5 (hp _) ?_;refine wt A5 ?_;refine⟨?_,AH.refl _⟩;simp only[AJ,AP];exact⟨_,rfl,.inl ⟨rfl,C6 _ _⟩,rfl,trivial⟩
theorem Xy{x:Sx}(hok:x.ok)(h:A1):A6 prog 153 [.agg x.cells] h λr h'=>r= .Am [A4 (Dn x).1,AS (Dn x).2]/\h'=h:=by
 generalize hF:Dn x=F;obtain⟨kind,value,line,col,text,kids⟩:=x;simp only[Dn,C9]at hF;simp only[Sx.ok]at hok;have hks:=Sx.Bz.1 hok.2.2.2.2;have hlen:=Sx.B4 kids;simp only[Sx.cells];rcases kids with _|⟨a,_|⟨n,rest⟩⟩
 ·subst hF;have q:decide (((Sx.rows []).length:Int)<2)=true:=by decide
  generalize Sx.rows []=R at q⊢;refine AF func153 ntmps153 results153 Ty.Nw ?_;refine wm q ?_;try exact zI
  all_goals rfl
 ·subst hF;have q:decide (((Sx.rows [a]).length:Int)<2)=true:=by rw[hlen];simp
  generalize Sx.rows [a]=R at q⊢;refine AF func153 ntmps153 results153 Ty.Nw ?_;refine wm q ?_;try exact zI
  all_goals rfl
 ·have q:decide (((Sx.rows (a::n::rest)).length:Int)<2)=false:=by rw[hlen];simp;omega
  have q1:((1:Int)<((Sx.rows (a::n::rest)).length:Int))=True:=DU (by rw[hlen];simp;omega);have r1:=Sx.CL (l:=a::n::rest) (i:=1) rfl;have hno:=hks n (by simp);have hw:=λh:A1=>OR (x:=n) h;generalize Sx.rows (a::n::rest)=R at q q1 r1⊢
  clear hlen hks hok;obtain⟨nk,nv,nl,nc,nt,ns⟩:=n;simp only[Sx.ok]at hno;have hn:=λh:A1=>FP (h:=h) (s:=nt) (by have:=hno.2.2.1;unfold AI at this;omega);simp only[Sx.cells,Ax,Aj]at r1 hw hF;cases b1:(nk==1)with
  |false=>
   rw[b1]at hF hw;subst hF;refine AF func153 ntmps153 results153 Ty.Nw ?_;refine wt (AY q q1 r1) ?_;refine uU (AY q q1 r1) (hw _) ?_;refine wm yF ?_;try exact zI
   all_goals rfl
  |true=>
   rw[b1]at hF hw;cases b2:As nt with
   |false=>
    rw[b2]at hF hn;subst hF;refine AF func153 ntmps153 results153 Ty.Nw ?_;refine wt (AY q q1 r1) ?_;refine uU (AY q q1 r1) (hw _) ?_;refine wt (AY yT q1 r1) ?_;refine uU (uu q1 r1) (hn _) ?_;refine wm yF ?_;try exact zI
    all_goals rfl
   |true=>
    rw[b2]at hF hn;subst hF;refine AF func153 ntmps153 results153 Ty.Nw ?_;refine wt (AY q q1 r1) ?_;refine uU (AY q q1 r1) (hw _) ?_;refine wt (AY yT q1 r1) ?_;refine uU (uu q1 r1) (hn _) ?_;refine wm (AY yT q1 r1) ?_;try exact zI
    all_goals rfl
theorem NF{kind value line col:Int}{text w:ByteArray}{kids l:List Sx}(hok:(Sx.mk kind value line col text kids).ok)(hD:Bt (.mk kind value line col text kids)=some (w,l)):
  ∃ yk yv yl yc ys,kids= .mk yk yv yl yc w ys::l/\(Sx.rows kids)[0]? =some [.sc (.int .i64 yk),.sc (.int .i64 yv),.sc (.int .i64 yl),.sc (.int .i64 yc),A4 w,.A2 6 (Sx.rows ys)]/\((0:Int)<((Sx.rows kids).length:Int))=True/\(1:Int)<=((Sx.rows kids).length:Int)/\
   List.take (((Sx.rows kids).length:Int)-1).toNat (List.drop 1 (Sx.rows kids))=Sx.rows l/\w.size<=9223372036854775807/\(Sx.rows kids).length=l.length+1:=by
 obtain⟨y,rfl,_,hy2⟩:=N9 hD;obtain⟨yk,yv,yl,yc,yt,ys⟩:=y;simp only[Aj]at hy2;subst hy2;have hlen:=Sx.B4 (.mk yk yv yl yc yt ys::l);have hz:yt.size<=AI:=by
  simp only[Sx.ok,Sx.DJ]at hok;exact hok.2.2.2.2.1.2.2.1
 refine⟨yk,yv,yl,yc,ys,rfl,rfl,DU (by rw[hlen];simp<;>omega),by rw[hlen];simp<;>omega,?_,by unfold AI at hz;omega,hlen⟩;simp only[Sx.rows,List.drop_succ_cons,List.drop_zero,List.length_cons];rw[List.take_of_length_le (by omega)]
theorem ml{x:Sx}(hok:x.ok)(h:A1):A6 prog 59 [.agg x.cells] h λr h'=>r= .Am [A4 (HQ x Cv).1,AS (HQ x Cv).2]/\h'=h:=by
 have hb:=M7 hok;generalize hF:HQ x Cv=F;unfold HQ at hF;obtain⟨kind,value,line,col,text,kids⟩:=x;generalize hD:Bt (.mk kind value line col text kids)=D at hF hb;cases D with
 |none=>
  simp only at hF;simp only[Sx.cells,MP]at hb⊢;subst hF;refine AF func59 ntmps59 results59 Ty.Lo ?_;refine wt A5 ?_;refine uU yF (hb _) ?_;refine wm yF ?_;try exact zI
  all_goals rfl
 |some wl=>
  obtain⟨w,l⟩:=wl;obtain⟨yk,yv,yl,yc,ys,hkd,r0,q0,q1,ht,hws,hrl⟩:=NF hok hD;simp only at hF;simp only[Sx.cells,NK]at hb⊢;simp only[Sx.ok]at hok;have hks:=Sx.Bz.1 hok.2.2.2.2;cases q2:(w.data.toList==(#[100,111,109,97,105,110]:Array UInt8).toList)with
  |false=>
   have q2':(w.data.toList !=(#[100,111,109,97,105,110]:Array UInt8).toList)=true:=(by simpa[bne]using q2);rw[show A3 w Cv=false from q2]at hF;subst hF;cases q3:(((Sx.rows kids).length:Int) !=2)with
   |true=>
    generalize Sx.rows kids=R at r0 q0 q3 hb⊢;refine AF func59 ntmps59 results59 Ty.Lo ?_;refine wt A5 ?_;replace zz:=Aa yT r0 q0 q3;refine uU zz (hb _) ?_;refine wm zz ?_;try exact zI
    all_goals rfl
   |false=>
    generalize Sx.rows kids=R at r0 q0 q3 hb⊢;refine AF func59 ntmps59 results59 Ty.Lo ?_;refine wt A5 ?_;replace zz:=Al yT r0 q0 q3 q2 q2';refine uU zz (hb _) ?_;refine wm zz ?_;try exact zI
    all_goals rfl
  |true=>
   have q2':(w.data.toList !=(#[100,111,109,97,105,110]:Array UInt8).toList)=false:=(by simpa[bne]using q2);rw[show A3 w Cv=true from q2]at hF;simp only[AC]at hF;cases q3:(((Sx.rows kids).length:Int) !=2)with
   |true=>
    have e:F=(⟨#[]⟩,2):=by
     rw[← hF];rw[hrl]at q3
     match l,q3 with
     |[],_=>rfl
     |[a],q=>simp at q
     |_::_::_,_=>rfl
    subst e;generalize Sx.rows kids=R at r0 q0 q3 hb⊢;refine AF func59 ntmps59 results59 Ty.Lo ?_;refine wt A5 ?_;replace zz:=Aa yT r0 q0 q3;refine uU zz (hb _) ?_;refine wm zz ?_;try exact zI
    all_goals rfl
   |false=>
    obtain⟨n,rfl⟩: ∃ n,l=[n]:=by
     rw[hrl]at q3
     match l,q3 with
     |[],q=>simp at q
     |[a],_=>exact⟨a,rfl⟩
     |_::_::l,q=>simp at q;omega
    have q4:((1:Int)<((Sx.rows kids).length:Int))=True:=DU (by rw[hrl];simp);have hno:=hks n (by rw[hkd];simp);have r1:(Sx.rows kids)[1]? =some n.cells:=(by rw[hkd];exact Sx.CL rfl);have hw:=λh:A1=>OR (x:=n) h;generalize Sx.rows kids=R at r0 q0 q3 q4 r1 hb⊢;clear hD hks hkd hok ht hrl;obtain⟨nk,nv,nl,nc,nt,ns⟩:=n;simp only[Sx.ok]at hno;have hn:=λh:A1=>FP (h:=h) (s:=nt) (by have:=hno.2.2.1;unfold AI at this;omega);simp only[Sx.cells,Ax,Aj]at r1 hw hF;cases b1:(nk==1)with
    |false=>
     rw[b1]at hF hw;subst hF;refine AF func59 ntmps59 results59 Ty.Lo ?_;refine wt A5 ?_;replace zz:=BT yT r0 q0 q3 q2 q2' q4 r1;refine uU zz (hb _) ?_;refine wt zz ?_;refine uU (AY q4 r1 yF) (hw _) ?_;refine wm yF ?_;try exact zI
     all_goals rfl
    |true=>
     rw[b1]at hF hw;cases b2:As nt with
     |false=>
      rw[b2]at hF hn;subst hF;refine AF func59 ntmps59 results59 Ty.Lo ?_;refine wt A5 ?_;replace zz:=BT yT r0 q0 q3 q2 q2' q4 r1;refine uU zz (hb _) ?_;refine wt zz ?_;refine uU (uu q4 r1) (hw _) ?_;refine wt (AY yT q4 r1) ?_;refine uU (uu q4 r1) (hn _) ?_;refine wm yF ?_;try exact zI
      all_goals rfl
     |true=>
      rw[b2]at hF hn;subst hF;refine AF func59 ntmps59 results59 Ty.Lo ?_;refine wt A5 ?_;replace zz:=BT yT r0 q0 q3 q2 q2' q4 r1;refine uU zz (hb _) ?_;refine wt zz ?_;refine uU (uu q4 r1) (hw _) ?_;refine wt (AY yT q4 r1) ?_;refine uU (uu q4 r1) (hn _) ?_;refine wm (AY yT q4 r1) ?_;try exact zI
      all_goals rfl
theorem mn{n:Nat}{H:A1}{p:Pr}{c:Int}{u:PV}(hc:AS c=u):AJ n H (.Am [.agg (Dr p),AS c]) (.Am [.agg (Dr p),u]):=by
 subst hc;obtain⟨u,hu⟩:=Do c;rw[hu];simp only[Dr,AJ,AP];exact⟨_,rfl,⟨_,rfl,rfl,.inl ⟨rfl,C6 _ _⟩,trivial⟩,rfl,trivial⟩
theorem Xz{n:Nat}{H:A1}{c:Int}{u:PV}(hc:AS c=u):AJ n H (.Am [.agg (Dr LM),AS c]) (.Am [.agg [.sc (.string ⟨#[]⟩),.sc (.slice none 0 0)],u]):=by
 subst hc;obtain⟨u,hu⟩:=Do c;rw[hu];simp only[Dr,LM,A9,List.map_nil,AJ,AP];exact⟨_,rfl,⟨_,rfl,rfl,.inr (.inl ⟨rfl,.inr rfl⟩),trivial⟩,rfl,trivial⟩
theorem mo{x:Sx}(hok:x.ok)(hsm:x.small)(h:A1):A6 prog 119 [.agg x.cells] h λr h'=>r= .Am [.agg (Dr (HV x).1),AS (HV x).2]/\h'=h:=by
 refine A6.CF Ty.Pi ?_;have hb:=M7 hok;have hO:=λw l=>LI hok hsm (w:=w) (l:=l);generalize hF:HV x=F;unfold HV at hF;obtain⟨kind,value,line,col,text,kids⟩:=x;generalize hD:Bt (.mk kind value line col text kids)=D at hF hb hO;cases D with
 |none=>
  simp only at hF;simp only[Sx.cells,MP]at hb⊢;subst hF;refine AF func119 ntmps119 results119 Ty.Pi ?_;refine wt A5 ?_;refine uU A5 (hb _) ?_;refine wt yF ?_;exact⟨Xz rfl,((AH.refl h).new _).set (AG _) _⟩
 |some wl=>
  obtain⟨w,l⟩:=wl;obtain⟨_,hl,hlo⟩:=hO w l rfl;obtain⟨yk,yv,yl,yc,ys,hkd,r0,q0,q1,ht,hws,hrl⟩:=NF hok hD;simp only at hF;simp only[Sx.cells,NK]at hb⊢;have hn:=λh:A1=>FP (h:=h) (s:=w) hws;have hp:=λh:A1=>M3 (vars:=true) hl hlo h;generalize Sx.rows kids=R at r0 q0 q1 ht hrl hb⊢
  clear hD hO hkd hok hsm;cases b2:As w with
  |false=>
   rw[b2]at hF hn;simp only[AL]at hF;subst hF;refine AF func119 ntmps119 results119 Ty.Pi ?_;refine wt A5 ?_;refine uU A5 (hb _) ?_;refine wt (AY yT r0 q0) ?_;refine uU (uu r0 q0) (hn _) ?_;refine wt yF ?_;exact⟨Xz rfl,((AH.refl h).new _).set (AG _) _⟩
  |true=>
   rw[b2]at hF hn;simp only[AC]at hF;generalize C5 true l=L at hF hp;obtain⟨pl,c⟩:=L;simp only at hF hp;subst hF;obtain⟨u,hu⟩:=Do c;simp only[hu]at hp;refine AF func119 ntmps119 results119 Ty.Pi ?_;refine wt A5 ?_;refine uU A5 (hb _) ?_;refine wt (AY yT r0 q0) ?_;refine uU (uu r0 q0) (hn _) ?_;replace zz:=Ah yT r0 q0 q1 ht @CT @Ce;refine wt zz ?_;replace zz:=Aa r0 q0 q1 ht;refine uU zz (hp _) ?_;refine wt (uu r0 q0) ?_;exact⟨mn (p:=⟨w,pl⟩) hu,((AH.refl h).new _).set (AG _) _⟩
theorem mq{n:Nat}{H:A1}{p:Fu}{c:Int}{u:PV}(hc:AS c=u):AJ n H (.Am [.agg (Ds p),AS c]) (.Am [.agg (Ds p),u]):=by
 subst hc;obtain⟨u,hu⟩:=Do c;rw[hu];simp only[Ds,AJ,AP];exact⟨_,rfl,⟨_,rfl,rfl,.inl ⟨rfl,C6 _ _⟩,rfl,rfl,trivial⟩,rfl,trivial⟩
theorem Oc{n:Nat}{H:A1}{c:Int}{u:PV}(hc:AS c=u):AJ n H (.Am [.agg (Ds I1),AS c]) (.Am [.agg [.sc (.string ⟨#[]⟩),.sc (.slice none 0 0),.sc (.int .i64 0),.sc (.int .i64 0)],u]):=by
 subst hc;obtain⟨u,hu⟩:=Do c;rw[hu];simp only[Ds,I1,A9,List.map_nil,AJ,AP];exact⟨_,rfl,⟨_,rfl,rfl,.inr (.inl ⟨rfl,.inr rfl⟩),rfl,rfl,trivial⟩,rfl,trivial⟩
theorem mr{l:List Sx}(h:2<=l.length): ∃ lo hi,l.drop (l.length-2)=[lo,hi]/\l[l.length-2]? =some lo/\l[l.length-1]? =some hi:=by
 have e1:l.length-2<l.length:=by omega
 have e2:l.length-2+1<l.length:=by omega
 refine⟨l[l.length-2],l[l.length-2+1],?_,List.getElem?_eq_getElem e1,?_⟩
 ·rw [List.drop_eq_getElem_cons e1,List.drop_eq_getElem_cons e2,List.drop_eq_nil_of_le (by omega)]
 ·rw [show l.length-1=l.length-2+1 from by omega];exact List.getElem?_eq_getElem e2
theorem mu{x:Sx}(hok:x.ok)(hsm:x.small)(h:A1):A6 prog 120 [.agg x.cells] h λr h'=>r= .Am [.agg (Ds (HW x).1),AS (HW x).2]/\h'=h:=by
 refine A6.CF Ty.Lp ?_;have hb:=M7 hok;have hO:=λw l=>LI hok hsm (w:=w) (l:=l);generalize hF:HW x=F;unfold HW at hF;obtain⟨kind,value,line,col,text,kids⟩:=x;generalize hD:Bt (.mk kind value line col text kids)=D at hF hb hO;cases D with
 |none=>
  simp only at hF;simp only[Sx.cells,MP]at hb⊢;subst hF;refine AF func120 ntmps120 results120 Ty.Lp ?_;refine wt A5 ?_;refine uU yF (hb _) ?_;refine wt yF ?_;exact⟨Oc rfl,((AH.refl h).new _).set (AG _) _⟩
 |some wl=>
  obtain⟨w,l⟩:=wl;obtain⟨_,hl,hlo⟩:=hO w l rfl;obtain⟨yk,yv,yl,yc,ys,hkd,r0,q0,q1,ht,hws,hrl⟩:=NF hok hD;simp only at hF;simp only[Sx.cells,NK]at hb⊢;have hn:=λh:A1=>FP (h:=h) (s:=w) hws;cases q3:decide (((Sx.rows kids).length:Int)<3)with
  |true=>
   have e:F=(I1,2):=by
    rw[← hF];have:l.length<2:=by
     rw[hrl]at q3;simp at q3;omega
    match l,this with
    |[],_=>rfl
    |[a],_=>rfl
   subst e;generalize Sx.rows kids=R at q3 hb⊢;refine AF func120 ntmps120 results120 Ty.Lp ?_;refine wt A5 ?_;refine uU (uu yT q3) (hb _) ?_;refine wt (uu yT q3) ?_;exact⟨Oc rfl,((AH.refl h).new _).set (AG _) _⟩
  |false=>
   have hl2:2<=l.length:=by
    rw[hrl]at q3;simp at q3;omega
   obtain⟨lo,hi,hdr,g1,g2⟩:=mr hl2;rw[hdr]at hF;simp only at hF;have n1:IntKind.i64.wrap (((Sx.rows kids).length:Int)-2)=((l.length-1:Nat):Int):=(by rw[hrl,BZ (by omega) (by omega)];omega);have n2:IntKind.i64.wrap (((Sx.rows kids).length:Int)-1)=((l.length:Nat):Int):=(by rw[hrl,BZ (by omega) (by omega)];omega);have a1:(Sx.rows kids)[l.length-1]? =some lo.cells:=by
    rw[hkd];refine Sx.CL ?_;rw[show l.length-1=(l.length-2)+1 from by omega,List.getElem?_cons_succ];exact g1
   have a2:(Sx.rows kids)[l.length]? =some hi.cells:=by
    rw[hkd];refine Sx.CL ?_;rw[show l.length=(l.length-1)+1 from by omega,List.getElem?_cons_succ];exact g2
   have t1:List.take (((l.length-1:Nat):Int)-1).toNat (List.drop 1 (Sx.rows kids))=Sx.rows (l.take (l.length-2)):=by
    rw[hkd];simp only[Sx.rows,List.drop_succ_cons,List.drop_zero,Sx.rows_map,List.map_take];congr 1;omega
   have b0:(((l.length-1:Nat):Int)<((Sx.rows kids).length:Int))=True:=DU (by rw[hrl];omega);have b1:(((l.length:Nat):Int)<((Sx.rows kids).length:Int))=True:=DU (by rw[hrl];omega);have b2:(1:Int)<=((l.length-1:Nat):Int):=(by omega);have b3:((l.length-1:Nat):Int)<=((Sx.rows kids).length:Int):=(by rw[hrl];omega);have b4:(0:Int)<=((l.length-1:Nat):Int):=(by omega);have b5:(0:Int)<=((l.length:Nat):Int):=(by omega);have hp:=λh:A1=>M3 (vars:=true) (l:=l.take (l.length-2)) (by rw[List.length_take];omega) (λy hy=>hlo y (List.mem_of_mem_take hy)) h;generalize hRR:Sx.rows kids=R at r0 q0 q1 q3 n1 n2 a1 a2 t1 b0 b1 b3 hb⊢;clear hD hO hkd hok hsm ht hrl hdr g1 g2 hRR;generalize l.take (l.length-2)=l2 at hF hp t1;generalize l.length-1=k1 at n1 a1 t1 b0 b2 b3 b4;generalize l.length=k2 at n2 a2 b1 b5;obtain⟨lk,lv,ll,lc,lt,ls⟩:=lo;obtain⟨ik,iv,il,ic,it,is⟩:=hi;simp only[Sx.cells,Ax,LB]at a1 a2 hF;have T1:(k1:Int).toNat=k1:=JD k1;have T2:(k2:Int).toNat=k2:=JD k2;cases z1:(lk==2)with
   |false=>
    have z1':(lk !=2)=true:=(by simpa using z1);rw[z1,BF,AL]at hF;subst hF;refine AF func120 ntmps120 results120 Ty.Lp ?_;refine wt A5 ?_;refine Gu (hb _) (by(try simp only[Ty.w,simprocAttr,Av,q3,n1,b0,b4,T1,a1,z1']);try rfl) ?_;simp only[Ty.w,simprocAttr,Av,q3,n1,b0,b4,T1,a1,z1'];(repeat'(first|refine cK ?_|(refine nK ?_;try exact zI)|refine Af λK hK=>?_|((first|refine Bn ?_|refine Ej ?_);simp only[Ty.w,simprocAttr,Av,q3,n1,b0,b4,T1,a1,z1'])|(refine hK _ _ ?_;clear hK;(try simp only[Au,simprocAttr]))));exact⟨Oc rfl,((AH.refl h).new _).set (AG _) _⟩
   |true=>
    have z1':(lk !=2)=false:=(by simpa using z1);rw[z1,BG]at hF;cases z2:(ik==2)with
    |false=>
     have z2':(ik !=2)=true:=(by simpa using z2);rw[z2,AL]at hF;subst hF;refine AF func120 ntmps120 results120 Ty.Lp ?_;refine wt A5 ?_;refine Gu (hb _) (by(try simp only[Ty.w,simprocAttr,Av,q3,n1,b0,b4,T1,a1,z1',n2,b1,b5,T2,a2,z2']);try rfl) ?_;simp only[Ty.w,simprocAttr,Av,q3,n1,b0,b4,T1,a1,z1',n2,b1,b5,T2,a2,z2'];(repeat'(first|refine cK ?_|(refine nK ?_;try exact zI)|refine Af λK hK=>?_|((first|refine Bn ?_|refine Ej ?_);simp only[Ty.w,simprocAttr,Av,q3,n1,b0,b4,T1,a1,z1',n2,b1,b5,T2,a2,z2'])|(refine hK _ _ ?_;clear hK;(try simp only[Au,simprocAttr]))));exact⟨Oc rfl,((AH.refl h).new _).set (AG _) _⟩
    |true=>
     have z2':(ik !=2)=false:=(by simpa using z2);rw[z2,AC]at hF;cases b9:As w with
     |false=>
      rw[b9]at hF hn;simp only[AL]at hF;subst hF;refine AF func120 ntmps120 results120 Ty.Lp ?_;refine wt A5 ?_;refine Gu (hb _) (by(try simp only[Ty.w,simprocAttr,Av,q3,n1,b0,b4,T1,a1,z1',n2,b1,b5,T2,a2,z2',r0,q0]);try rfl) ?_;simp only[Ty.w,simprocAttr,Av,q3,n1,b0,b4,T1,a1,z1',n2,b1,b5,T2,a2,z2',r0,q0];(repeat'(first|refine cK ?_|(refine nK ?_;try exact zI)|refine Af λK hK=>?_|(refine Bn ?_;simp only[Ty.w,simprocAttr,Av,q3,n1,b0,b4,T1,a1,z1',n2,b1,b5,T2,a2,z2',r0,q0])|(refine Gh ?_;(try simp only[Au,simprocAttr]))|(refine EX _ (by(try simp only[Ty.w,simprocAttr,Av,q3,n1,b0,b4,T1,a1,z1',n2,b1,b5,T2,a2,z2',r0,q0]);rfl) (λhb=>?_) (λhb=>?_)<;>(try simp only[DD,Bg,D7,simprocAttr]at hb)<;>(try(exfalso;omega)))|(refine hK _ _ ?_;clear hK;(try simp only[Au,simprocAttr]))));refine uU (uu r0 q0) (hn _) ?_;(repeat'(first|refine cK ?_|refine nK ?_|refine Af λK hK=>?_|refine uR yF ?_|refine uT yF ?_|(refine uN hK ?_;clear hK)|apply zI));exact⟨Oc rfl,((AH.refl h).new _).set (AG _) _⟩
     |true=>
      rw[b9]at hF hn;simp only[AC]at hF;generalize C5 true l2=L at hF hp;obtain⟨pl,c⟩:=L;simp only at hF hp;subst hF;obtain⟨u,hu⟩:=Do c;simp only[hu]at hp;refine AF func120 ntmps120 results120 Ty.Lp ?_;refine wt A5 ?_;refine Gu (hb _) (by(try simp only[Ty.w,simprocAttr,Av,q3,n1,b0,b4,T1,a1,z1',n2,b1,b5,T2,a2,z2',r0,q0]);try rfl) ?_;simp only[Ty.w,simprocAttr,Av,q3,n1,b0,b4,T1,a1,z1',n2,b1,b5,T2,a2,z2',r0,q0];(repeat'(first|refine cK ?_|(refine nK ?_;try exact zI)|refine Af λK hK=>?_|(refine Bn ?_;simp only[Ty.w,simprocAttr,Av,q3,n1,b0,b4,T1,a1,z1',n2,b1,b5,T2,a2,z2',r0,q0])|(refine Gh ?_;(try simp only[Au,simprocAttr]))|(refine EX _ (by(try simp only[Ty.w,simprocAttr,Av,q3,n1,b0,b4,T1,a1,z1',n2,b1,b5,T2,a2,z2',r0,q0]);rfl) (λhb=>?_) (λhb=>?_)<;>(try simp only[DD,Bg,D7,simprocAttr]at hb)<;>(try(exfalso;omega)))|(refine hK _ _ ?_;clear hK;(try simp only[Au,simprocAttr]))));refine uU (uu r0 q0) (hn _) ?_;(repeat'(first|refine cK ?_|(refine nK ?_;try exact zI)|refine Af λK hK=>?_|(refine Bn ?_;simp only[Ty.w,simprocAttr,Av,n1,b2,b3,b4,T1,t1,B8,Bl,CT,Ce])|(refine Gh ?_;(try simp only[Au,simprocAttr]))|(refine EX _ (by(try simp only[Ty.w,simprocAttr,Av,n1,b2,b3,b4,T1,t1,B8,Bl,CT,Ce]);rfl) (λhb=>?_) (λhb=>?_)<;>(try simp only[DD,Bg,D7,simprocAttr]at hb)<;>(try(exfalso;omega)))|(refine hK _ _ ?_;clear hK;(try simp only[Au,simprocAttr]))));refine Gu (hp _) (by(try simp only[Ty.w,simprocAttr,n1,b2,b3,b4,T1,t1,Ce]);try rfl) ?_;simp only[Ty.w,simprocAttr,n1,b2,b3,b4,T1,t1,Ce];(repeat'(first|refine cK ?_|(refine nK ?_;try exact zI)|refine Af λK hK=>?_|((first|refine Lj (by decide+kernel) ?_|refine Ej ?_);simp only[Ty.w,simprocAttr,r0,q0,n1,b0,b4,T1,a1,n2,b1,b5,T2,a2])|(refine hK _ _ ?_;clear hK;(try simp only[Au,simprocAttr]))|(with_reducible refine Nm (by simp only[List.forall_mem_cons,Ty.w,simprocAttr,r0,q0,n1,b0,b4,T1,a1,n2,b1,b5,T2,a2]<;>(repeat' apply And.intro)<;>first|trivial|exact .inl (by decide+kernel)) ?_;try simp only[Ty.w,simprocAttr,r0,q0,n1,b0,b4,T1,a1,n2,b1,b5,T2,a2])));exact⟨mq (p:=⟨w,pl,lv,iv⟩) hu,((AH.refl h).new _).set (AG _) _⟩
theorem mw{h:A1}{l:List ByteArray}{s:ByteArray}(hl:l.length<=9223372036854775807):A6 prog 60 [.A2 1 (AN l),A4 s] h λr h'=>r= .sc (.bool (decide (HJ l s>=0)))/\h'=h:=by
 have hi:=λh:A1=>Rg (h:=h) (s:=s) hl;generalize HJ l s=i at hi⊢;generalize AN l=R at hi⊢;refine AF func60 ntmps60 results60 Ty.UY ?_;refine wt A5 ?_;refine uU A5 (hi _) ?_;refine wm A5 ?_;try exact zI
 all_goals first|rfl|(simp;done)
theorem my(a b:ByteArray):A3 a b=A3 b a:=by
 unfold A3;exact Bool.beq_comm
theorem Y0(w:ByteArray): ∀ o:List ByteArray,(IT o w=none/\HJ o w= -1)\/ ∃ k:Nat,k<o.length/\HJ o w=(k:Int)/\IT o w=some (o.drop (k+1))
 |[]=> .inl ⟨rfl,rfl⟩
 |a::o=>by
  unfold HJ;rw[List.findIdx?_cons];simp only[IT,my a w];cases h:A3 w a with
  |true=>exact .inr ⟨0,by simp,by simp,by simp⟩
  |false=>
   simp only[AL];rcases Y0 w o with⟨h1,h2⟩|⟨k,h1,h2,h3⟩
   ·left;refine⟨h1,?_⟩;unfold HJ at h2;cases h4:o.findIdx? (λv=>A3 w v)with
    |none=>simp
    |some i=>rw[h4]at h2;simp only at h2;omega
   ·right;refine⟨k+1,by simp;omega,?_,by simpa using h3⟩;unfold HJ at h2;cases h4:o.findIdx? (λv=>A3 w v)with
    |none=>rw[h4]at h2;simp only at h2;omega
    |some i=>rw[h4]at h2;simp only at h2;simp;omega
theorem Tl.Hc{h:A1}{lo z z':Nat}{p q:PV}{R R':List (List PV)}{H:A1}(tp:Tl h lo z p R)(tq:Tl h lo z' q R')(hz:z≠z')(t1:EW h p=some (H,R))(t3:H.next=h.next):Tl H lo z' q R':=by
 rcases tq with tq|⟨id',a1,a2,rfl,a3⟩
 ·exact .inl tq
 ·refine .inr ⟨id',a1,by omega,rfl,?_⟩;rcases tp with⟨rfl,rfl|rfl⟩|⟨id,b1,b2,rfl,b3⟩
  ·simp only[EW,BD,C4]at t1;rw[← t1.1];exact a3
  ·simp only[EW,BD,C4]at t1;rw[← t1.1];exact a3
  ·have hne:id'≠id:=by
    intro e;subst e;rw[a3]at b3;simp only[BD,An.arr.injEq]at b3;exact hz b3.1.symm
   simp only[EW,b3]at t1;split at t1
   ·simp only[BD,C4]at t1;rw[← t1.1];simp only[A1.kill];rw[A8 hne];exact a3
   ·cases t1
structure Od(h0:A1)(N:List ByteArray)(V:List Sx)(a b:PV)(H:A1):Prop where
 grow:AH h0 H
 ta:Tl H h0.next 1 a (AN N)
 tb:Tl H h0.next 6 b (Sx.rows V)
theorem Od.push{h0 H:A1}{N:List ByteArray}{V:List Sx}{a b:PV}(i:Od h0 N V a b H)(s:ByteArray)(v:Sx): ∃ H1 H3,EW H a=some (H1,AN N)/\De H 1 a=true/\H1.next=H.next/\EW (H1.new (.arr 1 (AN N++[[A4 s]]))) b=some (H3,Sx.rows V)/\De (H1.new (.arr 1 (AN N++[[A4 s]]))) 6 b=true/\H3.next=H.next+1/\
  Od h0 (N++[s]) (V++[v]) (.own H.next 0 (N.length+1)) (.own (H.next+1) 0 (V.length+1)) (H3.new (.arr 6 (Sx.rows V++[v.cells]))):=by
 obtain⟨g,ta,tb⟩:=i;have hle:=g.le;obtain⟨H1,t1,t2,t3,t4,t5⟩:=ta.tail;have k1:=t5 h0 ⟨g.le,g.B6⟩ (AG _);have g1:AH h0 (H1.new (.arr 1 (AN N++[[A4 s]]))):=(⟨k1.1,k1.2⟩:AH h0 H1).new _;have tb1:=Tl.Hc ta tb (by decide) t1 t3;have tb2:Tl (H1.new (.arr 1 (AN N++[[A4 s]]))) h0.next 6 b (Sx.rows V):=tb1.up (by simp only[A1.new];omega) λj _ hj=>Dt hj
 have ta2:Tl (H1.new (.arr 1 (AN N++[[A4 s]]))) h0.next 1 (.own H.next 0 (N.length+1)) (AN N++[[A4 s]]):=by
  rw[← t3];exact Tl.grow (by omega) (by simp[AN])
 obtain⟨H3,u1,u2,u3,u4,u5⟩:=tb2.tail;have k3:=u5 h0 ⟨g1.le,g1.B6⟩ (AG _);have e3:H3.next=H.next+1:=by rw[u3];show H1.next+1=_;rw[t3]
 have ta3:=Tl.Hc tb2 ta2 (by decide) u1 u3;refine⟨H1,H3,t1,t2,t3,u1,u2,e3,(⟨k3.1,k3.2⟩:AH h0 H3).new _,?_,?_⟩
 ·have:AN (N++[s])=AN N++[[A4 s]]:=by simp[AN]
  rw[this];exact ta3.up (by simp only[A1.new];omega) λj _ hj=>Dt hj
 ·have:Sx.rows (V++[v])=Sx.rows V++[v.cells]:=by simp[Sx.rows_map]
  rw[this, ← e3];exact Tl.grow (by omega) (by simp[Sx.B4])
theorem mz(l:List ByteArray): ∀ r∈AN l, ∀ p∈r, ∃ v,p=PV.sc v:=by
 intro r hr p hp;simp only[AN,List.mem_map]at hr;obtain⟨x,_,rfl⟩:=hr;simp only[List.mem_singleton]at hp;exact⟨_,hp⟩
theorem Oe{a v:Sx}{rest:List Sx}{kws:List ByteArray}:CK (a::v::rest) kws=(bif Ax a==1 then(match IT kws (Aj a)with
   |some kws'=>((Aj a,v)::(CK rest kws').1,(CK rest kws').2)
   |none=>([],2))else([],2)):=by first|rfl|(rw[CK];try rfl)|simp[CK]
theorem T4: ∀ (l:List Sx)(kws:List ByteArray), ∀ kv∈(CK l kws).1,kv.2∈l
 |[],_,kv,h=>by simp[CK]at h
 |[_],_,kv,h=>by simp[CK]at h
 |a::v::rest,kws,kv,h=>by
  rw[Oe]at h;cases k:Ax a==1 with
  |false=>rw[k]at h;simp at h
  |true=>
   rw[k,AC]at h;cases ha:IT kws (Aj a)with
   |none=>rw[ha]at h;simp at h
   |some k'=>
    rw[ha]at h;simp only[List.mem_cons]at h;rcases h with rfl|h
    ·simp
    ·have:=T4 rest k' kv h;simp[this]
theorem T5: ∀ (l:List Sx)(kws:List ByteArray),(CK l kws).1.length<=l.length
 |[],_=>by simp[CK]
 |[_],_=>by simp[CK]
 |a::v::rest,kws=>by
  rw[Oe];cases Ax a==1 with
  |false=>simp
  |true=>
   rw[AC];cases IT kws (Aj a)with
   |none=>simp
   |some k'=>
    have:=T5 rest k';simp only[List.length_cons];omega
theorem QV{h H:A1}{F acc:List (ByteArray × Sx)}{c:Int}{a b:PV}{u:PV}(hF:F=acc)(hu:AS c=u)(i:Od h (acc.map (·.1)) (acc.map (·.2)) a b H):AJ h.next H (.Am [.A2 1 (AN (F.map (·.1))),.A2 6 (Sx.rows (F.map (·.2))),AS c]) (.Am [a,b,u])/\AH h H:=by
 subst hF;subst hu;obtain⟨u,hu⟩:=Do c;rw[hu];refine⟨?_,i.grow⟩;have h1:=i.ta.CF (mz _);have h2:=Rs i.tb;unfold AJ;refine⟨_,rfl,?_⟩;unfold AP;refine⟨h1,?_⟩;unfold AP;refine⟨h2,?_⟩;simp only[AP,AJ,KT]
theorem Y1{l:List Sx}{kws:List ByteArray}(hl:l.length<=1048576)(hkl:kws.length<=100)(h:A1):A6 prog 154 [.A2 6 (Sx.rows l),.A2 1 (AN kws)] h λr h'=>
  r= .Am [.A2 1 (AN ((CK l kws).1.map (·.1))),.A2 6 (Sx.rows ((CK l kws).1.map (·.2))),AS (CK l kws).2]/\h'=h:=by
 refine A6.CF Ty.Ut ?_;have hll:=Sx.B4 l;have hks:(AN kws).length=kws.length:=GP kws;generalize hF:CK l kws=F;obtain⟨F1,F2⟩:=F;simp only;refine AF func154 ntmps154 results154 Ty.Ut ?_;refine wt hll ?_;refine CG (λm S H=>S 0= .A2 6 (Sx.rows l)/\S 1= .A2 1 (AN kws)/\ ∃ (i nx:Nat)(a b:PV)(acc:List (ByteArray × Sx)),S 10= .sc (.int .i64 i)/\S 9= .sc (.int .i64 nx)/\S 7=a/\S 8=b/\i<=l.length/\nx<=kws.length/\acc.length<=i/\m=l.length-i/\Od h (acc.map (·.1)) (acc.map (·.2)) a b H/\
  F1=acc++(CK (l.drop i) (kws.drop nx)).1/\F2=(CK (l.drop i) (kws.drop nx)).2) l.length ?_ ?_
 ·simp only[Ty.w,simprocAttr];exact⟨0,0,_,_,[],rfl,rfl,rfl,rfl,BY _,BY _,AG _,rfl,⟨AH.refl h,Tl.nil,Tl.nil⟩,by rw[List.drop_zero,List.drop_zero,hF];try rfl,by rw[List.drop_zero,List.drop_zero,hF]⟩
 clear hF;rintro m S H ⟨s0,s1,i,nx,a,b,acc,s10,s9,s7,s8,hi,hnx,hac,rfl,hI,hF1,hF2⟩;by_cases hlt:i<l.length
 ·have hd:decide ((i:Int)<(l.length:Int))=true:=by simp;omega
  have hdp:((i:Int)<(l.length:Int))=True:=DU (by omega);have w1:IntKind.i64.wrap ((i:Int)+1)=((i+1:Nat):Int):=by rw[BZ (by omega) (by omega)];omega
  have w2:IntKind.i64.wrap ((i:Int)+2)=((i+2:Nat):Int):=by rw[BZ (by omega) (by omega)];omega
  obtain⟨x,hx⟩: ∃ x,l[i]? =some x:=⟨_,List.getElem?_eq_getElem hlt⟩;have hr:=Sx.CL hx;have hw:=λh:A1=>OR (x:=x) h;have hix:=λh:A1=>Rg (h:=h) (l:=kws.drop nx) (s:=Aj x) (by rw[List.length_drop];omega);have hai:=Y0 (Aj x) (kws.drop nx);have htk:List.take ((kws.length:Int)-(nx:Int)).toNat (List.drop nx (AN kws))=AN (kws.drop nx):=by
   simp only[AN,List.map_drop];rw[List.take_of_length_le];rw[List.length_drop,List.length_map];omega
  have T1:(nx:Int).toNat=nx:=JD nx;have T2:(i:Int).toNat=i:=JD i;have b1:(nx:Int)<=(kws.length:Int):=by omega
  have b0:(0:Int)<=(nx:Int):=by omega
  have b2:(0:Int)<=(i:Int):=by omega
  have hdr:=Cd hx
  have bad: ∀ {A B:List (ByteArray × Sx)},CK (l.drop i) (kws.drop nx)=([],2)->F1=acc/\F2=2:=λe=>by
   rw[e]at hF1 hF2;simp only[List.append_nil]at hF1;exact⟨hF1,hF2⟩
  cases k1:(Ax x==1)with
  |false=>
   have e:CK (l.drop i) (kws.drop nx)=([],2):=by
    rw[hdr];cases l.drop (i+1)with
    |nil=>rfl
    |cons v rest=>rw[Oe,k1];try rfl
   obtain⟨e1,e2⟩:=bad (A:=[]) (B:=[]) e;rw[k1]at hw;subst e2;clear hix hai hF1 hF2 hdr;obtain⟨xk,xv,xl,xc,xt,xs⟩:=x;simp only[Sx.cells]at hr hw;replace zz:=B9 s0 s1 s7 s8 s9 s10 hll hd hdp hr;refine wt zz ?_;replace zz:=BO s0 s1 s7 s8 s9 s10 hll hdp hr;refine uU zz (hw _) ?_;replace zz:=Al s0 s1 s7 s8 s9 s10;refine wt zz ?_;exact QV (c:=2) e1 rfl hI
  |true=>
   rw[k1]at hw;rcases hai with⟨ha1,ha2⟩|⟨k,hkk,ha2,ha3⟩
   ·have e:CK (l.drop i) (kws.drop nx)=([],2):=by
     rw[hdr];cases l.drop (i+1)with
     |nil=>rfl
     |cons v rest=>rw[Oe,k1,ha1];try rfl
    obtain⟨e1,e2⟩:=bad (A:=[]) (B:=[]) e;rw[ha2]at hix;subst e2;clear hF1 hF2 hdr;obtain⟨xk,xv,xl,xc,xt,xs⟩:=x;simp only[Sx.cells,Aj]at hr hw hix;replace zz:=B9 s0 s1 s7 s8 s9 s10 hll hd hdp hr;refine wt zz ?_;replace zz:=BO s0 s1 s7 s8 s9 s10 hll hdp hr;refine uU zz (hw _) ?_;repeat'(first|refine cK ?_|(refine nK ?_;try exact zI)|(refine Lj (by decide+kernel) ?_;simp only[Ty.w,simprocAttr,s0,s1,s7,s8,s9,s10,hll,hks,hdp,hr,htk,T1,b0,b1,B8,Bl,CT,Ce])|(refine EX _ (by(try simp only[Ty.w,simprocAttr,s0,s1,s7,s8,s9,s10,hll,hks,hdp,hr,htk,T1,b0,b1,B8,Bl,CT,Ce]);rfl) (λhb=>?_) (λhb=>?_)<;>(try simp only[DD,Bg,D7,simprocAttr]at hb)<;>(try(exfalso;omega)))|(refine hK _ _ ?_;clear hK;(try simp only[Au,simprocAttr])))
    (first|refine Mh (hix _) (by(try simp only[Ty.w,simprocAttr,s0,s1,s7,s8,s9,s10,hll,hks,hdp,hr,htk,T1,b0,b1,B8,Bl,CT,Ce]);try rfl) ?_|refine Ip (hix _) (by(try simp only[Ty.w,simprocAttr,s0,s1,s7,s8,s9,s10,hll,hks,hdp,hr,htk,T1,b0,b1,B8,Bl,CT,Ce]);try rfl) (by simp only[Ty.w,simprocAttr,s0,s1,s7,s8,s9,s10,hll,hks,hdp,hr,htk,T1,b0,b1,B8,Bl,CT,Ce];try trivial) ?_);simp only[Ty.w,simprocAttr,B8,s0,s1,s7,s8,s9,s10,hll,hks,hdp,hr,htk,T1,b0,b1,B8,Bl,CT,Ce]
    replace zz:=Al s0 s1 s7 s8 s9 s10;refine wy zz ?_;exact QV (c:=2) e1 rfl hI
   ·rw [ha2]at hix;have z0:decide ((k:Int)<0)=false:=(by simp);by_cases hl2:i+1<l.length
    ·have q4:decide (((i+1:Nat):Int)>=(l.length:Int))=false:=(by simp;omega);have q5:(((i+1:Nat):Int)<(l.length:Int))=True:=DU (by omega);have T3:((i+1:Nat):Int).toNat=i+1:=JD (i+1);have b3:(0:Int)<=((i+1:Nat):Int):=(by omega);have w3:IntKind.i64.wrap ((k:Int)+1)=((k+1:Nat):Int):=(by rw[List.length_drop]at hkk;rw[BZ (by omega) (by omega)];omega);have w4:IntKind.i64.wrap ((nx:Int)+((k+1:Nat):Int))=((nx+(k+1):Nat):Int):=(by rw[List.length_drop]at hkk;rw[BZ (by omega) (by omega)];omega);obtain⟨v,hv⟩: ∃ v,l[i+1]? =some v:=⟨_,List.getElem?_eq_getElem hl2⟩;have hrv:=Sx.CL hv;have e:CK (l.drop i) (kws.drop nx)=((Aj x,v)::(CK (l.drop (i+2)) (kws.drop (nx+(k+1)))).1,(CK (l.drop (i+2)) (kws.drop (nx+(k+1)))).2):=by
      rw[hdr,Cd hv,Oe,k1,ha3,List.drop_drop];try rfl
     rw[e]at hF1 hF2;simp only at hF1 hF2;obtain⟨H1,H3,t1,t2,t3,u1,u2,u3,hI2⟩:=hI.push (Aj x) v;have hN:(AN (acc.map (·.1))).length=acc.length:=(by rw[GP,List.length_map]);have hV:(Sx.rows (acc.map (·.2))).length=acc.length:=(by rw[Sx.B4,List.length_map]);have bb1:(acc.length+1)*16<=140737488355328:=(by omega);have bb2:(acc.length+1)*72<=140737488355328:=(by omega);have ln1:(acc.map (·.1)).length=acc.length:=List.length_map ..;have ln2:(acc.map (·.2)).length=acc.length:=List.length_map ..;rw[ln1,ln2]at hI2;have hac2:acc++(Aj x,v)::(CK (l.drop (i+2)) (kws.drop (nx+(k+1)))).1=(acc++[(Aj x,v)])++(CK (l.drop (i+2)) (kws.drop (nx+(k+1)))).1:=(by simp);rw[hac2]at hF1;have hm1:(acc++[(Aj x,v)]).map (·.1)=acc.map (·.1)++[Aj x]:=(by simp);have hm2:(acc++[(Aj x,v)]).map (·.2)=acc.map (·.2)++[v]:=(by simp);rw[← hm1, ← hm2]at hI2;have hal:(acc++[(Aj x,v)]).length=acc.length+1:=(by simp);generalize acc++[(Aj x,v)]=acc2 at hI2 hF1 hal;clear hac2 hm1 hm2 hdr e hx hv bad hI ln1 ln2;rw[List.length_drop]at hkk;obtain⟨xk,xv,xl,xc,xt,xs⟩:=x;obtain⟨yk,yv,yl,yc,yt,ys⟩:=v;simp only[Sx.cells,Aj]at hr hw hix hrv t1 t2 t3 u1 u2 u3 hI2;replace zz:=B9 s0 s1 s7 s8 s9 s10 hll hd hdp hr;refine wt zz ?_;replace zz:=BO s0 s1 s7 s8 s9 s10 hll hdp hr;refine uU zz (hw _) ?_;repeat'(first|refine cK ?_|(refine nK ?_;try exact zI)|(refine Lj (by decide+kernel) ?_;simp only[Ty.w,simprocAttr,s0,s1,s7,s8,s9,s10,hll,hks,hdp,hr,htk,T1,b0,b1,B8,Bl,CT,Ce])|(refine EX _ (by(try simp only[Ty.w,simprocAttr,s0,s1,s7,s8,s9,s10,hll,hks,hdp,hr,htk,T1,b0,b1,B8,Bl,CT,Ce]);rfl) (λhb=>?_) (λhb=>?_)<;>(try simp only[DD,Bg,D7,simprocAttr]at hb)<;>(try(exfalso;omega)))|(refine hK _ _ ?_;clear hK;(try simp only[Au,simprocAttr])))
     (first|refine Mh (hix _) (by(try simp only[Ty.w,simprocAttr,s0,s1,s7,s8,s9,s10,hll,hks,hdp,hr,htk,T1,b0,b1,B8,Bl,CT,Ce]);try rfl) ?_|refine Ip (hix _) (by(try simp only[Ty.w,simprocAttr,s0,s1,s7,s8,s9,s10,hll,hks,hdp,hr,htk,T1,b0,b1,B8,Bl,CT,Ce]);try rfl) (by simp only[Ty.w,simprocAttr,s0,s1,s7,s8,s9,s10,hll,hks,hdp,hr,htk,T1,b0,b1,B8,Bl,CT,Ce];try trivial) ?_);simp only[Ty.w,simprocAttr,B8,s0,s1,s7,s8,s9,s10,hll,hks,hdp,hr,htk,T1,b0,b1,B8,Bl,CT,Ce]
     (repeat'(first|refine cK ?_|(refine nK ?_;try exact zI)|refine Af λK hK=>?_|((first|refine Bn ?_|refine UM (by decide+kernel) (λK hK=>?_));simp only[Ty.w,simprocAttr,s0,s1,s7,s8,s9,s10,hll,z0,w1,w2,w3,w4,q4,q5,hdp,hr,hrv,T3,b3,t1,t2,t3,u1,u2,u3,hN,hV,bb1,bb2])|(refine Gh ?_;(try simp only[Au,simprocAttr]))|(refine EX _ (by(try simp only[Ty.w,simprocAttr,s0,s1,s7,s8,s9,s10,hll,z0,w1,w2,w3,w4,q4,q5,hdp,hr,hrv,T3,b3,t1,t2,t3,u1,u2,u3,hN,hV,bb1,bb2]);rfl) (λhb=>?_) (λhb=>?_)<;>(try simp only[DD,Bg,D7,simprocAttr]at hb)<;>(try(exfalso;omega)))|(refine hK _ _ ?_;clear hK;(try simp only[Au,simprocAttr]))|(with_reducible refine Nm (by simp only[List.forall_mem_cons,Ty.w,simprocAttr,s0,s1,s7,s8,s9,s10,hll,z0,w1,w2,w3,w4,q4,q5,hdp,hr,hrv,T3,b3,t1,t2,t3,u1,u2,u3,hN,hV,bb1,bb2]<;>(repeat' apply And.intro)<;>first|trivial|exact .inl (by decide+kernel)) ?_;try simp only[Ty.w,simprocAttr,s0,s1,s7,s8,s9,s10,hll,z0,w1,w2,w3,w4,q4,q5,hdp,hr,hrv,T3,b3,t1,t2,t3,u1,u2,u3,hN,hV,bb1,bb2])));exact⟨l.length-(i+2),by omega,i+2,nx+(k+1),_,_,acc2,rfl,rfl,rfl,rfl,by omega,by omega,by omega,rfl,hI2,hF1,hF2⟩
    ·have q4:decide (((i+1:Nat):Int)>=(l.length:Int))=true:=(by simp;omega);have e:CK (l.drop i) (kws.drop nx)=([],2):=by
      rw[hdr,List.drop_eq_nil_of_le (by omega)];try rfl
     obtain⟨e1,e2⟩:=bad (A:=[]) (B:=[]) e;subst e2;clear hF1 hF2 hdr;obtain⟨xk,xv,xl,xc,xt,xs⟩:=x;simp only[Sx.cells,Aj]at hr hw hix;replace zz:=B9 s0 s1 s7 s8 s9 s10 hll hd hdp hr;refine wt zz ?_;replace zz:=BO s0 s1 s7 s8 s9 s10 hll hdp hr;refine uU zz (hw _) ?_;repeat'(first|refine cK ?_|(refine nK ?_;try exact zI)|(refine Lj (by decide+kernel) ?_;simp only[Ty.w,simprocAttr,s0,s1,s7,s8,s9,s10,hll,hks,hdp,hr,htk,T1,b0,b1,B8,Bl,CT,Ce])|(refine EX _ (by(try simp only[Ty.w,simprocAttr,s0,s1,s7,s8,s9,s10,hll,hks,hdp,hr,htk,T1,b0,b1,B8,Bl,CT,Ce]);rfl) (λhb=>?_) (λhb=>?_)<;>(try simp only[DD,Bg,D7,simprocAttr]at hb)<;>(try(exfalso;omega)))|(refine hK _ _ ?_;clear hK;(try simp only[Au,simprocAttr])))
     (first|refine Mh (hix _) (by(try simp only[Ty.w,simprocAttr,s0,s1,s7,s8,s9,s10,hll,hks,hdp,hr,htk,T1,b0,b1,B8,Bl,CT,Ce]);try rfl) ?_|refine Ip (hix _) (by(try simp only[Ty.w,simprocAttr,s0,s1,s7,s8,s9,s10,hll,hks,hdp,hr,htk,T1,b0,b1,B8,Bl,CT,Ce]);try rfl) (by simp only[Ty.w,simprocAttr,s0,s1,s7,s8,s9,s10,hll,hks,hdp,hr,htk,T1,b0,b1,B8,Bl,CT,Ce];try trivial) ?_);simp only[Ty.w,simprocAttr,B8,s0,s1,s7,s8,s9,s10,hll,hks,hdp,hr,htk,T1,b0,b1,B8,Bl,CT,Ce]
     replace zz:=B9 s0 s1 s7 s8 s9 s10 hll z0 w1 q4;refine wy zz ?_;exact QV (c:=2) e1 rfl hI
 ·have hd:decide ((i:Int)<(l.length:Int))=false:=by simp;omega
  rw[List.drop_eq_nil_of_le (by omega)]at hF1 hF2;have e0:CK [] (kws.drop nx)=([],0):=rfl;rw[e0]at hF1 hF2;simp only[List.append_nil]at hF1 hF2;subst hF2;replace zz:=BT s0 s1 s7 s8 s9 s10 hll hd;refine wt zz ?_;exact QV (c:=0) hF1 rfl hI
def Bc(z:Nat)(rows:List (List PV))(q:PV):Prop:=q= .A2 z rows\/(rows=[]/\q= .sc (.slice none 0 0))
theorem Bc.cell{z:Nat}{rows:List (List PV)}{q:PV}(h:Bc z rows q):q.cells=[q]/\Cx q=true:=by
 rcases h with rfl|⟨_,rfl⟩<;>exact⟨rfl,rfl⟩
theorem Bc.CF{z n:Nat}{rows:List (List PV)}{q:PV}(h:Bc z rows q)(H:A1)(hin:BC n rows):AJ n H (.A2 z rows) q:=by
 rcases h with rfl|⟨rfl,rfl⟩
 ·exact K1 hin
 ·simp only[AJ];exact .inr (.inl ⟨trivial,.inr A5⟩)
theorem Y2{x:Sx}(h:((Dn x).2==0)=true): ∃ a n rest,C9 x=a::n::rest:=by
 unfold Dn at h;cases hk:C9 x with
 |nil=>rw[hk]at h;simp at h
 |cons a l=>
  cases l with
  |nil=>rw[hk]at h;simp at h
  |cons n rest=>exact⟨a,n,rest,rfl⟩
abbrev nB:List PV:=[.sc (.string ⟨#[]⟩),.sc (.slice none 0 0),.sc (.int .i64 0),.sc (.string ⟨#[]⟩),.sc (.string ⟨#[]⟩),.sc (.slice none 0 0),.sc (.slice none 0 0),.sc (.slice none 0 0),.sc (.slice none 0 0),.sc (.slice none 0 0)]
structure HB(h:A1)(a:Ac)(H:A1):Prop where
 grow:AH h H
 lt:h.next+1<H.next
 TR:H.obj h.next=some (.arr 10 [nB])
 ex: ∃ P C0 gop gna gar gpa gex gki,a.pre= .mk gop gna gar gpa gex gki/\H.obj (h.next+1)=some (.arr 10 [[A4 a.name,P,.sc (.int .i64 a.cost),A4 gop,A4 gna,.A2 1 (AN gar),.A2 2 (A9 gpa),.A2 5 (Ex.rows gex),.A2 6 (Fm.rows gki),C0]])/\Bc 2 (A9 a.params) P/\Bc 15 (Ae a.changes) C0
theorem HB.tmp{h H:A1}{a:Ac}(i:HB h a H)(o o':An):HB h a (HO H o o'):=by
 obtain⟨g,lt,o1,P,C0,gop,gna,gar,gpa,gex,gki,e0,eo,eP,eC0⟩:=i;exact⟨g.tmp o o',by rw[IP];omega,by rw[IQ (by omega)];exact o1,P,C0,gop,gna,gar,gpa,gex,gki,e0,by rw[IQ (by omega)];exact eo,eP,eC0⟩
theorem HB.upd{h H:A1}{a a':Ac}(i:HB h a H){P C0:PV}{gop gna:ByteArray}{gar:List ByteArray}{gpa:List Pm}{gex:List Ex}{gki:List Fm}(e0:a'.pre= .mk gop gna gar gpa gex gki)(eP:Bc 2 (A9 a'.params) P)(eC0:Bc 15 (Ae a'.changes) C0):
  HB h a' (H.set (h.next+1) (.arr 10 [[A4 a'.name,P,.sc (.int .i64 a'.cost),A4 gop,A4 gna,.A2 1 (AN gar),.A2 2 (A9 gpa),.A2 5 (Ex.rows gex),.A2 6 (Fm.rows gki),C0]])):=by
 obtain⟨g,lt,o1,_⟩:=i;exact⟨g.set (by omega) _,lt,(Az (by omega)).trans o1,P,C0,gop,gna,gar,gpa,gex,gki,e0,DC,eP,eC0⟩
theorem HB.fin{h H:A1}{X:An}{a:Ac}{F:Ac × Int}{c:Int}{u:PV}(hF:F=(a,c))(hu:AS c=u)(g:AH h H){P C0:PV}{gop gna:ByteArray}{gar:List ByteArray}{gpa:List Pm}{gex:List Ex}{gki:List Fm}(e0:a.pre= .mk gop gna gar gpa gex gki)(eP:Bc 2 (A9 a.params) P)(eC0:Bc 15 (Ae a.changes) C0):
  AJ h.next (H.set h.next X) (.Am [.agg (DE F.1),AS F.2]) (.Am [.agg [A4 a.name,P,.sc (.int .i64 a.cost),A4 gop,A4 gna,.A2 1 (AN gar),.A2 2 (A9 gpa),.A2 5 (Ex.rows gex),.A2 6 (Fm.rows gki),C0],u])/\AH h (H.set h.next X):=by
 subst hF;subst hu;refine⟨?_,g.set (AG _) _⟩;obtain⟨u,hu⟩:=Do c;rw[hu];obtain⟨an,ap,ac,apre,achanges⟩:=a;simp only at e0 eP eC0;subst e0;skip;simp only[DE,Fm.cells,List.cons_append,List.nil_append];have hP:=eP.CF (n:=h.next) (H.set h.next X) (C6 _ _);have hC0:=eC0.CF (n:=h.next) (H.set h.next X) (Gm _ _);unfold AJ;refine⟨_,rfl,?_⟩;unfold AP;refine⟨?_,by simp only[AP,AJ,KT]⟩;unfold AJ;refine⟨_,rfl,?_⟩;unfold AP;refine⟨Bk,?_⟩;unfold AP;refine⟨hP,?_⟩;unfold AP;refine⟨Bk,?_⟩;unfold AP;refine⟨Bk,?_⟩;unfold AP;refine⟨Bk,?_⟩;unfold AP;refine⟨BA (Dc _ _),?_⟩;unfold AP;refine⟨BA (C6 _ _),?_⟩;unfold AP;refine⟨BA (E0 _ _),?_⟩;unfold AP;refine⟨BA (Ed _ _),?_⟩;unfold AP;refine⟨hC0,?_⟩;simp only[AP]
def T6(lc:Int)(r:Ac × Int):Ac × Int:=bif r.2==0 then(r.1,lc)else r
theorem nC(a:Ac)(kw:ByteArray)(v:Sx)(l:List (ByteArray × Sx)):H7 a ((kw,v)::l)=bif (EP a kw v).2==0 then H7 (EP a kw v).1 l else EP a kw v:=rfl
theorem nD{x:Sx}(hok:x.ok)(hsm:x.small)(h:A1):A6 prog 121 [.agg x.cells] h λr h'=>r= .Am [.agg (DE (H8 x).1),AS (H8 x).2]/\h'=h:=by
 refine A6.CF Ty.Uj ?_;have hH:=λh:A1=>Xy hok h;have hlen:= @Y2 x;generalize hF:H8 x=F;unfold H8 at hF;generalize Dn x=HD at hF hH hlen;obtain⟨na,hc⟩:=HD;simp only at hF hH hlen;obtain⟨kind,value,line,col,text,kids⟩:=x;simp only[C9]at hF hlen;simp only[Sx.cells]at hH⊢;simp only[Sx.ok]at hok;simp only[Sx.small]at hsm;have hko:=Sx.Bz.1 hok.2.2.2.2;have hkm:=Sx.Eh.1 hsm.2;have hkl:=hsm.1;have hrl:=Sx.B4 kids
 clear hok hsm;have hal:=λh:A1=>LD (h:=h);simp only[Bw,Fm.cells]at hal;generalize hR:Sx.rows kids=R at hH hrl⊢;refine AF func121 ntmps121 results121 Ty.Uj ?_;refine wt A5 ?_;refine uU A5 (hal _) ?_;refine xG 2 @B1 ?_;refine⟨?_⟩;refine Cq (λS H=>S 1= .Ag [.sc (.int .i64 kind),.sc (.int .i64 value),.sc (.int .i64 line),.sc (.int .i64 col),A4 text,.A2 6 R]/\S 2= .ptr h.next 0 0/\S 4= .ptr (h.next+1) 0 0/\HB h (ER ⟨#[]⟩) H) ?_ ?_
 ·refine ⟨sq A5,sq A5,sq A5,(((AH.refl h).new _).new _).set (by omega) _,by simp only[A1.set,A1.new];omega,?_,_,_,_,_,_,_,_,_,rfl,DC,.inr ⟨rfl,rfl⟩,.inr ⟨rfl,rfl⟩⟩;rw[Az (by omega),Dt (by simp only[A1.new];omega)];simp only[A1.new,AO]
 clear hal;rintro S H ⟨s1,s2,s4,hI⟩;have hS:=λ{P C0:PV}{gop gna:ByteArray}{gar:List ByteArray}{gpa:List Pm}{gex:List Ex}{gki:List Fm}(e0:(ER na).pre= .mk gop gna gar gpa gex gki)(eP:Bc 2 (A9 (ER na).params) P)(eC0:Bc 15 (Ae (ER na).changes) C0)=>hI.upd (a':=ER na) e0 eP eC0;obtain⟨g,lt,o1,P,C0,gop,gna,gar,gpa,gex,gki,e0,eo,eP,eC0⟩:=hI;have hS:=hS (by exact e0) eP eC0;simp only[ER]at eo;have cP:=eP.cell;have cC0:=eC0.cell;have n1:(h.next=h.next+1)=False:=BB (by omega);cases hcc:hc==0 with
 |false=>
  have er:AS hc=Ao hc:=by simp only[AS,hcc,AL]
  rw[hcc]at hF;simp only[AL]at hF;rw[er]at hH;simp only[Ao]at hH;refine wt (AY s1 s2 s4) ?_;replace zz:=Aa s1 s2 s4 eo;refine uU zz (hH _) ?_;replace zz:=Ah s2 s4 eo o1 n1 cP cC0;refine wt zz ?_;exact HB.fin (a:=ER na) hF.symm er (g.set (by omega) _) (by exact e0) eP eC0
 |true=>
  have er:AS hc= .sc .nilIface:=by simp only[AS,hcc,AC]
  rw[hcc]at hF;simp only[AC]at hF;rw[er]at hH;obtain⟨ka,kn,rest,rfl⟩:=hlen hcc;simp only[List.drop_succ_cons,List.drop_zero]at hF;have hpt:=λh:A1=>Y1 (l:=rest) (kws:=Ib) (by simp only[List.length_cons]at hkl;omega) (by decide) h;have hpm:=T4 rest Ib;have hpl:=T5 rest Ib;have q2:(2:Int)<=(R.length:Int):=by rw[hrl];simp only[List.length_cons];omega
  have ht:List.take ((R.length:Int)-2).toNat (List.drop 2 R)=Sx.rows rest:=by
   rw[← hR];simp only[Sx.rows,List.drop_succ_cons,List.drop_zero,List.length_cons];rw[List.take_of_length_le (by omega)]
  generalize CK rest Ib=PS at hF hpt hpm hpl;obtain⟨ps,lc⟩:=PS;simp only at hF hpt hpm hpl;change T6 lc (H7 (ER na) ps)=F at hF;obtain⟨lu,hlu⟩:=Do lc;rw[hlu]at hpt;have hpl2:ps.length<=1048576:=by simp only[List.length_cons]at hkl;omega
  have hrlN:(AN (ps.map (·.1))).length=ps.length:=by rw[GP,List.length_map]
  have hrlV:(Sx.rows (ps.map (·.2))).length=ps.length:=by rw[Sx.B4,List.length_map]
  have hvo: ∀ kv∈ps,kv.2.ok/\kv.2.small:=λkv hkv=>⟨hko _ (by simp[hpm kv hkv]),hkm _ (by simp[hpm kv hkv])⟩
  clear hpm hpl hko hkm hkl hR hrl hlen;refine wt (AY s1 s2 s4) ?_;replace zz:=Aa s1 s2 s4 eo;refine uU zz (hH _) ?_;replace zz:=BT s1 s2 s4 eo q2 ht @CT @Ce;refine wt zz ?_;replace zz:=Ak s1 s2 s4 q2 ht;refine uU zz (hpt _) ?_;refine xG 7 (AY s1 s2 s4) ?_;refine⟨?_⟩;refine Cq (λS H=>S 2= .ptr h.next 0 0/\S 4= .ptr (h.next+1) 0 0/\S 6= .A2 1 (AN (ps.map (·.1)))/\S 7= .A2 6 (Sx.rows (ps.map (·.2)))/\S 8= .sc lu/\HB h (ER na) H) ⟨sq s2,sq s4,sq A5,sq A5,sq A5,hS⟩ ?_
  clear s1 s2 s4 hS hH hpt ht q2;rintro S H ⟨s2,s4,s6,s7,s8,hI⟩;refine wt (uu s7 hrlV) ?_;refine CG (λm S H=>S 2= .ptr h.next 0 0/\S 4= .ptr (h.next+1) 0 0/\S 6= .A2 1 (AN (ps.map (·.1)))/\S 32= .A2 6 (Sx.rows (ps.map (·.2)))/\S 8= .sc lu/\S 33= .sc (.int .i64 ps.length)/\ ∃ (k:Nat)(a:Ac),S 34= .sc (.int .i64 k)/\k<=ps.length/\m=ps.length-k/\HB h a H/\F=T6 lc (H7 a (ps.drop k))) ps.length ?_ ?_
  ·simp only[Ty.w,simprocAttr,s2,s4,s6,s8];exact⟨0,_,rfl,BY _,rfl,hI,by rw[List.drop_zero];exact hF.symm⟩
  try clear zz
  clear s2 s4 s6 s7 s8 hI hF S H;rintro m S H ⟨s2,s4,s6,sV,s8,sL,k,a,sI,hk,rfl,hI,hF⟩;by_cases hlt:k<ps.length
  ·have hd:decide ((k:Int)<(ps.length:Int))=true:=(by simp;omega);have w7:IntKind.i64.wrap ((k:Int)+1)=((k+1:Nat):Int):=(by rw[BZ (by omega) (by omega)];omega);obtain⟨⟨kw,v⟩,hx⟩: ∃ x,ps[k]? =some x:=⟨_,List.getElem?_eq_getElem hlt⟩;have hrk:(AN (ps.map (·.1)))[k]? =some [A4 kw]:=Kr (by rw[List.getElem?_map,hx];try rfl);have hrv:(Sx.rows (ps.map (·.2)))[k]? =some v.cells:=Sx.CL (by rw[List.getElem?_map,hx];try rfl);obtain⟨hvok,hvsm⟩:=hvo _ (List.mem_of_getElem? hx);simp only at hvok hvsm;rw[Cd hx,nC]at hF;clear hx;obtain⟨vk,vv,vl,vc,vt,vs⟩:=v;simp only[Sx.cells]at hrv;replace zz:=BO s2 s4 s6 s8 sV sL sI hd hrv;refine xH 10 zz ?_;refine⟨?_⟩;refine H4 10 rfl (sq A5) (λn H=>FC n H (.mk vk vv vl vc vt vs)) ?_;refine Cq (λS H=>S 2= .ptr h.next 0 0/\S 4= .ptr (h.next+1) 0 0/\S 6= .A2 1 (AN (ps.map (·.1)))/\S 32= .A2 6 (Sx.rows (ps.map (·.2)))/\S 8= .sc lu/\S 33= .sc (.int .i64 ps.length)/\S 34= .sc (.int .i64 k)/\S 9= .sc (.int .i64 k)/\S 10= .Ag [.sc (.int .i64 vk),.sc (.int .i64 vv),.sc (.int .i64 vl),.sc (.int .i64 vc),A4 vt,.A2 6 (Sx.rows vs)]/\HB h a H) ⟨sq s2,sq s4,sq s6,sq sV,sq s8,sq sL,sq sI,sq A5,by simp only[Ty.w,simprocAttr,Sx.cells],hI.tmp _ _⟩ ?_;clear s2 s4 s6 s8 sV sL sI hd hrv hI;rintro S H ⟨s2,s4,s6,sV,s8,sL,sI,s9,s10,hI⟩;refine DB (λS H=>S 2= .ptr h.next 0 0/\S 4= .ptr (h.next+1) 0 0/\S 6= .A2 1 (AN (ps.map (·.1)))/\S 32= .A2 6 (Sx.rows (ps.map (·.2)))/\S 8= .sc lu/\S 33= .sc (.int .i64 ps.length)/\S 34= .sc (.int .i64 k)/\S 5=AS (EP a kw (.mk vk vv vl vc vt vs)).2/\HB h (EP a kw (.mk vk vv vl vc vt vs)).1 H) ?_ ?_
   ·clear hF hvo;have b0:(0:Int)<=(k:Int):=(by omega);have T1:(k:Int).toNat=k:=JD k;have bl:((k:Int)<(ps.length:Int))=True:=DU (by omega);cases q0:(kw.data.toList==(#[58,112,97,114,97,109,101,116,101,114,115]:Array UInt8).toList)with
    |true=>
     have e:EP a kw (.mk vk vv vl vc vt vs)=({a with params:=(GJ (.mk vk vv vl vc vt vs)).1},(GJ (.mk vk vv vl vc vt vs)).2):=(by unfold EP;simp only[show A3 kw Cj=true from q0,AC,AL]);rw[e];have hc1:=λh:A1=>Xx (x:=(.mk vk vv vl vc vt vs)) hvok hvsm h;generalize GJ (.mk vk vv vl vc vt vs)=L at hc1;obtain⟨l,c⟩:=L;obtain⟨u,hu⟩:=Do c;simp only[Sx.cells,hu]at hc1⊢;have hS:=λ{P C0:PV}{gop gna:ByteArray}{gar:List ByteArray}{gpa:List Pm}{gex:List Ex}{gki:List Fm}(e0:({a with params:=l}).pre= .mk gop gna gar gpa gex gki)(eP:Bc 2 (A9 ({a with params:=l}).params) P)(eC0:Bc 15 (Ae ({a with params:=l}).changes) C0)=>hI.upd (a':={a with params:=l}) e0 eP eC0;obtain⟨g,lt,o1,P,C0,gop,gna,gar,gpa,gex,gki,e0,eo,eP,eC0⟩:=hI;have hS:=hS (by exact e0) (.inl rfl) eC0;(repeat'(first|refine cK ?_|(refine nK ?_;try exact zI)|refine Af λK hK=>?_|(refine Ci ?_)|((first|refine Bn ?_|refine FN (λK hK=>?_));simp only[Ty.w,simprocAttr,s2,s4,s6,s9,s10,hrk,b0,T1,bl,hrlN,q0])|(refine hK _ _ ?_;clear hK;(try simp only[Au,simprocAttr]))));replace zz:=Ah s2 s4 s6 s8 s9 s10 eo;refine uU zz (hc1 _) ?_;replace zz:=BT s2 s4 s6 s8 sV sL sI eo;(repeat'(first|refine cK ?_|refine nK ?_|(refine uN hK ?_;clear hK)|apply zI));exact⟨sq s2,sq s4,sq s6,sq sV,sq s8,sq sL,sq sI,sq A5,hS⟩
    |false=>
     cases q1:(kw.data.toList==(#[58,99,111,115,116]:Array UInt8).toList)with
     |true=>
      have hc1:=λh:A1=>Xw (x:=(.mk vk vv vl vc vt vs)) h;have e:EP a kw (.mk vk vv vl vc vt vs)=({a with cost:=(FL (.mk vk vv vl vc vt vs)).1},bif (FL (.mk vk vv vl vc vt vs)).2==0 then(bif decide ((FL (.mk vk vv vl vc vt vs)).1<0)then 1 else 0)else(FL (.mk vk vv vl vc vt vs)).2):=(by unfold EP;simp only[show A3 kw Cj=false from q0,show A3 kw G6=true from q1,AC,AL]);rw[e];clear e;generalize FL (.mk vk vv vl vc vt vs)=L at hc1;obtain⟨n,c⟩:=L;simp only[Sx.cells]at hc1⊢;have hS:=λ{P C0:PV}{gop gna:ByteArray}{gar:List ByteArray}{gpa:List Pm}{gex:List Ex}{gki:List Fm}(e0:({a with cost:=n}).pre= .mk gop gna gar gpa gex gki)(eP:Bc 2 (A9 ({a with cost:=n}).params) P)(eC0:Bc 15 (Ae ({a with cost:=n}).changes) C0)=>hI.upd (a':={a with cost:=n}) e0 eP eC0;obtain⟨g,lt,o1,P,C0,gop,gna,gar,gpa,gex,gki,e0,eo,eP,eC0⟩:=hI;have hS:=hS (by exact e0) eP eC0;cases hc2:c==0 with
      |false=>
       have er:AS c=Ao c:=(by simp only[AS,hc2,AL]);rw[er]at hc1;simp only[AL,er,Ao]at hc1⊢;(repeat'(first|refine cK ?_|(refine nK ?_;try exact zI)|refine Af λK hK=>?_|(refine Bn ?_;simp only[Ty.w,simprocAttr,s2,s4,s6,s9,s10,hrk,b0,T1,bl,hrlN,q0,q1])|(refine hK _ _ ?_;clear hK;(try simp only[Au,simprocAttr]))));replace zz:=Ah s2 s4 s6 s8 s9 s10 eo;refine uU zz (hc1 _) ?_;replace zz:=BT s2 s4 s6 s8 sV sL sI eo;(repeat'(first|refine cK ?_|refine nK ?_|refine Af λK hK=>?_|refine Ci ?_|refine uR zz ?_|refine uK ?_|(refine uN hK ?_;clear hK)|apply zI));exact⟨sq s2,sq s4,sq s6,sq sV,sq s8,sq sL,sq sI,sq A5,hS⟩
      |true=>
       have er:AS c= .sc .nilIface:=(by simp only[AS,hc2,AC]);rw[er]at hc1;simp only[AC];cases hn:decide (n<0)with
       |true=>
        have e1:AS 1=Ao 1:=rfl;simp only[AC,e1,Ao];(repeat'(first|refine cK ?_|(refine nK ?_;try exact zI)|refine Af λK hK=>?_|(refine Bn ?_;simp only[Ty.w,simprocAttr,s2,s4,s6,s9,s10,hrk,b0,T1,bl,hrlN,q0,q1])|(refine hK _ _ ?_;clear hK;(try simp only[Au,simprocAttr]))));replace zz:=Ah s2 s4 s6 s8 s9 s10 eo;refine uU zz (hc1 _) ?_;replace zz:=BO s2 s4 s6 s8 sV sL sI eo hn;(repeat'(first|refine cK ?_|refine nK ?_|refine Af λK hK=>?_|refine Ci ?_|refine uR zz ?_|refine uQ zz λK hK=>?_|(refine uN hK ?_;clear hK)|apply zI));exact⟨sq s2,sq s4,sq s6,sq sV,sq s8,sq sL,sq sI,sq A5,hS⟩
       |false=>
        have e1:AS 0= .sc .nilIface:=rfl;simp only[AL,e1];(repeat'(first|refine cK ?_|(refine nK ?_;try exact zI)|refine Af λK hK=>?_|(refine Bn ?_;simp only[Ty.w,simprocAttr,s2,s4,s6,s9,s10,hrk,b0,T1,bl,hrlN,q0,q1])|(refine hK _ _ ?_;clear hK;(try simp only[Au,simprocAttr]))));replace zz:=Ah s2 s4 s6 s8 s9 s10 eo;refine uU zz (hc1 _) ?_;replace zz:=BO s2 s4 s6 s8 sV sL sI eo hn;(repeat'(first|refine cK ?_|refine nK ?_|refine Af λK hK=>?_|refine Ci ?_|refine uR zz ?_|refine uK ?_|(refine uN hK ?_;clear hK)|apply zI));exact⟨sq s2,sq s4,sq s6,sq sV,sq s8,sq sL,sq sI,sq A5,hS⟩
     |false=>
      cases q2:(kw.data.toList==(#[58,112,114,101,99,111,110,100,105,116,105,111,110]:Array UInt8).toList)with
      |true=>
       have e:EP a kw (.mk vk vv vl vc vt vs)=({a with pre:=(Co (.mk vk vv vl vc vt vs)).1},(Co (.mk vk vv vl vc vt vs)).2):=(by unfold EP;simp only[show A3 kw Cj=false from q0,show A3 kw G6=false from q1,show A3 kw GY=true from q2,AC,AL]);rw[e];have hc1:=λh:A1=>OM (x:=(.mk vk vv vl vc vt vs)) hvok h;generalize Co (.mk vk vv vl vc vt vs)=L at hc1;obtain⟨⟨fop,fna,far,fpa,fex,fki⟩,c⟩:=L;obtain⟨u,hu⟩:=Do c;simp only[Sx.cells,Fm.cells,hu]at hc1⊢;have hS:=λ{P C0:PV}{gop gna:ByteArray}{gar:List ByteArray}{gpa:List Pm}{gex:List Ex}{gki:List Fm}(e0:({a with pre:=Fm.mk fop fna far fpa fex fki}).pre= .mk gop gna gar gpa gex gki)(eP:Bc 2 (A9 ({a with pre:=Fm.mk fop fna far fpa fex fki}).params) P)(eC0:Bc 15 (Ae ({a with pre:=Fm.mk fop fna far fpa fex fki}).changes) C0)=>hI.upd (a':={a with pre:=Fm.mk fop fna far fpa fex fki}) e0 eP eC0;obtain⟨g,lt,o1,P,C0,gop,gna,gar,gpa,gex,gki,e0,eo,eP,eC0⟩:=hI;have hS:=hS rfl eP eC0;(repeat'(first|refine cK ?_|(refine nK ?_;try exact zI)|refine Af λK hK=>?_|(refine Ci ?_)|((first|refine Bn ?_|refine FN (λK hK=>?_));simp only[Ty.w,simprocAttr,s2,s4,s6,s9,s10,hrk,b0,T1,bl,hrlN,q0,q1,q2])|(refine hK _ _ ?_;clear hK;(try simp only[Au,simprocAttr]))));replace zz:=Ah s2 s4 s6 s8 s9 s10 eo;refine uU zz (hc1 _) ?_;replace zz:=BT s2 s4 s6 s8 sV sL sI eo;(repeat'(first|refine cK ?_|refine nK ?_|(refine uN hK ?_;clear hK)|apply zI));exact⟨sq s2,sq s4,sq s6,sq sV,sq s8,sq sL,sq sI,sq A5,hS⟩
      |false=>
       have e:EP a kw (.mk vk vv vl vc vt vs)=({a with changes:=(En (.mk vk vv vl vc vt vs)).1},(En (.mk vk vv vl vc vt vs)).2):=(by unfold EP;simp only[show A3 kw Cj=false from q0,show A3 kw G6=false from q1,show A3 kw GY=false from q2,AC,AL]);rw[e];have hc1:=λh:A1=>Sr (x:=(.mk vk vv vl vc vt vs)) hvok h;generalize En (.mk vk vv vl vc vt vs)=L at hc1;obtain⟨l,c⟩:=L;obtain⟨u,hu⟩:=Do c;simp only[Sx.cells,hu]at hc1⊢;have hS:=λ{P C0:PV}{gop gna:ByteArray}{gar:List ByteArray}{gpa:List Pm}{gex:List Ex}{gki:List Fm}(e0:({a with changes:=l}).pre= .mk gop gna gar gpa gex gki)(eP:Bc 2 (A9 ({a with changes:=l}).params) P)(eC0:Bc 15 (Ae ({a with changes:=l}).changes) C0)=>hI.upd (a':={a with changes:=l}) e0 eP eC0;obtain⟨g,lt,o1,P,C0,gop,gna,gar,gpa,gex,gki,e0,eo,eP,eC0⟩:=hI;have hS:=hS (by exact e0) eP (.inl rfl);(repeat'(first|refine cK ?_|(refine nK ?_;try exact zI)|refine Af λK hK=>?_|(refine Ci ?_)|((first|refine Bn ?_|refine FN (λK hK=>?_));simp only[Ty.w,simprocAttr,s2,s4,s6,s9,s10,hrk,b0,T1,bl,hrlN,q0,q1,q2])|(refine hK _ _ ?_;clear hK;(try simp only[Au,simprocAttr]))));replace zz:=Ah s2 s4 s6 s8 s9 s10 eo;refine uU zz (hc1 _) ?_;replace zz:=BT s2 s4 s6 s8 sV sL sI eo;(repeat'(first|refine cK ?_|refine nK ?_|(refine uN hK ?_;clear hK)|apply zI));exact⟨sq s2,sq s4,sq s6,sq sV,sq s8,sq sL,sq sI,sq A5,hS⟩
   ·generalize EP a kw (.mk vk vv vl vc vt vs)=A at hF;obtain⟨a',c⟩:=A;simp only at hF;(try clear zz);clear s2 s4 s6 sV s8 sL sI s9 s10 hI hrk hvok hvsm S H;rintro S H ⟨s2,s4,s6,sV,s8,sL,sI,s5,hI⟩;simp only at s5 hI;cases hcc2:c==0 with
    |false=>
     have er:AS c=Ao c:=(by simp only[AS,hcc2,AL]);rw[hcc2]at hF;simp only[AL]at hF;have hF2:F=(a',c):=(by rw[hF];unfold T6;simp only[hcc2,AL]);rw[er]at s5;simp only[Ao]at s5;obtain⟨g,lt,o1,P,C0,gop,gna,gar,gpa,gex,gki,e0,eo,eP,eC0⟩:=hI;have cP:=eP.cell;have cC0:=eC0.cell;have n1:(h.next=h.next+1)=False:=BB (by omega);replace zz:=BT s2 s4 s5 eo o1 n1 cP cC0;refine wt zz ?_;exact HB.fin hF2 er g (by exact e0) eP eC0
    |true=>
     have er:AS c= .sc .nilIface:=(by simp only[AS,hcc2,AC]);rw[hcc2]at hF;simp only[AC]at hF;rw[er]at s5;replace zz:=BO s2 s4 s5 s6 s8 sV sL sI w7;refine wt zz ?_;exact⟨ps.length-(k+1),by omega,k+1,a',rfl,by omega,rfl,hI,hF⟩
  ·have hd:decide ((k:Int)<(ps.length:Int))=false:=(by simp;omega);rw[List.drop_eq_nil_of_le (by omega)]at hF;have hF2:F=(a,lc):=(by rw[hF];try rfl);obtain⟨g,lt,o1,P,C0,gop,gna,gar,gpa,gex,gki,e0,eo,eP,eC0⟩:=hI;have cP:=eP.cell;have cC0:=eC0.cell;have n1:(h.next=h.next+1)=False:=BB (by omega);replace zz:=EI s2 s4 s8 sL sI hd eo o1 n1 cP cC0;refine wt zz ?_;exact HB.fin hF2 hlu g (by exact e0) eP eC0
end Go.Proofs.YtblgchkahpgdjaaGreat
