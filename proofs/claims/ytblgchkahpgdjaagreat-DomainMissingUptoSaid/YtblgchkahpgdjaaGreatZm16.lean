/- What the claim rests on, part 16: the abstract machine, contracts of the functions, plain data. -/
import Derived.Test.YtblgchkahpgdjaaGreatZm14
import Derived.Test.YtblgchkahpgdjaaGreatZm15
set_option linter.unusedVariables false
set_option linter.unusedSimpArgs false
set_option linter.unusedSectionVars false
namespace Go.Proofs.YtblgchkahpgdjaaGreat
open Go.AM Go.Proofs.Tryz
set_option maxHeartbeats 4000000
set_option maxRecDepth 20000
variable {v x:Sx}{kw:ByteArray}{L ks l:List Sx}{m:Bool}{a:Ac}{d:Dm}{n z:Nat}{fe:List Ch->Sx}{t:Fm->Bool}{ff:Fm->Sx}{p:Pr}{H h:A0}{u q:PV}{c:Int}
def Ge(t:Fm->Bool)(ff:Fm->Sx)(fe:List Ch->Sx)(a:Ac):List Sx:=BP (BP (BP (BP [A5 a.name] ((a.params.length:Int)==0) Cc (AC (Aa a.params))) (a.cost==1) EZ (D1 a.cost)) (t a.pre) Ff (ff a.pre)) ((a.changes.length:Int)==0) Ea (fe a.changes)
def Fi(t:Fm->Bool)(ff:Fm->Sx)(fe:List Ch->Sx)(a:Du):List Sx:=BP (BP (BP (BP (BP (BP (BP [A5 a.name] ((a.params.length:Int)==0) Cc (AC (Aa a.params))) (a.Dw==1) E6 (D1 a.Dw)) (t a.start) Ez (ff a.start)) (t a.over) FE (ff a.over)) (t a.stop) FO (ff a.stop)) ((a.Bm.length:Int)==0) Fg (fe a.Bm)) ((a.Bn.length:Int)==0) Gc (fe a.Bn)
def I4(fa:Ac->Sx)(fd:Du->Sx)(d:Dm):List Sx:=CK (CK (CK (CK [AC [A5 CU,A5 d.name]] Ds (Aa d.types)) E7 (Aa d.constants)) EF (d.Ay.map Cq)) EG (d.Au.map Cv)++d.Av.map fa++d.B0.map fd
def MG(a:Ac):Sx:=AC (A5 Cg::Ge IY Ao IZ a)
def MH(a:Du):Sx:=AC (A5 D8::Fi IY Ao IZ a)
def NG(d:Dm):Sx:=AC (A5 DQ::I4 MG MH d)
theorem Xj(x:Sx)(L:List Sx)(m:Bool)(kw:ByteArray)(v:Sx):BP (x::L) m kw v=x::BP L m kw v:=by unfold BP;cases m<;>rfl
theorem GA(h:x∈L):x∈BP L m kw v:=by
 unfold BP;cases m with
 |true=>exact h
 |false=>exact List.mem_append_left _ h
theorem Ic(h:m=false):v∈BP L m kw v:=by subst h;simp[BP]
theorem J9(h:x∈BP L m kw v):x∈L\/x=A5 kw\/x=v:=by
 unfold BP at h;cases m with
 |true=>exact .inl h
 |false=>
  simp only[AJ,List.mem_append,List.mem_cons,List.not_mem_nil,FF]at h;exact h
theorem ma(x:Sx)(L:List Sx)(kw:ByteArray)(ks:List Sx):CK (x::L) kw ks=x::CK L kw ks:=by unfold CK;cases ks.isEmpty<;>rfl
theorem mc{k:Sx}(h:k∈ks):AC (A5 kw::ks)∈CK L kw ks:=by
 cases ks with
 |nil=>cases h
 |cons a l=>simp[CK]
theorem QR(h:x∈CK L kw ks):x∈L\/x=AC (A5 kw::ks):=by
 unfold CK at h;cases hk:ks.isEmpty with
 |true=>rw[hk]at h;exact .inl h
 |false=>
  rw[hk]at h;simp only[AJ,List.mem_append,List.mem_cons,List.not_mem_nil,FF]at h;exact h
theorem Oe(a:Ac):Eo a=AC (A5 Cg::Ge BX BH Bx a):=by
 unfold Eo XC Ge;simp only[Xj]
theorem Of(a:Du):Ep a=AC (A5 D8::Fi BX BH Bx a):=by
 unfold Ep XD Fi;simp only[Xj]
theorem Xk(d:Dm):H9 d=AC (A5 DQ::I4 Eo Ep d):=by
 unfold H9 Ob I4;simp only[ma,List.cons_append]
theorem me(h:Fs a=true):Eo a=MG a:=by
 unfold Fs at h;simp only[AV]at h;obtain⟨⟨⟨⟨_,_⟩,_⟩,f⟩,c⟩:=h;rw[Oe];unfold MG Ge;rw[ME (J5 f),(KM c).2,show BH a.pre=Ao a.pre from by unfold BH;rw[f];try rfl]
theorem mf{a:Du}(h:FP a=true):Ep a=MH a:=by
 unfold FP at h;simp only[AV]at h;obtain⟨⟨⟨⟨⟨⟨_,_⟩,f1⟩,f2⟩,f3⟩,c1⟩,c2⟩:=h;rw[Of];unfold MH Fi;rw[ME (J5 f1),ME (J5 f2),ME (J5 f3),(KM c1).2,(KM c2).2,show BH a.start=Ao a.start from by unfold BH;rw[f1];try rfl,show BH a.over=Ao a.over from by unfold BH;rw[f2];try rfl,show BH a.stop=Ao a.stop from by unfold BH;rw[f3];try rfl]
theorem Xl(h:GO d=true):H9 d=NG d:=by
 unfold GO at h;simp only[AV]at h;obtain⟨⟨_,ha⟩,hd⟩:=h;rw[List.all_eq_true]at ha hd;rw[Xk];unfold NG I4;rw[List.map_congr_left λa h=>me (ha a h),List.map_congr_left λa h=>mf (hd a h)]
theorem Jd(v:Bool):BO v=IP v:=by
 funext p;cases v<;>simp only[BO,IP,Gm,AB,AJ,AO,BQ,AP,Yz]
theorem Sy{n:Int}(h:VS (D1 n)):KH n=true:=by
 have:=h.1;simp only[D1,HO]at this;simp only[KH];simp at this⊢;omega
theorem Xm{n:Int}(hv:(n==1)=false->VS (D1 n)):KH n=true:=by
 cases q:n==1 with
 |true=>
  simp only[F0]at q;subst q;decide
 |false=>exact Sy (hv q)
theorem mg:VS (Ao Bu):=by
 have:Ao Bu=AC []:=by simp[Ao,OA,Bu,Bl,Bz,CI,DH,De,Cb,DY,HN,Fa,EO,A2]
 rw[this];refine⟨by decide,by decide,by decide⟩
theorem QS{f:Fm}(hs:DI f=true)(hv:IY f=false->VS (Ao f)):Bf f=true:=by
 cases q:IY f with
 |true=>
  rw[ME hs]at q;have e:=LJ q;subst e;exact Sv hs mg
 |false=>exact Sv hs (hv q)
theorem Sz{l:List Ch}(hR:l.all Jb=true)(hv:((l.length:Int)==0)=false->VS (IZ l)):l.all CA=true:=by
 cases l with
 |nil=>rfl
 |cons c l=>exact Xd (by unfold LG;rw[hR,KL.2 (hv (by simp only[List.length_cons,NM,ne_eq];omega))];rfl)
theorem mh(h:NA a=true)(hv:VS (MG a)):Fs a=true:=by
 unfold NA at h;simp only[AV]at h;obtain⟨n,p,c,s,f,ch⟩:=h;have hk: ∀ x∈Ge IY Ao IZ a,VS x:=λx hx=>Gn hv (List.mem_cons_of_mem _ hx);have f2:=QS f (λq=>hk _ (by unfold Ge;exact GA (Ic q)));have e2:=Sz ch (λq=>hk _ (by unfold Ge;exact Ic q));unfold Fs;rw[n,f2,e2,Jd,p,c];try rfl
theorem mi{a:Du}(h:NB a=true)(hv:VS (MH a)):FP a=true:=by
 unfold NB at h;simp only[AV]at h;obtain⟨n,p,s,c1,c2,f1,f2,f3⟩:=h;have hk: ∀ x∈Fi IY Ao IZ a,VS x:=λx hx=>Gn hv (List.mem_cons_of_mem _ hx);have g1:=QS f1 (λq=>hk _ (by unfold Fi;exact GA (GA (GA (GA (Ic q))))));have g2:=QS f2 (λq=>hk _ (by unfold Fi;exact GA (GA (GA (Ic q)))));have g3:=QS f3 (λq=>hk _ (by unfold Fi;exact GA (GA (Ic q))));have e1:=Sz c1 (λq=>hk _ (by unfold Fi;exact GA (Ic q)));have e2:=Sz c2 (λq=>hk _ (by unfold Fi;exact Ic q));unfold FP;rw[n,g1,g2,g3,e1,e2,Jd,p];try rfl
theorem mj(h:Fs a=true)(hv:VS (MG a)):NA a=true:=by
 unfold Fs at h;simp only[AV]at h;obtain⟨⟨⟨⟨n,c⟩,p⟩,f⟩,ch⟩:=h;have hk: ∀ x∈Ge IY Ao IZ a,VS x:=λx hx=>Gn hv (List.mem_cons_of_mem _ hx);have hs:=Xm (n:=a.cost) (λq=>hk _ (by unfold Ge;exact GA (GA (Ic q))));unfold NA;rw[n,J5 f,(KM ch).1, ← Jd,p,c,hs];try rfl
theorem ml{a:Du}(h:FP a=true)(hv:VS (MH a)):NB a=true:=by
 unfold FP at h;simp only[AV]at h;obtain⟨⟨⟨⟨⟨⟨n,p⟩,f1⟩,f2⟩,f3⟩,c1⟩,c2⟩:=h;have hk: ∀ x∈Fi IY Ao IZ a,VS x:=λx hx=>Gn hv (List.mem_cons_of_mem _ hx);have hs:=Xm (n:=a.Dw) (λq=>hk _ (by unfold Fi;exact GA (GA (GA (GA (GA (Ic q)))))));unfold NB;rw[n,J5 f1,J5 f2,J5 f3,(KM c1).1,(KM c2).1, ← Jd,p,hs];try rfl
theorem Xn:I3=Sm:=by
 funext p;simp only[I3,Sm,Jd]
theorem T0(hv:VS (NG d)):(∀ a∈d.Av,VS (MG a))/\(∀ a∈d.B0,VS (MH a))/\ ∀ f∈d.Au,VS (Cv f):=by
 have hk: ∀ x∈I4 MG MH d,VS x:=λx hx=>Gn hv (List.mem_cons_of_mem _ hx);refine⟨λa ha=>hk _ ?_,λa ha=>hk _ ?_,λf hf=>?_⟩
 ·unfold I4;exact List.mem_append_left _ (List.mem_append_right _ (List.mem_map_of_mem ha))
 ·unfold I4;exact List.mem_append_right _ (List.mem_map_of_mem ha)
 ·have:VS (AC (A5 EG::d.Au.map Cv)):=hk _ (by unfold I4;exact List.mem_append_left _ (List.mem_append_left _ (mc (List.mem_map_of_mem hf))));exact Gn this (List.mem_cons_of_mem _ (List.mem_map_of_mem hf))
theorem mn(h:OT d=true)(hv:VS (NG d)):GO d=true:=by
 unfold OT at h;simp only[AV]at h;obtain⟨n,t,c,p,f,a,u⟩:=h;obtain⟨va,vu,_⟩:=T0 hv;have a2:d.Av.all Fs=true:=by
  rw[List.all_eq_true]at a⊢;exact λx hx=>mh (a x hx) (va x hx)
 have u2:d.B0.all FP=true:=by
  rw[List.all_eq_true]at u⊢;exact λx hx=>mi (u x hx) (vu x hx)
 have f2:d.Au.all HU=true:=by
  rw[List.all_eq_true]at f⊢;intro x hx;have:=f x hx;unfold QM at this;simp only[AV]at this;unfold HU;rw[this.1,Jd,this.2.1];try rfl
 unfold GO;rw[n,Jd,t,c,Xn,p,f2,a2,u2];try rfl
theorem mo(h:GO d=true)(hv:VS (NG d)):OT d=true:=by
 unfold GO at h;simp only[AV]at h;obtain⟨⟨⟨⟨⟨⟨n,t⟩,c⟩,p⟩,f⟩,a⟩,u⟩:=h;obtain⟨va,vu,vf⟩:=T0 hv;have a2:d.Av.all NA=true:=by
  rw[List.all_eq_true]at a⊢;exact λx hx=>mj (a x hx) (va x hx)
 have u2:d.B0.all NB=true:=by
  rw[List.all_eq_true]at u⊢;exact λx hx=>ml (u x hx) (vu x hx)
 have f2:d.Au.all QM=true:=by
  rw[List.all_eq_true]at f⊢;intro x hx;have:=f x hx;unfold HU at this;simp only[AV]at this;have w:=vf x hx;have w1:KH x.lo=true:=Sy (Gn w (by simp));have w2:KH x.hi=true:=Sy (Gn w (by simp));unfold QM;rw[this.1, ← Jd,this.2,w1,w2];try rfl
 unfold OT;rw[n, ← Jd,t,c, ← Xn,p,f2,a2,u2];try rfl
def HW(d:Dm):Bool:=GO d&&(CJ (H9 d) 0 0).1
def LK(d:Dm):Bool:=OT d&&(CJ (NG d) 0 0).1
theorem Xo(h:LK d=true):GO d=true:=by
 unfold LK at h;simp only[AV]at h;exact mn h.1 (KL.1 h.2)
theorem mq(d:Dm):HW d=LK d:=by
 cases hr:LK d with
 |true=>
  have hb:=Xo hr;unfold LK at hr;simp only[AV]at hr;unfold HW;rw[hb,Xl hb,hr.2];try rfl
 |false=>
  cases he:HW d with
  |false=>rfl
  |true=>
   unfold HW at he;simp only[AV]at he;have hx:=Xl he.1;rw[hx]at he;unfold LK at hr;rw[mo he.1 (KL.1 he.2),he.2]at hr;exact hr
theorem Og{α:Type}(f:α->List PV)(hf: ∀ a,1<=PV.bulkL (f a)): ∀ l:List α,l.length<=PV.D3 (l.map f)
 |[]=>Bj _
 |a::l=>by
  have:=Og f hf l;have:=hf a;simp only[List.map_cons,PV.D3,List.length_cons];omega
theorem Oh{α:Type}(f:α->List PV){a:α}: ∀ {l:List α},a∈l->PV.bulkL (f a)<=PV.D3 (l.map f)
 |b::l,h=>by
  simp only[List.map_cons,PV.D3];rcases List.mem_cons.1 h with rfl|h
  ·omega
  ·have:=Oh f h;omega
theorem Xp(p:Pr):PV.D3 (A8 p.params)+2<=PV.bulkL (E0 p):=by
 obtain⟨n,l⟩:=p;simp only[E0,PV.bulkL,PV.bulk,A3];omega
theorem Xq(p:Fu):PV.D3 (A8 p.params)+4<=PV.bulkL (E1 p):=by
 obtain⟨n,l,a,b⟩:=p;simp only[E1,PV.bulkL,PV.bulk,A3];omega
theorem Xr(a:Ac):PV.D3 (A8 a.params)+PV.bulkL a.pre.cells+PV.D3 (Ag a.changes)+4<=PV.bulkL (DF a):=by
 obtain⟨n,p,c,f,l⟩:=a;simp only[DF,List.cons_append,List.nil_append,PV.P8,PV.bulkL,PV.bulk,A3];omega
theorem Xt(a:Du):PV.D3 (A8 a.params)+PV.bulkL a.start.cells+PV.bulkL a.over.cells+PV.bulkL a.stop.cells+PV.D3 (Ag a.Bm)+PV.D3 (Ag a.Bn)+5<=PV.bulkL (DG a):=by
 obtain⟨n,p,c,f,g,k,l,m⟩:=a;simp only[DG,List.cons_append,List.nil_append,PV.P8,PV.bulkL,PV.bulk,A3];omega
theorem mr(d:Dm):PV.D3 (A8 d.types)+PV.D3 (A8 d.constants)+PV.D3 (Bd d.Ay)+PV.D3 (BY d.Au)+PV.D3 (BV d.Av)+PV.D3 (BW d.B0)+7<=PV.bulkL d.cells:=by
 obtain⟨n,t,c,p,f,a,u⟩:=d;simp only[Dm.cells,PV.bulkL,PV.bulk,A3];omega
theorem T4{l:List Ch}(h:PV.D3 (Ag l)<=1048576):l.length<=1048576/\ ∀ c∈l,Fe c:=
 ⟨ER (Xf l) h,λ_ hc=>mZ (ER (Xg hc) h)⟩
theorem mu(h:PV.bulkL (DF a)<=1048576):OU a:=by
 have:=Xr a;have p1:=KG a.params;have hc:=T4 (l:=a.changes) (by omega);exact⟨by omega,Fm.KZ _ (by omega),hc.1,hc.2⟩
theorem mw{a:Du}(h:PV.bulkL (DG a)<=1048576):OV a:=by
 have:=Xt a;have p1:=KG a.params;exact⟨by omega,Fm.KZ _ (by omega),Fm.KZ _ (by omega),Fm.KZ _ (by omega),T4 (by omega),T4 (by omega)⟩
theorem my(hb:PV.bulkL d.cells<=1048576):Od d:=by
 have:=mr d;have p1:=KG d.types;have p2:=KG d.constants;have l1:=Og E0 (λa=>by have:=Xp a;omega) d.Ay;have l2:=Og E1 (λa=>by have:=Xq a;omega) d.Au;have l3:=Og DF (λa=>by have:=Xr a;omega) d.Av;have l4:=Og DG (λa=>by have:=Xt a;omega) d.B0;have e1:d.Ay.map E0=Bd d.Ay:=rfl;have e2:d.Au.map E1=BY d.Au:=rfl;have e3:d.Av.map DF=BV d.Av:=rfl;have e4:d.B0.map DG=BW d.B0:=rfl;rw[e1]at l1;rw[e2]at l2;rw[e3]at l3;rw[e4]at l4;refine⟨by omega,by omega,⟨by omega,λp hp=>?_⟩,⟨by omega,λp hp=>?_⟩,⟨by omega,λa ha=>mu ?_⟩,⟨by omega,λa ha=>mw ?_⟩⟩
 ·have hm:=Oh E0 hp;rw[e1]at hm;have:=Xp p;have:=KG p.params;omega
 ·have hm:=Oh E1 hp;rw[e2]at hm;have:=Xq p;have:=KG p.params;omega
 ·have hm:=Oh DF ha;rw[e3]at hm;omega
 ·have hm:=Oh DG ha;rw[e4]at hm;omega
theorem mz(h:x∈Ge t ff fe a):(∃ w,x=A5 w/\(w=a.name\/w.size<=20))\/x=AC (Aa a.params)\/x=D1 a.cost\/x=ff a.pre\/x=fe a.changes:=by
 unfold Ge at h;rcases J9 h with h|rfl|rfl;rcases J9 h with h|rfl|rfl;rcases J9 h with h|rfl|rfl;rcases J9 h with h|rfl|rfl
 ·simp only[List.mem_cons,List.not_mem_nil,FF]at h;exact .inl ⟨_,h,.inl rfl⟩
 all_goals first
  |exact .inl ⟨_,rfl,.inr (by decide)⟩
  |simp
theorem nB{a:Du}(h:x∈Fi t ff fe a):(∃ w,x=A5 w/\(w=a.name\/w.size<=20))\/x=AC (Aa a.params)\/x=D1 a.Dw\/x=ff a.start\/x=ff a.over\/x=ff a.stop\/x=fe a.Bm\/x=fe a.Bn:=by
 unfold Fi at h;rcases J9 h with h|rfl|rfl;rcases J9 h with h|rfl|rfl;rcases J9 h with h|rfl|rfl;rcases J9 h with h|rfl|rfl;rcases J9 h with h|rfl|rfl;rcases J9 h with h|rfl|rfl;rcases J9 h with h|rfl|rfl
 ·simp only[List.mem_cons,List.not_mem_nil,FF]at h;exact .inl ⟨_,h,.inl rfl⟩
 all_goals first
  |exact .inl ⟨_,rfl,.inr (by decide)⟩
  |simp
theorem JA(h:L.length<=n):(BP L m kw v).length<=n+2:=by have:=Ia L m kw v;omega
theorem QT(h:L.length<=n):(CK L kw ks).length<=n+1:=by have:=Oc L kw ks;omega
theorem Oi{n:Int}(h: -9223372036854775808<=n/\n<=9223372036854775807):(D1 n).ok:=⟨⟨by decide,by decide⟩,h,by decide,by simp,trivial⟩
theorem Xu{l:List Pm}(hl:l.length<=1048576)(h: ∀ p∈l,p.ok):(AC (Aa l)).ok:=GK (by rw[H5];unfold AF;omega) (L8 _ h)
theorem QU(hl:l.length<=AF)(h: ∀ x∈l,x.ok):(AC l).ok:=GK hl (Sx.Bs.2 h)
theorem nC(ha:a.ok)(hs:OU a)(hf:(ff a.pre).ok)(he:(fe a.changes).ok):(AC (A5 Cg::Ge t ff fe a)).ok:=by
 have hl:(Ge t ff fe a).length<=1+2+2+2+2:=by unfold Ge;exact JA (JA (JA (JA (AG _))))
 refine QU (by simp only[List.length_cons,AF];omega) ?_;intro x hx;rcases List.mem_cons.1 hx with rfl|hx
 ·exact DB (by decide)
 rcases mz hx with⟨w,rfl,rfl|hw⟩|rfl|rfl|rfl|rfl
 ·exact DB ha.name
 ·exact DB (by unfold AF;omega)
 ·exact Xu hs.params ha.params.2
 ·exact Oi ha.cost
 ·exact hf
 ·exact he
theorem nD{a:Du}(ha:a.ok)(hs:OV a)(h1:(ff a.start).ok)(h2:(ff a.over).ok)(h3:(ff a.stop).ok)(h4:(fe a.Bm).ok)(h5:(fe a.Bn).ok):(AC (A5 D8::Fi t ff fe a)).ok:=by
 have hl:(Fi t ff fe a).length<=1+2+2+2+2+2+2+2:=by unfold Fi;exact JA (JA (JA (JA (JA (JA (JA (AG _)))))))
 refine QU (by simp only[List.length_cons,AF];omega) ?_;intro x hx;rcases List.mem_cons.1 hx with rfl|hx
 ·exact DB (by decide)
 rcases nB hx with⟨w,rfl,rfl|hw⟩|rfl|rfl|rfl|rfl|rfl|rfl|rfl
 ·exact DB ha.name
 ·exact DB (by unfold AF;omega)
 ·exact Xu hs.params ha.params.2
 ·exact Oi ha.Dw
 ·exact h1
 ·exact h2
 ·exact h3
 ·exact h4
 ·exact h5
theorem nE{fa:Ac->Sx}{fd:Du->Sx}(h:x∈I4 fa fd d):x=AC [A5 CU,A5 d.name]\/(∃ w,w.size<=20/\(x=AC (A5 w::Aa d.types)\/x=AC (A5 w::Aa d.constants)\/x=AC (A5 w::d.Ay.map Cq)\/x=AC (A5 w::d.Au.map Cv)))\/(∃ a∈d.Av,x=fa a)\/ ∃ a∈d.B0,x=fd a:=by
 unfold I4 at h;rcases List.mem_append.1 h with h|h
 ·rcases List.mem_append.1 h with h|h
  ·rcases QR h with h|rfl
   ·rcases QR h with h|rfl
    ·rcases QR h with h|rfl
     ·rcases QR h with h|rfl
      ·simp only[List.mem_cons,List.not_mem_nil,FF]at h;exact .inl h
      ·exact .inr (.inl ⟨_,by decide,.inl rfl⟩)
     ·exact .inr (.inl ⟨_,by decide,.inr (.inl rfl)⟩)
    ·exact .inr (.inl ⟨_,by decide,.inr (.inr (.inl rfl))⟩)
   ·exact .inr (.inl ⟨_,by decide,.inr (.inr (.inr rfl))⟩)
  ·rw [List.mem_map]at h;obtain⟨a,ha,rfl⟩:=h;exact .inr (.inr (.inl ⟨a,ha,rfl⟩))
 ·rw [List.mem_map]at h;obtain⟨a,ha,rfl⟩:=h;exact .inr (.inr (.inr ⟨a,ha,rfl⟩))
theorem nF(h:p.ok)(hl:p.params.length<=1048576):(Cq p).ok:=GK (by simp only[List.length_cons,H5,AF];omega) ⟨DB h.name,L8 _ h.params.2⟩
theorem nG{p:Fu}(h:p.ok)(hl:p.params.length<=1048576):(Cv p).ok:=by
 refine QU (by simp only[List.length_cons,List.length_append,H5,List.length_nil,AF];omega) ?_;intro x hx;simp only[List.cons_append,List.mem_cons,List.mem_append,List.not_mem_nil,FF]at hx;rcases hx with rfl|hx|rfl|rfl
 ·exact DB h.name
 ·exact Sx.Bs.1 (L8 _ h.params.2) x hx
 ·exact Oi h.lo
 ·exact Oi h.hi
theorem nH{fa:Ac->Sx}{fd:Du->Sx}(hd:d.ok)(hs:Od d)(ha: ∀ a∈d.Av,(fa a).ok)(hu: ∀ a∈d.B0,(fd a).ok):(AC (A5 DQ::I4 fa fd d)).ok:=by
 have hl:(I4 fa fd d).length<=1+1+1+1+1+d.Av.length+d.B0.length:=by
  unfold I4;rw[List.length_append,List.length_append,List.length_map,List.length_map];have:(CK (CK (CK (CK [AC [A5 CU,A5 d.name]] Ds (Aa d.types)) E7 (Aa d.constants)) EF (d.Ay.map Cq)) EG (d.Au.map Cv)).length<=1+1+1+1+1:=QT (QT (QT (QT (AG _))));omega
 have l1:=hs.Ke.1;have l2:=hs.LY.1;have l3:=hs.Kb.1;have l4:=hs.Kd.1;have l5:=hs.types;have l6:=hs.consts;refine QU (by simp only[List.length_cons,AF];omega) ?_;intro x hx;rcases List.mem_cons.1 hx with rfl|hx
 ·exact DB (by decide)
 rcases nE hx with rfl|⟨w,hw,rfl|rfl|rfl|rfl⟩|⟨a,h,rfl⟩|⟨a,h,rfl⟩
 ·exact XS (DB (by decide)) (DB hd.name)
 ·exact GK (by simp only[List.length_cons,H5,AF];omega) ⟨DB (by unfold AF;omega),L8 _ hd.types.2⟩
 ·exact GK (by simp only[List.length_cons,H5,AF];omega) ⟨DB (by unfold AF;omega),L8 _ hd.constants.2⟩
 ·refine GK (by simp only[List.length_cons,List.length_map,AF];omega) ⟨DB (by unfold AF;omega),Sx.Bs.2 ?_⟩;intro y hy;rw[List.mem_map]at hy;obtain⟨p,hp,rfl⟩:=hy;exact nF (hd.Ay.2 p hp) (hs.Kb.2 p hp)
 ·refine GK (by simp only[List.length_cons,List.length_map,AF];omega) ⟨DB (by unfold AF;omega),Sx.Bs.2 ?_⟩;intro y hy;rw[List.mem_map]at hy;obtain⟨p,hp,rfl⟩:=hy;exact nG (hd.Au.2 p hp) (hs.Kd.2 p hp)
 ·exact ha a h
 ·exact hu a h
theorem T5{l:List Ch}(h1:Chs.ok l)(h2: ∀ c∈l,Fe c): ∀ c∈l,c.ok/\Fe c:=λc hc=>⟨h1.2 c hc,h2 c hc⟩
theorem Xv(hd:d.ok)(hs:Od d):(H9 d).ok:=by
 rw[Xk];refine nH hd hs (λa ha=>?_) (λa ha=>?_)
 ·have h1:=hd.Av.2 a ha;have h2:=hs.Ke.2 a ha;rw[Oe];exact nC h1 h2 (Oa h1.pre h2.pre) (QP h2.ZK (T5 h1.changes h2.ch))
 ·have h1:=hd.B0.2 a ha;have h2:=hs.LY.2 a ha;rw[Of];exact nD h1 h2 (Oa h1.start h2.start) (Oa h1.over h2.over) (Oa h1.stop h2.stop) (QP h2.Qp.1 (T5 h1.Bm h2.Qp.2)) (QP h2.Qq.1 (T5 h1.Bn h2.Qq.2))
def Gq:ByteArray:=⟨#[58,114,101,113,117,105,114,101,109,101,110,116,115]⟩
def FQ:List ByteArray:=[Cc,EZ,Ff,Ea]
def Fj:List ByteArray:=[Cc,E6,Ez,FE,FO,Fg,Gc]
def CL:List Sx->List ByteArray->List (ByteArray × Sx)× Int
 |[],_=>([],0)
 |[_],_=>([],2)
 |a::v::rest,kws=>bif Az a==1 then(match IU kws (Af a)with
   |some kws'=>((Af a,v)::(CL rest kws').1,(CL rest kws').2)
   |none=>([],2))else([],2)
def Dt(x:Sx):ByteArray × Int:=match BS x with
 |_::n::_=>bif Az n==1 then(bif As (Af n)then(Af n,0)else(⟨#[]⟩,8))else(⟨#[]⟩,2)
 |_=>(⟨#[]⟩,2)
def GP(x:Sx):List Pm × Int:=bif Az x==3 then C5 true (BS x)else([],2)
def FT(x:Sx):Int × Int:=bif Az x==2 then(L9 x,0)else(0,2)
def E8(a:Ac)(k:ByteArray)(v:Sx):Ac × Int:=
 bif A2 k Cc then({a with params:=(GP v).1},(GP v).2)
 else bif A2 k EZ then({a with cost:=(FT v).1},bif (FT v).2==0 then(bif decide ((FT v).1<0)then 1 else 0)else(FT v).2)
 else bif A2 k Ff then({a with pre:=(Cl v).1},(Cl v).2)
 else({a with changes:=(En v).1},(En v).2)
def Gr:Ac->List (ByteArray × Sx)->Ac × Int
 |a,[]=>(a,0)
 |a,kv::l=>bif (E8 a kv.1 kv.2).2==0 then Gr (E8 a kv.1 kv.2).1 l else E8 a kv.1 kv.2
def Eb(n:ByteArray):Ac:=⟨n,[],1,Bu,[]⟩
def HA(x:Sx):Ac × Int:=bif (Dt x).2==0 then(bif (Gr (Eb (Dt x).1) (CL ((BS x).drop 2) FQ).1).2==0 then((Gr (Eb (Dt x).1) (CL ((BS x).drop 2) FQ).1).1,(CL ((BS x).drop 2) FQ).2)else Gr (Eb (Dt x).1) (CL ((BS x).drop 2) FQ).1)else(Eb (Dt x).1,(Dt x).2)
def D2(a:Du)(k:ByteArray)(v:Sx):Du × Int:=
 bif A2 k Cc then({a with params:=(GP v).1},(GP v).2)
 else bif A2 k E6 then({a with Dw:=(FT v).1},(FT v).2)
 else bif A2 k Ez then({a with start:=(Cl v).1},(Cl v).2)
 else bif A2 k FE then({a with over:=(Cl v).1},(Cl v).2)
 else bif A2 k FO then({a with stop:=(Cl v).1},(Cl v).2)
 else bif A2 k Fg then({a with Bm:=(En v).1},(En v).2)
 else({a with Bn:=(En v).1},(En v).2)
def Gs:Du->List (ByteArray × Sx)->Du × Int
 |a,[]=>(a,0)
 |a,kv::l=>bif (D2 a kv.1 kv.2).2==0 then Gs (D2 a kv.1 kv.2).1 l else D2 a kv.1 kv.2
def DZ(n:ByteArray):Du:=⟨n,[],1,Bu,Bu,Bu,[],[]⟩
def HB(x:Sx):Du × Int:=bif (Dt x).2==0 then(bif (Gs (DZ (Dt x).1) (CL ((BS x).drop 2) Fj).1).2==0 then((Gs (DZ (Dt x).1) (CL ((BS x).drop 2) Fj).1).1,(CL ((BS x).drop 2) Fj).2)else Gs (DZ (Dt x).1) (CL ((BS x).drop 2) Fj).1)else(DZ (Dt x).1,(Dt x).2)
def LL:Pr:=⟨⟨#[]⟩,[]⟩
def I5:Fu:=⟨⟨#[]⟩,[],0,0⟩
def HX(x:Sx):Pr × Int:=match Br x with
 |none=>(LL,2)
 |some (w,rest)=>bif As w then(⟨w,(C5 true rest).1⟩,(C5 true rest).2)else(LL,8)
def HY(x:Sx):Fu × Int:=match Br x with
 |none=>(I5,2)
 |some (w,rest)=>match rest.drop (rest.length-2)with
  |[lo,hi]=>bif Az lo==2&&Az hi==2 then(bif As w then(⟨w,(C5 true (rest.take (rest.length-2))).1,L9 lo,L9 hi⟩,(C5 true (rest.take (rest.length-2))).2)else(I5,8))else(I5,2)
  |_=>(I5,2)
def Gf:List Pr->List Sx->List Pr × Int
 |l,[]=>(l,0)
 |l,x::xs=>bif (HX x).2==0 then Gf (l++[(HX x).1]) xs else(l,(HX x).2)
def Gg:List Fu->List Sx->List Fu × Int
 |l,[]=>(l,0)
 |l,x::xs=>bif (HY x).2==0 then Gg (l++[(HY x).1]) xs else(l,(HY x).2)
def D9(d:Dm)(w:ByteArray)(rest:List Sx)(x:Sx):Dm × Int:=
 bif A2 w Gq then(d,0)
 else bif A2 w Ds then({d with types:=(C5 false rest).1},(C5 false rest).2)
 else bif A2 w E7 then({d with constants:=(C5 false rest).1},(C5 false rest).2)
 else bif A2 w EF then({d with Ay:=(Gf d.Ay rest).1},(Gf d.Ay rest).2)
 else bif A2 w EG then({d with Au:=(Gg d.Au rest).1},(Gg d.Au rest).2)
 else bif A2 w Cg then({d with Av:=d.Av++[(HA x).1]},(HA x).2)
 else bif A2 w D8 then({d with B0:=d.B0++[(HB x).1]},(HB x).2)
 else(d,2)
def MI:List ByteArray:=[Ds,E7,EF,EG]
def FU(d:Dm)(seen:List ByteArray)(k:Sx):Dm × List ByteArray × Int:=match Br k with
 |none=>(d,seen,2)
 |some (w,rest)=>bif MI.any (A2 w)then(bif seen.any (A2 w)then(d,seen,4)else((D9 d w rest k).1,w::seen,(D9 d w rest k).2))else((D9 d w rest k).1,seen,(D9 d w rest k).2)
def Je:Dm->List ByteArray->List Sx->Dm × Int
 |d,_,[]=>(d,0)
 |d,seen,k::l=>bif (FU d seen k).2.2==0 then Je (FU d seen k).1 (FU d seen k).2.1 l else((FU d seen k).1,(FU d seen k).2.2)
def Ft:Dm:=⟨⟨#[]⟩,[],[],[],[],[],[]⟩
def GB(n:ByteArray):Dm:=⟨n,[],[],[],[],[],[]⟩
def Jf(x:Sx):Dm × Int:=match Br x with
 |none=>(Ft,2)
 |some (w,rest)=>bif A2 w DQ then(match rest with
  |[]=>(Ft,2)
  |n::secs=>bif (HR n CU).2==0 then Je (GB (HR n CU).1) [] secs else(Ft,(HR n CU).2))else(Ft,2)
def KP(x:Sx):Dm × Int:=
 if(CJ x 0 0).1=true then(if(Jf x).2=0 then(if HW (Jf x).1=true then((Jf x).1,0)else(Ft,5))else(Ft,(Jf x).2))else(Ft,2)
theorem Oj{v:Bool}{l:List Pm}(h:l.all (BO v)=true):C5 v (Aa l)=(l,0):=by
 rw[Jd]at h;cases v with
 |true=>exact SC h
 |false=>exact lK (List.all_eq_true.1 h)
theorem Xw{l:List Pm}(h:l.all (BO true)=true):GP (AC (Aa l))=(l,0):=Oj h
theorem Xx{kw:ByteArray}{r:List ByteArray}: ∀ {pre:List ByteArray},(∀ p∈pre,A2 p kw=false)->IU (pre++kw::r) kw=some r
 |[],_=>by simp only[List.nil_append,IU,Em,AB]
 |p::pre,h=>by
  simp only[List.cons_append,IU,h p (by simp),AJ];exact Xx λq hq=>h q (by simp[hq])
def Dn:List (Bool × ByteArray × Sx)->List Sx
 |[]=>[]
 |(m,kw,v)::T=>bif m then Dn T else A5 kw::v::Dn T
def Jg:List (Bool × ByteArray × Sx)->List (ByteArray × Sx)
 |[]=>[]
 |(m,kw,v)::T=>bif m then Jg T else(kw,v)::Jg T
def KQ:List ByteArray->Bool
 |[]=>true
 |k::l=>l.all (λq=>!(A2 k q))&&KQ l
theorem QV: ∀ (T:List (Bool × ByteArray × Sx))(pre:List ByteArray),KQ (T.map (·.2.1))=true->(∀ p∈pre, ∀ t∈T,A2 p t.2.1=false)->CL (Dn T) (pre++T.map (·.2.1))=(Jg T,0)
 |[],pre,_,_=>by simp[Dn,Jg,CL]
 |(m,kw,v)::T,pre,hd,hp=>by
  simp only[List.map_cons,KQ,AV,List.all_eq_true,List.mem_map,pT,and_imp,forall_apply_eq_imp_iff₂,EI]at hd;cases m with
  |true=>
   simp only[Dn,Jg,AB,List.map_cons];have:=QV T (pre++[kw]) hd.2 (λp hp2 t ht=>by
    rcases List.mem_append.1 hp2 with h|h
    ·exact hp p h t (by simp[ht])
    ·simp only[List.mem_singleton]at h;subst h;exact hd.1 t ht)
   rw[List.append_assoc]at this;exact this
  |false=>
   simp only[Dn,Jg,AJ,List.map_cons];rw[CL];simp only[kW,tW,DC,AB];rw[Xx (pre:=pre) (λp hp2=>hp p hp2 (false,kw,v) (by simp))];have:=QV T [] hd.2 (by simp);rw[List.nil_append]at this;simp only[this]
theorem Jh(L:List Sx)(m:Bool)(kw:ByteArray)(v:Sx)(T:List (Bool × ByteArray × Sx)):BP L m kw v++Dn T=L++Dn ((m,kw,v)::T):=by
 unfold BP;cases m<;>simp[Dn]
theorem Xy(L:List Sx)(m:Bool)(kw:ByteArray)(v:Sx):BP L m kw v=L++Dn [(m,kw,v)]:=by
 have:=Jh L m kw v [];simpa[Dn]using this
def Ie(t:Fm->Bool)(ff:Fm->Sx)(fe:List Ch->Sx)(a:Ac):List (Bool × ByteArray × Sx):=[((a.params.length:Int)==0,Cc,AC (Aa a.params)),(a.cost==1,EZ,D1 a.cost),(t a.pre,Ff,ff a.pre),((a.changes.length:Int)==0,Ea,fe a.changes)]
def If(t:Fm->Bool)(ff:Fm->Sx)(fe:List Ch->Sx)(a:Du):List (Bool × ByteArray × Sx):=[((a.params.length:Int)==0,Cc,AC (Aa a.params)),(a.Dw==1,E6,D1 a.Dw),(t a.start,Ez,ff a.start),(t a.over,FE,ff a.over),(t a.stop,FO,ff a.stop),((a.Bm.length:Int)==0,Fg,fe a.Bm),((a.Bn.length:Int)==0,Gc,fe a.Bn)]
theorem Xz(t:Fm->Bool)(ff:Fm->Sx)(fe:List Ch->Sx)(a:Ac):Ge t ff fe a=A5 a.name::Dn (Ie t ff fe a):=by
 unfold Ge;rw[Xy,Jh,Jh,Jh];try rfl
theorem Y0(t:Fm->Bool)(ff:Fm->Sx)(fe:List Ch->Sx)(a:Du):Fi t ff fe a=A5 a.name::Dn (If t ff fe a):=by
 unfold Fi;rw[Xy,Jh,Jh,Jh,Jh,Jh,Jh];try rfl
theorem Y1{k n:ByteArray}(h:As n=true):Dt (AC (A5 k::A5 n::l))=(n,0):=by
 simp[Dt,AC,BS,kW,tW,h]
theorem NH{α:Type}{l:List α}(h:((l.length:Int)==0)=true):l=[]:=by
 cases l with
 |nil=>rfl
 |cons a l=>simp only[List.length_cons,F0]at h;omega
theorem nI(n:Int):FT (D1 n)=(n,0):=rfl
theorem nJ(h:I3 p=true):HX (Cq p)=(p,0):=by
 unfold I3 at h;simp only[AV]at h;unfold HX Cq;rw[N4];simp only[h.1,AB,Oj h.2]
theorem nL{f:Fu}(h:HU f=true):HY (Cv f)=(f,0):=by
 unfold HU at h;simp only[AV]at h;unfold HY Cv;rw[List.cons_append,N4];have hl:(Aa f.params++[D1 f.lo,D1 f.hi]).length-2=(Aa f.params).length:=by simp
 simp only[hl,List.drop_left,List.take_left];simp only[D1,Az,L9,DC,LS,AB,h.1,Oj h.2]
theorem Y2: ∀ (l p:List Pr),l.all I3=true->Gf p (l.map Cq)=(p++l,0)
 |[],p,_=>by simp[Gf]
 |a::l,p,h=>by
  simp only[List.all_cons,AV]at h;simp only[List.map_cons,Gf,nJ h.1,DC,AB,Y2 l _ h.2,List.append_assoc,List.singleton_append]
theorem Y3: ∀ (l p:List Fu),l.all HU=true->Gg p (l.map Cv)=(p++l,0)
 |[],p,_=>by simp[Gg]
 |a::l,p,h=>by
  simp only[List.all_cons,AV]at h;simp only[List.map_cons,Gg,nL h.1,DC,AB,Y3 l _ h.2,List.append_assoc,List.singleton_append]
def Fv:Dm->List ByteArray->List Sx->Dm × List ByteArray × Int
 |d,seen,[]=>(d,seen,0)
 |d,seen,k::l=>bif (FU d seen k).2.2==0 then Fv (FU d seen k).1 (FU d seen k).2.1 l else FU d seen k
theorem Y4: ∀ (l:List Sx)(d:Dm)(seen:List ByteArray),Je d seen l=((Fv d seen l).1,(Fv d seen l).2.2)
 |[],d,seen=>rfl
 |k::l,d,seen=>by
  simp only[Je,Fv];cases(FU d seen k).2.2==0 with
  |true=>exact Y4 l _ _
  |false=>rfl
theorem T6: ∀ (l m:List Sx){d d':Dm}{seen seen':List ByteArray},Fv d seen l=(d',seen',0)->Fv d seen (l++m)=Fv d' seen' m
 |[],m,d,d',seen,seen',h=>by
  simp only[Fv,C4,Do]at h;rw[h.1,h.2];try rfl
 |k::l,m,d,d',seen,seen',h=>by
  simp only[List.cons_append,Fv]at h⊢;cases hc:(FU d seen k).2.2==0 with
  |true=>
   rw[hc]at h;exact T6 l m h
  |false=>
   rw[hc]at h;simp only[AJ]at h;rw[h]at hc;simp at hc
theorem nM{seen:List ByteArray}(h1:MI.any (A2 kw)=true)(h2:seen.any (A2 kw)=false):FU d seen (AC (A5 kw::ks))=((D9 d kw ks (AC (A5 kw::ks))).1,kw::seen,(D9 d kw ks (AC (A5 kw::ks))).2):=by
 unfold FU;rw[N4];simp only[h1,h2,AB,AJ]
theorem Y5{seen:List ByteArray}(h1:MI.any (A2 kw)=false):FU d seen (AC (A5 kw::ks))=((D9 d kw ks (AC (A5 kw::ks))).1,seen,(D9 d kw ks (AC (A5 kw::ks))).2):=by
 unfold FU;rw[N4];simp only[h1,AJ]
theorem nN(a:Ac): ∃ ks,Eo a=AC (A5 Cg::ks):=⟨_,Oe a⟩
theorem nO(a:Du): ∃ ks,Ep a=AC (A5 D8::ks):=⟨_,Of a⟩
theorem nP(h:HW d=true):(∀ a∈d.Av,Fs a=true/\Gb a.changes=true)/\ ∀ a∈d.B0,FP a=true/\Gb a.Bm=true/\Gb a.Bn=true:=by
 have hr:LK d=true:=by rw[← mq];exact h
 have hw: ∀ {l:List Ch},l.all CA=true->(((l.length:Int)==0)=false->VS (IZ l))->Gb l=true:=by
  intro l hl hv;rw[mY];unfold LG;rw[(KM hl).1,B7];cases q:((l.length:Int)==0)with
  |true=>rw[NH q];decide
  |false=>exact KL.2 (hv q)
 have hb:=Xo hr;unfold LK at hr;simp only[AV]at hr;obtain⟨va,vu,_⟩:=T0 (KL.1 hr.2);unfold GO at hb;simp only[AV]at hb;obtain⟨⟨_,ba⟩,bd⟩:=hb;rw[List.all_eq_true]at ba bd;refine⟨λa ha=>⟨ba a ha,?_⟩,λa ha=>⟨bd a ha,?_,?_⟩⟩
 ·have b:=ba a ha;have v:=va a ha;unfold Fs at b;simp only[AV]at b;exact hw b.2 λq=>Gn v (List.mem_cons_of_mem _ (by unfold Ge;exact Ic q))
 ·have b:=bd a ha;have v:=vu a ha;unfold FP at b;simp only[AV]at b;exact hw b.1.2 λq=>Gn v (List.mem_cons_of_mem _ (by unfold Fi;exact GA (Ic q)))
 ·have b:=bd a ha;have v:=vu a ha;unfold FP at b;simp only[AV]at b;exact hw b.2 λq=>Gn v (List.mem_cons_of_mem _ (by unfold Fi;exact Ic q))
theorem Y6{l:List Pm}(h:(Aa l).isEmpty=true):l=[]:=by
 cases l with
 |nil=>rfl
 |cons a l=>simp[Aa]at h
theorem Y7{α β:Type}{f:α->β}{l:List α}(h:(l.map f).isEmpty=true):l=[]:=by
 cases l with
 |nil=>rfl
 |cons a l=>simp at h
set_option maxHeartbeats 8000000
theorem Dv(c:Int): ∃ u,AQ c= .sc u:=by
 unfold AQ An;cases c==0<;>exact⟨_,rfl⟩
theorem Y8(h:A0):A6 prog 156 [.agg x.cells] h λr h'=>r= .Al [qK (FT x).1,AQ (FT x).2]/\h'=h:=by
 generalize hF:FT x=F;obtain⟨kind,value,line,col,text,kids⟩:=x;simp only[FT,Az,L9]at hF;simp only[Sx.cells];cases q:(kind==2)with
 |false=>
  rw[q]at hF;subst hF;have q2:(kind !=2)=true:=by simpa using q
  refine AD func156 ntmps156 results156 Ty.V4 ?_;refine wm q2 ?_;try exact zI
  all_goals rfl
 |true=>
  rw[q]at hF;subst hF;have q2:(kind !=2)=false:=by simpa using q
  refine AD func156 ntmps156 results156 Ty.V4 ?_;refine wm q2 ?_;try exact zI
  all_goals rfl
theorem YA(hok:x.ok)(hsm:x.small)(h:A0):A6 prog 155 [.agg x.cells] h λr h'=>r= .Al [.A1 2 (A8 (GP x).1),AQ (GP x).2]/\h'=h:=by
 refine A6.CD Ty.Ri ?_;generalize hF:GP x=F;obtain⟨kind,value,line,col,text,kids⟩:=x;simp only[GP,Az,BS]at hF;simp only[Sx.ok]at hok;simp only[Sx.small]at hsm;have hp:=λh:A0=>M7 (vars:=true) (l:=kids) hsm.1 (Sx.Bs.1 hok.2.2.2.2) h;simp only[Sx.cells];cases q:(kind==3)with
 |false=>
  rw[q]at hF;subst hF;have q2:(kind !=3)=true:=by simpa using q
  refine AD func155 ntmps155 results155 Ty.Ri ?_;refine wt q2 ?_;refine⟨?_,AH.refl _⟩;simp only[AJ,AI,AN];exact⟨_,rfl,.inr (.inl ⟨rfl,.inr rfl⟩),rfl,trivial⟩
 |true=>
  rw[q,AB]at hF;have q2:(kind !=3)=false:=by simpa using q
  rw[hF]at hp;obtain⟨l,c⟩:=F;obtain⟨u,hu⟩:=Dv c;simp only[hu]at hp⊢;refine AD func155 ntmps155 results155 Ty.Ri ?_;refine wt q2 ?_;refine uU A4 (hp _) ?_;refine wt A4 ?_;refine⟨?_,AH.refl _⟩;simp only[AI,AN];exact⟨_,rfl,.inl ⟨rfl,C6 _ _⟩,rfl,trivial⟩
theorem YB(hok:x.ok)(h:A0):A6 prog 153 [.agg x.cells] h λr h'=>r= .Al [A3 (Dt x).1,AQ (Dt x).2]/\h'=h:=by
 generalize hF:Dt x=F;obtain⟨kind,value,line,col,text,kids⟩:=x;simp only[Dt,BS]at hF;simp only[Sx.ok]at hok;have hks:=Sx.Bs.1 hok.2.2.2.2;have hlen:=Sx.B3 kids;simp only[Sx.cells];rcases kids with _|⟨a,_|⟨n,rest⟩⟩
 ·subst hF;have q:decide (((Sx.rows []).length:Int)<2)=true:=by decide
  generalize Sx.rows []=R at q⊢;refine AD func153 ntmps153 results153 Ty.O1 ?_;refine wm q ?_;try exact zI
  all_goals rfl
 ·subst hF;have q:decide (((Sx.rows [a]).length:Int)<2)=true:=by rw[hlen];simp
  generalize Sx.rows [a]=R at q⊢;refine AD func153 ntmps153 results153 Ty.O1 ?_;refine wm q ?_;try exact zI
  all_goals rfl
 ·have q:decide (((Sx.rows (a::n::rest)).length:Int)<2)=false:=by rw[hlen];simp;omega
  have q1:((1:Int)<((Sx.rows (a::n::rest)).length:Int))=True:=Di (by rw[hlen];simp;omega);have r1:=Sx.CG (l:=a::n::rest) (i:=1) rfl;have hno:=hks n (by simp);have hw:=λh:A0=>OW (x:=n) h;generalize Sx.rows (a::n::rest)=R at q q1 r1⊢
  clear hlen hks hok;obtain⟨nk,nv,nl,nc,nt,ns⟩:=n;simp only[Sx.ok]at hno;have hn:=λh:A0=>FY (h:=h) (s:=nt) (by have:=hno.2.2.1;unfold AF at this;omega);simp only[Sx.cells,Az,Af]at r1 hw hF;cases b1:(nk==1)with
  |false=>
   rw[b1]at hF hw;subst hF;refine AD func153 ntmps153 results153 Ty.O1 ?_;refine wt (AU q q1 r1) ?_;refine uU (AU q q1 r1) (hw _) ?_;refine wm yF ?_;try exact zI
   all_goals rfl
  |true=>
   rw[b1]at hF hw;cases b2:As nt with
   |false=>
    rw[b2]at hF hn;subst hF;refine AD func153 ntmps153 results153 Ty.O1 ?_;refine wt (AU q q1 r1) ?_;refine uU (AU q q1 r1) (hw _) ?_;refine wt (AU yT q1 r1) ?_;refine uU (uu q1 r1) (hn _) ?_;refine wm yF ?_;try exact zI
    all_goals rfl
   |true=>
    rw[b2]at hF hn;subst hF;refine AD func153 ntmps153 results153 Ty.O1 ?_;refine wt (AU q q1 r1) ?_;refine uU (AU q q1 r1) (hw _) ?_;refine wt (AU yT q1 r1) ?_;refine uU (uu q1 r1) (hn _) ?_;refine wm (AU yT q1 r1) ?_;try exact zI
    all_goals rfl
theorem NI{kind value line col:Int}{text w:ByteArray}{kids:List Sx}(hok:(Sx.mk kind value line col text kids).ok)(hD:Br (.mk kind value line col text kids)=some (w,l)):
  ∃ yk yv yl yc ys,kids= .mk yk yv yl yc w ys::l/\(Sx.rows kids)[0]? =some [qK yk,qK yv,qK yl,qK yc,A3 w,.A1 6 (Sx.rows ys)]/\((0:Int)<((Sx.rows kids).length:Int))=True/\(1:Int)<=((Sx.rows kids).length:Int)/\
   List.take (((Sx.rows kids).length:Int)-1).toNat (List.drop 1 (Sx.rows kids))=Sx.rows l/\w.size<=9223372036854775807/\(Sx.rows kids).length=l.length+1:=by
 obtain⟨y,rfl,_,hy2⟩:=NC hD;obtain⟨yk,yv,yl,yc,yt,ys⟩:=y;simp only[Af]at hy2;subst hy2;have hlen:=Sx.B3 (.mk yk yv yl yc yt ys::l);have hz:yt.size<=AF:=by
  simp only[Sx.ok,Sx.DK]at hok;exact hok.2.2.2.2.1.2.2.1
 refine⟨yk,yv,yl,yc,ys,rfl,rfl,Di (by rw[hlen];simp<;>omega),by rw[hlen];simp<;>omega,?_,by unfold AF at hz;omega,hlen⟩;simp only[Sx.rows,List.drop_succ_cons,List.drop_zero,List.length_cons];rw[List.take_of_length_le (by omega)]
theorem nQ(hok:x.ok)(h:A0):A6 prog 59 [.agg x.cells] h λr h'=>r= .Al [A3 (HR x CU).1,AQ (HR x CU).2]/\h'=h:=by
 have hb:=MA hok;generalize hF:HR x CU=F;unfold HR at hF;obtain⟨kind,value,line,col,text,kids⟩:=x;generalize hD:Br (.mk kind value line col text kids)=D at hF hb;cases D with
 |none=>
  simp only at hF;simp only[Sx.cells,MU]at hb⊢;subst hF;refine AD func59 ntmps59 results59 Ty.Lq ?_;refine wt A4 ?_;refine uU yF (hb _) ?_;refine wm yF ?_;try exact zI
  all_goals rfl
 |some wl=>
  obtain⟨w,l⟩:=wl;obtain⟨yk,yv,yl,yc,ys,hkd,r0,q0,q1,ht,hws,hrl⟩:=NI hok hD;simp only at hF;simp only[Sx.cells,NO]at hb⊢;simp only[Sx.ok]at hok;have hks:=Sx.Bs.1 hok.2.2.2.2;cases q2:(w.data.toList==(#[100,111,109,97,105,110]:Array UInt8).toList)with
  |false=>
   have q2':(w.data.toList !=(#[100,111,109,97,105,110]:Array UInt8).toList)=true:=(by simpa[bne]using q2);rw[show A2 w CU=false from q2]at hF;subst hF;cases q3:(((Sx.rows kids).length:Int) !=2)with
   |true=>
    generalize Sx.rows kids=R at r0 q0 q3 hb⊢;refine AD func59 ntmps59 results59 Ty.Lq ?_;refine wt A4 ?_;replace zz:=AW yT r0 q0 q3;refine uU zz (hb _) ?_;refine wm zz ?_;try exact zI
    all_goals rfl
   |false=>
    generalize Sx.rows kids=R at r0 q0 q3 hb⊢;refine AD func59 ntmps59 results59 Ty.Lq ?_;refine wt A4 ?_;replace zz:=Ah yT r0 q0 q3 q2 q2';refine uU zz (hb _) ?_;refine wm zz ?_;try exact zI
    all_goals rfl
  |true=>
   have q2':(w.data.toList !=(#[100,111,109,97,105,110]:Array UInt8).toList)=false:=(by simpa[bne]using q2);rw[show A2 w CU=true from q2]at hF;simp only[AB]at hF;cases q3:(((Sx.rows kids).length:Int) !=2)with
   |true=>
    have e:F=(⟨#[]⟩,2):=by
     rw[← hF];rw[hrl]at q3
     match l,q3 with
     |[],_=>rfl
     |[a],q=>simp at q
     |_::_::_,_=>rfl
    subst e;generalize Sx.rows kids=R at r0 q0 q3 hb⊢;refine AD func59 ntmps59 results59 Ty.Lq ?_;refine wt A4 ?_;replace zz:=AW yT r0 q0 q3;refine uU zz (hb _) ?_;refine wm zz ?_;try exact zI
    all_goals rfl
   |false=>
    obtain⟨n,rfl⟩: ∃ n,l=[n]:=by
     rw[hrl]at q3
     match l,q3 with
     |[],q=>simp at q
     |[a],_=>exact⟨a,rfl⟩
     |_::_::l,q=>simp at q;omega
    have q4:((1:Int)<((Sx.rows kids).length:Int))=True:=Di (by rw[hrl];simp);have hno:=hks n (by rw[hkd];simp);have r1:(Sx.rows kids)[1]? =some n.cells:=(by rw[hkd];exact Sx.CG rfl);have hw:=λh:A0=>OW (x:=n) h;generalize Sx.rows kids=R at r0 q0 q3 q4 r1 hb⊢;clear hD hks hkd hok ht hrl;obtain⟨nk,nv,nl,nc,nt,ns⟩:=n;simp only[Sx.ok]at hno;have hn:=λh:A0=>FY (h:=h) (s:=nt) (by have:=hno.2.2.1;unfold AF at this;omega);simp only[Sx.cells,Az,Af]at r1 hw hF;cases b1:(nk==1)with
    |false=>
     rw[b1]at hF hw;subst hF;refine AD func59 ntmps59 results59 Ty.Lq ?_;refine wt A4 ?_;replace zz:=BJ yT r0 q0 q3 q2 q2' q4 r1;refine uU zz (hb _) ?_;refine wt zz ?_;refine uU (AU q4 r1 yF) (hw _) ?_;refine wm yF ?_;try exact zI
     all_goals rfl
    |true=>
     rw[b1]at hF hw;cases b2:As nt with
     |false=>
      rw[b2]at hF hn;subst hF;refine AD func59 ntmps59 results59 Ty.Lq ?_;refine wt A4 ?_;replace zz:=BJ yT r0 q0 q3 q2 q2' q4 r1;refine uU zz (hb _) ?_;refine wt zz ?_;refine uU (uu q4 r1) (hw _) ?_;refine wt (AU yT q4 r1) ?_;refine uU (uu q4 r1) (hn _) ?_;refine wm yF ?_;try exact zI
      all_goals rfl
     |true=>
      rw[b2]at hF hn;subst hF;refine AD func59 ntmps59 results59 Ty.Lq ?_;refine wt A4 ?_;replace zz:=BJ yT r0 q0 q3 q2 q2' q4 r1;refine uU zz (hb _) ?_;refine wt zz ?_;refine uU (uu q4 r1) (hw _) ?_;refine wt (AU yT q4 r1) ?_;refine uU (uu q4 r1) (hn _) ?_;refine wm (AU yT q4 r1) ?_;try exact zI
      all_goals rfl
theorem nR(hc:AQ c=u):AI n H (.Al [.agg (E0 p),AQ c]) (.Al [.agg (E0 p),u]):=by
 subst hc;obtain⟨u,hu⟩:=Dv c;rw[hu];simp only[E0,AI,AN];exact⟨_,rfl,⟨_,rfl,rfl,.inl ⟨rfl,C6 _ _⟩,trivial⟩,rfl,trivial⟩
theorem YC(hc:AQ c=u):AI n H (.Al [.agg (E0 LL),AQ c]) (.Al [.agg [.sc (.string ⟨#[]⟩),.sc (.slice none 0 0)],u]):=by
 subst hc;obtain⟨u,hu⟩:=Dv c;rw[hu];simp only[E0,LL,A8,List.map_nil,AI,AN];exact⟨_,rfl,⟨_,rfl,rfl,.inr (.inl ⟨rfl,.inr rfl⟩),trivial⟩,rfl,trivial⟩
theorem nS(hok:x.ok)(hsm:x.small)(h:A0):A6 prog 119 [.agg x.cells] h λr h'=>r= .Al [.agg (E0 (HX x).1),AQ (HX x).2]/\h'=h:=by
 refine A6.CD Ty.Pq ?_;have hb:=MA hok;have hO:=λw l=>LH hok hsm (w:=w) (l:=l);generalize hF:HX x=F;unfold HX at hF;obtain⟨kind,value,line,col,text,kids⟩:=x;generalize hD:Br (.mk kind value line col text kids)=D at hF hb hO;cases D with
 |none=>
  simp only at hF;simp only[Sx.cells,MU]at hb⊢;subst hF;refine AD func119 ntmps119 results119 Ty.Pq ?_;refine wt A4 ?_;refine uU A4 (hb _) ?_;refine wt yF ?_;exact⟨YC rfl,((AH.refl h).new _).set (AG _) _⟩
 |some wl=>
  obtain⟨w,l⟩:=wl;obtain⟨_,hl,hlo⟩:=hO w l rfl;obtain⟨yk,yv,yl,yc,ys,hkd,r0,q0,q1,ht,hws,hrl⟩:=NI hok hD;simp only at hF;simp only[Sx.cells,NO]at hb⊢;have hn:=λh:A0=>FY (h:=h) (s:=w) hws;have hp:=λh:A0=>M7 (vars:=true) hl hlo h;generalize Sx.rows kids=R at r0 q0 q1 ht hrl hb⊢
  clear hD hO hkd hok hsm;cases b2:As w with
  |false=>
   rw[b2]at hF hn;simp only[AJ]at hF;subst hF;refine AD func119 ntmps119 results119 Ty.Pq ?_;refine wt A4 ?_;refine uU A4 (hb _) ?_;refine wt (AU yT r0 q0) ?_;refine uU (uu r0 q0) (hn _) ?_;refine wt yF ?_;exact⟨YC rfl,((AH.refl h).new _).set (AG _) _⟩
  |true=>
   rw[b2]at hF hn;simp only[AB]at hF;generalize C5 true l=L at hF hp;obtain⟨pl,c⟩:=L;simp only at hF hp;subst hF;obtain⟨u,hu⟩:=Dv c;simp only[hu]at hp;refine AD func119 ntmps119 results119 Ty.Pq ?_;refine wt A4 ?_;refine uU A4 (hb _) ?_;refine wt (AU yT r0 q0) ?_;refine uU (uu r0 q0) (hn _) ?_;replace zz:=Ad yT r0 q0 q1 ht @CW @CX;refine wt zz ?_;replace zz:=AW r0 q0 q1 ht;refine uU zz (hp _) ?_;refine wt (uu r0 q0) ?_;exact⟨nR (p:=⟨w,pl⟩) hu,((AH.refl h).new _).set (AG _) _⟩
theorem nT{p:Fu}(hc:AQ c=u):AI n H (.Al [.agg (E1 p),AQ c]) (.Al [.agg (E1 p),u]):=by
 subst hc;obtain⟨u,hu⟩:=Dv c;rw[hu];simp only[E1,AI,AN];exact⟨_,rfl,⟨_,rfl,rfl,.inl ⟨rfl,C6 _ _⟩,rfl,rfl,trivial⟩,rfl,trivial⟩
theorem Ok(hc:AQ c=u):AI n H (.Al [.agg (E1 I5),AQ c]) (.Al [.agg [.sc (.string ⟨#[]⟩),.sc (.slice none 0 0),qK 0,qK 0],u]):=by
 subst hc;obtain⟨u,hu⟩:=Dv c;rw[hu];simp only[E1,I5,A8,List.map_nil,AI,AN];exact⟨_,rfl,⟨_,rfl,rfl,.inr (.inl ⟨rfl,.inr rfl⟩),rfl,rfl,trivial⟩,rfl,trivial⟩
theorem nU(h:2<=l.length): ∃ lo hi,l.drop (l.length-2)=[lo,hi]/\l[l.length-2]? =some lo/\l[l.length-1]? =some hi:=by
 have e1:l.length-2<l.length:=by omega
 have e2:l.length-2+1<l.length:=by omega
 refine⟨l[l.length-2],l[l.length-2+1],?_,List.getElem?_eq_getElem e1,?_⟩
 ·rw [List.drop_eq_getElem_cons e1,List.drop_eq_getElem_cons e2,List.drop_eq_nil_of_le (by omega)]
 ·rw [show l.length-1=l.length-2+1 from by omega];exact List.getElem?_eq_getElem e2
theorem nW(hok:x.ok)(hsm:x.small)(h:A0):A6 prog 120 [.agg x.cells] h λr h'=>r= .Al [.agg (E1 (HY x).1),AQ (HY x).2]/\h'=h:=by
 refine A6.CD Ty.Lr ?_;have hb:=MA hok;have hO:=λw l=>LH hok hsm (w:=w) (l:=l);generalize hF:HY x=F;unfold HY at hF;obtain⟨kind,value,line,col,text,kids⟩:=x;generalize hD:Br (.mk kind value line col text kids)=D at hF hb hO;cases D with
 |none=>
  simp only at hF;simp only[Sx.cells,MU]at hb⊢;subst hF;refine AD func120 ntmps120 results120 Ty.Lr ?_;refine wt A4 ?_;refine uU yF (hb _) ?_;refine wt yF ?_;exact⟨Ok rfl,((AH.refl h).new _).set (AG _) _⟩
 |some wl=>
  obtain⟨w,l⟩:=wl;obtain⟨_,hl,hlo⟩:=hO w l rfl;obtain⟨yk,yv,yl,yc,ys,hkd,r0,q0,q1,ht,hws,hrl⟩:=NI hok hD;simp only at hF;simp only[Sx.cells,NO]at hb⊢;have hn:=λh:A0=>FY (h:=h) (s:=w) hws;cases q3:decide (((Sx.rows kids).length:Int)<3)with
  |true=>
   have e:F=(I5,2):=by
    rw[← hF];have:l.length<2:=by
     rw[hrl]at q3;simp at q3;omega
    match l,this with
    |[],_=>rfl
    |[a],_=>rfl
   subst e;generalize Sx.rows kids=R at q3 hb⊢;refine AD func120 ntmps120 results120 Ty.Lr ?_;refine wt A4 ?_;refine uU (uu yT q3) (hb _) ?_;refine wt (uu yT q3) ?_;exact⟨Ok rfl,((AH.refl h).new _).set (AG _) _⟩
  |false=>
   have hl2:2<=l.length:=by
    rw[hrl]at q3;simp at q3;omega
   obtain⟨lo,hi,hdr,g1,g2⟩:=nU hl2;rw[hdr]at hF;simp only at hF;have n1:IntKind.i64.wrap (((Sx.rows kids).length:Int)-2)=((l.length-1:Nat):Int):=(by rw[hrl,BM (by omega) (by omega)];omega);have n2:IntKind.i64.wrap (((Sx.rows kids).length:Int)-1)=((l.length:Nat):Int):=(by rw[hrl,BM (by omega) (by omega)];omega);have a1:(Sx.rows kids)[l.length-1]? =some lo.cells:=by
    rw[hkd];refine Sx.CG ?_;rw[show l.length-1=(l.length-2)+1 from by omega,List.getElem?_cons_succ];exact g1
   have a2:(Sx.rows kids)[l.length]? =some hi.cells:=by
    rw[hkd];refine Sx.CG ?_;rw[show l.length=(l.length-1)+1 from by omega,List.getElem?_cons_succ];exact g2
   have t1:List.take (((l.length-1:Nat):Int)-1).toNat (List.drop 1 (Sx.rows kids))=Sx.rows (l.take (l.length-2)):=by
    rw[hkd];simp only[Sx.rows,List.drop_succ_cons,List.drop_zero,Sx.rows_map,List.map_take];congr 1;omega
   have b0:(((l.length-1:Nat):Int)<((Sx.rows kids).length:Int))=True:=Di (by rw[hrl];omega);have b1:(((l.length:Nat):Int)<((Sx.rows kids).length:Int))=True:=Di (by rw[hrl];omega);have b2:(1:Int)<=((l.length-1:Nat):Int):=(by omega);have b3:((l.length-1:Nat):Int)<=((Sx.rows kids).length:Int):=(by rw[hrl];omega);have b4:(0:Int)<=((l.length-1:Nat):Int):=(by omega);have b5:(0:Int)<=((l.length:Nat):Int):=(by omega);have hp:=λh:A0=>M7 (vars:=true) (l:=l.take (l.length-2)) (by rw[List.length_take];omega) (λy hy=>hlo y (List.mem_of_mem_take hy)) h;generalize hRR:Sx.rows kids=R at r0 q0 q1 q3 n1 n2 a1 a2 t1 b0 b1 b3 hb⊢;clear hD hO hkd hok hsm ht hrl hdr g1 g2 hRR;generalize l.take (l.length-2)=l2 at hF hp t1;generalize l.length-1=k1 at n1 a1 t1 b0 b2 b3 b4;generalize l.length=k2 at n2 a2 b1 b5;obtain⟨lk,lv,ll,lc,lt,ls⟩:=lo;obtain⟨ik,iv,il,ic,it,is⟩:=hi;simp only[Sx.cells,Az,L9]at a1 a2 hF;have T1:(k1:Int).toNat=k1:=MT k1;have T2:(k2:Int).toNat=k2:=MT k2;cases z1:(lk==2)with
   |false=>
    have z1':(lk !=2)=true:=(by simpa using z1);rw[z1,B5,AJ]at hF;subst hF;refine AD func120 ntmps120 results120 Ty.Lr ?_;refine wt A4 ?_;refine Gy (hb _) (by(try simp only[Ty.w,simprocAttr,Ax,q3,n1,b0,b4,T1,a1,z1']);try rfl) ?_;simp only[Ty.w,simprocAttr,Ax,q3,n1,b0,b4,T1,a1,z1'];(repeat'(first|refine cK ?_|(refine nK ?_;try exact zI)|refine Ai λK hK=>?_|((first|refine Bp ?_|refine Eu ?_);simp only[Ty.w,simprocAttr,Ax,q3,n1,b0,b4,T1,a1,z1'])|(refine hK _ _ ?_;clear hK;(try simp only[At,simprocAttr]))));exact⟨Ok rfl,((AH.refl h).new _).set (AG _) _⟩
   |true=>
    have z1':(lk !=2)=false:=(by simpa using z1);rw[z1,B7]at hF;cases z2:(ik==2)with
    |false=>
     have z2':(ik !=2)=true:=(by simpa using z2);rw[z2,AJ]at hF;subst hF;refine AD func120 ntmps120 results120 Ty.Lr ?_;refine wt A4 ?_;refine Gy (hb _) (by(try simp only[Ty.w,simprocAttr,Ax,q3,n1,b0,b4,T1,a1,z1',n2,b1,b5,T2,a2,z2']);try rfl) ?_;simp only[Ty.w,simprocAttr,Ax,q3,n1,b0,b4,T1,a1,z1',n2,b1,b5,T2,a2,z2'];(repeat'(first|refine cK ?_|(refine nK ?_;try exact zI)|refine Ai λK hK=>?_|((first|refine Bp ?_|refine Eu ?_);simp only[Ty.w,simprocAttr,Ax,q3,n1,b0,b4,T1,a1,z1',n2,b1,b5,T2,a2,z2'])|(refine hK _ _ ?_;clear hK;(try simp only[At,simprocAttr]))));exact⟨Ok rfl,((AH.refl h).new _).set (AG _) _⟩
    |true=>
     have z2':(ik !=2)=false:=(by simpa using z2);rw[z2,AB]at hF;cases b9:As w with
     |false=>
      rw[b9]at hF hn;simp only[AJ]at hF;subst hF;refine AD func120 ntmps120 results120 Ty.Lr ?_;refine wt A4 ?_;refine Gy (hb _) (by(try simp only[Ty.w,simprocAttr,Ax,q3,n1,b0,b4,T1,a1,z1',n2,b1,b5,T2,a2,z2',r0,q0]);try rfl) ?_;simp only[Ty.w,simprocAttr,Ax,q3,n1,b0,b4,T1,a1,z1',n2,b1,b5,T2,a2,z2',r0,q0];(repeat'(first|refine cK ?_|(refine nK ?_;try exact zI)|refine Ai λK hK=>?_|(refine Bp ?_;simp only[Ty.w,simprocAttr,Ax,q3,n1,b0,b4,T1,a1,z1',n2,b1,b5,T2,a2,z2',r0,q0])|(refine Gk ?_;(try simp only[At,simprocAttr]))|(refine Eg _ (by(try simp only[Ty.w,simprocAttr,Ax,q3,n1,b0,b4,T1,a1,z1',n2,b1,b5,T2,a2,z2',r0,q0]);rfl) (λhb=>?_) (λhb=>?_)<;>(try simp only[DD,Ba,Cw,simprocAttr]at hb)<;>(try(exfalso;omega)))|(refine hK _ _ ?_;clear hK;(try simp only[At,simprocAttr]))));refine uU (uu r0 q0) (hn _) ?_;(repeat'(first|refine cK ?_|refine nK ?_|refine Ai λK hK=>?_|refine uR yF ?_|refine uT yF ?_|(refine uN hK ?_;clear hK)|apply zI));exact⟨Ok rfl,((AH.refl h).new _).set (AG _) _⟩
     |true=>
      rw[b9]at hF hn;simp only[AB]at hF;generalize C5 true l2=L at hF hp;obtain⟨pl,c⟩:=L;simp only at hF hp;subst hF;obtain⟨u,hu⟩:=Dv c;simp only[hu]at hp;refine AD func120 ntmps120 results120 Ty.Lr ?_;refine wt A4 ?_;refine Gy (hb _) (by(try simp only[Ty.w,simprocAttr,Ax,q3,n1,b0,b4,T1,a1,z1',n2,b1,b5,T2,a2,z2',r0,q0]);try rfl) ?_;simp only[Ty.w,simprocAttr,Ax,q3,n1,b0,b4,T1,a1,z1',n2,b1,b5,T2,a2,z2',r0,q0];(repeat'(first|refine cK ?_|(refine nK ?_;try exact zI)|refine Ai λK hK=>?_|(refine Bp ?_;simp only[Ty.w,simprocAttr,Ax,q3,n1,b0,b4,T1,a1,z1',n2,b1,b5,T2,a2,z2',r0,q0])|(refine Gk ?_;(try simp only[At,simprocAttr]))|(refine Eg _ (by(try simp only[Ty.w,simprocAttr,Ax,q3,n1,b0,b4,T1,a1,z1',n2,b1,b5,T2,a2,z2',r0,q0]);rfl) (λhb=>?_) (λhb=>?_)<;>(try simp only[DD,Ba,Cw,simprocAttr]at hb)<;>(try(exfalso;omega)))|(refine hK _ _ ?_;clear hK;(try simp only[At,simprocAttr]))));refine uU (uu r0 q0) (hn _) ?_;(repeat'(first|refine cK ?_|(refine nK ?_;try exact zI)|refine Ai λK hK=>?_|(refine Bp ?_;simp only[Ty.w,simprocAttr,Ax,n1,b2,b3,b4,T1,t1,BD,Bv,CW,CX])|(refine Gk ?_;(try simp only[At,simprocAttr]))|(refine Eg _ (by(try simp only[Ty.w,simprocAttr,Ax,n1,b2,b3,b4,T1,t1,BD,Bv,CW,CX]);rfl) (λhb=>?_) (λhb=>?_)<;>(try simp only[DD,Ba,Cw,simprocAttr]at hb)<;>(try(exfalso;omega)))|(refine hK _ _ ?_;clear hK;(try simp only[At,simprocAttr]))));refine Gy (hp _) (by(try simp only[Ty.w,simprocAttr,n1,b2,b3,b4,T1,t1,CX]);try rfl) ?_;simp only[Ty.w,simprocAttr,n1,b2,b3,b4,T1,t1,CX];(repeat'(first|refine cK ?_|(refine nK ?_;try exact zI)|refine Ai λK hK=>?_|((first|refine Nq (by decide+kernel) ?_|refine Eu ?_);simp only[Ty.w,simprocAttr,r0,q0,n1,b0,b4,T1,a1,n2,b1,b5,T2,a2])|(refine hK _ _ ?_;clear hK;(try simp only[At,simprocAttr]))|(with_reducible refine RT (by simp only[List.forall_mem_cons,Ty.w,simprocAttr,r0,q0,n1,b0,b4,T1,a1,n2,b1,b5,T2,a2]<;>(repeat' apply And.intro)<;>first|trivial|exact .inl (by decide+kernel)) ?_;try simp only[Ty.w,simprocAttr,r0,q0,n1,b0,b4,T1,a1,n2,b1,b5,T2,a2])));exact⟨nT (p:=⟨w,pl,lv,iv⟩) hu,((AH.refl h).new _).set (AG _) _⟩
theorem nY{l:List ByteArray}{s:ByteArray}(hl:l.length<=9223372036854775807):A6 prog 60 [.A1 1 (AL l),A3 s] h λr h'=>r= .sc (.bool (decide (HK l s>=0)))/\h'=h:=by
 have hi:=λh:A0=>Rn (h:=h) (s:=s) hl;generalize HK l s=i at hi⊢;generalize AL l=R at hi⊢;refine AD func60 ntmps60 results60 Ty.Uh ?_;refine wt A4 ?_;refine uU A4 (hi _) ?_;refine wm A4 ?_;try exact zI
 all_goals first|rfl|(simp;done)
theorem nZ(a b:ByteArray):A2 a b=A2 b a:=by
 unfold A2;exact Bool.beq_comm
theorem YD(w:ByteArray): ∀ o:List ByteArray,(IU o w=none/\HK o w= -1)\/ ∃ k:Nat,k<o.length/\HK o w=(k:Int)/\IU o w=some (o.drop (k+1))
 |[]=> .inl ⟨rfl,rfl⟩
 |a::o=>by
  unfold HK;rw[List.findIdx?_cons];simp only[IU,nZ a w];cases h:A2 w a with
  |true=>exact .inr ⟨0,by simp,by simp,by simp⟩
  |false=>
   simp only[AJ];rcases YD w o with⟨h1,h2⟩|⟨k,h1,h2,h3⟩
   ·left;refine⟨h1,?_⟩;unfold HK at h2;cases h4:o.findIdx? (λv=>A2 w v)with
    |none=>simp
    |some i=>rw[h4]at h2;simp only at h2;omega
   ·right;refine⟨k+1,by simp;omega,?_,by simpa using h3⟩;unfold HK at h2;cases h4:o.findIdx? (λv=>A2 w v)with
    |none=>rw[h4]at h2;simp only at h2;omega
    |some i=>rw[h4]at h2;simp only at h2;simp;omega
theorem Tl.He{lo z':Nat}{p:PV}{R R':List (List PV)}(tp:Tl h lo z p R)(tq:Tl h lo z' q R')(hz:z≠z')(t1:F3 h p=some (H,R))(t3:H.next=h.next):Tl H lo z' q R':=by
 rcases tq with tq|⟨id',a1,a2,rfl,a3⟩
 ·exact .inl tq
 ·refine .inr ⟨id',a1,by omega,rfl,?_⟩;rcases tp with⟨rfl,rfl|rfl⟩|⟨id,b1,b2,rfl,b3⟩
  ·simp only[F3,BC,C4]at t1;rw[← t1.1];exact a3
  ·simp only[F3,BC,C4]at t1;rw[← t1.1];exact a3
  ·have hne:id'≠id:=by
    intro e;subst e;rw[a3]at b3;simp only[BC,Am.arr.injEq]at b3;exact hz b3.1.symm
   simp only[F3,b3]at t1;split at t1
   ·simp only[BC,C4]at t1;rw[← t1.1];simp only[A0.kill];rw[A7 hne];exact a3
   ·cases t1
structure Ol(h0:A0)(N:List ByteArray)(V:List Sx)(a b:PV)(H:A0):Prop where
 grow:AH h0 H
 ta:Tl H h0.next 1 a (AL N)
 tb:Tl H h0.next 6 b (Sx.rows V)
theorem Ol.push{h0:A0}{N:List ByteArray}{V:List Sx}{a b:PV}(i:Ol h0 N V a b H)(s:ByteArray)(v:Sx): ∃ H1 H3,F3 H a=some (H1,AL N)/\Dx H 1 a=true/\H1.next=H.next/\F3 (H1.new (.arr 1 (AL N++[[A3 s]]))) b=some (H3,Sx.rows V)/\Dx (H1.new (.arr 1 (AL N++[[A3 s]]))) 6 b=true/\H3.next=H.next+1/\
  Ol h0 (N++[s]) (V++[v]) (.own H.next 0 (N.length+1)) (.own (H.next+1) 0 (V.length+1)) (H3.new (.arr 6 (Sx.rows V++[v.cells]))):=by
 obtain⟨g,ta,tb⟩:=i;have hle:=g.le;obtain⟨H1,t1,t2,t3,t4,t5⟩:=ta.tail;have k1:=t5 h0 ⟨g.le,g.B1⟩ (AG _);have g1:AH h0 (H1.new (.arr 1 (AL N++[[A3 s]]))):=(⟨k1.1,k1.2⟩:AH h0 H1).new _;have tb1:=Tl.He ta tb (by decide) t1 t3;have tb2:Tl (H1.new (.arr 1 (AL N++[[A3 s]]))) h0.next 6 b (Sx.rows V):=tb1.up (by simp only[A0.new];omega) λj _ hj=>E4 hj
 have ta2:Tl (H1.new (.arr 1 (AL N++[[A3 s]]))) h0.next 1 (.own H.next 0 (N.length+1)) (AL N++[[A3 s]]):=by
  rw[← t3];exact Tl.grow (by omega) (by simp[AL])
 obtain⟨H3,u1,u2,u3,u4,u5⟩:=tb2.tail;have k3:=u5 h0 ⟨g1.le,g1.B1⟩ (AG _);have e3:H3.next=H.next+1:=by rw[u3];show H1.next+1=_;rw[t3]
 have ta3:=Tl.He tb2 ta2 (by decide) u1 u3;refine⟨H1,H3,t1,t2,t3,u1,u2,e3,(⟨k3.1,k3.2⟩:AH h0 H3).new _,?_,?_⟩
 ·have:AL (N++[s])=AL N++[[A3 s]]:=by simp[AL]
  rw[this];exact ta3.up (by simp only[A0.new];omega) λj _ hj=>E4 hj
 ·have:Sx.rows (V++[v])=Sx.rows V++[v.cells]:=by simp[Sx.rows_map]
  rw[this, ← e3];exact Tl.grow (by omega) (by simp[Sx.B3])
theorem nb(l:List ByteArray): ∀ r∈AL l, ∀ p∈r, ∃ v,p=PV.sc v:=by
 intro r hr p hp;simp only[AL,List.mem_map]at hr;obtain⟨x,_,rfl⟩:=hr;simp only[List.mem_singleton]at hp;exact⟨_,hp⟩
theorem Om{a:Sx}{rest:List Sx}{kws:List ByteArray}:CL (a::v::rest) kws=(bif Az a==1 then(match IU kws (Af a)with
   |some kws'=>((Af a,v)::(CL rest kws').1,(CL rest kws').2)
   |none=>([],2))else([],2)):=by first|rfl|(rw[CL];try rfl)|simp[CL]
theorem T7: ∀ (l:List Sx)(kws:List ByteArray), ∀ kv∈(CL l kws).1,kv.2∈l
 |[],_,kv,h=>by simp[CL]at h
 |[_],_,kv,h=>by simp[CL]at h
 |a::v::rest,kws,kv,h=>by
  rw[Om]at h;cases k:Az a==1 with
  |false=>rw[k]at h;simp at h
  |true=>
   rw[k,AB]at h;cases ha:IU kws (Af a)with
   |none=>rw[ha]at h;simp at h
   |some k'=>
    rw[ha]at h;simp only[List.mem_cons]at h;rcases h with rfl|h
    ·simp
    ·have:=T7 rest k' kv h;simp[this]
theorem T8: ∀ (l:List Sx)(kws:List ByteArray),(CL l kws).1.length<=l.length
 |[],_=>by simp[CL]
 |[_],_=>by simp[CL]
 |a::v::rest,kws=>by
  rw[Om];cases Az a==1 with
  |false=>simp
  |true=>
   rw[AB];cases IU kws (Af a)with
   |none=>simp
   |some k'=>
    have:=T8 rest k';simp only[List.length_cons];omega
theorem QW{F acc:List (ByteArray × Sx)}{a b:PV}(hF:F=acc)(hu:AQ c=u)(i:Ol h (acc.map (·.1)) (acc.map (·.2)) a b H):AI h.next H (.Al [.A1 1 (AL (F.map (·.1))),.A1 6 (Sx.rows (F.map (·.2))),AQ c]) (.Al [a,b,u])/\AH h H:=by
 subst hF;subst hu;obtain⟨u,hu⟩:=Dv c;rw[hu];refine⟨?_,i.grow⟩;have h1:=i.ta.CD (nb _);have h2:=Rx i.tb;unfold AI;refine⟨_,rfl,?_⟩;unfold AN;refine⟨h1,?_⟩;unfold AN;refine⟨h2,?_⟩;simp only[AN,AI,KV]
theorem YE{kws:List ByteArray}(hl:l.length<=1048576)(hkl:kws.length<=100)(h:A0):A6 prog 154 [.A1 6 (Sx.rows l),.A1 1 (AL kws)] h λr h'=>
  r= .Al [.A1 1 (AL ((CL l kws).1.map (·.1))),.A1 6 (Sx.rows ((CL l kws).1.map (·.2))),AQ (CL l kws).2]/\h'=h:=by
 refine A6.CD Ty.V3 ?_;have hll:=Sx.B3 l;have hks:(AL kws).length=kws.length:=GI kws;generalize hF:CL l kws=F;obtain⟨F1,F2⟩:=F;simp only;refine AD func154 ntmps154 results154 Ty.V3 ?_;refine wt hll ?_;refine By (λm S H=>S 0= .A1 6 (Sx.rows l)/\S 1= .A1 1 (AL kws)/\ ∃ (i nx:Nat)(a b:PV)(acc:List (ByteArray × Sx)),S 10= qK i/\S 9= qK nx/\S 7=a/\S 8=b/\i<=l.length/\nx<=kws.length/\acc.length<=i/\m=l.length-i/\Ol h (acc.map (·.1)) (acc.map (·.2)) a b H/\
  F1=acc++(CL (l.drop i) (kws.drop nx)).1/\F2=(CL (l.drop i) (kws.drop nx)).2) l.length ?_ ?_
 ·simp only[Ty.w,simprocAttr];exact⟨0,0,_,_,[],rfl,rfl,rfl,rfl,Bj _,Bj _,AG _,rfl,⟨AH.refl h,Tl.nil,Tl.nil⟩,by rw[List.drop_zero,List.drop_zero,hF];try rfl,by rw[List.drop_zero,List.drop_zero,hF]⟩
 clear hF;rintro m S H ⟨s0,s1,i,nx,a,b,acc,s10,s9,s7,s8,hi,hnx,hac,rfl,hI,hF1,hF2⟩;by_cases hlt:i<l.length
 ·have hd:decide ((i:Int)<(l.length:Int))=true:=by simp;omega
  have hdp:((i:Int)<(l.length:Int))=True:=Di (by omega);have w1:IntKind.i64.wrap ((i:Int)+1)=((i+1:Nat):Int):=by rw[BM (by omega) (by omega)];omega
  have w2:IntKind.i64.wrap ((i:Int)+2)=((i+2:Nat):Int):=by rw[BM (by omega) (by omega)];omega
  obtain⟨x,hx⟩: ∃ x,l[i]? =some x:=⟨_,List.getElem?_eq_getElem hlt⟩;have hr:=Sx.CG hx;have hw:=λh:A0=>OW (x:=x) h;have hix:=λh:A0=>Rn (h:=h) (l:=kws.drop nx) (s:=Af x) (by rw[List.length_drop];omega);have hai:=YD (Af x) (kws.drop nx);have htk:List.take ((kws.length:Int)-(nx:Int)).toNat (List.drop nx (AL kws))=AL (kws.drop nx):=by
   simp only[AL,List.map_drop];rw[List.take_of_length_le];rw[List.length_drop,List.length_map];omega
  have T1:(nx:Int).toNat=nx:=MT nx;have T2:(i:Int).toNat=i:=MT i;have b1:(nx:Int)<=(kws.length:Int):=by omega
  have b0:(0:Int)<=(nx:Int):=by omega
  have b2:(0:Int)<=(i:Int):=by omega
  have hdr:=Ca hx
  have bad: ∀ {A B:List (ByteArray × Sx)},CL (l.drop i) (kws.drop nx)=([],2)->F1=acc/\F2=2:=λe=>by
   rw[e]at hF1 hF2;simp only[List.append_nil]at hF1;exact⟨hF1,hF2⟩
  cases k1:(Az x==1)with
  |false=>
   have e:CL (l.drop i) (kws.drop nx)=([],2):=by
    rw[hdr];cases l.drop (i+1)with
    |nil=>rfl
    |cons v rest=>rw[Om,k1];try rfl
   obtain⟨e1,e2⟩:=bad (A:=[]) (B:=[]) e;rw[k1]at hw;subst e2;clear hix hai hF1 hF2 hdr;obtain⟨xk,xv,xl,xc,xt,xs⟩:=x;simp only[Sx.cells]at hr hw;replace zz:=B6 s0 s1 s7 s8 s9 s10 hll hd hdp hr;refine wt zz ?_;replace zz:=BF s0 s1 s7 s8 s9 s10 hll hdp hr;refine uU zz (hw _) ?_;replace zz:=Ah s0 s1 s7 s8 s9 s10;refine wt zz ?_;exact QW (c:=2) e1 rfl hI
  |true=>
   rw[k1]at hw;rcases hai with⟨ha1,ha2⟩|⟨k,hkk,ha2,ha3⟩
   ·have e:CL (l.drop i) (kws.drop nx)=([],2):=by
     rw[hdr];cases l.drop (i+1)with
     |nil=>rfl
     |cons v rest=>rw[Om,k1,ha1];try rfl
    obtain⟨e1,e2⟩:=bad (A:=[]) (B:=[]) e;rw[ha2]at hix;subst e2;clear hF1 hF2 hdr;obtain⟨xk,xv,xl,xc,xt,xs⟩:=x;simp only[Sx.cells,Af]at hr hw hix;replace zz:=B6 s0 s1 s7 s8 s9 s10 hll hd hdp hr;refine wt zz ?_;replace zz:=BF s0 s1 s7 s8 s9 s10 hll hdp hr;refine uU zz (hw _) ?_;repeat'(first|refine cK ?_|(refine nK ?_;try exact zI)|(refine Nq (by decide+kernel) ?_;simp only[Ty.w,simprocAttr,s0,s1,s7,s8,s9,s10,hll,hks,hdp,hr,htk,T1,b0,b1,BD,Bv,CW,CX])|(refine Eg _ (by(try simp only[Ty.w,simprocAttr,s0,s1,s7,s8,s9,s10,hll,hks,hdp,hr,htk,T1,b0,b1,BD,Bv,CW,CX]);rfl) (λhb=>?_) (λhb=>?_)<;>(try simp only[DD,Ba,Cw,simprocAttr]at hb)<;>(try(exfalso;omega)))|(refine hK _ _ ?_;clear hK;(try simp only[At,simprocAttr])))
    (first|refine Ml (hix _) (by(try simp only[Ty.w,simprocAttr,s0,s1,s7,s8,s9,s10,hll,hks,hdp,hr,htk,T1,b0,b1,BD,Bv,CW,CX]);try rfl) ?_|refine Iq (hix _) (by(try simp only[Ty.w,simprocAttr,s0,s1,s7,s8,s9,s10,hll,hks,hdp,hr,htk,T1,b0,b1,BD,Bv,CW,CX]);try rfl) (by simp only[Ty.w,simprocAttr,s0,s1,s7,s8,s9,s10,hll,hks,hdp,hr,htk,T1,b0,b1,BD,Bv,CW,CX];try trivial) ?_);simp only[Ty.w,simprocAttr,BD,s0,s1,s7,s8,s9,s10,hll,hks,hdp,hr,htk,T1,b0,b1,BD,Bv,CW,CX]
    replace zz:=Ah s0 s1 s7 s8 s9 s10;refine wy zz ?_;exact QW (c:=2) e1 rfl hI
   ·rw [ha2]at hix;have z0:decide ((k:Int)<0)=false:=(by simp);by_cases hl2:i+1<l.length
    ·have q4:decide (((i+1:Nat):Int)>=(l.length:Int))=false:=(by simp;omega);have q5:(((i+1:Nat):Int)<(l.length:Int))=True:=Di (by omega);have T3:((i+1:Nat):Int).toNat=i+1:=MT (i+1);have b3:(0:Int)<=((i+1:Nat):Int):=(by omega);have w3:IntKind.i64.wrap ((k:Int)+1)=((k+1:Nat):Int):=(by rw[List.length_drop]at hkk;rw[BM (by omega) (by omega)];omega);have w4:IntKind.i64.wrap ((nx:Int)+((k+1:Nat):Int))=((nx+(k+1):Nat):Int):=(by rw[List.length_drop]at hkk;rw[BM (by omega) (by omega)];omega);obtain⟨v,hv⟩: ∃ v,l[i+1]? =some v:=⟨_,List.getElem?_eq_getElem hl2⟩;have hrv:=Sx.CG hv;have e:CL (l.drop i) (kws.drop nx)=((Af x,v)::(CL (l.drop (i+2)) (kws.drop (nx+(k+1)))).1,(CL (l.drop (i+2)) (kws.drop (nx+(k+1)))).2):=by
      rw[hdr,Ca hv,Om,k1,ha3,List.drop_drop];try rfl
     rw[e]at hF1 hF2;simp only at hF1 hF2;obtain⟨H1,H3,t1,t2,t3,u1,u2,u3,hI2⟩:=hI.push (Af x) v;have hN:(AL (acc.map (·.1))).length=acc.length:=(by rw[GI,List.length_map]);have hV:(Sx.rows (acc.map (·.2))).length=acc.length:=(by rw[Sx.B3,List.length_map]);have bb1:(acc.length+1)*16<=140737488355328:=(by omega);have bb2:(acc.length+1)*72<=140737488355328:=(by omega);have ln1:(acc.map (·.1)).length=acc.length:=List.length_map ..;have ln2:(acc.map (·.2)).length=acc.length:=List.length_map ..;rw[ln1,ln2]at hI2;have hac2:acc++(Af x,v)::(CL (l.drop (i+2)) (kws.drop (nx+(k+1)))).1=(acc++[(Af x,v)])++(CL (l.drop (i+2)) (kws.drop (nx+(k+1)))).1:=(by simp);rw[hac2]at hF1;have hm1:(acc++[(Af x,v)]).map (·.1)=acc.map (·.1)++[Af x]:=(by simp);have hm2:(acc++[(Af x,v)]).map (·.2)=acc.map (·.2)++[v]:=(by simp);rw[← hm1, ← hm2]at hI2;have hal:(acc++[(Af x,v)]).length=acc.length+1:=(by simp);generalize acc++[(Af x,v)]=acc2 at hI2 hF1 hal;clear hac2 hm1 hm2 hdr e hx hv bad hI ln1 ln2;rw[List.length_drop]at hkk;obtain⟨xk,xv,xl,xc,xt,xs⟩:=x;obtain⟨yk,yv,yl,yc,yt,ys⟩:=v;simp only[Sx.cells,Af]at hr hw hix hrv t1 t2 t3 u1 u2 u3 hI2;replace zz:=B6 s0 s1 s7 s8 s9 s10 hll hd hdp hr;refine wt zz ?_;replace zz:=BF s0 s1 s7 s8 s9 s10 hll hdp hr;refine uU zz (hw _) ?_;repeat'(first|refine cK ?_|(refine nK ?_;try exact zI)|(refine Nq (by decide+kernel) ?_;simp only[Ty.w,simprocAttr,s0,s1,s7,s8,s9,s10,hll,hks,hdp,hr,htk,T1,b0,b1,BD,Bv,CW,CX])|(refine Eg _ (by(try simp only[Ty.w,simprocAttr,s0,s1,s7,s8,s9,s10,hll,hks,hdp,hr,htk,T1,b0,b1,BD,Bv,CW,CX]);rfl) (λhb=>?_) (λhb=>?_)<;>(try simp only[DD,Ba,Cw,simprocAttr]at hb)<;>(try(exfalso;omega)))|(refine hK _ _ ?_;clear hK;(try simp only[At,simprocAttr])))
     (first|refine Ml (hix _) (by(try simp only[Ty.w,simprocAttr,s0,s1,s7,s8,s9,s10,hll,hks,hdp,hr,htk,T1,b0,b1,BD,Bv,CW,CX]);try rfl) ?_|refine Iq (hix _) (by(try simp only[Ty.w,simprocAttr,s0,s1,s7,s8,s9,s10,hll,hks,hdp,hr,htk,T1,b0,b1,BD,Bv,CW,CX]);try rfl) (by simp only[Ty.w,simprocAttr,s0,s1,s7,s8,s9,s10,hll,hks,hdp,hr,htk,T1,b0,b1,BD,Bv,CW,CX];try trivial) ?_);simp only[Ty.w,simprocAttr,BD,s0,s1,s7,s8,s9,s10,hll,hks,hdp,hr,htk,T1,b0,b1,BD,Bv,CW,CX]
     (repeat'(first|refine cK ?_|(refine nK ?_;try exact zI)|refine Ai λK hK=>?_|((first|refine Bp ?_|refine UU (by decide+kernel) (λK hK=>?_));simp only[Ty.w,simprocAttr,s0,s1,s7,s8,s9,s10,hll,z0,w1,w2,w3,w4,q4,q5,hdp,hr,hrv,T3,b3,t1,t2,t3,u1,u2,u3,hN,hV,bb1,bb2])|(refine Gk ?_;(try simp only[At,simprocAttr]))|(refine Eg _ (by(try simp only[Ty.w,simprocAttr,s0,s1,s7,s8,s9,s10,hll,z0,w1,w2,w3,w4,q4,q5,hdp,hr,hrv,T3,b3,t1,t2,t3,u1,u2,u3,hN,hV,bb1,bb2]);rfl) (λhb=>?_) (λhb=>?_)<;>(try simp only[DD,Ba,Cw,simprocAttr]at hb)<;>(try(exfalso;omega)))|(refine hK _ _ ?_;clear hK;(try simp only[At,simprocAttr]))|(with_reducible refine RT (by simp only[List.forall_mem_cons,Ty.w,simprocAttr,s0,s1,s7,s8,s9,s10,hll,z0,w1,w2,w3,w4,q4,q5,hdp,hr,hrv,T3,b3,t1,t2,t3,u1,u2,u3,hN,hV,bb1,bb2]<;>(repeat' apply And.intro)<;>first|trivial|exact .inl (by decide+kernel)) ?_;try simp only[Ty.w,simprocAttr,s0,s1,s7,s8,s9,s10,hll,z0,w1,w2,w3,w4,q4,q5,hdp,hr,hrv,T3,b3,t1,t2,t3,u1,u2,u3,hN,hV,bb1,bb2])));exact⟨l.length-(i+2),by omega,i+2,nx+(k+1),_,_,acc2,rfl,rfl,rfl,rfl,by omega,by omega,by omega,rfl,hI2,hF1,hF2⟩
    ·have q4:decide (((i+1:Nat):Int)>=(l.length:Int))=true:=(by simp;omega);have e:CL (l.drop i) (kws.drop nx)=([],2):=by
      rw[hdr,List.drop_eq_nil_of_le (by omega)];try rfl
     obtain⟨e1,e2⟩:=bad (A:=[]) (B:=[]) e;subst e2;clear hF1 hF2 hdr;obtain⟨xk,xv,xl,xc,xt,xs⟩:=x;simp only[Sx.cells,Af]at hr hw hix;replace zz:=B6 s0 s1 s7 s8 s9 s10 hll hd hdp hr;refine wt zz ?_;replace zz:=BF s0 s1 s7 s8 s9 s10 hll hdp hr;refine uU zz (hw _) ?_;repeat'(first|refine cK ?_|(refine nK ?_;try exact zI)|(refine Nq (by decide+kernel) ?_;simp only[Ty.w,simprocAttr,s0,s1,s7,s8,s9,s10,hll,hks,hdp,hr,htk,T1,b0,b1,BD,Bv,CW,CX])|(refine Eg _ (by(try simp only[Ty.w,simprocAttr,s0,s1,s7,s8,s9,s10,hll,hks,hdp,hr,htk,T1,b0,b1,BD,Bv,CW,CX]);rfl) (λhb=>?_) (λhb=>?_)<;>(try simp only[DD,Ba,Cw,simprocAttr]at hb)<;>(try(exfalso;omega)))|(refine hK _ _ ?_;clear hK;(try simp only[At,simprocAttr])))
     (first|refine Ml (hix _) (by(try simp only[Ty.w,simprocAttr,s0,s1,s7,s8,s9,s10,hll,hks,hdp,hr,htk,T1,b0,b1,BD,Bv,CW,CX]);try rfl) ?_|refine Iq (hix _) (by(try simp only[Ty.w,simprocAttr,s0,s1,s7,s8,s9,s10,hll,hks,hdp,hr,htk,T1,b0,b1,BD,Bv,CW,CX]);try rfl) (by simp only[Ty.w,simprocAttr,s0,s1,s7,s8,s9,s10,hll,hks,hdp,hr,htk,T1,b0,b1,BD,Bv,CW,CX];try trivial) ?_);simp only[Ty.w,simprocAttr,BD,s0,s1,s7,s8,s9,s10,hll,hks,hdp,hr,htk,T1,b0,b1,BD,Bv,CW,CX]
     replace zz:=B6 s0 s1 s7 s8 s9 s10 hll z0 w1 q4;refine wy zz ?_;exact QW (c:=2) e1 rfl hI
 ·have hd:decide ((i:Int)<(l.length:Int))=false:=by simp;omega
  rw[List.drop_eq_nil_of_le (by omega)]at hF1 hF2;have e0:CL [] (kws.drop nx)=([],0):=rfl;rw[e0]at hF1 hF2;simp only[List.append_nil]at hF1 hF2;subst hF2;replace zz:=BJ s0 s1 s7 s8 s9 s10 hll hd;refine wt zz ?_;exact QW (c:=0) hF1 rfl hI
def BZ(z:Nat)(rows:List (List PV))(q:PV):Prop:=q= .A1 z rows\/(rows=[]/\q= .sc (.slice none 0 0))
theorem BZ.cell{rows:List (List PV)}(h:BZ z rows q):q.cells=[q]/\Cs q=true:=by
 rcases h with rfl|⟨_,rfl⟩<;>exact⟨rfl,rfl⟩
theorem BZ.CD{rows:List (List PV)}(h:BZ z rows q)(H:A0)(hin:B9 n rows):AI n H (.A1 z rows) q:=by
 rcases h with rfl|⟨rfl,rfl⟩
 ·exact K5 hin
 ·simp only[AI];exact .inr (.inl ⟨trivial,.inr A4⟩)
theorem YF{x:Sx}(h:((Dt x).2==0)=true): ∃ a n rest,BS x=a::n::rest:=by
 unfold Dt at h;cases hk:BS x with
 |nil=>rw[hk]at h;simp at h
 |cons a l=>
  cases l with
  |nil=>rw[hk]at h;simp at h
  |cons n rest=>exact⟨a,n,rest,rfl⟩
abbrev nd:List PV:=[.sc (.string ⟨#[]⟩),.sc (.slice none 0 0),qK 0,.sc (.string ⟨#[]⟩),.sc (.string ⟨#[]⟩),.sc (.slice none 0 0),.sc (.slice none 0 0),.sc (.slice none 0 0),.sc (.slice none 0 0),.sc (.slice none 0 0)]
structure HC(h:A0)(a:Ac)(H:A0):Prop where
 grow:AH h H
 lt:h.next+1<H.next
 TX:H.obj h.next=some (.arr 10 [nd])
 ex: ∃ P C0 gop gna gar gpa gex gki,a.pre= .mk gop gna gar gpa gex gki/\H.obj (h.next+1)=some (.arr 10 [[A3 a.name,P,qK a.cost,A3 gop,A3 gna,.A1 1 (AL gar),.A1 2 (A8 gpa),.A1 5 (Ex.rows gex),.A1 6 (Fm.rows gki),C0]])/\BZ 2 (A8 a.params) P/\BZ 15 (Ag a.changes) C0
theorem HC.tmp(i:HC h a H)(o o':Am):HC h a (HQ H o o'):=by
 obtain⟨g,lt,o1,P,C0,gop,gna,gar,gpa,gex,gki,e0,eo,eP,eC0⟩:=i;exact⟨g.tmp o o',by rw[IQ];omega,by rw[IR (by omega)];exact o1,P,C0,gop,gna,gar,gpa,gex,gki,e0,by rw[IR (by omega)];exact eo,eP,eC0⟩
theorem HC.upd{a':Ac}(i:HC h a H){P C0:PV}{gop gna:ByteArray}{gar:List ByteArray}{gpa:List Pm}{gex:List Ex}{gki:List Fm}(e0:a'.pre= .mk gop gna gar gpa gex gki)(eP:BZ 2 (A8 a'.params) P)(eC0:BZ 15 (Ag a'.changes) C0):
  HC h a' (H.set (h.next+1) (.arr 10 [[A3 a'.name,P,qK a'.cost,A3 gop,A3 gna,.A1 1 (AL gar),.A1 2 (A8 gpa),.A1 5 (Ex.rows gex),.A1 6 (Fm.rows gki),C0]])):=by
 obtain⟨g,lt,o1,_⟩:=i;exact⟨g.set (by omega) _,lt,(Aw (by omega)).trans o1,P,C0,gop,gna,gar,gpa,gex,gki,e0,D7,eP,eC0⟩
theorem HC.fin{X:Am}{F:Ac × Int}(hF:F=(a,c))(hu:AQ c=u)(g:AH h H){P C0:PV}{gop gna:ByteArray}{gar:List ByteArray}{gpa:List Pm}{gex:List Ex}{gki:List Fm}(e0:a.pre= .mk gop gna gar gpa gex gki)(eP:BZ 2 (A8 a.params) P)(eC0:BZ 15 (Ag a.changes) C0):
  AI h.next (H.set h.next X) (.Al [.agg (DF F.1),AQ F.2]) (.Al [.agg [A3 a.name,P,qK a.cost,A3 gop,A3 gna,.A1 1 (AL gar),.A1 2 (A8 gpa),.A1 5 (Ex.rows gex),.A1 6 (Fm.rows gki),C0],u])/\AH h (H.set h.next X):=by
 subst hF;subst hu;refine⟨?_,g.set (AG _) _⟩;obtain⟨u,hu⟩:=Dv c;rw[hu];obtain⟨an,ap,ac,apre,achanges⟩:=a;simp only at e0 eP eC0;subst e0;skip;simp only[DF,Fm.cells,List.cons_append,List.nil_append];have hP:=eP.CD (n:=h.next) (H.set h.next X) (C6 _ _);have hC0:=eC0.CD (n:=h.next) (H.set h.next X) (Gp _ _);unfold AI;refine⟨_,rfl,?_⟩;unfold AN;refine⟨?_,by simp only[AN,AI,KV]⟩;unfold AI;refine⟨_,rfl,?_⟩;unfold AN;refine⟨Bi,?_⟩;unfold AN;refine⟨hP,?_⟩;unfold AN;refine⟨Bi,?_⟩;unfold AN;refine⟨Bi,?_⟩;unfold AN;refine⟨Bi,?_⟩;unfold AN;refine⟨B8 (Df _ _),?_⟩;unfold AN;refine⟨B8 (C6 _ _),?_⟩;unfold AN;refine⟨B8 (EE _ _),?_⟩;unfold AN;refine⟨B8 (El _ _),?_⟩;unfold AN;refine⟨hC0,?_⟩;simp only[AN]
def T9(lc:Int)(r:Ac × Int):Ac × Int:=bif r.2==0 then(r.1,lc)else r
theorem ng(a:Ac)(kw:ByteArray)(v:Sx)(l:List (ByteArray × Sx)):Gr a ((kw,v)::l)=bif (E8 a kw v).2==0 then Gr (E8 a kw v).1 l else E8 a kw v:=rfl
theorem nh(hok:x.ok)(hsm:x.small)(h:A0):A6 prog 121 [.agg x.cells] h λr h'=>r= .Al [.agg (DF (HA x).1),AQ (HA x).2]/\h'=h:=by
 refine A6.CD Ty.Ut ?_;have hH:=λh:A0=>YB hok h;have hlen:= @YF x;generalize hF:HA x=F;unfold HA at hF;generalize Dt x=HD at hF hH hlen;obtain⟨na,hc⟩:=HD;simp only at hF hH hlen;obtain⟨kind,value,line,col,text,kids⟩:=x;simp only[BS]at hF hlen;simp only[Sx.cells]at hH⊢;simp only[Sx.ok]at hok;simp only[Sx.small]at hsm;have hko:=Sx.Bs.1 hok.2.2.2.2;have hkm:=Sx.Es.1 hsm.2;have hkl:=hsm.1;have hrl:=Sx.B3 kids
 clear hok hsm;have hal:=λh:A0=>LC (h:=h);simp only[Bu,Fm.cells]at hal;generalize hR:Sx.rows kids=R at hH hrl⊢;refine AD func121 ntmps121 results121 Ty.Ut ?_;refine wt A4 ?_;refine uU A4 (hal _) ?_;refine xG 2 @B4 ?_;refine⟨?_⟩;refine Cf (λS H=>S 1= .Aj [qK kind,qK value,qK line,qK col,A3 text,.A1 6 R]/\S 2= .ptr h.next 0 0/\S 4= .ptr (h.next+1) 0 0/\HC h (Eb ⟨#[]⟩) H) ?_ ?_
 ·refine ⟨sq A4,sq A4,sq A4,(((AH.refl h).new _).new _).set (by omega) _,by simp only[A0.set,A0.new];omega,?_,_,_,_,_,_,_,_,_,rfl,D7,.inr ⟨rfl,rfl⟩,.inr ⟨rfl,rfl⟩⟩;rw[Aw (by omega),E4 (by simp only[A0.new];omega)];simp only[A0.new,AO]
 clear hal;rintro S H ⟨s1,s2,s4,hI⟩;have hS:=λ{P C0:PV}{gop gna:ByteArray}{gar:List ByteArray}{gpa:List Pm}{gex:List Ex}{gki:List Fm}(e0:(Eb na).pre= .mk gop gna gar gpa gex gki)(eP:BZ 2 (A8 (Eb na).params) P)(eC0:BZ 15 (Ag (Eb na).changes) C0)=>hI.upd (a':=Eb na) e0 eP eC0;obtain⟨g,lt,o1,P,C0,gop,gna,gar,gpa,gex,gki,e0,eo,eP,eC0⟩:=hI;have hS:=hS (by exact e0) eP eC0;simp only[Eb]at eo;have cP:=eP.cell;have cC0:=eC0.cell;have n1:(h.next=h.next+1)=False:=BB (by omega);cases hcc:hc==0 with
 |false=>
  have er:AQ hc=An hc:=by simp only[AQ,hcc,AJ]
  rw[hcc]at hF;simp only[AJ]at hF;rw[er]at hH;simp only[An]at hH;refine wt (AU s1 s2 s4) ?_;replace zz:=AW s1 s2 s4 eo;refine uU zz (hH _) ?_;replace zz:=Ad s2 s4 eo o1 n1 cP cC0;refine wt zz ?_;exact HC.fin (a:=Eb na) hF.symm er (g.set (by omega) _) (by exact e0) eP eC0
 |true=>
  have er:AQ hc= .sc .nilIface:=by simp only[AQ,hcc,AB]
  rw[hcc]at hF;simp only[AB]at hF;rw[er]at hH;obtain⟨ka,kn,rest,rfl⟩:=hlen hcc;simp only[List.drop_succ_cons,List.drop_zero]at hF;have hpt:=λh:A0=>YE (l:=rest) (kws:=FQ) (by simp only[List.length_cons]at hkl;omega) (by decide) h;have hpm:=T7 rest FQ;have hpl:=T8 rest FQ;have q2:(2:Int)<=(R.length:Int):=by rw[hrl];simp only[List.length_cons];omega
  have ht:List.take ((R.length:Int)-2).toNat (List.drop 2 R)=Sx.rows rest:=by
   rw[← hR];simp only[Sx.rows,List.drop_succ_cons,List.drop_zero,List.length_cons];rw[List.take_of_length_le (by omega)]
  generalize CL rest FQ=PS at hF hpt hpm hpl;obtain⟨ps,lc⟩:=PS;simp only at hF hpt hpm hpl;change T9 lc (Gr (Eb na) ps)=F at hF;obtain⟨lu,hlu⟩:=Dv lc;rw[hlu]at hpt;have hpl2:ps.length<=1048576:=by simp only[List.length_cons]at hkl;omega
  have hrlN:(AL (ps.map (·.1))).length=ps.length:=by rw[GI,List.length_map]
  have hrlV:(Sx.rows (ps.map (·.2))).length=ps.length:=by rw[Sx.B3,List.length_map]
  have hvo: ∀ kv∈ps,kv.2.ok/\kv.2.small:=λkv hkv=>⟨hko _ (by simp[hpm kv hkv]),hkm _ (by simp[hpm kv hkv])⟩
  clear hpm hpl hko hkm hkl hR hrl hlen;refine wt (AU s1 s2 s4) ?_;replace zz:=AW s1 s2 s4 eo;refine uU zz (hH _) ?_;replace zz:=BJ s1 s2 s4 eo q2 ht @CW @CX;refine wt zz ?_;replace zz:=Ae s1 s2 s4 q2 ht;refine uU zz (hpt _) ?_;refine xG 7 (AU s1 s2 s4) ?_;refine⟨?_⟩;refine Cf (λS H=>S 2= .ptr h.next 0 0/\S 4= .ptr (h.next+1) 0 0/\S 6= .A1 1 (AL (ps.map (·.1)))/\S 7= .A1 6 (Sx.rows (ps.map (·.2)))/\S 8= .sc lu/\HC h (Eb na) H) ⟨sq s2,sq s4,sq A4,sq A4,sq A4,hS⟩ ?_
  clear s1 s2 s4 hS hH hpt ht q2;rintro S H ⟨s2,s4,s6,s7,s8,hI⟩;refine wt (uu s7 hrlV) ?_;refine By (λm S H=>S 2= .ptr h.next 0 0/\S 4= .ptr (h.next+1) 0 0/\S 6= .A1 1 (AL (ps.map (·.1)))/\S 32= .A1 6 (Sx.rows (ps.map (·.2)))/\S 8= .sc lu/\S 33= qK ps.length/\ ∃ (k:Nat)(a:Ac),S 34= qK k/\k<=ps.length/\m=ps.length-k/\HC h a H/\F=T9 lc (Gr a (ps.drop k))) ps.length ?_ ?_
  ·simp only[Ty.w,simprocAttr,s2,s4,s6,s8];exact⟨0,_,rfl,Bj _,rfl,hI,by rw[List.drop_zero];exact hF.symm⟩
  try clear zz
  clear s2 s4 s6 s7 s8 hI hF S H;rintro m S H ⟨s2,s4,s6,sV,s8,sL,k,a,sI,hk,rfl,hI,hF⟩;by_cases hlt:k<ps.length
  ·have hd:decide ((k:Int)<(ps.length:Int))=true:=(by simp;omega);have w7:IntKind.i64.wrap ((k:Int)+1)=((k+1:Nat):Int):=(by rw[BM (by omega) (by omega)];omega);obtain⟨⟨kw,v⟩,hx⟩: ∃ x,ps[k]? =some x:=⟨_,List.getElem?_eq_getElem hlt⟩;have hrk:(AL (ps.map (·.1)))[k]? =some [A3 kw]:=K3 (by rw[List.getElem?_map,hx];try rfl);have hrv:(Sx.rows (ps.map (·.2)))[k]? =some v.cells:=Sx.CG (by rw[List.getElem?_map,hx];try rfl);obtain⟨hvok,hvsm⟩:=hvo _ (List.mem_of_getElem? hx);simp only at hvok hvsm;rw[Ca hx,ng]at hF;clear hx;obtain⟨vk,vv,vl,vc,vt,vs⟩:=v;simp only[Sx.cells]at hrv;replace zz:=BF s2 s4 s6 s8 sV sL sI hd hrv;refine xH 10 zz ?_;refine⟨?_⟩;refine H7 10 rfl (sq A4) (λn H=>FZ n H (.mk vk vv vl vc vt vs)) ?_;refine Cf (λS H=>S 2= .ptr h.next 0 0/\S 4= .ptr (h.next+1) 0 0/\S 6= .A1 1 (AL (ps.map (·.1)))/\S 32= .A1 6 (Sx.rows (ps.map (·.2)))/\S 8= .sc lu/\S 33= qK ps.length/\S 34= qK k/\S 9= qK k/\S 10= .Aj [qK vk,qK vv,qK vl,qK vc,A3 vt,.A1 6 (Sx.rows vs)]/\HC h a H) ⟨sq s2,sq s4,sq s6,sq sV,sq s8,sq sL,sq sI,sq A4,by simp only[Ty.w,simprocAttr,Sx.cells],hI.tmp _ _⟩ ?_;clear s2 s4 s6 s8 sV sL sI hd hrv hI;rintro S H ⟨s2,s4,s6,sV,s8,sL,sI,s9,s10,hI⟩;refine D0 (λS H=>S 2= .ptr h.next 0 0/\S 4= .ptr (h.next+1) 0 0/\S 6= .A1 1 (AL (ps.map (·.1)))/\S 32= .A1 6 (Sx.rows (ps.map (·.2)))/\S 8= .sc lu/\S 33= qK ps.length/\S 34= qK k/\S 5=AQ (E8 a kw (.mk vk vv vl vc vt vs)).2/\HC h (E8 a kw (.mk vk vv vl vc vt vs)).1 H) ?_ ?_
   ·clear hF hvo;have b0:(0:Int)<=(k:Int):=(by omega);have T1:(k:Int).toNat=k:=MT k;have bl:((k:Int)<(ps.length:Int))=True:=Di (by omega);cases q0:(kw.data.toList==(#[58,112,97,114,97,109,101,116,101,114,115]:Array UInt8).toList)with
    |true=>
     have e:E8 a kw (.mk vk vv vl vc vt vs)=({a with params:=(GP (.mk vk vv vl vc vt vs)).1},(GP (.mk vk vv vl vc vt vs)).2):=(by unfold E8;simp only[show A2 kw Cc=true from q0,AB,AJ]);rw[e];have hc1:=λh:A0=>YA (x:=(.mk vk vv vl vc vt vs)) hvok hvsm h;generalize GP (.mk vk vv vl vc vt vs)=L at hc1;obtain⟨l,c⟩:=L;obtain⟨u,hu⟩:=Dv c;simp only[Sx.cells,hu]at hc1⊢;have hS:=λ{P C0:PV}{gop gna:ByteArray}{gar:List ByteArray}{gpa:List Pm}{gex:List Ex}{gki:List Fm}(e0:({a with params:=l}).pre= .mk gop gna gar gpa gex gki)(eP:BZ 2 (A8 ({a with params:=l}).params) P)(eC0:BZ 15 (Ag ({a with params:=l}).changes) C0)=>hI.upd (a':={a with params:=l}) e0 eP eC0;obtain⟨g,lt,o1,P,C0,gop,gna,gar,gpa,gex,gki,e0,eo,eP,eC0⟩:=hI;have hS:=hS (by exact e0) (.inl rfl) eC0;(repeat'(first|refine cK ?_|(refine nK ?_;try exact zI)|refine Ai λK hK=>?_|(refine Ck ?_)|((first|refine Bp ?_|refine FW (λK hK=>?_));simp only[Ty.w,simprocAttr,s2,s4,s6,s9,s10,hrk,b0,T1,bl,hrlN,q0])|(refine hK _ _ ?_;clear hK;(try simp only[At,simprocAttr]))));replace zz:=Ad s2 s4 s6 s8 s9 s10 eo;refine uU zz (hc1 _) ?_;replace zz:=BJ s2 s4 s6 s8 sV sL sI eo;(repeat'(first|refine cK ?_|refine nK ?_|(refine uN hK ?_;clear hK)|apply zI));exact⟨sq s2,sq s4,sq s6,sq sV,sq s8,sq sL,sq sI,sq A4,hS⟩
    |false=>
     cases q1:(kw.data.toList==(#[58,99,111,115,116]:Array UInt8).toList)with
     |true=>
      have hc1:=λh:A0=>Y8 (x:=(.mk vk vv vl vc vt vs)) h;have e:E8 a kw (.mk vk vv vl vc vt vs)=({a with cost:=(FT (.mk vk vv vl vc vt vs)).1},bif (FT (.mk vk vv vl vc vt vs)).2==0 then(bif decide ((FT (.mk vk vv vl vc vt vs)).1<0)then 1 else 0)else(FT (.mk vk vv vl vc vt vs)).2):=(by unfold E8;simp only[show A2 kw Cc=false from q0,show A2 kw EZ=true from q1,AB,AJ]);rw[e];clear e;generalize FT (.mk vk vv vl vc vt vs)=L at hc1;obtain⟨n,c⟩:=L;simp only[Sx.cells]at hc1⊢;have hS:=λ{P C0:PV}{gop gna:ByteArray}{gar:List ByteArray}{gpa:List Pm}{gex:List Ex}{gki:List Fm}(e0:({a with cost:=n}).pre= .mk gop gna gar gpa gex gki)(eP:BZ 2 (A8 ({a with cost:=n}).params) P)(eC0:BZ 15 (Ag ({a with cost:=n}).changes) C0)=>hI.upd (a':={a with cost:=n}) e0 eP eC0;obtain⟨g,lt,o1,P,C0,gop,gna,gar,gpa,gex,gki,e0,eo,eP,eC0⟩:=hI;have hS:=hS (by exact e0) eP eC0;cases hc2:c==0 with
      |false=>
       have er:AQ c=An c:=(by simp only[AQ,hc2,AJ]);rw[er]at hc1;simp only[AJ,er,An]at hc1⊢;(repeat'(first|refine cK ?_|(refine nK ?_;try exact zI)|refine Ai λK hK=>?_|(refine Bp ?_;simp only[Ty.w,simprocAttr,s2,s4,s6,s9,s10,hrk,b0,T1,bl,hrlN,q0,q1])|(refine hK _ _ ?_;clear hK;(try simp only[At,simprocAttr]))));replace zz:=Ad s2 s4 s6 s8 s9 s10 eo;refine uU zz (hc1 _) ?_;replace zz:=BJ s2 s4 s6 s8 sV sL sI eo;(repeat'(first|refine cK ?_|refine nK ?_|refine Ai λK hK=>?_|refine Ck ?_|refine uR zz ?_|refine uK ?_|(refine uN hK ?_;clear hK)|apply zI));exact⟨sq s2,sq s4,sq s6,sq sV,sq s8,sq sL,sq sI,sq A4,hS⟩
      |true=>
       have er:AQ c= .sc .nilIface:=(by simp only[AQ,hc2,AB]);rw[er]at hc1;simp only[AB];cases hn:decide (n<0)with
       |true=>
        have e1:AQ 1=An 1:=rfl;simp only[AB,e1,An];(repeat'(first|refine cK ?_|(refine nK ?_;try exact zI)|refine Ai λK hK=>?_|(refine Bp ?_;simp only[Ty.w,simprocAttr,s2,s4,s6,s9,s10,hrk,b0,T1,bl,hrlN,q0,q1])|(refine hK _ _ ?_;clear hK;(try simp only[At,simprocAttr]))));replace zz:=Ad s2 s4 s6 s8 s9 s10 eo;refine uU zz (hc1 _) ?_;replace zz:=BF s2 s4 s6 s8 sV sL sI eo hn;(repeat'(first|refine cK ?_|refine nK ?_|refine Ai λK hK=>?_|refine Ck ?_|refine uR zz ?_|refine uQ zz λK hK=>?_|(refine uN hK ?_;clear hK)|apply zI));exact⟨sq s2,sq s4,sq s6,sq sV,sq s8,sq sL,sq sI,sq A4,hS⟩
       |false=>
        have e1:AQ 0= .sc .nilIface:=rfl;simp only[AJ,e1];(repeat'(first|refine cK ?_|(refine nK ?_;try exact zI)|refine Ai λK hK=>?_|(refine Bp ?_;simp only[Ty.w,simprocAttr,s2,s4,s6,s9,s10,hrk,b0,T1,bl,hrlN,q0,q1])|(refine hK _ _ ?_;clear hK;(try simp only[At,simprocAttr]))));replace zz:=Ad s2 s4 s6 s8 s9 s10 eo;refine uU zz (hc1 _) ?_;replace zz:=BF s2 s4 s6 s8 sV sL sI eo hn;(repeat'(first|refine cK ?_|refine nK ?_|refine Ai λK hK=>?_|refine Ck ?_|refine uR zz ?_|refine uK ?_|(refine uN hK ?_;clear hK)|apply zI));exact⟨sq s2,sq s4,sq s6,sq sV,sq s8,sq sL,sq sI,sq A4,hS⟩
     |false=>
      cases q2:(kw.data.toList==(#[58,112,114,101,99,111,110,100,105,116,105,111,110]:Array UInt8).toList)with
      |true=>
       have e:E8 a kw (.mk vk vv vl vc vt vs)=({a with pre:=(Cl (.mk vk vv vl vc vt vs)).1},(Cl (.mk vk vv vl vc vt vs)).2):=(by unfold E8;simp only[show A2 kw Cc=false from q0,show A2 kw EZ=false from q1,show A2 kw Ff=true from q2,AB,AJ]);rw[e];have hc1:=λh:A0=>OR (x:=(.mk vk vv vl vc vt vs)) hvok h;generalize Cl (.mk vk vv vl vc vt vs)=L at hc1;obtain⟨⟨fop,fna,far,fpa,fex,fki⟩,c⟩:=L;obtain⟨u,hu⟩:=Dv c;simp only[Sx.cells,Fm.cells,hu]at hc1⊢;have hS:=λ{P C0:PV}{gop gna:ByteArray}{gar:List ByteArray}{gpa:List Pm}{gex:List Ex}{gki:List Fm}(e0:({a with pre:=Fm.mk fop fna far fpa fex fki}).pre= .mk gop gna gar gpa gex gki)(eP:BZ 2 (A8 ({a with pre:=Fm.mk fop fna far fpa fex fki}).params) P)(eC0:BZ 15 (Ag ({a with pre:=Fm.mk fop fna far fpa fex fki}).changes) C0)=>hI.upd (a':={a with pre:=Fm.mk fop fna far fpa fex fki}) e0 eP eC0;obtain⟨g,lt,o1,P,C0,gop,gna,gar,gpa,gex,gki,e0,eo,eP,eC0⟩:=hI;have hS:=hS rfl eP eC0;(repeat'(first|refine cK ?_|(refine nK ?_;try exact zI)|refine Ai λK hK=>?_|(refine Ck ?_)|((first|refine Bp ?_|refine FW (λK hK=>?_));simp only[Ty.w,simprocAttr,s2,s4,s6,s9,s10,hrk,b0,T1,bl,hrlN,q0,q1,q2])|(refine hK _ _ ?_;clear hK;(try simp only[At,simprocAttr]))));replace zz:=Ad s2 s4 s6 s8 s9 s10 eo;refine uU zz (hc1 _) ?_;replace zz:=BJ s2 s4 s6 s8 sV sL sI eo;(repeat'(first|refine cK ?_|refine nK ?_|(refine uN hK ?_;clear hK)|apply zI));exact⟨sq s2,sq s4,sq s6,sq sV,sq s8,sq sL,sq sI,sq A4,hS⟩
      |false=>
       have e:E8 a kw (.mk vk vv vl vc vt vs)=({a with changes:=(En (.mk vk vv vl vc vt vs)).1},(En (.mk vk vv vl vc vt vs)).2):=(by unfold E8;simp only[show A2 kw Cc=false from q0,show A2 kw EZ=false from q1,show A2 kw Ff=false from q2,AB,AJ]);rw[e];have hc1:=λh:A0=>Sw (x:=(.mk vk vv vl vc vt vs)) hvok h;generalize En (.mk vk vv vl vc vt vs)=L at hc1;obtain⟨l,c⟩:=L;obtain⟨u,hu⟩:=Dv c;simp only[Sx.cells,hu]at hc1⊢;have hS:=λ{P C0:PV}{gop gna:ByteArray}{gar:List ByteArray}{gpa:List Pm}{gex:List Ex}{gki:List Fm}(e0:({a with changes:=l}).pre= .mk gop gna gar gpa gex gki)(eP:BZ 2 (A8 ({a with changes:=l}).params) P)(eC0:BZ 15 (Ag ({a with changes:=l}).changes) C0)=>hI.upd (a':={a with changes:=l}) e0 eP eC0;obtain⟨g,lt,o1,P,C0,gop,gna,gar,gpa,gex,gki,e0,eo,eP,eC0⟩:=hI;have hS:=hS (by exact e0) eP (.inl rfl);(repeat'(first|refine cK ?_|(refine nK ?_;try exact zI)|refine Ai λK hK=>?_|(refine Ck ?_)|((first|refine Bp ?_|refine FW (λK hK=>?_));simp only[Ty.w,simprocAttr,s2,s4,s6,s9,s10,hrk,b0,T1,bl,hrlN,q0,q1,q2])|(refine hK _ _ ?_;clear hK;(try simp only[At,simprocAttr]))));replace zz:=Ad s2 s4 s6 s8 s9 s10 eo;refine uU zz (hc1 _) ?_;replace zz:=BJ s2 s4 s6 s8 sV sL sI eo;(repeat'(first|refine cK ?_|refine nK ?_|(refine uN hK ?_;clear hK)|apply zI));exact⟨sq s2,sq s4,sq s6,sq sV,sq s8,sq sL,sq sI,sq A4,hS⟩
   ·generalize E8 a kw (.mk vk vv vl vc vt vs)=A at hF;obtain⟨a',c⟩:=A;simp only at hF;(try clear zz);clear s2 s4 s6 sV s8 sL sI s9 s10 hI hrk hvok hvsm S H;rintro S H ⟨s2,s4,s6,sV,s8,sL,sI,s5,hI⟩;simp only at s5 hI;cases hcc2:c==0 with
    |false=>
     have er:AQ c=An c:=(by simp only[AQ,hcc2,AJ]);rw[hcc2]at hF;simp only[AJ]at hF;have hF2:F=(a',c):=(by rw[hF];unfold T9;simp only[hcc2,AJ]);rw[er]at s5;simp only[An]at s5;obtain⟨g,lt,o1,P,C0,gop,gna,gar,gpa,gex,gki,e0,eo,eP,eC0⟩:=hI;have cP:=eP.cell;have cC0:=eC0.cell;have n1:(h.next=h.next+1)=False:=BB (by omega);replace zz:=BJ s2 s4 s5 eo o1 n1 cP cC0;refine wt zz ?_;exact HC.fin hF2 er g (by exact e0) eP eC0
    |true=>
     have er:AQ c= .sc .nilIface:=(by simp only[AQ,hcc2,AB]);rw[hcc2]at hF;simp only[AB]at hF;rw[er]at s5;replace zz:=BF s2 s4 s5 s6 s8 sV sL sI w7;refine wt zz ?_;exact⟨ps.length-(k+1),by omega,k+1,a',rfl,by omega,rfl,hI,hF⟩
  ·have hd:decide ((k:Int)<(ps.length:Int))=false:=(by simp;omega);rw[List.drop_eq_nil_of_le (by omega)]at hF;have hF2:F=(a,lc):=(by rw[hF];try rfl);obtain⟨g,lt,o1,P,C0,gop,gna,gar,gpa,gex,gki,e0,eo,eP,eC0⟩:=hI;have cP:=eP.cell;have cC0:=eC0.cell;have n1:(h.next=h.next+1)=False:=BB (by omega);replace zz:=DX s2 s4 s8 sL sI hd eo o1 n1 cP cC0;refine wt zz ?_;exact HC.fin hF2 hlu g (by exact e0) eP eC0
end Go.Proofs.YtblgchkahpgdjaaGreat
