/- What the claim rests on, part 16: the abstract machine, contracts of the functions, plain data. -/
import Derived.Test.YtblgchkahpgdjaaGreatZr9
import Derived.Test.YtblgchkahpgdjaaGreatZr14
import Derived.Test.YtblgchkahpgdjaaGreatZr15
set_option linter.unusedVariables false
set_option linter.unusedSimpArgs false
set_option linter.unusedSectionVars false
namespace Go.Proofs.YtblgchkahpgdjaaGreat
open Go.AM Go.Proofs.Tryz
set_option maxHeartbeats 4000000
set_option maxRecDepth 20000
def GO(t:Fm->Bool)(ff:Fm->Sx)(fe:List Ch->Sx)(a:Ac):List Sx:=BL (BL (BL (BL [AA a.name] ((a.params.length:Int)==0) Cb (AK (AX a.params))) (a.cost==1) Fs (DB a.cost)) (t a.pre) GL (ff a.pre)) ((a.changes.length:Int)==0) HP (fe a.changes)
def FN(t:Fm->Bool)(ff:Fm->Sx)(fe:List Ch->Sx)(a:Du):List Sx:=BL (BL (BL (BL (BL (BL (BL [AA a.name] ((a.params.length:Int)==0) Cb (AK (AX a.params))) (a.duration==1) EX (DB a.duration)) (t a.start) Eo (ff a.start)) (t a.over) F6 (ff a.over)) (t a.stop) FL (ff a.stop)) ((a.atStart.length:Int)==0) Fg (fe a.atStart)) ((a.atStop.length:Int)==0) Gf (fe a.atStop)
def Ft(fa:Ac->Sx)(fd:Du->Sx)(d:Dm):List Sx:=CK (CK (CK (CK [AK [AA E1,AA d.name]] DV (AX d.types)) DW (AX d.constants)) DX (d.predicates.map Co)) DP (d.functions.map Cs)++d.actions.map fa++d.duratives.map fd
def M5(a:Ac):Sx:=AK (AA Dl::GO IP Am IQ a)
def M6(a:Du):Sx:=AK (AA En::FN IP Am IQ a)
def N6(d:Dm):Sx:=AK (AA GN::Ft M5 M6 d)
theorem XI(x:Sx)(L:List Sx)(m:Bool)(kw:ByteArray)(v:Sx):BL (x::L) m kw v=x::BL L m kw v:=by unfold BL;cases m<;>rfl
theorem Fv{x:Sx}{L:List Sx}{m:Bool}{kw:ByteArray}{v:Sx}(h:x∈L):x∈BL L m kw v:=by
 unfold BL;cases m with
 |true=>exact h
 |false=>exact TH _ h
theorem IS{L:List Sx}{m:Bool}{kw:ByteArray}{v:Sx}(h:m=false):v∈BL L m kw v:=by subst h;simp[BL]
theorem J2{x:Sx}{L:List Sx}{m:Bool}{kw:ByteArray}{v:Sx}(h:x∈BL L m kw v):x∈L\/x=AA kw\/x=v:=by
 unfold BL at h;cases m with
 |true=>exact .inl h
 |false=>
  simp only[AI,DY,D7,Gn,HE]at h;exact h
theorem Si(x:Sx)(L:List Sx)(kw:ByteArray)(ks:List Sx):CK (x::L) kw ks=x::CK L kw ks:=by unfold CK;cases ks.isEmpty<;>rfl
theorem kA{k:Sx}{L:List Sx}{kw:ByteArray}{ks:List Sx}(h:k∈ks):AK (AA kw::ks)∈CK L kw ks:=by
 cases ks with
 |nil=>cases h
 |cons a l=>simp[CK]
theorem QF{x:Sx}{L:List Sx}{kw:ByteArray}{ks:List Sx}(h:x∈CK L kw ks):x∈L\/x=AK (AA kw::ks):=by
 unfold CK at h;cases hk:ks.isEmpty with
 |true=>rw[hk]at h;exact .inl h
 |false=>
  rw[hk]at h;simp only[AI,DY,D7,Gn,HE]at h;exact h
theorem QG(a:Ac):Dr a=AK (AA Dl::GO Bp BQ CJ a):=by
 unfold Dr Wl GO;simp only[XI]
theorem QH(a:Du):Ds a=AK (AA En::FN Bp BQ CJ a):=by
 unfold Ds Wm FN;simp only[XI]
theorem Sj(d:Dm):H4 d=AK (AA GN::Ft Dr Ds d):=by
 unfold H4 XF Ft;simp only[Si,C3]
theorem kC{a:Ac}(h:Ff a=true):Dr a=M5 a:=by
 unfold Ff at h;simp only[AR]at h;obtain⟨⟨⟨⟨_,_⟩,_⟩,f⟩,c⟩:=h;rw[QG];unfold M5 GO;rw[M1 (Iw f),(K7 c).2,show BQ a.pre=Am a.pre from by unfold BQ;rw[f];try rfl]
theorem kD{a:Du}(h:F7 a=true):Ds a=M6 a:=by
 unfold F7 at h;simp only[AR]at h;obtain⟨⟨⟨⟨⟨⟨_,_⟩,f1⟩,f2⟩,f3⟩,c1⟩,c2⟩:=h;rw[QH];unfold M6 FN;rw[M1 (Iw f1),M1 (Iw f2),M1 (Iw f3),(K7 c1).2,(K7 c2).2,show BQ a.start=Am a.start from by unfold BQ;rw[f1];try rfl,show BQ a.over=Am a.over from by unfold BQ;rw[f2];try rfl,show BQ a.stop=Am a.stop from by unfold BQ;rw[f3];try rfl]
theorem XJ{d:Dm}(h:Gh d=true):H4 d=N6 d:=by
 unfold Gh at h;simp only[AR]at h;obtain⟨⟨_,ha⟩,hd⟩:=h;rw[Bq]at ha hd;rw[Sj];unfold N6 Ft;rw[NC λa h=>kC (ha a h),NC λa h=>kD (hd a h)]
theorem JW(v:Bool):BJ v=IG v:=by
 funext p;cases v<;>simp only[BJ,IG,Gd,AB,AI,AH,BG,AP,YP]
theorem Sk{n:Int}(h:VS (DB n)):K4 n=true:=by
 have:=h.1;simp only[DB,Ke]at this;simp only[K4];simp at this⊢;omega
theorem XK{n:Int}(hv:(n==1)=false->VS (DB n)):K4 n=true:=by
 cases q:n==1 with
 |true=>
  simp only[Dv]at q;subst q;decide
 |false=>exact Sk (hv q)
theorem kE:VS (Am Bv):=by
 have:Am Bv=AK []:=by simp[Am,O6,Bv,Bc,Bk,C9,D0,DN,CR,DH,HK,FJ,Dy,A1]
 rw[this];refine⟨by decide,by decide,by decide⟩
theorem QI{f:Fm}(hs:D1 f=true)(hv:IP f=false->VS (Am f)):BU f=true:=by
 cases q:IP f with
 |true=>
  rw[M1 hs]at q;have e:=Kw q;subst e;exact Sg hs kE
 |false=>exact Sg hs (hv q)
theorem Sm{l:List Ch}(hR:l.all JU=true)(hv:((l.length:Int)==0)=false->VS (IQ l)):l.all C2=true:=by
 cases l with
 |nil=>rfl
 |cons c l=>exact XE (by unfold Kt;rw[hR,Kx.2 (hv (by simp only[Aw,NG,ne_eq];omega))];rfl)
theorem kF{a:Ac}(h:N1 a=true)(hv:VS (M5 a)):Ff a=true:=by
 unfold N1 at h;simp only[AR]at h;obtain⟨n,p,c,s,f,ch⟩:=h;have hk: ∀ x∈GO IP Am IQ a,VS x:=λx hx=>Gg hv (Gm _ hx);have f2:=QI f (λq=>hk _ (by unfold GO;exact Fv (IS q)));have e2:=Sm ch (λq=>hk _ (by unfold GO;exact IS q));unfold Ff;rw[n,f2,e2,JW,p,c];try rfl
theorem kG{a:Du}(h:N2 a=true)(hv:VS (M6 a)):F7 a=true:=by
 unfold N2 at h;simp only[AR]at h;obtain⟨n,p,s,c1,c2,f1,f2,f3⟩:=h;have hk: ∀ x∈FN IP Am IQ a,VS x:=λx hx=>Gg hv (Gm _ hx);have g1:=QI f1 (λq=>hk _ (by unfold FN;exact Fv (Fv (Fv (Fv (IS q))))));have g2:=QI f2 (λq=>hk _ (by unfold FN;exact Fv (Fv (Fv (IS q)))));have g3:=QI f3 (λq=>hk _ (by unfold FN;exact Fv (Fv (IS q))));have e1:=Sm c1 (λq=>hk _ (by unfold FN;exact Fv (IS q)));have e2:=Sm c2 (λq=>hk _ (by unfold FN;exact IS q));unfold F7;rw[n,g1,g2,g3,e1,e2,JW,p];try rfl
theorem kH{a:Ac}(h:Ff a=true)(hv:VS (M5 a)):N1 a=true:=by
 unfold Ff at h;simp only[AR]at h;obtain⟨⟨⟨⟨n,c⟩,p⟩,f⟩,ch⟩:=h;have hk: ∀ x∈GO IP Am IQ a,VS x:=λx hx=>Gg hv (Gm _ hx);have hs:=XK (n:=a.cost) (λq=>hk _ (by unfold GO;exact Fv (Fv (IS q))));unfold N1;rw[n,Iw f,(K7 ch).1, ← JW,p,c,hs];try rfl
theorem kI{a:Du}(h:F7 a=true)(hv:VS (M6 a)):N2 a=true:=by
 unfold F7 at h;simp only[AR]at h;obtain⟨⟨⟨⟨⟨⟨n,p⟩,f1⟩,f2⟩,f3⟩,c1⟩,c2⟩:=h;have hk: ∀ x∈FN IP Am IQ a,VS x:=λx hx=>Gg hv (Gm _ hx);have hs:=XK (n:=a.duration) (λq=>hk _ (by unfold FN;exact Fv (Fv (Fv (Fv (Fv (IS q)))))));unfold N2;rw[n,Iw f1,Iw f2,Iw f3,(K7 c1).1,(K7 c2).1, ← JW,p,hs];try rfl
theorem XL:Hv=SY:=by
 funext p;simp only[Hv,SY,JW]
theorem Sn{d:Dm}(hv:VS (N6 d)):(∀ a∈d.actions,VS (M5 a))/\(∀ a∈d.duratives,VS (M6 a))/\ ∀ f∈d.functions,VS (Cs f):=by
 have hk: ∀ x∈Ft M5 M6 d,VS x:=λx hx=>Gg hv (Gm _ hx);refine⟨λa ha=>hk _ ?_,λa ha=>hk _ ?_,λf hf=>?_⟩
 ·unfold Ft;exact TH _ (mM _ (Oi ha))
 ·unfold Ft;exact mM _ (Oi ha)
 ·have:VS (AK (AA DP::d.functions.map Cs)):=hk _ (by unfold Ft;exact TH _ (TH _ (kA (Oi hf))));exact Gg this (Gm _ (Oi hf))
theorem kJ{d:Dm}(h:ON d=true)(hv:VS (N6 d)):Gh d=true:=by
 unfold ON at h;simp only[AR]at h;obtain⟨n,t,c,p,f,a,u⟩:=h;obtain⟨va,vu,_⟩:=Sn hv;have a2:d.actions.all Ff=true:=by
  rw[Bq]at a⊢;exact λx hx=>kF (a x hx) (va x hx)
 have u2:d.duratives.all F7=true:=by
  rw[Bq]at u⊢;exact λx hx=>kG (u x hx) (vu x hx)
 have f2:d.functions.all HR=true:=by
  rw[Bq]at f⊢;intro x hx;have:=f x hx;unfold Q7 at this;simp only[AR]at this;unfold HR;rw[this.1,JW,this.2.1];try rfl
 unfold Gh;rw[n,JW,t,c,XL,p,f2,a2,u2];try rfl
theorem kK{d:Dm}(h:Gh d=true)(hv:VS (N6 d)):ON d=true:=by
 unfold Gh at h;simp only[AR]at h;obtain⟨⟨⟨⟨⟨⟨n,t⟩,c⟩,p⟩,f⟩,a⟩,u⟩:=h;obtain⟨va,vu,vf⟩:=Sn hv;have a2:d.actions.all N1=true:=by
  rw[Bq]at a⊢;exact λx hx=>kH (a x hx) (va x hx)
 have u2:d.duratives.all N2=true:=by
  rw[Bq]at u⊢;exact λx hx=>kI (u x hx) (vu x hx)
 have f2:d.functions.all Q7=true:=by
  rw[Bq]at f⊢;intro x hx;have:=f x hx;unfold HR at this;simp only[AR]at this;have w:=vf x hx;have w1:K4 x.lo=true:=Sk (Gg w (by simp));have w2:K4 x.hi=true:=Sk (Gg w (by simp));unfold Q7;rw[this.1, ← JW,this.2,w1,w2];try rfl
 unfold ON;rw[n, ← JW,t,c, ← XL,p,f2,a2,u2];try rfl
def Gj(d:Dm):Bool:=Gh d&&(CL (H4 d) 0 0).1
def Ky(d:Dm):Bool:=ON d&&(CL (N6 d) 0 0).1
theorem XM{d:Dm}(h:Ky d=true):Gh d=true:=by
 unfold Ky at h;simp only[AR]at h;exact kJ h.1 (Kx.1 h.2)
theorem kL(d:Dm):Gj d=Ky d:=by
 cases hr:Ky d with
 |true=>
  have hb:=XM hr;unfold Ky at hr;simp only[AR]at hr;unfold Gj;rw[hb,XJ hb,hr.2];try rfl
 |false=>
  cases he:Gj d with
  |false=>rfl
  |true=>
   unfold Gj at he;simp only[AR]at he;have hx:=XJ he.1;rw[hx]at he;unfold Ky at hr;rw[kK he.1 (Kx.1 he.2),he.2]at hr;exact hr
theorem kM{t:Fm->Bool}{ff:Fm->Sx}{fe:List Ch->Sx}{a:Ac}{x:Sx}(h:x∈GO t ff fe a):(∃ w,x=AA w/\(w=a.name\/w.size<=20))\/x=AK (AX a.params)\/x=DB a.cost\/x=ff a.pre\/x=fe a.changes:=by
 unfold GO at h;rcases J2 h with h|rfl|rfl;rcases J2 h with h|rfl|rfl;rcases J2 h with h|rfl|rfl;rcases J2 h with h|rfl|rfl
 ·simp only[D7,Gn,HE]at h;exact .inl ⟨_,h,.inl rfl⟩
 all_goals first
  |exact .inl ⟨_,rfl,.inr (by decide)⟩
  |simp
theorem kN{t:Fm->Bool}{ff:Fm->Sx}{fe:List Ch->Sx}{a:Du}{x:Sx}(h:x∈FN t ff fe a):(∃ w,x=AA w/\(w=a.name\/w.size<=20))\/x=AK (AX a.params)\/x=DB a.duration\/x=ff a.start\/x=ff a.over\/x=ff a.stop\/x=fe a.atStart\/x=fe a.atStop:=by
 unfold FN at h;rcases J2 h with h|rfl|rfl;rcases J2 h with h|rfl|rfl;rcases J2 h with h|rfl|rfl;rcases J2 h with h|rfl|rfl;rcases J2 h with h|rfl|rfl;rcases J2 h with h|rfl|rfl;rcases J2 h with h|rfl|rfl
 ·simp only[D7,Gn,HE]at h;exact .inl ⟨_,h,.inl rfl⟩
 all_goals first
  |exact .inl ⟨_,rfl,.inr (by decide)⟩
  |simp
theorem J3{L:List Sx}{m:Bool}{kw:ByteArray}{v:Sx}{n:Nat}(h:L.length<=n):(BL L m kw v).length<=n+2:=by have:=IR L m kw v;omega
theorem QJ{L ks:List Sx}{kw:ByteArray}{n:Nat}(h:L.length<=n):(CK L kw ks).length<=n+1:=by have:=OT L kw ks;omega
theorem QK{n:Int}(h: -9223372036854775808<=n/\n<=9223372036854775807):(DB n).ok:=⟨⟨by decide,by decide⟩,h,by decide,by simp,trivial⟩
theorem XN{l:List Pm}(hl:l.length<=1048576)(h: ∀ p∈l,p.ok):(AK (AX l)).ok:=Fy (by rw[Gu];unfold AJ;omega) (Kp _ h)
theorem QL{l:List Sx}(hl:l.length<=AJ)(h: ∀ x∈l,x.ok):(AK l).ok:=Fy hl (Sx.oks_iff.2 h)
theorem kO{t:Fm->Bool}{ff:Fm->Sx}{fe:List Ch->Sx}{a:Ac}(ha:a.ok)(hs:Q8 a)(hf:(ff a.pre).ok)(he:(fe a.changes).ok):(AK (AA Dl::GO t ff fe a)).ok:=by
 have hl:(GO t ff fe a).length<=1+2+2+2+2:=by unfold GO;exact J3 (J3 (J3 (J3 (AD _))))
 refine QL (by simp only[Aw,AJ];omega) ?_;intro x hx;rcases D7.1 hx with rfl|hx
 ·exact Dj (by decide)
 rcases kM hx with⟨w,rfl,rfl|hw⟩|rfl|rfl|rfl|rfl
 ·exact Dj ha.name
 ·exact Dj (by unfold AJ;omega)
 ·exact XN hs.params ha.params.2
 ·exact QK ha.cost
 ·exact hf
 ·exact he
theorem kP{t:Fm->Bool}{ff:Fm->Sx}{fe:List Ch->Sx}{a:Du}(ha:a.ok)(hs:Q9 a)(h1:(ff a.start).ok)(h2:(ff a.over).ok)(h3:(ff a.stop).ok)(h4:(fe a.atStart).ok)(h5:(fe a.atStop).ok):(AK (AA En::FN t ff fe a)).ok:=by
 have hl:(FN t ff fe a).length<=1+2+2+2+2+2+2+2:=by unfold FN;exact J3 (J3 (J3 (J3 (J3 (J3 (J3 (AD _)))))))
 refine QL (by simp only[Aw,AJ];omega) ?_;intro x hx;rcases D7.1 hx with rfl|hx
 ·exact Dj (by decide)
 rcases kN hx with⟨w,rfl,rfl|hw⟩|rfl|rfl|rfl|rfl|rfl|rfl|rfl
 ·exact Dj ha.name
 ·exact Dj (by unfold AJ;omega)
 ·exact XN hs.params ha.params.2
 ·exact QK ha.duration
 ·exact h1
 ·exact h2
 ·exact h3
 ·exact h4
 ·exact h5
theorem kQ{fa:Ac->Sx}{fd:Du->Sx}{d:Dm}{x:Sx}(h:x∈Ft fa fd d):x=AK [AA E1,AA d.name]\/(∃ w,w.size<=20/\(x=AK (AA w::AX d.types)\/x=AK (AA w::AX d.constants)\/x=AK (AA w::d.predicates.map Co)\/x=AK (AA w::d.functions.map Cs)))\/(∃ a∈d.actions,x=fa a)\/ ∃ a∈d.duratives,x=fd a:=by
 unfold Ft at h;rcases DY.1 h with h|h
 ·rcases DY.1 h with h|h
  ·rcases QF h with h|rfl
   ·rcases QF h with h|rfl
    ·rcases QF h with h|rfl
     ·rcases QF h with h|rfl
      ·simp only[D7,Gn,HE]at h;exact .inl h
      ·exact .inr (.inl ⟨_,by decide,.inl rfl⟩)
     ·exact .inr (.inl ⟨_,by decide,.inr (.inl rfl)⟩)
    ·exact .inr (.inl ⟨_,by decide,.inr (.inr (.inl rfl))⟩)
   ·exact .inr (.inl ⟨_,by decide,.inr (.inr (.inr rfl))⟩)
  ·rw [Er]at h;obtain⟨a,ha,rfl⟩:=h;exact .inr (.inr (.inl ⟨a,ha,rfl⟩))
 ·rw [Er]at h;obtain⟨a,ha,rfl⟩:=h;exact .inr (.inr (.inr ⟨a,ha,rfl⟩))
theorem kR{p:Pr}(h:p.ok)(hl:p.params.length<=1048576):(Co p).ok:=Fy (by simp only[Aw,Gu,AJ];omega) ⟨Dj h.name,Kp _ h.params.2⟩
theorem kS{p:Fu}(h:p.ok)(hl:p.params.length<=1048576):(Cs p).ok:=by
 refine QL (by simp only[Aw,DZ,Gu,Bw,AJ];omega) ?_;intro x hx;simp only[C3,D7,DY,Gn,HE]at hx;rcases hx with rfl|hx|rfl|rfl
 ·exact Dj h.name
 ·exact Sx.oks_iff.1 (Kp _ h.params.2) x hx
 ·exact QK h.lo
 ·exact QK h.hi
theorem kU{fa:Ac->Sx}{fd:Du->Sx}{d:Dm}(hd:d.ok)(hs:QE d)(ha: ∀ a∈d.actions,(fa a).ok)(hu: ∀ a∈d.duratives,(fd a).ok):(AK (AA GN::Ft fa fd d)).ok:=by
 have hl:(Ft fa fd d).length<=1+1+1+1+1+d.actions.length+d.duratives.length:=by
  unfold Ft;rw[DZ,DZ,E4,E4];have:(CK (CK (CK (CK [AK [AA E1,AA d.name]] DV (AX d.types)) DW (AX d.constants)) DX (d.predicates.map Co)) DP (d.functions.map Cs)).length<=1+1+1+1+1:=QJ (QJ (QJ (QJ (AD _))));omega
 have l1:=hs.acts.1;have l2:=hs.durs.1;have l3:=hs.preds.1;have l4:=hs.funs.1;have l5:=hs.types;have l6:=hs.consts;refine QL (by simp only[Aw,AJ];omega) ?_;intro x hx;rcases D7.1 hx with rfl|hx
 ·exact Dj (by decide)
 rcases kQ hx with rfl|⟨w,hw,rfl|rfl|rfl|rfl⟩|⟨a,h,rfl⟩|⟨a,h,rfl⟩
 ·exact X2 (Dj (by decide)) (Dj hd.name)
 ·exact Fy (by simp only[Aw,Gu,AJ];omega) ⟨Dj (by unfold AJ;omega),Kp _ hd.types.2⟩
 ·exact Fy (by simp only[Aw,Gu,AJ];omega) ⟨Dj (by unfold AJ;omega),Kp _ hd.constants.2⟩
 ·refine Fy (by simp only[Aw,E4,AJ];omega) ⟨Dj (by unfold AJ;omega),Sx.oks_iff.2 ?_⟩;intro y hy;rw[Er]at hy;obtain⟨p,hp,rfl⟩:=hy;exact kR (hd.predicates.2 p hp) (hs.preds.2 p hp)
 ·refine Fy (by simp only[Aw,E4,AJ];omega) ⟨Dj (by unfold AJ;omega),Sx.oks_iff.2 ?_⟩;intro y hy;rw[Er]at hy;obtain⟨p,hp,rfl⟩:=hy;exact kS (hd.functions.2 p hp) (hs.funs.2 p hp)
 ·exact ha a h
 ·exact hu a h
theorem So{l:List Ch}(h1:Chs.ok l)(h2: ∀ c∈l,Fq c): ∀ c∈l,c.ok/\Fq c:=λc hc=>⟨h1.2 c hc,h2 c hc⟩
theorem Sp{d:Dm}(hd:d.ok)(hs:QE d):(H4 d).ok:=by
 rw[Sj];refine kU hd hs (λa ha=>?_) (λa ha=>?_)
 ·have h1:=hd.actions.2 a ha;have h2:=hs.acts.2 a ha;rw[QG];exact kO h1 h2 (OS h1.pre h2.pre) (QC h2.chs (So h1.changes h2.ch))
 ·have h1:=hd.duratives.2 a ha;have h2:=hs.durs.2 a ha;rw[QH];exact kP h1 h2 (OS h1.start h2.start) (OS h1.over h2.over) (OS h1.stop h2.stop) (QC h2.atS.1 (So h1.atStart h2.atS.2)) (QC h2.atE.1 (So h1.atStop h2.atE.2))
def Gk:ByteArray:=⟨#[58,114,101,113,117,105,114,101,109,101,110,116,115]⟩
def IT:List ByteArray:=[Cb,Fs,GL,HP]
def IU:List ByteArray:=[Cb,EX,Eo,F6,FL,Fg,Gf]
def CE:List Sx->List ByteArray->List (ByteArray × Sx)× Int
 |[],_=>([],0)
 |[_],_=>([],2)
 |a::v::rest,kws=>bif Ax a==1 then(match IK kws (Ah a)with
   |some kws'=>((Ah a,v)::(CE rest kws').1,(CE rest kws').2)
   |none=>([],2))else([],2)
def De(x:Sx):ByteArray × Int:=match CA x with
 |_::n::_=>bif Ax n==1 then(bif An (Ah n)then(Ah n,0)else(⟨#[]⟩,8))else(⟨#[]⟩,2)
 |_=>(⟨#[]⟩,2)
def G9(x:Sx):List Pm × Int:=bif Ax x==3 then Bt true (CA x)else([],2)
def F8(x:Sx):Int × Int:=bif Ax x==2 then(Kq x,0)else(0,2)
def EC(a:Ac)(k:ByteArray)(v:Sx):Ac × Int:=
 bif A1 k Cb then({a with params:=(G9 v).1},(G9 v).2)
 else bif A1 k Fs then({a with cost:=(F8 v).1},bif (F8 v).2==0 then(bif decide ((F8 v).1<0)then 1 else 0)else(F8 v).2)
 else bif A1 k GL then({a with pre:=(Cg v).1},(Cg v).2)
 else({a with changes:=(EW v).1},(EW v).2)
def H5:Ac->List (ByteArray × Sx)->Ac × Int
 |a,[]=>(a,0)
 |a,kv::l=>bif (EC a kv.1 kv.2).2==0 then H5 (EC a kv.1 kv.2).1 l else EC a kv.1 kv.2
def ED(n:ByteArray):Ac:=⟨n,[],1,Bv,[]⟩
def H6(x:Sx):Ac × Int:=bif (De x).2==0 then(bif (H5 (ED (De x).1) (CE ((CA x).drop 2) IT).1).2==0 then((H5 (ED (De x).1) (CE ((CA x).drop 2) IT).1).1,(CE ((CA x).drop 2) IT).2)else H5 (ED (De x).1) (CE ((CA x).drop 2) IT).1)else(ED (De x).1,(De x).2)
def DE(a:Du)(k:ByteArray)(v:Sx):Du × Int:=
 bif A1 k Cb then({a with params:=(G9 v).1},(G9 v).2)
 else bif A1 k EX then({a with duration:=(F8 v).1},(F8 v).2)
 else bif A1 k Eo then({a with start:=(Cg v).1},(Cg v).2)
 else bif A1 k F6 then({a with over:=(Cg v).1},(Cg v).2)
 else bif A1 k FL then({a with stop:=(Cg v).1},(Cg v).2)
 else bif A1 k Fg then({a with atStart:=(EW v).1},(EW v).2)
 else({a with atStop:=(EW v).1},(EW v).2)
def H7:Du->List (ByteArray × Sx)->Du × Int
 |a,[]=>(a,0)
 |a,kv::l=>bif (DE a kv.1 kv.2).2==0 then H7 (DE a kv.1 kv.2).1 l else DE a kv.1 kv.2
def DI(n:ByteArray):Du:=⟨n,[],1,Bv,Bv,Bv,[],[]⟩
def H8(x:Sx):Du × Int:=bif (De x).2==0 then(bif (H7 (DI (De x).1) (CE ((CA x).drop 2) IU).1).2==0 then((H7 (DI (De x).1) (CE ((CA x).drop 2) IU).1).1,(CE ((CA x).drop 2) IU).2)else H7 (DI (De x).1) (CE ((CA x).drop 2) IU).1)else(DI (De x).1,(De x).2)
def Kz:Pr:=⟨⟨#[]⟩,[]⟩
def Hw:Fu:=⟨⟨#[]⟩,[],0,0⟩
def HT(x:Sx):Pr × Int:=match Bd x with
 |none=>(Kz,2)
 |some (w,rest)=>bif An w then(⟨w,(Bt true rest).1⟩,(Bt true rest).2)else(Kz,8)
def HU(x:Sx):Fu × Int:=match Bd x with
 |none=>(Hw,2)
 |some (w,rest)=>match rest.drop (rest.length-2)with
  |[lo,hi]=>bif Ax lo==2&&Ax hi==2 then(bif An w then(⟨w,(Bt true (rest.take (rest.length-2))).1,Kq lo,Kq hi⟩,(Bt true (rest.take (rest.length-2))).2)else(Hw,8))else(Hw,2)
  |_=>(Hw,2)
def GP:List Pr->List Sx->List Pr × Int
 |l,[]=>(l,0)
 |l,x::xs=>bif (HT x).2==0 then GP (l++[(HT x).1]) xs else(l,(HT x).2)
def GQ:List Fu->List Sx->List Fu × Int
 |l,[]=>(l,0)
 |l,x::xs=>bif (HU x).2==0 then GQ (l++[(HU x).1]) xs else(l,(HU x).2)
def Cu(d:Dm)(w:ByteArray)(rest:List Sx)(x:Sx):Dm × Int:=
 bif A1 w Gk then(d,0)
 else bif A1 w DV then({d with types:=(Bt false rest).1},(Bt false rest).2)
 else bif A1 w DW then({d with constants:=(Bt false rest).1},(Bt false rest).2)
 else bif A1 w DX then({d with predicates:=(GP d.predicates rest).1},(GP d.predicates rest).2)
 else bif A1 w DP then({d with functions:=(GQ d.functions rest).1},(GQ d.functions rest).2)
 else bif A1 w Dl then({d with actions:=d.actions++[(H6 x).1]},(H6 x).2)
 else bif A1 w En then({d with duratives:=d.duratives++[(H8 x).1]},(H8 x).2)
 else(d,2)
def N7:List ByteArray:=[DV,DW,DX,DP]
def Ep(d:Dm)(seen:List ByteArray)(k:Sx):Dm × List ByteArray × Int:=match Bd k with
 |none=>(d,seen,2)
 |some (w,rest)=>bif N7.any (A1 w)then(bif seen.any (A1 w)then(d,seen,4)else((Cu d w rest k).1,w::seen,(Cu d w rest k).2))else((Cu d w rest k).1,seen,(Cu d w rest k).2)
def JX:Dm->List ByteArray->List Sx->Dm × Int
 |d,_,[]=>(d,0)
 |d,seen,k::l=>bif (Ep d seen k).2.2==0 then JX (Ep d seen k).1 (Ep d seen k).2.1 l else((Ep d seen k).1,(Ep d seen k).2.2)
def F9:Dm:=⟨⟨#[]⟩,[],[],[],[],[],[]⟩
def H9(n:ByteArray):Dm:=⟨n,[],[],[],[],[],[]⟩
def JY(x:Sx):Dm × Int:=match Bd x with
 |none=>(F9,2)
 |some (w,rest)=>bif A1 w GN then(match rest with
  |[]=>(F9,2)
  |n::secs=>bif (HN n E1).2==0 then JX (H9 (HN n E1).1) [] secs else(F9,(HN n E1).2))else(F9,2)
def HA(x:Sx):Dm × Int:=
 if(CL x 0 0).1=true then(if(JY x).2=0 then(if Gj (JY x).1=true then((JY x).1,0)else(F9,5))else(F9,(JY x).2))else(F9,2)
theorem kV{x:Sx}(h:((HA x).2==0)=false):(HA x).1=F9:=by
 unfold HA at h⊢;split
 ·rename_i h1;rw[AG h1]at h;split
  ·rename_i h2;rw[AG h2]at h;split
   ·rename_i h3;rw[AG h3]at h;simp at h
   ·rfl
  ·rfl
 ·rfl
theorem kX{x:Sx}(h:(HA x).2=0):Gj (HA x).1=true:=by
 unfold HA at h⊢;split
 ·rename_i h1;rw[AG h1]at h;split
  ·rename_i h2;rw[AG h2]at h;split
   ·assumption
   ·rename_i h3;rw[A4 h3]at h;simp at h
  ·rename_i h2;rw[A4 h2]at h;exact absurd h h2
 ·rename_i h1;rw[A4 h1]at h;simp at h
theorem OU{v:Bool}{l:List Pm}(h:l.all (BJ v)=true):Bt v (AX l)=(l,0):=by
 rw[JW]at h;cases v with
 |true=>exact Rv h
 |false=>exact j6 (Bq.1 h)
theorem XO{l:List Pm}(h:l.all (BJ true)=true):G9 (AK (AX l))=(l,0):=OU h
theorem XP{kw:ByteArray}{r:List ByteArray}: ∀ {pre:List ByteArray},(∀ p∈pre,A1 p kw=false)->IK (pre++kw::r) kw=some r
 |[],_=>by simp only[Au,IK,G8,AB]
 |p::pre,h=>by
  simp only[C3,IK,h p (by simp),AI];exact XP λq hq=>h q (by simp[hq])
def GR:List (Bool × ByteArray × Sx)->List Sx
 |[]=>[]
 |(m,kw,v)::T=>bif m then GR T else AA kw::v::GR T
def FO:List (Bool × ByteArray × Sx)->List (ByteArray × Sx)
 |[]=>[]
 |(m,kw,v)::T=>bif m then FO T else(kw,v)::FO T
def OV:List ByteArray->Bool
 |[]=>true
 |k::l=>l.all (λq=>!(A1 k q))&&OV l
theorem QM: ∀ (T:List (Bool × ByteArray × Sx))(pre:List ByteArray),OV (T.map (·.2.1))=true->(∀ p∈pre, ∀ t∈T,A1 p t.2.1=false)->CE (GR T) (pre++T.map (·.2.1))=(FO T,0)
 |[],pre,_,_=>by simp[GR,FO,CE]
 |(m,kw,v)::T,pre,hd,hp=>by
  simp only[BS,OV,AR,Bq,Er,forall_exists_index,and_imp,forall_apply_eq_imp_iff₂,E5]at hd;cases m with
  |true=>
   simp only[GR,FO,AB,BS];have:=QM T (pre++[kw]) hd.2 (λp hp2 t ht=>by
    rcases DY.1 hp2 with h|h
    ·exact hp p h t (by simp[ht])
    ·simp only[GV]at h;subst h;exact hd.1 t ht)
   rw[HW]at this;exact this
  |false=>
   simp only[GR,FO,AI,BS];rw[CE];simp only[kW,tW,D8,AB];rw[XP (pre:=pre) (λp hp2=>hp p hp2 (false,kw,v) (by simp))];have:=QM T [] hd.2 (by simp);rw[Au]at this;simp only[this]
theorem JZ(L:List Sx)(m:Bool)(kw:ByteArray)(v:Sx)(T:List (Bool × ByteArray × Sx)):BL L m kw v++GR T=L++GR ((m,kw,v)::T):=by
 unfold BL;cases m<;>simp[GR]
theorem XQ(L:List Sx)(m:Bool)(kw:ByteArray)(v:Sx):BL L m kw v=L++GR [(m,kw,v)]:=by
 have:=JZ L m kw v [];simpa[GR]using this
def M7(t:Fm->Bool)(ff:Fm->Sx)(fe:List Ch->Sx)(a:Ac):List (Bool × ByteArray × Sx):=[((a.params.length:Int)==0,Cb,AK (AX a.params)),(a.cost==1,Fs,DB a.cost),(t a.pre,GL,ff a.pre),((a.changes.length:Int)==0,HP,fe a.changes)]
def M8(t:Fm->Bool)(ff:Fm->Sx)(fe:List Ch->Sx)(a:Du):List (Bool × ByteArray × Sx):=[((a.params.length:Int)==0,Cb,AK (AX a.params)),(a.duration==1,EX,DB a.duration),(t a.start,Eo,ff a.start),(t a.over,F6,ff a.over),(t a.stop,FL,ff a.stop),((a.atStart.length:Int)==0,Fg,fe a.atStart),((a.atStop.length:Int)==0,Gf,fe a.atStop)]
theorem kY(t:Fm->Bool)(ff:Fm->Sx)(fe:List Ch->Sx)(a:Ac):GO t ff fe a=AA a.name::GR (M7 t ff fe a):=by
 unfold GO;rw[XQ,JZ,JZ,JZ];try rfl
theorem kZ(t:Fm->Bool)(ff:Fm->Sx)(fe:List Ch->Sx)(a:Du):FN t ff fe a=AA a.name::GR (M8 t ff fe a):=by
 unfold FN;rw[XQ,JZ,JZ,JZ,JZ,JZ,JZ];try rfl
theorem XR{k n:ByteArray}{l:List Sx}(h:An n=true):De (AK (AA k::AA n::l))=(n,0):=by
 simp[De,AK,CA,kW,tW,h]
theorem N8{α:Type}{l:List α}(h:((l.length:Int)==0)=true):l=[]:=by
 cases l with
 |nil=>rfl
 |cons a l=>simp only[Aw,Dv]at h;omega
theorem QN{a a':Ac}{m:Bool}{kw:ByteArray}{v:Sx}{L:List (ByteArray × Sx)}(h1:m=true->a'=a)(h2:m=false->EC a kw v=(a',0)):H5 a (bif m then L else(kw,v)::L)=H5 a' L:=by
 cases m with
 |true=>rw[h1 rfl];try rfl
 |false=>
  simp only[AI,H5,h2 rfl,D8,AB]
theorem M9{a a':Du}{m:Bool}{kw:ByteArray}{v:Sx}{L:List (ByteArray × Sx)}(h1:m=true->a'=a)(h2:m=false->DE a kw v=(a',0)):H7 a (bif m then L else(kw,v)::L)=H7 a' L:=by
 cases m with
 |true=>rw[h1 rfl];try rfl
 |false=>
  simp only[AI,H7,h2 rfl,D8,AB]
theorem kb(n:Int):F8 (DB n)=(n,0):=rfl
theorem kc{a:Ac}(h:Ff a=true)(he:GK a.changes=true):H6 (Dr a)=(a,0):=by
 unfold Ff at h;simp only[AR,E5]at h;obtain⟨⟨⟨⟨n,c⟩,p⟩,f⟩,ch⟩:=h;have hf:BQ a.pre=Am a.pre:=by unfold BQ;rw[f];try rfl
 have hx:Dr a=AK (AA Dl::AA a.name::GR (M7 Bp BQ CJ a)):=by rw[QG,kY]
 have hp:=QM (M7 Bp BQ CJ a) [] (show OV IT=true by decide) (by simp);have hk:(M7 Bp BQ CJ a).map (·.2.1)=IT:=rfl;rw[hk,Au]at hp;have hd:(CA (Dr a)).drop 2=GR (M7 Bp BQ CJ a):=by rw[hx];try rfl
 have hH:De (Dr a)=(a.name,0):=by rw[hx];exact XR n
 have hA:H5 (ED a.name) (FO (M7 Bp BQ CJ a))=(a,0):=by
  obtain⟨an,ap,aco,af,ac⟩:=a;simp only at n c p f ch he hf;unfold M7 FO FO FO FO FO;simp only;rw[QN (a:=ED an) (a':=⟨an,ap,1,Bv,[]⟩) (λm=>by rw[N8 m];try rfl) (λ_=>by
   unfold EC;simp only[G8,AB,XO p,ED])]
  rw[QN (a:=⟨an,ap,1,Bv,[]⟩) (a':=⟨an,ap,aco,Bv,[]⟩) (λm=>by rw[eq_of_beq m]) (λ_=>by
   have e:EC ⟨an,ap,1,Bv,[]⟩ Fs (DB aco)=(⟨an,ap,aco,Bv,[]⟩,bif decide (aco<0)then 1 else 0):=by
    unfold EC;rw[show A1 Fs Cb=false by decide,G8];try rfl
   rw[e,c];rfl)]
  rw[QN (a:=⟨an,ap,aco,Bv,[]⟩) (a':=⟨an,ap,aco,af,[]⟩) (λm=>by rw[Kw m]) (λ_=>by
   unfold EC;simp only[show A1 GL Cb=false by decide,show A1 GL Fs=false by decide,G8,AB,AI,hf,OI f])]
  rw[QN (a:=⟨an,ap,aco,af,[]⟩) (a':=⟨an,ap,aco,af,ac⟩) (λm=>by rw[N8 m]) (λ_=>by
   unfold EC;simp only[show A1 HP Cb=false by decide,show A1 HP Fs=false by decide,show A1 HP GL=false by decide,AI,Sf he])]
  rfl
 unfold H6;rw[hH,hd];simp only[D8,AB,hp,hA]
theorem ke{a:Du}(h:F7 a=true)(he:GK a.atStart=true)(he2:GK a.atStop=true):H8 (Ds a)=(a,0):=by
 unfold F7 at h;simp only[AR]at h;obtain⟨⟨⟨⟨⟨⟨n,p⟩,f1⟩,f2⟩,f3⟩,c1⟩,c2⟩:=h;have g1:BQ a.start=Am a.start:=by unfold BQ;rw[f1];try rfl
 have g2:BQ a.over=Am a.over:=by unfold BQ;rw[f2];try rfl
 have g3:BQ a.stop=Am a.stop:=by unfold BQ;rw[f3];try rfl
 have hx:Ds a=AK (AA En::AA a.name::GR (M8 Bp BQ CJ a)):=by rw[QH,kZ]
 have hp:=QM (M8 Bp BQ CJ a) [] (show OV IU=true by decide) (by simp);have hk:(M8 Bp BQ CJ a).map (·.2.1)=IU:=rfl;rw[hk,Au]at hp;have hd:(CA (Ds a)).drop 2=GR (M8 Bp BQ CJ a):=by rw[hx];try rfl
 have hH:De (Ds a)=(a.name,0):=by rw[hx];exact XR n
 have hA:H7 (DI a.name) (FO (M8 Bp BQ CJ a))=(a,0):=by
  obtain⟨an,ap,ad,s,o,e,sa,se⟩:=a;simp only at n p f1 f2 f3 c1 c2 he he2 g1 g2 g3;unfold M8 FO FO FO FO FO FO FO FO;simp only;rw[M9 (a:=DI an) (a':=⟨an,ap,1,Bv,Bv,Bv,[],[]⟩) (λm=>by rw[N8 m];try rfl) (λ_=>by
   unfold DE;simp only[G8,AB,XO p,DI])]
  rw[M9 (a':=⟨an,ap,ad,Bv,Bv,Bv,[],[]⟩) (λm=>by rw[eq_of_beq m]) (λ_=>by
   unfold DE;simp only[show A1 EX Cb=false by decide,G8,AB,AI,kb])]
  rw[M9 (a':=⟨an,ap,ad,s,Bv,Bv,[],[]⟩) (λm=>by rw[Kw m]) (λ_=>by
   unfold DE;simp only[show A1 Eo Cb=false by decide,show A1 Eo EX=false by decide,G8,AB,AI,g1,OI f1])]
  rw[M9 (a':=⟨an,ap,ad,s,o,Bv,[],[]⟩) (λm=>by rw[Kw m]) (λ_=>by
   unfold DE;simp only[show A1 F6 Cb=false by decide,show A1 F6 EX=false by decide,show A1 F6 Eo=false by decide,G8,AB,AI,g2,OI f2])]
  rw[M9 (a':=⟨an,ap,ad,s,o,e,[],[]⟩) (λm=>by rw[Kw m]) (λ_=>by
   unfold DE;simp only[show A1 FL Cb=false by decide,show A1 FL EX=false by decide,show A1 FL Eo=false by decide,show A1 FL F6=false by decide,G8,AB,AI,g3,OI f3])]
  rw[M9 (a':=⟨an,ap,ad,s,o,e,sa,[]⟩) (λm=>by rw[N8 m]) (λ_=>by
   unfold DE;simp only[show A1 Fg Cb=false by decide,show A1 Fg EX=false by decide,show A1 Fg Eo=false by decide,show A1 Fg F6=false by decide,show A1 Fg FL=false by decide,G8,AB,AI,Sf he])]
  rw[M9 (a':=⟨an,ap,ad,s,o,e,sa,se⟩) (λm=>by rw[N8 m]) (λ_=>by
   unfold DE;simp only[show A1 Gf Cb=false by decide,show A1 Gf EX=false by decide,show A1 Gf Eo=false by decide,show A1 Gf F6=false by decide,show A1 Gf FL=false by decide,show A1 Gf Fg=false by decide,AI,Sf he2])]
  rfl
 unfold H8;rw[hH,hd];simp only[D8,AB,hp,hA]
theorem kf{p:Pr}(h:Hv p=true):HT (Co p)=(p,0):=by
 unfold Hv at h;simp only[AR]at h;unfold HT Co;rw[Mw];simp only[h.1,AB,OU h.2]
theorem kg{f:Fu}(h:HR f=true):HU (Cs f)=(f,0):=by
 unfold HR at h;simp only[AR]at h;unfold HU Cs;rw[C3,Mw];have hl:(AX f.params++[DB f.lo,DB f.hi]).length-2=(AX f.params).length:=by simp
 simp only[hl,List.drop_left,List.take_left];simp only[DB,Ax,Kq,D8,L9,AB,h.1,OU h.2]
theorem XS: ∀ (l p:List Pr),l.all Hv=true->GP p (l.map Co)=(p++l,0)
 |[],p,_=>by simp[GP]
 |a::l,p,h=>by
  simp only[GX,AR]at h;simp only[BS,GP,kf h.1,D8,AB,XS l _ h.2,HW,Qf]
theorem XT: ∀ (l p:List Fu),l.all HR=true->GQ p (l.map Cs)=(p++l,0)
 |[],p,_=>by simp[GQ]
 |a::l,p,h=>by
  simp only[GX,AR]at h;simp only[BS,GQ,kg h.1,D8,AB,XT l _ h.2,HW,Qf]
def FP:Dm->List ByteArray->List Sx->Dm × List ByteArray × Int
 |d,seen,[]=>(d,seen,0)
 |d,seen,k::l=>bif (Ep d seen k).2.2==0 then FP (Ep d seen k).1 (Ep d seen k).2.1 l else Ep d seen k
theorem XU: ∀ (l:List Sx)(d:Dm)(seen:List ByteArray),JX d seen l=((FP d seen l).1,(FP d seen l).2.2)
 |[],d,seen=>rfl
 |k::l,d,seen=>by
  simp only[JX,FP];cases(Ep d seen k).2.2==0 with
  |true=>exact XU l _ _
  |false=>rfl
theorem QO: ∀ (l m:List Sx){d d':Dm}{seen seen':List ByteArray},FP d seen l=(d',seen',0)->FP d seen (l++m)=FP d' seen' m
 |[],m,d,d',seen,seen',h=>by
  simp only[FP,Ar,Da]at h;rw[h.1,h.2];try rfl
 |k::l,m,d,d',seen,seen',h=>by
  simp only[C3,FP]at h⊢;cases hc:(Ep d seen k).2.2==0 with
  |true=>
   rw[hc]at h;exact QO l m h
  |false=>
   rw[hc]at h;simp only[AI]at h;rw[h]at hc;simp at hc
theorem kh{d d':Dm}{seen seen':List ByteArray}{k:Sx}(h:Ep d seen k=(d',seen',0)):FP d seen [k]=(d',seen',0):=by
 simp only[FP,h,D8,AB]
theorem QP{L ks:List Sx}{kw:ByteArray}{d d1 d2:Dm}{seen s1 s2:List ByteArray}(h:FP d seen L=(d1,s1,0))(h0:ks.isEmpty=true->d2=d1)(h1:Ep d1 s1 (AK (AA kw::ks))=(d2,s2,0)): ∃ s3,FP d seen (CK L kw ks)=(d2,s3,0)/\(s3=s1\/s3=s2):=by
 unfold CK;cases hk:ks.isEmpty with
 |true=>exact⟨s1,by rw[h0 hk];exact h,.inl rfl⟩
 |false=>
  refine⟨s2,?_,.inr rfl⟩;simp only[AI];rw[QO L _ h];exact kh h1
theorem QQ{d:Dm}{seen:List ByteArray}{kw:ByteArray}{ks:List Sx}(h1:N7.any (A1 kw)=true)(h2:seen.any (A1 kw)=false):Ep d seen (AK (AA kw::ks))=((Cu d kw ks (AK (AA kw::ks))).1,kw::seen,(Cu d kw ks (AK (AA kw::ks))).2):=by
 unfold Ep;rw[Mw];simp only[h1,h2,AB,AI]
theorem XV{d:Dm}{seen:List ByteArray}{kw:ByteArray}{ks:List Sx}(h1:N7.any (A1 kw)=false):Ep d seen (AK (AA kw::ks))=((Cu d kw ks (AK (AA kw::ks))).1,seen,(Cu d kw ks (AK (AA kw::ks))).2):=by
 unfold Ep;rw[Mw];simp only[h1,AI]
theorem kj(a:Ac): ∃ ks,Dr a=AK (AA Dl::ks):=⟨_,QG a⟩
theorem km(a:Du): ∃ ks,Ds a=AK (AA En::ks):=⟨_,QH a⟩
theorem XW(seen:List ByteArray): ∀ (l:List Ac)(d:Dm),(∀ a∈l,H6 (Dr a)=(a,0))->FP d seen (l.map Dr)=({d with actions:=d.actions++l},seen,0)
 |[],d,_=>by simp[FP]
 |a::l,d,h=>by
  obtain⟨ks,hx⟩:=kj a;have h1:=h a (by simp);have hs:Ep d seen (Dr a)=({d with actions:=d.actions++[a]},seen,0):=by
   rw[hx,XV (by decide), ← hx];unfold Cu;simp only[show A1 Dl Gk=false by decide,show A1 Dl DV=false by decide,show A1 Dl DW=false by decide,show A1 Dl DX=false by decide,show A1 Dl DP=false by decide,G8,AB,AI,h1]
  simp only[BS,FP,hs,D8,AB,XW seen l _ (λb hb=>h b (by simp[hb])),HW,Qf]
theorem XX(seen:List ByteArray): ∀ (l:List Du)(d:Dm),(∀ a∈l,H8 (Ds a)=(a,0))->FP d seen (l.map Ds)=({d with duratives:=d.duratives++l},seen,0)
 |[],d,_=>by simp[FP]
 |a::l,d,h=>by
  obtain⟨ks,hx⟩:=km a;have h1:=h a (by simp);have hs:Ep d seen (Ds a)=({d with duratives:=d.duratives++[a]},seen,0):=by
   rw[hx,XV (by decide), ← hx];unfold Cu;simp only[show A1 En Gk=false by decide,show A1 En DV=false by decide,show A1 En DW=false by decide,show A1 En DX=false by decide,show A1 En DP=false by decide,show A1 En Dl=false by decide,G8,AB,AI,h1]
  simp only[BS,FP,hs,D8,AB,XX seen l _ (λb hb=>h b (by simp[hb])),HW,Qf]
theorem ko{d:Dm}(h:Gj d=true):(∀ a∈d.actions,Ff a=true/\GK a.changes=true)/\ ∀ a∈d.duratives,F7 a=true/\GK a.atStart=true/\GK a.atStop=true:=by
 have hr:Ky d=true:=by rw[← kL];exact h
 have hw: ∀ {l:List Ch},l.all C2=true->(((l.length:Int)==0)=false->VS (IQ l))->GK l=true:=by
  intro l hl hv;rw[jz];unfold Kt;rw[(K7 hl).1,B8];cases q:((l.length:Int)==0)with
  |true=>rw[N8 q];decide
  |false=>exact Kx.2 (hv q)
 have hb:=XM hr;unfold Ky at hr;simp only[AR]at hr;obtain⟨va,vu,_⟩:=Sn (Kx.1 hr.2);unfold Gh at hb;simp only[AR]at hb;obtain⟨⟨_,ba⟩,bd⟩:=hb;rw[Bq]at ba bd;refine⟨λa ha=>⟨ba a ha,?_⟩,λa ha=>⟨bd a ha,?_,?_⟩⟩
 ·have b:=ba a ha;have v:=va a ha;unfold Ff at b;simp only[AR]at b;exact hw b.2 λq=>Gg v (Gm _ (by unfold GO;exact IS q))
 ·have b:=bd a ha;have v:=vu a ha;unfold F7 at b;simp only[AR]at b;exact hw b.1.2 λq=>Gg v (Gm _ (by unfold FN;exact Fv (IS q)))
 ·have b:=bd a ha;have v:=vu a ha;unfold F7 at b;simp only[AR]at b;exact hw b.2 λq=>Gg v (Gm _ (by unfold FN;exact IS q))
theorem XY{l:List Pm}(h:(AX l).isEmpty=true):l=[]:=by
 cases l with
 |nil=>rfl
 |cons a l=>simp[AX]at h
theorem XZ{α β:Type}{f:α->β}{l:List α}(h:(l.map f).isEmpty=true):l=[]:=by
 cases l with
 |nil=>rfl
 |cons a l=>simp at h
theorem kp{d:Dm}(h:Gj d=true): ∃ s,FP (H9 d.name) [] ((Ft Dr Ds d).drop 1)=(d,s,0):=by
 obtain⟨ha,hu⟩:=ko h;unfold Gj Gh at h;simp only[AR]at h;obtain⟨⟨⟨⟨⟨⟨⟨_,t⟩,c⟩,p⟩,f⟩,_⟩,_⟩,_⟩:=h;obtain⟨dn,dt,dc,dp,df,da,dd⟩:=d;simp only at t c p f ha hu;have hg:(Ft Dr Ds ⟨dn,dt,dc,dp,df,da,dd⟩).drop 1=CK (CK (CK (CK [] DV (AX dt)) DW (AX dc)) DX (dp.map Co)) DP (df.map Cs)++(da.map Dr++dd.map Ds):=by
  unfold Ft;simp only[Si,C3,GW,CB,HW]
 rw[hg];have h0:FP (H9 dn) [] []=(⟨dn,[],[],[],[],[],[]⟩,[],0):=rfl;obtain⟨s1,h1,e1⟩:=QP (s2:=DV::[]) (kw:=DV) (ks:=AX dt) (d2:=⟨dn,dt,[],[],[],[],[]⟩) h0 (λhe=>by rw[XY he]) (by
  rw[QQ (by decide) (by simp)];unfold Cu;simp only[show A1 DV Gk=false by decide,G8,AB,AI,OU t])
 have m1:s1.any (A1 DW)=false/\s1.any (A1 DX)=false/\s1.any (A1 DP)=false:=by rcases e1 with rfl|rfl<;>decide
 obtain⟨s2,h2,e2⟩:=QP (s2:=DW::s1) (kw:=DW) (ks:=AX dc) (d2:=⟨dn,dt,dc,[],[],[],[]⟩) h1 (λhe=>by rw[XY he]) (by
  rw[QQ (by decide) m1.1];unfold Cu;simp only[show A1 DW Gk=false by decide,show A1 DW DV=false by decide,G8,AB,AI,OU c])
 have m2:s2.any (A1 DX)=false/\s2.any (A1 DP)=false:=by
  rcases e2 with rfl|rfl
  ·exact m1.2
  ·simp only[TI,m1.2.1,m1.2.2,GU];decide
 obtain⟨s3,h3,e3⟩:=QP (s2:=DX::s2) (kw:=DX) (ks:=dp.map Co) (d2:=⟨dn,dt,dc,dp,[],[],[]⟩) h2 (λhe=>by rw[XZ he]) (by
  rw[QQ (by decide) m2.1];unfold Cu;simp only[show A1 DX Gk=false by decide,show A1 DX DV=false by decide,show A1 DX DW=false by decide,G8,AB,AI,XS dp [] p,Au])
 have m3:s3.any (A1 DP)=false:=by
  rcases e3 with rfl|rfl
  ·exact m2.2
  ·simp only[TI,m2.2,GU];decide
 obtain⟨s4,h4,_⟩:=QP (s2:=DP::s3) (kw:=DP) (ks:=df.map Cs) (d2:=⟨dn,dt,dc,dp,df,[],[]⟩) h3 (λhe=>by rw[XZ he]) (by
  rw[QQ (by decide) m3];unfold Cu;simp only[show A1 DP Gk=false by decide,show A1 DP DV=false by decide,show A1 DP DW=false by decide,show A1 DP DX=false by decide,G8,AB,AI,XT df [] f,Au])
 have h5:=XW s4 da ⟨dn,dt,dc,dp,df,[],[]⟩ (λa h=>kc (ha a h).1 (ha a h).2);have h6:=XX s4 dd ⟨dn,dt,dc,dp,df,da,[]⟩ (λa h=>ke (hu a h).1 (hu a h).2.1 (hu a h).2.2);simp only[Au]at h5 h6;exact⟨s4,by rw[QO _ _ h4,QO _ _ h5,h6]⟩
theorem kq(fa:Ac->Sx)(fd:Du->Sx)(d:Dm):Ft fa fd d=AK [AA E1,AA d.name]::(Ft fa fd d).drop 1:=by
 unfold Ft;simp only[Si,C3,GW,CB]
theorem kr{d:Dm}(h:Gj d=true):JY (H4 d)=(d,0):=by
 obtain⟨s,hs⟩:=kp h;unfold Gj Gh at h;simp only[AR]at h;have hn:=h.1.1.1.1.1.1.1;rw[Sj,kq];unfold JY;rw[Mw];have h2:HN (AK [AA E1,AA d.name]) E1=(d.name,0):=j5 hn;simp only[G8,AB,h2,D8,XU,hs]
theorem ku{d:Dm}(h:Gj d=true):HA (H4 d)=(d,0):=by
 have h2:=h;unfold Gj at h2;simp only[AR]at h2;unfold HA;rw[AG h2.2,kr h];simp only[AH,h]
set_option maxHeartbeats 8000000
theorem Df(c:Int): ∃ u,AO c= .sc u:=by
 unfold AO Aj;cases c==0<;>exact⟨_,rfl⟩
theorem Xa{x:Sx}(h:A0):A6 prog 156 [.agg x.cells] h λr h'=>r= .tup [.sc (.int .i64 (F8 x).1),AO (F8 x).2]/\h'=h:=by
 generalize hF:F8 x=F;obtain⟨kind,value,line,col,text,kids⟩:=x;simp only[F8,Ax,Kq]at hF;simp only[Sx.cells];cases q:(kind==2)with
 |false=>
  rw[q]at hF;subst hF;have q2:(kind !=2)=true:=by simpa using q
  refine AE func156 ntmps156 results156 Ty.Uj ?_;refine wm q2 ?_;try exact zI
  all_goals rfl
 |true=>
  rw[q]at hF;subst hF;have q2:(kind !=2)=false:=by simpa using q
  refine AE func156 ntmps156 results156 Ty.Uj ?_;refine wm q2 ?_;try exact zI
  all_goals rfl
theorem Xb{x:Sx}(hok:x.ok)(hsm:x.small)(h:A0):A6 prog 155 [.agg x.cells] h λr h'=>r= .tup [.imm 2 (A7 (G9 x).1),AO (G9 x).2]/\h'=h:=by
 refine A6.frz Ty.RN ?_;generalize hF:G9 x=F;obtain⟨kind,value,line,col,text,kids⟩:=x;simp only[G9,Ax,CA]at hF;simp only[Sx.ok]at hok;simp only[Sx.small]at hsm;have hp:=λh:A0=>Lp (vars:=true) (l:=kids) hsm.1 (Sx.oks_iff.1 hok.2.2.2.2) h;simp only[Sx.cells];cases q:(kind==3)with
 |false=>
  rw[q]at hF;subst hF;have q2:(kind !=3)=true:=by simpa using q
  refine AE func155 ntmps155 results155 Ty.RN ?_;refine wt q2 ?_;refine⟨?_,AC.refl _⟩;simp only[AI,AF,AL];exact⟨_,rfl,.inr (.inl ⟨rfl,.inr rfl⟩),rfl,trivial⟩
 |true=>
  rw[q,AB]at hF;have q2:(kind !=3)=false:=by simpa using q
  rw[hF]at hp;obtain⟨l,c⟩:=F;obtain⟨u,hu⟩:=Df c;simp only[hu]at hp⊢;refine AE func155 ntmps155 results155 Ty.RN ?_;refine wt q2 ?_;refine uU A3 (hp _) ?_;refine wt A3 ?_;refine⟨?_,AC.refl _⟩;simp only[AF,AL];exact⟨_,rfl,.inl ⟨rfl,Bu _ _⟩,rfl,trivial⟩
theorem Xc{x:Sx}(hok:x.ok)(h:A0):A6 prog 153 [.agg x.cells] h λr h'=>r= .tup [A2 (De x).1,AO (De x).2]/\h'=h:=by
 generalize hF:De x=F;obtain⟨kind,value,line,col,text,kids⟩:=x;simp only[De,CA]at hF;simp only[Sx.ok]at hok;have hks:=Sx.oks_iff.1 hok.2.2.2.2;have hlen:=Sx.rows_len kids;simp only[Sx.cells];rcases kids with _|⟨a,_|⟨n,rest⟩⟩
 ·subst hF;have q:decide (((Sx.rows []).length:Int)<2)=true:=by decide
  generalize Sx.rows []=R at q⊢;refine AE func153 ntmps153 results153 Ty.Ny ?_;refine wm q ?_;try exact zI
  all_goals rfl
 ·subst hF;have q:decide (((Sx.rows [a]).length:Int)<2)=true:=by rw[hlen];simp
  generalize Sx.rows [a]=R at q⊢;refine AE func153 ntmps153 results153 Ty.Ny ?_;refine wm q ?_;try exact zI
  all_goals rfl
 ·have q:decide (((Sx.rows (a::n::rest)).length:Int)<2)=false:=by rw[hlen];simp;omega
  have q1:((1:Int)<((Sx.rows (a::n::rest)).length:Int))=True:=Db (by rw[hlen];simp;omega);have r1:=Sx.rows_get (l:=a::n::rest) (i:=1) rfl;have hno:=hks n (by simp);have hw:=λh:A0=>OO (x:=n) h;generalize Sx.rows (a::n::rest)=R at q q1 r1⊢
  clear hlen hks hok;obtain⟨nk,nv,nl,nc,nt,ns⟩:=n;simp only[Sx.ok]at hno;have hn:=λh:A0=>FI (h:=h) (s:=nt) (by have:=hno.2.2.1;unfold AJ at this;omega);simp only[Sx.cells,Ax,Ah]at r1 hw hF;cases b1:(nk==1)with
  |false=>
   rw[b1]at hF hw;subst hF;refine AE func153 ntmps153 results153 Ty.Ny ?_;refine wt (AV q q1 r1) ?_;refine uU (AV q q1 r1) (hw _) ?_;refine wm yF ?_;try exact zI
   all_goals rfl
  |true=>
   rw[b1]at hF hw;cases b2:An nt with
   |false=>
    rw[b2]at hF hn;subst hF;refine AE func153 ntmps153 results153 Ty.Ny ?_;refine wt (AV q q1 r1) ?_;refine uU (AV q q1 r1) (hw _) ?_;refine wt (AV yT q1 r1) ?_;refine uU (uu q1 r1) (hn _) ?_;refine wm yF ?_;try exact zI
    all_goals rfl
   |true=>
    rw[b2]at hF hn;subst hF;refine AE func153 ntmps153 results153 Ty.Ny ?_;refine wt (AV q q1 r1) ?_;refine uU (AV q q1 r1) (hw _) ?_;refine wt (AV yT q1 r1) ?_;refine uU (uu q1 r1) (hn _) ?_;refine wm (AV yT q1 r1) ?_;try exact zI
    all_goals rfl
theorem N9{kind value line col:Int}{text w:ByteArray}{kids l:List Sx}(hok:(Sx.mk kind value line col text kids).ok)(hD:Bd (.mk kind value line col text kids)=some (w,l)):
  ∃ yk yv yl yc ys,kids= .mk yk yv yl yc w ys::l/\(Sx.rows kids)[0]? =some [.sc (.int .i64 yk),.sc (.int .i64 yv),.sc (.int .i64 yl),.sc (.int .i64 yc),A2 w,.imm 6 (Sx.rows ys)]/\((0:Int)<((Sx.rows kids).length:Int))=True/\(1:Int)<=((Sx.rows kids).length:Int)/\
   List.take (((Sx.rows kids).length:Int)-1).toNat (List.drop 1 (Sx.rows kids))=Sx.rows l/\w.size<=9223372036854775807/\(Sx.rows kids).length=l.length+1:=by
 obtain⟨y,rfl,_,hy2⟩:=N3 hD;obtain⟨yk,yv,yl,yc,yt,ys⟩:=y;simp only[Ah]at hy2;subst hy2;have hlen:=Sx.rows_len (.mk yk yv yl yc yt ys::l);have hz:yt.size<=AJ:=by
  simp only[Sx.ok,Sx.oks]at hok;exact hok.2.2.2.2.1.2.2.1
 refine⟨yk,yv,yl,yc,ys,rfl,rfl,Db (by rw[hlen];simp<;>omega),by rw[hlen];simp<;>omega,?_,by unfold AJ at hz;omega,hlen⟩;simp only[Sx.rows,GW,CB,Aw];rw[DQ (by omega)]
theorem l7{x:Sx}(hok:x.ok)(h:A0):A6 prog 59 [.agg x.cells] h λr h'=>r= .tup [A2 (HN x E1).1,AO (HN x E1).2]/\h'=h:=by
 have hb:=Ly hok;generalize hF:HN x E1=F;unfold HN at hF;obtain⟨kind,value,line,col,text,kids⟩:=x;generalize hD:Bd (.mk kind value line col text kids)=D at hF hb;cases D with
 |none=>
  simp only at hF;simp only[Sx.cells,MN]at hb⊢;subst hF;refine AE func59 ntmps59 results59 Ty.Lb ?_;refine wt A3 ?_;refine uU yF (hb _) ?_;refine wm yF ?_;try exact zI
  all_goals rfl
 |some wl=>
  obtain⟨w,l⟩:=wl;obtain⟨yk,yv,yl,yc,ys,hkd,r0,q0,q1,ht,hws,hrl⟩:=N9 hok hD;simp only at hF;simp only[Sx.cells,NL]at hb⊢;simp only[Sx.ok]at hok;have hks:=Sx.oks_iff.1 hok.2.2.2.2;cases q2:(w.data.toList==(#[100,111,109,97,105,110]:Array UInt8).toList)with
  |false=>
   have q2':(w.data.toList !=(#[100,111,109,97,105,110]:Array UInt8).toList)=true:=(by simpa[bne]using q2);rw[show A1 w E1=false from q2]at hF;subst hF;cases q3:(((Sx.rows kids).length:Int) !=2)with
   |true=>
    generalize Sx.rows kids=R at r0 q0 q3 hb⊢;refine AE func59 ntmps59 results59 Ty.Lb ?_;refine wt A3 ?_;replace zz:=Aa yT r0 q0 q3;refine uU zz (hb _) ?_;refine wm zz ?_;try exact zI
    all_goals rfl
   |false=>
    generalize Sx.rows kids=R at r0 q0 q3 hb⊢;refine AE func59 ntmps59 results59 Ty.Lb ?_;refine wt A3 ?_;replace zz:=Aq yT r0 q0 q3 q2 q2';refine uU zz (hb _) ?_;refine wm zz ?_;try exact zI
    all_goals rfl
  |true=>
   have q2':(w.data.toList !=(#[100,111,109,97,105,110]:Array UInt8).toList)=false:=(by simpa[bne]using q2);rw[show A1 w E1=true from q2]at hF;simp only[AB]at hF;cases q3:(((Sx.rows kids).length:Int) !=2)with
   |true=>
    have e:F=(⟨#[]⟩,2):=by
     rw[← hF];rw[hrl]at q3
     match l,q3 with
     |[],_=>rfl
     |[a],q=>simp at q
     |_::_::_,_=>rfl
    subst e;generalize Sx.rows kids=R at r0 q0 q3 hb⊢;refine AE func59 ntmps59 results59 Ty.Lb ?_;refine wt A3 ?_;replace zz:=Aa yT r0 q0 q3;refine uU zz (hb _) ?_;refine wm zz ?_;try exact zI
    all_goals rfl
   |false=>
    obtain⟨n,rfl⟩: ∃ n,l=[n]:=by
     rw[hrl]at q3
     match l,q3 with
     |[],q=>simp at q
     |[a],_=>exact⟨a,rfl⟩
     |_::_::l,q=>simp at q;omega
    have q4:((1:Int)<((Sx.rows kids).length:Int))=True:=Db (by rw[hrl];simp);have hno:=hks n (by rw[hkd];simp);have r1:(Sx.rows kids)[1]? =some n.cells:=(by rw[hkd];exact Sx.rows_get rfl);have hw:=λh:A0=>OO (x:=n) h;generalize Sx.rows kids=R at r0 q0 q3 q4 r1 hb⊢;clear hD hks hkd hok ht hrl;obtain⟨nk,nv,nl,nc,nt,ns⟩:=n;simp only[Sx.ok]at hno;have hn:=λh:A0=>FI (h:=h) (s:=nt) (by have:=hno.2.2.1;unfold AJ at this;omega);simp only[Sx.cells,Ax,Ah]at r1 hw hF;cases b1:(nk==1)with
    |false=>
     rw[b1]at hF hw;subst hF;refine AE func59 ntmps59 results59 Ty.Lb ?_;refine wt A3 ?_;replace zz:=BO yT r0 q0 q3 q2 q2' q4 r1;refine uU zz (hb _) ?_;refine wt zz ?_;refine uU (AV q4 r1 yF) (hw _) ?_;refine wm yF ?_;try exact zI
     all_goals rfl
    |true=>
     rw[b1]at hF hw;cases b2:An nt with
     |false=>
      rw[b2]at hF hn;subst hF;refine AE func59 ntmps59 results59 Ty.Lb ?_;refine wt A3 ?_;replace zz:=BO yT r0 q0 q3 q2 q2' q4 r1;refine uU zz (hb _) ?_;refine wt zz ?_;refine uU (uu q4 r1) (hw _) ?_;refine wt (AV yT q4 r1) ?_;refine uU (uu q4 r1) (hn _) ?_;refine wm yF ?_;try exact zI
      all_goals rfl
     |true=>
      rw[b2]at hF hn;subst hF;refine AE func59 ntmps59 results59 Ty.Lb ?_;refine wt A3 ?_;replace zz:=BO yT r0 q0 q3 q2 q2' q4 r1;refine uU zz (hb _) ?_;refine wt zz ?_;refine uU (uu q4 r1) (hw _) ?_;refine wt (AV yT q4 r1) ?_;refine uU (uu q4 r1) (hn _) ?_;refine wm (AV yT q4 r1) ?_;try exact zI
      all_goals rfl
theorem l8{n:Nat}{H:A0}{p:Pr}{c:Int}{u:PV}(hc:AO c=u):AF n H (.tup [.agg (FE p),AO c]) (.tup [.agg (FE p),u]):=by
 subst hc;obtain⟨u,hu⟩:=Df c;rw[hu];simp only[FE,AF,AL];exact⟨_,rfl,⟨_,rfl,rfl,.inl ⟨rfl,Bu _ _⟩,trivial⟩,rfl,trivial⟩
theorem Xd{n:Nat}{H:A0}{c:Int}{u:PV}(hc:AO c=u):AF n H (.tup [.agg (FE Kz),AO c]) (.tup [.agg [.sc (.string ⟨#[]⟩),.sc (.slice none 0 0)],u]):=by
 subst hc;obtain⟨u,hu⟩:=Df c;rw[hu];simp only[FE,Kz,A7,B5,AF,AL];exact⟨_,rfl,⟨_,rfl,rfl,.inr (.inl ⟨rfl,.inr rfl⟩),trivial⟩,rfl,trivial⟩
theorem l9{x:Sx}(hok:x.ok)(hsm:x.small)(h:A0):A6 prog 119 [.agg x.cells] h λr h'=>r= .tup [.agg (FE (HT x).1),AO (HT x).2]/\h'=h:=by
 refine A6.frz Ty.PW ?_;have hb:=Ly hok;have hO:=λw l=>Ku hok hsm (w:=w) (l:=l);generalize hF:HT x=F;unfold HT at hF;obtain⟨kind,value,line,col,text,kids⟩:=x;generalize hD:Bd (.mk kind value line col text kids)=D at hF hb hO;cases D with
 |none=>
  simp only at hF;simp only[Sx.cells,MN]at hb⊢;subst hF;refine AE func119 ntmps119 results119 Ty.PW ?_;refine wt A3 ?_;refine uU A3 (hb _) ?_;refine wt yF ?_;exact⟨Xd rfl,((AC.refl h).new _).set (AD _) _⟩
 |some wl=>
  obtain⟨w,l⟩:=wl;obtain⟨_,hl,hlo⟩:=hO w l rfl;obtain⟨yk,yv,yl,yc,ys,hkd,r0,q0,q1,ht,hws,hrl⟩:=N9 hok hD;simp only at hF;simp only[Sx.cells,NL]at hb⊢;have hn:=λh:A0=>FI (h:=h) (s:=w) hws;have hp:=λh:A0=>Lp (vars:=true) hl hlo h;generalize Sx.rows kids=R at r0 q0 q1 ht hrl hb⊢
  clear hD hO hkd hok hsm;cases b2:An w with
  |false=>
   rw[b2]at hF hn;simp only[AI]at hF;subst hF;refine AE func119 ntmps119 results119 Ty.PW ?_;refine wt A3 ?_;refine uU A3 (hb _) ?_;refine wt (AV yT r0 q0) ?_;refine uU (uu r0 q0) (hn _) ?_;refine wt yF ?_;exact⟨Xd rfl,((AC.refl h).new _).set (AD _) _⟩
  |true=>
   rw[b2]at hF hn;simp only[AB]at hF;generalize Bt true l=L at hF hp;obtain⟨pl,c⟩:=L;simp only at hF hp;subst hF;obtain⟨u,hu⟩:=Df c;simp only[hu]at hp;refine AE func119 ntmps119 results119 Ty.PW ?_;refine wt A3 ?_;refine uU A3 (hb _) ?_;refine wt (AV yT r0 q0) ?_;refine uU (uu r0 q0) (hn _) ?_;replace zz:=Ag yT r0 q0 q1 ht @CU @CV;refine wt zz ?_;replace zz:=Aa r0 q0 q1 ht;refine uU zz (hp _) ?_;refine wt (uu r0 q0) ?_;exact⟨l8 (p:=⟨w,pl⟩) hu,((AC.refl h).new _).set (AD _) _⟩
theorem lA{n:Nat}{H:A0}{p:Fu}{c:Int}{u:PV}(hc:AO c=u):AF n H (.tup [.agg (FF p),AO c]) (.tup [.agg (FF p),u]):=by
 subst hc;obtain⟨u,hu⟩:=Df c;rw[hu];simp only[FF,AF,AL];exact⟨_,rfl,⟨_,rfl,rfl,.inl ⟨rfl,Bu _ _⟩,rfl,rfl,trivial⟩,rfl,trivial⟩
theorem OW{n:Nat}{H:A0}{c:Int}{u:PV}(hc:AO c=u):AF n H (.tup [.agg (FF Hw),AO c]) (.tup [.agg [.sc (.string ⟨#[]⟩),.sc (.slice none 0 0),.sc (.int .i64 0),.sc (.int .i64 0)],u]):=by
 subst hc;obtain⟨u,hu⟩:=Df c;rw[hu];simp only[FF,Hw,A7,B5,AF,AL];exact⟨_,rfl,⟨_,rfl,rfl,.inr (.inl ⟨rfl,.inr rfl⟩),rfl,rfl,trivial⟩,rfl,trivial⟩
theorem lB{l:List Sx}(h:2<=l.length): ∃ lo hi,l.drop (l.length-2)=[lo,hi]/\l[l.length-2]? =some lo/\l[l.length-1]? =some hi:=by
 have e1:l.length-2<l.length:=by omega
 have e2:l.length-2+1<l.length:=by omega
 refine⟨l[l.length-2],l[l.length-2+1],?_,AU e1,?_⟩
 ·rw [MK e1,MK e2,D3 (by omega)]
 ·rw [show l.length-1=l.length-2+1 from by omega];exact AU e2
theorem lC{x:Sx}(hok:x.ok)(hsm:x.small)(h:A0):A6 prog 120 [.agg x.cells] h λr h'=>r= .tup [.agg (FF (HU x).1),AO (HU x).2]/\h'=h:=by
 refine A6.frz Ty.Lc ?_;have hb:=Ly hok;have hO:=λw l=>Ku hok hsm (w:=w) (l:=l);generalize hF:HU x=F;unfold HU at hF;obtain⟨kind,value,line,col,text,kids⟩:=x;generalize hD:Bd (.mk kind value line col text kids)=D at hF hb hO;cases D with
 |none=>
  simp only at hF;simp only[Sx.cells,MN]at hb⊢;subst hF;refine AE func120 ntmps120 results120 Ty.Lc ?_;refine wt A3 ?_;refine uU yF (hb _) ?_;refine wt yF ?_;exact⟨OW rfl,((AC.refl h).new _).set (AD _) _⟩
 |some wl=>
  obtain⟨w,l⟩:=wl;obtain⟨_,hl,hlo⟩:=hO w l rfl;obtain⟨yk,yv,yl,yc,ys,hkd,r0,q0,q1,ht,hws,hrl⟩:=N9 hok hD;simp only at hF;simp only[Sx.cells,NL]at hb⊢;have hn:=λh:A0=>FI (h:=h) (s:=w) hws;cases q3:decide (((Sx.rows kids).length:Int)<3)with
  |true=>
   have e:F=(Hw,2):=by
    rw[← hF];have:l.length<2:=by
     rw[hrl]at q3;simp at q3;omega
    match l,this with
    |[],_=>rfl
    |[a],_=>rfl
   subst e;generalize Sx.rows kids=R at q3 hb⊢;refine AE func120 ntmps120 results120 Ty.Lc ?_;refine wt A3 ?_;refine uU (uu yT q3) (hb _) ?_;refine wt (uu yT q3) ?_;exact⟨OW rfl,((AC.refl h).new _).set (AD _) _⟩
  |false=>
   have hl2:2<=l.length:=by
    rw[hrl]at q3;simp at q3;omega
   obtain⟨lo,hi,hdr,g1,g2⟩:=lB hl2;rw[hdr]at hF;simp only at hF;have n1:IntKind.i64.wrap (((Sx.rows kids).length:Int)-2)=((l.length-1:Nat):Int):=(by rw[hrl,Br (by omega) (by omega)];omega);have n2:IntKind.i64.wrap (((Sx.rows kids).length:Int)-1)=((l.length:Nat):Int):=(by rw[hrl,Br (by omega) (by omega)];omega);have a1:(Sx.rows kids)[l.length-1]? =some lo.cells:=by
    rw[hkd];refine Sx.rows_get ?_;rw[show l.length-1=(l.length-2)+1 from by omega,KE];exact g1
   have a2:(Sx.rows kids)[l.length]? =some hi.cells:=by
    rw[hkd];refine Sx.rows_get ?_;rw[show l.length=(l.length-1)+1 from by omega,KE];exact g2
   have t1:List.take (((l.length-1:Nat):Int)-1).toNat (List.drop 1 (Sx.rows kids))=Sx.rows (l.take (l.length-2)):=by
    rw[hkd];simp only[Sx.rows,GW,CB,Sx.rows_map,List.map_take];congr 1;omega
   have b0:(((l.length-1:Nat):Int)<((Sx.rows kids).length:Int))=True:=Db (by rw[hrl];omega);have b1:(((l.length:Nat):Int)<((Sx.rows kids).length:Int))=True:=Db (by rw[hrl];omega);have b2:(1:Int)<=((l.length-1:Nat):Int):=(by omega);have b3:((l.length-1:Nat):Int)<=((Sx.rows kids).length:Int):=(by rw[hrl];omega);have b4:(0:Int)<=((l.length-1:Nat):Int):=(by omega);have b5:(0:Int)<=((l.length:Nat):Int):=(by omega);have hp:=λh:A0=>Lp (vars:=true) (l:=l.take (l.length-2)) (by rw[HX];omega) (λy hy=>hlo y (Y7 hy)) h;generalize hRR:Sx.rows kids=R at r0 q0 q1 q3 n1 n2 a1 a2 t1 b0 b1 b3 hb⊢;clear hD hO hkd hok hsm ht hrl hdr g1 g2 hRR;generalize l.take (l.length-2)=l2 at hF hp t1;generalize l.length-1=k1 at n1 a1 t1 b0 b2 b3 b4;generalize l.length=k2 at n2 a2 b1 b5;obtain⟨lk,lv,ll,lc,lt,ls⟩:=lo;obtain⟨ik,iv,il,ic,it,is⟩:=hi;simp only[Sx.cells,Ax,Kq]at a1 a2 hF;have T1:(k1:Int).toNat=k1:=MJ k1;have T2:(k2:Int).toNat=k2:=MJ k2;cases z1:(lk==2)with
   |false=>
    have z1':(lk !=2)=true:=(by simpa using z1);rw[z1,B9,AI]at hF;subst hF;refine AE func120 ntmps120 results120 Ty.Lc ?_;refine wt A3 ?_;refine Gs (hb _) (by(try simp only[Ty.w,simprocAttr,Ap,q3,n1,b0,b4,T1,a1,z1']);try rfl) ?_;simp only[Ty.w,simprocAttr,Ap,q3,n1,b0,b4,T1,a1,z1'];(repeat'(first|refine cK ?_|(refine nK ?_;try exact zI)|refine Ae λK hK=>?_|((first|refine BZ ?_|refine ES ?_);simp only[Ty.w,simprocAttr,Ap,q3,n1,b0,b4,T1,a1,z1'])|(refine hK _ _ ?_;clear hK;(try simp only[Ao,simprocAttr]))));exact⟨OW rfl,((AC.refl h).new _).set (AD _) _⟩
   |true=>
    have z1':(lk !=2)=false:=(by simpa using z1);rw[z1,B8]at hF;cases z2:(ik==2)with
    |false=>
     have z2':(ik !=2)=true:=(by simpa using z2);rw[z2,AI]at hF;subst hF;refine AE func120 ntmps120 results120 Ty.Lc ?_;refine wt A3 ?_;refine Gs (hb _) (by(try simp only[Ty.w,simprocAttr,Ap,q3,n1,b0,b4,T1,a1,z1',n2,b1,b5,T2,a2,z2']);try rfl) ?_;simp only[Ty.w,simprocAttr,Ap,q3,n1,b0,b4,T1,a1,z1',n2,b1,b5,T2,a2,z2'];(repeat'(first|refine cK ?_|(refine nK ?_;try exact zI)|refine Ae λK hK=>?_|((first|refine BZ ?_|refine ES ?_);simp only[Ty.w,simprocAttr,Ap,q3,n1,b0,b4,T1,a1,z1',n2,b1,b5,T2,a2,z2'])|(refine hK _ _ ?_;clear hK;(try simp only[Ao,simprocAttr]))));exact⟨OW rfl,((AC.refl h).new _).set (AD _) _⟩
    |true=>
     have z2':(ik !=2)=false:=(by simpa using z2);rw[z2,AB]at hF;cases b9:An w with
     |false=>
      rw[b9]at hF hn;simp only[AI]at hF;subst hF;refine AE func120 ntmps120 results120 Ty.Lc ?_;refine wt A3 ?_;refine Gs (hb _) (by(try simp only[Ty.w,simprocAttr,Ap,q3,n1,b0,b4,T1,a1,z1',n2,b1,b5,T2,a2,z2',r0,q0]);try rfl) ?_;simp only[Ty.w,simprocAttr,Ap,q3,n1,b0,b4,T1,a1,z1',n2,b1,b5,T2,a2,z2',r0,q0];(repeat'(first|refine cK ?_|(refine nK ?_;try exact zI)|refine Ae λK hK=>?_|(refine BZ ?_;simp only[Ty.w,simprocAttr,Ap,q3,n1,b0,b4,T1,a1,z1',n2,b1,b5,T2,a2,z2',r0,q0])|(refine GZ ?_;(try simp only[Ao,simprocAttr]))|(refine EI _ (by(try simp only[Ty.w,simprocAttr,Ap,q3,n1,b0,b4,T1,a1,z1',n2,b1,b5,T2,a2,z2',r0,q0]);rfl) (λhb=>?_) (λhb=>?_)<;>(try simp only[Cz,BP,Cv,simprocAttr]at hb)<;>(try(exfalso;omega)))|(refine hK _ _ ?_;clear hK;(try simp only[Ao,simprocAttr]))));refine uU (uu r0 q0) (hn _) ?_;(repeat'(first|refine cK ?_|refine nK ?_|refine Ae λK hK=>?_|refine uR yF ?_|refine uT yF ?_|(refine uN hK ?_;clear hK)|apply zI));exact⟨OW rfl,((AC.refl h).new _).set (AD _) _⟩
     |true=>
      rw[b9]at hF hn;simp only[AB]at hF;generalize Bt true l2=L at hF hp;obtain⟨pl,c⟩:=L;simp only at hF hp;subst hF;obtain⟨u,hu⟩:=Df c;simp only[hu]at hp;refine AE func120 ntmps120 results120 Ty.Lc ?_;refine wt A3 ?_;refine Gs (hb _) (by(try simp only[Ty.w,simprocAttr,Ap,q3,n1,b0,b4,T1,a1,z1',n2,b1,b5,T2,a2,z2',r0,q0]);try rfl) ?_;simp only[Ty.w,simprocAttr,Ap,q3,n1,b0,b4,T1,a1,z1',n2,b1,b5,T2,a2,z2',r0,q0];(repeat'(first|refine cK ?_|(refine nK ?_;try exact zI)|refine Ae λK hK=>?_|(refine BZ ?_;simp only[Ty.w,simprocAttr,Ap,q3,n1,b0,b4,T1,a1,z1',n2,b1,b5,T2,a2,z2',r0,q0])|(refine GZ ?_;(try simp only[Ao,simprocAttr]))|(refine EI _ (by(try simp only[Ty.w,simprocAttr,Ap,q3,n1,b0,b4,T1,a1,z1',n2,b1,b5,T2,a2,z2',r0,q0]);rfl) (λhb=>?_) (λhb=>?_)<;>(try simp only[Cz,BP,Cv,simprocAttr]at hb)<;>(try(exfalso;omega)))|(refine hK _ _ ?_;clear hK;(try simp only[Ao,simprocAttr]))));refine uU (uu r0 q0) (hn _) ?_;(repeat'(first|refine cK ?_|(refine nK ?_;try exact zI)|refine Ae λK hK=>?_|(refine BZ ?_;simp only[Ty.w,simprocAttr,Ap,n1,b2,b3,b4,T1,t1,B6,Bf,CU,CV])|(refine GZ ?_;(try simp only[Ao,simprocAttr]))|(refine EI _ (by(try simp only[Ty.w,simprocAttr,Ap,n1,b2,b3,b4,T1,t1,B6,Bf,CU,CV]);rfl) (λhb=>?_) (λhb=>?_)<;>(try simp only[Cz,BP,Cv,simprocAttr]at hb)<;>(try(exfalso;omega)))|(refine hK _ _ ?_;clear hK;(try simp only[Ao,simprocAttr]))));refine Gs (hp _) (by(try simp only[Ty.w,simprocAttr,n1,b2,b3,b4,T1,t1,CV]);try rfl) ?_;simp only[Ty.w,simprocAttr,n1,b2,b3,b4,T1,t1,CV];(repeat'(first|refine cK ?_|(refine nK ?_;try exact zI)|refine Ae λK hK=>?_|((first|refine Nl (by decide+kernel) ?_|refine ES ?_);simp only[Ty.w,simprocAttr,r0,q0,n1,b0,b4,T1,a1,n2,b1,b5,T2,a2])|(refine hK _ _ ?_;clear hK;(try simp only[Ao,simprocAttr]))|(with_reducible refine R8 (by simp only[Bg,Ty.w,simprocAttr,r0,q0,n1,b0,b4,T1,a1,n2,b1,b5,T2,a2]<;>(repeat' apply And.intro)<;>first|trivial|exact .inl (by decide+kernel)) ?_;try simp only[Ty.w,simprocAttr,r0,q0,n1,b0,b4,T1,a1,n2,b1,b5,T2,a2])));exact⟨lA (p:=⟨w,pl,lv,iv⟩) hu,((AC.refl h).new _).set (AD _) _⟩
theorem lD{h:A0}{l:List ByteArray}{s:ByteArray}(hl:l.length<=9223372036854775807):A6 prog 60 [.imm 1 (AN l),A2 s] h λr h'=>r= .sc (.bool (decide (HI l s>=0)))/\h'=h:=by
 have hi:=λh:A0=>RQ (h:=h) (s:=s) hl;generalize HI l s=i at hi⊢;generalize AN l=R at hi⊢;refine AE func60 ntmps60 results60 Ty.UO ?_;refine wt A3 ?_;refine uU A3 (hi _) ?_;refine wm A3 ?_;try exact zI
 all_goals first|rfl|(simp;done)
theorem lE(a b:ByteArray):A1 a b=A1 b a:=by
 unfold A1;exact Bool.beq_comm
theorem Xe(w:ByteArray): ∀ o:List ByteArray,(IK o w=none/\HI o w= -1)\/ ∃ k:Nat,k<o.length/\HI o w=(k:Int)/\IK o w=some (o.drop (k+1))
 |[]=> .inl ⟨rfl,rfl⟩
 |a::o=>by
  unfold HI;rw[List.findIdx?_cons];simp only[IK,lE a w];cases h:A1 w a with
  |true=>exact .inr ⟨0,by simp,by simp,by simp⟩
  |false=>
   simp only[AI];rcases Xe w o with⟨h1,h2⟩|⟨k,h1,h2,h3⟩
   ·left;refine⟨h1,?_⟩;unfold HI at h2;cases h4:o.findIdx? (λv=>A1 w v)with
    |none=>simp
    |some i=>rw[h4]at h2;simp only at h2;omega
   ·right;refine⟨k+1,by simp;omega,?_,by simpa using h3⟩;unfold HI at h2;cases h4:o.findIdx? (λv=>A1 w v)with
    |none=>rw[h4]at h2;simp only at h2;omega
    |some i=>rw[h4]at h2;simp only at h2;simp;omega
theorem Tl.other9{h:A0}{lo z z':Nat}{p q:PV}{R R':List (List PV)}{H:A0}(tp:Tl h lo z p R)(tq:Tl h lo z' q R')(hz:z≠z')(t1:Dc h p=some (H,R))(t3:H.next=h.next):Tl H lo z' q R':=by
 rcases tq with tq|⟨id',a1,a2,rfl,a3⟩
 ·exact .inl tq
 ·refine .inr ⟨id',a1,by omega,rfl,?_⟩;rcases tp with⟨rfl,rfl|rfl⟩|⟨id,b1,b2,rfl,b3⟩
  ·simp only[Dc,Ak,Ar]at t1;rw[← t1.1];exact a3
  ·simp only[Dc,Ak,Ar]at t1;rw[← t1.1];exact a3
  ·have hne:id'≠id:=by
    intro e;subst e;rw[a3]at b3;simp only[Ak,Ab.arr.injEq]at b3;exact hz b3.1.symm
   simp only[Dc,b3]at t1;split at t1
   ·simp only[Ak,Ar]at t1;rw[← t1.1];simp only[A0.kill];rw[A4 hne];exact a3
   ·cases t1
structure OX(h0:A0)(N:List ByteArray)(V:List Sx)(a b:PV)(H:A0):Prop where
 grow:AC h0 H
 ta:Tl H h0.next 1 a (AN N)
 tb:Tl H h0.next 6 b (Sx.rows V)
theorem OX.push{h0 H:A0}{N:List ByteArray}{V:List Sx}{a b:PV}(i:OX h0 N V a b H)(s:ByteArray)(v:Sx): ∃ H1 H3,Dc H a=some (H1,AN N)/\Cw H 1 a=true/\H1.next=H.next/\Dc (H1.new (.arr 1 (AN N++[[A2 s]]))) b=some (H3,Sx.rows V)/\Cw (H1.new (.arr 1 (AN N++[[A2 s]]))) 6 b=true/\H3.next=H.next+1/\
  OX h0 (N++[s]) (V++[v]) (.own H.next 0 (N.length+1)) (.own (H.next+1) 0 (V.length+1)) (H3.new (.arr 6 (Sx.rows V++[v.cells]))):=by
 obtain⟨g,ta,tb⟩:=i;have hle:=g.le;obtain⟨H1,t1,t2,t3,t4,t5⟩:=ta.tail;have k1:=t5 h0 ⟨g.le,g.old⟩ (AD _);have g1:AC h0 (H1.new (.arr 1 (AN N++[[A2 s]]))):=(⟨k1.1,k1.2⟩:AC h0 H1).new _;have tb1:=Tl.other9 ta tb (by decide) t1 t3;have tb2:Tl (H1.new (.arr 1 (AN N++[[A2 s]]))) h0.next 6 b (Sx.rows V):=tb1.up (by simp only[A0.new];omega) λj _ hj=>DS hj
 have ta2:Tl (H1.new (.arr 1 (AN N++[[A2 s]]))) h0.next 1 (.own H.next 0 (N.length+1)) (AN N++[[A2 s]]):=by
  rw[← t3];exact Tl.grow (by omega) (by simp[AN])
 obtain⟨H3,u1,u2,u3,u4,u5⟩:=tb2.tail;have k3:=u5 h0 ⟨g1.le,g1.old⟩ (AD _);have e3:H3.next=H.next+1:=by rw[u3];show H1.next+1=_;rw[t3]
 have ta3:=Tl.other9 tb2 ta2 (by decide) u1 u3;refine⟨H1,H3,t1,t2,t3,u1,u2,e3,(⟨k3.1,k3.2⟩:AC h0 H3).new _,?_,?_⟩
 ·have:AN (N++[s])=AN N++[[A2 s]]:=by simp[AN]
  rw[this];exact ta3.up (by simp only[A0.new];omega) λj _ hj=>DS hj
 ·have:Sx.rows (V++[v])=Sx.rows V++[v.cells]:=by simp[Sx.rows_map]
  rw[this, ← e3];exact Tl.grow (by omega) (by simp[Sx.rows_len])
theorem lF(l:List ByteArray): ∀ r∈AN l, ∀ p∈r, ∃ v,p=PV.sc v:=by
 intro r hr p hp;simp only[AN,Er]at hr;obtain⟨x,_,rfl⟩:=hr;simp only[GV]at hp;exact⟨_,hp⟩
theorem OY{a v:Sx}{rest:List Sx}{kws:List ByteArray}:CE (a::v::rest) kws=(bif Ax a==1 then(match IK kws (Ah a)with
   |some kws'=>((Ah a,v)::(CE rest kws').1,(CE rest kws').2)
   |none=>([],2))else([],2)):=by first|rfl|(rw[CE];try rfl)|simp[CE]
theorem Sq: ∀ (l:List Sx)(kws:List ByteArray), ∀ kv∈(CE l kws).1,kv.2∈l
 |[],_,kv,h=>by simp[CE]at h
 |[_],_,kv,h=>by simp[CE]at h
 |a::v::rest,kws,kv,h=>by
  rw[OY]at h;cases k:Ax a==1 with
  |false=>rw[k]at h;simp at h
  |true=>
   rw[k,AB]at h;cases ha:IK kws (Ah a)with
   |none=>rw[ha]at h;simp at h
   |some k'=>
    rw[ha]at h;simp only[D7]at h;rcases h with rfl|h
    ·simp
    ·have:=Sq rest k' kv h;simp[this]
theorem Sr: ∀ (l:List Sx)(kws:List ByteArray),(CE l kws).1.length<=l.length
 |[],_=>by simp[CE]
 |[_],_=>by simp[CE]
 |a::v::rest,kws=>by
  rw[OY];cases Ax a==1 with
  |false=>simp
  |true=>
   rw[AB];cases IK kws (Ah a)with
   |none=>simp
   |some k'=>
    have:=Sr rest k';simp only[Aw];omega
theorem QR{h H:A0}{F acc:List (ByteArray × Sx)}{c:Int}{a b:PV}{u:PV}(hF:F=acc)(hu:AO c=u)(i:OX h (acc.map (·.1)) (acc.map (·.2)) a b H):AF h.next H (.tup [.imm 1 (AN (F.map (·.1))),.imm 6 (Sx.rows (F.map (·.2))),AO c]) (.tup [a,b,u])/\AC h H:=by
 subst hF;subst hu;obtain⟨u,hu⟩:=Df c;rw[hu];refine⟨?_,i.grow⟩;have h1:=i.ta.frz (lF _);have h2:=Rg i.tb;unfold AF;refine⟨_,rfl,?_⟩;unfold AL;refine⟨h1,?_⟩;unfold AL;refine⟨h2,?_⟩;simp only[AL,AF,KH]
theorem Xf{l:List Sx}{kws:List ByteArray}(hl:l.length<=1048576)(hkl:kws.length<=100)(h:A0):A6 prog 154 [.imm 6 (Sx.rows l),.imm 1 (AN kws)] h λr h'=>
  r= .tup [.imm 1 (AN ((CE l kws).1.map (·.1))),.imm 6 (Sx.rows ((CE l kws).1.map (·.2))),AO (CE l kws).2]/\h'=h:=by
 refine A6.frz Ty.Ui ?_;have hll:=Sx.rows_len l;have hks:(AN kws).length=kws.length:=Gb kws;generalize hF:CE l kws=F;obtain⟨F1,F2⟩:=F;simp only;refine AE func154 ntmps154 results154 Ty.Ui ?_;refine wt hll ?_;refine Cd (λm S H=>S 0= .imm 6 (Sx.rows l)/\S 1= .imm 1 (AN kws)/\ ∃ (i nx:Nat)(a b:PV)(acc:List (ByteArray × Sx)),S 10= .sc (.int .i64 i)/\S 9= .sc (.int .i64 nx)/\S 7=a/\S 8=b/\i<=l.length/\nx<=kws.length/\acc.length<=i/\m=l.length-i/\OX h (acc.map (·.1)) (acc.map (·.2)) a b H/\
  F1=acc++(CE (l.drop i) (kws.drop nx)).1/\F2=(CE (l.drop i) (kws.drop nx)).2) l.length ?_ ?_
 ·simp only[Ty.w,simprocAttr];exact⟨0,0,_,_,[],rfl,rfl,rfl,rfl,Bx _,Bx _,AD _,rfl,⟨AC.refl h,Tl.nil,Tl.nil⟩,by rw[CB,CB,hF];try rfl,by rw[CB,CB,hF]⟩
 clear hF;rintro m S H ⟨s0,s1,i,nx,a,b,acc,s10,s9,s7,s8,hi,hnx,hac,rfl,hI,hF1,hF2⟩;by_cases hlt:i<l.length
 ·have hd:decide ((i:Int)<(l.length:Int))=true:=by simp;omega
  have hdp:((i:Int)<(l.length:Int))=True:=Db (by omega);have w1:IntKind.i64.wrap ((i:Int)+1)=((i+1:Nat):Int):=by rw[Br (by omega) (by omega)];omega
  have w2:IntKind.i64.wrap ((i:Int)+2)=((i+2:Nat):Int):=by rw[Br (by omega) (by omega)];omega
  obtain⟨x,hx⟩: ∃ x,l[i]? =some x:=⟨_,AU hlt⟩;have hr:=Sx.rows_get hx;have hw:=λh:A0=>OO (x:=x) h;have hix:=λh:A0=>RQ (h:=h) (l:=kws.drop nx) (s:=Ah x) (by rw[KC];omega);have hai:=Xe (Ah x) (kws.drop nx);have htk:List.take ((kws.length:Int)-(nx:Int)).toNat (List.drop nx (AN kws))=AN (kws.drop nx):=by
   simp only[AN,List.map_drop];rw[DQ];rw[KC,E4];omega
  have T1:(nx:Int).toNat=nx:=MJ nx;have T2:(i:Int).toNat=i:=MJ i;have b1:(nx:Int)<=(kws.length:Int):=by omega
  have b0:(0:Int)<=(nx:Int):=by omega
  have b2:(0:Int)<=(i:Int):=by omega
  have hdr:=Cm hx
  -- what stands behind the keyword
  have bad: ∀ {A B:List (ByteArray × Sx)},CE (l.drop i) (kws.drop nx)=([],2)->F1=acc/\F2=2:=λe=>by
   rw[e]at hF1 hF2;simp only[J5]at hF1;exact⟨hF1,hF2⟩
  cases k1:(Ax x==1)with
  |false=>
   have e:CE (l.drop i) (kws.drop nx)=([],2):=by
    rw[hdr];cases l.drop (i+1)with
    |nil=>rfl
    |cons v rest=>rw[OY,k1];try rfl
   obtain⟨e1,e2⟩:=bad (A:=[]) (B:=[]) e;rw[k1]at hw;subst e2;clear hix hai hF1 hF2 hdr;obtain⟨xk,xv,xl,xc,xt,xs⟩:=x;simp only[Sx.cells]at hr hw;replace zz:=B7 s0 s1 s7 s8 s9 s10 hll hd hdp hr;refine wt zz ?_;replace zz:=BK s0 s1 s7 s8 s9 s10 hll hdp hr;refine uU zz (hw _) ?_;replace zz:=Aq s0 s1 s7 s8 s9 s10;refine wt zz ?_;exact QR (c:=2) e1 rfl hI
  |true=>
   rw[k1]at hw;rcases hai with⟨ha1,ha2⟩|⟨k,hkk,ha2,ha3⟩
   ·have e:CE (l.drop i) (kws.drop nx)=([],2):=by
     rw[hdr];cases l.drop (i+1)with
     |nil=>rfl
     |cons v rest=>rw[OY,k1,ha1];try rfl
    obtain⟨e1,e2⟩:=bad (A:=[]) (B:=[]) e;rw[ha2]at hix;subst e2;clear hF1 hF2 hdr;obtain⟨xk,xv,xl,xc,xt,xs⟩:=x;simp only[Sx.cells,Ah]at hr hw hix;replace zz:=B7 s0 s1 s7 s8 s9 s10 hll hd hdp hr;refine wt zz ?_;replace zz:=BK s0 s1 s7 s8 s9 s10 hll hdp hr;refine uU zz (hw _) ?_;repeat'(first|refine cK ?_|(refine nK ?_;try exact zI)|(refine Nl (by decide+kernel) ?_;simp only[Ty.w,simprocAttr,s0,s1,s7,s8,s9,s10,hll,hks,hdp,hr,htk,T1,b0,b1,B6,Bf,CU,CV])|(refine EI _ (by(try simp only[Ty.w,simprocAttr,s0,s1,s7,s8,s9,s10,hll,hks,hdp,hr,htk,T1,b0,b1,B6,Bf,CU,CV]);rfl) (λhb=>?_) (λhb=>?_)<;>(try simp only[Cz,BP,Cv,simprocAttr]at hb)<;>(try(exfalso;omega)))|(refine hK _ _ ?_;clear hK;(try simp only[Ao,simprocAttr])))
    (first|refine Mb (hix _) (by(try simp only[Ty.w,simprocAttr,s0,s1,s7,s8,s9,s10,hll,hks,hdp,hr,htk,T1,b0,b1,B6,Bf,CU,CV]);try rfl) ?_|refine If (hix _) (by(try simp only[Ty.w,simprocAttr,s0,s1,s7,s8,s9,s10,hll,hks,hdp,hr,htk,T1,b0,b1,B6,Bf,CU,CV]);try rfl) (by simp only[Ty.w,simprocAttr,s0,s1,s7,s8,s9,s10,hll,hks,hdp,hr,htk,T1,b0,b1,B6,Bf,CU,CV];try trivial) ?_);simp only[Ty.w,simprocAttr,B6,s0,s1,s7,s8,s9,s10,hll,hks,hdp,hr,htk,T1,b0,b1,B6,Bf,CU,CV]
    replace zz:=Aq s0 s1 s7 s8 s9 s10;refine wy zz ?_;exact QR (c:=2) e1 rfl hI
   ·rw [ha2]at hix;have z0:decide ((k:Int)<0)=false:=(by simp);by_cases hl2:i+1<l.length
    ·have q4:decide (((i+1:Nat):Int)>=(l.length:Int))=false:=(by simp;omega);have q5:(((i+1:Nat):Int)<(l.length:Int))=True:=Db (by omega);have T3:((i+1:Nat):Int).toNat=i+1:=MJ (i+1);have b3:(0:Int)<=((i+1:Nat):Int):=(by omega);have w3:IntKind.i64.wrap ((k:Int)+1)=((k+1:Nat):Int):=(by rw[KC]at hkk;rw[Br (by omega) (by omega)];omega);have w4:IntKind.i64.wrap ((nx:Int)+((k+1:Nat):Int))=((nx+(k+1):Nat):Int):=(by rw[KC]at hkk;rw[Br (by omega) (by omega)];omega);obtain⟨v,hv⟩: ∃ v,l[i+1]? =some v:=⟨_,AU hl2⟩;have hrv:=Sx.rows_get hv;have e:CE (l.drop i) (kws.drop nx)=((Ah x,v)::(CE (l.drop (i+2)) (kws.drop (nx+(k+1)))).1,(CE (l.drop (i+2)) (kws.drop (nx+(k+1)))).2):=by
      rw[hdr,Cm hv,OY,k1,ha3,T6];try rfl
     rw[e]at hF1 hF2;simp only at hF1 hF2;obtain⟨H1,H3,t1,t2,t3,u1,u2,u3,hI2⟩:=hI.push (Ah x) v;have hN:(AN (acc.map (·.1))).length=acc.length:=(by rw[Gb,E4]);have hV:(Sx.rows (acc.map (·.2))).length=acc.length:=(by rw[Sx.rows_len,E4]);have bb1:(acc.length+1)*16<=140737488355328:=(by omega);have bb2:(acc.length+1)*72<=140737488355328:=(by omega);have ln1:(acc.map (·.1)).length=acc.length:=E4 ..;have ln2:(acc.map (·.2)).length=acc.length:=E4 ..;rw[ln1,ln2]at hI2;have hac2:acc++(Ah x,v)::(CE (l.drop (i+2)) (kws.drop (nx+(k+1)))).1=(acc++[(Ah x,v)])++(CE (l.drop (i+2)) (kws.drop (nx+(k+1)))).1:=(by simp);rw[hac2]at hF1;have hm1:(acc++[(Ah x,v)]).map (·.1)=acc.map (·.1)++[Ah x]:=(by simp);have hm2:(acc++[(Ah x,v)]).map (·.2)=acc.map (·.2)++[v]:=(by simp);rw[← hm1, ← hm2]at hI2;have hal:(acc++[(Ah x,v)]).length=acc.length+1:=(by simp);generalize acc++[(Ah x,v)]=acc2 at hI2 hF1 hal;clear hac2 hm1 hm2 hdr e hx hv bad hI ln1 ln2;rw[KC]at hkk;obtain⟨xk,xv,xl,xc,xt,xs⟩:=x;obtain⟨yk,yv,yl,yc,yt,ys⟩:=v;simp only[Sx.cells,Ah]at hr hw hix hrv t1 t2 t3 u1 u2 u3 hI2;replace zz:=B7 s0 s1 s7 s8 s9 s10 hll hd hdp hr;refine wt zz ?_;replace zz:=BK s0 s1 s7 s8 s9 s10 hll hdp hr;refine uU zz (hw _) ?_;repeat'(first|refine cK ?_|(refine nK ?_;try exact zI)|(refine Nl (by decide+kernel) ?_;simp only[Ty.w,simprocAttr,s0,s1,s7,s8,s9,s10,hll,hks,hdp,hr,htk,T1,b0,b1,B6,Bf,CU,CV])|(refine EI _ (by(try simp only[Ty.w,simprocAttr,s0,s1,s7,s8,s9,s10,hll,hks,hdp,hr,htk,T1,b0,b1,B6,Bf,CU,CV]);rfl) (λhb=>?_) (λhb=>?_)<;>(try simp only[Cz,BP,Cv,simprocAttr]at hb)<;>(try(exfalso;omega)))|(refine hK _ _ ?_;clear hK;(try simp only[Ao,simprocAttr])))
     (first|refine Mb (hix _) (by(try simp only[Ty.w,simprocAttr,s0,s1,s7,s8,s9,s10,hll,hks,hdp,hr,htk,T1,b0,b1,B6,Bf,CU,CV]);try rfl) ?_|refine If (hix _) (by(try simp only[Ty.w,simprocAttr,s0,s1,s7,s8,s9,s10,hll,hks,hdp,hr,htk,T1,b0,b1,B6,Bf,CU,CV]);try rfl) (by simp only[Ty.w,simprocAttr,s0,s1,s7,s8,s9,s10,hll,hks,hdp,hr,htk,T1,b0,b1,B6,Bf,CU,CV];try trivial) ?_);simp only[Ty.w,simprocAttr,B6,s0,s1,s7,s8,s9,s10,hll,hks,hdp,hr,htk,T1,b0,b1,B6,Bf,CU,CV]
     (repeat'(first|refine cK ?_|(refine nK ?_;try exact zI)|refine Ae λK hK=>?_|((first|refine BZ ?_|refine UG (by decide+kernel) (λK hK=>?_));simp only[Ty.w,simprocAttr,s0,s1,s7,s8,s9,s10,hll,z0,w1,w2,w3,w4,q4,q5,hdp,hr,hrv,T3,b3,t1,t2,t3,u1,u2,u3,hN,hV,bb1,bb2])|(refine GZ ?_;(try simp only[Ao,simprocAttr]))|(refine EI _ (by(try simp only[Ty.w,simprocAttr,s0,s1,s7,s8,s9,s10,hll,z0,w1,w2,w3,w4,q4,q5,hdp,hr,hrv,T3,b3,t1,t2,t3,u1,u2,u3,hN,hV,bb1,bb2]);rfl) (λhb=>?_) (λhb=>?_)<;>(try simp only[Cz,BP,Cv,simprocAttr]at hb)<;>(try(exfalso;omega)))|(refine hK _ _ ?_;clear hK;(try simp only[Ao,simprocAttr]))|(with_reducible refine R8 (by simp only[Bg,Ty.w,simprocAttr,s0,s1,s7,s8,s9,s10,hll,z0,w1,w2,w3,w4,q4,q5,hdp,hr,hrv,T3,b3,t1,t2,t3,u1,u2,u3,hN,hV,bb1,bb2]<;>(repeat' apply And.intro)<;>first|trivial|exact .inl (by decide+kernel)) ?_;try simp only[Ty.w,simprocAttr,s0,s1,s7,s8,s9,s10,hll,z0,w1,w2,w3,w4,q4,q5,hdp,hr,hrv,T3,b3,t1,t2,t3,u1,u2,u3,hN,hV,bb1,bb2])));exact⟨l.length-(i+2),by omega,i+2,nx+(k+1),_,_,acc2,rfl,rfl,rfl,rfl,by omega,by omega,by omega,rfl,hI2,hF1,hF2⟩
    ·have q4:decide (((i+1:Nat):Int)>=(l.length:Int))=true:=(by simp;omega);have e:CE (l.drop i) (kws.drop nx)=([],2):=by
      rw[hdr,D3 (by omega)];try rfl
     obtain⟨e1,e2⟩:=bad (A:=[]) (B:=[]) e;subst e2;clear hF1 hF2 hdr;obtain⟨xk,xv,xl,xc,xt,xs⟩:=x;simp only[Sx.cells,Ah]at hr hw hix;replace zz:=B7 s0 s1 s7 s8 s9 s10 hll hd hdp hr;refine wt zz ?_;replace zz:=BK s0 s1 s7 s8 s9 s10 hll hdp hr;refine uU zz (hw _) ?_;repeat'(first|refine cK ?_|(refine nK ?_;try exact zI)|(refine Nl (by decide+kernel) ?_;simp only[Ty.w,simprocAttr,s0,s1,s7,s8,s9,s10,hll,hks,hdp,hr,htk,T1,b0,b1,B6,Bf,CU,CV])|(refine EI _ (by(try simp only[Ty.w,simprocAttr,s0,s1,s7,s8,s9,s10,hll,hks,hdp,hr,htk,T1,b0,b1,B6,Bf,CU,CV]);rfl) (λhb=>?_) (λhb=>?_)<;>(try simp only[Cz,BP,Cv,simprocAttr]at hb)<;>(try(exfalso;omega)))|(refine hK _ _ ?_;clear hK;(try simp only[Ao,simprocAttr])))
     (first|refine Mb (hix _) (by(try simp only[Ty.w,simprocAttr,s0,s1,s7,s8,s9,s10,hll,hks,hdp,hr,htk,T1,b0,b1,B6,Bf,CU,CV]);try rfl) ?_|refine If (hix _) (by(try simp only[Ty.w,simprocAttr,s0,s1,s7,s8,s9,s10,hll,hks,hdp,hr,htk,T1,b0,b1,B6,Bf,CU,CV]);try rfl) (by simp only[Ty.w,simprocAttr,s0,s1,s7,s8,s9,s10,hll,hks,hdp,hr,htk,T1,b0,b1,B6,Bf,CU,CV];try trivial) ?_);simp only[Ty.w,simprocAttr,B6,s0,s1,s7,s8,s9,s10,hll,hks,hdp,hr,htk,T1,b0,b1,B6,Bf,CU,CV]
     replace zz:=B7 s0 s1 s7 s8 s9 s10 hll z0 w1 q4;refine wy zz ?_;exact QR (c:=2) e1 rfl hI
 ·have hd:decide ((i:Int)<(l.length:Int))=false:=by simp;omega
  rw[D3 (by omega)]at hF1 hF2;have e0:CE [] (kws.drop nx)=([],0):=rfl;rw[e0]at hF1 hF2;simp only[J5]at hF1 hF2;subst hF2;replace zz:=BO s0 s1 s7 s8 s9 s10 hll hd;refine wt zz ?_;exact QR (c:=0) hF1 rfl hI
def BR(z:Nat)(rows:List (List PV))(q:PV):Prop:=q= .imm z rows\/(rows=[]/\q= .sc (.slice none 0 0))
theorem BR.cell{z:Nat}{rows:List (List PV)}{q:PV}(h:BR z rows q):q.cells=[q]/\CW q=true:=by
 rcases h with rfl|⟨_,rfl⟩<;>exact⟨rfl,rfl⟩
theorem BR.frz{z n:Nat}{rows:List (List PV)}{q:PV}(h:BR z rows q)(H:A0)(hin:B1 n rows):AF n H (.imm z rows) q:=by
 rcases h with rfl|⟨rfl,rfl⟩
 ·exact Js hin
 ·simp only[AF];exact .inr (.inl ⟨trivial,.inr A3⟩)
theorem Xg{x:Sx}(h:((De x).2==0)=true): ∃ a n rest,CA x=a::n::rest:=by
 unfold De at h;cases hk:CA x with
 |nil=>rw[hk]at h;simp at h
 |cons a l=>
  cases l with
  |nil=>rw[hk]at h;simp at h
  |cons n rest=>exact⟨a,n,rest,rfl⟩
abbrev lG:List PV:=[.sc (.string ⟨#[]⟩),.sc (.slice none 0 0),.sc (.int .i64 0),.sc (.string ⟨#[]⟩),.sc (.string ⟨#[]⟩),.sc (.slice none 0 0),.sc (.slice none 0 0),.sc (.slice none 0 0),.sc (.slice none 0 0),.sc (.slice none 0 0)]
structure HB(h:A0)(a:Ac)(H:A0):Prop where
 grow:AC h H
 lt:h.next+1<H.next
 ores:H.obj h.next=some (.arr 10 [lG])
 ex: ∃ P C0 gop gna gar gpa gex gki,a.pre= .mk gop gna gar gpa gex gki/\H.obj (h.next+1)=some (.arr 10 [[A2 a.name,P,.sc (.int .i64 a.cost),A2 gop,A2 gna,.imm 1 (AN gar),.imm 2 (A7 gpa),.imm 5 (Ex.rows gex),.imm 6 (Fm.rows gki),C0]])/\BR 2 (A7 a.params) P/\BR 15 (Al a.changes) C0
theorem HB.tmp{h H:A0}{a:Ac}(i:HB h a H)(o o':Ab):HB h a (Ge H o o'):=by
 obtain⟨g,lt,o1,P,C0,gop,gna,gar,gpa,gex,gki,e0,eo,eP,eC0⟩:=i;exact⟨g.tmp o o',by rw[HL];omega,by rw[Gx (by omega)];exact o1,P,C0,gop,gna,gar,gpa,gex,gki,e0,by rw[Gx (by omega)];exact eo,eP,eC0⟩
theorem HB.upd{h H:A0}{a a':Ac}(i:HB h a H){P C0:PV}{gop gna:ByteArray}{gar:List ByteArray}{gpa:List Pm}{gex:List Ex}{gki:List Fm}(e0:a'.pre= .mk gop gna gar gpa gex gki)(eP:BR 2 (A7 a'.params) P)(eC0:BR 15 (Al a'.changes) C0):
  HB h a' (H.set (h.next+1) (.arr 10 [[A2 a'.name,P,.sc (.int .i64 a'.cost),A2 gop,A2 gna,.imm 1 (AN gar),.imm 2 (A7 gpa),.imm 5 (Ex.rows gex),.imm 6 (Fm.rows gki),C0]])):=by
 obtain⟨g,lt,o1,_⟩:=i;exact⟨g.set (by omega) _,lt,(Av (by omega)).trans o1,P,C0,gop,gna,gar,gpa,gex,gki,e0,Cy,eP,eC0⟩
theorem HB.fin{h H:A0}{X:Ab}{a:Ac}{F:Ac × Int}{c:Int}{u:PV}(hF:F=(a,c))(hu:AO c=u)(g:AC h H){P C0:PV}{gop gna:ByteArray}{gar:List ByteArray}{gpa:List Pm}{gex:List Ex}{gki:List Fm}(e0:a.pre= .mk gop gna gar gpa gex gki)(eP:BR 2 (A7 a.params) P)(eC0:BR 15 (Al a.changes) C0):
  AF h.next (H.set h.next X) (.tup [.agg (FG F.1),AO F.2]) (.tup [.agg [A2 a.name,P,.sc (.int .i64 a.cost),A2 gop,A2 gna,.imm 1 (AN gar),.imm 2 (A7 gpa),.imm 5 (Ex.rows gex),.imm 6 (Fm.rows gki),C0],u])/\AC h (H.set h.next X):=by
 subst hF;subst hu;refine⟨?_,g.set (AD _) _⟩;obtain⟨u,hu⟩:=Df c;rw[hu];obtain⟨an,ap,ac,apre,achanges⟩:=a;simp only at e0 eP eC0;subst e0;skip;simp only[FG,Fm.cells,C3,Au];have hP:=eP.frz (n:=h.next) (H.set h.next X) (Bu _ _);have hC0:=eC0.frz (n:=h.next) (H.set h.next X) (Gi _ _);unfold AF;refine⟨_,rfl,?_⟩;unfold AL;refine⟨?_,by simp only[AL,AF,KH]⟩;unfold AF;refine⟨_,rfl,?_⟩;unfold AL;refine⟨BX,?_⟩;unfold AL;refine⟨hP,?_⟩;unfold AL;refine⟨BX,?_⟩;unfold AL;refine⟨BX,?_⟩;unfold AL;refine⟨BX,?_⟩;unfold AL;refine⟨B3 (DO _ _),?_⟩;unfold AL;refine⟨B3 (Bu _ _),?_⟩;unfold AL;refine⟨B3 (Dq _ _),?_⟩;unfold AL;refine⟨B3 (EO _ _),?_⟩;unfold AL;refine⟨hC0,?_⟩;simp only[AL]
def Ss(lc:Int)(r:Ac × Int):Ac × Int:=bif r.2==0 then(r.1,lc)else r
theorem lH(a:Ac)(kw:ByteArray)(v:Sx)(l:List (ByteArray × Sx)):H5 a ((kw,v)::l)=bif (EC a kw v).2==0 then H5 (EC a kw v).1 l else EC a kw v:=rfl
theorem lI{x:Sx}(hok:x.ok)(hsm:x.small)(h:A0):A6 prog 121 [.agg x.cells] h λr h'=>r= .tup [.agg (FG (H6 x).1),AO (H6 x).2]/\h'=h:=by
 refine A6.frz Ty.UZ ?_;have hH:=λh:A0=>Xc hok h;have hlen:= @Xg x;generalize hF:H6 x=F;unfold H6 at hF;generalize De x=HD at hF hH hlen;obtain⟨na,hc⟩:=HD;simp only at hF hH hlen;obtain⟨kind,value,line,col,text,kids⟩:=x;simp only[CA]at hF hlen;simp only[Sx.cells]at hH⊢;simp only[Sx.ok]at hok;simp only[Sx.small]at hsm;have hko:=Sx.oks_iff.1 hok.2.2.2.2;have hkm:=Sx.smalls_iff.1 hsm.2;have hkl:=hsm.1;have hrl:=Sx.rows_len kids
 clear hok hsm;have hal:=λh:A0=>Ks (h:=h);simp only[Bv,Fm.cells]at hal;generalize hR:Sx.rows kids=R at hH hrl⊢;refine AE func121 ntmps121 results121 Ty.UZ ?_;refine wt A3 ?_;refine uU A3 (hal _) ?_;refine xG 2 @B2 ?_;refine⟨?_⟩;refine Cj (λS H=>S 1= .cptr [.sc (.int .i64 kind),.sc (.int .i64 value),.sc (.int .i64 line),.sc (.int .i64 col),A2 text,.imm 6 R]/\S 2= .ptr h.next 0 0/\S 4= .ptr (h.next+1) 0 0/\HB h (ED ⟨#[]⟩) H) ?_ ?_
 ·refine ⟨sq A3,sq A3,sq A3,(((AC.refl h).new _).new _).set (by omega) _,by simp only[A0.set,A0.new];omega,?_,_,_,_,_,_,_,_,_,rfl,Cy,.inr ⟨rfl,rfl⟩,.inr ⟨rfl,rfl⟩⟩;rw[Av (by omega),DS (by simp only[A0.new];omega)];simp only[A0.new,AH]
 clear hal;rintro S H ⟨s1,s2,s4,hI⟩;have hS:=λ{P C0:PV}{gop gna:ByteArray}{gar:List ByteArray}{gpa:List Pm}{gex:List Ex}{gki:List Fm}(e0:(ED na).pre= .mk gop gna gar gpa gex gki)(eP:BR 2 (A7 (ED na).params) P)(eC0:BR 15 (Al (ED na).changes) C0)=>hI.upd (a':=ED na) e0 eP eC0;obtain⟨g,lt,o1,P,C0,gop,gna,gar,gpa,gex,gki,e0,eo,eP,eC0⟩:=hI;have hS:=hS (by exact e0) eP eC0;simp only[ED]at eo;have cP:=eP.cell;have cC0:=eC0.cell;have n1:(h.next=h.next+1)=False:=B4 (by omega);cases hcc:hc==0 with
 |false=>
  have er:AO hc=Aj hc:=by simp only[AO,hcc,AI]
  rw[hcc]at hF;simp only[AI]at hF;rw[er]at hH;simp only[Aj]at hH;refine wt (AV s1 s2 s4) ?_;replace zz:=Aa s1 s2 s4 eo;refine uU zz (hH _) ?_;replace zz:=Ag s2 s4 eo o1 n1 cP cC0;refine wt zz ?_;exact HB.fin (a:=ED na) hF.symm er (g.set (by omega) _) (by exact e0) eP eC0
 |true=>
  have er:AO hc= .sc .nilIface:=by simp only[AO,hcc,AB]
  rw[hcc]at hF;simp only[AB]at hF;rw[er]at hH;obtain⟨ka,kn,rest,rfl⟩:=hlen hcc;simp only[GW,CB]at hF;have hpt:=λh:A0=>Xf (l:=rest) (kws:=IT) (by simp only[Aw]at hkl;omega) (by decide) h;have hpm:=Sq rest IT;have hpl:=Sr rest IT;have q2:(2:Int)<=(R.length:Int):=by rw[hrl];simp only[Aw];omega
  have ht:List.take ((R.length:Int)-2).toNat (List.drop 2 R)=Sx.rows rest:=by
   rw[← hR];simp only[Sx.rows,GW,CB,Aw];rw[DQ (by omega)]
  generalize CE rest IT=PS at hF hpt hpm hpl;obtain⟨ps,lc⟩:=PS;simp only at hF hpt hpm hpl;change Ss lc (H5 (ED na) ps)=F at hF;obtain⟨lu,hlu⟩:=Df lc;rw[hlu]at hpt;have hpl2:ps.length<=1048576:=by simp only[Aw]at hkl;omega
  have hrlN:(AN (ps.map (·.1))).length=ps.length:=by rw[Gb,E4]
  have hrlV:(Sx.rows (ps.map (·.2))).length=ps.length:=by rw[Sx.rows_len,E4]
  have hvo: ∀ kv∈ps,kv.2.ok/\kv.2.small:=λkv hkv=>⟨hko _ (by simp[hpm kv hkv]),hkm _ (by simp[hpm kv hkv])⟩
  clear hpm hpl hko hkm hkl hR hrl hlen;refine wt (AV s1 s2 s4) ?_;replace zz:=Aa s1 s2 s4 eo;refine uU zz (hH _) ?_;replace zz:=BO s1 s2 s4 eo q2 ht @CU @CV;refine wt zz ?_;replace zz:=As s1 s2 s4 q2 ht;refine uU zz (hpt _) ?_;refine xG 7 (AV s1 s2 s4) ?_;refine⟨?_⟩;refine Cj (λS H=>S 2= .ptr h.next 0 0/\S 4= .ptr (h.next+1) 0 0/\S 6= .imm 1 (AN (ps.map (·.1)))/\S 7= .imm 6 (Sx.rows (ps.map (·.2)))/\S 8= .sc lu/\HB h (ED na) H) ⟨sq s2,sq s4,sq A3,sq A3,sq A3,hS⟩ ?_
  clear s1 s2 s4 hS hH hpt ht q2;rintro S H ⟨s2,s4,s6,s7,s8,hI⟩;refine wt (uu s7 hrlV) ?_;refine Cd (λm S H=>S 2= .ptr h.next 0 0/\S 4= .ptr (h.next+1) 0 0/\S 6= .imm 1 (AN (ps.map (·.1)))/\S 32= .imm 6 (Sx.rows (ps.map (·.2)))/\S 8= .sc lu/\S 33= .sc (.int .i64 ps.length)/\ ∃ (k:Nat)(a:Ac),S 34= .sc (.int .i64 k)/\k<=ps.length/\m=ps.length-k/\HB h a H/\F=Ss lc (H5 a (ps.drop k))) ps.length ?_ ?_
  ·simp only[Ty.w,simprocAttr,s2,s4,s6,s8];exact⟨0,_,rfl,Bx _,rfl,hI,by rw[CB];exact hF.symm⟩
  clear s2 s4 s6 s7 s8 hI hF S H;rintro m S H ⟨s2,s4,s6,sV,s8,sL,k,a,sI,hk,rfl,hI,hF⟩;by_cases hlt:k<ps.length
  ·have hd:decide ((k:Int)<(ps.length:Int))=true:=(by simp;omega);have w7:IntKind.i64.wrap ((k:Int)+1)=((k+1:Nat):Int):=(by rw[Br (by omega) (by omega)];omega);obtain⟨⟨kw,v⟩,hx⟩: ∃ x,ps[k]? =some x:=⟨_,AU hlt⟩;have hrk:(AN (ps.map (·.1)))[k]? =some [A2 kw]:=KW (by rw[IY,hx];try rfl);have hrv:(Sx.rows (ps.map (·.2)))[k]? =some v.cells:=Sx.rows_get (by rw[IY,hx];try rfl);obtain⟨hvok,hvsm⟩:=hvo _ (C7 hx);simp only at hvok hvsm;rw[Cm hx,lH]at hF;clear hx;obtain⟨vk,vv,vl,vc,vt,vs⟩:=v;simp only[Sx.cells]at hrv;replace zz:=BK s2 s4 s6 s8 sV sL sI hd hrv;refine xH 10 zz ?_;refine⟨?_⟩;refine Gy 10 rfl (sq A3) (λn H=>FZ n H (.mk vk vv vl vc vt vs)) ?_;refine Cj (λS H=>S 2= .ptr h.next 0 0/\S 4= .ptr (h.next+1) 0 0/\S 6= .imm 1 (AN (ps.map (·.1)))/\S 32= .imm 6 (Sx.rows (ps.map (·.2)))/\S 8= .sc lu/\S 33= .sc (.int .i64 ps.length)/\S 34= .sc (.int .i64 k)/\S 9= .sc (.int .i64 k)/\S 10= .cptr [.sc (.int .i64 vk),.sc (.int .i64 vv),.sc (.int .i64 vl),.sc (.int .i64 vc),A2 vt,.imm 6 (Sx.rows vs)]/\HB h a H) ⟨sq s2,sq s4,sq s6,sq sV,sq s8,sq sL,sq sI,sq A3,by simp only[Ty.w,simprocAttr,Sx.cells],hI.tmp _ _⟩ ?_;clear s2 s4 s6 s8 sV sL sI hd hrv hI;rintro S H ⟨s2,s4,s6,sV,s8,sL,sI,s9,s10,hI⟩;refine DA (λS H=>S 2= .ptr h.next 0 0/\S 4= .ptr (h.next+1) 0 0/\S 6= .imm 1 (AN (ps.map (·.1)))/\S 32= .imm 6 (Sx.rows (ps.map (·.2)))/\S 8= .sc lu/\S 33= .sc (.int .i64 ps.length)/\S 34= .sc (.int .i64 k)/\S 5=AO (EC a kw (.mk vk vv vl vc vt vs)).2/\HB h (EC a kw (.mk vk vv vl vc vt vs)).1 H) ?_ ?_
   ·clear hF hvo;have b0:(0:Int)<=(k:Int):=(by omega);have T1:(k:Int).toNat=k:=MJ k;have bl:((k:Int)<(ps.length:Int))=True:=Db (by omega);cases q0:(kw.data.toList==(#[58,112,97,114,97,109,101,116,101,114,115]:Array UInt8).toList)with
    |true=>
     have e:EC a kw (.mk vk vv vl vc vt vs)=({a with params:=(G9 (.mk vk vv vl vc vt vs)).1},(G9 (.mk vk vv vl vc vt vs)).2):=(by unfold EC;simp only[show A1 kw Cb=true from q0,AB,AI]);rw[e];have hc1:=λh:A0=>Xb (x:=(.mk vk vv vl vc vt vs)) hvok hvsm h;generalize G9 (.mk vk vv vl vc vt vs)=L at hc1;obtain⟨l,c⟩:=L;obtain⟨u,hu⟩:=Df c;simp only[Sx.cells,hu]at hc1⊢;have hS:=λ{P C0:PV}{gop gna:ByteArray}{gar:List ByteArray}{gpa:List Pm}{gex:List Ex}{gki:List Fm}(e0:({a with params:=l}).pre= .mk gop gna gar gpa gex gki)(eP:BR 2 (A7 ({a with params:=l}).params) P)(eC0:BR 15 (Al ({a with params:=l}).changes) C0)=>hI.upd (a':={a with params:=l}) e0 eP eC0;obtain⟨g,lt,o1,P,C0,gop,gna,gar,gpa,gex,gki,e0,eo,eP,eC0⟩:=hI;have hS:=hS (by exact e0) (.inl rfl) eC0;(repeat'(first|refine cK ?_|(refine nK ?_;try exact zI)|refine Ae λK hK=>?_|(refine Ca ?_)|((first|refine BZ ?_|refine FD (λK hK=>?_));simp only[Ty.w,simprocAttr,s2,s4,s6,s9,s10,hrk,b0,T1,bl,hrlN,q0])|(refine hK _ _ ?_;clear hK;(try simp only[Ao,simprocAttr]))));replace zz:=Ag s2 s4 s6 s8 s9 s10 eo;refine uU zz (hc1 _) ?_;replace zz:=BO s2 s4 s6 s8 sV sL sI eo;(repeat'(first|refine cK ?_|refine nK ?_|(refine uN hK ?_;clear hK)|apply zI));exact⟨sq s2,sq s4,sq s6,sq sV,sq s8,sq sL,sq sI,sq A3,hS⟩
    |false=>
     cases q1:(kw.data.toList==(#[58,99,111,115,116]:Array UInt8).toList)with
     |true=>
      have hc1:=λh:A0=>Xa (x:=(.mk vk vv vl vc vt vs)) h;have e:EC a kw (.mk vk vv vl vc vt vs)=({a with cost:=(F8 (.mk vk vv vl vc vt vs)).1},bif (F8 (.mk vk vv vl vc vt vs)).2==0 then(bif decide ((F8 (.mk vk vv vl vc vt vs)).1<0)then 1 else 0)else(F8 (.mk vk vv vl vc vt vs)).2):=(by unfold EC;simp only[show A1 kw Cb=false from q0,show A1 kw Fs=true from q1,AB,AI]);rw[e];clear e;generalize F8 (.mk vk vv vl vc vt vs)=L at hc1;obtain⟨n,c⟩:=L;simp only[Sx.cells]at hc1⊢;have hS:=λ{P C0:PV}{gop gna:ByteArray}{gar:List ByteArray}{gpa:List Pm}{gex:List Ex}{gki:List Fm}(e0:({a with cost:=n}).pre= .mk gop gna gar gpa gex gki)(eP:BR 2 (A7 ({a with cost:=n}).params) P)(eC0:BR 15 (Al ({a with cost:=n}).changes) C0)=>hI.upd (a':={a with cost:=n}) e0 eP eC0;obtain⟨g,lt,o1,P,C0,gop,gna,gar,gpa,gex,gki,e0,eo,eP,eC0⟩:=hI;have hS:=hS (by exact e0) eP eC0;cases hc2:c==0 with
      |false=>
       have er:AO c=Aj c:=(by simp only[AO,hc2,AI]);rw[er]at hc1;simp only[AI,er,Aj]at hc1⊢;(repeat'(first|refine cK ?_|(refine nK ?_;try exact zI)|refine Ae λK hK=>?_|(refine BZ ?_;simp only[Ty.w,simprocAttr,s2,s4,s6,s9,s10,hrk,b0,T1,bl,hrlN,q0,q1])|(refine hK _ _ ?_;clear hK;(try simp only[Ao,simprocAttr]))));replace zz:=Ag s2 s4 s6 s8 s9 s10 eo;refine uU zz (hc1 _) ?_;replace zz:=BO s2 s4 s6 s8 sV sL sI eo;(repeat'(first|refine cK ?_|refine nK ?_|refine Ae λK hK=>?_|refine Ca ?_|refine uR zz ?_|refine uK ?_|(refine uN hK ?_;clear hK)|apply zI));exact⟨sq s2,sq s4,sq s6,sq sV,sq s8,sq sL,sq sI,sq A3,hS⟩
      |true=>
       have er:AO c= .sc .nilIface:=(by simp only[AO,hc2,AB]);rw[er]at hc1;simp only[AB];cases hn:decide (n<0)with
       |true=>
        have e1:AO 1=Aj 1:=rfl;simp only[AB,e1,Aj];(repeat'(first|refine cK ?_|(refine nK ?_;try exact zI)|refine Ae λK hK=>?_|(refine BZ ?_;simp only[Ty.w,simprocAttr,s2,s4,s6,s9,s10,hrk,b0,T1,bl,hrlN,q0,q1])|(refine hK _ _ ?_;clear hK;(try simp only[Ao,simprocAttr]))));replace zz:=Ag s2 s4 s6 s8 s9 s10 eo;refine uU zz (hc1 _) ?_;replace zz:=BK s2 s4 s6 s8 sV sL sI eo hn;(repeat'(first|refine cK ?_|refine nK ?_|refine Ae λK hK=>?_|refine Ca ?_|refine uR zz ?_|refine uQ zz λK hK=>?_|(refine uN hK ?_;clear hK)|apply zI));exact⟨sq s2,sq s4,sq s6,sq sV,sq s8,sq sL,sq sI,sq A3,hS⟩
       |false=>
        have e1:AO 0= .sc .nilIface:=rfl;simp only[AI,e1];(repeat'(first|refine cK ?_|(refine nK ?_;try exact zI)|refine Ae λK hK=>?_|(refine BZ ?_;simp only[Ty.w,simprocAttr,s2,s4,s6,s9,s10,hrk,b0,T1,bl,hrlN,q0,q1])|(refine hK _ _ ?_;clear hK;(try simp only[Ao,simprocAttr]))));replace zz:=Ag s2 s4 s6 s8 s9 s10 eo;refine uU zz (hc1 _) ?_;replace zz:=BK s2 s4 s6 s8 sV sL sI eo hn;(repeat'(first|refine cK ?_|refine nK ?_|refine Ae λK hK=>?_|refine Ca ?_|refine uR zz ?_|refine uK ?_|(refine uN hK ?_;clear hK)|apply zI));exact⟨sq s2,sq s4,sq s6,sq sV,sq s8,sq sL,sq sI,sq A3,hS⟩
     |false=>
      cases q2:(kw.data.toList==(#[58,112,114,101,99,111,110,100,105,116,105,111,110]:Array UInt8).toList)with
      |true=>
       have e:EC a kw (.mk vk vv vl vc vt vs)=({a with pre:=(Cg (.mk vk vv vl vc vt vs)).1},(Cg (.mk vk vv vl vc vt vs)).2):=(by unfold EC;simp only[show A1 kw Cb=false from q0,show A1 kw Fs=false from q1,show A1 kw GL=true from q2,AB,AI]);rw[e];have hc1:=λh:A0=>OL (x:=(.mk vk vv vl vc vt vs)) hvok h;generalize Cg (.mk vk vv vl vc vt vs)=L at hc1;obtain⟨⟨fop,fna,far,fpa,fex,fki⟩,c⟩:=L;obtain⟨u,hu⟩:=Df c;simp only[Sx.cells,Fm.cells,hu]at hc1⊢;have hS:=λ{P C0:PV}{gop gna:ByteArray}{gar:List ByteArray}{gpa:List Pm}{gex:List Ex}{gki:List Fm}(e0:({a with pre:=Fm.mk fop fna far fpa fex fki}).pre= .mk gop gna gar gpa gex gki)(eP:BR 2 (A7 ({a with pre:=Fm.mk fop fna far fpa fex fki}).params) P)(eC0:BR 15 (Al ({a with pre:=Fm.mk fop fna far fpa fex fki}).changes) C0)=>hI.upd (a':={a with pre:=Fm.mk fop fna far fpa fex fki}) e0 eP eC0;obtain⟨g,lt,o1,P,C0,gop,gna,gar,gpa,gex,gki,e0,eo,eP,eC0⟩:=hI;have hS:=hS rfl eP eC0;(repeat'(first|refine cK ?_|(refine nK ?_;try exact zI)|refine Ae λK hK=>?_|(refine Ca ?_)|((first|refine BZ ?_|refine FD (λK hK=>?_));simp only[Ty.w,simprocAttr,s2,s4,s6,s9,s10,hrk,b0,T1,bl,hrlN,q0,q1,q2])|(refine hK _ _ ?_;clear hK;(try simp only[Ao,simprocAttr]))));replace zz:=Ag s2 s4 s6 s8 s9 s10 eo;refine uU zz (hc1 _) ?_;replace zz:=BO s2 s4 s6 s8 sV sL sI eo;(repeat'(first|refine cK ?_|refine nK ?_|(refine uN hK ?_;clear hK)|apply zI));exact⟨sq s2,sq s4,sq s6,sq sV,sq s8,sq sL,sq sI,sq A3,hS⟩
      |false=>
       have e:EC a kw (.mk vk vv vl vc vt vs)=({a with changes:=(EW (.mk vk vv vl vc vt vs)).1},(EW (.mk vk vv vl vc vt vs)).2):=(by unfold EC;simp only[show A1 kw Cb=false from q0,show A1 kw Fs=false from q1,show A1 kw GL=false from q2,AB,AI]);rw[e];have hc1:=λh:A0=>Sh (x:=(.mk vk vv vl vc vt vs)) hvok h;generalize EW (.mk vk vv vl vc vt vs)=L at hc1;obtain⟨l,c⟩:=L;obtain⟨u,hu⟩:=Df c;simp only[Sx.cells,hu]at hc1⊢;have hS:=λ{P C0:PV}{gop gna:ByteArray}{gar:List ByteArray}{gpa:List Pm}{gex:List Ex}{gki:List Fm}(e0:({a with changes:=l}).pre= .mk gop gna gar gpa gex gki)(eP:BR 2 (A7 ({a with changes:=l}).params) P)(eC0:BR 15 (Al ({a with changes:=l}).changes) C0)=>hI.upd (a':={a with changes:=l}) e0 eP eC0;obtain⟨g,lt,o1,P,C0,gop,gna,gar,gpa,gex,gki,e0,eo,eP,eC0⟩:=hI;have hS:=hS (by exact e0) eP (.inl rfl);(repeat'(first|refine cK ?_|(refine nK ?_;try exact zI)|refine Ae λK hK=>?_|(refine Ca ?_)|((first|refine BZ ?_|refine FD (λK hK=>?_));simp only[Ty.w,simprocAttr,s2,s4,s6,s9,s10,hrk,b0,T1,bl,hrlN,q0,q1,q2])|(refine hK _ _ ?_;clear hK;(try simp only[Ao,simprocAttr]))));replace zz:=Ag s2 s4 s6 s8 s9 s10 eo;refine uU zz (hc1 _) ?_;replace zz:=BO s2 s4 s6 s8 sV sL sI eo;(repeat'(first|refine cK ?_|refine nK ?_|(refine uN hK ?_;clear hK)|apply zI));exact⟨sq s2,sq s4,sq s6,sq sV,sq s8,sq sL,sq sI,sq A3,hS⟩
   ·generalize EC a kw (.mk vk vv vl vc vt vs)=A at hF;obtain⟨a',c⟩:=A;simp only at hF;clear s2 s4 s6 sV s8 sL sI s9 s10 hI hrk hvok hvsm S H;rintro S H ⟨s2,s4,s6,sV,s8,sL,sI,s5,hI⟩;simp only at s5 hI;cases hcc2:c==0 with
    |false=>
     have er:AO c=Aj c:=(by simp only[AO,hcc2,AI]);rw[hcc2]at hF;simp only[AI]at hF;have hF2:F=(a',c):=(by rw[hF];unfold Ss;simp only[hcc2,AI]);rw[er]at s5;simp only[Aj]at s5;obtain⟨g,lt,o1,P,C0,gop,gna,gar,gpa,gex,gki,e0,eo,eP,eC0⟩:=hI;have cP:=eP.cell;have cC0:=eC0.cell;have n1:(h.next=h.next+1)=False:=B4 (by omega);replace zz:=BO s2 s4 s5 eo o1 n1 cP cC0;refine wt zz ?_;exact HB.fin hF2 er g (by exact e0) eP eC0
    |true=>
     have er:AO c= .sc .nilIface:=(by simp only[AO,hcc2,AB]);rw[hcc2]at hF;simp only[AB]at hF;rw[er]at s5;replace zz:=BK s2 s4 s5 s6 s8 sV sL sI w7;refine wt zz ?_;exact⟨ps.length-(k+1),by omega,k+1,a',rfl,by omega,rfl,hI,hF⟩
  ·have hd:decide ((k:Int)<(ps.length:Int))=false:=(by simp;omega);rw[D3 (by omega)]at hF;have hF2:F=(a,lc):=(by rw[hF];try rfl);obtain⟨g,lt,o1,P,C0,gop,gna,gar,gpa,gex,gki,e0,eo,eP,eC0⟩:=hI;have cP:=eP.cell;have cC0:=eC0.cell;have n1:(h.next=h.next+1)=False:=B4 (by omega);replace zz:=E7 s2 s4 s8 sL sI hd eo o1 n1 cP cC0;refine wt zz ?_;exact HB.fin hF2 hlu g (by exact e0) eP eC0
end Go.Proofs.YtblgchkahpgdjaaGreat
