/- What the claim rests on, part 17: the abstract machine, contracts of the functions, plain data. -/
import Derived.Test.YtblgchkahpgdjaaGreatZw13
import Derived.Test.YtblgchkahpgdjaaGreatZw16
set_option linter.unusedVariables false
set_option linter.unusedSimpArgs false
set_option linter.unusedSectionVars false
namespace Go.Proofs.YtblgchkahpgdjaaGreat
open Go.AM Go.Proofs.Tryz
set_option maxHeartbeats 4000000
set_option maxRecDepth 20000
def F3(t:Fm->Bool)(ff:Fm->Sx)(fe:List Ch->Sx)(a:Ac):List Sx:=An (An (An (An [A5 a.name] ((a.params.length:Int)==0) Cr (AB (AG a.params))) (a.cost==1) FF (BN a.cost)) (t a.pre) FP (ff a.pre)) ((a.changes.length:Int)==0) FQ (fe a.changes)
def EZ(t:Fm->Bool)(ff:Fm->Sx)(fe:List Ch->Sx)(a:Du):List Sx:=An (An (An (An (An (An (An [A5 a.name] ((a.params.length:Int)==0) Cr (AB (AG a.params))) (a.duration==1) Fw (BN a.duration)) (t a.start) Fx (ff a.start)) (t a.over) Fy (ff a.over)) (t a.stop) G6 (ff a.stop)) ((a.atStart.length:Int)==0) G7 (fe a.atStart)) ((a.atStop.length:Int)==0) G8 (fe a.atStop)
def FU(fa:Ac->Sx)(fd:Du->Sx)(d:Dm):List Sx:=BK (BK (BK (BK [AB [A5 Es,A5 d.name]] EA (AG d.types)) EB (AG d.constants)) ER (d.predicates.map Bc)) EC (d.functions.map Bg)++d.actions.map fa++d.duratives.map fd
def DN(a:Ac):Sx:=AB (A5 Ee::F3 Cz Aa D1 a)
def DD(a:Du):Sx:=AB (A5 Fv::EZ Cz Aa D1 a)
def Dz(d:Dm):Sx:=AB (A5 Er::FU DN DD d)
theorem Tb(x:Sx)(L:List Sx)(m:Bool)(kw:ByteArray)(v:Sx):An (x::L) m kw v=x::An L m kw v:=by unfold An;cases m<;>rfl
theorem Ef{x:Sx}{L:List Sx}{m:Bool}{kw:ByteArray}{v:Sx}(h:x∈L):x∈An L m kw v:=by
 unfold An;cases m with
 |true=>exact h
 |false=>exact List.mem_append_left _ h
theorem IG{L:List Sx}{m:Bool}{kw:ByteArray}{v:Sx}(h:m=false):v∈An L m kw v:=by subst h;simp[An]
theorem H4{x:Sx}{L:List Sx}{m:Bool}{kw:ByteArray}{v:Sx}(h:x∈An L m kw v):x∈L\/x=A5 kw\/x=v:=by
 unfold An at h;cases m with
 |true=>exact .inl h
 |false=>
  simp only[CH,List.mem_append,List.mem_cons,List.not_mem_nil,DO]at h;exact h
theorem cg(x:Sx)(L:List Sx)(kw:ByteArray)(ks:List Sx):BK (x::L) kw ks=x::BK L kw ks:=by unfold BK;cases ks.isEmpty<;>rfl
theorem cj{k:Sx}{L:List Sx}{kw:ByteArray}{ks:List Sx}(h:k∈ks):AB (A5 kw::ks)∈BK L kw ks:=by
 cases ks with
 |nil=>cases h
 |cons a l=>simp[BK]
theorem NR{x:Sx}{L:List Sx}{kw:ByteArray}{ks:List Sx}(h:x∈BK L kw ks):x∈L\/x=AB (A5 kw::ks):=by
 unfold BK at h;cases hk:ks.isEmpty with
 |true=>rw[hk]at h;exact .inl h
 |false=>
  rw[hk]at h;simp only[CH,List.mem_append,List.mem_cons,List.not_mem_nil,DO]at h;exact h
theorem Tc(a:Ac):En a=AB (A5 Ee::F3 Bx By Cx a):=by
 unfold En TM F3;simp only[Tb]
theorem Td(a:Du):Eo a=AB (A5 Fv::EZ Bx By Cx a):=by
 unfold Eo TN EZ;simp only[Tb]
theorem Te(d:Dm):Gu d=AB (A5 Er::FU En Eo d):=by
 unfold Gu TP FU;simp only[cg,List.cons_append]
theorem cm{a:Ac}(h:F1 a=true):En a=DN a:=by
 unfold F1 at h;simp only[AT]at h;obtain⟨⟨⟨⟨_,_⟩,_⟩,f⟩,c⟩:=h;rw[Tc];unfold DN F3;rw[Jo (HV f),(KY c).2,show By a.pre=Aa a.pre from by unfold By;rw[f];try rfl]
theorem cn{a:Du}(h:Ep a=true):Eo a=DD a:=by
 unfold Ep at h;simp only[AT]at h;obtain⟨⟨⟨⟨⟨⟨_,_⟩,f1⟩,f2⟩,f3⟩,c1⟩,c2⟩:=h;rw[Td];unfold DD EZ;rw[Jo (HV f1),Jo (HV f2),Jo (HV f3),(KY c1).2,(KY c2).2,show By a.start=Aa a.start from by unfold By;rw[f1];try rfl,show By a.over=Aa a.over from by unfold By;rw[f2];try rfl,show By a.stop=Aa a.stop from by unfold By;rw[f3];try rfl]
theorem Pf{d:Dm}(h:GX d=true):Gu d=Dz d:=by
 unfold GX at h;simp only[AT]at h;obtain⟨⟨_,ha⟩,hd⟩:=h;rw[List.all_eq_true]at ha hd;rw[Te];unfold Dz FU;rw[List.map_congr_left λa h=>cm (ha a h),List.map_congr_left λa h=>cn (hd a h)]
theorem IH(v:Bool):BE v=Cy v:=by
 funext p;cases v<;>simp only[BE,Cy,JS,D2,CH,AC,Ap,AD,Bool.or_comm]
theorem Pg{n:Int}(h:VS (BN n)):FH n=true:=by
 have:=h.1;simp only[BN,FO]at this;simp only[FH];simp at this⊢;omega
theorem Tf{n:Int}(hv:(n==1)=false->VS (BN n)):FH n=true:=by
 cases q:n==1 with
 |true=>
  simp only[DZ]at q;subst q;decide
 |false=>exact Pg (hv q)
theorem cq:VS (Aa DC):=by
 have:Aa DC=AB []:=by simp[Aa,HM,DC,C5,BH,Ba,CK,Ce,CS,DJ,Fi,Fj,Ez,A3]
 rw[this];refine⟨by decide,by decide,by decide⟩
theorem NS{f:Fm}(hs:BP f=true)(hv:Cz f=false->VS (Aa f)):BW f=true:=by
 cases q:Cz f with
 |true=>
  rw[Jo hs]at q;have e:=PP q;subst e;exact PY hs cq
 |false=>exact PY hs (hv q)
theorem Ph{l:List Ch}(hR:l.all DX=true)(hv:((l.length:Int)==0)=false->VS (D1 l)):l.all C0=true:=by
 cases l with
 |nil=>rfl
 |cons c l=>exact cM (by unfold PW;rw[hR,KX.2 (hv (by simp only[List.length_cons,Kb,ne_eq];omega))];rfl)
theorem cr{a:Ac}(h:Dy a=true)(hv:VS (DN a)):F1 a=true:=by
 unfold Dy at h;simp only[AT]at h;obtain⟨n,p,c,s,f,ch⟩:=h;have hk: ∀ x∈F3 Cz Aa D1 a,VS x:=λx hx=>GB hv (List.mem_cons_of_mem _ hx);have f2:=NS f (λq=>hk _ (by unfold F3;exact Ef (IG q)));have e2:=Ph ch (λq=>hk _ (by unfold F3;exact IG q));unfold F1;rw[n,f2,e2,IH,p,c];try rfl
theorem cu{a:Du}(h:DY a=true)(hv:VS (DD a)):Ep a=true:=by
 unfold DY at h;simp only[AT]at h;obtain⟨n,p,s,c1,c2,f1,f2,f3⟩:=h;have hk: ∀ x∈EZ Cz Aa D1 a,VS x:=λx hx=>GB hv (List.mem_cons_of_mem _ hx);have g1:=NS f1 (λq=>hk _ (by unfold EZ;exact Ef (Ef (Ef (Ef (IG q))))));have g2:=NS f2 (λq=>hk _ (by unfold EZ;exact Ef (Ef (Ef (IG q)))));have g3:=NS f3 (λq=>hk _ (by unfold EZ;exact Ef (Ef (IG q))));have e1:=Ph c1 (λq=>hk _ (by unfold EZ;exact Ef (IG q)));have e2:=Ph c2 (λq=>hk _ (by unfold EZ;exact IG q));unfold Ep;rw[n,g1,g2,g3,e1,e2,IH,p];try rfl
theorem cw{a:Ac}(h:F1 a=true)(hv:VS (DN a)):Dy a=true:=by
 unfold F1 at h;simp only[AT]at h;obtain⟨⟨⟨⟨n,c⟩,p⟩,f⟩,ch⟩:=h;have hk: ∀ x∈F3 Cz Aa D1 a,VS x:=λx hx=>GB hv (List.mem_cons_of_mem _ hx);have hs:=Tf (n:=a.cost) (λq=>hk _ (by unfold F3;exact Ef (Ef (IG q))));unfold Dy;rw[n,HV f,(KY ch).1, ← IH,p,c,hs];try rfl
theorem cx{a:Du}(h:Ep a=true)(hv:VS (DD a)):DY a=true:=by
 unfold Ep at h;simp only[AT]at h;obtain⟨⟨⟨⟨⟨⟨n,p⟩,f1⟩,f2⟩,f3⟩,c1⟩,c2⟩:=h;have hk: ∀ x∈EZ Cz Aa D1 a,VS x:=λx hx=>GB hv (List.mem_cons_of_mem _ hx);have hs:=Tf (n:=a.duration) (λq=>hk _ (by unfold EZ;exact Ef (Ef (Ef (Ef (Ef (IG q)))))));unfold DY;rw[n,HV f1,HV f2,HV f3,(KY c1).1,(KY c2).1, ← IH,p,hs];try rfl
theorem Tg:Ha=GY:=by
 funext p;simp only[Ha,GY,IH]
theorem Th{d:Dm}(hv:VS (Dz d)):(∀ a∈d.actions,VS (DN a))/\(∀ a∈d.duratives,VS (DD a))/\ ∀ f∈d.functions,VS (Bg f):=by
 have hk: ∀ x∈FU DN DD d,VS x:=λx hx=>GB hv (List.mem_cons_of_mem _ hx);refine⟨λa ha=>hk _ ?_,λa ha=>hk _ ?_,λf hf=>?_⟩
 ·unfold FU;exact List.mem_append_left _ (List.mem_append_right _ (List.mem_map_of_mem ha))
 ·unfold FU;exact List.mem_append_right _ (List.mem_map_of_mem ha)
 ·have:VS (AB (A5 EC::d.functions.map Bg)):=hk _ (by unfold FU;exact List.mem_append_left _ (List.mem_append_left _ (cj (List.mem_map_of_mem hf))));exact GB this (List.mem_cons_of_mem _ (List.mem_map_of_mem hf))
theorem cy{d:Dm}(h:GA d=true)(hv:VS (Dz d)):GX d=true:=by
 unfold GA at h;simp only[AT]at h;obtain⟨n,t,c,p,f,a,u⟩:=h;obtain⟨va,vu,_⟩:=Th hv;have a2:d.actions.all F1=true:=by
  rw[List.all_eq_true]at a⊢;exact λx hx=>cr (a x hx) (va x hx)
 have u2:d.duratives.all Ep=true:=by
  rw[List.all_eq_true]at u⊢;exact λx hx=>cu (u x hx) (vu x hx)
 have f2:d.functions.all Gw=true:=by
  rw[List.all_eq_true]at f⊢;intro x hx;have:=f x hx;unfold FI at this;simp only[AT]at this;unfold Gw;rw[this.1,IH,this.2.1];try rfl
 unfold GX;rw[n,IH,t,c,Tg,p,f2,a2,u2];try rfl
theorem cz{d:Dm}(h:GX d=true)(hv:VS (Dz d)):GA d=true:=by
 unfold GX at h;simp only[AT]at h;obtain⟨⟨⟨⟨⟨⟨n,t⟩,c⟩,p⟩,f⟩,a⟩,u⟩:=h;obtain⟨va,vu,vf⟩:=Th hv;have a2:d.actions.all Dy=true:=by
  rw[List.all_eq_true]at a⊢;exact λx hx=>cw (a x hx) (va x hx)
 have u2:d.duratives.all DY=true:=by
  rw[List.all_eq_true]at u⊢;exact λx hx=>cx (u x hx) (vu x hx)
 have f2:d.functions.all FI=true:=by
  rw[List.all_eq_true]at f⊢;intro x hx;have:=f x hx;unfold Gw at this;simp only[AT]at this;have w:=vf x hx;have w1:FH x.lo=true:=Pg (GB w (by simp));have w2:FH x.hi=true:=Pg (GB w (by simp));unfold FI;rw[this.1, ← IH,this.2,w1,w2];try rfl
 unfold GA;rw[n, ← IH,t,c, ← Tg,p,f2,a2,u2];try rfl
def NT(d:Dm):Bool:=GX d&&(Ci (Gu d) 0 0).1
def H5(d:Dm):Bool:=GA d&&(Ci (Dz d) 0 0).1
theorem Ti{d:Dm}(h:H5 d=true):GX d=true:=by
 unfold H5 at h;simp only[AT]at h;exact cy h.1 (KX.1 h.2)
theorem dA(d:Dm):NT d=H5 d:=by
 cases hr:H5 d with
 |true=>
  have hb:=Ti hr;unfold H5 at hr;simp only[AT]at hr;unfold NT;rw[hb,Pf hb,hr.2];try rfl
 |false=>
  cases he:NT d with
  |false=>rfl
  |true=>
   unfold NT at he;simp only[AT]at he;have hx:=Pf he.1;rw[hx]at he;unfold H5 at hr;rw[cz he.1 (KX.1 he.2),he.2]at hr;exact hr
theorem dB{d:Dm}(h:H5 d=true):Gu d=Dz d:=Pf (Ti h)
theorem Ll{α:Type}(f:α->List PV)(hf: ∀ a,1<=PV.bulkL (f a)): ∀ l:List α,l.length<=PV.bulkR (l.map f)
 |[]=>BX _
 |a::l=>by
  have:=Ll f hf l;have:=hf a;simp only[List.map_cons,PV.bulkR,List.length_cons];omega
theorem Lm{α:Type}(f:α->List PV){a:α}: ∀ {l:List α},a∈l->PV.bulkL (f a)<=PV.bulkR (l.map f)
 |b::l,h=>by
  simp only[List.map_cons,PV.bulkR];rcases List.mem_cons.1 h with rfl|h
  ·omega
  ·have:=Lm f h;omega
theorem Ln{α:Type}(f:α->List PV)(g:α->Sx)(k:Nat)(hf: ∀ a,(g a).nodes<=k*PV.bulkL (f a)): ∀ l:List α,Sx.nodess (l.map g)<=k*PV.bulkR (l.map f)
 |[]=>by simp[Sx.nodess]
 |a::l=>by
  have:=Ln f g k hf l;have:=hf a;simp only[List.map_cons,PV.bulkR,Sx.nodess,Nat.mul_add];omega
theorem Pi(p:Pr):PV.bulkR (A7 p.params)+2<=PV.bulkL (F7 p):=by
 obtain⟨n,l⟩:=p;simp only[F7,PV.bulkL,PV.bulk,A1];omega
theorem Pj(p:Fu):PV.bulkR (A7 p.params)+4<=PV.bulkL (F8 p):=by
 obtain⟨n,l,a,b⟩:=p;simp only[F8,PV.bulkL,PV.bulk,A1];omega
theorem Pk(a:Ac):PV.bulkR (A7 a.params)+PV.bulkL a.pre.cells+PV.bulkR (Ay a.changes)+4<=PV.bulkL (EJ a):=by
 obtain⟨n,p,c,f,l⟩:=a;simp only[EJ,List.cons_append,List.nil_append,PV.bulkL_append,PV.bulkL,PV.bulk,A1];omega
theorem Pl(a:Du):PV.bulkR (A7 a.params)+PV.bulkL a.start.cells+PV.bulkL a.over.cells+PV.bulkL a.stop.cells+PV.bulkR (Ay a.atStart)+PV.bulkR (Ay a.atStop)+5<=PV.bulkL (EK a):=by
 obtain⟨n,p,c,f,g,k,l,m⟩:=a;simp only[EK,List.cons_append,List.nil_append,PV.bulkL_append,PV.bulkL,PV.bulk,A1];omega
theorem Tj(d:Dm):PV.bulkR (A7 d.types)+PV.bulkR (A7 d.constants)+PV.bulkR (Az d.predicates)+PV.bulkR (Av d.functions)+PV.bulkR (B0 d.actions)+PV.bulkR (B1 d.duratives)+7<=PV.bulkL d.cells:=by
 obtain⟨n,t,c,p,f,a,u⟩:=d;simp only[Dm.cells,PV.bulkL,PV.bulk,A1];omega
theorem Pn{l:List Ch}(h:PV.bulkR (Ay l)<=1048576):l.length<=1048576/\ ∀ c∈l,FE c:=
 ⟨ES (TY l) h,λ_ hc=>cO (ES (TZ hc) h)⟩
theorem dC{a:Ac}(h:PV.bulkL (EJ a)<=1048576):Lf a:=by
 have:=Pk a;have p1:=Em a.params;have hc:=Pn (l:=a.changes) (by omega);exact⟨by omega,Fm.small_bulk _ (by omega),hc.1,hc.2⟩
theorem dD{a:Du}(h:PV.bulkL (EK a)<=1048576):Lg a:=by
 have:=Pl a;have p1:=Em a.params;exact⟨by omega,Fm.small_bulk _ (by omega),Fm.small_bulk _ (by omega),Fm.small_bulk _ (by omega),Pn (by omega),Pn (by omega)⟩
theorem Tm{d:Dm}(hb:PV.bulkL d.cells<=1048576):KU d:=by
 have:=Tj d;have p1:=Em d.types;have p2:=Em d.constants;have l1:=Ll F7 (λa=>by have:=Pi a;omega) d.predicates;have l2:=Ll F8 (λa=>by have:=Pj a;omega) d.functions;have l3:=Ll EJ (λa=>by have:=Pk a;omega) d.actions;have l4:=Ll EK (λa=>by have:=Pl a;omega) d.duratives;have e1:d.predicates.map F7=Az d.predicates:=rfl;have e2:d.functions.map F8=Av d.functions:=rfl;have e3:d.actions.map EJ=B0 d.actions:=rfl;have e4:d.duratives.map EK=B1 d.duratives:=rfl;rw[e1]at l1;rw[e2]at l2;rw[e3]at l3;rw[e4]at l4;refine⟨by omega,by omega,⟨by omega,λp hp=>?_⟩,⟨by omega,λp hp=>?_⟩,⟨by omega,λa ha=>dC ?_⟩,⟨by omega,λa ha=>dD ?_⟩⟩
 ·have hm:=Lm F7 hp;rw[e1]at hm;have:=Pi p;have:=Em p.params;omega
 ·have hm:=Lm F8 hp;rw[e2]at hm;have:=Pj p;have:=Em p.params;omega
 ·have hm:=Lm EJ ha;rw[e3]at hm;omega
 ·have hm:=Lm EK ha;rw[e4]at hm;omega
theorem Lo(L:List Sx)(m:Bool)(kw:ByteArray)(v:Sx):Sx.nodess (An L m kw v)<=Sx.nodess L+v.nodes+1:=by
 unfold An;cases m with
 |true=>simp only[D2];omega
 |false=>simp only[CH,JZ,Sx.nodess,Gz];omega
theorem dE(L:List Sx)(kw:ByteArray)(ks:List Sx):Sx.nodess (BK L kw ks)<=Sx.nodess L+Sx.nodess ks+2:=by
 unfold BK;cases ks.isEmpty with
 |true=>simp only[D2];omega
 |false=>simp only[CH,JZ,Sx.nodess,F0,Gz];omega
theorem Po(l:List Ch):(D1 l).nodes<=4*PV.bulkR (Ay l)+2:=by
 have hn:=Ta l;unfold D1;cases l.isEmpty with
 |true=>simp[AB,Sx.nodes,Sx.nodess]
 |false=>simp only[CH,AB,Sx.nodes,Sx.nodess,Gz];omega
theorem dF(a:Ac):(DN a).nodes<=4*PV.bulkL (EJ a):=by
 have hb:=Pk a;have p:=Em a.params;have f:=KT a.pre;have e:=Po a.changes;have hp:(AB (AG a.params)).nodes=3*a.params.length+1:=by simp only[AB,Sx.nodes,ID]
 have hn:(BN a.cost).nodes=1:=rfl;have g1:=Lo [A5 a.name] ((a.params.length:Int)==0) Cr (AB (AG a.params));have g2:=Lo (An [A5 a.name] ((a.params.length:Int)==0) Cr (AB (AG a.params))) (a.cost==1) FF (BN a.cost);have g3:=Lo (An (An [A5 a.name] ((a.params.length:Int)==0) Cr (AB (AG a.params))) (a.cost==1) FF (BN a.cost)) (Cz a.pre) FP (Aa a.pre);have g4:=Lo (An (An (An [A5 a.name] ((a.params.length:Int)==0) Cr (AB (AG a.params))) (a.cost==1) FF (BN a.cost)) (Cz a.pre) FP (Aa a.pre)) ((a.changes.length:Int)==0) FQ (D1 a.changes);have e0:Sx.nodess [A5 a.name]=1:=rfl;unfold DN F3;simp only[F0,Sx.nodess,Gz];omega
theorem dG(a:Du):(DD a).nodes<=4*PV.bulkL (EK a):=by
 have hb:=Pl a;have p:=Em a.params;have f1:=KT a.start;have f2:=KT a.over;have f3:=KT a.stop;have e1:=Po a.atStart;have e2:=Po a.atStop;have hp:(AB (AG a.params)).nodes=3*a.params.length+1:=by simp only[AB,Sx.nodes,ID]
 have hn:(BN a.duration).nodes=1:=rfl;have e0:Sx.nodess [A5 a.name]=1:=rfl;have key: ∀ (L:List Sx)(m:Bool)(kw:ByteArray)(v:Sx)(n:Nat),Sx.nodess L<=n->Sx.nodess (An L m kw v)<=n+v.nodes+1:=λL m kw v n h=>by have:=Lo L m kw v;omega
 have:=key _ ((a.atStop.length:Int)==0) G8 (D1 a.atStop) _ (key _ ((a.atStart.length:Int)==0) G7 (D1 a.atStart) _ (key _ (Cz a.stop) G6 (Aa a.stop) _ (key _ (Cz a.over) Fy (Aa a.over) _ (key _ (Cz a.start) Fx (Aa a.start) _ (key _ (a.duration==1) Fw (BN a.duration) _ (key _ ((a.params.length:Int)==0) Cr (AB (AG a.params)) _ (Nat.le_of_eq e0)))))));unfold DD EZ;simp only[F0,Sx.nodess,Gz];omega
theorem dH{d:Dm}(hb:PV.bulkL d.cells<=1048576):(Dz d).nodes<=AE/\(Dz d).depth<=AE:=by
 have hd:=Sx.depth_nodes (Dz d);have bb:=Tj d;have p1:=Em d.types;have p2:=Em d.constants;have n1:=Ln F7 Bc 4 (λp=>by
  have:=Pi p;have:=Em p.params;simp only[Bc,F0,Sx.nodess,Gz,ID];omega) d.predicates
 have n2:=Ln F8 Bg 4 (λp=>by
  have:=Pj p;have:=Em p.params;have h1:(BN p.lo).nodes=1:=rfl;have h2:(BN p.hi).nodes=1:=rfl;simp only[Bg,F0,Sx.nodess,JZ,Gz,ID,List.cons_append,h1,h2];omega) d.functions
 have n3:=Ln EJ DN 4 dF d.actions;have n4:=Ln EK DD 4 dG d.duratives;have e1:d.predicates.map F7=Az d.predicates:=rfl;have e2:d.functions.map F8=Av d.functions:=rfl;have e3:d.actions.map EJ=B0 d.actions:=rfl;have e4:d.duratives.map EK=B1 d.duratives:=rfl;rw[e1]at n1;rw[e2]at n2;rw[e3]at n3;rw[e4]at n4;have key: ∀ (L:List Sx)(kw:ByteArray)(ks:List Sx)(n:Nat),Sx.nodess L<=n->Sx.nodess (BK L kw ks)<=n+Sx.nodess ks+2:=λL kw ks n h=>by have:=dE L kw ks;omega
 have e0:Sx.nodess [AB [A5 Es,A5 d.name]]=3:=rfl;have g:=key _ EC (d.functions.map Bg) _ (key _ ER (d.predicates.map Bc) _ (key _ EB (AG d.constants) _ (key _ EA (AG d.types) _ (Nat.le_of_eq e0))));rw[ID,ID]at g;have:(Dz d).nodes<=AE:=by
  unfold Dz FU;simp only[F0,Sx.nodess,Gz,JZ,AE];omega
 exact⟨this,by omega⟩
theorem Tn{t:Fm->Bool}{ff:Fm->Sx}{fe:List Ch->Sx}{a:Ac}{x:Sx}(h:x∈F3 t ff fe a):(∃ w,x=A5 w/\(w=a.name\/w.size<=20))\/x=AB (AG a.params)\/x=BN a.cost\/x=ff a.pre\/x=fe a.changes:=by
 unfold F3 at h;rcases H4 h with h|rfl|rfl;rcases H4 h with h|rfl|rfl;rcases H4 h with h|rfl|rfl;rcases H4 h with h|rfl|rfl
 ·simp only[List.mem_cons,List.not_mem_nil,DO]at h;exact .inl ⟨_,h,.inl rfl⟩
 all_goals first
  |exact .inl ⟨_,rfl,.inr (by decide)⟩
  |simp
theorem Tp{t:Fm->Bool}{ff:Fm->Sx}{fe:List Ch->Sx}{a:Du}{x:Sx}(h:x∈EZ t ff fe a):(∃ w,x=A5 w/\(w=a.name\/w.size<=20))\/x=AB (AG a.params)\/x=BN a.duration\/x=ff a.start\/x=ff a.over\/x=ff a.stop\/x=fe a.atStart\/x=fe a.atStop:=by
 unfold EZ at h;rcases H4 h with h|rfl|rfl;rcases H4 h with h|rfl|rfl;rcases H4 h with h|rfl|rfl;rcases H4 h with h|rfl|rfl;rcases H4 h with h|rfl|rfl;rcases H4 h with h|rfl|rfl;rcases H4 h with h|rfl|rfl
 ·simp only[List.mem_cons,List.not_mem_nil,DO]at h;exact .inl ⟨_,h,.inl rfl⟩
 all_goals first
  |exact .inl ⟨_,rfl,.inr (by decide)⟩
  |simp
theorem E0{L:List Sx}{m:Bool}{kw:ByteArray}{v:Sx}{n:Nat}(h:L.length<=n):(An L m kw v).length<=n+2:=by have:=GW L m kw v;omega
theorem Iw{L ks:List Sx}{kw:ByteArray}{n:Nat}(h:L.length<=n):(BK L kw ks).length<=n+1:=by have:=Li L kw ks;omega
theorem NU{n:Int}(h: -9223372036854775808<=n/\n<=9223372036854775807):(BN n).ok:=⟨⟨by decide,by decide⟩,h,by decide,by simp,trivial⟩
theorem Tt{l:List Pm}(hl:l.length<=1048576)(h: ∀ p∈l,p.ok):(AB (AG l)).ok:=E7 (by rw[D9];unfold AE;omega) (I8 _ h)
theorem NV{l:List Sx}(hl:l.length<=AE)(h: ∀ x∈l,x.ok):(AB l).ok:=E7 hl (Sx.oks_iff.2 h)
theorem Tu{t:Fm->Bool}{ff:Fm->Sx}{fe:List Ch->Sx}{a:Ac}(ha:a.ok)(hs:Lf a)(hf:(ff a.pre).ok)(he:(fe a.changes).ok):(AB (A5 Ee::F3 t ff fe a)).ok:=by
 have hl:(F3 t ff fe a).length<=1+2+2+2+2:=by unfold F3;exact E0 (E0 (E0 (E0 (AF _))))
 refine NV (by simp only[List.length_cons,AE];omega) ?_;intro x hx;rcases List.mem_cons.1 hx with rfl|hx
 ·exact CJ (by decide)
 rcases Tn hx with⟨w,rfl,rfl|hw⟩|rfl|rfl|rfl|rfl
 ·exact CJ ha.name
 ·exact CJ (by unfold AE;omega)
 ·exact Tt hs.params ha.params.2
 ·exact NU ha.cost
 ·exact hf
 ·exact he
theorem Tv{t:Fm->Bool}{ff:Fm->Sx}{fe:List Ch->Sx}{a:Du}(ha:a.ok)(hs:Lg a)(h1:(ff a.start).ok)(h2:(ff a.over).ok)(h3:(ff a.stop).ok)(h4:(fe a.atStart).ok)(h5:(fe a.atStop).ok):(AB (A5 Fv::EZ t ff fe a)).ok:=by
 have hl:(EZ t ff fe a).length<=1+2+2+2+2+2+2+2:=by unfold EZ;exact E0 (E0 (E0 (E0 (E0 (E0 (E0 (AF _)))))))
 refine NV (by simp only[List.length_cons,AE];omega) ?_;intro x hx;rcases List.mem_cons.1 hx with rfl|hx
 ·exact CJ (by decide)
 rcases Tp hx with⟨w,rfl,rfl|hw⟩|rfl|rfl|rfl|rfl|rfl|rfl|rfl
 ·exact CJ ha.name
 ·exact CJ (by unfold AE;omega)
 ·exact Tt hs.params ha.params.2
 ·exact NU ha.duration
 ·exact h1
 ·exact h2
 ·exact h3
 ·exact h4
 ·exact h5
theorem Tw{fa:Ac->Sx}{fd:Du->Sx}{d:Dm}{x:Sx}(h:x∈FU fa fd d):x=AB [A5 Es,A5 d.name]\/(∃ w,w.size<=20/\(x=AB (A5 w::AG d.types)\/x=AB (A5 w::AG d.constants)\/x=AB (A5 w::d.predicates.map Bc)\/x=AB (A5 w::d.functions.map Bg)))\/(∃ a∈d.actions,x=fa a)\/ ∃ a∈d.duratives,x=fd a:=by
 unfold FU at h;rcases List.mem_append.1 h with h|h
 ·rcases List.mem_append.1 h with h|h
  ·rcases NR h with h|rfl
   ·rcases NR h with h|rfl
    ·rcases NR h with h|rfl
     ·rcases NR h with h|rfl
      ·simp only[List.mem_cons,List.not_mem_nil,DO]at h;exact .inl h
      ·exact .inr (.inl ⟨_,by decide,.inl rfl⟩)
     ·exact .inr (.inl ⟨_,by decide,.inr (.inl rfl)⟩)
    ·exact .inr (.inl ⟨_,by decide,.inr (.inr (.inl rfl))⟩)
   ·exact .inr (.inl ⟨_,by decide,.inr (.inr (.inr rfl))⟩)
  ·rw [List.mem_map]at h;obtain⟨a,ha,rfl⟩:=h;exact .inr (.inr (.inl ⟨a,ha,rfl⟩))
 ·rw [List.mem_map]at h;obtain⟨a,ha,rfl⟩:=h;exact .inr (.inr (.inr ⟨a,ha,rfl⟩))
theorem dI{p:Pr}(h:p.ok)(hl:p.params.length<=1048576):(Bc p).ok:=E7 (by simp only[List.length_cons,D9,AE];omega) ⟨CJ h.name,I8 _ h.params.2⟩
theorem dJ{p:Fu}(h:p.ok)(hl:p.params.length<=1048576):(Bg p).ok:=by
 refine NV (by simp only[List.length_cons,List.length_append,D9,List.length_nil,AE];omega) ?_;intro x hx;simp only[List.cons_append,List.mem_cons,List.mem_append,List.not_mem_nil,DO]at hx;rcases hx with rfl|hx|rfl|rfl
 ·exact CJ h.name
 ·exact Sx.oks_iff.1 (I8 _ h.params.2) x hx
 ·exact NU h.lo
 ·exact NU h.hi
theorem Tx{fa:Ac->Sx}{fd:Du->Sx}{d:Dm}(hd:d.ok)(hs:KU d)(ha: ∀ a∈d.actions,(fa a).ok)(hu: ∀ a∈d.duratives,(fd a).ok):(AB (A5 Er::FU fa fd d)).ok:=by
 have hl:(FU fa fd d).length<=1+1+1+1+1+d.actions.length+d.duratives.length:=by
  unfold FU;rw[List.length_append,List.length_append,List.length_map,List.length_map];have:(BK (BK (BK (BK [AB [A5 Es,A5 d.name]] EA (AG d.types)) EB (AG d.constants)) ER (d.predicates.map Bc)) EC (d.functions.map Bg)).length<=1+1+1+1+1:=Iw (Iw (Iw (Iw (AF _))));omega
 have l1:=hs.acts.1;have l2:=hs.durs.1;have l3:=hs.preds.1;have l4:=hs.funs.1;have l5:=hs.types;have l6:=hs.consts;refine NV (by simp only[List.length_cons,AE];omega) ?_;intro x hx;rcases List.mem_cons.1 hx with rfl|hx
 ·exact CJ (by decide)
 rcases Tw hx with rfl|⟨w,hw,rfl|rfl|rfl|rfl⟩|⟨a,h,rfl⟩|⟨a,h,rfl⟩
 ·exact PN (CJ (by decide)) (CJ hd.name)
 ·exact E7 (by simp only[List.length_cons,D9,AE];omega) ⟨CJ (by unfold AE;omega),I8 _ hd.types.2⟩
 ·exact E7 (by simp only[List.length_cons,D9,AE];omega) ⟨CJ (by unfold AE;omega),I8 _ hd.constants.2⟩
 ·refine E7 (by simp only[List.length_cons,List.length_map,AE];omega) ⟨CJ (by unfold AE;omega),Sx.oks_iff.2 ?_⟩;intro y hy;rw[List.mem_map]at hy;obtain⟨p,hp,rfl⟩:=hy;exact dI (hd.predicates.2 p hp) (hs.preds.2 p hp)
 ·refine E7 (by simp only[List.length_cons,List.length_map,AE];omega) ⟨CJ (by unfold AE;omega),Sx.oks_iff.2 ?_⟩;intro y hy;rw[List.mem_map]at hy;obtain⟨p,hp,rfl⟩:=hy;exact dJ (hd.functions.2 p hp) (hs.funs.2 p hp)
 ·exact ha a h
 ·exact hu a h
theorem KZ{l:List Ch}(h1:Chs.ok l)(h2: ∀ c∈l,FE c): ∀ c∈l,c.ok/\FE c:=λc hc=>⟨h1.2 c hc,h2 c hc⟩
theorem Tz{d:Dm}(hd:d.ok)(hs:KU d):(Gu d).ok:=by
 rw[Te];refine Tx hd hs (λa ha=>?_) (λa ha=>?_)
 ·have h1:=hd.actions.2 a ha;have h2:=hs.acts.2 a ha;rw[Tc];exact Tu h1 h2 (Lh h1.pre h2.pre) (PO h2.chs (KZ h1.changes h2.ch))
 ·have h1:=hd.duratives.2 a ha;have h2:=hs.durs.2 a ha;rw[Td];exact Tv h1 h2 (Lh h1.start h2.start) (Lh h1.over h2.over) (Lh h1.stop h2.stop) (PO h2.atS.1 (KZ h1.atStart h2.atS.2)) (PO h2.atE.1 (KZ h1.atStop h2.atE.2))
theorem dK{a:Ac}(hR:Dy a=true)(h1:a.ok)(h2:Lf a):(DN a).ok:=by
 unfold Dy at hR;simp only[AT]at hR;obtain⟨_,_,_,_,f,c⟩:=hR;exact Tu h1 h2 (Ji _ h1.pre h2.pre f) (Pd h2.chs c (KZ h1.changes h2.ch))
theorem dM{a:Du}(hR:DY a=true)(h1:a.ok)(h2:Lg a):(DD a).ok:=by
 unfold DY at hR;simp only[AT]at hR;obtain⟨_,_,_,c1,c2,f1,f2,f3⟩:=hR;exact Tv h1 h2 (Ji _ h1.start h2.start f1) (Ji _ h1.over h2.over f2) (Ji _ h1.stop h2.stop f3) (Pd h2.atS.1 c1 (KZ h1.atStart h2.atS.2)) (Pd h2.atE.1 c2 (KZ h1.atStop h2.atE.2))
theorem dN{d:Dm}(hR:GA d=true)(hd:d.ok)(hs:KU d):(Dz d).ok:=by
 unfold GA at hR;simp only[AT]at hR;obtain⟨_,_,_,_,_,ra,rd⟩:=hR;rw[List.all_eq_true]at ra rd;exact Tx hd hs (λa ha=>dK (ra a ha) (hd.actions.2 a ha) (hs.acts.2 a ha)) (λa ha=>dM (rd a ha) (hd.duratives.2 a ha) (hs.durs.2 a ha))
theorem NW(n:Int):Cq (BN n)=true:=by simp[BN,Cq,Fs]
theorem dO(a:Ac):Cq (DN a)=true:=by
 refine DL λx hx=>?_;rcases List.mem_cons.1 hx with rfl|hx
 ·exact DK _
 rcases Tn hx with⟨w,rfl,_⟩|rfl|rfl|rfl|rfl
 ·exact DK _
 ·exact DL (I7 _)
 ·exact NW _
 ·exact Io _
 ·exact Pe _
theorem dP(a:Du):Cq (DD a)=true:=by
 refine DL λx hx=>?_;rcases List.mem_cons.1 hx with rfl|hx
 ·exact DK _
 rcases Tp hx with⟨w,rfl,_⟩|rfl|rfl|rfl|rfl|rfl|rfl|rfl
 ·exact DK _
 ·exact DL (I7 _)
 ·exact NW _
 ·exact Io _
 ·exact Io _
 ·exact Io _
 ·exact Pe _
 ·exact Pe _
theorem dQ(d:Dm):Cq (Dz d)=true:=by
 refine DL λx hx=>?_;rcases List.mem_cons.1 hx with rfl|hx
 ·exact DK _
 rcases Tw hx with rfl|⟨w,_,rfl|rfl|rfl|rfl⟩|⟨a,_,rfl⟩|⟨a,_,rfl⟩
 ·refine DL λy hy=>?_;simp only[List.mem_cons,List.not_mem_nil,DO]at hy;rcases hy with rfl|rfl<;>exact DK _
 ·refine DL λy hy=>?_;rcases List.mem_cons.1 hy with rfl|hy
  ·exact DK _
  ·exact I7 _ _ hy
 ·refine DL λy hy=>?_;rcases List.mem_cons.1 hy with rfl|hy
  ·exact DK _
  ·exact I7 _ _ hy
 ·refine DL λy hy=>?_;rcases List.mem_cons.1 hy with rfl|hy
  ·exact DK _
  ·rw [List.mem_map]at hy;obtain⟨p,_,rfl⟩:=hy;refine DL λz hz=>?_;rcases List.mem_cons.1 hz with rfl|hz
   ·exact DK _
   ·exact I7 _ _ hz
 ·refine DL λy hy=>?_;rcases List.mem_cons.1 hy with rfl|hy
  ·exact DK _
  ·rw [List.mem_map]at hy;obtain⟨p,_,rfl⟩:=hy;refine DL λz hz=>?_;simp only[List.cons_append,List.mem_cons,List.mem_append,List.not_mem_nil,DO]at hz;rcases hz with rfl|hz|rfl|rfl
   ·exact DK _
   ·exact I7 _ _ hz
   ·exact NW _
   ·exact NW _
 ·exact dO a
 ·exact dP a
set_option maxHeartbeats 8000000
structure Et(h:A0)(L:List Sx)(p:PV)(H:A0):Prop where
 grow:AL h H
 ores:H.obj h.next=some (.arr 6 [BJ])
 lt:h.next<H.next
 tl:Tl H (h.next+1) 6 p (Sx.rows L)
theorem Et.up{h H H':A0}{L:List Sx}{p:PV}(i:Et h L p H)(g:AL H H'):Et h L p H':=
 ⟨i.grow.trans g,by rw[g.old _ i.lt];exact i.ores,FJ i.lt g.le,i.tl.old g⟩
theorem Et.push{h H:A0}{L:List Sx}{p:PV}(i:Et h L p H)(X:Sx): ∃ Hk,Db H p=some (Hk,Sx.rows L)/\CP H 6 p=true/\Hk.next=H.next/\Et h (L++[X]) (.own H.next 0 (L.length+1)) (Hk.new (.arr 6 (Sx.rows L++[X.cells]))):=by
 obtain⟨g,o,lt,tl⟩:=i;obtain⟨Hk,t1,t2,t3,t4,t5⟩:=tl.tail;have hk:=t5 h ⟨g.le,g.old⟩ (Py _);have e:Sx.rows (L++[X])=Sx.rows L++[X.cells]:=by simp[Sx.rows_map]
 refine⟨Hk,t1,t2,t3,(⟨hk.1,hk.2⟩:AL h Hk).new _,by rw[Fk (by omega),t4 _ (by omega)];exact o,show h.next<Hk.next+1 by omega,?_⟩;rw[e, ← t3];exact Tl.grow (by omega) (by simp[Sx.rows_len])
structure FV(h:A0)(j:Nat)(L:List Sx)(H:A0):Prop where
 grow:AL h H
 lo:h.next<=j
 hi:j<H.next
 oj:H.obj j=some (.arr 6 (Sx.rows L))
theorem FV.some{h H:A0}{j:Nat}{L:List Sx}(i:FV h j L H)(kw:ByteArray)(v:Sx)(m:Bool): ∃ j2,(if m=true then PV.own j 0 L.length else .own H.next 0 (L.length+2))= .own j2 0 (An L m kw v).length/\FV h j2 (An L m kw v) (if m=true then H else EY H j (L++[A5 kw,v])):=by
 obtain⟨g,l,hi,oj⟩:=i;cases m with
 |true=>exact⟨j,rfl,g,l,hi,oj⟩
 |false=>
  refine⟨H.next,by simp[An],⟨by simp only[Ap,AD,EY];have:=g.le;omega,λk hk=>?_⟩,g.le,by simp[EY],by simp[EY,An]⟩;have:=g.le;simp only[Ap,AD,EY];rw[A4 (by omega),A4 (by omega)];exact g.old k hk
theorem dR{d:Dm}(hok:d.ok)(hsm:KU d)(hR:GA d=true)(h:A0):AA prog 49 [.agg d.cells] h λr h'=>r= .agg (Dz d).cells/\h'=h:=by
 refine GN Ty.OF λhwf=>?_;refine AA.frz Ty.OF ?_;obtain⟨dn,dt,dc,dp,df,da,dd⟩:=d;unfold GA at hR;simp only[AT]at hR;obtain⟨_,_,_,_,_,ra,rd⟩:=hR;rw[List.all_eq_true]at ra rd;have hW:Dz ⟨dn,dt,dc,dp,df,da,dd⟩=AB (A5 Er::(BK (BK (BK (BK [AB [A5 Es,A5 dn]] EA (AG dt)) EB (AG dc)) ER (dp.map Bc)) EC (df.map Bg)++da.map DN++dd.map DD)):=rfl;generalize Dz ⟨dn,dt,dc,dp,df,da,dd⟩=DW at hW⊢;obtain⟨zt,zc,zp,zf,za,zd⟩:=hsm;obtain⟨_,_,_,_,_,oa,od⟩:=hok;simp only at zt zc zp zf za zd oa od ra rd;have hlT:=EX dt;have hlC:=EX dc;have hlP:=MY dp;have hlF:=MZ df;have hlA:=Ma da;have hlD:=Mc dd;have hRl: ∀ L:List Sx,(Sx.rows L).length=L.length:=Sx.rows_len;have g6: ∀ x:Sx,x.cells.length=6:=λx=>by obtain⟨_,_,_,_,_,_⟩:=x;rfl
 have a6: ∀ x:Sx,x.cells.all C8=true:=λx=>by obtain⟨_,_,_,_,_,_⟩:=x;rfl
 have hwd: ∀ (s:ByteArray)(h:A0),AA prog 103 [A1 s] h λr h'=>r= .agg (A5 s).cells/\h'=h:=λs h=>NN;simp only[A5,Sx.cells,Sx.rows]at hwd;have hl1: ∀ (w a:ByteArray)(h:A0),AA prog 86 [A1 w,.imm 6 [[.sc (.int .i64 1),.sc (.int .i64 0),.sc (.int .i64 0),.sc (.int .i64 0),A1 a,.imm 6 []]]] h λr h'=>r= .agg (AB [A5 w,A5 a]).cells/\h'=h:=λw a h=>Lj (s:=w) (l:=[A5 a]) (by simp) h;have hwp: ∀ (l:List Pm),l.length<=1048576-> ∀ h:A0,AA prog 30 [.imm 2 (A7 l)] h λr h'=>r= .imm 6 (Sx.rows (AG l))/\h'=h:=λl hl h=>NI hl h;have hli: ∀ (w:ByteArray)(L:List Sx),L.length<=1099511627776-> ∀ h:A0,AA prog 86 [A1 w,.imm 6 (Sx.rows L)] h λr h'=>r= .agg (AB (A5 w::L)).cells/\h'=h:=λw L hL h=>Lj hL h;refine K6 (ow:=λt=>t==17||t==124||t==180) (wf:=λf=>f==30||f==105) Ty.K7 func49 rfl Ty.OF (by rw[ntmps49];simp) ?_;rw[ntmps49,results49];repeat'(first|refine AI λK hK=>?_|refine uR A2 ?_|(refine uN hK ?_;clear hK)|apply zI)
 refine uU A2 (hwd _ _) ?_;refine wt A2 ?_;refine uU (Aj g6 a6 @Ds) (hl1 _ _ _) ?_;repeat'(first|refine cK ?_|refine nK ?_|with_reducible refine KB 2 ?_|(refine uN hK ?_;clear hK)|apply zI)
 refine⟨?_⟩;refine C6 (λS H=>S 1= .cptr [A1 dn,.imm 2 (A7 dt),.imm 2 (A7 dc),.imm 2 (Az dp),.imm 4 (Av df),.imm 10 (B0 da),.imm 23 (B1 dd)]/\S 2= .ptr h.next 0 0/\ ∃ q,S 3=q/\Et h [AB [A5 Es,A5 dn]] q H) ?_ ?_
 ·refine ⟨by simp only[Ty.w,simprocAttr,Dm.cells],sq A2,_,rfl,?_⟩;simp only[Ty.w,simprocAttr];refine⟨((AL.refl h).new _).new _,?_,?_,Tl.grow (AF _) rfl⟩
  ·rw [Fk (Pv _)];simp only[A0.new,AC]
  ·simp only[A0.new];omega
 generalize hL0:[AB [A5 Es,A5 dn]]=L0 at hW;have hl0:L0.length<=1:=by rw[← hL0];exact AF _
 clear hl1 hL0;rintro S H ⟨s1,s2,q,s3,hI⟩;refine CF (λS H=>S 1= .cptr [A1 dn,.imm 2 (A7 dt),.imm 2 (A7 dc),.imm 2 (Az dp),.imm 4 (Av df),.imm 10 (B0 da),.imm 23 (B1 dd)]/\S 2= .ptr h.next 0 0/\ ∃ q,S 3=q/\Et h (BK L0 EA (AG dt)) q H) ?_ ?_
 ·by_cases hz:dt=[]
  ·have d0:decide ((dt.length:Int)>0)=false:=(by rw[hz];try rfl);rw[show BK L0 EA (AG dt)=L0 by rw[hz];try rfl];replace zz:=AV s1 s2 s3 hlT d0;refine wt zz ?_;first|exact hI|exact⟨s1,s2,q,s3,hI⟩
  ·have d0:decide ((dt.length:Int)>0)=true:=(by have:=List.length_pos_iff.2 hz;simp;omega);have hx:BK L0 EA (AG dt)=L0++[AB (A5 EA::AG dt)]:=by
    cases dt with
    |nil=>exact absurd rfl hz
    |cons a l=>rfl
   rw[hx];have hwq:=hwp dt zt;have hlq:=hli EA (AG dt) (by rw[D9];omega);obtain⟨Hk,t1,t2,t3,hI2⟩:=hI.push (AB (A5 EA::AG dt));have hb:(L0.length+1)*72<=140737488355328:=(by omega);replace zz:=AS s1 s3 hlT d0;refine wt zz ?_;refine uU (uu s1 s3) (hwq _) ?_;refine wt (uu s1 s3) ?_;replace zz:=BR s1 s2 s3 t1 t2 hRl hb g6 a6;refine uU zz (hlq _) ?_;(repeat'(first|refine cK ?_|refine nK ?_|(rw[AH];rotate_left 1;omega;simp only[Ty.w,simprocAttr,s1,s2,s3,t1,t2,hRl,hb,g6,a6])|apply zI));exact hI2
 try clear zz
 clear s1 s2 s3 hI q S H;generalize hL1:BK L0 EA (AG dt)=L1 at hW;have hl1:L1.length<=2:=by rw[← hL1];exact Iw (by omega)
 rintro S H ⟨s1,s2,q,s3,hI⟩
 clear hL1 hl0;refine CF (λS H=>S 1= .cptr [A1 dn,.imm 2 (A7 dt),.imm 2 (A7 dc),.imm 2 (Az dp),.imm 4 (Av df),.imm 10 (B0 da),.imm 23 (B1 dd)]/\S 2= .ptr h.next 0 0/\ ∃ q,S 3=q/\Et h (BK L1 EB (AG dc)) q H) ?_ ?_
 ·by_cases hz:dc=[]
  ·have d0:decide ((dc.length:Int)>0)=false:=(by rw[hz];try rfl);rw[show BK L1 EB (AG dc)=L1 by rw[hz];try rfl];replace zz:=AV s1 s2 s3 hlC d0;refine wt zz ?_;first|exact hI|exact⟨s1,s2,q,s3,hI⟩
  ·have d0:decide ((dc.length:Int)>0)=true:=(by have:=List.length_pos_iff.2 hz;simp;omega);have hx:BK L1 EB (AG dc)=L1++[AB (A5 EB::AG dc)]:=by
    cases dc with
    |nil=>exact absurd rfl hz
    |cons a l=>rfl
   rw[hx];have hwq:=hwp dc zc;have hlq:=hli EB (AG dc) (by rw[D9];omega);obtain⟨Hk,t1,t2,t3,hI2⟩:=hI.push (AB (A5 EB::AG dc));have hb:(L1.length+1)*72<=140737488355328:=(by omega);replace zz:=AS s1 s3 hlC d0;refine wt zz ?_;refine uU (uu s1 s3) (hwq _) ?_;refine wt (uu s1 s3) ?_;replace zz:=BR s1 s2 s3 t1 t2 hRl hb g6 a6;refine uU zz (hlq _) ?_;(repeat'(first|refine cK ?_|refine nK ?_|(rw[AH];rotate_left 1;omega;simp only[Ty.w,simprocAttr,s1,s2,s3,t1,t2,hRl,hb,g6,a6])|apply zI));exact hI2
 try clear zz
 clear s1 s2 s3 hI q S H;generalize hL2:BK L1 EB (AG dc)=L2 at hW;have hl2:L2.length<=3:=by rw[← hL2];exact Iw (by omega)
 rintro S H0 ⟨s1,s2,q,s3,hI⟩
 clear hL2 hl1;refine wt (Aj s1 s2 s3) ?_;refine BV (λm S H=>S 1= .cptr [A1 dn,.imm 2 (A7 dt),.imm 2 (A7 dc),.imm 2 (Az dp),.imm 4 (Av df),.imm 10 (B0 da),.imm 23 (B1 dd)]/\S 2= .ptr h.next 0 0/\S 3=q/\ ∃ (k:Nat)(o:PV),S 5= .sc (.int .i64 k)/\S 4=o/\k<=dp.length/\m=dp.length-k/\AL H0 H/\Tl H H0.next 6 o (Sx.rows ((dp.take k).map Bc))) dp.length ?_ ?_
 ·simp only[Ty.w,simprocAttr,s1,s2,s3];exact⟨0,_,rfl,rfl,BX _,rfl,AL.refl _,Tl.nil⟩
 try clear zz
 clear s1 s2 s3 S;rintro m S H ⟨s1,s2,s3,k,o,s5,s4,hk,rfl,hg,tl⟩;by_cases hlt:k<dp.length
 ·have hd:decide ((k:Int)<(dp.length:Int))=true:=by simp;omega
  have w7:IntKind.i64.wrap ((k:Int)+1)=((k+1:Nat):Int):=by rw[B9 (by omega) (by omega)];omega
  obtain⟨x,hx⟩: ∃ x,dp[k]? =some x:=⟨_,List.getElem?_eq_getElem hlt⟩;have hr:=O5 hx;have hpl:=zp.2 x (List.mem_of_getElem? hx);have hwq:=hwp x.params hpl;have hlq:=hli x.name (AG x.params) (by rw[D9];omega);obtain⟨H1,t1,t2,t3,t4,t5⟩:=tl.tail;have hkp:=t5 H0 ⟨hg.le,hg.old⟩ (AF _);have hR:Sx.rows ((dp.take (k+1)).map Bc)=Sx.rows ((dp.take k).map Bc)++[(Bc x).cells]:=by
   rw[List.take_add_one,hx];simp only[Sx.rows_map,List.map_append,Js,List.map_cons,List.map_nil]
  have hpr:(Sx.rows ((dp.take k).map Bc)).length=k:=by rw[Sx.rows_len,List.length_map,List.length_take];omega
  have hb:(k+1)*72<=140737488355328:=by omega
  have e0:AB (A5 x.name::AG x.params)=Bc x:=rfl;rw[e0]at hlq;generalize Bc x=X at hR hlq;generalize Sx.rows ((dp.take k).map Bc)=R at t1 hR hpr tl
  clear hx e0;obtain⟨xn,xp⟩:=x;simp only[F7]at hr hwq hlq;replace zz:=AY s1 s3 s4 s5 hlP hd hr;refine wt zz ?_;replace zz:=AV s1 s3 s4 s5 hr;refine wy zz ?_;replace zz:=B6 s1 s2 s3 s4 s5 hr g6 a6;refine uZ zz (hwq _) ?_;replace zz:=AY s1 s3 s4 s5 hr g6 a6;refine wy zz ?_;replace zz:=AJ s1 s2 s3 s4 s5 hr t1 t2 hpr hb g6 a6;first|refine uV zz (hlq _) ?_|refine uJ zz hlq ?_
  replace zz:=AJ s1 s2 s3 s4 s5 hr t1 t2 hpr hb g6 (uu a6 w7);repeat'(first|refine cK ?_|refine nK ?_|refine uR zz ?_|(refine uN hK ?_;clear hK)|refine uB zz ?_|(rw[AH];rotate_left 1;omega;simp only[Ty.w,simprocAttr,s1,s2,s3,s4,s5,hr,t1,t2,hpr,hb,g6,a6,w7])|apply zI)
  exact⟨dp.length-(k+1),by omega,k+1,_,rfl,rfl,by omega,rfl,(⟨hkp.1,hkp.2⟩:AL H0 H1).new _,by rw[hR, ← t3];exact Tl.grow hkp.1 (by simp[hpr])⟩
 have hd:decide ((k:Int)<(dp.length:Int))=false:=by simp;omega
 have hke:k=dp.length:=by omega
 rw[hke,List.take_length]at tl
 clear hke hlt hk;replace zz:=AY s1 s2 s3 s4 s5 hlP hd;refine xH 11 zz ?_;refine⟨?_⟩;refine JK H0.next [(4,.imm 6 (Sx.rows (dp.map Bc)))] rfl hg.le ?_ ?_
 ·intro x hx;simp only[List.mem_cons,List.not_mem_nil,DO]at hx;subst hx;show AZ H0.next _ _ (S 4)
  rw[s4];exact JT tl
 refine C6 (λS H=>S 1= .cptr [A1 dn,.imm 2 (A7 dt),.imm 2 (A7 dc),.imm 2 (Az dp),.imm 4 (Av df),.imm 10 (B0 da),.imm 23 (B1 dd)]/\S 2= .ptr h.next 0 0/\S 3=q/\S 4= .imm 6 (Sx.rows (dp.map Bc))/\Et h L2 q H) ⟨by simp only[Co,Ty.w,simprocAttr,s1],by simp only[Co,Ty.w,simprocAttr,s2],by simp only[Co,Ty.w,simprocAttr,s3],by simp only[Co,Ty.w,simprocAttr],hI.up (SH hg)⟩ ?_;try clear zz
 clear s1 s2 s3 s4 s5 hI hg tl hd S H o k H0;have hml:(dp.map Bc).length=dp.length:=List.length_map ..;have hlq:=hli ER (dp.map Bc) (by rw[hml];have:=zp.1;omega);have hgr:BK L2 ER (dp.map Bc)=if dp.length=0 then L2 else L2++[AB (A5 ER::dp.map Bc)]:=by
  cases dp<;>simp[BK]
 generalize dp.map Bc=IV at hml hlq hgr hW;rintro S H ⟨s1,s2,s3,s4,hI⟩;have hRV:=hRl IV;refine CF (λS H=>S 1= .cptr [A1 dn,.imm 2 (A7 dt),.imm 2 (A7 dc),.imm 2 (Az dp),.imm 4 (Av df),.imm 10 (B0 da),.imm 23 (B1 dd)]/\S 2= .ptr h.next 0 0/\ ∃ q,S 3=q/\Et h (BK L2 ER IV) q H) ?_ ?_
 ·by_cases hz:dp.length=0
  ·have d0:decide ((IV.length:Int)>0)=false:=(by rw[hml,hz];try rfl);rw[hgr,AH hz];replace zz:=AK s1 s2 s3 s4 hRV d0;refine wt zz ?_;first|exact hI|exact⟨s1,s2,q,s3,hI⟩
  ·have d0:decide ((IV.length:Int)>0)=true:=(by simp;omega);rw[hgr,A4 hz];obtain⟨Hk,t1,t2,t3,hI2⟩:=hI.push (AB (A5 ER::IV));have hb:(L2.length+1)*72<=140737488355328:=(by omega);replace zz:=AK s1 s2 s3 s4 hRV d0;refine wt zz ?_;replace zz:=Aq s1 s2 s3 s4 t1 t2 hRl hb g6 a6;refine uU zz (hlq _) ?_;(repeat'(first|refine cK ?_|refine nK ?_|(rw[AH];rotate_left 1;omega;simp only[Ty.w,simprocAttr,s1,s2,s3,s4,t1,t2,hRl,hb,g6,a6])|apply zI));exact hI2
 try clear zz
 clear s1 s2 s3 s4 hI hRV hlq S H q;generalize hL3:BK L2 ER IV=L3 at hW;have hl3:L3.length<=4:=by rw[← hL3];exact Iw (by omega)
 clear hgr hL3 hl2 hml;rintro S H0 ⟨s1,s2,q,s3,hI⟩;refine wt (Aj s1 s2 s3) ?_;refine BV (λm S H=>S 1= .cptr [A1 dn,.imm 2 (A7 dt),.imm 2 (A7 dc),.imm 2 (Az dp),.imm 4 (Av df),.imm 10 (B0 da),.imm 23 (B1 dd)]/\S 2= .ptr h.next 0 0/\S 3=q/\ ∃ (k:Nat)(o:PV),S 6= .sc (.int .i64 k)/\S 4=o/\k<=df.length/\m=df.length-k/\AL H0 H/\Tl H H0.next 6 o (Sx.rows ((df.take k).map Bg))) df.length ?_ ?_
 ·simp only[Ty.w,simprocAttr,s1,s2,s3];exact⟨0,_,rfl,rfl,BX _,rfl,AL.refl _,Tl.nil⟩
 try clear zz
 clear s1 s2 s3 S;rintro m S H ⟨s1,s2,s3,k,o,s5,s4,hk,rfl,hg,tl⟩;by_cases hlt:k<df.length
 ·have hd:decide ((k:Int)<(df.length:Int))=true:=by simp;omega
  have w7:IntKind.i64.wrap ((k:Int)+1)=((k+1:Nat):Int):=by rw[B9 (by omega) (by omega)];omega
  obtain⟨x,hx⟩: ∃ x,df[k]? =some x:=⟨_,List.getElem?_eq_getElem hlt⟩;have hr:=O6 hx;have hpl:=zf.2 x (List.mem_of_getElem? hx);have hR:Sx.rows ((df.take (k+1)).map Bg)=Sx.rows ((df.take k).map Bg)++[(Bg x).cells]:=by
   rw[List.take_add_one,hx];simp only[Sx.rows_map,List.map_append,Js,List.map_cons,List.map_nil]
  have hpr:(Sx.rows ((df.take k).map Bg)).length=k:=by rw[Sx.rows_len,List.length_map,List.length_take];omega
  have hb:(k+1)*72<=140737488355328:=by omega
  have hX:Bg x=AB (A5 x.name::(AG x.params++[BN x.lo,BN x.hi])):=rfl;generalize Bg x=X at hR hX;generalize Sx.rows ((df.take k).map Bg)=R at hR hpr tl
  clear hx;obtain⟨xn,xp,xl,xh⟩:=x;simp only at hX hpl;simp only[F8]at hr;replace zz:=AY s1 s3 s4 s5 hlF hd hr;refine xB 18 zz ?_;refine⟨?_⟩;refine JW 7 rfl (sq A2) (λn H=>by simp only[B4];exact⟨Ca,Bz (Ed n _),Ca,Ca,trivial⟩) ?_;refine C6 (λS H=>S 1= .cptr [A1 dn,.imm 2 (A7 dt),.imm 2 (A7 dc),.imm 2 (Az dp),.imm 4 (Av df),.imm 10 (B0 da),.imm 23 (B1 dd)]/\S 2= .ptr h.next 0 0/\S 3=q/\S 6= .sc (.int .i64 k)/\S 4=o/\S 7= .cptr [A1 xn,.imm 2 (A7 xp),.sc (.int .i64 xl),.sc (.int .i64 xh)]/\AL H0 H/\Tl H H0.next 6 o R/\ ∀ i,H.next<=i->H.obj i=none) ?_ ?_
  ·refine ⟨sq s1,sq s2,sq s3,sq s5,sq s4,sq A2,hg.tmp _ _,tl.tmp _ _,λi hi=>?_⟩;rw[Gl]at hi;simp only[GQ,DI];rw[A4 (by omega)]
  clear s1 s2 s3 s4 s5 hg tl hr hd;rintro S H ⟨s1,s2,s3,s5,s4,s7,hg,tl,hno⟩;have hwo:=cF hpl H hno;obtain⟨w1,w2⟩:=TR hno xp;have hwl:(Sx.rows (AG xp)).length=3*xp.length:=by rw[Sx.rows_len,D9]
  have hwb:(3*xp.length+2)*72<=140737488355328:=by omega
  have hn1:=λh:A0=>NP (h:=h) (n:=xl);have hn2:=λh:A0=>NP (h:=h) (n:=xh);have hRW:Sx.rows (AG xp++[BN xl,BN xh])=Sx.rows (AG xp)++[[.sc (.int .i64 2),.sc (.int .i64 xl),.sc (.int .i64 0),.sc (.int .i64 0),A1 ⟨#[]⟩,.imm 6 []],[.sc (.int .i64 2),.sc (.int .i64 xh),.sc (.int .i64 0),.sc (.int .i64 0),A1 ⟨#[]⟩,.imm 6 []]]:=by simp[Sx.rows_map,BN,Sx.cells,Sx.rows]
  simp only[BN,Sx.cells,Sx.rows]at hn1 hn2;have hlo:=PX (s:=xn) (l:=AG xp++[BN xl,BN xh]) (j:=H.next+xp.length) (by rw[List.length_append,D9];simp;omega) (h:=A0.new ⟨H.next+xp.length,H.obj⟩ (.arr 6 (Sx.rows (AG xp++[BN xl,BN xh])))) (by simp only[A0.new,AC]) (by simp only[A0.new];omega);have hll:(AG xp++[BN xl,BN xh]).length=3*xp.length+2:=by rw[List.length_append,D9];try rfl
  rw[← hX,hll,hRW]at hlo;have tl2:Tl (A0.new ⟨H.next+xp.length,H.obj⟩ (.arr 6 (Sx.rows (AG xp)++[[.sc (.int .i64 2),.sc (.int .i64 xl),.sc (.int .i64 0),.sc (.int .i64 0),A1 ⟨#[]⟩,.imm 6 []],[.sc (.int .i64 2),.sc (.int .i64 xh),.sc (.int .i64 0),.sc (.int .i64 0),A1 ⟨#[]⟩,.imm 6 []]]))) H0.next 6 o R:=tl.up (by simp only[A0.new];omega) λi h1 h2=>by simp only[A0.new];rw[A4 (by omega)]
  have hg2:AL H0 (A0.new ⟨H.next+xp.length,H.obj⟩ (.arr 6 (Sx.rows (AG xp)++[[.sc (.int .i64 2),.sc (.int .i64 xl),.sc (.int .i64 0),.sc (.int .i64 0),A1 ⟨#[]⟩,.imm 6 []],[.sc (.int .i64 2),.sc (.int .i64 xh),.sc (.int .i64 0),.sc (.int .i64 0),A1 ⟨#[]⟩,.imm 6 []]]))):=⟨by simp only[A0.new];have:=hg.le;omega,λi hi=>by simp only[A0.new];rw[A4 (by have:=hg.le;omega)];exact hg.old i hi⟩;obtain⟨H1,t1,t2,t3,t4,t5⟩:=tl2.tail;have hkp:=t5 H0 ⟨hg2.le,hg2.old⟩ (AF _);have w0:(Hb H xp).next=H.next+xp.length:=TS H xp
  have e3:H1.next=H.next+xp.length+1:=t3
  generalize Sx.rows (AG xp)=RW at*;generalize Hb H xp=HW at*;generalize IF H xp=vW at*
  clear hRW hll hX;obtain⟨yk,yv,yl,yc,yt,ys⟩:=X;simp only[Sx.cells]at hlo hR;replace zz:=AV s1 s3 s4 s5 s7;refine wy zz ?_;refine JJ (hwo) (by(try simp only[Ty.w,simprocAttr,s1,s2,s3,s4,s5,s7,w0,w1,w2,hwl,hwb]);try rfl) (by(try simp(maxSteps:=4000000) only[Ty.w,simprocAttr,CX,List.map_cons,List.map_nil,List.forall_mem_cons,s1,s2,s3,s4,s5,s7,w0,w1,w2,hwl,hwb])<;>((repeat' apply And.intro)<;>first|trivial|exact .inl (by decide+kernel)|exact .inr A2|exact .inr (by simp only[Ty.w,simprocAttr,s1,s2,s3,s4,s5,s7,w0,w1,w2,hwl,hwb])|exact(λ_ hx=>by cases hx))) ?_;simp only[Ty.w,simprocAttr,Bm,s1,s2,s3,s4,s5,s7,w0,w1,w2,hwl,hwb];repeat'(first|refine cK ?_|(refine nK ?_;try exact zI))
  (first|refine O4 (hn1 _) (by(try simp only[Ty.w,simprocAttr,s1,s3,s4,s5,s7,w0,w1,w2,hwl,hwb]);try rfl) ?_|refine IT (hn1 _) (by(try simp only[Ty.w,simprocAttr,s1,s3,s4,s5,s7,w0,w1,w2,hwl,hwb]);try rfl) (by(try simp(maxSteps:=4000000) only[List.map_cons,List.map_nil,List.forall_mem_cons,s1,s3,s4,s5,s7,w0,w1,w2,hwl,hwb])<;>((repeat' apply And.intro)<;>first|trivial|exact .inl (by decide+kernel)|exact .inr A2|exact .inr (C9 (hn1 _) (by(try simp only[Ty.w,simprocAttr,s1,s3,s4,s5,s7,w0,w1,w2,hwl,hwb]);try rfl))|exact(λ_ hx=>by cases hx))) ?_);simp only[Ty.w,simprocAttr,Bm,s1,s3,s4,s5,s7,w0,w1,w2,hwl,hwb]
  repeat'(first|refine cK ?_|(refine nK ?_;try exact zI))
  (first|refine O4 (hn2 _) (by(try simp only[Ty.w,simprocAttr,s1,s3,s4,s5,s7,w0,w1,w2,hwl,hwb]);try rfl) ?_|refine IT (hn2 _) (by(try simp only[Ty.w,simprocAttr,s1,s3,s4,s5,s7,w0,w1,w2,hwl,hwb]);try rfl) (by(try simp(maxSteps:=4000000) only[List.map_cons,List.map_nil,List.forall_mem_cons,s1,s3,s4,s5,s7,w0,w1,w2,hwl,hwb])<;>((repeat' apply And.intro)<;>first|trivial|exact .inl (by decide+kernel)|exact .inr A2|exact .inr (C9 (hn2 _) (by(try simp only[Ty.w,simprocAttr,s1,s3,s4,s5,s7,w0,w1,w2,hwl,hwb]);try rfl))|exact(λ_ hx=>by cases hx))) ?_);simp only[Ty.w,simprocAttr,Bm,s1,s3,s4,s5,s7,w0,w1,w2,hwl,hwb]
  repeat'(first|refine cK ?_|(refine nK ?_;try exact zI)|(with_reducible refine Qx (by simp only[List.forall_mem_cons,Ty.w,simprocAttr,s1,s3,s4,s5,s7,w0,w1,w2,hwl,hwb]<;>(repeat' apply And.intro)<;>first|trivial|exact .inl (by decide+kernel)) ?_;try simp only[Ty.w,simprocAttr,s1,s3,s4,s5,s7,w0,w1,w2,hwl,hwb]))
  replace zz:=BR s1 s3 s4 s5 s7 t1 t2 hpr hb;first|refine uV zz (hlo) ?_|refine Mn zz (hlo) ?_
  replace zz:=Aq s1 s2 s3 s4 s5 t1 t2 hpr hb w7;repeat'(first|refine cK ?_|refine nK ?_|refine uR zz ?_|(refine uN hK ?_;clear hK)|refine uB zz ?_|(rw[AH];rotate_left 1;omega;simp only[Ty.w,simprocAttr,s1,s2,s3,s4,s5,t1,t2,hpr,hb,w7])|apply zI)
  exact⟨df.length-(k+1),by omega,k+1,_,rfl,rfl,by omega,rfl,(⟨hkp.1,hkp.2⟩:AL H0 H1).new _,by rw[hR, ← e3];exact Tl.grow hkp.1 (by simp[hpr])⟩
 have hd:decide ((k:Int)<(df.length:Int))=false:=by simp;omega
 have hke:k=df.length:=by omega
 rw[hke,List.take_length]at tl
 clear hke hlt hk;replace zz:=AY s1 s2 s3 s4 s5 hlF hd;refine xH 19 zz ?_;refine⟨?_⟩;refine JK H0.next [(4,.imm 6 (Sx.rows (df.map Bg)))] rfl hg.le ?_ ?_
 ·intro x hx;simp only[List.mem_cons,List.not_mem_nil,DO]at hx;subst hx;show AZ H0.next _ _ (S 4)
  rw[s4];exact JT tl
 refine C6 (λS H=>S 1= .cptr [A1 dn,.imm 2 (A7 dt),.imm 2 (A7 dc),.imm 2 (Az dp),.imm 4 (Av df),.imm 10 (B0 da),.imm 23 (B1 dd)]/\S 2= .ptr h.next 0 0/\S 3=q/\S 4= .imm 6 (Sx.rows (df.map Bg))/\Et h L3 q H) ⟨by simp only[Co,Ty.w,simprocAttr,s1],by simp only[Co,Ty.w,simprocAttr,s2],by simp only[Co,Ty.w,simprocAttr,s3],by simp only[Co,Ty.w,simprocAttr],hI.up (SH hg)⟩ ?_;try clear zz
 clear s1 s2 s3 s4 s5 hI hg tl hd S H o k H0;have hml:(df.map Bg).length=df.length:=List.length_map ..;have hlq:=hli EC (df.map Bg) (by rw[hml];have:=zf.1;omega);have hgr:BK L3 EC (df.map Bg)=if df.length=0 then L3 else L3++[AB (A5 EC::df.map Bg)]:=by
  cases df<;>simp[BK]
 generalize df.map Bg=IV at hml hlq hgr hW;rintro S H ⟨s1,s2,s3,s4,hI⟩;have hRV:=hRl IV;refine CF (λS H=>S 1= .cptr [A1 dn,.imm 2 (A7 dt),.imm 2 (A7 dc),.imm 2 (Az dp),.imm 4 (Av df),.imm 10 (B0 da),.imm 23 (B1 dd)]/\S 2= .ptr h.next 0 0/\ ∃ q,S 3=q/\Et h (BK L3 EC IV) q H) ?_ ?_
 ·by_cases hz:df.length=0
  ·have d0:decide ((IV.length:Int)>0)=false:=(by rw[hml,hz];try rfl);rw[hgr,AH hz];replace zz:=AK s1 s2 s3 s4 hRV d0;refine wt zz ?_;first|exact hI|exact⟨s1,s2,q,s3,hI⟩
  ·have d0:decide ((IV.length:Int)>0)=true:=(by simp;omega);rw[hgr,A4 hz];obtain⟨Hk,t1,t2,t3,hI2⟩:=hI.push (AB (A5 EC::IV));have hb:(L3.length+1)*72<=140737488355328:=(by omega);replace zz:=AK s1 s2 s3 s4 hRV d0;refine wt zz ?_;replace zz:=Aq s1 s2 s3 s4 t1 t2 hRl hb g6 a6;refine uU zz (hlq _) ?_;(repeat'(first|refine cK ?_|refine nK ?_|(rw[AH];rotate_left 1;omega;simp only[Ty.w,simprocAttr,s1,s2,s3,s4,t1,t2,hRl,hb,g6,a6])|apply zI));exact hI2
 try clear zz
 clear s1 s2 s3 s4 hI hRV hlq S H q;generalize hL4:BK L3 EC IV=L4 at hW;have hl4:L4.length<=5:=by rw[← hL4];exact Iw (by omega)
 clear hgr hL4 hl3 hml;rintro S H0 ⟨s1,s2,q,s3,hI⟩;refine xG 21 (Aj s1 s2 s3) ?_;refine⟨?_⟩;refine C6 (λS H=>S 1= .cptr [A1 dn,.imm 2 (A7 dt),.imm 2 (A7 dc),.imm 2 (Az dp),.imm 4 (Av df),.imm 10 (B0 da),.imm 23 (B1 dd)]/\S 2= .ptr h.next 0 0/\ ∃ q,S 3=q/\Et h L4 q H) ⟨sq s1,sq s2,q,sq s3,hI⟩ ?_;try clear zz
 clear s1 s2 s3 hI q S;rintro S H ⟨s1,s2,q,s3,hI⟩;refine wt (Aj s1 s2 s3) ?_;refine BV (λm S H=>S 1= .cptr [A1 dn,.imm 2 (A7 dt),.imm 2 (A7 dc),.imm 2 (Az dp),.imm 4 (Av df),.imm 10 (B0 da),.imm 23 (B1 dd)]/\S 2= .ptr h.next 0 0/\ ∃ (k:Nat)(q:PV),S 8= .sc (.int .i64 k)/\S 3=q/\k<=da.length/\m=da.length-k/\Et h (L4++(da.take k).map DN) q H) da.length ?_ ?_
 ·simp only[Ty.w,simprocAttr,s1,s2,s3];exact⟨0,q,rfl,rfl,BX _,rfl,by rw[List.take_zero,List.map_nil,List.append_nil];exact hI⟩
 try clear zz
 clear s1 s2 s3 hI q S H;rintro m S H0 ⟨s1,s2,k,q,sI,s3,hk,rfl,hI⟩;by_cases hlt:k<da.length
 ·have hd:decide ((k:Int)<(da.length:Int))=true:=by simp;omega
  have zl:=za.1;have w7:IntKind.i64.wrap ((k:Int)+1)=((k+1:Nat):Int):=by rw[B9 (by omega) (by omega)];omega
  obtain⟨x,hx⟩: ∃ x,da[k]? =some x:=⟨_,List.getElem?_eq_getElem hlt⟩;have hr:=Mb hx;have hmem:=List.mem_of_getElem? hx;have hs:=za.2 x hmem;have ho:=oa;have hok:=ho.2 x hmem;have hRx:=ra x hmem;have hta:L4++(da.take (k+1)).map DN=(L4++(da.take k).map DN)++[DN x]:=by
   rw[List.take_add_one,hx,List.append_assoc];simp
  have hLl:(L4++(da.take k).map DN).length<=4194304:=by
   rw[List.length_append,List.length_map,List.length_take];omega
  generalize L4++(da.take k).map DN=LA at hLl hta hI
  clear ho hx hmem;obtain⟨xn,xp,xc,⟨gop,gna,gar,gpa,gex,gki⟩,xch⟩:=x;unfold Dy at hRx;simp only[AT]at hRx;obtain⟨_,_,_,_,rf,rc⟩:=hRx;simp only[EJ,Fm.cells,List.cons_append,List.nil_append]at hr;have hwq:=hwp xp hs.params;have hlq:(A7 xp).length=xp.length:=EX xp;have hnq:=λh:A0=>NP (h:=h) (n:=xc);simp only[BN,Sx.cells,Sx.rows]at hnq;have hT3:=λh:A0=>Lk (.mk gop gna gar gpa gex gki) h;have hF3:=λh:A0=>KR (.mk gop gna gar gpa gex gki) hs.pre rf h;simp only[Fm.cells]at hT3 hF3;generalize hU3:Cz (.mk gop gna gar gpa gex gki)=T3 at hT3;generalize hV3:Aa (.mk gop gna gar gpa gex gki)=V3 at hF3;have hE4:=λh:A0=>PT (l:=xch) hs.chs (λc hc h=>PS (List.all_eq_true.1 rc c hc) (hok.changes.2 c hc) (hs.ch c hc).cond (hs.ch c hc).value (hs.ch c hc).args (hs.ch c hc).params h) h;have hc4:(Ay xch).length=xch.length:=HG xch;generalize hV4:D1 xch=V4 at hE4;replace zz:=AK s1 s3 sI hlA hd hr;refine xG 25 zz ?_;refine⟨?_⟩;refine JW 9 rfl (sq A2) (λn H=>by simp only[B4];exact⟨Ca,Bz (Ed n _),Ca,Ca,Ca,Bz (GP n _),Bz (Ed n _),Bz (GR n _),Bz (HR n _),Bz (Jn n _),trivial⟩) ?_;refine C6 (λS H=>S 1= .cptr [A1 dn,.imm 2 (A7 dt),.imm 2 (A7 dc),.imm 2 (Az dp),.imm 4 (Av df),.imm 10 (B0 da),.imm 23 (B1 dd)]/\S 2= .ptr h.next 0 0/\S 3=q/\S 8= .sc (.int .i64 k)/\S 9= .cptr [A1 xn,.imm 2 (A7 xp),.sc (.int .i64 xc),A1 gop,A1 gna,.imm 1 (AP gar),.imm 2 (A7 gpa),.imm 5 (Ex.rows gex),.imm 6 (Fm.rows gki),.imm 15 (Ay xch)]/\AL H0 H) ⟨sq s1,sq s2,sq s3,sq sI,sq A2,(AL.refl H0).tmp _ _⟩ ?_
  clear s1 s2 s3 sI hr hd;rintro S H ⟨s1,s2,s3,sI,sA,hg⟩;refine wt sA ?_;refine uU sA (hwd _ _) ?_;refine xG 26 sA ?_;refine⟨?_⟩;refine C6 (λS H=>S 1= .cptr [A1 dn,.imm 2 (A7 dt),.imm 2 (A7 dc),.imm 2 (Az dp),.imm 4 (Av df),.imm 10 (B0 da),.imm 23 (B1 dd)]/\S 2= .ptr h.next 0 0/\S 3=q/\S 8= .sc (.int .i64 k)/\S 9= .cptr [A1 xn,.imm 2 (A7 xp),.sc (.int .i64 xc),A1 gop,A1 gna,.imm 1 (AP gar),.imm 2 (A7 gpa),.imm 5 (Ex.rows gex),.imm 6 (Fm.rows gki),.imm 15 (Ay xch)]/\ ∃ j,S 4= .own j 0 ([A5 xn]).length/\FV H0 j ([A5 xn]) H) ⟨sq s1,sq s2,sq s3,sq sI,sq sA,H.next,by simp only[Ty.w,simprocAttr]<;>rfl,hg.new _,hg.le,by simp only[A0.new];omega,by simp only[A0.new,AC,A5,Sx.cells,Sx.rows]⟩ ?_
  clear s1 s2 s3 sI sA hg;rintro S H ⟨s1,s2,s3,sI,sA,j,s4,hS⟩;generalize hM0:[A5 xn]=M0 at s4 hS;have hm0:M0.length<=1:=by rw[← hM0];exact AF _
  have hso:=Gy (h:=H) (j:=j) (L:=M0) (kw:=Cr) (v:=AB (AG xp)) (m:=(xp.length:Int)==0) hS.oj (by omega);obtain⟨j2,e2,hS2⟩:=hS.some Cr (AB (AG xp)) ((xp.length:Int)==0);rw[e2]at hso;generalize(if((xp.length:Int)==0)=true then H else EY H j (M0++[A5 Cr,AB (AG xp)]))=H2 at hso hS2;generalize hM1:An M0 ((xp.length:Int)==0) Cr (AB (AG xp))=M1 at hso hS2;have hm1:M1.length<=3:=by rw[← hM1];exact E0 hm0
  have hoj:=hS.oj;simp only[AB,Sx.cells]at hso;replace zz:=AK s1 s3 s4 sI sA hlq;refine wy zz ?_;replace zz:=AY s1 s3 s4 sI sA hlq hoj;refine uZ zz (hwq _) ?_;refine wy zz ?_;replace zz:=AY s1 s3 s4 sI sA hlq hoj;refine uZ zz (hso) ?_;refine xM 27 zz ?_;refine⟨?_⟩;refine C6 (λS H=>S 1= .cptr [A1 dn,.imm 2 (A7 dt),.imm 2 (A7 dc),.imm 2 (Az dp),.imm 4 (Av df),.imm 10 (B0 da),.imm 23 (B1 dd)]/\S 2= .ptr h.next 0 0/\S 3=q/\S 8= .sc (.int .i64 k)/\S 9= .cptr [A1 xn,.imm 2 (A7 xp),.sc (.int .i64 xc),A1 gop,A1 gna,.imm 1 (AP gar),.imm 2 (A7 gpa),.imm 5 (Ex.rows gex),.imm 6 (Fm.rows gki),.imm 15 (Ay xch)]/\ ∃ j,S 4= .own j 0 (M1).length/\FV H0 j (M1) H) ⟨sq s1,sq s2,sq s3,sq sI,sq sA,j2,sq A2,hS2⟩ ?_
  clear s1 s2 s3 sI sA s4 hS hS2 hso hoj e2 hm0;rintro S H ⟨s1,s2,s3,sI,sA,j,s4,hS⟩;have hso:=Gy (h:=H) (j:=j) (L:=M1) (kw:=FF) (v:=BN xc) (m:=xc==1) hS.oj (by omega);obtain⟨j2,e2,hS2⟩:=hS.some FF (BN xc) (xc==1);rw[e2]at hso;generalize(if(xc==1)=true then H else EY H j (M1++[A5 FF,BN xc]))=H2 at hso hS2;generalize hM2:An M1 (xc==1) FF (BN xc)=M2 at hso hS2;have hm2:M2.length<=5:=by rw[← hM2];exact E0 hm1
  have hoj:=hS.oj;simp only[BN,Sx.cells,Sx.rows]at hso;replace zz:=AV s1 s3 s4 sI sA;refine wy zz ?_;replace zz:=AK s1 s3 s4 sI sA hoj;first|refine uV zz (hnq _) ?_|refine uJ zz hnq ?_
  refine wy zz ?_;replace zz:=AK s1 s3 s4 sI sA hoj;refine uZ zz (hso) ?_;refine xM 28 zz ?_;refine⟨?_⟩;refine C6 (λS H=>S 1= .cptr [A1 dn,.imm 2 (A7 dt),.imm 2 (A7 dc),.imm 2 (Az dp),.imm 4 (Av df),.imm 10 (B0 da),.imm 23 (B1 dd)]/\S 2= .ptr h.next 0 0/\S 3=q/\S 8= .sc (.int .i64 k)/\S 9= .cptr [A1 xn,.imm 2 (A7 xp),.sc (.int .i64 xc),A1 gop,A1 gna,.imm 1 (AP gar),.imm 2 (A7 gpa),.imm 5 (Ex.rows gex),.imm 6 (Fm.rows gki),.imm 15 (Ay xch)]/\ ∃ j,S 4= .own j 0 (M2).length/\FV H0 j (M2) H) ⟨sq s1,sq s2,sq s3,sq sI,sq sA,j2,sq A2,hS2⟩ ?_
  clear s1 s2 s3 sI sA s4 hS hS2 hso hoj e2 hm1;rintro S H ⟨s1,s2,s3,sI,sA,j,s4,hS⟩;have hso:=Gy (h:=H) (j:=j) (L:=M2) (kw:=FP) (v:=V3) (m:=T3) hS.oj (by omega);obtain⟨j2,e2,hS2⟩:=hS.some FP (V3) (T3);rw[e2]at hso;generalize(if(T3)=true then H else EY H j (M2++[A5 FP,V3]))=H2 at hso hS2;generalize hM3:An M2 (T3) FP (V3)=M3 at hso hS2;have hm3:M3.length<=7:=by rw[← hM3];exact E0 hm2
  have hoj:=hS.oj;obtain⟨yk,yv,yl,yc,yt,ys⟩:=V3;simp only[Sx.cells]at hso hF3;replace zz:=AV s1 s3 s4 sI sA;refine wy zz ?_;replace zz:=AK s1 s3 s4 sI sA hoj;first|refine uV zz (hT3 _) ?_|refine uJ zz hT3 ?_
  refine wy zz ?_;replace zz:=AK s1 s3 s4 sI sA hoj;first|refine uV zz (hF3 _) ?_|refine uJ zz hF3 ?_
  refine wy zz ?_;replace zz:=AK s1 s3 s4 sI sA hoj;refine uZ zz (hso) ?_;refine xM 29 zz ?_;refine⟨?_⟩;refine C6 (λS H=>S 1= .cptr [A1 dn,.imm 2 (A7 dt),.imm 2 (A7 dc),.imm 2 (Az dp),.imm 4 (Av df),.imm 10 (B0 da),.imm 23 (B1 dd)]/\S 2= .ptr h.next 0 0/\S 3=q/\S 8= .sc (.int .i64 k)/\S 9= .cptr [A1 xn,.imm 2 (A7 xp),.sc (.int .i64 xc),A1 gop,A1 gna,.imm 1 (AP gar),.imm 2 (A7 gpa),.imm 5 (Ex.rows gex),.imm 6 (Fm.rows gki),.imm 15 (Ay xch)]/\ ∃ j,S 4= .own j 0 (M3).length/\FV H0 j (M3) H) ⟨sq s1,sq s2,sq s3,sq sI,sq sA,j2,sq A2,hS2⟩ ?_
  clear s1 s2 s3 sI sA s4 hS hS2 hso hoj e2 hm2;rintro S H ⟨s1,s2,s3,sI,sA,j,s4,hS⟩;have hso:=Gy (h:=H) (j:=j) (L:=M3) (kw:=FQ) (v:=V4) (m:=(xch.length:Int)==0) hS.oj (by omega);obtain⟨j2,e2,hS2⟩:=hS.some FQ (V4) ((xch.length:Int)==0);rw[e2]at hso;generalize(if((xch.length:Int)==0)=true then H else EY H j (M3++[A5 FQ,V4]))=H2 at hso hS2;generalize hM4:An M3 ((xch.length:Int)==0) FQ (V4)=M4 at hso hS2;have hm4:M4.length<=9:=by rw[← hM4];exact E0 hm3
  have hoj:=hS.oj;have hlo:=PX (s:=Ee) (l:=M4) (j:=j2) (by omega) hS2.oj hS2.hi;have hX:DN ⟨xn,xp,xc,⟨gop,gna,gar,gpa,gex,gki⟩,xch⟩=AB (A5 Ee::M4):=by
   unfold DN F3;simp only;rw[hU3,hV3,hV4,hM0,hM1,hM2,hM3,hM4]
  rw[← hX]at hlo;generalize DN ⟨xn,xp,xc,⟨gop,gna,gar,gpa,gex,gki⟩,xch⟩=X at hlo hta;obtain⟨Hk,t1,t2,t3,hI2⟩:=(hI.up hS2.grow).push X;have hb:(LA.length+1)*72<=140737488355328:=by omega
  have hbr:(Sx.rows LA).length=LA.length:=hRl LA
  clear hX hS2;obtain⟨yk,yv,yl,yc,yt,ys⟩:=V4;simp only[Sx.cells]at hso hE4;replace zz:=AK s1 s3 s4 sI sA hc4;refine wy zz ?_;replace zz:=AY s1 s3 s4 sI sA hc4 hoj;first|refine uV zz (hE4 _) ?_|refine uJ zz hE4 ?_
  refine wy zz ?_;replace zz:=AY s1 s3 s4 sI sA hc4 hoj;refine uZ zz (hso) ?_;refine wy zz ?_;obtain⟨zk,zv,zl',zc',zt',zs⟩:=X;simp only[Sx.cells]at hlo hI2;replace zz:=B6 s1 s2 s3 sI t1 t2 hbr hb;refine uU zz (hlo) ?_;replace zz:=BR s1 s2 s3 sI t1 t2 hbr hb w7;refine wt zz ?_;exact⟨da.length-(k+1),by omega,k+1,_,rfl,rfl,by omega,rfl,by rw[hta];exact hI2⟩
 have hd:decide ((k:Int)<(da.length:Int))=false:=by simp;omega
 obtain rfl:k=da.length:=by omega
 rw[List.take_length]at hI;replace zz:=AK s1 s2 s3 sI hlA hd;refine xB 31 zz ?_;refine⟨?_⟩;refine C6 (λS H=>S 1= .cptr [A1 dn,.imm 2 (A7 dt),.imm 2 (A7 dc),.imm 2 (Az dp),.imm 4 (Av df),.imm 10 (B0 da),.imm 23 (B1 dd)]/\S 2= .ptr h.next 0 0/\ ∃ q,S 3=q/\Et h (L4++da.map DN) q H) ⟨sq s1,sq s2,q,sq s3,hI⟩ ?_;try clear zz
 clear s1 s2 s3 sI hI hd hlt hk q S;have hl5:(L4++da.map DN).length<=1048600:=by
  rw[List.length_append,List.length_map];have:=za.1;omega
 generalize hL5:L4++da.map DN=L5 at hW hl5
 clear hL5 hl4;rintro S H ⟨s1,s2,q,s3,hI⟩;refine wt (Aj s1 s2 s3) ?_;refine BV (λm S H=>S 1= .cptr [A1 dn,.imm 2 (A7 dt),.imm 2 (A7 dc),.imm 2 (Az dp),.imm 4 (Av df),.imm 10 (B0 da),.imm 23 (B1 dd)]/\S 2= .ptr h.next 0 0/\ ∃ (k:Nat)(q:PV),S 10= .sc (.int .i64 k)/\S 3=q/\k<=dd.length/\m=dd.length-k/\Et h (L5++(dd.take k).map DD) q H) dd.length ?_ ?_
 ·simp only[Ty.w,simprocAttr,s1,s2,s3];exact⟨0,q,rfl,rfl,BX _,rfl,by rw[List.take_zero,List.map_nil,List.append_nil];exact hI⟩
 try clear zz
 clear s1 s2 s3 hI q S H;rintro m S H0 ⟨s1,s2,k,q,sI,s3,hk,rfl,hI⟩;by_cases hlt:k<dd.length
 ·have hd:decide ((k:Int)<(dd.length:Int))=true:=by simp;omega
  have zl:=zd.1;have w7:IntKind.i64.wrap ((k:Int)+1)=((k+1:Nat):Int):=by rw[B9 (by omega) (by omega)];omega
  obtain⟨x,hx⟩: ∃ x,dd[k]? =some x:=⟨_,List.getElem?_eq_getElem hlt⟩;have hr:=Md hx;have hmem:=List.mem_of_getElem? hx;have hs:=zd.2 x hmem;have ho:=od;have hok:=ho.2 x hmem;have hRx:=rd x hmem;have hta:L5++(dd.take (k+1)).map DD=(L5++(dd.take k).map DD)++[DD x]:=by
   rw[List.take_add_one,hx,List.append_assoc];simp
  have hLl:(L5++(dd.take k).map DD).length<=4194304:=by
   rw[List.length_append,List.length_map,List.length_take];omega
  generalize L5++(dd.take k).map DD=LA at hLl hta hI
  clear ho hx hmem;obtain⟨xn,xp,xc,⟨gop,gna,gar,gpa,gex,gki⟩,⟨kop,kna,kar,kpa,kex,kki⟩,⟨lop,lna,lar,lpa,lex,lki⟩,xch,ych⟩:=x;unfold DY at hRx;simp only[AT]at hRx;obtain⟨_,_,_,rc1,rc2,rf1,rf2,rf3⟩:=hRx;simp only[EK,Fm.cells,List.cons_append,List.nil_append]at hr;have hwq:=hwp xp hs.params;have hlq:(A7 xp).length=xp.length:=EX xp;have hnq:=λh:A0=>NP (h:=h) (n:=xc);simp only[BN,Sx.cells,Sx.rows]at hnq;have hT3:=λh:A0=>Lk (.mk gop gna gar gpa gex gki) h;have hF3:=λh:A0=>KR (.mk gop gna gar gpa gex gki) hs.start rf1 h;simp only[Fm.cells]at hT3 hF3;generalize hU3:Cz (.mk gop gna gar gpa gex gki)=T3 at hT3;generalize hV3:Aa (.mk gop gna gar gpa gex gki)=V3 at hF3;have hT4:=λh:A0=>Lk (.mk kop kna kar kpa kex kki) h;have hF4:=λh:A0=>KR (.mk kop kna kar kpa kex kki) hs.over rf2 h;simp only[Fm.cells]at hT4 hF4;generalize hU4:Cz (.mk kop kna kar kpa kex kki)=T4 at hT4;generalize hV4:Aa (.mk kop kna kar kpa kex kki)=V4 at hF4;have hT5:=λh:A0=>Lk (.mk lop lna lar lpa lex lki) h;have hF5:=λh:A0=>KR (.mk lop lna lar lpa lex lki) hs.stop rf3 h;simp only[Fm.cells]at hT5 hF5;generalize hU5:Cz (.mk lop lna lar lpa lex lki)=T5 at hT5;generalize hV5:Aa (.mk lop lna lar lpa lex lki)=V5 at hF5;have hE6:=λh:A0=>PT (l:=xch) hs.atS.1 (λc hc h=>PS (List.all_eq_true.1 rc1 c hc) (hok.atStart.2 c hc) (hs.atS.2 c hc).cond (hs.atS.2 c hc).value (hs.atS.2 c hc).args (hs.atS.2 c hc).params h) h;have hc6:(Ay xch).length=xch.length:=HG xch;generalize hV6:D1 xch=V6 at hE6;have hE7:=λh:A0=>PT (l:=ych) hs.atE.1 (λc hc h=>PS (List.all_eq_true.1 rc2 c hc) (hok.atStop.2 c hc) (hs.atE.2 c hc).cond (hs.atE.2 c hc).value (hs.atE.2 c hc).args (hs.atE.2 c hc).params h) h;have hc7:(Ay ych).length=ych.length:=HG ych;generalize hV7:D1 ych=V7 at hE7;replace zz:=AK s1 s3 sI hlD hd hr;refine xG 35 zz ?_;refine⟨?_⟩;refine JW 11 rfl (sq A2) (λn H=>by simp only[B4];exact⟨Ca,Bz (Ed n _),Ca,Ca,Ca,Bz (GP n _),Bz (Ed n _),Bz (GR n _),Bz (HR n _),Ca,Ca,Bz (GP n _),Bz (Ed n _),Bz (GR n _),Bz (HR n _),Ca,Ca,Bz (GP n _),Bz (Ed n _),Bz (GR n _),Bz (HR n _),Bz (Jn n _),Bz (Jn n _),trivial⟩) ?_;refine C6 (λS H=>S 1= .cptr [A1 dn,.imm 2 (A7 dt),.imm 2 (A7 dc),.imm 2 (Az dp),.imm 4 (Av df),.imm 10 (B0 da),.imm 23 (B1 dd)]/\S 2= .ptr h.next 0 0/\S 3=q/\S 10= .sc (.int .i64 k)/\S 11= .cptr [A1 xn,.imm 2 (A7 xp),.sc (.int .i64 xc),A1 gop,A1 gna,.imm 1 (AP gar),.imm 2 (A7 gpa),.imm 5 (Ex.rows gex),.imm 6 (Fm.rows gki),A1 kop,A1 kna,.imm 1 (AP kar),.imm 2 (A7 kpa),.imm 5 (Ex.rows kex),.imm 6 (Fm.rows kki),A1 lop,A1 lna,.imm 1 (AP lar),.imm 2 (A7 lpa),.imm 5 (Ex.rows lex),.imm 6 (Fm.rows lki),.imm 15 (Ay xch),.imm 15 (Ay ych)]/\AL H0 H) ⟨sq s1,sq s2,sq s3,sq sI,sq A2,(AL.refl H0).tmp _ _⟩ ?_
  clear s1 s2 s3 sI hr hd;rintro S H ⟨s1,s2,s3,sI,sA,hg⟩;refine wt sA ?_;refine uU sA (hwd _ _) ?_;refine xG 36 sA ?_;refine⟨?_⟩;refine C6 (λS H=>S 1= .cptr [A1 dn,.imm 2 (A7 dt),.imm 2 (A7 dc),.imm 2 (Az dp),.imm 4 (Av df),.imm 10 (B0 da),.imm 23 (B1 dd)]/\S 2= .ptr h.next 0 0/\S 3=q/\S 10= .sc (.int .i64 k)/\S 11= .cptr [A1 xn,.imm 2 (A7 xp),.sc (.int .i64 xc),A1 gop,A1 gna,.imm 1 (AP gar),.imm 2 (A7 gpa),.imm 5 (Ex.rows gex),.imm 6 (Fm.rows gki),A1 kop,A1 kna,.imm 1 (AP kar),.imm 2 (A7 kpa),.imm 5 (Ex.rows kex),.imm 6 (Fm.rows kki),A1 lop,A1 lna,.imm 1 (AP lar),.imm 2 (A7 lpa),.imm 5 (Ex.rows lex),.imm 6 (Fm.rows lki),.imm 15 (Ay xch),.imm 15 (Ay ych)]/\ ∃ j,S 4= .own j 0 ([A5 xn]).length/\FV H0 j ([A5 xn]) H) ⟨sq s1,sq s2,sq s3,sq sI,sq sA,H.next,by simp only[Ty.w,simprocAttr]<;>rfl,hg.new _,hg.le,by simp only[A0.new];omega,by simp only[A0.new,AC,A5,Sx.cells,Sx.rows]⟩ ?_
  clear s1 s2 s3 sI sA hg;rintro S H ⟨s1,s2,s3,sI,sA,j,s4,hS⟩;generalize hM0:[A5 xn]=M0 at s4 hS;have hm0:M0.length<=1:=by rw[← hM0];exact AF _
  have hso:=Gy (h:=H) (j:=j) (L:=M0) (kw:=Cr) (v:=AB (AG xp)) (m:=(xp.length:Int)==0) hS.oj (by omega);obtain⟨j2,e2,hS2⟩:=hS.some Cr (AB (AG xp)) ((xp.length:Int)==0);rw[e2]at hso;generalize(if((xp.length:Int)==0)=true then H else EY H j (M0++[A5 Cr,AB (AG xp)]))=H2 at hso hS2;generalize hM1:An M0 ((xp.length:Int)==0) Cr (AB (AG xp))=M1 at hso hS2;have hm1:M1.length<=3:=by rw[← hM1];exact E0 hm0
  have hoj:=hS.oj;simp only[AB,Sx.cells]at hso;replace zz:=AK s1 s3 s4 sI sA hlq;refine wy zz ?_;replace zz:=AY s1 s3 s4 sI sA hlq hoj;refine uZ zz (hwq _) ?_;refine wy zz ?_;replace zz:=AY s1 s3 s4 sI sA hlq hoj;refine uZ zz (hso) ?_;refine xM 37 zz ?_;refine⟨?_⟩;refine C6 (λS H=>S 1= .cptr [A1 dn,.imm 2 (A7 dt),.imm 2 (A7 dc),.imm 2 (Az dp),.imm 4 (Av df),.imm 10 (B0 da),.imm 23 (B1 dd)]/\S 2= .ptr h.next 0 0/\S 3=q/\S 10= .sc (.int .i64 k)/\S 11= .cptr [A1 xn,.imm 2 (A7 xp),.sc (.int .i64 xc),A1 gop,A1 gna,.imm 1 (AP gar),.imm 2 (A7 gpa),.imm 5 (Ex.rows gex),.imm 6 (Fm.rows gki),A1 kop,A1 kna,.imm 1 (AP kar),.imm 2 (A7 kpa),.imm 5 (Ex.rows kex),.imm 6 (Fm.rows kki),A1 lop,A1 lna,.imm 1 (AP lar),.imm 2 (A7 lpa),.imm 5 (Ex.rows lex),.imm 6 (Fm.rows lki),.imm 15 (Ay xch),.imm 15 (Ay ych)]/\ ∃ j,S 4= .own j 0 (M1).length/\FV H0 j (M1) H) ⟨sq s1,sq s2,sq s3,sq sI,sq sA,j2,sq A2,hS2⟩ ?_
  clear s1 s2 s3 sI sA s4 hS hS2 hso hoj e2 hm0;rintro S H ⟨s1,s2,s3,sI,sA,j,s4,hS⟩;have hso:=Gy (h:=H) (j:=j) (L:=M1) (kw:=Fw) (v:=BN xc) (m:=xc==1) hS.oj (by omega);obtain⟨j2,e2,hS2⟩:=hS.some Fw (BN xc) (xc==1);rw[e2]at hso;generalize(if(xc==1)=true then H else EY H j (M1++[A5 Fw,BN xc]))=H2 at hso hS2;generalize hM2:An M1 (xc==1) Fw (BN xc)=M2 at hso hS2;have hm2:M2.length<=5:=by rw[← hM2];exact E0 hm1
  have hoj:=hS.oj;simp only[BN,Sx.cells,Sx.rows]at hso;replace zz:=AV s1 s3 s4 sI sA;refine wy zz ?_;replace zz:=AK s1 s3 s4 sI sA hoj;first|refine uV zz (hnq _) ?_|refine uJ zz hnq ?_
  refine wy zz ?_;replace zz:=AK s1 s3 s4 sI sA hoj;refine uZ zz (hso) ?_;refine xM 38 zz ?_;refine⟨?_⟩;refine C6 (λS H=>S 1= .cptr [A1 dn,.imm 2 (A7 dt),.imm 2 (A7 dc),.imm 2 (Az dp),.imm 4 (Av df),.imm 10 (B0 da),.imm 23 (B1 dd)]/\S 2= .ptr h.next 0 0/\S 3=q/\S 10= .sc (.int .i64 k)/\S 11= .cptr [A1 xn,.imm 2 (A7 xp),.sc (.int .i64 xc),A1 gop,A1 gna,.imm 1 (AP gar),.imm 2 (A7 gpa),.imm 5 (Ex.rows gex),.imm 6 (Fm.rows gki),A1 kop,A1 kna,.imm 1 (AP kar),.imm 2 (A7 kpa),.imm 5 (Ex.rows kex),.imm 6 (Fm.rows kki),A1 lop,A1 lna,.imm 1 (AP lar),.imm 2 (A7 lpa),.imm 5 (Ex.rows lex),.imm 6 (Fm.rows lki),.imm 15 (Ay xch),.imm 15 (Ay ych)]/\ ∃ j,S 4= .own j 0 (M2).length/\FV H0 j (M2) H) ⟨sq s1,sq s2,sq s3,sq sI,sq sA,j2,sq A2,hS2⟩ ?_
  clear s1 s2 s3 sI sA s4 hS hS2 hso hoj e2 hm1;rintro S H ⟨s1,s2,s3,sI,sA,j,s4,hS⟩;have hso:=Gy (h:=H) (j:=j) (L:=M2) (kw:=Fx) (v:=V3) (m:=T3) hS.oj (by omega);obtain⟨j2,e2,hS2⟩:=hS.some Fx (V3) (T3);rw[e2]at hso;generalize(if(T3)=true then H else EY H j (M2++[A5 Fx,V3]))=H2 at hso hS2;generalize hM3:An M2 (T3) Fx (V3)=M3 at hso hS2;have hm3:M3.length<=7:=by rw[← hM3];exact E0 hm2
  have hoj:=hS.oj;obtain⟨yk,yv,yl,yc,yt,ys⟩:=V3;simp only[Sx.cells]at hso hF3;replace zz:=AV s1 s3 s4 sI sA;refine wy zz ?_;replace zz:=AK s1 s3 s4 sI sA hoj;first|refine uV zz (hT3 _) ?_|refine uJ zz hT3 ?_
  refine wy zz ?_;replace zz:=AK s1 s3 s4 sI sA hoj;first|refine uV zz (hF3 _) ?_|refine uJ zz hF3 ?_
  refine wy zz ?_;replace zz:=AK s1 s3 s4 sI sA hoj;refine uZ zz (hso) ?_;refine xM 39 zz ?_;refine⟨?_⟩;refine C6 (λS H=>S 1= .cptr [A1 dn,.imm 2 (A7 dt),.imm 2 (A7 dc),.imm 2 (Az dp),.imm 4 (Av df),.imm 10 (B0 da),.imm 23 (B1 dd)]/\S 2= .ptr h.next 0 0/\S 3=q/\S 10= .sc (.int .i64 k)/\S 11= .cptr [A1 xn,.imm 2 (A7 xp),.sc (.int .i64 xc),A1 gop,A1 gna,.imm 1 (AP gar),.imm 2 (A7 gpa),.imm 5 (Ex.rows gex),.imm 6 (Fm.rows gki),A1 kop,A1 kna,.imm 1 (AP kar),.imm 2 (A7 kpa),.imm 5 (Ex.rows kex),.imm 6 (Fm.rows kki),A1 lop,A1 lna,.imm 1 (AP lar),.imm 2 (A7 lpa),.imm 5 (Ex.rows lex),.imm 6 (Fm.rows lki),.imm 15 (Ay xch),.imm 15 (Ay ych)]/\ ∃ j,S 4= .own j 0 (M3).length/\FV H0 j (M3) H) ⟨sq s1,sq s2,sq s3,sq sI,sq sA,j2,sq A2,hS2⟩ ?_
  clear s1 s2 s3 sI sA s4 hS hS2 hso hoj e2 hm2;rintro S H ⟨s1,s2,s3,sI,sA,j,s4,hS⟩;have hso:=Gy (h:=H) (j:=j) (L:=M3) (kw:=Fy) (v:=V4) (m:=T4) hS.oj (by omega);obtain⟨j2,e2,hS2⟩:=hS.some Fy (V4) (T4);rw[e2]at hso;generalize(if(T4)=true then H else EY H j (M3++[A5 Fy,V4]))=H2 at hso hS2;generalize hM4:An M3 (T4) Fy (V4)=M4 at hso hS2;have hm4:M4.length<=9:=by rw[← hM4];exact E0 hm3
  have hoj:=hS.oj;obtain⟨yk,yv,yl,yc,yt,ys⟩:=V4;simp only[Sx.cells]at hso hF4;replace zz:=AV s1 s3 s4 sI sA;refine wy zz ?_;replace zz:=AK s1 s3 s4 sI sA hoj;first|refine uV zz (hT4 _) ?_|refine uJ zz hT4 ?_
  refine wy zz ?_;replace zz:=AK s1 s3 s4 sI sA hoj;first|refine uV zz (hF4 _) ?_|refine uJ zz hF4 ?_
  refine wy zz ?_;replace zz:=AK s1 s3 s4 sI sA hoj;refine uZ zz (hso) ?_;refine xM 40 zz ?_;refine⟨?_⟩;refine C6 (λS H=>S 1= .cptr [A1 dn,.imm 2 (A7 dt),.imm 2 (A7 dc),.imm 2 (Az dp),.imm 4 (Av df),.imm 10 (B0 da),.imm 23 (B1 dd)]/\S 2= .ptr h.next 0 0/\S 3=q/\S 10= .sc (.int .i64 k)/\S 11= .cptr [A1 xn,.imm 2 (A7 xp),.sc (.int .i64 xc),A1 gop,A1 gna,.imm 1 (AP gar),.imm 2 (A7 gpa),.imm 5 (Ex.rows gex),.imm 6 (Fm.rows gki),A1 kop,A1 kna,.imm 1 (AP kar),.imm 2 (A7 kpa),.imm 5 (Ex.rows kex),.imm 6 (Fm.rows kki),A1 lop,A1 lna,.imm 1 (AP lar),.imm 2 (A7 lpa),.imm 5 (Ex.rows lex),.imm 6 (Fm.rows lki),.imm 15 (Ay xch),.imm 15 (Ay ych)]/\ ∃ j,S 4= .own j 0 (M4).length/\FV H0 j (M4) H) ⟨sq s1,sq s2,sq s3,sq sI,sq sA,j2,sq A2,hS2⟩ ?_
  clear s1 s2 s3 sI sA s4 hS hS2 hso hoj e2 hm3;rintro S H ⟨s1,s2,s3,sI,sA,j,s4,hS⟩;have hso:=Gy (h:=H) (j:=j) (L:=M4) (kw:=G6) (v:=V5) (m:=T5) hS.oj (by omega);obtain⟨j2,e2,hS2⟩:=hS.some G6 (V5) (T5);rw[e2]at hso;generalize(if(T5)=true then H else EY H j (M4++[A5 G6,V5]))=H2 at hso hS2;generalize hM5:An M4 (T5) G6 (V5)=M5 at hso hS2;have hm5:M5.length<=11:=by rw[← hM5];exact E0 hm4
  have hoj:=hS.oj;obtain⟨yk,yv,yl,yc,yt,ys⟩:=V5;simp only[Sx.cells]at hso hF5;replace zz:=AV s1 s3 s4 sI sA;refine wy zz ?_;replace zz:=AK s1 s3 s4 sI sA hoj;first|refine uV zz (hT5 _) ?_|refine uJ zz hT5 ?_
  refine wy zz ?_;replace zz:=AK s1 s3 s4 sI sA hoj;first|refine uV zz (hF5 _) ?_|refine uJ zz hF5 ?_
  refine wy zz ?_;replace zz:=AK s1 s3 s4 sI sA hoj;refine uZ zz (hso) ?_;refine xM 41 zz ?_;refine⟨?_⟩;refine C6 (λS H=>S 1= .cptr [A1 dn,.imm 2 (A7 dt),.imm 2 (A7 dc),.imm 2 (Az dp),.imm 4 (Av df),.imm 10 (B0 da),.imm 23 (B1 dd)]/\S 2= .ptr h.next 0 0/\S 3=q/\S 10= .sc (.int .i64 k)/\S 11= .cptr [A1 xn,.imm 2 (A7 xp),.sc (.int .i64 xc),A1 gop,A1 gna,.imm 1 (AP gar),.imm 2 (A7 gpa),.imm 5 (Ex.rows gex),.imm 6 (Fm.rows gki),A1 kop,A1 kna,.imm 1 (AP kar),.imm 2 (A7 kpa),.imm 5 (Ex.rows kex),.imm 6 (Fm.rows kki),A1 lop,A1 lna,.imm 1 (AP lar),.imm 2 (A7 lpa),.imm 5 (Ex.rows lex),.imm 6 (Fm.rows lki),.imm 15 (Ay xch),.imm 15 (Ay ych)]/\ ∃ j,S 4= .own j 0 (M5).length/\FV H0 j (M5) H) ⟨sq s1,sq s2,sq s3,sq sI,sq sA,j2,sq A2,hS2⟩ ?_
  clear s1 s2 s3 sI sA s4 hS hS2 hso hoj e2 hm4;rintro S H ⟨s1,s2,s3,sI,sA,j,s4,hS⟩;have hso:=Gy (h:=H) (j:=j) (L:=M5) (kw:=G7) (v:=V6) (m:=(xch.length:Int)==0) hS.oj (by omega);obtain⟨j2,e2,hS2⟩:=hS.some G7 (V6) ((xch.length:Int)==0);rw[e2]at hso;generalize(if((xch.length:Int)==0)=true then H else EY H j (M5++[A5 G7,V6]))=H2 at hso hS2;generalize hM6:An M5 ((xch.length:Int)==0) G7 (V6)=M6 at hso hS2;have hm6:M6.length<=13:=by rw[← hM6];exact E0 hm5
  have hoj:=hS.oj;obtain⟨yk,yv,yl,yc,yt,ys⟩:=V6;simp only[Sx.cells]at hso hE6;replace zz:=AK s1 s3 s4 sI sA hc6;refine wy zz ?_;replace zz:=AY s1 s3 s4 sI sA hc6 hoj;first|refine uV zz (hE6 _) ?_|refine uJ zz hE6 ?_
  refine wy zz ?_;replace zz:=AY s1 s3 s4 sI sA hc6 hoj;refine uZ zz (hso) ?_;refine xM 42 zz ?_;refine⟨?_⟩;refine C6 (λS H=>S 1= .cptr [A1 dn,.imm 2 (A7 dt),.imm 2 (A7 dc),.imm 2 (Az dp),.imm 4 (Av df),.imm 10 (B0 da),.imm 23 (B1 dd)]/\S 2= .ptr h.next 0 0/\S 3=q/\S 10= .sc (.int .i64 k)/\S 11= .cptr [A1 xn,.imm 2 (A7 xp),.sc (.int .i64 xc),A1 gop,A1 gna,.imm 1 (AP gar),.imm 2 (A7 gpa),.imm 5 (Ex.rows gex),.imm 6 (Fm.rows gki),A1 kop,A1 kna,.imm 1 (AP kar),.imm 2 (A7 kpa),.imm 5 (Ex.rows kex),.imm 6 (Fm.rows kki),A1 lop,A1 lna,.imm 1 (AP lar),.imm 2 (A7 lpa),.imm 5 (Ex.rows lex),.imm 6 (Fm.rows lki),.imm 15 (Ay xch),.imm 15 (Ay ych)]/\ ∃ j,S 4= .own j 0 (M6).length/\FV H0 j (M6) H) ⟨sq s1,sq s2,sq s3,sq sI,sq sA,j2,sq A2,hS2⟩ ?_
  clear s1 s2 s3 sI sA s4 hS hS2 hso hoj e2 hm5;rintro S H ⟨s1,s2,s3,sI,sA,j,s4,hS⟩;have hso:=Gy (h:=H) (j:=j) (L:=M6) (kw:=G8) (v:=V7) (m:=(ych.length:Int)==0) hS.oj (by omega);obtain⟨j2,e2,hS2⟩:=hS.some G8 (V7) ((ych.length:Int)==0);rw[e2]at hso;generalize(if((ych.length:Int)==0)=true then H else EY H j (M6++[A5 G8,V7]))=H2 at hso hS2;generalize hM7:An M6 ((ych.length:Int)==0) G8 (V7)=M7 at hso hS2;have hm7:M7.length<=15:=by rw[← hM7];exact E0 hm6
  have hoj:=hS.oj;have hlo:=PX (s:=Fv) (l:=M7) (j:=j2) (by omega) hS2.oj hS2.hi;have hX:DD ⟨xn,xp,xc,⟨gop,gna,gar,gpa,gex,gki⟩,⟨kop,kna,kar,kpa,kex,kki⟩,⟨lop,lna,lar,lpa,lex,lki⟩,xch,ych⟩=AB (A5 Fv::M7):=by
   unfold DD EZ;simp only;rw[hU3,hV3,hU4,hV4,hU5,hV5,hV6,hV7,hM0,hM1,hM2,hM3,hM4,hM5,hM6,hM7]
  rw[← hX]at hlo;generalize DD ⟨xn,xp,xc,⟨gop,gna,gar,gpa,gex,gki⟩,⟨kop,kna,kar,kpa,kex,kki⟩,⟨lop,lna,lar,lpa,lex,lki⟩,xch,ych⟩=X at hlo hta;obtain⟨Hk,t1,t2,t3,hI2⟩:=(hI.up hS2.grow).push X;have hb:(LA.length+1)*72<=140737488355328:=by omega
  have hbr:(Sx.rows LA).length=LA.length:=hRl LA
  clear hX hS2;obtain⟨yk,yv,yl,yc,yt,ys⟩:=V7;simp only[Sx.cells]at hso hE7;replace zz:=AK s1 s3 s4 sI sA hc7;refine wy zz ?_;replace zz:=AY s1 s3 s4 sI sA hc7 hoj;first|refine uV zz (hE7 _) ?_|refine uJ zz hE7 ?_
  refine wy zz ?_;replace zz:=AY s1 s3 s4 sI sA hc7 hoj;refine uZ zz (hso) ?_;refine wy zz ?_;obtain⟨zk,zv,zl',zc',zt',zs⟩:=X;simp only[Sx.cells]at hlo hI2;replace zz:=B6 s1 s2 s3 sI t1 t2 hbr hb;refine uU zz (hlo) ?_;replace zz:=BR s1 s2 s3 sI t1 t2 hbr hb w7;refine wt zz ?_;exact⟨dd.length-(k+1),by omega,k+1,_,rfl,rfl,by omega,rfl,by rw[hta];exact hI2⟩
 have hd:decide ((k:Int)<(dd.length:Int))=false:=by simp;omega
 obtain rfl:k=dd.length:=by omega
 rw[List.take_length]at hI;replace zz:=AK s1 s2 s3 sI hlD hd;refine xG 44 zz ?_;refine⟨?_⟩;refine JK (h.next+1) [(3,.imm 6 (Sx.rows (L5++dd.map DD)))] rfl hI.lt ?_ ?_
 ·intro x hx;simp only[List.mem_cons,List.not_mem_nil,DO]at hx;subst hx;show AZ (h.next+1) _ _ (S 3);rw[s3];exact JT hI.tl
 refine C6 (λS H=>S 2= .ptr h.next 0 0/\S 3= .imm 6 (Sx.rows (L5++dd.map DD))/\AL h H/\H.obj h.next=some (.arr 6 [BJ])) ⟨by simp only[Co,Ty.w,simprocAttr,s2],by simp only[Co,Ty.w,simprocAttr],⟨hI.grow.le,λj hj=>by simp only[DI];rw[AH (by omega)];exact hI.grow.old j hj⟩,by simp only[DI];rw[AH (by omega)];exact hI.ores⟩ ?_;have hl6:(L5++dd.map DD).length<=1099511627776:=by
  rw[List.length_append,List.length_map];have:=zd.1;omega
 have hP:=hli Er _ hl6;generalize L5++dd.map DD=L6 at hP hW;rw[hW]
 clear s1 s2 s3 sI hI hl6;rintro S H ⟨s2,s3,hg,o2⟩;have hfz:=λn h=>Do n h (AB (A5 Er::L6));generalize AB (A5 Er::L6)=X at hP hfz;obtain⟨xk,xv,xl,xc,xt,xs⟩:=X;simp only[Sx.cells]at hP hfz⊢;refine wt (uu s2 s3) ?_;refine uU (Aj s2 s3 o2) (hP _) ?_;refine wt (Aj s2 s3 o2) ?_;refine⟨?_,hg.set (AF _) _⟩;simp only[AZ];exact⟨_,rfl,hfz _ _⟩
set_option maxHeartbeats 4000000
theorem dS{d:Dm}(hok:d.ok)(hb:PV.bulkL d.cells<=1048576)(h:A0):AA prog 13 [.agg d.cells] h λr h'=>r=(if H5 d then .tup [.agg (Dz d).cells,.sc (.bool true)]else .tup [.agg Fg.cells,.sc (.bool false)])/\h'=h:=by
 refine AA.frz Ty.Me ?_;have hsm:=Tm hb;have hsh:=λh:A0=>cf hok h;unfold H5;cases b:GA d with
 |false=>
  rw[b]at hsh;simp only[Ai,Ap,AD]
  clear hok hb hsm b;obtain⟨dn,dt,dc,dp,df,da,dd⟩:=d;simp only[Dm.cells]at hsh⊢;refine AN func13 ntmps13 results13 Ty.Me ?_;refine wt A2 ?_;refine uU A2 (hsh _) ?_;refine wt yF ?_;exact⟨PU NK _,((AL.refl h).new _).set (AF _) _⟩
 |true=>
  have x1:=dN b hok hsm;obtain⟨x2,x3⟩:=dH hb;have hE:=λh:A0=>dR hok hsm b h;have hV:=λh:A0=>Zr x1 x2 x3 h;rw[b]at hsh
  clear x1 x2 x3 hok hsm hb b;simp only[Ah];generalize Dz d=X at*;generalize(Ci X 0 0).1=v at*;obtain⟨dn,dt,dc,dp,df,da,dd⟩:=d;obtain⟨xk,xv,xl,xc,xt,xs⟩:=X;simp only[Dm.cells,Sx.cells]at hsh hE hV⊢;cases v with
  |false=>
   simp only[Ap,AD];refine AN func13 ntmps13 results13 Ty.Me ?_;refine wt A2 ?_;refine uU A2 (hsh _) ?_;refine wt yT ?_;refine uU A2 (hE _) ?_;refine wt yT ?_;refine uU A2 (hV _) ?_;refine wt yF ?_;exact⟨PU NK _,((AL.refl h).new _).set (AF _) _⟩
  |true=>
   simp only[AC];refine AN func13 ntmps13 results13 Ty.Me ?_;refine wt A2 ?_;refine uU A2 (hsh _) ?_;refine wt yT ?_;refine uU A2 (hE _) ?_;refine wt yT ?_;refine uU A2 (hV _) ?_;refine wt yT ?_;refine uU A2 (hE _) ?_;refine wt A2 ?_;exact⟨PU (NO _ _ (.mk xk xv xl xc xt xs)) _,((AL.refl h).new _).set (AF _) _⟩
theorem dT{d:Dm}(hok:d.ok)(hb:PV.bulkL d.cells<=1048576):AA prog 3 [.agg d.cells] A0.nil λr _=>r= .sc (.bool true):=by
 have hsm:=Tm hb;have hL:=aA d hok;have hW:=λh:A0=>bw hok hsm (Tz hok hsm) h;have hR:=λh:A0=>dS hok hb h;have e0:(GX d&&(Ci (Gu d) 0 0).1)=H5 d:=dA d;rw[e0]at hW;generalize Ov d=big at hL;cases big with
 |true=>
  clear hW hR hok hsm hb e0;obtain⟨dn,dt,dc,dp,df,da,dd⟩:=d;simp only[Dm.cells]at hL⊢;refine AN func3 ntmps3 results3 Ty.Mm ?_;refine wt A2 ?_;refine uU A2 (hL _) ?_;refine wt A2 ?_;refine uU A2 (P8) ?_;exact wz A2
 |false=>
  cases hw:H5 d with
  |false=>
   simp only[hw,Ap,AD]at hW hR;have hS:=λh:A0=>Sv Fg PM h;have e0:Cq Fg=true:=rfl;rw[e0]at hS;have hS2: ∀ h:A0,AA prog 14 [.agg [.sc (.int .i64 0),.sc (.int .i64 0),.sc (.int .i64 0),.sc (.int .i64 0),A1 ⟨#[]⟩,.imm 6 []],.agg [.sc (.int .i64 0),.sc (.int .i64 0),.sc (.int .i64 0),.sc (.int .i64 0),.sc (.string ⟨#[]⟩),.sc (.slice none 0 0)]] h λr h'=>r= .sc (.bool true)/\h'=h:=λh=>
    AA.nz (hS h) (Cj (Nz.refl _) (Cj (N2 (Cj (Nz.refl _) (Cj (Nz.refl _) (Cj (Nz.refl _) (Cj (Nz.refl _) (Cj (Nz.refl _) (Cj Hy (CA.refl _)))))))) (CA.refl _)))
   have hI:=λh:A0=>aY (h:=h) (n:=2) (m:=2);clear hok hsm hb hw hS;obtain⟨dn,dt,dc,dp,df,da,dd⟩:=d;simp only[Dm.cells,Fg,Sx.cells,Sx.rows,Dp]at hL hW hR hI⊢;refine AN func3 ntmps3 results3 Ty.Mm ?_;refine wt A2 ?_;refine uU A2 (hL _) ?_;refine wt A2 ?_;refine uU yT (P8) ?_;refine wt yT ?_;refine uU A2 (hW _) ?_;refine wt A2 ?_;refine uU A2 (hR _) ?_;refine wt (uu @Ds yF) ?_;refine uU @Ds (hS2 _) ?_;refine wt @Ds ?_;refine uU @Ds (hI _) ?_;exact wz @Ds
  |true=>
   have hx:=dB hw;have hxo:(Dz d).ok:=(by rw[← hx];exact Tz hok hsm);rw[hx]at hW;simp only[hw,AC]at hW hR;have hS:=λh:A0=>Sv (Dz d) hxo h;rw[dQ]at hS;generalize Dz d=X at hW hR hS;clear hok hsm hb hw hx hxo e0;obtain⟨dn,dt,dc,dp,df,da,dd⟩:=d;obtain⟨xk,xv,xl,xc,xt,xs⟩:=X;simp only[Dm.cells,Sx.cells]at hL hW hR hS⊢;refine AN func3 ntmps3 results3 Ty.Mm ?_;refine wt A2 ?_;refine uU A2 (hL _) ?_;refine wt A2 ?_;refine uU yT (P8) ?_;refine wt yT ?_;refine uU A2 (hW _) ?_;refine wt A2 ?_;refine uU A2 (hR _) ?_;refine wt (uu @Ds yT) ?_;refine uU @Ds (hS _) ?_;exact wz @Ds
end Go.Proofs.YtblgchkahpgdjaaGreat
