/- What the claim rests on, part 18: the abstract machine, contracts of the functions, plain data. -/
import Derived.Test.YtblgchkahpgdjaaGreatZm17
set_option linter.unusedVariables false
set_option linter.unusedSimpArgs false
set_option linter.unusedSectionVars false
namespace Go.Proofs.YtblgchkahpgdjaaGreat
open Go.AM Go.Proofs.Tryz
set_option maxHeartbeats 4000000
set_option maxRecDepth 20000
variable {v w:Sx}{kw:ByteArray}{d:Dm}{n:Nat}{K:A0}
def E9(kw:ByteArray):Sx:=bif A2 kw EZ||A2 kw E6 then D1 1 else AC []
def Dg:List ByteArray->List Sx->List Sx
 |[],_=>[]
 |kw::kws,a::v::l=>bif A2 (Af a) kw then A5 kw::v::Dg kws l else A5 kw::E9 kw::Dg kws (a::v::l)
 |kw::kws,l=>A5 kw::E9 kw::Dg kws l
def MO(x:Sx):List ByteArray:=match BS x with
 |[]=>FQ
 |k::_=>bif A2 (Af k) D8 then Fj else FQ
def Ec(x:Sx):Sx:=AC ((BS x).take 2++Dg (MO x) ((BS x).drop 2))
def fT(T:List (Bool × ByteArray × Sx)):List (Bool × ByteArray × Sx):=T.map λt=>(false,t.2.1,bif t.1 then E9 t.2.1 else t.2.2)
theorem Yf: ∀ (T:List (Bool × ByteArray × Sx)),Dn T=[]\/ ∃ t∈T, ∃ v l,Dn T=A5 t.2.1::v::l
 |[]=> .inl rfl
 |(m,kw,v)::T=>by
  cases m with
  |true=>
   simp only[Dn,AB];rcases Yf T with h|⟨t,ht,w,l,h⟩
   ·exact .inl h
   ·exact .inr ⟨t,by simp[ht],w,l,h⟩
  |false=>exact .inr ⟨(false,kw,v),by simp,v,Dn T,rfl⟩
theorem TH: ∀ (T:List (Bool × ByteArray × Sx)),KQ (T.map (·.2.1))=true->Dg (T.map (·.2.1)) (Dn T)=Dn (fT T)
 |[],_=>rfl
 |(m,kw,v)::T,hd=>by
  simp only[List.map_cons,KQ,AV,List.all_eq_true,List.mem_map,pT,and_imp,forall_apply_eq_imp_iff₂,EI]at hd;have ih:=TH T hd.2;cases m with
  |true=>
   simp only[Dn,AB,List.map_cons,fT,AJ];rcases Yf T with h|⟨t,ht,w,l,h⟩
   ·rw [h]at ih⊢;simp only[Dg];rw[ih];try rfl
   ·have hne:A2 t.2.1 kw=false:=by
     have:=hd.1 t ht;cases q:A2 t.2.1 kw with
     |false=>rfl
     |true=>rw[ED q,Em]at this;cases this
    rw[h]at ih⊢;simp only[Dg,tW,hne,AJ];rw[ih];try rfl
  |false=>
   simp only[Dn,AJ,List.map_cons,fT,Dg,tW,Em,AB];rw[ih];try rfl
theorem Yg(a:Ac):Ec (Eo a)=AC (A5 Cg::A5 a.name::Dn (fT (Ie BX BH Bx a))):=by
 rw[Oe,Xz];have h:=TH (Ie BX BH Bx a) (show KQ FQ=true by decide);have hk:(Ie BX BH Bx a).map (·.2.1)=FQ:=rfl;rw[hk]at h;unfold Ec;have e:MO (AC (A5 Cg::A5 a.name::Dn (Ie BX BH Bx a)))=FQ:=rfl;rw[e];show AC ([A5 Cg,A5 a.name]++Dg FQ (Dn (Ie BX BH Bx a)))=_;rw[h];try rfl
theorem Yh(a:Du):Ec (Ep a)=AC (A5 D8::A5 a.name::Dn (fT (If BX BH Bx a))):=by
 rw[Of,Y0];have h:=TH (If BX BH Bx a) (show KQ Fj=true by decide);have hk:(If BX BH Bx a).map (·.2.1)=Fj:=rfl;rw[hk]at h;unfold Ec;have e:MO (AC (A5 D8::A5 a.name::Dn (If BX BH Bx a)))=Fj:=rfl;rw[e];show AC ([A5 D8,A5 a.name]++Dg Fj (Dn (If BX BH Bx a)))=_;rw[h];try rfl
theorem Qd{a a':Ac}{m:Bool}{L:List (ByteArray × Sx)}(h1:m=true->E8 a kw w=(a',0))(h2:m=false->E8 a kw v=(a',0)):Gr a ((kw,bif m then w else v)::L)=Gr a' L:=by
 cases m with
 |true=>simp only[AB,Gr,h1 rfl,DC,AB]
 |false=>simp only[AJ,Gr,h2 rfl,DC,AB]
theorem MP{a a':Du}{m:Bool}{L:List (ByteArray × Sx)}(h1:m=true->D2 a kw w=(a',0))(h2:m=false->D2 a kw v=(a',0)):Gs a ((kw,bif m then w else v)::L)=Gs a' L:=by
 cases m with
 |true=>simp only[AB,Gs,h1 rfl,DC,AB]
 |false=>simp only[AJ,Gs,h2 rfl,DC,AB]
theorem Qe:Cl (AC [])=(Bu,0):=by kernel_rfl
theorem TI:En (AC [])=([],0):=by kernel_rfl
theorem og{a:Ac}(h:Fs a=true)(he:Gb a.changes=true):HA (Ec (Eo a))=(a,0):=by
 unfold Fs at h;simp only[AV,EI]at h;obtain⟨⟨⟨⟨n,c⟩,p⟩,f⟩,ch⟩:=h;have hf:BH a.pre=Ao a.pre:=by unfold BH;rw[f];try rfl
 have hx:=Yg a;have hp:=QV (fT (Ie BX BH Bx a)) [] (show KQ FQ=true by decide) (by simp);have hk:(fT (Ie BX BH Bx a)).map (·.2.1)=FQ:=rfl;rw[hk,List.nil_append]at hp;have hd:(BS (Ec (Eo a))).drop 2=Dn (fT (Ie BX BH Bx a)):=by rw[hx];try rfl
 have hH:Dt (Ec (Eo a))=(a.name,0):=by rw[hx];exact Y1 n
 have hA:Gr (Eb a.name) (Jg (fT (Ie BX BH Bx a)))=(a,0):=by
  obtain⟨an,ap,aco,af,ac⟩:=a;simp only at n c p f ch he hf;unfold Ie;simp only[fT,List.map_cons,List.map_nil,Jg,AJ];rw[Qd (a:=Eb an) (a':=⟨an,ap,1,Bu,[]⟩) (λm=>by rw[NH m];try rfl) (λ_=>by
   unfold E8;simp only[Em,AB,Xw p,Eb])]
  rw[Qd (a:=⟨an,ap,1,Bu,[]⟩) (a':=⟨an,ap,aco,Bu,[]⟩) (λm=>by rw[eq_of_beq m];try rfl) (λ_=>by
   have e:E8 ⟨an,ap,1,Bu,[]⟩ EZ (D1 aco)=(⟨an,ap,aco,Bu,[]⟩,bif decide (aco<0)then 1 else 0):=by
    unfold E8;rw[show A2 EZ Cc=false by decide,Em];try rfl
   rw[e,c];rfl)]
  rw[Qd (a:=⟨an,ap,aco,Bu,[]⟩) (a':=⟨an,ap,aco,af,[]⟩) (λm=>by
   rw[LJ m];unfold E8;simp only[show A2 Ff Cc=false by decide,show A2 Ff EZ=false by decide,Em,AB,AJ,show E9 Ff=AC []from rfl,Qe]) (λ_=>by
   unfold E8;simp only[show A2 Ff Cc=false by decide,show A2 Ff EZ=false by decide,Em,AB,AJ,hf,OO f])]
  rw[Qd (a:=⟨an,ap,aco,af,[]⟩) (a':=⟨an,ap,aco,af,ac⟩) (λm=>by
   rw[NH m];unfold E8;simp only[show A2 Ea Cc=false by decide,show A2 Ea EZ=false by decide,show A2 Ea Ff=false by decide,AJ,show E9 Ea=AC []from rfl,TI]) (λ_=>by
   unfold E8;simp only[show A2 Ea Cc=false by decide,show A2 Ea EZ=false by decide,show A2 Ea Ff=false by decide,AJ,Su he])]
  rfl
 unfold HA;rw[hH,hd];simp only[DC,AB,hp,hA]
theorem oh{a:Du}(h:FP a=true)(he:Gb a.Bm=true)(he2:Gb a.Bn=true):HB (Ec (Ep a))=(a,0):=by
 unfold FP at h;simp only[AV]at h;obtain⟨⟨⟨⟨⟨⟨n,p⟩,f1⟩,f2⟩,f3⟩,c1⟩,c2⟩:=h;have g1:BH a.start=Ao a.start:=by unfold BH;rw[f1];try rfl
 have g2:BH a.over=Ao a.over:=by unfold BH;rw[f2];try rfl
 have g3:BH a.stop=Ao a.stop:=by unfold BH;rw[f3];try rfl
 have hx:=Yh a;have hp:=QV (fT (If BX BH Bx a)) [] (show KQ Fj=true by decide) (by simp);have hk:(fT (If BX BH Bx a)).map (·.2.1)=Fj:=rfl;rw[hk,List.nil_append]at hp;have hd:(BS (Ec (Ep a))).drop 2=Dn (fT (If BX BH Bx a)):=by rw[hx];try rfl
 have hH:Dt (Ec (Ep a))=(a.name,0):=by rw[hx];exact Y1 n
 have b1:A2 Ez Cc=false/\A2 Ez E6=false:=by decide
 have b2:A2 FE Cc=false/\A2 FE E6=false/\A2 FE Ez=false:=by decide
 have b3:A2 FO Cc=false/\A2 FO E6=false/\A2 FO Ez=false/\A2 FO FE=false:=by decide
 have b4:A2 Fg Cc=false/\A2 Fg E6=false/\A2 Fg Ez=false/\A2 Fg FE=false/\A2 Fg FO=false:=by decide
 have b5:A2 Gc Cc=false/\A2 Gc E6=false/\A2 Gc Ez=false/\A2 Gc FE=false/\A2 Gc FO=false/\A2 Gc Fg=false:=by decide
 have hA:Gs (DZ a.name) (Jg (fT (If BX BH Bx a)))=(a,0):=by
  obtain⟨an,ap,ad,s,o,e,sa,se⟩:=a;simp only at n p f1 f2 f3 c1 c2 he he2 g1 g2 g3;unfold If;simp only[fT,List.map_cons,List.map_nil,Jg,AJ];rw[MP (a:=DZ an) (a':=⟨an,ap,1,Bu,Bu,Bu,[],[]⟩) (λm=>by rw[NH m];try rfl) (λ_=>by
   unfold D2;simp only[Em,AB,Xw p,DZ])]
  rw[MP (a':=⟨an,ap,ad,Bu,Bu,Bu,[],[]⟩) (λm=>by rw[eq_of_beq m];try rfl) (λ_=>by
   unfold D2;simp only[show A2 E6 Cc=false by decide,Em,AB,AJ,nI])]
  rw[MP (a':=⟨an,ap,ad,s,Bu,Bu,[],[]⟩) (λm=>by
   rw[LJ m];unfold D2;simp only[b1,Em,AB,AJ,show E9 Ez=AC []from rfl,Qe]) (λ_=>by
   unfold D2;simp only[b1,Em,AB,AJ,g1,OO f1])]
  rw[MP (a':=⟨an,ap,ad,s,o,Bu,[],[]⟩) (λm=>by
   rw[LJ m];unfold D2;simp only[b2,Em,AB,AJ,show E9 FE=AC []from rfl,Qe]) (λ_=>by
   unfold D2;simp only[b2,Em,AB,AJ,g2,OO f2])]
  rw[MP (a':=⟨an,ap,ad,s,o,e,[],[]⟩) (λm=>by
   rw[LJ m];unfold D2;simp only[b3,Em,AB,AJ,show E9 FO=AC []from rfl,Qe]) (λ_=>by
   unfold D2;simp only[b3,Em,AB,AJ,g3,OO f3])]
  rw[MP (a':=⟨an,ap,ad,s,o,e,sa,[]⟩) (λm=>by
   rw[NH m];unfold D2;simp only[b4,Em,AB,AJ,show E9 Fg=AC []from rfl,TI]) (λ_=>by
   unfold D2;simp only[b4,Em,AB,AJ,Su he])]
  rw[MP (a':=⟨an,ap,ad,s,o,e,sa,se⟩) (λm=>by
   rw[NH m];unfold D2;simp only[b5,AJ,show E9 Gc=AC []from rfl,TI]) (λ_=>by
   unfold D2;simp only[b5,AJ,Su he2])]
  rfl
 unfold HB;rw[hH,hd];simp only[DC,AB,hp,hA]
theorem Yi(f:Ac->Sx)(seen:List ByteArray): ∀ (l:List Ac)(d:Dm),(∀ a∈l,(∃ ks,f a=AC (A5 Cg::ks))/\HA (f a)=(a,0))->Fv d seen (l.map f)=({d with Av:=d.Av++l},seen,0)
 |[],d,_=>by simp[Fv]
 |a::l,d,h=>by
  obtain⟨⟨ks,hx⟩,h1⟩:=h a (by simp);have hs:FU d seen (f a)=({d with Av:=d.Av++[a]},seen,0):=by
   rw[hx,Y5 (by decide), ← hx];unfold D9;simp only[show A2 Cg Gq=false by decide,show A2 Cg Ds=false by decide,show A2 Cg E7=false by decide,show A2 Cg EF=false by decide,show A2 Cg EG=false by decide,Em,AB,AJ,h1]
  simp only[List.map_cons,Fv,hs,DC,AB,Yi f seen l _ (λb hb=>h b (by simp[hb])),List.append_assoc,List.singleton_append]
theorem Yj(f:Du->Sx)(seen:List ByteArray): ∀ (l:List Du)(d:Dm),(∀ a∈l,(∃ ks,f a=AC (A5 D8::ks))/\HB (f a)=(a,0))->Fv d seen (l.map f)=({d with B0:=d.B0++l},seen,0)
 |[],d,_=>by simp[Fv]
 |a::l,d,h=>by
  obtain⟨⟨ks,hx⟩,h1⟩:=h a (by simp);have hs:FU d seen (f a)=({d with B0:=d.B0++[a]},seen,0):=by
   rw[hx,Y5 (by decide), ← hx];unfold D9;simp only[show A2 D8 Gq=false by decide,show A2 D8 Ds=false by decide,show A2 D8 E7=false by decide,show A2 D8 EF=false by decide,show A2 D8 EG=false by decide,show A2 D8 Cg=false by decide,Em,AB,AJ,h1]
  simp only[List.map_cons,Fv,hs,DC,AB,Yj f seen l _ (λb hb=>h b (by simp[hb])),List.append_assoc,List.singleton_append]
def HF(d:Dm):List Sx:=A5 DQ::AC [A5 CU,A5 d.name]::(gL d++(aL d).map Ec)
theorem om(h:HW d=true):Jf (AC (HF d))=(d,0):=by
 obtain⟨ha,hu⟩:=nP h;unfold HW at h;rw[AV]at h;have hd:=h.1;have hn:As d.name=true:=by unfold GO at hd;simp only[AV]at hd;exact hd.1.1.1.1.1.1
 obtain⟨s,h7⟩:=Yc hd (Ji d) (GB d.name) [] (TG d) (oV d) (λ_ _=>rfl) (λ_=>rfl) (λ_=>rfl);rw[Yd _ _ (TG d)]at h7;have g0:(if 0∈Ji d then d.types else(GB d.name).types)=d.types:=by
  split
  ·rfl
  ·rename_i q;exact(Y6 (Qa (by omega) q)).symm
 have g1:(if 1∈Ji d then d.constants else(GB d.name).constants)=d.constants:=by
  split
  ·rfl
  ·rename_i q;exact(Y6 (Qa (by omega) q)).symm
 have g2:(if 2∈Ji d then d.Ay else(GB d.name).Ay)=d.Ay:=by
  split
  ·rfl
  ·rename_i q;exact(Y7 (Qa (by omega) q)).symm
 have g3:(if 3∈Ji d then d.Au else(GB d.name).Au)=d.Au:=by
  split
  ·rfl
  ·rename_i q;exact(Y7 (Qa (by omega) q)).symm
 rw[g0,g1,g2,g3]at h7;have h5:=Yi (λa=>Ec (Eo a)) s d.Av ⟨d.name,d.types,d.constants,d.Ay,d.Au,[],[]⟩ (λa h=>⟨⟨_,Yg a⟩,og (ha a h).1 (ha a h).2⟩);have h6:=Yj (λa=>Ec (Ep a)) s d.B0 ⟨d.name,d.types,d.constants,d.Ay,d.Au,d.Av,[]⟩ (λa h=>⟨⟨_,Yh a⟩,oh (hu a h).1 (hu a h).2.1 (hu a h).2.2⟩);simp only[List.nil_append]at h5 h6;unfold HF Jf;rw[N4];have h2:HR (AC [A5 CU,A5 d.name]) CU=(d.name,0):=lJ hn;simp only[Em,AB,h2,DC,Y4];have h9:Fv (GB d.name) [] (gL d++(aL d).map Ec)=(d,s,0):=by
  unfold gL aL;rw[T6 _ _ h7,List.map_append,List.map_map,List.map_map];have e1:Fv ⟨d.name,d.types,d.constants,d.Ay,d.Au,[],[]⟩ s (List.map (Ec ∘ Eo) d.Av)=(⟨d.name,d.types,d.constants,d.Ay,d.Au,d.Av,[]⟩,s,0):=h5;have e2:Fv ⟨d.name,d.types,d.constants,d.Ay,d.Au,d.Av,[]⟩ s (List.map (Ec ∘ Ep) d.B0)=(d,s,0):=h6;exact(T6 _ _ e1).trans e2
 rw[h9]
theorem oq(h:HW d=true)(hv:(CJ (AC (HF d)) 0 0).1=true):KP (AC (HF d))=(d,0):=by
 unfold KP;rw[AK hv,om h];simp only[AO,h]
set_option maxHeartbeats 8000000
theorem ot{kws:List ByteArray}{l:List Sx}(h:l.length<2):Dg (kw::kws) l=A5 kw::E9 kw::Dg kws l:=by
 match l,h with
 |[],_=>rfl
 |[a],_=>rfl
structure TJ(C:List PV)(r N i:Nat)(K:List (List PV))(p:PV)(S:AE):Prop where
 s1:S 1= .Aj C
 s2:S 2= .ptr r 0 0
 s3:S 3= .A1 1 K
 s4:S 4=p
 s6:S 6= qK i
 s7:S 7= .ptr N 0 0
def NJ:Sx->PV->List PV
 | .mk ki va li co te _,q=>[qK ki,qK va,qK li,qK co,A3 te,q]
structure NK(H:A0)(v:Sx)(G:A0):Prop where
 next:G.next=H.next+1
 at_: ∃ q,G.obj H.next=some (.arr 6 [NJ v q])/\ ∀ n K,AI n K (.A1 6 (Sx.rows (BS v))) q
 B1: ∀ k,k<H.next->G.obj k=H.obj k
theorem NK.set{H G:A0}(i:NK H v G){q:PV}(hq: ∀ n K,AI n K (.A1 6 (Sx.rows (BS w))) q):NK H w (G.set H.next (.arr 6 [NJ w q])):=⟨i.next,⟨q,D7,hq⟩,λk hk=>(Aw (by omega)).trans (i.B1 k hk)⟩
theorem ou{q:PV}(hq:AI n K (.A1 6 (Sx.rows (BS v))) q):AN n K v.cells (NJ v q):=by
 obtain⟨ki,va,li,co,te,ks⟩:=v;have hs: ∀ v:Value,AI n K (.sc v) (.sc v):=λv=>by simp only[AI]
 simp only[Sx.cells,NJ,AN];exact⟨hs _,hs _,hs _,hs _,hs _,hq,trivial⟩
theorem Yk{z:Nat}:AI n K (.A1 z []) (.sc (.slice none 0 0)):=by simp[AI]
theorem Yl{l:List Sx}:AI n K (.A1 6 (Sx.rows l)) (.A1 6 (Sx.rows l)):=by
 simp only[AI];exact .inl ⟨trivial,HL n l⟩
theorem ov{h:A0}{id0 z:Nat}{p:PV}{rows:List (List PV)}(t:Tl h id0 z p rows):p.cells=[p]/\Cs p=true:=by
 rcases t with⟨_,rfl|rfl⟩|⟨id,_,_,rfl,_⟩<;>exact⟨rfl,rfl⟩
theorem oz{x k0 k1:Sx}{ks:List Sx}(hx:BS x=k0::k1::ks)(hsz:ks.length<=1000000)(h:A0):A6 prog 37 [.agg x.cells] h λr h'=>r= .agg (Ec x).cells/\h'=h:=by
 refine A6.CD Ty.Ua ?_;obtain⟨xi,xv,xl,xc,xt,kids⟩:=x;simp only[BS]at hx;subst hx;have hF:Ec (.mk xi xv xl xc xt (k0::k1::ks))=AC (k0::k1::Dg (bif A2 (Af k0) D8 then Fj else FQ) ks):=rfl;rw[hF];have hR:=Sx.B3 (k0::k1::ks);have hRl:((Sx.rows (k0::k1::ks)).length:Int)=(ks.length:Int)+2:=by rw[hR];simp;omega
 have hr0:(Sx.rows (k0::k1::ks))[0]? =some k0.cells:=rfl;have hr1:(Sx.rows (k0::k1::ks))[1]? =some k1.cells:=rfl;have hrow: ∀ j a,ks[j]? =some a->(Sx.rows (k0::k1::ks))[j+2]? =some a.cells:=λj a ha=>Sx.CG (by simp only[List.getElem?_cons_succ];exact ha);simp only[Sx.cells];generalize Sx.rows (k0::k1::ks)=R at hR hRl hr0 hr1 hrow⊢;have hl0: ∀ h:A0,A6 prog 27 [.sc (.slice none 0 0)] h λr h'=>r= .agg (AC []).cells/\h'=h:=λh=>
  A6.nz (N9 [] h) (HP OD (D6.refl _))
 simp only[AC,Sx.cells,Sx.rows]at hl0
 clear hF;have e0:(0:Int)<(ks.length:Int)+2:=by omega
 have e1:(1:Int)<(ks.length:Int)+2:=by omega
 refine uG (ow:=λt=>t==24) (wf:=λ_=>false) func37 ntmps37 results37 Ty.Ua ?_;refine xH 2 A4 ?_;refine⟨?_⟩;refine D0 (λS H=>S 1= .Aj [qK xi,qK xv,qK xl,qK xc,A3 xt,.A1 6 R]/\S 2= .ptr h.next 0 0/\S 3= .A1 1 (AL (bif A2 (Af k0) D8 then Fj else FQ))/\H.next=h.next+1/\AH h H/\ ∃ o,H.obj h.next=some (.arr 6 [o])/\o.length=6) ?_ ?_
 ·obtain ⟨ki,va,li,co,te,kk⟩:=k0;simp only[Sx.cells]at hr0;simp only[Af];cases qa:(te.data.toList==(#[58,100,117,114,97,116,105,118,101,45,97,99,116,105,111,110]:Array UInt8).toList)with
  |true=>
   rw[show A2 te D8=true from qa];replace zz:=AW hr0 hRl e0 qa;refine wt zz ?_;exact⟨rfl,(AH.refl h).new _,_,rfl,rfl⟩
  |false=>
   rw[show A2 te D8=false from qa];replace zz:=AW hr0 hRl e0 qa;refine wt zz ?_;exact⟨rfl,rfl,rfl,rfl,(AH.refl h).new _,_,KO,rfl⟩
 ·have hkl:(bif A2 (Af k0) D8 then Fj else FQ).length<=7:=by
   cases A2 (Af k0) D8<;>decide
  generalize(bif A2 (Af k0) D8 then Fj else FQ)=kws at hkl;rintro S H ⟨s1,s2,s3,hn,hg,o,ho,hol6⟩;have hsl:=GI kws;have hsli:((AL kws).length:Int)=kws.length:=by rw[hsl]
  obtain⟨TOT,hT⟩: ∃ t,t=k0::k1::Dg kws ks:=⟨_,rfl⟩;rw[← hT];obtain⟨O2,hO2⟩: ∃ t,t=[k0,k1]:=⟨_,rfl⟩;have hO2l:O2.length=2:=by rw[hO2];try rfl
  have hO2r:Sx.rows O2=[k0.cells,k1.cells]:=by rw[hO2];try rfl
  have hT2:TOT=O2++Dg (kws.drop 0) (ks.drop 0):=by rw[hT,hO2];try rfl
  clear hT hO2;obtain⟨ai,av,al,ac,ax,ak⟩:=k0;obtain⟨bi,bv,bl,bc,bx,bk⟩:=k1;simp only[Sx.cells]at hr0 hr1 hO2r;replace zz:=BF s1 s2 s3 hr0 hr1 hRl e0 e1 hsli;refine wy zz ?_;refine By (λm S H=> ∃ (i j:Nat)(out:List Sx)(p:PV),S 1= .Aj [qK xi,qK xv,qK xl,qK xc,A3 xt,.A1 6 R]/\S 2= .ptr h.next 0 0/\S 3= .A1 1 (AL kws)/\S 4=p/\S 5= qK ((j:Int)+2)/\S 6= qK i/\i<=kws.length/\m=kws.length-i/\j<=ks.length/\out.length=2*i+2/\AH h H/\h.next<H.next/\(∃ o,H.obj h.next=some (.arr 6 [o])/\o.length=6)/\Tl H (h.next+1) 6 p (Sx.rows out)/\TOT=out++Dg (kws.drop i) (ks.drop j)) kws.length ?_ ?_
  ·simp only[Ty.w,simprocAttr,s1,s2,s3];refine⟨0,0,O2,rfl,rfl,Bj _,rfl,Bj _,hO2l,hg.new _,by omega,⟨o,(A7 (by omega)).trans ho,hol6⟩,?_,hT2⟩;rw[hO2r];exact .inr ⟨H.next,by omega,by simp[A0.new],rfl,KO⟩
  ·clear s1 s2 s3 hn hg ho hol6 o hT2 hO2r hO2l;rintro m S H ⟨i,j,out,p,s1,s2,s3,s4,s5,s6,hi,rfl,hj,hol,hg,hn,⟨o,ho,hol6⟩,tl,hinv⟩;by_cases hlt:i<kws.length
   ·have hd:decide ((i:Int)<(kws.length:Int))=true:=Ha (by omega);have hi1:(i:Int)<(kws.length:Int):=(by omega);obtain⟨kw,hkx⟩: ∃ s,kws[i]? =some s:=⟨_,List.getElem?_eq_getElem hlt⟩;have hrk:=K3 hkx;have hdr:kws.drop i=kw::kws.drop (i+1):=N3 hkx;rw[hdr]at hinv;have hcw:=λh:A0=>XA (s:=kw) h;simp only[A5,Sx.cells,Sx.rows]at hcw;replace zz:=AW s6 s3 hsli hd;refine wt zz ?_;replace zz:=AW s6 s3 hsli hd;refine uU zz (hl0 _) ?_;refine xH 10 s6 ?_;refine⟨?_⟩;refine Cf (λS G=>TJ [qK xi,qK xv,qK xl,qK xc,A3 xt,.A1 6 R] h.next H.next i (AL kws) p S/\S 5= qK ((j:Int)+2)/\NK H (AC []) G) ?_ ?_
    ·exact ⟨⟨sq s1,sq s2,sq s3,sq s4,sq s6,sq A4⟩,sq s5,by simp only[A0.set,A0.new],⟨_,D7,λn K=>Yl⟩,λk hk=>(Aw (by omega)).trans (Ib (by omega))⟩
    clear s1 s2 s3 s4 s5 s6;rintro S G ⟨⟨s1,s2,s3,s4,s6,s7⟩,s5,fh⟩;refine D0 (λS G=>TJ [qK xi,qK xv,qK xl,qK xc,A3 xt,.A1 6 R] h.next H.next i (AL kws) p S/\S 5= qK ((j:Int)+2)/\NK H (E9 kw) G) ?_ ?_
    ·obtain ⟨q7,g7,_⟩:=fh.at_;simp only[AC,NJ]at g7;cases qa:(kw.data.toList==(#[58,99,111,115,116]:Array UInt8).toList)with
     |true=>
      have hdf:E9 kw=D1 1:=(by unfold E9;rw[show A2 kw EZ=true from qa];try rfl);rw[hdf];have hst:=fh.set (w:=D1 1) (λn K=>Yk);replace zz:=BJ s3 s6 s7 hrk hsli hi1 qa g7;refine wt zz ?_;exact⟨⟨sq s1,sq s2,sq s3,sq s4,sq s6,sq s7⟩,sq s5,hst⟩
     |false=>
      cases qb:(kw.data.toList==(#[58,100,117,114,97,116,105,111,110]:Array UInt8).toList)with
      |true=>
       have hdf:E9 kw=D1 1:=(by unfold E9;rw[show A2 kw E6=true from qb,Dp];try rfl);rw[hdf];have hst:=fh.set (w:=D1 1) (λn K=>Yk);replace zz:=BF s3 s6 s7 hrk hsli hi1 qa qb g7;refine wt zz ?_;exact⟨⟨sq s1,sq s2,sq s3,sq s4,sq s6,sq s7⟩,sq s5,hst⟩
      |false=>
       have hdf:E9 kw=AC []:=(by unfold E9;rw[show A2 kw EZ=false from qa,show A2 kw E6=false from qb];try rfl);rw[hdf];replace zz:=BF s3 s6 s7 hrk hsli hi1 qa qb g7;refine wt zz ?_;exact⟨⟨sq s1,sq s2,sq s3,sq s4,sq s6,sq s7⟩,sq s5,fh⟩
    clear s1 s2 s3 s4 s5 s6 s7 fh;rintro S G ⟨⟨s1,s2,s3,s4,s6,s7⟩,s5,fh⟩;refine D0 (λS G=> ∃ (v:Sx)(j':Nat),TJ [qK xi,qK xv,qK xl,qK xc,A3 xt,.A1 6 R] h.next H.next i (AL kws) p S/\S 5= qK ((j':Int)+2)/\NK H v G/\j'<=ks.length/\Dg (kw::kws.drop (i+1)) (ks.drop j)=A5 kw::v::Dg (kws.drop (i+1)) (ks.drop j')) ?_ ?_
    ·obtain ⟨q7,g7,_⟩:=fh.at_;have wj:IntKind.i64.wrap ((j:Int)+2+1)=(j:Int)+2+1:=BM (by omega) (by omega);have wj2:IntKind.i64.wrap ((j:Int)+2+2)=(j:Int)+2+2:=BM (by omega) (by omega);by_cases hj2:j+1<ks.length
     ·have hda:decide ((j:Int)+2+1<(ks.length:Int)+2)=true:=Ha (by omega);obtain⟨a,ha⟩: ∃ a,ks[j]? =some a:=⟨_,List.getElem?_eq_getElem (by omega)⟩;obtain⟨v,hv⟩: ∃ a,ks[j+1]? =some a:=⟨_,List.getElem?_eq_getElem hj2⟩;have hdj:ks.drop j=a::v::ks.drop (j+2):=(by rw[N3 ha,N3 hv]);rw[hdj];have hra:=hrow j a ha;have hrv:=hrow (j+1) v hv;have t1:((j:Int)+2).toNat=j+2:=(by omega);have t2:((j:Int)+2+1).toNat=j+1+2:=(by omega);have b1:(0:Int)<=(j:Int)+2:=(by omega);have b2:(j:Int)+2<(ks.length:Int)+2:=(by omega);have b3:(0:Int)<=(j:Int)+2+1:=(by omega);have b4:(j:Int)+2+1<(ks.length:Int)+2:=(by omega);have hst:=fh.set (w:=v) (λn K=>Yl);have hfe:Dg (kw::kws.drop (i+1)) (a::v::ks.drop (j+2))=bif A2 (Af a) kw then A5 kw::v::Dg (kws.drop (i+1)) (ks.drop (j+2))else A5 kw::E9 kw::Dg (kws.drop (i+1)) (a::v::ks.drop (j+2)):=rfl
      rw[hfe];clear hfe;obtain⟨yi,yv,yl,yc,yt,yk⟩:=a;simp only[Sx.cells]at hra;simp only[Af];cases qe:(yt.data.toList==kw.data.toList)with
      |true=>
       rw[show A2 yt kw=true from qe,AB];obtain⟨D,hD⟩: ∃ D,D=E9 kw:=⟨_,rfl⟩;rw[← hD]at g7;obtain⟨di,dv,dl,dc,dt,dk⟩:=D;obtain⟨vi,vv,vl,vc,vt,vk⟩:=v;simp only[NJ]at g7;simp only[Sx.cells]at hrv;replace zz:=AY s1 s3 s5 s6 s7 hrk hsli hi1 hRl wj wj2 (DX hda t1 t2 b1 b2 b3 b4 hra hrv qe g7);refine wy zz ?_;exact⟨.mk vi vv vl vc vt vk,j+2,⟨sq s1,sq s2,sq s3,sq s4,sq s6,sq s7⟩,by rw[show((j:Int)+2+2)=((j+2:Nat):Int)+2 by omega],hst,by omega,rfl⟩
      |false=>
       rw[show A2 yt kw=false from qe,AJ];replace zz:=AY s1 s3 s5 s6 s7 hrk hsli hi1 hRl wj wj2 (Ah hda t1 b1 b2 hra qe);refine wy zz ?_;exact⟨E9 kw,j,⟨sq s1,sq s2,sq s3,sq s4,sq s6,sq s7⟩,sq s5,fh,hj,by rw[hdj]⟩
     ·have hda:decide ((j:Int)+2+1<(ks.length:Int)+2)=false:=NN (by omega);have hfe:=ot (kw:=kw) (kws:=kws.drop (i+1)) (l:=ks.drop j) (by rw[List.length_drop];omega);rw[hfe];replace zz:=DX s1 s3 s5 s6 s7 hrk hsli hi1 hRl wj hda;refine wy zz ?_;exact⟨E9 kw,j,⟨sq s1,sq s2,sq s3,sq s4,sq s6,sq s7⟩,sq s5,fh,hj,rfl⟩
    clear s1 s2 s3 s4 s5 s6 s7 fh;rintro S G ⟨v,j',⟨s1,s2,s3,s4,s6,s7⟩,s5,fh,hj',hfe⟩;rw[hfe]at hinv;obtain⟨q7,g7,hq7⟩:=fh.at_;refine Jz H.next [(7,.Aj v.cells)] rfl (by rw[fh.next];omega) ?_ ?_
    ·intro x hx;simp only[List.mem_cons,List.not_mem_nil,FF]at hx;subst hx;simp only[AI];exact .inr ⟨H.next,0,0,6,_,_,by simp only[s7],AG _,g7,rfl,ou (hq7 _ _)⟩
    have hob: ∀ k,k<H.next->(Dz H.next G).obj k=H.obj k:=λk hk=>by simp only[Dz];rw[AK hk];exact fh.B1 k hk
    have hbn:(Dz H.next G).next=H.next+1:=fh.next
    have tl2:Tl (Dz H.next G) (h.next+1) 6 p (Sx.rows out):=tl.up (by rw[hbn];omega) λk _ hk=>hob k hk;have hg2:AH h (Dz H.next G):=⟨by rw[hbn];have:=hg.le;omega,λk hk=>(hob k (by omega)).trans (hg.B1 k hk)⟩;have ho2:(Dz H.next G).obj h.next=some (.arr 6 [o]):=(hob _ hn).trans ho
    refine Cf (λS G=>S 1= .Aj [qK xi,qK xv,qK xl,qK xc,A3 xt,.A1 6 R]/\S 2= .ptr h.next 0 0/\S 3= .A1 1 (AL kws)/\S 4=p/\S 5= qK ((j':Int)+2)/\S 6= qK i/\S 7= .Aj v.cells/\G.next=H.next+1/\Tl G (h.next+1) 6 p (Sx.rows out)/\AH h G/\G.obj h.next=some (.arr 6 [o])) ⟨by simp only[DT,Ty.w,simprocAttr,s1],by simp only[DT,Ty.w,simprocAttr,s2],by simp only[DT,Ty.w,simprocAttr,s3],by simp only[DT,Ty.w,simprocAttr,s4],by simp only[DT,Ty.w,simprocAttr,s5],by simp only[DT,Ty.w,simprocAttr,s6],by simp only[DT,Ty.w,simprocAttr],hbn,tl2,hg2,ho2⟩ ?_;clear s1 s2 s3 s4 s5 s6 s7 fh hob tl hg g7 hq7 hbn tl2 hg2 ho2;rintro S G ⟨s1,s2,s3,s4,s5,s6,s7,hbn,tl2,hg2,ho2⟩;obtain⟨Hk,u1,u2,u3,u4,u5⟩:=tl2.tail;have hrl:=Sx.B3 out;have hro2:Sx.rows (out++[A5 kw,v])=Sx.rows out++[(A5 kw).cells,v.cells]:=(by simp[Sx.rows_map]);have hbb:(out.length+2)*72<=140737488355328:=(by omega);have wi:IntKind.i64.wrap ((i:Int)+1)=((i+1:Nat):Int):=(by rw[BM (by omega) (by omega)];omega);have hinv2:TOT=(out++[A5 kw,v])++Dg (kws.drop (i+1)) (ks.drop j'):=(by rw[hinv];simp);obtain⟨O3,hO3⟩: ∃ l,l=out++[A5 kw,v]:=⟨_,rfl⟩;have hO3l:O3.length=2*(i+1)+2:=(by rw[hO3];simp;omega);rw[← hO3]at hro2 hinv2;clear hO3 hinv hfe;obtain⟨vi,vv,vl,vc,vt,vk⟩:=v;simp only[A5,Sx.cells,Sx.rows]at hro2 s7;replace zz:=DX s1 s2 s3 s4 s5 s6 s7 hrk hsli hi1 wi;refine wy zz ?_;replace zz:=AY s1 s2 s3 s4 s5 s6 s7 hrk hsli hi1 wi (Ae u1 u2 u3 hrl hbb);(first|refine uV zz (hcw _) ?_|refine uA zz (hcw _) ?_);refine wy zz ?_;have hgk:AH h Hk:=⟨by rw[u3];exact hg2.le,λk hk=>(u4 k (by omega)).trans (hg2.B1 k hk)⟩;refine⟨kws.length-(i+1),by omega,i+1,j',O3,rfl,rfl,by omega,rfl,hj',hO3l,hgk.new _,by omega,⟨o,(A7 (by omega)).trans ((u4 _ (by omega)).trans ho2),hol6⟩,?_,hinv2⟩;rw[hro2, ← u3];exact Tl.grow (by omega) (by rw[List.length_append,hrl];try rfl)
   ·have hd:decide ((i:Int)<(kws.length:Int))=false:=NN (by omega);have hie:i=kws.length:=(by omega);subst hie;rw[List.drop_length]at hinv;simp only[Dg,List.append_nil]at hinv;subst hinv;obtain⟨hpc,hp1⟩:=ov tl;have h6:(6<=o.length)=True:=Di (by omega);have hd6:List.drop 6 o=[]:=List.drop_eq_nil_of_le (by omega);replace zz:=AY s1 s2 s3 s4 s6 hsli hd ho hpc hp1 h6 hd6;refine wt zz ?_;refine⟨?_,hg.set (AG _) _⟩;simp only[AC,Sx.cells,AI];have tl2:Tl (H.set h.next (.arr 6 [[qK 3,qK 0,qK 0,qK 0,.sc (.string ⟨#[]⟩),p]])) (h.next+1) 6 p (Sx.rows TOT):=tl.up (AG _) λk hk _=>Aw (by omega);refine⟨_,rfl,?_⟩;have hs: ∀ n K (v:Value),AI n K (.sc v) (.sc v):=λn K v=>(by simp only[AI]);simp only[AN];refine⟨hs _ _ _,hs _ _ _,hs _ _ _,hs _ _ _,hs _ _ _,?_,trivial⟩;generalize H.set h.next _=K at tl2
    simp only[AI];rcases tl2 with⟨h1,h2⟩|⟨id,h1,h2,e,ho3⟩
    ·exact .inr (.inl ⟨h1,h2.symm⟩)
    ·refine .inr (.inr ⟨id,0,_,_,e,by omega,ho3,by omega,?_⟩);rw[List.drop_zero,List.take_of_length_le (by omega)];exact IM _ K TOT
set_option maxHeartbeats 4000000
def Jj:ByteArray:=⟨#[110,111,116]⟩
def TK:Sx:=AC [A5 DQ,AC [A5 CU,A5 ⟨#[100]⟩],AC [A5 Cg,A5 ⟨#[97]⟩,A5 Ea,AC [A5 Jj,AC [A5 ⟨#[112]⟩]]]]
def Ou:Dm:=⟨⟨#[100]⟩,[],[],[],[],[⟨⟨#[97]⟩,[],1,Bu,[⟨2,[],Bu,⟨#[112]⟩,[],C2⟩]⟩],[]⟩
theorem pA:KP TK=(Ou,0):=by kernel_rfl
theorem pB:Sd Ou ⟨#[112]⟩=false:=by decide
theorem Ym:TK.ok:=by
 unfold TK;refine LD (by decide) ?_;intro x hx;simp only[List.mem_cons,List.not_mem_nil,FF]at hx;rcases hx with rfl|rfl|rfl
 ·exact DB (by decide)
 ·refine LD (by decide) ?_;intro x hx;simp only[List.mem_cons,List.not_mem_nil,FF]at hx;rcases hx with rfl|rfl
  ·exact DB (by decide)
  ·exact DB (by decide)
 ·refine LD (by decide) ?_;intro x hx;simp only[List.mem_cons,List.not_mem_nil,FF]at hx;rcases hx with rfl|rfl|rfl|rfl
  ·exact DB (by decide)
  ·exact DB (by decide)
  ·exact DB (by decide)
  ·refine LD (by decide) ?_;intro x hx;simp only[List.mem_cons,List.not_mem_nil,FF]at hx;rcases hx with rfl|rfl
   ·exact DB (by decide)
   ·refine LD (by decide) ?_;intro x hx;simp only[List.mem_cons,List.not_mem_nil,FF]at hx;subst hx;exact DB (by decide)
theorem Qf:A6 prog 11 [] A0.nil λr h'=>r= .sc (.bool true)/\h'=A0.nil:=by
 have hP:=λh:A0=>Yb Ym h;have hok:=(oG Ym).ok;simp only[pA]at hP hok;have hS:=λh:A0=>kO hok ⟨#[112]⟩ h;rw[pB]at hS
 clear hok;have hw:=λ(s:ByteArray)(h:A0)=>XA (s:=s) h;simp only[A5,Sx.cells,Sx.rows]at hw;obtain⟨R1,hR1⟩: ∃ R,R=Sx.rows [A5 CU,A5 ⟨#[100]⟩]:=⟨_,rfl⟩;obtain⟨R2,hR2⟩: ∃ R,R=Sx.rows [A5 ⟨#[112]⟩]:=⟨_,rfl⟩;obtain⟨R3,hR3⟩: ∃ R,R=Sx.rows [A5 Jj,AC [A5 ⟨#[112]⟩]]:=⟨_,rfl⟩;obtain⟨R4,hR4⟩: ∃ R,R=Sx.rows [A5 Cg,A5 ⟨#[97]⟩,A5 Ea,AC [A5 Jj,AC [A5 ⟨#[112]⟩]]]:=⟨_,rfl⟩;obtain⟨R5,hR5⟩: ∃ R,R=Sx.rows [A5 DQ,AC [A5 CU,A5 ⟨#[100]⟩],AC [A5 Cg,A5 ⟨#[97]⟩,A5 Ea,AC [A5 Jj,AC [A5 ⟨#[112]⟩]]]]:=⟨_,rfl⟩;have hl1: ∀ h:A0,A6 prog 27 [.A1 6 [[qK 1,qK 0,qK 0,qK 0,A3 CU,.A1 6 []],[qK 1,qK 0,qK 0,qK 0,A3 ⟨#[100]⟩,.A1 6 []]]] h λr h'=>r= .agg [qK 3,qK 0,qK 0,qK 0,A3 ⟨#[]⟩,.A1 6 R1]/\h'=h:=λh=>by
  rw[hR1];exact N9 [A5 CU,A5 ⟨#[100]⟩] h
 have hl2: ∀ h:A0,A6 prog 27 [.A1 6 [[qK 1,qK 0,qK 0,qK 0,A3 ⟨#[112]⟩,.A1 6 []]]] h λr h'=>r= .agg [qK 3,qK 0,qK 0,qK 0,A3 ⟨#[]⟩,.A1 6 R2]/\h'=h:=λh=>by
  rw[hR2];exact N9 [A5 ⟨#[112]⟩] h
 have hl3: ∀ h:A0,A6 prog 27 [.A1 6 [[qK 1,qK 0,qK 0,qK 0,A3 Jj,.A1 6 []],[qK 3,qK 0,qK 0,qK 0,A3 ⟨#[]⟩,.A1 6 R2]]] h λr h'=>r= .agg [qK 3,qK 0,qK 0,qK 0,A3 ⟨#[]⟩,.A1 6 R3]/\h'=h:=λh=>by
  rw[hR2,hR3];exact N9 [A5 Jj,AC [A5 ⟨#[112]⟩]] h
 have hl4: ∀ h:A0,A6 prog 27 [.A1 6 [[qK 1,qK 0,qK 0,qK 0,A3 Cg,.A1 6 []],[qK 1,qK 0,qK 0,qK 0,A3 ⟨#[97]⟩,.A1 6 []],[qK 1,qK 0,qK 0,qK 0,A3 Ea,.A1 6 []],[qK 3,qK 0,qK 0,qK 0,A3 ⟨#[]⟩,.A1 6 R3]]] h λr h'=>r= .agg [qK 3,qK 0,qK 0,qK 0,A3 ⟨#[]⟩,.A1 6 R4]/\h'=h:=λh=>by
  rw[hR3,hR4];exact N9 [A5 Cg,A5 ⟨#[97]⟩,A5 Ea,AC [A5 Jj,AC [A5 ⟨#[112]⟩]]] h
 have hl5: ∀ h:A0,A6 prog 27 [.A1 6 [[qK 1,qK 0,qK 0,qK 0,A3 DQ,.A1 6 []],[qK 3,qK 0,qK 0,qK 0,A3 ⟨#[]⟩,.A1 6 R1],[qK 3,qK 0,qK 0,qK 0,A3 ⟨#[]⟩,.A1 6 R4]]] h λr h'=>r= .agg [qK 3,qK 0,qK 0,qK 0,A3 ⟨#[]⟩,.A1 6 R5]/\h'=h:=λh=>by
  rw[hR1,hR4,hR5];exact N9 [A5 DQ,AC [A5 CU,A5 ⟨#[100]⟩],AC [A5 Cg,A5 ⟨#[97]⟩,A5 Ea,AC [A5 Jj,AC [A5 ⟨#[112]⟩]]]] h
 have hP: ∀ h:A0,A6 prog 22 [.agg [qK 3,qK 0,qK 0,qK 0,A3 ⟨#[]⟩,.A1 6 R5]] h λr h'=>r= .Al [.agg Ou.cells,.sc .nilIface]/\h'=h:=λh=>by
  rw[hR5];exact hP h
 obtain⟨AR,hAR⟩: ∃ R,R=BV Ou.Av:=⟨_,rfl⟩;obtain⟨CR,hCR⟩: ∃ R,R=Ag [⟨2,[],Bu,⟨#[112]⟩,[],C2⟩]:=⟨_,rfl⟩;have hA0:AR[0]? =some [A3 ⟨#[97]⟩,.A1 2 [],qK 1,A3 Bl,A3 ⟨#[]⟩,.A1 1 [],.A1 2 [],.A1 5 [],.A1 6 [],.A1 15 CR]:=by rw[hAR,hCR];try rfl
 have hAl:(AR.length:Int)=1:=by rw[hAR];try rfl
 have hC0:CR[0]? =some [qK 2,.A1 2 [],A3 Bl,A3 ⟨#[]⟩,.A1 1 [],.A1 2 [],.A1 5 [],.A1 6 [],A3 ⟨#[112]⟩,.A1 1 [],A3 ⟨#[]⟩,A3 ⟨#[]⟩,qK 0,.A1 1 [],.A1 5 []]:=by rw[hCR];try rfl
 have hCl:(CR.length:Int)=1:=by rw[hCR];try rfl
 have hDc:Ou.cells=[A3 ⟨#[100]⟩,.A1 2 [],.A1 2 [],.A1 2 [],.A1 4 [],.A1 10 AR,.A1 23 []]:=by rw[hAR];try rfl
 simp only[hDc]at hP hS
 clear hR1 hR2 hR3 hR4 hR5 hAR hCR hDc;have q1:((#[100]:Array UInt8).toList==(#[100]:Array UInt8).toList)=true:=by decide
 simp only[DQ,CU,Cg,Ea,Jj]at hl1 hl2 hl3 hl4 hl5;have h1:A6 prog 11 [] A0.nil λr _=>r= .sc (.bool true):=by
  refine AD func11 ntmps11 results11 Ty.fu ?_;refine wt A4 ?_;refine uU A4 (hw DQ _) ?_;repeat'(first|refine cK ?_|(refine nK ?_;try exact zI))
  refine uU A4 (hw CU _) ?_;repeat'(first|refine cK ?_|(refine nK ?_;try exact zI))
  refine uU A4 (hw ⟨#[100]⟩ _) ?_;repeat'(first|refine cK ?_|(refine nK ?_;try exact zI))
  refine uU A4 (hl1 _) ?_;repeat'(first|refine cK ?_|(refine nK ?_;try exact zI))
  refine uU A4 (hw Cg _) ?_;repeat'(first|refine cK ?_|(refine nK ?_;try exact zI))
  refine uU A4 (hw ⟨#[97]⟩ _) ?_;repeat'(first|refine cK ?_|(refine nK ?_;try exact zI))
  refine uU A4 (hw Ea _) ?_;repeat'(first|refine cK ?_|(refine nK ?_;try exact zI))
  refine uU A4 (hw Jj _) ?_;repeat'(first|refine cK ?_|(refine nK ?_;try exact zI))
  refine uU A4 (hw ⟨#[112]⟩ _) ?_;repeat'(first|refine cK ?_|(refine nK ?_;try exact zI))
  refine uU A4 (hl2 _) ?_;repeat'(first|refine cK ?_|(refine nK ?_;try exact zI))
  refine uU A4 (hl3 _) ?_;repeat'(first|refine cK ?_|(refine nK ?_;try exact zI))
  refine uU A4 (hl4 _) ?_;repeat'(first|refine cK ?_|(refine nK ?_;try exact zI))
  refine uU A4 (hl5 _) ?_;repeat'(first|refine cK ?_|(refine nK ?_;try exact zI))
  refine uU A4 (hP _) ?_;replace zz:=Ah @B4 hA0 hAl hC0 hCl q1;refine wt zz ?_;refine uU @B4 (hS _) ?_;exact wz (uu @B4 yF)
 refine A6.drop (h1.mono ?_);rintro r h' rfl;refine⟨.sc (.bool true),A0.nil,⟨rfl,rfl⟩,?_,AG _,λid o ho=>by simp[A0.nil]at ho⟩;simp only[AI]
set_option maxHeartbeats 8000000
theorem pC(kw:ByteArray):(E9 kw).ok:=by
 unfold E9;cases A2 kw EZ||A2 kw E6 with
 |true=>exact Oi ⟨by decide,by decide⟩
 |false=>exact LD (by simp[AF]) (λx hx=>by cases hx)
theorem pD(kw:ByteArray):(E9 kw).nodes=1:=by
 unfold E9;cases A2 kw EZ||A2 kw E6<;>decide
theorem TL: ∀ (kws:List ByteArray)(l:List Sx),(∀ kw∈kws,kw.size<=100)->(∀ x∈l,x.ok)->(∀ x∈Dg kws l,x.ok)/\Sx.Aq (Dg kws l)<=Sx.Aq l+2*kws.length/\(Dg kws l).length=2*kws.length
 |[],l,_,_=>⟨λx hx=>by simp[Dg]at hx,by simp[Dg,Sx.Aq],rfl⟩
 |kw::kws,l,hk,hl=>by
  have hw:(A5 kw).ok:=DB (by have:=hk kw (by simp);unfold AF;omega);have hk2: ∀ k∈kws,k.size<=100:=λk h=>hk k (by simp[h]);have hdf:(∀ x∈A5 kw::E9 kw::Dg kws l,x.ok)/\Sx.Aq (A5 kw::E9 kw::Dg kws l)<=Sx.Aq l+2*(kws.length+1)/\(A5 kw::E9 kw::Dg kws l).length=2*(kws.length+1):=by
   obtain⟨i1,i2,i3⟩:=TL kws l hk2 hl;refine⟨λx hx=>?_,?_,?_⟩
   ·simp only[List.mem_cons]at hx;rcases hx with rfl|rfl|hx
    ·exact hw
    ·exact pC _
    ·exact i1 x hx
   ·simp only[Sx.Aq,SW,pD];omega
   ·simp only[List.length_cons,i3];omega
  match l,hl,hdf with
  |[],_,hdf=>exact hdf
  |[a],_,hdf=>exact hdf
  |a::v::l,hl,hdf=>
   simp only[Dg];cases A2 (Af a) kw with
   |false=>exact hdf
   |true=>
    obtain⟨i1,i2,i3⟩:=TL kws l hk2 (λx hx=>hl x (by simp[hx]));simp only[AB];refine⟨λx hx=>?_,?_,?_⟩
    ·simp only[List.mem_cons]at hx;rcases hx with rfl|rfl|hx
     ·exact hw
     ·exact hl _ (by simp)
     ·exact i1 x hx
    ·have:=Sx.HG a;simp only[Sx.Aq,SW,List.length_cons];omega
    ·simp only[List.length_cons,i3];omega
theorem pE(x:Sx):(∀ kw∈MO x,kw.size<=100)/\(MO x).length<=7:=by
 unfold MO;split
 ·decide
 ·cases A2 _ D8<;>decide
theorem pF{x:Sx}(hok:x.ok)(hn:x.nodes<=AF):(Ec x).ok/\(Ec x).nodes<=x.nodes+14:=by
 obtain⟨xi,xv,xl,xc,xt,kids⟩:=x;obtain⟨h1,h2⟩:=pE (.mk xi xv xl xc xt kids);have hk: ∀ k∈kids,k.ok:=by
  simp only[Sx.ok]at hok;exact Sx.Bs.1 hok.2.2.2.2
 obtain⟨i1,i2,i3⟩:=TL (MO (.mk xi xv xl xc xt kids)) (kids.drop 2) h1 (λx hx=>hk x (List.mem_of_mem_drop hx));have ht:=Mz (kids.take 2) (kids.drop 2);rw[List.take_append_drop]at ht;simp only[Sx.nodes]at hn;unfold Ec;simp only[BS];refine⟨LD ?_ ?_,?_⟩
 ·simp only[List.length_append,i3,List.length_take,AF];omega
 ·intro y hy;rcases List.mem_append.1 hy with hy|hy
  ·exact hk y (List.mem_of_mem_take hy)
  ·exact i1 y hy
 ·rw [JT,Mz];simp only[Sx.nodes];omega
theorem Yn: ∀ (l:List Sx),(∀ x∈l,x.ok)->Sx.Aq l<=4096->(∀ x∈l.map Ec,x.ok)/\Sx.Aq (l.map Ec)<=15*Sx.Aq l
 |[],_,_=>⟨λx hx=>by simp at hx,by simp[Sx.Aq]⟩
 |a::l,hk,hn=>by
  simp only[Sx.Aq]at hn;have hp:=Sx.HG a;obtain⟨a1,a2⟩:=pF (hk a (by simp)) (by unfold AF;omega);obtain⟨l1,l2⟩:=Yn l (λx hx=>hk x (by simp[hx])) (by omega);refine⟨λx hx=>?_,?_⟩
  ·simp only[List.map_cons,List.mem_cons]at hx;rcases hx with rfl|hx
   ·exact a1
   ·exact l1 x hx
  ·simp only[List.map_cons,Sx.Aq];omega
theorem pG(d:Dm): ∀ x∈aL d, ∃ k0 k1 ks,BS x=k0::k1::ks:=by
 intro x hx;unfold aL at hx;rcases List.mem_append.1 hx with hx|hx
 ·obtain ⟨a,_,rfl⟩:=List.mem_map.1 hx;exact⟨A5 Cg,A5 a.name,Dn (Ie BX BH Bx a),by rw[Oe,Xz];try rfl⟩
 ·obtain ⟨a,_,rfl⟩:=List.mem_map.1 hx;exact⟨A5 D8,A5 a.name,Dn (If BX BH Bx a),by rw[Of,Y0];try rfl⟩
theorem TM(d:Dm):HF d=A5 DQ::AC [A5 CU,A5 d.name]::(gL d++(aL d).map Ec):=rfl
theorem pH(hok:d.ok)(hb:PV.bulkL d.cells<=1048576):A6 prog 9 [.agg d.cells] A0.nil λr _=>r= .sc (.bool true):=by
 have hsm:=my hb;have hL:=jv d hok;have hXo:=Xv hok hsm;have hW:=λh:A0=>Xi hok hsm hXo h;have e0:(GO d&&(CJ (H9 d) 0 0).1)=HW d:=rfl;rw[e0]at hW;generalize SY d=big at hL;cases big with
 |true=>
  clear hW hok hsm hb e0 hXo;obtain⟨dn,dt,dc,dp,df,da,dd⟩:=d;simp only[Dm.cells]at hL⊢;refine AD func9 ntmps9 results9 Ty.O4 ?_;refine wt A4 ?_;refine uU A4 (hL _) ?_;refine wt A4 ?_;refine uU A4 (Qf) ?_;exact wz A4
 |false=>
  cases hw:HW d with
  |false=>
   simp only[hw,BQ,AP]at hW;clear hok hsm hb hw e0 hXo;obtain⟨dn,dt,dc,dp,df,da,dd⟩:=d;simp only[Dm.cells,Ho,Sx.cells,Sx.rows,An]at hL hW⊢;refine AD func9 ntmps9 results9 Ty.O4 ?_;refine wt A4 ?_;refine uU A4 (hL _) ?_;refine wt A4 ?_;refine uU yT (Qf) ?_;refine wt yT ?_;refine uU A4 (hW _) ?_;exact wz A4
  |true=>
   simp only[hw,AO]at hW;have hC:=Vi (H9 d) hXo;have hpp:=oq hw;have hS:=λh:A0=>ja d d hok hok h;rw[jR]at hS;have hVS:(H9 d).nodes<=4096:=by
    unfold HW at hw;simp only[AV]at hw;exact(KL.1 hw.2).2.2
   have hXe:H9 d=AC (Ob d):=rfl;rw[oW]at hXe;rw[hXe]at hW hC hXo hVS;have hXk: ∀ x∈A5 DQ::AC [A5 CU,A5 d.name]::(gL d++aL d),x.ok:=by
    simp only[AC,Sx.ok]at hXo;exact Sx.Bs.1 hXo.2.2.2.2
   have haL:=oc d;have hgL:=od d;have ha2:=pG d;have hfl:=Yn (aL d) (λx hx=>hXk x (by simp[hx])) (by
    simp only[JT,Sx.Aq,Mz]at hVS;omega)
   have hMo:(∀ x∈HF d,x.ok)/\Sx.Aq (HF d)<=65536:=by
    rw[TM];refine⟨λx hx=>?_,?_⟩
    ·simp only[List.mem_cons,List.mem_append]at hx;rcases hx with rfl|rfl|hx|hx
     ·exact hXk _ (by simp)
     ·exact hXk _ (by simp)
     ·exact hXk _ (by simp[hx])
     ·exact hfl.1 x hx
    ·have h2:=hfl.2;simp only[JT,Sx.Aq,Mz]at hVS⊢;omega
   have hMl:=Qc (HF d);have hYo:(AC (HF d)).ok:=LD (by have:=hMo.2;unfold AF;omega) hMo.1;have hYn:(AC (HF d)).nodes<=AF:=(by rw[JT];have:=hMo.2;unfold AF;omega);have hYd:(AC (HF d)).depth<=AF:=ER (Sx.ZI _) hYn;have hV:=λh:A0=>jf hYo hYn hYd h;have hP:=λh:A0=>Yb hYo h;have NQ: ∀ k x,(A5 DQ::AC [A5 CU,A5 d.name]::(gL d++aL d))[k]? =some x->x.ok/\ ∃ y,(HF d)[k]? =some y/\((k<2/\y=x)\/(2<=k/\MN x=false/\y=x)\/(2<=k/\MN x=true/\y=Ec x/\ ∃ k0 k1 ks,BS x=k0::k1::ks/\ks.length<=1000000)):=by
    intro k x hx;refine⟨hXk x (List.mem_of_getElem? hx),?_⟩;rw[TM]
    match k,hx with
    |0,hx=>exact⟨_,rfl,.inl ⟨by omega,by simpa using hx⟩⟩
    |1,hx=>exact⟨_,rfl,.inl ⟨by omega,by simpa using hx⟩⟩
    |k+2,hx=>
     simp only[List.getElem?_cons_succ]at hx⊢;by_cases hkg:k<(gL d).length
     ·rw [List.getElem?_append_left hkg]at hx⊢;exact⟨x,hx,.inr (.inl ⟨by omega,hgL x (List.mem_of_getElem? hx),rfl⟩)⟩
     ·rw [List.getElem?_append_right (by omega)]at hx⊢;have hm:=List.mem_of_getElem? hx;obtain⟨k0,k1,ks,e⟩:=ha2 x hm;refine⟨Ec x,by rw[List.getElem?_map,hx];try rfl,.inr (.inr ⟨by omega,haL x hm,rfl,k0,k1,ks,e,?_⟩)⟩;have h1:=Ye (l:=A5 DQ::AC [A5 CU,A5 d.name]::(gL d++aL d)) (x:=x) (by simp[hm]);have h2:=Qc (BS x);rw[e]at h2;have h3:Sx.Aq (BS x)<=x.nodes:=(by cases x;simp only[BS,Sx.nodes];omega);rw[e]at h3;rw[JT]at hVS;simp only[List.length_cons]at h2;omega
   have hML:(HF d).length=(A5 DQ::AC [A5 CU,A5 d.name]::(gL d++aL d)).length:=(by rw[TM];simp);have hL4:=Qc (A5 DQ::AC [A5 CU,A5 d.name]::(gL d++aL d));rw[JT]at hVS;have hL2:2<=(A5 DQ::AC [A5 CU,A5 d.name]::(gL d++aL d)).length:=(by simp);generalize(A5 DQ::AC [A5 CU,A5 d.name]::(gL d++aL d))=T at hW hC hVS NQ hML hL4 hL2;have hM4:(HF d).length<=4096:=(by omega);generalize HF d=M at hpp hV hP NQ hML hM4;obtain⟨vv,hvv⟩: ∃ b,b=(CJ (AC M) 0 0).1:=⟨_,rfl⟩;simp only[← hvv]at hV hpp;have hP:vv=true-> ∀ h:A0,A6 prog 22 [.agg (AC M).cells] h λr h'=>r= .Al [.agg d.cells,.sc .nilIface]/\h'=h:=λe h=>by
    have:=hP h;rw[hpp e]at this;exact this
   clear hpp hvv;clear hXo hXk haL hgL ha2 hfl hMo hMl hYo hYn hYd hok hsm hb e0 hXe hw;have hR:=Sx.B3 T;have hRl:((Sx.rows T).length:Int)=(T.length:Int):=(by rw[hR]);have hLf:=λn h=>FZ n h (AC T);have hrow: ∀ (k:Nat)(x:Sx),T[k]? =some x->(Sx.rows T)[k]? =some x.cells:=λk x hx=>Sx.CG hx;simp only[AC,Sx.cells]at hW hC hLf hV hP;generalize Sx.count _=cn at hC;generalize Sx.rows T=R at hW hC hR hRl hLf hrow;have hMf:=λn h=>IM n h M;have hA:=λ(x:Sx)(hx:x.ok)(h:A0)=>oa hx h;have hFi:=λ(x k0 k1:Sx)(ks:List Sx)(h1:BS x=k0::k1::ks)(h2:ks.length<=1000000)(h:A0)=>oz h1 h2 h;cases d4:decide (cn>2000)with
   |true=>
    have d2:decide ((T.length:Int)>=2)=true:=Ha (by omega);obtain⟨dn,dt,dc,dp,df,da,dd⟩:=d;simp only[Dm.cells]at hL hW⊢;clear hS hV hP;refine AD func9 ntmps9 results9 Ty.O4 ?_;refine wt A4 ?_;refine uU A4 (hL _) ?_;refine wt A4 ?_;refine uU yT (Qf) ?_;refine wt yT ?_;refine uU A4 (hW _) ?_;refine wt (uu hRl @B4) ?_;refine uU (AU hRl d4 @B4) (hC _) ?_;replace zz:=AW hRl d2 d4 @B4;exact wz zz
   |false=>
    obtain⟨dn,dt,dc,dp,df,da,dd⟩:=d;simp only[Dm.cells]at hL hW hP hS⊢;refine AD func9 ntmps9 results9 Ty.O4 ?_;refine wt A4 ?_;refine uU A4 (hL _) ?_;refine wt A4 ?_;refine uU yT (Qf) ?_;refine wt yT ?_;refine uU A4 (hW _) ?_;refine xH 4 @B4 ?_;refine⟨?_⟩;refine Jz 0 [(3,.Aj [qK 3,qK 0,qK 0,qK 0,A3 ⟨#[]⟩,.A1 6 R])] rfl (Bj _) ?_ ?_
    ·intro x hx;simp only[List.mem_cons,List.not_mem_nil,FF]at hx;subst hx;simp only[AI];exact .inr ⟨0,0,0,6,_,_,by(simp only[Ty.w,simprocAttr];try rfl),AG _,D7,rfl,hLf 0 _⟩
    refine OI (λS H=>S 1= .Aj [A3 dn,.A1 2 (A8 dt),.A1 2 (A8 dc),.A1 2 (Bd dp),.A1 4 (BY df),.A1 10 (BV da),.A1 23 (BW dd)]/\S 3= .Aj [qK 3,qK 0,qK 0,qK 0,A3 ⟨#[]⟩,.A1 6 R]/\S 4= .sc .nilIface) ⟨by simp only[DT,Ty.w,simprocAttr],by simp only[DT,Ty.w,simprocAttr],by simp only[DT,Ty.w,simprocAttr]⟩ ?_;clear hL hW;rintro S H ⟨s1,s3,s4⟩;refine wt (AU s3 s4 @B4) ?_;replace zz:=AW s3 s4 d4 @B4;refine uU zz (hC _) ?_;refine wt zz ?_;refine By (λm S H=>S 1= .Aj [A3 dn,.A1 2 (A8 dt),.A1 2 (A8 dc),.A1 2 (Bd dp),.A1 4 (BY df),.A1 10 (BV da),.A1 23 (BW dd)]/\S 3= .Aj [qK 3,qK 0,qK 0,qK 0,A3 ⟨#[]⟩,.A1 6 R]/\ ∃ (k:Nat)(p:PV),S 6= qK k/\S 5=p/\k<=T.length/\m=T.length-k/\Tl H 0 6 p (Sx.rows (M.take k))) T.length ?_ ?_
    ·simp only[Ty.w,simprocAttr,s1,s3];exact⟨0,_,rfl,rfl,Bj _,rfl,Tl.nil⟩
    ·clear s1 s3 s4 hC;rintro m S H ⟨s1,s3,k,p,s6,s5,hk,rfl,tl⟩;by_cases hlt:k<T.length
     ·have hd:decide ((k:Int)<(T.length:Int))=true:=Ha (by omega);have w6:IntKind.i64.wrap ((k:Int)+1)=((k+1:Nat):Int):=(by rw[BM (by omega) (by omega)];omega);obtain⟨x,hx⟩: ∃ x,T[k]? =some x:=⟨_,List.getElem?_eq_getElem hlt⟩;obtain⟨hxo,y,hy,hcase⟩:=NQ k x hx;have hr:=hrow k x hx;have b1:(0:Int)<=(k:Int):=(by omega);have b2:(k:Int)<(T.length:Int):=(by omega);have hAx:=hA x hxo;obtain⟨Hk,u1,u2,u3,u4,u5⟩:=tl.tail;have hMk:(M.take k).length=k:=(by rw[List.length_take];omega);have hrl:(Sx.rows (M.take k)).length=k:=(by rw[Sx.B3,hMk]);have hro:Sx.rows (M.take (k+1))=Sx.rows (M.take k)++[y.cells]:=(by rw[List.take_add_one,hy];simp[Sx.rows_map]);have hbb:(k+1)*72<=140737488355328:=(by omega);have hfin:Tl (Hk.new (.arr 6 (Sx.rows (M.take k)++[y.cells]))) 0 6 (.own Hk.next 0 (k+1)) (Sx.rows (M.take (k+1))):=by
       rw[← hro];exact Tl.grow (Bj _) (by rw[Sx.B3,List.length_take];omega)
      rw[u3]at hfin;generalize Sx.rows (M.take k)=RM at tl u1 hrl hro hfin;rcases hcase with⟨hk2,e⟩|⟨hk2,hbx,e⟩|⟨hk2,hbx,e,k0,k1,ks,hki,hks⟩
      ·have d10:decide ((k:Int)>=2)=false:=NN (by omega);rw[e]at hfin;clear hAx e hy hx hro;obtain⟨xk,xv,xl,xc,xt,xs⟩:=x;simp only[Sx.cells]at hr hfin;replace zz:=AY s1 s3 s5 s6 hRl hd b1 b2 d10 hr u1 (Ae u2 u3 hrl hbb w6);refine wt zz ?_;exact⟨T.length-(k+1),by omega,k+1,_,by simp,rfl,by omega,rfl,hfin⟩
      ·have d10:decide ((k:Int)>=2)=true:=Ha (by omega);rw[e]at hfin;rw[hbx]at hAx;clear e hy hx hro;obtain⟨xk,xv,xl,xc,xt,xs⟩:=x;simp only[Sx.cells]at hr hfin hAx;replace zz:=B6 s1 s3 s5 s6 hRl hd b1 b2 d10 hr;refine wt zz ?_;replace zz:=B6 s1 s3 s5 s6 hRl hd b1 b2 d10 hr;refine uU zz (hAx _) ?_;replace zz:=AY s1 s3 s5 s6 hRl hd b1 b2 d10 hr u1 (Ae u2 u3 hrl hbb w6);refine wt zz ?_;exact⟨T.length-(k+1),by omega,k+1,_,by simp,rfl,by omega,rfl,hfin⟩
      ·have d10:decide ((k:Int)>=2)=true:=Ha (by omega);rw[hbx]at hAx;have hFx:=hFi x k0 k1 ks hki hks;rw[← e]at hFx;clear e hy hx hro;obtain⟨xk,xv,xl,xc,xt,xs⟩:=x;simp only[BS]at hki;subst hki;have hkl:=Sx.B3 (k0::k1::ks);have hkli:((Sx.rows (k0::k1::ks)).length:Int)=(ks.length:Int)+2:=(by rw[hkl];simp;omega);have d62:decide ((ks.length:Int)+2>=2)=true:=Ha (by omega);simp only[Sx.cells]at hr hAx hFx;generalize Sx.rows (k0::k1::ks)=RK at hkl hkli hr hAx hFx;obtain⟨yk,yv,yl,yc,yt,ys⟩:=y;simp only[Sx.cells]at hfin hFx;replace zz:=B6 s1 s3 s5 s6 hRl hd b1 b2 d10 hr;refine wt zz ?_;replace zz:=B6 s1 s3 s5 s6 hRl hd b1 b2 d10 hr;refine uU zz (hAx _) ?_;replace zz:=AY s1 s3 s5 s6 hRl hd b1 b2 d10 hr hkli d62;refine wt zz ?_;replace zz:=AY s1 s3 s5 s6 hRl hd b1 b2 d10 hr u1 (AW u2 u3 hrl hbb);refine uU zz (hFx _) ?_;replace zz:=AY s1 s3 s5 s6 hRl hd b1 b2 d10 hr u1 (Ae u2 u3 hrl hbb w6);refine wt zz ?_;exact⟨T.length-(k+1),by omega,k+1,_,by simp,rfl,by omega,rfl,hfin⟩
     ·have hd:decide ((k:Int)<(T.length:Int))=false:=NN (by omega);have hke:k=T.length:=(by omega);subst hke;rw[List.take_of_length_le (by omega)]at tl;replace zz:=AW s3 s6 hRl hd;refine xG 13 zz ?_;refine⟨?_⟩;refine Jz 0 [(5,.A1 6 (Sx.rows M))] rfl (Bj _) ?_ ?_
      ·intro x hx;simp only[List.mem_cons,List.not_mem_nil,FF]at hx;subst hx;simp only[Ty.w,simprocAttr,s5];exact oe tl
      refine OI (λS H=>S 1= .Aj [A3 dn,.A1 2 (A8 dt),.A1 2 (A8 dc),.A1 2 (Bd dp),.A1 4 (BY df),.A1 10 (BV da),.A1 23 (BW dd)]/\S 5= .A1 6 (Sx.rows M)) ⟨by simp only[DT,Ty.w,simprocAttr,s1],by simp only[DT,Ty.w,simprocAttr]⟩ ?_;clear s1 s3 s5 s6;rintro S H ⟨s1,s5⟩;cases vv with
      |false=>
       refine wt s5 ?_;refine uU s5 (hV _) ?_;exact wz (AU s1 s5 yF)
      |true=>
       have hP:=hP rfl;refine wt s5 ?_;refine uU s5 (hV _) ?_;refine wt (AU s1 s5 yT) ?_;refine uU (uu s1 s5) (hP _) ?_;refine wt (uu s1 @B4) ?_;refine uU (uu s1 @B4) (hS _) ?_;exact wz @B4
end Go.Proofs.YtblgchkahpgdjaaGreat
