/- What the claim rests on, part 7: the abstract machine, contracts of the functions, plain data. -/
import Derived.OpenShut
import Derived.ChangeShapes
import Derived.SizedLaws
import Derived.Test.YtblgchkahpgdjaaGreatZm6
set_option linter.unusedVariables false
set_option linter.unusedSimpArgs false
set_option linter.unusedSectionVars false
namespace Go.AM
mutual
def Sx.nodes:Sx->Nat
 | .mk _ _ _ _ _ kids=>Sx.Aq kids+1
def Sx.Aq:List Sx->Nat
 |[]=>0
 |k::ks=>k.nodes+Sx.Aq ks
end
mutual
theorem Sx.count_eq: ∀ (x:Sx),x.nodes<=AF->x.count=x.nodes
 | .mk _ _ _ _ _ kids,h=>by
  simp only[Sx.nodes]at h;simp only[Sx.count,Sx.nodes];have:=Sx.ZD kids 1 (by omega);simp only[TS]at this;rw[this];congr 1;omega
theorem Sx.ZD: ∀ (l:List Sx)(n:Nat),n+Sx.Aq l<=AF->Sx.counts n l=(n+Sx.Aq l:Nat)
 |[],n,h=>by simp[Sx.counts,Sx.Aq]
 |k::ks,n,h=>by
  simp only[Sx.Aq]at h;simp only[Sx.counts,Sx.Aq];rw[Sx.count_eq k (by omega)];have hw:IntKind.i64.wrap ((n:Int)+(k.nodes:Int))=((n+k.nodes:Nat):Int):=by unfold AF at h;rw[BM (by omega) (by omega)];omega
  rw[hw,Sx.ZD ks (n+k.nodes) (by omega)];congr 1;omega
end
end Go.AM
namespace Go.Proofs.YtblgchkahpgdjaaGreat
open Go.AM Go.Proofs.Tryz
theorem j1(c:UInt8):Ev c=some c↔wB c=true:=by
 unfold Ev;cases hu:IL c with
 |true=>
  have h1:65<=c.toNat/\c.toNat<=90:=by simpa[IL]using hu
  have hw:wB c=false:=by
   have h2:E2 c=false:=(by simp[E2];omega);have h3:DL c=false:=(by simp[DL];omega);have h4:Lx.contains c=false:=by
    rw[Dk];have: ∀ v:Int,v=45\/v=95\/v=63\/v=58\/v=60\/v=62\/v=61\/v=43\/v=42->((c.toNat:Int)==v)=false:=by
     intro v hv;rw[NM];omega
    simp[this]
   simp only[wB,h2,h3,h4,GD]
  rw[hw];simp only[AO,BC,BQ,iff_false];intro e;have:=LQ UInt8.toNat e;rw[UInt8.toNat_add]at this;simp at this;omega
 |false=>
  simp only[BQ,AP];cases wB c<;>simp
theorem Vj: ∀ l:List UInt8,Eh l=some l↔l.all wB=true
 |[]=>by simp[Eh]
 |c::l=>by
  have h1:=j1 c;have h2:=Vj l;simp only[Eh,List.all_cons,AV];cases hc:Ev c with
  |none=>rw[hc]at h1;simp at h1⊢;intro hw;rw[h1]at hw;simp at hw
  |some d=>
   rw[hc]at h1;cases hl:Eh l with
   |none=>rw[hl]at h2;simp at h2⊢;intro _;simpa using h2
   |some p=>
    rw[hl]at h2;simp only[Bq,BC,List.cons.injEq];rw[← h1, ← h2];simp
theorem j2(s:ByteArray):JL s=Kw s:=by
 have hsl:s.data.toList.length=s.size:=by rw[Ed];try rfl
 have hself:=Vj s.data.toList;unfold JL Kw FI;by_cases hc:0<s.size/\s.size<=32
 ·rw [AK hc];have d1:decide (1<=s.size)=true:=by simp;omega
  have d2:decide (s.size<=32)=true:=by simp;omega
  rw[d1,d2];cases hl:Eh s.data.toList with
  |none=>
   rw[hl]at hself;have:s.data.toList.all wB=false:=by
    cases h:s.data.toList.all wB with
    |false=>rfl
    |true=>rw[h]at hself;simp at hself
   simp only[this,B5]
  |some p=>
   rw[hl]at hself;cases h:s.data.toList.all wB with
   |true=>
    rw[h]at hself;have hp:p=s.data.toList:=(by simpa using hself);subst hp;have:(⟨s.data.toList.toArray⟩:ByteArray)=s:=Px rfl;simp only[this,A2,DC,B7]
   |false=>
    rw[h]at hself;have hp:¬ p=s.data.toList:=(by simpa using hself);have:A2 (⟨p.toArray⟩:ByteArray) s=false:=(by simp only[A2,NM];exact hp);simp only[this,BA,B5]
 ·rw [A7 hc];have:(decide (1<=s.size)&&decide (s.size<=32))=false:=by
   cases h:(decide (1<=s.size)&&decide (s.size<=32))with
   |false=>rfl
   |true=>
    simp only[AV,Ba]at h;exact absurd ⟨by omega,h.2⟩ hc
  simp only[B5];rw[Bool.and_assoc (s.data.toList.all wB),this];simp
mutual
theorem JO: ∀ (x:Sx)(d n:Nat),d<=32->n<=4096->((CJ x d n).1=true↔HO x=true/\d+x.depth<=32/\n+x.nodes<=4096)/\((CJ x d n).1=true->(CJ x d n).2=n+x.nodes)
 | .mk kind value line col text kids,d,n,hd,hn=>by
  have e1:(kids.isEmpty=true)↔kids=[]:=List.isEmpty_iff;unfold CJ HO;simp only[Sx.depth,Sx.nodes];by_cases h0:n+1>4096
  ·rw [AK h0];refine⟨⟨by simp,λ⟨_,_,h⟩=>by omega⟩,by simp⟩
  ·rw [A7 h0];by_cases k1:kind=1
   ·rw [AK k1,AK k1,j2];have k3:¬ kind=3:=(by omega);rw[A7 k3];simp only[AV,e1,Ba,F0];constructor
    ·constructor
     ·rintro ⟨⟨h1,h2⟩,rfl⟩;exact⟨⟨⟨h2,rfl⟩,h1⟩,by simp only[Sx.DW];omega,by simp only[Sx.Aq];omega⟩
     ·rintro ⟨⟨⟨h1,h2⟩,h3⟩,_⟩;exact⟨⟨h3,h1⟩,h2⟩
    ·rintro ⟨_,rfl⟩;simp[Sx.Aq]
   ·rw [A7 k1,A7 k1];by_cases k2:kind=2
    ·rw [AK k2,AK k2];have k3:¬ kind=3:=(by omega);rw[A7 k3];simp only[AV,e1,Ba,A2,ge_iff_le];constructor
     ·constructor
      ·rintro ⟨⟨⟨h1,rfl⟩,h3⟩,h4⟩;exact⟨⟨⟨⟨h1,rfl⟩,h3⟩,h4⟩,by simp only[Sx.DW];omega,by simp only[Sx.Aq];omega⟩
      ·rintro ⟨⟨⟨⟨h1,h2⟩,h3⟩,h4⟩,_⟩;exact⟨⟨⟨h1,h2⟩,h3⟩,h4⟩
     ·rintro ⟨⟨⟨_,rfl⟩,_⟩,_⟩;simp[Sx.Aq]
    ·rw [A7 k2,A7 k2];by_cases k3:kind=3
     ·rw [AK k3,AK k3,AK k3];simp only[AV,F0];by_cases hc:A2 text ⟨#[]⟩=true/\value=0/\d≠32
      ·rw [AK hc];obtain⟨g1,g2⟩:=Vk kids (d+1) (n+1) (by omega) (by omega);rw[g1];refine⟨⟨λ⟨h1,h2,h3⟩=>⟨⟨h1,by simpa[A2]using hc.1,hc.2.1⟩,by omega,by omega⟩,λ⟨⟨h1,_,_⟩,h2,h3⟩=>⟨h1,by omega,by omega⟩⟩,λh=>?_⟩;rw[g2 (g1.2 h)];omega
      ·rw [A7 hc];refine⟨⟨by simp,λ⟨⟨h1,h4,h5⟩,h2,h3⟩=>?_⟩,by simp⟩;exact absurd ⟨by simp only[A2,F0];exact h4,h5,by omega⟩ hc
     ·rw [A7 k3,A7 k3];simp
theorem Vk: ∀ (l:List Sx)(d n:Nat),d<=32->n<=4096->((H4 l d n).1=true↔J0 l=true/\d+Sx.DW 0 l<=32/\n+Sx.Aq l<=4096)/\((H4 l d n).1=true->(H4 l d n).2=n+Sx.Aq l)
 |[],d,n,hd,hn=>by simp[H4,J0,Sx.DW,Sx.Aq,hd,hn]
 |k::ks,d,n,hd,hn=>by
  obtain⟨g1,g2⟩:=JO k d n hd hn;have hdm: ∀ (m:Nat)(l:List Sx),Sx.DW m l=max m (Sx.DW 0 l):=by
   intro m l
   induction l generalizing m with
   |nil=>simp[Sx.DW]
   |cons k l ih=>simp only[Sx.DW];rw[ih (max m k.depth),ih (max 0 k.depth)];omega
  simp only[H4,J0,Sx.DW,Sx.Aq,AV];rw[hdm];cases hb:CJ k d n with
  |mk b n'=>
   rw[hb]at g1 g2;cases b with
   |false=>
    simp only at g1⊢;refine⟨⟨by simp,λ⟨⟨h1,_⟩,h2,h3⟩=>?_⟩,by simp⟩;exact absurd (g1.2 ⟨h1,by omega,by omega⟩) (by simp)
   |true=>
    simp only at g1 g2⊢;obtain⟨a1,a2,a3⟩:=g1.1 A4;have e:=g2 A4;obtain⟨f1,f2⟩:=Vk ks d n' hd (by omega);rw[f1];refine⟨⟨λ⟨h1,h2,h3⟩=>⟨⟨a1,h1⟩,by omega,by omega⟩,λ⟨⟨_,h1⟩,h2,h3⟩=>⟨h1,by omega,by omega⟩⟩,λh=>?_⟩;rw[f2 (f1.2 h)];omega
end
def Mu(x:Sx):Bool:=HO x&&decide ((x.depth:Int)<=32)&&decide (x.count<=4096)
theorem M5{x:Sx}(h:x.nodes<=AF):(CJ x 0 0).1=Mu x:=by
 have h1:=(JO x 0 0 (by omega) (by omega)).1;unfold Mu;rw[Sx.count_eq x h];rw[Yu,h1];simp only[AV,Ba];constructor
 ·rintro ⟨a,b,c⟩;exact⟨⟨a,by omega⟩,by omega⟩
 ·rintro ⟨⟨a,b⟩,c⟩;exact⟨a,by omega,by omega⟩
end Go.Proofs.YtblgchkahpgdjaaGreat
namespace Go.AM
mutual
theorem Sx.ZE: ∀ (x:Sx),x.nodes<=1048576->x.small
 | .mk _ _ _ _ _ kids,h=>by
  simp only[Sx.nodes]at h;simp only[Sx.small];have:=Sx.ZF kids (by omega);exact⟨by omega,this.2⟩
theorem Sx.ZF: ∀ (l:List Sx),Sx.Aq l<=1048576->l.length<=Sx.Aq l/\Sx.Db l
 |[],_=>by simp[Sx.Aq,Sx.Db]
 |k::ks,h=>by
  simp only[Sx.Aq]at h;have h1:=Sx.ZE k (by omega);have h2:=Sx.ZF ks (by omega);have h3:1<=k.nodes:=by cases k;simp only[Sx.nodes];omega
  simp only[Sx.Aq,Sx.Db,List.length_cons];exact⟨by omega,h1,h2.2⟩
end
end Go.AM
namespace Go.Proofs.YtblgchkahpgdjaaGreat
open Go.AM Go.Proofs.Tryz
theorem Kx{x:Sx}(h:(CJ x 0 0).1=true):x.small:=by
 have:=(JO x 0 0 (by omega) (by omega)).1.1 h;exact Sx.ZE x (by omega)
theorem OC: ∀ {l:List Sx},(∀ x∈l,x.ok)->(∀ s∈(CM l).1,s.size<=AF)/\(CM l).1.length<=l.length
 |[],_=>by simp[CM]
 |x::l,h=>by
  have h1:=OC (l:=l) λy hy=>h y (by simp[hy]);have h2:(Af x).size<=AF:=by
   have:=h x (by simp);obtain⟨_,_,_,_,t,_⟩:=x;simp only[Sx.ok]at this;exact this.2.2.1
  simp only[CM];cases Az x==1 with
  |false=>simp
  |true=>
   cases CH (Af x)with
   |false=>simp
   |true=>
    simp only[AB];cases hq:(CM l).2==0 with
    |false=>simp
    |true=>
     simp only[AB,List.mem_cons,List.length_cons];exact⟨λs hs=>hs.elim (λe=>by rw[e];exact h2) (h1.1 s),by omega⟩
theorem J1:C2.ok/\C2.small:=by
 simp only[C2,Ex.ok,Ex.DK,Ex.small,Ex.Db,List.length_nil];refine⟨⟨by simp[AF,ByteArray.size],by simp[AF,ByteArray.size],by omega,⟨by simp,by simp⟩,by simp,trivial⟩,by omega,trivial⟩
theorem Q3: ∀ x:Sx,x.ok->x.small->(Bg x).1.ok/\(Bg x).1.small:=by
 refine Sx.ind ?_;intro kind value line col text kids ih hok hsm;have hok':=hok;simp only[Sx.ok]at hok';obtain⟨hq1,hv,hq3,hq4,hks⟩:=hok';rw[Sx.Bs]at hks;simp only[Sx.small]at hsm;obtain⟨hl,hss⟩:=hsm;rw[Sx.Es]at hss;rw[S4];have kk:Az (.mk kind value line col text kids)=kind:=rfl;rw[kk];cases hk:kind==2 with
 |true=>
  simp only[AB,Ex.ok,Ex.DK,Ex.small,Ex.Db,List.length_nil];exact⟨⟨by simp[Iv,AF,ByteArray.size],by simp[AF,ByteArray.size],hv,⟨by simp,by simp⟩,by simp,trivial⟩,by omega,trivial⟩
 |false=>
  simp only[AJ];cases hM:Br (.mk kind value line col text kids)with
  |none=>exact J1
  |some wr=>
   obtain⟨w,rest⟩:=wr;obtain⟨hw,hr⟩:=S5 hok hM;obtain⟨y,rfl⟩:=Q2 hM;simp only;cases hp:Iy w with
   |true=>
    simp only[AB];split
    ·rename_i a b;have ha:=ih a (by simp) (hks a (by simp)) (hss a (by simp));have hb:=ih b (by simp) (hks b (by simp)) (hss b (by simp));cases q1:(Bg a).2==0 with
     |false=>exact J1
     |true=>
      cases q2:(Bg b).2==0 with
      |false=>exact J1
      |true=>
       simp only[AB,Ex.ok,Ex.DK,Ex.small,Ex.Db,List.length_nil,List.length_cons];exact⟨⟨hw,by simp[AF,ByteArray.size],by omega,⟨by simp,by simp⟩,by simp[AF],ha.1,hb.1,trivial⟩,by omega,ha.2,hb.2,trivial⟩
    ·exact J1
   |false=>
    simp only[AJ];cases As w with
    |false=>exact J1
    |true=>
     have ht:=OC hr;simp only[AB];cases q1:(CM rest).2==0 with
     |false=>exact J1
     |true=>
      simp at hl;simp only[AB,Ex.ok,Ex.DK,Ex.small,Ex.Db,List.length_nil];exact⟨⟨by simp[Iw,AF,ByteArray.size],hw,by omega,⟨by have:=ht.2;unfold AF;omega,ht.1⟩,by simp,trivial⟩,by have:=ht.2;omega,trivial⟩
end Go.Proofs.YtblgchkahpgdjaaGreat
namespace Go.Proofs.YtblgchkahpgdjaaGreat
open Go.AM Go.Proofs.Tryz
def BS:Sx->List Sx
 | .mk _ _ _ _ _ kids=>kids
def Hq(x:Sx):Bool:=Az x==1&&(CJ x 0 0).1
def Bw(t:ByteArray)(l:List ByteArray):List Pm:=l.map (⟨·,t⟩)
def Ek(vars:Bool):List Sx->List Pm->List ByteArray->List Pm × Int
 |[],don,pen=>(don++Bw Dr pen,0)
 | x :: l, don, pen => bif Hq x then
   (bif A2 (Af x) GJ then (match l with
    |[]=>([],2)
    |t::l'=>bif !pen.isEmpty&&Hq t then(bif Gm (Af t)then Ek vars l' (don++Bw (Af t) pen) []else([],8))else([],2))
   else bif (bif vars then F9 (Af x)else As (Af x))then Ek vars l don (pen++[Af x])else([],8))
  else([],2)
def C5(vars:Bool)(l:List Sx):List Pm × Int:=Ek vars l [] []
def Hr(w:ByteArray)(x y:Sx):Fm × Int:=
 bif A2 w Cb&&Az x==1&&Az y==1 then(.mk CI ⟨#[]⟩ (CM [x,y]).1 [] [] [],(CM [x,y]).2)
 else bif (Bg x).2==0 then(bif (Bg y).2==0 then
   (if A2 w Ix then(.mk DH ⟨#[]⟩ [] [] [(Bg y).1,(Bg x).1] [],0)
   else if A2 w JN then(.mk De ⟨#[]⟩ [] [] [(Bg y).1,(Bg x).1] [],0)
   else(.mk w ⟨#[]⟩ [] [] [(Bg x).1,(Bg y).1] [],0))else(Cn,(Bg y).2))else(Cn,(Bg x).2)
def DA(r:Fm × Int):Fm × Int:=bif r.2==0 then r else(Cn,r.2)
def Ew(w:ByteArray):Bool:=Fa w||A2 w Ix||A2 w JN
def Fp(w:ByteArray):Bool:=A2 w DU||A2 w GL||A2 w Bl||A2 w GV
mutual
def Co:Sx->Fm × Int
 | .mk kind _ _ _ _ kids=>
  if kind=3 then(match kids with
   |[]=>(.mk Bl ⟨#[]⟩ [] [] [] [],0)
   |x::rest=>bif Az x==1 then
    (bif decide (EX (Af x)>=0)&&!(decide (EX (Af x)=rest.length))then(Cn,2)
    else bif EO (Af x)then(match rest with
     |[]=>(Cn,2)
     |p::body=>bif Az p==3 then(bif (C5 true (BS p)).2==0 then(match DN body with
       |(ks,c)=>bif c==0 then(.mk (Af x) ⟨#[]⟩ [] (C5 true (BS p)).1 [] ks,0)else(Cn,c))
      else(Cn,(C5 true (BS p)).2))else(Cn,2))
    else bif Fp (Af x)then(match DN rest with
     |(ks,c)=>bif c==0 then(.mk (Af x) ⟨#[]⟩ [] [] [] ks,0)else(Cn,c))
    else bif Ew (Af x)then(match rest with
     |[a,b]=>DA (Hr (Af x) a b)
     |_=>(Cn,2))
    else bif As (Af x)then(bif (CM rest).2==0 then(.mk Bz (Af x) (CM rest).1 [] [] [],0)else(Cn,(CM rest).2))
    else(Cn,8))
   else(Cn,2))else(Cn,2)
def DN:List Sx->List Fm × Int
 |[]=>([],0)
 |x::l=>match Co x with
  | (f, c) => bif c == 0 then (match DN l with
   |(fs,c')=>bif c'==0 then(f::fs,0)else([],c'))else([],c)
end
end Go.Proofs.YtblgchkahpgdjaaGreat
namespace Go.Proofs.YtblgchkahpgdjaaGreat
open Go.AM Go.Proofs.Tryz
variable {s:ByteArray}
theorem IN{w:ByteArray}(h:As s=true)(hw:As w=false):A2 s w=false:=by
 cases he:A2 s w with
 |false=>rfl
 |true=>rw[ED he,hw]at h;simp at h
theorem Vl(op:ByteArray):EX op=if A2 op DU then 1 else if A2 op GL then 2 else if A2 op DY then 2 else if A2 op HN then 2 else if A2 op Cb then 2 else if A2 op DH then 2 else if A2 op De then 2 else if A2 op Ix then 2 else if A2 op JN then 2 else-1:=rfl
theorem j3(h:As s=true):EX s= -1/\EO s=false/\Fp s=false/\Ew s=false:=by
 rw[Vl];unfold EO Fp Ew Fa;rw[IN h (w:=DU) (by decide),IN h (w:=GL) (by decide),IN h (w:=DY) (by decide),IN h (w:=HN) (by decide),IN h (w:=Cb) (by decide),IN h (w:=DH) (by decide),IN h (w:=De) (by decide),IN h (w:=Ix) (by decide),IN h (w:=JN) (by decide),IN h (w:=Bl) (by decide),IN h (w:=GV) (by decide)];exact⟨rfl,rfl,rfl,rfl⟩
theorem Vm{op name:ByteArray}{args:List ByteArray}{params:List Pm}{ne nk:Nat}(h:Fb op name args params ne nk=true):
  (op=Bz/\As name=true/\args.all CH=true/\params=[]/\ne=0/\nk=0)\/
  (op=CI/\name=⟨#[]⟩/\args.length=2/\args.all CH=true/\params=[]/\ne=0/\nk=0)\/
  ((op=DH\/op=De\/op=Cb)/\name=⟨#[]⟩/\args=[]/\params=[]/\ne=2/\nk=0)\/
  ((op=Bl\/op=GV\/(op=DU/\nk=1)\/(op=GL/\nk=2))/\name=⟨#[]⟩/\args=[]/\params=[]/\ne=0)\/
  ((op=DY\/op=HN)/\name=⟨#[]⟩/\args=[]/\ne=0/\nk=1/\params.all Hp=true):=by
 unfold Fb EC at h;have t1: ∀ o:ByteArray,A2 o Bz=false->A2 o CI=false->FA o name args=true->name=⟨#[]⟩/\args=[]:=by
  intro o h1 h2 h3;unfold FA at h3;rw[h1,h2]at h3;simp only[BQ,AP,AV,List.isEmpty_iff]at h3;exact⟨ED h3.1,h3.2⟩
 cases c1:A2 op Bz with
 |true=>
  have:=ED c1;subst this;left;simp[c1,FA,KU]at h;exact⟨rfl,h.1,by simpa using h.2.1,h.2.2.2.2.1,h.2.2.1,h.2.2.2.1⟩
 |false=>
 cases c2:A2 op CI with
 |true=>
  have:=ED c2;subst this;right;left;simp[c1,c2,FA,KU]at h;obtain⟨h1,h2,h3,h4,h5,h6,_⟩:=h;exact⟨rfl,ED h1,h2,by simpa using h3,h6,h4,h5⟩
 |false=>
  have t2:=t1 op c1 c2;rw[c1,c2]at h;simp only[BQ,AP]at h;right;right;by_cases c3:A2 op DH=true\/A2 op De=true\/A2 op Cb=true
  ·left;have h':FA op name args=true/\ne=2/\nk=0/\params=[]:=by
    split at h
    ·simp at h
    ·rename_i e m q he;have:(e,m,q)=(2,0,false):=by
      rcases c3 with c|c|c
      ·simp [c]at he;simp[he]
      ·by_cases c0:A2 op DH=true
       ·simp [c0]at he;simp[he]
       ·simp [c0,c]at he;simp[he]
      ·by_cases c0:A2 op DH=true
       ·simp [c0]at he;simp[he]
       ·by_cases c00:A2 op De=true
        ·simp [c0,c00]at he;simp[he]
        ·simp [c0,c00,c]at he;simp[he]
     simp at this;obtain⟨rfl,rfl,rfl⟩:=this;simp[KU]at h;exact⟨h.1,h.2.1,h.2.2.1,h.2.2.2.1⟩
   obtain⟨g1,g2,g3,g4⟩:=h';obtain⟨g5,g6⟩:=t2 g1;exact⟨c3.imp ED (λc=>c.imp ED ED),g5,g6,g4,g2,g3⟩
  ·simp only[not_or,Yw]at c3;rw[c3.1,c3.2.1,c3.2.2]at h;simp only[BQ,AP]at h;right;cases c4:A2 op Bl with
   |true=>
    left;simp[c4,KU]at h;exact⟨.inl (ED c4),(t2 h.1).1,(t2 h.1).2,h.2.2.1,h.2.1⟩
   |false=>
   cases c5:A2 op GV with
   |true=>
    left;simp[c4,c5,KU]at h;exact⟨.inr (.inl (ED c5)),(t2 h.1).1,(t2 h.1).2,h.2.2.1,h.2.1⟩
   |false=>
   cases c6:A2 op DU with
   |true=>
    left;simp[c4,c5,c6,KU]at h;exact⟨.inr (.inr (.inl ⟨ED c6,h.2.2.1⟩)),(t2 h.1).1,(t2 h.1).2,h.2.2.2.1,h.2.1⟩
   |false=>
   cases c7:A2 op GL with
   |true=>
    left;simp[c4,c5,c6,c7,KU]at h;exact⟨.inr (.inr (.inr ⟨ED c7,h.2.2.1⟩)),(t2 h.1).1,(t2 h.1).2,h.2.2.2.1,h.2.1⟩
   |false=>
   cases c8:A2 op DY with
   |true=>
    right;simp[c4,c5,c6,c7,c8,KU]at h;exact⟨.inl (ED c8),(t2 h.1).1,(t2 h.1).2,h.2.1,h.2.2.1,by simpa using h.2.2.2⟩
   |false=>
   cases c9:A2 op HN with
   |true=>
    right;simp[c4,c5,c6,c7,c8,c9,KU]at h;exact⟨.inr (ED c9),(t2 h.1).1,(t2 h.1).2,h.2.1,h.2.2.1,by simpa using h.2.2.2⟩
   |false=>simp[c4,c5,c6,c7,c8,c9]at h
theorem j4{c:UInt8}(h:F8 c=true):Ev c=some c:=by
 have h45:c.toNat=45->c=45:=λe=>Qk.1 (by rw[e];try rfl);have h95:c.toNat=95->c=95:=λe=>Qk.1 (by rw[e];try rfl);have hu:IL c=false:=by
  unfold F8 E2 at h;unfold IL;simp at h⊢;omega
 have hw:wB c=true:=by
  unfold wB DL;unfold F8 at h;simp only[EH]at h⊢;rcases h with((h|h)|h)|h
  ·exact .inl (.inl h)
  ·exact .inl (.inr h)
  ·rw [h45 (by simpa using h)];exact .inr (by decide)
  ·rw [h95 (by simpa using h)];exact .inr (by decide)
 unfold Ev;rw[hu,hw];try rfl
theorem SB: ∀ {l:List UInt8},l.all F8=true->Eh l=some l
 |[],_=>rfl
 |c::l,h=>by
  simp only[List.all_cons,AV]at h;simp only[Eh,j4 h.1,SB h.2,Bq]
theorem Vn{l:List UInt8}(h:IK l=true):l.all F8=true:=by
 cases l with
 |nil=>rfl
 |cons c l=>
  simp only[IK,AV]at h;simp only[List.all_cons,AV];exact⟨VI h.1,h.2⟩
theorem Vo(h1:0<s.size)(h2:s.size<=32)(h3:Eh s.data.toList=some s.data.toList)(h4: ∀ c l,s.data.toList=c::l->DL c=false/\c≠45):JL s=true:=by
 have hl:FI s=(s,true):=by
  unfold FI;rw[AK ⟨h1,h2⟩,h3]
 unfold JL;rw[hl];have hn:Hn s=false:=by
  have hsz:s.data.toList≠[]:=by
   intro e;have:s.data.toList.length=0:=(by rw[e];try rfl);rw[Ed]at this;have:s.size=0:=this;omega
  unfold Hn E3;cases he:s.data.toList with
  |nil=>exact(hsz he).elim
  |cons c l=>
   obtain⟨g1,g2⟩:=h4 c l he;split
   ·rename_i e;simp at e;exact(g2 e.1).elim
   ·rw [he,List.all_cons,g1];try rfl
 simp[hn,A2]
theorem Vp(h:As s=true):JL s=true:=by
 unfold As at h;simp only[AV,Ba]at h;obtain⟨⟨⟨h1,h2⟩,h3⟩,_⟩:=h;refine Vo h2 h3 (SB (Vn h1)) ?_;intro c l he;rw[he]at h1;simp only[IK,AV]at h1;have h4:=h1.1;unfold E2 at h4;simp at h4;refine⟨by unfold DL;simp;omega,λe=>?_⟩;subst e;simp at h4
theorem j5(h:F9 s=true):JL s=true/\A2 s GJ=false:=by
 unfold F9 at h;simp only[AV,Ba]at h;obtain⟨⟨⟨h1,h2⟩,h3⟩,h4⟩:=h;cases he:s.data.toList with
 |nil=>rw[he]at h3;simp at h3
 |cons c l=>
  rw[he]at h3;simp at h3;have hc:c=63:=Qk.1 (by rw[h3];try rfl);subst hc;have hx:(s.extract 1 s.size).data.toList=l:=by
   have:(s.extract 1 s.size).data.toList=(s.data.toList.take s.size).drop 1:=by
    simp[Yx,List.drop_take]
   rw[this,List.take_of_length_le (by rw[Ed];exact AG _),he];rfl
  unfold As at h4;simp only[AV]at h4;have h5:=Vn h4.1.1.1;rw[hx]at h5;refine⟨Vo (by omega) h2 ?_ ?_,?_⟩
  ·rw [he];simp only[Eh,SB h5];rfl
  ·intro d m hd;rw[he]at hd;simp at hd;rw[← hd.1];exact⟨by decide,by decide⟩
  ·unfold A2;rw[he];simp[GJ]
theorem Mw(h:JL s=true):Hq (A5 s)=true:=by
 unfold Hq A5;simp[Az,CJ,h]
theorem Vq(h:Gm s=true):JL s=true:=by
 unfold Gm at h;simp only[EH]at h;rcases h with h|h
 ·exact Vp h
 ·rw [ED h];decide
theorem Vr: ∀ (l:List Pm)(don:List Pm),l.all Hp=true->Ek true (Aa l) don []=(don++l,0)
 |[],don,_=>by simp[Aa,Ek,Bw]
 |p::l,don,h=>by
  simp only[List.all_cons,AV]at h;obtain⟨h1,h2⟩:=h;unfold Hp at h1;simp only[AV]at h1;obtain⟨g1,g2⟩:=j5 h1.1;have t1: ∀ s:ByteArray,Af (A5 s)=s:=λ_=>rfl;have w1:Hq (A5 ⟨#[45]⟩)=true:=Mw (by decide);have w2:A2 (⟨#[45]⟩:ByteArray) GJ=true:=by decide
  simp only[Aa];rw[Ek,Mw g1,t1,g2,h1.1];simp only[AB,AJ,List.nil_append];rw[Ek,w1,t1,w2];simp only[AB,Mw (Vq h1.2),t1,h1.2];simp only[List.isEmpty_cons,CB,B7,AB,Bw,List.map_cons,List.map_nil];rw[Vr l _ h2];simp
theorem SC{l:List Pm}(h:l.all Hp=true):C5 true (Aa l)=(l,0):=by
 unfold C5;rw[Vr l [] h];rfl
theorem Vs: ∀ (l:List Fm),(∀ k∈l,Co (Ao k)=(k,0))->DN (l.map Ao)=(l,0)
 |[],_=>rfl
 |k::l,h=>by
  simp only[List.map_cons,DN,h k (by simp),DC,AB,Vs l (λq hq=>h q (by simp[hq]))]
theorem j6: ∀ f:Fm,DI f=true->Co (Ao f)=(f,0):=by
 refine Fm.ind ?_;intro op name args params exprs kids ih hs;unfold DI at hs;simp only[AV]at hs;obtain⟨⟨h1,h2⟩,h3⟩:=hs;rw[Mr]at h3;have hk:=Vs kids (λk hk=>ih k hk (h3 k hk));have t1: ∀ s:ByteArray,Af (A5 s)=s:=λ_=>rfl;have t2: ∀ s:ByteArray,Az (A5 s)=1:=λ_=>rfl;rcases Vm h1 with⟨rfl,hn,ha,rfl,he,hk0⟩|⟨rfl,rfl,hl,ha,rfl,he,hk0⟩|⟨ho,rfl,rfl,rfl,he,hk0⟩|⟨ho,rfl,rfl,rfl,he⟩|⟨ho,rfl,rfl,he,hk1,hp⟩
 ·obtain rfl:=List.length_eq_zero_iff.1 he;obtain rfl:=List.length_eq_zero_iff.1 hk0;obtain⟨n1,n2,n3,n4⟩:=j3 hn;unfold Ao;rw[AK (by decide)];unfold Cu AC;simp only[List.map_cons];unfold Co;simp only[t1,t2,n1,n2,n3,n4,hn,OB args ha,DC,AB,AJ,AO];rfl
 ·obtain rfl:=List.length_eq_zero_iff.1 he;obtain rfl:=List.length_eq_zero_iff.1 hk0
  match args,hl with
  |[a,b],_=>
   unfold Ao;rw[A7 (by decide),AK (by decide)];have e:=OB [a,b] ha;simp only[List.map_cons,List.map_nil]at e;unfold Cu AC;simp only[List.map_cons,List.map_nil];unfold Co;simp only[t1,t2];have c1:EX Cb=2:=(by decide);have c2:EO Cb=false:=(by decide);have c3:Fp Cb=false:=(by decide);have c4:Ew Cb=true:=(by decide);have c5:A2 Cb Cb=true:=(by decide);simp only[c1,c2,c3,c4,Hr,c5,t2,e,DA,DC,AB,AJ,AO,List.length_cons,List.length_nil,LS];rfl
 ·obtain rfl:=List.length_eq_zero_iff.1 hk0
  match exprs,he with
  |[a,b],_=>
   simp only[List.all_cons,AV]at h2;have ea:=S3 a h2.1;have eb:=S3 b h2.2.1;have key: ∀ w:ByteArray,A2 w Bz=false->A2 w CI=false->Fa w=true->EX w=2->EO w=false->Fp w=false->A2 w Ix=false->A2 w JN=false->(A2 w Cb&&Az (BG a)==1&&Az (BG b)==1)=false->
     Co (Ao (.mk w ⟨#[]⟩ [] [] [a,b] []))=(.mk w ⟨#[]⟩ [] [] [a,b] [],0):=by
    intro w k1 k2 k3 k4 k5 k6 k7 k8 k9;unfold Ao;rw[k1,k2,k3];simp only[BQ,AP,AO,List.map_cons,List.map_nil];unfold AC Co;have k10:Ew w=true:=(by unfold Ew;rw[k3];try rfl);simp only[t1,t2,k4,k5,k6,k10,Hr,k9,ea,eb,k7,k8,DA,DC,AB,AJ,AO,List.length_cons,List.length_nil,BQ,AP];rfl
   have hkn:Az (BG a)≠1:=by
    obtain⟨o,n,v,ar,ks⟩:=a;unfold BG;split
    ·simp [Az]
    ·split
     ·simp [Cu,AC,Az]
     ·split<;>simp[AC,Az]
   have hkb:(Az (BG a)==1)=false:=(by simpa using hkn);rcases ho with rfl|rfl|rfl
   ·exact key DH (by decide) (by decide) (by decide) (by decide) (by decide) (by decide) (by decide) (by decide) (by rw[hkb];simp)
   ·exact key De (by decide) (by decide) (by decide) (by decide) (by decide) (by decide) (by decide) (by decide) (by rw[hkb];simp)
   ·exact key Cb (by decide) (by decide) (by decide) (by decide) (by decide) (by decide) (by decide) (by decide) (by rw[hkb];simp)
 ·obtain rfl:=List.length_eq_zero_iff.1 he;have key: ∀ w:ByteArray,A2 w Bz=false->A2 w CI=false->Fa w=false->EO w=false->(A2 w Bl&&kids.isEmpty)=false->Fp w=true->(decide (EX w>=0)&&!(decide (EX w=kids.length)))=false->
    Co (Ao (.mk w ⟨#[]⟩ [] [] [] kids))=(.mk w ⟨#[]⟩ [] [] [] kids,0):=by
   intro w k1 k2 k3 k4 k5 k6 k7;unfold Ao;rw[k1,k2,k3,k4,k5,Ms];simp only[BQ,AP,List.append_nil,List.singleton_append];unfold AC Co;have k8:(decide (EX w>=0)&&!(decide (EX w=(kids.map Ao).length)))=false:=(by rw[List.length_map];exact k7);simp only[t1,t2,k8,k4,k6,hk,DC,AB,AJ,AO]
  rcases ho with rfl|rfl|⟨rfl,hn⟩|⟨rfl,hn⟩
  ·cases kids with
   |nil=>rfl
   |cons k ks=>exact key Bl (by decide) (by decide) (by decide) (by decide) (by simp) (by decide) (by rw[show decide (EX Bl>=0)=false by decide];try rfl)
  ·exact key GV (by decide) (by decide) (by decide) (by decide) (by rw[show A2 GV Bl=false by decide];try rfl) (by decide) (by rw[show decide (EX GV>=0)=false by decide];try rfl)
  ·exact key DU (by decide) (by decide) (by decide) (by decide) (by rw[show A2 DU Bl=false by decide];try rfl) (by decide) (by rw[hn];decide)
  ·exact key GL (by decide) (by decide) (by decide) (by decide) (by rw[show A2 GL Bl=false by decide];try rfl) (by decide) (by rw[hn];decide)
 ·obtain rfl:=List.length_eq_zero_iff.1 he;have t3: ∀ l,Az (AC l)=3:=λ_=>rfl;have t4: ∀ l,BS (AC l)=l:=λ_=>rfl;have key: ∀ w:ByteArray,A2 w Bz=false->A2 w CI=false->Fa w=false->EO w=true->A2 w Bl=false->EX w=2->
    Co (Ao (.mk w ⟨#[]⟩ [] params [] kids))=(.mk w ⟨#[]⟩ [] params [] kids,0):=by
   intro w k1 k2 k3 k4 k5 k6;unfold Ao;rw[k1,k2,k3,k4,k5,Ms];simp only[BQ,AP,AO,B5,List.cons_append,List.nil_append];generalize hm:kids.map Ao=M at hk;have hml:M.length=1:=(by rw[← hm,List.length_map];exact hk1);unfold AC Co;have k8:(decide ((2:Int)>=0)&&!(decide ((2:Int)=((AC (Aa params)::M).length:Int))))=false:=(by rw[List.length_cons,hml];decide);unfold AC at k8 t3 t4;simp only[t1,t2,k6,k8,k4,t3,t4,SC hp,hk,DC,AB,AJ,AO]
  rcases ho with rfl|rfl
  ·exact key DY (by decide) (by decide) (by decide) (by decide) (by decide) (by decide)
  ·exact key HN (by decide) (by decide) (by decide) (by decide) (by decide) (by decide)
end Go.Proofs.YtblgchkahpgdjaaGreat
namespace Go.Proofs.YtblgchkahpgdjaaGreat
open Go.AM Go.Proofs.Tryz
set_option maxHeartbeats 4000000
set_option maxRecDepth 20000
def H6(x:Sx):Ex × Int:=if(CJ x 0 0).1=true then(if(Bg x).2=0 then(if Ei (Bg x).1=true then((Bg x).1,0)else(C2,5))else(C2,(Bg x).2))else(C2,2)
theorem j8{e:Ex}(hv:Ei e=true)(hs:FJ e=true):H6 (BG e)=(e,0):=by
 have h1:=S3 e hs;have h2:(CJ (BG e) 0 0).1=true:=by unfold Ei at hv;simp only[AV]at hv;exact hv.2
 unfold H6;rw[AK h2,h1];simp only[AK,hv]
theorem j9{x:Sx}(hok:x.ok)(h:A0):A6 prog 147 [.agg x.cells] h λr h'=>r= .Al [.agg (H6 x).1.cells,AQ (H6 x).2]/\h'=h:=by
 refine A6.CD Ty.Ny ?_;have hv:=λh:A0=>JM hok h;have hX:H6 x=(if(CJ x 0 0).1=true then(if(Bg x).2=0 then(if Ei (Bg x).1=true then((Bg x).1,0)else(C2,5))else(C2,(Bg x).2))else(C2,2)):=rfl;generalize H6 x=F at hX;have bad: ∀ (c:Int)(h':A0),(c==0)=false->AH h h'->F=(C2,c)->AI h.next h' (.Al [.agg F.1.cells,AQ F.2]) (.Al [.agg [.sc (.string ⟨#[]⟩),.sc (.string ⟨#[]⟩),qK 0,.sc (.slice none 0 0),.sc (.slice none 0 0)],An c])/\AH h h':=by
  intro c h' hc hg hF;subst hF;have:AQ c=An c:=by simp only[AQ,hc,AJ]
  simp only[this];refine⟨?_,hg⟩;simp only[An,C2,Ex.cells,Ex.rows,AL,List.map_nil,AI,AN];exact⟨_,rfl,⟨_,rfl,rfl,rfl,rfl,.inr (.inl ⟨rfl,.inr rfl⟩),.inr (.inl ⟨rfl,.inr rfl⟩),trivial⟩,rfl,trivial⟩
 simp only[An]at bad;have hg1: ∀ r,AH h ((h.new (.arr 5 [[.sc (.string ⟨#[]⟩),.sc (.string ⟨#[]⟩),qK 0,.sc (.slice none 0 0),.sc (.slice none 0 0)]])).set h.next r):=λr=>((AH.refl h).new _).set (AG _) _;have hg2: ∀ o1 o2 r,AH h ((((h.new (.arr 5 [[.sc (.string ⟨#[]⟩),.sc (.string ⟨#[]⟩),qK 0,.sc (.slice none 0 0),.sc (.slice none 0 0)]])).new o1).set (h.next+1) o2).set h.next r):=λo1 o2 r=>((((AH.refl h).new _).new _).set (Oz _) _).set (AG _) _;have n1:(h.next=h.next+1)=False:=by simp
 cases v1:(CJ x 0 0).1 with
 |false=>
  rw[v1]at hv;rw[A7 (by rw[v1];simp)]at hX;obtain⟨kind,value,line,col,text,kids⟩:=x;simp only[Sx.cells]at hv⊢;refine AD func147 ntmps147 results147 Ty.Ny ?_;refine wt A4 ?_;refine uU A4 (hv _) ?_;refine wt yF ?_;exact bad 2 _ rfl (hg1 _) hX
 |true=>
  have hsm:=Kx v1;have hp:=S9 x hok hsm;have hfo:=Q3 x hok hsm;rw[v1]at hv;rw[AK v1]at hX;have hfz:=λn hh=>Vf n hh (Bg x).1;generalize Bg x=E at hp hfo hX hfz;obtain⟨f,c⟩:=E;simp only at hp hfo hX hfz;obtain⟨kind,value,line,col,text,kids⟩:=x;simp only[Sx.cells]at hv hp⊢;cases hc:c==0 with
  |false=>
   rw[A7 (by simpa using hc)]at hX;have e0:AQ c=An c:=(by simp only[AQ,hc,AJ]);rw[e0]at hp;simp only[An]at hp;obtain⟨fop,fna,fnn,far,fki⟩:=f;simp only[Ex.cells]at hp;refine AD func147 ntmps147 results147 Ty.Ny ?_;refine wt A4 ?_;refine uU A4 (hv _) ?_;refine wt yT ?_;refine uU A4 (hp _) ?_;refine wt (uu n1 @B4) ?_;exact bad c _ hc (hg2 _ _ _) hX
  |true=>
   rw[AK (by simpa using hc)]at hX;have e0:AQ c= .sc .nilIface:=(by simp only[AQ,hc,AB]);rw[e0]at hp;have hV:=λh:A0=>Va hfo.1 hfo.2 h;cases v2:Ei f with
   |false=>
    rw[v2]at hV;rw[A7 (by rw[v2];simp)]at hX;obtain⟨fop,fna,fnn,far,fki⟩:=f;simp only[Ex.cells]at hp hV;refine AD func147 ntmps147 results147 Ty.Ny ?_;refine wt A4 ?_;refine uU A4 (hv _) ?_;refine wt yT ?_;refine uU A4 (hp _) ?_;refine wt (uu n1 @B4) ?_;refine uU (uu n1 @B4) (hV _) ?_;refine wt (AU n1 @B4 yF) ?_;exact bad 5 _ rfl (hg2 _ _ _) hX
   |true=>
    rw[v2]at hV;rw[AK v2]at hX;subst hX;obtain⟨fop,fna,fnn,far,fki⟩:=f;simp only[Ex.cells]at hp hV hfz;have e2:AQ 0= .sc .nilIface:=rfl;simp only[e2,Ex.cells];refine AD func147 ntmps147 results147 Ty.Ny ?_;refine wt A4 ?_;refine uU A4 (hv _) ?_;refine wt yT ?_;refine uU A4 (hp _) ?_;refine wt (uu n1 @B4) ?_;refine uU (uu n1 @B4) (hV _) ?_;refine wt (AU n1 @B4 yT) ?_;refine⟨?_,hg2 _ _ _⟩;have h1:=λhh=>hfz h.next hh
    unfold AI;refine⟨_,rfl,?_⟩;unfold AN;refine⟨?_,by unfold AN;exact⟨by simp only[AI],by simp only[AN]⟩⟩;unfold AI;exact⟨_,rfl,h1 _⟩
end Go.Proofs.YtblgchkahpgdjaaGreat
namespace Go.Proofs.YtblgchkahpgdjaaGreat
open Go.AM Go.Proofs.Tryz
set_option maxHeartbeats 8000000
set_option maxRecDepth 20000
def IP(v:Bool)(p:Pm):Bool:=(if v=true then F9 p.name else As p.name)&&Gm p.type
end Go.Proofs.YtblgchkahpgdjaaGreat
namespace Go.AM
mutual
def Nz:PV->PV->Prop
 | .A1 z rows,p=>(∃ rows',p= .A1 z rows'/\FL rows rows')\/(rows=[]/\(p= .emp\/p= .sc (.slice none 0 0)))
 | .agg l,p=> ∃ l',p= .agg l'/\D6 l l'
 |q,p=>p=q
def D6:List PV->List PV->Prop
 |[],[]=>True
 |p::ps,q::qs=>Nz p q/\D6 ps qs
 |_,_=>False
def FL:List (List PV)->List (List PV)->Prop
 |[],[]=>True
 |p::ps,q::qs=>D6 p q/\FL ps qs
 |_,_=>False
end
theorem D6.len:(l l':List PV)->D6 l l'->l.length=l'.length
 |[],[],_=>rfl
 |[],_::_,h=>by simp[D6]at h
 |_::_,[],h=>by simp[D6]at h
 |p::l,q::l',h=>by
  unfold D6 at h;simp only[List.length_cons,D6.len l l' h.2]
theorem FL.len:(l l':List (List PV))->FL l l'->l.length=l'.length
 |[],[],_=>rfl
 |[],_::_,h=>by simp[FL]at h
 |_::_,[],h=>by simp[FL]at h
 |p::l,q::l',h=>by
  unfold FL at h;simp only[List.length_cons,FL.len l l' h.2]
mutual
theorem Nz.refl:(p:PV)->Nz p p
 | .A1 z rows=>by unfold Nz;exact .inl ⟨rows,rfl,FL.refl rows⟩
 | .agg l=>by unfold Nz;exact⟨l,rfl,D6.refl l⟩
 | .sc v=>by unfold Nz;rfl
 | .ptr _ _ _=>by unfold Nz;rfl
 | .Aj _=>by unfold Nz;rfl
 | .own _ _ _=>by unfold Nz;rfl
 | .emp=>by unfold Nz;rfl
 | .mp _=>by unfold Nz;rfl
 | .Al _=>by unfold Nz;rfl
 | .fn _ _ _=>by unfold Nz;rfl
 | .ab _ _ _ _ _=>by unfold Nz;rfl
theorem D6.refl:(l:List PV)->D6 l l
 |[]=>by unfold D6;trivial
 |p::l=>by unfold D6;exact⟨Nz.refl p,D6.refl l⟩
theorem FL.refl:(l:List (List PV))->FL l l
 |[]=>by unfold FL;trivial
 |p::l=>by unfold FL;exact⟨D6.refl p,FL.refl l⟩
end
section
variable {β:BK}{n:Nat}{F:Nat->Prop}{w:World}
mutual
theorem Nz.rep:(q p:PV)->(x:Value)->Nz q p->AA β n F w p x->AA β n F w q x
 | .A1 z rows,p,x,h,hr=>by
  unfold Nz at h;rcases h with⟨rows',rfl,hR⟩|⟨rfl,rfl|rfl⟩
  ·simp only[AA]at hr⊢;have hl:=FL.len rows rows' hR;obtain⟨a,cap,rfl,g1,g2,g3⟩:=hr;refine⟨a,cap,by rw[hl],by omega,g2,?_⟩;rcases g3 with g3|⟨b,o,hF,ha,hRR⟩
   ·left;rw[g3]at hl;exact List.length_eq_zero_iff.1 hl
   ·exact .inr ⟨b,o,hF,ha,FL.rep z rows rows' b o hR hRR⟩
  ·simp only[AA]at hr⊢;obtain⟨a,rfl⟩:=hr;exact⟨a,0,rfl,AG _,Bj _,.inl A4⟩
  ·simp only[AA]at hr⊢;exact⟨none,0,hr,AG _,Bj _,.inl A4⟩
 | .agg l,p,x,h,hr=>by
  unfold Nz at h;obtain⟨l',rfl,hl⟩:=h;simp only[AA]at hr⊢;obtain⟨xs,rfl,h1,h2⟩:=hr;exact⟨xs,rfl,h1,D6.rep l l' xs hl h2⟩
 | .sc _,p,x,h,hr=>by unfold Nz at h;subst h;exact hr
 | .ptr _ _ _,p,x,h,hr=>by unfold Nz at h;subst h;exact hr
 | .Aj _,p,x,h,hr=>by unfold Nz at h;subst h;exact hr
 | .own _ _ _,p,x,h,hr=>by unfold Nz at h;subst h;exact hr
 | .emp,p,x,h,hr=>by unfold Nz at h;subst h;exact hr
 | .mp _,p,x,h,hr=>by unfold Nz at h;subst h;exact hr
 | .Al _,p,x,h,hr=>by unfold Nz at h;subst h;exact hr
 | .fn _ _ _,p,x,h,hr=>by unfold Nz at h;subst h;exact hr
 | .ab _ _ _ _ _,p,x,h,hr=>by unfold Nz at h;subst h;exact hr
theorem D6.rep:(l l':List PV)->(xs:List Value)->D6 l l'->AT β n F w l' xs->AT β n F w l xs
 |[],[],xs,_,hr=>hr
 |[],_::_,_,h,_=>by simp[D6]at h
 |_::_,[],_,h,_=>by simp[D6]at h
 |p::l,q::l',[],_,hr=>by simp[AT]at hr
 |p::l,q::l',v::xs,h,hr=>by
  unfold D6 at h;unfold AT at hr⊢;exact⟨Nz.rep p q v h.1 hr.1,D6.rep l l' xs h.2 hr.2⟩
theorem NzS.rep:(l l':List PV)->(b o:Nat)->D6 l l'->Bk β n F w l' b o->Bk β n F w l b o
 |[],[],_,_,_,_=>by unfold Bk;trivial
 |[],_::_,_,_,h,_=>by simp[D6]at h
 |_::_,[],_,_,h,_=>by simp[D6]at h
 |p::l,q::l',b,o,h,hr=>by
  unfold D6 at h;unfold Bk at hr⊢;obtain⟨⟨v,h1,h2,h3⟩,h4⟩:=hr;exact⟨⟨v,h1,h2,Nz.rep p q v h.1 h3⟩,NzS.rep l l' b (o+1) h.2 h4⟩
theorem FL.rep(z:Nat):(l l':List (List PV))->(b o:Nat)->FL l l'->BI β n F w z l' b o->BI β n F w z l b o
 |[],[],_,_,_,_=>by unfold BI;trivial
 |[],_::_,_,_,h,_=>by simp[FL]at h
 |_::_,[],_,_,h,_=>by simp[FL]at h
 |p::l,q::l',b,o,h,hr=>by
  unfold FL at h;unfold BI at hr⊢;exact⟨⟨by rw[D6.len p q h.1];exact hr.1.1,NzS.rep p q b o h.1 hr.1.2⟩,FL.rep z l l' b (o+z) h.2 hr.2⟩
end
end
theorem A6.nz{P:Program}{f:FuncId}{ys xs:List PV}{h:A0}{K:PV->A0->Prop}(hc:A6 P f ys h K)(hz:D6 ys xs):A6 P f xs h K:=
 λβ w vals sm hr=>hc β w vals sm (D6.rep ys xs vals hz hr)
theorem OD{z:Nat}:Nz (.A1 z []) (.sc (.slice none 0 0)):=by unfold Nz;exact .inr ⟨rfl,.inr rfl⟩
theorem Vt{r r':List PV}(h:D6 r r'):Nz (.agg r) (.agg r'):=by unfold Nz;exact⟨_,rfl,h⟩
theorem HP{p q:PV}{l m:List PV}(h:Nz p q)(h2:D6 l m):D6 (p::l) (q::m):=by unfold D6;exact⟨h,h2⟩
end Go.AM
namespace Go.AM
variable {o:Am}{j id z lo:Nat}{h:A0}{R:List (List PV)}{p:PV}
theorem E4(hj:j<h.next):(h.new o).obj j=h.obj j:=by
 simp only[A0.new];rw[A7 (by omega)]
theorem Fc(hj:j≠id):(h.kill id).obj j=h.obj j:=by
 simp only[A0.kill];rw[A7 hj]
theorem Aw(hj:j≠id):(h.set id o).obj j=h.obj j:=by
 simp only[A0.set];rw[A7 hj]
theorem D7:(h.set id o).obj id=some o:=by simp only[A0.set,AO]
def HQ(h:A0)(o o':Am):A0:=Dz h.next ((h.new o).set h.next o')
theorem IQ{o':Am}:(HQ h o o').next=h.next+1:=rfl
theorem IR{o':Am}(hj:j<h.next):(HQ h o o').obj j=h.obj j:=by
 simp only[HQ,Dz,A0.set,A0.new];rw[AK hj,A7 (by omega),A7 (by omega)]
theorem H7{P:Program}{ow:Nat->Bool}{wf:FuncId->Bool}{m:Nat}{c:Code}{Q:BU}{s:AE}{cells:List PV}(t:Nat)(hc:Km c=true)(hs:s t= .ptr h.next 0 0)(hf: ∀ n H,AN n H cells cells)
  (hw:Ar P ow wf m c Q (Ci s t (.Aj cells)) (HQ h o (.arr z [cells]))):Ar P ow wf m c Q s ((h.new o).set h.next (.arr z [cells])):=by
 refine Jz h.next [(t,.Aj cells)] hc (by simp[A0.new,A0.set]) ?_ hw
 intro x hx;simp only[List.mem_cons,List.not_mem_nil,FF]at hx;subst hx;simp only[hs,AI];exact .inr ⟨h.next,0,0,z,[cells],cells,rfl,AG _,by simp[A0.set],rfl,hf _ _⟩
theorem AH.tmp{h':A0}(g:AH h h')(o o':Am):AH h (HQ h' o o'):=
 ⟨by rw[IQ];have:=g.le;omega,λid hid=>by rw[IR (by have:=g.le;omega)];exact g.B1 id hid⟩
theorem Tl.tmp(t:Tl h lo z p R)(o o':Am):Tl (HQ h o o') lo z p R:=t.up (by rw[IQ];omega) λj _ hj=>IR hj
theorem Tl.cell(t:Tl h lo z p R):p.cells=[p]/\Cs p=true:=by
 rcases t with⟨_,rfl|rfl⟩|⟨_,_,_,rfl,_⟩<;>exact⟨rfl,rfl⟩
theorem Tl.EK(t:Tl h lo z p R){id:Nat}(hid:id<lo)(o:Am):Tl (h.set id o) lo z p R:=t.up (AG _) λj hj _=>by simp only[A0.set];rw[A7 (by omega)]
theorem Tl.frzR{id0:Nat}{rows:List (List PV)}(t:Tl h id0 z p rows){n:Nat}(hn:n<=id0)(hr:DE n h rows rows):AI n h (.A1 z rows) p:=by
 simp only[AI];rcases t with⟨h1,h2⟩|⟨id,h1,h2,rfl,ho⟩
 ·exact .inr (.inl ⟨h1,h2.symm⟩)
 ·refine .inr (.inr ⟨id,0,_,_,rfl,by omega,ho,by omega,?_⟩);rw[List.drop_zero,List.take_of_length_le (by omega)];exact hr
theorem Vu{h0 H:A0}{R2:List (List PV)}(t:Tl h0 lo z p R)(t1:F3 h p=some (H,R2))(hj:h0.next<=j):H.obj j=h.obj j:=by
 rcases t with⟨_,rfl|rfl⟩|⟨id,b1,b2,rfl,b3⟩
 ·simp only[F3,BC,C4]at t1;rw[← t1.1]
 ·simp only[F3,BC,C4]at t1;rw[← t1.1]
 ·unfold F3 at t1;simp only at t1;split at t1
  ·split at t1
   ·simp only[BC,C4]at t1;rw[← t1.1];exact Fc (by omega)
   ·cases t1
  ·cases t1
def Gv(X z:Nat)(R:List (List PV))(p q:PV):Prop:=p=q\/(p= .own X 0 R.length/\q= .A1 z R)
def G9(X z:Nat)(R:List (List PV)):List PV->List PV->Prop
 |[],[]=>True
 |p::ps,q::qs=>Gv X z R p q/\G9 X z R ps qs
 |_,_=>False
def GN(X z:Nat)(R:List (List PV)):List (List PV)->List (List PV)->Prop
 |[],[]=>True
 |p::ps,q::qs=>G9 X z R p q/\GN X z R ps qs
 |_,_=>False
theorem G9.refl{X z:Nat}{R:List (List PV)}: ∀ l:List PV,G9 X z R l l
 |[]=>trivial
 |_::l=>⟨.inl rfl,G9.refl l⟩
theorem GN.snoc{X z:Nat}{R:List (List PV)}{r r':List PV}(h:G9 X z R r r'): ∀ l:List (List PV),GN X z R (l++[r]) (l++[r'])
 |[]=>⟨h,trivial⟩
 |a::l=>⟨G9.refl a,GN.snoc h l⟩
theorem G9.len{X z:Nat}{R:List (List PV)}: ∀ l l':List PV,G9 X z R l l'->l.length=l'.length
 |[],[],_=>rfl
 |[],_::_,h=>h.elim
 |_::_,[],h=>h.elim
 |_::l,_::l',h=>by simp only[List.length_cons,G9.len l l' h.2]
theorem GN.len{X z:Nat}{R:List (List PV)}: ∀ l l':List (List PV),GN X z R l l'->l.length=l'.length
 |[],[],_=>rfl
 |[],_::_,h=>h.elim
 |_::_,[],h=>h.elim
 |_::l,_::l',h=>by simp only[List.length_cons,GN.len l l' h.2]
section
variable {β:BK}{h:A0}{w:World}{X z:Nat}{R:List (List PV)}{F':Nat->Prop}
theorem Gv.rep(sm:B2 β h w)(hX:h.obj X=some (.arr z R))(mv:Mv β h.next (Fz β h w) w β h.next F' w)(hB: ∀ b,(β X).b=some b->F' b){p q:PV}{x:Value}(hg:Gv X z R p q)(hr:AA β h.next (Fz β h w) w p x):AA β h.next F' w q x:=by
 rcases hg with rfl|⟨rfl,rfl⟩
 ·exact AA.mv mv _ _ hr
 ·simp only[AA]at hr⊢;obtain⟨_,a,cap,rfl,h1,h2,h3⟩:=hr;refine⟨a,cap,rfl,h1,h2,?_⟩;rcases h3 with h3|⟨b,g1,g2,g3⟩
  ·exact .inl (List.eq_nil_of_length_eq_zero (by omega))
  ·have hok:=sm.ok X _ hX;simp only[BN]at hok;obtain⟨hz,hok⟩:=hok;rcases hok with⟨k1,_⟩|⟨b',c,e,fr,k1,k2,k3,k4,k5,k6⟩
   ·rw [k1]at g1;cases g1
   ·rw [k1]at g1;simp only[BC]at g1;subst g1;exact .inr ⟨b',_,hB b' k1,g2,by simpa using BI.KX mv rfl z R _ k6⟩
theorem G9.rep(sm:B2 β h w)(hX:h.obj X=some (.arr z R))(mv:Mv β h.next (Fz β h w) w β h.next F' w)(hB: ∀ b,(β X).b=some b->F' b): ∀ (l l':List PV)(b o:Nat),G9 X z R l l'->Bk β h.next (Fz β h w) w l b o->Bk β h.next F' w l' b o
 |[],[],_,_,_,_=>by simp only[Bk]
 |[],_::_,_,_,h,_=>h.elim
 |_::_,[],_,_,h,_=>h.elim
 |p::l,q::l',b,o,hg,hr=>by
  simp only[Bk]at hr⊢;obtain⟨⟨v,h1,h2,h3⟩,h4⟩:=hr;exact⟨⟨v,h1,h2,Gv.rep sm hX mv hB hg.1 h3⟩,G9.rep sm hX mv hB l l' b (o+1) hg.2 h4⟩
theorem GN.rep(sm:B2 β h w)(hX:h.obj X=some (.arr z R))(mv:Mv β h.next (Fz β h w) w β h.next F' w)(hB: ∀ b,(β X).b=some b->F' b)(zY:Nat): ∀ (l l':List (List PV))(b o:Nat),GN X z R l l'->BI β h.next (Fz β h w) w zY l b o->BI β h.next F' w zY l' b o
 |[],[],_,_,_,_=>by simp only[BI]
 |[],_::_,_,_,h,_=>h.elim
 |_::_,[],_,_,h,_=>h.elim
 |p::l,q::l',b,o,hg,hr=>by
  simp only[BI]at hr⊢;obtain⟨⟨h1,h2⟩,h3⟩:=hr;exact⟨⟨by rw[← G9.len _ _ hg.1];exact h1,G9.rep sm hX mv hB p q b o hg.1 h2⟩,GN.rep sm hX mv hB zY l l' b (o+zY) hg.2 h3⟩
end
def JP(h:A0)(X Y zY:Nat)(R':List (List PV)):A0:=(h.kill X).set Y (.arr zY R')
theorem Wk.ZG{s:AE}{h:A0}{X Y z zY:Nat}{R RY RY':List (List PV)}(hX:h.obj X=some (.arr z R))(hY:h.obj Y=some (.arr zY RY))(hne:X≠Y)(hg:GN X z R RY RY'):Wk s h s (JP h X Y zY RY'):=by
 intro β w sm;have ho: ∀ j,(JP h X Y zY RY').obj j=if j=Y then some (.arr zY RY')else if j=X then none else h.obj j:=λj=>rfl
 have hsome: ∀ id,((JP h X Y zY RY').obj id).isSome=true->id≠X/\(h.obj id).isSome=true:=λid hid=>by
  rw[ho]at hid;split at hid
  ·rename_i e;subst e;exact⟨λe=>hne e.symm,by rw[hY];try rfl⟩
  ·split at hid
   ·simp at hid
   ·exact ⟨by assumption,hid⟩
 have hF: ∀ b,Fz β h w b->Fz β (JP h X Y zY RY') w b:=λb hb=>⟨hb.1,λid hid=>hb.2.1 id (hsome id hid).2,hb.2.2⟩;have hsX:(h.obj X).isSome=true:=by rw[hX];try rfl
 have hB: ∀ b,(β X).b=some b->Fz β (JP h X Y zY RY') w b:=λb hb=>
  ⟨sm.Jm hX hb,λj hj hjb=>(hsome j hj).1 (sm.inj j X (hsome j hj).2 hsX b hjb hb),sm.nx X hsX b hb⟩
 have mv:Mv β h.next (Fz β h w) w β h.next (Fz β (JP h X Y zY RY') w) w:=⟨AG _,λ_ _ _=>rfl,λb hb=>⟨hF b hb,rfl⟩⟩
 refine⟨⟨λid hid=>sm.lt id (hsome id hid).2,λid o hoo=>?_,λi j hi hj=>sm.inj i j (hsome i hi).2 (hsome j hj).2,sm.xs,λid hid=>sm.nx id (hsome id hid).2⟩,
  ⟨rfl,rfl,rfl,AG _,AG _,λ_ _=>rfl,rfl,λ_ _ _=>rfl,λb hb=>⟨hF b hb,rfl⟩⟩,λt x hr=>AA.mv mv _ _ hr⟩
 rw[ho]at hoo;split at hoo
 ·rename_i e;subst e;simp only[BC]at hoo;subst hoo;have hok:=sm.ok id _ hY;simp only[BN]at hok⊢;refine⟨hok.1,?_⟩;rcases hok.2 with⟨k1,k2⟩|⟨b,c,e,fr,k1,k2,k3,k4,k5,k6⟩
  ·left;refine⟨k1,?_⟩;have:=hg.len;rw[k2]at this;exact List.eq_nil_of_length_eq_zero this.symm
  ·exact .inr ⟨b,c,e,fr,k1,k2,k3,by rw[← hg.len];exact k4,k5,GN.rep sm hX mv hB zY RY RY' b _ hg k6⟩
 ·split at hoo
  ·cases hoo
  ·exact BN.mv mv (λ_ _=>rfl) (sm.ok id o hoo)
theorem SD{P:Program}{ow:Nat->Bool}{wf:FuncId->Bool}{m:Nat}{c:Code}{Q:BU}{s:AE}{h:A0}{X Y z zY:Nat}{R RY:List (List PV)}(RY':List (List PV))(hc:Km c=true)(hX:h.obj X=some (.arr z R))(hY:h.obj Y=some (.arr zY RY))(hne:X≠Y)(hg:GN X z R RY RY')
  (hw:Ar P ow wf m c Q s (JP h X Y zY RY')):Ar P ow wf m c Q s h:=UT hc (Wk.ZG hX hY hne hg) hw
theorem Vv{h H:A0}(g:AH h H):AH h (Dz h.next H):=⟨g.le,λj hj=>by simp only[Dz];rw[AK hj];exact g.B1 j hj⟩
end Go.AM
namespace Go.Proofs.YtblgchkahpgdjaaGreat
open Go.AM Go.Proofs.Tryz
theorem Q4{P:Program}{ow:Nat->Bool}{wf:FuncId->Bool}{n:Nat}{Q:BU}{s:AE}{h:A0}(id:Nat){ops:Array Oper}{d:Bool}(hh:VX (Ar P ow wf n (.region id ops d) Q s h)):Ar P ow wf n (.region id ops d) Q s h:=hh.out
end Go.Proofs.YtblgchkahpgdjaaGreat
namespace Go.AM
open Go.ChangeShapes Go.WideShapes
def FM(P:Program)(t:TypeId):List (Nat × TypeId):=match P.underlying t with
 |some (.struct fs)=>fs.toList.map λf=>(f.offset,f.type)
 |some (.array n e)=>(List.range n).map λi=>(i*P.cellsOf e,e)
 |_=>[]
def K7(P:Program)(e:Nat):Nat->List (Nat × TypeId)->Bool
 |o,[]=>o==e
 |o,p::l=>p.1==o&&K7 P e (o+P.cellsOf p.2) l
def Be(P:Program):Nat->TypeId->List PV->Prop
 |0,_,_=>False
 |f+1,t,ps=>match P.underlying t with
  |some .bool=> ∃ b,ps=[.sc (.bool b)]
  |some (.int k)=> ∃ n,(Lit.int k n).wf=true/\ps=[.sc (.int k n)]
  |some .string=> ∃ s:ByteArray,s.size<=reachBytes/\ps=[.sc (.string s)]
  |some (.slice e)=> ∃ rows,ps=[.A1 (P.cellsOf e) rows]/\rows.length*P.bytesOf e<=reachBytes/\rows.length<=maxLen/\ ∀ r∈rows,r.length=P.cellsOf e/\Be P f e r
  |some (.struct _)=>ps.length=P.cellsOf t/\ ∀ p∈FM P t,Be P f p.2 ((ps.drop p.1).take (P.cellsOf p.2))
  |some (.array _ _)=>ps.length=P.cellsOf t/\ ∀ p∈FM P t,Be P f p.2 ((ps.drop p.1).take (P.cellsOf p.2))
  |_=>False
section
variable {H:Type}{enc:TypeId × Value->H}{P:Program}{w:World}{sp:Nat->Bool}{held:Bool}
def RA(w:World)(ps:List PV)(cs:List Value):Prop:=(∀ v∈cs,v.oneCell'=true)/\ ∀ β n,AT β n (λb=>b<w.heap.size) w ps cs
theorem RA.len{ps:List PV}{cs:List Value}(h:RA w ps cs):ps.length=cs.length:=(h.2 ⟨λ_=>⟨none,0,0,0⟩,λ_=>False⟩ 0).len
theorem RA.append{ps ps':List PV}{cs cs':List Value}(h:RA w ps cs)(k:RA w ps' cs'):RA w (ps++ps') (cs++cs'):=
 ⟨λv hv=>by exact(List.mem_append.1 hv).elim (h.1 v) (k.1 v),λβ n=>(h.2 β n).append (k.2 β n)⟩
theorem SE{e:Nat}:(l:List (Nat × TypeId))->(o:Nat)->K7 P e o l=true->o<=e/\ ∀ p∈l,o<=p.1/\p.1+P.cellsOf p.2<=e
 |[],o,h=>by simp[K7]at h;simp[h]
 |p::l,o,h=>by
  simp only[K7,AV,F0]at h;obtain⟨h1,h2⟩:=SE l _ h.2;refine⟨by omega,λq hq=>?_⟩;rcases List.mem_cons.1 hq with rfl|hq
  ·omega
  ·have:=h2 q hq;omega
theorem Vw{α:Type}{R:Nat->α->Prop}:(n:Nat)->(∀ i,i<n-> ∃ x,R i x)-> ∃ l:List α,l.length=n/\ ∀ i x,l[i]? =some x->R i x
 |0,_=>⟨[],rfl,by simp⟩
 |n+1,h=>by
  obtain⟨l,h1,h2⟩:=Vw n (λi hi=>h i (by omega));obtain⟨x,hx⟩:=h n (by omega);refine⟨l++[x],by simp[h1],λi y hy=>?_⟩;rw[List.getElem?_append]at hy;split at hy
  ·exact h2 i y hy
  ·rename_i hi;have:i=n:=by
    have:=(List.getElem?_eq_some_iff.1 hy).1;simp at this;omega
   subst this;rw[h1]at hy;simp at hy;subst hy;exact hx
theorem SF{e:TypeId}{n:Nat}:{ds:List (DataW H)}->{i:Nat}->{d:DataW H}->ds[i]? =some d->n∈d.weights P e->n∈DataW.weightsAll P e ds
 |[],_,_,h,_=>by simp at h
 |d0::ds,0,d,h,hn=>by
  simp at h;subst h;simp only[DataW.weightsAll,List.mem_append];exact .inl hn
 |d0::ds,i+1,d,h,hn=>by
  simp at h;simp only[DataW.weightsAll,List.mem_append];exact .inr (SF h hn)
theorem SG{v:Value}(h:v.oneCell'=true):RA w [.sc v] [v]:=
 ⟨λu hu=>by simp at hu;subst hu;exact h,λβ n=>by simp only[AT,AA];exact⟨trivial,trivial⟩⟩
end
end Go.AM
namespace Go.AM
open Go.ChangeShapes Go.WideShapes
section
variable {H:Type}{enc:TypeId × Value->H}{P:Program}{w:World}{sp:Nat->Bool}{held:Bool}
def Vx(P:Program)(Ts:List TypeId):Bool:=Ts.all λt=>match P.underlying t with
 |some .bool=>true
 |some (.int _)=>true
 |some .string=>true
 |some (.slice e)=>decide (0<P.cellsOf e)&&Ts.contains e
 |some (.struct _)=>K7 P (P.cellsOf t) 0 (FM P t)&&(FM P t).all λp=>Ts.contains p.2
 |some (.array _ _)=>K7 P (P.cellsOf t) 0 (FM P t)&&(FM P t).all λp=>Ts.contains p.2
 |_=>false
end
end Go.AM
namespace Go.AM
open Go.ChangeShapes Go.WideShapes
section
variable {P:Program}{c:Nat}{t e:TypeId}{ps:List PV}{a:PV}
theorem jA{k:IntKind}(hu:P.underlying t=some (.int k))(h:Be P (c+1) t ps): ∃ n,(Lit.int k n).wf=true/\ps=[.sc (.int k n)]:=by
 unfold Be at h;rw[hu]at h;exact h
theorem JQ(hu:P.underlying t=some (.slice e))(h:Be P (c+1) t ps): ∃ rows,ps=[.A1 (P.cellsOf e) rows]/\rows.length*P.bytesOf e<=reachBytes/\rows.length<=maxLen/\ ∀ r∈rows,r.length=P.cellsOf e/\Be P c e r:=by
 unfold Be at h;rw[hu]at h;exact h
theorem K8{fs:Array Field}(hu:P.underlying t=some (.struct fs))(h:Be P (c+1) t ps):ps.length=P.cellsOf t/\ ∀ p∈FM P t,Be P c p.2 ((ps.drop p.1).take (P.cellsOf p.2)):=by
 unfold Be at h;rw[hu]at h;exact h
theorem J2{α:Type}{Q:α->Prop}{f:α->List PV}:(rows:List (List PV))->(∀ r∈rows, ∃ x,Q x/\r=f x)-> ∃ xs:List α,rows=xs.map f/\ ∀ x∈xs,Q x
 |[],_=>⟨[],rfl,by simp⟩
 |r::rows,h=>by
  obtain⟨xs,h1,h2⟩:=J2 rows (λq hq=>h q (by simp[hq]));obtain⟨x,h3,h4⟩:=h r (by simp);refine⟨x::xs,by simp[h1,h4],λy hy=>?_⟩;rcases List.mem_cons.1 hy with rfl|hy
  ·exact h3
  ·exact h2 y hy
theorem jB{n:Int}(h:(Lit.int .i64 n).wf=true): -9223372036854775808<=n/\n<=9223372036854775807:=by
 simp[Lit.wf,IntKind.min,IntKind.max,IntKind.bits,IntKind.signed]at h;omega
end
end Go.AM
namespace Go.Proofs.YtblgchkahpgdjaaGreat
open Go.AM Go.Proofs.Tryz
set_option maxHeartbeats 1000000
set_option maxRecDepth 20000
variable {ps:List PV}{c:Nat}
def jC:List TypeId:=[67,75,123,9,3,64,22,65,63]
theorem jD:FM prog 75=[(0,9),(1,9),(2,3),(3,64),(4,65)]:=by kernel_rfl
theorem jE:FM prog 67=[(0,9),(1,9),(2,64),(3,22),(4,65),(5,63)]:=by kernel_rfl
theorem jF:FM prog 123=[(0,9),(1,9)]:=by kernel_rfl
theorem JR:Tryz.prog.cellsOf 9=1:=by kernel_rfl
theorem OE:Tryz.prog.cellsOf 3=1:=by kernel_rfl
theorem SH:Tryz.prog.cellsOf 64=1:=by kernel_rfl
theorem M6:Tryz.prog.cellsOf 22=1:=by kernel_rfl
theorem Vy:Tryz.prog.cellsOf 65=1:=by kernel_rfl
theorem jG:Tryz.prog.cellsOf 63=1:=by kernel_rfl
theorem Q5:Tryz.prog.cellsOf 75=5:=by kernel_rfl
theorem OF:Tryz.prog.cellsOf 67=6:=by kernel_rfl
theorem Vz:Tryz.prog.cellsOf 123=2:=by kernel_rfl
theorem jH:0<Tryz.prog.bytesOf 9:=by rw[show Tryz.prog.bytesOf 9=16 by kernel_rfl];omega
theorem jI:0<Tryz.prog.bytesOf 123:=by rw[show Tryz.prog.bytesOf 123=32 by kernel_rfl];omega
theorem W0:0<Tryz.prog.bytesOf 75:=by rw[show Tryz.prog.bytesOf 75=88 by kernel_rfl];omega
theorem jJ:0<Tryz.prog.bytesOf 67:=by rw[show Tryz.prog.bytesOf 67=128 by kernel_rfl];omega
theorem JS{n b:Nat}(h:n*b<=reachBytes)(hb:0<b):n<=AF:=by
 have:=pL n hb;unfold reachBytes at h;unfold AF;omega
theorem Ht(h:Be prog c 9 ps): ∃ s:ByteArray,s.size<=AF/\ps=[A3 s]:=by
 cases c with
 |zero=>simp[Be]at h
 |succ c=>
  unfold Be at h;rw[Tryz.underlying9]at h;obtain⟨s,h1,h2⟩:=h;exact⟨s,by unfold reachBytes at h1;unfold AF;omega,h2⟩
theorem Mx(h:Be prog c 3 ps): ∃ n:Int,(-9223372036854775808<=n/\n<=9223372036854775807)/\ps=[qK n]:=by
 cases c with
 |zero=>simp[Be]at h
 |succ c=>
  obtain⟨n,h1,h2⟩:=jA Tryz.underlying3 h;exact⟨n,jB h1,h2⟩
theorem SI(h:Be prog c 64 ps): ∃ l:List ByteArray,(l.length<=AF/\ ∀ a∈l,a.size<=AF)/\ps=[.A1 1 (AL l)]:=by
 cases c with
 |zero=>simp[Be]at h
 |succ c=>
  obtain⟨rows,rfl,h1,_,h2⟩:=JQ Tryz.underlying64 h;obtain⟨xs,rfl,h3⟩:=J2 (Q:=λs:ByteArray=>s.size<=AF) (f:=λs=>[A3 s]) rows (λr hr=>Ht (h2 r hr).2);refine⟨xs,⟨JS (by simpa using h1) jH,h3⟩,?_⟩;rw[JR];try rfl
theorem jK(h:Be prog c 123 ps): ∃ p:Pm,p.ok/\ps=Ir p:=by
 cases c with
 |zero=>simp[Be]at h
 |succ c=>
  obtain⟨h1,h2⟩:=K8 Tryz.underlying123 h;rw[Vz]at h1;rw[jF]at h2
  match ps,h1,h2 with
  |[p0,p1],_,h2=>
   have a0:=h2 (0,9) (by simp);have a1:=h2 (1,9) (by simp);simp only[JR,List.drop_zero,List.drop_succ_cons,List.take_succ_cons,List.take_zero]at a0 a1;obtain⟨s,hs,e1⟩:=Ht a0;obtain⟨t,ht,e2⟩:=Ht a1;simp at e1 e2;exact⟨⟨s,t⟩,⟨hs,ht⟩,by simp[Ir,e1,e2]⟩
theorem Ky(h:Be prog c 22 ps): ∃ l:List Pm,(l.length<=AF/\ ∀ a∈l,a.ok)/\ps=[.A1 2 (A8 l)]:=by
 cases c with
 |zero=>simp[Be]at h
 |succ c=>
  obtain⟨rows,rfl,h1,_,h2⟩:=JQ Tryz.underlying22 h;obtain⟨xs,rfl,h3⟩:=J2 (Q:=Pm.ok) (f:=Ir) rows (λr hr=>jK (h2 r hr).2);refine⟨xs,⟨JS (by simpa using h1) jI,h3⟩,?_⟩;rw[Vz];try rfl
theorem W1: ∀ (c:Nat){ps:List PV},Be prog c 75 ps-> ∃ e:Ex,e.ok/\ps=e.cells:=by
 intro c
 induction c using Nat.strongRecOn with
 |_ c ih=>
  intro ps h;cases c with
  |zero=>simp[Be]at h
  |succ c=>
   obtain⟨h1,h2⟩:=K8 Tryz.underlying75 h;rw[Q5]at h1;rw[jD]at h2
   match ps,h1,h2 with
   |[p0,p1,p2,p3,p4],_,h2=>
    have a0:=h2 (0,9) (by simp);have a1:=h2 (1,9) (by simp);have a2:=h2 (2,3) (by simp);have a3:=h2 (3,64) (by simp);have a4:=h2 (4,65) (by simp);simp only[JR,OE,SH,Vy,List.drop_zero,List.drop_succ_cons,List.take_succ_cons,List.take_zero]at a0 a1 a2 a3 a4;obtain⟨op,hop,e0⟩:=Ht a0;obtain⟨name,hname,e1⟩:=Ht a1;obtain⟨n,hn,e2⟩:=Mx a2;obtain⟨args,hargs,e3⟩:=SI a3;cases c with
    |zero=>simp[Be]at a4
    |succ c=>
     obtain⟨rows,e4,h3,_,h4⟩:=JQ Tryz.underlying65 a4;obtain⟨xs,rfl,h5⟩:=J2 (Q:=Ex.ok) (f:=Ex.cells) rows (λr hr=>ih c (by omega) (h4 r hr).2);rw[Q5]at e4;simp at e0 e1 e2 e3 e4;refine⟨.mk op name n args xs,?_,?_⟩
     ·simp only[Ex.ok];exact⟨hop,hname,hn,hargs,JS (by simpa using h3) W0,Ex.Bs.2 h5⟩
     ·simp only[Ex.cells,e0,e1,e2,e3,e4,Ex.rows_map]
theorem jL(h:Be prog c 65 ps): ∃ l:List Ex,(l.length<=AF/\Ex.DK l)/\ps=[.A1 5 (Ex.rows l)]:=by
 cases c with
 |zero=>simp[Be]at h
 |succ c=>
  obtain⟨rows,rfl,h1,_,h2⟩:=JQ Tryz.underlying65 h;obtain⟨xs,rfl,h3⟩:=J2 (Q:=Ex.ok) (f:=Ex.cells) rows (λr hr=>W1 c (h2 r hr).2);refine⟨xs,⟨JS (by simpa using h1) W0,Ex.Bs.2 h3⟩,?_⟩;rw[Q5,Ex.rows_map]
theorem OG: ∀ (c:Nat){ps:List PV},Be prog c 67 ps-> ∃ f:Fm,f.ok/\ps=f.cells:=by
 intro c
 induction c using Nat.strongRecOn with
 |_ c ih=>
  intro ps h;cases c with
  |zero=>simp[Be]at h
  |succ c=>
   obtain⟨h1,h2⟩:=K8 Tryz.underlying67 h;rw[OF]at h1;rw[jE]at h2
   match ps,h1,h2 with
   |[p0,p1,p2,p3,p4,p5],_,h2=>
    have a0:=h2 (0,9) (by simp);have a1:=h2 (1,9) (by simp);have a2:=h2 (2,64) (by simp);have a3:=h2 (3,22) (by simp);have a4:=h2 (4,65) (by simp);have a5:=h2 (5,63) (by simp);simp only[JR,SH,M6,Vy,jG,List.drop_zero,List.drop_succ_cons,List.take_succ_cons,List.take_zero]at a0 a1 a2 a3 a4 a5;obtain⟨op,hop,e0⟩:=Ht a0;obtain⟨name,hname,e1⟩:=Ht a1;obtain⟨args,hargs,e2⟩:=SI a2;obtain⟨params,hparams,e3⟩:=Ky a3;obtain⟨exprs,hexprs,e4⟩:=jL a4;cases c with
    |zero=>simp[Be]at a5
    |succ c=>
     obtain⟨rows,e5,h3,_,h4⟩:=JQ Tryz.underlying63 a5;obtain⟨xs,rfl,h5⟩:=J2 (Q:=Fm.ok) (f:=Fm.cells) rows (λr hr=>ih c (by omega) (h4 r hr).2);rw[OF]at e5;simp at e0 e1 e2 e3 e4 e5;refine⟨.mk op name args params exprs xs,?_,?_⟩
     ·simp only[Fm.ok];exact⟨hop,hname,hargs,hparams,hexprs,JS (by simpa using h3) jJ,Fm.Bs.2 h5⟩
     ·simp only[Fm.cells,e0,e1,e2,e3,e4,e5,Fm.rows_map]
end Go.Proofs.YtblgchkahpgdjaaGreat
namespace Go.Proofs.YtblgchkahpgdjaaGreat
open Go.AM Go.Proofs.Tryz
set_option maxHeartbeats 2000000
set_option maxRecDepth 20000
theorem W4: ∀ (e:Ex),e.ok-> ∀ h:A0,A6 prog 50 [.agg e.cells] h λr h'=>r= qK e.size/\h'=h:=by
 refine Ex.ind ?_;intro op name n args kids ih hok h;simp only[Ex.ok]at hok;obtain⟨_,_,_,_,hk,hks⟩:=hok;rw[Ex.Bs]at hks;have hlen:=Ex.B3 kids;simp only[Ex.cells,Ex.size];refine AD func50 ntmps50 results50 Ty.gB ?_;refine wt hlen ?_;refine By (λm S h'=>h'=h/\S 1= .Aj (Ex.mk op name n args kids).cells/\ ∃ k:Nat,S 4= qK k/\k<=kids.length/\m=kids.length-k/\S 3= qK (Ex.EJ 1 (kids.take k))) kids.length ?_ ?_
 ·simp only[Ty.w,simprocAttr];exact⟨rfl,0,rfl,by omega,rfl,by simp[Ex.EJ]⟩
 ·rintro m S h' ⟨rfl,g1,k,g4,hkl,rfl,g3⟩;simp only[Ex.cells]at g1;by_cases hlt:k<kids.length
  ·have hd:decide ((k:Int)<(kids.length:Int))=true:=(by simp;omega);have w7:IntKind.i64.wrap ((k:Int)+1)=k+1:=(by unfold AF at hk;rw[BM (by omega) (by omega)]);obtain⟨e,hx⟩: ∃ e,kids[k]? =some e:=⟨_,List.getElem?_eq_getElem hlt⟩;have hmem:=List.mem_of_getElem? hx;have hc:=ih e hmem (hks e hmem);have hsz:=Ex.Qo 1 hx;have hr:=Ex.CG hx;obtain⟨op2,name2,n2,args2,kids2⟩:=e;simp only[Ex.cells]at hr hc;replace zz:=Ad g1 g3 g4 hlen hd hr w7;refine wt zz ?_;replace zz:=Ah g1 g3 g4 hlen hd hr;refine uU zz (hc _) ?_;replace zz:=AW g1 g3 g4 w7;refine wt zz ?_;exact⟨kids.length-(k+1),by omega,rfl,k+1,by simp,by omega,rfl,by rw[hsz]⟩
  ·have hd:decide ((k:Int)<(kids.length:Int))=false:=(by simp;omega);have hke:k=kids.length:=(by omega);subst hke;rw[List.take_length]at g3;replace zz:=Ae g1 g3 g4 hlen hd;exact wz zz
theorem OH: ∀ (f:Fm),f.ok-> ∀ h:A0,A6 prog 31 [.agg f.cells] h λr h'=>r= qK f.size/\h'=h:=by
 refine Fm.ind ?_;intro op name args params exprs kids ih hok h;simp only[Fm.ok]at hok;obtain⟨_,_,_,_,⟨he,hes⟩,hk,hks⟩:=hok;rw[Ex.Bs]at hes;rw[Fm.Bs]at hks;have hlen:=Fm.B3 kids;have hlene:=Ex.B3 exprs;simp only[Fm.cells,Fm.size];refine AD func31 ntmps31 results31 Ty.gA ?_;refine wt hlen ?_;refine By (λm S h'=>h'=h/\S 1= .Aj (Fm.mk op name args params exprs kids).cells/\ ∃ k:Nat,S 4= qK k/\k<=exprs.length/\m=exprs.length-k/\S 3= qK (Ex.EJ 1 (exprs.take k))) exprs.length ?_ ?_
 ·simp only[Ty.w,simprocAttr];exact⟨rfl,0,rfl,by omega,rfl,by simp[Ex.EJ]⟩
 ·rintro m S h' ⟨rfl,g1,k,g4,hkl,rfl,g3⟩;simp only[Fm.cells]at g1;by_cases hlt:k<exprs.length
  ·have hd:decide ((k:Int)<(exprs.length:Int))=true:=(by simp;omega);have w7:IntKind.i64.wrap ((k:Int)+1)=k+1:=(by unfold AF at he;rw[BM (by omega) (by omega)]);obtain⟨e,hx⟩: ∃ e,exprs[k]? =some e:=⟨_,List.getElem?_eq_getElem hlt⟩;have hmem:=List.mem_of_getElem? hx;have hc:=W4 e (hes e hmem);have hsz:=Ex.Qo 1 hx;have hr:=Ex.CG hx;obtain⟨op2,name2,n2,args2,kids2⟩:=e;simp only[Ex.cells]at hr hc;replace zz:=Ad g1 g3 g4 hlene hd hr w7;refine wt zz ?_;replace zz:=Ah g1 g3 g4 hlene hd hr;refine uU zz (hc _) ?_;replace zz:=AW g1 g3 g4 w7;refine wt zz ?_;exact⟨exprs.length-(k+1),by omega,by simp only[Fm.cells],k+1,by simp,by omega,rfl,by rw[hsz]⟩
  ·have hd:decide ((k:Int)<(exprs.length:Int))=false:=(by simp;omega);have hke:k=exprs.length:=(by omega);subst hke;rw[List.take_length]at g3;replace zz:=Ae g1 g3 g4 hlene hd;refine wt zz ?_;refine By (λm S h2=>h2=h'/\S 1= .Aj (Fm.mk op name args params exprs kids).cells/\ ∃ k:Nat,S 5= qK k/\k<=kids.length/\m=kids.length-k/\S 3= qK (Fm.EJ (Ex.EJ 1 exprs) (kids.take k))) kids.length ?_ ?_
   ·simp only[Ty.w,simprocAttr,g1,g3];exact⟨by simp only[Fm.cells],0,rfl,by omega,rfl,by simp[Fm.EJ]⟩
   ·clear g1 g3 g4;rintro m S h' ⟨rfl,g1,k,g5,hkl,rfl,g3⟩;simp only[Fm.cells]at g1;by_cases hlt:k<kids.length
    ·have hd:decide ((k:Int)<(kids.length:Int))=true:=(by simp;omega);have w7:IntKind.i64.wrap ((k:Int)+1)=k+1:=(by unfold AF at hk;rw[BM (by omega) (by omega)]);obtain⟨e,hx⟩: ∃ e,kids[k]? =some e:=⟨_,List.getElem?_eq_getElem hlt⟩;have hmem:=List.mem_of_getElem? hx;have hc:=ih e hmem (hks e hmem);have hsz:=Fm.Qo (Ex.EJ 1 exprs) hx;have hr:=Fm.CG hx;obtain⟨op2,name2,args2,params2,Ve,kids2⟩:=e;simp only[Fm.cells]at hr hc;replace zz:=Ad g1 g3 g5 hlen hd hr w7;refine wt zz ?_;replace zz:=Ah g1 g3 g5 hlen hd hr;refine uU zz (hc _) ?_;replace zz:=AW g1 g3 g5 w7;refine wt zz ?_;exact⟨kids.length-(k+1),by omega,by simp only[Fm.cells],k+1,by simp,by omega,rfl,by rw[hsz]⟩
    ·have hd:decide ((k:Int)<(kids.length:Int))=false:=(by simp;omega);have hke:k=kids.length:=(by omega);subst hke;rw[List.take_length]at g3;replace zz:=Ae g1 g3 g5 hlen hd;exact wz zz
end Go.Proofs.YtblgchkahpgdjaaGreat
namespace Go.Proofs.YtblgchkahpgdjaaGreat
open Go.AM Go.Proofs.Tryz
set_option maxHeartbeats 2000000
set_option maxRecDepth 20000
theorem Hu(a:ByteArray):A2 a a=true:=by simp[A2]
theorem Q6: ∀ l:List ByteArray,FX l l=true
 |[]=>rfl
 |a::l=>by simp[FX,Hu,Q6 l]
theorem Kz: ∀ l:List Pm,Dq l l=true
 |[]=>rfl
 |a::l=>by simp[Dq,RU,Hu,Kz l]
theorem SJ: ∀ {l:List Ex},(∀ e∈l,e.same e=true)->Ex.DO l l=true
 |[],_=>rfl
 |a::l,h=>by rw[Ex.DO,h a (List.mem_cons_self ..),SJ (l:=l) λe he=>h e (List.mem_cons_of_mem _ he)];try rfl
theorem W5: ∀ e:Ex,e.same e=true:=by
 refine Ex.ind ?_;intro op name n args kids ih;simp only[Ex.same,Hu,Q6,SJ ih,DC,Cm]
theorem W6: ∀ {l:List Fm},(∀ e∈l,e.same e=true)->Fm.DO l l=true
 |[],_=>rfl
 |a::l,h=>by rw[Fm.DO,h a (List.mem_cons_self ..),W6 (l:=l) λe he=>h e (List.mem_cons_of_mem _ he)];try rfl
theorem SK: ∀ f:Fm,f.same f=true:=by
 refine Fm.ind ?_;intro op name args params exprs kids ih;simp only[Fm.same,Hu,Q6,Kz,SJ (λe _=>W5 e),W6 ih,Cm]
end Go.Proofs.YtblgchkahpgdjaaGreat
namespace Go.AM
def Ch.same(a b:Ch):Bool:=(a.kind==b.kind)&&(Dq a.params b.params&&(a.cond.same b.cond&&(A2 a.name b.name&&(FX a.args b.args&&a.value.same b.value))))
def Pr.same(a b:Pr):Bool:=A2 a.name b.name&&Dq a.params b.params
def Fu.same(a b:Fu):Bool:=A2 a.name b.name&&(Dq a.params b.params&&((a.lo==b.lo)&&(a.hi==b.hi)))
def GX:List Ch->List Ch->Bool
 |[],[]=>true
 |a::l,b::m=>a.same b&&GX l m
 |_,_=>false
theorem W7: ∀ {l m:List Ch},¬ l.length=m.length->GX l m=false
 |[],[],h=>by simp at h
 |[],_::_,_=>rfl
 |_::_,[],_=>rfl
 |a::l,b::m,h=>by simp only[GX,W7 (l:=l) (m:=m) (by simpa using h),BA]
def Hv:List Pr->List Pr->Bool
 |[],[]=>true
 |a::l,b::m=>a.same b&&Hv l m
 |_,_=>false
theorem W8: ∀ {l m:List Pr},¬ l.length=m.length->Hv l m=false
 |[],[],h=>by simp at h
 |[],_::_,_=>rfl
 |_::_,[],_=>rfl
 |a::l,b::m,h=>by simp only[Hv,W8 (l:=l) (m:=m) (by simpa using h),BA]
def Hw:List Fu->List Fu->Bool
 |[],[]=>true
 |a::l,b::m=>a.same b&&Hw l m
 |_,_=>false
theorem W9: ∀ {l m:List Fu},¬ l.length=m.length->Hw l m=false
 |[],[],h=>by simp at h
 |[],_::_,_=>rfl
 |_::_,[],_=>rfl
 |a::l,b::m,h=>by simp only[Hw,W9 (l:=l) (m:=m) (by simpa using h),BA]
def Ac.same(a b:Ac):Bool:=A2 a.name b.name&&(Dq a.params b.params&&((a.cost==b.cost)&&(a.pre.same b.pre&&GX a.changes b.changes)))
def Du.same(a b:Du):Bool:=A2 a.name b.name&&(Dq a.params b.params&&((a.Dw==b.Dw)&&(a.start.same b.start&&(a.over.same b.over&&(a.stop.same b.stop&&(GX a.Bm b.Bm&&GX a.Bn b.Bn))))))
def Hx:List Ac->List Ac->Bool
 |[],[]=>true
 |a::l,b::m=>a.same b&&Hx l m
 |_,_=>false
theorem WA: ∀ {l m:List Ac},¬ l.length=m.length->Hx l m=false
 |[],[],h=>by simp at h
 |[],_::_,_=>rfl
 |_::_,[],_=>rfl
 |a::l,b::m,h=>by simp only[Hx,WA (l:=l) (m:=m) (by simpa using h),BA]
def Hy:List Du->List Du->Bool
 |[],[]=>true
 |a::l,b::m=>a.same b&&Hy l m
 |_,_=>false
theorem WB: ∀ {l m:List Du},¬ l.length=m.length->Hy l m=false
 |[],[],h=>by simp at h
 |[],_::_,_=>rfl
 |_::_,[],_=>rfl
 |a::l,b::m,h=>by simp only[Hy,WB (l:=l) (m:=m) (by simpa using h),BA]
def Dm.same(a b:Dm):Bool:=A2 a.name b.name&&(Dq a.types b.types&&(Dq a.constants b.constants&&(Hv a.Ay b.Ay&&(Hw a.Au b.Au&&(Hx a.Av b.Av&&Hy a.B0 b.B0)))))
end Go.AM
namespace Go.Proofs.YtblgchkahpgdjaaGreat
open Go.AM Go.Proofs.Tryz
theorem jM(a:Ch):a.same a=true:=by simp[Ch.same,Kz,SK,Hu,Q6,W5]
theorem jN(a:Pr):a.same a=true:=by simp[Pr.same,Kz,Hu]
theorem jO(a:Fu):a.same a=true:=by simp[Fu.same,Kz,Hu]
theorem SL: ∀ l:List Ch,GX l l=true
 |[]=>rfl
 |a::l=>by simp[GX,jM,SL l]
theorem WC: ∀ l:List Pr,Hv l l=true
 |[]=>rfl
 |a::l=>by simp[Hv,jN,WC l]
theorem WD: ∀ l:List Fu,Hw l l=true
 |[]=>rfl
 |a::l=>by simp[Hw,jO,WD l]
theorem jP(a:Ac):a.same a=true:=by simp[Ac.same,Kz,SK,Hu,SL]
theorem jQ(a:Du):a.same a=true:=by simp[Du.same,Kz,SK,Hu,SL]
theorem WE: ∀ l:List Ac,Hx l l=true
 |[]=>rfl
 |a::l=>by simp[Hx,jP,WE l]
theorem WG: ∀ l:List Du,Hy l l=true
 |[]=>rfl
 |a::l=>by simp[Hy,jQ,WG l]
theorem jR(a:Dm):a.same a=true:=by simp[Dm.same,Kz,Hu,WC,WD,WE,WG]
end Go.Proofs.YtblgchkahpgdjaaGreat
namespace Go.AM
def WH(q p:PV):Prop:=q=p\/(q= .sc (.slice none 0 0)/\ ∃ z,p= .A1 z [])
def Hz:List PV->List PV->Prop
 |[],[]=>True
 |q::qs,p::ps=>WH q p/\Hz qs ps
 |_,_=>False
theorem AA.nil1{β:BK}{n:Nat}{F:Nat->Prop}{w:World}{q p:PV}{x:Value}(hq:WH q p)(h:AA β n F w q x):AA β n F w p x:=by
 rcases hq with rfl|⟨rfl,z,rfl⟩
 ·exact h
 ·simp only[AA]at h⊢;exact⟨none,0,h,AG _,Bj _,.inl (by trivial)⟩
theorem AT.nilL{β:BK}{n:Nat}{F:Nat->Prop}{w:World}: ∀ {qs ps:List PV}{xs:List Value},Hz qs ps->AT β n F w qs xs->AT β n F w ps xs
 |[],[],[],_,_=>by simp only[AT]
 |[],[],_::_,_,h=>by simp[AT]at h
 |q::qs,p::ps,[],_,h=>by simp[AT]at h
 |q::qs,p::ps,x::xs,hq,h=>by
  simp only[Go.AM.Hz]at hq;simp only[AT]at h⊢;exact⟨AA.nil1 hq.1 h.1,AT.nilL hq.2 h.2⟩
 |[],_::_,_,hq,_=>by simp[Go.AM.Hz]at hq
 |_::_,[],_,hq,_=>by simp[Go.AM.Hz]at hq
theorem A6.ZH{P:Program}{f:FuncId}{a a' b b':List PV}{h:A0}{K:PV->A0->Prop}(ha:Hz a' a)(hb:Hz b' b)(hc:A6 P f [.agg a,.agg b] h K):A6 P f [.agg a',.agg b'] h K:=by
 intro β w vals sm hr;refine hc β w vals sm ?_
 match vals,hr with
 |[x,y],hr=>
  simp only[AT,AA]at hr⊢;obtain⟨⟨xs,h1,h2,h3⟩,⟨ys,k1,k2,k3⟩,_⟩:=hr;exact⟨⟨xs,h1,h2,AT.nilL ha h3⟩,⟨ys,k1,k2,AT.nilL hb k3⟩,trivial⟩
end Go.AM
namespace Go.Proofs.YtblgchkahpgdjaaGreat
open Go.AM Go.Proofs.Tryz
set_option maxHeartbeats 4000000
set_option maxRecDepth 20000
variable {g:FuncId}
theorem WI{a b:Ex}(ha:a.ok)(hb:b.ok)(h:A0):A6 prog 145 [.agg a.cells,.agg b.cells] h λr h'=>r= .sc (.bool (a.same b))/\h'=h:=by
 have ok1: ∀ e:Ex,e.ok->(Fm.mk ⟨#[]⟩ ⟨#[]⟩ [] [] [e] []).ok:=λe he=>by
  simp only[Fm.ok,Fm.DK,Ex.DK,List.length_nil,List.length_cons];exact⟨by simp[AF,ByteArray.size],by simp[AF,ByteArray.size],⟨by simp,by simp⟩,⟨by simp,by simp⟩,⟨by simp[AF],he,trivial⟩,by simp,trivial⟩
 have hc:=λh:A0=>Iz _ (ok1 a ha) _ (ok1 b hb) h;have hs:(Fm.mk ⟨#[]⟩ ⟨#[]⟩ [] [] [a] []).same (.mk ⟨#[]⟩ ⟨#[]⟩ [] [] [b] [])=a.same b:=by simp[Fm.same,Fm.DO,Ex.DO,A2,FX,Dq]
 rw[hs]at hc;generalize a.same b=e at hc⊢;have hc2:=λh:A0=>A6.ZH (a':=[.sc (.string ⟨#[]⟩),.sc (.string ⟨#[]⟩),.sc (.slice none 0 0),.sc (.slice none 0 0),.A1 5 [a.cells],.sc (.slice none 0 0)]) (b':=[.sc (.string ⟨#[]⟩),.sc (.string ⟨#[]⟩),.sc (.slice none 0 0),.sc (.slice none 0 0),.A1 5 [b.cells],.sc (.slice none 0 0)]) (by
  simp only[Fm.cells,Ex.rows,Fm.rows,AL,A8,List.map_nil,Hz];exact⟨.inl rfl,.inl rfl,.inr ⟨rfl,_,rfl⟩,.inr ⟨rfl,_,rfl⟩,.inl rfl,.inr ⟨rfl,_,rfl⟩,trivial⟩) (by
  simp only[Fm.cells,Ex.rows,Fm.rows,AL,A8,List.map_nil,Hz];exact⟨.inl rfl,.inl rfl,.inr ⟨rfl,_,rfl⟩,.inr ⟨rfl,_,rfl⟩,.inl rfl,.inr ⟨rfl,_,rfl⟩,trivial⟩) (hc h)
 clear ok1 ha hb hc hs;obtain⟨op,name,n,args,kids⟩:=a;obtain⟨op2,name2,n2,args2,kids2⟩:=b;simp only[Ex.cells]at hc2⊢;refine AD func145 ntmps145 results145 Ty.gT ?_;refine wt A4 ?_;refine uU A4 (hc2 _) ?_;exact wz A4
theorem SM{a b:Ch}(ha:a.ok)(hb:b.ok)(h:A0):A6 prog 128 [.agg (CZ a),.agg (CZ b)] h λr h'=>r= .sc (.bool (a.same b))/\h'=h:=by
 have c_params:=λh:A0=>K4 (h:=h) (l:=a.params) (m:=b.params) ha.params.1 hb.params.1;have c_cond:=Iz a.cond ha.cond b.cond hb.cond;have c_args:=λh:A0=>O6 (h:=h) (l:=a.args) (m:=b.args) ha.args.1 hb.args.1;have c_value:=WI ha.value hb.value;unfold Ch.same;generalize Dq a.params b.params=v_params at c_params⊢;generalize a.cond.same b.cond=v_cond at c_cond⊢;generalize FX a.args b.args=v_args at c_args⊢;generalize a.value.same b.value=v_value at c_value⊢
 clear ha hb;obtain⟨kind,params,⟨fopc,fnac,farc,fpac,fexc,fkic⟩,name,args,⟨eopv,enav,env,earv,ekiv⟩⟩:=a;obtain⟨kind3,params3,⟨fopc3,fnac3,farc3,fpac3,fexc3,fkic3⟩,name3,args3,⟨eopv3,enav3,env3,earv3,ekiv3⟩⟩:=b;simp only[CZ,Fm.cells,Ex.cells,List.cons_append,List.nil_append,A2]at c_params c_cond c_args c_value⊢;refine AD func128 ntmps128 results128 Ty.gp ?_;cases e0:(kind==kind3)with
 |false=>
  refine wm e0 ?_;try exact zI
  all_goals first|rfl|(simp only[e0,B5,BA,B7,Cm];done)
 |true=>
  refine wt e0 ?_;cases v_params with
  |false=>
   refine uU e0 (c_params _) ?_;refine wm e0 ?_;try exact zI
   all_goals first|rfl|(simp only[e0,B5,BA,B7,Cm];done)
  |true=>
   refine uU e0 (c_params _) ?_;refine wt e0 ?_;cases v_cond with
   |false=>
    refine uU e0 (c_cond _) ?_;refine wm e0 ?_;try exact zI
    all_goals first|rfl|(simp only[e0,B5,BA,B7,Cm];done)
   |true=>
    cases e1:(name.data.toList==name3.data.toList)with
    |false=>
     refine uU (uu e0 e1) (c_cond _) ?_;refine wm (uu e0 e1) ?_;try exact zI
     all_goals first|rfl|(simp only[e0,e1,B5,BA,B7,Cm];done)
    |true=>
     refine uU (uu e0 e1) (c_cond _) ?_;refine wt (uu e0 e1) ?_;cases v_args with
     |false=>
      refine uU (uu e0 e1) (c_args _) ?_;refine wm (uu e0 e1) ?_;try exact zI
      all_goals first|rfl|(simp only[e0,e1,B5,BA,B7,Cm];done)
     |true=>
      refine uU (uu e0 e1) (c_args _) ?_;refine wt (uu e0 e1) ?_;refine uU (uu e0 e1) (c_value _) ?_;refine wm (uu e0 e1) ?_;try exact zI
      all_goals first|rfl|(simp only[e0,e1,B5,BA,B7,Cm];done)
theorem SN{l m:List Ch}(hl:l.length<=AF)(hf: ∀ a∈l, ∀ b∈m, ∀ h:A0,A6 prog g [.agg (CZ a),.agg (CZ b)] h λr h'=>r= .sc (.bool (a.same b))/\h'=h)(h:A0):
  A6 prog 127 [.A1 15 (Ag l),.A1 15 (Ag m),.sc (.func (.func g) #[] #[])] h λr h'=>r= .sc (.bool (GX l m))/\h'=h:=by
 unfold AF at hl;have hll:=Kp l;have hlm:=Kp m;refine A6.quiet Ty.Uv ?_;refine AD func127 ntmps127 results127 Ty.Uv ?_;cases hne:((l.length:Int) !=m.length)with
 |true=>
  have:GX l m=false:=W7 (by simp at hne;omega);refine wt (AU hll hlm hne) ?_;rw[this];exact⟨rfl,AH.refl _⟩
 |false=>
  have hlen:l.length=m.length:=by simp at hne;omega
  refine wt (AU hll hlm hne) ?_;refine By (λc S h'=>AH h h'/\S 1= .A1 15 (Ag m)/\S 2= .sc (.func (.func g) #[] #[])/\S 15= .A1 15 (Ag l)/\S 16= qK l.length/\ ∃ k:Nat,S 17= qK k/\k<=l.length/\c=l.length-k/\GX l m=GX (l.drop k) (m.drop k)) l.length ?_ ?_
  ·simp only[Ty.w,simprocAttr];exact⟨AH.refl _,0,rfl,by omega,rfl,by simp⟩
  ·rintro c S h' ⟨hg,g1,g2,g15,g16,k,gk,hkl,rfl,hinv⟩;by_cases hlt:k<l.length
   ·have hd:decide ((k:Int)<(l.length:Int))=true:=(by simp;omega);have w7:IntKind.i64.wrap ((k:Int)+1)=k+1:=(by rw[BM (by omega) (by omega)]);obtain⟨a,hx⟩: ∃ a,l[k]? =some a:=⟨_,List.getElem?_eq_getElem hlt⟩;obtain⟨b,hy⟩: ∃ b,m[k]? =some b:=⟨_,List.getElem?_eq_getElem (by omega)⟩;have hc:=hf a (List.mem_of_getElem? hx) b (List.mem_of_getElem? hy);rw[Ca hx,Ca hy]at hinv;simp only[GX]at hinv;have hr:=Ns hx;have hr2:=Ns hy;generalize he:a.same b=e at hc hinv;clear he hf;obtain⟨kind2,params2,⟨fopc2,fnac2,farc2,fpac2,fexc2,fkic2⟩,name2,args2,⟨eopv2,enav2,env2,earv2,ekiv2⟩⟩:=a;obtain⟨kind3,params3,⟨fopc3,fnac3,farc3,fpac3,fexc3,fkic3⟩,name3,args3,⟨eopv3,enav3,env3,earv3,ekiv3⟩⟩:=b;simp only[CZ,Fm.cells,Ex.cells,List.cons_append,List.nil_append]at hr hr2 hc;replace zz:=AY g1 g2 g15 g16 gk hll hlm hd hr hr2 w7 @B4;refine wy zz ?_;refine K0 (sq g2) (hc _) (by simp only[Ty.w,simprocAttr,g1,g2,g15,g16,gk];try rfl) ?_;simp only[Ty.w,simprocAttr,Ty.AX];cases e with
    |false=>
     replace zz:=Ad g1 g2 g15 g16 gk w7 yF;refine wy zz ?_;rw[hinv];exact⟨rfl,(((hg.new _).set hg.le _).new _).set (IA hg.le) _⟩
    |true=>
     replace zz:=Ad g1 g2 g15 g16 gk w7 yT;refine wy zz ?_;rw[B7]at hinv;exact⟨l.length-(k+1),by omega,(((hg.new _).set hg.le _).new _).set (IA hg.le) _,k+1,by simp,by omega,rfl,hinv⟩
   ·have hd:decide ((k:Int)<(l.length:Int))=false:=(by simp;omega);rw[List.drop_eq_nil_of_le (by omega),List.drop_eq_nil_of_le (by omega)]at hinv;simp only[GX]at hinv;replace zz:=Ad g1 g2 g15 g16 gk hll hd;refine wt zz ?_;rw[hinv];exact⟨rfl,hg⟩
theorem jS{l m:List Pr}(hl:l.length<=AF)(hf: ∀ a∈l, ∀ b∈m, ∀ h:A0,A6 prog g [.agg (E0 a),.agg (E0 b)] h λr h'=>r= .sc (.bool (a.same b))/\h'=h)(h:A0):
  A6 prog 71 [.A1 2 (Bd l),.A1 2 (Bd m),.sc (.func (.func g) #[] #[])] h λr h'=>r= .sc (.bool (Hv l m))/\h'=h:=by
 unfold AF at hl;have hll:=Mm l;have hlm:=Mm m;refine A6.quiet Ty.Ui ?_;refine AD func71 ntmps71 results71 Ty.Ui ?_;cases hne:((l.length:Int) !=m.length)with
 |true=>
  have:Hv l m=false:=W8 (by simp at hne;omega);refine wt (AU hll hlm hne) ?_;rw[this];exact⟨rfl,AH.refl _⟩
 |false=>
  have hlen:l.length=m.length:=by simp at hne;omega
  refine wt (AU hll hlm hne) ?_;refine By (λc S h'=>AH h h'/\S 1= .A1 2 (Bd m)/\S 2= .sc (.func (.func g) #[] #[])/\S 15= .A1 2 (Bd l)/\S 16= qK l.length/\ ∃ k:Nat,S 17= qK k/\k<=l.length/\c=l.length-k/\Hv l m=Hv (l.drop k) (m.drop k)) l.length ?_ ?_
  ·simp only[Ty.w,simprocAttr];exact⟨AH.refl _,0,rfl,by omega,rfl,by simp⟩
  ·rintro c S h' ⟨hg,g1,g2,g15,g16,k,gk,hkl,rfl,hinv⟩;by_cases hlt:k<l.length
   ·have hd:decide ((k:Int)<(l.length:Int))=true:=(by simp;omega);have w7:IntKind.i64.wrap ((k:Int)+1)=k+1:=(by rw[BM (by omega) (by omega)]);obtain⟨a,hx⟩: ∃ a,l[k]? =some a:=⟨_,List.getElem?_eq_getElem hlt⟩;obtain⟨b,hy⟩: ∃ b,m[k]? =some b:=⟨_,List.getElem?_eq_getElem (by omega)⟩;have hc:=hf a (List.mem_of_getElem? hx) b (List.mem_of_getElem? hy);rw[Ca hx,Ca hy]at hinv;simp only[Hv]at hinv;have hr:=RV hx;have hr2:=RV hy;generalize he:a.same b=e at hc hinv;clear he hf;obtain⟨name2,params2⟩:=a;obtain⟨name3,params3⟩:=b;simp only[E0,Fm.cells,Ex.cells,List.cons_append,List.nil_append]at hr hr2 hc;replace zz:=AY g1 g2 g15 g16 gk hll hlm hd hr hr2 w7 @B4;refine wy zz ?_;refine K0 (sq g2) (hc _) (by simp only[Ty.w,simprocAttr,g1,g2,g15,g16,gk];try rfl) ?_;simp only[Ty.w,simprocAttr,Ty.AX];cases e with
    |false=>
     replace zz:=Ad g1 g2 g15 g16 gk w7 yF;refine wy zz ?_;rw[hinv];exact⟨rfl,(((hg.new _).set hg.le _).new _).set (IA hg.le) _⟩
    |true=>
     replace zz:=Ad g1 g2 g15 g16 gk w7 yT;refine wy zz ?_;rw[B7]at hinv;exact⟨l.length-(k+1),by omega,(((hg.new _).set hg.le _).new _).set (IA hg.le) _,k+1,by simp,by omega,rfl,hinv⟩
   ·have hd:decide ((k:Int)<(l.length:Int))=false:=(by simp;omega);rw[List.drop_eq_nil_of_le (by omega),List.drop_eq_nil_of_le (by omega)]at hinv;simp only[Hv]at hinv;replace zz:=Ad g1 g2 g15 g16 gk hll hd;refine wt zz ?_;rw[hinv];exact⟨rfl,hg⟩
theorem jT{l m:List Fu}(hl:l.length<=AF)(hf: ∀ a∈l, ∀ b∈m, ∀ h:A0,A6 prog g [.agg (E1 a),.agg (E1 b)] h λr h'=>r= .sc (.bool (a.same b))/\h'=h)(h:A0):
  A6 prog 72 [.A1 4 (BY l),.A1 4 (BY m),.sc (.func (.func g) #[] #[])] h λr h'=>r= .sc (.bool (Hw l m))/\h'=h:=by
 unfold AF at hl;have hll:=Mn l;have hlm:=Mn m;refine A6.quiet Ty.Uj ?_;refine AD func72 ntmps72 results72 Ty.Uj ?_;cases hne:((l.length:Int) !=m.length)with
 |true=>
  have:Hw l m=false:=W9 (by simp at hne;omega);refine wt (AU hll hlm hne) ?_;rw[this];exact⟨rfl,AH.refl _⟩
 |false=>
  have hlen:l.length=m.length:=by simp at hne;omega
  refine wt (AU hll hlm hne) ?_;refine By (λc S h'=>AH h h'/\S 1= .A1 4 (BY m)/\S 2= .sc (.func (.func g) #[] #[])/\S 15= .A1 4 (BY l)/\S 16= qK l.length/\ ∃ k:Nat,S 17= qK k/\k<=l.length/\c=l.length-k/\Hw l m=Hw (l.drop k) (m.drop k)) l.length ?_ ?_
  ·simp only[Ty.w,simprocAttr];exact⟨AH.refl _,0,rfl,by omega,rfl,by simp⟩
  ·rintro c S h' ⟨hg,g1,g2,g15,g16,k,gk,hkl,rfl,hinv⟩;by_cases hlt:k<l.length
   ·have hd:decide ((k:Int)<(l.length:Int))=true:=(by simp;omega);have w7:IntKind.i64.wrap ((k:Int)+1)=k+1:=(by rw[BM (by omega) (by omega)]);obtain⟨a,hx⟩: ∃ a,l[k]? =some a:=⟨_,List.getElem?_eq_getElem hlt⟩;obtain⟨b,hy⟩: ∃ b,m[k]? =some b:=⟨_,List.getElem?_eq_getElem (by omega)⟩;have hc:=hf a (List.mem_of_getElem? hx) b (List.mem_of_getElem? hy);rw[Ca hx,Ca hy]at hinv;simp only[Hw]at hinv;have hr:=RW hx;have hr2:=RW hy;generalize he:a.same b=e at hc hinv;clear he hf;obtain⟨name2,params2,lo2,hi2⟩:=a;obtain⟨name3,params3,lo3,hi3⟩:=b;simp only[E1,Fm.cells,Ex.cells,List.cons_append,List.nil_append]at hr hr2 hc;replace zz:=AY g1 g2 g15 g16 gk hll hlm hd hr hr2 w7 @B4;refine wy zz ?_;refine K0 (sq g2) (hc _) (by simp only[Ty.w,simprocAttr,g1,g2,g15,g16,gk];try rfl) ?_;simp only[Ty.w,simprocAttr,Ty.AX];cases e with
    |false=>
     replace zz:=Ad g1 g2 g15 g16 gk w7 yF;refine wy zz ?_;rw[hinv];exact⟨rfl,(((hg.new _).set hg.le _).new _).set (IA hg.le) _⟩
    |true=>
     replace zz:=Ad g1 g2 g15 g16 gk w7 yT;refine wy zz ?_;rw[B7]at hinv;exact⟨l.length-(k+1),by omega,(((hg.new _).set hg.le _).new _).set (IA hg.le) _,k+1,by simp,by omega,rfl,hinv⟩
   ·have hd:decide ((k:Int)<(l.length:Int))=false:=(by simp;omega);rw[List.drop_eq_nil_of_le (by omega),List.drop_eq_nil_of_le (by omega)]at hinv;simp only[Hw]at hinv;replace zz:=Ad g1 g2 g15 g16 gk hll hd;refine wt zz ?_;rw[hinv];exact⟨rfl,hg⟩
theorem jU{l m:List Ac}(hl:l.length<=AF)(hf: ∀ a∈l, ∀ b∈m, ∀ h:A0,A6 prog g [.agg (DF a),.agg (DF b)] h λr h'=>r= .sc (.bool (a.same b))/\h'=h)(h:A0):
  A6 prog 73 [.A1 10 (BV l),.A1 10 (BV m),.sc (.func (.func g) #[] #[])] h λr h'=>r= .sc (.bool (Hx l m))/\h'=h:=by
 unfold AF at hl;have hll:=Ln l;have hlm:=Ln m;refine A6.quiet Ty.Ul ?_;refine AD func73 ntmps73 results73 Ty.Ul ?_;cases hne:((l.length:Int) !=m.length)with
 |true=>
  have:Hx l m=false:=WA (by simp at hne;omega);refine wt (AU hll hlm hne) ?_;rw[this];exact⟨rfl,AH.refl _⟩
 |false=>
  have hlen:l.length=m.length:=by simp at hne;omega
  refine wt (AU hll hlm hne) ?_;refine By (λc S h'=>AH h h'/\S 1= .A1 10 (BV m)/\S 2= .sc (.func (.func g) #[] #[])/\S 15= .A1 10 (BV l)/\S 16= qK l.length/\ ∃ k:Nat,S 17= qK k/\k<=l.length/\c=l.length-k/\Hx l m=Hx (l.drop k) (m.drop k)) l.length ?_ ?_
  ·simp only[Ty.w,simprocAttr];exact⟨AH.refl _,0,rfl,by omega,rfl,by simp⟩
  ·rintro c S h' ⟨hg,g1,g2,g15,g16,k,gk,hkl,rfl,hinv⟩;by_cases hlt:k<l.length
   ·have hd:decide ((k:Int)<(l.length:Int))=true:=(by simp;omega);have w7:IntKind.i64.wrap ((k:Int)+1)=k+1:=(by rw[BM (by omega) (by omega)]);obtain⟨a,hx⟩: ∃ a,l[k]? =some a:=⟨_,List.getElem?_eq_getElem hlt⟩;obtain⟨b,hy⟩: ∃ b,m[k]? =some b:=⟨_,List.getElem?_eq_getElem (by omega)⟩;have hc:=hf a (List.mem_of_getElem? hx) b (List.mem_of_getElem? hy);rw[Ca hx,Ca hy]at hinv;simp only[Hx]at hinv;have hr:=Nt hx;have hr2:=Nt hy;generalize he:a.same b=e at hc hinv;clear he hf;obtain⟨name2,params2,cost2,⟨fopp2,fnap2,farp2,fpap2,fexp2,fkip2⟩,changes2⟩:=a;obtain⟨name3,params3,cost3,⟨fopp3,fnap3,farp3,fpap3,fexp3,fkip3⟩,changes3⟩:=b;simp only[DF,Fm.cells,Ex.cells,List.cons_append,List.nil_append]at hr hr2 hc;replace zz:=AY g1 g2 g15 g16 gk hll hlm hd hr hr2 w7 @B4;refine wy zz ?_;refine K0 (sq g2) (hc _) (by simp only[Ty.w,simprocAttr,g1,g2,g15,g16,gk];try rfl) ?_;simp only[Ty.w,simprocAttr,Ty.AX];cases e with
    |false=>
     replace zz:=Ad g1 g2 g15 g16 gk w7 yF;refine wy zz ?_;rw[hinv];exact⟨rfl,(((hg.new _).set hg.le _).new _).set (IA hg.le) _⟩
    |true=>
     replace zz:=Ad g1 g2 g15 g16 gk w7 yT;refine wy zz ?_;rw[B7]at hinv;exact⟨l.length-(k+1),by omega,(((hg.new _).set hg.le _).new _).set (IA hg.le) _,k+1,by simp,by omega,rfl,hinv⟩
   ·have hd:decide ((k:Int)<(l.length:Int))=false:=(by simp;omega);rw[List.drop_eq_nil_of_le (by omega),List.drop_eq_nil_of_le (by omega)]at hinv;simp only[Hx]at hinv;replace zz:=Ad g1 g2 g15 g16 gk hll hd;refine wt zz ?_;rw[hinv];exact⟨rfl,hg⟩
theorem jV{l m:List Du}(hl:l.length<=AF)(hf: ∀ a∈l, ∀ b∈m, ∀ h:A0,A6 prog g [.agg (DG a),.agg (DG b)] h λr h'=>r= .sc (.bool (a.same b))/\h'=h)(h:A0):
  A6 prog 75 [.A1 23 (BW l),.A1 23 (BW m),.sc (.func (.func g) #[] #[])] h λr h'=>r= .sc (.bool (Hy l m))/\h'=h:=by
 unfold AF at hl;have hll:=Lo l;have hlm:=Lo m;refine A6.quiet Ty.Um ?_;refine AD func75 ntmps75 results75 Ty.Um ?_;cases hne:((l.length:Int) !=m.length)with
 |true=>
  have:Hy l m=false:=WB (by simp at hne;omega);refine wt (AU hll hlm hne) ?_;rw[this];exact⟨rfl,AH.refl _⟩
 |false=>
  have hlen:l.length=m.length:=by simp at hne;omega
  refine wt (AU hll hlm hne) ?_;refine By (λc S h'=>AH h h'/\S 1= .A1 23 (BW m)/\S 2= .sc (.func (.func g) #[] #[])/\S 15= .A1 23 (BW l)/\S 16= qK l.length/\ ∃ k:Nat,S 17= qK k/\k<=l.length/\c=l.length-k/\Hy l m=Hy (l.drop k) (m.drop k)) l.length ?_ ?_
  ·simp only[Ty.w,simprocAttr];exact⟨AH.refl _,0,rfl,by omega,rfl,by simp⟩
  ·rintro c S h' ⟨hg,g1,g2,g15,g16,k,gk,hkl,rfl,hinv⟩;by_cases hlt:k<l.length
   ·have hd:decide ((k:Int)<(l.length:Int))=true:=(by simp;omega);have w7:IntKind.i64.wrap ((k:Int)+1)=k+1:=(by rw[BM (by omega) (by omega)]);obtain⟨a,hx⟩: ∃ a,l[k]? =some a:=⟨_,List.getElem?_eq_getElem hlt⟩;obtain⟨b,hy⟩: ∃ b,m[k]? =some b:=⟨_,List.getElem?_eq_getElem (by omega)⟩;have hc:=hf a (List.mem_of_getElem? hx) b (List.mem_of_getElem? hy);rw[Ca hx,Ca hy]at hinv;simp only[Hy]at hinv;have hr:=Nu hx;have hr2:=Nu hy;generalize he:a.same b=e at hc hinv;clear he hf;obtain⟨name2,params2,dur2,⟨fops2,fnas2,fars2,fpas2,fexs2,fkis2⟩,⟨fopo2,fnao2,faro2,fpao2,fexo2,fkio2⟩,⟨fope2,fnae2,fare2,fpae2,fexe2,fkie2⟩,atStart2,atStop2⟩:=a;obtain⟨name3,params3,dur3,⟨fops3,fnas3,fars3,fpas3,fexs3,fkis3⟩,⟨fopo3,fnao3,faro3,fpao3,fexo3,fkio3⟩,⟨fope3,fnae3,fare3,fpae3,fexe3,fkie3⟩,atStart3,atStop3⟩:=b;simp only[DG,Fm.cells,Ex.cells,List.cons_append,List.nil_append]at hr hr2 hc;replace zz:=AY g1 g2 g15 g16 gk hll hlm hd hr hr2 w7 @B4;refine wy zz ?_;refine K0 (sq g2) (hc _) (by simp only[Ty.w,simprocAttr,g1,g2,g15,g16,gk];try rfl) ?_;simp only[Ty.w,simprocAttr,Ty.AX];cases e with
    |false=>
     replace zz:=Ad g1 g2 g15 g16 gk w7 yF;refine wy zz ?_;rw[hinv];exact⟨rfl,(((hg.new _).set hg.le _).new _).set (IA hg.le) _⟩
    |true=>
     replace zz:=Ad g1 g2 g15 g16 gk w7 yT;refine wy zz ?_;rw[B7]at hinv;exact⟨l.length-(k+1),by omega,(((hg.new _).set hg.le _).new _).set (IA hg.le) _,k+1,by simp,by omega,rfl,hinv⟩
   ·have hd:decide ((k:Int)<(l.length:Int))=false:=(by simp;omega);rw[List.drop_eq_nil_of_le (by omega),List.drop_eq_nil_of_le (by omega)]at hinv;simp only[Hy]at hinv;replace zz:=Ad g1 g2 g15 g16 gk hll hd;refine wt zz ?_;rw[hinv];exact⟨rfl,hg⟩
theorem jW{a b:Pr}(ha:a.ok)(hb:b.ok)(h:A0):A6 prog 68 [.agg (E0 a),.agg (E0 b)] h λr h'=>r= .sc (.bool (a.same b))/\h'=h:=by
 have c_params:=λh:A0=>K4 (h:=h) (l:=a.params) (m:=b.params) ha.params.1 hb.params.1;unfold Pr.same;generalize Dq a.params b.params=v_params at c_params⊢
 clear ha hb;obtain⟨name,params⟩:=a;obtain⟨name3,params3⟩:=b;simp only[E0,Fm.cells,Ex.cells,List.cons_append,List.nil_append,A2]at c_params⊢;refine AD func68 ntmps68 results68 Ty.gb ?_;cases e0:(name.data.toList==name3.data.toList)with
 |false=>
  refine wm e0 ?_;try exact zI
  all_goals first|rfl|(simp only[e0,B5,BA,B7,Cm];done)
 |true=>
  refine wt e0 ?_;refine uU e0 (c_params _) ?_;refine wm e0 ?_;try exact zI
  all_goals first|rfl|(simp only[e0,B5,BA,B7,Cm];done)
theorem jX{a b:Fu}(ha:a.ok)(hb:b.ok)(h:A0):A6 prog 70 [.agg (E1 a),.agg (E1 b)] h λr h'=>r= .sc (.bool (a.same b))/\h'=h:=by
 have c_params:=λh:A0=>K4 (h:=h) (l:=a.params) (m:=b.params) ha.params.1 hb.params.1;unfold Fu.same;generalize Dq a.params b.params=v_params at c_params⊢
 clear ha hb;obtain⟨name,params,lo,hi⟩:=a;obtain⟨name3,params3,lo3,hi3⟩:=b;simp only[E1,Fm.cells,Ex.cells,List.cons_append,List.nil_append,A2]at c_params⊢;refine AD func70 ntmps70 results70 Ty.gf ?_;cases e0:(name.data.toList==name3.data.toList)with
 |false=>
  refine wm e0 ?_;try exact zI
  all_goals first|rfl|(simp only[e0,B5,BA,B7,Cm];done)
 |true=>
  refine wt e0 ?_;cases v_params with
  |false=>
   refine uU e0 (c_params _) ?_;refine wm e0 ?_;try exact zI
   all_goals first|rfl|(simp only[e0,B5,BA,B7,Cm];done)
  |true=>
   cases e1:(lo==lo3)with
   |false=>
    refine uU (uu e0 e1) (c_params _) ?_;refine wm (uu e0 e1) ?_;try exact zI
    all_goals first|rfl|(simp only[e0,e1,B5,BA,B7,Cm];done)
   |true=>
    cases e2:(hi==hi3)with
    |false=>
     refine uU (AU e0 e1 e2) (c_params _) ?_;refine wm (AU e0 e1 e2) ?_;try exact zI
     all_goals first|rfl|(simp only[e0,e1,e2,B5,BA,B7,Cm];done)
    |true=>
     refine uU (AU e0 e1 e2) (c_params _) ?_;refine wm (AU e0 e1 e2) ?_;try exact zI
     all_goals first|rfl|(simp only[e0,e1,e2,B5,BA,B7,Cm];done)
theorem jY{a b:Ac}(ha:a.ok)(hb:b.ok)(h:A0):A6 prog 74 [.agg (DF a),.agg (DF b)] h λr h'=>r= .sc (.bool (a.same b))/\h'=h:=by
 have c_params:=λh:A0=>K4 (h:=h) (l:=a.params) (m:=b.params) ha.params.1 hb.params.1;have c_pre:=Iz a.pre ha.pre b.pre hb.pre;have c_changes:=SN (g:=128) ha.changes.1 (λx hx y hy=>SM (ha.changes.2 x hx) (hb.changes.2 y hy));unfold Ac.same;generalize Dq a.params b.params=v_params at c_params⊢;generalize a.pre.same b.pre=v_pre at c_pre⊢;generalize GX a.changes b.changes=v_changes at c_changes⊢
 clear ha hb;obtain⟨name,params,cost,⟨fopp,fnap,farp,fpap,fexp,fkip⟩,changes⟩:=a;obtain⟨name3,params3,cost3,⟨fopp3,fnap3,farp3,fpap3,fexp3,fkip3⟩,changes3⟩:=b;simp only[DF,Fm.cells,Ex.cells,List.cons_append,List.nil_append,A2]at c_params c_pre c_changes⊢;refine AD func74 ntmps74 results74 Ty.gh ?_;cases e0:(name.data.toList==name3.data.toList)with
 |false=>
  refine wm e0 ?_;try exact zI
  all_goals first|rfl|(simp only[e0,B5,BA,B7,Cm];done)
 |true=>
  refine wt e0 ?_;cases v_params with
  |false=>
   refine uU e0 (c_params _) ?_;refine wm e0 ?_;try exact zI
   all_goals first|rfl|(simp only[e0,B5,BA,B7,Cm];done)
  |true=>
   cases e1:(cost==cost3)with
   |false=>
    refine uU (uu e0 e1) (c_params _) ?_;refine wm (uu e0 e1) ?_;try exact zI
    all_goals first|rfl|(simp only[e0,e1,B5,BA,B7,Cm];done)
   |true=>
    refine uU (uu e0 e1) (c_params _) ?_;refine wt (uu e0 e1) ?_;cases v_pre with
    |false=>
     refine uU (uu e0 e1) (c_pre _) ?_;refine wm (uu e0 e1) ?_;try exact zI
     all_goals first|rfl|(simp only[e0,e1,B5,BA,B7,Cm];done)
    |true=>
     refine uU (uu e0 e1) (c_pre _) ?_;refine wt (uu e0 e1) ?_;refine uU (uu e0 e1) (c_changes _) ?_;refine wm (uu e0 e1) ?_;try exact zI
     all_goals first|rfl|(simp only[e0,e1,B5,BA,B7,Cm];done)
theorem jZ{a b:Du}(ha:a.ok)(hb:b.ok)(h:A0):A6 prog 76 [.agg (DG a),.agg (DG b)] h λr h'=>r= .sc (.bool (a.same b))/\h'=h:=by
 have c_params:=λh:A0=>K4 (h:=h) (l:=a.params) (m:=b.params) ha.params.1 hb.params.1;have c_start:=Iz a.start ha.start b.start hb.start;have c_over:=Iz a.over ha.over b.over hb.over;have c_stop:=Iz a.stop ha.stop b.stop hb.stop;have c_atStart:=SN (g:=128) ha.Bm.1 (λx hx y hy=>SM (ha.Bm.2 x hx) (hb.Bm.2 y hy));have c_atStop:=SN (g:=128) ha.Bn.1 (λx hx y hy=>SM (ha.Bn.2 x hx) (hb.Bn.2 y hy));unfold Du.same;generalize Dq a.params b.params=v_params at c_params⊢;generalize a.start.same b.start=v_start at c_start⊢;generalize a.over.same b.over=v_over at c_over⊢;generalize a.stop.same b.stop=v_stop at c_stop⊢;generalize GX a.Bm b.Bm=v_atStart at c_atStart⊢;generalize GX a.Bn b.Bn=v_atStop at c_atStop⊢
 clear ha hb;obtain⟨name,params,dur,⟨fops,fnas,fars,fpas,fexs,fkis⟩,⟨fopo,fnao,faro,fpao,fexo,fkio⟩,⟨fope,fnae,fare,fpae,fexe,fkie⟩,Bm,Bn⟩:=a;obtain⟨name3,params3,dur3,⟨fops3,fnas3,fars3,fpas3,fexs3,fkis3⟩,⟨fopo3,fnao3,faro3,fpao3,fexo3,fkio3⟩,⟨fope3,fnae3,fare3,fpae3,fexe3,fkie3⟩,atStart3,atStop3⟩:=b;simp only[DG,Fm.cells,Ex.cells,List.cons_append,List.nil_append,A2]at c_params c_start c_over c_stop c_atStart c_atStop⊢;refine AD func76 ntmps76 results76 Ty.gi ?_;cases e0:(name.data.toList==name3.data.toList)with
 |false=>
  refine wm e0 ?_;try exact zI
  all_goals first|rfl|(simp only[e0,B5,BA,B7,Cm];done)
 |true=>
  refine wt e0 ?_;cases v_params with
  |false=>
   refine uU e0 (c_params _) ?_;refine wm e0 ?_;try exact zI
   all_goals first|rfl|(simp only[e0,B5,BA,B7,Cm];done)
  |true=>
   cases e1:(dur==dur3)with
   |false=>
    refine uU (uu e0 e1) (c_params _) ?_;refine wm (uu e0 e1) ?_;try exact zI
    all_goals first|rfl|(simp only[e0,e1,B5,BA,B7,Cm];done)
   |true=>
    refine uU (uu e0 e1) (c_params _) ?_;refine wt (uu e0 e1) ?_;cases v_start with
    |false=>
     refine uU (uu e0 e1) (c_start _) ?_;refine wm (uu e0 e1) ?_;try exact zI
     all_goals first|rfl|(simp only[e0,e1,B5,BA,B7,Cm];done)
    |true=>
     refine uU (uu e0 e1) (c_start _) ?_;refine wt (uu e0 e1) ?_;cases v_over with
     |false=>
      refine uU (uu e0 e1) (c_over _) ?_;refine wm (uu e0 e1) ?_;try exact zI
      all_goals first|rfl|(simp only[e0,e1,B5,BA,B7,Cm];done)
     |true=>
      refine uU (uu e0 e1) (c_over _) ?_;refine wt (uu e0 e1) ?_;cases v_stop with
      |false=>
       refine uU (uu e0 e1) (c_stop _) ?_;refine wm (uu e0 e1) ?_;try exact zI
       all_goals first|rfl|(simp only[e0,e1,B5,BA,B7,Cm];done)
      |true=>
       refine uU (uu e0 e1) (c_stop _) ?_;refine wt (uu e0 e1) ?_;cases v_atStart with
       |false=>
        refine uU (uu e0 e1) (c_atStart _) ?_;refine wm (uu e0 e1) ?_;try exact zI
        all_goals first|rfl|(simp only[e0,e1,B5,BA,B7,Cm];done)
       |true=>
        refine uU (uu e0 e1) (c_atStart _) ?_;refine wt (uu e0 e1) ?_;refine uU (uu e0 e1) (c_atStop _) ?_;refine wm (uu e0 e1) ?_;try exact zI
        all_goals first|rfl|(simp only[e0,e1,B5,BA,B7,Cm];done)
theorem ja(a b:Dm)(ha:a.ok)(hb:b.ok)(h:A0):A6 prog 26 [.agg a.cells,.agg b.cells] h λr h'=>r= .sc (.bool (a.same b))/\h'=h:=by
 have c_types:=λh:A0=>K4 (h:=h) (l:=a.types) (m:=b.types) ha.types.1 hb.types.1;have c_constants:=λh:A0=>K4 (h:=h) (l:=a.constants) (m:=b.constants) ha.constants.1 hb.constants.1;have c_predicates:=jS (g:=68) ha.Ay.1 (λx hx y hy=>jW (ha.Ay.2 x hx) (hb.Ay.2 y hy));have c_functions:=jT (g:=70) ha.Au.1 (λx hx y hy=>jX (ha.Au.2 x hx) (hb.Au.2 y hy));have c_actions:=jU (g:=74) ha.Av.1 (λx hx y hy=>jY (ha.Av.2 x hx) (hb.Av.2 y hy));have c_duratives:=jV (g:=76) ha.B0.1 (λx hx y hy=>jZ (ha.B0.2 x hx) (hb.B0.2 y hy));unfold Dm.same;generalize Dq a.types b.types=v_types at c_types⊢;generalize Dq a.constants b.constants=v_constants at c_constants⊢;generalize Hv a.Ay b.Ay=v_predicates at c_predicates⊢;generalize Hw a.Au b.Au=v_functions at c_functions⊢;generalize Hx a.Av b.Av=v_actions at c_actions⊢;generalize Hy a.B0 b.B0=v_duratives at c_duratives⊢
 clear ha hb;obtain⟨name,types,constants,Ay,Au,Av,B0⟩:=a;obtain⟨name3,types3,constants3,predicates3,functions3,actions3,duratives3⟩:=b;simp only[Dm.cells,A2]at c_types c_constants c_predicates c_functions c_actions c_duratives⊢;refine AD func26 ntmps26 results26 Ty.fy ?_;cases e0:(name.data.toList==name3.data.toList)with
 |false=>
  refine wm e0 ?_;try exact zI
  all_goals first|rfl|(simp only[e0,B5,BA,B7,Cm];done)
 |true=>
  refine wt e0 ?_;cases v_types with
  |false=>
   refine uU e0 (c_types _) ?_;refine wm e0 ?_;try exact zI
   all_goals first|rfl|(simp only[e0,B5,BA,B7,Cm];done)
  |true=>
   refine uU e0 (c_types _) ?_;refine wt e0 ?_;cases v_constants with
   |false=>
    refine uU e0 (c_constants _) ?_;refine wm e0 ?_;try exact zI
    all_goals first|rfl|(simp only[e0,B5,BA,B7,Cm];done)
   |true=>
    refine uU e0 (c_constants _) ?_;refine wt e0 ?_;cases v_predicates with
    |false=>
     refine uU e0 (c_predicates _) ?_;refine wm e0 ?_;try exact zI
     all_goals first|rfl|(simp only[e0,B5,BA,B7,Cm];done)
    |true=>
     refine uU e0 (c_predicates _) ?_;refine wt e0 ?_;cases v_functions with
     |false=>
      refine uU e0 (c_functions _) ?_;refine wm e0 ?_;try exact zI
      all_goals first|rfl|(simp only[e0,B5,BA,B7,Cm];done)
     |true=>
      refine uU e0 (c_functions _) ?_;refine wt e0 ?_;cases v_actions with
      |false=>
       refine uU e0 (c_actions _) ?_;refine wm e0 ?_;try exact zI
       all_goals first|rfl|(simp only[e0,B5,BA,B7,Cm];done)
      |true=>
       refine uU e0 (c_actions _) ?_;refine wt e0 ?_;refine uU e0 (c_duratives _) ?_;refine wm e0 ?_;try exact zI
       all_goals first|rfl|(simp only[e0,B5,BA,B7,Cm];done)
end Go.Proofs.YtblgchkahpgdjaaGreat
namespace Go.Proofs.YtblgchkahpgdjaaGreat
open Go.AM Go.Proofs.Tryz
set_option maxHeartbeats 4000000
set_option maxRecDepth 20000
def Ve:List Sx->List Ex × Int
 |[a,b]=>(match Bg a with
  | (ea, ca) => bif ca == 0 then (match Bg b with
   |(eb,cb)=>bif cb==0 then([ea,eb],0)else([],cb))else([],ca))
 |_=>([],2)
end Go.Proofs.YtblgchkahpgdjaaGreat
namespace Go.Proofs.YtblgchkahpgdjaaGreat
open Go.AM Go.Proofs.Tryz
set_option maxHeartbeats 4000000
set_option maxRecDepth 20000
theorem WJ{x:Sx}(h:x.ok):(Af x).size<=AF:=by
 obtain⟨_,_,_,_,t,_⟩:=x;simp only[Sx.ok]at h;exact h.2.2.1
theorem C6(n:Nat)(l:List Pm):B9 n (A8 l):=by
 induction l with
 |nil=>simp only[A8,List.map_nil,B9]
 |cons a l ih=>simp only[A8,List.map_cons,B9,Ir,Bo,Bc,Do,Fk]at ih⊢;exact ih
theorem EE(n:Nat): ∀ l:List Ex,B9 n (Ex.rows l)
 |[]=>by simp only[Ex.rows,B9]
 |k::ks=>by simp only[Ex.rows,B9];exact⟨Q1 n k,EE n ks⟩
theorem WK(n:Nat): ∀ f:Fm,Bo n f.cells:=by
 refine Fm.ind ?_;intro op name args params exprs kids ih;have:B9 n (Fm.rows kids):=by
  clear op name args params exprs
  induction kids with
  |nil=>simp only[Fm.rows,B9]
  |cons k ks ih2=>
   simp only[Fm.rows,B9];exact⟨ih k (by simp),ih2 λq hq=>ih q (by simp[hq])⟩
 simp only[Fm.cells,Bo,Bc,Do,Fk];exact⟨Df n args,C6 n params,EE n exprs,this⟩
theorem El(n:Nat): ∀ l:List Fm,B9 n (Fm.rows l)
 |[]=>by simp only[Fm.rows,B9]
 |k::ks=>by simp only[Fm.rows,B9];exact⟨WK n k,El n ks⟩
theorem SO(n:Nat)(h:A0)(f:Fm):AN n h f.cells f.cells:=by
 have hi:=WK n f;obtain⟨op,name,args,params,exprs,kids⟩:=f;simp only[Fm.cells,Bo,Bc,Do,Fk]at hi;simp only[Fm.cells,AN,AI,Do,Fk];exact⟨.inl hi.1,.inl hi.2.1,.inl hi.2.2.1,.inl hi.2.2.2⟩
theorem SP(n:Nat)(h:A0): ∀ l:List Fm,DE n h (Fm.rows l) (Fm.rows l)
 |[]=>by simp only[Fm.rows,DE]
 |k::ks=>by simp only[Fm.rows,DE];exact⟨SO n h k,SP n h ks⟩
theorem WL{h:A0}{id0 n:Nat}{p:PV}{l:List Fm}(hn:n<=id0)(t:Tl h id0 6 p (Fm.rows l)):AI n h (.A1 6 (Fm.rows l)) p:=by
 simp only[AI];rcases t with⟨h1,h2⟩|⟨id,h1,h2,rfl,ho⟩
 ·exact .inr (.inl ⟨h1,h2.symm⟩)
 ·refine .inr (.inr ⟨id,0,_,_,rfl,by omega,ho,by omega,?_⟩);rw[List.drop_zero,List.take_of_length_le (by omega)];exact SP _ _ _
theorem jb: ∀ l:List Sx,((DN l).2==0)=false->(DN l).1=[]
 |[],h=>by simp[DN]at h
 |x::l,h=>by
  simp only[DN]at h⊢;cases hq:(Co x).2==0 with
  |false=>simp only[AJ]
  |true=>
   rw[hq]at h;simp only[AB]at h⊢;cases hr:(DN l).2==0 with
   |false=>simp only[AJ]
   |true=>rw[hr]at h;simp at h
theorem WM{l:List Sx}(hl:l.length<=1048576)(hf: ∀ x∈l, ∀ h:A0,A6 prog 169 [.agg x.cells] h λr h'=>r= .Al [.agg (Co x).1.cells,AQ (Co x).2]/\h'=h)(h:A0):
  A6 prog 182 [.A1 6 (Sx.rows l)] h λr h'=>r= .Al [.A1 6 (Fm.rows (DN l).1),AQ (DN l).2]/\h'=h:=by
 refine A6.CD Ty.VB ?_;have hll:=Sx.B3 l;refine AD func182 ntmps182 results182 Ty.VB ?_;refine wt hll ?_;refine By (λm S h'=>S 9= .A1 6 (Sx.rows l)/\S 10= qK l.length/\ ∃ (k:Nat)(o:PV)(pre:List Fm),S 11= qK k/\S 4=o/\k<=l.length/\m=l.length-k/\AH h h'/\pre.length=k/\Tl h' h.next 6 o (Fm.rows pre)/\
  DN l=(bif (DN (l.drop k)).2==0 then(pre++(DN (l.drop k)).1,0)else([],(DN (l.drop k)).2))) l.length ?_ ?_
 ·simp only[Ty.w,simprocAttr];refine⟨0,_,[],rfl,rfl,by omega,rfl,AH.refl _,rfl,Tl.nil,?_⟩;rw[List.drop_zero];cases hq:(DN l).2==0
  ·simp only[AJ];rw[← jb l hq]
  ·have h0:(DN l).2=0:=(by simpa using hq);simp only[AB,List.nil_append];rw[← h0]
 ·rintro m S h' ⟨g9,g10,k,o,pre,g11,g4,hk,rfl,hg,hpl,tl,hinv⟩;by_cases hlt:k<l.length
  ·have hd:decide ((k:Int)<(l.length:Int))=true:=(by simp;omega);have w7:IntKind.i64.wrap ((k:Int)+1)=k+1:=(by rw[BM (by omega) (by omega)]);obtain⟨x,hx⟩: ∃ x,l[k]? =some x:=⟨_,List.getElem?_eq_getElem hlt⟩;have hr:=Sx.CG hx;have hc:=hf x (List.mem_of_getElem? hx);rw[Ca hx]at hinv;simp only[DN]at hinv;generalize hE:Co x=E at hc hinv;obtain⟨f,c⟩:=E;simp only at hc hinv;clear hE hf;obtain⟨ki,va,li,co,te,ks⟩:=x;simp only[Sx.cells]at hr hc;have n3:(h'.next=h'.next+1)=False:=(by simp);cases hcc:c==0 with
   |false=>
    rw[hcc]at hinv;simp only[AJ]at hinv;have e0:AQ c=An c:=(by simp only[AQ,hcc,AJ]);rw[e0]at hc;simp only[An]at hc;have hq:DN l=([],c):=(by rw[hinv];simp only[hcc,AJ]);rw[hq];obtain⟨fop,fna,far,fpa,fex,fki⟩:=f;simp only[Fm.cells]at hc;replace zz:=Ah g9 g10 g11 g4 hd hr;refine wt zz ?_;replace zz:=Ah g9 g10 g11 g4 hd hr;refine uU zz (hc _) ?_;replace zz:=BJ g9 g10 g11 g4 hd hr n3 @B4;refine wt zz ?_;rw[e0];refine⟨?_,(((hg.new _).set hg.le _).new _).set (show h.next<=h'.next+1 by have:=hg.le;omega) _⟩;simp only[An,Fm.rows,AI,AN];exact⟨_,rfl,.inr (.inl ⟨rfl,.inr rfl⟩),rfl,trivial⟩
   |true=>
    have e0:AQ c= .sc .nilIface:=(by simp only[AQ,hcc,AB]);rw[e0]at hc;have hto:=S8 tl;have hrows:Fm.rows (pre++[f])=Fm.rows pre++[f.cells]:=(by simp only[Fm.rows_map,List.map_append,List.map_cons,List.map_nil]);obtain⟨fop,fna,far,fpa,fex,fki⟩:=f;simp only[Fm.cells]at hc hrows;generalize hH2:((((h'.new (.arr 6 [[qK 0,qK 0,qK 0,qK 0,.sc (.string ⟨#[]⟩),.sc (.slice none 0 0)]])).set h'.next (.arr 6 [[qK ki,qK va,qK li,qK co,A3 te,.A1 6 (Sx.rows ks)]])).new (.arr 6 [[.sc (.string ⟨#[]⟩),.sc (.string ⟨#[]⟩),.sc (.slice none 0 0),.sc (.slice none 0 0),.sc (.slice none 0 0),.sc (.slice none 0 0)]])).set (h'.next+1) (.arr 6 [[A3 fop,A3 fna,.A1 1 (AL far),.A1 2 (A8 fpa),.A1 5 (Ex.rows fex),.A1 6 (Fm.rows fki)]]))=H2;have hnn:H2.next=h'.next+1+1:=by rw[← hH2];simp[A0.new,A0.set]
    have hold: ∀ j,j<h'.next->H2.obj j=h'.obj j:=λj hj=>by
     have a1:¬ j=h'.next:=by omega
     have a2:¬ j=h'.next+1:=by omega
     rw[← hH2];simp only[A0.new,A0.set,a1,a2,AP]
    have tl2:=tl.up (h':=H2) (by omega) (λj _ hj=>hold j hj);have hg2:AH h H2:=(by rw[← hH2];exact(((hg.new _).set hg.le _).new _).set (show h.next<=h'.next+1 by have:=hg.le;omega) _);obtain⟨H,t1,t2,t3,t4,t5⟩:=tl2.tail;have hkp:=t5 h ⟨hg2.le,hg2.B1⟩ (AG _);have hgH:AH h H:=⟨hkp.1,hkp.2⟩;have hpr:(Fm.rows pre).length=k:=(by rw[Fm.B3];exact hpl);have hb:(k+1)*128<=140737488355328:=(by omega);have hob:H2.obj (h'.next+1)=some (.arr 6 [[A3 fop,A3 fna,.A1 1 (AL far),.A1 2 (A8 fpa),.A1 5 (Ex.rows fex),.A1 6 (Fm.rows fki)]]):=(by rw[← hH2];simp[A0.set]);replace zz:=Ah g9 g10 g11 g4 hd hr;refine wt zz ?_;replace zz:=Ah g9 g10 g11 g4 hd hr;refine uU zz (hc _) ?_;replace zz:=AY g9 g10 g11 g4 n3 @B4 hH2 hob t1 t2 hpr (uu hb w7);(repeat'(first|refine cK ?_|refine nK ?_|refine Ai λK hK=>?_|refine uR zz ?_|refine uQ zz λK hK=>?_|refine uK ?_|refine C3 zz ?_|(refine uN hK ?_;clear hK)|(rw[AK];rotate_left 1;omega;simp only[Ty.w,simprocAttr,g9,g10,g11,g4,n3,B4,hH2,hob,t1,t2,hpr,hb,w7])|apply zI));rw[← hrows];have hgr:=Tl.grow (H:=H) (id0:=h.next) (z:=6) (len:=k+1) (rows:=Fm.rows (pre++[Fm.mk fop fna far fpa fex fki])) hkp.1 (by rw[Fm.B3];simp[hpl]);refine⟨l.length-(k+1),by omega,k+1,.own H.next 0 (k+1),pre++[Fm.mk fop fna far fpa fex fki],by simp,by rw[t3,hnn],by omega,rfl,hgH.new _,by simp[hpl],hgr,?_⟩;rw[hinv,hcc];simp only[AB];cases hq:(DN (List.drop (k+1) l)).2==0 with
    |false=>simp only[hq,AJ]
    |true=>simp only[AB,DC,List.append_assoc,List.cons_append,List.nil_append]
  ·have hd:decide ((k:Int)<(l.length:Int))=false:=(by simp;omega);rw[List.drop_eq_nil_of_le (by omega)]at hinv;have hq:DN l=(pre,0):=(by rw[hinv];simp[DN]);replace zz:=Ae g9 g10 g11 g4 hd;refine wt zz ?_;have e2:AQ 0= .sc .nilIface:=rfl;rw[hq];simp only[e2];refine⟨?_,hg⟩;have h1:=WL (AG _) tl;unfold AI;refine⟨_,rfl,?_⟩;unfold AN;refine⟨h1,?_⟩;unfold AN;exact⟨by simp only[AI],by simp only[AN]⟩
end Go.Proofs.YtblgchkahpgdjaaGreat
namespace Go.Proofs.YtblgchkahpgdjaaGreat
open Go.AM Go.Proofs.Tryz
set_option maxHeartbeats 4000000
set_option maxRecDepth 20000
theorem jc{w:ByteArray}{x y:Sx}(hx:x.ok)(hy:y.ok)
  (cx: ∀ h:A0,A6 prog 168 [.agg x.cells] h λr h'=>r= .Al [.agg (Bg x).1.cells,AQ (Bg x).2]/\h'=h)
  (cy: ∀ h:A0,A6 prog 168 [.agg y.cells] h λr h'=>r= .Al [.agg (Bg y).1.cells,AQ (Bg y).2]/\h'=h)(h:A0):
  A6 prog 183 [A3 w,.agg x.cells,.agg y.cells] h λr h'=>r= .Al [.agg (Hr w x y).1.cells,AQ (Hr w x y).2]/\h'=h:=by
 refine A6.CD Ty.VC ?_;have ht:=λh:A0=>S2 (l:=[x,y]) (by simp) (by simp[hx,hy]) h;generalize hF:Hr w x y=F;unfold Hr at hF;have hti:=Df;generalize CM [x,y]=T at ht hF;obtain⟨t,c⟩:=T;have hi1:=Q1;generalize Bg x=X at cx hF;obtain⟨ex,c1⟩:=X;generalize Bg y=Y at cy hF;obtain⟨ey,c2⟩:=Y;obtain⟨kx,vx,lx,ox,tx,sx⟩:=x;obtain⟨ky,vy,ly,oy,ty,sy⟩:=y;obtain⟨F5,ana,an,aar,aki⟩:=ex;obtain⟨bop,bna,bn,bar,bki⟩:=ey;simp only[Az]at hF;simp only[Sx.rows,Sx.cells,Ex.cells]at ht cx cy⊢;have hgr: ∀ r,AH h ((h.new (.arr 6 [[.sc (.string ⟨#[]⟩),.sc (.string ⟨#[]⟩),.sc (.slice none 0 0),.sc (.slice none 0 0),.sc (.slice none 0 0),.sc (.slice none 0 0)]])).set h.next r):=λr=>((AH.refl h).new _).set (AG _) _;refine AD func183 ntmps183 results183 Ty.VC ?_;refine xH 1 A4 ?_;refine⟨?_⟩;refine D0 (λS h'=>S 0=A3 w/\S 4= .Aj (Sx.mk kx vx lx ox tx sx).cells/\S 5= .Aj (Sx.mk ky vy ly oy ty sy).cells/\S 6= .ptr h.next 0 0/\h'=h.new (.arr 6 [[.sc (.string ⟨#[]⟩),.sc (.string ⟨#[]⟩),.sc (.slice none 0 0),.sc (.slice none 0 0),.sc (.slice none 0 0),.sc (.slice none 0 0)]])/\(A2 w Cb&&kx==1&&ky==1)=false) ?_ ?_
 ·clear cx cy;simp only[Sx.cells];cases q1:(w.data.toList==(#[61]:Array UInt8).toList)with
  |false=>
   have q1':A2 w Cb=false:=q1;refine wm q1 ?_;try exact zI
   all_goals first|rfl|(simp only[Ty.w,simprocAttr,q1',B5];done)
  |true=>
   have q1':A2 w Cb=true:=q1;cases q2:(kx==1)with
   |false=>
    refine wm (uu q1 q2) ?_;try exact zI
    all_goals first|rfl|(simp only[Ty.w,simprocAttr,q1',q2,B5,B7];done)
   |true=>
    cases q3:(ky==1)with
    |false=>
     refine wm (AU q1 q2 q3) ?_;try exact zI
     all_goals first|rfl|(simp only[Ty.w,simprocAttr,q1',q2,q3,B7];done)
    |true=>
     rw[q1',q2,q3]at hF;simp only[Cm,AB]at hF;subst hF;cases hc:c==0 with
     |true=>
      have e0:AQ c= .sc .nilIface:=(by simp only[AQ,hc,AB]);rw[e0]at ht⊢;refine wt (AU q1 q2 q3) ?_;refine uU (AU q1 q2 q3) (ht _) ?_;refine wt A4 ?_;refine⟨?_,hgr _⟩;simp only[CI,Fm.cells,Ex.rows,Fm.rows,A8,List.map_nil,AI,AN];exact⟨_,rfl,⟨_,rfl,rfl,rfl,.inl ⟨rfl,hti _ _⟩,.inr (.inl ⟨rfl,.inr rfl⟩),.inr (.inl ⟨rfl,.inr rfl⟩),.inr (.inl ⟨rfl,.inr rfl⟩),trivial⟩,rfl,trivial⟩
     |false=>
      have e0:AQ c=An c:=(by simp only[AQ,hc,AJ]);rw[e0]at ht⊢;simp only[An]at ht⊢;refine wt (AU q1 q2 q3) ?_;refine uU (AU q1 q2 q3) (ht _) ?_;refine wt A4 ?_;refine⟨?_,hgr _⟩;simp only[CI,Fm.cells,Ex.rows,Fm.rows,A8,List.map_nil,AI,AN];exact⟨_,rfl,⟨_,rfl,rfl,rfl,.inl ⟨rfl,hti _ _⟩,.inr (.inl ⟨rfl,.inr rfl⟩),.inr (.inl ⟨rfl,.inr rfl⟩),.inr (.inl ⟨rfl,.inr rfl⟩),trivial⟩,rfl,trivial⟩
 ·rintro S h' ⟨g0,g4,g5,g6,rfl,hq⟩;rw[hq]at hF
  clear ht hq;simp only[AJ]at hF;simp only[Sx.cells]at g4 g5;have n1:(h.next=h.next+1)=False:=by simp
  have n2:(h.next=h.next+1+1)=False:=by simp;omega
  have n3:(h.next+1=h.next+1+1)=False:=by simp
  have hgr2: ∀ o1 o2 r,AH h ((((h.new (.arr 6 [[.sc (.string ⟨#[]⟩),.sc (.string ⟨#[]⟩),.sc (.slice none 0 0),.sc (.slice none 0 0),.sc (.slice none 0 0),.sc (.slice none 0 0)]])).new o1).set (h.next+1) o2).set h.next r):=λo1 o2 r=>((((AH.refl h).new _).new _).set (Oz _) _).set (AG _) _;have hgr3: ∀ o1 o2 o3 o4 r,AH h ((((((h.new (.arr 6 [[.sc (.string ⟨#[]⟩),.sc (.string ⟨#[]⟩),.sc (.slice none 0 0),.sc (.slice none 0 0),.sc (.slice none 0 0),.sc (.slice none 0 0)]])).new o1).set (h.next+1) o2).new o3).set (h.next+1+1) o4).set h.next r):=λo1 o2 o3 o4 r=>((((((AH.refl h).new _).new _).set (Oz _) _).new _).set (by omega) _).set (AG _) _;cases hc1:c1==0 with
  |false=>
   rw[hc1]at hF;simp only[AJ]at hF;subst hF;have e0:AQ c1=An c1:=(by simp only[AQ,hc1,AJ]);rw[e0]at cx⊢;simp only[An]at cx⊢;replace zz:=AW g0 g4 g5 g6;refine wt zz ?_;replace zz:=AW g0 g4 g5 g6;refine uU zz (cx _) ?_;replace zz:=Ah g0 g4 g5 g6 n1 @B4;refine wt zz ?_;refine⟨?_,hgr2 _ _ _⟩;simp only[Cn,Fm.cells,Ex.rows,Fm.rows,A8,AL,List.map_nil,AI,AN];exact⟨_,rfl,⟨_,rfl,rfl,rfl,.inr (.inl ⟨rfl,.inr rfl⟩),.inr (.inl ⟨rfl,.inr rfl⟩),.inr (.inl ⟨rfl,.inr rfl⟩),.inr (.inl ⟨rfl,.inr rfl⟩),trivial⟩,rfl,trivial⟩
  |true=>
   rw[hc1]at hF;simp only[AB]at hF;have e0:AQ c1= .sc .nilIface:=(by simp only[AQ,hc1,AB]);rw[e0]at cx;cases hc2:c2==0 with
   |false=>
    rw[hc2]at hF;simp only[AJ]at hF;subst hF;have e1:AQ c2=An c2:=(by simp only[AQ,hc2,AJ]);rw[e1]at cy⊢;simp only[An]at cy⊢;replace zz:=AW g0 g4 g5 g6;refine wt zz ?_;replace zz:=AW g0 g4 g5 g6;refine uU zz (cx _) ?_;replace zz:=Ah g0 g4 g5 g6 n1 @B4;refine wt zz ?_;replace zz:=AW g0 g4 g5 g6;refine uU zz (cy _) ?_;replace zz:=BJ g0 g4 g5 g6 n1 n2 n3 @B4;refine wt zz ?_;refine⟨?_,hgr3 _ _ _ _ _⟩;simp only[Cn,Fm.cells,Ex.rows,Fm.rows,A8,AL,List.map_nil,AI,AN];exact⟨_,rfl,⟨_,rfl,rfl,rfl,.inr (.inl ⟨rfl,.inr rfl⟩),.inr (.inl ⟨rfl,.inr rfl⟩),.inr (.inl ⟨rfl,.inr rfl⟩),.inr (.inl ⟨rfl,.inr rfl⟩),trivial⟩,rfl,trivial⟩
   |true=>
    rw[hc2]at hF;simp only[AB]at hF;have e1:AQ c2= .sc .nilIface:=(by simp only[AQ,hc2,AB]);rw[e1]at cy;have e2:AQ 0= .sc .nilIface:=rfl;cases p1:(w.data.toList==(#[62]:Array UInt8).toList)with
    |true=>
     rw[AK (show A2 w Ix=true from p1)]at hF;subst hF;replace zz:=AW g0 g4 g5 g6;refine wt zz ?_;replace zz:=AW g0 g4 g5 g6;refine uU zz (cx _) ?_;replace zz:=Ah g0 g4 g5 g6 n1 @B4;refine wt zz ?_;replace zz:=AW g0 g4 g5 g6;refine uU zz (cy _) ?_;replace zz:=BF g0 g4 g5 g6 n1 n2 n3 @B4 p1;refine wt zz ?_;refine⟨?_,hgr3 _ _ _ _ _⟩;simp only[e2,DH,Fm.cells,Ex.cells,Ex.rows,Fm.rows,A8,AL,List.map_nil,AI,AN];exact⟨_,rfl,⟨_,rfl,rfl,rfl,.inr (.inl ⟨rfl,.inr rfl⟩),.inr (.inl ⟨rfl,.inr rfl⟩),.inl ⟨rfl,EE _ [.mk bop bna bn bar bki,.mk F5 ana an aar aki]⟩,.inr (.inl ⟨rfl,.inr rfl⟩),trivial⟩,rfl,trivial⟩
    |false=>
     rw[A7 (show ¬ A2 w Ix=true by rw[show A2 w Ix=false from p1];simp)]at hF;cases p2:(w.data.toList==(#[62,61]:Array UInt8).toList)with
     |true=>
      rw[AK (show A2 w JN=true from p2)]at hF;subst hF;replace zz:=AW g0 g4 g5 g6;refine wt zz ?_;replace zz:=AW g0 g4 g5 g6;refine uU zz (cx _) ?_;replace zz:=Ah g0 g4 g5 g6 n1 @B4;refine wt zz ?_;replace zz:=AW g0 g4 g5 g6;refine uU zz (cy _) ?_;replace zz:=B6 g0 g4 g5 g6 n1 n2 n3 @B4 p1 p2;refine wt zz ?_;refine⟨?_,hgr3 _ _ _ _ _⟩;simp only[e2,De,Fm.cells,Ex.cells,Ex.rows,Fm.rows,A8,AL,List.map_nil,AI,AN];exact⟨_,rfl,⟨_,rfl,rfl,rfl,.inr (.inl ⟨rfl,.inr rfl⟩),.inr (.inl ⟨rfl,.inr rfl⟩),.inl ⟨rfl,EE _ [.mk bop bna bn bar bki,.mk F5 ana an aar aki]⟩,.inr (.inl ⟨rfl,.inr rfl⟩),trivial⟩,rfl,trivial⟩
     |false=>
      rw[A7 (show ¬ A2 w JN=true by rw[show A2 w JN=false from p2];simp)]at hF;subst hF;replace zz:=AW g0 g4 g5 g6;refine wt zz ?_;replace zz:=AW g0 g4 g5 g6;refine uU zz (cx _) ?_;replace zz:=Ah g0 g4 g5 g6 n1 @B4;refine wt zz ?_;replace zz:=AW g0 g4 g5 g6;refine uU zz (cy _) ?_;replace zz:=B6 g0 g4 g5 g6 n1 n2 n3 @B4 p1 p2;refine wt zz ?_;refine⟨?_,hgr3 _ _ _ _ _⟩;simp only[e2,Fm.cells,Ex.cells,Ex.rows,Fm.rows,A8,AL,List.map_nil,AI,AN];exact⟨_,rfl,⟨_,rfl,rfl,rfl,.inr (.inl ⟨rfl,.inr rfl⟩),.inr (.inl ⟨rfl,.inr rfl⟩),.inl ⟨rfl,EE _ [.mk F5 ana an aar aki,.mk bop bna bn bar bki]⟩,.inr (.inl ⟨rfl,.inr rfl⟩),trivial⟩,rfl,trivial⟩
end Go.Proofs.YtblgchkahpgdjaaGreat
