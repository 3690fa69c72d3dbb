/- What the claim rests on, part 8: the abstract machine, contracts of the functions, plain data. -/
import Derived.Test.YtblgchkahpgdjaaGreatRows
import Derived.Test.YtblgchkahpgdjaaGreatZw7
set_option linter.unusedVariables false
set_option linter.unusedSimpArgs false
set_option linter.unusedSectionVars false
namespace Go.AM
section
variable {P:Program}{ow:Nat->Bool}{wf:FuncId->Bool}{n:Nat}
def KI(ow:Nat->Bool)(ops:List Oper)(L:List (Nat × Nat))(x:Nat):List Nat:=(List.range ops.length).filterMap λf=>if(!(x==f)&&!(pre ops f x)&&(!(pre ops x f)||(ops[f]?).any (BY ow)))=true then L.lookup f else none
def LS(ow:Nat->Bool)(ops:List Oper)(k:Nat):List Nat:=(List.range ops.length).filter λf=>decide (k<f)&&(ops[f]?).any (BY ow)
def Sb(ow:Nat->Bool)(ops:List Oper)(L:List (Nat × Nat))(B:List Nat):Bool:=(List.range ops.length).all λj=>(List.range j).all λi=>!(B.contains i||(L.lookup i).isSome)||!(B.contains j||(L.lookup j).isSome)||pre ops i j||(match L.lookup i,L.lookup j with|some p,some q=>p !=q|_,_=>false)||(B.contains i&&(L.lookup j).isSome&&(ops[j]?).any (BY ow))||((L.lookup i).isSome&&B.contains j&&(ops[i]?).any (BY ow))
def Sc(P:Program)(ow:Nat->Bool)(wf:FuncId->Bool)(n:Nat)(ops:List Oper)(L:List (Nat × Nat))(B:List Nat)(base j:Nat)(o:Oper)(s s':A8)(h h':A0)(v:PV)(l:Option (Nat × Ae)):Prop:=
 l.map (·.1)=(L.lookup j).map (base+·)/\o.dst.all (λd=>decide (d<n))=true/\ ∃ b,Bt ops s o=some b/\
  (b=false->s'=AW s o.dst (.sc undef)/\h'=h/\l=none/\B.contains j=false)/\
  (b = true -> s' = AW s o.dst v /\
   (Ax ow wf o=false->h'=h/\l=none/\B.contains j=false/\ ∀ H,Ad P ow o (A6 s) H v H)/\
   (Ax ow wf o = true ->
    (B.contains j=true/\l=none/\(∃ H',Ad P ow o (A6 s) (As h ((KI ow ops L j).map (base+·))) v H'/\(∀ q∈KI ow ops L j,H'.obj (base+q)=none)/\h'=Bk H' h ((KI ow ops L j).map (base+·)))/\ ∀ f∈LS ow ops j,h'.obj (base+f)=none)\/
    (B.contains j=false/\BY ow o=true/\ ∃ ob,l=some (base+j,ob)/\DP P ow (base+j) o (A6 s)=some (v,ob)/\h'=h.set (base+j) ob)\/
    (B.contains j=false/\ ∃ t x y id r f ob,o.op= .store t x y/\A6 s x= .ptr id r f/\l=some (id,ob)/\h'=h.set id ob/\(∀ f∈LS ow ops j,base+f≠id)/\AQ P (o.dst.any ow) o.op (A6 s) h=some (v,h'))))
def Fq(P:Program)(ow:Nat->Bool)(wf:FuncId->Bool)(n:Nat)(ops:List Oper)(L:List (Nat × Nat))(B:List Nat)(base:Nat):Nat->List Oper->(A8->A0->Prop)->A8->A0->Prop
 |_,[],K,s,h=>K s h
 |k,o::rest,K,s,h=> ∃ s' h' v l,Sc P ow wf n ops L B base k o s s' h h' v l/\Fq P ow wf n ops L B base (k+1) rest K s' h'
theorem Sd{ops:List Oper}{L:List (Nat × Nat)}{B:List Nat}{base:Nat}{K:A8->A0->Prop}: ∀ (rest:List Oper)(k:Nat)(s:A8)(h:A0),ops.drop k=rest->k<=ops.length->Fq P ow wf n ops L B base k rest K s h->
  ∃ (sk:Nat->A8)(hk:Nat->A0)(vk:Nat->PV)(lt:Nat->Option (Nat × Ae)),sk k=s/\hk k=h/\K (sk ops.length) (hk ops.length)/\
   ∀ j o,k<=j->ops[j]? =some o->Sc P ow wf n ops L B base j o (sk j) (sk (j+1)) (hk j) (hk (j+1)) (vk j) (lt j)
 |[],k,s,h,hd,hk,hr=>by
  have hl:ops.length<=k:=by simpa using hd
  have hke:k=ops.length:=by omega
  refine⟨λ_=>s,λ_=>h,λ_=> .emp,λ_=>none,rfl,rfl,hr,λj o hj ho=>?_⟩;have:=(List.getElem?_eq_some_iff.1 ho).1;omega
 |o::rest,k,s,h,hd,hk,hr=>by
  have ho:ops[k]? =some o:=by
   have:(ops.drop k)[0]? =some o:=(by rw[hd];try rfl);simpa using this
  have hkl:k<ops.length:=(List.getElem?_eq_some_iff.1 ho).1;have hd2:ops.drop (k+1)=rest:=by
   have:=List.drop_eq_getElem_cons hkl;rw[hd]at this;simp only[List.cons.injEq]at this;exact this.2.symm
  obtain⟨s',h',v,l,hloc,hrec⟩:=hr;obtain⟨sk,hk',vk,lt,e1,e2,e3,e4⟩:=Sd rest (k+1) s' h' hd2 (by omega) hrec;refine⟨λj=>if j=k then s else sk j,λj=>if j=k then h else hk' j,λj=>if j=k then v else vk j,λj=>if j=k then l else lt j,by simp,by simp,?_,λj q hj hq=>?_⟩
  ·simp only;rw[A4 (by omega),A4 (by omega)];exact e3
  ·by_cases hjk:j=k
   ·subst hjk;rw[ho]at hq;simp only[Ag]at hq;subst hq;simp only[AC];rw[A4 (by omega),A4 (by omega),e1,e2];exact hloc
   ·simp only[hjk,AD];rw[A4 (by omega),A4 (by omega)];exact e4 j q (by omega) hq
theorem Zw{ops:List Oper}{L:List (Nat × Nat)}{base:Nat}{lt:Nat->Option (Nat × Ae)}(h: ∀ f,f<ops.length->(lt f).map (·.1)=(L.lookup f).map (base+·))(x:Nat):kx ow ops lt x=(KI ow ops L x).map (base+·):=by
 unfold kx KI;rw[List.map_filterMap];have: ∀ l:List Nat,(∀ f∈l,f<ops.length)->l.filterMap (λf=>if(!(x==f)&&!(pre ops f x)&&(!(pre ops x f)||(ops[f]?).any (BY ow)))=true then(lt f).map (·.1)else none)=l.filterMap (λf=>Option.map (base+·) (if(!(x==f)&&!(pre ops f x)&&(!(pre ops x f)||(ops[f]?).any (BY ow)))=true then L.lookup f else none)):=by
  intro l
  induction l with
  |nil=>intro _;rfl
  |cons f l ih=>
   intro hl;have e:(if(!(x==f)&&!(pre ops f x)&&(!(pre ops x f)||(ops[f]?).any (BY ow)))=true then(lt f).map (·.1)else none)=Option.map (base+·) (if(!(x==f)&&!(pre ops f x)&&(!(pre ops x f)||(ops[f]?).any (BY ow)))=true then L.lookup f else none):=by
    split
    ·exact h f (hl f (by simp))
    ·rfl
   rw[List.filterMap_cons,List.filterMap_cons,e,ih λy hy=>hl y (by simp[hy])]
 exact this _ λf hf=>List.mem_range.1 hf
theorem Se{ops:List Oper}{k f:Nat}{q:Oper}(hf:k<f)(hq:ops[f]? =some q)(ha:BY ow q=true):f∈LS ow ops k:=by
 simp only[LS,List.mem_filter,List.mem_range,AT,BQ];exact⟨(List.getElem?_eq_some_iff.1 hq).1,hf,by rw[hq];exact ha⟩
theorem Zx{ops:List Oper}{L:List (Nat × Nat)}{B:List Nat}{K:A8->A0->Prop}{s:A8}{h:A0}(hd:J8 ops=true)(hw:Sb ow ops L B=true)(hr:Fq P ow wf n ops L B h.next 0 ops K s ⟨h.next+ops.length,h.obj⟩):Lw P ow wf n ops K s h:=by
 obtain⟨sk,hk,vk,lt,e1,e2,e3,e4⟩:=Sd ops 0 s _ rfl (BX _) hr;have hlt: ∀ f,f<ops.length->(lt f).map (·.1)=(L.lookup f).map (h.next+·):=λf hf=>(e4 f _ (BX _) (List.getElem?_eq_getElem hf)).1;have hkx:=λx=>Zw (ow:=ow) hlt x;have hsome: ∀ f,f<ops.length->((lt f).isSome=(L.lookup f).isSome):=λf hf=>by
  have:=Iz Option.isSome (hlt f hf);simpa using this
 refine⟨hd,sk,hk,vk,lt,λj=>B.contains j,e1,e2,e3,⟨λj o ho=>?_,λi j hij hj hi hj2=>?_⟩⟩
 ·obtain ⟨_,g1,b,g2,g3,g4⟩:=e4 j o (BX _) ho;refine⟨g1,b,g2,λhb=>g3 hb,λhb=>?_⟩;obtain⟨k1,k2,k3⟩:=g4 hb;refine⟨k1,λhw=>?_,λhw=>?_⟩
  ·obtain ⟨m1,m2,m3,m4⟩:=k2 hw;exact⟨m1,m2,m3,λM _=>⟨kx ow ops lt j,λ_ hx=>hx,m4 _⟩⟩
  ·rcases k3 hw with⟨m1,m2,⟨H',m3,m4,m6⟩,m5⟩|⟨m0,m1,ob,m2,m3,m4⟩|⟨m0,t,x,y,id,r,f,ob,m1,m2,m3,m4,m5,m6⟩
   ·refine .inl ⟨m1,m2,⟨H',?_,λid hid=>?_,?_⟩,λf q hf hq ha=>m5 f (Se hf hq ha)⟩
    ·rw [hkx];exact m3
    ·rw [hkx]at hid;obtain⟨q,hq,rfl⟩:=List.mem_map.1 hid;exact m4 q hq
    ·rw [hkx];exact m6
   ·exact .inr (.inl ⟨m0,m1,ob,m2,m3,m4⟩)
   ·exact .inr (.inr ⟨m0,t,x,y,id,r,f,ob,m1,m2,m3,m4,λf q hf hq ha=>m5 f (Se hf hq ha),m6⟩)
 ·have hwij:=List.all_eq_true.1 (List.all_eq_true.1 hw j (List.mem_range.2 hj)) i (List.mem_range.2 hij);have si:=hsome i (by omega);have sj:=hsome j hj;have li:=hlt i (by omega);have lj:=hlt j hj;have ei:(B.contains i||(L.lookup i).isSome)=true:=by
   rw[← si];rcases hi with h1|h1
   ·rw [h1];try rfl
   ·rw [h1];simp
  have ej:(B.contains j||(L.lookup j).isSome)=true:=by
   rw[← sj];rcases hj2 with h1|h1
   ·rw [h1];try rfl
   ·rw [h1];simp
  rw[ei,ej]at hwij;simp only[Ab,BL,Cc,AT]at hwij;rcases hwij with((h1|h1)|h1)|h1
  ·exact .inl h1
  ·refine .inr (.inl ?_);cases h2:L.lookup i with
   |none=>rw[h2]at h1;simp at h1
   |some p=>
    cases h3:L.lookup j with
    |none=>rw[h2,h3]at h1;simp at h1
    |some q=>
     rw[h2,h3]at h1;rw[h2]at li;rw[h3]at lj;obtain⟨x,hx,hx2⟩:=Ck.1 li;obtain⟨y,hy,hy2⟩:=Ck.1 lj;refine⟨x,y,hx,hy,?_⟩;rw[hx2,hy2];have hpq:p≠q:=(by simpa using h1);show h.next+p≠h.next+q
     omega
  ·refine .inr (.inr (.inl ⟨h1.1.1,by rw[sj];exact h1.1.2,ops[j],List.getElem?_eq_getElem hj,?_⟩));have:=h1.2;rw[List.getElem?_eq_getElem hj]at this;exact this
  ·have hil:i<ops.length:=(by omega);refine .inr (.inr (.inr ⟨by rw[si];exact h1.1.1,h1.1.2,ops[i],List.getElem?_eq_getElem hil,?_⟩));have:=h1.2;rw[List.getElem?_eq_getElem hil]at this;exact this
theorem Oq{Q:Au}{s:A8}{h:A0}{id:Nat}{ops:List Oper}(L:List (Nat × Nat))(B:List Nat)(hd:J8 ops=true)(hw:Sb ow ops L B=true)(hk: ∀ K:A8->A0->Prop,(∀ s h,Q .normal s h->K s h)->Fq P ow wf n ops L B h.next 0 ops K s ⟨h.next+ops.length,h.obj⟩):AX P ow wf n (.region id ops.toArray true) Q s h:=by
 simp only[AX,AC];exact⟨_,_,.refl,.inr (.inr (Zx hd hw (hk _ λ_ _ hq=>hq)))⟩
variable {ops rest:List Oper}{L:List (Nat × Nat)}{B:List Nat}{base k:Nat}{o:Oper}{K:A8->A0->Prop}{s:A8}{h:A0}
theorem Ot(hK:K s h):Fq P ow wf n ops L B base k [] K s h:=hK
theorem Cw(v:PV)(hl:L.lookup k=none)(hB:B.contains k=false)(hd:o.dst.all (λd=>decide (d<n))=true)(hw:Bt ops s o=some true)(hW:Ax ow wf o=false)(he: ∀ H,Ad P ow o (A6 s) H v H)(hk:Fq P ow wf n ops L B base (k+1) rest K (AW s o.dst v) h):Fq P ow wf n ops L B base k (o::rest) K s h:=
 ⟨_,_,v,none,⟨by rw[hl];try rfl,hd,true,hw,λhb=>(by cases hb),λ_=>⟨rfl,λ_=>⟨rfl,rfl,hB,he⟩,λhw2=>(by rw[hW]at hw2;cases hw2)⟩⟩,hk⟩
theorem N9{v:PV}{ob:Ae}(hl:L.lookup k=some k)(hB:B.contains k=false)(hd:o.dst.all (λd=>decide (d<n))=true)(hw:Bt ops s o=some true)(hW:Ax ow wf o=true)(hA:BY ow o=true)(he:DP P ow (base+k) o (A6 s)=some (v,ob))(hk:Fq P ow wf n ops L B base (k+1) rest K (AW s o.dst v) (h.set (base+k) ob)):Fq P ow wf n ops L B base k (o::rest) K s h:=
 ⟨_,_,v,some (base+k,ob),⟨by rw[hl];try rfl,hd,true,hw,λhb=>(by cases hb),λ_=>⟨rfl,λhw2=>(by rw[hW]at hw2;cases hw2),λ_=> .inr (.inl ⟨hB,hA,ob,rfl,he,rfl⟩)⟩⟩,hk⟩
theorem I5{v:PV}{H':A0}{kl la:List Nat}(hl:L.lookup k=none)(hB:B.contains k=true)(hd:o.dst.all (λd=>decide (d<n))=true)(hw:Bt ops s o=some true)(hW:Ax ow wf o=true)(hkl:KI ow ops L k=kl)(hla:LS ow ops k=la)(he:Ad P ow o (A6 s) (As h (kl.map (base+·))) v H')(h1: ∀ q∈kl,H'.obj (base+q)=none)(h2: ∀ q∈la,(Bk H' h (kl.map (base+·))).obj (base+q)=none)
  (hk:Fq P ow wf n ops L B base (k+1) rest K (AW s o.dst v) (Bk H' h (kl.map (base+·)))):Fq P ow wf n ops L B base k (o::rest) K s h:=
 ⟨_,_,v,none,⟨by rw[hl];try rfl,hd,true,hw,λhb=>(by cases hb),λ_=>⟨rfl,λhw2=>(by rw[hW]at hw2;cases hw2),λ_=> .inl ⟨hB,rfl,⟨H',by rw[hkl];exact he,by rw[hkl];exact h1,by rw[hkl]⟩,by rw[hla];exact h2⟩⟩⟩,hk⟩
end
end Go.AM
namespace Go.AM
section
variable {P:Program}{f:FuncId}{z:Nat}{h:A0}{K:PV->A0->Prop}
theorem AR.nil_split{β:B8}{n:Nat}{F:Nat->Prop}{w:World}{z:Nat}: ∀ {pre post:List PV}{vals:List Value},AR β n F w (pre++ .imm z []::post) vals-> ∃ a cap,AR β n F w (pre++ .sc (.slice a 0 cap)::post) vals
 |[],post,[],h=>by simp[AR]at h
 |[],post,v::vals,h=>by
  simp only[List.nil_append,AR,A9]at h⊢;obtain⟨⟨a,cap,hv,_⟩,h2⟩:=h;exact⟨a,cap,by simpa using hv,h2⟩
 |p::pre,post,[],h=>by simp[AR]at h
 |p::pre,post,v::vals,h=>by
  simp only[List.cons_append,AR]at h⊢;obtain⟨a,cap,hx⟩:=AR.nil_split h.2;exact⟨a,cap,h.1,hx⟩
theorem AA.nil_split{pre post:List PV}(h0: ∀ a cap,AA P f (pre++ .sc (.slice a 0 cap)::post) h K):AA P f (pre++ .imm z []::post) h K:=by
 intro β w vals sm hr;obtain⟨a,cap,hx⟩:=AR.nil_split hr;exact h0 a cap β w vals sm hx
theorem AA.nil1(h0: ∀ a cap,AA P f [.sc (.slice a 0 cap)] h K):AA P f [.imm z []] h K:=AA.nil_split (pre:=[]) (post:=[]) h0
end
end Go.AM
namespace Go.AM
def Cl(h:A0)(id0 z:Nat)(p:PV)(rows:List (List PV)):Prop:=
 (rows=[]/\p= .imm z [])\/ ∃ id,id0<=id/\id<h.next/\p= .own id 0 rows.length/\h.obj id=some (.arr z rows)
variable {h:A0}{id0 z:Nat}{p:PV}{rows:List (List PV)}
theorem Cl.sl(t:Cl h id0 z p rows):Sl h z p rows:=by
 rcases t with⟨rfl,rfl⟩|⟨id,_,_,rfl,ho⟩
 ·exact Sl.imm _
 ·exact Sl.own0 ho
theorem Cl.up{h':A0}(t:Cl h id0 z p rows)(hn:h.next<=h'.next)(ho: ∀ j,id0<=j->j<h.next->h'.obj j=h.obj j):Cl h' id0 z p rows:=by
 rcases t with ht|⟨id,h1,h2,rfl,h3⟩
 ·exact .inl ht
 ·exact .inr ⟨id,h1,by omega,rfl,by rw[ho id h1 h2];exact h3⟩
theorem Cl.keep{h':A0}(t:Cl h id0 z p rows)(hn:h.next<=h'.next)(ho: ∀ j,p= .own j 0 rows.length->j<h.next->h'.obj j=h.obj j):Cl h' id0 z p rows:=by
 rcases t with ht|⟨id,h1,h2,rfl,h3⟩
 ·exact .inl ht
 ·exact .inr ⟨id,h1,by omega,rfl,by rw[ho id rfl h2];exact h3⟩
theorem Cl.low{a:Nat}(t:Cl h a z p rows)(hab:id0<=a):Cl h id0 z p rows:=by
 rcases t with ht|⟨id,h1,h2,h3,h4⟩
 ·exact .inl ht
 ·exact .inr ⟨id,by omega,h2,h3,h4⟩
theorem Cl.grow{H:A0}{len:Nat}(hn:id0<=H.next)(hl:len=rows.length):Cl (H.new (.arr z rows)) id0 z (.own H.next 0 len) rows:=
 .inr ⟨H.next,hn,Pv _,by rw[hl],by rw[Kz,AH rfl]⟩
theorem Cl.pc(t:Cl h id0 z p rows):p.cells=[p]/\C8 p=true:=by
 rcases t with⟨_,rfl⟩|⟨_,_,_,rfl,_⟩<;>exact⟨rfl,rfl⟩
theorem Cl.frz{n:Nat}(t:Cl h id0 z p rows)(hf:Tl h id0 z p rows->AZ n h (.imm z rows) p):AZ n h (.imm z rows) p:=by
 rcases t with⟨rfl,rfl⟩|ht
 ·simp only[AZ];exact .inl ⟨trivial,by simp only[BG]⟩
 ·exact hf (.inr ht)
end Go.AM
namespace Go.Proofs.YtblgchkahpgdjaaGreat
open Go.AM Go.Proofs.Tryz
set_option maxHeartbeats 2000000
set_option maxRecDepth 20000
set_option maxHeartbeats 8000000
def Sf:Ae:= .arr 6 [[.sc (.string ⟨#[]⟩),.sc (.string ⟨#[]⟩),.sc (.slice none 0 0),.sc (.slice none 0 0),.sc (.slice none 0 0),.sc (.slice none 0 0)]]
structure PI(h:A0)(w:ByteArray)(h':A0):Prop where
 grow:AL h h'
 nxt:h'.next=h.next+2
 o1:h'.obj h.next=some Sf
 o2:h'.obj (h.next+1)=some (.arr 6 [[A1 w,.sc (.string ⟨#[]⟩),.sc (.slice none 0 0),.sc (.slice none 0 0),.sc (.slice none 0 0),.sc (.slice none 0 0)]])
def PJ(h:A0)(F:Fm × Int)(S:A8)(h':A0):Prop:=S 2= .ptr h.next 0 0/\S 8= .ptr (h.next+1) 0 0/\AL h h'/\ ∃ (c:Int)(a b:ByteArray)(p2 p3 p4 p5:PV),S 9=S6 c/\h'.obj h.next=some Sf/\h'.obj (h.next+1)=some (.arr 6 [[A1 a,A1 b,p2,p3,p4,p5]])/\
 (C8 p2=true/\C8 p3=true/\C8 p4=true/\C8 p5=true)/\((c==0)=false->F=(Oa,c))/\((c==0)=true->F.2=0/\ ∀ hh,B4 h.next hh F.1.cells [A1 a,A1 b,p2,p3,p4,p5])
theorem PJ.mk2{h h':A0}{w:ByteArray}{F:Fm × Int}{S:A8}(hp:PI h w h')(c:Int)(a b:ByteArray)(p2 p3 p4 p5:PV)(g2:S 2= .ptr h.next 0 0)(g8:S 8= .ptr (h.next+1) 0 0)(g9:S 9=S6 c)
  (ho:C8 p2=true/\C8 p3=true/\C8 p4=true/\C8 p5=true)(hc:(c==0)=false->F=(Oa,c))(hd:(c==0)=true->F.2=0/\ ∀ hh,B4 h.next hh F.1.cells [A1 a,A1 b,p2,p3,p4,p5]):
  PJ h F S (h'.set (h.next+1) (.arr 6 [[A1 a,A1 b,p2,p3,p4,p5]])):=by
 refine⟨g2,g8,hp.grow.set (Py _) _,c,a,b,p2,p3,p4,p5,g9,?_,by simp[A0.set],ho,hc,hd⟩;simp only[A0.set];rw[A4 (by omega)];exact hp.o1
theorem JZ: ∀ l m:List Sx,Sx.nodess (l++m)=Sx.nodess l+Sx.nodess m
 |[],m=>by simp[Sx.nodess]
 |k::l,m=>by simp only[List.cons_append,Sx.nodess,JZ l m];omega
theorem F0(l:List Sx):(AB l).nodes=Sx.nodess l+1:=by simp only[AB,Sx.nodes]
theorem Ja(s:ByteArray):(A5 s).nodes=1:=by simp[A5,Sx.nodes,Sx.nodess]
theorem Sg: ∀ (e:Ex),Br e=true-> ∀ (d n:Nat),d+(Am e).depth<=32->n+(Am e).nodes<=4096->(D8 e d n).1=true/\(D8 e d n).2<=n+(Am e).nodes:=by
 refine Ex.ind ?_;intro op name v args kids ih hs d n hd hn;unfold Br at hs;unfold Am at hd hn⊢;unfold D8;cases c1:A3 op Hw with
 |true=>
  rw[c1]at hs hd hn;simp only[AC]at hs hd hn⊢;simp only[Sx.nodes,Sx.nodess]at hn⊢;rw[AH ⟨by omega,by omega⟩];exact⟨hs,by simp only;omega⟩
 |false=>
  rw[c1]at hs hd hn;simp only[Ap,AD]at hs hd hn⊢;cases c2:A3 op Hx with
  |true=>
   rw[c2]at hs hd hn;simp only[AC]at hs hd hn⊢;simp only[Bv,AB,Sx.nodes]at hn⊢;rw[AH ⟨by omega,by omega⟩];exact⟨hs,by simp only;omega⟩
  |false=>
   rw[c2]at hs hd hn;simp only[Ap,AD]at hs hd hn⊢;split at hs
   case isFalse=>simp at hs
   rename_i hop;rw[AH hop];rw[AT]at hs;obtain⟨h1,h2⟩:=hs;rw[h1];simp only[AC];split at h2
   case h_2=>simp at h2
   rename_i a b;simp only[AT]at h2;simp only[AB,Sx.depth,Sx.depths,Sx.nodes,Sx.nodess,A5,AC]at hd hn⊢;have k1:¬ ((1:Int)=3):=(by omega);rw[A4 k1]at hd;rw[AH ⟨by omega,by omega⟩];obtain⟨f1,f2⟩:=ih a (by simp) h2.1 (d+1) (n+1) (by omega) (by omega);cases hw:D8 a (d+1) (n+1)with
   |mk x c=>
    rw[hw]at f1 f2;simp only at f1 f2;subst f1;simp only;obtain⟨g1,g2⟩:=ih b (by simp) h2.2 (d+1) c (by omega) (by omega);exact⟨g1,by omega⟩
theorem Zy{e:Ex}(hn:(Am e).nodes<=AE):EM e=(Br e&&KG (Am e)):=by
 unfold EM;rw[JU hn];cases hs:Br e with
 |false=>
  have:(D8 e 0 0).1=false:=by
   cases h:(D8 e 0 0).1 with
   |false=>rfl
   |true=>rw[LK e 0 0 h]at hs;simp at hs
  simp only[this,Ai]
 |true=>
  cases hv:KG (Am e)with
  |false=>simp
  |true=>
   have h1:=(LM (Am e) 0 0 (by omega) (by omega)).1.1 (by rw[JU hn];exact hv);rw[(Sg e hs 0 0 h1.2.1 h1.2.2).1]
section
variable {name:ByteArray}{args:List ByteArray}{params:List Pm}{exprs:List Ex}{kids p q:List Fm}{s:Bool}
end
theorem Zz{C:Fm->Prop}(f:Fm)(hf:BP f=true)
  (h1: ∀ name args,Ak name=true->args.all BS=true->C (.mk BH name args [] [] []))
  (h2: ∀ args,args.length=2->args.all BS=true->C (.mk Ba ⟨#[]⟩ args [] [] []))
  (h3: ∀ op a b,(op=CK\/op=Ce\/op=CS)->Br a=true->Br b=true->C (.mk op ⟨#[]⟩ [] [] [a,b] []))
  (h4: ∀ op kids,(op=C5\/op=Fh)->(∀ k∈kids,BP k=true)->C (.mk op ⟨#[]⟩ [] [] [] kids))
  (h5: ∀ k,BP k=true->C (.mk E8 ⟨#[]⟩ [] [] [] [k]))
  (h6: ∀ a b,BP a=true->BP b=true->C (.mk GO ⟨#[]⟩ [] [] [] [a,b]))
  (h7: ∀ op params k,(op=DJ\/op=Fi)->params.all FC=true->BP k=true->C (.mk op ⟨#[]⟩ [] params [] [k])):C f:=by
 obtain⟨op,name,args,params,exprs,kids⟩:=f;simp only[BP,AT,List.all_eq_true]at hf;obtain⟨⟨hp,he⟩,hk⟩:=hf;rw[Ie]at hk;rcases ZU hp with⟨rfl,a1,a2,rfl,a3,a4⟩|⟨rfl,rfl,a1,a2,rfl,a3,a4⟩|⟨a1,rfl,rfl,rfl,a3,a4⟩|⟨a1,rfl,rfl,rfl,a3⟩|⟨a1,rfl,rfl,a3,a4,a5⟩
 ·obtain rfl:=List.eq_nil_of_length_eq_zero a3;obtain rfl:=List.eq_nil_of_length_eq_zero a4;exact h1 _ _ a1 a2
 ·obtain rfl:=List.eq_nil_of_length_eq_zero a3;obtain rfl:=List.eq_nil_of_length_eq_zero a4;exact h2 _ a1 a2
 ·obtain rfl:=List.eq_nil_of_length_eq_zero a4
  match exprs,a3,he with
  |[a,b],_,he=>exact h3 _ _ _ a1 (he a (by simp)) (he b (by simp))
 ·obtain rfl:=List.eq_nil_of_length_eq_zero a3;rcases a1 with rfl|rfl|⟨rfl,a4⟩|⟨rfl,a4⟩
  ·exact h4 _ _ (.inl rfl) hk
  ·exact h4 _ _ (.inr rfl) hk
  ·match kids,a4,hk with
   |[k],_,hk=>exact h5 _ (hk k (by simp))
  ·match kids,a4,hk with
   |[a,b],_,hk=>exact h6 _ _ (hk a (by simp)) (hk b (by simp))
 ·obtain rfl:=List.eq_nil_of_length_eq_zero a3
  match kids,a4,hk with
  |[k],_,hk=>exact h7 _ _ _ a1 a5 (hk k (by simp))
end Go.Proofs.YtblgchkahpgdjaaGreat
namespace Go.AM
theorem AL.bump{h h':A0}(g:AL h h')(k:Nat):AL h ⟨h'.next+k,h'.obj⟩:=⟨Nat.le_add_right_of_le g.1,g.2⟩
end Go.AM
namespace Go.Proofs.YtblgchkahpgdjaaGreat
open Go.AM Go.Proofs.Tryz
set_option maxHeartbeats 4000000
set_option maxRecDepth 20000
def GT(n:Int):List Ch->Int
 |[]=>n
 |c::l=>GT (IntKind.i64.wrap (n+IntKind.i64.wrap (IntKind.i64.wrap (IntKind.i64.wrap (IntKind.i64.wrap (1+(c.params.length:Int))+(c.args.length:Int))+c.cond.size)+c.value.size))) l
theorem Ou{l:List Ch}(hl:Chs.ok l)(h:A0):AA prog 16 [.imm 15 (Ay l)] h λr h'=>r= .sc (.int .i64 (GT 0 l))/\h'=h:=by
 obtain⟨hll,hlo⟩:=hl;unfold AE at hll;have hlen:=HG l;generalize hF:GT 0 l=F;refine AN func16 ntmps16 results16 Ty.YC ?_;refine wt A2 ?_;refine BV (λc S h'=>h'=h/\S 0= .imm 15 (Ay l)/\ ∃ (k:Nat)(n:Int),S 4= .sc (.int .i64 k)/\S 3= .sc (.int .i64 n)/\k<=l.length/\c=l.length-k/\F=GT n (l.drop k)) l.length ?_ ?_
 ·simp only[Ty.w,simprocAttr];exact⟨0,0,rfl,rfl,by omega,rfl,by rw[← hF];try rfl⟩
 ·clear hF;rintro c S h' ⟨rfl,g0,k,n,g4,g3,hk,rfl,hinv⟩;by_cases hlt:k<l.length
  ·have hd:decide ((k:Int)<(l.length:Int))=true:=(by simp;omega);have w7:IntKind.i64.wrap ((k:Int)+1)=k+1:=(by rw[B9 (by omega) (by omega)]);obtain⟨a,hx⟩: ∃ a,l[k]? =some a:=⟨_,List.getElem?_eq_getElem hlt⟩;have hr:=MX hx;have ha:=hlo a (List.mem_of_getElem? hx);rw[CR hx]at hinv;simp only[GT]at hinv;have c1:=LR a.cond ha.cond;have c2:=SO a.value ha.value;have hp:=EX a.params;have hs:=FA a.args;clear ha;obtain⟨kind,params,cond,name,args,value⟩:=a;simp only at hinv c1 c2 hp hs;generalize cond.size=s1 at hinv c1;generalize value.size=s2 at hinv c2;obtain⟨fop,fna,far,fpa,fex,fki⟩:=cond;obtain⟨eop,ena,en,ear,eki⟩:=value;simp only[Df,Fm.cells,Ex.cells,List.cons_append,List.nil_append]at hr c1 c2;replace zz:=B6 g0 g3 g4 hlen hd hr hp hs;refine wy zz ?_;replace zz:=AY g0 g3 g4 hlen hr hp hs;(first|refine uV zz (c1 _) ?_|refine uA zz (c1 _) ?_);refine wy zz ?_;replace zz:=AY g0 g3 g4 hlen hr hp hs;(first|refine uV zz (c2 _) ?_|refine uA zz (c2 _) ?_);replace zz:=B6 g0 g3 g4 hlen hr hp hs w7;refine wy zz ?_;exact⟨l.length-(k+1),by omega,k+1,_,by simp,rfl,by omega,rfl,hinv⟩
  ·have hd:decide ((k:Int)<(l.length:Int))=false:=(by simp;omega);rw[List.drop_eq_nil_of_le (by omega)]at hinv;simp only[GT]at hinv;replace zz:=AV g0 g3 g4 hlen hd;refine wm zz ?_;try exact zI
   all_goals rw[hinv]
def KJ(n:Int):List Ac->Int
 |[]=>n
 |a::l=>KJ (IntKind.i64.wrap (n+IntKind.i64.wrap (IntKind.i64.wrap (1+a.pre.size)+GT 0 a.changes))) l
def KK(n:Int):List Du->Int
 |[]=>n
 |a::l=>KK (IntKind.i64.wrap (n+IntKind.i64.wrap (IntKind.i64.wrap (IntKind.i64.wrap (IntKind.i64.wrap (IntKind.i64.wrap (1+a.start.size)+a.over.size)+a.stop.size)+GT 0 a.atStart)+GT 0 a.atStop))) l
def Ov(d:Dm):Bool:=decide (KK (KJ (IntKind.i64.wrap (IntKind.i64.wrap (IntKind.i64.wrap ((d.types.length:Int)+d.constants.length)+d.predicates.length)+d.functions.length)) d.actions) d.duratives>3000)
theorem aA(d:Dm)(hd0:d.ok)(h:A0):AA prog 10 [.agg d.cells] h λr h'=>r= .sc (.bool (Ov d))/\h'=h:=by
 obtain⟨_,_,_,_,_,⟨hal,hao⟩,⟨hul,huo⟩⟩:=hd0;obtain⟨name,types,constants,predicates,functions,actions,duratives⟩:=d;simp only at hal hao hul huo;refine AA.quiet Ty.Qz ?_;unfold Ov;simp only;have l1:=EX types;have l2:=EX constants;have l3:=MY predicates;have l4:=MZ functions;have l5:=Ma actions;have l6:=Mc duratives;unfold AE at hal hul;generalize hN0:IntKind.i64.wrap (IntKind.i64.wrap (IntKind.i64.wrap ((types.length:Int)+constants.length)+predicates.length)+functions.length)=n0;generalize hNA:KJ n0 actions=nA;generalize hNV:KK nA duratives=nV;have hC:(Dm.mk name types constants predicates functions actions duratives).cells=[A1 name,.imm 2 (A7 types),.imm 2 (A7 constants),.imm 2 (Az predicates),.imm 4 (Av functions),.imm 10 (B0 actions),.imm 23 (B1 duratives)]:=rfl;rw[hC];refine AN func10 ntmps10 results10 Ty.Qz ?_;replace zz:=AV l1 l2 l3 l4 hN0;refine xH 2 zz ?_;refine⟨?_⟩;refine CF (λS h'=>h'=h/\S 1= .cptr (Dm.mk name types constants predicates functions actions duratives).cells/\S 3= .sc (.int .i64 nA)) ?_ ?_
 ·rw [hC];refine wt A2 ?_;refine BV (λc S h'=>h'=h/\S 1= .cptr (Dm.mk name types constants predicates functions actions duratives).cells/\ ∃ (k:Nat)(n:Int),S 4= .sc (.int .i64 k)/\S 3= .sc (.int .i64 n)/\k<=actions.length/\c=actions.length-k/\nA=KJ n (actions.drop k)) actions.length ?_ ?_
  ·simp only[Ty.w,simprocAttr,hC];exact⟨0,n0,rfl,rfl,by omega,rfl,by rw[← hNA];try rfl⟩
  ·rintro c S h' ⟨rfl,g1,k,n,g4,g3,hk,rfl,hinv⟩;rw[hC]at g1;by_cases hlt:k<actions.length
   ·have hd:decide ((k:Int)<(actions.length:Int))=true:=(by simp;omega);have w7:IntKind.i64.wrap ((k:Int)+1)=k+1:=(by rw[B9 (by omega) (by omega)]);obtain⟨a,hx⟩: ∃ a,actions[k]? =some a:=⟨_,List.getElem?_eq_getElem hlt⟩;have hr:=Mb hx;have ha:=hao a (List.mem_of_getElem? hx);rw[CR hx]at hinv;simp only[KJ]at hinv;have c1:=LR a.pre ha.pre;have c2:=λh:A0=>Ou ha.changes h;clear ha;obtain⟨aname,aparams,acost,pre,changes⟩:=a;simp only at hinv c1 c2;generalize pre.size=s1 at hinv c1;generalize GT 0 changes=s2 at hinv c2;obtain⟨fop,fna,far,fpa,fex,fki⟩:=pre;simp only[EJ,Fm.cells,List.cons_append,List.nil_append]at hr c1;replace zz:=AK g1 g3 g4 l5 hd hr;refine wy zz ?_;replace zz:=AV g1 g3 g4 l5 hr;(first|refine uV zz (c1 _) ?_|refine uA zz (c1 _) ?_);refine wy zz ?_;replace zz:=AV g1 g3 g4 l5 hr;(first|refine uV zz (c2 _) ?_|refine uA zz (c2 _) ?_);replace zz:=AK g1 g3 g4 l5 hr w7;refine wy zz ?_;exact⟨actions.length-(k+1),by omega,by rw[hC],k+1,_,by simp,rfl,by omega,rfl,hinv⟩
   ·have hd:decide ((k:Int)<(actions.length:Int))=false:=(by simp;omega);rw[List.drop_eq_nil_of_le (by omega)]at hinv;simp only[KJ]at hinv;replace zz:=AV g1 g3 g4 l5 hd;refine wt zz ?_;simp only[Ty.w,simprocAttr,g1,g3,hinv,hC]
 ·rintro S h' ⟨rfl,g1,g3⟩;rw[hC]at g1
  clear hNA hN0;refine xH 6 (uu g1 g3) ?_;refine⟨?_⟩;refine CF (λS h2=>AL h' h2/\S 3= .sc (.int .i64 nV)) ?_ ?_
  ·refine wt (uu g1 g3) ?_;refine BV (λc S h2=>AL h' h2/\S 1= .cptr (Dm.mk name types constants predicates functions actions duratives).cells/\ ∃ (k:Nat)(n:Int),S 5= .sc (.int .i64 k)/\S 3= .sc (.int .i64 n)/\k<=duratives.length/\c=duratives.length-k/\nV=KK n (duratives.drop k)) duratives.length ?_ ?_
   ·simp only[Ty.w,simprocAttr,g1,g3,hC];exact⟨AL.refl _,0,nA,rfl,rfl,by omega,rfl,by rw[← hNV];try rfl⟩
   ·clear g1 g3;rintro c S h2 ⟨hg,g1,k,n,g5,g3,hk,rfl,hinv⟩;rw[hC]at g1;by_cases hlt:k<duratives.length
    ·have hd:decide ((k:Int)<(duratives.length:Int))=true:=(by simp;omega);have w7:IntKind.i64.wrap ((k:Int)+1)=k+1:=(by rw[B9 (by omega) (by omega)]);obtain⟨a,hx⟩: ∃ a,duratives[k]? =some a:=⟨_,List.getElem?_eq_getElem hlt⟩;have hr:=Md hx;have ha:=huo a (List.mem_of_getElem? hx);rw[CR hx]at hinv;simp only[KK]at hinv;have c1:=LR a.start ha.start;have c2:=LR a.over ha.over;have c3:=LR a.stop ha.stop;have c4:=λh:A0=>Ou ha.atStart h;have c5:=λh:A0=>Ou ha.atStop h;clear ha;obtain⟨aname,aparams,adur,start,over,stop,atStart,atStop⟩:=a;simp only at hinv c1 c2 c3 c4 c5;generalize start.size=s1 at hinv c1;generalize over.size=s2 at hinv c2;generalize stop.size=s3 at hinv c3;generalize GT 0 atStart=s4 at hinv c4;generalize GT 0 atStop=s5 at hinv c5;obtain⟨fop,fna,far,fpa,fex,fki⟩:=start;obtain⟨fop2,fna2,far2,fpa2,fex2,fki2⟩:=over;obtain⟨fop3,fna3,far3,fpa3,fex3,fki3⟩:=stop;simp only[EK,Fm.cells,List.cons_append,List.nil_append]at hr c1 c2 c3;replace zz:=AK g1 g3 g5 l6 hd hr;refine wy zz ?_;replace zz:=AV g1 g3 g5 l6 hr;(first|refine uV zz (c1 _) ?_|refine uA zz (c1 _) ?_);refine wy zz ?_;replace zz:=AV g1 g3 g5 l6 hr;(first|refine uV zz (c2 _) ?_|refine uA zz (c2 _) ?_);refine wy zz ?_;replace zz:=AV g1 g3 g5 l6 hr;(first|refine uV zz (c3 _) ?_|refine uA zz (c3 _) ?_);refine wy zz ?_;replace zz:=AV g1 g3 g5 l6 hr;(first|refine uV zz (c4 _) ?_|refine uA zz (c4 _) ?_);refine wy zz ?_;replace zz:=AV g1 g3 g5 l6 hr;(first|refine uV zz (c5 _) ?_|refine uA zz (c5 _) ?_);replace zz:=AK g1 g3 g5 l6 hr w7;refine wy zz ?_;exact⟨duratives.length-(k+1),by omega,(hg.new _).set hg.le _,by rw[hC],k+1,_,by simp,rfl,by omega,rfl,hinv⟩
    ·have hd:decide ((k:Int)<(duratives.length:Int))=false:=(by simp;omega);rw[List.drop_eq_nil_of_le (by omega)]at hinv;simp only[KK]at hinv;replace zz:=AV g1 g3 g5 l6 hd;refine wt zz ?_;simp only[Ty.w,simprocAttr,g1,g3,hinv];exact hg
  ·clear g1 g3;rintro S h2 ⟨hg,g3⟩;refine wm g3 ?_;try exact zI
   all_goals first|exact hg|exact⟨rfl,hg⟩
end Go.Proofs.YtblgchkahpgdjaaGreat
namespace Go.AM
def GU:Option Nat->Option Nat->Option Nat
 |none,b=>b
 |some a,none=>some a
 |some a,some b=>if a<=b then some a else some b
def Bw(q:Option Nat)(h h':A0):Prop:=match q with
 |none=>h'=h
 |some m=>h.next<=h'.next/\ ∀ id,id<m->h'.obj id=h.obj id
theorem Bw.trans{q q':Option Nat}{h h1 h':A0}(a:Bw q h h1)(b:Bw q' h1 h'):Bw (GU q q') h h':=by
 cases q with
 |none=>simp only[Bw]at a;subst a;simpa only[GU]using b
 |some m=>
  cases q' with
  |none=>simp only[Bw]at b;subst b;simpa only[GU]using a
  |some m'=>
   simp only[Bw]at a b;simp only[GU];split<;>simp only[Bw]<;>refine⟨by omega,λid hid=>?_⟩
   ·rw [b.2 id (by omega),a.2 id hid]
   ·rw [b.2 id hid,a.2 id (by omega)]
def Sh:PV->Nat
 | .ptr id _ _=>id
 |_=>0
def Si:PV->Nat
 | .mp id=>id
 |_=>0
def Ow(n:Nat):PV->Nat
 | .own id _ _=>if id<=n then id else n
 |_=>n
def NA(op:Op)(ρ:Operand->PV)(h:A0):Nat:=match op with
 | .store _ a _=>Sh (ρ a)
 | .mapUpdate _ x _ _=>Si (ρ x)
 | .call {callee:= .builtin .append,args:=args,.. }=>(match args.toList with
  |x::_=>Ow h.next (ρ x)
  |[]=>0)
 |_=>h.next
theorem Jb{h:A0}{o:Ae}:Bw (some h.next) h (h.new o):=by
 simp only[Bw,O0];exact⟨by omega,λid hid=>by rw[Kz,A4 (by omega)]⟩
theorem KL{h:A0}{i:Nat}{o:Ae}:Bw (some i) h (h.set i o):=by
 simp only[Bw,Qr];exact⟨by omega,λid hid=>by rw[Qq,A4 (by omega)]⟩
theorem Ox{h:A0}{m:Nat}:Bw (some m) h h:=⟨AF _,λ_ _=>rfl⟩
theorem aB{z bytes:Nat}{h h':A0}{x y v:PV}(ha:Hh z bytes h x y=some (v,h')):Bw (some (Ow h.next x)) h h':=by
 unfold Hh at ha;split at ha
 case isFalse=>simp at ha
 split at ha
 case h_2=>simp at ha
 rename_i nw h1 old hv ht;split at ha
 case isFalse=>simp at ha
 simp only[Ag,B3]at ha;obtain⟨_,rfl⟩:=ha;unfold Db at ht;split at ht
 ·simp only[Ag,B3]at ht;obtain⟨rfl,rfl⟩:=ht;exact Jb
 ·simp only[Ag,B3]at ht;obtain⟨rfl,rfl⟩:=ht;exact Jb
 ·split at ht
  case h_2=>simp at ht
  split at ht
  case isFalse=>simp at ht
  simp only[Ag,B3]at ht;obtain⟨rfl,rfl⟩:=ht;simp only[Bw,O0,MR,Ow];refine⟨by omega,λid hid=>?_⟩;rw[Kz,MR];split at hid
  ·rw [A4 (by omega),L7,A4 (by omega)]
  ·rw [A4 (by omega),L7,A4 (by omega)]
 ·simp at ht
theorem aC{h h':A0}{vc:List PV}{p:PV}(hw:wr h vc p=some h'):Bw (some (Sh p)) h h':=by
 cases p with
 |ptr id i f=>
  simp only[wr]at hw;split at hw
  ·split at hw
   ·split at hw
    ·simp at hw;subst hw;exact KL
    ·simp at hw
   ·simp at hw
  ·simp at hw
 |_=>simp[wr]at hw
theorem aD{P:Program}{ow:Bool}{op:Op}{ρ:Operand->PV}{h h':A0}{v:PV}(he:AQ P ow op ρ h=some (v,h')):Bw (some (NA op ρ h)) h h':=by
  unfold AQ at he;split at he;all_goals(repeat'(split at he))
  all_goals first
    |(simp[IJ,Ck]at he;done)
    |(simp only[Ag,B3]at he;obtain⟨_,rfl⟩:=he;exact Ox)
    |(simp only[Ag,B3]at he;obtain⟨_,rfl⟩:=he;exact Jb)
    |(simp only[Ck,B3]at he;obtain⟨_,_,_,rfl⟩:=he;exact Ox)
    |(simp[IJ,Ck]at he;grind [Ox,Jb,KL])
    | (simp only [IJ] at he
       obtain⟨_,_,he⟩:=he
       (first
         | (split at he
            · simp only[Ag,B3]at he;obtain⟨_,rfl⟩:=he;exact Jb
            · simp at he)
         | (obtain ⟨_, _, he⟩ := he
            split at he
            · simp only [IJ] at he;obtain⟨_,_,he⟩:=he;simp only[Ag,B3]at he;obtain⟨_,rfl⟩:=he;exact Jb
            · simp at he)
         | (obtain ⟨_, _, _, _, _, _, he⟩ := he
            split at he
            · simp only[Ag,B3]at he;obtain⟨_,rfl⟩:=he;exact Jb
            · simp at he)
         | (split at he
            · simp only [Ck, B3] at he;obtain⟨_,hw,_,rfl⟩:=he;exact aC hw
            · simp at he)))
    |skip
  · rename_i hid _ _ _ _;simp only[IJ]at he;obtain⟨_,_,he⟩:=he;split at he
    · simp only [Ck, B3] at he;obtain⟨es',_,_,rfl⟩:=he;simp only[NA];simp only[*,Si];exact KL
    · simp at he
  · rename_i hl htu;simp only[IJ]at he;obtain⟨_,_,he⟩:=he;have:=aB he;simp only[NA];simp only[*]
mutual
def HS(n:Nat):PV->Bool
 | .sc _=>true
 | .ptr id _ _=>decide (id<n)
 | .cptr cs=>GV n cs
 | .own id _ _=>decide (id<n)
 | .imm _ rows=>LU n rows
 | .emp=>true
 | .mp id=>decide (id<n)
 | .agg cs=>GV n cs
 | .tup cs=>GV n cs
 | .fn _ a b=>GV n a&&GV n b
 | .ab _ _ _ _ _=>true
def GV(n:Nat):List PV->Bool
 |[]=>true
 |p::ps=>HS n p&&GV n ps
def LU(n:Nat):List (List PV)->Bool
 |[]=>true
 |r::rs=>GV n r&&LU n rs
end
mutual
theorem aE{n:Nat}:(p:PV)->HS n p=true->BD n p
 | .sc _,_=>by simp only[BD]
 | .ptr _ _ _,h=>by simp only[HS,BQ]at h;simpa only[BD]using h
 | .cptr cs,h=>by simp only[HS]at h;simp only[BD];exact HT cs h
 | .own _ _ _,h=>by simp only[HS,BQ]at h;simpa only[BD]using h
 | .imm _ rows,h=>by simp only[HS]at h;simp only[BD];exact Oy rows h
 | .emp,_=>by simp only[BD]
 | .mp _,h=>by simp only[HS,BQ]at h;simpa only[BD]using h
 | .agg cs,h=>by simp only[HS]at h;simp only[BD];exact HT cs h
 | .tup cs,h=>by simp only[HS]at h;simp only[BD];exact HT cs h
 | .fn _ a b,h=>by simp only[HS,AT]at h;simp only[BD];exact⟨HT a h.1,HT b h.2⟩
 | .ab _ _ _ _ _,_=>by simp only[BD]
theorem HT{n:Nat}:(l:List PV)->GV n l=true->BZ n l
 |[],_=>by simp only[BZ]
 |p::ps,h=>by simp only[GV,AT]at h;simp only[BZ];exact⟨aE p h.1,HT ps h.2⟩
theorem Oy{n:Nat}:(l:List (List PV))->LU n l=true->BG n l
 |[],_=>by simp only[BG]
 |p::ps,h=>by simp only[LU,AT]at h;simp only[BG];exact⟨HT p h.1,Oy ps h.2⟩
end
mutual
def LV(h':A0)(n:Nat):Nat->PV->Option PV
 |0,_=>none
 |k+1,p=>match p with
  | .sc v=>some (.sc v)
  | .ptr id i f=>if id<n then some (.ptr id i f)else match h'.obj id with
   |some (.arr _ rows)=>(match rows[i]? with
    |some q=>(I6 h' n k (q.drop f)).map .cptr
    |none=>none)
   |_=>none
  | .own id off len=>if id<n then some (.own id off len)else match h'.obj id with
   |some (.arr z rows)=>if off+len<=rows.length then(KM h' n k ((rows.drop off).take len)).map (.imm z)else none
   |_=>none
  | .imm z rows=>if LU n rows=true then some (.imm z rows)else none
  | .cptr cs=>if GV n cs=true then some (.cptr cs)else none
  | .emp=>some .emp
  | .mp id=>if id<n then some (.mp id)else none
  | .agg cs=>(I6 h' n k cs).map .agg
  | .tup cs=>(I6 h' n k cs).map .tup
  | .fn f a b=>if(GV n a&&GV n b)=true then some (.fn f a b)else none
  | .ab k lo hi m r=>some (.ab k lo hi m r)
def I6(h':A0)(n:Nat):Nat->List PV->Option (List PV)
 |0,_=>none
 |_+1,[]=>some []
 |k+1,p::ps=>match LV h' n k p with
  |some q=>(I6 h' n k ps).map (q::·)
  |none=>none
def KM(h':A0)(n:Nat):Nat->List (List PV)->Option (List (List PV))
 |0,_=>none
 |_+1,[]=>some []
 |k+1,p::ps=>match I6 h' n k p with
  |some q=>(KM h' n k ps).map (q::·)
  |none=>none
end
mutual
theorem Sj{h':A0}{n:Nat}: ∀ (k:Nat)(p:PV){r:PV},LV h' n k p=some r->AZ n h' r p
 |0,_,_,h=>by simp[LV]at h
 |k+1,p,r,h=>by
  unfold LV at h;split at h
  ·simp at h;subst h;simp only[AZ]
  ·split at h
   ·rename_i hid;simp at h;subst h;simp only[AZ];exact⟨trivial,hid⟩
   ·rename_i id i f hid;split at h
    ·rename_i z rows hob;split at h
     ·rename_i q hq;simp only[Ck]at h;obtain⟨cs,hc,rfl⟩:=h;simp only[AZ];exact .inr ⟨id,i,f,z,rows,q,rfl,by omega,hob,hq,LW k _ hc⟩
     ·simp at h
    ·simp at h
  ·split at h
   ·rename_i hid;simp at h;subst h;simp only[AZ];exact⟨trivial,hid⟩
   ·rename_i id off len hid;split at h
    ·rename_i z rows hob;split at h
     ·rename_i hle;simp only[Ck]at h;obtain⟨rs,hc,rfl⟩:=h;simp only[AZ];exact .inr (.inr ⟨id,off,len,rows,rfl,by omega,hob,hle,Sk k _ hc⟩)
     ·simp at h
    ·simp at h
  ·split at h
   ·rename_i hi;simp at h;subst h;simp only[AZ];exact .inl ⟨trivial,Oy _ hi⟩
   ·simp at h
  ·split at h
   ·rename_i hi;simp at h;subst h;simp only[AZ];exact .inl ⟨trivial,HT _ hi⟩
   ·simp at h
  ·simp at h;subst h;simp only[AZ]
  ·split at h
   ·rename_i hid;simp at h;subst h;simp only[AZ];exact⟨trivial,hid⟩
   ·simp at h
  ·simp only[Ck]at h;obtain⟨cs,hc,rfl⟩:=h;simp only[AZ];exact⟨_,rfl,LW k _ hc⟩
  ·simp only[Ck]at h;obtain⟨cs,hc,rfl⟩:=h;simp only[AZ];exact⟨_,rfl,LW k _ hc⟩
  ·split at h
   ·rename_i hi;simp only[AT]at hi;simp at h;subst h;simp only[AZ];exact⟨trivial,HT _ hi.1,HT _ hi.2⟩
   ·simp at h
  ·simp at h;subst h;simp only[AZ]
theorem LW{h':A0}{n:Nat}: ∀ (k:Nat)(l:List PV){r:List PV},I6 h' n k l=some r->B4 n h' r l
 |0,_,_,h=>by simp[I6]at h
 |k+1,[],r,h=>by simp[I6]at h;subst h;simp only[B4]
 |k+1,p::ps,r,h=>by
  unfold I6 at h;split at h
  ·rename_i q hq;simp only[Ck]at h;obtain⟨qs,hc,rfl⟩:=h;simp only[B4];exact⟨Sj k p hq,LW k ps hc⟩
  ·simp at h
theorem Sk{h':A0}{n:Nat}: ∀ (k:Nat)(l:List (List PV)){r:List (List PV)},KM h' n k l=some r->D5 n h' r l
 |0,_,_,h=>by simp[KM]at h
 |k+1,[],r,h=>by simp[KM]at h;subst h;simp only[D5]
 |k+1,p::ps,r,h=>by
  unfold KM at h;split at h
  ·rename_i q hq;simp only[Ck]at h;obtain⟨qs,hc,rfl⟩:=h;simp only[D5];exact⟨LW k p hq,Sk k ps hc⟩
  ·simp at h
end
def Sm(q:Option Nat)(n:Nat):Bool:=match q with
 |none=>true
 |some t=>decide (n<=t)
def Oz:Option (Exit × A8 × Option Nat × A0)->Option (A8 × Option Nat × A0)
 |some (.normal,r)=>some r
 |some (.ret,r)=>some r
 |_=>none
theorem aF{x:Option (Exit × A8 × Option Nat × A0)}{r:A8 × Option Nat × A0}(h:Oz x=some r): ∃ e,(e= .normal\/e= .ret)/\x=some (e,r):=by
 unfold Oz at h;split at h
 ·simp at h;subst h;exact⟨_,.inl rfl,rfl⟩
 ·simp at h;subst h;exact⟨_,.inr rfl,rfl⟩
 ·simp at h
abbrev Dg:=FuncId->List PV->A0->Option (PV × Option Nat × A0)
section
variable (P:Program)(wf:FuncId->Bool)(own:FuncId->Nat->Bool)(BU:FuncId->List PV->A0->Option PV)
def Il(call:Dg)(ow:Nat->Bool)(o:Oper)(ρ:Operand->PV)(h:A0):Option (PV × Option Nat × A0):=
 match callee ρ o.op with
 |some (f,args)=>call f args h
 |none=>match AQ P (o.dst.any ow) o.op ρ h with
  |some (v,h')=>some (v,(if Ax ow wf o=true then some (NA o.op ρ h)else none),h')
  |none=>none
def Jc(call:Dg)(ow:Nat->Bool)(o:Oper)(ρ:Operand->PV)(h:A0)(v:PV):Bool:=
 match Il P wf call ow o ρ h with
 |some (v',q,_)=>q.isNone&&Ew v' v
 |none=>false
def KN(call:Dg)(ow:Nat->Bool)(n:Nat)(ops:List Oper):List Oper->A8->Option Nat->A0->Option (A8 × Option Nat × A0)
 |[],s,q,h=>some (s,q,h)
 | o :: rest, s, q, h => if o.dst.all (λd => decide (d < n)) = true then
   match Bt ops s o with
   |none=>none
   |some false=>KN call ow n ops rest (AW s o.dst (.sc undef)) q h
   |some true=>match Il P wf call ow o (A6 s) h with
    |some (v,q',h')=>KN call ow n ops rest (AW s o.dst v) (GU q q') h'
    |none=>none
  else none
def P0(call:Dg)(ow:Nat->Bool)(id:Nat)(o:Oper)(ρ:Operand->PV)(h:A0):Option (PV × Option Nat × A0):=
 match o.op with
 | .alloc t=>match CI P t with
  |some zs=>if 0<zs.length then some (.ptr id 0 0,some id,h.set id (.arr zs.length [zs.map .sc]))else none
  |none=>none
 |_=>Il P wf call ow o ρ h
def Jd(call:Dg)(ow:Nat->Bool)(n:Nat)(ops:List Oper):Nat->List Oper->List (Nat × Oper × A8 × PV)->List (Nat × A0)->A8->Option Nat->A0->Option (A8 × Option Nat × A0)
 |_,[],_,_,s,q,h=>some (s,q,h)
 | k, o :: rest, past, hist, s, q, h => if o.dst.all (λd => decide (d < n)) = true then
   match Bt ops s o with
   |none=>none
   |some false=>Jd call ow n ops (k+1) rest past hist (AW s o.dst (.sc undef)) q h
   |some true=>match Il P wf call ow o (A6 s) h with
    |none=>none
    |some (v,q',h')=>
     if Ax ow wf o=true then
      (if past.all (λx=>pre ops x.1 k||Jc P wf call ow x.2.1 (A6 x.2.2.1) h' x.2.2.2)=true then Jd call ow n ops (k+1) rest past ((k,h)::hist) (AW s o.dst v) (GU q q') h' else none)
     else if q'.isNone=true then
      (if hist.all (λx=>pre ops x.1 k||Jc P wf call ow o (A6 s) x.2 v)=true then Jd call ow n ops (k+1) rest ((k,o,s,v)::past) hist (AW s o.dst v) q h else none)
     else none
  else none
def Je(call:Dg)(ow:Nat->Bool)(n:Nat)(ops:List Oper)(base:Nat):Nat->List Oper->List (Nat × Oper × A8 × PV)->List (Nat × A0)->A8->Option Nat->A0->Option (A8 × Option Nat × A0)
 |_,[],_,_,s,q,h=>some (s,q,h)
 | k, o :: rest, past, hist, s, q, h => if o.dst.all (λd => decide (d < n)) = true then
   match Bt ops s o with
   |none=>none
   |some false=>Je call ow n ops base (k+1) rest past hist (AW s o.dst (.sc undef)) q h
   |some true=>match P0 P wf call ow (base+k) o (A6 s) h with
    |none=>none
    |some (v,q',h')=>
     if Ax ow wf o=true then
      (if(past.all (λx=>pre ops x.1 k||Jc P wf call ow x.2.1 (A6 x.2.2.1) h' x.2.2.2)&&((List.range ops.length).all λf=>!(decide (k<f)&&E3 ops f)||(h'.obj (base+f)).isNone))=true then Je call ow n ops base (k+1) rest past ((k,h)::hist) (AW s o.dst v) (GU q q') h' else none)
     else if q'.isNone=true then
      (if hist.all (λx=>pre ops x.1 k||Jc P wf call ow o (A6 s) x.2 v)=true then Je call ow n ops base (k+1) rest ((k,o,s,v)::past) hist (AW s o.dst v) q h else none)
     else none
  else none
structure Rc where
 s:A8
 h:A0
 v:PV
 l:Option (Nat × Ae)
 b:Bool
def KO(ops:List Oper)(x f:Nat):Bool:=!(x==f)&&!(pre ops x f)&&!(pre ops f x)
def NB(ow:Nat->Bool)(ops:List Oper)(k:Nat):List Nat:=(List.range ops.length).filter λf=>decide (k<f)&&(ops[f]?).any (BY ow)
def Dx(ow:Nat->Bool)(ops:List Oper)(base k:Nat)(ls:List (Nat × Nat)):List Nat:=(ls.filterMap λp=>if KO ops k p.1=true then some p.2 else none)++(NB ow ops k).map (base+·)
def x4(call:Dg)(ow:Nat->Bool)(ops:List Oper)(base k:Nat)(ls:List (Nat × Nat))(o:Oper)(s:A8)(h:A0):Option (PV × Option Nat × A0 × Option (Nat × Ae)× Bool):=
 if Ax ow wf o=true then
  (if BY ow o = true then (match DP P ow (base + k) o (A6 s) with
   |some (v,ob)=>some (v,some (base+k),h.set (base+k) ob,some (base+k,ob),false)
   |none=>none)
  else match o.op with
   | .store t x y=>(match A6 s x with
    | .ptr id _ _=>(match AQ P (o.dst.any ow) (.store t x y) (A6 s) h with
     |some (v,h')=>(match h'.obj id with
      |some ob=>some (v,some id,h.set id ob,some (id,ob),false)
      |none=>none)
     |none=>none)
    |_=>none)
   |_=>(match Il P wf call ow o (A6 s) (As h (Dx ow ops base k ls))with
    |some (v,q,h')=>if((Dx ow ops base k ls).all (λid=>(h'.obj id).isNone)&&(NB ow ops k).all (λf=>(h.obj (base+f)).isNone))=true then some (v,q,Bk h' h (Dx ow ops base k ls),none,true)else none
    |none=>none))
 else match Il P wf call ow o (A6 s) (As h (Dx ow ops base k ls))with
  |some (v,q,_)=>if q.isNone=true then some (v,none,h,none,false)else none
  |none=>none
def Jf(k:Nat)(l:Option (Nat × Ae))(ls:List (Nat × Nat)):List (Nat × Nat):=match l with
 |some p=>(k,p.1)::ls
 |none=>ls
def Jg(call:Dg)(ow:Nat->Bool)(n:Nat)(ops:List Oper)(base:Nat):Nat->List Oper->List (Nat × Nat)->A8->Option Nat->A0->Option (List Rc × A8 × Option Nat × A0)
 |_,[],_,s,q,h=>some ([],s,q,h)
 | k, o :: rest, ls, s, q, h => if o.dst.all (λd => decide (d < n)) = true then
   match Bt ops s o with
   |none=>none
   |some false=>(Jg call ow n ops base (k+1) rest ls (AW s o.dst (.sc undef)) q h).map λr=>(⟨s,h,.emp,none,false⟩::r.1,r.2)
   |some true=>match x4 P wf call ow ops base k ls o s h with
    |none=>none
    |some (v,q',h',l,b)=>(Jg call ow n ops base (k+1) rest (Jf k l ls) (AW s o.dst v) (GU q q') h').map λr=>(⟨s,h,v,l,b⟩::r.1,r.2)
  else none
def gS(rs:List Rc)(sf:A8)(j:Nat):A8:=match rs[j]? with|some r=>r.s|none=>sf
def gH(rs:List Rc)(hf:A0)(j:Nat):A0:=match rs[j]? with|some r=>r.h|none=>hf
def gV(rs:List Rc)(j:Nat):PV:=match rs[j]? with|some r=>r.v|none=> .emp
def gL(rs:List Rc)(j:Nat):Option (Nat × Ae):=match rs[j]? with|some r=>r.l|none=>none
def gB(rs:List Rc)(j:Nat):Bool:=match rs[j]? with|some r=>r.b|none=>false
def HU(n:Nat)(p:Nat->Bool):Bool:=(List.range n).all p
def aG(ow:Nat->Bool)(ops:List Oper)(lt:Nat->Option (Nat × Ae))(br:Nat->Bool):Bool:=
 HU ops.length λj=>!(br j||(lt j).isSome)||HU j λi=>!(br i||(lt i).isSome)||pre ops i j||(match lt i,lt j with|some p,some q=>!(p.1==q.1)|_,_=>false)||(br i&&(lt j).isSome&&(ops[j]?).any (BY ow))||((lt i).isSome&&br j&&(ops[i]?).any (BY ow))
def aH(ow:Nat->Bool)(ops:List Oper)(base:Nat)(hk:Nat->A0)(lt:Nat->Option (Nat × Ae))(br:Nat->Bool):Bool:=
 HU ops.length λj=>(!(br j||(lt j).isSome))||HU ops.length λf=>!(decide (j<f)&&(ops[f]?).any (BY ow))||(if br j=true then((hk (j+1)).obj (base+f)).isNone else match lt j with|some p=>!(base+f==p.1)|none=>true)
def Sn(o:Oper):Bool:=match o.op with
 | .store _ _ _=>true
 |_=>false
def aI(br:Nat->Bool)(k:Nat):Nat:=Cf br k
def P4(ops:List Oper)(br:Nat->Bool)(x M:Nat):Bool:=(M==0||br (M-1))&&HU ops.length λb=>!(br b)||(if b<M then !(pre ops x b)else !(pre ops b x))
def aJ(ops:List Oper)(k:Nat):Bool:=HU ops.length λf=>!(decide (k<f)&&(ops[f]?).any Sn&&KO ops k f)
def aK(call:Dg)(ow:Nat->Bool)(ops:List Oper)(sk:Nat->A8)(hk:Nat->A0)(vk:Nat->PV)(lt:Nat->Option (Nat × Ae))(br:Nat->Bool):Bool:=
 HU ops.length λk=>match ops[k]? with
  |none=>true
  |some o=>Ax ow wf o||(match Bt ops (sk k) o with
   |some true=>HU (ops.length+1) λM=>!(P4 ops br k M)||((M==aI br k)&&aJ ops k)||Jc P wf call ow o (A6 (sk k)) (gx ops lt hk k M (kx ow ops lt k)) (vk k)
   |_=>true)
def P5(call:Dg)(ow:Nat->Bool)(n:Nat)(ops:List Oper)(base:Nat)(s:A8)(q:Option Nat)(h:A0):Option (A8 × Option Nat × A0):=
 match Jg P wf call ow n ops base 0 ops [] s q h with
 |none=>none
 |some (rs,sf,qf,hf)=>if(aG ow ops (gL rs) (gB rs)&&aH ow ops base (gH rs hf) (gL rs) (gB rs)&&aK P wf call ow ops (gS rs sf) (gH rs hf) (gV rs) (gL rs) (gB rs))=true then some (sf,qf,hf)else none
def Gp(call:Dg)(ow:Nat->Bool)(n:Nat):Nat->Code->A8->Option Nat->A0->Option (Exit × A8 × Option Nat × A0)
 |0,_,_,_,_=>none
 |k+1,c,s,q,h=>match c with
  | .skip=>some (.normal,s,q,h)
  | .region _ ops true => if HC ow wf ops.toList = true then (Jd P wf call ow n ops.toList 0 ops.toList [] [] s q h).map (Exit.normal, ·)
    else if Kl ow wf ops.toList=true then(Je P wf call ow n ops.toList h.next 0 ops.toList [] [] s (GU q (some h.next)) ⟨h.next+ops.toList.length,h.obj⟩).map (Exit.normal,·)
    else if J8 ops.toList=true then(P5 P wf call ow n ops.toList h.next s (GU q (some h.next)) ⟨h.next+ops.toList.length,h.obj⟩).map (Exit.normal,·)else none
  | .region _ ops false=>(KN P wf call ow n ops.toList ops.toList s q h).map (Exit.normal,·)
  | .seq a b=>match Gp call ow n k a s q h with
   |some (.normal,s',q',h')=>Gp call ow n k b s' q' h'
   |r=>r
  | .cond c x y=>match A6 s c with
   | .sc (.bool true)=>Gp call ow n k x s q h
   | .sc (.bool false)=>Gp call ow n k y s q h
   |_=>none
  | .block id c=>match Gp call ow n k c s q h with
   |some (.exit id',s',q',h')=>some (if id'=id then .normal else .exit id',s',q',h')
   |r=>r
  | .loop c=>match Gp call ow n k c s q h with
   |some (.normal,s',q',h')=>Gp call ow n k (.loop c) s' q' h'
   |r=>r
  | .exit id=>some (.exit id,s,q,h)
  | .ret=>some (.ret,s,q,h)
  |_=>none
def LY(keep:FuncId->Bool)(m:Nat):Nat->Dg
  |0,_,_,_=>none
  |k+1,f,args,h=>match BU f args h with
   |some r=>some (r,none,h)
   |none=>match P.funcs[f]? with
    |none=>none
    |some fn=>if Af P f=true/\args.length<=fn.ntmps then match fn.body with
        |none=>none
        |some c=>match Oz (Gp P wf (LY keep m k) (own f) fn.ntmps m c (J9 args) none h)with
          |some (s,q,h')=>match F6 P s h' fn.results.toList with
            |none=>none
            |some vs=>if(!(keep f)&&Sm q h.next)=true then(match LV h' h.next 1000 (EV vs)with
                |some r=>some (r,none,h)
                |none=>some (EV vs,q,h'))else some (EV vs,q,h')
          |none=>none
      else none
end
section
variable {P:Program}{wf:FuncId->Bool}{own:FuncId->Nat->Bool}
def P6(P:Program)(BU:FuncId->List PV->A0->Option PV):Prop:= ∀ f args r h,BU f args h=some r->AA P f args h (λr' h'=>r'=r/\h'=h)
def Gq(P:Program)(call:Dg):Prop:= ∀ f args h v q h',call f args h=some (v,q,h')->AA P f args h (λr h''=>r=v/\h''=h')/\Bw q h h'
theorem KP{call:Dg}(hk:Gq P call){ow:Nat->Bool}{o:Oper}{ρ:Operand->PV}{h h':A0}{v:PV}{q:Option Nat}(hx:Il P wf call ow o ρ h=some (v,q,h')):Ad P ow o ρ h v h'/\Bw q h h':=by
 unfold Il at hx;unfold Ad;split at hx
 ·rename_i f args hc;rw[hc];exact hk _ _ _ _ _ _ hx
 ·rename_i hc;rw[hc];split at hx
  ·rename_i v1 h1 he;simp only[Ag,B3]at hx;obtain⟨rfl,rfl,rfl⟩:=hx;refine⟨he,?_⟩;split
   ·exact aD he
   ·rename_i hw;exact Yq (by simpa using hw) hc he
  ·simp at hx
theorem LZ{call:Dg}(hk:Gq P call){ow:Nat->Bool}{o:Oper}{ρ:Operand->PV}{h:A0}{v:PV}(hx:Jc P wf call ow o ρ h v=true):Ad P ow o ρ h v h:=by
 unfold Jc at hx;split at hx
 ·rename_i v' q h' hp;simp only[AT,Nf]at hx;obtain⟨rfl,hx⟩:=hx;obtain⟨h1,h2⟩:=KP hk hp;simp only[Bw]at h2;rw[h2,OQ _ _ hx]at h1;exact h1
 ·simp at hx
theorem P7{call:Dg}(hk:Gq P call){ow:Nat->Bool}{n:Nat}{ops:List Oper}{K:A8->A0->Prop}: ∀ (l:List Oper){s s':A8}{q q':Option Nat}{h h':A0},KN P wf call ow n ops l s q h=some (s',q',h')->
  (K s' h'->DH P ow n ops l K s h)/\(∀ h0,Bw q h0 h->Bw q' h0 h')
 |[],s,s',q,q',h,h',hx=>by
  simp only[KN,Ag,B3]at hx;obtain⟨rfl,rfl,rfl⟩:=hx;exact⟨λhK=>hK,λh0 hq=>hq⟩
 |o::rest,s,s',q,q',h,h',hx=>by
  unfold KN at hx;split at hx
  ·rename_i hd;unfold DH;split at hx
   ·simp at hx
   ·rename_i hw;obtain⟨h1,h2⟩:=P7 (K:=K) hk rest hx;rw[hw];exact⟨λhK=>⟨hd,by simpa using h1 hK⟩,h2⟩
   ·rename_i hw;split at hx
    ·rename_i v q1 h1 hp;obtain⟨d1,d2⟩:=KP hk hp;obtain⟨g1,g2⟩:=P7 (K:=K) hk rest hx;rw[hw];exact⟨λhK=>⟨hd,by simpa using d1.owp (g1 hK)⟩,λh0 hq=>g2 h0 (hq.trans d2)⟩
    ·simp at hx
  ·simp at hx
theorem NC{call:Dg}(hk:Gq P call){ow:Nat->Bool}{n:Nat}{ops:List Oper}{K:A8->A0->Prop}: ∀ (l:List Oper)(k:Nat){past:List (Nat × Oper × A8 × PV)}{hist:List (Nat × A0)}{s s':A8}{q q':Option Nat}{h h':A0},Jd P wf call ow n ops k l past hist s q h=some (s',q',h')->
  (K s' h'->Cn P ow wf n ops k l (past.map λx=>(x.1,λh2=>Ad P ow x.2.1 (A6 x.2.2.1) h2 x.2.2.2 h2)) hist K s h)/\(∀ h0,Bw q h0 h->Bw q' h0 h')
 |[],k,past,hist,s,s',q,q',h,h',hx=>by
  simp only[Jd,Ag,B3]at hx;obtain⟨rfl,rfl,rfl⟩:=hx;exact⟨λhK=>hK,λh0 hq=>hq⟩
 |o::rest,k,past,hist,s,s',q,q',h,h',hx=>by
  unfold Jd at hx;split at hx
  ·rename_i hd;unfold Cn;split at hx
   ·simp at hx
   ·rename_i hw;obtain⟨h1,h2⟩:=NC (K:=K) hk rest (k+1) hx;rw[hw];exact⟨λhK=>⟨hd,by simpa using h1 hK⟩,h2⟩
   ·rename_i hw;split at hx
    ·simp at hx
    ·rename_i v q1 h1 hp;obtain⟨d1,d2⟩:=KP hk hp;rw[hw];split at hx
     ·rename_i hiw;split at hx
      ·rename_i hpast;obtain⟨g1,g2⟩:=NC (K:=K) hk rest (k+1) hx;refine⟨λhK=>⟨hd,?_⟩,λh0 hq=>g2 h0 (hq.trans d2)⟩
       ·simp only[hiw,AC];refine⟨v,h1,d1,?_,g1 hK⟩;intro x hx1;obtain⟨y,hy,rfl⟩:=List.mem_map.1 hx1;have:=List.all_eq_true.1 hpast y hy;simp only[Cc]at this;exact this.imp id (λt=>LZ hk t)
      ·simp at hx
     ·rename_i hiw;split at hx
      ·rename_i hq1;split at hx
       ·rename_i hhist;obtain⟨g1,g2⟩:=NC (K:=K) hk rest (k+1) hx;refine⟨λhK=>⟨hd,?_⟩,g2⟩;simp only[hiw,AC,Ap,AD];have e1:h1=h:=(by rw[Nf]at hq1;subst hq1;exact d2);subst e1;refine⟨v,d1,?_,g1 hK⟩;intro x hx1;have:=List.all_eq_true.1 hhist x hx1;simp only[Cc]at this;exact this.imp id (λt=>LZ hk t)
       ·simp at hx
      ·simp at hx
  ·simp at hx
theorem aL{call:Dg}(hk:Gq P call){ow:Nat->Bool}{id:Nat}{o:Oper}{ρ:Operand->PV}{h h':A0}{v:PV}{q:Option Nat}(hx:P0 P wf call ow id o ρ h=some (v,q,h')):FX P ow id o ρ h v h'/\Bw q h h':=by
 unfold P0 at hx;unfold FX;split at hx
 ·rename_i t hop;simp only[hop];split at hx
  ·rename_i zs hz;split at hx
   ·rename_i hpos;simp only[Ag,B3]at hx;obtain⟨rfl,rfl,rfl⟩:=hx;exact⟨⟨zs,hz,hpos,rfl,rfl⟩,KL⟩
   ·simp at hx
  ·simp at hx
 ·rename_i hop;obtain⟨d1,d2⟩:=KP hk hx;refine⟨?_,d2⟩;split
  ·rename_i t he;exact(hop t he).elim
  ·exact d1
theorem ND{call:Dg}(hk:Gq P call){ow:Nat->Bool}{n base:Nat}{ops:List Oper}{K:A8->A0->Prop}: ∀ (l:List Oper)(k:Nat){past:List (Nat × Oper × A8 × PV)}{hist:List (Nat × A0)}{s s':A8}{q q':Option Nat}{h h':A0},Je P wf call ow n ops base k l past hist s q h=some (s',q',h')->
  (K s' h'->EE P ow wf n ops base k l (past.map λx=>(x.1,λh2=>Ad P ow x.2.1 (A6 x.2.2.1) h2 x.2.2.2 h2)) hist K s h)/\(∀ h0,Bw q h0 h->Bw q' h0 h')
 |[],k,past,hist,s,s',q,q',h,h',hx=>by
  simp only[Je,Ag,B3]at hx;obtain⟨rfl,rfl,rfl⟩:=hx;exact⟨λhK=>hK,λh0 hq=>hq⟩
 |o::rest,k,past,hist,s,s',q,q',h,h',hx=>by
  unfold Je at hx;split at hx
  ·rename_i hd;unfold EE;split at hx
   ·simp at hx
   ·rename_i hw;obtain⟨h1,h2⟩:=ND (K:=K) hk rest (k+1) hx;rw[hw];exact⟨λhK=>⟨hd,by simpa using h1 hK⟩,h2⟩
   ·rename_i hw;split at hx
    ·simp at hx
    ·rename_i v q1 h1 hp;obtain⟨d1,d2⟩:=aL hk hp;rw[hw];split at hx
     ·rename_i hiw;split at hx
      ·rename_i hpn;simp only[AT]at hpn;obtain⟨hpast,hnone⟩:=hpn;obtain⟨g1,g2⟩:=ND (K:=K) hk rest (k+1) hx;refine⟨λhK=>⟨hd,?_⟩,λh0 hq=>g2 h0 (hq.trans d2)⟩
       ·simp only[hiw,AC];refine⟨v,h1,d1,λf hf ha=>?_,?_,g1 hK⟩
        ·have hfl:f<ops.length:=by
          unfold E3 at ha;split at ha
          ·rename_i hq;exact(List.getElem?_eq_some_iff.1 hq).1
          ·simp at ha
         have:=List.all_eq_true.1 hnone f (List.mem_range.2 hfl);simpa[hf,ha]using this
        intro x hx1;obtain⟨y,hy,rfl⟩:=List.mem_map.1 hx1;have:=List.all_eq_true.1 hpast y hy;simp only[Cc]at this;exact this.imp id (λt=>LZ hk t)
      ·simp at hx
     ·rename_i hiw;split at hx
      ·rename_i hq1;split at hx
       ·rename_i hhist;obtain⟨g1,g2⟩:=ND (K:=K) hk rest (k+1) hx;refine⟨λhK=>⟨hd,?_⟩,g2⟩;simp only[hiw,AC,Ap,AD];have e1:h1=h:=(by rw[Nf]at hq1;subst hq1;exact d2);subst e1;refine⟨v,(Nv (by simpa using hiw)).1 d1,?_,g1 hK⟩;intro x hx1;have:=List.all_eq_true.1 hhist x hx1;simp only[Cc]at this;exact this.imp id (λt=>LZ hk t)
       ·simp at hx
      ·simp at hx
  ·simp at hx
theorem Im{n:Nat}{p:Nat->Bool}:HU n p=true↔ ∀ i,i<n->p i=true:=by simp[HU]
structure S4(P:Program)(ow:Nat->Bool)(wf:FuncId->Bool)(n:Nat)(ops:List Oper)(base:Nat)(k:Nat)(o:Oper)(s s':A8)(h h':A0)(v:PV)(l:Option (Nat × Ae))(b:Bool)(ls:List (Nat × Nat)):Prop where
 dst:o.dst.all (λd=>decide (d<n))=true
 ok: ∃ w,Bt ops s o=some w/\(w=false->s'=AW s o.dst (.sc undef)/\h'=h/\l=none/\b=false)/\
  (w = true -> s' = AW s o.dst v /\
   (Ax ow wf o=false->h'=h/\l=none/\b=false/\Ad P ow o (A6 s) (As h (Dx ow ops base k ls)) v (As h (Dx ow ops base k ls)))/\
   (Ax ow wf o = true ->
    (b=true/\l=none/\ ∃ H',Ad P ow o (A6 s) (As h (Dx ow ops base k ls)) v H'/\(∀ id∈Dx ow ops base k ls,H'.obj id=none)/\h'=Bk H' h (Dx ow ops base k ls)/\ ∀ f∈NB ow ops k,h.obj (base+f)=none)\/
    (b=false/\BY ow o=true/\ ∃ ob,l=some (base+k,ob)/\DP P ow (base+k) o (A6 s)=some (v,ob)/\h'=h.set (base+k) ob)\/
    (b=false/\ ∃ t x y id r f ob,o.op= .store t x y/\A6 s x= .ptr id r f/\l=some (id,ob)/\h'=h.set id ob/\AQ P (o.dst.any ow) o.op (A6 s) h=some (v,h'))))
theorem aM{t:TypeId}{x y:Operand}{b:Bool}{ρ:Operand->PV}{H H':A0}{id r f:Nat}{ob:Ae}{v:PV}(hx:ρ x= .ptr id r f)(he:AQ P b (.store t x y) ρ H=some (v,H'))(ho:H'.obj id=some ob):H'=H.set id ob:=by
 simp only[AQ,IJ]at he;obtain⟨m,_,he⟩:=he;split at he
 ·simp only[Ck,B3,hx,wr]at he;obtain⟨h2,hw,_,rfl⟩:=he;split at hw
  ·split at hw
   ·split at hw
    ·simp at hw;subst hw;simp[A0.set]at ho;rw[ho]
    ·simp at hw
   ·simp at hw
  ·simp at hw
 ·simp at he
theorem aN{q:Option Nat}{h H':A0}{l:List Nat}(hn: ∀ id∈l,H'.obj id=none)(ht:Bw q (As h l) H'):Bw q h (Bk H' h l):=by
 cases q with
 |none=>
  simp only[Bw]at ht⊢;subst ht;exact Qg
 |some m=>
  simp only[Bw]at ht⊢;refine⟨ht.1,λid hid=>?_⟩;have h2:=ht.2 id hid;simp only[As]at h2;simp only[Bk];by_cases hc:id∈l
  ·have hc':l.contains id=true:=(by simpa using hc);cases ho:h.obj id with
   |none=>simp[hn id hc]
   |some o=>simp[hc]
  ·have hc':l.contains id=false:=(by simpa using hc);rw[A4 (by simp[hc])];rw[hc']at h2;simpa using h2
theorem aO{call:Dg}(hk:Gq P call){ow:Nat->Bool}{n:Nat}{ops:List Oper}{base k:Nat}{ls:List (Nat × Nat)}{o:Oper}{s:A8}{h h':A0}{v:PV}{q:Option Nat}{l:Option (Nat × Ae)}{b:Bool}(hd:o.dst.all (λd=>decide (d<n))=true)(hw:Bt ops s o=some true)(hx:x4 P wf call ow ops base k ls o s h=some (v,q,h',l,b)):
  S4 P ow wf n ops base k o s (AW s o.dst v) h h' v l b ls/\Bw q h h':=by
 unfold x4 at hx;split at hx
 ·rename_i hiw;split at hx
  ·rename_i hA;split at hx
   ·rename_i v1 ob ha;simp only[Ag,B3]at hx;obtain⟨rfl,rfl,rfl,rfl,rfl⟩:=hx;exact⟨⟨hd,true,hw,(λhc=>by cases hc),λ_=>⟨rfl,(λhc=>by rw[hiw]at hc;cases hc),λ_=> .inr (.inl ⟨rfl,hA,ob,rfl,ha,rfl⟩)⟩⟩,KL⟩
   ·simp at hx
  ·split at hx
   ·rename_i t x y hop;split at hx
    ·rename_i id r f hp;split at hx
     ·rename_i v1 h1 he;split at hx
      ·rename_i ob hob;simp only[Ag,B3]at hx;obtain⟨rfl,rfl,rfl,rfl,rfl⟩:=hx;have hs:=aM hp he hob;refine⟨⟨hd,true,hw,(λhc=>by cases hc),λ_=>⟨rfl,(λhc=>by rw[hiw]at hc;cases hc),λ_=> .inr (.inr ⟨rfl,t,x,y,id,r,f,ob,hop,hp,rfl,rfl,?_⟩)⟩⟩,KL⟩;rw[hop,he,hs]
      ·simp at hx
     ·simp at hx
    ·simp at hx
   ·split at hx
    ·rename_i v1 q1 h1 hp;split at hx
     ·rename_i hno;simp only[AT,List.all_eq_true,Nf]at hno;simp only[Ag,B3]at hx;obtain⟨rfl,rfl,rfl,rfl,rfl⟩:=hx;obtain⟨d1,d2⟩:=KP hk hp;exact⟨⟨hd,true,hw,(λhc=>by cases hc),λ_=>⟨rfl,(λhc=>by rw[hiw]at hc;cases hc),λ_=> .inl ⟨rfl,rfl,h1,d1,hno.1,rfl,hno.2⟩⟩⟩,aN hno.1 d2⟩
     ·simp at hx
    ·simp at hx
 ·rename_i hiw;split at hx
  ·rename_i v1 q1 h1 hp;split at hx
   ·rename_i hq;simp only[Ag,B3]at hx;obtain⟨rfl,rfl,rfl,rfl,rfl⟩:=hx;obtain⟨d1,d2⟩:=KP hk hp;rw[Nf]at hq;subst hq;simp only[Bw]at d2;subst d2;exact⟨⟨hd,true,hw,(λhc=>by cases hc),λ_=>⟨rfl,λ_=>⟨rfl,rfl,rfl,d1⟩,λhc=>by rw[hc]at hiw;simp at hiw⟩⟩,rfl⟩
   ·simp at hx
  ·simp at hx
def Dh(rs:List Rc):Nat->List (Nat × Nat)->Nat->List (Nat × Nat)
 |_,ls,0=>ls
 |k,ls,i+1=>match rs with
  |r::rs=>Dh rs (k+1) (Jf k r.l ls) i
  |[]=>ls
theorem So: ∀ (rs:List Rc)(k:Nat)(ls:List (Nat × Nat))(i f:Nat)(q:Nat × Ae),i<=rs.length->f<i->gL rs f=some q->(k+f,q.1)∈Dh rs k ls i:=by
 have keep: ∀ (rs:List Rc)(k:Nat)(ls:List (Nat × Nat))(i:Nat)(x:Nat × Nat),x∈ls->x∈Dh rs k ls i:=by
  intro rs
  induction rs with
  |nil=>intro k ls i x hx;cases i<;>simpa only[Dh]using hx
  |cons r rs ih=>
   intro k ls i x hx;cases i with
   |zero=>simpa only[Dh]using hx
   |succ i=>
    simp only[Dh];refine ih _ _ _ _ ?_;unfold Jf;split
    ·simp [hx]
    ·exact hx
 intro rs
 induction rs with
 |nil=>intro k ls i f q h1 h2 _;simp at h1;omega
 |cons r rs ih=>
  intro k ls i f q h1 h2 h3;cases i with
  |zero=>omega
  |succ i=>
   simp only[Dh];cases f with
   |zero=>
    refine keep _ _ _ _ _ ?_;simp only[gL,List.getElem?_cons_zero]at h3;unfold Jf;rw[h3];simp
   |succ f=>
    have:=ih (k+1) (Jf k r.l ls) i f q (by simp at h1;omega) (by omega) (by simpa only[gL,List.getElem?_cons_succ]using h3);rw[show k+(f+1)=k+1+f by omega];exact this
theorem Sp: ∀ (rs:List Rc)(k:Nat)(ls:List (Nat × Nat))(i:Nat)(x:Nat × Nat),x∈Dh rs k ls i->x∈ls\/ ∃ f q,f<i/\gL rs f=some q/\x=(k+f,q.1)
 |rs,k,ls,0,x,h=>by
  unfold Dh at h;exact .inl h
 |[],k,ls,i+1,x,h=>by
  simp only[Dh]at h;exact .inl h
 |r::rs,k,ls,i+1,x,h=>by
  simp only[Dh]at h;rcases Sp rs (k+1) _ i x h with h1|⟨f,q,h1,h2,h3⟩
  ·unfold Jf at h1;cases hl:r.l with
   |none=>rw[hl]at h1;exact .inl h1
   |some p=>
    rw[hl]at h1;simp only[List.mem_cons]at h1;rcases h1 with h1|h1
    ·exact .inr ⟨0,p,by omega,by simp only[gL,List.getElem?_cons_zero];exact hl,h1⟩
    ·exact .inl h1
  ·exact .inr ⟨f+1,q,by omega,by simpa only[gL,List.getElem?_cons_succ]using h2,by rw[h3];congr 1;omega⟩
theorem Sq{call:Dg}(hk:Gq P call){ow:Nat->Bool}{n:Nat}{ops:List Oper}{base:Nat}: ∀ (l:List Oper)(k:Nat){ls:List (Nat × Nat)}{s sf:A8}{q qf:Option Nat}{h hf:A0}{rs:List Rc},Jg P wf call ow n ops base k l ls s q h=some (rs,sf,qf,hf)->
  rs.length=l.length/\gS rs sf 0=s/\gH rs hf 0=h/\(∀ h0,Bw q h0 h->Bw qf h0 hf)/\
   ∀ i o,l[i]? =some o->S4 P ow wf n ops base (k+i) o (gS rs sf i) (gS rs sf (i+1)) (gH rs hf i) (gH rs hf (i+1)) (gV rs i) (gL rs i) (gB rs i) (Dh rs k ls i)
 |[],k,ls,s,sf,q,qf,h,hf,rs,hx=>by
  simp only[Jg,Ag,B3]at hx;obtain⟨rfl,rfl,rfl,rfl⟩:=hx;exact⟨rfl,rfl,rfl,λ_ hq=>hq,λi o ho=>by simp at ho⟩
 |o::rest,k,ls,s,sf,q,qf,h,hf,rs,hx=>by
  unfold Jg at hx;split at hx
  case isFalse=>simp at hx
  rename_i hd;have Cs: ∀ (v:PV)(q':Option Nat)(h':A0)(l:Option (Nat × Ae))(b:Bool)(s':A8)(rs':List Rc),rs=⟨s,h,v,l,b⟩::rs'->Jg P wf call ow n ops base (k+1) rest (Jf k l ls) s' (GU q q') h'=some (rs',sf,qf,hf)->S4 P ow wf n ops base k o s s' h h' v l b ls->Bw q' h h'->
    rs.length=(o::rest).length/\gS rs sf 0=s/\gH rs hf 0=h/\(∀ h0,Bw q h0 h->Bw qf h0 hf)/\
     ∀ i o',(o::rest)[i]? =some o'->S4 P ow wf n ops base (k+i) o' (gS rs sf i) (gS rs sf (i+1)) (gH rs hf i) (gH rs hf (i+1)) (gV rs i) (gL rs i) (gB rs i) (Dh rs k ls i):=by
   intro v q' h' l b s' rs' hrs hrec hS ht;obtain⟨g1,g2,g3,g4,g5⟩:=Sq hk rest (k+1) hrec;subst hrs;refine⟨by simp[g1],rfl,rfl,λh0 hq=>g4 h0 (hq.trans ht),λi o' ho'=>?_⟩;cases i with
   |zero=>
    simp at ho';subst ho';have e1:gS (⟨s,h,v,l,b⟩::rs') sf (0+1)=s':=g2;have e2:gH (⟨s,h,v,l,b⟩::rs') hf (0+1)=h':=g3;rw[e1,e2];exact hS
   |succ i=>
    have:=g5 i o' (by simpa using ho');rw[show k+(i+1)=k+1+i by omega];exact this
  split at hx
  ·simp at hx
  ·rename_i hw;simp only[Ck]at hx;obtain⟨⟨rs',sf',qf',hf'⟩,hrec,he⟩:=hx;simp only[B3]at he;obtain⟨h1,rfl,rfl,rfl⟩:=he;refine Cs .emp none h none false _ rs' h1.symm (by
    have:GU q none=q:=(by cases q<;>rfl);rw[this];exact hrec) ⟨hd,false,hw,(λ_=>⟨rfl,rfl,rfl,rfl⟩),λhc=>by cases hc⟩ rfl
  ·rename_i hw;split at hx
   ·simp at hx
   ·rename_i v q' h' l b hx4;simp only[Ck]at hx;obtain⟨⟨rs',sf',qf',hf'⟩,hrec,he⟩:=hx;simp only[B3]at he;obtain⟨h1,rfl,rfl,rfl⟩:=he;obtain⟨t1,t2⟩:=aO hk hd hw hx4;exact Cs v q' h' l b _ rs' h1.symm hrec t1 t2
theorem aP{call:Dg}(hk:Gq P call){ow:Nat->Bool}{n:Nat}{ops:List Oper}{s sf:A8}{q qf:Option Nat}{h hf:A0}(hpre: ∀ i j,j<ops.length->pre ops i j=true->i<j)(hx:P5 P wf call ow n ops h.next s q ⟨h.next+ops.length,h.obj⟩=some (sf,qf,hf)):
  (∀ K:A8->A0->Prop,K sf hf-> ∃ sk hk vk lt br,sk 0=s/\hk 0=⟨h.next+ops.length,h.obj⟩/\K (sk ops.length) (hk ops.length)/\CL P ow wf n ops h.next sk hk vk lt br)/\(∀ h0,Bw q h0 ⟨h.next+ops.length,h.obj⟩->Bw qf h0 hf):=by
 unfold P5 at hx;split at hx
 ·simp at hx
 rename_i rs sf' qf' hf' hr;split at hx
 case isFalse=>simp at hx
 rename_i hc;simp only[Ag,B3]at hx;obtain⟨rfl,rfl,rfl⟩:=hx;simp only[AT]at hc;obtain⟨⟨hww,hlate⟩,hquiet⟩:=hc;obtain⟨hlen,g2,g3,g4,g5⟩:=Sq hk ops 0 hr;refine⟨λK hK=>⟨gS rs sf',gH rs hf',gV rs,gL rs,gB rs,g2,g3,?_,?_⟩,g4⟩
 ·have e1:gS rs sf' ops.length=sf':=by unfold gS;rw[List.getElem?_eq_none (by omega)]
  have e2:gH rs hf' ops.length=hf':=by unfold gH;rw[List.getElem?_eq_none (by omega)]
  rw[e1,e2];exact hK
 ·have late: ∀ j f o,j<ops.length->(gB rs j||(gL rs j).isSome)=true->j<f->ops[f]? =some o->BY ow o=true->(if gB rs j=true then((gH rs hf' (j+1)).obj (h.next+f)).isNone else match gL rs j with|some p=>!(h.next+f==p.1)|none=>true)=true:=by
   intro j f o hj hb hjf ho ha;have h1:=Im.1 hlate j hj;rw[hb]at h1;simp only[Ab,BL]at h1;have h2:=Im.1 h1 f (List.getElem?_eq_some_iff.1 ho).1;have h3:(decide (j<f)&&(ops[f]?).any (BY ow))=true:=(by rw[ho];simp[hjf,ha]);rw[h3]at h2;simpa using h2
  have segA: ∀ (M d:Nat),M+d<=ops.length->(∀ j,M<=j->j<M+d->gB rs j=false)->gH rs hf' (M+d)=C4 (gL rs) (λf=>decide (M<=f)) (gH rs hf' M) (M+d):=by
   intro M d
   induction d with
   |zero=>
    intro _ _;have:=JG (lt:=gL rs) (p:=λf=>decide (M<=f)) (H:=gH rs hf' M) (m:=0) M (λf _ hf _=>by simp;omega);rw[Bb]at this;rw[Eg,this];try rfl
   |succ d ih=>
    intro h1 h2;have ih:=ih (by omega) (λj a b=>h2 j a (by omega));have hS:=g5 (M+d) ops[M+d] (List.getElem?_eq_getElem (by omega));have hb:=h2 (M+d) (by omega) (by omega);obtain⟨w,_,k1,k2⟩:=hS.ok;rw[show M+(d+1)=M+d+1 by omega,ML];have key:gH rs hf' (M+d+1)=match gL rs (M+d)with|some q=>(gH rs hf' (M+d)).set q.1 q.2|none=>gH rs hf' (M+d):=by
     cases w with
     |false=>rw[(k1 rfl).2.2.1];exact(k1 rfl).2.1
     |true=>
      cases hiw:Ax ow wf ops[M+d]with
      |false=>rw[((k2 rfl).2.1 hiw).2.1];exact((k2 rfl).2.1 hiw).1
      |true=>
       rcases(k2 rfl).2.2 hiw with k3|k3|k3
       ·rw [k3.1]at hb;simp at hb
       ·obtain ⟨_,_,ob,k4,_,k5⟩:=k3;rw[k4];simpa using k5
       ·obtain ⟨_,_,_,_,_,_,_,ob,_,_,k4,k5,_⟩:=k3;rw[k4];exact k5
    rw[key];cases hl:gL rs (M+d)with
    |none=>simp only;exact ih
    |some q=>simp only[show decide (M<=M+d)=true by simp,AC];rw[ih]
  have wwP: ∀ i j,i<j->j<ops.length->(gB rs i=true\/(gL rs i).isSome=true)->(gB rs j=true\/(gL rs j).isSome=true)->
    pre ops i j=true\/(∃ p q,gL rs i=some p/\gL rs j=some q/\p.1≠q.1)\/(gB rs i=true/\(gL rs j).isSome=true/\ ∃ o,ops[j]? =some o/\BY ow o=true)\/((gL rs i).isSome=true/\gB rs j=true/\ ∃ o,ops[i]? =some o/\BY ow o=true):=by
   intro i j hij hj hi hj2;have h1:=Im.1 hww j hj;have hj3:(gB rs j||(gL rs j).isSome)=true:=(by simpa using hj2);have hi3:(gB rs i||(gL rs i).isSome)=true:=(by simpa using hi);rw[hj3]at h1;simp only[Ab,BL]at h1;have h2:=Im.1 h1 i hij;rw[hi3]at h2;simp only[Ab,BL,Cc]at h2;rcases h2 with((h2|h2)|h2)|h2
   ·exact .inl h2
   ·right;left;split at h2
    ·rename_i p q e1 e2;exact⟨p,q,e1,e2,by simpa using h2⟩
    ·simp at h2
   ·simp only[AT]at h2;refine .inr (.inr (.inl ⟨h2.1.1,h2.1.2,ops[j],List.getElem?_eq_getElem hj,?_⟩));have:=h2.2;rw[List.getElem?_eq_getElem hj]at this;simpa using this
   ·simp only[AT]at h2;refine .inr (.inr (.inr ⟨h2.1.1,h2.1.2,ops[i],List.getElem?_eq_getElem (by omega),?_⟩));have:=h2.2;rw[List.getElem?_eq_getElem (by omega)]at this;simpa using this
  have kxL: ∀ j,j<ops.length->(∀ f p,j<f->(hf:f<ops.length)->gL rs f=some p->BY ow ops[f]=false->pre ops j f=true)-> ∀ id∈kx ow ops (gL rs) j,id∈Dx ow ops h.next j (Dh rs 0 [] j):=by
   intro j hjl hst id hid;obtain⟨f,p,m1,m2,m3,m4,m5,m6⟩:=Ql hid;unfold Dx;rw[List.mem_append];rcases Pq f j with m7|m7|m7
   ·left;rw[List.mem_filterMap];have:=So rs 0 [] j f p (by omega) m7 m5;rw[Bb]at this;have hjf:pre ops j f=false:=by
     cases hpp:pre ops j f with
     |false=>rfl
     |true=>have:=hpre j f m1 hpp;omega
    exact⟨_,this,by simp[KO,m2,m3,hjf,m6]⟩
   ·exact (m2 m7.symm).elim
   ·right;have hSf:=g5 f ops[f] (List.getElem?_eq_getElem m1);rw[Bb]at hSf;have fA:BY ow ops[f]=true:=by
     cases hA:BY ow ops[f]with
     |true=>rfl
     |false=>
      rcases m4 with m4|m4
      ·rw [hst f p m7 m1 m5 hA]at m4;simp at m4
      ·rw [hA]at m4;simp at m4
    obtain⟨wf',_,f1,f2⟩:=hSf.ok;cases wf' with
    |false=>rw[(f1 rfl).2.2.1]at m5;simp at m5
    |true=>
     cases hiwf:Ax ow wf ops[f]with
     |false=>rw[((f2 rfl).2.1 hiwf).2.1]at m5;simp at m5
     |true=>
      rcases(f2 rfl).2.2 hiwf with f3|f3|f3
      ·rw [f3.2.1]at m5;simp at m5
      ·obtain ⟨_,_,ob,f4,_⟩:=f3;rw[f4]at m5;simp at m5;rw[List.mem_map];refine⟨f,?_,by rw[← m6, ← m5]⟩;unfold NB;rw[List.mem_filter];exact⟨List.mem_range.2 m1,by rw[List.getElem?_eq_getElem m1];simp[m7,fA]⟩
      ·obtain ⟨_,_,_,_,_,_,_,_,f4,_⟩:=f3;unfold BY at fA;rw[f4]at fA;simp at fA
  refine⟨λj o ho=>?_,λi j hij hj hi hj2=>?_⟩
  ·have hS:=g5 j o ho;rw[Bb]at hS;have hjl:j<ops.length:=(List.getElem?_eq_some_iff.1 ho).1;obtain⟨w,k0,k1,k2⟩:=hS.ok;refine⟨hS.dst,w,k0,k1,λhw=>?_⟩;obtain⟨k3,k4,k5⟩:=k2 hw;refine⟨k3,λhiw=>?_,λhiw=>?_⟩
   ·obtain ⟨t1,t2,t3,t4⟩:=k4 hiw;refine⟨t1,t2,t3,λM hM=>?_⟩;have hq:=Im.1 hquiet j hjl;rw[ho]at hq;simp only[hiw,BL]at hq;rw[hw]at k0;rw[k0]at hq;simp only at hq;have hq2:=Im.1 hq M (by have:=hM.1;omega);have hcut:P4 ops (gB rs) j M=true:=by
     unfold P4;simp only[AT,Cc,DZ];refine⟨hM.2.2.2,Im.2 λb hb=>?_⟩;cases hbb:gB rs b with
     |false=>rfl
     |true=>
      simp only[Ab,BL];split
      ·rename_i hbm;rw[hM.2.1 b hbm hbb];try rfl
      ·rename_i hbm;rw[hM.2.2.1 b (by omega) hbb];try rfl
    rw[hcut]at hq2;simp only[Ab,BL,Cc]at hq2;rcases hq2 with hq2|hq2
    ·simp only[AT,DZ]at hq2;obtain⟨hMl,hns⟩:=hq2;refine⟨Dx ow ops h.next j (Dh rs 0 [] j),kxL j hjl (λf p m1 m2 m3 m4=>?_),?_⟩
     ·have hSf:=g5 f ops[f] (List.getElem?_eq_getElem m2);obtain⟨wf',_,f1,f2⟩:=hSf.ok;cases wf' with
      |false=>rw[(f1 rfl).2.2.1]at m3;simp at m3
      |true=>
       cases hiwf:Ax ow wf ops[f]with
       |false=>rw[((f2 rfl).2.1 hiwf).2.1]at m3;simp at m3
       |true=>
        rcases(f2 rfl).2.2 hiwf with f3|f3|f3
        ·rw [f3.2.1]at m3;simp at m3
        ·obtain ⟨_,fA,_⟩:=f3;rw[fA]at m4;simp at m4
        ·obtain ⟨_,_,_,_,_,_,_,_,f4,_⟩:=f3;have:=Im.1 hns f m2;rw[List.getElem?_eq_getElem m2]at this;simp[m1,Sn,f4,KO,show ¬ j=f by omega]at this;cases hpp:pre ops f j with
         |true=>have:=hpre f j hjl hpp;omega
         |false=>exact this.resolve_right (by rw[hpp];simp)
     ·-- the heap at k, with what stands apart hidden
      have hMj:M<=j:=(by rw[hMl];exact(EG _ _).1);have hnb: ∀ b,M<=b->b<M+(j-M)->gB rs b=false:=by
       intro b b1 b2;have:=(EG (gB rs) j).2.2 b (by rw[hMl]at b1;exact b1) (by omega);simpa using this
      have hseg:=segA M (j-M) (by omega) hnb;rw[show M+(j-M)=j by omega]at hseg;have hgx:gx ops (gL rs) (gH rs hf') j M (Dx ow ops h.next j (Dh rs 0 [] j))=As (gH rs hf' j) (Dx ow ops h.next j (Dh rs 0 [] j)):=by
       unfold gx;obtain⟨d,hdd⟩: ∃ d,ops.length=j+d:=⟨ops.length-j,by omega⟩;have h2:gH rs hf' j=C4 (gL rs) (λf=>decide (M<=f)&&decide (f<j)) (gH rs hf' M) ops.length:=by
        rw[hseg,hdd,JG d (λf a _ _=>by simp;omega)];exact JF _ λf hf _=>by simp[hf]
       rw[h2];refine MO _ λf p hf hl=>?_;by_cases hMf:M<=f
       ·simp only[hMf,Nb,Ah];cases hp:pre ops f j with
        |true=>
         rcases C1 f j with m7|m7
         ·left;simp[m7]
         ·right
          -- it stands behind and before: looked at as apart only when it is; else nothing is noted
          exact absurd hp (by
           have:=hpre f j hjl hp;omega)
        |false=>
         rcases C1 f j with m7|m7
         ·right;unfold Dx;rw[List.mem_append];left;rw[List.mem_filterMap];have hm:=So rs 0 [] j f p (by omega) m7 hl;rw[Bb]at hm;have hjf:pre ops j f=false:=by
           cases hpp:pre ops j f with
           |false=>rfl
           |true=>have:=hpre j f hf hpp;omega
          exact⟨_,hm,by simp[KO,hp,hjf,show ¬ j=f by omega]⟩
         ·left;simp;omega
       ·left;simp[hMf]
      rw[hgx];exact t4
    ·exact ⟨kx ow ops (gL rs) j,λid hid=>hid,LZ hk hq2⟩
   ·rcases k5 hiw with⟨t1,t2,H',t3,t4,t5,t6⟩|⟨t1,t2,t3⟩|⟨t1,t,x,y,id,r,f,ob,u1,u2,u3,u4,u5⟩
    ·have hkL: ∀ id∈kx ow ops (gL rs) j,id∈Dx ow ops h.next j (Dh rs 0 [] j):=kxL j hjl (λf p m1 m2 m3 m4=>by
      rcases wwP j f m1 m2 (.inl t1) (.inr (by rw[m3];try rfl))with h5|⟨_,_,h5,_⟩|⟨_,_,o2,h5,h6⟩|⟨h5,_⟩
      ·exact h5
      ·rw [t2]at h5;simp at h5
      ·rw [List.getElem?_eq_getElem m2]at h5;simp at h5;rw[h5,h6]at m4;simp at m4
      ·rw [t2]at h5;simp at h5)
     have hLk: ∀ id∈Dx ow ops h.next j (Dh rs 0 [] j),id∈kx ow ops (gL rs) j\/(gH rs hf' j).obj id=none:=λid hid=>by
      unfold Dx at hid;rw[List.mem_append]at hid;rcases hid with hid|hid
      ·rw [List.mem_filterMap]at hid;obtain⟨x,m1,m2⟩:=hid;rcases Sp _ _ _ _ _ m1 with m3|⟨f,p,m3,m4,rfl⟩
       ·simp at m3
       ·left;split at m2
        ·rename_i hu;simp at m2;simp[KO]at hu;rw[← m2];exact K5 (show f<ops.length by omega) hu.1.1 hu.2 (.inl hu.1.2) m4
        ·simp at m2
      ·rw [List.mem_map]at hid;obtain⟨f,m1,rfl⟩:=hid;exact .inr (t6 f m1)
     have eK:As (gH rs hf' j) (kx ow ops (gL rs) j)=As (gH rs hf' j) (Dx ow ops h.next j (Dh rs 0 [] j)):=EW rfl λid=>by
      simp only[As];by_cases m1:id∈kx ow ops (gL rs) j
      ·simp [m1,hkL id m1]
      ·by_cases m2:id∈Dx ow ops h.next j (Dh rs 0 [] j)
       ·have:=(hLk id m2).resolve_left m1;simp[m1,m2,this]
       ·simp [m1,m2]
     have eP:Bk H' (gH rs hf' j) (kx ow ops (gL rs) j)=Bk H' (gH rs hf' j) (Dx ow ops h.next j (Dh rs 0 [] j)):=EW rfl λid=>by
      simp only[Bk];by_cases m1:id∈kx ow ops (gL rs) j
      ·simp [m1,hkL id m1]
      ·by_cases m2:id∈Dx ow ops h.next j (Dh rs 0 [] j)
       ·have:=(hLk id m2).resolve_left m1;simp[m1,m2,this]
       ·simp [m1,m2]
     refine .inl ⟨t1,t2,⟨H',by rw[eK];exact t3,λid hid=>t4 id (hkL id hid),by rw[eP];exact t5⟩,λf q hjf hq ha=>?_⟩;have:=late j f q hjl (by simp[t1]) hjf hq ha;rw[AH t1]at this;simpa using this
    ·exact .inr (.inl ⟨t1,t2,t3⟩)
    ·refine .inr (.inr ⟨t1,t,x,y,id,r,f,ob,u1,u2,u3,u4,λf' q hjf hq ha=>?_,u5⟩);have:=late j f' q hjl (by simp[u3]) hjf hq ha;rw[A4 (by simp[t1]),u3]at this;simpa using this
  ·exact wwP i j hij hj hi hj2
theorem Gr{call:Dg}(hk:Gq P call){ow:Nat->Bool}{n:Nat}: ∀ (m:Nat)(c:Code){s s':A8}{q q':Option Nat}{h h':A0}{e:Exit},Gp P wf call ow n m c s q h=some (e,s',q',h')->
  (∀ Q:Au,Q e s' h'->AX P ow wf n c Q s h)/\(∀ h0,Bw q h0 h->Bw q' h0 h')
 |0,c,s,s',q,q',h,h',e,hx=>by simp[Gp]at hx
 |m+1,c,s,s',q,q',h,h',e,hx=>by
  unfold Gp at hx;split at hx
  ·simp only[Ag,B3]at hx;obtain⟨rfl,rfl,rfl,rfl⟩:=hx;exact⟨λQ hQ=>by simpa only[AX]using hQ,λh0 hq=>hq⟩
  ·rename_i id ops;split at hx
   ·rename_i hdo;simp only[Ck,B3]at hx;obtain⟨⟨s1,q1,h1⟩,hx,rfl,rfl,rfl,rfl⟩:=hx;have:=λ(Q:Au)=>NC (K:=Q .normal) hk _ _ hx;exact⟨λQ hQ=>by simp only[AX,AC];exact⟨_,_,.refl,.inl ⟨hdo,(this Q).1 hQ⟩⟩,(this (λ_ _ _=>True)).2⟩
   ·split at hx
    ·rename_i hdo;simp only[Ck,B3]at hx;obtain⟨⟨s1,q1,h1⟩,hx,rfl,rfl,rfl,rfl⟩:=hx;have:=λ(Q:Au)=>ND (K:=Q .normal) hk _ _ hx;refine⟨λQ hQ=>by simp only[AX,AC];exact⟨_,_,.refl,.inr (.inl ⟨hdo,(this Q).1 hQ⟩)⟩,λh0 hq=>(this (λ_ _ _=>True)).2 h0 (hq.trans ?_)⟩;exact⟨NZ _ _,λ_ _=>rfl⟩
    ·split at hx
     ·rename_i hdo;simp only[Ck,B3]at hx;obtain⟨⟨s1,q1,h1⟩,hx,rfl,rfl,rfl,rfl⟩:=hx;obtain⟨t1,t2⟩:=aP hk (λi j hj hp=>Hq (FM.of hdo) j i hj hp) hx;refine⟨λQ hQ=>by simp only[AX,AC];exact⟨_,_,.refl,.inr (.inr ⟨hdo,t1 (Q .normal) hQ⟩)⟩,λh0 hq=>t2 h0 (hq.trans ?_)⟩;exact⟨NZ _ _,λ_ _=>rfl⟩
     ·simp at hx
  ·rename_i id ops;simp only[Ck,B3]at hx;obtain⟨⟨s1,q1,h1⟩,hx,rfl,rfl,rfl,rfl⟩:=hx;have:=λ(Q:Au)=>P7 (K:=Q .normal) hk _ hx;exact⟨λQ hQ=>by simp only[AX,Ap,AD];exact⟨_,_,.refl,(this Q).1 hQ⟩,(this (λ_ _ _=>True)).2⟩
  ·rename_i a b;split at hx
   ·rename_i s1 q1 h1 ha;obtain⟨a1,a2⟩:=Gr hk m a ha;obtain⟨b1,b2⟩:=Gr hk m b hx;exact⟨λQ hQ=>by simp only[AX];exact a1 _ (b1 Q hQ),λh0 hq=>b2 h0 (a2 h0 hq)⟩
   ·rename_i hne;obtain⟨a1,a2⟩:=Gr hk m a hx;refine⟨λQ hQ=>?_,a2⟩;simp only[AX];refine a1 _ ?_;cases e<;>simp only[Au.seq]<;>first|exact hQ|exact(hne _ _ _ hx).elim
  ·rename_i c x y;split at hx
   ·rename_i hc;obtain⟨a1,a2⟩:=Gr hk m x hx;exact⟨λQ hQ=>by simp only[AX,hc,AC];exact a1 Q hQ,a2⟩
   ·rename_i hc;obtain⟨a1,a2⟩:=Gr hk m y hx;exact⟨λQ hQ=>by simp only[AX,hc,Ap,AD];exact a1 Q hQ,a2⟩
   ·simp at hx
  ·rename_i id c;split at hx
   ·rename_i id' s1 q1 h1 ha;obtain⟨a1,a2⟩:=Gr hk m c ha;simp only[Ag,B3]at hx;obtain⟨rfl,rfl,rfl,rfl⟩:=hx;refine⟨λQ hQ=>?_,a2⟩;simp only[AX];refine a1 _ ?_;simp only[Au.block];split<;>rename_i hid<;>simpa only[hid,AC,AD]using hQ
   ·rename_i hne;obtain⟨a1,a2⟩:=Gr hk m c hx;refine⟨λQ hQ=>?_,a2⟩;simp only[AX];refine a1 _ ?_;cases e<;>simp only[Au.block]<;>first|exact hQ|exact(hne _ _ _ _ hx).elim
  ·rename_i c;split at hx
   ·rename_i s1 q1 h1 ha;obtain⟨a1,a2⟩:=Gr hk m c ha;obtain⟨b1,b2⟩:=Gr hk m (.loop c) hx;refine⟨λQ hQ=>?_,λh0 hq=>b2 h0 (a2 h0 hq)⟩;have:=b1 Q hQ;simp only[AX]at this⊢;obtain⟨j,hj⟩:=this;exact⟨j+1,a1 _ hj⟩
   ·rename_i hne;obtain⟨a1,a2⟩:=Gr hk m c hx;refine⟨λQ hQ=>?_,a2⟩;simp only[AX];refine⟨1,a1 _ ?_⟩;cases e<;>simp only[Au.seq]<;>first|exact hQ|exact(hne _ _ _ hx).elim
  ·simp only[Ag,B3]at hx;obtain⟨rfl,rfl,rfl,rfl⟩:=hx;exact⟨λQ hQ=>by simpa only[AX]using hQ,λh0 hq=>hq⟩
  ·simp only[Ag,B3]at hx;obtain⟨rfl,rfl,rfl,rfl⟩:=hx;exact⟨λQ hQ=>by simpa only[AX]using hQ,λh0 hq=>hq⟩
  ·simp at hx
theorem Sr(hm:P.follows .mixedOrders=true){BU:FuncId->List PV->A0->Option PV}(hext:P6 P BU){keep:FuncId->Bool}{m:Nat}: ∀ k,Gq P (LY P wf own BU keep m k)
 |0,f,args,h,v,q,h',hx=>by simp[LY]at hx
 |k+1,f,args,h,v,q,h',hx=>by
  unfold LY at hx;split at hx
  ·rename_i r hr;simp only[Ag,B3]at hx;obtain⟨rfl,rfl,rfl⟩:=hx;exact⟨hext _ _ _ _ hr,rfl⟩
  split at hx
  ·simp at hx
  ·rename_i fn hf;split at hx
   case isFalse=>simp at hx
   rename_i hh;split at hx
   ·simp at hx
   ·rename_i c hb;split at hx
    case h_2=>simp at hx
    rename_i s q1 h1 hc;split at hx
    ·simp at hx
    ·rename_i vs hr;have main:AA P f args h (λr h2=>r=EV vs/\h2=h1)/\Bw q1 h h1:=by
      obtain⟨e,he,hc⟩:=aF hc;obtain⟨a1,a2⟩:=Gr (Sr hm hext k) m c hc;refine⟨K6 hm hf hb hh.1 hh.2 (a1 _ ?_),a2 h rfl⟩;rcases he with rfl|rfl<;>simp only[GH,hr]<;>exact⟨trivial,trivial⟩
     split at hx
     ·rename_i hkp;simp only[AT]at hkp;split at hx
      ·rename_i r hfr;simp only[Ag,B3]at hx;obtain⟨rfl,rfl,rfl⟩:=hx;refine⟨GN hh.1 λhwf=>AA.drop (main.1.mono ?_),rfl⟩;rintro r' h' ⟨rfl,rfl⟩;have hold: ∀ id,id<h.next->h'.obj id=h.obj id:=by
        intro id hid;have ht:=main.2;cases q1 with
        |none=>simp only[Bw]at ht;rw[ht]
        |some t=>
         simp only[Bw]at ht;have:=hkp.2;simp[Sm]at this;exact ht.2 id (by omega)
       refine⟨r,h,⟨rfl,rfl⟩,Sj _ _ hfr,AF _,λid o ho=>?_⟩;have hid:=hwf id (by rw[ho];try rfl);exact⟨by rw[hold id hid];exact ho,hid,.inl ho⟩
      ·simp only[Ag,B3]at hx;obtain⟨rfl,rfl,rfl⟩:=hx;exact main
     ·simp only[Ag,B3]at hx;obtain⟨rfl,rfl,rfl⟩:=hx;exact main
def Ss(r:Option (PV × Option Nat × A0))(v:PV):Bool:=match r with
 |some (u,_,_)=>Ew u v
 |none=>false
theorem aQ(hm:P.follows .mixedOrders=true){BU:FuncId->List PV->A0->Option PV}(hext:P6 P BU){keep:FuncId->Bool}{m k:Nat}{f:FuncId}{args:List PV}{h:A0}{v:PV}(hx:Ss (LY P wf own BU keep m k f args h) v=true):AA P f args h (λr _=>r=v):=by
 unfold Ss at hx;split at hx
 ·rename_i u q h' hr;refine((Sr hm hext k _ _ _ _ _ _ hr).1).mono (λr h'' hr=>?_);rw[hr.1,OQ _ _ hx]
 ·simp at hx
end
end Go.AM
namespace Go.Proofs.YtblgchkahpgdjaaGreat
open Go.AM Go.Proofs.Tryz
set_option maxHeartbeats 2000000
set_option maxRecDepth 100000
def aR(f t:Nat):Bool:=([(161,5),(111,2),(112,2),(174,10),(144,13),(12,18),(12,27),(12,51),(12,72),(166,5),(17,7),(42,15),(45,11),(46,11),(51,13)]:List (Nat × Nat)).contains (f,t)
def aT(f:Nat):Bool:=([41,43,100,144,107,51,45,46,97,42,61]:List Nat).contains f
def aU(f:FuncId)(args:List PV)(_:A0):Option PV:=BU f args
theorem aV:P6 prog aU:=λf args r h hr=>Yr f args r h hr
theorem P8:AA prog 11 [] A0.nil λr h'=>r= .sc (.bool true)/\h'=A0.nil:=by
 have h1:AA prog 11 [] A0.nil λr _=>r= .sc (.bool true):=aQ (wf:=aT) (own:=aR) (keep:=λ_=>false) Ty.K7 aV (m:=2000) (k:=60) (by kernel_rfl);refine AA.drop (h1.mono ?_);rintro r h' rfl;refine⟨.sc (.bool true),A0.nil,⟨rfl,rfl⟩,?_,AF _,λid o ho=>by simp[A0.nil]at ho⟩;simp only[AZ]
end Go.Proofs.YtblgchkahpgdjaaGreat
namespace Go.Proofs.YtblgchkahpgdjaaGreat
open Go.AM Go.Proofs.Tryz
mutual
def Cq:Sx->Bool
 | .mk _ _ li co _ ks=>(li==0)&&(co==0)&&Fs ks
def Fs:List Sx->Bool
 |[]=>true
 |k::ks=>Cq k&&Fs ks
end
theorem Su: ∀ {l:List Sx},(Fs l=true↔ ∀ k∈l,Cq k=true)
 |[]=>by simp[Fs]
 |k::l=>by simp[Fs,Su (l:=l)]
theorem DK(s:ByteArray):Cq (A5 s)=true:=by simp[A5,Cq,Fs]
theorem DL{l:List Sx}(h: ∀ k∈l,Cq k=true):Cq (AB l)=true:=by
 simp only[AB,Cq,Su.2 h,beq_self_eq_true,C7]
theorem P9(s:ByteArray)(l:List ByteArray):Cq (Bv s l)=true:=by
 refine DL λk hk=>?_;obtain⟨x,_,rfl⟩:=List.mem_map.1 hk;exact DK x
theorem PA: ∀ e:Ex,Cq (Am e)=true:=by
 refine Ex.ind ?_;intro op name n args kids ih;unfold Am;split
 ·simp [Cq,Fs]
 ·split
  ·exact P9 _ _
  ·split
   ·rename_i a b;refine DL λk hk=>?_;simp only[List.mem_cons,List.not_mem_nil,DO]at hk;rcases hk with rfl|rfl|rfl
    ·exact DK _
    ·exact ih a (by simp)
    ·exact ih b (by simp)
   ·refine DL λk hk=>?_;simp only[List.mem_cons,List.not_mem_nil,DO]at hk;rw[hk];exact DK _
theorem I7: ∀ l:List Pm, ∀ k∈AG l,Cq k=true
 |[],k,h=>by simp[AG]at h
 |p::l,k,h=>by
  simp only[AG,List.mem_cons]at h;rcases h with rfl|rfl|rfl|h
  ·exact DK _
  ·exact DK _
  ·exact DK _
  ·exact I7 l k h
theorem Io: ∀ f:Fm,Cq (Aa f)=true:=by
 refine Fm.ind ?_;intro op name args params exprs kids ih;unfold Aa;split
 ·exact P9 _ _
 ·split
  ·exact P9 _ _
  ·split
   ·refine DL λk hk=>?_;rcases List.mem_cons.1 hk with rfl|hk
    ·exact DK _
    ·obtain ⟨x,_,rfl⟩:=List.mem_map.1 hk;exact PA x
   ·refine DL λk hk=>?_;rcases List.mem_append.1 hk with hk|hk
    ·rcases List.mem_append.1 hk with hk|hk
     ·split at hk
      ·simp at hk
      ·simp only[List.mem_cons,List.not_mem_nil,DO]at hk;rw[hk];exact DK _
     ·split at hk
      ·simp only[List.mem_cons,List.not_mem_nil,DO]at hk;rw[hk];exact DL (I7 _)
      ·simp at hk
    ·rw [KD]at hk;obtain⟨x,hx,rfl⟩:=List.mem_map.1 hk;exact ih x hx
end Go.Proofs.YtblgchkahpgdjaaGreat
namespace Go.Proofs.YtblgchkahpgdjaaGreat
open Go.AM Go.Proofs.Tryz
set_option maxHeartbeats 4000000
set_option maxRecDepth 20000
theorem PB(a:Int):(a !=a)=false:=by simp
theorem aW{ki va li co:Int}{te:ByteArray}{l:List Sx}(hl:l.length<=AE)(hf: ∀ x∈l, ∀ h:A0,AA prog 14 [.agg x.cells,.agg x.cells] h λr h'=>r= .sc (.bool (Cq x))/\h'=h)(h:A0):
  AA prog 14 [.agg (Sx.mk ki va li co te l).cells,.agg (Sx.mk ki va li co te l).cells] h λr h'=>r= .sc (.bool (Cq (.mk ki va li co te l)))/\h'=h:=by
 unfold AE at hl;have hll:=Sx.rows_len l;have hz:Cq (.mk ki va li co te l)=((li==0)&&(co==0)&&Fs l):=by simp only[Cq]
 rw[hz]
 clear hz;simp only[Sx.cells];have e1:(te.data.toList==te.data.toList)=true:=by simp
 have e2:=PB ki;have e3:=PB va;have e4:=PB (l.length:Int);have e5:(li !=0)=!(li==0):=rfl;have e6:(co !=0)=!(co==0):=rfl;cases q1:(li==0)with
 |false=>
  refine AN func14 ntmps14 results14 Ty.O8 ?_;replace zz:=BR e1 e2 e3 e4 e5 q1 hll yT yF;refine wm zz ?_;try exact zI
  all_goals simp
 |true=>
  cases q2:(co==0)with
  |false=>
   refine AN func14 ntmps14 results14 Ty.O8 ?_;replace zz:=Cv e1 e2 e3 e4 e5 e6 q1 q2 hll yT yF;refine wm zz ?_;try exact zI
   all_goals simp
  |true=>
   simp only[Ah];refine AN func14 ntmps14 results14 Ty.O8 ?_;replace zz:=Cv e1 e2 e3 e4 e5 e6 q1 q2 hll yT yF;refine wt zz ?_;refine BV (λc S h'=>h'=h/\S 2= .cptr [.sc (.int .i64 ki),.sc (.int .i64 va),.sc (.int .i64 li),.sc (.int .i64 co),A1 te,.imm 6 (Sx.rows l)]/\S 3= .cptr [.sc (.int .i64 ki),.sc (.int .i64 va),.sc (.int .i64 li),.sc (.int .i64 co),A1 te,.imm 6 (Sx.rows l)]/\ ∃ k:Nat,S 5= .sc (.int .i64 k)/\k<=l.length/\c=l.length-k/\Fs l=Fs (l.drop k)) l.length ?_ ?_
   ·simp only[Ty.w,simprocAttr];exact⟨0,rfl,by omega,rfl,by simp⟩
   ·rintro c S h' ⟨rfl,g2,g3,k,g5,hkl,rfl,hinv⟩;by_cases hlt:k<l.length
    ·have hd:decide ((k:Int)<(l.length:Int))=true:=(by simp;omega);have w7:IntKind.i64.wrap ((k:Int)+1)=k+1:=(by rw[B9 (by omega) (by omega)]);obtain⟨x,hx⟩: ∃ x,l[k]? =some x:=⟨_,List.getElem?_eq_getElem hlt⟩;have hc:=hf x (List.mem_of_getElem? hx);rw[CR hx]at hinv;simp only[Fs]at hinv;have hr:=Sx.rows_get hx;generalize Cq x=b at hc hinv;obtain⟨xk,xv,xl,xc,xt,xs⟩:=x;simp only[Sx.cells]at hr hc;cases b with
     |false=>
      simp only[Ai]at hinv;replace zz:=AK g2 g3 g5 hll hd hr;refine wy zz ?_;replace zz:=AV g2 g3 g5 hr yF;(first|refine uV zz (hc _) ?_|refine uA zz (hc _) ?_);refine wy zz ?_;rw[hinv]
     |true=>
      simp only[Ah]at hinv;replace zz:=AK g2 g3 g5 hll hd hr;refine wy zz ?_;replace zz:=AV g2 g3 g5 hr yT;(first|refine uV zz (hc _) ?_|refine uA zz (hc _) ?_);replace zz:=AK g2 g3 g5 hr w7 yT;refine wy zz ?_;exact⟨l.length-(k+1),by omega,k+1,by simp,by omega,rfl,hinv⟩
    ·have hd:decide ((k:Int)<(l.length:Int))=false:=(by simp;omega);rw[List.drop_eq_nil_of_le (by omega)]at hinv;simp only[Fs]at hinv;replace zz:=AV g2 g3 g5 hll hd;refine wt zz ?_;rw[hinv]
theorem Sv: ∀ x:Sx,x.ok-> ∀ h:A0,AA prog 14 [.agg x.cells,.agg x.cells] h λr h'=>r= .sc (.bool (Cq x))/\h'=h:=
 Sx.ind λkind value line col text kids ih hx h=>by
  simp only[Sx.ok]at hx;exact aW hx.2.2.2.1 (λx hx2 h=>ih x hx2 (Sx.oks_iff.1 hx.2.2.2.2 x hx2) h) h
end Go.Proofs.YtblgchkahpgdjaaGreat
namespace Go.Proofs.YtblgchkahpgdjaaGreat
open Go.AM Go.Proofs.Tryz
set_option maxHeartbeats 2000000
set_option maxRecDepth 20000
theorem aX{h:A0}{n:Int}:AA prog 24 [Dp n] h λr h'=>r= .sc (.int .i64 n)/\h'=h:=by
 unfold Dp;refine AN func24 ntmps24 results24 Ty.YE ?_;refine wm A2 ?_;try exact zI
 all_goals rfl
theorem aY{h:A0}{n m:Int}:AA prog 15 [Dp n,.sc (.int .i64 m)] h λr h'=>r= .sc (.bool (n==m))/\h'=h:=by
 have hn:=λh:A0=>aX (h:=h) (n:=n);unfold Dp at hn⊢;refine AN func15 ntmps15 results15 Ty.YB ?_;refine wt A2 ?_;refine FN (hn _) (by(try simp only[Ty.w,simprocAttr,eq_self]);try rfl) ?_;simp only[Ty.w,simprocAttr,eq_self];exact wz A2
end Go.Proofs.YtblgchkahpgdjaaGreat
namespace Go.AM
open Go.ChangeShapes Go.WideShapes
open Go.Proofs.YtblgchkahpgdjaaGreat
mutual
def PV.bulk:PV->Nat
 | .sc (.string s)=>s.size+1
 | .imm _ rows=>PV.bulkR rows+1
 |_=>1
def PV.bulkL:List PV->Nat
 |[]=>0
 |p::ps=>p.bulk+PV.bulkL ps
def PV.bulkR:List (List PV)->Nat
 |[]=>0
 |r::rs=>PV.bulkL r+PV.bulkR rs
end
theorem PV.bulkL_append: ∀ l m:List PV,PV.bulkL (l++m)=PV.bulkL l+PV.bulkL m
 |[],m=>by simp[PV.bulkL]
 |p::l,m=>by simp only[List.cons_append,PV.bulkL,PV.bulkL_append l m];omega
theorem List.getElem?_range_some{k i j:Nat}(h:(List.range k)[i]? =some j):i<k/\i=j:=by
 have h1:=(List.getElem?_eq_some_iff.1 h).1;simp at h1;rw[List.getElem?_range h1]at h;simp at h;exact⟨h1,h⟩
section
variable {H:Type}{enc:TypeId × Value->H}{P:Program}{w:World}{sp:Nat->Bool}{held:Bool}
theorem Sw: ∀ (rows:List (List PV))(ds:List (DataW H)),rows.length=ds.length->(∀ (i:Nat)(r:List PV),rows[i]? =some r-> ∃ d,ds[i]? =some d/\PV.bulkL r<=Rows.uptoBulk d)->PV.bulkR rows<=Rows.uptoBulkAll ds
 |[],_,_,_=>by simp[PV.bulkR]
 |r::rows,[],h,_=>by simp at h
 |r::rows,d::ds,h,hb=>by
  have h1:=Sw rows ds (by simpa using h) λi q hq=>by simpa using hb (i+1) q (by simpa using hq)
  obtain⟨d',h2,h3⟩:=hb 0 r rfl;simp at h2;subst h2;simp only[PV.bulkR,Rows.uptoBulkAll];omega
theorem PC{c:Nat}{cs:List Value}:(l:List (Nat × TypeId))->(ds:List (DataW H))->(o:Nat)->I0 P cs.length o l=true->
  (∀ (i:Nat)(p:Nat × TypeId),l[i]? =some p-> ∃ d,ds[i]? =some d/\ ∃ ps,BM P c p.2 ps/\RA w ps ((cs.drop p.1).take (P.cellsOf p.2))/\PV.bulkL ps<=Rows.uptoBulk d)->
  ∃ ps,RA w ps (cs.drop o)/\(∀ p∈l,BM P c p.2 ((ps.drop (p.1-o)).take (P.cellsOf p.2)))/\PV.bulkL ps<=Rows.uptoBulkAll ds
 |[],ds,o,h,_=>by
  simp[I0]at h;refine⟨[],⟨?_,λβ n=>?_⟩,by simp,by simp[PV.bulkL]⟩
  ·rw [List.drop_of_length_le (by omega)];simp
  ·rw [List.drop_of_length_le (by omega)];simp[AR]
 |p::l,[],o,h,hp=>by
  obtain⟨d,hd,_⟩:=hp 0 p rfl;simp at hd
 |p::l,d::ds,o,h,hp=>by
  have hle:=(Oh (p::l) o h).2 p (by simp);simp only[I0,AT,DZ]at h;obtain⟨ps,h1,h2,h20⟩:=PC l ds _ h.2 (λi q hq=>by simpa using hp (i+1) q (by simpa using hq));obtain⟨d',hd,ps0,h3,h4,h40⟩:=hp 0 p rfl;simp at hd;subst hd;have hl2:=(Oh l _ h.2).2;have e0:p.1=o:=h.1;have l0:ps0.length=P.cellsOf p.2:=by rw[h4.len,List.length_take,List.length_drop];omega
  refine⟨ps0++ps,?_,λq hq=>?_,by rw[PV.bulkL_append];simp only[Rows.uptoBulkAll];omega⟩
  ·have:cs.drop o=(cs.drop p.1).take (P.cellsOf p.2)++cs.drop (o+P.cellsOf p.2):=by
    rw[e0, ← List.drop_drop,List.take_append_drop]
   rw[this];exact h4.append h1
  ·rcases List.mem_cons.1 hq with rfl|hq
   ·rw [e0,J1,List.drop_zero,List.take_append_of_le_length (by omega),List.take_of_length_le (by omega)];exact h3
   ·have h5:=hl2 q hq;have:q.1-o=ps0.length+(q.1-(o+P.cellsOf p.2)):=(by omega);rw[this, ← List.drop_drop,List.drop_left];exact h2 q hq
theorem NF{Ts:List TypeId}(hT:SJ P Ts=true): ∀ (fuel:Nat)(t:TypeId),Ts.contains t=true-> ∀ (cs:List Value)(x:DataW H × List MemPlace),DataW.trod enc P w 0 sp held fuel t cs=some x->(∀ n∈x.1.weights P t,n<=reachBytes)->
  ∃ ps,BM P fuel t ps/\RA w ps cs/\PV.bulkL ps<=Rows.uptoBulk x.1
 |0,_,_,_,_,hx,_=>by simp[DataW.trod]at hx
 |c+1,t,ht,cs,x,hx,hw=>by
  have h:=List.all_eq_true.1 hT t (by simpa using ht);split at h
  ·rename_i hu;obtain⟨b,rfl,rfl⟩:=DataW.trod_bool hu hx;refine⟨[.sc (.bool b)],?_,Oj rfl,by simp[PV.bulkL,PV.bulk,Rows.uptoBulk]⟩;unfold BM;rw[hu];exact⟨b,rfl⟩
  ·rename_i k hu;obtain⟨n,rfl,rfl,hwf⟩:=DataW.trod_int hu hx;refine⟨[.sc (.int k n)],?_,Oj rfl,by simp[PV.bulkL,PV.bulk,Rows.uptoBulk]⟩;unfold BM;rw[hu];exact⟨n,hwf,rfl⟩
  ·rename_i hu;obtain⟨s,rfl,rfl,hs⟩:=DataW.trod_string hu hx;refine⟨[.sc (.string s)],?_,Oj rfl,by have e:s.data.toList.length=s.size:=by{rw[DE];try rfl};simp only[PV.bulkL,PV.bulk,Rows.uptoBulk];omega⟩;unfold BM;rw[hu];refine⟨s,?_,rfl⟩;have:=hw s.data.toList.length (by simp[DataW.weights]);simpa using this
  ·rename_i e hu;simp only[AT,BQ]at h;obtain⟨hpos,hcov⟩:=h;rcases DataW.trod_slice hu hx with⟨rfl,rfl⟩|⟨a,len,cap,elems,rest,n,hfu,rfl,rfl,hb,hl,hm,hlen,hel,hsp,hns⟩
   ·refine ⟨[.imm (P.cellsOf e) []],?_,⟨λv hv=>?_,λβ n=>?_⟩,by simp[PV.bulkL,PV.bulk,PV.bulkR,Rows.uptoBulk]⟩
    ·unfold BM;rw[hu];exact⟨[],rfl,by simp,by simp,by simp⟩
    ·simp at hv;subst hv;rfl
    ·simp only[AR,A9];exact⟨⟨none,0,rfl,AF _,BX _,.inl (by trivial)⟩,trivial⟩
   ·obtain rfl:c=n:=(by omega);have each: ∀ i,i<len-> ∃ r:List PV,(r.length=P.cellsOf e/\BM P c e r/\ ∃ d,(elems.map (·.1))[i]? =some d/\PV.bulkL r<=Rows.uptoBulk d)/\ ∃ ci,RA w r ci/\ci.length=P.cellsOf e/\ ∀ j,j<P.cellsOf e->w.cell? ((a.add (i*P.cellsOf e)).add j)=ci[j]?:=by
     intro i hi;have h1:=hel i hi;have h2:elems[i]? =some (elems[i]'(by omega)):=List.getElem?_eq_getElem _;rw[h2,IJ]at h1;obtain⟨ci,h3,h4⟩:=h1;obtain⟨_,h5,h6⟩:=World.cells?_some h3;obtain⟨r,h7,h8,h80⟩:=NF hT c e hcov ci _ h4 (λm hm=>hw m (by
      simp only[DataW.weights,hu,List.mem_cons,List.mem_append];exact .inr (.inl (Oi (i:=i) (by rw[List.getElem?_map,h2];try rfl) hm))))
     exact⟨r,⟨by rw[h8.len,h5],h7,_,by rw[List.getElem?_map,h2];try rfl,h80⟩,ci,h8,h5,h6⟩
    obtain⟨rows,hrl,hrows⟩:=SI len each;refine⟨[.imm (P.cellsOf e) rows],?_,⟨λv hv=>?_,λβ m=>?_⟩,?_⟩
    ·unfold BM;rw[hu];refine⟨rows,rfl,?_,by omega,λr hr=>?_⟩
     ·have:=hw ((elems.map (·.1)).length*P.bytesOf e+(rest.map (·.1)).length*P.bytesOf e) (by
       simp only[DataW.weights,hu,List.mem_cons,Ix,true_or])
      have h9:rows.length=(elems.map (·.1)).length:=(by simp[hrl,hlen]);rw[h9];exact ES (NZ _ _) this
     ·obtain ⟨i,hi⟩:=List.getElem?_of_mem hr;exact⟨(hrows i r hi).1.1,(hrows i r hi).1.2.1⟩
    ·simp at hv;subst hv;rfl
    ·simp only[AR,A9];refine⟨⟨some a,cap,by rw[hrl],by omega,hm,?_⟩,trivial⟩;by_cases h0:len=0
     ·left;exact List.length_eq_zero_iff.1 (by omega)
     ·right;obtain⟨_,_,c0,_,hc0,hcell0⟩:=each 0 (by omega);have h10:=hcell0 0 hpos;rw[List.getElem?_eq_getElem (by omega)]at h10;simp only[Nat.zero_mul,Addr.add,AC]at h10;have hs:a.spot=none:=by
       unfold World.cell? at h10;split at h10
       ·split at h10
        ·simp at h10
        ·rename_i hsp;simpa using hsp
       ·simp at h10
      have hblk:a.block<w.heap.size:=by
       unfold World.cell? at h10;split at h10
       ·rename_i hh;exact(H6.1 hh).1
       ·simp at h10
      refine⟨a.block,a.off,hblk,by cases a;simp only at hs;subst hs;rfl,?_⟩;rw[FZ];intro i r hr;obtain⟨⟨g1,_⟩,ci,g2,g3,g4⟩:=hrows i r hr;refine⟨g1,?_⟩;rw[FY];intro j p hp;obtain⟨v,hv,hrep⟩:=(g2.2 β m).get hp;have hj:j<P.cellsOf e:=(by rw[← g3];exact(List.getElem?_eq_some_iff.1 hv).1);refine⟨v,?_,g2.1 v (List.mem_of_getElem? hv),hrep⟩;rw[← hv, ← g4 j hj];congr 1;cases a;simp only at hs;subst hs;simp only[Addr.add];split<;>split<;>simp_all<;>omega
    ·have hb5:=Sw rows (elems.map (·.1)) (by simp[hrl,hlen]) λi r hr=>(hrows i r hr).1.2.2;simp only[PV.bulkL,PV.bulk,Rows.uptoBulk];omega
  ·rename_i fs hu;simp only[AT,List.all_eq_true]at h;obtain⟨xs,n,hfu,rfl,hcl,hxl,hp⟩:=DataW.trod_struct hu hx;obtain rfl:c=n:=(by omega);have hpt:Dw P t=fs.toList.map λf=>(f.offset,f.type):=(by unfold Dw;rw[hu]);obtain⟨ps,h1,h2,h30⟩:=PC (w:=w) (c:=c) (cs:=cs) (Dw P t) (xs.map (·.1)) 0 (by rw[hcl];exact h.1) (λi p hi=>by
    have hcv:=h.2 p (List.mem_of_getElem? hi);rw[hpt]at hi;rw[List.getElem?_map,Ck]at hi;obtain⟨f,hf,rfl⟩:=hi;have hf':fs[i]? =some f:=(by simpa using hf);have hi':i<xs.length:=by
     rw[hxl];exact(H6.1 hf').1
    have h3:=hp i f hf';rw[List.getElem?_eq_getElem hi']at h3;exact⟨xs[i].1,by rw[List.getElem?_map,List.getElem?_eq_getElem hi'];try rfl,NF hT c f.type hcv _ _ h3 (λm hm=>hw m (by
     simp only[DataW.weights,hu];exact DataW.weights_mem_each (j:=i) (t:=f.type) (d:=xs[i].1) (by rw[List.getElem?_map,hf];try rfl) (by rw[List.getElem?_map,List.getElem?_eq_getElem hi'];try rfl) m hm))⟩)
   refine⟨ps,?_,by simpa using h1,by simp only[Rows.uptoBulk];omega⟩;unfold BM;rw[hu];exact⟨by rw[h1.len,List.drop_zero,hcl],λp hpm=>by simpa using h2 p hpm⟩
  ·rename_i k e hu;simp only[AT,List.all_eq_true]at h;obtain⟨xs,n,hfu,rfl,hcl,hxl,hp⟩:=DataW.trod_array hu hx;obtain rfl:c=n:=(by omega);have hpt:Dw P t=(List.range k).map λi=>(i*P.cellsOf e,e):=(by unfold Dw;rw[hu]);obtain⟨ps,h1,h2,h30⟩:=PC (w:=w) (c:=c) (cs:=cs) (Dw P t) (xs.map (·.1)) 0 (by rw[hcl];exact h.1) (λi p hi=>by
    have hcv:=h.2 p (List.mem_of_getElem? hi);rw[hpt,List.getElem?_map,Ck]at hi;obtain⟨j,hj,rfl⟩:=hi;obtain⟨hjk,rfl⟩:=List.getElem?_range_some hj;have hi':i<xs.length:=(by rw[hxl];exact hjk);have h3:=hp i hjk;rw[List.getElem?_eq_getElem hi']at h3;exact⟨xs[i].1,by rw[List.getElem?_map,List.getElem?_eq_getElem hi'];try rfl,NF hT c e hcv _ _ h3 (λm hm=>hw m (by
     simp only[DataW.weights,hu];exact Oi (i:=i) (d:=xs[i].1) (by rw[List.getElem?_map,List.getElem?_eq_getElem hi'];try rfl) hm))⟩)
   refine⟨ps,?_,by simpa using h1,by simp only[Rows.uptoBulk];omega⟩;unfold BM;rw[hu];exact⟨by rw[h1.len,List.drop_zero,hcl],λp hpm=>by simpa using h2 p hpm⟩
  ·simp at h
theorem aZ{Ts:List TypeId}(hT:SJ P Ts=true){t:TypeId}(ht:Ts.contains t=true){fs:Array Field}(hu:P.underlying t=some (.struct fs)){v:Value}{d:DataW H}{pl:List MemPlace}
  (h:DataW.Trod enc P w 0 sp held t v d pl)(hv: ∃ base,Value.okWide P w .any base t v)(hw: ∀ n∈d.weights P t,n<=reachBytes):
  ∃ c ps,BM P c t ps/\(∀ β n,A9 β n (λb=>b<w.heap.size) w (.agg ps) v)/\PV.bulkL ps<=Rows.uptoBulk d:=by
 obtain⟨fuel,hf⟩:=h;obtain⟨ps,h1,h2,h3⟩:=NF hT fuel t ht _ _ hf hw;obtain⟨base,hv⟩:=hv;unfold Value.okWide at hv;simp only[hu]at hv;obtain⟨cs,rfl,_⟩:=hv;refine⟨fuel,ps,h1,λβ n=>?_,h3⟩;simp only[A9];exact⟨cs.toList,by simp,h2.1,h2.2 β n⟩
end
end Go.AM
namespace Go.AM
theorem Jh: ∀ l:List ByteArray,l.length<=PV.bulkR (AP l)
 |[]=>by simp
 |s::l=>by
  have:=Jh l;simp only[AP,List.map_cons,PV.bulkR,PV.bulkL,PV.bulk,List.length_cons]at this⊢;omega
mutual
theorem Ex.small_bulk: ∀ (e:Ex),PV.bulkL e.cells<=1048576->e.small
 | .mk op name n args kids,h=>by
  simp only[Ex.cells,PV.bulkL,PV.bulk]at h;simp only[Ex.small];have:=Jh args;exact⟨by omega,Ex.smalls_bulk kids (by omega)⟩
theorem Ex.smalls_bulk: ∀ (l:List Ex),PV.bulkR (Ex.rows l)<=1048576->Ex.smalls l
 |[],_=>by simp[Ex.smalls]
 |k::ks,h=>by
  simp only[Ex.rows,PV.bulkR]at h;simp only[Ex.smalls];exact⟨Ex.small_bulk k (by omega),Ex.smalls_bulk ks (by omega)⟩
end
mutual
theorem Sx.depth_nodes: ∀ (x:Sx),x.depth<=x.nodes
 | .mk kind _ _ _ _ kids=>by
  have:=Sx.depths_nodes kids 0;simp only[Sx.depth,Sx.nodes];split<;>omega
theorem Sx.depths_nodes: ∀ (l:List Sx)(m:Nat),Sx.depths m l<=max m (Sx.nodess l)
 |[],m=>by simp[Sx.depths,Sx.nodess]
 |k::ks,m=>by
  have h1:=Sx.depth_nodes k;have h2:=Sx.depths_nodes ks (max m k.depth);simp only[Sx.depths,Sx.nodess];omega
end
end Go.AM
namespace Go.Proofs.YtblgchkahpgdjaaGreat
open Go.AM Go.Proofs.Tryz
theorem Sy: ∀ l:List ByteArray,Sx.nodess (l.map A5)=l.length
 |[]=>rfl
 |s::l=>by simp only[List.map_cons,Sx.nodess,Ja,Sy l,List.length_cons];omega
theorem NG(first:ByteArray)(l:List ByteArray):(Bv first l).nodes=l.length+2:=by
 simp only[Bv,F0,Sy,List.length_cons]
theorem Sz: ∀ e:Ex,(Am e).nodes<=PV.bulkL e.cells:=by
 refine Ex.ind ?_;intro op name n args kids ih;have h1:=Jh args;simp only[Ex.cells,PV.bulkL,PV.bulk];unfold Am;split
 ·simp only[Sx.nodes,Sx.nodess];omega
 ·split
  ·rw [NG];omega
  ·split
   ·rename_i a b;have ha:=ih a (by simp);have hb:=ih b (by simp);simp only[Ex.rows,PV.bulkR,F0,Sx.nodess,Ja];omega
   ·simp only[F0,Sx.nodess,Ja];omega
end Go.Proofs.YtblgchkahpgdjaaGreat
namespace Go.Proofs.YtblgchkahpgdjaaGreat
open Go.AM Go.Proofs.Tryz
set_option maxHeartbeats 1000000
set_option maxRecDepth 20000
def ad:List TypeId:=Zf++[28,77,43,94,23,96,24,83,25,85,26]
theorem T0:Tryz.prog.cellsOf 43=1:=by kernel_rfl
theorem ae:Dw prog 77=[(0,3),(1,22),(2,67),(8,9),(9,64),(10,75)]:=by kernel_rfl
theorem T1:Tryz.prog.cellsOf 77=15:=by kernel_rfl
theorem ah:0<Tryz.prog.bytesOf 77:=by rw[show Tryz.prog.bytesOf 77=288 by kernel_rfl];omega
theorem ai{c:Nat}{ps:List PV}(h:BM prog c 77 ps): ∃ a:Ch,a.ok/\ps=Df a:=by
 cases c with
 |zero=>simp[BM]at h
 |succ c=>
  obtain⟨h1,h2⟩:=I1 Tryz.underlying77 h;rw[T1]at h1;rw[ae]at h2
  match ps,h1,h2 with
  |[p0,p1,p2,p3,p4,p5,p6,p7,p8,p9,p10,p11,p12,p13,p14],_,h2=>
   have a0:=h2 (0,3) (by simp);have a1:=h2 (1,22) (by simp);have a2:=h2 (2,67) (by simp);have a3:=h2 (8,9) (by simp);have a4:=h2 (9,64) (by simp);have a5:=h2 (10,75) (by simp);simp only[Ok,JX,LP,LO,N3,HP,List.drop_zero,List.drop_succ_cons,List.take_succ_cons,List.take_zero]at a0 a1 a2 a3 a4 a5;obtain⟨kind,hkind,e0⟩:=KH a0;obtain⟨params,hparams,e1⟩:=Ii a1;obtain⟨cond,hcond,e2⟩:=LQ _ a2;obtain⟨name,hname,e3⟩:=Fl a3;obtain⟨args,hargs,e4⟩:=Ol a4;obtain⟨value,hvalue,e5⟩:=SN _ a5;simp at e0 e1 e3 e4;refine⟨⟨kind,params,cond,name,args,value⟩,⟨hparams,hcond,hargs,hvalue,hname,hkind⟩,?_⟩;simp only[Df,e0,e1,e3,e4, ← e2, ← e5,List.cons_append,List.nil_append]
theorem PD{c:Nat}{ps:List PV}(h:BM prog c 43 ps): ∃ l:List Ch,Chs.ok l/\ps=[.imm 15 (Ay l)]:=by
 cases c with
 |zero=>simp[BM]at h
 |succ c=>
  obtain⟨rows,rfl,h1,_,h2⟩:=HO Tryz.underlying43 h;obtain⟨xs,rfl,h3⟩:=Gn (Q:=Ch.ok) (f:=Df) rows (λr hr=>ai (h2 r hr).2);refine⟨xs,⟨HQ (by simpa using h1) ah,h3⟩,?_⟩;rw[T1];try rfl
theorem aj:Dw prog 94=[(0,9),(1,22)]:=by kernel_rfl
theorem T2:Tryz.prog.cellsOf 94=2:=by kernel_rfl
theorem ao:0<Tryz.prog.bytesOf 94:=by rw[show Tryz.prog.bytesOf 94=40 by kernel_rfl];omega
theorem ar:Tryz.prog.cellsOf 23=1:=by kernel_rfl
theorem au{c:Nat}{ps:List PV}(h:BM prog c 94 ps): ∃ a:Pr,a.ok/\ps=F7 a:=by
 cases c with
 |zero=>simp[BM]at h
 |succ c=>
  obtain⟨h1,h2⟩:=I1 Tryz.underlying94 h;rw[T2]at h1;rw[aj]at h2
  match ps,h1,h2 with
  |[p0,p1],_,h2=>
   have a0:=h2 (0,9) (by simp);have a1:=h2 (1,22) (by simp);simp only[JX,HP,List.drop_zero,List.drop_succ_cons,List.take_succ_cons,List.take_zero]at a0 a1;obtain⟨name,hname,e0⟩:=Fl a0;obtain⟨params,hparams,e1⟩:=Ii a1;simp at e0 e1;refine⟨⟨name,params⟩,⟨hname,hparams⟩,?_⟩;simp only[F7,e0,e1,List.cons_append,List.nil_append]
theorem aw{c:Nat}{ps:List PV}(h:BM prog c 23 ps): ∃ l:List Pr,(l.length<=AE/\ ∀ a∈l,a.ok)/\ps=[.imm 2 (Az l)]:=by
 cases c with
 |zero=>simp[BM]at h
 |succ c=>
  obtain⟨rows,rfl,h1,_,h2⟩:=HO Tryz.underlying23 h;obtain⟨xs,rfl,h3⟩:=Gn (Q:=Pr.ok) (f:=F7) rows (λr hr=>au (h2 r hr).2);refine⟨xs,⟨HQ (by simpa using h1) ao,h3⟩,?_⟩;rw[T2];try rfl
theorem az:Dw prog 96=[(0,9),(1,22),(2,3),(3,3)]:=by kernel_rfl
theorem T6:Tryz.prog.cellsOf 96=4:=by kernel_rfl
theorem b9:0<Tryz.prog.bytesOf 96:=by rw[show Tryz.prog.bytesOf 96=56 by kernel_rfl];omega
theorem bB:Tryz.prog.cellsOf 24=1:=by kernel_rfl
theorem bC{c:Nat}{ps:List PV}(h:BM prog c 96 ps): ∃ a:Fu,a.ok/\ps=F8 a:=by
 cases c with
 |zero=>simp[BM]at h
 |succ c=>
  obtain⟨h1,h2⟩:=I1 Tryz.underlying96 h;rw[T6]at h1;rw[az]at h2
  match ps,h1,h2 with
  |[p0,p1,p2,p3],_,h2=>
   have a0:=h2 (0,9) (by simp);have a1:=h2 (1,22) (by simp);have a2:=h2 (2,3) (by simp);have a3:=h2 (3,3) (by simp);simp only[JX,LO,HP,List.drop_zero,List.drop_succ_cons,List.take_succ_cons,List.take_zero]at a0 a1 a2 a3;obtain⟨name,hname,e0⟩:=Fl a0;obtain⟨params,hparams,e1⟩:=Ii a1;obtain⟨lo,hlo,e2⟩:=KH a2;obtain⟨hi,hhi,e3⟩:=KH a3;simp at e0 e1 e2 e3;refine⟨⟨name,params,lo,hi⟩,⟨hname,hparams,hlo,hhi⟩,?_⟩;simp only[F8,e0,e1,e2,e3,List.cons_append,List.nil_append]
theorem bD{c:Nat}{ps:List PV}(h:BM prog c 24 ps): ∃ l:List Fu,(l.length<=AE/\ ∀ a∈l,a.ok)/\ps=[.imm 4 (Av l)]:=by
 cases c with
 |zero=>simp[BM]at h
 |succ c=>
  obtain⟨rows,rfl,h1,_,h2⟩:=HO Tryz.underlying24 h;obtain⟨xs,rfl,h3⟩:=Gn (Q:=Fu.ok) (f:=F8) rows (λr hr=>bC (h2 r hr).2);refine⟨xs,⟨HQ (by simpa using h1) b9,h3⟩,?_⟩;rw[T6];try rfl
theorem bE:Dw prog 83=[(0,9),(1,22),(2,3),(3,67),(9,43)]:=by kernel_rfl
theorem T7:Tryz.prog.cellsOf 83=10:=by kernel_rfl
theorem bF:0<Tryz.prog.bytesOf 83:=by rw[show Tryz.prog.bytesOf 83=200 by kernel_rfl];omega
theorem bG:Tryz.prog.cellsOf 25=1:=by kernel_rfl
theorem bH{c:Nat}{ps:List PV}(h:BM prog c 83 ps): ∃ a:Ac,a.ok/\ps=EJ a:=by
 cases c with
 |zero=>simp[BM]at h
 |succ c=>
  obtain⟨h1,h2⟩:=I1 Tryz.underlying83 h;rw[T7]at h1;rw[bE]at h2
  match ps,h1,h2 with
  |[p0,p1,p2,p3,p4,p5,p6,p7,p8,p9],_,h2=>
   have a0:=h2 (0,9) (by simp);have a1:=h2 (1,22) (by simp);have a2:=h2 (2,3) (by simp);have a3:=h2 (3,67) (by simp);have a4:=h2 (9,43) (by simp);simp only[JX,LP,LO,HP,T0,List.drop_zero,List.drop_succ_cons,List.take_succ_cons,List.take_zero]at a0 a1 a2 a3 a4;obtain⟨name,hname,e0⟩:=Fl a0;obtain⟨params,hparams,e1⟩:=Ii a1;obtain⟨cost,hcost,e2⟩:=KH a2;obtain⟨pre,hpre,e3⟩:=LQ _ a3;obtain⟨changes,hchanges,e4⟩:=PD a4;simp at e0 e1 e2 e4;refine⟨⟨name,params,cost,pre,changes⟩,⟨hname,hparams,hcost,hpre,hchanges⟩,?_⟩;simp only[EJ,e0,e1,e2,e4, ← e3,List.cons_append,List.nil_append]
theorem bI{c:Nat}{ps:List PV}(h:BM prog c 25 ps): ∃ l:List Ac,(l.length<=AE/\ ∀ a∈l,a.ok)/\ps=[.imm 10 (B0 l)]:=by
 cases c with
 |zero=>simp[BM]at h
 |succ c=>
  obtain⟨rows,rfl,h1,_,h2⟩:=HO Tryz.underlying25 h;obtain⟨xs,rfl,h3⟩:=Gn (Q:=Ac.ok) (f:=EJ) rows (λr hr=>bH (h2 r hr).2);refine⟨xs,⟨HQ (by simpa using h1) bF,h3⟩,?_⟩;rw[T7];try rfl
theorem bJ:Dw prog 85=[(0,9),(1,22),(2,3),(3,67),(9,67),(15,67),(21,43),(22,43)]:=by kernel_rfl
theorem T8:Tryz.prog.cellsOf 85=23:=by kernel_rfl
theorem bK:0<Tryz.prog.bytesOf 85:=by rw[show Tryz.prog.bytesOf 85=480 by kernel_rfl];omega
theorem bL:Tryz.prog.cellsOf 26=1:=by kernel_rfl
theorem bM{c:Nat}{ps:List PV}(h:BM prog c 85 ps): ∃ a:Du,a.ok/\ps=EK a:=by
 cases c with
 |zero=>simp[BM]at h
 |succ c=>
  obtain⟨h1,h2⟩:=I1 Tryz.underlying85 h;rw[T8]at h1;rw[bJ]at h2
  match ps,h1,h2 with
  |[p0,p1,p2,p3,p4,p5,p6,p7,p8,p9,p10,p11,p12,p13,p14,p15,p16,p17,p18,p19,p20,p21,p22],_,h2=>
   have a0:=h2 (0,9) (by simp);have a1:=h2 (1,22) (by simp);have a2:=h2 (2,3) (by simp);have a3:=h2 (3,67) (by simp);have a4:=h2 (9,67) (by simp);have a5:=h2 (15,67) (by simp);have a6:=h2 (21,43) (by simp);have a7:=h2 (22,43) (by simp);simp only[JX,LP,LO,HP,T0,List.drop_zero,List.drop_succ_cons,List.take_succ_cons,List.take_zero]at a0 a1 a2 a3 a4 a5 a6 a7;obtain⟨name,hname,e0⟩:=Fl a0;obtain⟨params,hparams,e1⟩:=Ii a1;obtain⟨duration,hduration,e2⟩:=KH a2;obtain⟨start,hstart,e3⟩:=LQ _ a3;obtain⟨over,hover,e4⟩:=LQ _ a4;obtain⟨stop,hstop,e5⟩:=LQ _ a5;obtain⟨atStart,hatStart,e6⟩:=PD a6;obtain⟨atStop,hatStop,e7⟩:=PD a7;simp at e0 e1 e2 e6 e7;refine⟨⟨name,params,duration,start,over,stop,atStart,atStop⟩,⟨hname,hparams,hduration,hstart,hover,hstop,hatStart,hatStop⟩,?_⟩;simp only[EK,e0,e1,e2,e6,e7, ← e3, ← e4, ← e5,List.cons_append,List.nil_append]
theorem bO{c:Nat}{ps:List PV}(h:BM prog c 26 ps): ∃ l:List Du,(l.length<=AE/\ ∀ a∈l,a.ok)/\ps=[.imm 23 (B1 l)]:=by
 cases c with
 |zero=>simp[BM]at h
 |succ c=>
  obtain⟨rows,rfl,h1,_,h2⟩:=HO Tryz.underlying26 h;obtain⟨xs,rfl,h3⟩:=Gn (Q:=Du.ok) (f:=EK) rows (λr hr=>bM (h2 r hr).2);refine⟨xs,⟨HQ (by simpa using h1) bK,h3⟩,?_⟩;rw[T8];try rfl
theorem bQ:Dw prog 28=[(0,9),(1,22),(2,22),(3,23),(4,24),(5,25),(6,26)]:=by kernel_rfl
theorem bR:Tryz.prog.cellsOf 28=7:=by kernel_rfl
theorem bS(c:Nat){ps:List PV}(h:BM prog c 28 ps): ∃ d:Dm,d.ok/\ps=d.cells:=by
 cases c with
 |zero=>simp[BM]at h
 |succ c=>
  obtain⟨h1,h2⟩:=I1 Tryz.underlying28 h;rw[bR]at h1;rw[bQ]at h2
  match ps,h1,h2 with
  |[p0,p1,p2,p3,p4,p5,p6],_,h2=>
   have a0:=h2 (0,9) (by simp);have a1:=h2 (1,22) (by simp);have a2:=h2 (2,22) (by simp);have a3:=h2 (3,23) (by simp);have a4:=h2 (4,24) (by simp);have a5:=h2 (5,25) (by simp);have a6:=h2 (6,26) (by simp);simp only[HP,JX,ar,bB,bG,bL,List.drop_zero,List.drop_succ_cons,List.take_succ_cons,List.take_zero]at a0 a1 a2 a3 a4 a5 a6;obtain⟨name,hname,e0⟩:=Fl a0;obtain⟨types,htypes,e1⟩:=Ii a1;obtain⟨constants,hconstants,e2⟩:=Ii a2;obtain⟨predicates,hpredicates,e3⟩:=aw a3;obtain⟨functions,hfunctions,e4⟩:=bD a4;obtain⟨actions,hactions,e5⟩:=bI a5;obtain⟨duratives,hduratives,e6⟩:=bO a6;simp at e0 e1 e2 e3 e4 e5 e6;exact⟨⟨name,types,constants,predicates,functions,actions,duratives⟩,⟨hname,htypes,hconstants,hpredicates,hfunctions,hactions,hduratives⟩,by simp only[Dm.cells,e0,e1,e2,e3,e4,e5,e6]⟩
end Go.Proofs.YtblgchkahpgdjaaGreat
