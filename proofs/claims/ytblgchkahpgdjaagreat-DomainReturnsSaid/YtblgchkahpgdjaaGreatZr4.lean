/- What the claim rests on, part 4: the abstract machine, contracts of the functions, plain data. -/
import Derived.Orders
import Derived.Test.YtblgchkahpgdjaaGreatZr3
set_option linter.unusedVariables false
set_option linter.defProp false
set_option linter.unusedSimpArgs false
set_option linter.unusedSectionVars false
namespace Go.AM
section
variable{a1 a2 a3 a4 a5 a6 a7 a8 a9 a10 a11 a12:Prop}
theorem uu(x1:a1)(x2:a2):a1/\a2:=⟨x1,x2⟩
theorem AV(x1:a1)(x2:a2)(x3:a3):a1/\a2/\a3:=⟨x1,x2,x3⟩
theorem Aa(x1:a1)(x2:a2)(x3:a3)(x4:a4):a1/\a2/\a3/\a4:=⟨x1,x2,x3,x4⟩
theorem As(x1:a1)(x2:a2)(x3:a3)(x4:a4)(x5:a5):a1/\a2/\a3/\a4/\a5:=⟨x1,x2,x3,x4,x5⟩
theorem Aq(x1:a1)(x2:a2)(x3:a3)(x4:a4)(x5:a5)(x6:a6):a1/\a2/\a3/\a4/\a5/\a6:=⟨x1,x2,x3,x4,x5,x6⟩
theorem Ag(x1:a1)(x2:a2)(x3:a3)(x4:a4)(x5:a5)(x6:a6)(x7:a7):a1/\a2/\a3/\a4/\a5/\a6/\a7:=⟨x1,x2,x3,x4,x5,x6,x7⟩
theorem BO(x1:a1)(x2:a2)(x3:a3)(x4:a4)(x5:a5)(x6:a6)(x7:a7)(x8:a8):a1/\a2/\a3/\a4/\a5/\a6/\a7/\a8:=⟨x1,x2,x3,x4,x5,x6,x7,x8⟩
theorem BK(x1:a1)(x2:a2)(x3:a3)(x4:a4)(x5:a5)(x6:a6)(x7:a7)(x8:a8)(x9:a9):a1/\a2/\a3/\a4/\a5/\a6/\a7/\a8/\a9:=⟨x1,x2,x3,x4,x5,x6,x7,x8,x9⟩
theorem B7(x1:a1)(x2:a2)(x3:a3)(x4:a4)(x5:a5)(x6:a6)(x7:a7)(x8:a8)(x9:a9)(x10:a10):a1/\a2/\a3/\a4/\a5/\a6/\a7/\a8/\a9/\a10:=⟨x1,x2,x3,x4,x5,x6,x7,x8,x9,x10⟩
theorem E7(x1:a1)(x2:a2)(x3:a3)(x4:a4)(x5:a5)(x6:a6)(x7:a7)(x8:a8)(x9:a9)(x10:a10)(x11:a11):a1/\a2/\a3/\a4/\a5/\a6/\a7/\a8/\a9/\a10/\a11:=⟨x1,x2,x3,x4,x5,x6,x7,x8,x9,x10,x11⟩
theorem AY(x1:a1)(x2:a2)(x3:a3)(x4:a4)(x5:a5)(x6:a6)(x7:a7)(x8:a8)(x9:a9)(x10:a10)(x11:a11)(x12:a12):a1/\a2/\a3/\a4/\a5/\a6/\a7/\a8/\a9/\a10/\a11/\a12:=⟨x1,x2,x3,x4,x5,x6,x7,x8,x9,x10,x11,x12⟩
end
end Go.AM
namespace Go.AM
section
variable {P:Program}{ow:Nat->Bool}{wf:FuncId->Bool}{n:Nat}{ops:List Oper}{base:Nat}{sk:Nat->A9}{hk:Nat->A0}{vk:Nat->PV}{lt:Nat->Option (Nat × Ab)}{br:Nat->Bool}
theorem UB{H:A0}:Az H []=H:=Fo rfl λj=>by simp[Az]
theorem ZM(hd:HG ops)(tr:D9 P ow wf n ops base sk hk vk lt br)(h0: ∀ f,(hk 0).obj (base+f)=none){K:A9->A0->Prop}(hK:K (sk ops.length) (hk ops.length)){β0:BH}{hb:A0}{w0:World}(hbn:hb.next<=base){Q:Exit->Act->World->Prop}
  (hk': ∀ a' w',To n β0 hb w0 K a' w'->Q .normal a' w'):
  ∀ (fuel:Nat)(listed:Array Bool)(β:BH)(a:Act)(w:World),listed.size=ops.length->I7 ops (λj=>listed.getD j false)->FC (λj=>listed.getD j false) ops.length<=fuel->
   St n β (C6 ops sk λj=>listed.getD j false) (Hs lt br ops hk λj=>listed.getD j false) a w->
   BM β0 hb w0 β (Hs lt br ops hk λj=>listed.getD j false) w->
   base+ops.length<=(Hs lt br ops hk λj=>listed.getD j false).next->
   (∀ f,f<ops.length->listed.getD f false=false->(β (base+f)).b=none)->wpAny P .any ops.toArray Q fuel listed a w:=by
 have Ck: ∀ (listed:Array Bool)(β:BH)(a:Act)(w:World),(∀ j,j<ops.length->listed.getD j false=true)->
   St n β (C6 ops sk λj=>listed.getD j false) (Hs lt br ops hk λj=>listed.getD j false) a w->
   BM β0 hb w0 β (Hs lt br ops hk λj=>listed.getD j false) w->Q .normal a w:=by
  intro listed β a w hall st ex;have e1:C6 ops sk (λj=>listed.getD j false)=sk ops.length:=by
   funext t;obtain⟨h1,h2,h3⟩:=FW (λj=>listed.getD j false&&Cq ops t j) ops.length;unfold C6;generalize Dg (λj=>listed.getD j false&&Cq ops t j) ops.length=m at*;have:=tr.slot_const (t:=t) (i:=m) (ops.length-m) (by omega) (λj h5 h6=>by
    have:=h3 j h5 (by omega);rw[hall j (by omega),B8]at this;exact this)
   rw[show m+(ops.length-m)=ops.length by omega]at this;exact this.symm
  have e2:Hs lt br ops hk (λj=>listed.getD j false)=hk ops.length:=by
   have hM:MB br ops (λj=>listed.getD j false)<=ops.length:=Jo;have h1:=tr.seg (M:=MB br ops (λj=>listed.getD j false)) (ops.length-MB br ops (λj=>listed.getD j false)) (by omega) (λj a c=>Ng a (by omega) (hall j (by omega)));rw[show MB br ops (λj=>listed.getD j false)+(ops.length-MB br ops (λj=>listed.getD j false))=ops.length by omega]at h1;have hdl:dl lt br ops (λj=>listed.getD j false)=[]:=by
    apply QX.2;intro id hid;obtain⟨f,q,k1,k2,k3,_⟩:=I9.1 hid;have hh:listed.getD f false=true:=hall f k1;simp only[hh]at k3;simp at k3
   unfold Hs;rw[hdl,h1,UB];unfold Xs;exact LS _ λf hf _=>by
    have hh:listed.getD f false=true:=hall f hf;simp only[hh,Cc]
  rw[e1,e2]at st;rw[e2]at ex;exact hk' a w ⟨_,_,β,hK,st,ex⟩
 have rdy: ∀ (listed:Array Bool)(i:Nat),listed.size=ops.length->I7 ops (λj=>listed.getD j false)->i∈Region.ready .any ops.toArray listed-> ∃ o,Bz ops (λj=>listed.getD j false) i o:=by
  intro listed i hsz hc hi;simp only[Region.ready,LB,EY,IW,AR,E5,IX]at hi;obtain⟨h1,h2,h3⟩:=hi;rw[AU h1]at h3;simp only[Ba,B6,Og,DG,E5]at h3;refine⟨_,AU h1,?_,hc,λe he hb=>?_⟩
  ·rw [DJ,ND (by omega)]at h2⊢;simpa using h2
  ·rcases h3 e (Hy.1 he)with h4|h4
   ·rw [hb]at h4;simp at h4
   ·exact h4
 have noRdy: ∀ (listed:Array Bool),listed.size=ops.length->Region.ready .any ops.toArray listed=[]-> ∀ j,j<ops.length->listed.getD j false=true:=by
  intro listed hsz hr j
  induction j using Nat.strongRecOn with
  |_ j ih=>
   intro hj;cases hs:listed.getD j false with
   |true=>rfl
   |false=>
    have hm:j∈Region.ready .any ops.toArray listed:=by
     simp only[Region.ready,LB,EY,IW,AR,E5,IX];refine⟨hj,?_,?_⟩
     ·rw [DJ,ND (by omega)]at hs⊢;simpa using hs
     ·rw [AU hj];simp only[Ba,B6,Og,DG,E5];intro e he;cases hb:Region.binds .any e with
      |false=>exact .inl rfl
      |true=>
       have hlt:=hd.back j _ (AU hj) e (Hy.2 he) hb;exact .inr (ih e.on hlt (by omega))
    rw[hr]at hm;simp at hm
 intro fuel
 induction fuel with
 |zero=>
  intro listed β a w hsz hc hm st ex hnx hho;have hall:=P6 (S:=λj=>listed.getD j false) ops.length (by omega);refine⟨?_,Ck listed β a w hall st ex⟩;apply QX.2;intro i hi;obtain⟨o,r⟩:=rdy listed i hsz hc hi;have:=hall i (BC.1 r.at_).1;have hn:=r.new;rw[this]at hn;simp at hn
 |succ fuel ih=>
  intro listed β a w hsz hc hm st ex hnx hho;refine⟨λhr=>Ck listed β a w (noRdy listed hsz hr) st ex,λi hi=>?_⟩;obtain⟨o,r⟩:=rdy listed i hsz hc hi;have hil:i<ops.length:=(BC.1 r.at_).1;have hs':(listed.setIfInBounds i true).getD i false=true:=by
   rw[DJ,YE (by omega)];try rfl
  have ho: ∀ j,j≠i->(listed.setIfInBounds i true).getD j false=listed.getD j false:=by
   intro j hj;rw[DJ,MG (Ne.symm hj), ← DJ]
  have hc':I7 ops (λj=>(listed.setIfInBounds i true).getD j false):=by
   intro j q hq hj e he hb;by_cases heq:e.on=i
   ·simp only[heq];exact hs'
   ·simp only;rw[ho _ heq];by_cases hji:j=i
    ·subst hji;have:=r.at_;rw[hq]at this;simp at this;subst this;exact r.before e he hb
    ·simp only at hj;rw[ho j hji]at hj;exact hc j q hq hj e he hb
  have hm':FC (λj=>(listed.setIfInBounds i true).getD j false) ops.length<=fuel:=by
   have:=P5 (S:=λj=>listed.getD j false) (S':=λj=>(listed.setIfInBounds i true).getD j false) r.new hs' (λj hj=>(ho j hj).symm) ops.length hil;omega
  obtain⟨hdst,b,hb,hb1,hb2⟩:=tr.step i o r.at_;have hlook: ∀ t,t∈Ea ops o->C6 ops sk (λj=>listed.getD j false) t=sk i t:=λt ht=>r.slot3 hd tr ht;have hwant:=P0 st (o:=o) (ops:=ops) (by rw[Qt hlook];exact hb);have hnext:=λ{x:PV}(hx:sk (i+1)=AZ (sk i) o.dst x)=>r.next3 (S':=λj=>(listed.setIfInBounds i true).getD j false) hd tr hs' ho hx;have ho2: ∀ j,j≠i->(λj=>(listed.setIfInBounds i true).getD j false) j=(λj=>listed.getD j false) j:=ho;have hho': ∀ f,f<ops.length->(listed.setIfInBounds i true).getD f false=false->f≠i/\(β (base+f)).b=none:=by
   intro f hf hfs;by_cases hfi:f=i
   ·rw [hfi,hs']at hfs;simp at hfs
   ·exact ⟨hfi,hho f hf (by rw[← ho f hfi];exact hfs)⟩
  unfold wpOp;simp only[IX,r.at_];rw[hwant];cases b with
  |false=>
   obtain⟨e1,e2,e3,e4⟩:=hb1 rfl;simp only[BG,AP];have st':=st.undef (d:=o.dst) hdst;rw[hnext e1]at st';have eh:=U9 (lt:=lt) (br:=br) (ops:=ops) (hk:=hk) e4 e3 ho2;exact ih _ β _ w (by simpa using hsz) hc' hm' (by rw[eh];exact st') (by rw[eh];exact ex) (by rw[eh];exact hnx) (λf hf hfs=>(hho' f hf hfs).2)
  |true=>
   obtain⟨e1,e2,e3⟩:=hb2 rfl;simp only[AH];left;have hops: ∀ t,.tmp t∈o.op.operands->sk i t=C6 ops sk (λj=>listed.getD j false) t:=λt ht=>(hlook t (by
    simp only[Ea,DY,KG];exact .inl (.inl ⟨.tmp t,Hy.2 ht,rfl⟩))).symm
   have fromTo: ∀ (β'':BH)(a':Act)(w':World),St n β'' (C6 ops sk λj=>(listed.setIfInBounds i true).getD j false) (Hs lt br ops hk λj=>(listed.setIfInBounds i true).getD j false) a' w'->BM β (Hs lt br ops hk λj=>listed.getD j false) w β'' (Hs lt br ops hk λj=>(listed.setIfInBounds i true).getD j false) w'->wpAny P .any ops.toArray Q fuel (listed.setIfInBounds i true) a' w':=by
    intro β'' a' w' st'' ex'';refine ih _ β'' a' w' (by simpa using hsz) hc' hm' st'' (ex.trans ex'') (EE hnx ex''.next) (λf hf hfs=>?_);rw[ex''.beta _ (by omega)];exact(hho' f hf hfs).2
   cases hiw:B0 ow wf o with
   |false=>
    obtain⟨g1,g2,g3,g4⟩:=e2 hiw;obtain⟨q1,q2⟩:=r.quiet hd tr g2;obtain⟨ll,hll,hdo⟩:=g4 _ q1;have q2:=q2 ll hll;have eh:=U9 (lt:=lt) (br:=br) (ops:=ops) (hk:=hk) g3 g2 ho2;obtain⟨βX,stX,back⟩:=St.hidesK st.sim.lt ll st;rw[q2]at stX back;refine Af.wp stX hdst (LO hops hdo) (λa' w' ht=>?_);obtain⟨s',h',β',⟨rfl,rfl⟩,st',ex'⟩:=ht;obtain⟨β'',st'',ex''⟩:=back β' _ _ a' w' st' ex' (λj hj _=>by simp only[gx,Az];rw[AG (by simpa using hj)]);rw[← q2,U3]at st'' ex'';rw[hnext e1]at st'';exact fromTo β'' a' w' (by rw[eh];exact st'') (by rw[eh];exact ex'')
   |true=>
    rcases e3 hiw with⟨g1,g2,hdo,g4⟩|⟨g1,hA,ob,g2,g3,g4⟩|⟨g1,t,x,y,id,rr,ff,ob,hop,hx,g2,g3,g4,g5⟩
    ·obtain ⟨H',hdo,hH,hk1⟩:=hdo;obtain⟨q1,q3⟩:=r.barrier (S':=λj=>(listed.setIfInBounds i true).getD j false) hd tr h0 g1 hH hk1 hs' ho2;obtain⟨βX,stX,back⟩:=St.hidesK st.sim.lt (kx ow ops lt i) st;rw[q1]at stX back;refine Af.wp stX hdst (LO hops hdo) (λa' w' ht=>?_);obtain⟨s',h',β',⟨rfl,rfl⟩,st',ex'⟩:=ht;obtain⟨β'',st'',ex''⟩:=back β' _ _ a' w' st' ex' (λj hj _=>hH j hj);rw[q3]at st'' ex'';rw[hnext e1]at st'';exact fromTo β'' a' w' st'' ex''
    ·obtain ⟨eh,hno⟩:=r.newA (S':=λj=>(listed.setIfInBounds i true).getD j false) hd tr h0 hA g2 hs' ho2;have g3':ER P ow (base+i) o (A5 (C6 ops sk λj=>listed.getD j false))=some (vk i,ob):=by
      rw[← g3];unfold ER;rw[Tx hops]
     refine St.floatA hA g3' (show base+i<_ by omega) hno (hho i hil r.new) st hdst λβ' a' w' st' hbeta hos htape hout hsize hX hmem hfz=>?_;rw[hnext e1, ← eh]at st';have hrn:(Hs lt br ops hk λj=>(listed.setIfInBounds i true).getD j false).next=(Hs lt br ops hk λj=>listed.getD j false).next:=by rw[eh];try rfl
     refine ih _ β' a' w' (by simpa using hsz) hc' hm' st' ?_ (by rw[hrn];exact hnx) (λf hf hfs=>?_)
     ·refine ⟨hos.trans ex.os,htape.trans ex.tape,hout.trans ex.output,EE ex.size hsize,by rw[hrn];exact ex.next,λid hid=>?_,hX.trans ex.X,λc hc hl=>?_,λc hc=>?_⟩
      ·have:=ex.next
       rw[hbeta id (by omega) (by omega)];exact ex.beta id hid
      ·rw [hmem c (by rw[ex.X];exact hc) (HV hl ex.size)];exact ex.xh c hc hl
      ·obtain ⟨k1,k2⟩:=ex.fz c hc;obtain⟨k3,k4⟩:=hfz c k1;rw[← eh]at k3;exact⟨k3,k4.trans k2⟩
     ·obtain ⟨k1,k2⟩:=hho' f hf hfs;rw[hbeta _ (by omega) (by omega)];exact k2
    ·have hnA:Bl ow o=false:=(by unfold Bl;rw[hop]);obtain⟨hM,hnd,hobj⟩:=r.stored tr hnA g2;have eh:=r.light (S':=λj=>(listed.setIfInBounds i true).getD j false) tr g2 hM hnd hs' ho2;have hdo:Af P ow o (A5 (sk i)) (Hs lt br ops hk λj=>listed.getD j false) (vk i) ((Hs lt br ops hk λj=>listed.getD j false).set id ob):=by
      unfold Af;rw[hop,g3]at g5;rw[hop];exact ZI hx g5 hobj
     refine Af.wp st hdst (LO hops hdo) (λa' w' ht=>?_);obtain⟨s',h',β',⟨rfl,rfl⟩,st',ex'⟩:=ht;rw[← eh]at st' ex';rw[hnext e1]at st';exact fromTo β' a' w' st' ex'
theorem ZN{id:Nat}(hm:P.follows .mixedOrders=true){β:BH}{s:A9}{h:A0}{a:Act}{w:World}{K:A9->A0->Prop}{Q:Exit->Act->World->Prop}(st:St n β s h a w)(hw:On P ow wf n ops K s h)
  (hk': ∀ a' w',To n β h w K a' w'->Q .normal a' w'):(Code.region id ops.toArray true).wp P Q a w:=by
 obtain⟨h1,sk,hk,vk,lt,br,e1,e2,hK,tr⟩:=hw;have hd:=HG.of h1;refine wp_region_any hm ?_;obtain⟨s1,s2⟩:=st.sim.drew;have std:St n β s h a w.drew:=⟨s1,λt=>s2.rep (st.rep t),st.size,st.defers⟩;obtain⟨β0,st0,ex0,hnone0⟩:=std.bump ops.length;have hS: ∀ j,(Array.replicate ops.toArray.size false).getD j false=false:=by
  intro j;rw[DJ,QY];split<;>rfl
 have emp: ∀ (p:Nat->Bool),(λj=>((Array.replicate ops.toArray.size false).getD j false&&p j))=λ_=>false:=by
  intro p;funext j;rw[hS];try rfl
 have l0:Dg (λ_=>false) ops.length=0:=Jm (Bx _) (.inl rfl) (λ_ _ _=>rfl);have hval:C6 ops sk (λj=>(Array.replicate ops.toArray.size false).getD j false)=s:=by
  funext t;unfold C6;rw[emp,l0,e1]
 have hheap:Hs lt br ops hk (λj=>(Array.replicate ops.toArray.size false).getD j false)=h.bump ops.length:=by
  have hM0:MB br ops (λj=>(Array.replicate ops.toArray.size false).getD j false)=0:=by unfold MB;rw[emp,l0]
  have hdl:dl lt br ops (λj=>(Array.replicate ops.toArray.size false).getD j false)=[]:=by
   apply QX.2;intro id hid;obtain⟨f,q,k1,k2,_⟩:=I9.1 hid;rw[hM0]at k2;omega
  unfold Hs;rw[hdl,UB];unfold Xs;have h2:=LU (lt:=lt) (p:=λf=>decide (MB br ops (λj=>(Array.replicate ops.toArray.size false).getD j false)<=f)&&(λj=>(Array.replicate ops.toArray.size false).getD j false) f) (H:=hk (MB br ops (λj=>(Array.replicate ops.toArray.size false).getD j false))) (m:=0) ops.length (λf _ _ _=>by simp only[hS,BD]);rw[Be]at h2;rw[h2,hM0];simp only[CZ];rw[e2];try rfl
 refine ZM hd tr (λf=>?_) hK (hb:=h) (β0:=β) (w0:=w) (AD _) hk' _ _ β0 a w.drew (by simp) (λj o _ hj=>by simp only[hS]at hj;simp at hj) ?_ ?_ ?_ ?_ ?_
 ·rw [e2];cases ho:h.obj (h.next+f)with
  |none=>rfl
  |some o=>have:=st.sim.lt (h.next+f) (by rw[ho];try rfl);omega
 ·have: ∀ m,FC (λj=>(Array.replicate ops.toArray.size false).getD j false) m<=m:=by
   intro m
   induction m with
   |zero=>exact AD _
   |succ m ih=>unfold FC;split<;>omega
  simpa using this ops.length
 ·rw [hval,hheap];exact st0
 ·rw [hheap];exact s2.trans ex0
 ·rw [hheap];exact AD _
 ·intro f hf _;exact hnone0 _ (by omega)
end
end Go.AM
namespace Go.AM
section
variable {P:Program}{ow:Nat->Bool}{wf:FuncId->Bool}{n:Nat}
def PE(n:Nat)(β:BH)(h:A0)(w:World)(K:BA)(e:Exit)(a':Act)(w':World):Prop:=
 ∃ s' h' β',K e s' h'/\St n β' s' h' a' w'/\BM β h w β' h' w'
def Nh(P:Program)(c:Code)(Q:Exit->Act->World->Prop):Nat->Act->World->Prop
 |0,_,_=>False
 |k+1,a,w=>c.wp P (Exit.then (Nh P c Q k) Q) a w
theorem ZO{c:Code}{Q:Exit->Act->World->Prop}{k:Nat}{a:Act}{w:World}(hl:Nh P c Q k a w):(Code.loop c).wp P Q a w:=by
 have key: ∀ (m:Nat)(a:Act)(w:World),Nh P c Q m a w-> ∀ (b:Frame)(k:List Item)(cs:List Frame),
   ∃ e a' w',Q e a' w'/\Arrives P (lone (b.at a (.code c:: .inLoop c::k)) cs w) b k cs e a' w':=by
  intro m
  induction m with
  |zero=>intro a w h;exact h.elim
  |succ m ih=>
   intro a w h b k cs;obtain⟨e,a₁,w₁,hq,harr⟩:=h b (.inLoop c::k) cs;cases e with
   |normal=>
    obtain⟨e₂,a₂,w₂,hq₂,harr₂⟩:=ih a₁ w₁ hq b k cs;exact⟨e₂,a₂,w₂,hq₂,.of_steps (Steps.trans harr (.one step_inLoop)) harr₂⟩
   |exit id=>exact⟨_,a₁,w₁,hq,.pass (x:= .inLoop c) rfl (λ_ _=> .inl (by simp)) harr⟩
   |goto l=>exact⟨_,a₁,w₁,hq,.pass (x:= .inLoop c) rfl (λ_ _=> .inl (by simp)) harr⟩
   |ret=>exact⟨_,a₁,w₁,hq,.pass (x:= .inLoop c) rfl (λ_ _=> .inl (by simp)) harr⟩
   |panic ch=>exact⟨_,a₁,w₁,hq,.pass (x:= .inLoop c) rfl (λ_ _=> .inl (by simp)) harr⟩
   |outgrown=>exact⟨_,a₁,w₁,hq,.pass (x:= .inLoop c) rfl (λ_ _=> .inl (by simp)) harr⟩
 intro b k cs;obtain⟨e,a',w',hq,harr⟩:=key _ a w hl b k cs;exact⟨e,a',w',hq,.of_steps (.one step_loop) harr⟩
theorem LW(hm:P.follows .mixedOrders=true): ∀ (c:Code)(Q':BA)(β:BH)(s:A9)(h:A0)(a:Act)(w:World)(Q:Exit->Act->World->Prop),
  Ad P ow wf n c Q' s h->St n β s h a w->(∀ e a' w',PE n β h w Q' e a' w'->Q e a' w')->c.wp P Q a w
 | .skip,Q',β,s,h,a,w,Q,hw,st,hk=>wp_skip (hk _ _ _ ⟨s,h,β,hw,st,BM.refl⟩)
 | .region id ops true,Q',β,s,h,a,w,Q,hw,st,hk=>by
  simp only[Ad,AH]at hw;obtain⟨s1,h1,wk,hw⟩:=hw;obtain⟨k1,k2,k3⟩:=wk β w st.sim;have hk:=λe a' w' (ht:PE n β h1 w Q' e a' w')=>hk e a' w' (by obtain⟨s2,h2,β2,q2,st2,ex2⟩:=ht;exact⟨s2,h2,β2,q2,st2,k2.trans ex2⟩);have st:St n β s1 h1 a w:=⟨k1,λt=>k3 t _ (st.rep t),st.size,st.defers⟩;rcases hw with hw|hw|hw
  ·have:=ZB (id:=id) hm st hw (Q:=Q) (λa' w' ht=>hk _ _ _ ht);simpa using this
  ·have:=ZF (id:=id) hm st hw (Q:=Q) (λa' w' ht=>hk _ _ _ ht);simpa using this
  ·have:=ZN (id:=id) hm st hw (Q:=Q) (λa' w' ht=>hk _ _ _ ht);simpa using this
 | .region id ops false,Q',β,s,h,a,w,Q,hw,st,hk=>by
  simp only[Ad,BG,AP]at hw;obtain⟨s1,h1,wk,hw⟩:=hw;obtain⟨k1,k2,k3⟩:=wk β w st.sim;have hk:=λe a' w' (ht:PE n β h1 w Q' e a' w')=>hk e a' w' (by obtain⟨s2,h2,β2,q2,st2,ex2⟩:=ht;exact⟨s2,h2,β2,q2,st2,k2.trans ex2⟩);have st:St n β s1 h1 a w:=⟨k1,λt=>k3 t _ (st.rep t),st.size,st.defers⟩;refine wp_region_list ?_;have:=Qr (Q:=Q) ops.toList st hw (λa' w' ht=>hk _ _ _ ht);simpa using this
 | .seq x y,Q',β,s,h,a,w,Q,hw,st,hk=>by
  simp only[Ad]at hw;refine wp_seq (LW hm x _ β s h a w _ hw st (λe a' w' ht=>?_));obtain⟨s',h',β',hq,st',ex⟩:=ht;cases e<;>simp only[BA.seq]at hq<;>simp only[Exit.then]
  ·exact LW hm y _ β' s' h' a' w' Q hq st' (λe a'' w'' ⟨s2,h2,β2,q2,st2,ex2⟩=>hk _ _ _ ⟨s2,h2,β2,q2,st2,ex.trans ex2⟩)
  all_goals exact hk _ _ _ ⟨s',h',β',hq,st',ex⟩
 | .cond c x y,Q',β,s,h,a,w,Q,hw,st,hk=>by
  simp only[Ad]at hw;split at hw
  ·rename_i b hb;have he:=KP st.rep c;rw[hb]at he;simp only[AQ,A8]at he;cases b with
   |true=>exact wp_cond_true he (LW hm x _ β s h a w Q (by simpa using hw) st hk)
   |false=>exact wp_cond_false he (LW hm y _ β s h a w Q (by simpa using hw) st hk)
  ·exact hw.elim
 | .block id c,Q',β,s,h,a,w,Q,hw,st,hk=>by
  simp only[Ad]at hw;refine wp_block (LW hm c _ β s h a w _ hw st (λe a' w' ht=>?_));obtain⟨s',h',β',hq,st',ex⟩:=ht;cases e<;>simp only[BA.block]at hq<;>simp only[Exit.inBlock]
  case exit id'=>
   by_cases hid:id'=id
   ·rw [AG hid]at hq⊢;exact hk _ _ _ ⟨s',h',β',hq,st',ex⟩
   ·rw [A4 hid]at hq⊢;exact hk _ _ _ ⟨s',h',β',hq,st',ex⟩
  all_goals exact hk _ _ _ ⟨s',h',β',hq,st',ex⟩
 | .loop c,Q',β,s,h,a,w,Q,hw,st,hk=>by
  simp only[Ad]at hw;obtain⟨k,hw⟩:=hw;refine ZO (k:=k) ?_;have key: ∀ (k:Nat)(β:BH)(s:A9)(h:A0)(a:Act)(w:World),Jj (Ad P ow wf n c) Q' k s h->St n β s h a w->(∀ e a' w',PE n β h w Q' e a' w'->Q e a' w')->Nh P c Q k a w:=by
   intro k
   induction k with
   |zero=>intro β s h a w hl;exact hl.elim
   |succ k ih=>
    intro β s h a w hl st hk;simp only[Jj]at hl;simp only[Nh];refine LW hm c _ β s h a w _ hl st (λe a' w' ht=>?_);obtain⟨s',h',β',hq,st',ex⟩:=ht;cases e<;>simp only[BA.seq]at hq<;>simp only[Exit.then]
    ·exact ih β' s' h' a' w' hq st' (λe a'' w'' ⟨s2,h2,β2,q2,st2,ex2⟩=>hk _ _ _ ⟨s2,h2,β2,q2,st2,ex.trans ex2⟩)
    all_goals exact hk _ _ _ ⟨s',h',β',hq,st',ex⟩
  exact key k β s h a w hw st hk
 | .exit id,Q',β,s,h,a,w,Q,hw,st,hk=>wp_exit (hk _ _ _ ⟨s,h,β,hw,st,BM.refl⟩)
 | .ret,Q',β,s,h,a,w,Q,hw,st,hk=>wp_ret (hk _ _ _ ⟨s,h,β,hw,st,BM.refl⟩)
 | .rangeFunc _ _ _ _,_,_,_,_,_,_,_,hw,_,_=>hw.elim
 | .scope _,_,_,_,_,_,_,_,hw,_,_=>hw.elim
 | .label _,_,_,_,_,_,_,_,hw,_,_=>hw.elim
 | .goto _,_,_,_,_,_,_,_,hw,_,_=>hw.elim
 | .refuse _,_,_,_,_,_,_,_,hw,_,_=>hw.elim
theorem ZP{β:BH}{s:A9}{h:A0}{a:Act}{w:World}(st:St n β s h a w){r:ResultVar}{p:PV}(hr:LN P s h r=some p):
  ∃ v,(match r with| .tmp t=>pure (a.tmps.getD t undef)| .cell x t=>do loadVar t (← asAddr (a.tmps.getD x undef)):Sem Value).run P w= .ok v w/\AQ β h w p v:=by
 cases r with
 |tmp t=>
  simp only[LN,Ak]at hr;subst hr;exact⟨_,rfl,st.rep t⟩
 |cell x t=>
  simp only[LN]at hr;cases hz:CM P t with
  |none=>simp[hz]at hr
  |some m=>
   cases hc:rd h (s x)with
   |none=>simp[hz,hc]at hr
   |some cs=>
    simp only[hz,hc,D2]at hr;obtain⟨b,o,g1,g2⟩:=TQ st.sim hc (st.rep x);obtain⟨xv,g3,g4⟩:=TR (P:=P) hz hr g2;refine⟨xv,?_,g4⟩;simp only[g1,asAddr,pure_bind];exact g3
theorem UC{β:BH}{s:A9}{h:A0}{a:Act}{w:World}(st:St n β s h a w): ∀ (rs:List ResultVar)(ps:List PV),Gr P s h rs=some ps->
  ∃ vs:List Value,(rs.mapM (λ| .tmp t=>pure (a.tmps.getD t undef)| .cell x t=>do loadVar t (← asAddr (a.tmps.getD x undef)):ResultVar->Sem Value)).run P w= .ok vs w/\AS β h.next (Fz β h w) w ps vs
 |[],ps,hr=>by simp[Gr]at hr;subst hr;exact⟨[],by simp,by simp[AS]⟩
 |r::rs,ps,hr=>by
  simp only[Gr]at hr;cases h1:LN P s h r with
  |none=>simp[h1]at hr
  |some p=>
   cases h2:Gr P s h rs with
   |none=>simp[h1,h2]at hr
   |some ps'=>
    simp[h1,h2]at hr;subst hr;obtain⟨v,g1,g2⟩:=ZP st h1;obtain⟨vs,g3,g4⟩:=UC st rs ps' h2;refine⟨v::vs,?_,by simp only[AS];exact⟨g2,g4⟩⟩;simp only[List.mapM_cons,Sem.run_bind,g1,Result.andThen_ok,g3,Sem.run_pure]
theorem Ni(hm:P.follows .mixedOrders=true){f:FuncId}{fn:Func}{c:Code}{args:List PV}{h:A0}{K:PV->A0->Prop}(hf:P.funcs[f]? =some fn)(hb:fn.body=some c)(hh:Ai P f=true)(hn:args.length<=fn.ntmps)
  (hw:Ad P ow wf fn.ntmps c (I5 P fn.results.toList K) (LM args) h):A6 P f args h K:=by
 refine λβ w vals sm hr=> .inl ⟨hh,?_⟩;have hl:=hr.len;refine calls_of_wp hf hb ?_;have st:St fn.ntmps β (LM args) h {tmps:=vals.toArray++Array.replicate (fn.ntmps-vals.toArray.size) undef,defers:=[]} w:=by
  refine⟨sm,λt=>?_,?_,rfl⟩
  ·simp only[LM];by_cases ht:t<args.length
   ·have h1:args[t]? =some args[t]:=AU ht;obtain⟨v,hv,hvr⟩:=hr.get h1;rw[mG,h1];have:(vals.toArray++Array.replicate (fn.ntmps-vals.toArray.size) undef)[t]? =some v:=by
     rw[mF (by simp;omega)];simpa using hv
    rw[DJ,this];exact hvr
   ·rw [mG,TA (by omega)];have:(vals.toArray++Array.replicate (fn.ntmps-vals.toArray.size) undef).getD t undef=undef:=by
     rw[DJ,Array.getElem?_append_right (by simp;omega),QY];split<;>rfl
    rw[this];simp only[AQ,Bf,A8]
  ·simp;omega
 refine LW hm c _ β _ h _ w _ hw st (λe a' w' ht=>?_);obtain⟨s',h',β',hq,st',ex⟩:=ht;have Ck:(match Gr P s' h' fn.results.toList with|some vs=>K (Fl vs) h'|none=>False)->a'.defers=[]/\ ∃ v,(results fn a'.tmps).run P w'= .ok v w'/\(∃ r h'' β'' u,Ending.returned v= .returned u/\K r h''/\Ay β'' h'' w'/\AQ β'' h'' w' r u/\BM β h w β'' h'' w'):=by
  intro hq;split at hq
  ·rename_i ps hps;obtain⟨vs,g1,g2⟩:=UC st' _ ps hps;refine⟨st'.defers,(if hx:vs.toArray.size=1 then vs.toArray[0]else .tuple vs.toArray),?_,Fl ps,h',β',_,rfl,hq,st'.sim,?_,ex⟩
   ·simp only[results,Array.mapM_eq_mapM_toList,Sem.run_bind,Sem.run_map];exact L8 (λr:Result (List Value)=>(r.andThen λa w'=>Result.ok a.toArray w').andThen λa w'=>(Pure.pure (if h:a.size=1 then a[0]else Value.tuple a):Sem Value).run P w') g1
   ·have hl2:=g2.len
    match ps,vs,hl2,g2 with
    |[p],[v],_,g2=>simp only[AS]at g2;simpa[Fl]using g2.1
    |[],[],_,g2=>simp only[Fl,AQ,A8];exact⟨[],by simp,g2⟩
    |p::q::ps,v::u::vs,_,g2=>simp only[Fl,AQ,A8];exact⟨v::u::vs,by simp,g2⟩
    |[],v::vs,hl2,_=>simp at hl2
    |p::ps,[],hl2,_=>simp at hl2
    |[p],v::u::vs,hl2,_=>simp at hl2
    |p::q::ps,[v],hl2,_=>simp at hl2
  ·exact hq.elim
 cases e<;>simp only[I5]at hq
 ·exact Ck hq
 ·exact Ck hq
theorem LK.body{f:FuncId}{vals:Array Value}{w:World}{Q:Ending->World->Prop}(hb:Ai P f=true)(h:LK P f vals w Q):Calls P f vals w Q:=by
 rcases h with⟨_,h⟩|⟨v,w',h,_⟩
 ·exact h
 ·unfold Ai at hb;cases hfn:P.funcs[f]? with
  |none=>simp[hfn]at hb
  |some fn=>
   simp[hfn]at hb;have hbody:fn.body.isNone=false:=(by cases hbb:fn.body<;>simp[hbb]at hb⊢);have hne:fn.body≠none:=(by intro e;rw[e]at hb;simp at hb);simp[callFunc,hfn,hb.1,hne]at h
theorem ZQ{f:FuncId}{pargs:List PV}{w:World}{vals:List Value}(hb:Ai P f=true)(hc:A6 P f pargs A0.nil (λr _=>r= .sc (.bool true)))(hr:AS ⟨λ_=>⟨none,0,0,0⟩,λ_=>False⟩ 0 (λb=>b<w.heap.size) w pargs vals):
  Calls P f vals.toArray w λe w'=>e= .returned (.bool true)/\RowKit.Below w.heap.size w w':=by
 have sm:Ay ⟨λ_=>⟨none,0,0,0⟩,λ_=>False⟩ A0.nil w:=⟨λid h=>by simp[A0.nil]at h,λid o h=>by simp[A0.nil]at h,λi j h=>by simp[A0.nil]at h,λb h=>h.elim,λid h=>by simp[A0.nil]at h⟩;have fz0: ∀ b,b<w.heap.size->Fz ⟨λ_=>⟨none,0,0,0⟩,λ_=>False⟩ A0.nil w b:=λb hb=>⟨hb,λid h=>by simp[A0.nil]at h,λh=>h⟩;have hr':AS ⟨λ_=>⟨none,0,0,0⟩,λ_=>False⟩ A0.nil.next (Fz ⟨λ_=>⟨none,0,0,0⟩,λ_=>False⟩ A0.nil w) w pargs vals:=
  AS.mv ⟨AD _,λ_ _ _=>rfl,λb hb=>⟨fz0 b hb,rfl⟩⟩ _ _ hr
 refine(LK.body hb (hc _ w vals sm hr')).mono ?_;rintro e w' ⟨r,h',β',v,rfl,rfl,sm',hrep,ex⟩;simp only[AQ,A8]at hrep;subst hrep;exact⟨rfl,⟨ex.os,ex.tape,ex.output,ex.size,λk hk=>(ex.fz k (fz0 k hk)).2⟩⟩
theorem A6.mono{f:FuncId}{args:List PV}{h:A0}{K K':PV->A0->Prop}(hc:A6 P f args h K)(hk: ∀ r h',K r h'->K' r h'):A6 P f args h K':=
 λβ w vals sm hr=>(hc β w vals sm hr).mono λ_ _ ⟨r,h',β',v,h1,h2,h3⟩=>⟨r,h',β',v,h1,hk _ _ h2,h3⟩
end
end Go.AM
namespace Go.AM
section
variable {P:Program}{ow:Nat->Bool}{wf:FuncId->Bool}{n:Nat}
theorem Nj(h:A0)(o:Ab)(i:Nat):(h.new o).obj i=if i=h.next then some o else h.obj i:=rfl
theorem Nk(h:A0)(id i:Nat):(h.kill id).obj i=if i=id then none else h.obj i:=rfl
theorem UD(h:A0)(id:Nat)(o:Ab)(i:Nat):(h.set id o).obj i=if i=id then some o else h.obj i:=rfl
theorem R3(h:A0)(o:Ab):(h.new o).next=h.next+1:=rfl
theorem PF(h:A0)(id:Nat):(h.kill id).next=h.next:=rfl
theorem UE(h:A0)(id:Nat)(o:Ab):(h.set id o).next=h.next:=rfl
theorem ZR(s:A9)(d:Nat)(v:PV)(t:Nat):CX s d v t=if t=d then v else s t:=rfl
theorem ZS(s:A9)(d:Nat)(v:PV):AZ s (some d) v=CX s d v:=rfl
theorem ZT(s:A9)(v:PV):AZ s none v=s:=rfl
theorem ZU(l:List PV)(t:Nat):LM l t=l.getD t (.sc undef):=rfl
theorem ZV(k:IntKind)(i:Int):GY (.int k i)= .sc (.int k i):=rfl
theorem ZW(b:Bool):GY (.bool b)= .sc (.bool b):=rfl
theorem ZX(b:ByteArray):GY (.string b)= .sc (.string b):=rfl
theorem ZY:GY .nilIface= .sc .nilIface:=rfl
theorem ZZ(a:Option Addr):GY (.pointer a)= .sc (.pointer a):=rfl
theorem Za(a:Option Addr)(l c:Nat):GY (.slice a l c)= .sc (.slice a l c):=rfl
theorem Zb(a:Option Nat):GY (.map a)= .sc (.map a):=rfl
theorem Zc(l:List Value):GY (.agg l.toArray)=if l.all Value.oneCell'=true then .agg (l.map .sc)else .sc (.agg l.toArray):=rfl
theorem R4{o:Oper}{K K':A9->A0->Prop}(hk: ∀ s h,K s h->K' s h){s:A9}{h:A0}(ho:CQ P ow o K s h):CQ P ow o K' s h:=by
 unfold CQ at ho⊢;split at ho
 ·exact ho.mono λ_ _=>hk _ _
 ·split at ho
  ·exact hk _ _ ho
  ·exact ho
theorem R5{ops:List Oper}{K K':A9->A0->Prop}(hk: ∀ s h,K s h->K' s h): ∀ (l:List Oper){s:A9}{h:A0},EH P ow n ops l K s h->EH P ow n ops l K' s h
 |[],s,h,hl=>hk s h hl
 |o::rest,s,h,hl=>by
  simp only[EH]at hl⊢;refine⟨hl.1,?_⟩;have h2:=hl.2;split at h2
  ·exact h2.elim
  ·split at h2
   ·rename_i hb;simp only[hb,AH];exact R4 (λs h=>R5 hk rest) h2
   ·rename_i hb;simp only[hb,AP,BG];exact R5 hk rest h2
theorem PG{ops:List Oper}{K K':A9->A0->Prop}(hk: ∀ s h,K s h->K' s h): ∀ (l:List Oper)(k:Nat)(past:List (Nat × (A0->Prop)))(hist:List (Nat × A0)){s:A9}{h:A0},Do P ow wf n ops k l past hist K s h->Do P ow wf n ops k l past hist K' s h
 |[],_,_,_,s,h,hl=>hk s h hl
 |o::rest,k,past,hist,s,h,hl=>by
  simp only[Do]at hl⊢;refine⟨hl.1,?_⟩;have h2:=hl.2;split at h2
  ·exact h2.elim
  ·split at h2
   ·rename_i hb;simp only[hb,AH];split at h2
    ·rename_i hw;obtain⟨v,h',g1,g2,g3⟩:=h2;rw[AG hw];exact⟨v,h',g1,g2,PG hk rest _ _ _ g3⟩
    ·rename_i hw;obtain⟨v,g1,g2,g3⟩:=h2;rw[A4 hw];exact⟨v,g1,g2,PG hk rest _ _ _ g3⟩
   ·rename_i hb;simp only[hb,AP,BG];exact PG hk rest _ _ _ h2
theorem PH{ops:List Oper}{base:Nat}{K K':A9->A0->Prop}(hk: ∀ s h,K s h->K' s h): ∀ (l:List Oper)(k:Nat)(past:List (Nat × (A0->Prop)))(hist:List (Nat × A0)){s:A9}{h:A0},FU P ow wf n ops base k l past hist K s h->FU P ow wf n ops base k l past hist K' s h
 |[],_,_,_,s,h,hl=>hk s h hl
 |o::rest,k,past,hist,s,h,hl=>by
  simp only[FU]at hl⊢;refine⟨hl.1,?_⟩;have h2:=hl.2;split at h2
  ·exact h2.elim
  ·split at h2
   ·rename_i hb;simp only[hb,AH];split at h2
    ·rename_i hw;obtain⟨v,h',g1,g0,g2,g3⟩:=h2;rw[AG hw];exact⟨v,h',g1,g0,g2,PH hk rest _ _ _ g3⟩
    ·rename_i hw;obtain⟨v,g1,g2,g3⟩:=h2;rw[A4 hw];exact⟨v,g1,g2,PH hk rest _ _ _ g3⟩
   ·rename_i hb;simp only[hb,AP,BG];exact PH hk rest _ _ _ h2
theorem R6{c:BA->A9->A0->Prop}(hc: ∀ {Q Q':BA},(∀ e s h,Q e s h->Q' e s h)-> ∀ {s h},c Q s h->c Q' s h){Q Q':BA}(hq: ∀ e s h,Q e s h->Q' e s h): ∀ {k k':Nat},k<=k'-> ∀ {s:A9}{h:A0},Jj c Q k s h->Jj c Q' k' s h
 |0,_,_,_,_,hl=>hl.elim
 |k+1,0,hle,_,_,_=>by omega
 |k+1,k'+1,hle,s,h,hl=>by
  simp only[Jj]at hl⊢;refine hc (λe s h hh=>?_) hl;cases e<;>simp only[BA.seq]at hh⊢
  ·exact R6 hc hq (by omega) hh
  all_goals exact hq _ _ _ hh
theorem JD: ∀ (c:Code){Q Q':BA},(∀ e s h,Q e s h->Q' e s h)-> ∀ {s:A9}{h:A0},Ad P ow wf n c Q s h->Ad P ow wf n c Q' s h
 | .skip,_,_,hq,_,_,hw=>hq _ _ _ hw
 | .region id ops d,Q,Q',hq,s,h,hw=>by
  simp only[Ad]at hw⊢;obtain⟨s,h,wk,hw⟩:=hw;refine⟨s,h,wk,?_⟩;cases d with
  |true=>
   simp only[AH]at hw⊢;exact hw.imp (λhw=>⟨hw.1,PG (λs h=>hq _ s h) _ _ _ _ hw.2⟩) (λhw=>hw.imp (λhw=>⟨hw.1,PH (λs h=>hq _ s h) _ _ _ _ hw.2⟩) (λ⟨d,sk,hk,vk,lt,br,e1,e2,k,f⟩=>⟨d,sk,hk,vk,lt,br,e1,e2,hq _ _ _ k,f⟩))
  |false=>simp only[BG,AP]at hw⊢;exact R5 (λs h=>hq _ s h) _ hw
 | .seq a b,Q,Q',hq,s,h,hw=>by
  simp only[Ad]at hw⊢;refine JD a (λe s h hh=>?_) hw;cases e<;>simp only[BA.seq]at hh⊢
  ·exact JD b hq hh
  all_goals exact hq _ _ _ hh
 | .cond c x y,Q,Q',hq,s,h,hw=>by
  simp only[Ad]at hw⊢;split at hw
  ·split at hw
   ·rename_i hb;rw[AG hb];exact JD x hq hw
   ·rename_i hb;rw[A4 hb];exact JD y hq hw
  ·exact hw
 | .block id c,Q,Q',hq,s,h,hw=>by
  simp only[Ad]at hw⊢;refine JD c (λe s h hh=>?_) hw;cases e<;>simp only[BA.block]at hh⊢
  case exit id'=>split at hh<;>rename_i he<;>simp only[he,AH,AP]<;>exact hq _ _ _ hh
  all_goals exact hq _ _ _ hh
 | .loop c,Q,Q',hq,s,h,hw=>by
  simp only[Ad]at hw⊢;obtain⟨k,hw⟩:=hw;exact⟨k,R6 (c:=Ad P ow wf n c) (λhqq=>JD c hqq) hq (AD _) hw⟩
 | .exit id,_,_,hq,_,_,hw=>hq _ _ _ hw
 | .ret,_,_,hq,_,_,hw=>hq _ _ _ hw
 | .rangeFunc _ _ _ _,_,_,_,_,_,hw=>hw
 | .scope _,_,_,_,_,_,hw=>hw
 | .label _,_,_,_,_,_,hw=>hw
 | .goto _,_,_,_,_,_,hw=>hw
 | .refuse _,_,_,_,_,_,hw=>hw
variable {Q:BA}{s:A9}{h:A0}
def KR:Code->Bool
 | .region _ _ _=>true
 | .seq a _=>KR a
 | .block _ c=>KR c
 | .loop c=>KR c
 |_=>false
theorem PK{s s':A9}{h h':A0}(wk:Wk s h s' h'): ∀ (c:Code){Q:BA},KR c=true->Ad P ow wf n c Q s' h'->Ad P ow wf n c Q s h
 | .region id ops d,Q,_,hw=>by
  simp only[Ad]at hw⊢;obtain⟨s1,h1,w1,hw⟩:=hw;exact⟨s1,h1,wk.trans w1,hw⟩
 | .seq a b,Q,hc,hw=>by
  simp only[Ad]at hw⊢;exact PK wk a hc hw
 | .block id c,Q,hc,hw=>by
  simp only[Ad]at hw⊢;exact PK wk c hc hw
 | .loop c,Q,hc,hw=>by
  simp only[Ad]at hw⊢;obtain⟨k,hw⟩:=hw;cases k with
  |zero=>exact hw.elim
  |succ k=>exact⟨k+1,PK wk c hc hw⟩
theorem UF{c:Code}{Q:BA}{s s':A9}{h h':A0}(hc:KR c=true)(wk:Wk s h s' h')(hw:Ad P ow wf n c Q s' h'):Ad P ow wf n c Q s h:=PK wk c hc hw
theorem GZ(hq:Q .normal s h):Ad P ow wf n .skip Q s h:=hq
theorem Zd{id:Nat}(hq:Q (.exit id) s h):Ad P ow wf n (.exit id) Q s h:=hq
theorem ES(hq:Q .ret s h):Ad P ow wf n .ret Q s h:=hq
theorem Ae{a b:Code}(hk: ∀ K:A9->A0->Prop,(∀ s h,Ad P ow wf n b Q s h->K s h)->Ad P ow wf n a (BA.seq K Q) s h):Ad P ow wf n (.seq a b) Q s h:=by
 simp only[Ad];exact hk _ λ_ _ x=>x
theorem Ca{id:Nat}{c:Code}(hk:Ad P ow wf n c (BA.block id Q) s h):Ad P ow wf n (.block id c) Q s h:=hk
theorem EI{c:Operand}{x y:Code}(b:Bool)(hc:A5 s c= .sc (.bool b))(h1:b=true->Ad P ow wf n x Q s h)(h2:b=false->Ad P ow wf n y Q s h):Ad P ow wf n (.cond c x y) Q s h:=by
 simp only[Ad,hc];cases b with
 |true=>simpa using h1 rfl
 |false=>simpa using h2 rfl
def E8(P:Program)(ow:Nat->Bool)(n:Nat)(ops:List Oper):List Oper->(A9->A0->Prop)->A9->A0->Prop
 |[],K,s,h=>K s h
 |o::rest,K,s,h=>(o.dst.all (λd=>decide (d<n))=true)/\match CN ops s o with
  |none=>False
  | some b => if b = true then
    (match callee (A5 s) o.op with
    |none=>(match AT P (o.dst.any ow) o.op (A5 s) h with
     |some (v,h1)=>E8 P ow n ops rest K (AZ s o.dst v) h1
     |none=>False)
    |some _=>CQ P ow o (EH P ow n ops rest K) s h)
   else E8 P ow n ops rest K (AZ s o.dst (.sc undef)) h
theorem KS{ops:List Oper}{K:A9->A0->Prop}:(rest:List Oper)->(s:A9)->(h:A0)->E8 P ow n ops rest K s h->EH P ow n ops rest K s h
 |[],_,_,hh=>by simpa only[E8,EH]using hh
 |o::rest,s,h,hh=>by
  simp only[E8]at hh;simp only[EH];refine⟨hh.1,?_⟩;have h2:=hh.2
  clear hh;cases hw:CN ops s o with
  |none=>rw[hw]at h2;exact h2
  |some b=>
   rw[hw]at h2;simp only at h2⊢;split at h2
   ·rename_i hb;rw[AG hb];cases hc:callee (A5 s) o.op with
    |none=>
     rw[hc]at h2;simp only at h2;unfold CQ;rw[hc];simp only;cases he:AT P (o.dst.any ow) o.op (A5 s) h with
     |none=>rw[he]at h2;exact h2.elim
     |some r=>
      rw[he]at h2;exact KS rest _ _ h2
    |some f=>
     rw[hc]at h2;exact h2
   ·rename_i hb;rw[A4 hb];exact KS rest _ _ h2
theorem FD{id:Nat}{ops:List Oper}(hk: ∀ K:A9->A0->Prop,(∀ s h,Q .normal s h->K s h)->E8 P ow n ops ops K s h):Ad P ow wf n (.region id ops.toArray false) Q s h:=by
 simp only[Ad,BG,AP];exact⟨_,_,.refl,KS _ _ _ (hk _ λ_ _ x=>x)⟩
theorem BZ{id:Nat}{ops:List Oper}{K:A9->A0->Prop}(hk:E8 P ow n ops ops K s h):Ad P ow wf n (.region id ops.toArray false) (BA.seq K Q) s h:=by
 simp only[Ad,BG,AP];exact⟨_,_,.refl,KS _ _ _ hk⟩
abbrev Ga:=List (Nat × Oper × A9 × PV)
def DR(P:Program)(ow:Nat->Bool)(l:Ga):List (Nat × (A0->Prop)):=l.map λx=>(x.1,λh'=>Af P ow x.2.1 (A5 x.2.2.1) h' x.2.2.2 h')
def Eu(P:Program)(ow:Nat->Bool)(wf:FuncId->Bool)(n:Nat)(ops:List Oper):Nat->List Oper->Ga->List (Nat × A0)->(A9->A0->Prop)->A9->A0->Prop
 |_,[],_,_,K,s,h=>K s h
 |k,o::rest,past,hist,K,s,h=>(o.dst.all (λd=>decide (d<n))=true)/\match CN ops s o with
  |none=>False
  | some b => if b = true then
    (match callee (A5 s) o.op with
    |none=>(match AT P (o.dst.any ow) o.op (A5 s) h with
     |some (v,h1)=>if B0 ow wf o=true then(∀ x∈past,pre ops x.1 k=true\/Af P ow x.2.1 (A5 x.2.2.1) h1 x.2.2.2 h1)/\Eu P ow wf n ops (k+1) rest past ((k,h)::hist) K (AZ s o.dst v) h1
      else h1=h/\(∀ x∈hist,pre ops x.1 k=true\/Af P ow o (A5 s) x.2 v x.2)/\Eu P ow wf n ops (k+1) rest ((k,o,s,v)::past) hist K (AZ s o.dst v) h
     |none=>False)
    |some _=>(if B0 ow wf o=true then ∃ v h',Af P ow o (A5 s) h v h'/\(∀ x∈DR P ow past,pre ops x.1 k=true\/x.2 h')/\Do P ow wf n ops (k+1) rest (DR P ow past) ((k,h)::hist) K (AZ s o.dst v) h'
     else ∃ v,Af P ow o (A5 s) h v h/\(∀ x∈hist,pre ops x.1 k=true\/Af P ow o (A5 s) x.2 v x.2)/\Do P ow wf n ops (k+1) rest (DR P ow ((k,o,s,v)::past)) hist K (AZ s o.dst v) h))
   else Eu P ow wf n ops (k+1) rest past hist K (AZ s o.dst (.sc undef)) h
theorem JE{ops:List Oper}{K:A9->A0->Prop}:(rest:List Oper)->(k:Nat)->(past:Ga)->(hist:List (Nat × A0))->(s:A9)->(h:A0)->Eu P ow wf n ops k rest past hist K s h->Do P ow wf n ops k rest (DR P ow past) hist K s h
 |[],_,_,_,_,_,hh=>by simpa only[Eu,Do]using hh
 |o::rest,k,past,hist,s,h,hh=>by
  simp only[Eu]at hh;simp only[Do];refine⟨hh.1,?_⟩;have h2:=hh.2
  clear hh;cases hw:CN ops s o with
  |none=>rw[hw]at h2;exact h2
  |some b=>
   rw[hw]at h2;simp only at h2⊢;have pc: ∀ h1,(∀ x∈past,pre ops x.1 k=true\/Af P ow x.2.1 (A5 x.2.2.1) h1 x.2.2.2 h1)-> ∀ x∈DR P ow past,pre ops x.1 k=true\/x.2 h1:=by
    intro h1 hp x hx;obtain⟨y,hy,rfl⟩:=Er.1 hx;exact hp y hy
   split at h2
   ·rename_i hb;rw[AG hb];cases hc:callee (A5 s) o.op with
    |none=>
     rw[hc]at h2;simp only at h2;cases he:AT P (o.dst.any ow) o.op (A5 s) h with
     |none=>rw[he]at h2;exact h2.elim
     |some r=>
      obtain⟨v,h1⟩:=r;rw[he]at h2;simp only at h2;have hd:Af P ow o (A5 s) h v h1:=(by unfold Af;rw[hc];exact he);split at h2
      ·rename_i hi;rw[AG hi];exact⟨v,h1,hd,pc h1 h2.1,JE rest _ _ _ _ _ h2.2⟩
      ·rename_i hi;rw[A4 hi];obtain⟨rfl,h3,h4⟩:=h2;exact⟨v,hd,h3,JE rest _ _ _ _ _ h4⟩
    |some f=>
     rw[hc]at h2;simp only at h2;split at h2
     ·rename_i hi;rw[AG hi];obtain⟨v,h1,hd,h3,h4⟩:=h2;exact⟨v,h1,hd,h3,h4⟩
     ·rename_i hi;rw[A4 hi];obtain⟨v,hd,h3,h4⟩:=h2;exact⟨v,hd,h3,h4⟩
   ·rename_i hb;rw[A4 hb];exact JE rest _ _ _ _ _ h2
theorem UG{id:Nat}{ops:List Oper}(hd:JB ow wf ops=true)(hk: ∀ K:A9->A0->Prop,(∀ s h,Q .normal s h->K s h)->Eu P ow wf n ops 0 ops [] [] K s h):Ad P ow wf n (.region id ops.toArray true) Q s h:=by
 simp only[Ad,AH];exact⟨_,_,.refl,.inl ⟨hd,JE _ _ _ _ _ _ (hk _ λ_ _ x=>x)⟩⟩
theorem Nl{id:Nat}{ops:List Oper}{K:A9->A0->Prop}(hd:JB ow wf ops=true)(hk:Eu P ow wf n ops 0 ops [] [] K s h):Ad P ow wf n (.region id ops.toArray true) (BA.seq K Q) s h:=by
 simp only[Ad,AH];exact⟨_,_,.refl,.inl ⟨hd,JE _ _ _ _ _ _ hk⟩⟩
theorem KT{c:Prop} [Decidable c] {A B:Prop}(h1:c->A)(h2:¬ c->B):if c then A else B:=by
 by_cases h:c
 ·rw [AG h];exact h1 h
 ·rw [A4 h];exact h2 h
theorem Cd{c:Code}(I:Nat->A9->A0->Prop)(m:Nat)(h0:I m s h)(step: ∀ m s h,I m s h->Ad P ow wf n c (BA.seq (λs' h'=> ∃ m',m'<m/\I m' s' h') Q) s h):Ad P ow wf n (.loop c) Q s h:=by
 have key: ∀ m s h,I m s h->Jj (Ad P ow wf n c) Q (m+1) s h:=by
  intro m
  induction m using Nat.strongRecOn with
  |_ m ih=>
   intro s h hi;simp only[Jj];refine JD c (λe s h hh=>?_) (step m s h hi);cases e<;>simp only[BA.seq]at hh⊢
   ·obtain ⟨m',h1,h2⟩:=hh;exact R6 (c:=Ad P ow wf n c) (k:=m'+1) (k':=m) (λhqq=>JD c hqq) (λ_ _ _ x=>x) (by omega) (ih m' h1 _ _ h2)
   all_goals exact hh
 exact⟨m+1,key m s h h0⟩
theorem Ze{f:FuncId}{dst:Option Tmp}{args:List Operand}{ts:Array TypeId}{ty:TypeId}{pos:String}{af:Array Edge}{gd:Option (Nat × Bool)}{as:List PV}{Kc:PV->A0->Prop}{K:A9->A0->Prop}
  (hc:A6 P f as h Kc)(ha:args.map (A5 s)=as)(hk: ∀ r h',Kc r h'->K (AZ s dst r) h'):
  CQ P ow {dst:=dst,op:= .call {callee:= .value (.func f),args:=args.toArray,argTypes:=ts},type:=ty,pos:=pos,after:=af,guard:=gd} K s h:=by
 unfold CQ;simp only[callee,A5,KH,AH];rw[ha];exact hc.mono hk
theorem R7{f:FuncId}{dst:Option Tmp}{args:List Operand}{ts:Array TypeId}{ty:TypeId}{pos:String}{af:Array Edge}{gd:Option (Nat × Bool)}{as:List PV}{Kc:PV->A0->Prop}{K:A9->A0->Prop}{ops rest:List Oper}
  (hc:A6 P f as h Kc)(ha:args.map (A5 s)=as)(hk: ∀ r h',Kc r h'->E8 P ow n ops rest K (AZ s dst r) h'):
  CQ P ow {dst:=dst,op:= .call {callee:= .value (.func f),args:=args.toArray,argTypes:=ts},type:=ty,pos:=pos,after:=af,guard:=gd} (EH P ow n ops rest K) s h:=
 Ze hc ha λr h' hr=>KS _ _ _ (hk r h' hr)
theorem Gs{f:FuncId}{dst:Option Tmp}{args:List Operand}{ts:Array TypeId}{ty:TypeId}{pos:String}{af:Array Edge}{gd:Option (Nat × Bool)}{as:List PV}{v:PV}{K:A9->A0->Prop}{ops rest:List Oper}
  (hc:A6 P f as h λr h'=>r=v/\h'=h)(ha:args.map (A5 s)=as)(hk:E8 P ow n ops rest K (AZ s dst v) h):
  CQ P ow {dst:=dst,op:= .call {callee:= .value (.func f),args:=args.toArray,argTypes:=ts},type:=ty,pos:=pos,after:=af,guard:=gd} (EH P ow n ops rest K) s h:=
 R7 hc ha λr h' hr=>by rw[hr.1,hr.2];exact hk
theorem Zf{dst:Option Tmp}{ty:TypeId}{pos:String}{af:Array Edge}{gd:Option (Nat × Bool)}{K:A9->A0->Prop}(x:Operand):CQ P ow {dst:=dst,op:= .move x,type:=ty,pos:=pos,after:=af,guard:=gd} K s h=match AT P (dst.any ow) (.move x) (A5 s) h with|some (r,h')=>K (AZ s dst r) h'|none=>False:=rfl
theorem Zg{dst:Option Tmp}{ty:TypeId}{pos:String}{af:Array Edge}{gd:Option (Nat × Bool)}{v:PV}{h':A0}(x:Operand):Af P ow {dst:=dst,op:= .move x,type:=ty,pos:=pos,after:=af,guard:=gd} (A5 s) h v h'=(AT P (dst.any ow) (.move x) (A5 s) h=some (v,h')):=rfl
theorem Zh{dst:Option Tmp}{ty:TypeId}{pos:String}{af:Array Edge}{gd:Option (Nat × Bool)}{K:A9->A0->Prop}(x:Operand):CQ P ow {dst:=dst,op:= .assign x,type:=ty,pos:=pos,after:=af,guard:=gd} K s h=match AT P (dst.any ow) (.assign x) (A5 s) h with|some (r,h')=>K (AZ s dst r) h'|none=>False:=rfl
theorem Zi{dst:Option Tmp}{ty:TypeId}{pos:String}{af:Array Edge}{gd:Option (Nat × Bool)}{v:PV}{h':A0}(x:Operand):Af P ow {dst:=dst,op:= .assign x,type:=ty,pos:=pos,after:=af,guard:=gd} (A5 s) h v h'=(AT P (dst.any ow) (.assign x) (A5 s) h=some (v,h')):=rfl
theorem Zj{dst:Option Tmp}{ty:TypeId}{pos:String}{af:Array Edge}{gd:Option (Nat × Bool)}{K:A9->A0->Prop}(c:Operand)(a:Operand)(b:Operand):CQ P ow {dst:=dst,op:= .pick c a b,type:=ty,pos:=pos,after:=af,guard:=gd} K s h=match AT P (dst.any ow) (.pick c a b) (A5 s) h with|some (r,h')=>K (AZ s dst r) h'|none=>False:=rfl
theorem Zk{dst:Option Tmp}{ty:TypeId}{pos:String}{af:Array Edge}{gd:Option (Nat × Bool)}{v:PV}{h':A0}(c:Operand)(a:Operand)(b:Operand):Af P ow {dst:=dst,op:= .pick c a b,type:=ty,pos:=pos,after:=af,guard:=gd} (A5 s) h v h'=(AT P (dst.any ow) (.pick c a b) (A5 s) h=some (v,h')):=rfl
theorem Zl{dst:Option Tmp}{ty:TypeId}{pos:String}{af:Array Edge}{gd:Option (Nat × Bool)}{K:A9->A0->Prop}(t:TypeId):CQ P ow {dst:=dst,op:= .alloc t,type:=ty,pos:=pos,after:=af,guard:=gd} K s h=match AT P (dst.any ow) (.alloc t) (A5 s) h with|some (r,h')=>K (AZ s dst r) h'|none=>False:=rfl
theorem Zm{dst:Option Tmp}{ty:TypeId}{pos:String}{af:Array Edge}{gd:Option (Nat × Bool)}{v:PV}{h':A0}(t:TypeId):Af P ow {dst:=dst,op:= .alloc t,type:=ty,pos:=pos,after:=af,guard:=gd} (A5 s) h v h'=(AT P (dst.any ow) (.alloc t) (A5 s) h=some (v,h')):=rfl
theorem Zn{dst:Option Tmp}{ty:TypeId}{pos:String}{af:Array Edge}{gd:Option (Nat × Bool)}{K:A9->A0->Prop}(t:TypeId)(x:Operand):CQ P ow {dst:=dst,op:= .box t x,type:=ty,pos:=pos,after:=af,guard:=gd} K s h=match AT P (dst.any ow) (.box t x) (A5 s) h with|some (r,h')=>K (AZ s dst r) h'|none=>False:=rfl
theorem Zo{dst:Option Tmp}{ty:TypeId}{pos:String}{af:Array Edge}{gd:Option (Nat × Bool)}{v:PV}{h':A0}(t:TypeId)(x:Operand):Af P ow {dst:=dst,op:= .box t x,type:=ty,pos:=pos,after:=af,guard:=gd} (A5 s) h v h'=(AT P (dst.any ow) (.box t x) (A5 s) h=some (v,h')):=rfl
theorem Zp{dst:Option Tmp}{ty:TypeId}{pos:String}{af:Array Edge}{gd:Option (Nat × Bool)}{K:A9->A0->Prop}(t:TypeId)(ps:Array (Nat × Operand)):CQ P ow {dst:=dst,op:= .build t ps,type:=ty,pos:=pos,after:=af,guard:=gd} K s h=match AT P (dst.any ow) (.build t ps) (A5 s) h with|some (r,h')=>K (AZ s dst r) h'|none=>False:=rfl
theorem Zq{dst:Option Tmp}{ty:TypeId}{pos:String}{af:Array Edge}{gd:Option (Nat × Bool)}{v:PV}{h':A0}(t:TypeId)(ps:Array (Nat × Operand)):Af P ow {dst:=dst,op:= .build t ps,type:=ty,pos:=pos,after:=af,guard:=gd} (A5 s) h v h'=(AT P (dst.any ow) (.build t ps) (A5 s) h=some (v,h')):=rfl
theorem Zr{dst:Option Tmp}{ty:TypeId}{pos:String}{af:Array Edge}{gd:Option (Nat × Bool)}{K:A9->A0->Prop}(t:TypeId)(l:Nat)(ps:Array (Nat × Operand)):CQ P ow {dst:=dst,op:= .buildSlice t l ps,type:=ty,pos:=pos,after:=af,guard:=gd} K s h=match AT P (dst.any ow) (.buildSlice t l ps) (A5 s) h with|some (r,h')=>K (AZ s dst r) h'|none=>False:=rfl
theorem Zs{dst:Option Tmp}{ty:TypeId}{pos:String}{af:Array Edge}{gd:Option (Nat × Bool)}{v:PV}{h':A0}(t:TypeId)(l:Nat)(ps:Array (Nat × Operand)):Af P ow {dst:=dst,op:= .buildSlice t l ps,type:=ty,pos:=pos,after:=af,guard:=gd} (A5 s) h v h'=(AT P (dst.any ow) (.buildSlice t l ps) (A5 s) h=some (v,h')):=rfl
theorem Zt{dst:Option Tmp}{ty:TypeId}{pos:String}{af:Array Edge}{gd:Option (Nat × Bool)}{K:A9->A0->Prop}(t:TypeId)(x:Operand):CQ P ow {dst:=dst,op:= .load t x,type:=ty,pos:=pos,after:=af,guard:=gd} K s h=match AT P (dst.any ow) (.load t x) (A5 s) h with|some (r,h')=>K (AZ s dst r) h'|none=>False:=rfl
theorem Zu{dst:Option Tmp}{ty:TypeId}{pos:String}{af:Array Edge}{gd:Option (Nat × Bool)}{v:PV}{h':A0}(t:TypeId)(x:Operand):Af P ow {dst:=dst,op:= .load t x,type:=ty,pos:=pos,after:=af,guard:=gd} (A5 s) h v h'=(AT P (dst.any ow) (.load t x) (A5 s) h=some (v,h')):=rfl
theorem Zv{dst:Option Tmp}{ty:TypeId}{pos:String}{af:Array Edge}{gd:Option (Nat × Bool)}{K:A9->A0->Prop}(t:TypeId)(x:Operand)(y:Operand):CQ P ow {dst:=dst,op:= .store t x y,type:=ty,pos:=pos,after:=af,guard:=gd} K s h=match AT P (dst.any ow) (.store t x y) (A5 s) h with|some (r,h')=>K (AZ s dst r) h'|none=>False:=rfl
theorem Zw{dst:Option Tmp}{ty:TypeId}{pos:String}{af:Array Edge}{gd:Option (Nat × Bool)}{v:PV}{h':A0}(t:TypeId)(x:Operand)(y:Operand):Af P ow {dst:=dst,op:= .store t x y,type:=ty,pos:=pos,after:=af,guard:=gd} (A5 s) h v h'=(AT P (dst.any ow) (.store t x y) (A5 s) h=some (v,h')):=rfl
theorem Zx{dst:Option Tmp}{ty:TypeId}{pos:String}{af:Array Edge}{gd:Option (Nat × Bool)}{K:A9->A0->Prop}(x:Operand):CQ P ow {dst:=dst,op:= .nilCheck x,type:=ty,pos:=pos,after:=af,guard:=gd} K s h=match AT P (dst.any ow) (.nilCheck x) (A5 s) h with|some (r,h')=>K (AZ s dst r) h'|none=>False:=rfl
theorem Zy{dst:Option Tmp}{ty:TypeId}{pos:String}{af:Array Edge}{gd:Option (Nat × Bool)}{v:PV}{h':A0}(x:Operand):Af P ow {dst:=dst,op:= .nilCheck x,type:=ty,pos:=pos,after:=af,guard:=gd} (A5 s) h v h'=(AT P (dst.any ow) (.nilCheck x) (A5 s) h=some (v,h')):=rfl
theorem Zz{dst:Option Tmp}{ty:TypeId}{pos:String}{af:Array Edge}{gd:Option (Nat × Bool)}{K:A9->A0->Prop}(op:BinOp)(t:TypeId)(x:Operand)(y:Operand)(u:TypeId):CQ P ow {dst:=dst,op:= .binOp op t x y u,type:=ty,pos:=pos,after:=af,guard:=gd} K s h=match AT P (dst.any ow) (.binOp op t x y u) (A5 s) h with|some (r,h')=>K (AZ s dst r) h'|none=>False:=rfl
theorem aA{dst:Option Tmp}{ty:TypeId}{pos:String}{af:Array Edge}{gd:Option (Nat × Bool)}{v:PV}{h':A0}(op:BinOp)(t:TypeId)(x:Operand)(y:Operand)(u:TypeId):Af P ow {dst:=dst,op:= .binOp op t x y u,type:=ty,pos:=pos,after:=af,guard:=gd} (A5 s) h v h'=(AT P (dst.any ow) (.binOp op t x y u) (A5 s) h=some (v,h')):=rfl
theorem aB{dst:Option Tmp}{ty:TypeId}{pos:String}{af:Array Edge}{gd:Option (Nat × Bool)}{K:A9->A0->Prop}(op:UnOp)(t:TypeId)(x:Operand):CQ P ow {dst:=dst,op:= .unOp op t x,type:=ty,pos:=pos,after:=af,guard:=gd} K s h=match AT P (dst.any ow) (.unOp op t x) (A5 s) h with|some (r,h')=>K (AZ s dst r) h'|none=>False:=rfl
theorem aC{dst:Option Tmp}{ty:TypeId}{pos:String}{af:Array Edge}{gd:Option (Nat × Bool)}{v:PV}{h':A0}(op:UnOp)(t:TypeId)(x:Operand):Af P ow {dst:=dst,op:= .unOp op t x,type:=ty,pos:=pos,after:=af,guard:=gd} (A5 s) h v h'=(AT P (dst.any ow) (.unOp op t x) (A5 s) h=some (v,h')):=rfl
theorem aD{dst:Option Tmp}{ty:TypeId}{pos:String}{af:Array Edge}{gd:Option (Nat × Bool)}{K:A9->A0->Prop}(a:TypeId)(b:TypeId)(x:Operand):CQ P ow {dst:=dst,op:= .convert a b x,type:=ty,pos:=pos,after:=af,guard:=gd} K s h=match AT P (dst.any ow) (.convert a b x) (A5 s) h with|some (r,h')=>K (AZ s dst r) h'|none=>False:=rfl
theorem aE{dst:Option Tmp}{ty:TypeId}{pos:String}{af:Array Edge}{gd:Option (Nat × Bool)}{v:PV}{h':A0}(a:TypeId)(b:TypeId)(x:Operand):Af P ow {dst:=dst,op:= .convert a b x,type:=ty,pos:=pos,after:=af,guard:=gd} (A5 s) h v h'=(AT P (dst.any ow) (.convert a b x) (A5 s) h=some (v,h')):=rfl
theorem aF{dst:Option Tmp}{ty:TypeId}{pos:String}{af:Array Edge}{gd:Option (Nat × Bool)}{K:A9->A0->Prop}(t:TypeId)(x:Operand):CQ P ow {dst:=dst,op:= .makeInterface t x,type:=ty,pos:=pos,after:=af,guard:=gd} K s h=match AT P (dst.any ow) (.makeInterface t x) (A5 s) h with|some (r,h')=>K (AZ s dst r) h'|none=>False:=rfl
theorem aG{dst:Option Tmp}{ty:TypeId}{pos:String}{af:Array Edge}{gd:Option (Nat × Bool)}{v:PV}{h':A0}(t:TypeId)(x:Operand):Af P ow {dst:=dst,op:= .makeInterface t x,type:=ty,pos:=pos,after:=af,guard:=gd} (A5 s) h v h'=(AT P (dst.any ow) (.makeInterface t x) (A5 s) h=some (v,h')):=rfl
theorem aH{dst:Option Tmp}{ty:TypeId}{pos:String}{af:Array Edge}{gd:Option (Nat × Bool)}{K:A9->A0->Prop}(t:TypeId)(r:Option Operand):CQ P ow {dst:=dst,op:= .makeMap t r,type:=ty,pos:=pos,after:=af,guard:=gd} K s h=match AT P (dst.any ow) (.makeMap t r) (A5 s) h with|some (r,h')=>K (AZ s dst r) h'|none=>False:=rfl
theorem aI{dst:Option Tmp}{ty:TypeId}{pos:String}{af:Array Edge}{gd:Option (Nat × Bool)}{v:PV}{h':A0}(t:TypeId)(r:Option Operand):Af P ow {dst:=dst,op:= .makeMap t r,type:=ty,pos:=pos,after:=af,guard:=gd} (A5 s) h v h'=(AT P (dst.any ow) (.makeMap t r) (A5 s) h=some (v,h')):=rfl
theorem aJ{dst:Option Tmp}{ty:TypeId}{pos:String}{af:Array Edge}{gd:Option (Nat × Bool)}{K:A9->A0->Prop}(t:TypeId)(l:Operand)(c:Operand):CQ P ow {dst:=dst,op:= .makeSlice t l c,type:=ty,pos:=pos,after:=af,guard:=gd} K s h=match AT P (dst.any ow) (.makeSlice t l c) (A5 s) h with|some (r,h')=>K (AZ s dst r) h'|none=>False:=rfl
theorem aK{dst:Option Tmp}{ty:TypeId}{pos:String}{af:Array Edge}{gd:Option (Nat × Bool)}{v:PV}{h':A0}(t:TypeId)(l:Operand)(c:Operand):Af P ow {dst:=dst,op:= .makeSlice t l c,type:=ty,pos:=pos,after:=af,guard:=gd} (A5 s) h v h'=(AT P (dst.any ow) (.makeSlice t l c) (A5 s) h=some (v,h')):=rfl
theorem aL{dst:Option Tmp}{ty:TypeId}{pos:String}{af:Array Edge}{gd:Option (Nat × Bool)}{K:A9->A0->Prop}(t:TypeId)(x:Operand)(lo:Option Operand)(hi:Option Operand)(mx:Option Operand):CQ P ow {dst:=dst,op:= .slice t x lo hi mx,type:=ty,pos:=pos,after:=af,guard:=gd} K s h=match AT P (dst.any ow) (.slice t x lo hi mx) (A5 s) h with|some (r,h')=>K (AZ s dst r) h'|none=>False:=rfl
theorem aM{dst:Option Tmp}{ty:TypeId}{pos:String}{af:Array Edge}{gd:Option (Nat × Bool)}{v:PV}{h':A0}(t:TypeId)(x:Operand)(lo:Option Operand)(hi:Option Operand)(mx:Option Operand):Af P ow {dst:=dst,op:= .slice t x lo hi mx,type:=ty,pos:=pos,after:=af,guard:=gd} (A5 s) h v h'=(AT P (dst.any ow) (.slice t x lo hi mx) (A5 s) h=some (v,h')):=rfl
theorem aN{dst:Option Tmp}{ty:TypeId}{pos:String}{af:Array Edge}{gd:Option (Nat × Bool)}{K:A9->A0->Prop}(t:TypeId)(x:Operand)(f:Nat):CQ P ow {dst:=dst,op:= .fieldAddr t x f,type:=ty,pos:=pos,after:=af,guard:=gd} K s h=match AT P (dst.any ow) (.fieldAddr t x f) (A5 s) h with|some (r,h')=>K (AZ s dst r) h'|none=>False:=rfl
theorem aO{dst:Option Tmp}{ty:TypeId}{pos:String}{af:Array Edge}{gd:Option (Nat × Bool)}{v:PV}{h':A0}(t:TypeId)(x:Operand)(f:Nat):Af P ow {dst:=dst,op:= .fieldAddr t x f,type:=ty,pos:=pos,after:=af,guard:=gd} (A5 s) h v h'=(AT P (dst.any ow) (.fieldAddr t x f) (A5 s) h=some (v,h')):=rfl
theorem aP{dst:Option Tmp}{ty:TypeId}{pos:String}{af:Array Edge}{gd:Option (Nat × Bool)}{K:A9->A0->Prop}(t:TypeId)(x:Operand)(f:Nat):CQ P ow {dst:=dst,op:= .field t x f,type:=ty,pos:=pos,after:=af,guard:=gd} K s h=match AT P (dst.any ow) (.field t x f) (A5 s) h with|some (r,h')=>K (AZ s dst r) h'|none=>False:=rfl
theorem aQ{dst:Option Tmp}{ty:TypeId}{pos:String}{af:Array Edge}{gd:Option (Nat × Bool)}{v:PV}{h':A0}(t:TypeId)(x:Operand)(f:Nat):Af P ow {dst:=dst,op:= .field t x f,type:=ty,pos:=pos,after:=af,guard:=gd} (A5 s) h v h'=(AT P (dst.any ow) (.field t x f) (A5 s) h=some (v,h')):=rfl
theorem aR{dst:Option Tmp}{ty:TypeId}{pos:String}{af:Array Edge}{gd:Option (Nat × Bool)}{K:A9->A0->Prop}(t:TypeId)(x:Operand)(i:Operand):CQ P ow {dst:=dst,op:= .indexAddr t x i,type:=ty,pos:=pos,after:=af,guard:=gd} K s h=match AT P (dst.any ow) (.indexAddr t x i) (A5 s) h with|some (r,h')=>K (AZ s dst r) h'|none=>False:=rfl
theorem aT{dst:Option Tmp}{ty:TypeId}{pos:String}{af:Array Edge}{gd:Option (Nat × Bool)}{v:PV}{h':A0}(t:TypeId)(x:Operand)(i:Operand):Af P ow {dst:=dst,op:= .indexAddr t x i,type:=ty,pos:=pos,after:=af,guard:=gd} (A5 s) h v h'=(AT P (dst.any ow) (.indexAddr t x i) (A5 s) h=some (v,h')):=rfl
theorem aU{dst:Option Tmp}{ty:TypeId}{pos:String}{af:Array Edge}{gd:Option (Nat × Bool)}{K:A9->A0->Prop}(t:TypeId)(x:Operand)(i:Operand):CQ P ow {dst:=dst,op:= .index t x i,type:=ty,pos:=pos,after:=af,guard:=gd} K s h=match AT P (dst.any ow) (.index t x i) (A5 s) h with|some (r,h')=>K (AZ s dst r) h'|none=>False:=rfl
theorem aV{dst:Option Tmp}{ty:TypeId}{pos:String}{af:Array Edge}{gd:Option (Nat × Bool)}{v:PV}{h':A0}(t:TypeId)(x:Operand)(i:Operand):Af P ow {dst:=dst,op:= .index t x i,type:=ty,pos:=pos,after:=af,guard:=gd} (A5 s) h v h'=(AT P (dst.any ow) (.index t x i) (A5 s) h=some (v,h')):=rfl
theorem aW{dst:Option Tmp}{ty:TypeId}{pos:String}{af:Array Edge}{gd:Option (Nat × Bool)}{K:A9->A0->Prop}(t:TypeId)(x:Operand)(k:Operand)(ok:Bool):CQ P ow {dst:=dst,op:= .lookup t x k ok,type:=ty,pos:=pos,after:=af,guard:=gd} K s h=match AT P (dst.any ow) (.lookup t x k ok) (A5 s) h with|some (r,h')=>K (AZ s dst r) h'|none=>False:=rfl
theorem aX{dst:Option Tmp}{ty:TypeId}{pos:String}{af:Array Edge}{gd:Option (Nat × Bool)}{v:PV}{h':A0}(t:TypeId)(x:Operand)(k:Operand)(ok:Bool):Af P ow {dst:=dst,op:= .lookup t x k ok,type:=ty,pos:=pos,after:=af,guard:=gd} (A5 s) h v h'=(AT P (dst.any ow) (.lookup t x k ok) (A5 s) h=some (v,h')):=rfl
theorem aY{dst:Option Tmp}{ty:TypeId}{pos:String}{af:Array Edge}{gd:Option (Nat × Bool)}{K:A9->A0->Prop}(t:TypeId)(x:Operand)(k:Operand)(y:Operand):CQ P ow {dst:=dst,op:= .mapUpdate t x k y,type:=ty,pos:=pos,after:=af,guard:=gd} K s h=match AT P (dst.any ow) (.mapUpdate t x k y) (A5 s) h with|some (r,h')=>K (AZ s dst r) h'|none=>False:=rfl
theorem aZ{dst:Option Tmp}{ty:TypeId}{pos:String}{af:Array Edge}{gd:Option (Nat × Bool)}{v:PV}{h':A0}(t:TypeId)(x:Operand)(k:Operand)(y:Operand):Af P ow {dst:=dst,op:= .mapUpdate t x k y,type:=ty,pos:=pos,after:=af,guard:=gd} (A5 s) h v h'=(AT P (dst.any ow) (.mapUpdate t x k y) (A5 s) h=some (v,h')):=rfl
theorem ae{dst:Option Tmp}{ty:TypeId}{pos:String}{af:Array Edge}{gd:Option (Nat × Bool)}{K:A9->A0->Prop}(x:Operand)(t:TypeId)(u:TypeId)(ok:Bool):CQ P ow {dst:=dst,op:= .typeAssert x t u ok,type:=ty,pos:=pos,after:=af,guard:=gd} K s h=match AT P (dst.any ow) (.typeAssert x t u ok) (A5 s) h with|some (r,h')=>K (AZ s dst r) h'|none=>False:=rfl
theorem ah{dst:Option Tmp}{ty:TypeId}{pos:String}{af:Array Edge}{gd:Option (Nat × Bool)}{v:PV}{h':A0}(x:Operand)(t:TypeId)(u:TypeId)(ok:Bool):Af P ow {dst:=dst,op:= .typeAssert x t u ok,type:=ty,pos:=pos,after:=af,guard:=gd} (A5 s) h v h'=(AT P (dst.any ow) (.typeAssert x t u ok) (A5 s) h=some (v,h')):=rfl
theorem ai{dst:Option Tmp}{ty:TypeId}{pos:String}{af:Array Edge}{gd:Option (Nat × Bool)}{K:A9->A0->Prop}(x:Operand)(i:Nat):CQ P ow {dst:=dst,op:= .extract x i,type:=ty,pos:=pos,after:=af,guard:=gd} K s h=match AT P (dst.any ow) (.extract x i) (A5 s) h with|some (r,h')=>K (AZ s dst r) h'|none=>False:=rfl
theorem aj{dst:Option Tmp}{ty:TypeId}{pos:String}{af:Array Edge}{gd:Option (Nat × Bool)}{v:PV}{h':A0}(x:Operand)(i:Nat):Af P ow {dst:=dst,op:= .extract x i,type:=ty,pos:=pos,after:=af,guard:=gd} (A5 s) h v h'=(AT P (dst.any ow) (.extract x i) (A5 s) h=some (v,h')):=rfl
theorem ao{dst:Option Tmp}{ty:TypeId}{pos:String}{af:Array Edge}{gd:Option (Nat × Bool)}{K:A9->A0->Prop}(bb:Builtin)(as:Array Operand)(ts:Array TypeId):CQ P ow {dst:=dst,op:= .call {callee:= .builtin bb,args:=as,argTypes:=ts},type:=ty,pos:=pos,after:=af,guard:=gd} K s h=match AT P (dst.any ow) (.call {callee:= .builtin bb,args:=as,argTypes:=ts}) (A5 s) h with|some (r,h')=>K (AZ s dst r) h'|none=>False:=rfl
theorem au{dst:Option Tmp}{ty:TypeId}{pos:String}{af:Array Edge}{gd:Option (Nat × Bool)}{v:PV}{h':A0}(bb:Builtin)(as:Array Operand)(ts:Array TypeId):Af P ow {dst:=dst,op:= .call {callee:= .builtin bb,args:=as,argTypes:=ts},type:=ty,pos:=pos,after:=af,guard:=gd} (A5 s) h v h'=(AT P (dst.any ow) (.call {callee:= .builtin bb,args:=as,argTypes:=ts}) (A5 s) h=some (v,h')):=rfl
theorem CO{f:FuncId}{dst:Option Tmp}{args:List Operand}{ts:Array TypeId}{ty:TypeId}{pos:String}{af:Array Edge}{gd:Option (Nat × Bool)}{as:List PV}{v:PV}{h':A0}
  (hc:A6 P f as h λr h''=>r=v/\h''=h')(ha:args.map (A5 s)=as):
  Af P ow {dst:=dst,op:= .call {callee:= .value (.func f),args:=args.toArray,argTypes:=ts},type:=ty,pos:=pos,after:=af,guard:=gd} (A5 s) h v h':=by
 unfold Af;simp only[callee,A5,KH,AH];rw[ha];exact hc
theorem Mb{f:FuncId}{d:Nat}{args:List Operand}{ts:Array TypeId}{ty:TypeId}{pos:String}{af:Array Edge}{gd:Option (Nat × Bool)}{as:List PV}{v:PV}{ops rest:List Oper}{k k':Nat}{past:Ga}{hist:List (Nat × A0)}{K:A9->A0->Prop}
  (hc:A6 P f as h λr h'=>r=v/\h'=h)(ha:args.map (A5 s)=as)
  (hk:Eu P ow wf n ops k rest ((k',{dst:=some d,op:= .call {callee:= .value (.func f),args:=args.toArray,argTypes:=ts},type:=ty,pos:=pos,after:=af,guard:=gd},s,v)::past) hist K (CX s d v) h):
  ∃ v,Af P ow {dst:=some d,op:= .call {callee:= .value (.func f),args:=args.toArray,argTypes:=ts},type:=ty,pos:=pos,after:=af,guard:=gd} (A5 s) h v h/\
   Do P ow wf n ops k rest (DR P ow ((k',{dst:=some d,op:= .call {callee:= .value (.func f),args:=args.toArray,argTypes:=ts},type:=ty,pos:=pos,after:=af,guard:=gd},s,v)::past)) hist K (CX s d v) h:=
 ⟨v,CO hc ha,JE _ _ _ _ _ _ hk⟩
theorem If{f:FuncId}{d:Nat}{args:List Operand}{ts:Array TypeId}{ty:TypeId}{pos:String}{af:Array Edge}{gd:Option (Nat × Bool)}{as:List PV}{v:PV}{ops rest:List Oper}{k k':Nat}{past:Ga}{hist:List (Nat × A0)}{K:A9->A0->Prop}{A:PV->Prop}
  (hc:A6 P f as h λr h'=>r=v/\h'=h)(ha:args.map (A5 s)=as)(hA:A v)
  (hk:Eu P ow wf n ops k rest ((k',{dst:=some d,op:= .call {callee:= .value (.func f),args:=args.toArray,argTypes:=ts},type:=ty,pos:=pos,after:=af,guard:=gd},s,v)::past) hist K (CX s d v) h):
  ∃ v,Af P ow {dst:=some d,op:= .call {callee:= .value (.func f),args:=args.toArray,argTypes:=ts},type:=ty,pos:=pos,after:=af,guard:=gd} (A5 s) h v h/\A v/\
   Do P ow wf n ops k rest (DR P ow ((k',{dst:=some d,op:= .call {callee:= .value (.func f),args:=args.toArray,argTypes:=ts},type:=ty,pos:=pos,after:=af,guard:=gd},s,v)::past)) hist K (CX s d v) h:=
 ⟨v,CO hc ha,hA,JE _ _ _ _ _ _ hk⟩
theorem LY{f:FuncId}{d:Nat}{args:List Operand}{ts:Array TypeId}{ty:TypeId}{pos:String}{af:Array Edge}{gd:Option (Nat × Bool)}{as:List PV}{v:PV}{h1:A0}{ops rest:List Oper}{k:Nat}{past:Ga}{hist:List (Nat × A0)}{K:A9->A0->Prop}{A:A0->Prop}
  (hc:A6 P f as h λr h'=>r=v/\h'=h1)(ha:args.map (A5 s)=as)(hA:A h1)
  (hk:Eu P ow wf n ops k rest past hist K (CX s d v) h1):
  ∃ v h',Af P ow {dst:=some d,op:= .call {callee:= .value (.func f),args:=args.toArray,argTypes:=ts},type:=ty,pos:=pos,after:=af,guard:=gd} (A5 s) h v h'/\A h'/\
   Do P ow wf n ops k rest (DR P ow past) hist K (CX s d v) h':=
 ⟨v,h1,CO hc ha,hA,JE _ _ _ _ _ _ hk⟩
end
theorem aw(h:A0)(z:Nat)(rows:List (List PV)):Es h (.imm z rows)=some rows.length:=rfl
theorem az(h:A0):Es h .emp=some 0:=rfl
theorem bA(h:A0):Es h (.sc (.slice none 0 0))=some 0:=rfl
theorem bB(h:A0)(id off len:Nat):Es h (.own id off len)=some len:=rfl
theorem bC(h:A0)(b:ByteArray):Es h (.sc (.string b))=some b.size:=rfl
theorem bD(h:A0):Es h (.sc (.map none))=some 0:=rfl
theorem bE(h:A0)(id:Nat):Es h (.mp id)=match h.obj id with|some (.map es)=>some es.length|_=>none:=rfl
theorem bF(k z:Nat)(rows:List (List PV)):GB k (.imm z rows)=(k==5):=rfl
theorem bG(k:Nat):GB k .emp=(k==5):=rfl
theorem bH(k:Nat):GB k (.sc (.slice none 0 0))=(k==5):=rfl
theorem bI(k id off len:Nat):GB k (.own id off len)=(k==5):=rfl
theorem bJ(k:Nat)(b:ByteArray):GB k (.sc (.string b))=(k==3):=rfl
theorem bK(k:Nat):GB k (.sc (.map none))=(k==6):=rfl
theorem bL(k id:Nat):GB k (.mp id)=(k==6):=rfl
theorem bM(h:A0)(z z':Nat)(rows:List (List PV))(i:Int):Gq h z (.imm z' rows) i=if 0<=i then(if z'=z then(rows[i.toNat]?).map .cptr else none)else none:=rfl
theorem bN(h:A0)(z id off len:Nat)(i:Int):Gq h z (.own id off len) i=if 0<=i then(match h.obj id with|some (.arr z' _)=>if z'=z/\i.toNat<len then some (.ptr id (off+i.toNat) 0)else none|_=>none)else none:=rfl
theorem bO(n z id r f:Nat)(i:Int):LJ n z (.ptr id r f) i=if 0<=i/\i<n then some (.ptr id r (f+i.toNat*z))else none:=rfl
theorem bP(n z:Nat)(cs:List PV)(i:Int):LJ n z (.cptr cs) i=if 0<=i/\i<n then(if i.toNat*z+z<=cs.length then some (.cptr ((cs.drop (i.toNat*z)).take z))else none)else none:=rfl
theorem bQ(off n id i f:Nat):MQ off n (.ptr id i f)=if 0<n then some (.ptr id i (f+off))else none:=rfl
theorem bR(off n:Nat)(cs:List PV):MQ off n (.cptr cs)=if 0<n/\off+n<=cs.length then some (.cptr ((cs.drop off).take n))else none:=rfl
theorem bS(h:A0)(id i f:Nat):rd h (.ptr id i f)=match h.obj id with|some (.arr _ rows)=>(rows[i]?).map (·.drop f)|_=>none:=rfl
theorem bT(h:A0)(cs:List PV):rd h (.cptr cs)=some cs:=rfl
theorem bU(h:A0)(vc:List PV)(id i f:Nat):wr h vc (.ptr id i f)=match h.obj id with|some (.arr z rows)=>(match rows[i]? with|some r=>if f+vc.length<=r.length then some (h.set id (.arr z (rows.set i (Je r f vc))))else none|none=>none)|_=>none:=rfl
theorem bV(h:A0)(z:Nat)(rows:List (List PV)):EZ h (.imm z rows)=some rows:=rfl
theorem bW(h:A0):EZ h .emp=some []:=rfl
theorem bX(h:A0):EZ h (.sc (.slice none 0 0))=some []:=rfl
theorem bY(h:A0)(id off len:Nat):EZ h (.own id off len)=match h.obj id with|some (.arr _ rows)=>if off+len<=rows.length then some ((rows.drop off).take len)else none|_=>none:=rfl
theorem bZ(h:A0)(z z':Nat)(rows:List (List PV)):Cw h z (.imm z' rows)=(z'==z):=rfl
theorem bc(h:A0)(z:Nat):Cw h z .emp=true:=rfl
theorem bf(h:A0)(z:Nat):Cw h z (.sc (.slice none 0 0))=true:=rfl
theorem bg(h:A0)(z id off len:Nat):Cw h z (.own id off len)=match h.obj id with|some (.arr z' _)=>z'==z|_=>false:=rfl
theorem bh(h:A0):Dc h .emp=some (h,[]):=rfl
theorem bj(h:A0):Dc h (.sc (.slice none 0 0))=some (h,[]):=rfl
theorem bk(h:A0)(id off len:Nat):Dc h (.own id off len)=match h.obj id with|some (.arr _ rows)=>if off+len<=rows.length then some (h.kill id,(rows.drop off).take len)else none|_=>none:=rfl
theorem bm(z:Nat)(rows:List (List PV)):Ie (.imm z rows)=true:=rfl
theorem bo(id off len:Nat):Ie (.own id off len)=true:=rfl
theorem bp:Ie .emp=true:=rfl
theorem bq:zB 0=true:=rfl
theorem bs:Ie (.sc (.slice none 0 0))=true:=rfl
theorem bt(h:A0):MU h (.sc (.map none))=some []:=rfl
theorem bu(h:A0)(id:Nat):MU h (.mp id)=match h.obj id with|some (.map es)=>some es|_=>none:=rfl
theorem bw(z z':Nat)(rows:List (List PV))(h:A0)(lo hi:Option Int):MR z (.imm z' rows) h lo hi=if 0<=lo.getD 0/\lo.getD 0<=hi.getD rows.length/\hi.getD rows.length<=rows.length/\(z'==z)=true then some (.imm z' ((rows.drop (lo.getD 0).toNat).take (hi.getD rows.length-lo.getD 0).toNat))else none:=rfl
theorem bx(z id off len:Nat)(h:A0)(lo hi:Option Int):MR z (.own id off len) h lo hi=if 0<=lo.getD 0/\lo.getD 0<=hi.getD len/\hi.getD len<=len/\Cw h z (.own id off len)=true then(match h.obj id with|some (.arr _ _)=>some (.own id (off+(lo.getD 0).toNat) (hi.getD len-lo.getD 0).toNat)|_=>none)else none:=rfl
theorem bz(l:List PV):PV.cells (.agg l)=l:=rfl
theorem cB(v:Value):PV.cells (.sc v)=[.sc v]:=rfl
theorem cC(z:Nat)(l:List (List PV)):PV.cells (.imm z l)=[.imm z l]:=rfl
theorem cF(i o l:Nat):PV.cells (.own i o l)=[.own i o l]:=rfl
theorem cH(i o l:Nat):PV.cells (.ptr i o l)=[.ptr i o l]:=rfl
theorem cI(l:List PV):PV.cells (.cptr l)=[.cptr l]:=rfl
theorem cJ:PV.cells .emp=[.emp]:=rfl
theorem cM(i:Nat):PV.cells (.mp i)=[.mp i]:=rfl
theorem cO(k:IntKind)(i:Int):CW (.sc (.int k i))=true:=rfl
theorem cQ(b:Bool):CW (.sc (.bool b))=true:=rfl
theorem cR(b:ByteArray):CW (.sc (.string b))=true:=rfl
theorem cT:CW (.sc .nilIface)=true:=rfl
theorem cU(t:TypeId)(v:Value):CW (.sc (.iface t v))=true:=rfl
theorem cV(a:Option Addr):CW (.sc (.pointer a))=true:=rfl
theorem cX(a:Option Addr)(l c:Nat):CW (.sc (.slice a l c))=true:=rfl
theorem cY(a:Option Nat):CW (.sc (.map a))=true:=rfl
theorem cZ(z:Nat)(l:List (List PV)):CW (.imm z l)=true:=rfl
theorem cg(i o l:Nat):CW (.own i o l)=true:=rfl
theorem cj(i o l:Nat):CW (.ptr i o l)=true:=rfl
theorem cm(l:List PV):CW (.cptr l)=true:=rfl
theorem cq:CW .emp=true:=rfl
theorem cr(i:Nat):CW (.mp i)=true:=rfl
structure Sl(h:A0)(z:Nat)(p:PV)(rows:List (List PV)):Prop where
 vw:EZ h p=some rows
 zk:Cw h z p=true
 len:Es h p=some rows.length
 lk:GB 5 p=true
 sl:Ie p=true
 get: ∀ (i:Nat)(r:List PV),rows[i]? =some r-> ∃ q,Gq h z p (i:Int)=some q/\rd h q=some r
theorem Sl.imm{h:A0}{z:Nat}(rows:List (List PV)):Sl h z (.imm z rows) rows:=
 ⟨rfl,by simp[Cw],rfl,rfl,rfl,λi r hr=>⟨.cptr r,by simp[Gq,hr],rfl⟩⟩
theorem Sl.emp{h:A0}{z:Nat}:Sl h z .emp []:=⟨rfl,rfl,rfl,rfl,rfl,λi r hr=>by simp at hr⟩
theorem Sl.nil{h:A0}{z:Nat}:Sl h z (.sc (.slice none 0 0)) []:=⟨rfl,rfl,rfl,rfl,rfl,λi r hr=>by simp at hr⟩
theorem Sl.own{h:A0}{z id off len:Nat}{rows:List (List PV)}(ho:h.obj id=some (.arr z rows))(hl:off+len<=rows.length):Sl h z (.own id off len) ((rows.drop off).take len):=by
 refine⟨by simp[EZ,ho,hl],by simp[Cw,ho],by simp[Es];omega,rfl,rfl,λi r hr=>?_⟩;rw[Oc]at hr;split at hr
 ·rename_i hi;rw[KB]at hr;exact⟨.ptr id (off+i) 0,by simp[Gq,ho,hi],by simp[rd,ho,hr]⟩
 ·simp at hr
theorem Sl.own0{h:A0}{z id:Nat}{rows:List (List PV)}(ho:h.obj id=some (.arr z rows)):Sl h z (.own id 0 rows.length) rows:=by
 have:=Sl.own (off:=0) (len:=rows.length) ho (by omega);simpa using this
def Wf(h:A0):Prop:= ∀ id,(h.obj id).isSome=true->id<h.next
theorem Ig{P:Program}{f:FuncId}{args:List PV}{h:A0}{K:PV->A0->Prop}(hb:Ai P f=true)(hk:Wf h->A6 P f args h K):A6 P f args h K:=
 λβ w vals sm hr=>hk sm.lt β w vals sm hr
def Nm(xs:List Int):List (List PV):=xs.map λx=>[.sc (.int .i64 x)]
theorem ct{xs:List Int}{i:Nat}(hi:i<xs.length):(Nm xs)[i]? =some [.sc (.int .i64 xs[i])]:=by simp[Nm,hi]
theorem cv(xs:List Int):(Nm xs).length=xs.length:=by simp[Nm]
theorem Sl.int{h:A0}{p:PV}{xs:List Int}(hp:Sl h 1 p (Nm xs)){i:Nat}(hi:i<xs.length): ∃ q,Gq h 1 p (i:Int)=some q/\rd h q=some [.sc (.int .i64 xs[i])]:=hp.get i _ (ct hi)
theorem Br{n:Int}(h1: -9223372036854775808<=n)(h2:n<=9223372036854775807):IntKind.i64.wrap n=n:=IntWalk.i64_in _ ⟨h1,h2⟩
mutual
def AF(n:Nat)(h':A0):PV->PV->Prop
 | .imm z rows, r' => (r' = .imm z rows /\ B1 n rows) \/ (rows = [] /\ (r' = .emp \/ r' = .sc (.slice none 0 0))) \/
   ∃ id off len rows',r'= .own id off len/\n<=id/\h'.obj id=some (.arr z rows')/\off+len<=rows'.length/\Cr n h' rows ((rows'.drop off).take len)
 | .agg cs,r'=> ∃ cs',r'= .agg cs'/\AL n h' cs cs'
 | .tup cs,r'=> ∃ cs',r'= .tup cs'/\AL n h' cs cs'
 | .sc v,r'=>r'= .sc v
 | .ptr id i f,r'=>r'= .ptr id i f/\id<n
 | .cptr cs,r'=>(r'= .cptr cs/\BT n cs)\/ ∃ id i f z rows' q,r'= .ptr id i f/\n<=id/\h'.obj id=some (.arr z rows')/\rows'[i]? =some q/\AL n h' cs (q.drop f)
 | .own id off len,r'=>r'= .own id off len/\id<n
 | .emp,r'=>r'= .emp
 | .mp id,r'=>r'= .mp id/\id<n
 | .fn f a b,r'=>r'= .fn f a b/\BT n a/\BT n b
 | .ab k lo hi m r,r'=>r'= .ab k lo hi m r
def AL(n:Nat)(h':A0):List PV->List PV->Prop
 |[],[]=>True
 |p::ps,q::qs=>AF n h' p q/\AL n h' ps qs
 |_,_=>False
def Cr(n:Nat)(h':A0):List (List PV)->List (List PV)->Prop
 |[],[]=>True
 |p::ps,q::qs=>AL n h' p q/\Cr n h' ps qs
 |_,_=>False
end
section
variable {β:BH}{n m:Nat}{F F':Nat->Prop}{w:World}
theorem AL.len{h':A0}:(l l':List PV)->AL n h' l l'->l.length=l'.length
 |[],[],_=>rfl
 |[],_::_,h=>by simp only[AL]at h
 |_::_,[],h=>by simp only[AL]at h
 |_::ps,_::qs,h=>by simp only[AL]at h;simp only[Aw,AL.len ps qs h.2]
theorem Cr.len{h':A0}:(l l':List (List PV))->Cr n h' l l'->l.length=l'.length
 |[],[],_=>rfl
 |[],_::_,h=>by simp only[Cr]at h
 |_::_,[],h=>by simp only[Cr]at h
 |_::ps,_::qs,h=>by simp only[Cr]at h;simp only[Aw,Cr.len ps qs h.2]
mutual
theorem AF.rep{h':A0}(sm:Ay β h' w)(hF: ∀ b,Fz β h' w b->F' b)(hB: ∀ id b,n<=id->(h'.obj id).isSome=true->(β id).b=some b->F' b):(p p':PV)->(x:Value)->AF n h' p p'->A8 β h'.next (Fz β h' w) w p' x->A8 β n F' w p x
 | .imm z rows,p',x,hf,hr=>by
  simp only[AF]at hf;rcases hf with⟨rfl,hs⟩|⟨rfl,hf⟩|⟨id,off,len,rows',rfl,hid,hob,hle,hf⟩
  ·exact A8.low hF _ x (by simpa only[BB]using hs) hr
  ·rcases hf with rfl|rfl
   ·simp only[A8]at hr⊢;obtain⟨a,rfl⟩:=hr;exact⟨a,0,rfl,AD _,Bx _,.inl A3⟩
   ·simp only[A8]at hr⊢;exact⟨none,0,hr,AD _,Bx _,.inl A3⟩
  ·have hl:=Cr.len _ _ hf;have hl2:((rows'.drop off).take len).length=len:=(by simp;omega);simp only[A8]at hr⊢;obtain⟨_,a,cap,rfl,h2,h2',h3⟩:=hr;refine⟨a,cap,by rw[hl,hl2],by omega,h2',?_⟩;rcases h3 with h3|⟨b,h4,h5,h6⟩
   ·left;exact GT (by omega)
   ·have hok:=sm.ok id _ hob;simp only[BI]at hok;rcases hok.2 with⟨h7,h8⟩|⟨b',c,e,fr,g5,g6,g7,g8,g9,g10⟩
    ·rw [h7]at h4;simp at h4
    ·rw [h4]at g5;simp at g5;subst g5;right;refine⟨b,_,hB id b hid (by rw[hob];try rfl) h4,h5,?_⟩;rw[hok.1];exact Cr.rep sm hF hB z rows _ b _ hf ((g10.drop off).take len)
 | .agg cs,p',x,hf,hr=>by
  simp only[AF]at hf;obtain⟨cs',rfl,hf⟩:=hf;simp only[A8]at hr⊢;obtain⟨xs,h1,h2,h3⟩:=hr;exact⟨xs,h1,h2,AL.rep sm hF hB cs cs' xs hf h3⟩
 | .tup cs,p',x,hf,hr=>by
  simp only[AF]at hf;obtain⟨cs',rfl,hf⟩:=hf;simp only[A8]at hr⊢;obtain⟨xs,h1,h3⟩:=hr;exact⟨xs,h1,AL.rep sm hF hB cs cs' xs hf h3⟩
 | .sc v,p',x,hf,hr=>by simp only[AF]at hf;subst hf;simpa only[A8]using hr
 | .ptr _ _ _,p',x,hf,hr=>by simp only[AF]at hf;obtain⟨rfl,hf⟩:=hf;exact A8.low hF _ x (by simpa only[BB]using hf) hr
 | .cptr cs,p',x,hf,hr=>by
  simp only[AF]at hf;rcases hf with⟨rfl,hf⟩|⟨id,i,f,z,rows',q,rfl,hid,hob,hq,hf⟩
  ·exact A8.low hF _ x (by simpa only[BB]using hf) hr
  ·simp only[A8]at hr⊢;obtain⟨_,b,hb,rfl⟩:=hr;have hok:=sm.ok id _ hob;simp only[BI]at hok;rcases hok.2 with⟨h7,h8⟩|⟨b',c,e,fr,g5,g6,g7,g8,g9,g10⟩
   ·rw [h7]at hb;simp at hb
   ·rw [hb]at g5;simp at g5;subst g5;refine⟨b,_,hB id b hid (by rw[hob];try rfl) hb,rfl,?_⟩;rw[hok.1];exact FrzS.rep sm hF hB cs _ b _ hf (((Hc.1 g10) i q hq).2.drop f)
 | .own _ _ _,p',x,hf,hr=>by simp only[AF]at hf;obtain⟨rfl,hf⟩:=hf;exact A8.low hF _ x (by simpa only[BB]using hf) hr
 | .emp,p',x,hf,hr=>by simp only[AF]at hf;subst hf;simpa only[A8]using hr
 | .mp _,p',x,hf,hr=>by simp only[AF]at hf;obtain⟨rfl,hf⟩:=hf;exact A8.low hF _ x (by simpa only[BB]using hf) hr
 | .fn _ _ _,p',x,hf,hr=>by simp only[AF]at hf;obtain⟨rfl,hf⟩:=hf;exact A8.low hF _ x (by simpa only[BB]using hf) hr
 | .ab _ _ _ _ _,p',x,hf,hr=>by simp only[AF]at hf;subst hf;simpa only[A8]using hr
theorem AL.rep{h':A0}(sm:Ay β h' w)(hF: ∀ b,Fz β h' w b->F' b)(hB: ∀ id b,n<=id->(h'.obj id).isSome=true->(β id).b=some b->F' b):(l l':List PV)->(xs:List Value)->AL n h' l l'->AS β h'.next (Fz β h' w) w l' xs->AS β n F' w l xs
 |[],[],[],_,_=>by simp only[AS]
 |[],[],_::_,_,h=>by simp only[AS]at h
 |[],_::_,_,h,_=>by simp only[AL]at h
 |_::_,[],_,h,_=>by simp only[AL]at h
 |_::_,_::_,[],_,h=>by simp only[AS]at h
 |p::ps,q::qs,v::vs,hf,hr=>by
  simp only[AL]at hf;simp only[AS]at hr⊢;exact⟨AF.rep sm hF hB p q v hf.1 hr.1,AL.rep sm hF hB ps qs vs hf.2 hr.2⟩
theorem Cr.rep{h':A0}(sm:Ay β h' w)(hF: ∀ b,Fz β h' w b->F' b)(hB: ∀ id b,n<=id->(h'.obj id).isSome=true->(β id).b=some b->F' b)(z:Nat):(l l':List (List PV))->(b o:Nat)->Cr n h' l l'->BF β h'.next (Fz β h' w) w z l' b o->BF β n F' w z l b o
 |[],[],_,_,_,_=>by simp only[BF]
 |[],_::_,_,_,h,_=>by simp only[Cr]at h
 |_::_,[],_,_,h,_=>by simp only[Cr]at h
 |p::ps,q::qs,b,o,hf,hr=>by
  simp only[Cr]at hf;simp only[BF]at hr⊢;exact⟨⟨by rw[AL.len p q hf.1];exact hr.1.1,FrzS.rep sm hF hB p q b o hf.1 hr.1.2⟩,Cr.rep sm hF hB z ps qs b (o+z) hf.2 hr.2⟩
theorem FrzS.rep{h':A0}(sm:Ay β h' w)(hF: ∀ b,Fz β h' w b->F' b)(hB: ∀ id b,n<=id->(h'.obj id).isSome=true->(β id).b=some b->F' b):(l l':List PV)->(b o:Nat)->AL n h' l l'->BY β h'.next (Fz β h' w) w l' b o->BY β n F' w l b o
 |[],[],_,_,_,_=>by simp only[BY]
 |[],_::_,_,_,h,_=>by simp only[AL]at h
 |_::_,[],_,_,h,_=>by simp only[AL]at h
 |p::ps,q::qs,b,o,hf,hr=>by
  simp only[AL]at hf;simp only[BY]at hr⊢;obtain⟨⟨v,g1,g2,g3⟩,g4⟩:=hr;exact⟨⟨v,g1,g2,AF.rep sm hF hB p q v hf.1 g3⟩,FrzS.rep sm hF hB ps qs b (o+1) hf.2 g4⟩
end
end
section
variable {P:Program}
theorem A6.drop{f:FuncId}{args:List PV}{h:A0}{K:PV->A0->Prop}
  (hc:A6 P f args h (λr' h'=> ∃ r h2,K r h2/\AF h2.next h' r r'/\h.next<=h2.next/\(∀ id o,h2.obj id=some o->h'.obj id=some o/\id<h2.next/\(h.obj id=some o\/Ec h2.next o)))):A6 P f args h K:=by
 refine λβ w vals sm hr=>(hc β w vals sm hr).mono ?_;rintro e w' ⟨r',h',β',v,rfl,⟨r,h2,hK,hf,hn,ho⟩,sm',hrep,ex⟩;have hF: ∀ b,Fz β' h' w' b->Fz β' h2 w' b:=λb hb=>⟨hb.1,λid hid=>by
  obtain⟨o,hoo⟩:=Jb.1 hid;exact hb.2.1 id (by rw[(ho id o hoo).1];try rfl),hb.2.2⟩
 have hB: ∀ id b,h2.next<=id->(h'.obj id).isSome=true->(β' id).b=some b->Fz β' h2 w' b:=by
  intro id b hid hs hb;obtain⟨o,hoo⟩:=Jb.1 hs;refine⟨sm'.blk_lt hoo hb,λj hj hjb=>?_,sm'.nx id hs b hb⟩;obtain⟨o2,ho2⟩:=Jb.1 hj;obtain⟨h3,h4,_⟩:=ho j o2 ho2;have:=sm'.inj id j hs (by rw[h3];try rfl) b hb hjb;omega
 refine⟨r,h2,β',v,rfl,hK,⟨λid hid=>?_,λid o hoo=>?_,λi j hi hj=>?_,sm'.xs,λid hid=>?_⟩,?_,⟨ex.os,ex.tape,ex.output,ex.size,hn,ex.beta,ex.X,ex.xh,λb hb=>⟨hF b (ex.fz b hb).1,(ex.fz b hb).2⟩⟩⟩
 ·obtain ⟨o,hoo⟩:=Jb.1 hid;exact(ho id o hoo).2.1
 ·obtain ⟨h3,h4,h5⟩:=ho id o hoo;have hs:Ec h2.next o:=by
   rcases h5 with h5|h5
   ·have h6:=(sm.ok id o h5).inN
    -- what is below the first next is below the second
    have up: ∀ (o:Ab),Ec h.next o->Ec h2.next o:=by
     intro o hso;cases o with
     |arr z rows=>exact Qu hn rows hso
     |map es=>exact KQ hn _ hso
     |glb g lo hi=>simp only[Ec]
    exact up o h6
   ·exact h5
  exact BI.low hF hs (sm'.ok id o h3)
 ·obtain ⟨o,hoo⟩:=Jb.1 hi;obtain⟨o2,ho2⟩:=Jb.1 hj;exact sm'.inj i j (by rw[(ho i o hoo).1];try rfl) (by rw[(ho j o2 ho2).1];try rfl)
 ·obtain ⟨o,hoo⟩:=Jb.1 hid;exact sm'.nx id (by rw[(ho id o hoo).1];try rfl)
 ·exact AF.rep sm' hF hB r r' v hf hrep
end
def Ed(n:Nat)(h:A0):A0:=⟨h.next,λj=>if j<n then h.obj j else none⟩
def Ev:List (Nat × PV)->A9->A9
 |[],s=>s
 |(t,p)::l,s=>CX (Ev l s) t p
theorem UH{n:Nat}{h:A0}{id:Nat}{o:Ab}(ho:(Ed n h).obj id=some o):id<n/\h.obj id=some o:=by
 simp only[Ed]at ho;split at ho
 ·rename_i hn;exact⟨hn,ho⟩
 ·cases ho
theorem Wk.drop{s:A9}{h:A0}{n:Nat}{l:List (Nat × PV)}(hn:n<=h.next)(hf: ∀ x∈l,AF n h x.2 (s x.1)):Wk s h (Ev l s) (Ed n h):=by
 intro β w sm;have hsome: ∀ id,((Ed n h).obj id).isSome=true->id<n/\(h.obj id).isSome=true:=λid hid=>by
  obtain⟨o,ho⟩:=Jb.1 hid;obtain⟨h1,h2⟩:=UH ho;exact⟨h1,by rw[h2];try rfl⟩
 have hF: ∀ b,Fz β h w b->Fz β (Ed n h) w b:=λb hb=>⟨hb.1,λid hid=>hb.2.1 id (hsome id hid).2,hb.2.2⟩;have hB: ∀ id b,n<=id->(h.obj id).isSome=true->(β id).b=some b->Fz β (Ed n h) w b:=by
  intro id b hid hs hb;obtain⟨o,hoo⟩:=Jb.1 hs;refine⟨sm.blk_lt hoo hb,λj hj hjb=>?_,sm.nx id hs b hb⟩;obtain⟨h1,h2⟩:=hsome j hj;have:=sm.inj id j hs h2 b hb hjb;omega
 have mv:Mv β h.next (Fz β h w) w β (Ed n h).next (Fz β (Ed n h) w) w:=⟨AD _,λ_ _ _=>rfl,λb hb=>⟨hF b hb,rfl⟩⟩
 have mv2:Mv β n (Fz β (Ed n h) w) w β (Ed n h).next (Fz β (Ed n h) w) w:=⟨hn,λ_ _ _=>rfl,λb hb=>⟨hb,rfl⟩⟩
 refine⟨⟨λid hid=>sm.lt id (hsome id hid).2,λid o ho=>BI.mv mv (λ_ _=>rfl) (sm.ok id o (UH ho).2),λi j hi hj=>sm.inj i j (hsome i hi).2 (hsome j hj).2,sm.xs,λid hid=>sm.nx id (hsome id hid).2⟩,
  ⟨rfl,rfl,rfl,AD _,AD _,λ_ _=>rfl,rfl,λ_ _ _=>rfl,λb hb=>⟨hF b hb,rfl⟩⟩,?_⟩
 induction l with
 |nil=>intro t x hr;exact A8.mv mv _ _ hr
 |cons a l ih=>
  intro t x hr;simp only[Ev,CX];split
  ·rename_i he;subst he;exact A8.mv mv2 _ _ (AF.rep sm hF hB _ _ _ (hf a (KF ..)) hr)
  ·exact ih (λy hy=>hf y (Gm _ hy)) t x hr
theorem Mc{P:Program}{ow:Nat->Bool}{wf:FuncId->Bool}{m:Nat}{c:Code}{Q:BA}{s:A9}{h:A0}(n:Nat)(l:List (Nat × PV))(hc:KR c=true)(hn:n<=h.next)(hf: ∀ x∈l,AF n h x.2 (s x.1))(hw:Ad P ow wf m c Q (Ev l s) (Ed n h)):Ad P ow wf m c Q s h:=UF hc (Wk.drop hn hf) hw
theorem cw{α β:Type}{a:α}{b:β}{Q:α->β->Prop}:(∃ v h',(a=v/\b=h')/\Q v h')↔Q a b:=
 ⟨λ⟨_,_,⟨rfl,rfl⟩,q⟩=>q,λq=>⟨a,b,⟨rfl,rfl⟩,q⟩⟩
theorem cz{α:Type}{A:Nat × α->Prop}{ops:List Oper}{k:Nat}{R:Prop}{l:List (Nat × α)}(is:List Nat)(h1:l.map (·.1)=is)(h2:is.all (λi=>pre ops i k)=true)(h3:R):(∀ x∈l,pre ops x.1 k=true\/A x)/\R:=
 ⟨λx hx=> .inl (Bq.1 h2 x.1 (by rw[← h1];exact Oi hx)),h3⟩
theorem R8{α:Type}{A:Nat × α->Prop}{ops:List Oper}{k:Nat}{R:Prop}{l:List (Nat × α)}(h1: ∀ x∈l,pre ops x.1 k=true\/A x)(h3:R):(∀ x∈l,pre ops x.1 k=true\/A x)/\R:=⟨h1,h3⟩
def FX(h h':A0):Prop:=h.next<=h'.next/\ ∀ id,id<h.next->h'.obj id=h.obj id
theorem FX.refl(h:A0):FX h h:=⟨AD _,λ_ _=>rfl⟩
theorem FX.trans{h h' h'':A0}(a:FX h h')(b:FX h' h''):FX h h'':=⟨EE a.1 b.1,λid hid=>(b.2 id (HV hid a.1)).trans (a.2 id hid)⟩
theorem dA{h h':A0}{i:Nat}(hi:h.next<=i)(hk:FX h h'):FX h (h'.kill i):=by
 refine⟨by rw[PF];exact hk.1,λid hid=>?_⟩;rw[Nk,A4 (by omega)];exact hk.2 id hid
theorem Sl.keep{h:A0}{z:Nat}{p:PV}{rows:List (List PV)}(hp:Sl h z p rows)(hwf:Wf h){h':A0}(hk:FX h h'):
  EZ h' p=some rows/\Cw h' z p=true/\ ∀ (i:Nat)(r:List PV),rows[i]? =some r-> ∃ q,(∀ h'',FX h h''->Gq h'' z p (i:Int)=some q)/\ ∀ h'',FX h h''->rd h'' q=some r:=by
 have hs:=hp.sl;unfold Ie at hs;split at hs
 ·exact ⟨hp.vw,hp.zk,λi r hr=>by
   obtain⟨q,hq,hqr⟩:=hp.get i r hr;refine⟨q,λ_ _=>hq,λ_ _=>?_⟩;rename_i z' rows';simp only[Gq]at hq;split at hq
   ·split at hq
    ·obtain ⟨c,_,rfl⟩:=Dt.1 hq;exact hqr
    ·exact absurd hq (by simp)
   ·exact absurd hq (by simp)⟩
 ·rename_i id off len;have hz:=hp.zk;simp only[Cw]at hz;split at hz
  ·rename_i z' rows' ho;have e: ∀ h'',FX h h''->h''.obj id=h.obj id:=λh'' hk=>hk.2 id (hwf id (by rw[ho];try rfl));refine⟨by rw[← hp.vw];simp only[EZ,e h' hk],by rw[← hp.zk];simp only[Cw,e h' hk],λi r hr=>?_⟩;obtain⟨q,hq,hqr⟩:=hp.get i r hr;refine⟨q,λh'' hk=>by rw[← hq];simp only[Gq,e h'' hk],λh'' hk=>?_⟩;rw[← hqr];simp only[Gq,ho]at hq;split at hq
   ·split at hq
    ·simp only[Ak]at hq;subst hq;simp only[rd,e h'' hk]
    ·exact absurd hq (by simp)
   ·exact absurd hq (by simp)
  ·exact absurd hz (by simp)
 ·exact ⟨hp.vw,hp.zk,λi r hr=>by
   have:=hp.vw;simp only[EZ,Ak]at this;subst this;simp at hr⟩
 ·exact ⟨hp.vw,hp.zk,λi r hr=>by
   have:=hp.vw;simp only[EZ,Ak]at this;subst this;simp at hr⟩
 ·exact absurd hs (by simp)
theorem Sl.kview{h:A0}{z:Nat}{p:PV}{rows:List (List PV)}(hp:Sl h z p rows)(hwf:Wf h): ∀ h'',FX h h''->EZ h'' p=some rows:=λ_ hk=>(hp.keep hwf hk).1
theorem Sl.kz{h:A0}{z:Nat}{p:PV}{rows:List (List PV)}(hp:Sl h z p rows)(hwf:Wf h): ∀ h'',FX h h''->Cw h'' z p=true:=λ_ hk=>(hp.keep hwf hk).2.1
theorem Sl.kget{h:A0}{z:Nat}{p:PV}{rows:List (List PV)}(hp:Sl h z p rows)(hwf:Wf h){i:Nat}{r:List PV}(hr:rows[i]? =some r): ∃ q,(∀ h'',FX h h''->Gq h'' z p (i:Int)=some q)/\ ∀ h'',FX h h''->rd h'' q=some r:=
 (hp.keep hwf (FX.refl h)).2.2 i r hr
theorem dB{h:A0}{z:Nat}{p:PV}{rows:List (List PV)}(hp:Sl h z p rows): ∀ h',Es h' p=some rows.length:=by
 intro h';have hs:=hp.sl;have hl:=hp.len;unfold Ie at hs;split at hs
 ·exact hl
 ·exact hl
 ·exact hl
 ·exact hl
 ·exact absurd hs (by simp)
theorem Sl.up{h h':A0}{z:Nat}{p:PV}{rows:List (List PV)}(hp:Sl h z p rows)(hwf:Wf h)(hk:FX h h'):Sl h' z p rows:=
 ⟨hp.kview hwf h' hk,hp.kz hwf h' hk,dB hp h',hp.lk,hp.sl,λi r hr=>by
  obtain⟨q,h1,h2⟩:=hp.kget hwf hr;exact⟨q,h1 h' hk,h2 h' hk⟩⟩
theorem Sl.two{h:A0}{z:Nat}{p:PV}{rows:List (List PV)}(hp:Sl h z p rows)(hr:0<rows.length):p= .imm z rows\/ ∃ id off rows',p= .own id off rows.length/\h.obj id=some (.arr z rows')/\off+rows.length<=rows'.length/\(rows'.drop off).take rows.length=rows:=by
 have hs:=hp.sl;have hl:=hp.len;have hv:=hp.vw;have hz:=hp.zk;unfold Ie at hs;split at hs
 ·simp only[EZ,Ak]at hv;simp only[Cw,Dv]at hz;left;rw[hv,hz]
 ·rename_i id off len;right;simp only[Es,Ak]at hl;subst hl;simp only[Cw]at hz;simp only[EZ]at hv;split at hv
  ·rename_i z' rows' ho;rw[ho]at hz;simp only[Dv]at hz;subst hz;split at hv
   ·rename_i h1;simp only[Ak]at hv;exact⟨id,off,rows',rfl,ho,h1,hv⟩
   ·simp at hv
  ·simp at hv
 ·simp only[Es,Ak]at hl;omega
 ·simp only[Es,Ak]at hl;omega
 ·exact absurd hs (by simp)
theorem dC(a b:Int):NN .u64 a b=IntKind.u64.wrap (((BitVec.ofInt 64 a&&&BitVec.ofInt 64 b).toNat:Nat):Int):=rfl
theorem dD(a b:Int):NO .u64 a b=IntKind.u64.wrap (((BitVec.ofInt 64 a|||BitVec.ofInt 64 b).toNat:Nat):Int):=rfl
theorem dE(a b:Int):NP .u64 a b=IntKind.u64.wrap (((BitVec.ofInt 64 a ^^^ BitVec.ofInt 64 b).toNat:Nat):Int):=rfl
theorem dF(a b:Int):NQ .u64 a b=IntKind.u64.wrap (((BitVec.ofInt 64 a&&& ~~~ BitVec.ofInt 64 b).toNat:Nat):Int):=rfl
theorem dG(a b:Int):NN .i64 a b=IntKind.i64.wrap (((BitVec.ofInt 64 a&&&BitVec.ofInt 64 b).toNat:Nat):Int):=rfl
theorem dH(a b:Int):NO .i64 a b=IntKind.i64.wrap (((BitVec.ofInt 64 a|||BitVec.ofInt 64 b).toNat:Nat):Int):=rfl
theorem dI(a b:Int):NP .i64 a b=IntKind.i64.wrap (((BitVec.ofInt 64 a ^^^ BitVec.ofInt 64 b).toNat:Nat):Int):=rfl
theorem dJ(a b:Int):NQ .i64 a b=IntKind.i64.wrap (((BitVec.ofInt 64 a&&& ~~~ BitVec.ofInt 64 b).toNat:Nat):Int):=rfl
theorem dK(a b:Int):NN .u8 a b=IntKind.u8.wrap (((BitVec.ofInt 8 a&&&BitVec.ofInt 8 b).toNat:Nat):Int):=rfl
theorem dM(a b:Int):NO .u8 a b=IntKind.u8.wrap (((BitVec.ofInt 8 a|||BitVec.ofInt 8 b).toNat:Nat):Int):=rfl
theorem dN(a b:Int):NP .u8 a b=IntKind.u8.wrap (((BitVec.ofInt 8 a ^^^ BitVec.ofInt 8 b).toNat:Nat):Int):=rfl
theorem dO(a b:Int):NQ .u8 a b=IntKind.u8.wrap (((BitVec.ofInt 8 a&&& ~~~ BitVec.ofInt 8 b).toNat:Nat):Int):=rfl
end Go.AM
namespace Go.AM
structure Pm where
 name:ByteArray
 type:ByteArray
inductive Ex where
 |mk(op name:ByteArray)(n:Int)(args:List ByteArray)(kids:List Ex)
inductive Fm where
 |mk(op name:ByteArray)(args:List ByteArray)(params:List Pm)(exprs:List Ex)(kids:List Fm)
abbrev A2(s:ByteArray):PV:= .sc (.string s)
def AN(l:List ByteArray):List (List PV):=l.map λs=>[A2 s]
def LZ(p:Pm):List PV:=[A2 p.name,A2 p.type]
def A7(l:List Pm):List (List PV):=l.map LZ
theorem IA(l:List Pm):(A7 l).length=l.length:=by simp[A7]
theorem Nn{l:List Pm}{i:Nat}{p:Pm}(h:l[i]? =some p):(A7 l)[i]? =some [A2 p.name,A2 p.type]:=by simp[A7,h,LZ]
mutual
def Ex.cells:Ex->List PV
 | .mk op name n args kids=>[A2 op,A2 name,.sc (.int .i64 n),.imm 1 (AN args),.imm 5 (Ex.rows kids)]
def Ex.rows:List Ex->List (List PV)
 |[]=>[]
 |k::ks=>k.cells::Ex.rows ks
end
mutual
def Fm.cells:Fm->List PV
 | .mk op name args params exprs kids=>[A2 op,A2 name,.imm 1 (AN args),.imm 2 (A7 params),.imm 5 (Ex.rows exprs),.imm 6 (Fm.rows kids)]
def Fm.rows:List Fm->List (List PV)
 |[]=>[]
 |k::ks=>k.cells::Fm.rows ks
end
theorem Ex.rows_map: ∀ l:List Ex,Ex.rows l=l.map Ex.cells
 |[]=>rfl
 |k::ks=>by simp[Ex.rows,Ex.rows_map ks]
theorem Fm.rows_map: ∀ l:List Fm,Fm.rows l=l.map Fm.cells
 |[]=>rfl
 |k::ks=>by simp[Fm.rows,Fm.rows_map ks]
mutual
def Ex.size:Ex->Int
 | .mk _ _ _ _ kids=>Ex.sizes 1 kids
def Ex.sizes(n:Int):List Ex->Int
 |[]=>n
 |k::ks=>Ex.sizes (IntKind.i64.wrap (n+k.size)) ks
end
mutual
def Fm.size:Fm->Int
 | .mk _ _ _ _ exprs kids=>Fm.sizes (Ex.sizes 1 exprs) kids
def Fm.sizes(n:Int):List Fm->Int
 |[]=>n
 |k::ks=>Fm.sizes (IntKind.i64.wrap (n+k.size)) ks
end
def A1(a b:ByteArray):Bool:=a.data.toList==b.data.toList
def Ee:List ByteArray->List ByteArray->Bool
 |[],[]=>true
 |a::l,b::m=>A1 a b&&Ee l m
 |_,_=>false
def PL(a b:Pm):Bool:=A1 a.name b.name&&A1 a.type b.type
def DL:List Pm->List Pm->Bool
 |[],[]=>true
 |a::l,b::m=>PL a b&&DL l m
 |_,_=>false
mutual
def Ex.same:Ex->Ex->Bool
 | .mk op name n args kids,.mk op' name' n' args' kids'=>A1 op op'&&A1 name name'&&n==n'&&Ee args args'&&Ex.sames kids kids'
def Ex.sames:List Ex->List Ex->Bool
 |[],[]=>true
 |a::l,b::m=>a.same b&&Ex.sames l m
 |_,_=>false
end
mutual
def Fm.same:Fm->Fm->Bool
 | .mk op name args params exprs kids,.mk op' name' args' params' exprs' kids'=>A1 op op'&&A1 name name'&&Ee args args'&&DL params params'&&Ex.sames exprs exprs'&&Fm.sames kids kids'
def Fm.sames:List Fm->List Fm->Bool
 |[],[]=>true
 |a::l,b::m=>a.same b&&Fm.sames l m
 |_,_=>false
end
theorem Ex.rows_len(l:List Ex):(Ex.rows l).length=l.length:=by simp[Ex.rows_map]
theorem Fm.rows_len(l:List Fm):(Fm.rows l).length=l.length:=by simp[Fm.rows_map]
theorem Ex.rows_get{l:List Ex}{i:Nat}{k:Ex}(h:l[i]? =some k):(Ex.rows l)[i]? =some k.cells:=by simp[Ex.rows_map,h]
theorem Fm.rows_get{l:List Fm}{i:Nat}{k:Fm}(h:l[i]? =some k):(Fm.rows l)[i]? =some k.cells:=by simp[Fm.rows_map,h]
theorem Ex.ind{C:Ex->Prop}(hC: ∀ op name n args kids,(∀ k∈kids,C k)->C (.mk op name n args kids)): ∀ e,C e
 | .mk op name n args kids=>hC op name n args kids λk hk=>Ex.ind hC k
termination_by e=>SizeOf.sizeOf e
decreasing_by
 have:=YI hk;simp only[Ex.mk.sizeOf_spec];omega
theorem Fm.ind{C:Fm->Prop}(hC: ∀ op name args params exprs kids,(∀ k∈kids,C k)->C (.mk op name args params exprs kids)): ∀ f,C f
 | .mk op name args params exprs kids=>hC op name args params exprs kids λk hk=>Fm.ind hC k
termination_by f=>SizeOf.sizeOf f
decreasing_by
 have:=YI hk;simp only[Fm.mk.sizeOf_spec];omega
theorem Ex.sames_len: ∀ {l m:List Ex},¬ l.length=m.length->Ex.sames l m=false
 |[],[],h=>by simp at h
 |[],_::_,_=>rfl
 |_::_,[],_=>rfl
 |a::l,b::m,h=>by simp only[Ex.sames,Ex.sames_len (l:=l) (m:=m) (by simpa using h),BD]
theorem Fm.sames_len: ∀ {l m:List Fm},¬ l.length=m.length->Fm.sames l m=false
 |[],[],h=>by simp at h
 |[],_::_,_=>rfl
 |_::_,[],_=>rfl
 |a::l,b::m,h=>by simp only[Fm.sames,Fm.sames_len (l:=l) (m:=m) (by simpa using h),BD]
def AJ:Nat:=1152921504606846976
mutual
def Ex.ok:Ex->Prop
 | .mk op name n args kids=>op.size<=AJ/\name.size<=AJ/\(-9223372036854775808<=n/\n<=9223372036854775807)/\(args.length<=AJ/\ ∀ a∈args,a.size<=AJ)/\kids.length<=AJ/\Ex.oks kids
def Ex.oks:List Ex->Prop
 |[]=>True
 |k::ks=>k.ok/\Ex.oks ks
end
def Pm.ok(p:Pm):Prop:=p.name.size<=AJ/\p.type.size<=AJ
mutual
def Fm.ok:Fm->Prop
 | .mk op name args params exprs kids=>op.size<=AJ/\name.size<=AJ/\(args.length<=AJ/\ ∀ a∈args,a.size<=AJ)/\(params.length<=AJ/\ ∀ p∈params,p.ok)/\(exprs.length<=AJ/\Ex.oks exprs)/\kids.length<=AJ/\Fm.oks kids
def Fm.oks:List Fm->Prop
 |[]=>True
 |k::ks=>k.ok/\Fm.oks ks
end
theorem Ex.oks_iff:{l:List Ex}->(Ex.oks l↔ ∀ k∈l,k.ok)
 |[]=>by simp[Ex.oks]
 |k::ks=>by simp[Ex.oks,Ex.oks_iff (l:=ks)]
theorem Fm.oks_iff:{l:List Fm}->(Fm.oks l↔ ∀ k∈l,k.ok)
 |[]=>by simp[Fm.oks]
 |k::ks=>by simp[Fm.oks,Fm.oks_iff (l:=ks)]
structure AC(h h':A0):Prop where
 le:h.next<=h'.next
 old: ∀ id,id<h.next->h'.obj id=h.obj id
theorem AC.refl(h:A0):AC h h:=⟨AD _,λ_ _=>rfl⟩
theorem AC.new{h h':A0}(g:AC h h')(o:Ab):AC h (h'.new o):=
 ⟨EE g.le (by simp[A0.new]),λid hid=>by simp only[A0.new];rw[A4 (by have:=g.le;omega)];exact g.old id hid⟩
theorem AC.set{h h':A0}(g:AC h h'){id:Nat}(hid:h.next<=id)(o:Ab):AC h (h'.set id o):=
 ⟨g.le,λi hi=>by simp only[A0.set];rw[A4 (by omega)];exact g.old i hi⟩
theorem AC.kill{h h':A0}(g:AC h h'){id:Nat}(hid:h.next<=id):AC h (h'.kill id):=
 ⟨g.le,λi hi=>by simp only[A0.kill];rw[A4 (by omega)];exact g.old i hi⟩
theorem AC.trans{h h' h2:A0}(g:AC h h')(k:AC h' h2):AC h h2:=
 ⟨EE g.le k.le,λi hi=>by rw[k.old i (by have:=g.le;omega)];exact g.old i hi⟩
theorem A6.quiet{P:Program}{f:FuncId}{args:List PV}{h:A0}{v:Value}(hb:Ai P f=true)(hc:A6 P f args h λr h'=>r= .sc v/\AC h h'):A6 P f args h λr h'=>r= .sc v/\h'=h:=by
 refine Ig hb λhw=>A6.drop (hc.mono ?_);rintro r h' ⟨rfl,g⟩;refine⟨.sc v,h,⟨rfl,rfl⟩,by simp only[AF],AD _,λid o ho=>?_⟩;have hid:=hw id (by rw[ho];try rfl);exact⟨by rw[g.old id hid];exact ho,hid,.inl ho⟩
theorem Jp{P:Program}{ow:Nat->Bool}{n:Nat}{s:A9}{h:A0}{f:FuncId}{fo:Operand}{dst:Option Tmp}{args:List Operand}{ts:Array TypeId}{ty:TypeId}{pos:String}{af:Array Edge}{gd:Option (Nat × Bool)}{ags:List PV}{v:PV}{K:A9->A0->Prop}{ops rest:List Oper}
  (hf:A5 s fo= .sc (.func (.func f) #[] #[]))(hc:A6 P f ags h λr h'=>r=v/\h'=h)(ha:args.map (A5 s)=ags)(hk:E8 P ow n ops rest K (AZ s dst v) h):
  CQ P ow {dst:=dst,op:= .call {callee:= .value fo,args:=args.toArray,argTypes:=ts},type:=ty,pos:=pos,after:=af,guard:=gd} (EH P ow n ops rest K) s h:=by
 unfold CQ;simp only[callee,hf,KH,AH];rw[ha];exact hc.mono λr h' hr=>by rw[hr.1,hr.2];exact KS _ _ _ hk
end Go.AM
namespace Go.AM
structure Ch where
 kind:Int
 params:List Pm
 cond:Fm
 name:ByteArray
 args:List ByteArray
 value:Ex
structure Pr where
 name:ByteArray
 params:List Pm
structure Fu where
 name:ByteArray
 params:List Pm
 lo:Int
 hi:Int
structure Ac where
 name:ByteArray
 params:List Pm
 cost:Int
 pre:Fm
 changes:List Ch
structure Du where
 name:ByteArray
 params:List Pm
 duration:Int
 start:Fm
 over:Fm
 stop:Fm
 atStart:List Ch
 atStop:List Ch
structure Dm where
 name:ByteArray
 types:List Pm
 constants:List Pm
 predicates:List Pr
 functions:List Fu
 actions:List Ac
 duratives:List Du
def Di(c:Ch):List PV:=[.sc (.int .i64 c.kind),.imm 2 (A7 c.params)]++(c.cond.cells++([A2 c.name,.imm 1 (AN c.args)]++c.value.cells))
def Al(l:List Ch):List (List PV):=l.map Di
def FE(p:Pr):List PV:=[A2 p.name,.imm 2 (A7 p.params)]
def Bj(l:List Pr):List (List PV):=l.map FE
def FF(f:Fu):List PV:=[A2 f.name,.imm 2 (A7 f.params),.sc (.int .i64 f.lo),.sc (.int .i64 f.hi)]
def Bh(l:List Fu):List (List PV):=l.map FF
def FG(a:Ac):List PV:=[A2 a.name,.imm 2 (A7 a.params),.sc (.int .i64 a.cost)]++(a.pre.cells++[.imm 15 (Al a.changes)])
def Bm(l:List Ac):List (List PV):=l.map FG
def FH(d:Du):List PV:=[A2 d.name,.imm 2 (A7 d.params),.sc (.int .i64 d.duration)]++(d.start.cells++(d.over.cells++(d.stop.cells++[.imm 15 (Al d.atStart),.imm 15 (Al d.atStop)])))
def Bn(l:List Du):List (List PV):=l.map FH
def Dm.cells(d:Dm):List PV:=[A2 d.name,.imm 2 (A7 d.types),.imm 2 (A7 d.constants),.imm 2 (Bj d.predicates),.imm 4 (Bh d.functions),.imm 10 (Bm d.actions),.imm 23 (Bn d.duratives)]
theorem Md(l:List Ch):(Al l).length=l.length:=by simp[Al]
theorem R9{l:List Ch}{i:Nat}{a:Ch}(h:l[i]? =some a):(Al l)[i]? =some (Di a):=by simp[Al,h]
theorem No(l:List Pr):(Bj l).length=l.length:=by simp[Bj]
theorem RB{l:List Pr}{i:Nat}{a:Pr}(h:l[i]? =some a):(Bj l)[i]? =some (FE a):=by simp[Bj,h]
theorem Np(l:List Fu):(Bh l).length=l.length:=by simp[Bh]
theorem RC{l:List Fu}{i:Nat}{a:Fu}(h:l[i]? =some a):(Bh l)[i]? =some (FF a):=by simp[Bh,h]
theorem Nq(l:List Ac):(Bm l).length=l.length:=by simp[Bm]
theorem RD{l:List Ac}{i:Nat}{a:Ac}(h:l[i]? =some a):(Bm l)[i]? =some (FG a):=by simp[Bm,h]
theorem Nr(l:List Du):(Bn l).length=l.length:=by simp[Bn]
theorem RE{l:List Du}{i:Nat}{a:Du}(h:l[i]? =some a):(Bn l)[i]? =some (FH a):=by simp[Bn,h]
structure Ch.ok(c:Ch):Prop where
 params:c.params.length<=AJ/\ ∀ a∈c.params,a.ok
 cond:c.cond.ok
 args:c.args.length<=AJ/\ ∀ a∈c.args,a.size<=AJ
 value:c.value.ok
 name:c.name.size<=AJ
 kind: -9223372036854775808<=c.kind/\c.kind<=9223372036854775807
def Chs.ok(l:List Ch):Prop:=l.length<=AJ/\ ∀ a∈l,a.ok
structure Pr.ok(p:Pr):Prop where
 name:p.name.size<=AJ
 params:p.params.length<=AJ/\ ∀ a∈p.params,a.ok
structure Fu.ok(p:Fu):Prop where
 name:p.name.size<=AJ
 params:p.params.length<=AJ/\ ∀ a∈p.params,a.ok
 lo: -9223372036854775808<=p.lo/\p.lo<=9223372036854775807
 hi: -9223372036854775808<=p.hi/\p.hi<=9223372036854775807
structure Ac.ok(a:Ac):Prop where
 name:a.name.size<=AJ
 params:a.params.length<=AJ/\ ∀ p∈a.params,p.ok
 cost: -9223372036854775808<=a.cost/\a.cost<=9223372036854775807
 pre:a.pre.ok
 changes:Chs.ok a.changes
structure Du.ok(a:Du):Prop where
 name:a.name.size<=AJ
 params:a.params.length<=AJ/\ ∀ p∈a.params,p.ok
 duration: -9223372036854775808<=a.duration/\a.duration<=9223372036854775807
 start:a.start.ok
 over:a.over.ok
 stop:a.stop.ok
 atStart:Chs.ok a.atStart
 atStop:Chs.ok a.atStop
structure Dm.ok(d:Dm):Prop where
 name:d.name.size<=AJ
 types:d.types.length<=AJ/\ ∀ a∈d.types,a.ok
 constants:d.constants.length<=AJ/\ ∀ a∈d.constants,a.ok
 predicates:d.predicates.length<=AJ/\ ∀ a∈d.predicates,a.ok
 functions:d.functions.length<=AJ/\ ∀ a∈d.functions,a.ok
 actions:d.actions.length<=AJ/\ ∀ a∈d.actions,a.ok
 duratives:d.duratives.length<=AJ/\ ∀ a∈d.duratives,a.ok
end Go.AM
namespace Go.AM
set_option maxRecDepth 20000
variable {P:Program}{ow:Nat->Bool}{s:A9}{h:A0}
def dP:=AY @cv @cw @Nj @Nk @UD @R3 @PF @UE @aw @az @bA (AY @bB @bC @bD @bE @bF @bG @bH @bI @bJ @bK @bL (AY @bM @bN @bO @bP @bQ @bR @bS @bT @bU @bV @bW @bX))
def dQ:=AY @bY @bZ @bc @bf @bg @bh @bj @bk @bm @bo @bp (AY @bs @bt @bu @bw @bx @bz @cB @cC @cF @cH @cI (AY @cJ @cM @cO @cQ @cR @cT @cU @cV @cX @cY @cZ @cg))
def dR:=AY @cj @cm @cq @cr @Zf @Zh @Zj @Zl @Zn @Zp @Zr (AY @Zt @Zv @Zx @Zz @aB @aD @aF @aH @aJ @aL @aN (AY @aP @aR @aU @aW @aY @ae @ai @ao @Zg @Zi @Zk @Zm))
def dS:=AY @Zo @Zq @Zs @Zu @Zw @Zy @aA @aC @aE @aG @aI (AY @aK @aM @aO @aQ @aT @aV @aX @aZ @ah @aj @au (AY @ZV @ZW @ZX @ZY @ZZ @Za @Zb @Zc @ZR @ZS @ZT @ZU))
def dT:=AY @Be @Int.natCast_nonneg @BP @Cv @YJ @YA @E3 @E2 @KI @Option.bind_some.{0,0} @Option.bind_none.{0,0} (AY @Option.map_some.{0,0} @Option.map_none.{0,0} @Option.all_some.{0} @Option.all_none.{0} @Option.any_some.{0} @Option.any_none.{0} @Option.some.injEq.{0} @Prod.mk.injEq.{0,0} @List.map_cons.{0,0} @List.map_nil.{0,0} @List.length_cons.{0} (AY @List.length_nil.{0} @List.length_map.{0,0} @List.getD_cons_zero.{0} @List.getD_cons_succ.{0} @List.getElem?_cons_zero.{0} @List.getElem?_cons_succ.{0} @List.drop_zero.{0} @List.drop_succ_cons.{0} @List.drop_nil.{0} @List.take_zero.{0} @List.take_succ_cons.{0} @List.take_nil.{0}))
def dU:=AY @List.head?_cons.{0} @List.all_cons.{0} @List.all_nil.{0} @List.cons_append.{0} @List.nil_append.{0} @List.append_nil.{0} @List.replicate_succ.{0} @List.replicate_zero.{0} @List.set_cons_zero.{0} @List.set_cons_succ.{0} @Qa (AY @QZ @TB @Qb @GU @Fw @Cc @B8 @BD @B9 @Ap @C4 (AY @BG @Da @FQ @and_false @false_and @KH @or_true @true_or @HE @false_or @List.not_mem_nil.{0} @false_implies))
def dV:=AV @MJ @bq @List.getElem?_map.{0,0}
def dW:=AY @dC @dD @dE @dF @dG @dH @dI @dJ @dK @dM @dN @dO
def dX:=As @beq_iff_eq.{0} @bne_iff_ne.{0} @ne_eq.{1} @beq_eq_false_iff_ne.{0} @beq_self_eq_true.{0}
def Cz:=AY @E2 @E3 @BP @Cv @DG @TC @AR @mH @E5 @Bool.not_eq_false' @YJ (E7 @YA @bne_iff_ne.{0} @bne_eq_false_iff_eq.{0} @beq_iff_eq.{0} @beq_eq_false_iff_ne.{0} @ne_eq.{1} @gt_iff_lt.{0} @ge_iff_le.{0} @Int.not_lt @Int.not_le @KI)
section
variable {K:A9->A0->Prop}{Q:BA}{i j:Nat}
theorem dY:BA.seq K Q .normal s h=K s h:=rfl
theorem dZ:BA.seq K Q .ret s h=Q .ret s h:=rfl
theorem db:BA.seq K Q (.exit i) s h=Q (.exit i) s h:=rfl
theorem de:BA.block j Q .normal s h=Q .normal s h:=rfl
theorem dg:BA.block j Q .ret s h=Q .ret s h:=rfl
theorem dh:BA.block j Q (.exit i) s h=if i=j then Q .normal s h else Q (.exit i) s h:=rfl
end
def Ao:=Aq @dY @dZ @db @de @dg @dh
end Go.AM
namespace Go.AM
set_option maxRecDepth 20000
def dj:=AY @Go.undef.eq_1 @Go.AM.E8.eq_1 @Go.AM.E8.eq_2 @Go.AM.Eu.eq_1 @Go.AM.Eu.eq_2 @Go.AM.callee.eq_1 @Go.AM.callee.eq_2 @Go.AM.CN.eq_1 @Go.AM.B0.eq_1 @Go.AM.AT.eq_1 @Go.AM.AT.eq_2 (AY @Go.AM.AT.eq_3 @Go.AM.AT.eq_4 @Go.AM.AT.eq_5 @Go.AM.AT.eq_6 @Go.AM.AT.eq_7 @Go.AM.AT.eq_8 @Go.AM.AT.eq_9 @Go.AM.AT.eq_10 @Go.AM.AT.eq_11 @Go.AM.AT.eq_12 @Go.AM.AT.eq_13 (AY @Go.AM.AT.eq_14 @Go.AM.AT.eq_15 @Go.AM.AT.eq_16 @Go.AM.AT.eq_17 @Go.AM.AT.eq_18 @Go.AM.AT.eq_19 @Go.AM.AT.eq_20 @Go.AM.AT.eq_21 @Go.AM.AT.eq_22 @Go.AM.AT.eq_23 @Go.AM.AT.eq_24 (Aa @Go.AM.AT.eq_25 @Go.AM.AT.eq_26 @Go.AM.AT.eq_27 @Go.AM.AT.eq_28)))
def dk:=AY @Go.AM.A5.eq_1 @Go.AM.A5.eq_2 @Go.AM.A5.eq_3 @Go.AM.A5.eq_4 @Go.AM.I5.eq_1 @Go.AM.I5.eq_2 @Go.AM.I5.eq_3 @Go.AM.Gr.eq_1 @Go.AM.Gr.eq_2 @Go.AM.LN.eq_1 @Go.AM.LN.eq_2 (AY @Go.AM.Fl.eq_1 @Go.AM.Fl.eq_2 @Go.AM.Gp.eq_1 @Go.AM.Gp.eq_2 @Go.AM.JA.eq_1 @Go.AM.Je.eq_1 @Go.AM.Ia.eq_1 @Go.AM.Ia.eq_2 @Go.AM.Ia.eq_3 @Go.AM.Ia.eq_4 @Go.AM.Ia.eq_5 (AY @Go.AM.Ia.eq_6 @Go.AM.Ia.eq_7 @Go.AM.KO.eq_1 @Go.AM.KO.eq_2 @Go.AM.KO.eq_3 @Go.AM.KO.eq_4 @Go.AM.Ib.eq_1 @Go.AM.Ib.eq_2 @Go.AM.Ib.eq_3 @Go.AM.EF.eq_1 @Go.AM.EF.eq_2 (Aq @Go.AM.EF.eq_3 @Go.AM.EF.eq_4 @Go.AM.EF.eq_5 @Go.AM.EF.eq_6 @Go.AM.EF.eq_7 @Go.AM.EF.eq_8)))
def dm:=AY @Go.AM.EF.eq_9 @Go.AM.EF.eq_10 @Go.AM.EF.eq_11 @Go.AM.EF.eq_12 @Go.AM.EF.eq_13 @Go.AM.EF.eq_14 @Go.AM.EF.eq_15 @Go.AM.Dn.eq_1 @Go.AM.Dn.eq_2 @Go.AM.Dn.eq_3 @Go.AM.Dn.eq_4 (AY @Go.AM.Dn.eq_5 @Go.AM.Dn.eq_6 @Go.AM.Dn.eq_7 @Go.AM.Dn.eq_8 @Go.AM.Dn.eq_9 @Go.AM.Dn.eq_10 @Go.AM.Dn.eq_11 @Go.AM.Dn.eq_12 @Go.AM.Dn.eq_13 @Go.AM.Dn.eq_14 @Go.AM.Dn.eq_15 (AY @Go.AM.Dn.eq_16 @Go.AM.LG.eq_1 @Go.AM.LG.eq_2 @Go.AM.LG.eq_3 @Go.AM.I0.eq_1 @Go.AM.I0.eq_2 @Go.AM.I0.eq_3 @Go.AM.I0.eq_4 @Go.AM.I0.eq_5 @Go.AM.I0.eq_6 @Go.AM.I0.eq_7 (Ag @Go.AM.I0.eq_8 @Go.AM.LH.eq_1 @Go.AM.LH.eq_2 @Go.AM.LH.eq_3 @Go.AM.LH.eq_4 @Go.AM.MP.eq_1 @Go.AM.MP.eq_2)))
def dq:=AY @Go.AM.MP.eq_3 @Go.AM.IZ.eq_1 @Go.AM.IZ.eq_2 @Go.AM.IZ.eq_3 @Go.AM.FT.eq_1 @Go.AM.FT.eq_2 @Go.AM.Jf.eq_1 @Go.AM.MT.eq_1 @Go.AM.MT.eq_2 @Go.AM.I1.eq_1 @Go.AM.I1.eq_2 (AY @Go.AM.HY.eq_1 @Go.AM.HY.eq_2 @Go.AM.Jh.eq_1 @Go.AM.Jh.eq_2 @Go.AM.Fk.eq_1 @Go.AM.Fk.eq_2 @Go.AM.Fk.eq_3 @Go.AM.Fk.eq_4 @Go.AM.I2.eq_1 @Go.AM.I2.eq_2 @Go.AM.I2.eq_3 (AY @Go.AM.I2.eq_4 @Go.AM.HZ.eq_1 @Go.AM.HZ.eq_2 @Go.AM.I3.eq_1 @Go.AM.I3.eq_2 @Go.AM.I4.eq_1 @Go.AM.I4.eq_2 @Go.AM.Jg.eq_1 @Go.AM.Jg.eq_2 @Go.IntKind.bits.eq_1 @Go.IntKind.bits.eq_2 (Aq @Go.IntKind.bits.eq_3 @Go.IntKind.bits.eq_4 @Go.IntKind.bits.eq_5 @Go.IntKind.bits.eq_6 @Go.IntKind.bits.eq_7 @Go.IntKind.bits.eq_8)))
def w0:=AY @dP @dQ @dR @dS @dT @dU @dV @dW @dX @Ao @dj (BO @dk @dm @dq @forall_const.{0} @forall_const.{1} @exists_eq_left'.{1} @implies_true.{0} @implies_true.{1})
end Go.AM
