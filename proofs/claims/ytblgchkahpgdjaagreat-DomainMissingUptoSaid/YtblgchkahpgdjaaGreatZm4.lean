/- What the claim rests on, part 4: the abstract machine, contracts of the functions, plain data. -/
import Derived.Orders
import Derived.Test.YtblgchkahpgdjaaGreatZm3
set_option linter.unusedVariables false
set_option linter.defProp false
set_option linter.unusedSimpArgs false
set_option linter.unusedSectionVars false
namespace Go.AM
section
variable{a1 a2 a3 a4 a5 a6 a7 a8 a9 a10 a11 a12:Prop}
theorem uu(x1:a1)(x2:a2):a1/\a2:=⟨x1,x2⟩
theorem AU(x1:a1)(x2:a2)(x3:a3):a1/\a2/\a3:=⟨x1,x2,x3⟩
theorem AW(x1:a1)(x2:a2)(x3:a3)(x4:a4):a1/\a2/\a3/\a4:=⟨x1,x2,x3,x4⟩
theorem Ae(x1:a1)(x2:a2)(x3:a3)(x4:a4)(x5:a5):a1/\a2/\a3/\a4/\a5:=⟨x1,x2,x3,x4,x5⟩
theorem Ah(x1:a1)(x2:a2)(x3:a3)(x4:a4)(x5:a5)(x6:a6):a1/\a2/\a3/\a4/\a5/\a6:=⟨x1,x2,x3,x4,x5,x6⟩
theorem Ad(x1:a1)(x2:a2)(x3:a3)(x4:a4)(x5:a5)(x6:a6)(x7:a7):a1/\a2/\a3/\a4/\a5/\a6/\a7:=⟨x1,x2,x3,x4,x5,x6,x7⟩
theorem BJ(x1:a1)(x2:a2)(x3:a3)(x4:a4)(x5:a5)(x6:a6)(x7:a7)(x8:a8):a1/\a2/\a3/\a4/\a5/\a6/\a7/\a8:=⟨x1,x2,x3,x4,x5,x6,x7,x8⟩
theorem BF(x1:a1)(x2:a2)(x3:a3)(x4:a4)(x5:a5)(x6:a6)(x7:a7)(x8:a8)(x9:a9):a1/\a2/\a3/\a4/\a5/\a6/\a7/\a8/\a9:=⟨x1,x2,x3,x4,x5,x6,x7,x8,x9⟩
theorem B6(x1:a1)(x2:a2)(x3:a3)(x4:a4)(x5:a5)(x6:a6)(x7:a7)(x8:a8)(x9:a9)(x10:a10):a1/\a2/\a3/\a4/\a5/\a6/\a7/\a8/\a9/\a10:=⟨x1,x2,x3,x4,x5,x6,x7,x8,x9,x10⟩
theorem DX(x1:a1)(x2:a2)(x3:a3)(x4:a4)(x5:a5)(x6:a6)(x7:a7)(x8:a8)(x9:a9)(x10:a10)(x11:a11):a1/\a2/\a3/\a4/\a5/\a6/\a7/\a8/\a9/\a10/\a11:=⟨x1,x2,x3,x4,x5,x6,x7,x8,x9,x10,x11⟩
theorem AY(x1:a1)(x2:a2)(x3:a3)(x4:a4)(x5:a5)(x6:a6)(x7:a7)(x8:a8)(x9:a9)(x10:a10)(x11:a11)(x12:a12):a1/\a2/\a3/\a4/\a5/\a6/\a7/\a8/\a9/\a10/\a11/\a12:=⟨x1,x2,x3,x4,x5,x6,x7,x8,x9,x10,x11,x12⟩
end
end Go.AM
namespace Go.AM
section
variable {P:Program}{ow:Nat->Bool}{wf:FuncId->Bool}{n:Nat}{ops:List Oper}{base:Nat}{sk:Nat->AE}{hk:Nat->A0}{vk:Nat->PV}{lt:Nat->Option (Nat × Am)}{br:Nat->Bool}
theorem UP{H:A0}:BE H []=H:=GT rfl λj=>by simp[BE]
theorem aV(hd:Hl ops)(tr:DR P ow wf n ops base sk hk vk lt br)(h0: ∀ f,(hk 0).obj (base+f)=none){K:AE->A0->Prop}(hK:K (sk ops.length) (hk ops.length)){β0:BK}{hb:A0}{w0:World}(hbn:hb.next<=base){Q:Exit->Act->World->Prop}
  (hk': ∀ a' w',To n β0 hb w0 K a' w'->Q .normal a' w'):
  ∀ (fuel:Nat)(listed:Array Bool)(β:BK)(a:Act)(w:World),listed.size=ops.length->IH ops (λj=>listed.getD j false)->FV (λj=>listed.getD j false) ops.length<=fuel->
   St n β (CF ops sk λj=>listed.getD j false) (Hs lt br ops hk λj=>listed.getD j false) a w->
   BR β0 hb w0 β (Hs lt br ops hk λj=>listed.getD j false) w->
   base+ops.length<=(Hs lt br ops hk λj=>listed.getD j false).next->
   (∀ f,f<ops.length->listed.getD f false=false->(β (base+f)).b=none)->wpAny P .any ops.toArray Q fuel listed a w:=by
 have DA: ∀ (listed:Array Bool)(β:BK)(a:Act)(w:World),(∀ j,j<ops.length->listed.getD j false=true)->
   St n β (CF ops sk λj=>listed.getD j false) (Hs lt br ops hk λj=>listed.getD j false) a w->
   BR β0 hb w0 β (Hs lt br ops hk λj=>listed.getD j false) w->Q .normal a w:=by
  intro listed β a w hall st ex;have e1:CF ops sk (λj=>listed.getD j false)=sk ops.length:=by
   funext t;obtain⟨h1,h2,h3⟩:=GH (λj=>listed.getD j false&&Cz ops t j) ops.length;unfold CF;generalize EB (λj=>listed.getD j false&&Cz ops t j) ops.length=m at*;have:=tr.JD (t:=t) (i:=m) (ops.length-m) (by omega) (λj h5 h6=>by
    have:=h3 j h5 (by omega);rw[hall j (by omega),B7]at this;exact this)
   rw[show m+(ops.length-m)=ops.length by omega]at this;exact this.symm
  have e2:Hs lt br ops hk (λj=>listed.getD j false)=hk ops.length:=by
   have hM:MB br ops (λj=>listed.getD j false)<=ops.length:=Jx;have h1:=tr.NP (M:=MB br ops (λj=>listed.getD j false)) (ops.length-MB br ops (λj=>listed.getD j false)) (by omega) (λj a c=>Nn a (by omega) (hall j (by omega)));rw[show MB br ops (λj=>listed.getD j false)+(ops.length-MB br ops (λj=>listed.getD j false))=ops.length by omega]at h1;have hdl:dl lt br ops (λj=>listed.getD j false)=[]:=by
    apply List.eq_nil_iff_forall_not_mem.2;intro id hid;obtain⟨f,q,k1,k2,k3,_⟩:=IJ.1 hid;have hh:listed.getD f false=true:=hall f k1;simp only[hh]at k3;simp at k3
   unfold Hs;rw[hdl,h1,UP];unfold Xs;exact Mk _ λf hf _=>by
    have hh:listed.getD f false=true:=hall f hf;simp only[hh,Cm]
  rw[e1,e2]at st;rw[e2]at ex;exact hk' a w ⟨_,_,β,hK,st,ex⟩
 have rdy: ∀ (listed:Array Bool)(i:Nat),listed.size=ops.length->IH ops (λj=>listed.getD j false)->i∈Region.ready .any ops.toArray listed-> ∃ o,C9 ops (λj=>listed.getD j false) i o:=by
  intro listed i hsz hc hi;simp only[Region.ready,List.mem_filter,List.mem_range,List.size_toArray,AV,EI,List.getElem?_toArray]at hi;obtain⟨h1,h2,h3⟩:=hi;rw[List.getElem?_eq_getElem h1]at h3;simp only[Bq,BD,Ox,EH,EI]at h3;refine⟨_,List.getElem?_eq_getElem h1,?_,hc,λe he hb=>?_⟩
  ·rw [Da,NL (by omega)]at h2⊢;simpa using h2
  ·rcases h3 e (I9.1 he)with h4|h4
   ·rw [hb]at h4;simp at h4
   ·exact h4
 have noRdy: ∀ (listed:Array Bool),listed.size=ops.length->Region.ready .any ops.toArray listed=[]-> ∀ j,j<ops.length->listed.getD j false=true:=by
  intro listed hsz hr j
  induction j using Nat.strongRecOn with
  |_ j ih=>
   intro hj;cases hs:listed.getD j false with
   |true=>rfl
   |false=>
    have hm:j∈Region.ready .any ops.toArray listed:=by
     simp only[Region.ready,List.mem_filter,List.mem_range,List.size_toArray,AV,EI,List.getElem?_toArray];refine⟨hj,?_,?_⟩
     ·rw [Da,NL (by omega)]at hs⊢;simpa using hs
     ·rw [List.getElem?_eq_getElem hj];simp only[Bq,BD,Ox,EH,EI];intro e he;cases hb:Region.binds .any e with
      |false=>exact .inl rfl
      |true=>
       have hlt:=hd.back j _ (List.getElem?_eq_getElem hj) e (I9.2 he) hb;exact .inr (ih e.on hlt (by omega))
    rw[hr]at hm;simp at hm
 intro fuel
 induction fuel with
 |zero=>
  intro listed β a w hsz hc hm st ex hnx hho;have hall:=PU (S:=λj=>listed.getD j false) ops.length (by omega);refine⟨?_,DA listed β a w hall st ex⟩;apply List.eq_nil_iff_forall_not_mem.2;intro i hi;obtain⟨o,r⟩:=rdy listed i hsz hc hi;have:=hall i (List.getElem?_eq_some_iff.1 r.at_).1;have hn:=r.new;rw[this]at hn;simp at hn
 |succ fuel ih=>
  intro listed β a w hsz hc hm st ex hnx hho;refine⟨λhr=>DA listed β a w (noRdy listed hsz hr) st ex,λi hi=>?_⟩;obtain⟨o,r⟩:=rdy listed i hsz hc hi;have hil:i<ops.length:=(List.getElem?_eq_some_iff.1 r.at_).1;have hs':(listed.setIfInBounds i true).getD i false=true:=by
   rw[Da,Yt (by omega)];try rfl
  have ho: ∀ j,j≠i->(listed.setIfInBounds i true).getD j false=listed.getD j false:=by
   intro j hj;rw[Da,MQ (Ne.symm hj), ← Da]
  have hc':IH ops (λj=>(listed.setIfInBounds i true).getD j false):=by
   intro j q hq hj e he hb;by_cases heq:e.on=i
   ·simp only[heq];exact hs'
   ·simp only;rw[ho _ heq];by_cases hji:j=i
    ·subst hji;have:=r.at_;rw[hq]at this;simp at this;subst this;exact r.before e he hb
    ·simp only at hj;rw[ho j hji]at hj;exact hc j q hq hj e he hb
  have hm':FV (λj=>(listed.setIfInBounds i true).getD j false) ops.length<=fuel:=by
   have:=PT (S:=λj=>listed.getD j false) (S':=λj=>(listed.setIfInBounds i true).getD j false) r.new hs' (λj hj=>(ho j hj).symm) ops.length hil;omega
  obtain⟨hdst,b,hb,hb1,hb2⟩:=tr.step i o r.at_;have hlook: ∀ t,t∈F4 ops o->CF ops sk (λj=>listed.getD j false) t=sk i t:=λt ht=>r.pq hd tr ht;have hwant:=PO st (o:=o) (ops:=ops) (by rw[RD hlook];exact hb);have hnext:=λ{x:PV}(hx:sk (i+1)=Ak (sk i) o.dst x)=>r.pr (S':=λj=>(listed.setIfInBounds i true).getD j false) hd tr hs' ho hx;have ho2: ∀ j,j≠i->(λj=>(listed.setIfInBounds i true).getD j false) j=(λj=>listed.getD j false) j:=ho;have hho': ∀ f,f<ops.length->(listed.setIfInBounds i true).getD f false=false->f≠i/\(β (base+f)).b=none:=by
   intro f hf hfs;by_cases hfi:f=i
   ·rw [hfi,hs']at hfs;simp at hfs
   ·exact ⟨hfi,hho f hf (by rw[← ho f hfi];exact hfs)⟩
  unfold wpOp;simp only[List.getElem?_toArray,r.at_];rw[hwant];cases b with
  |false=>
   obtain⟨e1,e2,e3,e4⟩:=hb1 rfl;simp only[BQ,AP];have st':=st.undef (d:=o.dst) hdst;rw[hnext e1]at st';have eh:=UN (lt:=lt) (br:=br) (ops:=ops) (hk:=hk) e4 e3 ho2;exact ih _ β _ w (by simpa using hsz) hc' hm' (by rw[eh];exact st') (by rw[eh];exact ex) (by rw[eh];exact hnx) (λf hf hfs=>(hho' f hf hfs).2)
  |true=>
   obtain⟨e1,e2,e3⟩:=hb2 rfl;simp only[AO];left;have hops: ∀ t,.tmp t∈o.op.operands->sk i t=CF ops sk (λj=>listed.getD j false) t:=λt ht=>(hlook t (by
    simp only[F4,List.mem_append,List.mem_filterMap];exact .inl (.inl ⟨.tmp t,I9.2 ht,rfl⟩))).symm
   have fromTo: ∀ (β'':BK)(a':Act)(w':World),St n β'' (CF ops sk λj=>(listed.setIfInBounds i true).getD j false) (Hs lt br ops hk λj=>(listed.setIfInBounds i true).getD j false) a' w'->BR β (Hs lt br ops hk λj=>listed.getD j false) w β'' (Hs lt br ops hk λj=>(listed.setIfInBounds i true).getD j false) w'->wpAny P .any ops.toArray Q fuel (listed.setIfInBounds i true) a' w':=by
    intro β'' a' w' st'' ex'';refine ih _ β'' a' w' (by simpa using hsz) hc' hm' st'' (ex.trans ex'') (ER hnx ex''.next) (λf hf hfs=>?_);rw[ex''.beta _ (by omega)];exact(hho' f hf hfs).2
   cases hiw:BL ow wf o with
   |false=>
    obtain⟨g1,g2,g3,g4⟩:=e2 hiw;obtain⟨q1,q2⟩:=r.quiet hd tr g2;obtain⟨ll,hll,hdo⟩:=g4 _ q1;have q2:=q2 ll hll;have eh:=UN (lt:=lt) (br:=br) (ops:=ops) (hk:=hk) g3 g2 ho2;obtain⟨βX,stX,back⟩:=St.TV st.Bb.lt ll st;rw[q2]at stX back;refine Ap.wp stX hdst (Lg hops hdo) (λa' w' ht=>?_);obtain⟨s',h',β',⟨rfl,rfl⟩,st',ex'⟩:=ht;obtain⟨β'',st'',ex''⟩:=back β' _ _ a' w' st' ex' (λj hj _=>by simp only[gx,BE];rw[AK (by simpa using hj)]);rw[← q2,aM]at st'' ex'';rw[hnext e1]at st'';exact fromTo β'' a' w' (by rw[eh];exact st'') (by rw[eh];exact ex'')
   |true=>
    rcases e3 hiw with⟨g1,g2,hdo,g4⟩|⟨g1,hA,ob,g2,g3,g4⟩|⟨g1,t,x,y,id,rr,ff,ob,hop,hx,g2,g3,g4,g5⟩
    ·obtain ⟨H',hdo,hH,hk1⟩:=hdo;obtain⟨q1,q3⟩:=r.py (S':=λj=>(listed.setIfInBounds i true).getD j false) hd tr h0 g1 hH hk1 hs' ho2;obtain⟨βX,stX,back⟩:=St.TV st.Bb.lt (kx ow ops lt i) st;rw[q1]at stX back;refine Ap.wp stX hdst (Lg hops hdo) (λa' w' ht=>?_);obtain⟨s',h',β',⟨rfl,rfl⟩,st',ex'⟩:=ht;obtain⟨β'',st'',ex''⟩:=back β' _ _ a' w' st' ex' (λj hj _=>hH j hj);rw[q3]at st'' ex'';rw[hnext e1]at st'';exact fromTo β'' a' w' st'' ex''
    ·obtain ⟨eh,hno⟩:=r.px (S':=λj=>(listed.setIfInBounds i true).getD j false) hd tr h0 hA g2 hs' ho2;have g3':F5 P ow (base+i) o (A9 (CF ops sk λj=>listed.getD j false))=some (vk i,ob):=by
      rw[← g3];unfold F5;rw[UD hops]
     refine St.po hA g3' (show base+i<_ by omega) hno (hho i hil r.new) st hdst λβ' a' w' st' hbeta hos htape hout hsize hX hmem hfz=>?_;rw[hnext e1, ← eh]at st';have hrn:(Hs lt br ops hk λj=>(listed.setIfInBounds i true).getD j false).next=(Hs lt br ops hk λj=>listed.getD j false).next:=by rw[eh];try rfl
     refine ih _ β' a' w' (by simpa using hsz) hc' hm' st' ?_ (by rw[hrn];exact hnx) (λf hf hfs=>?_)
     ·refine ⟨hos.trans ex.os,htape.trans ex.tape,hout.trans ex.output,ER ex.size hsize,by rw[hrn];exact ex.next,λid hid=>?_,hX.trans ex.X,λc hc hl=>?_,λc hc=>?_⟩
      ·have:=ex.next
       rw[hbeta id (by omega) (by omega)];exact ex.beta id hid
      ·rw [hmem c (by rw[ex.X];exact hc) (I8 hl ex.size)];exact ex.xh c hc hl
      ·obtain ⟨k1,k2⟩:=ex.fz c hc;obtain⟨k3,k4⟩:=hfz c k1;rw[← eh]at k3;exact⟨k3,k4.trans k2⟩
     ·obtain ⟨k1,k2⟩:=hho' f hf hfs;rw[hbeta _ (by omega) (by omega)];exact k2
    ·have hnA:Ce ow o=false:=(by unfold Ce;rw[hop]);obtain⟨hM,hnd,hobj⟩:=r.stored tr hnA g2;have eh:=r.Z8 (S':=λj=>(listed.setIfInBounds i true).getD j false) tr g2 hM hnd hs' ho2;have hdo:Ap P ow o (A9 (sk i)) (Hs lt br ops hk λj=>listed.getD j false) (vk i) ((Hs lt br ops hk λj=>listed.getD j false).set id ob):=by
      unfold Ap;rw[hop,g3]at g5;rw[hop];exact aP hx g5 hobj
     refine Ap.wp st hdst (Lg hops hdo) (λa' w' ht=>?_);obtain⟨s',h',β',⟨rfl,rfl⟩,st',ex'⟩:=ht;rw[← eh]at st' ex';rw[hnext e1]at st';exact fromTo β' a' w' st' ex'
theorem aW{id:Nat}(hm:P.follows .mixedOrders=true){β:BK}{s:AE}{h:A0}{a:Act}{w:World}{K:AE->A0->Prop}{Q:Exit->Act->World->Prop}(st:St n β s h a w)(hw:PC P ow wf n ops K s h)
  (hk': ∀ a' w',To n β h w K a' w'->Q .normal a' w'):(Code.region id ops.toArray true).wp P Q a w:=by
 obtain⟨h1,sk,hk,vk,lt,br,e1,e2,hK,tr⟩:=hw;have hd:=Hl.of h1;refine wp_region_any hm ?_;obtain⟨s1,s2⟩:=st.Bb.drew;have std:St n β s h a w.drew:=⟨s1,λt=>s2.rep (st.rep t),st.size,st.defers⟩;obtain⟨β0,st0,ex0,hnone0⟩:=std.LV ops.length;have hS: ∀ j,(Array.replicate ops.toArray.size false).getD j false=false:=by
  intro j;rw[Da,Qh];split<;>rfl
 have emp: ∀ (p:Nat->Bool),(λj=>((Array.replicate ops.toArray.size false).getD j false&&p j))=λ_=>false:=by
  intro p;funext j;rw[hS];try rfl
 have l0:EB (λ_=>false) ops.length=0:=Jw (Bj _) (.inl rfl) (λ_ _ _=>rfl);have hval:CF ops sk (λj=>(Array.replicate ops.toArray.size false).getD j false)=s:=by
  funext t;unfold CF;rw[emp,l0,e1]
 have hheap:Hs lt br ops hk (λj=>(Array.replicate ops.toArray.size false).getD j false)=h.LV ops.length:=by
  have hM0:MB br ops (λj=>(Array.replicate ops.toArray.size false).getD j false)=0:=by unfold MB;rw[emp,l0]
  have hdl:dl lt br ops (λj=>(Array.replicate ops.toArray.size false).getD j false)=[]:=by
   apply List.eq_nil_iff_forall_not_mem.2;intro id hid;obtain⟨f,q,k1,k2,_⟩:=IJ.1 hid;rw[hM0]at k2;omega
  unfold Hs;rw[hdl,UP];unfold Xs;have h2:=Nk (lt:=lt) (p:=λf=>decide (MB br ops (λj=>(Array.replicate ops.toArray.size false).getD j false)<=f)&&(λj=>(Array.replicate ops.toArray.size false).getD j false) f) (H:=hk (MB br ops (λj=>(Array.replicate ops.toArray.size false).getD j false))) (m:=0) ops.length (λf _ _ _=>by simp only[hS,BA]);rw[C7]at h2;rw[h2,hM0];simp only[Ct];rw[e2];try rfl
 refine aV hd tr (λf=>?_) hK (hb:=h) (β0:=β) (w0:=w) (AG _) hk' _ _ β0 a w.drew (by simp) (λj o _ hj=>by simp only[hS]at hj;simp at hj) ?_ ?_ ?_ ?_ ?_
 ·rw [e2];cases ho:h.obj (h.next+f)with
  |none=>rfl
  |some o=>have:=st.Bb.lt (h.next+f) (by rw[ho];try rfl);omega
 ·have: ∀ m,FV (λj=>(Array.replicate ops.toArray.size false).getD j false) m<=m:=by
   intro m
   induction m with
   |zero=>exact AG _
   |succ m ih=>unfold FV;split<;>omega
  simpa using this ops.length
 ·rw [hval,hheap];exact st0
 ·rw [hheap];exact s2.trans ex0
 ·rw [hheap];exact AG _
 ·intro f hf _;exact hnone0 _ (by omega)
end
end Go.AM
namespace Go.AM
section
variable {P:Program}{ow:Nat->Bool}{wf:FuncId->Bool}{n:Nat}
def Pb(n:Nat)(β:BK)(h:A0)(w:World)(K:BU)(e:Exit)(a':Act)(w':World):Prop:=
 ∃ s' h' β',K e s' h'/\St n β' s' h' a' w'/\BR β h w β' h' w'
def Np(P:Program)(c:Code)(Q:Exit->Act->World->Prop):Nat->Act->World->Prop
 |0,_,_=>False
 |k+1,a,w=>c.wp P (Exit.then (Np P c Q k) Q) a w
theorem aX{c:Code}{Q:Exit->Act->World->Prop}{k:Nat}{a:Act}{w:World}(hl:Np P c Q k a w):(Code.loop c).wp P Q a w:=by
 have key: ∀ (m:Nat)(a:Act)(w:World),Np P c Q m a w-> ∀ (b:Frame)(k:List Item)(cs:List Frame),
   ∃ e a' w',Q e a' w'/\Arrives P (lone (b.at a (.code c:: .inLoop c::k)) cs w) b k cs e a' w':=by
  intro m
  induction m with
  |zero=>intro a w h;exact h.elim
  |succ m ih=>
   intro a w h b k cs;obtain⟨e,a₁,w₁,hq,harr⟩:=h b (.inLoop c::k) cs;cases e with
   |normal=>
    obtain⟨e₂,a₂,w₂,hq₂,harr₂⟩:=ih a₁ w₁ hq b k cs;exact⟨e₂,a₂,w₂,hq₂,.of_steps (Steps.trans harr (.one step_inLoop)) harr₂⟩
   |exit id=>exact⟨_,a₁,w₁,hq,.pass (x:= .inLoop c) rfl (λ_ _=> .inl (by simp)) harr⟩
   |goto l=>exact⟨_,a₁,w₁,hq,.pass (x:= .inLoop c) rfl (λ_ _=> .inl (by simp)) harr⟩
   |ret=>exact⟨_,a₁,w₁,hq,.pass (x:= .inLoop c) rfl (λ_ _=> .inl (by simp)) harr⟩
   |panic ch=>exact⟨_,a₁,w₁,hq,.pass (x:= .inLoop c) rfl (λ_ _=> .inl (by simp)) harr⟩
   |outgrown=>exact⟨_,a₁,w₁,hq,.pass (x:= .inLoop c) rfl (λ_ _=> .inl (by simp)) harr⟩
 intro b k cs;obtain⟨e,a',w',hq,harr⟩:=key _ a w hl b k cs;exact⟨e,a',w',hq,.of_steps (.one step_loop) harr⟩
theorem Ll(hm:P.follows .mixedOrders=true): ∀ (c:Code)(Q':BU)(β:BK)(s:AE)(h:A0)(a:Act)(w:World)(Q:Exit->Act->World->Prop),
  Ar P ow wf n c Q' s h->St n β s h a w->(∀ e a' w',Pb n β h w Q' e a' w'->Q e a' w')->c.wp P Q a w
 | .skip,Q',β,s,h,a,w,Q,hw,st,hk=>wp_skip (hk _ _ _ ⟨s,h,β,hw,st,BR.refl⟩)
 | .region id ops true,Q',β,s,h,a,w,Q,hw,st,hk=>by
  simp only[Ar,AO]at hw;obtain⟨s1,h1,wk,hw⟩:=hw;obtain⟨k1,k2,k3⟩:=wk β w st.Bb;have hk:=λe a' w' (ht:Pb n β h1 w Q' e a' w')=>hk e a' w' (by obtain⟨s2,h2,β2,q2,st2,ex2⟩:=ht;exact⟨s2,h2,β2,q2,st2,k2.trans ex2⟩);have st:St n β s1 h1 a w:=⟨k1,λt=>k3 t _ (st.rep t),st.size,st.defers⟩;rcases hw with hw|hw|hw
  ·have:=aG (id:=id) hm st hw (Q:=Q) (λa' w' ht=>hk _ _ _ ht);simpa using this
  ·have:=aK (id:=id) hm st hw (Q:=Q) (λa' w' ht=>hk _ _ _ ht);simpa using this
  ·have:=aW (id:=id) hm st hw (Q:=Q) (λa' w' ht=>hk _ _ _ ht);simpa using this
 | .region id ops false,Q',β,s,h,a,w,Q,hw,st,hk=>by
  simp only[Ar,BQ,AP]at hw;obtain⟨s1,h1,wk,hw⟩:=hw;obtain⟨k1,k2,k3⟩:=wk β w st.Bb;have hk:=λe a' w' (ht:Pb n β h1 w Q' e a' w')=>hk e a' w' (by obtain⟨s2,h2,β2,q2,st2,ex2⟩:=ht;exact⟨s2,h2,β2,q2,st2,k2.trans ex2⟩);have st:St n β s1 h1 a w:=⟨k1,λt=>k3 t _ (st.rep t),st.size,st.defers⟩;refine wp_region_list ?_;have:=RB (Q:=Q) ops.toList st hw (λa' w' ht=>hk _ _ _ ht);simpa using this
 | .seq x y,Q',β,s,h,a,w,Q,hw,st,hk=>by
  simp only[Ar]at hw;refine wp_seq (Ll hm x _ β s h a w _ hw st (λe a' w' ht=>?_));obtain⟨s',h',β',hq,st',ex⟩:=ht;cases e<;>simp only[BU.seq]at hq<;>simp only[Exit.then]
  ·exact Ll hm y _ β' s' h' a' w' Q hq st' (λe a'' w'' ⟨s2,h2,β2,q2,st2,ex2⟩=>hk _ _ _ ⟨s2,h2,β2,q2,st2,ex.trans ex2⟩)
  all_goals exact hk _ _ _ ⟨s',h',β',hq,st',ex⟩
 | .cond c x y,Q',β,s,h,a,w,Q,hw,st,hk=>by
  simp only[Ar]at hw;split at hw
  ·rename_i b hb;have he:=Kj st.rep c;rw[hb]at he;simp only[AS,AA]at he;cases b with
   |true=>exact wp_cond_true he (Ll hm x _ β s h a w Q (by simpa using hw) st hk)
   |false=>exact wp_cond_false he (Ll hm y _ β s h a w Q (by simpa using hw) st hk)
  ·exact hw.elim
 | .block id c,Q',β,s,h,a,w,Q,hw,st,hk=>by
  simp only[Ar]at hw;refine wp_block (Ll hm c _ β s h a w _ hw st (λe a' w' ht=>?_));obtain⟨s',h',β',hq,st',ex⟩:=ht;cases e<;>simp only[BU.block]at hq<;>simp only[Exit.inBlock]
  case exit id'=>
   by_cases hid:id'=id
   ·rw [AK hid]at hq⊢;exact hk _ _ _ ⟨s',h',β',hq,st',ex⟩
   ·rw [A7 hid]at hq⊢;exact hk _ _ _ ⟨s',h',β',hq,st',ex⟩
  all_goals exact hk _ _ _ ⟨s',h',β',hq,st',ex⟩
 | .loop c,Q',β,s,h,a,w,Q,hw,st,hk=>by
  simp only[Ar]at hw;obtain⟨k,hw⟩:=hw;refine aX (k:=k) ?_;have key: ∀ (k:Nat)(β:BK)(s:AE)(h:A0)(a:Act)(w:World),Jt (Ar P ow wf n c) Q' k s h->St n β s h a w->(∀ e a' w',Pb n β h w Q' e a' w'->Q e a' w')->Np P c Q k a w:=by
   intro k
   induction k with
   |zero=>intro β s h a w hl;exact hl.elim
   |succ k ih=>
    intro β s h a w hl st hk;simp only[Jt]at hl;simp only[Np];refine Ll hm c _ β s h a w _ hl st (λe a' w' ht=>?_);obtain⟨s',h',β',hq,st',ex⟩:=ht;cases e<;>simp only[BU.seq]at hq<;>simp only[Exit.then]
    ·exact ih β' s' h' a' w' hq st' (λe a'' w'' ⟨s2,h2,β2,q2,st2,ex2⟩=>hk _ _ _ ⟨s2,h2,β2,q2,st2,ex.trans ex2⟩)
    all_goals exact hk _ _ _ ⟨s',h',β',hq,st',ex⟩
  exact key k β s h a w hw st hk
 | .exit id,Q',β,s,h,a,w,Q,hw,st,hk=>wp_exit (hk _ _ _ ⟨s,h,β,hw,st,BR.refl⟩)
 | .ret,Q',β,s,h,a,w,Q,hw,st,hk=>wp_ret (hk _ _ _ ⟨s,h,β,hw,st,BR.refl⟩)
 | .rangeFunc _ _ _ _,_,_,_,_,_,_,_,hw,_,_=>hw.elim
 | .scope _,_,_,_,_,_,_,_,hw,_,_=>hw.elim
 | .label _,_,_,_,_,_,_,_,hw,_,_=>hw.elim
 | .goto _,_,_,_,_,_,_,_,hw,_,_=>hw.elim
 | .refuse _,_,_,_,_,_,_,_,hw,_,_=>hw.elim
theorem aY{β:BK}{s:AE}{h:A0}{a:Act}{w:World}(st:St n β s h a w){r:ResultVar}{p:PV}(hr:Lf P s h r=some p):
  ∃ v,(match r with| .tmp t=>pure (a.tmps.getD t undef)| .cell x t=>do loadVar t (← asAddr (a.tmps.getD x undef)):Sem Value).run P w= .ok v w/\AS β h w p v:=by
 cases r with
 |tmp t=>
  simp only[Lf,BC]at hr;subst hr;exact⟨_,rfl,st.rep t⟩
 |cell x t=>
  simp only[Lf]at hr;cases hz:CQ P t with
  |none=>simp[hz]at hr
  |some m=>
   cases hc:rd h (s x)with
   |none=>simp[hz,hc]at hr
   |some cs=>
    simp only[hz,hc,DJ]at hr;obtain⟨b,o,g1,g2⟩:=Tf st.Bb hc (st.rep x);obtain⟨xv,g3,g4⟩:=Tg (P:=P) hz hr g2;refine⟨xv,?_,g4⟩;simp only[g1,asAddr,pure_bind];exact g3
theorem UQ{β:BK}{s:AE}{h:A0}{a:Act}{w:World}(st:St n β s h a w): ∀ (rs:List ResultVar)(ps:List PV),HH P s h rs=some ps->
  ∃ vs:List Value,(rs.mapM (λ| .tmp t=>pure (a.tmps.getD t undef)| .cell x t=>do loadVar t (← asAddr (a.tmps.getD x undef)):ResultVar->Sem Value)).run P w= .ok vs w/\AT β h.next (Fz β h w) w ps vs
 |[],ps,hr=>by simp[HH]at hr;subst hr;exact⟨[],by simp,by simp[AT]⟩
 |r::rs,ps,hr=>by
  simp only[HH]at hr;cases h1:Lf P s h r with
  |none=>simp[h1]at hr
  |some p=>
   cases h2:HH P s h rs with
   |none=>simp[h1,h2]at hr
   |some ps'=>
    simp[h1,h2]at hr;subst hr;obtain⟨v,g1,g2⟩:=aY st h1;obtain⟨vs,g3,g4⟩:=UQ st rs ps' h2;refine⟨v::vs,?_,by simp only[AT];exact⟨g2,g4⟩⟩;simp only[List.mapM_cons,Sem.run_bind,g1,Result.andThen_ok,g3,Sem.run_pure]
theorem Pc(hm:P.follows .mixedOrders=true){f:FuncId}{fn:Func}{c:Code}{args:List PV}{h:A0}{K:PV->A0->Prop}(hf:P.funcs[f]? =some fn)(hb:fn.body=some c)(hh:Ab P f=true)(hn:args.length<=fn.ntmps)
  (hw:Ar P ow wf fn.ntmps c (Ip P fn.results.toList K) (Mf args) h):A6 P f args h K:=by
 refine λβ w vals sm hr=> .inl ⟨hh,?_⟩;have hl:=hr.len;refine calls_of_wp hf hb ?_;have st:St fn.ntmps β (Mf args) h {tmps:=vals.toArray++Array.replicate (fn.ntmps-vals.toArray.size) undef,defers:=[]} w:=by
  refine⟨sm,λt=>?_,?_,rfl⟩
  ·simp only[Mf];by_cases ht:t<args.length
   ·have h1:args[t]? =some args[t]:=List.getElem?_eq_getElem ht;obtain⟨v,hv,hvr⟩:=hr.get h1;rw[List.getD_eq_getElem?_getD,h1];have:(vals.toArray++Array.replicate (fn.ntmps-vals.toArray.size) undef)[t]? =some v:=by
     rw[pP (by simp;omega)];simpa using hv
    rw[Da,this];exact hvr
   ·rw [List.getD_eq_getElem?_getD,List.getElem?_eq_none (by omega)];have:(vals.toArray++Array.replicate (fn.ntmps-vals.toArray.size) undef).getD t undef=undef:=by
     rw[Da,Array.getElem?_append_right (by simp;omega),Qh];split<;>rfl
    rw[this];simp only[AS,Bv,AA]
  ·simp;omega
 refine Ll hm c _ β _ h _ w _ hw st (λe a' w' ht=>?_);obtain⟨s',h',β',hq,st',ex⟩:=ht;have DA:(match HH P s' h' fn.results.toList with|some vs=>K (Gx vs) h'|none=>False)->a'.defers=[]/\ ∃ v,(results fn a'.tmps).run P w'= .ok v w'/\(∃ r h'' β'' u,Ending.returned v= .returned u/\K r h''/\B2 β'' h'' w'/\AS β'' h'' w' r u/\BR β h w β'' h'' w'):=by
  intro hq;split at hq
  ·rename_i ps hps;obtain⟨vs,g1,g2⟩:=UQ st' _ ps hps;refine⟨st'.defers,(if hx:vs.toArray.size=1 then vs.toArray[0]else .tuple vs.toArray),?_,Gx ps,h',β',_,rfl,hq,st'.Bb,?_,ex⟩
   ·simp only[results,Array.mapM_eq_mapM_toList,Sem.run_bind,Sem.run_map];exact LQ (λr:Result (List Value)=>(r.andThen λa w'=>Result.ok a.toArray w').andThen λa w'=>(Pure.pure (if h:a.size=1 then a[0]else Value.tuple a):Sem Value).run P w') g1
   ·have hl2:=g2.len
    match ps,vs,hl2,g2 with
    |[p],[v],_,g2=>simp only[AT]at g2;simpa[Gx]using g2.1
    |[],[],_,g2=>simp only[Gx,AS,AA];exact⟨[],by simp,g2⟩
    |p::q::ps,v::u::vs,_,g2=>simp only[Gx,AS,AA];exact⟨v::u::vs,by simp,g2⟩
    |[],v::vs,hl2,_=>simp at hl2
    |p::ps,[],hl2,_=>simp at hl2
    |[p],v::u::vs,hl2,_=>simp at hl2
    |p::q::ps,[v],hl2,_=>simp at hl2
  ·exact hq.elim
 cases e<;>simp only[Ip]at hq
 ·exact DA hq
 ·exact DA hq
theorem Le.body{f:FuncId}{vals:Array Value}{w:World}{Q:Ending->World->Prop}(hb:Ab P f=true)(h:Le P f vals w Q):Calls P f vals w Q:=by
 rcases h with⟨_,h⟩|⟨v,w',h,_⟩
 ·exact h
 ·unfold Ab at hb;cases hfn:P.funcs[f]? with
  |none=>simp[hfn]at hb
  |some fn=>
   simp[hfn]at hb;have hbody:fn.body.isNone=false:=(by cases hbb:fn.body<;>simp[hbb]at hb⊢);have hne:fn.body≠none:=(by intro e;rw[e]at hb;simp at hb);simp[callFunc,hfn,hb.1,hne]at h
theorem aZ{f:FuncId}{pargs:List PV}{w:World}{vals:List Value}(hb:Ab P f=true)(hc:A6 P f pargs A0.nil (λr _=>r= .sc (.bool true)))(hr:AT ⟨λ_=>⟨none,0,0,0⟩,λ_=>False⟩ 0 (λb=>b<w.heap.size) w pargs vals):
  Calls P f vals.toArray w λe w'=>e= .returned (.bool true)/\RowKit.Below w.heap.size w w':=by
 have sm:B2 ⟨λ_=>⟨none,0,0,0⟩,λ_=>False⟩ A0.nil w:=⟨λid h=>by simp[A0.nil]at h,λid o h=>by simp[A0.nil]at h,λi j h=>by simp[A0.nil]at h,λb h=>h.elim,λid h=>by simp[A0.nil]at h⟩;have fz0: ∀ b,b<w.heap.size->Fz ⟨λ_=>⟨none,0,0,0⟩,λ_=>False⟩ A0.nil w b:=λb hb=>⟨hb,λid h=>by simp[A0.nil]at h,λh=>h⟩;have hr':AT ⟨λ_=>⟨none,0,0,0⟩,λ_=>False⟩ A0.nil.next (Fz ⟨λ_=>⟨none,0,0,0⟩,λ_=>False⟩ A0.nil w) w pargs vals:=
  AT.mv ⟨AG _,λ_ _ _=>rfl,λb hb=>⟨fz0 b hb,rfl⟩⟩ _ _ hr
 refine(Le.body hb (hc _ w vals sm hr')).mono ?_;rintro e w' ⟨r,h',β',v,rfl,rfl,sm',hrep,ex⟩;simp only[AS,AA]at hrep;subst hrep;exact⟨rfl,⟨ex.os,ex.tape,ex.output,ex.size,λk hk=>(ex.fz k (fz0 k hk)).2⟩⟩
theorem A6.mono{f:FuncId}{args:List PV}{h:A0}{K K':PV->A0->Prop}(hc:A6 P f args h K)(hk: ∀ r h',K r h'->K' r h'):A6 P f args h K':=
 λβ w vals sm hr=>(hc β w vals sm hr).mono λ_ _ ⟨r,h',β',v,h1,h2,h3⟩=>⟨r,h',β',v,h1,hk _ _ h2,h3⟩
end
end Go.AM
namespace Go.AM
section
variable {P:Program}{ow:Nat->Bool}{wf:FuncId->Bool}{n:Nat}
theorem UR(h:A0)(o:Am)(i:Nat):(h.new o).obj i=if i=h.next then some o else h.obj i:=rfl
theorem RN(h:A0)(id i:Nat):(h.kill id).obj i=if i=id then none else h.obj i:=rfl
theorem ae(h:A0)(id:Nat)(o:Am)(i:Nat):(h.set id o).obj i=if i=id then some o else h.obj i:=rfl
theorem ah(h:A0)(o:Am):(h.new o).next=h.next+1:=rfl
theorem US(h:A0)(id:Nat):(h.kill id).next=h.next:=rfl
theorem aj(h:A0)(id:Nat)(o:Am):(h.set id o).next=h.next:=rfl
theorem ao(s:AE)(d:Nat)(v:PV)(t:Nat):Ci s d v t=if t=d then v else s t:=rfl
theorem au(s:AE)(d:Nat)(v:PV):Ak s (some d) v=Ci s d v:=rfl
theorem aw(s:AE)(v:PV):Ak s none v=s:=rfl
theorem az(l:List PV)(t:Nat):Mf l t=l.getD t (.sc undef):=rfl
theorem bA(k:IntKind)(i:Int):Gi (.int k i)= .sc (.int k i):=rfl
theorem bB(b:Bool):Gi (.bool b)= .sc (.bool b):=rfl
theorem bC(b:ByteArray):Gi (.string b)= .sc (.string b):=rfl
theorem bD:Gi .nilIface= .sc .nilIface:=rfl
theorem bE(a:Option Addr):Gi (.pointer a)= .sc (.pointer a):=rfl
theorem bF(a:Option Addr)(l c:Nat):Gi (.slice a l c)= .sc (.slice a l c):=rfl
theorem bG(a:Option Nat):Gi (.map a)= .sc (.map a):=rfl
theorem bH(l:List Value):Gi (.agg l.toArray)=if l.all Value.oneCell'=true then .agg (l.map .sc)else .sc (.agg l.toArray):=rfl
theorem RO{o:Oper}{K K':AE->A0->Prop}(hk: ∀ s h,K s h->K' s h){s:AE}{h:A0}(ho:CY P ow o K s h):CY P ow o K' s h:=by
 unfold CY at ho⊢;split at ho
 ·exact ho.mono λ_ _=>hk _ _
 ·split at ho
  ·exact hk _ _ ho
  ·exact ho
theorem RP{ops:List Oper}{K K':AE->A0->Prop}(hk: ∀ s h,K s h->K' s h): ∀ (l:List Oper){s:AE}{h:A0},Et P ow n ops l K s h->Et P ow n ops l K' s h
 |[],s,h,hl=>hk s h hl
 |o::rest,s,h,hl=>by
  simp only[Et]at hl⊢;refine⟨hl.1,?_⟩;have h2:=hl.2;split at h2
  ·exact h2.elim
  ·split at h2
   ·rename_i hb;simp only[hb,AO];exact RO (λs h=>RP hk rest) h2
   ·rename_i hb;simp only[hb,AP,BQ];exact RP hk rest h2
theorem Pd{ops:List Oper}{K K':AE->A0->Prop}(hk: ∀ s h,K s h->K' s h): ∀ (l:List Oper)(k:Nat)(past:List (Nat × (A0->Prop)))(hist:List (Nat × A0)){s:AE}{h:A0},EU P ow wf n ops k l past hist K s h->EU P ow wf n ops k l past hist K' s h
 |[],_,_,_,s,h,hl=>hk s h hl
 |o::rest,k,past,hist,s,h,hl=>by
  simp only[EU]at hl⊢;refine⟨hl.1,?_⟩;have h2:=hl.2;split at h2
  ·exact h2.elim
  ·split at h2
   ·rename_i hb;simp only[hb,AO];split at h2
    ·rename_i hw;obtain⟨v,h',g1,g2,g3⟩:=h2;rw[AK hw];exact⟨v,h',g1,g2,Pd hk rest _ _ _ g3⟩
    ·rename_i hw;obtain⟨v,g1,g2,g3⟩:=h2;rw[A7 hw];exact⟨v,g1,g2,Pd hk rest _ _ _ g3⟩
   ·rename_i hb;simp only[hb,AP,BQ];exact Pd hk rest _ _ _ h2
theorem Pe{ops:List Oper}{base:Nat}{K K':AE->A0->Prop}(hk: ∀ s h,K s h->K' s h): ∀ (l:List Oper)(k:Nat)(past:List (Nat × (A0->Prop)))(hist:List (Nat × A0)){s:AE}{h:A0},GG P ow wf n ops base k l past hist K s h->GG P ow wf n ops base k l past hist K' s h
 |[],_,_,_,s,h,hl=>hk s h hl
 |o::rest,k,past,hist,s,h,hl=>by
  simp only[GG]at hl⊢;refine⟨hl.1,?_⟩;have h2:=hl.2;split at h2
  ·exact h2.elim
  ·split at h2
   ·rename_i hb;simp only[hb,AO];split at h2
    ·rename_i hw;obtain⟨v,h',g1,g0,g2,g3⟩:=h2;rw[AK hw];exact⟨v,h',g1,g0,g2,Pe hk rest _ _ _ g3⟩
    ·rename_i hw;obtain⟨v,g1,g2,g3⟩:=h2;rw[A7 hw];exact⟨v,g1,g2,Pe hk rest _ _ _ g3⟩
   ·rename_i hb;simp only[hb,AP,BQ];exact Pe hk rest _ _ _ h2
theorem RQ{c:BU->AE->A0->Prop}(hc: ∀ {Q Q':BU},(∀ e s h,Q e s h->Q' e s h)-> ∀ {s h},c Q s h->c Q' s h){Q Q':BU}(hq: ∀ e s h,Q e s h->Q' e s h): ∀ {k k':Nat},k<=k'-> ∀ {s:AE}{h:A0},Jt c Q k s h->Jt c Q' k' s h
 |0,_,_,_,_,hl=>hl.elim
 |k+1,0,hle,_,_,_=>by omega
 |k+1,k'+1,hle,s,h,hl=>by
  simp only[Jt]at hl⊢;refine hc (λe s h hh=>?_) hl;cases e<;>simp only[BU.seq]at hh⊢
  ·exact RQ hc hq (by omega) hh
  all_goals exact hq _ _ _ hh
theorem JH: ∀ (c:Code){Q Q':BU},(∀ e s h,Q e s h->Q' e s h)-> ∀ {s:AE}{h:A0},Ar P ow wf n c Q s h->Ar P ow wf n c Q' s h
 | .skip,_,_,hq,_,_,hw=>hq _ _ _ hw
 | .region id ops d,Q,Q',hq,s,h,hw=>by
  simp only[Ar]at hw⊢;obtain⟨s,h,wk,hw⟩:=hw;refine⟨s,h,wk,?_⟩;cases d with
  |true=>
   simp only[AO]at hw⊢;exact hw.imp (λhw=>⟨hw.1,Pd (λs h=>hq _ s h) _ _ _ _ hw.2⟩) (λhw=>hw.imp (λhw=>⟨hw.1,Pe (λs h=>hq _ s h) _ _ _ _ hw.2⟩) (λ⟨d,sk,hk,vk,lt,br,e1,e2,k,f⟩=>⟨d,sk,hk,vk,lt,br,e1,e2,hq _ _ _ k,f⟩))
  |false=>simp only[BQ,AP]at hw⊢;exact RP (λs h=>hq _ s h) _ hw
 | .seq a b,Q,Q',hq,s,h,hw=>by
  simp only[Ar]at hw⊢;refine JH a (λe s h hh=>?_) hw;cases e<;>simp only[BU.seq]at hh⊢
  ·exact JH b hq hh
  all_goals exact hq _ _ _ hh
 | .cond c x y,Q,Q',hq,s,h,hw=>by
  simp only[Ar]at hw⊢;split at hw
  ·split at hw
   ·rename_i hb;rw[AK hb];exact JH x hq hw
   ·rename_i hb;rw[A7 hb];exact JH y hq hw
  ·exact hw
 | .block id c,Q,Q',hq,s,h,hw=>by
  simp only[Ar]at hw⊢;refine JH c (λe s h hh=>?_) hw;cases e<;>simp only[BU.block]at hh⊢
  case exit id'=>split at hh<;>rename_i he<;>simp only[he,AO,AP]<;>exact hq _ _ _ hh
  all_goals exact hq _ _ _ hh
 | .loop c,Q,Q',hq,s,h,hw=>by
  simp only[Ar]at hw⊢;obtain⟨k,hw⟩:=hw;exact⟨k,RQ (c:=Ar P ow wf n c) (λhqq=>JH c hqq) hq (AG _) hw⟩
 | .exit id,_,_,hq,_,_,hw=>hq _ _ _ hw
 | .ret,_,_,hq,_,_,hw=>hq _ _ _ hw
 | .rangeFunc _ _ _ _,_,_,_,_,_,hw=>hw
 | .scope _,_,_,_,_,_,hw=>hw
 | .label _,_,_,_,_,_,hw=>hw
 | .goto _,_,_,_,_,_,hw=>hw
 | .refuse _,_,_,_,_,_,hw=>hw
variable {Q:BU}{s:AE}{h:A0}
def Km:Code->Bool
 | .region _ _ _=>true
 | .seq a _=>Km a
 | .block _ c=>Km c
 | .loop c=>Km c
 |_=>false
theorem Pf{s s':AE}{h h':A0}(wk:Wk s h s' h'): ∀ (c:Code){Q:BU},Km c=true->Ar P ow wf n c Q s' h'->Ar P ow wf n c Q s h
 | .region id ops d,Q,_,hw=>by
  simp only[Ar]at hw⊢;obtain⟨s1,h1,w1,hw⟩:=hw;exact⟨s1,h1,wk.trans w1,hw⟩
 | .seq a b,Q,hc,hw=>by
  simp only[Ar]at hw⊢;exact Pf wk a hc hw
 | .block id c,Q,hc,hw=>by
  simp only[Ar]at hw⊢;exact Pf wk c hc hw
 | .loop c,Q,hc,hw=>by
  simp only[Ar]at hw⊢;obtain⟨k,hw⟩:=hw;cases k with
  |zero=>exact hw.elim
  |succ k=>exact⟨k+1,Pf wk c hc hw⟩
theorem UT{c:Code}{Q:BU}{s s':AE}{h h':A0}(hc:Km c=true)(wk:Wk s h s' h')(hw:Ar P ow wf n c Q s' h'):Ar P ow wf n c Q s h:=Pf wk c hc hw
theorem Gk(hq:Q .normal s h):Ar P ow wf n .skip Q s h:=hq
theorem bI{id:Nat}(hq:Q (.exit id) s h):Ar P ow wf n (.exit id) Q s h:=hq
theorem Eu(hq:Q .ret s h):Ar P ow wf n .ret Q s h:=hq
theorem Ai{a b:Code}(hk: ∀ K:AE->A0->Prop,(∀ s h,Ar P ow wf n b Q s h->K s h)->Ar P ow wf n a (BU.seq K Q) s h):Ar P ow wf n (.seq a b) Q s h:=by
 simp only[Ar];exact hk _ λ_ _ x=>x
theorem Ck{id:Nat}{c:Code}(hk:Ar P ow wf n c (BU.block id Q) s h):Ar P ow wf n (.block id c) Q s h:=hk
theorem Eg{c:Operand}{x y:Code}(b:Bool)(hc:A9 s c= .sc (.bool b))(h1:b=true->Ar P ow wf n x Q s h)(h2:b=false->Ar P ow wf n y Q s h):Ar P ow wf n (.cond c x y) Q s h:=by
 simp only[Ar,hc];cases b with
 |true=>simpa using h1 rfl
 |false=>simpa using h2 rfl
def EN(P:Program)(ow:Nat->Bool)(n:Nat)(ops:List Oper):List Oper->(AE->A0->Prop)->AE->A0->Prop
 |[],K,s,h=>K s h
 |o::rest,K,s,h=>(o.dst.all (λd=>decide (d<n))=true)/\match D4 ops s o with
  |none=>False
  | some b => if b = true then
    (match callee (A9 s) o.op with
    |none=>(match AZ P (o.dst.any ow) o.op (A9 s) h with
     |some (v,h1)=>EN P ow n ops rest K (Ak s o.dst v) h1
     |none=>False)
    |some _=>CY P ow o (Et P ow n ops rest K) s h)
   else EN P ow n ops rest K (Ak s o.dst (.sc undef)) h
theorem Jy{ops:List Oper}{K:AE->A0->Prop}:(rest:List Oper)->(s:AE)->(h:A0)->EN P ow n ops rest K s h->Et P ow n ops rest K s h
 |[],_,_,hh=>by simpa only[EN,Et]using hh
 |o::rest,s,h,hh=>by
  simp only[EN]at hh;simp only[Et];refine⟨hh.1,?_⟩;have h2:=hh.2
  clear hh;cases hw:D4 ops s o with
  |none=>rw[hw]at h2;exact h2
  |some b=>
   rw[hw]at h2;simp only at h2⊢;split at h2
   ·rename_i hb;rw[AK hb];cases hc:callee (A9 s) o.op with
    |none=>
     rw[hc]at h2;simp only at h2;unfold CY;rw[hc];simp only;cases he:AZ P (o.dst.any ow) o.op (A9 s) h with
     |none=>rw[he]at h2;exact h2.elim
     |some r=>
      rw[he]at h2;exact Jy rest _ _ h2
    |some f=>
     rw[hc]at h2;exact h2
   ·rename_i hb;rw[A7 hb];exact Jy rest _ _ h2
theorem FW{id:Nat}{ops:List Oper}(hk: ∀ K:AE->A0->Prop,(∀ s h,Q .normal s h->K s h)->EN P ow n ops ops K s h):Ar P ow wf n (.region id ops.toArray false) Q s h:=by
 simp only[Ar,BQ,AP];exact⟨_,_,.refl,Jy _ _ _ (hk _ λ_ _ x=>x)⟩
theorem Bp{id:Nat}{ops:List Oper}{K:AE->A0->Prop}(hk:EN P ow n ops ops K s h):Ar P ow wf n (.region id ops.toArray false) (BU.seq K Q) s h:=by
 simp only[Ar,BQ,AP];exact⟨_,_,.refl,Jy _ _ _ hk⟩
abbrev Gl:=List (Nat × Oper × AE × PV)
def Dj(P:Program)(ow:Nat->Bool)(l:Gl):List (Nat × (A0->Prop)):=l.map λx=>(x.1,λh'=>Ap P ow x.2.1 (A9 x.2.2.1) h' x.2.2.2 h')
def FH(P:Program)(ow:Nat->Bool)(wf:FuncId->Bool)(n:Nat)(ops:List Oper):Nat->List Oper->Gl->List (Nat × A0)->(AE->A0->Prop)->AE->A0->Prop
 |_,[],_,_,K,s,h=>K s h
 |k,o::rest,past,hist,K,s,h=>(o.dst.all (λd=>decide (d<n))=true)/\match D4 ops s o with
  |none=>False
  | some b => if b = true then
    (match callee (A9 s) o.op with
    |none=>(match AZ P (o.dst.any ow) o.op (A9 s) h with
     |some (v,h1)=>if BL ow wf o=true then(∀ x∈past,pre ops x.1 k=true\/Ap P ow x.2.1 (A9 x.2.2.1) h1 x.2.2.2 h1)/\FH P ow wf n ops (k+1) rest past ((k,h)::hist) K (Ak s o.dst v) h1
      else h1=h/\(∀ x∈hist,pre ops x.1 k=true\/Ap P ow o (A9 s) x.2 v x.2)/\FH P ow wf n ops (k+1) rest ((k,o,s,v)::past) hist K (Ak s o.dst v) h
     |none=>False)
    |some _=>(if BL ow wf o=true then ∃ v h',Ap P ow o (A9 s) h v h'/\(∀ x∈Dj P ow past,pre ops x.1 k=true\/x.2 h')/\EU P ow wf n ops (k+1) rest (Dj P ow past) ((k,h)::hist) K (Ak s o.dst v) h'
     else ∃ v,Ap P ow o (A9 s) h v h/\(∀ x∈hist,pre ops x.1 k=true\/Ap P ow o (A9 s) x.2 v x.2)/\EU P ow wf n ops (k+1) rest (Dj P ow ((k,o,s,v)::past)) hist K (Ak s o.dst v) h))
   else FH P ow wf n ops (k+1) rest past hist K (Ak s o.dst (.sc undef)) h
theorem JI{ops:List Oper}{K:AE->A0->Prop}:(rest:List Oper)->(k:Nat)->(past:Gl)->(hist:List (Nat × A0))->(s:AE)->(h:A0)->FH P ow wf n ops k rest past hist K s h->EU P ow wf n ops k rest (Dj P ow past) hist K s h
 |[],_,_,_,_,_,hh=>by simpa only[FH,EU]using hh
 |o::rest,k,past,hist,s,h,hh=>by
  simp only[FH]at hh;simp only[EU];refine⟨hh.1,?_⟩;have h2:=hh.2
  clear hh;cases hw:D4 ops s o with
  |none=>rw[hw]at h2;exact h2
  |some b=>
   rw[hw]at h2;simp only at h2⊢;have pc: ∀ h1,(∀ x∈past,pre ops x.1 k=true\/Ap P ow x.2.1 (A9 x.2.2.1) h1 x.2.2.2 h1)-> ∀ x∈Dj P ow past,pre ops x.1 k=true\/x.2 h1:=by
    intro h1 hp x hx;obtain⟨y,hy,rfl⟩:=List.mem_map.1 hx;exact hp y hy
   split at h2
   ·rename_i hb;rw[AK hb];cases hc:callee (A9 s) o.op with
    |none=>
     rw[hc]at h2;simp only at h2;cases he:AZ P (o.dst.any ow) o.op (A9 s) h with
     |none=>rw[he]at h2;exact h2.elim
     |some r=>
      obtain⟨v,h1⟩:=r;rw[he]at h2;simp only at h2;have hd:Ap P ow o (A9 s) h v h1:=(by unfold Ap;rw[hc];exact he);split at h2
      ·rename_i hi;rw[AK hi];exact⟨v,h1,hd,pc h1 h2.1,JI rest _ _ _ _ _ h2.2⟩
      ·rename_i hi;rw[A7 hi];obtain⟨rfl,h3,h4⟩:=h2;exact⟨v,hd,h3,JI rest _ _ _ _ _ h4⟩
    |some f=>
     rw[hc]at h2;simp only at h2;split at h2
     ·rename_i hi;rw[AK hi];obtain⟨v,h1,hd,h3,h4⟩:=h2;exact⟨v,h1,hd,h3,h4⟩
     ·rename_i hi;rw[A7 hi];obtain⟨v,hd,h3,h4⟩:=h2;exact⟨v,hd,h3,h4⟩
   ·rename_i hb;rw[A7 hb];exact JI rest _ _ _ _ _ h2
theorem UU{id:Nat}{ops:List Oper}(hd:Jr ow wf ops=true)(hk: ∀ K:AE->A0->Prop,(∀ s h,Q .normal s h->K s h)->FH P ow wf n ops 0 ops [] [] K s h):Ar P ow wf n (.region id ops.toArray true) Q s h:=by
 simp only[Ar,AO];exact⟨_,_,.refl,.inl ⟨hd,JI _ _ _ _ _ _ (hk _ λ_ _ x=>x)⟩⟩
theorem Nq{id:Nat}{ops:List Oper}{K:AE->A0->Prop}(hd:Jr ow wf ops=true)(hk:FH P ow wf n ops 0 ops [] [] K s h):Ar P ow wf n (.region id ops.toArray true) (BU.seq K Q) s h:=by
 simp only[Ar,AO];exact⟨_,_,.refl,.inl ⟨hd,JI _ _ _ _ _ _ hk⟩⟩
theorem Ko{c:Prop} [Decidable c] {A B:Prop}(h1:c->A)(h2:¬ c->B):if c then A else B:=by
 by_cases h:c
 ·rw [AK h];exact h1 h
 ·rw [A7 h];exact h2 h
theorem By{c:Code}(I:Nat->AE->A0->Prop)(m:Nat)(h0:I m s h)(step: ∀ m s h,I m s h->Ar P ow wf n c (BU.seq (λs' h'=> ∃ m',m'<m/\I m' s' h') Q) s h):Ar P ow wf n (.loop c) Q s h:=by
 have key: ∀ m s h,I m s h->Jt (Ar P ow wf n c) Q (m+1) s h:=by
  intro m
  induction m using Nat.strongRecOn with
  |_ m ih=>
   intro s h hi;simp only[Jt];refine JH c (λe s h hh=>?_) (step m s h hi);cases e<;>simp only[BU.seq]at hh⊢
   ·obtain ⟨m',h1,h2⟩:=hh;exact RQ (c:=Ar P ow wf n c) (k:=m'+1) (k':=m) (λhqq=>JH c hqq) (λ_ _ _ x=>x) (by omega) (ih m' h1 _ _ h2)
   all_goals exact hh
 exact⟨m+1,key m s h h0⟩
theorem bJ{f:FuncId}{dst:Option Tmp}{args:List Operand}{ts:Array TypeId}{ty:TypeId}{pos:String}{af:Array Edge}{gd:Option (Nat × Bool)}{as:List PV}{Kc:PV->A0->Prop}{K:AE->A0->Prop}
  (hc:A6 P f as h Kc)(ha:args.map (A9 s)=as)(hk: ∀ r h',Kc r h'->K (Ak s dst r) h'):
  CY P ow {dst:=dst,op:= .call {callee:= .value (.func f),args:=args.toArray,argTypes:=ts},type:=ty,pos:=pos,after:=af,guard:=gd} K s h:=by
 unfold CY;simp only[callee,A9,KV,AO];rw[ha];exact hc.mono hk
theorem RS{f:FuncId}{dst:Option Tmp}{args:List Operand}{ts:Array TypeId}{ty:TypeId}{pos:String}{af:Array Edge}{gd:Option (Nat × Bool)}{as:List PV}{Kc:PV->A0->Prop}{K:AE->A0->Prop}{ops rest:List Oper}
  (hc:A6 P f as h Kc)(ha:args.map (A9 s)=as)(hk: ∀ r h',Kc r h'->EN P ow n ops rest K (Ak s dst r) h'):
  CY P ow {dst:=dst,op:= .call {callee:= .value (.func f),args:=args.toArray,argTypes:=ts},type:=ty,pos:=pos,after:=af,guard:=gd} (Et P ow n ops rest K) s h:=
 bJ hc ha λr h' hr=>Jy _ _ _ (hk r h' hr)
theorem Gy{f:FuncId}{dst:Option Tmp}{args:List Operand}{ts:Array TypeId}{ty:TypeId}{pos:String}{af:Array Edge}{gd:Option (Nat × Bool)}{as:List PV}{v:PV}{K:AE->A0->Prop}{ops rest:List Oper}
  (hc:A6 P f as h λr h'=>r=v/\h'=h)(ha:args.map (A9 s)=as)(hk:EN P ow n ops rest K (Ak s dst v) h):
  CY P ow {dst:=dst,op:= .call {callee:= .value (.func f),args:=args.toArray,argTypes:=ts},type:=ty,pos:=pos,after:=af,guard:=gd} (Et P ow n ops rest K) s h:=
 RS hc ha λr h' hr=>by rw[hr.1,hr.2];exact hk
theorem bK{dst:Option Tmp}{ty:TypeId}{pos:String}{af:Array Edge}{gd:Option (Nat × Bool)}{K:AE->A0->Prop}(x:Operand):CY P ow {dst:=dst,op:= .move x,type:=ty,pos:=pos,after:=af,guard:=gd} K s h=match AZ P (dst.any ow) (.move x) (A9 s) h with|some (r,h')=>K (Ak s dst r) h'|none=>False:=rfl
theorem bL{dst:Option Tmp}{ty:TypeId}{pos:String}{af:Array Edge}{gd:Option (Nat × Bool)}{v:PV}{h':A0}(x:Operand):Ap P ow {dst:=dst,op:= .move x,type:=ty,pos:=pos,after:=af,guard:=gd} (A9 s) h v h'=(AZ P (dst.any ow) (.move x) (A9 s) h=some (v,h')):=rfl
theorem bM{dst:Option Tmp}{ty:TypeId}{pos:String}{af:Array Edge}{gd:Option (Nat × Bool)}{K:AE->A0->Prop}(x:Operand):CY P ow {dst:=dst,op:= .assign x,type:=ty,pos:=pos,after:=af,guard:=gd} K s h=match AZ P (dst.any ow) (.assign x) (A9 s) h with|some (r,h')=>K (Ak s dst r) h'|none=>False:=rfl
theorem bN{dst:Option Tmp}{ty:TypeId}{pos:String}{af:Array Edge}{gd:Option (Nat × Bool)}{v:PV}{h':A0}(x:Operand):Ap P ow {dst:=dst,op:= .assign x,type:=ty,pos:=pos,after:=af,guard:=gd} (A9 s) h v h'=(AZ P (dst.any ow) (.assign x) (A9 s) h=some (v,h')):=rfl
theorem bO{dst:Option Tmp}{ty:TypeId}{pos:String}{af:Array Edge}{gd:Option (Nat × Bool)}{K:AE->A0->Prop}(c:Operand)(a:Operand)(b:Operand):CY P ow {dst:=dst,op:= .pick c a b,type:=ty,pos:=pos,after:=af,guard:=gd} K s h=match AZ P (dst.any ow) (.pick c a b) (A9 s) h with|some (r,h')=>K (Ak s dst r) h'|none=>False:=rfl
theorem bP{dst:Option Tmp}{ty:TypeId}{pos:String}{af:Array Edge}{gd:Option (Nat × Bool)}{v:PV}{h':A0}(c:Operand)(a:Operand)(b:Operand):Ap P ow {dst:=dst,op:= .pick c a b,type:=ty,pos:=pos,after:=af,guard:=gd} (A9 s) h v h'=(AZ P (dst.any ow) (.pick c a b) (A9 s) h=some (v,h')):=rfl
theorem bQ{dst:Option Tmp}{ty:TypeId}{pos:String}{af:Array Edge}{gd:Option (Nat × Bool)}{K:AE->A0->Prop}(t:TypeId):CY P ow {dst:=dst,op:= .alloc t,type:=ty,pos:=pos,after:=af,guard:=gd} K s h=match AZ P (dst.any ow) (.alloc t) (A9 s) h with|some (r,h')=>K (Ak s dst r) h'|none=>False:=rfl
theorem bR{dst:Option Tmp}{ty:TypeId}{pos:String}{af:Array Edge}{gd:Option (Nat × Bool)}{v:PV}{h':A0}(t:TypeId):Ap P ow {dst:=dst,op:= .alloc t,type:=ty,pos:=pos,after:=af,guard:=gd} (A9 s) h v h'=(AZ P (dst.any ow) (.alloc t) (A9 s) h=some (v,h')):=rfl
theorem bS{dst:Option Tmp}{ty:TypeId}{pos:String}{af:Array Edge}{gd:Option (Nat × Bool)}{K:AE->A0->Prop}(t:TypeId)(x:Operand):CY P ow {dst:=dst,op:= .box t x,type:=ty,pos:=pos,after:=af,guard:=gd} K s h=match AZ P (dst.any ow) (.box t x) (A9 s) h with|some (r,h')=>K (Ak s dst r) h'|none=>False:=rfl
theorem bT{dst:Option Tmp}{ty:TypeId}{pos:String}{af:Array Edge}{gd:Option (Nat × Bool)}{v:PV}{h':A0}(t:TypeId)(x:Operand):Ap P ow {dst:=dst,op:= .box t x,type:=ty,pos:=pos,after:=af,guard:=gd} (A9 s) h v h'=(AZ P (dst.any ow) (.box t x) (A9 s) h=some (v,h')):=rfl
theorem bU{dst:Option Tmp}{ty:TypeId}{pos:String}{af:Array Edge}{gd:Option (Nat × Bool)}{K:AE->A0->Prop}(t:TypeId)(ps:Array (Nat × Operand)):CY P ow {dst:=dst,op:= .build t ps,type:=ty,pos:=pos,after:=af,guard:=gd} K s h=match AZ P (dst.any ow) (.build t ps) (A9 s) h with|some (r,h')=>K (Ak s dst r) h'|none=>False:=rfl
theorem bV{dst:Option Tmp}{ty:TypeId}{pos:String}{af:Array Edge}{gd:Option (Nat × Bool)}{v:PV}{h':A0}(t:TypeId)(ps:Array (Nat × Operand)):Ap P ow {dst:=dst,op:= .build t ps,type:=ty,pos:=pos,after:=af,guard:=gd} (A9 s) h v h'=(AZ P (dst.any ow) (.build t ps) (A9 s) h=some (v,h')):=rfl
theorem bW{dst:Option Tmp}{ty:TypeId}{pos:String}{af:Array Edge}{gd:Option (Nat × Bool)}{K:AE->A0->Prop}(t:TypeId)(l:Nat)(ps:Array (Nat × Operand)):CY P ow {dst:=dst,op:= .buildSlice t l ps,type:=ty,pos:=pos,after:=af,guard:=gd} K s h=match AZ P (dst.any ow) (.buildSlice t l ps) (A9 s) h with|some (r,h')=>K (Ak s dst r) h'|none=>False:=rfl
theorem bX{dst:Option Tmp}{ty:TypeId}{pos:String}{af:Array Edge}{gd:Option (Nat × Bool)}{v:PV}{h':A0}(t:TypeId)(l:Nat)(ps:Array (Nat × Operand)):Ap P ow {dst:=dst,op:= .buildSlice t l ps,type:=ty,pos:=pos,after:=af,guard:=gd} (A9 s) h v h'=(AZ P (dst.any ow) (.buildSlice t l ps) (A9 s) h=some (v,h')):=rfl
theorem bY{dst:Option Tmp}{ty:TypeId}{pos:String}{af:Array Edge}{gd:Option (Nat × Bool)}{K:AE->A0->Prop}(t:TypeId)(x:Operand):CY P ow {dst:=dst,op:= .load t x,type:=ty,pos:=pos,after:=af,guard:=gd} K s h=match AZ P (dst.any ow) (.load t x) (A9 s) h with|some (r,h')=>K (Ak s dst r) h'|none=>False:=rfl
theorem bZ{dst:Option Tmp}{ty:TypeId}{pos:String}{af:Array Edge}{gd:Option (Nat × Bool)}{v:PV}{h':A0}(t:TypeId)(x:Operand):Ap P ow {dst:=dst,op:= .load t x,type:=ty,pos:=pos,after:=af,guard:=gd} (A9 s) h v h'=(AZ P (dst.any ow) (.load t x) (A9 s) h=some (v,h')):=rfl
theorem bf{dst:Option Tmp}{ty:TypeId}{pos:String}{af:Array Edge}{gd:Option (Nat × Bool)}{K:AE->A0->Prop}(t:TypeId)(x:Operand)(y:Operand):CY P ow {dst:=dst,op:= .store t x y,type:=ty,pos:=pos,after:=af,guard:=gd} K s h=match AZ P (dst.any ow) (.store t x y) (A9 s) h with|some (r,h')=>K (Ak s dst r) h'|none=>False:=rfl
theorem bg{dst:Option Tmp}{ty:TypeId}{pos:String}{af:Array Edge}{gd:Option (Nat × Bool)}{v:PV}{h':A0}(t:TypeId)(x:Operand)(y:Operand):Ap P ow {dst:=dst,op:= .store t x y,type:=ty,pos:=pos,after:=af,guard:=gd} (A9 s) h v h'=(AZ P (dst.any ow) (.store t x y) (A9 s) h=some (v,h')):=rfl
theorem bh{dst:Option Tmp}{ty:TypeId}{pos:String}{af:Array Edge}{gd:Option (Nat × Bool)}{K:AE->A0->Prop}(x:Operand):CY P ow {dst:=dst,op:= .nilCheck x,type:=ty,pos:=pos,after:=af,guard:=gd} K s h=match AZ P (dst.any ow) (.nilCheck x) (A9 s) h with|some (r,h')=>K (Ak s dst r) h'|none=>False:=rfl
theorem bj{dst:Option Tmp}{ty:TypeId}{pos:String}{af:Array Edge}{gd:Option (Nat × Bool)}{v:PV}{h':A0}(x:Operand):Ap P ow {dst:=dst,op:= .nilCheck x,type:=ty,pos:=pos,after:=af,guard:=gd} (A9 s) h v h'=(AZ P (dst.any ow) (.nilCheck x) (A9 s) h=some (v,h')):=rfl
theorem bm{dst:Option Tmp}{ty:TypeId}{pos:String}{af:Array Edge}{gd:Option (Nat × Bool)}{K:AE->A0->Prop}(op:BinOp)(t:TypeId)(x:Operand)(y:Operand)(u:TypeId):CY P ow {dst:=dst,op:= .binOp op t x y u,type:=ty,pos:=pos,after:=af,guard:=gd} K s h=match AZ P (dst.any ow) (.binOp op t x y u) (A9 s) h with|some (r,h')=>K (Ak s dst r) h'|none=>False:=rfl
theorem bo{dst:Option Tmp}{ty:TypeId}{pos:String}{af:Array Edge}{gd:Option (Nat × Bool)}{v:PV}{h':A0}(op:BinOp)(t:TypeId)(x:Operand)(y:Operand)(u:TypeId):Ap P ow {dst:=dst,op:= .binOp op t x y u,type:=ty,pos:=pos,after:=af,guard:=gd} (A9 s) h v h'=(AZ P (dst.any ow) (.binOp op t x y u) (A9 s) h=some (v,h')):=rfl
theorem bp{dst:Option Tmp}{ty:TypeId}{pos:String}{af:Array Edge}{gd:Option (Nat × Bool)}{K:AE->A0->Prop}(op:UnOp)(t:TypeId)(x:Operand):CY P ow {dst:=dst,op:= .unOp op t x,type:=ty,pos:=pos,after:=af,guard:=gd} K s h=match AZ P (dst.any ow) (.unOp op t x) (A9 s) h with|some (r,h')=>K (Ak s dst r) h'|none=>False:=rfl
theorem bq{dst:Option Tmp}{ty:TypeId}{pos:String}{af:Array Edge}{gd:Option (Nat × Bool)}{v:PV}{h':A0}(op:UnOp)(t:TypeId)(x:Operand):Ap P ow {dst:=dst,op:= .unOp op t x,type:=ty,pos:=pos,after:=af,guard:=gd} (A9 s) h v h'=(AZ P (dst.any ow) (.unOp op t x) (A9 s) h=some (v,h')):=rfl
theorem bs{dst:Option Tmp}{ty:TypeId}{pos:String}{af:Array Edge}{gd:Option (Nat × Bool)}{K:AE->A0->Prop}(a:TypeId)(b:TypeId)(x:Operand):CY P ow {dst:=dst,op:= .convert a b x,type:=ty,pos:=pos,after:=af,guard:=gd} K s h=match AZ P (dst.any ow) (.convert a b x) (A9 s) h with|some (r,h')=>K (Ak s dst r) h'|none=>False:=rfl
theorem bt{dst:Option Tmp}{ty:TypeId}{pos:String}{af:Array Edge}{gd:Option (Nat × Bool)}{v:PV}{h':A0}(a:TypeId)(b:TypeId)(x:Operand):Ap P ow {dst:=dst,op:= .convert a b x,type:=ty,pos:=pos,after:=af,guard:=gd} (A9 s) h v h'=(AZ P (dst.any ow) (.convert a b x) (A9 s) h=some (v,h')):=rfl
theorem bu{dst:Option Tmp}{ty:TypeId}{pos:String}{af:Array Edge}{gd:Option (Nat × Bool)}{K:AE->A0->Prop}(t:TypeId)(x:Operand):CY P ow {dst:=dst,op:= .makeInterface t x,type:=ty,pos:=pos,after:=af,guard:=gd} K s h=match AZ P (dst.any ow) (.makeInterface t x) (A9 s) h with|some (r,h')=>K (Ak s dst r) h'|none=>False:=rfl
theorem bw{dst:Option Tmp}{ty:TypeId}{pos:String}{af:Array Edge}{gd:Option (Nat × Bool)}{v:PV}{h':A0}(t:TypeId)(x:Operand):Ap P ow {dst:=dst,op:= .makeInterface t x,type:=ty,pos:=pos,after:=af,guard:=gd} (A9 s) h v h'=(AZ P (dst.any ow) (.makeInterface t x) (A9 s) h=some (v,h')):=rfl
theorem bz{dst:Option Tmp}{ty:TypeId}{pos:String}{af:Array Edge}{gd:Option (Nat × Bool)}{K:AE->A0->Prop}(t:TypeId)(r:Option Operand):CY P ow {dst:=dst,op:= .makeMap t r,type:=ty,pos:=pos,after:=af,guard:=gd} K s h=match AZ P (dst.any ow) (.makeMap t r) (A9 s) h with|some (r,h')=>K (Ak s dst r) h'|none=>False:=rfl
theorem cB{dst:Option Tmp}{ty:TypeId}{pos:String}{af:Array Edge}{gd:Option (Nat × Bool)}{v:PV}{h':A0}(t:TypeId)(r:Option Operand):Ap P ow {dst:=dst,op:= .makeMap t r,type:=ty,pos:=pos,after:=af,guard:=gd} (A9 s) h v h'=(AZ P (dst.any ow) (.makeMap t r) (A9 s) h=some (v,h')):=rfl
theorem cC{dst:Option Tmp}{ty:TypeId}{pos:String}{af:Array Edge}{gd:Option (Nat × Bool)}{K:AE->A0->Prop}(t:TypeId)(l:Operand)(c:Operand):CY P ow {dst:=dst,op:= .makeSlice t l c,type:=ty,pos:=pos,after:=af,guard:=gd} K s h=match AZ P (dst.any ow) (.makeSlice t l c) (A9 s) h with|some (r,h')=>K (Ak s dst r) h'|none=>False:=rfl
theorem cF{dst:Option Tmp}{ty:TypeId}{pos:String}{af:Array Edge}{gd:Option (Nat × Bool)}{v:PV}{h':A0}(t:TypeId)(l:Operand)(c:Operand):Ap P ow {dst:=dst,op:= .makeSlice t l c,type:=ty,pos:=pos,after:=af,guard:=gd} (A9 s) h v h'=(AZ P (dst.any ow) (.makeSlice t l c) (A9 s) h=some (v,h')):=rfl
theorem cH{dst:Option Tmp}{ty:TypeId}{pos:String}{af:Array Edge}{gd:Option (Nat × Bool)}{K:AE->A0->Prop}(t:TypeId)(x:Operand)(lo:Option Operand)(hi:Option Operand)(mx:Option Operand):CY P ow {dst:=dst,op:= .slice t x lo hi mx,type:=ty,pos:=pos,after:=af,guard:=gd} K s h=match AZ P (dst.any ow) (.slice t x lo hi mx) (A9 s) h with|some (r,h')=>K (Ak s dst r) h'|none=>False:=rfl
theorem cI{dst:Option Tmp}{ty:TypeId}{pos:String}{af:Array Edge}{gd:Option (Nat × Bool)}{v:PV}{h':A0}(t:TypeId)(x:Operand)(lo:Option Operand)(hi:Option Operand)(mx:Option Operand):Ap P ow {dst:=dst,op:= .slice t x lo hi mx,type:=ty,pos:=pos,after:=af,guard:=gd} (A9 s) h v h'=(AZ P (dst.any ow) (.slice t x lo hi mx) (A9 s) h=some (v,h')):=rfl
theorem cJ{dst:Option Tmp}{ty:TypeId}{pos:String}{af:Array Edge}{gd:Option (Nat × Bool)}{K:AE->A0->Prop}(t:TypeId)(x:Operand)(f:Nat):CY P ow {dst:=dst,op:= .fieldAddr t x f,type:=ty,pos:=pos,after:=af,guard:=gd} K s h=match AZ P (dst.any ow) (.fieldAddr t x f) (A9 s) h with|some (r,h')=>K (Ak s dst r) h'|none=>False:=rfl
theorem cM{dst:Option Tmp}{ty:TypeId}{pos:String}{af:Array Edge}{gd:Option (Nat × Bool)}{v:PV}{h':A0}(t:TypeId)(x:Operand)(f:Nat):Ap P ow {dst:=dst,op:= .fieldAddr t x f,type:=ty,pos:=pos,after:=af,guard:=gd} (A9 s) h v h'=(AZ P (dst.any ow) (.fieldAddr t x f) (A9 s) h=some (v,h')):=rfl
theorem cO{dst:Option Tmp}{ty:TypeId}{pos:String}{af:Array Edge}{gd:Option (Nat × Bool)}{K:AE->A0->Prop}(t:TypeId)(x:Operand)(f:Nat):CY P ow {dst:=dst,op:= .field t x f,type:=ty,pos:=pos,after:=af,guard:=gd} K s h=match AZ P (dst.any ow) (.field t x f) (A9 s) h with|some (r,h')=>K (Ak s dst r) h'|none=>False:=rfl
theorem cQ{dst:Option Tmp}{ty:TypeId}{pos:String}{af:Array Edge}{gd:Option (Nat × Bool)}{v:PV}{h':A0}(t:TypeId)(x:Operand)(f:Nat):Ap P ow {dst:=dst,op:= .field t x f,type:=ty,pos:=pos,after:=af,guard:=gd} (A9 s) h v h'=(AZ P (dst.any ow) (.field t x f) (A9 s) h=some (v,h')):=rfl
theorem cR{dst:Option Tmp}{ty:TypeId}{pos:String}{af:Array Edge}{gd:Option (Nat × Bool)}{K:AE->A0->Prop}(t:TypeId)(x:Operand)(i:Operand):CY P ow {dst:=dst,op:= .indexAddr t x i,type:=ty,pos:=pos,after:=af,guard:=gd} K s h=match AZ P (dst.any ow) (.indexAddr t x i) (A9 s) h with|some (r,h')=>K (Ak s dst r) h'|none=>False:=rfl
theorem cT{dst:Option Tmp}{ty:TypeId}{pos:String}{af:Array Edge}{gd:Option (Nat × Bool)}{v:PV}{h':A0}(t:TypeId)(x:Operand)(i:Operand):Ap P ow {dst:=dst,op:= .indexAddr t x i,type:=ty,pos:=pos,after:=af,guard:=gd} (A9 s) h v h'=(AZ P (dst.any ow) (.indexAddr t x i) (A9 s) h=some (v,h')):=rfl
theorem cU{dst:Option Tmp}{ty:TypeId}{pos:String}{af:Array Edge}{gd:Option (Nat × Bool)}{K:AE->A0->Prop}(t:TypeId)(x:Operand)(i:Operand):CY P ow {dst:=dst,op:= .index t x i,type:=ty,pos:=pos,after:=af,guard:=gd} K s h=match AZ P (dst.any ow) (.index t x i) (A9 s) h with|some (r,h')=>K (Ak s dst r) h'|none=>False:=rfl
theorem cV{dst:Option Tmp}{ty:TypeId}{pos:String}{af:Array Edge}{gd:Option (Nat × Bool)}{v:PV}{h':A0}(t:TypeId)(x:Operand)(i:Operand):Ap P ow {dst:=dst,op:= .index t x i,type:=ty,pos:=pos,after:=af,guard:=gd} (A9 s) h v h'=(AZ P (dst.any ow) (.index t x i) (A9 s) h=some (v,h')):=rfl
theorem cX{dst:Option Tmp}{ty:TypeId}{pos:String}{af:Array Edge}{gd:Option (Nat × Bool)}{K:AE->A0->Prop}(t:TypeId)(x:Operand)(k:Operand)(ok:Bool):CY P ow {dst:=dst,op:= .lookup t x k ok,type:=ty,pos:=pos,after:=af,guard:=gd} K s h=match AZ P (dst.any ow) (.lookup t x k ok) (A9 s) h with|some (r,h')=>K (Ak s dst r) h'|none=>False:=rfl
theorem cY{dst:Option Tmp}{ty:TypeId}{pos:String}{af:Array Edge}{gd:Option (Nat × Bool)}{v:PV}{h':A0}(t:TypeId)(x:Operand)(k:Operand)(ok:Bool):Ap P ow {dst:=dst,op:= .lookup t x k ok,type:=ty,pos:=pos,after:=af,guard:=gd} (A9 s) h v h'=(AZ P (dst.any ow) (.lookup t x k ok) (A9 s) h=some (v,h')):=rfl
theorem cZ{dst:Option Tmp}{ty:TypeId}{pos:String}{af:Array Edge}{gd:Option (Nat × Bool)}{K:AE->A0->Prop}(t:TypeId)(x:Operand)(k:Operand)(y:Operand):CY P ow {dst:=dst,op:= .mapUpdate t x k y,type:=ty,pos:=pos,after:=af,guard:=gd} K s h=match AZ P (dst.any ow) (.mapUpdate t x k y) (A9 s) h with|some (r,h')=>K (Ak s dst r) h'|none=>False:=rfl
theorem cg{dst:Option Tmp}{ty:TypeId}{pos:String}{af:Array Edge}{gd:Option (Nat × Bool)}{v:PV}{h':A0}(t:TypeId)(x:Operand)(k:Operand)(y:Operand):Ap P ow {dst:=dst,op:= .mapUpdate t x k y,type:=ty,pos:=pos,after:=af,guard:=gd} (A9 s) h v h'=(AZ P (dst.any ow) (.mapUpdate t x k y) (A9 s) h=some (v,h')):=rfl
theorem cj{dst:Option Tmp}{ty:TypeId}{pos:String}{af:Array Edge}{gd:Option (Nat × Bool)}{K:AE->A0->Prop}(x:Operand)(t:TypeId)(u:TypeId)(ok:Bool):CY P ow {dst:=dst,op:= .typeAssert x t u ok,type:=ty,pos:=pos,after:=af,guard:=gd} K s h=match AZ P (dst.any ow) (.typeAssert x t u ok) (A9 s) h with|some (r,h')=>K (Ak s dst r) h'|none=>False:=rfl
theorem cm{dst:Option Tmp}{ty:TypeId}{pos:String}{af:Array Edge}{gd:Option (Nat × Bool)}{v:PV}{h':A0}(x:Operand)(t:TypeId)(u:TypeId)(ok:Bool):Ap P ow {dst:=dst,op:= .typeAssert x t u ok,type:=ty,pos:=pos,after:=af,guard:=gd} (A9 s) h v h'=(AZ P (dst.any ow) (.typeAssert x t u ok) (A9 s) h=some (v,h')):=rfl
theorem cq{dst:Option Tmp}{ty:TypeId}{pos:String}{af:Array Edge}{gd:Option (Nat × Bool)}{K:AE->A0->Prop}(x:Operand)(i:Nat):CY P ow {dst:=dst,op:= .extract x i,type:=ty,pos:=pos,after:=af,guard:=gd} K s h=match AZ P (dst.any ow) (.extract x i) (A9 s) h with|some (r,h')=>K (Ak s dst r) h'|none=>False:=rfl
theorem cr{dst:Option Tmp}{ty:TypeId}{pos:String}{af:Array Edge}{gd:Option (Nat × Bool)}{v:PV}{h':A0}(x:Operand)(i:Nat):Ap P ow {dst:=dst,op:= .extract x i,type:=ty,pos:=pos,after:=af,guard:=gd} (A9 s) h v h'=(AZ P (dst.any ow) (.extract x i) (A9 s) h=some (v,h')):=rfl
theorem ct{dst:Option Tmp}{ty:TypeId}{pos:String}{af:Array Edge}{gd:Option (Nat × Bool)}{K:AE->A0->Prop}(bb:Builtin)(as:Array Operand)(ts:Array TypeId):CY P ow {dst:=dst,op:= .call {callee:= .builtin bb,args:=as,argTypes:=ts},type:=ty,pos:=pos,after:=af,guard:=gd} K s h=match AZ P (dst.any ow) (.call {callee:= .builtin bb,args:=as,argTypes:=ts}) (A9 s) h with|some (r,h')=>K (Ak s dst r) h'|none=>False:=rfl
theorem cv{dst:Option Tmp}{ty:TypeId}{pos:String}{af:Array Edge}{gd:Option (Nat × Bool)}{v:PV}{h':A0}(bb:Builtin)(as:Array Operand)(ts:Array TypeId):Ap P ow {dst:=dst,op:= .call {callee:= .builtin bb,args:=as,argTypes:=ts},type:=ty,pos:=pos,after:=af,guard:=gd} (A9 s) h v h'=(AZ P (dst.any ow) (.call {callee:= .builtin bb,args:=as,argTypes:=ts}) (A9 s) h=some (v,h')):=rfl
theorem CT{f:FuncId}{dst:Option Tmp}{args:List Operand}{ts:Array TypeId}{ty:TypeId}{pos:String}{af:Array Edge}{gd:Option (Nat × Bool)}{as:List PV}{v:PV}{h':A0}
  (hc:A6 P f as h λr h''=>r=v/\h''=h')(ha:args.map (A9 s)=as):
  Ap P ow {dst:=dst,op:= .call {callee:= .value (.func f),args:=args.toArray,argTypes:=ts},type:=ty,pos:=pos,after:=af,guard:=gd} (A9 s) h v h':=by
 unfold Ap;simp only[callee,A9,KV,AO];rw[ha];exact hc
theorem Ml{f:FuncId}{d:Nat}{args:List Operand}{ts:Array TypeId}{ty:TypeId}{pos:String}{af:Array Edge}{gd:Option (Nat × Bool)}{as:List PV}{v:PV}{ops rest:List Oper}{k k':Nat}{past:Gl}{hist:List (Nat × A0)}{K:AE->A0->Prop}
  (hc:A6 P f as h λr h'=>r=v/\h'=h)(ha:args.map (A9 s)=as)
  (hk:FH P ow wf n ops k rest ((k',{dst:=some d,op:= .call {callee:= .value (.func f),args:=args.toArray,argTypes:=ts},type:=ty,pos:=pos,after:=af,guard:=gd},s,v)::past) hist K (Ci s d v) h):
  ∃ v,Ap P ow {dst:=some d,op:= .call {callee:= .value (.func f),args:=args.toArray,argTypes:=ts},type:=ty,pos:=pos,after:=af,guard:=gd} (A9 s) h v h/\
   EU P ow wf n ops k rest (Dj P ow ((k',{dst:=some d,op:= .call {callee:= .value (.func f),args:=args.toArray,argTypes:=ts},type:=ty,pos:=pos,after:=af,guard:=gd},s,v)::past)) hist K (Ci s d v) h:=
 ⟨v,CT hc ha,JI _ _ _ _ _ _ hk⟩
theorem Iq{f:FuncId}{d:Nat}{args:List Operand}{ts:Array TypeId}{ty:TypeId}{pos:String}{af:Array Edge}{gd:Option (Nat × Bool)}{as:List PV}{v:PV}{ops rest:List Oper}{k k':Nat}{past:Gl}{hist:List (Nat × A0)}{K:AE->A0->Prop}{A:PV->Prop}
  (hc:A6 P f as h λr h'=>r=v/\h'=h)(ha:args.map (A9 s)=as)(hA:A v)
  (hk:FH P ow wf n ops k rest ((k',{dst:=some d,op:= .call {callee:= .value (.func f),args:=args.toArray,argTypes:=ts},type:=ty,pos:=pos,after:=af,guard:=gd},s,v)::past) hist K (Ci s d v) h):
  ∃ v,Ap P ow {dst:=some d,op:= .call {callee:= .value (.func f),args:=args.toArray,argTypes:=ts},type:=ty,pos:=pos,after:=af,guard:=gd} (A9 s) h v h/\A v/\
   EU P ow wf n ops k rest (Dj P ow ((k',{dst:=some d,op:= .call {callee:= .value (.func f),args:=args.toArray,argTypes:=ts},type:=ty,pos:=pos,after:=af,guard:=gd},s,v)::past)) hist K (Ci s d v) h:=
 ⟨v,CT hc ha,hA,JI _ _ _ _ _ _ hk⟩
theorem Lm{f:FuncId}{d:Nat}{args:List Operand}{ts:Array TypeId}{ty:TypeId}{pos:String}{af:Array Edge}{gd:Option (Nat × Bool)}{as:List PV}{v:PV}{h1:A0}{ops rest:List Oper}{k:Nat}{past:Gl}{hist:List (Nat × A0)}{K:AE->A0->Prop}{A:A0->Prop}
  (hc:A6 P f as h λr h'=>r=v/\h'=h1)(ha:args.map (A9 s)=as)(hA:A h1)
  (hk:FH P ow wf n ops k rest past hist K (Ci s d v) h1):
  ∃ v h',Ap P ow {dst:=some d,op:= .call {callee:= .value (.func f),args:=args.toArray,argTypes:=ts},type:=ty,pos:=pos,after:=af,guard:=gd} (A9 s) h v h'/\A h'/\
   EU P ow wf n ops k rest (Dj P ow past) hist K (Ci s d v) h':=
 ⟨v,h1,CT hc ha,hA,JI _ _ _ _ _ _ hk⟩
end
theorem cw(h:A0)(z:Nat)(rows:List (List PV)):GF h (.A1 z rows)=some rows.length:=rfl
theorem cz(h:A0):GF h .emp=some 0:=rfl
theorem dA(h:A0):GF h (.sc (.slice none 0 0))=some 0:=rfl
theorem dB(h:A0)(id off len:Nat):GF h (.own id off len)=some len:=rfl
theorem dC(h:A0)(b:ByteArray):GF h (.sc (.string b))=some b.size:=rfl
theorem dD(h:A0):GF h (.sc (.map none))=some 0:=rfl
theorem dE(h:A0)(id:Nat):GF h (.mp id)=match h.obj id with|some (.map es)=>some es.length|_=>none:=rfl
theorem dF(k z:Nat)(rows:List (List PV)):GR k (.A1 z rows)=(k==5):=rfl
theorem dG(k:Nat):GR k .emp=(k==5):=rfl
theorem dH(k:Nat):GR k (.sc (.slice none 0 0))=(k==5):=rfl
theorem dI(k id off len:Nat):GR k (.own id off len)=(k==5):=rfl
theorem dJ(k:Nat)(b:ByteArray):GR k (.sc (.string b))=(k==3):=rfl
theorem dK(k:Nat):GR k (.sc (.map none))=(k==6):=rfl
theorem dM(k id:Nat):GR k (.mp id)=(k==6):=rfl
theorem dN(h:A0)(z z':Nat)(rows:List (List PV))(i:Int):Kh h z (.A1 z' rows) i=if 0<=i then(if z'=z then(rows[i.toNat]?).map .Aj else none)else none:=rfl
theorem dO(h:A0)(z id off len:Nat)(i:Int):Kh h z (.own id off len) i=if 0<=i then(match h.obj id with|some (.arr z' _)=>if z'=z/\i.toNat<len then some (.ptr id (off+i.toNat) 0)else none|_=>none)else none:=rfl
theorem dP(n z id r f:Nat)(i:Int):MY n z (.ptr id r f) i=if 0<=i/\i<n then some (.ptr id r (f+i.toNat*z))else none:=rfl
theorem dQ(n z:Nat)(cs:List PV)(i:Int):MY n z (.Aj cs) i=if 0<=i/\i<n then(if i.toNat*z+z<=cs.length then some (.Aj ((cs.drop (i.toNat*z)).take z))else none)else none:=rfl
theorem dR(off n id i f:Nat):MZ off n (.ptr id i f)=if 0<n then some (.ptr id i (f+off))else none:=rfl
theorem dS(off n:Nat)(cs:List PV):MZ off n (.Aj cs)=if 0<n/\off+n<=cs.length then some (.Aj ((cs.drop off).take n))else none:=rfl
theorem dT(h:A0)(id i f:Nat):rd h (.ptr id i f)=match h.obj id with|some (.arr _ rows)=>(rows[i]?).map (·.drop f)|_=>none:=rfl
theorem dU(h:A0)(cs:List PV):rd h (.Aj cs)=some cs:=rfl
theorem dV(h:A0)(vc:List PV)(id i f:Nat):wr h vc (.ptr id i f)=match h.obj id with|some (.arr z rows)=>(match rows[i]? with|some r=>if f+vc.length<=r.length then some (h.set id (.arr z (rows.set i (Jo r f vc))))else none|none=>none)|_=>none:=rfl
theorem dW(h:A0)(z:Nat)(rows:List (List PV)):Gj h (.A1 z rows)=some rows:=rfl
theorem dX(h:A0):Gj h .emp=some []:=rfl
theorem dY(h:A0):Gj h (.sc (.slice none 0 0))=some []:=rfl
theorem dZ(h:A0)(id off len:Nat):Gj h (.own id off len)=match h.obj id with|some (.arr _ rows)=>if off+len<=rows.length then some ((rows.drop off).take len)else none|_=>none:=rfl
theorem db(h:A0)(z z':Nat)(rows:List (List PV)):Dx h z (.A1 z' rows)=(z'==z):=rfl
theorem de(h:A0)(z:Nat):Dx h z .emp=true:=rfl
theorem dg(h:A0)(z:Nat):Dx h z (.sc (.slice none 0 0))=true:=rfl
theorem dh(h:A0)(z id off len:Nat):Dx h z (.own id off len)=match h.obj id with|some (.arr z' _)=>z'==z|_=>false:=rfl
theorem dj(h:A0):F3 h .emp=some (h,[]):=rfl
theorem dm(h:A0):F3 h (.sc (.slice none 0 0))=some (h,[]):=rfl
theorem dq(h:A0)(id off len:Nat):F3 h (.own id off len)=match h.obj id with|some (.arr _ rows)=>if off+len<=rows.length then some (h.kill id,(rows.drop off).take len)else none|_=>none:=rfl
theorem du(z:Nat)(rows:List (List PV)):Ki (.A1 z rows)=true:=rfl
theorem dw(id off len:Nat):Ki (.own id off len)=true:=rfl
theorem dx:Ki .emp=true:=rfl
theorem dy:zB 0=true:=rfl
theorem dz:Ki (.sc (.slice none 0 0))=true:=rfl
theorem eA(h:A0):Mc h (.sc (.map none))=some []:=rfl
theorem eB(h:A0)(id:Nat):Mc h (.mp id)=match h.obj id with|some (.map es)=>some es|_=>none:=rfl
theorem eC(z z':Nat)(rows:List (List PV))(h:A0)(lo hi:Option Int):Ma z (.A1 z' rows) h lo hi=if 0<=lo.getD 0/\lo.getD 0<=hi.getD rows.length/\hi.getD rows.length<=rows.length/\(z'==z)=true then some (.A1 z' ((rows.drop (lo.getD 0).toNat).take (hi.getD rows.length-lo.getD 0).toNat))else none:=rfl
theorem eD(z id off len:Nat)(h:A0)(lo hi:Option Int):Ma z (.own id off len) h lo hi=if 0<=lo.getD 0/\lo.getD 0<=hi.getD len/\hi.getD len<=len/\Dx h z (.own id off len)=true then(match h.obj id with|some (.arr _ _)=>some (.own id (off+(lo.getD 0).toNat) (hi.getD len-lo.getD 0).toNat)|_=>none)else none:=rfl
theorem eE(l:List PV):PV.cells (.agg l)=l:=rfl
theorem eF(v:Value):PV.cells (.sc v)=[.sc v]:=rfl
theorem eG(z:Nat)(l:List (List PV)):PV.cells (.A1 z l)=[.A1 z l]:=rfl
theorem eI(i o l:Nat):PV.cells (.own i o l)=[.own i o l]:=rfl
theorem eJ(i o l:Nat):PV.cells (.ptr i o l)=[.ptr i o l]:=rfl
theorem eK(l:List PV):PV.cells (.Aj l)=[.Aj l]:=rfl
theorem eL:PV.cells .emp=[.emp]:=rfl
theorem eM(i:Nat):PV.cells (.mp i)=[.mp i]:=rfl
theorem eN(k:IntKind)(i:Int):Cs (.sc (.int k i))=true:=rfl
theorem eO(b:Bool):Cs (.sc (.bool b))=true:=rfl
theorem eQ(b:ByteArray):Cs (.sc (.string b))=true:=rfl
theorem eR:Cs (.sc .nilIface)=true:=rfl
theorem eT(t:TypeId)(v:Value):Cs (.sc (.iface t v))=true:=rfl
theorem eU(a:Option Addr):Cs (.sc (.pointer a))=true:=rfl
theorem eV(a:Option Addr)(l c:Nat):Cs (.sc (.slice a l c))=true:=rfl
theorem eW(a:Option Nat):Cs (.sc (.map a))=true:=rfl
theorem eY(z:Nat)(l:List (List PV)):Cs (.A1 z l)=true:=rfl
theorem eZ(i o l:Nat):Cs (.own i o l)=true:=rfl
theorem ed(i o l:Nat):Cs (.ptr i o l)=true:=rfl
theorem ee(l:List PV):Cs (.Aj l)=true:=rfl
theorem ef:Cs .emp=true:=rfl
theorem eg(i:Nat):Cs (.mp i)=true:=rfl
structure Sl(h:A0)(z:Nat)(p:PV)(rows:List (List PV)):Prop where
 vw:Gj h p=some rows
 zk:Dx h z p=true
 len:GF h p=some rows.length
 lk:GR 5 p=true
 sl:Ki p=true
 get: ∀ (i:Nat)(r:List PV),rows[i]? =some r-> ∃ q,Kh h z p (i:Int)=some q/\rd h q=some r
theorem Sl.emp{h:A0}{z:Nat}:Sl h z .emp []:=⟨rfl,rfl,rfl,rfl,rfl,λi r hr=>by simp at hr⟩
theorem Sl.nil{h:A0}{z:Nat}:Sl h z (.sc (.slice none 0 0)) []:=⟨rfl,rfl,rfl,rfl,rfl,λi r hr=>by simp at hr⟩
theorem Sl.own{h:A0}{z id off len:Nat}{rows:List (List PV)}(ho:h.obj id=some (.arr z rows))(hl:off+len<=rows.length):Sl h z (.own id off len) ((rows.drop off).take len):=by
 refine⟨by simp[Gj,ho,hl],by simp[Dx,ho],by simp[GF];omega,rfl,rfl,λi r hr=>?_⟩;rw[List.getElem?_take]at hr;split at hr
 ·rename_i hi;rw[List.getElem?_drop]at hr;exact⟨.ptr id (off+i) 0,by simp[Kh,ho,hi],by simp[rd,ho,hr]⟩
 ·simp at hr
theorem Sl.pz{h:A0}{z id:Nat}{rows:List (List PV)}(ho:h.obj id=some (.arr z rows)):Sl h z (.own id 0 rows.length) rows:=by
 have:=Sl.own (off:=0) (len:=rows.length) ho (by omega);simpa using this
def Wf(h:A0):Prop:= ∀ id,(h.obj id).isSome=true->id<h.next
theorem JJ{P:Program}{f:FuncId}{args:List PV}{h:A0}{K:PV->A0->Prop}(hb:Ab P f=true)(hk:Wf h->A6 P f args h K):A6 P f args h K:=
 λβ w vals sm hr=>hk sm.lt β w vals sm hr
def UV(xs:List Int):List (List PV):=xs.map λx=>[.sc (.int .i64 x)]
theorem ep(xs:List Int):(UV xs).length=xs.length:=by simp[UV]
theorem BM{n:Int}(h1: -9223372036854775808<=n)(h2:n<=9223372036854775807):IntKind.i64.wrap n=n:=IntWalk.i64_in _ ⟨h1,h2⟩
mutual
def AI(n:Nat)(h':A0):PV->PV->Prop
 | .A1 z rows, r' => (r' = .A1 z rows /\ B9 n rows) \/ (rows = [] /\ (r' = .emp \/ r' = .sc (.slice none 0 0))) \/
   ∃ id off len rows',r'= .own id off len/\n<=id/\h'.obj id=some (.arr z rows')/\off+len<=rows'.length/\DE n h' rows ((rows'.drop off).take len)
 | .agg cs,r'=> ∃ cs',r'= .agg cs'/\AN n h' cs cs'
 | .Al cs,r'=> ∃ cs',r'= .Al cs'/\AN n h' cs cs'
 | .sc v,r'=>r'= .sc v
 | .ptr id i f,r'=>r'= .ptr id i f/\id<n
 | .Aj cs,r'=>(r'= .Aj cs/\Bo n cs)\/ ∃ id i f z rows' q,r'= .ptr id i f/\n<=id/\h'.obj id=some (.arr z rows')/\rows'[i]? =some q/\AN n h' cs (q.drop f)
 | .own id off len,r'=>r'= .own id off len/\id<n
 | .emp,r'=>r'= .emp
 | .mp id,r'=>r'= .mp id/\id<n
 | .fn f a b,r'=>r'= .fn f a b/\Bo n a/\Bo n b
 | .ab k lo hi m r,r'=>r'= .ab k lo hi m r
def AN(n:Nat)(h':A0):List PV->List PV->Prop
 |[],[]=>True
 |p::ps,q::qs=>AI n h' p q/\AN n h' ps qs
 |_,_=>False
def DE(n:Nat)(h':A0):List (List PV)->List (List PV)->Prop
 |[],[]=>True
 |p::ps,q::qs=>AN n h' p q/\DE n h' ps qs
 |_,_=>False
end
section
variable {β:BK}{n m:Nat}{F F':Nat->Prop}{w:World}
theorem AN.len{h':A0}:(l l':List PV)->AN n h' l l'->l.length=l'.length
 |[],[],_=>rfl
 |[],_::_,h=>by simp only[AN]at h
 |_::_,[],h=>by simp only[AN]at h
 |_::ps,_::qs,h=>by simp only[AN]at h;simp only[List.length_cons,AN.len ps qs h.2]
theorem DE.len{h':A0}:(l l':List (List PV))->DE n h' l l'->l.length=l'.length
 |[],[],_=>rfl
 |[],_::_,h=>by simp only[DE]at h
 |_::_,[],h=>by simp only[DE]at h
 |_::ps,_::qs,h=>by simp only[DE]at h;simp only[List.length_cons,DE.len ps qs h.2]
mutual
theorem AI.rep{h':A0}(sm:B2 β h' w)(hF: ∀ b,Fz β h' w b->F' b)(hB: ∀ id b,n<=id->(h'.obj id).isSome=true->(β id).b=some b->F' b):(p p':PV)->(x:Value)->AI n h' p p'->AA β h'.next (Fz β h' w) w p' x->AA β n F' w p x
 | .A1 z rows,p',x,hf,hr=>by
  simp only[AI]at hf;rcases hf with⟨rfl,hs⟩|⟨rfl,hf⟩|⟨id,off,len,rows',rfl,hid,hob,hle,hf⟩
  ·exact AA.low hF _ x (by simpa only[Bc]using hs) hr
  ·rcases hf with rfl|rfl
   ·simp only[AA]at hr⊢;obtain⟨a,rfl⟩:=hr;exact⟨a,0,rfl,AG _,Bj _,.inl A4⟩
   ·simp only[AA]at hr⊢;exact⟨none,0,hr,AG _,Bj _,.inl A4⟩
  ·have hl:=DE.len _ _ hf;have hl2:((rows'.drop off).take len).length=len:=(by simp;omega);simp only[AA]at hr⊢;obtain⟨_,a,cap,rfl,h2,h2',h3⟩:=hr;refine⟨a,cap,by rw[hl,hl2],by omega,h2',?_⟩;rcases h3 with h3|⟨b,h4,h5,h6⟩
   ·left;exact List.eq_nil_of_length_eq_zero (by omega)
   ·have hok:=sm.ok id _ hob;simp only[BN]at hok;rcases hok.2 with⟨h7,h8⟩|⟨b',c,e,fr,g5,g6,g7,g8,g9,g10⟩
    ·rw [h7]at h4;simp at h4
    ·rw [h4]at g5;simp at g5;subst g5;right;refine⟨b,_,hB id b hid (by rw[hob];try rfl) h4,h5,?_⟩;rw[hok.1];exact DE.rep sm hF hB z rows _ b _ hf ((g10.drop off).take len)
 | .agg cs,p',x,hf,hr=>by
  simp only[AI]at hf;obtain⟨cs',rfl,hf⟩:=hf;simp only[AA]at hr⊢;obtain⟨xs,h1,h2,h3⟩:=hr;exact⟨xs,h1,h2,AN.rep sm hF hB cs cs' xs hf h3⟩
 | .Al cs,p',x,hf,hr=>by
  simp only[AI]at hf;obtain⟨cs',rfl,hf⟩:=hf;simp only[AA]at hr⊢;obtain⟨xs,h1,h3⟩:=hr;exact⟨xs,h1,AN.rep sm hF hB cs cs' xs hf h3⟩
 | .sc v,p',x,hf,hr=>by simp only[AI]at hf;subst hf;simpa only[AA]using hr
 | .ptr _ _ _,p',x,hf,hr=>by simp only[AI]at hf;obtain⟨rfl,hf⟩:=hf;exact AA.low hF _ x (by simpa only[Bc]using hf) hr
 | .Aj cs,p',x,hf,hr=>by
  simp only[AI]at hf;rcases hf with⟨rfl,hf⟩|⟨id,i,f,z,rows',q,rfl,hid,hob,hq,hf⟩
  ·exact AA.low hF _ x (by simpa only[Bc]using hf) hr
  ·simp only[AA]at hr⊢;obtain⟨_,b,hb,rfl⟩:=hr;have hok:=sm.ok id _ hob;simp only[BN]at hok;rcases hok.2 with⟨h7,h8⟩|⟨b',c,e,fr,g5,g6,g7,g8,g9,g10⟩
   ·rw [h7]at hb;simp at hb
   ·rw [hb]at g5;simp at g5;subst g5;refine⟨b,_,hB id b hid (by rw[hob];try rfl) hb,rfl,?_⟩;rw[hok.1];exact FrzS.rep sm hF hB cs _ b _ hf (((Hi.1 g10) i q hq).2.drop f)
 | .own _ _ _,p',x,hf,hr=>by simp only[AI]at hf;obtain⟨rfl,hf⟩:=hf;exact AA.low hF _ x (by simpa only[Bc]using hf) hr
 | .emp,p',x,hf,hr=>by simp only[AI]at hf;subst hf;simpa only[AA]using hr
 | .mp _,p',x,hf,hr=>by simp only[AI]at hf;obtain⟨rfl,hf⟩:=hf;exact AA.low hF _ x (by simpa only[Bc]using hf) hr
 | .fn _ _ _,p',x,hf,hr=>by simp only[AI]at hf;obtain⟨rfl,hf⟩:=hf;exact AA.low hF _ x (by simpa only[Bc]using hf) hr
 | .ab _ _ _ _ _,p',x,hf,hr=>by simp only[AI]at hf;subst hf;simpa only[AA]using hr
theorem AN.rep{h':A0}(sm:B2 β h' w)(hF: ∀ b,Fz β h' w b->F' b)(hB: ∀ id b,n<=id->(h'.obj id).isSome=true->(β id).b=some b->F' b):(l l':List PV)->(xs:List Value)->AN n h' l l'->AT β h'.next (Fz β h' w) w l' xs->AT β n F' w l xs
 |[],[],[],_,_=>by simp only[AT]
 |[],[],_::_,_,h=>by simp only[AT]at h
 |[],_::_,_,h,_=>by simp only[AN]at h
 |_::_,[],_,h,_=>by simp only[AN]at h
 |_::_,_::_,[],_,h=>by simp only[AT]at h
 |p::ps,q::qs,v::vs,hf,hr=>by
  simp only[AN]at hf;simp only[AT]at hr⊢;exact⟨AI.rep sm hF hB p q v hf.1 hr.1,AN.rep sm hF hB ps qs vs hf.2 hr.2⟩
theorem DE.rep{h':A0}(sm:B2 β h' w)(hF: ∀ b,Fz β h' w b->F' b)(hB: ∀ id b,n<=id->(h'.obj id).isSome=true->(β id).b=some b->F' b)(z:Nat):(l l':List (List PV))->(b o:Nat)->DE n h' l l'->BI β h'.next (Fz β h' w) w z l' b o->BI β n F' w z l b o
 |[],[],_,_,_,_=>by simp only[BI]
 |[],_::_,_,_,h,_=>by simp only[DE]at h
 |_::_,[],_,_,h,_=>by simp only[DE]at h
 |p::ps,q::qs,b,o,hf,hr=>by
  simp only[DE]at hf;simp only[BI]at hr⊢;exact⟨⟨by rw[AN.len p q hf.1];exact hr.1.1,FrzS.rep sm hF hB p q b o hf.1 hr.1.2⟩,DE.rep sm hF hB z ps qs b (o+z) hf.2 hr.2⟩
theorem FrzS.rep{h':A0}(sm:B2 β h' w)(hF: ∀ b,Fz β h' w b->F' b)(hB: ∀ id b,n<=id->(h'.obj id).isSome=true->(β id).b=some b->F' b):(l l':List PV)->(b o:Nat)->AN n h' l l'->Bk β h'.next (Fz β h' w) w l' b o->Bk β n F' w l b o
 |[],[],_,_,_,_=>by simp only[Bk]
 |[],_::_,_,_,h,_=>by simp only[AN]at h
 |_::_,[],_,_,h,_=>by simp only[AN]at h
 |p::ps,q::qs,b,o,hf,hr=>by
  simp only[AN]at hf;simp only[Bk]at hr⊢;obtain⟨⟨v,g1,g2,g3⟩,g4⟩:=hr;exact⟨⟨v,g1,g2,AI.rep sm hF hB p q v hf.1 g3⟩,FrzS.rep sm hF hB ps qs b (o+1) hf.2 g4⟩
end
end
section
variable {P:Program}
theorem A6.drop{f:FuncId}{args:List PV}{h:A0}{K:PV->A0->Prop}
  (hc:A6 P f args h (λr' h'=> ∃ r h2,K r h2/\AI h2.next h' r r'/\h.next<=h2.next/\(∀ id o,h2.obj id=some o->h'.obj id=some o/\id<h2.next/\(h.obj id=some o\/F7 h2.next o)))):A6 P f args h K:=by
 refine λβ w vals sm hr=>(hc β w vals sm hr).mono ?_;rintro e w' ⟨r',h',β',v,rfl,⟨r,h2,hK,hf,hn,ho⟩,sm',hrep,ex⟩;have hF: ∀ b,Fz β' h' w' b->Fz β' h2 w' b:=λb hb=>⟨hb.1,λid hid=>by
  obtain⟨o,hoo⟩:=Jl.1 hid;exact hb.2.1 id (by rw[(ho id o hoo).1];try rfl),hb.2.2⟩
 have hB: ∀ id b,h2.next<=id->(h'.obj id).isSome=true->(β' id).b=some b->Fz β' h2 w' b:=by
  intro id b hid hs hb;obtain⟨o,hoo⟩:=Jl.1 hs;refine⟨sm'.Jm hoo hb,λj hj hjb=>?_,sm'.nx id hs b hb⟩;obtain⟨o2,ho2⟩:=Jl.1 hj;obtain⟨h3,h4,_⟩:=ho j o2 ho2;have:=sm'.inj id j hs (by rw[h3];try rfl) b hb hjb;omega
 refine⟨r,h2,β',v,rfl,hK,⟨λid hid=>?_,λid o hoo=>?_,λi j hi hj=>?_,sm'.xs,λid hid=>?_⟩,?_,⟨ex.os,ex.tape,ex.output,ex.size,hn,ex.beta,ex.X,ex.xh,λb hb=>⟨hF b (ex.fz b hb).1,(ex.fz b hb).2⟩⟩⟩
 ·obtain ⟨o,hoo⟩:=Jl.1 hid;exact(ho id o hoo).2.1
 ·obtain ⟨h3,h4,h5⟩:=ho id o hoo;have hs:F7 h2.next o:=by
   rcases h5 with h5|h5
   ·have h6:=(sm.ok id o h5).inN
    have up: ∀ (o:Am),F7 h.next o->F7 h2.next o:=by
     intro o hso;cases o with
     |arr z rows=>exact RE hn rows hso
     |map es=>exact Kk hn _ hso
     |Ih g lo hi=>simp only[F7]
    exact up o h6
   ·exact h5
  exact BN.low hF hs (sm'.ok id o h3)
 ·obtain ⟨o,hoo⟩:=Jl.1 hi;obtain⟨o2,ho2⟩:=Jl.1 hj;exact sm'.inj i j (by rw[(ho i o hoo).1];try rfl) (by rw[(ho j o2 ho2).1];try rfl)
 ·obtain ⟨o,hoo⟩:=Jl.1 hid;exact sm'.nx id (by rw[(ho id o hoo).1];try rfl)
 ·exact AI.rep sm' hF hB r r' v hf hrep
end
def Dz(n:Nat)(h:A0):A0:=⟨h.next,λj=>if j<n then h.obj j else none⟩
def DT:List (Nat × PV)->AE->AE
 |[],s=>s
 |(t,p)::l,s=>Ci (DT l s) t p
theorem UW{n:Nat}{h:A0}{id:Nat}{o:Am}(ho:(Dz n h).obj id=some o):id<n/\h.obj id=some o:=by
 simp only[Dz]at ho;split at ho
 ·rename_i hn;exact⟨hn,ho⟩
 ·cases ho
theorem Wk.drop{s:AE}{h:A0}{n:Nat}{l:List (Nat × PV)}(hn:n<=h.next)(hf: ∀ x∈l,AI n h x.2 (s x.1)):Wk s h (DT l s) (Dz n h):=by
 intro β w sm;have hsome: ∀ id,((Dz n h).obj id).isSome=true->id<n/\(h.obj id).isSome=true:=λid hid=>by
  obtain⟨o,ho⟩:=Jl.1 hid;obtain⟨h1,h2⟩:=UW ho;exact⟨h1,by rw[h2];try rfl⟩
 have hF: ∀ b,Fz β h w b->Fz β (Dz n h) w b:=λb hb=>⟨hb.1,λid hid=>hb.2.1 id (hsome id hid).2,hb.2.2⟩;have hB: ∀ id b,n<=id->(h.obj id).isSome=true->(β id).b=some b->Fz β (Dz n h) w b:=by
  intro id b hid hs hb;obtain⟨o,hoo⟩:=Jl.1 hs;refine⟨sm.Jm hoo hb,λj hj hjb=>?_,sm.nx id hs b hb⟩;obtain⟨h1,h2⟩:=hsome j hj;have:=sm.inj id j hs h2 b hb hjb;omega
 have mv:Mv β h.next (Fz β h w) w β (Dz n h).next (Fz β (Dz n h) w) w:=⟨AG _,λ_ _ _=>rfl,λb hb=>⟨hF b hb,rfl⟩⟩
 have mv2:Mv β n (Fz β (Dz n h) w) w β (Dz n h).next (Fz β (Dz n h) w) w:=⟨hn,λ_ _ _=>rfl,λb hb=>⟨hb,rfl⟩⟩
 refine⟨⟨λid hid=>sm.lt id (hsome id hid).2,λid o ho=>BN.mv mv (λ_ _=>rfl) (sm.ok id o (UW ho).2),λi j hi hj=>sm.inj i j (hsome i hi).2 (hsome j hj).2,sm.xs,λid hid=>sm.nx id (hsome id hid).2⟩,
  ⟨rfl,rfl,rfl,AG _,AG _,λ_ _=>rfl,rfl,λ_ _ _=>rfl,λb hb=>⟨hF b hb,rfl⟩⟩,?_⟩
 induction l with
 |nil=>intro t x hr;exact AA.mv mv _ _ hr
 |cons a l ih=>
  intro t x hr;simp only[DT,Ci];split
  ·rename_i he;subst he;exact AA.mv mv2 _ _ (AI.rep sm hF hB _ _ _ (hf a (List.mem_cons_self ..)) hr)
  ·exact ih (λy hy=>hf y (List.mem_cons_of_mem _ hy)) t x hr
theorem Jz{P:Program}{ow:Nat->Bool}{wf:FuncId->Bool}{m:Nat}{c:Code}{Q:BU}{s:AE}{h:A0}(n:Nat)(l:List (Nat × PV))(hc:Km c=true)(hn:n<=h.next)(hf: ∀ x∈l,AI n h x.2 (s x.1))(hw:Ar P ow wf m c Q (DT l s) (Dz n h)):Ar P ow wf m c Q s h:=UT hc (Wk.drop hn hf) hw
theorem eu{α β:Type}{a:α}{b:β}{Q:α->β->Prop}:(∃ v h',(a=v/\b=h')/\Q v h')↔Q a b:=
 ⟨λ⟨_,_,⟨rfl,rfl⟩,q⟩=>q,λq=>⟨a,b,⟨rfl,rfl⟩,q⟩⟩
theorem ew{α:Type}{A:Nat × α->Prop}{ops:List Oper}{k:Nat}{R:Prop}{l:List (Nat × α)}(is:List Nat)(h1:l.map (·.1)=is)(h2:is.all (λi=>pre ops i k)=true)(h3:R):(∀ x∈l,pre ops x.1 k=true\/A x)/\R:=
 ⟨λx hx=> .inl (List.all_eq_true.1 h2 x.1 (by rw[← h1];exact List.mem_map_of_mem hx)),h3⟩
theorem RT{α:Type}{A:Nat × α->Prop}{ops:List Oper}{k:Nat}{R:Prop}{l:List (Nat × α)}(h1: ∀ x∈l,pre ops x.1 k=true\/A x)(h3:R):(∀ x∈l,pre ops x.1 k=true\/A x)/\R:=⟨h1,h3⟩
def Pg(h h':A0):Prop:=h.next<=h'.next/\ ∀ id,id<h.next->h'.obj id=h.obj id
theorem ez{h h':A0}{i:Nat}(hi:h.next<=i)(hk:Pg h h'):Pg h (h'.kill i):=by
 refine⟨by rw[US];exact hk.1,λid hid=>?_⟩;rw[RN,A7 (by omega)];exact hk.2 id hid
theorem fA(a b:Int):NU .u64 a b=IntKind.u64.wrap (((BitVec.ofInt 64 a&&&BitVec.ofInt 64 b).toNat:Nat):Int):=rfl
theorem fB(a b:Int):NV .u64 a b=IntKind.u64.wrap (((BitVec.ofInt 64 a|||BitVec.ofInt 64 b).toNat:Nat):Int):=rfl
theorem fC(a b:Int):NW .u64 a b=IntKind.u64.wrap (((BitVec.ofInt 64 a ^^^ BitVec.ofInt 64 b).toNat:Nat):Int):=rfl
theorem fD(a b:Int):NX .u64 a b=IntKind.u64.wrap (((BitVec.ofInt 64 a&&& ~~~ BitVec.ofInt 64 b).toNat:Nat):Int):=rfl
theorem fE(a b:Int):NU .i64 a b=IntKind.i64.wrap (((BitVec.ofInt 64 a&&&BitVec.ofInt 64 b).toNat:Nat):Int):=rfl
theorem fF(a b:Int):NV .i64 a b=IntKind.i64.wrap (((BitVec.ofInt 64 a|||BitVec.ofInt 64 b).toNat:Nat):Int):=rfl
theorem fG(a b:Int):NW .i64 a b=IntKind.i64.wrap (((BitVec.ofInt 64 a ^^^ BitVec.ofInt 64 b).toNat:Nat):Int):=rfl
theorem fH(a b:Int):NX .i64 a b=IntKind.i64.wrap (((BitVec.ofInt 64 a&&& ~~~ BitVec.ofInt 64 b).toNat:Nat):Int):=rfl
theorem fI(a b:Int):NU .u8 a b=IntKind.u8.wrap (((BitVec.ofInt 8 a&&&BitVec.ofInt 8 b).toNat:Nat):Int):=rfl
theorem fJ(a b:Int):NV .u8 a b=IntKind.u8.wrap (((BitVec.ofInt 8 a|||BitVec.ofInt 8 b).toNat:Nat):Int):=rfl
theorem fK(a b:Int):NW .u8 a b=IntKind.u8.wrap (((BitVec.ofInt 8 a ^^^ BitVec.ofInt 8 b).toNat:Nat):Int):=rfl
theorem fL(a b:Int):NX .u8 a b=IntKind.u8.wrap (((BitVec.ofInt 8 a&&& ~~~ BitVec.ofInt 8 b).toNat:Nat):Int):=rfl
end Go.AM
namespace Go.AM
structure Pm where
 name:ByteArray
 type:ByteArray
inductive Ex where
 |mk(op name:ByteArray)(n:Int)(args:List ByteArray)(kids:List Ex)
inductive Fm where
 |mk(op name:ByteArray)(args:List ByteArray)(params:List Pm)(exprs:List Ex)(kids:List Fm)
abbrev A3(s:ByteArray):PV:= .sc (.string s)
abbrev qK(n:Int):PV:= .sc (.int .i64 n)
def AL(l:List ByteArray):List (List PV):=l.map λs=>[A3 s]
def Ir(p:Pm):List PV:=[A3 p.name,A3 p.type]
def A8(l:List Pm):List (List PV):=l.map Ir
theorem Gz(l:List Pm):(A8 l).length=l.length:=by simp[A8]
theorem Nr{l:List Pm}{i:Nat}{p:Pm}(h:l[i]? =some p):(A8 l)[i]? =some [A3 p.name,A3 p.type]:=by simp[A8,h,Ir]
mutual
def Ex.cells:Ex->List PV
 | .mk op name n args kids=>[A3 op,A3 name,qK n,.A1 1 (AL args),.A1 5 (Ex.rows kids)]
def Ex.rows:List Ex->List (List PV)
 |[]=>[]
 |k::ks=>k.cells::Ex.rows ks
end
mutual
def Fm.cells:Fm->List PV
 | .mk op name args params exprs kids=>[A3 op,A3 name,.A1 1 (AL args),.A1 2 (A8 params),.A1 5 (Ex.rows exprs),.A1 6 (Fm.rows kids)]
def Fm.rows:List Fm->List (List PV)
 |[]=>[]
 |k::ks=>k.cells::Fm.rows ks
end
theorem Ex.rows_map: ∀ l:List Ex,Ex.rows l=l.map Ex.cells
 |[]=>rfl
 |k::ks=>by simp[Ex.rows,Ex.rows_map ks]
theorem Fm.rows_map: ∀ l:List Fm,Fm.rows l=l.map Fm.cells
 |[]=>rfl
 |k::ks=>by simp[Fm.rows,Fm.rows_map ks]
mutual
def Ex.size:Ex->Int
 | .mk _ _ _ _ kids=>Ex.EJ 1 kids
def Ex.EJ(n:Int):List Ex->Int
 |[]=>n
 |k::ks=>Ex.EJ (IntKind.i64.wrap (n+k.size)) ks
end
mutual
def Fm.size:Fm->Int
 | .mk _ _ _ _ exprs kids=>Fm.EJ (Ex.EJ 1 exprs) kids
def Fm.EJ(n:Int):List Fm->Int
 |[]=>n
 |k::ks=>Fm.EJ (IntKind.i64.wrap (n+k.size)) ks
end
def A2(a b:ByteArray):Bool:=a.data.toList==b.data.toList
def FX:List ByteArray->List ByteArray->Bool
 |[],[]=>true
 |a::l,b::m=>A2 a b&&FX l m
 |_,_=>false
def RU(a b:Pm):Bool:=A2 a.name b.name&&A2 a.type b.type
def Dq:List Pm->List Pm->Bool
 |[],[]=>true
 |a::l,b::m=>RU a b&&Dq l m
 |_,_=>false
mutual
def Ex.same:Ex->Ex->Bool
 | .mk op name n args kids,.mk op' name' n' args' kids'=>A2 op op'&&A2 name name'&&n==n'&&FX args args'&&Ex.DO kids kids'
def Ex.DO:List Ex->List Ex->Bool
 |[],[]=>true
 |a::l,b::m=>a.same b&&Ex.DO l m
 |_,_=>false
end
mutual
def Fm.same:Fm->Fm->Bool
 | .mk op name args params exprs kids,.mk op' name' args' params' exprs' kids'=>A2 op op'&&A2 name name'&&FX args args'&&Dq params params'&&Ex.DO exprs exprs'&&Fm.DO kids kids'
def Fm.DO:List Fm->List Fm->Bool
 |[],[]=>true
 |a::l,b::m=>a.same b&&Fm.DO l m
 |_,_=>false
end
theorem Ex.B3(l:List Ex):(Ex.rows l).length=l.length:=by simp[Ex.rows_map]
theorem Fm.B3(l:List Fm):(Fm.rows l).length=l.length:=by simp[Fm.rows_map]
theorem Ex.CG{l:List Ex}{i:Nat}{k:Ex}(h:l[i]? =some k):(Ex.rows l)[i]? =some k.cells:=by simp[Ex.rows_map,h]
theorem Fm.CG{l:List Fm}{i:Nat}{k:Fm}(h:l[i]? =some k):(Fm.rows l)[i]? =some k.cells:=by simp[Fm.rows_map,h]
theorem Ex.ind{C:Ex->Prop}(hC: ∀ op name n args kids,(∀ k∈kids,C k)->C (.mk op name n args kids)): ∀ e,C e
 | .mk op name n args kids=>hC op name n args kids λk hk=>Ex.ind hC k
termination_by e=>SizeOf.sizeOf e
decreasing_by
 have:=List.sizeOf_lt_of_mem hk;simp only[Ex.mk.sizeOf_spec];omega
theorem Fm.ind{C:Fm->Prop}(hC: ∀ op name args params exprs kids,(∀ k∈kids,C k)->C (.mk op name args params exprs kids)): ∀ f,C f
 | .mk op name args params exprs kids=>hC op name args params exprs kids λk hk=>Fm.ind hC k
termination_by f=>SizeOf.sizeOf f
decreasing_by
 have:=List.sizeOf_lt_of_mem hk;simp only[Fm.mk.sizeOf_spec];omega
theorem Ex.P5: ∀ (l m:List Ex)(n:Int),Ex.EJ n (l++m)=Ex.EJ (Ex.EJ n l) m
 |[],m,n=>by simp[Ex.EJ]
 |k::l,m,n=>by simp only[List.cons_append,Ex.EJ];exact Ex.P5 l m _
theorem Fm.P5: ∀ (l m:List Fm)(n:Int),Fm.EJ n (l++m)=Fm.EJ (Fm.EJ n l) m
 |[],m,n=>by simp[Fm.EJ]
 |k::l,m,n=>by simp only[List.cons_append,Fm.EJ];exact Fm.P5 l m _
theorem Ex.Qo{l:List Ex}{i:Nat}{k:Ex}(n:Int)(h:l[i]? =some k):Ex.EJ n (l.take (i+1))=IntKind.i64.wrap (Ex.EJ n (l.take i)+k.size):=by
 rw[List.take_add_one,h,Ex.P5];try rfl
theorem Fm.Qo{l:List Fm}{i:Nat}{k:Fm}(n:Int)(h:l[i]? =some k):Fm.EJ n (l.take (i+1))=IntKind.i64.wrap (Fm.EJ n (l.take i)+k.size):=by
 rw[List.take_add_one,h,Fm.P5];try rfl
theorem Ex.P6: ∀ {l m:List Ex},¬ l.length=m.length->Ex.DO l m=false
 |[],[],h=>by simp at h
 |[],_::_,_=>rfl
 |_::_,[],_=>rfl
 |a::l,b::m,h=>by simp only[Ex.DO,Ex.P6 (l:=l) (m:=m) (by simpa using h),BA]
theorem Fm.P6: ∀ {l m:List Fm},¬ l.length=m.length->Fm.DO l m=false
 |[],[],h=>by simp at h
 |[],_::_,_=>rfl
 |_::_,[],_=>rfl
 |a::l,b::m,h=>by simp only[Fm.DO,Fm.P6 (l:=l) (m:=m) (by simpa using h),BA]
def AF:Nat:=1152921504606846976
mutual
def Ex.ok:Ex->Prop
 | .mk op name n args kids=>op.size<=AF/\name.size<=AF/\(-9223372036854775808<=n/\n<=9223372036854775807)/\(args.length<=AF/\ ∀ a∈args,a.size<=AF)/\kids.length<=AF/\Ex.DK kids
def Ex.DK:List Ex->Prop
 |[]=>True
 |k::ks=>k.ok/\Ex.DK ks
end
def Pm.ok(p:Pm):Prop:=p.name.size<=AF/\p.type.size<=AF
mutual
def Fm.ok:Fm->Prop
 | .mk op name args params exprs kids=>op.size<=AF/\name.size<=AF/\(args.length<=AF/\ ∀ a∈args,a.size<=AF)/\(params.length<=AF/\ ∀ p∈params,p.ok)/\(exprs.length<=AF/\Ex.DK exprs)/\kids.length<=AF/\Fm.DK kids
def Fm.DK:List Fm->Prop
 |[]=>True
 |k::ks=>k.ok/\Fm.DK ks
end
theorem Ex.Bs:{l:List Ex}->(Ex.DK l↔ ∀ k∈l,k.ok)
 |[]=>by simp[Ex.DK]
 |k::ks=>by simp[Ex.DK,Ex.Bs (l:=ks)]
theorem Fm.Bs:{l:List Fm}->(Fm.DK l↔ ∀ k∈l,k.ok)
 |[]=>by simp[Fm.DK]
 |k::ks=>by simp[Fm.DK,Fm.Bs (l:=ks)]
structure AH(h h':A0):Prop where
 le:h.next<=h'.next
 B1: ∀ id,id<h.next->h'.obj id=h.obj id
theorem AH.refl(h:A0):AH h h:=⟨AG _,λ_ _=>rfl⟩
theorem AH.new{h h':A0}(g:AH h h')(o:Am):AH h (h'.new o):=
 ⟨ER g.le (by simp[A0.new]),λid hid=>by simp only[A0.new];rw[A7 (by have:=g.le;omega)];exact g.B1 id hid⟩
theorem AH.set{h h':A0}(g:AH h h'){id:Nat}(hid:h.next<=id)(o:Am):AH h (h'.set id o):=
 ⟨g.le,λi hi=>by simp only[A0.set];rw[A7 (by omega)];exact g.B1 i hi⟩
theorem AH.kill{h h':A0}(g:AH h h'){id:Nat}(hid:h.next<=id):AH h (h'.kill id):=
 ⟨g.le,λi hi=>by simp only[A0.kill];rw[A7 (by omega)];exact g.B1 i hi⟩
theorem A6.quiet{P:Program}{f:FuncId}{args:List PV}{h:A0}{v:Value}(hb:Ab P f=true)(hc:A6 P f args h λr h'=>r= .sc v/\AH h h'):A6 P f args h λr h'=>r= .sc v/\h'=h:=by
 refine JJ hb λhw=>A6.drop (hc.mono ?_);rintro r h' ⟨rfl,g⟩;refine⟨.sc v,h,⟨rfl,rfl⟩,by simp only[AI],AG _,λid o ho=>?_⟩;have hid:=hw id (by rw[ho];try rfl);exact⟨by rw[g.B1 id hid];exact ho,hid,.inl ho⟩
theorem K0{P:Program}{ow:Nat->Bool}{n:Nat}{s:AE}{h:A0}{f:FuncId}{fo:Operand}{dst:Option Tmp}{args:List Operand}{ts:Array TypeId}{ty:TypeId}{pos:String}{af:Array Edge}{gd:Option (Nat × Bool)}{ags:List PV}{v:PV}{K:AE->A0->Prop}{ops rest:List Oper}
  (hf:A9 s fo= .sc (.func (.func f) #[] #[]))(hc:A6 P f ags h λr h'=>r=v/\h'=h)(ha:args.map (A9 s)=ags)(hk:EN P ow n ops rest K (Ak s dst v) h):
  CY P ow {dst:=dst,op:= .call {callee:= .value fo,args:=args.toArray,argTypes:=ts},type:=ty,pos:=pos,after:=af,guard:=gd} (Et P ow n ops rest K) s h:=by
 unfold CY;simp only[callee,hf,KV,AO];rw[ha];exact hc.mono λr h' hr=>by rw[hr.1,hr.2];exact Jy _ _ _ hk
end Go.AM
namespace Go.AM
variable {i:Nat}
structure Ch where
 kind:Int
 params:List Pm
 cond:Fm
 name:ByteArray
 args:List ByteArray
 value:Ex
structure Pr where
 name:ByteArray
 params:List Pm
structure Fu where
 name:ByteArray
 params:List Pm
 lo:Int
 hi:Int
structure Ac where
 name:ByteArray
 params:List Pm
 cost:Int
 pre:Fm
 changes:List Ch
structure Du where
 name:ByteArray
 params:List Pm
 Dw:Int
 start:Fm
 over:Fm
 stop:Fm
 Bm:List Ch
 Bn:List Ch
structure Dm where
 name:ByteArray
 types:List Pm
 constants:List Pm
 Ay:List Pr
 Au:List Fu
 Av:List Ac
 B0:List Du
def CZ(c:Ch):List PV:=[qK c.kind,.A1 2 (A8 c.params)]++(c.cond.cells++([A3 c.name,.A1 1 (AL c.args)]++c.value.cells))
def Ag(l:List Ch):List (List PV):=l.map CZ
def E0(p:Pr):List PV:=[A3 p.name,.A1 2 (A8 p.params)]
def Bd(l:List Pr):List (List PV):=l.map E0
def E1(f:Fu):List PV:=[A3 f.name,.A1 2 (A8 f.params),qK f.lo,qK f.hi]
def BY(l:List Fu):List (List PV):=l.map E1
def DF(a:Ac):List PV:=[A3 a.name,.A1 2 (A8 a.params),qK a.cost]++(a.pre.cells++[.A1 15 (Ag a.changes)])
def BV(l:List Ac):List (List PV):=l.map DF
def DG(d:Du):List PV:=[A3 d.name,.A1 2 (A8 d.params),qK d.Dw]++(d.start.cells++(d.over.cells++(d.stop.cells++[.A1 15 (Ag d.Bm),.A1 15 (Ag d.Bn)])))
def BW(l:List Du):List (List PV):=l.map DG
def Dm.cells(d:Dm):List PV:=[A3 d.name,.A1 2 (A8 d.types),.A1 2 (A8 d.constants),.A1 2 (Bd d.Ay),.A1 4 (BY d.Au),.A1 10 (BV d.Av),.A1 23 (BW d.B0)]
theorem Kp(l:List Ch):(Ag l).length=l.length:=by simp[Ag]
theorem Ns{l:List Ch}{a:Ch}(h:l[i]? =some a):(Ag l)[i]? =some (CZ a):=by simp[Ag,h]
theorem Mm(l:List Pr):(Bd l).length=l.length:=by simp[Bd]
theorem RV{l:List Pr}{a:Pr}(h:l[i]? =some a):(Bd l)[i]? =some (E0 a):=by simp[Bd,h]
theorem Mn(l:List Fu):(BY l).length=l.length:=by simp[BY]
theorem RW{l:List Fu}{a:Fu}(h:l[i]? =some a):(BY l)[i]? =some (E1 a):=by simp[BY,h]
theorem Ln(l:List Ac):(BV l).length=l.length:=by simp[BV]
theorem Nt{l:List Ac}{a:Ac}(h:l[i]? =some a):(BV l)[i]? =some (DF a):=by simp[BV,h]
theorem Lo(l:List Du):(BW l).length=l.length:=by simp[BW]
theorem Nu{l:List Du}{a:Du}(h:l[i]? =some a):(BW l)[i]? =some (DG a):=by simp[BW,h]
structure Ch.ok(c:Ch):Prop where
 params:c.params.length<=AF/\ ∀ a∈c.params,a.ok
 cond:c.cond.ok
 args:c.args.length<=AF/\ ∀ a∈c.args,a.size<=AF
 value:c.value.ok
 name:c.name.size<=AF
 kind: -9223372036854775808<=c.kind/\c.kind<=9223372036854775807
def Chs.ok(l:List Ch):Prop:=l.length<=AF/\ ∀ a∈l,a.ok
structure Pr.ok(p:Pr):Prop where
 name:p.name.size<=AF
 params:p.params.length<=AF/\ ∀ a∈p.params,a.ok
structure Fu.ok(p:Fu):Prop where
 name:p.name.size<=AF
 params:p.params.length<=AF/\ ∀ a∈p.params,a.ok
 lo: -9223372036854775808<=p.lo/\p.lo<=9223372036854775807
 hi: -9223372036854775808<=p.hi/\p.hi<=9223372036854775807
structure Ac.ok(a:Ac):Prop where
 name:a.name.size<=AF
 params:a.params.length<=AF/\ ∀ p∈a.params,p.ok
 cost: -9223372036854775808<=a.cost/\a.cost<=9223372036854775807
 pre:a.pre.ok
 changes:Chs.ok a.changes
structure Du.ok(a:Du):Prop where
 name:a.name.size<=AF
 params:a.params.length<=AF/\ ∀ p∈a.params,p.ok
 Dw: -9223372036854775808<=a.Dw/\a.Dw<=9223372036854775807
 start:a.start.ok
 over:a.over.ok
 stop:a.stop.ok
 Bm:Chs.ok a.Bm
 Bn:Chs.ok a.Bn
structure Dm.ok(d:Dm):Prop where
 name:d.name.size<=AF
 types:d.types.length<=AF/\ ∀ a∈d.types,a.ok
 constants:d.constants.length<=AF/\ ∀ a∈d.constants,a.ok
 Ay:d.Ay.length<=AF/\ ∀ a∈d.Ay,a.ok
 Au:d.Au.length<=AF/\ ∀ a∈d.Au,a.ok
 Av:d.Av.length<=AF/\ ∀ a∈d.Av,a.ok
 B0:d.B0.length<=AF/\ ∀ a∈d.B0,a.ok
end Go.AM
namespace Go.AM
set_option maxRecDepth 20000
variable {P:Program}{ow:Nat->Bool}{s:AE}{h:A0}
def fM:=AY @ep @eu @UR @RN @ae @ah @US @aj @cw @cz @dA (AY @dB @dC @dD @dE @dF @dG @dH @dI @dJ @dK @dM (AY @dN @dO @dP @dQ @dR @dS @dT @dU @dV @dW @dX @dY))
def fN:=AY @dZ @db @de @dg @dh @dj @dm @dq @du @dw @dx (AY @dz @eA @eB @eC @eD @eE @eF @eG @eI @eJ @eK (AY @eL @eM @eN @eO @eQ @eR @eT @eU @eV @eW @eY @eZ))
def fO:=AY @ed @ee @ef @eg @bK @bM @bO @bQ @bS @bU @bW (AY @bY @bf @bh @bm @bp @bs @bu @bz @cC @cH @cJ (AY @cO @cR @cU @cX @cZ @cj @cq @ct @bL @bN @bP @bR))
def fP:=AY @bT @bV @bX @bZ @bg @bj @bo @bq @bt @bw @cB (AY @cF @cI @cM @cQ @cT @cV @cY @cg @cm @cr @cv (AY @bA @bB @bC @bD @bE @bF @bG @bH @ao @au @aw @az))
def fQ:=AY @C7 @Int.natCast_nonneg @Ba @Cw @Yw @Yp @ET @ES @KW @Option.bind_some.{0,0} @Option.bind_none.{0,0} (AY @Option.map_some.{0,0} @Option.map_none.{0,0} @Option.all_some.{0} @Option.all_none.{0} @Option.any_some.{0} @Option.any_none.{0} @Option.some.injEq.{0} @Prod.mk.injEq.{0,0} @List.map_cons.{0,0} @List.map_nil.{0,0} @List.length_cons.{0} (AY @List.length_nil.{0} @List.length_map.{0,0} @List.getD_cons_zero.{0} @List.getD_cons_succ.{0} @List.getElem?_cons_zero.{0} @List.getElem?_cons_succ.{0} @List.drop_zero.{0} @List.drop_succ_cons.{0} @List.drop_nil.{0} @List.take_zero.{0} @List.take_succ_cons.{0} @List.take_nil.{0}))
def fR:=AY @List.head?_cons.{0} @List.all_cons.{0} @List.all_nil.{0} @List.cons_append.{0} @List.nil_append.{0} @List.append_nil.{0} @List.replicate_succ.{0} @List.replicate_zero.{0} @List.set_cons_zero.{0} @List.set_cons_succ.{0} @TP (AY @Qi @Dp @Dh @GD @Cx @Cm @B7 @BA @B5 @Ax @CB (AY @BQ @Do @Fk @and_false @false_and @KV @or_true @true_or @FF @false_or @List.not_mem_nil.{0} @false_implies))
def fS:=AU @MT @dy @List.getElem?_map.{0,0}
def fU:=AY @fA @fB @fC @fD @fE @fF @fG @fH @fI @fJ @fK @fL
def fV:=Ae @beq_iff_eq.{0} @bne_iff_ne.{0} @ne_eq.{1} @beq_eq_false_iff_ne.{0} @beq_self_eq_true.{0}
def DD:=AY @ES @ET @Ba @Cw @EH @TQ @AV @TR @EI @Bool.not_eq_false' @Yw (DX @Yp @bne_iff_ne.{0} @bne_eq_false_iff_eq.{0} @beq_iff_eq.{0} @beq_eq_false_iff_ne.{0} @ne_eq.{1} @gt_iff_lt.{0} @ge_iff_le.{0} @Int.not_lt @Int.not_le @KW)
section
variable {K:AE->A0->Prop}{Q:BU}{i j:Nat}
theorem fW:BU.seq K Q .normal s h=K s h:=rfl
theorem fY:BU.seq K Q .ret s h=Q .ret s h:=rfl
theorem fZ:BU.seq K Q (.exit i) s h=Q (.exit i) s h:=rfl
theorem fb:BU.block j Q .normal s h=Q .normal s h:=rfl
theorem fg:BU.block j Q .ret s h=Q .ret s h:=rfl
theorem fi:BU.block j Q (.exit i) s h=if i=j then Q .normal s h else Q (.exit i) s h:=rfl
end
def At:=Ah @fW @fY @fZ @fb @fg @fi
end Go.AM
namespace Go.AM
set_option maxRecDepth 20000
def fj:=AY @Go.undef.eq_1 @Go.AM.EN.eq_1 @Go.AM.EN.eq_2 @Go.AM.FH.eq_1 @Go.AM.FH.eq_2 @Go.AM.callee.eq_1 @Go.AM.callee.eq_2 @Go.AM.D4.eq_1 @Go.AM.BL.eq_1 @Go.AM.AZ.eq_1 @Go.AM.AZ.eq_2 (AY @Go.AM.AZ.eq_3 @Go.AM.AZ.eq_4 @Go.AM.AZ.eq_5 @Go.AM.AZ.eq_6 @Go.AM.AZ.eq_7 @Go.AM.AZ.eq_8 @Go.AM.AZ.eq_9 @Go.AM.AZ.eq_10 @Go.AM.AZ.eq_11 @Go.AM.AZ.eq_12 @Go.AM.AZ.eq_13 (AY @Go.AM.AZ.eq_14 @Go.AM.AZ.eq_15 @Go.AM.AZ.eq_16 @Go.AM.AZ.eq_17 @Go.AM.AZ.eq_18 @Go.AM.AZ.eq_19 @Go.AM.AZ.eq_20 @Go.AM.AZ.eq_21 @Go.AM.AZ.eq_22 @Go.AM.AZ.eq_23 @Go.AM.AZ.eq_24 (AW @Go.AM.AZ.eq_25 @Go.AM.AZ.eq_26 @Go.AM.AZ.eq_27 @Go.AM.AZ.eq_28)))
def fm:=AY @Go.AM.A9.eq_1 @Go.AM.A9.eq_2 @Go.AM.A9.eq_3 @Go.AM.A9.eq_4 @Go.AM.Ip.eq_1 @Go.AM.Ip.eq_2 @Go.AM.Ip.eq_3 @Go.AM.HH.eq_1 @Go.AM.HH.eq_2 @Go.AM.Lf.eq_1 @Go.AM.Lf.eq_2 (AY @Go.AM.Gx.eq_1 @Go.AM.Gx.eq_2 @Go.AM.Gw.eq_1 @Go.AM.Gw.eq_2 @Go.AM.JF.eq_1 @Go.AM.Jo.eq_1 @Go.AM.Ik.eq_1 @Go.AM.Ik.eq_2 @Go.AM.Ik.eq_3 @Go.AM.Ik.eq_4 @Go.AM.Ik.eq_5 (AY @Go.AM.Ik.eq_6 @Go.AM.Ik.eq_7 @Go.AM.Kg.eq_1 @Go.AM.Kg.eq_2 @Go.AM.Kg.eq_3 @Go.AM.Kg.eq_4 @Go.AM.Il.eq_1 @Go.AM.Il.eq_2 @Go.AM.Il.eq_3 @Go.AM.Ee.eq_1 @Go.AM.Ee.eq_2 (Ah @Go.AM.Ee.eq_3 @Go.AM.Ee.eq_4 @Go.AM.Ee.eq_5 @Go.AM.Ee.eq_6 @Go.AM.Ee.eq_7 @Go.AM.Ee.eq_8)))
def fp:=AY @Go.AM.Ee.eq_9 @Go.AM.Ee.eq_10 @Go.AM.Ee.eq_11 @Go.AM.Ee.eq_12 @Go.AM.Ee.eq_13 @Go.AM.Ee.eq_14 @Go.AM.Ee.eq_15 @Go.AM.EA.eq_1 @Go.AM.EA.eq_2 @Go.AM.EA.eq_3 @Go.AM.EA.eq_4 (AY @Go.AM.EA.eq_5 @Go.AM.EA.eq_6 @Go.AM.EA.eq_7 @Go.AM.EA.eq_8 @Go.AM.EA.eq_9 @Go.AM.EA.eq_10 @Go.AM.EA.eq_11 @Go.AM.EA.eq_12 @Go.AM.EA.eq_13 @Go.AM.EA.eq_14 @Go.AM.EA.eq_15 (AY @Go.AM.EA.eq_16 @Go.AM.La.eq_1 @Go.AM.La.eq_2 @Go.AM.La.eq_3 @Go.AM.IB.eq_1 @Go.AM.IB.eq_2 @Go.AM.IB.eq_3 @Go.AM.IB.eq_4 @Go.AM.IB.eq_5 @Go.AM.IB.eq_6 @Go.AM.IB.eq_7 (Ad @Go.AM.IB.eq_8 @Go.AM.Lb.eq_1 @Go.AM.Lb.eq_2 @Go.AM.Lb.eq_3 @Go.AM.Lb.eq_4 @Go.AM.MX.eq_1 @Go.AM.MX.eq_2)))
def fq:=AY @Go.AM.MX.eq_3 @Go.AM.Ij.eq_1 @Go.AM.Ij.eq_2 @Go.AM.Ij.eq_3 @Go.AM.Fl.eq_1 @Go.AM.Fl.eq_2 @Go.AM.Ld.eq_1 @Go.AM.Mb.eq_1 @Go.AM.Mb.eq_2 @Go.AM.IC.eq_1 @Go.AM.IC.eq_2 (AY @Go.AM.Hf.eq_1 @Go.AM.Hf.eq_2 @Go.AM.Jq.eq_1 @Go.AM.Jq.eq_2 @Go.AM.G6.eq_1 @Go.AM.G6.eq_2 @Go.AM.G6.eq_3 @Go.AM.G6.eq_4 @Go.AM.ID.eq_1 @Go.AM.ID.eq_2 @Go.AM.ID.eq_3 (AY @Go.AM.ID.eq_4 @Go.AM.Hg.eq_1 @Go.AM.Hg.eq_2 @Go.AM.IE.eq_1 @Go.AM.IE.eq_2 @Go.AM.IF.eq_1 @Go.AM.IF.eq_2 @Go.AM.Jp.eq_1 @Go.AM.Jp.eq_2 @Go.IntKind.bits.eq_1 @Go.IntKind.bits.eq_2 (Ah @Go.IntKind.bits.eq_3 @Go.IntKind.bits.eq_4 @Go.IntKind.bits.eq_5 @Go.IntKind.bits.eq_6 @Go.IntKind.bits.eq_7 @Go.IntKind.bits.eq_8)))
def w0:=AY @fM @fN @fO @fP @fQ @fR @fS @fU @fV @At @fj (BJ @fm @fp @fq @forall_const.{0} @forall_const.{1} @exists_eq_left'.{1} @implies_true.{0} @implies_true.{1})
end Go.AM
