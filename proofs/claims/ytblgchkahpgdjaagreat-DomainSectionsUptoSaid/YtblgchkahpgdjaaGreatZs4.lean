/- What the claim rests on, part 4: the abstract machine, contracts of the functions, plain data. -/
import Derived.Orders
import Derived.Test.YtblgchkahpgdjaaGreatZs3
set_option linter.unusedVariables false
set_option linter.defProp false
set_option linter.unusedSimpArgs false
set_option linter.unusedSectionVars false
namespace Go.AM
section
variable{a1 a2 a3 a4 a5 a6 a7 a8 a9 a10 a11 a12:Prop}
theorem uu(x1:a1)(x2:a2):a1/\a2:=⟨x1,x2⟩
theorem AY(x1:a1)(x2:a2)(x3:a3):a1/\a2/\a3:=⟨x1,x2,x3⟩
theorem Aa(x1:a1)(x2:a2)(x3:a3)(x4:a4):a1/\a2/\a3/\a4:=⟨x1,x2,x3,x4⟩
theorem Ak(x1:a1)(x2:a2)(x3:a3)(x4:a4)(x5:a5):a1/\a2/\a3/\a4/\a5:=⟨x1,x2,x3,x4,x5⟩
theorem Al(x1:a1)(x2:a2)(x3:a3)(x4:a4)(x5:a5)(x6:a6):a1/\a2/\a3/\a4/\a5/\a6:=⟨x1,x2,x3,x4,x5,x6⟩
theorem Ah(x1:a1)(x2:a2)(x3:a3)(x4:a4)(x5:a5)(x6:a6)(x7:a7):a1/\a2/\a3/\a4/\a5/\a6/\a7:=⟨x1,x2,x3,x4,x5,x6,x7⟩
theorem BT(x1:a1)(x2:a2)(x3:a3)(x4:a4)(x5:a5)(x6:a6)(x7:a7)(x8:a8):a1/\a2/\a3/\a4/\a5/\a6/\a7/\a8:=⟨x1,x2,x3,x4,x5,x6,x7,x8⟩
theorem BO(x1:a1)(x2:a2)(x3:a3)(x4:a4)(x5:a5)(x6:a6)(x7:a7)(x8:a8)(x9:a9):a1/\a2/\a3/\a4/\a5/\a6/\a7/\a8/\a9:=⟨x1,x2,x3,x4,x5,x6,x7,x8,x9⟩
theorem B9(x1:a1)(x2:a2)(x3:a3)(x4:a4)(x5:a5)(x6:a6)(x7:a7)(x8:a8)(x9:a9)(x10:a10):a1/\a2/\a3/\a4/\a5/\a6/\a7/\a8/\a9/\a10:=⟨x1,x2,x3,x4,x5,x6,x7,x8,x9,x10⟩
theorem EI(x1:a1)(x2:a2)(x3:a3)(x4:a4)(x5:a5)(x6:a6)(x7:a7)(x8:a8)(x9:a9)(x10:a10)(x11:a11):a1/\a2/\a3/\a4/\a5/\a6/\a7/\a8/\a9/\a10/\a11:=⟨x1,x2,x3,x4,x5,x6,x7,x8,x9,x10,x11⟩
theorem Ab(x1:a1)(x2:a2)(x3:a3)(x4:a4)(x5:a5)(x6:a6)(x7:a7)(x8:a8)(x9:a9)(x10:a10)(x11:a11)(x12:a12):a1/\a2/\a3/\a4/\a5/\a6/\a7/\a8/\a9/\a10/\a11/\a12:=⟨x1,x2,x3,x4,x5,x6,x7,x8,x9,x10,x11,x12⟩
end
end Go.AM
namespace Go.AM
section
variable {P:Program}{ow:Nat->Bool}{wf:FuncId->Bool}{n:Nat}{ops:List Oper}{base:Nat}{sk:Nat->AD}{hk:Nat->A1}{vk:Nat->PV}{lt:Nat->Option (Nat × An)}{br:Nat->Bool}
theorem UJ{H:A1}:BE H []=H:=GN rfl λj=>by simp[BE]
theorem aF(hd:Hh ops)(tr:DP P ow wf n ops base sk hk vk lt br)(h0: ∀ f,(hk 0).obj (base+f)=none){K:AD->A1->Prop}(hK:K (sk ops.length) (hk ops.length)){β0:BK}{hb:A1}{w0:World}(hbn:hb.next<=base){Q:Exit->Act->World->Prop}
  (hk': ∀ a' w',To n β0 hb w0 K a' w'->Q .normal a' w'):
  ∀ (fuel:Nat)(listed:Array Bool)(β:BK)(a:Act)(w:World),listed.size=ops.length->IF ops (λj=>listed.getD j false)->FM (λj=>listed.getD j false) ops.length<=fuel->
   St n β (CE ops sk λj=>listed.getD j false) (Hs lt br ops hk λj=>listed.getD j false) a w->
   BS β0 hb w0 β (Hs lt br ops hk λj=>listed.getD j false) w->
   base+ops.length<=(Hs lt br ops hk λj=>listed.getD j false).next->
   (∀ f,f<ops.length->listed.getD f false=false->(β (base+f)).b=none)->wpAny P .any ops.toArray Q fuel listed a w:=by
 have D9: ∀ (listed:Array Bool)(β:BK)(a:Act)(w:World),(∀ j,j<ops.length->listed.getD j false=true)->
   St n β (CE ops sk λj=>listed.getD j false) (Hs lt br ops hk λj=>listed.getD j false) a w->
   BS β0 hb w0 β (Hs lt br ops hk λj=>listed.getD j false) w->Q .normal a w:=by
  intro listed β a w hall st ex;have e1:CE ops sk (λj=>listed.getD j false)=sk ops.length:=by
   funext t;obtain⟨h1,h2,h3⟩:=GC (λj=>listed.getD j false&&Cz ops t j) ops.length;unfold CE;generalize Dy (λj=>listed.getD j false&&Cz ops t j) ops.length=m at*;have:=tr.JF (t:=t) (i:=m) (ops.length-m) (by omega) (λj h5 h6=>by
    have:=h3 j h5 (by omega);rw[hall j (by omega),BG]at this;exact this)
   rw[show m+(ops.length-m)=ops.length by omega]at this;exact this.symm
  have e2:Hs lt br ops hk (λj=>listed.getD j false)=hk ops.length:=by
   have hM:MB br ops (λj=>listed.getD j false)<=ops.length:=Jx;have h1:=tr.NL (M:=MB br ops (λj=>listed.getD j false)) (ops.length-MB br ops (λj=>listed.getD j false)) (by omega) (λj a c=>Nj a (by omega) (hall j (by omega)));rw[show MB br ops (λj=>listed.getD j false)+(ops.length-MB br ops (λj=>listed.getD j false))=ops.length by omega]at h1;have hdl:dl lt br ops (λj=>listed.getD j false)=[]:=by
    apply List.eq_nil_iff_forall_not_mem.2;intro id hid;obtain⟨f,q,k1,k2,k3,_⟩:=IH.1 hid;have hh:listed.getD f false=true:=hall f k1;simp only[hh]at k3;simp at k3
   unfold Hs;rw[hdl,h1,UJ];unfold Xs;exact Mg _ λf hf _=>by
    have hh:listed.getD f false=true:=hall f hf;simp only[hh,Ck]
  rw[e1,e2]at st;rw[e2]at ex;exact hk' a w ⟨_,_,β,hK,st,ex⟩
 have rdy: ∀ (listed:Array Bool)(i:Nat),listed.size=ops.length->IF ops (λj=>listed.getD j false)->i∈Region.ready .any ops.toArray listed-> ∃ o,C8 ops (λj=>listed.getD j false) i o:=by
  intro listed i hsz hc hi;simp only[Region.ready,List.mem_filter,List.mem_range,List.size_toArray,AV,EF,List.getElem?_toArray]at hi;obtain⟨h1,h2,h3⟩:=hi;rw[List.getElem?_eq_getElem h1]at h3;simp only[Bs,B8,Om,ED,EF]at h3;refine⟨_,List.getElem?_eq_getElem h1,?_,hc,λe he hb=>?_⟩
  ·rw [DX,NI (by omega)]at h2⊢;simpa using h2
  ·rcases h3 e (I6.1 he)with h4|h4
   ·rw [hb]at h4;simp at h4
   ·exact h4
 have noRdy: ∀ (listed:Array Bool),listed.size=ops.length->Region.ready .any ops.toArray listed=[]-> ∀ j,j<ops.length->listed.getD j false=true:=by
  intro listed hsz hr j
  induction j using Nat.strongRecOn with
  |_ j ih=>
   intro hj;cases hs:listed.getD j false with
   |true=>rfl
   |false=>
    have hm:j∈Region.ready .any ops.toArray listed:=by
     simp only[Region.ready,List.mem_filter,List.mem_range,List.size_toArray,AV,EF,List.getElem?_toArray];refine⟨hj,?_,?_⟩
     ·rw [DX,NI (by omega)]at hs⊢;simpa using hs
     ·rw [List.getElem?_eq_getElem hj];simp only[Bs,B8,Om,ED,EF];intro e he;cases hb:Region.binds .any e with
      |false=>exact .inl rfl
      |true=>
       have hlt:=hd.back j _ (List.getElem?_eq_getElem hj) e (I6.2 he) hb;exact .inr (ih e.on hlt (by omega))
    rw[hr]at hm;simp at hm
 intro fuel
 induction fuel with
 |zero=>
  intro listed β a w hsz hc hm st ex hnx hho;have hall:=PH (S:=λj=>listed.getD j false) ops.length (by omega);refine⟨?_,D9 listed β a w hall st ex⟩;apply List.eq_nil_iff_forall_not_mem.2;intro i hi;obtain⟨o,r⟩:=rdy listed i hsz hc hi;have:=hall i (List.getElem?_eq_some_iff.1 r.at_).1;have hn:=r.new;rw[this]at hn;simp at hn
 |succ fuel ih=>
  intro listed β a w hsz hc hm st ex hnx hho;refine⟨λhr=>D9 listed β a w (noRdy listed hsz hr) st ex,λi hi=>?_⟩;obtain⟨o,r⟩:=rdy listed i hsz hc hi;have hil:i<ops.length:=(List.getElem?_eq_some_iff.1 r.at_).1;have hs':(listed.setIfInBounds i true).getD i false=true:=by
   rw[DX,Yg (by omega)];try rfl
  have ho: ∀ j,j≠i->(listed.setIfInBounds i true).getD j false=listed.getD j false:=by
   intro j hj;rw[DX,MN (Ne.symm hj), ← DX]
  have hc':IF ops (λj=>(listed.setIfInBounds i true).getD j false):=by
   intro j q hq hj e he hb;by_cases heq:e.on=i
   ·simp only[heq];exact hs'
   ·simp only;rw[ho _ heq];by_cases hji:j=i
    ·subst hji;have:=r.at_;rw[hq]at this;simp at this;subst this;exact r.before e he hb
    ·simp only at hj;rw[ho j hji]at hj;exact hc j q hq hj e he hb
  have hm':FM (λj=>(listed.setIfInBounds i true).getD j false) ops.length<=fuel:=by
   have:=PG (S:=λj=>listed.getD j false) (S':=λj=>(listed.setIfInBounds i true).getD j false) r.new hs' (λj hj=>(ho j hj).symm) ops.length hil;omega
  obtain⟨hdst,b,hb,hb1,hb2⟩:=tr.step i o r.at_;have hlook: ∀ t,t∈Er ops o->CE ops sk (λj=>listed.getD j false) t=sk i t:=λt ht=>r.pA hd tr ht;have hwant:=PE st (o:=o) (ops:=ops) (by rw[R9 hlook];exact hb);have hnext:=λ{x:PV}(hx:sk (i+1)=Ai (sk i) o.dst x)=>r.pB (S':=λj=>(listed.setIfInBounds i true).getD j false) hd tr hs' ho hx;have ho2: ∀ j,j≠i->(λj=>(listed.setIfInBounds i true).getD j false) j=(λj=>listed.getD j false) j:=ho;have hho': ∀ f,f<ops.length->(listed.setIfInBounds i true).getD f false=false->f≠i/\(β (base+f)).b=none:=by
   intro f hf hfs;by_cases hfi:f=i
   ·rw [hfi,hs']at hfs;simp at hfs
   ·exact ⟨hfi,hho f hf (by rw[← ho f hfi];exact hfs)⟩
  unfold wpOp;simp only[List.getElem?_toArray,r.at_];rw[hwant];cases b with
  |false=>
   obtain⟨e1,e2,e3,e4⟩:=hb1 rfl;simp only[BR,AQ];have st':=st.undef (d:=o.dst) hdst;rw[hnext e1]at st';have eh:=UH (lt:=lt) (br:=br) (ops:=ops) (hk:=hk) e4 e3 ho2;exact ih _ β _ w (by simpa using hsz) hc' hm' (by rw[eh];exact st') (by rw[eh];exact ex) (by rw[eh];exact hnx) (λf hf hfs=>(hho' f hf hfs).2)
  |true=>
   obtain⟨e1,e2,e3⟩:=hb2 rfl;simp only[AO];left;have hops: ∀ t,.tmp t∈o.op.operands->sk i t=CE ops sk (λj=>listed.getD j false) t:=λt ht=>(hlook t (by
    simp only[Er,List.mem_append,List.mem_filterMap];exact .inl (.inl ⟨.tmp t,I6.2 ht,rfl⟩))).symm
   have fromTo: ∀ (β'':BK)(a':Act)(w':World),St n β'' (CE ops sk λj=>(listed.setIfInBounds i true).getD j false) (Hs lt br ops hk λj=>(listed.setIfInBounds i true).getD j false) a' w'->BS β (Hs lt br ops hk λj=>listed.getD j false) w β'' (Hs lt br ops hk λj=>(listed.setIfInBounds i true).getD j false) w'->wpAny P .any ops.toArray Q fuel (listed.setIfInBounds i true) a' w':=by
    intro β'' a' w' st'' ex'';refine ih _ β'' a' w' (by simpa using hsz) hc' hm' st'' (ex.trans ex'') (ES hnx ex''.next) (λf hf hfs=>?_);rw[ex''.beta _ (by omega)];exact(hho' f hf hfs).2
   cases hiw:BL ow wf o with
   |false=>
    obtain⟨g1,g2,g3,g4⟩:=e2 hiw;obtain⟨q1,q2⟩:=r.quiet hd tr g2;obtain⟨ll,hll,hdo⟩:=g4 _ q1;have q2:=q2 ll hll;have eh:=UH (lt:=lt) (br:=br) (ops:=ops) (hk:=hk) g3 g2 ho2;obtain⟨βX,stX,back⟩:=St.TP st.Bd.lt ll st;rw[q2]at stX back;refine Ar.wp stX hdst (Ld hops hdo) (λa' w' ht=>?_);obtain⟨s',h',β',⟨rfl,rfl⟩,st',ex'⟩:=ht;obtain⟨β'',st'',ex''⟩:=back β' _ _ a' w' st' ex' (λj hj _=>by simp only[gx,BE];rw[AK (by simpa using hj)]);rw[← q2,Zx]at st'' ex'';rw[hnext e1]at st'';exact fromTo β'' a' w' (by rw[eh];exact st'') (by rw[eh];exact ex'')
   |true=>
    rcases e3 hiw with⟨g1,g2,hdo,g4⟩|⟨g1,hA,ob,g2,g3,g4⟩|⟨g1,t,x,y,id,rr,ff,ob,hop,hx,g2,g3,g4,g5⟩
    ·obtain ⟨H',hdo,hH,hk1⟩:=hdo;obtain⟨q1,q3⟩:=r.pD (S':=λj=>(listed.setIfInBounds i true).getD j false) hd tr h0 g1 hH hk1 hs' ho2;obtain⟨βX,stX,back⟩:=St.TP st.Bd.lt (kx ow ops lt i) st;rw[q1]at stX back;refine Ar.wp stX hdst (Ld hops hdo) (λa' w' ht=>?_);obtain⟨s',h',β',⟨rfl,rfl⟩,st',ex'⟩:=ht;obtain⟨β'',st'',ex''⟩:=back β' _ _ a' w' st' ex' (λj hj _=>hH j hj);rw[q3]at st'' ex'';rw[hnext e1]at st'';exact fromTo β'' a' w' st'' ex''
    ·obtain ⟨eh,hno⟩:=r.pC (S':=λj=>(listed.setIfInBounds i true).getD j false) hd tr h0 hA g2 hs' ho2;have g3':Es P ow (base+i) o (AB (CE ops sk λj=>listed.getD j false))=some (vk i,ob):=by
      rw[← g3];unfold Es;rw[U7 hops]
     refine St.oz hA g3' (show base+i<_ by omega) hno (hho i hil r.new) st hdst λβ' a' w' st' hbeta hos htape hout hsize hX hmem hfz=>?_;rw[hnext e1, ← eh]at st';have hrn:(Hs lt br ops hk λj=>(listed.setIfInBounds i true).getD j false).next=(Hs lt br ops hk λj=>listed.getD j false).next:=by rw[eh];try rfl
     refine ih _ β' a' w' (by simpa using hsz) hc' hm' st' ?_ (by rw[hrn];exact hnx) (λf hf hfs=>?_)
     ·refine ⟨hos.trans ex.os,htape.trans ex.tape,hout.trans ex.output,ES ex.size hsize,by rw[hrn];exact ex.next,λid hid=>?_,hX.trans ex.X,λc hc hl=>?_,λc hc=>?_⟩
      ·have:=ex.next
       rw[hbeta id (by omega) (by omega)];exact ex.beta id hid
      ·rw [hmem c (by rw[ex.X];exact hc) (I4 hl ex.size)];exact ex.xh c hc hl
      ·obtain ⟨k1,k2⟩:=ex.fz c hc;obtain⟨k3,k4⟩:=hfz c k1;rw[← eh]at k3;exact⟨k3,k4.trans k2⟩
     ·obtain ⟨k1,k2⟩:=hho' f hf hfs;rw[hbeta _ (by omega) (by omega)];exact k2
    ·have hnA:Cc ow o=false:=(by unfold Cc;rw[hop]);obtain⟨hM,hnd,hobj⟩:=r.stored tr hnA g2;have eh:=r.Yw (S':=λj=>(listed.setIfInBounds i true).getD j false) tr g2 hM hnd hs' ho2;have hdo:Ar P ow o (AB (sk i)) (Hs lt br ops hk λj=>listed.getD j false) (vk i) ((Hs lt br ops hk λj=>listed.getD j false).set id ob):=by
      unfold Ar;rw[hop,g3]at g5;rw[hop];exact aA hx g5 hobj
     refine Ar.wp st hdst (Ld hops hdo) (λa' w' ht=>?_);obtain⟨s',h',β',⟨rfl,rfl⟩,st',ex'⟩:=ht;rw[← eh]at st' ex';rw[hnext e1]at st';exact fromTo β' a' w' st' ex'
theorem aG{id:Nat}(hm:P.follows .mixedOrders=true){β:BK}{s:AD}{h:A1}{a:Act}{w:World}{K:AD->A1->Prop}{Q:Exit->Act->World->Prop}(st:St n β s h a w)(hw:P4 P ow wf n ops K s h)
  (hk': ∀ a' w',To n β h w K a' w'->Q .normal a' w'):(Code.region id ops.toArray true).wp P Q a w:=by
 obtain⟨h1,sk,hk,vk,lt,br,e1,e2,hK,tr⟩:=hw;have hd:=Hh.of h1;refine wp_region_any hm ?_;obtain⟨s1,s2⟩:=st.Bd.drew;have std:St n β s h a w.drew:=⟨s1,λt=>s2.rep (st.rep t),st.size,st.defers⟩;obtain⟨β0,st0,ex0,hnone0⟩:=std.LR ops.length;have hS: ∀ j,(Array.replicate ops.toArray.size false).getD j false=false:=by
  intro j;rw[DX,Qd];split<;>rfl
 have emp: ∀ (p:Nat->Bool),(λj=>((Array.replicate ops.toArray.size false).getD j false&&p j))=λ_=>false:=by
  intro p;funext j;rw[hS];try rfl
 have l0:Dy (λ_=>false) ops.length=0:=Jw (BY _) (.inl rfl) (λ_ _ _=>rfl);have hval:CE ops sk (λj=>(Array.replicate ops.toArray.size false).getD j false)=s:=by
  funext t;unfold CE;rw[emp,l0,e1]
 have hheap:Hs lt br ops hk (λj=>(Array.replicate ops.toArray.size false).getD j false)=h.LR ops.length:=by
  have hM0:MB br ops (λj=>(Array.replicate ops.toArray.size false).getD j false)=0:=by unfold MB;rw[emp,l0]
  have hdl:dl lt br ops (λj=>(Array.replicate ops.toArray.size false).getD j false)=[]:=by
   apply List.eq_nil_iff_forall_not_mem.2;intro id hid;obtain⟨f,q,k1,k2,_⟩:=IH.1 hid;rw[hM0]at k2;omega
  unfold Hs;rw[hdl,UJ];unfold Xs;have h2:=Ng (lt:=lt) (p:=λf=>decide (MB br ops (λj=>(Array.replicate ops.toArray.size false).getD j false)<=f)&&(λj=>(Array.replicate ops.toArray.size false).getD j false) f) (H:=hk (MB br ops (λj=>(Array.replicate ops.toArray.size false).getD j false))) (m:=0) ops.length (λf _ _ _=>by simp only[hS,BH]);rw[Bf]at h2;rw[h2,hM0];simp only[Ct];rw[e2];try rfl
 refine aF hd tr (λf=>?_) hK (hb:=h) (β0:=β) (w0:=w) (AG _) hk' _ _ β0 a w.drew (by simp) (λj o _ hj=>by simp only[hS]at hj;simp at hj) ?_ ?_ ?_ ?_ ?_
 ·rw [e2];cases ho:h.obj (h.next+f)with
  |none=>rfl
  |some o=>have:=st.Bd.lt (h.next+f) (by rw[ho];try rfl);omega
 ·have: ∀ m,FM (λj=>(Array.replicate ops.toArray.size false).getD j false) m<=m:=by
   intro m
   induction m with
   |zero=>exact AG _
   |succ m ih=>unfold FM;split<;>omega
  simpa using this ops.length
 ·rw [hval,hheap];exact st0
 ·rw [hheap];exact s2.trans ex0
 ·rw [hheap];exact AG _
 ·intro f hf _;exact hnone0 _ (by omega)
end
end Go.AM
namespace Go.AM
section
variable {P:Program}{ow:Nat->Bool}{wf:FuncId->Bool}{n:Nat}
def PQ(n:Nat)(β:BK)(h:A1)(w:World)(K:BW)(e:Exit)(a':Act)(w':World):Prop:=
 ∃ s' h' β',K e s' h'/\St n β' s' h' a' w'/\BS β h w β' h' w'
def Nl(P:Program)(c:Code)(Q:Exit->Act->World->Prop):Nat->Act->World->Prop
 |0,_,_=>False
 |k+1,a,w=>c.wp P (Exit.then (Nl P c Q k) Q) a w
theorem aH{c:Code}{Q:Exit->Act->World->Prop}{k:Nat}{a:Act}{w:World}(hl:Nl P c Q k a w):(Code.loop c).wp P Q a w:=by
 have key: ∀ (m:Nat)(a:Act)(w:World),Nl P c Q m a w-> ∀ (b:Frame)(k:List Item)(cs:List Frame),
   ∃ e a' w',Q e a' w'/\Arrives P (lone (b.at a (.code c:: .inLoop c::k)) cs w) b k cs e a' w':=by
  intro m
  induction m with
  |zero=>intro a w h;exact h.elim
  |succ m ih=>
   intro a w h b k cs;obtain⟨e,a₁,w₁,hq,harr⟩:=h b (.inLoop c::k) cs;cases e with
   |normal=>
    obtain⟨e₂,a₂,w₂,hq₂,harr₂⟩:=ih a₁ w₁ hq b k cs;exact⟨e₂,a₂,w₂,hq₂,.of_steps (Steps.trans harr (.one step_inLoop)) harr₂⟩
   |exit id=>exact⟨_,a₁,w₁,hq,.pass (x:= .inLoop c) rfl (λ_ _=> .inl (by simp)) harr⟩
   |goto l=>exact⟨_,a₁,w₁,hq,.pass (x:= .inLoop c) rfl (λ_ _=> .inl (by simp)) harr⟩
   |ret=>exact⟨_,a₁,w₁,hq,.pass (x:= .inLoop c) rfl (λ_ _=> .inl (by simp)) harr⟩
   |panic ch=>exact⟨_,a₁,w₁,hq,.pass (x:= .inLoop c) rfl (λ_ _=> .inl (by simp)) harr⟩
   |outgrown=>exact⟨_,a₁,w₁,hq,.pass (x:= .inLoop c) rfl (λ_ _=> .inl (by simp)) harr⟩
 intro b k cs;obtain⟨e,a',w',hq,harr⟩:=key _ a w hl b k cs;exact⟨e,a',w',hq,.of_steps (.one step_loop) harr⟩
theorem Li(hm:P.follows .mixedOrders=true): ∀ (c:Code)(Q':BW)(β:BK)(s:AD)(h:A1)(a:Act)(w:World)(Q:Exit->Act->World->Prop),
  Aq P ow wf n c Q' s h->St n β s h a w->(∀ e a' w',PQ n β h w Q' e a' w'->Q e a' w')->c.wp P Q a w
 | .skip,Q',β,s,h,a,w,Q,hw,st,hk=>wp_skip (hk _ _ _ ⟨s,h,β,hw,st,BS.refl⟩)
 | .region id ops true,Q',β,s,h,a,w,Q,hw,st,hk=>by
  simp only[Aq,AO]at hw;obtain⟨s1,h1,wk,hw⟩:=hw;obtain⟨k1,k2,k3⟩:=wk β w st.Bd;have hk:=λe a' w' (ht:PQ n β h1 w Q' e a' w')=>hk e a' w' (by obtain⟨s2,h2,β2,q2,st2,ex2⟩:=ht;exact⟨s2,h2,β2,q2,st2,k2.trans ex2⟩);have st:St n β s1 h1 a w:=⟨k1,λt=>k3 t _ (st.rep t),st.size,st.defers⟩;rcases hw with hw|hw|hw
  ·have:=Zs (id:=id) hm st hw (Q:=Q) (λa' w' ht=>hk _ _ _ ht);simpa using this
  ·have:=Zw (id:=id) hm st hw (Q:=Q) (λa' w' ht=>hk _ _ _ ht);simpa using this
  ·have:=aG (id:=id) hm st hw (Q:=Q) (λa' w' ht=>hk _ _ _ ht);simpa using this
 | .region id ops false,Q',β,s,h,a,w,Q,hw,st,hk=>by
  simp only[Aq,BR,AQ]at hw;obtain⟨s1,h1,wk,hw⟩:=hw;obtain⟨k1,k2,k3⟩:=wk β w st.Bd;have hk:=λe a' w' (ht:PQ n β h1 w Q' e a' w')=>hk e a' w' (by obtain⟨s2,h2,β2,q2,st2,ex2⟩:=ht;exact⟨s2,h2,β2,q2,st2,k2.trans ex2⟩);have st:St n β s1 h1 a w:=⟨k1,λt=>k3 t _ (st.rep t),st.size,st.defers⟩;refine wp_region_list ?_;have:=R7 (Q:=Q) ops.toList st hw (λa' w' ht=>hk _ _ _ ht);simpa using this
 | .seq x y,Q',β,s,h,a,w,Q,hw,st,hk=>by
  simp only[Aq]at hw;refine wp_seq (Li hm x _ β s h a w _ hw st (λe a' w' ht=>?_));obtain⟨s',h',β',hq,st',ex⟩:=ht;cases e<;>simp only[BW.seq]at hq<;>simp only[Exit.then]
  ·exact Li hm y _ β' s' h' a' w' Q hq st' (λe a'' w'' ⟨s2,h2,β2,q2,st2,ex2⟩=>hk _ _ _ ⟨s2,h2,β2,q2,st2,ex.trans ex2⟩)
  all_goals exact hk _ _ _ ⟨s',h',β',hq,st',ex⟩
 | .cond c x y,Q',β,s,h,a,w,Q,hw,st,hk=>by
  simp only[Aq]at hw;split at hw
  ·rename_i b hb;have he:=Ki st.rep c;rw[hb]at he;simp only[AT,AA]at he;cases b with
   |true=>exact wp_cond_true he (Li hm x _ β s h a w Q (by simpa using hw) st hk)
   |false=>exact wp_cond_false he (Li hm y _ β s h a w Q (by simpa using hw) st hk)
  ·exact hw.elim
 | .block id c,Q',β,s,h,a,w,Q,hw,st,hk=>by
  simp only[Aq]at hw;refine wp_block (Li hm c _ β s h a w _ hw st (λe a' w' ht=>?_));obtain⟨s',h',β',hq,st',ex⟩:=ht;cases e<;>simp only[BW.block]at hq<;>simp only[Exit.inBlock]
  case exit id'=>
   by_cases hid:id'=id
   ·rw [AK hid]at hq⊢;exact hk _ _ _ ⟨s',h',β',hq,st',ex⟩
   ·rw [A8 hid]at hq⊢;exact hk _ _ _ ⟨s',h',β',hq,st',ex⟩
  all_goals exact hk _ _ _ ⟨s',h',β',hq,st',ex⟩
 | .loop c,Q',β,s,h,a,w,Q,hw,st,hk=>by
  simp only[Aq]at hw;obtain⟨k,hw⟩:=hw;refine aH (k:=k) ?_;have key: ∀ (k:Nat)(β:BK)(s:AD)(h:A1)(a:Act)(w:World),Jt (Aq P ow wf n c) Q' k s h->St n β s h a w->(∀ e a' w',PQ n β h w Q' e a' w'->Q e a' w')->Nl P c Q k a w:=by
   intro k
   induction k with
   |zero=>intro β s h a w hl;exact hl.elim
   |succ k ih=>
    intro β s h a w hl st hk;simp only[Jt]at hl;simp only[Nl];refine Li hm c _ β s h a w _ hl st (λe a' w' ht=>?_);obtain⟨s',h',β',hq,st',ex⟩:=ht;cases e<;>simp only[BW.seq]at hq<;>simp only[Exit.then]
    ·exact ih β' s' h' a' w' hq st' (λe a'' w'' ⟨s2,h2,β2,q2,st2,ex2⟩=>hk _ _ _ ⟨s2,h2,β2,q2,st2,ex.trans ex2⟩)
    all_goals exact hk _ _ _ ⟨s',h',β',hq,st',ex⟩
  exact key k β s h a w hw st hk
 | .exit id,Q',β,s,h,a,w,Q,hw,st,hk=>wp_exit (hk _ _ _ ⟨s,h,β,hw,st,BS.refl⟩)
 | .ret,Q',β,s,h,a,w,Q,hw,st,hk=>wp_ret (hk _ _ _ ⟨s,h,β,hw,st,BS.refl⟩)
 | .rangeFunc _ _ _ _,_,_,_,_,_,_,_,hw,_,_=>hw.elim
 | .scope _,_,_,_,_,_,_,_,hw,_,_=>hw.elim
 | .label _,_,_,_,_,_,_,_,hw,_,_=>hw.elim
 | .goto _,_,_,_,_,_,_,_,hw,_,_=>hw.elim
 | .refuse _,_,_,_,_,_,_,_,hw,_,_=>hw.elim
theorem aI{β:BK}{s:AD}{h:A1}{a:Act}{w:World}(st:St n β s h a w){r:ResultVar}{p:PV}(hr:Lc P s h r=some p):
  ∃ v,(match r with| .tmp t=>pure (a.tmps.getD t undef)| .cell x t=>do loadVar t (← asAddr (a.tmps.getD x undef)):Sem Value).run P w= .ok v w/\AT β h w p v:=by
 cases r with
 |tmp t=>
  simp only[Lc,BD]at hr;subst hr;exact⟨_,rfl,st.rep t⟩
 |cell x t=>
  simp only[Lc]at hr;cases hz:CU P t with
  |none=>simp[hz]at hr
  |some m=>
   cases hc:rd h (s x)with
   |none=>simp[hz,hc]at hr
   |some cs=>
    simp only[hz,hc,DI]at hr;obtain⟨b,o,g1,g2⟩:=TZ st.Bd hc (st.rep x);obtain⟨xv,g3,g4⟩:=Ta (P:=P) hz hr g2;refine⟨xv,?_,g4⟩;simp only[g1,asAddr,pure_bind];exact g3
theorem UK{β:BK}{s:AD}{h:A1}{a:Act}{w:World}(st:St n β s h a w): ∀ (rs:List ResultVar)(ps:List PV),HE P s h rs=some ps->
  ∃ vs:List Value,(rs.mapM (λ| .tmp t=>pure (a.tmps.getD t undef)| .cell x t=>do loadVar t (← asAddr (a.tmps.getD x undef)):ResultVar->Sem Value)).run P w= .ok vs w/\AU β h.next (Fz β h w) w ps vs
 |[],ps,hr=>by simp[HE]at hr;subst hr;exact⟨[],by simp,by simp[AU]⟩
 |r::rs,ps,hr=>by
  simp only[HE]at hr;cases h1:Lc P s h r with
  |none=>simp[h1]at hr
  |some p=>
   cases h2:HE P s h rs with
   |none=>simp[h1,h2]at hr
   |some ps'=>
    simp[h1,h2]at hr;subst hr;obtain⟨v,g1,g2⟩:=aI st h1;obtain⟨vs,g3,g4⟩:=UK st rs ps' h2;refine⟨v::vs,?_,by simp only[AU];exact⟨g2,g4⟩⟩;simp only[List.mapM_cons,Sem.run_bind,g1,Result.andThen_ok,g3,Sem.run_pure]
theorem PT(hm:P.follows .mixedOrders=true){f:FuncId}{fn:Func}{c:Code}{args:List PV}{h:A1}{K:PV->A1->Prop}(hf:P.funcs[f]? =some fn)(hb:fn.body=some c)(hh:Ad P f=true)(hn:args.length<=fn.ntmps)
  (hw:Aq P ow wf fn.ntmps c (Io P fn.results.toList K) (Mb args) h):A6 P f args h K:=by
 refine λβ w vals sm hr=> .inl ⟨hh,?_⟩;have hl:=hr.len;refine calls_of_wp hf hb ?_;have st:St fn.ntmps β (Mb args) h {tmps:=vals.toArray++Array.replicate (fn.ntmps-vals.toArray.size) undef,defers:=[]} w:=by
  refine⟨sm,λt=>?_,?_,rfl⟩
  ·simp only[Mb];by_cases ht:t<args.length
   ·have h1:args[t]? =some args[t]:=List.getElem?_eq_getElem ht;obtain⟨v,hv,hvr⟩:=hr.get h1;rw[List.getD_eq_getElem?_getD,h1];have:(vals.toArray++Array.replicate (fn.ntmps-vals.toArray.size) undef)[t]? =some v:=by
     rw[oR (by simp;omega)];simpa using hv
    rw[DX,this];exact hvr
   ·rw [List.getD_eq_getElem?_getD,List.getElem?_eq_none (by omega)];have:(vals.toArray++Array.replicate (fn.ntmps-vals.toArray.size) undef).getD t undef=undef:=by
     rw[DX,Array.getElem?_append_right (by simp;omega),Qd];split<;>rfl
    rw[this];simp only[AT,Bl,AA]
  ·simp;omega
 refine Li hm c _ β _ h _ w _ hw st (λe a' w' ht=>?_);obtain⟨s',h',β',hq,st',ex⟩:=ht;have D9:(match HE P s' h' fn.results.toList with|some vs=>K (Gt vs) h'|none=>False)->a'.defers=[]/\ ∃ v,(results fn a'.tmps).run P w'= .ok v w'/\(∃ r h'' β'' u,Ending.returned v= .returned u/\K r h''/\B3 β'' h'' w'/\AT β'' h'' w' r u/\BS β h w β'' h'' w'):=by
  intro hq;split at hq
  ·rename_i ps hps;obtain⟨vs,g1,g2⟩:=UK st' _ ps hps;refine⟨st'.defers,(if hx:vs.toArray.size=1 then vs.toArray[0]else .tuple vs.toArray),?_,Gt ps,h',β',_,rfl,hq,st'.Bd,?_,ex⟩
   ·simp only[results,Array.mapM_eq_mapM_toList,Sem.run_bind,Sem.run_map];exact If (λr:Result (List Value)=>(r.andThen λa w'=>Result.ok a.toArray w').andThen λa w'=>(Pure.pure (if h:a.size=1 then a[0]else Value.tuple a):Sem Value).run P w') g1
   ·have hl2:=g2.len
    match ps,vs,hl2,g2 with
    |[p],[v],_,g2=>simp only[AU]at g2;simpa[Gt]using g2.1
    |[],[],_,g2=>simp only[Gt,AT,AA];exact⟨[],by simp,g2⟩
    |p::q::ps,v::u::vs,_,g2=>simp only[Gt,AT,AA];exact⟨v::u::vs,by simp,g2⟩
    |[],v::vs,hl2,_=>simp at hl2
    |p::ps,[],hl2,_=>simp at hl2
    |[p],v::u::vs,hl2,_=>simp at hl2
    |p::q::ps,[v],hl2,_=>simp at hl2
  ·exact hq.elim
 cases e<;>simp only[Io]at hq
 ·exact D9 hq
 ·exact D9 hq
theorem Lb.body{f:FuncId}{vals:Array Value}{w:World}{Q:Ending->World->Prop}(hb:Ad P f=true)(h:Lb P f vals w Q):Calls P f vals w Q:=by
 rcases h with⟨_,h⟩|⟨v,w',h,_⟩
 ·exact h
 ·unfold Ad at hb;cases hfn:P.funcs[f]? with
  |none=>simp[hfn]at hb
  |some fn=>
   simp[hfn]at hb;have hbody:fn.body.isNone=false:=(by cases hbb:fn.body<;>simp[hbb]at hb⊢);have hne:fn.body≠none:=(by intro e;rw[e]at hb;simp at hb);simp[callFunc,hfn,hb.1,hne]at h
theorem aJ{f:FuncId}{pargs:List PV}{w:World}{vals:List Value}(hb:Ad P f=true)(hc:A6 P f pargs A1.nil (λr _=>r= .sc (.bool true)))(hr:AU ⟨λ_=>⟨none,0,0,0⟩,λ_=>False⟩ 0 (λb=>b<w.heap.size) w pargs vals):
  Calls P f vals.toArray w λe w'=>e= .returned (.bool true)/\RowKit.Below w.heap.size w w':=by
 have sm:B3 ⟨λ_=>⟨none,0,0,0⟩,λ_=>False⟩ A1.nil w:=⟨λid h=>by simp[A1.nil]at h,λid o h=>by simp[A1.nil]at h,λi j h=>by simp[A1.nil]at h,λb h=>h.elim,λid h=>by simp[A1.nil]at h⟩;have fz0: ∀ b,b<w.heap.size->Fz ⟨λ_=>⟨none,0,0,0⟩,λ_=>False⟩ A1.nil w b:=λb hb=>⟨hb,λid h=>by simp[A1.nil]at h,λh=>h⟩;have hr':AU ⟨λ_=>⟨none,0,0,0⟩,λ_=>False⟩ A1.nil.next (Fz ⟨λ_=>⟨none,0,0,0⟩,λ_=>False⟩ A1.nil w) w pargs vals:=
  AU.mv ⟨AG _,λ_ _ _=>rfl,λb hb=>⟨fz0 b hb,rfl⟩⟩ _ _ hr
 refine(Lb.body hb (hc _ w vals sm hr')).mono ?_;rintro e w' ⟨r,h',β',v,rfl,rfl,sm',hrep,ex⟩;simp only[AT,AA]at hrep;subst hrep;exact⟨rfl,⟨ex.os,ex.tape,ex.output,ex.size,λk hk=>(ex.fz k (fz0 k hk)).2⟩⟩
theorem A6.mono{f:FuncId}{args:List PV}{h:A1}{K K':PV->A1->Prop}(hc:A6 P f args h K)(hk: ∀ r h',K r h'->K' r h'):A6 P f args h K':=
 λβ w vals sm hr=>(hc β w vals sm hr).mono λ_ _ ⟨r,h',β',v,h1,h2,h3⟩=>⟨r,h',β',v,h1,hk _ _ h2,h3⟩
end
end Go.AM
namespace Go.AM
section
variable {P:Program}{ow:Nat->Bool}{wf:FuncId->Bool}{n:Nat}
theorem RI(h:A1)(o:An)(i:Nat):(h.new o).obj i=if i=h.next then some o else h.obj i:=rfl
theorem PU(h:A1)(id i:Nat):(h.kill id).obj i=if i=id then none else h.obj i:=rfl
theorem aK(h:A1)(id:Nat)(o:An)(i:Nat):(h.set id o).obj i=if i=id then some o else h.obj i:=rfl
theorem aM(h:A1)(o:An):(h.new o).next=h.next+1:=rfl
theorem RJ(h:A1)(id:Nat):(h.kill id).next=h.next:=rfl
theorem aN(h:A1)(id:Nat)(o:An):(h.set id o).next=h.next:=rfl
theorem aO(s:AD)(d:Nat)(v:PV)(t:Nat):Cf s d v t=if t=d then v else s t:=rfl
theorem aP(s:AD)(d:Nat)(v:PV):Ai s (some d) v=Cf s d v:=rfl
theorem aQ(s:AD)(v:PV):Ai s none v=s:=rfl
theorem aR(l:List PV)(t:Nat):Mb l t=l.getD t (.sc undef):=rfl
theorem aT(k:IntKind)(i:Int):Gf (.int k i)= .sc (.int k i):=rfl
theorem aU(b:Bool):Gf (.bool b)= .sc (.bool b):=rfl
theorem aV(b:ByteArray):Gf (.string b)= .sc (.string b):=rfl
theorem aW:Gf .nilIface= .sc .nilIface:=rfl
theorem aX(a:Option Addr):Gf (.pointer a)= .sc (.pointer a):=rfl
theorem aY(a:Option Addr)(l c:Nat):Gf (.slice a l c)= .sc (.slice a l c):=rfl
theorem aZ(a:Option Nat):Gf (.map a)= .sc (.map a):=rfl
theorem ae(l:List Value):Gf (.agg l.toArray)=if l.all Value.oneCell'=true then .agg (l.map .sc)else .sc (.agg l.toArray):=rfl
theorem RK{o:Oper}{K K':AD->A1->Prop}(hk: ∀ s h,K s h->K' s h){s:AD}{h:A1}(ho:CY P ow o K s h):CY P ow o K' s h:=by
 unfold CY at ho⊢;split at ho
 ·exact ho.mono λ_ _=>hk _ _
 ·split at ho
  ·exact hk _ _ ho
  ·exact ho
theorem RL{ops:List Oper}{K K':AD->A1->Prop}(hk: ∀ s h,K s h->K' s h): ∀ (l:List Oper){s:AD}{h:A1},Ei P ow n ops l K s h->Ei P ow n ops l K' s h
 |[],s,h,hl=>hk s h hl
 |o::rest,s,h,hl=>by
  simp only[Ei]at hl⊢;refine⟨hl.1,?_⟩;have h2:=hl.2;split at h2
  ·exact h2.elim
  ·split at h2
   ·rename_i hb;simp only[hb,AO];exact RK (λs h=>RL hk rest) h2
   ·rename_i hb;simp only[hb,AQ,BR];exact RL hk rest h2
theorem PW{ops:List Oper}{K K':AD->A1->Prop}(hk: ∀ s h,K s h->K' s h): ∀ (l:List Oper)(k:Nat)(past:List (Nat × (A1->Prop)))(hist:List (Nat × A1)){s:AD}{h:A1},EG P ow wf n ops k l past hist K s h->EG P ow wf n ops k l past hist K' s h
 |[],_,_,_,s,h,hl=>hk s h hl
 |o::rest,k,past,hist,s,h,hl=>by
  simp only[EG]at hl⊢;refine⟨hl.1,?_⟩;have h2:=hl.2;split at h2
  ·exact h2.elim
  ·split at h2
   ·rename_i hb;simp only[hb,AO];split at h2
    ·rename_i hw;obtain⟨v,h',g1,g2,g3⟩:=h2;rw[AK hw];exact⟨v,h',g1,g2,PW hk rest _ _ _ g3⟩
    ·rename_i hw;obtain⟨v,g1,g2,g3⟩:=h2;rw[A8 hw];exact⟨v,g1,g2,PW hk rest _ _ _ g3⟩
   ·rename_i hb;simp only[hb,AQ,BR];exact PW hk rest _ _ _ h2
theorem PX{ops:List Oper}{base:Nat}{K K':AD->A1->Prop}(hk: ∀ s h,K s h->K' s h): ∀ (l:List Oper)(k:Nat)(past:List (Nat × (A1->Prop)))(hist:List (Nat × A1)){s:AD}{h:A1},GB P ow wf n ops base k l past hist K s h->GB P ow wf n ops base k l past hist K' s h
 |[],_,_,_,s,h,hl=>hk s h hl
 |o::rest,k,past,hist,s,h,hl=>by
  simp only[GB]at hl⊢;refine⟨hl.1,?_⟩;have h2:=hl.2;split at h2
  ·exact h2.elim
  ·split at h2
   ·rename_i hb;simp only[hb,AO];split at h2
    ·rename_i hw;obtain⟨v,h',g1,g0,g2,g3⟩:=h2;rw[AK hw];exact⟨v,h',g1,g0,g2,PX hk rest _ _ _ g3⟩
    ·rename_i hw;obtain⟨v,g1,g2,g3⟩:=h2;rw[A8 hw];exact⟨v,g1,g2,PX hk rest _ _ _ g3⟩
   ·rename_i hb;simp only[hb,AQ,BR];exact PX hk rest _ _ _ h2
theorem RM{c:BW->AD->A1->Prop}(hc: ∀ {Q Q':BW},(∀ e s h,Q e s h->Q' e s h)-> ∀ {s h},c Q s h->c Q' s h){Q Q':BW}(hq: ∀ e s h,Q e s h->Q' e s h): ∀ {k k':Nat},k<=k'-> ∀ {s:AD}{h:A1},Jt c Q k s h->Jt c Q' k' s h
 |0,_,_,_,_,hl=>hl.elim
 |k+1,0,hle,_,_,_=>by omega
 |k+1,k'+1,hle,s,h,hl=>by
  simp only[Jt]at hl⊢;refine hc (λe s h hh=>?_) hl;cases e<;>simp only[BW.seq]at hh⊢
  ·exact RM hc hq (by omega) hh
  all_goals exact hq _ _ _ hh
theorem JJ: ∀ (c:Code){Q Q':BW},(∀ e s h,Q e s h->Q' e s h)-> ∀ {s:AD}{h:A1},Aq P ow wf n c Q s h->Aq P ow wf n c Q' s h
 | .skip,_,_,hq,_,_,hw=>hq _ _ _ hw
 | .region id ops d,Q,Q',hq,s,h,hw=>by
  simp only[Aq]at hw⊢;obtain⟨s,h,wk,hw⟩:=hw;refine⟨s,h,wk,?_⟩;cases d with
  |true=>
   simp only[AO]at hw⊢;exact hw.imp (λhw=>⟨hw.1,PW (λs h=>hq _ s h) _ _ _ _ hw.2⟩) (λhw=>hw.imp (λhw=>⟨hw.1,PX (λs h=>hq _ s h) _ _ _ _ hw.2⟩) (λ⟨d,sk,hk,vk,lt,br,e1,e2,k,f⟩=>⟨d,sk,hk,vk,lt,br,e1,e2,hq _ _ _ k,f⟩))
  |false=>simp only[BR,AQ]at hw⊢;exact RL (λs h=>hq _ s h) _ hw
 | .seq a b,Q,Q',hq,s,h,hw=>by
  simp only[Aq]at hw⊢;refine JJ a (λe s h hh=>?_) hw;cases e<;>simp only[BW.seq]at hh⊢
  ·exact JJ b hq hh
  all_goals exact hq _ _ _ hh
 | .cond c x y,Q,Q',hq,s,h,hw=>by
  simp only[Aq]at hw⊢;split at hw
  ·split at hw
   ·rename_i hb;rw[AK hb];exact JJ x hq hw
   ·rename_i hb;rw[A8 hb];exact JJ y hq hw
  ·exact hw
 | .block id c,Q,Q',hq,s,h,hw=>by
  simp only[Aq]at hw⊢;refine JJ c (λe s h hh=>?_) hw;cases e<;>simp only[BW.block]at hh⊢
  case exit id'=>split at hh<;>rename_i he<;>simp only[he,AO,AQ]<;>exact hq _ _ _ hh
  all_goals exact hq _ _ _ hh
 | .loop c,Q,Q',hq,s,h,hw=>by
  simp only[Aq]at hw⊢;obtain⟨k,hw⟩:=hw;exact⟨k,RM (c:=Aq P ow wf n c) (λhqq=>JJ c hqq) hq (AG _) hw⟩
 | .exit id,_,_,hq,_,_,hw=>hq _ _ _ hw
 | .ret,_,_,hq,_,_,hw=>hq _ _ _ hw
 | .rangeFunc _ _ _ _,_,_,_,_,_,hw=>hw
 | .scope _,_,_,_,_,_,hw=>hw
 | .label _,_,_,_,_,_,hw=>hw
 | .goto _,_,_,_,_,_,hw=>hw
 | .refuse _,_,_,_,_,_,hw=>hw
variable {Q:BW}{s:AD}{h:A1}
def Kl:Code->Bool
 | .region _ _ _=>true
 | .seq a _=>Kl a
 | .block _ c=>Kl c
 | .loop c=>Kl c
 |_=>false
theorem PY{s s':AD}{h h':A1}(wk:Wk s h s' h'): ∀ (c:Code){Q:BW},Kl c=true->Aq P ow wf n c Q s' h'->Aq P ow wf n c Q s h
 | .region id ops d,Q,_,hw=>by
  simp only[Aq]at hw⊢;obtain⟨s1,h1,w1,hw⟩:=hw;exact⟨s1,h1,wk.trans w1,hw⟩
 | .seq a b,Q,hc,hw=>by
  simp only[Aq]at hw⊢;exact PY wk a hc hw
 | .block id c,Q,hc,hw=>by
  simp only[Aq]at hw⊢;exact PY wk c hc hw
 | .loop c,Q,hc,hw=>by
  simp only[Aq]at hw⊢;obtain⟨k,hw⟩:=hw;cases k with
  |zero=>exact hw.elim
  |succ k=>exact⟨k+1,PY wk c hc hw⟩
theorem UL{c:Code}{Q:BW}{s s':AD}{h h':A1}(hc:Kl c=true)(wk:Wk s h s' h')(hw:Aq P ow wf n c Q s' h'):Aq P ow wf n c Q s h:=PY wk c hc hw
theorem Gh(hq:Q .normal s h):Aq P ow wf n .skip Q s h:=hq
theorem ah{id:Nat}(hq:Q (.exit id) s h):Aq P ow wf n (.exit id) Q s h:=hq
theorem Ej(hq:Q .ret s h):Aq P ow wf n .ret Q s h:=hq
theorem Af{a b:Code}(hk: ∀ K:AD->A1->Prop,(∀ s h,Aq P ow wf n b Q s h->K s h)->Aq P ow wf n a (BW.seq K Q) s h):Aq P ow wf n (.seq a b) Q s h:=by
 simp only[Aq];exact hk _ λ_ _ x=>x
theorem Ci{id:Nat}{c:Code}(hk:Aq P ow wf n c (BW.block id Q) s h):Aq P ow wf n (.block id c) Q s h:=hk
theorem EX{c:Operand}{x y:Code}(b:Bool)(hc:AB s c= .sc (.bool b))(h1:b=true->Aq P ow wf n x Q s h)(h2:b=false->Aq P ow wf n y Q s h):Aq P ow wf n (.cond c x y) Q s h:=by
 simp only[Aq,hc];cases b with
 |true=>simpa using h1 rfl
 |false=>simpa using h2 rfl
def E7(P:Program)(ow:Nat->Bool)(n:Nat)(ops:List Oper):List Oper->(AD->A1->Prop)->AD->A1->Prop
 |[],K,s,h=>K s h
 |o::rest,K,s,h=>(o.dst.all (λd=>decide (d<n))=true)/\match D3 ops s o with
  |none=>False
  | some b => if b = true then
    (match callee (AB s) o.op with
    |none=>(match AX P (o.dst.any ow) o.op (AB s) h with
     |some (v,h1)=>E7 P ow n ops rest K (Ai s o.dst v) h1
     |none=>False)
    |some _=>CY P ow o (Ei P ow n ops rest K) s h)
   else E7 P ow n ops rest K (Ai s o.dst (.sc undef)) h
theorem Jy{ops:List Oper}{K:AD->A1->Prop}:(rest:List Oper)->(s:AD)->(h:A1)->E7 P ow n ops rest K s h->Ei P ow n ops rest K s h
 |[],_,_,hh=>by simpa only[E7,Ei]using hh
 |o::rest,s,h,hh=>by
  simp only[E7]at hh;simp only[Ei];refine⟨hh.1,?_⟩;have h2:=hh.2
  clear hh;cases hw:D3 ops s o with
  |none=>rw[hw]at h2;exact h2
  |some b=>
   rw[hw]at h2;simp only at h2⊢;split at h2
   ·rename_i hb;rw[AK hb];cases hc:callee (AB s) o.op with
    |none=>
     rw[hc]at h2;simp only at h2;unfold CY;rw[hc];simp only;cases he:AX P (o.dst.any ow) o.op (AB s) h with
     |none=>rw[he]at h2;exact h2.elim
     |some r=>
      rw[he]at h2;exact Jy rest _ _ h2
    |some f=>
     rw[hc]at h2;exact h2
   ·rename_i hb;rw[A8 hb];exact Jy rest _ _ h2
theorem FN{id:Nat}{ops:List Oper}(hk: ∀ K:AD->A1->Prop,(∀ s h,Q .normal s h->K s h)->E7 P ow n ops ops K s h):Aq P ow wf n (.region id ops.toArray false) Q s h:=by
 simp only[Aq,BR,AQ];exact⟨_,_,.refl,Jy _ _ _ (hk _ λ_ _ x=>x)⟩
theorem Bn{id:Nat}{ops:List Oper}{K:AD->A1->Prop}(hk:E7 P ow n ops ops K s h):Aq P ow wf n (.region id ops.toArray false) (BW.seq K Q) s h:=by
 simp only[Aq,BR,AQ];exact⟨_,_,.refl,Jy _ _ _ hk⟩
abbrev Gi:=List (Nat × Oper × AD × PV)
def Df(P:Program)(ow:Nat->Bool)(l:Gi):List (Nat × (A1->Prop)):=l.map λx=>(x.1,λh'=>Ar P ow x.2.1 (AB x.2.2.1) h' x.2.2.2 h')
def FA(P:Program)(ow:Nat->Bool)(wf:FuncId->Bool)(n:Nat)(ops:List Oper):Nat->List Oper->Gi->List (Nat × A1)->(AD->A1->Prop)->AD->A1->Prop
 |_,[],_,_,K,s,h=>K s h
 |k,o::rest,past,hist,K,s,h=>(o.dst.all (λd=>decide (d<n))=true)/\match D3 ops s o with
  |none=>False
  | some b => if b = true then
    (match callee (AB s) o.op with
    |none=>(match AX P (o.dst.any ow) o.op (AB s) h with
     |some (v,h1)=>if BL ow wf o=true then(∀ x∈past,pre ops x.1 k=true\/Ar P ow x.2.1 (AB x.2.2.1) h1 x.2.2.2 h1)/\FA P ow wf n ops (k+1) rest past ((k,h)::hist) K (Ai s o.dst v) h1
      else h1=h/\(∀ x∈hist,pre ops x.1 k=true\/Ar P ow o (AB s) x.2 v x.2)/\FA P ow wf n ops (k+1) rest ((k,o,s,v)::past) hist K (Ai s o.dst v) h
     |none=>False)
    |some _=>(if BL ow wf o=true then ∃ v h',Ar P ow o (AB s) h v h'/\(∀ x∈Df P ow past,pre ops x.1 k=true\/x.2 h')/\EG P ow wf n ops (k+1) rest (Df P ow past) ((k,h)::hist) K (Ai s o.dst v) h'
     else ∃ v,Ar P ow o (AB s) h v h/\(∀ x∈hist,pre ops x.1 k=true\/Ar P ow o (AB s) x.2 v x.2)/\EG P ow wf n ops (k+1) rest (Df P ow ((k,o,s,v)::past)) hist K (Ai s o.dst v) h))
   else FA P ow wf n ops (k+1) rest past hist K (Ai s o.dst (.sc undef)) h
theorem JK{ops:List Oper}{K:AD->A1->Prop}:(rest:List Oper)->(k:Nat)->(past:Gi)->(hist:List (Nat × A1))->(s:AD)->(h:A1)->FA P ow wf n ops k rest past hist K s h->EG P ow wf n ops k rest (Df P ow past) hist K s h
 |[],_,_,_,_,_,hh=>by simpa only[FA,EG]using hh
 |o::rest,k,past,hist,s,h,hh=>by
  simp only[FA]at hh;simp only[EG];refine⟨hh.1,?_⟩;have h2:=hh.2
  clear hh;cases hw:D3 ops s o with
  |none=>rw[hw]at h2;exact h2
  |some b=>
   rw[hw]at h2;simp only at h2⊢;have pc: ∀ h1,(∀ x∈past,pre ops x.1 k=true\/Ar P ow x.2.1 (AB x.2.2.1) h1 x.2.2.2 h1)-> ∀ x∈Df P ow past,pre ops x.1 k=true\/x.2 h1:=by
    intro h1 hp x hx;obtain⟨y,hy,rfl⟩:=List.mem_map.1 hx;exact hp y hy
   split at h2
   ·rename_i hb;rw[AK hb];cases hc:callee (AB s) o.op with
    |none=>
     rw[hc]at h2;simp only at h2;cases he:AX P (o.dst.any ow) o.op (AB s) h with
     |none=>rw[he]at h2;exact h2.elim
     |some r=>
      obtain⟨v,h1⟩:=r;rw[he]at h2;simp only at h2;have hd:Ar P ow o (AB s) h v h1:=(by unfold Ar;rw[hc];exact he);split at h2
      ·rename_i hi;rw[AK hi];exact⟨v,h1,hd,pc h1 h2.1,JK rest _ _ _ _ _ h2.2⟩
      ·rename_i hi;rw[A8 hi];obtain⟨rfl,h3,h4⟩:=h2;exact⟨v,hd,h3,JK rest _ _ _ _ _ h4⟩
    |some f=>
     rw[hc]at h2;simp only at h2;split at h2
     ·rename_i hi;rw[AK hi];obtain⟨v,h1,hd,h3,h4⟩:=h2;exact⟨v,h1,hd,h3,h4⟩
     ·rename_i hi;rw[A8 hi];obtain⟨v,hd,h3,h4⟩:=h2;exact⟨v,hd,h3,h4⟩
   ·rename_i hb;rw[A8 hb];exact JK rest _ _ _ _ _ h2
theorem UM{id:Nat}{ops:List Oper}(hd:Jr ow wf ops=true)(hk: ∀ K:AD->A1->Prop,(∀ s h,Q .normal s h->K s h)->FA P ow wf n ops 0 ops [] [] K s h):Aq P ow wf n (.region id ops.toArray true) Q s h:=by
 simp only[Aq,AO];exact⟨_,_,.refl,.inl ⟨hd,JK _ _ _ _ _ _ (hk _ λ_ _ x=>x)⟩⟩
theorem Lj{id:Nat}{ops:List Oper}{K:AD->A1->Prop}(hd:Jr ow wf ops=true)(hk:FA P ow wf n ops 0 ops [] [] K s h):Aq P ow wf n (.region id ops.toArray true) (BW.seq K Q) s h:=by
 simp only[Aq,AO];exact⟨_,_,.refl,.inl ⟨hd,JK _ _ _ _ _ _ hk⟩⟩
theorem Km{c:Prop} [Decidable c] {A B:Prop}(h1:c->A)(h2:¬ c->B):if c then A else B:=by
 by_cases h:c
 ·rw [AK h];exact h1 h
 ·rw [A8 h];exact h2 h
theorem CG{c:Code}(I:Nat->AD->A1->Prop)(m:Nat)(h0:I m s h)(step: ∀ m s h,I m s h->Aq P ow wf n c (BW.seq (λs' h'=> ∃ m',m'<m/\I m' s' h') Q) s h):Aq P ow wf n (.loop c) Q s h:=by
 have key: ∀ m s h,I m s h->Jt (Aq P ow wf n c) Q (m+1) s h:=by
  intro m
  induction m using Nat.strongRecOn with
  |_ m ih=>
   intro s h hi;simp only[Jt];refine JJ c (λe s h hh=>?_) (step m s h hi);cases e<;>simp only[BW.seq]at hh⊢
   ·obtain ⟨m',h1,h2⟩:=hh;exact RM (c:=Aq P ow wf n c) (k:=m'+1) (k':=m) (λhqq=>JJ c hqq) (λ_ _ _ x=>x) (by omega) (ih m' h1 _ _ h2)
   all_goals exact hh
 exact⟨m+1,key m s h h0⟩
theorem ai{f:FuncId}{dst:Option Tmp}{args:List Operand}{ts:Array TypeId}{ty:TypeId}{pos:String}{af:Array Edge}{gd:Option (Nat × Bool)}{as:List PV}{Kc:PV->A1->Prop}{K:AD->A1->Prop}
  (hc:A6 P f as h Kc)(ha:args.map (AB s)=as)(hk: ∀ r h',Kc r h'->K (Ai s dst r) h'):
  CY P ow {dst:=dst,op:= .call {callee:= .value (.func f),args:=args.toArray,argTypes:=ts},type:=ty,pos:=pos,after:=af,guard:=gd} K s h:=by
 unfold CY;simp only[callee,AB,KT,AO];rw[ha];exact hc.mono hk
theorem RN{f:FuncId}{dst:Option Tmp}{args:List Operand}{ts:Array TypeId}{ty:TypeId}{pos:String}{af:Array Edge}{gd:Option (Nat × Bool)}{as:List PV}{Kc:PV->A1->Prop}{K:AD->A1->Prop}{ops rest:List Oper}
  (hc:A6 P f as h Kc)(ha:args.map (AB s)=as)(hk: ∀ r h',Kc r h'->E7 P ow n ops rest K (Ai s dst r) h'):
  CY P ow {dst:=dst,op:= .call {callee:= .value (.func f),args:=args.toArray,argTypes:=ts},type:=ty,pos:=pos,after:=af,guard:=gd} (Ei P ow n ops rest K) s h:=
 ai hc ha λr h' hr=>Jy _ _ _ (hk r h' hr)
theorem Gu{f:FuncId}{dst:Option Tmp}{args:List Operand}{ts:Array TypeId}{ty:TypeId}{pos:String}{af:Array Edge}{gd:Option (Nat × Bool)}{as:List PV}{v:PV}{K:AD->A1->Prop}{ops rest:List Oper}
  (hc:A6 P f as h λr h'=>r=v/\h'=h)(ha:args.map (AB s)=as)(hk:E7 P ow n ops rest K (Ai s dst v) h):
  CY P ow {dst:=dst,op:= .call {callee:= .value (.func f),args:=args.toArray,argTypes:=ts},type:=ty,pos:=pos,after:=af,guard:=gd} (Ei P ow n ops rest K) s h:=
 RN hc ha λr h' hr=>by rw[hr.1,hr.2];exact hk
theorem aj{dst:Option Tmp}{ty:TypeId}{pos:String}{af:Array Edge}{gd:Option (Nat × Bool)}{K:AD->A1->Prop}(x:Operand):CY P ow {dst:=dst,op:= .move x,type:=ty,pos:=pos,after:=af,guard:=gd} K s h=match AX P (dst.any ow) (.move x) (AB s) h with|some (r,h')=>K (Ai s dst r) h'|none=>False:=rfl
theorem ao{dst:Option Tmp}{ty:TypeId}{pos:String}{af:Array Edge}{gd:Option (Nat × Bool)}{v:PV}{h':A1}(x:Operand):Ar P ow {dst:=dst,op:= .move x,type:=ty,pos:=pos,after:=af,guard:=gd} (AB s) h v h'=(AX P (dst.any ow) (.move x) (AB s) h=some (v,h')):=rfl
theorem au{dst:Option Tmp}{ty:TypeId}{pos:String}{af:Array Edge}{gd:Option (Nat × Bool)}{K:AD->A1->Prop}(x:Operand):CY P ow {dst:=dst,op:= .assign x,type:=ty,pos:=pos,after:=af,guard:=gd} K s h=match AX P (dst.any ow) (.assign x) (AB s) h with|some (r,h')=>K (Ai s dst r) h'|none=>False:=rfl
theorem aw{dst:Option Tmp}{ty:TypeId}{pos:String}{af:Array Edge}{gd:Option (Nat × Bool)}{v:PV}{h':A1}(x:Operand):Ar P ow {dst:=dst,op:= .assign x,type:=ty,pos:=pos,after:=af,guard:=gd} (AB s) h v h'=(AX P (dst.any ow) (.assign x) (AB s) h=some (v,h')):=rfl
theorem az{dst:Option Tmp}{ty:TypeId}{pos:String}{af:Array Edge}{gd:Option (Nat × Bool)}{K:AD->A1->Prop}(c:Operand)(a:Operand)(b:Operand):CY P ow {dst:=dst,op:= .pick c a b,type:=ty,pos:=pos,after:=af,guard:=gd} K s h=match AX P (dst.any ow) (.pick c a b) (AB s) h with|some (r,h')=>K (Ai s dst r) h'|none=>False:=rfl
theorem bA{dst:Option Tmp}{ty:TypeId}{pos:String}{af:Array Edge}{gd:Option (Nat × Bool)}{v:PV}{h':A1}(c:Operand)(a:Operand)(b:Operand):Ar P ow {dst:=dst,op:= .pick c a b,type:=ty,pos:=pos,after:=af,guard:=gd} (AB s) h v h'=(AX P (dst.any ow) (.pick c a b) (AB s) h=some (v,h')):=rfl
theorem bB{dst:Option Tmp}{ty:TypeId}{pos:String}{af:Array Edge}{gd:Option (Nat × Bool)}{K:AD->A1->Prop}(t:TypeId):CY P ow {dst:=dst,op:= .alloc t,type:=ty,pos:=pos,after:=af,guard:=gd} K s h=match AX P (dst.any ow) (.alloc t) (AB s) h with|some (r,h')=>K (Ai s dst r) h'|none=>False:=rfl
theorem bC{dst:Option Tmp}{ty:TypeId}{pos:String}{af:Array Edge}{gd:Option (Nat × Bool)}{v:PV}{h':A1}(t:TypeId):Ar P ow {dst:=dst,op:= .alloc t,type:=ty,pos:=pos,after:=af,guard:=gd} (AB s) h v h'=(AX P (dst.any ow) (.alloc t) (AB s) h=some (v,h')):=rfl
theorem bD{dst:Option Tmp}{ty:TypeId}{pos:String}{af:Array Edge}{gd:Option (Nat × Bool)}{K:AD->A1->Prop}(t:TypeId)(x:Operand):CY P ow {dst:=dst,op:= .box t x,type:=ty,pos:=pos,after:=af,guard:=gd} K s h=match AX P (dst.any ow) (.box t x) (AB s) h with|some (r,h')=>K (Ai s dst r) h'|none=>False:=rfl
theorem bE{dst:Option Tmp}{ty:TypeId}{pos:String}{af:Array Edge}{gd:Option (Nat × Bool)}{v:PV}{h':A1}(t:TypeId)(x:Operand):Ar P ow {dst:=dst,op:= .box t x,type:=ty,pos:=pos,after:=af,guard:=gd} (AB s) h v h'=(AX P (dst.any ow) (.box t x) (AB s) h=some (v,h')):=rfl
theorem bF{dst:Option Tmp}{ty:TypeId}{pos:String}{af:Array Edge}{gd:Option (Nat × Bool)}{K:AD->A1->Prop}(t:TypeId)(ps:Array (Nat × Operand)):CY P ow {dst:=dst,op:= .build t ps,type:=ty,pos:=pos,after:=af,guard:=gd} K s h=match AX P (dst.any ow) (.build t ps) (AB s) h with|some (r,h')=>K (Ai s dst r) h'|none=>False:=rfl
theorem bG{dst:Option Tmp}{ty:TypeId}{pos:String}{af:Array Edge}{gd:Option (Nat × Bool)}{v:PV}{h':A1}(t:TypeId)(ps:Array (Nat × Operand)):Ar P ow {dst:=dst,op:= .build t ps,type:=ty,pos:=pos,after:=af,guard:=gd} (AB s) h v h'=(AX P (dst.any ow) (.build t ps) (AB s) h=some (v,h')):=rfl
theorem bH{dst:Option Tmp}{ty:TypeId}{pos:String}{af:Array Edge}{gd:Option (Nat × Bool)}{K:AD->A1->Prop}(t:TypeId)(l:Nat)(ps:Array (Nat × Operand)):CY P ow {dst:=dst,op:= .buildSlice t l ps,type:=ty,pos:=pos,after:=af,guard:=gd} K s h=match AX P (dst.any ow) (.buildSlice t l ps) (AB s) h with|some (r,h')=>K (Ai s dst r) h'|none=>False:=rfl
theorem bI{dst:Option Tmp}{ty:TypeId}{pos:String}{af:Array Edge}{gd:Option (Nat × Bool)}{v:PV}{h':A1}(t:TypeId)(l:Nat)(ps:Array (Nat × Operand)):Ar P ow {dst:=dst,op:= .buildSlice t l ps,type:=ty,pos:=pos,after:=af,guard:=gd} (AB s) h v h'=(AX P (dst.any ow) (.buildSlice t l ps) (AB s) h=some (v,h')):=rfl
theorem bJ{dst:Option Tmp}{ty:TypeId}{pos:String}{af:Array Edge}{gd:Option (Nat × Bool)}{K:AD->A1->Prop}(t:TypeId)(x:Operand):CY P ow {dst:=dst,op:= .load t x,type:=ty,pos:=pos,after:=af,guard:=gd} K s h=match AX P (dst.any ow) (.load t x) (AB s) h with|some (r,h')=>K (Ai s dst r) h'|none=>False:=rfl
theorem bK{dst:Option Tmp}{ty:TypeId}{pos:String}{af:Array Edge}{gd:Option (Nat × Bool)}{v:PV}{h':A1}(t:TypeId)(x:Operand):Ar P ow {dst:=dst,op:= .load t x,type:=ty,pos:=pos,after:=af,guard:=gd} (AB s) h v h'=(AX P (dst.any ow) (.load t x) (AB s) h=some (v,h')):=rfl
theorem bL{dst:Option Tmp}{ty:TypeId}{pos:String}{af:Array Edge}{gd:Option (Nat × Bool)}{K:AD->A1->Prop}(t:TypeId)(x:Operand)(y:Operand):CY P ow {dst:=dst,op:= .store t x y,type:=ty,pos:=pos,after:=af,guard:=gd} K s h=match AX P (dst.any ow) (.store t x y) (AB s) h with|some (r,h')=>K (Ai s dst r) h'|none=>False:=rfl
theorem bM{dst:Option Tmp}{ty:TypeId}{pos:String}{af:Array Edge}{gd:Option (Nat × Bool)}{v:PV}{h':A1}(t:TypeId)(x:Operand)(y:Operand):Ar P ow {dst:=dst,op:= .store t x y,type:=ty,pos:=pos,after:=af,guard:=gd} (AB s) h v h'=(AX P (dst.any ow) (.store t x y) (AB s) h=some (v,h')):=rfl
theorem bN{dst:Option Tmp}{ty:TypeId}{pos:String}{af:Array Edge}{gd:Option (Nat × Bool)}{K:AD->A1->Prop}(x:Operand):CY P ow {dst:=dst,op:= .nilCheck x,type:=ty,pos:=pos,after:=af,guard:=gd} K s h=match AX P (dst.any ow) (.nilCheck x) (AB s) h with|some (r,h')=>K (Ai s dst r) h'|none=>False:=rfl
theorem bO{dst:Option Tmp}{ty:TypeId}{pos:String}{af:Array Edge}{gd:Option (Nat × Bool)}{v:PV}{h':A1}(x:Operand):Ar P ow {dst:=dst,op:= .nilCheck x,type:=ty,pos:=pos,after:=af,guard:=gd} (AB s) h v h'=(AX P (dst.any ow) (.nilCheck x) (AB s) h=some (v,h')):=rfl
theorem bP{dst:Option Tmp}{ty:TypeId}{pos:String}{af:Array Edge}{gd:Option (Nat × Bool)}{K:AD->A1->Prop}(op:BinOp)(t:TypeId)(x:Operand)(y:Operand)(u:TypeId):CY P ow {dst:=dst,op:= .binOp op t x y u,type:=ty,pos:=pos,after:=af,guard:=gd} K s h=match AX P (dst.any ow) (.binOp op t x y u) (AB s) h with|some (r,h')=>K (Ai s dst r) h'|none=>False:=rfl
theorem bQ{dst:Option Tmp}{ty:TypeId}{pos:String}{af:Array Edge}{gd:Option (Nat × Bool)}{v:PV}{h':A1}(op:BinOp)(t:TypeId)(x:Operand)(y:Operand)(u:TypeId):Ar P ow {dst:=dst,op:= .binOp op t x y u,type:=ty,pos:=pos,after:=af,guard:=gd} (AB s) h v h'=(AX P (dst.any ow) (.binOp op t x y u) (AB s) h=some (v,h')):=rfl
theorem bR{dst:Option Tmp}{ty:TypeId}{pos:String}{af:Array Edge}{gd:Option (Nat × Bool)}{K:AD->A1->Prop}(op:UnOp)(t:TypeId)(x:Operand):CY P ow {dst:=dst,op:= .unOp op t x,type:=ty,pos:=pos,after:=af,guard:=gd} K s h=match AX P (dst.any ow) (.unOp op t x) (AB s) h with|some (r,h')=>K (Ai s dst r) h'|none=>False:=rfl
theorem bS{dst:Option Tmp}{ty:TypeId}{pos:String}{af:Array Edge}{gd:Option (Nat × Bool)}{v:PV}{h':A1}(op:UnOp)(t:TypeId)(x:Operand):Ar P ow {dst:=dst,op:= .unOp op t x,type:=ty,pos:=pos,after:=af,guard:=gd} (AB s) h v h'=(AX P (dst.any ow) (.unOp op t x) (AB s) h=some (v,h')):=rfl
theorem bT{dst:Option Tmp}{ty:TypeId}{pos:String}{af:Array Edge}{gd:Option (Nat × Bool)}{K:AD->A1->Prop}(a:TypeId)(b:TypeId)(x:Operand):CY P ow {dst:=dst,op:= .convert a b x,type:=ty,pos:=pos,after:=af,guard:=gd} K s h=match AX P (dst.any ow) (.convert a b x) (AB s) h with|some (r,h')=>K (Ai s dst r) h'|none=>False:=rfl
theorem bU{dst:Option Tmp}{ty:TypeId}{pos:String}{af:Array Edge}{gd:Option (Nat × Bool)}{v:PV}{h':A1}(a:TypeId)(b:TypeId)(x:Operand):Ar P ow {dst:=dst,op:= .convert a b x,type:=ty,pos:=pos,after:=af,guard:=gd} (AB s) h v h'=(AX P (dst.any ow) (.convert a b x) (AB s) h=some (v,h')):=rfl
theorem bV{dst:Option Tmp}{ty:TypeId}{pos:String}{af:Array Edge}{gd:Option (Nat × Bool)}{K:AD->A1->Prop}(t:TypeId)(x:Operand):CY P ow {dst:=dst,op:= .makeInterface t x,type:=ty,pos:=pos,after:=af,guard:=gd} K s h=match AX P (dst.any ow) (.makeInterface t x) (AB s) h with|some (r,h')=>K (Ai s dst r) h'|none=>False:=rfl
theorem bW{dst:Option Tmp}{ty:TypeId}{pos:String}{af:Array Edge}{gd:Option (Nat × Bool)}{v:PV}{h':A1}(t:TypeId)(x:Operand):Ar P ow {dst:=dst,op:= .makeInterface t x,type:=ty,pos:=pos,after:=af,guard:=gd} (AB s) h v h'=(AX P (dst.any ow) (.makeInterface t x) (AB s) h=some (v,h')):=rfl
theorem bX{dst:Option Tmp}{ty:TypeId}{pos:String}{af:Array Edge}{gd:Option (Nat × Bool)}{K:AD->A1->Prop}(t:TypeId)(r:Option Operand):CY P ow {dst:=dst,op:= .makeMap t r,type:=ty,pos:=pos,after:=af,guard:=gd} K s h=match AX P (dst.any ow) (.makeMap t r) (AB s) h with|some (r,h')=>K (Ai s dst r) h'|none=>False:=rfl
theorem bY{dst:Option Tmp}{ty:TypeId}{pos:String}{af:Array Edge}{gd:Option (Nat × Bool)}{v:PV}{h':A1}(t:TypeId)(r:Option Operand):Ar P ow {dst:=dst,op:= .makeMap t r,type:=ty,pos:=pos,after:=af,guard:=gd} (AB s) h v h'=(AX P (dst.any ow) (.makeMap t r) (AB s) h=some (v,h')):=rfl
theorem bZ{dst:Option Tmp}{ty:TypeId}{pos:String}{af:Array Edge}{gd:Option (Nat × Bool)}{K:AD->A1->Prop}(t:TypeId)(l:Operand)(c:Operand):CY P ow {dst:=dst,op:= .makeSlice t l c,type:=ty,pos:=pos,after:=af,guard:=gd} K s h=match AX P (dst.any ow) (.makeSlice t l c) (AB s) h with|some (r,h')=>K (Ai s dst r) h'|none=>False:=rfl
theorem bf{dst:Option Tmp}{ty:TypeId}{pos:String}{af:Array Edge}{gd:Option (Nat × Bool)}{v:PV}{h':A1}(t:TypeId)(l:Operand)(c:Operand):Ar P ow {dst:=dst,op:= .makeSlice t l c,type:=ty,pos:=pos,after:=af,guard:=gd} (AB s) h v h'=(AX P (dst.any ow) (.makeSlice t l c) (AB s) h=some (v,h')):=rfl
theorem bg{dst:Option Tmp}{ty:TypeId}{pos:String}{af:Array Edge}{gd:Option (Nat × Bool)}{K:AD->A1->Prop}(t:TypeId)(x:Operand)(lo:Option Operand)(hi:Option Operand)(mx:Option Operand):CY P ow {dst:=dst,op:= .slice t x lo hi mx,type:=ty,pos:=pos,after:=af,guard:=gd} K s h=match AX P (dst.any ow) (.slice t x lo hi mx) (AB s) h with|some (r,h')=>K (Ai s dst r) h'|none=>False:=rfl
theorem bh{dst:Option Tmp}{ty:TypeId}{pos:String}{af:Array Edge}{gd:Option (Nat × Bool)}{v:PV}{h':A1}(t:TypeId)(x:Operand)(lo:Option Operand)(hi:Option Operand)(mx:Option Operand):Ar P ow {dst:=dst,op:= .slice t x lo hi mx,type:=ty,pos:=pos,after:=af,guard:=gd} (AB s) h v h'=(AX P (dst.any ow) (.slice t x lo hi mx) (AB s) h=some (v,h')):=rfl
theorem bj{dst:Option Tmp}{ty:TypeId}{pos:String}{af:Array Edge}{gd:Option (Nat × Bool)}{K:AD->A1->Prop}(t:TypeId)(x:Operand)(f:Nat):CY P ow {dst:=dst,op:= .fieldAddr t x f,type:=ty,pos:=pos,after:=af,guard:=gd} K s h=match AX P (dst.any ow) (.fieldAddr t x f) (AB s) h with|some (r,h')=>K (Ai s dst r) h'|none=>False:=rfl
theorem bm{dst:Option Tmp}{ty:TypeId}{pos:String}{af:Array Edge}{gd:Option (Nat × Bool)}{v:PV}{h':A1}(t:TypeId)(x:Operand)(f:Nat):Ar P ow {dst:=dst,op:= .fieldAddr t x f,type:=ty,pos:=pos,after:=af,guard:=gd} (AB s) h v h'=(AX P (dst.any ow) (.fieldAddr t x f) (AB s) h=some (v,h')):=rfl
theorem bo{dst:Option Tmp}{ty:TypeId}{pos:String}{af:Array Edge}{gd:Option (Nat × Bool)}{K:AD->A1->Prop}(t:TypeId)(x:Operand)(f:Nat):CY P ow {dst:=dst,op:= .field t x f,type:=ty,pos:=pos,after:=af,guard:=gd} K s h=match AX P (dst.any ow) (.field t x f) (AB s) h with|some (r,h')=>K (Ai s dst r) h'|none=>False:=rfl
theorem bp{dst:Option Tmp}{ty:TypeId}{pos:String}{af:Array Edge}{gd:Option (Nat × Bool)}{v:PV}{h':A1}(t:TypeId)(x:Operand)(f:Nat):Ar P ow {dst:=dst,op:= .field t x f,type:=ty,pos:=pos,after:=af,guard:=gd} (AB s) h v h'=(AX P (dst.any ow) (.field t x f) (AB s) h=some (v,h')):=rfl
theorem bq{dst:Option Tmp}{ty:TypeId}{pos:String}{af:Array Edge}{gd:Option (Nat × Bool)}{K:AD->A1->Prop}(t:TypeId)(x:Operand)(i:Operand):CY P ow {dst:=dst,op:= .indexAddr t x i,type:=ty,pos:=pos,after:=af,guard:=gd} K s h=match AX P (dst.any ow) (.indexAddr t x i) (AB s) h with|some (r,h')=>K (Ai s dst r) h'|none=>False:=rfl
theorem bs{dst:Option Tmp}{ty:TypeId}{pos:String}{af:Array Edge}{gd:Option (Nat × Bool)}{v:PV}{h':A1}(t:TypeId)(x:Operand)(i:Operand):Ar P ow {dst:=dst,op:= .indexAddr t x i,type:=ty,pos:=pos,after:=af,guard:=gd} (AB s) h v h'=(AX P (dst.any ow) (.indexAddr t x i) (AB s) h=some (v,h')):=rfl
theorem bt{dst:Option Tmp}{ty:TypeId}{pos:String}{af:Array Edge}{gd:Option (Nat × Bool)}{K:AD->A1->Prop}(t:TypeId)(x:Operand)(i:Operand):CY P ow {dst:=dst,op:= .index t x i,type:=ty,pos:=pos,after:=af,guard:=gd} K s h=match AX P (dst.any ow) (.index t x i) (AB s) h with|some (r,h')=>K (Ai s dst r) h'|none=>False:=rfl
theorem bu{dst:Option Tmp}{ty:TypeId}{pos:String}{af:Array Edge}{gd:Option (Nat × Bool)}{v:PV}{h':A1}(t:TypeId)(x:Operand)(i:Operand):Ar P ow {dst:=dst,op:= .index t x i,type:=ty,pos:=pos,after:=af,guard:=gd} (AB s) h v h'=(AX P (dst.any ow) (.index t x i) (AB s) h=some (v,h')):=rfl
theorem bw{dst:Option Tmp}{ty:TypeId}{pos:String}{af:Array Edge}{gd:Option (Nat × Bool)}{K:AD->A1->Prop}(t:TypeId)(x:Operand)(k:Operand)(ok:Bool):CY P ow {dst:=dst,op:= .lookup t x k ok,type:=ty,pos:=pos,after:=af,guard:=gd} K s h=match AX P (dst.any ow) (.lookup t x k ok) (AB s) h with|some (r,h')=>K (Ai s dst r) h'|none=>False:=rfl
theorem cB{dst:Option Tmp}{ty:TypeId}{pos:String}{af:Array Edge}{gd:Option (Nat × Bool)}{v:PV}{h':A1}(t:TypeId)(x:Operand)(k:Operand)(ok:Bool):Ar P ow {dst:=dst,op:= .lookup t x k ok,type:=ty,pos:=pos,after:=af,guard:=gd} (AB s) h v h'=(AX P (dst.any ow) (.lookup t x k ok) (AB s) h=some (v,h')):=rfl
theorem cC{dst:Option Tmp}{ty:TypeId}{pos:String}{af:Array Edge}{gd:Option (Nat × Bool)}{K:AD->A1->Prop}(t:TypeId)(x:Operand)(k:Operand)(y:Operand):CY P ow {dst:=dst,op:= .mapUpdate t x k y,type:=ty,pos:=pos,after:=af,guard:=gd} K s h=match AX P (dst.any ow) (.mapUpdate t x k y) (AB s) h with|some (r,h')=>K (Ai s dst r) h'|none=>False:=rfl
theorem cF{dst:Option Tmp}{ty:TypeId}{pos:String}{af:Array Edge}{gd:Option (Nat × Bool)}{v:PV}{h':A1}(t:TypeId)(x:Operand)(k:Operand)(y:Operand):Ar P ow {dst:=dst,op:= .mapUpdate t x k y,type:=ty,pos:=pos,after:=af,guard:=gd} (AB s) h v h'=(AX P (dst.any ow) (.mapUpdate t x k y) (AB s) h=some (v,h')):=rfl
theorem cH{dst:Option Tmp}{ty:TypeId}{pos:String}{af:Array Edge}{gd:Option (Nat × Bool)}{K:AD->A1->Prop}(x:Operand)(t:TypeId)(u:TypeId)(ok:Bool):CY P ow {dst:=dst,op:= .typeAssert x t u ok,type:=ty,pos:=pos,after:=af,guard:=gd} K s h=match AX P (dst.any ow) (.typeAssert x t u ok) (AB s) h with|some (r,h')=>K (Ai s dst r) h'|none=>False:=rfl
theorem cI{dst:Option Tmp}{ty:TypeId}{pos:String}{af:Array Edge}{gd:Option (Nat × Bool)}{v:PV}{h':A1}(x:Operand)(t:TypeId)(u:TypeId)(ok:Bool):Ar P ow {dst:=dst,op:= .typeAssert x t u ok,type:=ty,pos:=pos,after:=af,guard:=gd} (AB s) h v h'=(AX P (dst.any ow) (.typeAssert x t u ok) (AB s) h=some (v,h')):=rfl
theorem cJ{dst:Option Tmp}{ty:TypeId}{pos:String}{af:Array Edge}{gd:Option (Nat × Bool)}{K:AD->A1->Prop}(x:Operand)(i:Nat):CY P ow {dst:=dst,op:= .extract x i,type:=ty,pos:=pos,after:=af,guard:=gd} K s h=match AX P (dst.any ow) (.extract x i) (AB s) h with|some (r,h')=>K (Ai s dst r) h'|none=>False:=rfl
theorem cM{dst:Option Tmp}{ty:TypeId}{pos:String}{af:Array Edge}{gd:Option (Nat × Bool)}{v:PV}{h':A1}(x:Operand)(i:Nat):Ar P ow {dst:=dst,op:= .extract x i,type:=ty,pos:=pos,after:=af,guard:=gd} (AB s) h v h'=(AX P (dst.any ow) (.extract x i) (AB s) h=some (v,h')):=rfl
theorem cO{dst:Option Tmp}{ty:TypeId}{pos:String}{af:Array Edge}{gd:Option (Nat × Bool)}{K:AD->A1->Prop}(bb:Builtin)(as:Array Operand)(ts:Array TypeId):CY P ow {dst:=dst,op:= .call {callee:= .builtin bb,args:=as,argTypes:=ts},type:=ty,pos:=pos,after:=af,guard:=gd} K s h=match AX P (dst.any ow) (.call {callee:= .builtin bb,args:=as,argTypes:=ts}) (AB s) h with|some (r,h')=>K (Ai s dst r) h'|none=>False:=rfl
theorem cQ{dst:Option Tmp}{ty:TypeId}{pos:String}{af:Array Edge}{gd:Option (Nat × Bool)}{v:PV}{h':A1}(bb:Builtin)(as:Array Operand)(ts:Array TypeId):Ar P ow {dst:=dst,op:= .call {callee:= .builtin bb,args:=as,argTypes:=ts},type:=ty,pos:=pos,after:=af,guard:=gd} (AB s) h v h'=(AX P (dst.any ow) (.call {callee:= .builtin bb,args:=as,argTypes:=ts}) (AB s) h=some (v,h')):=rfl
theorem CW{f:FuncId}{dst:Option Tmp}{args:List Operand}{ts:Array TypeId}{ty:TypeId}{pos:String}{af:Array Edge}{gd:Option (Nat × Bool)}{as:List PV}{v:PV}{h':A1}
  (hc:A6 P f as h λr h''=>r=v/\h''=h')(ha:args.map (AB s)=as):
  Ar P ow {dst:=dst,op:= .call {callee:= .value (.func f),args:=args.toArray,argTypes:=ts},type:=ty,pos:=pos,after:=af,guard:=gd} (AB s) h v h':=by
 unfold Ar;simp only[callee,AB,KT,AO];rw[ha];exact hc
theorem Mh{f:FuncId}{d:Nat}{args:List Operand}{ts:Array TypeId}{ty:TypeId}{pos:String}{af:Array Edge}{gd:Option (Nat × Bool)}{as:List PV}{v:PV}{ops rest:List Oper}{k k':Nat}{past:Gi}{hist:List (Nat × A1)}{K:AD->A1->Prop}
  (hc:A6 P f as h λr h'=>r=v/\h'=h)(ha:args.map (AB s)=as)
  (hk:FA P ow wf n ops k rest ((k',{dst:=some d,op:= .call {callee:= .value (.func f),args:=args.toArray,argTypes:=ts},type:=ty,pos:=pos,after:=af,guard:=gd},s,v)::past) hist K (Cf s d v) h):
  ∃ v,Ar P ow {dst:=some d,op:= .call {callee:= .value (.func f),args:=args.toArray,argTypes:=ts},type:=ty,pos:=pos,after:=af,guard:=gd} (AB s) h v h/\
   EG P ow wf n ops k rest (Df P ow ((k',{dst:=some d,op:= .call {callee:= .value (.func f),args:=args.toArray,argTypes:=ts},type:=ty,pos:=pos,after:=af,guard:=gd},s,v)::past)) hist K (Cf s d v) h:=
 ⟨v,CW hc ha,JK _ _ _ _ _ _ hk⟩
theorem Ip{f:FuncId}{d:Nat}{args:List Operand}{ts:Array TypeId}{ty:TypeId}{pos:String}{af:Array Edge}{gd:Option (Nat × Bool)}{as:List PV}{v:PV}{ops rest:List Oper}{k k':Nat}{past:Gi}{hist:List (Nat × A1)}{K:AD->A1->Prop}{A:PV->Prop}
  (hc:A6 P f as h λr h'=>r=v/\h'=h)(ha:args.map (AB s)=as)(hA:A v)
  (hk:FA P ow wf n ops k rest ((k',{dst:=some d,op:= .call {callee:= .value (.func f),args:=args.toArray,argTypes:=ts},type:=ty,pos:=pos,after:=af,guard:=gd},s,v)::past) hist K (Cf s d v) h):
  ∃ v,Ar P ow {dst:=some d,op:= .call {callee:= .value (.func f),args:=args.toArray,argTypes:=ts},type:=ty,pos:=pos,after:=af,guard:=gd} (AB s) h v h/\A v/\
   EG P ow wf n ops k rest (Df P ow ((k',{dst:=some d,op:= .call {callee:= .value (.func f),args:=args.toArray,argTypes:=ts},type:=ty,pos:=pos,after:=af,guard:=gd},s,v)::past)) hist K (Cf s d v) h:=
 ⟨v,CW hc ha,hA,JK _ _ _ _ _ _ hk⟩
theorem Lk{f:FuncId}{d:Nat}{args:List Operand}{ts:Array TypeId}{ty:TypeId}{pos:String}{af:Array Edge}{gd:Option (Nat × Bool)}{as:List PV}{v:PV}{h1:A1}{ops rest:List Oper}{k:Nat}{past:Gi}{hist:List (Nat × A1)}{K:AD->A1->Prop}{A:A1->Prop}
  (hc:A6 P f as h λr h'=>r=v/\h'=h1)(ha:args.map (AB s)=as)(hA:A h1)
  (hk:FA P ow wf n ops k rest past hist K (Cf s d v) h1):
  ∃ v h',Ar P ow {dst:=some d,op:= .call {callee:= .value (.func f),args:=args.toArray,argTypes:=ts},type:=ty,pos:=pos,after:=af,guard:=gd} (AB s) h v h'/\A h'/\
   EG P ow wf n ops k rest (Df P ow past) hist K (Cf s d v) h':=
 ⟨v,h1,CW hc ha,hA,JK _ _ _ _ _ _ hk⟩
end
theorem cR(h:A1)(z:Nat)(rows:List (List PV)):GA h (.A2 z rows)=some rows.length:=rfl
theorem cT(h:A1):GA h .emp=some 0:=rfl
theorem cU(h:A1):GA h (.sc (.slice none 0 0))=some 0:=rfl
theorem cV(h:A1)(id off len:Nat):GA h (.own id off len)=some len:=rfl
theorem cX(h:A1)(b:ByteArray):GA h (.sc (.string b))=some b.size:=rfl
theorem cY(h:A1):GA h (.sc (.map none))=some 0:=rfl
theorem cZ(h:A1)(id:Nat):GA h (.mp id)=match h.obj id with|some (.map es)=>some es.length|_=>none:=rfl
theorem cg(k z:Nat)(rows:List (List PV)):GL k (.A2 z rows)=(k==5):=rfl
theorem cj(k:Nat):GL k .emp=(k==5):=rfl
theorem cm(k:Nat):GL k (.sc (.slice none 0 0))=(k==5):=rfl
theorem cq(k id off len:Nat):GL k (.own id off len)=(k==5):=rfl
theorem cr(k:Nat)(b:ByteArray):GL k (.sc (.string b))=(k==3):=rfl
theorem ct(k:Nat):GL k (.sc (.map none))=(k==6):=rfl
theorem cv(k id:Nat):GL k (.mp id)=(k==6):=rfl
theorem cw(h:A1)(z z':Nat)(rows:List (List PV))(i:Int):Kg h z (.A2 z' rows) i=if 0<=i then(if z'=z then(rows[i.toNat]?).map .Ag else none)else none:=rfl
theorem cz(h:A1)(z id off len:Nat)(i:Int):Kg h z (.own id off len) i=if 0<=i then(match h.obj id with|some (.arr z' _)=>if z'=z/\i.toNat<len then some (.ptr id (off+i.toNat) 0)else none|_=>none)else none:=rfl
theorem dA(n z id r f:Nat)(i:Int):MU n z (.ptr id r f) i=if 0<=i/\i<n then some (.ptr id r (f+i.toNat*z))else none:=rfl
theorem dB(n z:Nat)(cs:List PV)(i:Int):MU n z (.Ag cs) i=if 0<=i/\i<n then(if i.toNat*z+z<=cs.length then some (.Ag ((cs.drop (i.toNat*z)).take z))else none)else none:=rfl
theorem dC(off n id i f:Nat):MV off n (.ptr id i f)=if 0<n then some (.ptr id i (f+off))else none:=rfl
theorem dD(off n:Nat)(cs:List PV):MV off n (.Ag cs)=if 0<n/\off+n<=cs.length then some (.Ag ((cs.drop off).take n))else none:=rfl
theorem dE(h:A1)(id i f:Nat):rd h (.ptr id i f)=match h.obj id with|some (.arr _ rows)=>(rows[i]?).map (·.drop f)|_=>none:=rfl
theorem dF(h:A1)(cs:List PV):rd h (.Ag cs)=some cs:=rfl
theorem dG(h:A1)(vc:List PV)(id i f:Nat):wr h vc (.ptr id i f)=match h.obj id with|some (.arr z rows)=>(match rows[i]? with|some r=>if f+vc.length<=r.length then some (h.set id (.arr z (rows.set i (Jo r f vc))))else none|none=>none)|_=>none:=rfl
theorem dH(h:A1)(z:Nat)(rows:List (List PV)):Gg h (.A2 z rows)=some rows:=rfl
theorem dI(h:A1):Gg h .emp=some []:=rfl
theorem dJ(h:A1):Gg h (.sc (.slice none 0 0))=some []:=rfl
theorem dK(h:A1)(id off len:Nat):Gg h (.own id off len)=match h.obj id with|some (.arr _ rows)=>if off+len<=rows.length then some ((rows.drop off).take len)else none|_=>none:=rfl
theorem dM(h:A1)(z z':Nat)(rows:List (List PV)):De h z (.A2 z' rows)=(z'==z):=rfl
theorem dN(h:A1)(z:Nat):De h z .emp=true:=rfl
theorem dO(h:A1)(z:Nat):De h z (.sc (.slice none 0 0))=true:=rfl
theorem dP(h:A1)(z id off len:Nat):De h z (.own id off len)=match h.obj id with|some (.arr z' _)=>z'==z|_=>false:=rfl
theorem dQ(h:A1):EW h .emp=some (h,[]):=rfl
theorem dR(h:A1):EW h (.sc (.slice none 0 0))=some (h,[]):=rfl
theorem dS(h:A1)(id off len:Nat):EW h (.own id off len)=match h.obj id with|some (.arr _ rows)=>if off+len<=rows.length then some (h.kill id,(rows.drop off).take len)else none|_=>none:=rfl
theorem dT(z:Nat)(rows:List (List PV)):Kh (.A2 z rows)=true:=rfl
theorem dU(id off len:Nat):Kh (.own id off len)=true:=rfl
theorem dV:Kh .emp=true:=rfl
theorem dW:zB 0=true:=rfl
theorem dX:Kh (.sc (.slice none 0 0))=true:=rfl
theorem dY(h:A1):MY h (.sc (.map none))=some []:=rfl
theorem dZ(h:A1)(id:Nat):MY h (.mp id)=match h.obj id with|some (.map es)=>some es|_=>none:=rfl
theorem db(z z':Nat)(rows:List (List PV))(h:A1)(lo hi:Option Int):MW z (.A2 z' rows) h lo hi=if 0<=lo.getD 0/\lo.getD 0<=hi.getD rows.length/\hi.getD rows.length<=rows.length/\(z'==z)=true then some (.A2 z' ((rows.drop (lo.getD 0).toNat).take (hi.getD rows.length-lo.getD 0).toNat))else none:=rfl
theorem de(z id off len:Nat)(h:A1)(lo hi:Option Int):MW z (.own id off len) h lo hi=if 0<=lo.getD 0/\lo.getD 0<=hi.getD len/\hi.getD len<=len/\De h z (.own id off len)=true then(match h.obj id with|some (.arr _ _)=>some (.own id (off+(lo.getD 0).toNat) (hi.getD len-lo.getD 0).toNat)|_=>none)else none:=rfl
theorem dg(l:List PV):PV.cells (.agg l)=l:=rfl
theorem dh(v:Value):PV.cells (.sc v)=[.sc v]:=rfl
theorem dj(z:Nat)(l:List (List PV)):PV.cells (.A2 z l)=[.A2 z l]:=rfl
theorem dk(i o l:Nat):PV.cells (.own i o l)=[.own i o l]:=rfl
theorem dm(i o l:Nat):PV.cells (.ptr i o l)=[.ptr i o l]:=rfl
theorem dq(l:List PV):PV.cells (.Ag l)=[.Ag l]:=rfl
theorem du:PV.cells .emp=[.emp]:=rfl
theorem dv(i:Nat):PV.cells (.mp i)=[.mp i]:=rfl
theorem dw(k:IntKind)(i:Int):Cx (.sc (.int k i))=true:=rfl
theorem dx(b:Bool):Cx (.sc (.bool b))=true:=rfl
theorem dy(b:ByteArray):Cx (.sc (.string b))=true:=rfl
theorem dz:Cx (.sc .nilIface)=true:=rfl
theorem eA(t:TypeId)(v:Value):Cx (.sc (.iface t v))=true:=rfl
theorem eB(a:Option Addr):Cx (.sc (.pointer a))=true:=rfl
theorem eC(a:Option Addr)(l c:Nat):Cx (.sc (.slice a l c))=true:=rfl
theorem eD(a:Option Nat):Cx (.sc (.map a))=true:=rfl
theorem eE(z:Nat)(l:List (List PV)):Cx (.A2 z l)=true:=rfl
theorem eF(i o l:Nat):Cx (.own i o l)=true:=rfl
theorem eG(i o l:Nat):Cx (.ptr i o l)=true:=rfl
theorem eI(l:List PV):Cx (.Ag l)=true:=rfl
theorem eJ:Cx .emp=true:=rfl
theorem eK(i:Nat):Cx (.mp i)=true:=rfl
structure Sl(h:A1)(z:Nat)(p:PV)(rows:List (List PV)):Prop where
 vw:Gg h p=some rows
 zk:De h z p=true
 len:GA h p=some rows.length
 lk:GL 5 p=true
 sl:Kh p=true
 get: ∀ (i:Nat)(r:List PV),rows[i]? =some r-> ∃ q,Kg h z p (i:Int)=some q/\rd h q=some r
theorem Sl.emp{h:A1}{z:Nat}:Sl h z .emp []:=⟨rfl,rfl,rfl,rfl,rfl,λi r hr=>by simp at hr⟩
theorem Sl.nil{h:A1}{z:Nat}:Sl h z (.sc (.slice none 0 0)) []:=⟨rfl,rfl,rfl,rfl,rfl,λi r hr=>by simp at hr⟩
theorem Sl.own{h:A1}{z id off len:Nat}{rows:List (List PV)}(ho:h.obj id=some (.arr z rows))(hl:off+len<=rows.length):Sl h z (.own id off len) ((rows.drop off).take len):=by
 refine⟨by simp[Gg,ho,hl],by simp[De,ho],by simp[GA];omega,rfl,rfl,λi r hr=>?_⟩;rw[List.getElem?_take]at hr;split at hr
 ·rename_i hi;rw[List.getElem?_drop]at hr;exact⟨.ptr id (off+i) 0,by simp[Kg,ho,hi],by simp[rd,ho,hr]⟩
 ·simp at hr
theorem Sl.pE{h:A1}{z id:Nat}{rows:List (List PV)}(ho:h.obj id=some (.arr z rows)):Sl h z (.own id 0 rows.length) rows:=by
 have:=Sl.own (off:=0) (len:=rows.length) ho (by omega);simpa using this
def Wf(h:A1):Prop:= ∀ id,(h.obj id).isSome=true->id<h.next
theorem JL{P:Program}{f:FuncId}{args:List PV}{h:A1}{K:PV->A1->Prop}(hb:Ad P f=true)(hk:Wf h->A6 P f args h K):A6 P f args h K:=
 λβ w vals sm hr=>hk sm.lt β w vals sm hr
def UN(xs:List Int):List (List PV):=xs.map λx=>[.sc (.int .i64 x)]
theorem eL(xs:List Int):(UN xs).length=xs.length:=by simp[UN]
theorem BZ{n:Int}(h1: -9223372036854775808<=n)(h2:n<=9223372036854775807):IntKind.i64.wrap n=n:=IntWalk.i64_in _ ⟨h1,h2⟩
mutual
def AJ(n:Nat)(h':A1):PV->PV->Prop
 | .A2 z rows, r' => (r' = .A2 z rows /\ BC n rows) \/ (rows = [] /\ (r' = .emp \/ r' = .sc (.slice none 0 0))) \/
   ∃ id off len rows',r'= .own id off len/\n<=id/\h'.obj id=some (.arr z rows')/\off+len<=rows'.length/\DA n h' rows ((rows'.drop off).take len)
 | .agg cs,r'=> ∃ cs',r'= .agg cs'/\AP n h' cs cs'
 | .Am cs,r'=> ∃ cs',r'= .Am cs'/\AP n h' cs cs'
 | .sc v,r'=>r'= .sc v
 | .ptr id i f,r'=>r'= .ptr id i f/\id<n
 | .Ag cs,r'=>(r'= .Ag cs/\Br n cs)\/ ∃ id i f z rows' q,r'= .ptr id i f/\n<=id/\h'.obj id=some (.arr z rows')/\rows'[i]? =some q/\AP n h' cs (q.drop f)
 | .own id off len,r'=>r'= .own id off len/\id<n
 | .emp,r'=>r'= .emp
 | .mp id,r'=>r'= .mp id/\id<n
 | .fn f a b,r'=>r'= .fn f a b/\Br n a/\Br n b
 | .ab k lo hi m r,r'=>r'= .ab k lo hi m r
def AP(n:Nat)(h':A1):List PV->List PV->Prop
 |[],[]=>True
 |p::ps,q::qs=>AJ n h' p q/\AP n h' ps qs
 |_,_=>False
def DA(n:Nat)(h':A1):List (List PV)->List (List PV)->Prop
 |[],[]=>True
 |p::ps,q::qs=>AP n h' p q/\DA n h' ps qs
 |_,_=>False
end
section
variable {β:BK}{n m:Nat}{F F':Nat->Prop}{w:World}
theorem AP.len{h':A1}:(l l':List PV)->AP n h' l l'->l.length=l'.length
 |[],[],_=>rfl
 |[],_::_,h=>by simp only[AP]at h
 |_::_,[],h=>by simp only[AP]at h
 |_::ps,_::qs,h=>by simp only[AP]at h;simp only[List.length_cons,AP.len ps qs h.2]
theorem DA.len{h':A1}:(l l':List (List PV))->DA n h' l l'->l.length=l'.length
 |[],[],_=>rfl
 |[],_::_,h=>by simp only[DA]at h
 |_::_,[],h=>by simp only[DA]at h
 |_::ps,_::qs,h=>by simp only[DA]at h;simp only[List.length_cons,DA.len ps qs h.2]
mutual
theorem AJ.rep{h':A1}(sm:B3 β h' w)(hF: ∀ b,Fz β h' w b->F' b)(hB: ∀ id b,n<=id->(h'.obj id).isSome=true->(β id).b=some b->F' b):(p p':PV)->(x:Value)->AJ n h' p p'->AA β h'.next (Fz β h' w) w p' x->AA β n F' w p x
 | .A2 z rows,p',x,hf,hr=>by
  simp only[AJ]at hf;rcases hf with⟨rfl,hs⟩|⟨rfl,hf⟩|⟨id,off,len,rows',rfl,hid,hob,hle,hf⟩
  ·exact AA.low hF _ x (by simpa only[Be]using hs) hr
  ·rcases hf with rfl|rfl
   ·simp only[AA]at hr⊢;obtain⟨a,rfl⟩:=hr;exact⟨a,0,rfl,AG _,BY _,.inl A5⟩
   ·simp only[AA]at hr⊢;exact⟨none,0,hr,AG _,BY _,.inl A5⟩
  ·have hl:=DA.len _ _ hf;have hl2:((rows'.drop off).take len).length=len:=(by simp;omega);simp only[AA]at hr⊢;obtain⟨_,a,cap,rfl,h2,h2',h3⟩:=hr;refine⟨a,cap,by rw[hl,hl2],by omega,h2',?_⟩;rcases h3 with h3|⟨b,h4,h5,h6⟩
   ·left;exact List.eq_nil_of_length_eq_zero (by omega)
   ·have hok:=sm.ok id _ hob;simp only[BM]at hok;rcases hok.2 with⟨h7,h8⟩|⟨b',c,e,fr,g5,g6,g7,g8,g9,g10⟩
    ·rw [h7]at h4;simp at h4
    ·rw [h4]at g5;simp at g5;subst g5;right;refine⟨b,_,hB id b hid (by rw[hob];try rfl) h4,h5,?_⟩;rw[hok.1];exact DA.rep sm hF hB z rows _ b _ hf ((g10.drop off).take len)
 | .agg cs,p',x,hf,hr=>by
  simp only[AJ]at hf;obtain⟨cs',rfl,hf⟩:=hf;simp only[AA]at hr⊢;obtain⟨xs,h1,h2,h3⟩:=hr;exact⟨xs,h1,h2,AP.rep sm hF hB cs cs' xs hf h3⟩
 | .Am cs,p',x,hf,hr=>by
  simp only[AJ]at hf;obtain⟨cs',rfl,hf⟩:=hf;simp only[AA]at hr⊢;obtain⟨xs,h1,h3⟩:=hr;exact⟨xs,h1,AP.rep sm hF hB cs cs' xs hf h3⟩
 | .sc v,p',x,hf,hr=>by simp only[AJ]at hf;subst hf;simpa only[AA]using hr
 | .ptr _ _ _,p',x,hf,hr=>by simp only[AJ]at hf;obtain⟨rfl,hf⟩:=hf;exact AA.low hF _ x (by simpa only[Be]using hf) hr
 | .Ag cs,p',x,hf,hr=>by
  simp only[AJ]at hf;rcases hf with⟨rfl,hf⟩|⟨id,i,f,z,rows',q,rfl,hid,hob,hq,hf⟩
  ·exact AA.low hF _ x (by simpa only[Be]using hf) hr
  ·simp only[AA]at hr⊢;obtain⟨_,b,hb,rfl⟩:=hr;have hok:=sm.ok id _ hob;simp only[BM]at hok;rcases hok.2 with⟨h7,h8⟩|⟨b',c,e,fr,g5,g6,g7,g8,g9,g10⟩
   ·rw [h7]at hb;simp at hb
   ·rw [hb]at g5;simp at g5;subst g5;refine⟨b,_,hB id b hid (by rw[hob];try rfl) hb,rfl,?_⟩;rw[hok.1];exact FrzS.rep sm hF hB cs _ b _ hf (((HG.1 g10) i q hq).2.drop f)
 | .own _ _ _,p',x,hf,hr=>by simp only[AJ]at hf;obtain⟨rfl,hf⟩:=hf;exact AA.low hF _ x (by simpa only[Be]using hf) hr
 | .emp,p',x,hf,hr=>by simp only[AJ]at hf;subst hf;simpa only[AA]using hr
 | .mp _,p',x,hf,hr=>by simp only[AJ]at hf;obtain⟨rfl,hf⟩:=hf;exact AA.low hF _ x (by simpa only[Be]using hf) hr
 | .fn _ _ _,p',x,hf,hr=>by simp only[AJ]at hf;obtain⟨rfl,hf⟩:=hf;exact AA.low hF _ x (by simpa only[Be]using hf) hr
 | .ab _ _ _ _ _,p',x,hf,hr=>by simp only[AJ]at hf;subst hf;simpa only[AA]using hr
theorem AP.rep{h':A1}(sm:B3 β h' w)(hF: ∀ b,Fz β h' w b->F' b)(hB: ∀ id b,n<=id->(h'.obj id).isSome=true->(β id).b=some b->F' b):(l l':List PV)->(xs:List Value)->AP n h' l l'->AU β h'.next (Fz β h' w) w l' xs->AU β n F' w l xs
 |[],[],[],_,_=>by simp only[AU]
 |[],[],_::_,_,h=>by simp only[AU]at h
 |[],_::_,_,h,_=>by simp only[AP]at h
 |_::_,[],_,h,_=>by simp only[AP]at h
 |_::_,_::_,[],_,h=>by simp only[AU]at h
 |p::ps,q::qs,v::vs,hf,hr=>by
  simp only[AP]at hf;simp only[AU]at hr⊢;exact⟨AJ.rep sm hF hB p q v hf.1 hr.1,AP.rep sm hF hB ps qs vs hf.2 hr.2⟩
theorem DA.rep{h':A1}(sm:B3 β h' w)(hF: ∀ b,Fz β h' w b->F' b)(hB: ∀ id b,n<=id->(h'.obj id).isSome=true->(β id).b=some b->F' b)(z:Nat):(l l':List (List PV))->(b o:Nat)->DA n h' l l'->BJ β h'.next (Fz β h' w) w z l' b o->BJ β n F' w z l b o
 |[],[],_,_,_,_=>by simp only[BJ]
 |[],_::_,_,_,h,_=>by simp only[DA]at h
 |_::_,[],_,_,h,_=>by simp only[DA]at h
 |p::ps,q::qs,b,o,hf,hr=>by
  simp only[DA]at hf;simp only[BJ]at hr⊢;exact⟨⟨by rw[AP.len p q hf.1];exact hr.1.1,FrzS.rep sm hF hB p q b o hf.1 hr.1.2⟩,DA.rep sm hF hB z ps qs b (o+z) hf.2 hr.2⟩
theorem FrzS.rep{h':A1}(sm:B3 β h' w)(hF: ∀ b,Fz β h' w b->F' b)(hB: ∀ id b,n<=id->(h'.obj id).isSome=true->(β id).b=some b->F' b):(l l':List PV)->(b o:Nat)->AP n h' l l'->Bm β h'.next (Fz β h' w) w l' b o->Bm β n F' w l b o
 |[],[],_,_,_,_=>by simp only[Bm]
 |[],_::_,_,_,h,_=>by simp only[AP]at h
 |_::_,[],_,_,h,_=>by simp only[AP]at h
 |p::ps,q::qs,b,o,hf,hr=>by
  simp only[AP]at hf;simp only[Bm]at hr⊢;obtain⟨⟨v,g1,g2,g3⟩,g4⟩:=hr;exact⟨⟨v,g1,g2,AJ.rep sm hF hB p q v hf.1 g3⟩,FrzS.rep sm hF hB ps qs b (o+1) hf.2 g4⟩
end
end
section
variable {P:Program}
theorem A6.drop{f:FuncId}{args:List PV}{h:A1}{K:PV->A1->Prop}
  (hc:A6 P f args h (λr' h'=> ∃ r h2,K r h2/\AJ h2.next h' r r'/\h.next<=h2.next/\(∀ id o,h2.obj id=some o->h'.obj id=some o/\id<h2.next/\(h.obj id=some o\/Eu h2.next o)))):A6 P f args h K:=by
 refine λβ w vals sm hr=>(hc β w vals sm hr).mono ?_;rintro e w' ⟨r',h',β',v,rfl,⟨r,h2,hK,hf,hn,ho⟩,sm',hrep,ex⟩;have hF: ∀ b,Fz β' h' w' b->Fz β' h2 w' b:=λb hb=>⟨hb.1,λid hid=>by
  obtain⟨o,hoo⟩:=Jl.1 hid;exact hb.2.1 id (by rw[(ho id o hoo).1];try rfl),hb.2.2⟩
 have hB: ∀ id b,h2.next<=id->(h'.obj id).isSome=true->(β' id).b=some b->Fz β' h2 w' b:=by
  intro id b hid hs hb;obtain⟨o,hoo⟩:=Jl.1 hs;refine⟨sm'.Jm hoo hb,λj hj hjb=>?_,sm'.nx id hs b hb⟩;obtain⟨o2,ho2⟩:=Jl.1 hj;obtain⟨h3,h4,_⟩:=ho j o2 ho2;have:=sm'.inj id j hs (by rw[h3];try rfl) b hb hjb;omega
 refine⟨r,h2,β',v,rfl,hK,⟨λid hid=>?_,λid o hoo=>?_,λi j hi hj=>?_,sm'.xs,λid hid=>?_⟩,?_,⟨ex.os,ex.tape,ex.output,ex.size,hn,ex.beta,ex.X,ex.xh,λb hb=>⟨hF b (ex.fz b hb).1,(ex.fz b hb).2⟩⟩⟩
 ·obtain ⟨o,hoo⟩:=Jl.1 hid;exact(ho id o hoo).2.1
 ·obtain ⟨h3,h4,h5⟩:=ho id o hoo;have hs:Eu h2.next o:=by
   rcases h5 with h5|h5
   ·have h6:=(sm.ok id o h5).inN
    have up: ∀ (o:An),Eu h.next o->Eu h2.next o:=by
     intro o hso;cases o with
     |arr z rows=>exact RB hn rows hso
     |map es=>exact Kj hn _ hso
     |Ig g lo hi=>simp only[Eu]
    exact up o h6
   ·exact h5
  exact BM.low hF hs (sm'.ok id o h3)
 ·obtain ⟨o,hoo⟩:=Jl.1 hi;obtain⟨o2,ho2⟩:=Jl.1 hj;exact sm'.inj i j (by rw[(ho i o hoo).1];try rfl) (by rw[(ho j o2 ho2).1];try rfl)
 ·obtain ⟨o,hoo⟩:=Jl.1 hid;exact sm'.nx id (by rw[(ho id o hoo).1];try rfl)
 ·exact AJ.rep sm' hF hB r r' v hf hrep
end
def Ev(n:Nat)(h:A1):A1:=⟨h.next,λj=>if j<n then h.obj j else none⟩
def Cl:List (Nat × PV)->AD->AD
 |[],s=>s
 |(t,p)::l,s=>Cf (Cl l s) t p
theorem UO{n:Nat}{h:A1}{id:Nat}{o:An}(ho:(Ev n h).obj id=some o):id<n/\h.obj id=some o:=by
 simp only[Ev]at ho;split at ho
 ·rename_i hn;exact⟨hn,ho⟩
 ·cases ho
theorem Wk.drop{s:AD}{h:A1}{n:Nat}{l:List (Nat × PV)}(hn:n<=h.next)(hf: ∀ x∈l,AJ n h x.2 (s x.1)):Wk s h (Cl l s) (Ev n h):=by
 intro β w sm;have hsome: ∀ id,((Ev n h).obj id).isSome=true->id<n/\(h.obj id).isSome=true:=λid hid=>by
  obtain⟨o,ho⟩:=Jl.1 hid;obtain⟨h1,h2⟩:=UO ho;exact⟨h1,by rw[h2];try rfl⟩
 have hF: ∀ b,Fz β h w b->Fz β (Ev n h) w b:=λb hb=>⟨hb.1,λid hid=>hb.2.1 id (hsome id hid).2,hb.2.2⟩;have hB: ∀ id b,n<=id->(h.obj id).isSome=true->(β id).b=some b->Fz β (Ev n h) w b:=by
  intro id b hid hs hb;obtain⟨o,hoo⟩:=Jl.1 hs;refine⟨sm.Jm hoo hb,λj hj hjb=>?_,sm.nx id hs b hb⟩;obtain⟨h1,h2⟩:=hsome j hj;have:=sm.inj id j hs h2 b hb hjb;omega
 have mv:Mv β h.next (Fz β h w) w β (Ev n h).next (Fz β (Ev n h) w) w:=⟨AG _,λ_ _ _=>rfl,λb hb=>⟨hF b hb,rfl⟩⟩
 have mv2:Mv β n (Fz β (Ev n h) w) w β (Ev n h).next (Fz β (Ev n h) w) w:=⟨hn,λ_ _ _=>rfl,λb hb=>⟨hb,rfl⟩⟩
 refine⟨⟨λid hid=>sm.lt id (hsome id hid).2,λid o ho=>BM.mv mv (λ_ _=>rfl) (sm.ok id o (UO ho).2),λi j hi hj=>sm.inj i j (hsome i hi).2 (hsome j hj).2,sm.xs,λid hid=>sm.nx id (hsome id hid).2⟩,
  ⟨rfl,rfl,rfl,AG _,AG _,λ_ _=>rfl,rfl,λ_ _ _=>rfl,λb hb=>⟨hF b hb,rfl⟩⟩,?_⟩
 induction l with
 |nil=>intro t x hr;exact AA.mv mv _ _ hr
 |cons a l ih=>
  intro t x hr;simp only[Cl,Cf];split
  ·rename_i he;subst he;exact AA.mv mv2 _ _ (AJ.rep sm hF hB _ _ _ (hf a (List.mem_cons_self ..)) hr)
  ·exact ih (λy hy=>hf y (List.mem_cons_of_mem _ hy)) t x hr
theorem Iq{P:Program}{ow:Nat->Bool}{wf:FuncId->Bool}{m:Nat}{c:Code}{Q:BW}{s:AD}{h:A1}(n:Nat)(l:List (Nat × PV))(hc:Kl c=true)(hn:n<=h.next)(hf: ∀ x∈l,AJ n h x.2 (s x.1))(hw:Aq P ow wf m c Q (Cl l s) (Ev n h)):Aq P ow wf m c Q s h:=UL hc (Wk.drop hn hf) hw
theorem eM{α β:Type}{a:α}{b:β}{Q:α->β->Prop}:(∃ v h',(a=v/\b=h')/\Q v h')↔Q a b:=
 ⟨λ⟨_,_,⟨rfl,rfl⟩,q⟩=>q,λq=>⟨a,b,⟨rfl,rfl⟩,q⟩⟩
theorem eN{α:Type}{A:Nat × α->Prop}{ops:List Oper}{k:Nat}{R:Prop}{l:List (Nat × α)}(is:List Nat)(h1:l.map (·.1)=is)(h2:is.all (λi=>pre ops i k)=true)(h3:R):(∀ x∈l,pre ops x.1 k=true\/A x)/\R:=
 ⟨λx hx=> .inl (List.all_eq_true.1 h2 x.1 (by rw[← h1];exact List.mem_map_of_mem hx)),h3⟩
theorem Nm{α:Type}{A:Nat × α->Prop}{ops:List Oper}{k:Nat}{R:Prop}{l:List (Nat × α)}(h1: ∀ x∈l,pre ops x.1 k=true\/A x)(h3:R):(∀ x∈l,pre ops x.1 k=true\/A x)/\R:=⟨h1,h3⟩
def PZ(h h':A1):Prop:=h.next<=h'.next/\ ∀ id,id<h.next->h'.obj id=h.obj id
theorem eO{h h':A1}{i:Nat}(hi:h.next<=i)(hk:PZ h h'):PZ h (h'.kill i):=by
 refine⟨by rw[RJ];exact hk.1,λid hid=>?_⟩;rw[PU,A8 (by omega)];exact hk.2 id hid
theorem eQ(a b:Int):NP .u64 a b=IntKind.u64.wrap (((BitVec.ofInt 64 a&&&BitVec.ofInt 64 b).toNat:Nat):Int):=rfl
theorem eR(a b:Int):NQ .u64 a b=IntKind.u64.wrap (((BitVec.ofInt 64 a|||BitVec.ofInt 64 b).toNat:Nat):Int):=rfl
theorem eT(a b:Int):NS .u64 a b=IntKind.u64.wrap (((BitVec.ofInt 64 a ^^^ BitVec.ofInt 64 b).toNat:Nat):Int):=rfl
theorem eU(a b:Int):NT .u64 a b=IntKind.u64.wrap (((BitVec.ofInt 64 a&&& ~~~ BitVec.ofInt 64 b).toNat:Nat):Int):=rfl
theorem eV(a b:Int):NP .i64 a b=IntKind.i64.wrap (((BitVec.ofInt 64 a&&&BitVec.ofInt 64 b).toNat:Nat):Int):=rfl
theorem eW(a b:Int):NQ .i64 a b=IntKind.i64.wrap (((BitVec.ofInt 64 a|||BitVec.ofInt 64 b).toNat:Nat):Int):=rfl
theorem eY(a b:Int):NS .i64 a b=IntKind.i64.wrap (((BitVec.ofInt 64 a ^^^ BitVec.ofInt 64 b).toNat:Nat):Int):=rfl
theorem eZ(a b:Int):NT .i64 a b=IntKind.i64.wrap (((BitVec.ofInt 64 a&&& ~~~ BitVec.ofInt 64 b).toNat:Nat):Int):=rfl
theorem ee(a b:Int):NP .u8 a b=IntKind.u8.wrap (((BitVec.ofInt 8 a&&&BitVec.ofInt 8 b).toNat:Nat):Int):=rfl
theorem ef(a b:Int):NQ .u8 a b=IntKind.u8.wrap (((BitVec.ofInt 8 a|||BitVec.ofInt 8 b).toNat:Nat):Int):=rfl
theorem eg(a b:Int):NS .u8 a b=IntKind.u8.wrap (((BitVec.ofInt 8 a ^^^ BitVec.ofInt 8 b).toNat:Nat):Int):=rfl
theorem ep(a b:Int):NT .u8 a b=IntKind.u8.wrap (((BitVec.ofInt 8 a&&& ~~~ BitVec.ofInt 8 b).toNat:Nat):Int):=rfl
end Go.AM
namespace Go.AM
structure Pm where
 name:ByteArray
 type:ByteArray
inductive Ex where
 |mk(op name:ByteArray)(n:Int)(args:List ByteArray)(kids:List Ex)
inductive Fm where
 |mk(op name:ByteArray)(args:List ByteArray)(params:List Pm)(exprs:List Ex)(kids:List Fm)
abbrev A4(s:ByteArray):PV:= .sc (.string s)
def AN(l:List ByteArray):List (List PV):=l.map λs=>[A4 s]
def Ir(p:Pm):List PV:=[A4 p.name,A4 p.type]
def A9(l:List Pm):List (List PV):=l.map Ir
theorem Gw(l:List Pm):(A9 l).length=l.length:=by simp[A9]
theorem Nn{l:List Pm}{i:Nat}{p:Pm}(h:l[i]? =some p):(A9 l)[i]? =some [A4 p.name,A4 p.type]:=by simp[A9,h,Ir]
mutual
def Ex.cells:Ex->List PV
 | .mk op name n args kids=>[A4 op,A4 name,.sc (.int .i64 n),.A2 1 (AN args),.A2 5 (Ex.rows kids)]
def Ex.rows:List Ex->List (List PV)
 |[]=>[]
 |k::ks=>k.cells::Ex.rows ks
end
mutual
def Fm.cells:Fm->List PV
 | .mk op name args params exprs kids=>[A4 op,A4 name,.A2 1 (AN args),.A2 2 (A9 params),.A2 5 (Ex.rows exprs),.A2 6 (Fm.rows kids)]
def Fm.rows:List Fm->List (List PV)
 |[]=>[]
 |k::ks=>k.cells::Fm.rows ks
end
theorem Ex.rows_map: ∀ l:List Ex,Ex.rows l=l.map Ex.cells
 |[]=>rfl
 |k::ks=>by simp[Ex.rows,Ex.rows_map ks]
theorem Fm.rows_map: ∀ l:List Fm,Fm.rows l=l.map Fm.cells
 |[]=>rfl
 |k::ks=>by simp[Fm.rows,Fm.rows_map ks]
mutual
def Ex.size:Ex->Int
 | .mk _ _ _ _ kids=>Ex.E3 1 kids
def Ex.E3(n:Int):List Ex->Int
 |[]=>n
 |k::ks=>Ex.E3 (IntKind.i64.wrap (n+k.size)) ks
end
mutual
def Fm.size:Fm->Int
 | .mk _ _ _ _ exprs kids=>Fm.E3 (Ex.E3 1 exprs) kids
def Fm.E3(n:Int):List Fm->Int
 |[]=>n
 |k::ks=>Fm.E3 (IntKind.i64.wrap (n+k.size)) ks
end
def A3(a b:ByteArray):Bool:=a.data.toList==b.data.toList
def FO:List ByteArray->List ByteArray->Bool
 |[],[]=>true
 |a::l,b::m=>A3 a b&&FO l m
 |_,_=>false
def RO(a b:Pm):Bool:=A3 a.name b.name&&A3 a.type b.type
def Di:List Pm->List Pm->Bool
 |[],[]=>true
 |a::l,b::m=>RO a b&&Di l m
 |_,_=>false
mutual
def Ex.same:Ex->Ex->Bool
 | .mk op name n args kids,.mk op' name' n' args' kids'=>A3 op op'&&A3 name name'&&n==n'&&FO args args'&&Ex.DM kids kids'
def Ex.DM:List Ex->List Ex->Bool
 |[],[]=>true
 |a::l,b::m=>a.same b&&Ex.DM l m
 |_,_=>false
end
mutual
def Fm.same:Fm->Fm->Bool
 | .mk op name args params exprs kids,.mk op' name' args' params' exprs' kids'=>A3 op op'&&A3 name name'&&FO args args'&&Di params params'&&Ex.DM exprs exprs'&&Fm.DM kids kids'
def Fm.DM:List Fm->List Fm->Bool
 |[],[]=>true
 |a::l,b::m=>a.same b&&Fm.DM l m
 |_,_=>false
end
theorem Ex.B4(l:List Ex):(Ex.rows l).length=l.length:=by simp[Ex.rows_map]
theorem Fm.B4(l:List Fm):(Fm.rows l).length=l.length:=by simp[Fm.rows_map]
theorem Ex.CL{l:List Ex}{i:Nat}{k:Ex}(h:l[i]? =some k):(Ex.rows l)[i]? =some k.cells:=by simp[Ex.rows_map,h]
theorem Fm.CL{l:List Fm}{i:Nat}{k:Fm}(h:l[i]? =some k):(Fm.rows l)[i]? =some k.cells:=by simp[Fm.rows_map,h]
theorem Ex.ind{C:Ex->Prop}(hC: ∀ op name n args kids,(∀ k∈kids,C k)->C (.mk op name n args kids)): ∀ e,C e
 | .mk op name n args kids=>hC op name n args kids λk hk=>Ex.ind hC k
termination_by e=>SizeOf.sizeOf e
decreasing_by
 have:=List.sizeOf_lt_of_mem hk;simp only[Ex.mk.sizeOf_spec];omega
theorem Fm.ind{C:Fm->Prop}(hC: ∀ op name args params exprs kids,(∀ k∈kids,C k)->C (.mk op name args params exprs kids)): ∀ f,C f
 | .mk op name args params exprs kids=>hC op name args params exprs kids λk hk=>Fm.ind hC k
termination_by f=>SizeOf.sizeOf f
decreasing_by
 have:=List.sizeOf_lt_of_mem hk;simp only[Fm.mk.sizeOf_spec];omega
theorem Ex.Ou: ∀ (l m:List Ex)(n:Int),Ex.E3 n (l++m)=Ex.E3 (Ex.E3 n l) m
 |[],m,n=>by simp[Ex.E3]
 |k::l,m,n=>by simp only[List.cons_append,Ex.E3];exact Ex.Ou l m _
theorem Fm.Ou: ∀ (l m:List Fm)(n:Int),Fm.E3 n (l++m)=Fm.E3 (Fm.E3 n l) m
 |[],m,n=>by simp[Fm.E3]
 |k::l,m,n=>by simp only[List.cons_append,Fm.E3];exact Fm.Ou l m _
theorem Ex.Ql{l:List Ex}{i:Nat}{k:Ex}(n:Int)(h:l[i]? =some k):Ex.E3 n (l.take (i+1))=IntKind.i64.wrap (Ex.E3 n (l.take i)+k.size):=by
 rw[List.take_add_one,h,Ex.Ou];try rfl
theorem Fm.Ql{l:List Fm}{i:Nat}{k:Fm}(n:Int)(h:l[i]? =some k):Fm.E3 n (l.take (i+1))=IntKind.i64.wrap (Fm.E3 n (l.take i)+k.size):=by
 rw[List.take_add_one,h,Fm.Ou];try rfl
theorem Ex.Ov: ∀ {l m:List Ex},¬ l.length=m.length->Ex.DM l m=false
 |[],[],h=>by simp at h
 |[],_::_,_=>rfl
 |_::_,[],_=>rfl
 |a::l,b::m,h=>by simp only[Ex.DM,Ex.Ov (l:=l) (m:=m) (by simpa using h),BH]
theorem Fm.Ov: ∀ {l m:List Fm},¬ l.length=m.length->Fm.DM l m=false
 |[],[],h=>by simp at h
 |[],_::_,_=>rfl
 |_::_,[],_=>rfl
 |a::l,b::m,h=>by simp only[Fm.DM,Fm.Ov (l:=l) (m:=m) (by simpa using h),BH]
def AI:Nat:=1152921504606846976
mutual
def Ex.ok:Ex->Prop
 | .mk op name n args kids=>op.size<=AI/\name.size<=AI/\(-9223372036854775808<=n/\n<=9223372036854775807)/\(args.length<=AI/\ ∀ a∈args,a.size<=AI)/\kids.length<=AI/\Ex.DJ kids
def Ex.DJ:List Ex->Prop
 |[]=>True
 |k::ks=>k.ok/\Ex.DJ ks
end
def Pm.ok(p:Pm):Prop:=p.name.size<=AI/\p.type.size<=AI
mutual
def Fm.ok:Fm->Prop
 | .mk op name args params exprs kids=>op.size<=AI/\name.size<=AI/\(args.length<=AI/\ ∀ a∈args,a.size<=AI)/\(params.length<=AI/\ ∀ p∈params,p.ok)/\(exprs.length<=AI/\Ex.DJ exprs)/\kids.length<=AI/\Fm.DJ kids
def Fm.DJ:List Fm->Prop
 |[]=>True
 |k::ks=>k.ok/\Fm.DJ ks
end
theorem Ex.Bz:{l:List Ex}->(Ex.DJ l↔ ∀ k∈l,k.ok)
 |[]=>by simp[Ex.DJ]
 |k::ks=>by simp[Ex.DJ,Ex.Bz (l:=ks)]
theorem Fm.Bz:{l:List Fm}->(Fm.DJ l↔ ∀ k∈l,k.ok)
 |[]=>by simp[Fm.DJ]
 |k::ks=>by simp[Fm.DJ,Fm.Bz (l:=ks)]
structure AH(h h':A1):Prop where
 le:h.next<=h'.next
 B6: ∀ id,id<h.next->h'.obj id=h.obj id
theorem AH.refl(h:A1):AH h h:=⟨AG _,λ_ _=>rfl⟩
theorem AH.new{h h':A1}(g:AH h h')(o:An):AH h (h'.new o):=
 ⟨ES g.le (by simp[A1.new]),λid hid=>by simp only[A1.new];rw[A8 (by have:=g.le;omega)];exact g.B6 id hid⟩
theorem AH.set{h h':A1}(g:AH h h'){id:Nat}(hid:h.next<=id)(o:An):AH h (h'.set id o):=
 ⟨g.le,λi hi=>by simp only[A1.set];rw[A8 (by omega)];exact g.B6 i hi⟩
theorem AH.kill{h h':A1}(g:AH h h'){id:Nat}(hid:h.next<=id):AH h (h'.kill id):=
 ⟨g.le,λi hi=>by simp only[A1.kill];rw[A8 (by omega)];exact g.B6 i hi⟩
theorem A6.quiet{P:Program}{f:FuncId}{args:List PV}{h:A1}{v:Value}(hb:Ad P f=true)(hc:A6 P f args h λr h'=>r= .sc v/\AH h h'):A6 P f args h λr h'=>r= .sc v/\h'=h:=by
 refine JL hb λhw=>A6.drop (hc.mono ?_);rintro r h' ⟨rfl,g⟩;refine⟨.sc v,h,⟨rfl,rfl⟩,by simp only[AJ],AG _,λid o ho=>?_⟩;have hid:=hw id (by rw[ho];try rfl);exact⟨by rw[g.B6 id hid];exact ho,hid,.inl ho⟩
theorem Jz{P:Program}{ow:Nat->Bool}{n:Nat}{s:AD}{h:A1}{f:FuncId}{fo:Operand}{dst:Option Tmp}{args:List Operand}{ts:Array TypeId}{ty:TypeId}{pos:String}{af:Array Edge}{gd:Option (Nat × Bool)}{ags:List PV}{v:PV}{K:AD->A1->Prop}{ops rest:List Oper}
  (hf:AB s fo= .sc (.func (.func f) #[] #[]))(hc:A6 P f ags h λr h'=>r=v/\h'=h)(ha:args.map (AB s)=ags)(hk:E7 P ow n ops rest K (Ai s dst v) h):
  CY P ow {dst:=dst,op:= .call {callee:= .value fo,args:=args.toArray,argTypes:=ts},type:=ty,pos:=pos,after:=af,guard:=gd} (Ei P ow n ops rest K) s h:=by
 unfold CY;simp only[callee,hf,KT,AO];rw[ha];exact hc.mono λr h' hr=>by rw[hr.1,hr.2];exact Jy _ _ _ hk
end Go.AM
namespace Go.AM
structure Ch where
 kind:Int
 params:List Pm
 cond:Fm
 name:ByteArray
 args:List ByteArray
 value:Ex
structure Pr where
 name:ByteArray
 params:List Pm
structure Fu where
 name:ByteArray
 params:List Pm
 lo:Int
 hi:Int
structure Ac where
 name:ByteArray
 params:List Pm
 cost:Int
 pre:Fm
 changes:List Ch
structure Du where
 name:ByteArray
 params:List Pm
 Dp:Int
 start:Fm
 over:Fm
 stop:Fm
 Bp:List Ch
 Bq:List Ch
structure Dm where
 name:ByteArray
 types:List Pm
 constants:List Pm
 B5:List Pr
 Ay:List Fu
 At:List Ac
 duratives:List Du
def CZ(c:Ch):List PV:=[.sc (.int .i64 c.kind),.A2 2 (A9 c.params)]++(c.cond.cells++([A4 c.name,.A2 1 (AN c.args)]++c.value.cells))
def Ae(l:List Ch):List (List PV):=l.map CZ
def Dr(p:Pr):List PV:=[A4 p.name,.A2 2 (A9 p.params)]
def Ba(l:List Pr):List (List PV):=l.map Dr
def Ds(f:Fu):List PV:=[A4 f.name,.A2 2 (A9 f.params),.sc (.int .i64 f.lo),.sc (.int .i64 f.hi)]
def BX(l:List Fu):List (List PV):=l.map Ds
def DE(a:Ac):List PV:=[A4 a.name,.A2 2 (A9 a.params),.sc (.int .i64 a.cost)]++(a.pre.cells++[.A2 15 (Ae a.changes)])
def BP(l:List Ac):List (List PV):=l.map DE
def DF(d:Du):List PV:=[A4 d.name,.A2 2 (A9 d.params),.sc (.int .i64 d.Dp)]++(d.start.cells++(d.over.cells++(d.stop.cells++[.A2 15 (Ae d.Bp),.A2 15 (Ae d.Bq)])))
def BU(l:List Du):List (List PV):=l.map DF
def Dm.cells(d:Dm):List PV:=[A4 d.name,.A2 2 (A9 d.types),.A2 2 (A9 d.constants),.A2 2 (Ba d.B5),.A2 4 (BX d.Ay),.A2 10 (BP d.At),.A2 23 (BU d.duratives)]
theorem Ko(l:List Ch):(Ae l).length=l.length:=by simp[Ae]
theorem No{l:List Ch}{i:Nat}{a:Ch}(h:l[i]? =some a):(Ae l)[i]? =some (CZ a):=by simp[Ae,h]
theorem Mi(l:List Pr):(Ba l).length=l.length:=by simp[Ba]
theorem RP{l:List Pr}{i:Nat}{a:Pr}(h:l[i]? =some a):(Ba l)[i]? =some (Dr a):=by simp[Ba,h]
theorem Mj(l:List Fu):(BX l).length=l.length:=by simp[BX]
theorem RQ{l:List Fu}{i:Nat}{a:Fu}(h:l[i]? =some a):(BX l)[i]? =some (Ds a):=by simp[BX,h]
theorem Ll(l:List Ac):(BP l).length=l.length:=by simp[BP]
theorem Np{l:List Ac}{i:Nat}{a:Ac}(h:l[i]? =some a):(BP l)[i]? =some (DE a):=by simp[BP,h]
theorem Lm(l:List Du):(BU l).length=l.length:=by simp[BU]
theorem Nq{l:List Du}{i:Nat}{a:Du}(h:l[i]? =some a):(BU l)[i]? =some (DF a):=by simp[BU,h]
structure Ch.ok(c:Ch):Prop where
 params:c.params.length<=AI/\ ∀ a∈c.params,a.ok
 cond:c.cond.ok
 args:c.args.length<=AI/\ ∀ a∈c.args,a.size<=AI
 value:c.value.ok
 name:c.name.size<=AI
 kind: -9223372036854775808<=c.kind/\c.kind<=9223372036854775807
def Chs.ok(l:List Ch):Prop:=l.length<=AI/\ ∀ a∈l,a.ok
structure Pr.ok(p:Pr):Prop where
 name:p.name.size<=AI
 params:p.params.length<=AI/\ ∀ a∈p.params,a.ok
structure Fu.ok(p:Fu):Prop where
 name:p.name.size<=AI
 params:p.params.length<=AI/\ ∀ a∈p.params,a.ok
 lo: -9223372036854775808<=p.lo/\p.lo<=9223372036854775807
 hi: -9223372036854775808<=p.hi/\p.hi<=9223372036854775807
structure Ac.ok(a:Ac):Prop where
 name:a.name.size<=AI
 params:a.params.length<=AI/\ ∀ p∈a.params,p.ok
 cost: -9223372036854775808<=a.cost/\a.cost<=9223372036854775807
 pre:a.pre.ok
 changes:Chs.ok a.changes
structure Du.ok(a:Du):Prop where
 name:a.name.size<=AI
 params:a.params.length<=AI/\ ∀ p∈a.params,p.ok
 Dp: -9223372036854775808<=a.Dp/\a.Dp<=9223372036854775807
 start:a.start.ok
 over:a.over.ok
 stop:a.stop.ok
 Bp:Chs.ok a.Bp
 Bq:Chs.ok a.Bq
structure Dm.ok(d:Dm):Prop where
 name:d.name.size<=AI
 types:d.types.length<=AI/\ ∀ a∈d.types,a.ok
 constants:d.constants.length<=AI/\ ∀ a∈d.constants,a.ok
 B5:d.B5.length<=AI/\ ∀ a∈d.B5,a.ok
 Ay:d.Ay.length<=AI/\ ∀ a∈d.Ay,a.ok
 At:d.At.length<=AI/\ ∀ a∈d.At,a.ok
 duratives:d.duratives.length<=AI/\ ∀ a∈d.duratives,a.ok
end Go.AM
namespace Go.AM
set_option maxRecDepth 20000
variable {P:Program}{ow:Nat->Bool}{s:AD}{h:A1}
def eu:=Ab @eL @eM @RI @PU @aK @aM @RJ @aN @cR @cT @cU (Ab @cV @cX @cY @cZ @cg @cj @cm @cq @cr @ct @cv (Ab @cw @cz @dA @dB @dC @dD @dE @dF @dG @dH @dI @dJ))
def ew:=Ab @dK @dM @dN @dO @dP @dQ @dR @dS @dT @dU @dV (Ab @dX @dY @dZ @db @de @dg @dh @dj @dk @dm @dq (Ab @du @dv @dw @dx @dy @dz @eA @eB @eC @eD @eE @eF))
def ez:=Ab @eG @eI @eJ @eK @aj @au @az @bB @bD @bF @bH (Ab @bJ @bL @bN @bP @bR @bT @bV @bX @bZ @bg @bj (Ab @bo @bq @bt @bw @cC @cH @cJ @cO @ao @aw @bA @bC))
def fA:=Ab @bE @bG @bI @bK @bM @bO @bQ @bS @bU @bW @bY (Ab @bf @bh @bm @bp @bs @bu @cB @cF @cI @cM @cQ (Ab @aT @aU @aV @aW @aX @aY @aZ @ae @aO @aP @aQ @aR))
def fB:=Ab @Bf @Int.natCast_nonneg @Bg @D7 @Yj @Yc @EE @EC @KU @Option.bind_some.{0,0} @Option.bind_none.{0,0} (Ab @Option.map_some.{0,0} @Option.map_none.{0,0} @Option.all_some.{0} @Option.all_none.{0} @Option.any_some.{0} @Option.any_none.{0} @Option.some.injEq.{0} @Prod.mk.injEq.{0,0} @List.map_cons.{0,0} @List.map_nil.{0,0} @List.length_cons.{0} (Ab @List.length_nil.{0} @List.length_map.{0,0} @List.getD_cons_zero.{0} @List.getD_cons_succ.{0} @List.getElem?_cons_zero.{0} @List.getElem?_cons_succ.{0} @List.drop_zero.{0} @List.drop_succ_cons.{0} @List.drop_nil.{0} @List.take_zero.{0} @List.take_succ_cons.{0} @List.take_nil.{0}))
def fC:=Ab @List.head?_cons.{0} @List.all_cons.{0} @List.all_nil.{0} @List.cons_append.{0} @List.nil_append.{0} @List.append_nil.{0} @List.replicate_succ.{0} @List.replicate_zero.{0} @List.set_cons_zero.{0} @List.set_cons_succ.{0} @TH (Ab @Qf @TI @On @Gq @HZ @Ck @BG @BH @BF @Av @CB (Ab @BR @Dh @Fb @and_false @false_and @KT @or_true @true_or @ET @false_or @List.not_mem_nil.{0} @false_implies))
def fD:=AY @JD @dW @List.getElem?_map.{0,0}
def fE:=Ab @eQ @eR @eT @eU @eV @eW @eY @eZ @ee @ef @eg @ep
def fF:=Ak @beq_iff_eq.{0} @bne_iff_ne.{0} @ne_eq.{1} @beq_eq_false_iff_ne.{0} @beq_self_eq_true.{0}
def DD:=Ab @EC @EE @Bg @D7 @ED @TJ @AV @oS @EF @Bool.not_eq_false' @Yj (EI @Yc @bne_iff_ne.{0} @bne_eq_false_iff_eq.{0} @beq_iff_eq.{0} @beq_eq_false_iff_ne.{0} @ne_eq.{1} @gt_iff_lt.{0} @ge_iff_le.{0} @Int.not_lt @Int.not_le @KU)
section
variable {K:AD->A1->Prop}{Q:BW}{i j:Nat}
theorem fG:BW.seq K Q .normal s h=K s h:=rfl
theorem fH:BW.seq K Q .ret s h=Q .ret s h:=rfl
theorem fI:BW.seq K Q (.exit i) s h=Q (.exit i) s h:=rfl
theorem fJ:BW.block j Q .normal s h=Q .normal s h:=rfl
theorem fK:BW.block j Q .ret s h=Q .ret s h:=rfl
theorem fL:BW.block j Q (.exit i) s h=if i=j then Q .normal s h else Q (.exit i) s h:=rfl
end
def Au:=Al @fG @fH @fI @fJ @fK @fL
end Go.AM
namespace Go.AM
set_option maxRecDepth 20000
def fM:=Ab @Go.undef.eq_1 @Go.AM.E7.eq_1 @Go.AM.E7.eq_2 @Go.AM.FA.eq_1 @Go.AM.FA.eq_2 @Go.AM.callee.eq_1 @Go.AM.callee.eq_2 @Go.AM.D3.eq_1 @Go.AM.BL.eq_1 @Go.AM.AX.eq_1 @Go.AM.AX.eq_2 (Ab @Go.AM.AX.eq_3 @Go.AM.AX.eq_4 @Go.AM.AX.eq_5 @Go.AM.AX.eq_6 @Go.AM.AX.eq_7 @Go.AM.AX.eq_8 @Go.AM.AX.eq_9 @Go.AM.AX.eq_10 @Go.AM.AX.eq_11 @Go.AM.AX.eq_12 @Go.AM.AX.eq_13 (Ab @Go.AM.AX.eq_14 @Go.AM.AX.eq_15 @Go.AM.AX.eq_16 @Go.AM.AX.eq_17 @Go.AM.AX.eq_18 @Go.AM.AX.eq_19 @Go.AM.AX.eq_20 @Go.AM.AX.eq_21 @Go.AM.AX.eq_22 @Go.AM.AX.eq_23 @Go.AM.AX.eq_24 (Aa @Go.AM.AX.eq_25 @Go.AM.AX.eq_26 @Go.AM.AX.eq_27 @Go.AM.AX.eq_28)))
def fN:=Ab @Go.AM.AB.eq_1 @Go.AM.AB.eq_2 @Go.AM.AB.eq_3 @Go.AM.AB.eq_4 @Go.AM.Io.eq_1 @Go.AM.Io.eq_2 @Go.AM.Io.eq_3 @Go.AM.HE.eq_1 @Go.AM.HE.eq_2 @Go.AM.Lc.eq_1 @Go.AM.Lc.eq_2 (Ab @Go.AM.Gt.eq_1 @Go.AM.Gt.eq_2 @Go.AM.Gs.eq_1 @Go.AM.Gs.eq_2 @Go.AM.JH.eq_1 @Go.AM.Jo.eq_1 @Go.AM.Ij.eq_1 @Go.AM.Ij.eq_2 @Go.AM.Ij.eq_3 @Go.AM.Ij.eq_4 @Go.AM.Ij.eq_5 (Ab @Go.AM.Ij.eq_6 @Go.AM.Ij.eq_7 @Go.AM.Kf.eq_1 @Go.AM.Kf.eq_2 @Go.AM.Kf.eq_3 @Go.AM.Kf.eq_4 @Go.AM.Ik.eq_1 @Go.AM.Ik.eq_2 @Go.AM.Ik.eq_3 @Go.AM.EU.eq_1 @Go.AM.EU.eq_2 (Al @Go.AM.EU.eq_3 @Go.AM.EU.eq_4 @Go.AM.EU.eq_5 @Go.AM.EU.eq_6 @Go.AM.EU.eq_7 @Go.AM.EU.eq_8)))
def fO:=Ab @Go.AM.EU.eq_9 @Go.AM.EU.eq_10 @Go.AM.EU.eq_11 @Go.AM.EU.eq_12 @Go.AM.EU.eq_13 @Go.AM.EU.eq_14 @Go.AM.EU.eq_15 @Go.AM.Dx.eq_1 @Go.AM.Dx.eq_2 @Go.AM.Dx.eq_3 @Go.AM.Dx.eq_4 (Ab @Go.AM.Dx.eq_5 @Go.AM.Dx.eq_6 @Go.AM.Dx.eq_7 @Go.AM.Dx.eq_8 @Go.AM.Dx.eq_9 @Go.AM.Dx.eq_10 @Go.AM.Dx.eq_11 @Go.AM.Dx.eq_12 @Go.AM.Dx.eq_13 @Go.AM.Dx.eq_14 @Go.AM.Dx.eq_15 (Ab @Go.AM.Dx.eq_16 @Go.AM.LW.eq_1 @Go.AM.LW.eq_2 @Go.AM.LW.eq_3 @Go.AM.I9.eq_1 @Go.AM.I9.eq_2 @Go.AM.I9.eq_3 @Go.AM.I9.eq_4 @Go.AM.I9.eq_5 @Go.AM.I9.eq_6 @Go.AM.I9.eq_7 (Ah @Go.AM.I9.eq_8 @Go.AM.LY.eq_1 @Go.AM.LY.eq_2 @Go.AM.LY.eq_3 @Go.AM.LY.eq_4 @Go.AM.MT.eq_1 @Go.AM.MT.eq_2)))
def fP:=Ab @Go.AM.MT.eq_3 @Go.AM.Ii.eq_1 @Go.AM.Ii.eq_2 @Go.AM.Ii.eq_3 @Go.AM.Fc.eq_1 @Go.AM.Fc.eq_2 @Go.AM.La.eq_1 @Go.AM.MX.eq_1 @Go.AM.MX.eq_2 @Go.AM.IA.eq_1 @Go.AM.IA.eq_2 (Ab @Go.AM.He.eq_1 @Go.AM.He.eq_2 @Go.AM.Jq.eq_1 @Go.AM.Jq.eq_2 @Go.AM.Fv.eq_1 @Go.AM.Fv.eq_2 @Go.AM.Fv.eq_3 @Go.AM.Fv.eq_4 @Go.AM.IB.eq_1 @Go.AM.IB.eq_2 @Go.AM.IB.eq_3 (Ab @Go.AM.IB.eq_4 @Go.AM.Hf.eq_1 @Go.AM.Hf.eq_2 @Go.AM.IC.eq_1 @Go.AM.IC.eq_2 @Go.AM.ID.eq_1 @Go.AM.ID.eq_2 @Go.AM.Jp.eq_1 @Go.AM.Jp.eq_2 @Go.IntKind.bits.eq_1 @Go.IntKind.bits.eq_2 (Al @Go.IntKind.bits.eq_3 @Go.IntKind.bits.eq_4 @Go.IntKind.bits.eq_5 @Go.IntKind.bits.eq_6 @Go.IntKind.bits.eq_7 @Go.IntKind.bits.eq_8)))
def w0:=Ab @eu @ew @ez @fA @fB @fC @fD @fE @fF @Au @fM (BT @fN @fO @fP @forall_const.{0} @forall_const.{1} @exists_eq_left'.{1} @implies_true.{0} @implies_true.{1})
end Go.AM
