/- What the claim rests on, part 4: the abstract machine, contracts of the functions, plain data. -/
import Derived.Orders
import Derived.Test.YtblgchkahpgdjaaGreatZw3
set_option linter.unusedVariables false
set_option linter.defProp false
set_option linter.unusedSimpArgs false
set_option linter.unusedSectionVars false
namespace Go.AM
section
variable{a1 a2 a3 a4 a5 a6 a7 a8 a9 a10 a11 a12:Prop}
theorem uu(x1:a1)(x2:a2):a1/\a2:=⟨x1,x2⟩
theorem Aj(x1:a1)(x2:a2)(x3:a3):a1/\a2/\a3:=⟨x1,x2,x3⟩
theorem AS(x1:a1)(x2:a2)(x3:a3)(x4:a4):a1/\a2/\a3/\a4:=⟨x1,x2,x3,x4⟩
theorem AV(x1:a1)(x2:a2)(x3:a3)(x4:a4)(x5:a5):a1/\a2/\a3/\a4/\a5:=⟨x1,x2,x3,x4,x5⟩
theorem AK(x1:a1)(x2:a2)(x3:a3)(x4:a4)(x5:a5)(x6:a6):a1/\a2/\a3/\a4/\a5/\a6:=⟨x1,x2,x3,x4,x5,x6⟩
theorem AY(x1:a1)(x2:a2)(x3:a3)(x4:a4)(x5:a5)(x6:a6)(x7:a7):a1/\a2/\a3/\a4/\a5/\a6/\a7:=⟨x1,x2,x3,x4,x5,x6,x7⟩
theorem B6(x1:a1)(x2:a2)(x3:a3)(x4:a4)(x5:a5)(x6:a6)(x7:a7)(x8:a8):a1/\a2/\a3/\a4/\a5/\a6/\a7/\a8:=⟨x1,x2,x3,x4,x5,x6,x7,x8⟩
theorem BR(x1:a1)(x2:a2)(x3:a3)(x4:a4)(x5:a5)(x6:a6)(x7:a7)(x8:a8)(x9:a9):a1/\a2/\a3/\a4/\a5/\a6/\a7/\a8/\a9:=⟨x1,x2,x3,x4,x5,x6,x7,x8,x9⟩
theorem Aq(x1:a1)(x2:a2)(x3:a3)(x4:a4)(x5:a5)(x6:a6)(x7:a7)(x8:a8)(x9:a9)(x10:a10):a1/\a2/\a3/\a4/\a5/\a6/\a7/\a8/\a9/\a10:=⟨x1,x2,x3,x4,x5,x6,x7,x8,x9,x10⟩
theorem Cv(x1:a1)(x2:a2)(x3:a3)(x4:a4)(x5:a5)(x6:a6)(x7:a7)(x8:a8)(x9:a9)(x10:a10)(x11:a11):a1/\a2/\a3/\a4/\a5/\a6/\a7/\a8/\a9/\a10/\a11:=⟨x1,x2,x3,x4,x5,x6,x7,x8,x9,x10,x11⟩
theorem AJ(x1:a1)(x2:a2)(x3:a3)(x4:a4)(x5:a5)(x6:a6)(x7:a7)(x8:a8)(x9:a9)(x10:a10)(x11:a11)(x12:a12):a1/\a2/\a3/\a4/\a5/\a6/\a7/\a8/\a9/\a10/\a11/\a12:=⟨x1,x2,x3,x4,x5,x6,x7,x8,x9,x10,x11,x12⟩
end
end Go.AM
namespace Go.AM
section
variable {P:Program}{ow:Nat->Bool}{wf:FuncId->Bool}{n:Nat}{ops:List Oper}{base:Nat}{sk:Nat->A8}{hk:Nat->A0}{vk:Nat->PV}{lt:Nat->Option (Nat × Ae)}{br:Nat->Bool}
theorem Qo{H:A0}:As H []=H:=EW rfl λj=>by simp[As]
theorem VB(hd:FM ops)(tr:CL P ow wf n ops base sk hk vk lt br)(h0: ∀ f,(hk 0).obj (base+f)=none){K:A8->A0->Prop}(hK:K (sk ops.length) (hk ops.length)){β0:B8}{hb:A0}{w0:World}(hbn:hb.next<=base){Q:Exit->Act->World->Prop}
  (hk': ∀ a' w',To n β0 hb w0 K a' w'->Q .normal a' w'):
  ∀ (fuel:Nat)(listed:Array Bool)(β:B8)(a:Act)(w:World),listed.size=ops.length->GJ ops (λj=>listed.getD j false)->E4 (λj=>listed.getD j false) ops.length<=fuel->
   St n β (Bj ops sk λj=>listed.getD j false) (Hs lt br ops hk λj=>listed.getD j false) a w->
   BB β0 hb w0 β (Hs lt br ops hk λj=>listed.getD j false) w->
   base+ops.length<=(Hs lt br ops hk λj=>listed.getD j false).next->
   (∀ f,f<ops.length->listed.getD f false=false->(β (base+f)).b=none)->wpAny P .any ops.toArray Q fuel listed a w:=by
 have Cs: ∀ (listed:Array Bool)(β:B8)(a:Act)(w:World),(∀ j,j<ops.length->listed.getD j false=true)->
   St n β (Bj ops sk λj=>listed.getD j false) (Hs lt br ops hk λj=>listed.getD j false) a w->
   BB β0 hb w0 β (Hs lt br ops hk λj=>listed.getD j false) w->Q .normal a w:=by
  intro listed β a w hall st ex;have e1:Bj ops sk (λj=>listed.getD j false)=sk ops.length:=by
   funext t;obtain⟨h1,h2,h3⟩:=EG (λj=>listed.getD j false&&CC ops t j) ops.length;unfold Bj;generalize Cf (λj=>listed.getD j false&&CC ops t j) ops.length=m at*;have:=tr.slot_const (t:=t) (i:=m) (ops.length-m) (by omega) (λj h5 h6=>by
    have:=h3 j h5 (by omega);rw[hall j (by omega),Ah]at this;exact this)
   rw[show m+(ops.length-m)=ops.length by omega]at this;exact this.symm
  have e2:Hs lt br ops hk (λj=>listed.getD j false)=hk ops.length:=by
   have hM:MB br ops (λj=>listed.getD j false)<=ops.length:=Hr;have h1:=tr.seg (M:=MB br ops (λj=>listed.getD j false)) (ops.length-MB br ops (λj=>listed.getD j false)) (by omega) (λj a c=>Kx a (by omega) (hall j (by omega)));rw[show MB br ops (λj=>listed.getD j false)+(ops.length-MB br ops (λj=>listed.getD j false))=ops.length by omega]at h1;have hdl:dl lt br ops (λj=>listed.getD j false)=[]:=by
    apply List.eq_nil_iff_forall_not_mem.2;intro id hid;obtain⟨f,q,k1,k2,k3,_⟩:=GL.1 hid;have hh:listed.getD f false=true:=hall f k1;simp only[hh]at k3;simp at k3
   unfold Hs;rw[hdl,h1,Qo];unfold Xs;exact JF _ λf hf _=>by
    have hh:listed.getD f false=true:=hall f hf;simp only[hh,C7]
  rw[e1,e2]at st;rw[e2]at ex;exact hk' a w ⟨_,_,β,hK,st,ex⟩
 have rdy: ∀ (listed:Array Bool)(i:Nat),listed.size=ops.length->GJ ops (λj=>listed.getD j false)->i∈Region.ready .any ops.toArray listed-> ∃ o,Bf ops (λj=>listed.getD j false) i o:=by
  intro listed i hsz hc hi;simp only[Region.ready,List.mem_filter,List.mem_range,List.size_toArray,AT,DF,List.getElem?_toArray]at hi;obtain⟨h1,h2,h3⟩:=hi;rw[List.getElem?_eq_getElem h1]at h3;simp only[BT,Bm,Lr,Cc,DF]at h3;refine⟨_,List.getElem?_eq_getElem h1,?_,hc,λe he hb=>?_⟩
  ·rw [CT,Ka (by omega)]at h2⊢;simpa using h2
  ·rcases h3 e (GC.1 he)with h4|h4
   ·rw [hb]at h4;simp at h4
   ·exact h4
 have noRdy: ∀ (listed:Array Bool),listed.size=ops.length->Region.ready .any ops.toArray listed=[]-> ∀ j,j<ops.length->listed.getD j false=true:=by
  intro listed hsz hr j
  induction j using Nat.strongRecOn with
  |_ j ih=>
   intro hj;cases hs:listed.getD j false with
   |true=>rfl
   |false=>
    have hm:j∈Region.ready .any ops.toArray listed:=by
     simp only[Region.ready,List.mem_filter,List.mem_range,List.size_toArray,AT,DF,List.getElem?_toArray];refine⟨hj,?_,?_⟩
     ·rw [CT,Ka (by omega)]at hs⊢;simpa using hs
     ·rw [List.getElem?_eq_getElem hj];simp only[BT,Bm,Lr,Cc,DF];intro e he;cases hb:Region.binds .any e with
      |false=>exact .inl rfl
      |true=>
       have hlt:=hd.back j _ (List.getElem?_eq_getElem hj) e (GC.2 he) hb;exact .inr (ih e.on hlt (by omega))
    rw[hr]at hm;simp at hm
 intro fuel
 induction fuel with
 |zero=>
  intro listed β a w hsz hc hm st ex hnx hho;have hall:=MI (S:=λj=>listed.getD j false) ops.length (by omega);refine⟨?_,Cs listed β a w hall st ex⟩;apply List.eq_nil_iff_forall_not_mem.2;intro i hi;obtain⟨o,r⟩:=rdy listed i hsz hc hi;have:=hall i (List.getElem?_eq_some_iff.1 r.at_).1;have hn:=r.new;rw[this]at hn;simp at hn
 |succ fuel ih=>
  intro listed β a w hsz hc hm st ex hnx hho;refine⟨λhr=>Cs listed β a w (noRdy listed hsz hr) st ex,λi hi=>?_⟩;obtain⟨o,r⟩:=rdy listed i hsz hc hi;have hil:i<ops.length:=(List.getElem?_eq_some_iff.1 r.at_).1;have hs':(listed.setIfInBounds i true).getD i false=true:=by
   rw[CT,U5 (by omega)];try rfl
  have ho: ∀ j,j≠i->(listed.setIfInBounds i true).getD j false=listed.getD j false:=by
   intro j hj;rw[CT,Jp (Ne.symm hj), ← CT]
  have hc':GJ ops (λj=>(listed.setIfInBounds i true).getD j false):=by
   intro j q hq hj e he hb;by_cases heq:e.on=i
   ·simp only[heq];exact hs'
   ·simp only;rw[ho _ heq];by_cases hji:j=i
    ·subst hji;have:=r.at_;rw[hq]at this;simp at this;subst this;exact r.before e he hb
    ·simp only at hj;rw[ho j hji]at hj;exact hc j q hq hj e he hb
  have hm':E4 (λj=>(listed.setIfInBounds i true).getD j false) ops.length<=fuel:=by
   have:=MH (S:=λj=>listed.getD j false) (S':=λj=>(listed.setIfInBounds i true).getD j false) r.new hs' (λj hj=>(ho j hj).symm) ops.length hil;omega
  obtain⟨hdst,b,hb,hb1,hb2⟩:=tr.step i o r.at_;have hlook: ∀ t,t∈Dc ops o->Bj ops sk (λj=>listed.getD j false) t=sk i t:=λt ht=>r.slot3 hd tr ht;have hwant:=MF st (o:=o) (ops:=ops) (by rw[Ns hlook];exact hb);have hnext:=λ{x:PV}(hx:sk (i+1)=AW (sk i) o.dst x)=>r.next3 (S':=λj=>(listed.setIfInBounds i true).getD j false) hd tr hs' ho hx;have ho2: ∀ j,j≠i->(λj=>(listed.setIfInBounds i true).getD j false) j=(λj=>listed.getD j false) j:=ho;have hho': ∀ f,f<ops.length->(listed.setIfInBounds i true).getD f false=false->f≠i/\(β (base+f)).b=none:=by
   intro f hf hfs;by_cases hfi:f=i
   ·rw [hfi,hs']at hfs;simp at hfs
   ·exact ⟨hfi,hho f hf (by rw[← ho f hfi];exact hfs)⟩
  unfold wpOp;simp only[List.getElem?_toArray,r.at_];rw[hwant];cases b with
  |false=>
   obtain⟨e1,e2,e3,e4⟩:=hb1 rfl;simp only[Ap,AD];have st':=st.undef (d:=o.dst) hdst;rw[hnext e1]at st';have eh:=Qm (lt:=lt) (br:=br) (ops:=ops) (hk:=hk) e4 e3 ho2;exact ih _ β _ w (by simpa using hsz) hc' hm' (by rw[eh];exact st') (by rw[eh];exact ex) (by rw[eh];exact hnx) (λf hf hfs=>(hho' f hf hfs).2)
  |true=>
   obtain⟨e1,e2,e3⟩:=hb2 rfl;simp only[AC];left;have hops: ∀ t,.tmp t∈o.op.operands->sk i t=Bj ops sk (λj=>listed.getD j false) t:=λt ht=>(hlook t (by
    simp only[Dc,List.mem_append,List.mem_filterMap];exact .inl (.inl ⟨.tmp t,GC.2 ht,rfl⟩))).symm
   have fromTo: ∀ (β'':B8)(a':Act)(w':World),St n β'' (Bj ops sk λj=>(listed.setIfInBounds i true).getD j false) (Hs lt br ops hk λj=>(listed.setIfInBounds i true).getD j false) a' w'->BB β (Hs lt br ops hk λj=>listed.getD j false) w β'' (Hs lt br ops hk λj=>(listed.setIfInBounds i true).getD j false) w'->wpAny P .any ops.toArray Q fuel (listed.setIfInBounds i true) a' w':=by
    intro β'' a' w' st'' ex'';refine ih _ β'' a' w' (by simpa using hsz) hc' hm' st'' (ex.trans ex'') (ES hnx ex''.next) (λf hf hfs=>?_);rw[ex''.beta _ (by omega)];exact(hho' f hf hfs).2
   cases hiw:Ax ow wf o with
   |false=>
    obtain⟨g1,g2,g3,g4⟩:=e2 hiw;obtain⟨q1,q2⟩:=r.quiet hd tr g2;obtain⟨ll,hll,hdo⟩:=g4 _ q1;have q2:=q2 ll hll;have eh:=Qm (lt:=lt) (br:=br) (ops:=ops) (hk:=hk) g3 g2 ho2;obtain⟨βX,stX,back⟩:=St.hidesK st.sim.lt ll st;rw[q2]at stX back;refine Ad.wp stX hdst (JB hops hdo) (λa' w' ht=>?_);obtain⟨s',h',β',⟨rfl,rfl⟩,st',ex'⟩:=ht;obtain⟨β'',st'',ex''⟩:=back β' _ _ a' w' st' ex' (λj hj _=>by simp only[gx,As];rw[AH (by simpa using hj)]);rw[← q2,Qg]at st'' ex'';rw[hnext e1]at st'';exact fromTo β'' a' w' (by rw[eh];exact st'') (by rw[eh];exact ex'')
   |true=>
    rcases e3 hiw with⟨g1,g2,hdo,g4⟩|⟨g1,hA,ob,g2,g3,g4⟩|⟨g1,t,x,y,id,rr,ff,ob,hop,hx,g2,g3,g4,g5⟩
    ·obtain ⟨H',hdo,hH,hk1⟩:=hdo;obtain⟨q1,q3⟩:=r.barrier (S':=λj=>(listed.setIfInBounds i true).getD j false) hd tr h0 g1 hH hk1 hs' ho2;obtain⟨βX,stX,back⟩:=St.hidesK st.sim.lt (kx ow ops lt i) st;rw[q1]at stX back;refine Ad.wp stX hdst (JB hops hdo) (λa' w' ht=>?_);obtain⟨s',h',β',⟨rfl,rfl⟩,st',ex'⟩:=ht;obtain⟨β'',st'',ex''⟩:=back β' _ _ a' w' st' ex' (λj hj _=>hH j hj);rw[q3]at st'' ex'';rw[hnext e1]at st'';exact fromTo β'' a' w' st'' ex''
    ·obtain ⟨eh,hno⟩:=r.newA (S':=λj=>(listed.setIfInBounds i true).getD j false) hd tr h0 hA g2 hs' ho2;have g3':DP P ow (base+i) o (A6 (Bj ops sk λj=>listed.getD j false))=some (vk i,ob):=by
      rw[← g3];unfold DP;rw[Qb hops]
     refine St.floatA hA g3' (show base+i<_ by omega) hno (hho i hil r.new) st hdst λβ' a' w' st' hbeta hos htape hout hsize hX hmem hfz=>?_;rw[hnext e1, ← eh]at st';have hrn:(Hs lt br ops hk λj=>(listed.setIfInBounds i true).getD j false).next=(Hs lt br ops hk λj=>listed.getD j false).next:=by rw[eh];try rfl
     refine ih _ β' a' w' (by simpa using hsz) hc' hm' st' ?_ (by rw[hrn];exact hnx) (λf hf hfs=>?_)
     ·refine ⟨hos.trans ex.os,htape.trans ex.tape,hout.trans ex.output,ES ex.size hsize,by rw[hrn];exact ex.next,λid hid=>?_,hX.trans ex.X,λc hc hl=>?_,λc hc=>?_⟩
      ·have:=ex.next
       rw[hbeta id (by omega) (by omega)];exact ex.beta id hid
      ·rw [hmem c (by rw[ex.X];exact hc) (FJ hl ex.size)];exact ex.xh c hc hl
      ·obtain ⟨k1,k2⟩:=ex.fz c hc;obtain⟨k3,k4⟩:=hfz c k1;rw[← eh]at k3;exact⟨k3,k4.trans k2⟩
     ·obtain ⟨k1,k2⟩:=hho' f hf hfs;rw[hbeta _ (by omega) (by omega)];exact k2
    ·have hnA:BY ow o=false:=(by unfold BY;rw[hop]);obtain⟨hM,hnd,hobj⟩:=r.stored tr hnA g2;have eh:=r.light (S':=λj=>(listed.setIfInBounds i true).getD j false) tr g2 hM hnd hs' ho2;have hdo:Ad P ow o (A6 (sk i)) (Hs lt br ops hk λj=>listed.getD j false) (vk i) ((Hs lt br ops hk λj=>listed.getD j false).set id ob):=by
      unfold Ad;rw[hop,g3]at g5;rw[hop];exact V2 hx g5 hobj
     refine Ad.wp st hdst (JB hops hdo) (λa' w' ht=>?_);obtain⟨s',h',β',⟨rfl,rfl⟩,st',ex'⟩:=ht;rw[← eh]at st' ex';rw[hnext e1]at st';exact fromTo β' a' w' st' ex'
theorem VC{id:Nat}(hm:P.follows .mixedOrders=true){β:B8}{s:A8}{h:A0}{a:Act}{w:World}{K:A8->A0->Prop}{Q:Exit->Act->World->Prop}(st:St n β s h a w)(hw:Lw P ow wf n ops K s h)
  (hk': ∀ a' w',To n β h w K a' w'->Q .normal a' w'):(Code.region id ops.toArray true).wp P Q a w:=by
 obtain⟨h1,sk,hk,vk,lt,br,e1,e2,hK,tr⟩:=hw;have hd:=FM.of h1;refine wp_region_any hm ?_;obtain⟨s1,s2⟩:=st.sim.drew;have std:St n β s h a w.drew:=⟨s1,λt=>s2.rep (st.rep t),st.size,st.defers⟩;obtain⟨β0,st0,ex0,hnone0⟩:=std.bump ops.length;have hS: ∀ j,(Array.replicate ops.toArray.size false).getD j false=false:=by
  intro j;rw[CT,NY];split<;>rfl
 have emp: ∀ (p:Nat->Bool),(λj=>((Array.replicate ops.toArray.size false).getD j false&&p j))=λ_=>false:=by
  intro p;funext j;rw[hS];try rfl
 have l0:Cf (λ_=>false) ops.length=0:=Hp (BX _) (.inl rfl) (λ_ _ _=>rfl);have hval:Bj ops sk (λj=>(Array.replicate ops.toArray.size false).getD j false)=s:=by
  funext t;unfold Bj;rw[emp,l0,e1]
 have hheap:Hs lt br ops hk (λj=>(Array.replicate ops.toArray.size false).getD j false)=h.bump ops.length:=by
  have hM0:MB br ops (λj=>(Array.replicate ops.toArray.size false).getD j false)=0:=by unfold MB;rw[emp,l0]
  have hdl:dl lt br ops (λj=>(Array.replicate ops.toArray.size false).getD j false)=[]:=by
   apply List.eq_nil_iff_forall_not_mem.2;intro id hid;obtain⟨f,q,k1,k2,_⟩:=GL.1 hid;rw[hM0]at k2;omega
  unfold Hs;rw[hdl,Qo];unfold Xs;have h2:=JG (lt:=lt) (p:=λf=>decide (MB br ops (λj=>(Array.replicate ops.toArray.size false).getD j false)<=f)&&(λj=>(Array.replicate ops.toArray.size false).getD j false) f) (H:=hk (MB br ops (λj=>(Array.replicate ops.toArray.size false).getD j false))) (m:=0) ops.length (λf _ _ _=>by simp only[hS,B5]);rw[Bb]at h2;rw[h2,hM0];simp only[C4];rw[e2];try rfl
 refine VB hd tr (λf=>?_) hK (hb:=h) (β0:=β) (w0:=w) (AF _) hk' _ _ β0 a w.drew (by simp) (λj o _ hj=>by simp only[hS]at hj;simp at hj) ?_ ?_ ?_ ?_ ?_
 ·rw [e2];cases ho:h.obj (h.next+f)with
  |none=>rfl
  |some o=>have:=st.sim.lt (h.next+f) (by rw[ho];try rfl);omega
 ·have: ∀ m,E4 (λj=>(Array.replicate ops.toArray.size false).getD j false) m<=m:=by
   intro m
   induction m with
   |zero=>exact AF _
   |succ m ih=>unfold E4;split<;>omega
  simpa using this ops.length
 ·rw [hval,hheap];exact st0
 ·rw [hheap];exact s2.trans ex0
 ·rw [hheap];exact AF _
 ·intro f hf _;exact hnone0 _ (by omega)
end
end Go.AM
namespace Go.AM
section
variable {P:Program}{ow:Nat->Bool}{wf:FuncId->Bool}{n:Nat}
def MQ(n:Nat)(β:B8)(h:A0)(w:World)(K:Au)(e:Exit)(a':Act)(w':World):Prop:=
 ∃ s' h' β',K e s' h'/\St n β' s' h' a' w'/\BB β h w β' h' w'
def Ky(P:Program)(c:Code)(Q:Exit->Act->World->Prop):Nat->Act->World->Prop
 |0,_,_=>False
 |k+1,a,w=>c.wp P (Exit.then (Ky P c Q k) Q) a w
theorem VD{c:Code}{Q:Exit->Act->World->Prop}{k:Nat}{a:Act}{w:World}(hl:Ky P c Q k a w):(Code.loop c).wp P Q a w:=by
 have key: ∀ (m:Nat)(a:Act)(w:World),Ky P c Q m a w-> ∀ (b:Frame)(k:List Item)(cs:List Frame),
   ∃ e a' w',Q e a' w'/\Arrives P (lone (b.at a (.code c:: .inLoop c::k)) cs w) b k cs e a' w':=by
  intro m
  induction m with
  |zero=>intro a w h;exact h.elim
  |succ m ih=>
   intro a w h b k cs;obtain⟨e,a₁,w₁,hq,harr⟩:=h b (.inLoop c::k) cs;cases e with
   |normal=>
    obtain⟨e₂,a₂,w₂,hq₂,harr₂⟩:=ih a₁ w₁ hq b k cs;exact⟨e₂,a₂,w₂,hq₂,.of_steps (Steps.trans harr (.one step_inLoop)) harr₂⟩
   |exit id=>exact⟨_,a₁,w₁,hq,.pass (x:= .inLoop c) rfl (λ_ _=> .inl (by simp)) harr⟩
   |goto l=>exact⟨_,a₁,w₁,hq,.pass (x:= .inLoop c) rfl (λ_ _=> .inl (by simp)) harr⟩
   |ret=>exact⟨_,a₁,w₁,hq,.pass (x:= .inLoop c) rfl (λ_ _=> .inl (by simp)) harr⟩
   |panic ch=>exact⟨_,a₁,w₁,hq,.pass (x:= .inLoop c) rfl (λ_ _=> .inl (by simp)) harr⟩
   |outgrown=>exact⟨_,a₁,w₁,hq,.pass (x:= .inLoop c) rfl (λ_ _=> .inl (by simp)) harr⟩
 intro b k cs;obtain⟨e,a',w',hq,harr⟩:=key _ a w hl b k cs;exact⟨e,a',w',hq,.of_steps (.one step_loop) harr⟩
theorem JI(hm:P.follows .mixedOrders=true): ∀ (c:Code)(Q':Au)(β:B8)(s:A8)(h:A0)(a:Act)(w:World)(Q:Exit->Act->World->Prop),
  AX P ow wf n c Q' s h->St n β s h a w->(∀ e a' w',MQ n β h w Q' e a' w'->Q e a' w')->c.wp P Q a w
 | .skip,Q',β,s,h,a,w,Q,hw,st,hk=>wp_skip (hk _ _ _ ⟨s,h,β,hw,st,BB.refl⟩)
 | .region id ops true,Q',β,s,h,a,w,Q,hw,st,hk=>by
  simp only[AX,AC]at hw;obtain⟨s1,h1,wk,hw⟩:=hw;obtain⟨k1,k2,k3⟩:=wk β w st.sim;have hk:=λe a' w' (ht:MQ n β h1 w Q' e a' w')=>hk e a' w' (by obtain⟨s2,h2,β2,q2,st2,ex2⟩:=ht;exact⟨s2,h2,β2,q2,st2,k2.trans ex2⟩);have st:St n β s1 h1 a w:=⟨k1,λt=>k3 t _ (st.rep t),st.size,st.defers⟩;rcases hw with hw|hw|hw
  ·have:=Uv (id:=id) hm st hw (Q:=Q) (λa' w' ht=>hk _ _ _ ht);simpa using this
  ·have:=Uz (id:=id) hm st hw (Q:=Q) (λa' w' ht=>hk _ _ _ ht);simpa using this
  ·have:=VC (id:=id) hm st hw (Q:=Q) (λa' w' ht=>hk _ _ _ ht);simpa using this
 | .region id ops false,Q',β,s,h,a,w,Q,hw,st,hk=>by
  simp only[AX,Ap,AD]at hw;obtain⟨s1,h1,wk,hw⟩:=hw;obtain⟨k1,k2,k3⟩:=wk β w st.sim;have hk:=λe a' w' (ht:MQ n β h1 w Q' e a' w')=>hk e a' w' (by obtain⟨s2,h2,β2,q2,st2,ex2⟩:=ht;exact⟨s2,h2,β2,q2,st2,k2.trans ex2⟩);have st:St n β s1 h1 a w:=⟨k1,λt=>k3 t _ (st.rep t),st.size,st.defers⟩;refine wp_region_list ?_;have:=Nq (Q:=Q) ops.toList st hw (λa' w' ht=>hk _ _ _ ht);simpa using this
 | .seq x y,Q',β,s,h,a,w,Q,hw,st,hk=>by
  simp only[AX]at hw;refine wp_seq (JI hm x _ β s h a w _ hw st (λe a' w' ht=>?_));obtain⟨s',h',β',hq,st',ex⟩:=ht;cases e<;>simp only[Au.seq]at hq<;>simp only[Exit.then]
  ·exact JI hm y _ β' s' h' a' w' Q hq st' (λe a'' w'' ⟨s2,h2,β2,q2,st2,ex2⟩=>hk _ _ _ ⟨s2,h2,β2,q2,st2,ex.trans ex2⟩)
  all_goals exact hk _ _ _ ⟨s',h',β',hq,st',ex⟩
 | .cond c x y,Q',β,s,h,a,w,Q,hw,st,hk=>by
  simp only[AX]at hw;split at hw
  ·rename_i b hb;have he:=IP st.rep c;rw[hb]at he;simp only[AO,A9]at he;cases b with
   |true=>exact wp_cond_true he (JI hm x _ β s h a w Q (by simpa using hw) st hk)
   |false=>exact wp_cond_false he (JI hm y _ β s h a w Q (by simpa using hw) st hk)
  ·exact hw.elim
 | .block id c,Q',β,s,h,a,w,Q,hw,st,hk=>by
  simp only[AX]at hw;refine wp_block (JI hm c _ β s h a w _ hw st (λe a' w' ht=>?_));obtain⟨s',h',β',hq,st',ex⟩:=ht;cases e<;>simp only[Au.block]at hq<;>simp only[Exit.inBlock]
  case exit id'=>
   by_cases hid:id'=id
   ·rw [AH hid]at hq⊢;exact hk _ _ _ ⟨s',h',β',hq,st',ex⟩
   ·rw [A4 hid]at hq⊢;exact hk _ _ _ ⟨s',h',β',hq,st',ex⟩
  all_goals exact hk _ _ _ ⟨s',h',β',hq,st',ex⟩
 | .loop c,Q',β,s,h,a,w,Q,hw,st,hk=>by
  simp only[AX]at hw;obtain⟨k,hw⟩:=hw;refine VD (k:=k) ?_;have key: ∀ (k:Nat)(β:B8)(s:A8)(h:A0)(a:Act)(w:World),Hm (AX P ow wf n c) Q' k s h->St n β s h a w->(∀ e a' w',MQ n β h w Q' e a' w'->Q e a' w')->Ky P c Q k a w:=by
   intro k
   induction k with
   |zero=>intro β s h a w hl;exact hl.elim
   |succ k ih=>
    intro β s h a w hl st hk;simp only[Hm]at hl;simp only[Ky];refine JI hm c _ β s h a w _ hl st (λe a' w' ht=>?_);obtain⟨s',h',β',hq,st',ex⟩:=ht;cases e<;>simp only[Au.seq]at hq<;>simp only[Exit.then]
    ·exact ih β' s' h' a' w' hq st' (λe a'' w'' ⟨s2,h2,β2,q2,st2,ex2⟩=>hk _ _ _ ⟨s2,h2,β2,q2,st2,ex.trans ex2⟩)
    all_goals exact hk _ _ _ ⟨s',h',β',hq,st',ex⟩
  exact key k β s h a w hw st hk
 | .exit id,Q',β,s,h,a,w,Q,hw,st,hk=>wp_exit (hk _ _ _ ⟨s,h,β,hw,st,BB.refl⟩)
 | .ret,Q',β,s,h,a,w,Q,hw,st,hk=>wp_ret (hk _ _ _ ⟨s,h,β,hw,st,BB.refl⟩)
 | .rangeFunc _ _ _ _,_,_,_,_,_,_,_,hw,_,_=>hw.elim
 | .scope _,_,_,_,_,_,_,_,hw,_,_=>hw.elim
 | .label _,_,_,_,_,_,_,_,hw,_,_=>hw.elim
 | .goto _,_,_,_,_,_,_,_,hw,_,_=>hw.elim
 | .refuse _,_,_,_,_,_,_,_,hw,_,_=>hw.elim
theorem VE{β:B8}{s:A8}{h:A0}{a:Act}{w:World}(st:St n β s h a w){r:ResultVar}{p:PV}(hr:JA P s h r=some p):
  ∃ v,(match r with| .tmp t=>pure (a.tmps.getD t undef)| .cell x t=>do loadVar t (← asAddr (a.tmps.getD x undef)):Sem Value).run P w= .ok v w/\AO β h w p v:=by
 cases r with
 |tmp t=>
  simp only[JA,Ag]at hr;subst hr;exact⟨_,rfl,st.rep t⟩
 |cell x t=>
  simp only[JA]at hr;cases hz:Bs P t with
  |none=>simp[hz]at hr
  |some m=>
   cases hc:rd h (s x)with
   |none=>simp[hz,hc]at hr
   |some cs=>
    simp only[hz,hc,CG]at hr;obtain⟨b,o,g1,g2⟩:=Q9 st.sim hc (st.rep x);obtain⟨xv,g3,g4⟩:=QA (P:=P) hz hr g2;refine⟨xv,?_,g4⟩;simp only[g1,asAddr,pure_bind];exact g3
theorem Qp{β:B8}{s:A8}{h:A0}{a:Act}{w:World}(st:St n β s h a w): ∀ (rs:List ResultVar)(ps:List PV),F6 P s h rs=some ps->
  ∃ vs:List Value,(rs.mapM (λ| .tmp t=>pure (a.tmps.getD t undef)| .cell x t=>do loadVar t (← asAddr (a.tmps.getD x undef)):ResultVar->Sem Value)).run P w= .ok vs w/\AR β h.next (Fz β h w) w ps vs
 |[],ps,hr=>by simp[F6]at hr;subst hr;exact⟨[],by simp,by simp[AR]⟩
 |r::rs,ps,hr=>by
  simp only[F6]at hr;cases h1:JA P s h r with
  |none=>simp[h1]at hr
  |some p=>
   cases h2:F6 P s h rs with
   |none=>simp[h1,h2]at hr
   |some ps'=>
    simp[h1,h2]at hr;subst hr;obtain⟨v,g1,g2⟩:=VE st h1;obtain⟨vs,g3,g4⟩:=Qp st rs ps' h2;refine⟨v::vs,?_,by simp only[AR];exact⟨g2,g4⟩⟩;simp only[List.mapM_cons,Sem.run_bind,g1,Result.andThen_ok,g3,Sem.run_pure]
theorem K6(hm:P.follows .mixedOrders=true){f:FuncId}{fn:Func}{c:Code}{args:List PV}{h:A0}{K:PV->A0->Prop}(hf:P.funcs[f]? =some fn)(hb:fn.body=some c)(hh:Af P f=true)(hn:args.length<=fn.ntmps)
  (hw:AX P ow wf fn.ntmps c (GH P fn.results.toList K) (J9 args) h):AA P f args h K:=by
 refine λβ w vals sm hr=> .inl ⟨hh,?_⟩;have hl:=hr.len;refine calls_of_wp hf hb ?_;have st:St fn.ntmps β (J9 args) h {tmps:=vals.toArray++Array.replicate (fn.ntmps-vals.toArray.size) undef,defers:=[]} w:=by
  refine⟨sm,λt=>?_,?_,rfl⟩
  ·simp only[J9];by_cases ht:t<args.length
   ·have h1:args[t]? =some args[t]:=List.getElem?_eq_getElem ht;obtain⟨v,hv,hvr⟩:=hr.get h1;rw[List.getD_eq_getElem?_getD,h1];have:(vals.toArray++Array.replicate (fn.ntmps-vals.toArray.size) undef)[t]? =some v:=by
     rw[de (by simp;omega)];simpa using hv
    rw[CT,this];exact hvr
   ·rw [List.getD_eq_getElem?_getD,List.getElem?_eq_none (by omega)];have:(vals.toArray++Array.replicate (fn.ntmps-vals.toArray.size) undef).getD t undef=undef:=by
     rw[CT,Array.getElem?_append_right (by simp;omega),NY];split<;>rfl
    rw[this];simp only[AO,CO,A9]
  ·simp;omega
 refine JI hm c _ β _ h _ w _ hw st (λe a' w' ht=>?_);obtain⟨s',h',β',hq,st',ex⟩:=ht;have Cs:(match F6 P s' h' fn.results.toList with|some vs=>K (EV vs) h'|none=>False)->a'.defers=[]/\ ∃ v,(results fn a'.tmps).run P w'= .ok v w'/\(∃ r h'' β'' u,Ending.returned v= .returned u/\K r h''/\Ao β'' h'' w'/\AO β'' h'' w' r u/\BB β h w β'' h'' w'):=by
  intro hq;split at hq
  ·rename_i ps hps;obtain⟨vs,g1,g2⟩:=Qp st' _ ps hps;refine⟨st'.defers,(if hx:vs.toArray.size=1 then vs.toArray[0]else .tuple vs.toArray),?_,EV ps,h',β',_,rfl,hq,st'.sim,?_,ex⟩
   ·simp only[results,Array.mapM_eq_mapM_toList,Sem.run_bind,Sem.run_map];exact Iz (λr:Result (List Value)=>(r.andThen λa w'=>Result.ok a.toArray w').andThen λa w'=>(Pure.pure (if h:a.size=1 then a[0]else Value.tuple a):Sem Value).run P w') g1
   ·have hl2:=g2.len
    match ps,vs,hl2,g2 with
    |[p],[v],_,g2=>simp only[AR]at g2;simpa[EV]using g2.1
    |[],[],_,g2=>simp only[EV,AO,A9];exact⟨[],by simp,g2⟩
    |p::q::ps,v::u::vs,_,g2=>simp only[EV,AO,A9];exact⟨v::u::vs,by simp,g2⟩
    |[],v::vs,hl2,_=>simp at hl2
    |p::ps,[],hl2,_=>simp at hl2
    |[p],v::u::vs,hl2,_=>simp at hl2
    |p::q::ps,[v],hl2,_=>simp at hl2
  ·exact hq.elim
 cases e<;>simp only[GH]at hq
 ·exact Cs hq
 ·exact Cs hq
theorem J7.body{f:FuncId}{vals:Array Value}{w:World}{Q:Ending->World->Prop}(hb:Af P f=true)(h:J7 P f vals w Q):Calls P f vals w Q:=by
 rcases h with⟨_,h⟩|⟨v,w',h,_⟩
 ·exact h
 ·unfold Af at hb;cases hfn:P.funcs[f]? with
  |none=>simp[hfn]at hb
  |some fn=>
   simp[hfn]at hb;have hbody:fn.body.isNone=false:=(by cases hbb:fn.body<;>simp[hbb]at hb⊢);have hne:fn.body≠none:=(by intro e;rw[e]at hb;simp at hb);simp[callFunc,hfn,hb.1,hne]at h
theorem VF{f:FuncId}{pargs:List PV}{w:World}{vals:List Value}(hb:Af P f=true)(hc:AA P f pargs A0.nil (λr _=>r= .sc (.bool true)))(hr:AR ⟨λ_=>⟨none,0,0,0⟩,λ_=>False⟩ 0 (λb=>b<w.heap.size) w pargs vals):
  Calls P f vals.toArray w λe w'=>e= .returned (.bool true)/\RowKit.Below w.heap.size w w':=by
 have sm:Ao ⟨λ_=>⟨none,0,0,0⟩,λ_=>False⟩ A0.nil w:=⟨λid h=>by simp[A0.nil]at h,λid o h=>by simp[A0.nil]at h,λi j h=>by simp[A0.nil]at h,λb h=>h.elim,λid h=>by simp[A0.nil]at h⟩;have fz0: ∀ b,b<w.heap.size->Fz ⟨λ_=>⟨none,0,0,0⟩,λ_=>False⟩ A0.nil w b:=λb hb=>⟨hb,λid h=>by simp[A0.nil]at h,λh=>h⟩;have hr':AR ⟨λ_=>⟨none,0,0,0⟩,λ_=>False⟩ A0.nil.next (Fz ⟨λ_=>⟨none,0,0,0⟩,λ_=>False⟩ A0.nil w) w pargs vals:=
  AR.mv ⟨AF _,λ_ _ _=>rfl,λb hb=>⟨fz0 b hb,rfl⟩⟩ _ _ hr
 refine(J7.body hb (hc _ w vals sm hr')).mono ?_;rintro e w' ⟨r,h',β',v,rfl,rfl,sm',hrep,ex⟩;simp only[AO,A9]at hrep;subst hrep;exact⟨rfl,⟨ex.os,ex.tape,ex.output,ex.size,λk hk=>(ex.fz k (fz0 k hk)).2⟩⟩
theorem AA.mono{f:FuncId}{args:List PV}{h:A0}{K K':PV->A0->Prop}(hc:AA P f args h K)(hk: ∀ r h',K r h'->K' r h'):AA P f args h K':=
 λβ w vals sm hr=>(hc β w vals sm hr).mono λ_ _ ⟨r,h',β',v,h1,h2,h3⟩=>⟨r,h',β',v,h1,hk _ _ h2,h3⟩
end
end Go.AM
namespace Go.AM
section
variable {P:Program}{ow:Nat->Bool}{wf:FuncId->Bool}{n:Nat}
theorem Kz(h:A0)(o:Ae)(i:Nat):(h.new o).obj i=if i=h.next then some o else h.obj i:=rfl
theorem L7(h:A0)(id i:Nat):(h.kill id).obj i=if i=id then none else h.obj i:=rfl
theorem Qq(h:A0)(id:Nat)(o:Ae)(i:Nat):(h.set id o).obj i=if i=id then some o else h.obj i:=rfl
theorem O0(h:A0)(o:Ae):(h.new o).next=h.next+1:=rfl
theorem MR(h:A0)(id:Nat):(h.kill id).next=h.next:=rfl
theorem Qr(h:A0)(id:Nat)(o:Ae):(h.set id o).next=h.next:=rfl
theorem VG(s:A8)(d:Nat)(v:PV)(t:Nat):C2 s d v t=if t=d then v else s t:=rfl
theorem VH(s:A8)(d:Nat)(v:PV):AW s (some d) v=C2 s d v:=rfl
theorem VI(s:A8)(v:PV):AW s none v=s:=rfl
theorem VJ(l:List PV)(t:Nat):J9 l t=l.getD t (.sc undef):=rfl
theorem VK(k:IntKind)(i:Int):Eu (.int k i)= .sc (.int k i):=rfl
theorem VL(b:Bool):Eu (.bool b)= .sc (.bool b):=rfl
theorem VM(b:ByteArray):Eu (.string b)= .sc (.string b):=rfl
theorem VN:Eu .nilIface= .sc .nilIface:=rfl
theorem VO(a:Option Addr):Eu (.pointer a)= .sc (.pointer a):=rfl
theorem VP(a:Option Addr)(l c:Nat):Eu (.slice a l c)= .sc (.slice a l c):=rfl
theorem VQ(a:Option Nat):Eu (.map a)= .sc (.map a):=rfl
theorem VR(l:List Value):Eu (.agg l.toArray)=if l.all Value.oneCell'=true then .agg (l.map .sc)else .sc (.agg l.toArray):=rfl
theorem O1{o:Oper}{K K':A8->A0->Prop}(hk: ∀ s h,K s h->K' s h){s:A8}{h:A0}(ho:Bu P ow o K s h):Bu P ow o K' s h:=by
 unfold Bu at ho⊢;split at ho
 ·exact ho.mono λ_ _=>hk _ _
 ·split at ho
  ·exact hk _ _ ho
  ·exact ho
theorem O2{ops:List Oper}{K K':A8->A0->Prop}(hk: ∀ s h,K s h->K' s h): ∀ (l:List Oper){s:A8}{h:A0},DH P ow n ops l K s h->DH P ow n ops l K' s h
 |[],s,h,hl=>hk s h hl
 |o::rest,s,h,hl=>by
  simp only[DH]at hl⊢;refine⟨hl.1,?_⟩;have h2:=hl.2;split at h2
  ·exact h2.elim
  ·split at h2
   ·rename_i hb;simp only[hb,AC];exact O1 (λs h=>O2 hk rest) h2
   ·rename_i hb;simp only[hb,AD,Ap];exact O2 hk rest h2
theorem MT{ops:List Oper}{K K':A8->A0->Prop}(hk: ∀ s h,K s h->K' s h): ∀ (l:List Oper)(k:Nat)(past:List (Nat × (A0->Prop)))(hist:List (Nat × A0)){s:A8}{h:A0},Cn P ow wf n ops k l past hist K s h->Cn P ow wf n ops k l past hist K' s h
 |[],_,_,_,s,h,hl=>hk s h hl
 |o::rest,k,past,hist,s,h,hl=>by
  simp only[Cn]at hl⊢;refine⟨hl.1,?_⟩;have h2:=hl.2;split at h2
  ·exact h2.elim
  ·split at h2
   ·rename_i hb;simp only[hb,AC];split at h2
    ·rename_i hw;obtain⟨v,h',g1,g2,g3⟩:=h2;rw[AH hw];exact⟨v,h',g1,g2,MT hk rest _ _ _ g3⟩
    ·rename_i hw;obtain⟨v,g1,g2,g3⟩:=h2;rw[A4 hw];exact⟨v,g1,g2,MT hk rest _ _ _ g3⟩
   ·rename_i hb;simp only[hb,AD,Ap];exact MT hk rest _ _ _ h2
theorem MU{ops:List Oper}{base:Nat}{K K':A8->A0->Prop}(hk: ∀ s h,K s h->K' s h): ∀ (l:List Oper)(k:Nat)(past:List (Nat × (A0->Prop)))(hist:List (Nat × A0)){s:A8}{h:A0},EE P ow wf n ops base k l past hist K s h->EE P ow wf n ops base k l past hist K' s h
 |[],_,_,_,s,h,hl=>hk s h hl
 |o::rest,k,past,hist,s,h,hl=>by
  simp only[EE]at hl⊢;refine⟨hl.1,?_⟩;have h2:=hl.2;split at h2
  ·exact h2.elim
  ·split at h2
   ·rename_i hb;simp only[hb,AC];split at h2
    ·rename_i hw;obtain⟨v,h',g1,g0,g2,g3⟩:=h2;rw[AH hw];exact⟨v,h',g1,g0,g2,MU hk rest _ _ _ g3⟩
    ·rename_i hw;obtain⟨v,g1,g2,g3⟩:=h2;rw[A4 hw];exact⟨v,g1,g2,MU hk rest _ _ _ g3⟩
   ·rename_i hb;simp only[hb,AD,Ap];exact MU hk rest _ _ _ h2
theorem O3{c:Au->A8->A0->Prop}(hc: ∀ {Q Q':Au},(∀ e s h,Q e s h->Q' e s h)-> ∀ {s h},c Q s h->c Q' s h){Q Q':Au}(hq: ∀ e s h,Q e s h->Q' e s h): ∀ {k k':Nat},k<=k'-> ∀ {s:A8}{h:A0},Hm c Q k s h->Hm c Q' k' s h
 |0,_,_,_,_,hl=>hl.elim
 |k+1,0,hle,_,_,_=>by omega
 |k+1,k'+1,hle,s,h,hl=>by
  simp only[Hm]at hl⊢;refine hc (λe s h hh=>?_) hl;cases e<;>simp only[Au.seq]at hh⊢
  ·exact O3 hc hq (by omega) hh
  all_goals exact hq _ _ _ hh
theorem HE: ∀ (c:Code){Q Q':Au},(∀ e s h,Q e s h->Q' e s h)-> ∀ {s:A8}{h:A0},AX P ow wf n c Q s h->AX P ow wf n c Q' s h
 | .skip,_,_,hq,_,_,hw=>hq _ _ _ hw
 | .region id ops d,Q,Q',hq,s,h,hw=>by
  simp only[AX]at hw⊢;obtain⟨s,h,wk,hw⟩:=hw;refine⟨s,h,wk,?_⟩;cases d with
  |true=>
   simp only[AC]at hw⊢;exact hw.imp (λhw=>⟨hw.1,MT (λs h=>hq _ s h) _ _ _ _ hw.2⟩) (λhw=>hw.imp (λhw=>⟨hw.1,MU (λs h=>hq _ s h) _ _ _ _ hw.2⟩) (λ⟨d,sk,hk,vk,lt,br,e1,e2,k,f⟩=>⟨d,sk,hk,vk,lt,br,e1,e2,hq _ _ _ k,f⟩))
  |false=>simp only[Ap,AD]at hw⊢;exact O2 (λs h=>hq _ s h) _ hw
 | .seq a b,Q,Q',hq,s,h,hw=>by
  simp only[AX]at hw⊢;refine HE a (λe s h hh=>?_) hw;cases e<;>simp only[Au.seq]at hh⊢
  ·exact HE b hq hh
  all_goals exact hq _ _ _ hh
 | .cond c x y,Q,Q',hq,s,h,hw=>by
  simp only[AX]at hw⊢;split at hw
  ·split at hw
   ·rename_i hb;rw[AH hb];exact HE x hq hw
   ·rename_i hb;rw[A4 hb];exact HE y hq hw
  ·exact hw
 | .block id c,Q,Q',hq,s,h,hw=>by
  simp only[AX]at hw⊢;refine HE c (λe s h hh=>?_) hw;cases e<;>simp only[Au.block]at hh⊢
  case exit id'=>split at hh<;>rename_i he<;>simp only[he,AC,AD]<;>exact hq _ _ _ hh
  all_goals exact hq _ _ _ hh
 | .loop c,Q,Q',hq,s,h,hw=>by
  simp only[AX]at hw⊢;obtain⟨k,hw⟩:=hw;exact⟨k,O3 (c:=AX P ow wf n c) (λhqq=>HE c hqq) hq (AF _) hw⟩
 | .exit id,_,_,hq,_,_,hw=>hq _ _ _ hw
 | .ret,_,_,hq,_,_,hw=>hq _ _ _ hw
 | .rangeFunc _ _ _ _,_,_,_,_,_,hw=>hw
 | .scope _,_,_,_,_,_,hw=>hw
 | .label _,_,_,_,_,_,hw=>hw
 | .goto _,_,_,_,_,_,hw=>hw
 | .refuse _,_,_,_,_,_,hw=>hw
variable {Q:Au}{s:A8}{h:A0}
def IR:Code->Bool
 | .region _ _ _=>true
 | .seq a _=>IR a
 | .block _ c=>IR c
 | .loop c=>IR c
 |_=>false
theorem MV{s s':A8}{h h':A0}(wk:Wk s h s' h'): ∀ (c:Code){Q:Au},IR c=true->AX P ow wf n c Q s' h'->AX P ow wf n c Q s h
 | .region id ops d,Q,_,hw=>by
  simp only[AX]at hw⊢;obtain⟨s1,h1,w1,hw⟩:=hw;exact⟨s1,h1,wk.trans w1,hw⟩
 | .seq a b,Q,hc,hw=>by
  simp only[AX]at hw⊢;exact MV wk a hc hw
 | .block id c,Q,hc,hw=>by
  simp only[AX]at hw⊢;exact MV wk c hc hw
 | .loop c,Q,hc,hw=>by
  simp only[AX]at hw⊢;obtain⟨k,hw⟩:=hw;cases k with
  |zero=>exact hw.elim
  |succ k=>exact⟨k+1,MV wk c hc hw⟩
theorem Qs{c:Code}{Q:Au}{s s':A8}{h h':A0}(hc:IR c=true)(wk:Wk s h s' h')(hw:AX P ow wf n c Q s' h'):AX P ow wf n c Q s h:=MV wk c hc hw
theorem EH(hq:Q .normal s h):AX P ow wf n .skip Q s h:=hq
theorem Qt{id:Nat}(hq:Q (.exit id) s h):AX P ow wf n (.exit id) Q s h:=hq
theorem Ea(hq:Q .ret s h):AX P ow wf n .ret Q s h:=hq
theorem AI{a b:Code}(hk: ∀ K:A8->A0->Prop,(∀ s h,AX P ow wf n b Q s h->K s h)->AX P ow wf n a (Au.seq K Q) s h):AX P ow wf n (.seq a b) Q s h:=by
 simp only[AX];exact hk _ λ_ _ x=>x
theorem Bl{id:Nat}{c:Code}(hk:AX P ow wf n c (Au.block id Q) s h):AX P ow wf n (.block id c) Q s h:=hk
theorem DQ{c:Operand}{x y:Code}(b:Bool)(hc:A6 s c= .sc (.bool b))(h1:b=true->AX P ow wf n x Q s h)(h2:b=false->AX P ow wf n y Q s h):AX P ow wf n (.cond c x y) Q s h:=by
 simp only[AX,hc];cases b with
 |true=>simpa using h1 rfl
 |false=>simpa using h2 rfl
def D4(P:Program)(ow:Nat->Bool)(n:Nat)(ops:List Oper):List Oper->(A8->A0->Prop)->A8->A0->Prop
 |[],K,s,h=>K s h
 |o::rest,K,s,h=>(o.dst.all (λd=>decide (d<n))=true)/\match Bt ops s o with
  |none=>False
  | some b => if b = true then
    (match callee (A6 s) o.op with
    |none=>(match AQ P (o.dst.any ow) o.op (A6 s) h with
     |some (v,h1)=>D4 P ow n ops rest K (AW s o.dst v) h1
     |none=>False)
    |some _=>Bu P ow o (DH P ow n ops rest K) s h)
   else D4 P ow n ops rest K (AW s o.dst (.sc undef)) h
theorem IS{ops:List Oper}{K:A8->A0->Prop}:(rest:List Oper)->(s:A8)->(h:A0)->D4 P ow n ops rest K s h->DH P ow n ops rest K s h
 |[],_,_,hh=>by simpa only[D4,DH]using hh
 |o::rest,s,h,hh=>by
  simp only[D4]at hh;simp only[DH];refine⟨hh.1,?_⟩;have h2:=hh.2
  clear hh;cases hw:Bt ops s o with
  |none=>rw[hw]at h2;exact h2
  |some b=>
   rw[hw]at h2;simp only at h2⊢;split at h2
   ·rename_i hb;rw[AH hb];cases hc:callee (A6 s) o.op with
    |none=>
     rw[hc]at h2;simp only at h2;unfold Bu;rw[hc];simp only;cases he:AQ P (o.dst.any ow) o.op (A6 s) h with
     |none=>rw[he]at h2;exact h2.elim
     |some r=>
      rw[he]at h2;exact IS rest _ _ h2
    |some f=>
     rw[hc]at h2;exact h2
   ·rename_i hb;rw[A4 hb];exact IS rest _ _ h2
theorem Ht{id:Nat}{ops:List Oper}(hk: ∀ K:A8->A0->Prop,(∀ s h,Q .normal s h->K s h)->D4 P ow n ops ops K s h):AX P ow wf n (.region id ops.toArray false) Q s h:=by
 simp only[AX,Ap,AD];exact⟨_,_,.refl,IS _ _ _ (hk _ λ_ _ x=>x)⟩
theorem Bp{id:Nat}{ops:List Oper}{K:A8->A0->Prop}(hk:D4 P ow n ops ops K s h):AX P ow wf n (.region id ops.toArray false) (Au.seq K Q) s h:=by
 simp only[AX,Ap,AD];exact⟨_,_,.refl,IS _ _ _ hk⟩
abbrev Ev:=List (Nat × Oper × A8 × PV)
def CX(P:Program)(ow:Nat->Bool)(l:Ev):List (Nat × (A0->Prop)):=l.map λx=>(x.1,λh'=>Ad P ow x.2.1 (A6 x.2.2.1) h' x.2.2.2 h')
def Dl(P:Program)(ow:Nat->Bool)(wf:FuncId->Bool)(n:Nat)(ops:List Oper):Nat->List Oper->Ev->List (Nat × A0)->(A8->A0->Prop)->A8->A0->Prop
 |_,[],_,_,K,s,h=>K s h
 |k,o::rest,past,hist,K,s,h=>(o.dst.all (λd=>decide (d<n))=true)/\match Bt ops s o with
  |none=>False
  | some b => if b = true then
    (match callee (A6 s) o.op with
    |none=>(match AQ P (o.dst.any ow) o.op (A6 s) h with
     |some (v,h1)=>if Ax ow wf o=true then(∀ x∈past,pre ops x.1 k=true\/Ad P ow x.2.1 (A6 x.2.2.1) h1 x.2.2.2 h1)/\Dl P ow wf n ops (k+1) rest past ((k,h)::hist) K (AW s o.dst v) h1
      else h1=h/\(∀ x∈hist,pre ops x.1 k=true\/Ad P ow o (A6 s) x.2 v x.2)/\Dl P ow wf n ops (k+1) rest ((k,o,s,v)::past) hist K (AW s o.dst v) h
     |none=>False)
    |some _=>(if Ax ow wf o=true then ∃ v h',Ad P ow o (A6 s) h v h'/\(∀ x∈CX P ow past,pre ops x.1 k=true\/x.2 h')/\Cn P ow wf n ops (k+1) rest (CX P ow past) ((k,h)::hist) K (AW s o.dst v) h'
     else ∃ v,Ad P ow o (A6 s) h v h/\(∀ x∈hist,pre ops x.1 k=true\/Ad P ow o (A6 s) x.2 v x.2)/\Cn P ow wf n ops (k+1) rest (CX P ow ((k,o,s,v)::past)) hist K (AW s o.dst v) h))
   else Dl P ow wf n ops (k+1) rest past hist K (AW s o.dst (.sc undef)) h
theorem HF{ops:List Oper}{K:A8->A0->Prop}:(rest:List Oper)->(k:Nat)->(past:Ev)->(hist:List (Nat × A0))->(s:A8)->(h:A0)->Dl P ow wf n ops k rest past hist K s h->Cn P ow wf n ops k rest (CX P ow past) hist K s h
 |[],_,_,_,_,_,hh=>by simpa only[Dl,Cn]using hh
 |o::rest,k,past,hist,s,h,hh=>by
  simp only[Dl]at hh;simp only[Cn];refine⟨hh.1,?_⟩;have h2:=hh.2
  clear hh;cases hw:Bt ops s o with
  |none=>rw[hw]at h2;exact h2
  |some b=>
   rw[hw]at h2;simp only at h2⊢;have pc: ∀ h1,(∀ x∈past,pre ops x.1 k=true\/Ad P ow x.2.1 (A6 x.2.2.1) h1 x.2.2.2 h1)-> ∀ x∈CX P ow past,pre ops x.1 k=true\/x.2 h1:=by
    intro h1 hp x hx;obtain⟨y,hy,rfl⟩:=List.mem_map.1 hx;exact hp y hy
   split at h2
   ·rename_i hb;rw[AH hb];cases hc:callee (A6 s) o.op with
    |none=>
     rw[hc]at h2;simp only at h2;cases he:AQ P (o.dst.any ow) o.op (A6 s) h with
     |none=>rw[he]at h2;exact h2.elim
     |some r=>
      obtain⟨v,h1⟩:=r;rw[he]at h2;simp only at h2;have hd:Ad P ow o (A6 s) h v h1:=(by unfold Ad;rw[hc];exact he);split at h2
      ·rename_i hi;rw[AH hi];exact⟨v,h1,hd,pc h1 h2.1,HF rest _ _ _ _ _ h2.2⟩
      ·rename_i hi;rw[A4 hi];obtain⟨rfl,h3,h4⟩:=h2;exact⟨v,hd,h3,HF rest _ _ _ _ _ h4⟩
    |some f=>
     rw[hc]at h2;simp only at h2;split at h2
     ·rename_i hi;rw[AH hi];obtain⟨v,h1,hd,h3,h4⟩:=h2;exact⟨v,h1,hd,h3,h4⟩
     ·rename_i hi;rw[A4 hi];obtain⟨v,hd,h3,h4⟩:=h2;exact⟨v,hd,h3,h4⟩
   ·rename_i hb;rw[A4 hb];exact HF rest _ _ _ _ _ h2
theorem VT{id:Nat}{ops:List Oper}(hd:HC ow wf ops=true)(hk: ∀ K:A8->A0->Prop,(∀ s h,Q .normal s h->K s h)->Dl P ow wf n ops 0 ops [] [] K s h):AX P ow wf n (.region id ops.toArray true) Q s h:=by
 simp only[AX,AC];exact⟨_,_,.refl,.inl ⟨hd,HF _ _ _ _ _ _ (hk _ λ_ _ x=>x)⟩⟩
theorem Qu{id:Nat}{ops:List Oper}{K:A8->A0->Prop}(hd:HC ow wf ops=true)(hk:Dl P ow wf n ops 0 ops [] [] K s h):AX P ow wf n (.region id ops.toArray true) (Au.seq K Q) s h:=by
 simp only[AX,AC];exact⟨_,_,.refl,.inl ⟨hd,HF _ _ _ _ _ _ hk⟩⟩
theorem GM{c:Prop} [Decidable c] {A B:Prop}(h1:c->A)(h2:¬ c->B):if c then A else B:=by
 by_cases h:c
 ·rw [AH h];exact h1 h
 ·rw [A4 h];exact h2 h
theorem BV{c:Code}(I:Nat->A8->A0->Prop)(m:Nat)(h0:I m s h)(step: ∀ m s h,I m s h->AX P ow wf n c (Au.seq (λs' h'=> ∃ m',m'<m/\I m' s' h') Q) s h):AX P ow wf n (.loop c) Q s h:=by
 have key: ∀ m s h,I m s h->Hm (AX P ow wf n c) Q (m+1) s h:=by
  intro m
  induction m using Nat.strongRecOn with
  |_ m ih=>
   intro s h hi;simp only[Hm];refine HE c (λe s h hh=>?_) (step m s h hi);cases e<;>simp only[Au.seq]at hh⊢
   ·obtain ⟨m',h1,h2⟩:=hh;exact O3 (c:=AX P ow wf n c) (k:=m'+1) (k':=m) (λhqq=>HE c hqq) (λ_ _ _ x=>x) (by omega) (ih m' h1 _ _ h2)
   all_goals exact hh
 exact⟨m+1,key m s h h0⟩
theorem VU{f:FuncId}{dst:Option Tmp}{args:List Operand}{ts:Array TypeId}{ty:TypeId}{pos:String}{af:Array Edge}{gd:Option (Nat × Bool)}{as:List PV}{Kc:PV->A0->Prop}{K:A8->A0->Prop}
  (hc:AA P f as h Kc)(ha:args.map (A6 s)=as)(hk: ∀ r h',Kc r h'->K (AW s dst r) h'):
  Bu P ow {dst:=dst,op:= .call {callee:= .value (.func f),args:=args.toArray,argTypes:=ts},type:=ty,pos:=pos,after:=af,guard:=gd} K s h:=by
 unfold Bu;simp only[callee,A6,Kd,AC];rw[ha];exact hc.mono hk
theorem Qv{f:FuncId}{dst:Option Tmp}{args:List Operand}{ts:Array TypeId}{ty:TypeId}{pos:String}{af:Array Edge}{gd:Option (Nat × Bool)}{as:List PV}{Kc:PV->A0->Prop}{K:A8->A0->Prop}{ops rest:List Oper}
  (hc:AA P f as h Kc)(ha:args.map (A6 s)=as)(hk: ∀ r h',Kc r h'->D4 P ow n ops rest K (AW s dst r) h'):
  Bu P ow {dst:=dst,op:= .call {callee:= .value (.func f),args:=args.toArray,argTypes:=ts},type:=ty,pos:=pos,after:=af,guard:=gd} (DH P ow n ops rest K) s h:=
 VU hc ha λr h' hr=>IS _ _ _ (hk r h' hr)
theorem FN{f:FuncId}{dst:Option Tmp}{args:List Operand}{ts:Array TypeId}{ty:TypeId}{pos:String}{af:Array Edge}{gd:Option (Nat × Bool)}{as:List PV}{v:PV}{K:A8->A0->Prop}{ops rest:List Oper}
  (hc:AA P f as h λr h'=>r=v/\h'=h)(ha:args.map (A6 s)=as)(hk:D4 P ow n ops rest K (AW s dst v) h):
  Bu P ow {dst:=dst,op:= .call {callee:= .value (.func f),args:=args.toArray,argTypes:=ts},type:=ty,pos:=pos,after:=af,guard:=gd} (DH P ow n ops rest K) s h:=
 Qv hc ha λr h' hr=>by rw[hr.1,hr.2];exact hk
theorem VV{dst:Option Tmp}{ty:TypeId}{pos:String}{af:Array Edge}{gd:Option (Nat × Bool)}{K:A8->A0->Prop}(x:Operand):Bu P ow {dst:=dst,op:= .move x,type:=ty,pos:=pos,after:=af,guard:=gd} K s h=match AQ P (dst.any ow) (.move x) (A6 s) h with|some (r,h')=>K (AW s dst r) h'|none=>False:=rfl
theorem VW{dst:Option Tmp}{ty:TypeId}{pos:String}{af:Array Edge}{gd:Option (Nat × Bool)}{v:PV}{h':A0}(x:Operand):Ad P ow {dst:=dst,op:= .move x,type:=ty,pos:=pos,after:=af,guard:=gd} (A6 s) h v h'=(AQ P (dst.any ow) (.move x) (A6 s) h=some (v,h')):=rfl
theorem VX{dst:Option Tmp}{ty:TypeId}{pos:String}{af:Array Edge}{gd:Option (Nat × Bool)}{K:A8->A0->Prop}(x:Operand):Bu P ow {dst:=dst,op:= .assign x,type:=ty,pos:=pos,after:=af,guard:=gd} K s h=match AQ P (dst.any ow) (.assign x) (A6 s) h with|some (r,h')=>K (AW s dst r) h'|none=>False:=rfl
theorem VY{dst:Option Tmp}{ty:TypeId}{pos:String}{af:Array Edge}{gd:Option (Nat × Bool)}{v:PV}{h':A0}(x:Operand):Ad P ow {dst:=dst,op:= .assign x,type:=ty,pos:=pos,after:=af,guard:=gd} (A6 s) h v h'=(AQ P (dst.any ow) (.assign x) (A6 s) h=some (v,h')):=rfl
theorem VZ{dst:Option Tmp}{ty:TypeId}{pos:String}{af:Array Edge}{gd:Option (Nat × Bool)}{K:A8->A0->Prop}(c:Operand)(a:Operand)(b:Operand):Bu P ow {dst:=dst,op:= .pick c a b,type:=ty,pos:=pos,after:=af,guard:=gd} K s h=match AQ P (dst.any ow) (.pick c a b) (A6 s) h with|some (r,h')=>K (AW s dst r) h'|none=>False:=rfl
theorem Va{dst:Option Tmp}{ty:TypeId}{pos:String}{af:Array Edge}{gd:Option (Nat × Bool)}{v:PV}{h':A0}(c:Operand)(a:Operand)(b:Operand):Ad P ow {dst:=dst,op:= .pick c a b,type:=ty,pos:=pos,after:=af,guard:=gd} (A6 s) h v h'=(AQ P (dst.any ow) (.pick c a b) (A6 s) h=some (v,h')):=rfl
theorem Vb{dst:Option Tmp}{ty:TypeId}{pos:String}{af:Array Edge}{gd:Option (Nat × Bool)}{K:A8->A0->Prop}(t:TypeId):Bu P ow {dst:=dst,op:= .alloc t,type:=ty,pos:=pos,after:=af,guard:=gd} K s h=match AQ P (dst.any ow) (.alloc t) (A6 s) h with|some (r,h')=>K (AW s dst r) h'|none=>False:=rfl
theorem Vc{dst:Option Tmp}{ty:TypeId}{pos:String}{af:Array Edge}{gd:Option (Nat × Bool)}{v:PV}{h':A0}(t:TypeId):Ad P ow {dst:=dst,op:= .alloc t,type:=ty,pos:=pos,after:=af,guard:=gd} (A6 s) h v h'=(AQ P (dst.any ow) (.alloc t) (A6 s) h=some (v,h')):=rfl
theorem Vd{dst:Option Tmp}{ty:TypeId}{pos:String}{af:Array Edge}{gd:Option (Nat × Bool)}{K:A8->A0->Prop}(t:TypeId)(x:Operand):Bu P ow {dst:=dst,op:= .box t x,type:=ty,pos:=pos,after:=af,guard:=gd} K s h=match AQ P (dst.any ow) (.box t x) (A6 s) h with|some (r,h')=>K (AW s dst r) h'|none=>False:=rfl
theorem Ve{dst:Option Tmp}{ty:TypeId}{pos:String}{af:Array Edge}{gd:Option (Nat × Bool)}{v:PV}{h':A0}(t:TypeId)(x:Operand):Ad P ow {dst:=dst,op:= .box t x,type:=ty,pos:=pos,after:=af,guard:=gd} (A6 s) h v h'=(AQ P (dst.any ow) (.box t x) (A6 s) h=some (v,h')):=rfl
theorem Vf{dst:Option Tmp}{ty:TypeId}{pos:String}{af:Array Edge}{gd:Option (Nat × Bool)}{K:A8->A0->Prop}(t:TypeId)(ps:Array (Nat × Operand)):Bu P ow {dst:=dst,op:= .build t ps,type:=ty,pos:=pos,after:=af,guard:=gd} K s h=match AQ P (dst.any ow) (.build t ps) (A6 s) h with|some (r,h')=>K (AW s dst r) h'|none=>False:=rfl
theorem Vg{dst:Option Tmp}{ty:TypeId}{pos:String}{af:Array Edge}{gd:Option (Nat × Bool)}{v:PV}{h':A0}(t:TypeId)(ps:Array (Nat × Operand)):Ad P ow {dst:=dst,op:= .build t ps,type:=ty,pos:=pos,after:=af,guard:=gd} (A6 s) h v h'=(AQ P (dst.any ow) (.build t ps) (A6 s) h=some (v,h')):=rfl
theorem Vh{dst:Option Tmp}{ty:TypeId}{pos:String}{af:Array Edge}{gd:Option (Nat × Bool)}{K:A8->A0->Prop}(t:TypeId)(l:Nat)(ps:Array (Nat × Operand)):Bu P ow {dst:=dst,op:= .buildSlice t l ps,type:=ty,pos:=pos,after:=af,guard:=gd} K s h=match AQ P (dst.any ow) (.buildSlice t l ps) (A6 s) h with|some (r,h')=>K (AW s dst r) h'|none=>False:=rfl
theorem Vi{dst:Option Tmp}{ty:TypeId}{pos:String}{af:Array Edge}{gd:Option (Nat × Bool)}{v:PV}{h':A0}(t:TypeId)(l:Nat)(ps:Array (Nat × Operand)):Ad P ow {dst:=dst,op:= .buildSlice t l ps,type:=ty,pos:=pos,after:=af,guard:=gd} (A6 s) h v h'=(AQ P (dst.any ow) (.buildSlice t l ps) (A6 s) h=some (v,h')):=rfl
theorem Vj{dst:Option Tmp}{ty:TypeId}{pos:String}{af:Array Edge}{gd:Option (Nat × Bool)}{K:A8->A0->Prop}(t:TypeId)(x:Operand):Bu P ow {dst:=dst,op:= .load t x,type:=ty,pos:=pos,after:=af,guard:=gd} K s h=match AQ P (dst.any ow) (.load t x) (A6 s) h with|some (r,h')=>K (AW s dst r) h'|none=>False:=rfl
theorem Vk{dst:Option Tmp}{ty:TypeId}{pos:String}{af:Array Edge}{gd:Option (Nat × Bool)}{v:PV}{h':A0}(t:TypeId)(x:Operand):Ad P ow {dst:=dst,op:= .load t x,type:=ty,pos:=pos,after:=af,guard:=gd} (A6 s) h v h'=(AQ P (dst.any ow) (.load t x) (A6 s) h=some (v,h')):=rfl
theorem Vm{dst:Option Tmp}{ty:TypeId}{pos:String}{af:Array Edge}{gd:Option (Nat × Bool)}{K:A8->A0->Prop}(t:TypeId)(x:Operand)(y:Operand):Bu P ow {dst:=dst,op:= .store t x y,type:=ty,pos:=pos,after:=af,guard:=gd} K s h=match AQ P (dst.any ow) (.store t x y) (A6 s) h with|some (r,h')=>K (AW s dst r) h'|none=>False:=rfl
theorem Vn{dst:Option Tmp}{ty:TypeId}{pos:String}{af:Array Edge}{gd:Option (Nat × Bool)}{v:PV}{h':A0}(t:TypeId)(x:Operand)(y:Operand):Ad P ow {dst:=dst,op:= .store t x y,type:=ty,pos:=pos,after:=af,guard:=gd} (A6 s) h v h'=(AQ P (dst.any ow) (.store t x y) (A6 s) h=some (v,h')):=rfl
theorem Vo{dst:Option Tmp}{ty:TypeId}{pos:String}{af:Array Edge}{gd:Option (Nat × Bool)}{K:A8->A0->Prop}(x:Operand):Bu P ow {dst:=dst,op:= .nilCheck x,type:=ty,pos:=pos,after:=af,guard:=gd} K s h=match AQ P (dst.any ow) (.nilCheck x) (A6 s) h with|some (r,h')=>K (AW s dst r) h'|none=>False:=rfl
theorem Vp{dst:Option Tmp}{ty:TypeId}{pos:String}{af:Array Edge}{gd:Option (Nat × Bool)}{v:PV}{h':A0}(x:Operand):Ad P ow {dst:=dst,op:= .nilCheck x,type:=ty,pos:=pos,after:=af,guard:=gd} (A6 s) h v h'=(AQ P (dst.any ow) (.nilCheck x) (A6 s) h=some (v,h')):=rfl
theorem Vq{dst:Option Tmp}{ty:TypeId}{pos:String}{af:Array Edge}{gd:Option (Nat × Bool)}{K:A8->A0->Prop}(op:BinOp)(t:TypeId)(x:Operand)(y:Operand)(u:TypeId):Bu P ow {dst:=dst,op:= .binOp op t x y u,type:=ty,pos:=pos,after:=af,guard:=gd} K s h=match AQ P (dst.any ow) (.binOp op t x y u) (A6 s) h with|some (r,h')=>K (AW s dst r) h'|none=>False:=rfl
theorem Vr{dst:Option Tmp}{ty:TypeId}{pos:String}{af:Array Edge}{gd:Option (Nat × Bool)}{v:PV}{h':A0}(op:BinOp)(t:TypeId)(x:Operand)(y:Operand)(u:TypeId):Ad P ow {dst:=dst,op:= .binOp op t x y u,type:=ty,pos:=pos,after:=af,guard:=gd} (A6 s) h v h'=(AQ P (dst.any ow) (.binOp op t x y u) (A6 s) h=some (v,h')):=rfl
theorem Vs{dst:Option Tmp}{ty:TypeId}{pos:String}{af:Array Edge}{gd:Option (Nat × Bool)}{K:A8->A0->Prop}(op:UnOp)(t:TypeId)(x:Operand):Bu P ow {dst:=dst,op:= .unOp op t x,type:=ty,pos:=pos,after:=af,guard:=gd} K s h=match AQ P (dst.any ow) (.unOp op t x) (A6 s) h with|some (r,h')=>K (AW s dst r) h'|none=>False:=rfl
theorem Vt{dst:Option Tmp}{ty:TypeId}{pos:String}{af:Array Edge}{gd:Option (Nat × Bool)}{v:PV}{h':A0}(op:UnOp)(t:TypeId)(x:Operand):Ad P ow {dst:=dst,op:= .unOp op t x,type:=ty,pos:=pos,after:=af,guard:=gd} (A6 s) h v h'=(AQ P (dst.any ow) (.unOp op t x) (A6 s) h=some (v,h')):=rfl
theorem Vu{dst:Option Tmp}{ty:TypeId}{pos:String}{af:Array Edge}{gd:Option (Nat × Bool)}{K:A8->A0->Prop}(a:TypeId)(b:TypeId)(x:Operand):Bu P ow {dst:=dst,op:= .convert a b x,type:=ty,pos:=pos,after:=af,guard:=gd} K s h=match AQ P (dst.any ow) (.convert a b x) (A6 s) h with|some (r,h')=>K (AW s dst r) h'|none=>False:=rfl
theorem Vv{dst:Option Tmp}{ty:TypeId}{pos:String}{af:Array Edge}{gd:Option (Nat × Bool)}{v:PV}{h':A0}(a:TypeId)(b:TypeId)(x:Operand):Ad P ow {dst:=dst,op:= .convert a b x,type:=ty,pos:=pos,after:=af,guard:=gd} (A6 s) h v h'=(AQ P (dst.any ow) (.convert a b x) (A6 s) h=some (v,h')):=rfl
theorem Vw{dst:Option Tmp}{ty:TypeId}{pos:String}{af:Array Edge}{gd:Option (Nat × Bool)}{K:A8->A0->Prop}(t:TypeId)(x:Operand):Bu P ow {dst:=dst,op:= .makeInterface t x,type:=ty,pos:=pos,after:=af,guard:=gd} K s h=match AQ P (dst.any ow) (.makeInterface t x) (A6 s) h with|some (r,h')=>K (AW s dst r) h'|none=>False:=rfl
theorem Vx{dst:Option Tmp}{ty:TypeId}{pos:String}{af:Array Edge}{gd:Option (Nat × Bool)}{v:PV}{h':A0}(t:TypeId)(x:Operand):Ad P ow {dst:=dst,op:= .makeInterface t x,type:=ty,pos:=pos,after:=af,guard:=gd} (A6 s) h v h'=(AQ P (dst.any ow) (.makeInterface t x) (A6 s) h=some (v,h')):=rfl
theorem Vy{dst:Option Tmp}{ty:TypeId}{pos:String}{af:Array Edge}{gd:Option (Nat × Bool)}{K:A8->A0->Prop}(t:TypeId)(r:Option Operand):Bu P ow {dst:=dst,op:= .makeMap t r,type:=ty,pos:=pos,after:=af,guard:=gd} K s h=match AQ P (dst.any ow) (.makeMap t r) (A6 s) h with|some (r,h')=>K (AW s dst r) h'|none=>False:=rfl
theorem Vz{dst:Option Tmp}{ty:TypeId}{pos:String}{af:Array Edge}{gd:Option (Nat × Bool)}{v:PV}{h':A0}(t:TypeId)(r:Option Operand):Ad P ow {dst:=dst,op:= .makeMap t r,type:=ty,pos:=pos,after:=af,guard:=gd} (A6 s) h v h'=(AQ P (dst.any ow) (.makeMap t r) (A6 s) h=some (v,h')):=rfl
theorem W0{dst:Option Tmp}{ty:TypeId}{pos:String}{af:Array Edge}{gd:Option (Nat × Bool)}{K:A8->A0->Prop}(t:TypeId)(l:Operand)(c:Operand):Bu P ow {dst:=dst,op:= .makeSlice t l c,type:=ty,pos:=pos,after:=af,guard:=gd} K s h=match AQ P (dst.any ow) (.makeSlice t l c) (A6 s) h with|some (r,h')=>K (AW s dst r) h'|none=>False:=rfl
theorem W1{dst:Option Tmp}{ty:TypeId}{pos:String}{af:Array Edge}{gd:Option (Nat × Bool)}{v:PV}{h':A0}(t:TypeId)(l:Operand)(c:Operand):Ad P ow {dst:=dst,op:= .makeSlice t l c,type:=ty,pos:=pos,after:=af,guard:=gd} (A6 s) h v h'=(AQ P (dst.any ow) (.makeSlice t l c) (A6 s) h=some (v,h')):=rfl
theorem W2{dst:Option Tmp}{ty:TypeId}{pos:String}{af:Array Edge}{gd:Option (Nat × Bool)}{K:A8->A0->Prop}(t:TypeId)(x:Operand)(lo:Option Operand)(hi:Option Operand)(mx:Option Operand):Bu P ow {dst:=dst,op:= .slice t x lo hi mx,type:=ty,pos:=pos,after:=af,guard:=gd} K s h=match AQ P (dst.any ow) (.slice t x lo hi mx) (A6 s) h with|some (r,h')=>K (AW s dst r) h'|none=>False:=rfl
theorem W3{dst:Option Tmp}{ty:TypeId}{pos:String}{af:Array Edge}{gd:Option (Nat × Bool)}{v:PV}{h':A0}(t:TypeId)(x:Operand)(lo:Option Operand)(hi:Option Operand)(mx:Option Operand):Ad P ow {dst:=dst,op:= .slice t x lo hi mx,type:=ty,pos:=pos,after:=af,guard:=gd} (A6 s) h v h'=(AQ P (dst.any ow) (.slice t x lo hi mx) (A6 s) h=some (v,h')):=rfl
theorem W4{dst:Option Tmp}{ty:TypeId}{pos:String}{af:Array Edge}{gd:Option (Nat × Bool)}{K:A8->A0->Prop}(t:TypeId)(x:Operand)(f:Nat):Bu P ow {dst:=dst,op:= .fieldAddr t x f,type:=ty,pos:=pos,after:=af,guard:=gd} K s h=match AQ P (dst.any ow) (.fieldAddr t x f) (A6 s) h with|some (r,h')=>K (AW s dst r) h'|none=>False:=rfl
theorem W5{dst:Option Tmp}{ty:TypeId}{pos:String}{af:Array Edge}{gd:Option (Nat × Bool)}{v:PV}{h':A0}(t:TypeId)(x:Operand)(f:Nat):Ad P ow {dst:=dst,op:= .fieldAddr t x f,type:=ty,pos:=pos,after:=af,guard:=gd} (A6 s) h v h'=(AQ P (dst.any ow) (.fieldAddr t x f) (A6 s) h=some (v,h')):=rfl
theorem W6{dst:Option Tmp}{ty:TypeId}{pos:String}{af:Array Edge}{gd:Option (Nat × Bool)}{K:A8->A0->Prop}(t:TypeId)(x:Operand)(f:Nat):Bu P ow {dst:=dst,op:= .field t x f,type:=ty,pos:=pos,after:=af,guard:=gd} K s h=match AQ P (dst.any ow) (.field t x f) (A6 s) h with|some (r,h')=>K (AW s dst r) h'|none=>False:=rfl
theorem W7{dst:Option Tmp}{ty:TypeId}{pos:String}{af:Array Edge}{gd:Option (Nat × Bool)}{v:PV}{h':A0}(t:TypeId)(x:Operand)(f:Nat):Ad P ow {dst:=dst,op:= .field t x f,type:=ty,pos:=pos,after:=af,guard:=gd} (A6 s) h v h'=(AQ P (dst.any ow) (.field t x f) (A6 s) h=some (v,h')):=rfl
theorem W8{dst:Option Tmp}{ty:TypeId}{pos:String}{af:Array Edge}{gd:Option (Nat × Bool)}{K:A8->A0->Prop}(t:TypeId)(x:Operand)(i:Operand):Bu P ow {dst:=dst,op:= .indexAddr t x i,type:=ty,pos:=pos,after:=af,guard:=gd} K s h=match AQ P (dst.any ow) (.indexAddr t x i) (A6 s) h with|some (r,h')=>K (AW s dst r) h'|none=>False:=rfl
theorem W9{dst:Option Tmp}{ty:TypeId}{pos:String}{af:Array Edge}{gd:Option (Nat × Bool)}{v:PV}{h':A0}(t:TypeId)(x:Operand)(i:Operand):Ad P ow {dst:=dst,op:= .indexAddr t x i,type:=ty,pos:=pos,after:=af,guard:=gd} (A6 s) h v h'=(AQ P (dst.any ow) (.indexAddr t x i) (A6 s) h=some (v,h')):=rfl
theorem WA{dst:Option Tmp}{ty:TypeId}{pos:String}{af:Array Edge}{gd:Option (Nat × Bool)}{K:A8->A0->Prop}(t:TypeId)(x:Operand)(i:Operand):Bu P ow {dst:=dst,op:= .index t x i,type:=ty,pos:=pos,after:=af,guard:=gd} K s h=match AQ P (dst.any ow) (.index t x i) (A6 s) h with|some (r,h')=>K (AW s dst r) h'|none=>False:=rfl
theorem WB{dst:Option Tmp}{ty:TypeId}{pos:String}{af:Array Edge}{gd:Option (Nat × Bool)}{v:PV}{h':A0}(t:TypeId)(x:Operand)(i:Operand):Ad P ow {dst:=dst,op:= .index t x i,type:=ty,pos:=pos,after:=af,guard:=gd} (A6 s) h v h'=(AQ P (dst.any ow) (.index t x i) (A6 s) h=some (v,h')):=rfl
theorem WC{dst:Option Tmp}{ty:TypeId}{pos:String}{af:Array Edge}{gd:Option (Nat × Bool)}{K:A8->A0->Prop}(t:TypeId)(x:Operand)(k:Operand)(ok:Bool):Bu P ow {dst:=dst,op:= .lookup t x k ok,type:=ty,pos:=pos,after:=af,guard:=gd} K s h=match AQ P (dst.any ow) (.lookup t x k ok) (A6 s) h with|some (r,h')=>K (AW s dst r) h'|none=>False:=rfl
theorem WD{dst:Option Tmp}{ty:TypeId}{pos:String}{af:Array Edge}{gd:Option (Nat × Bool)}{v:PV}{h':A0}(t:TypeId)(x:Operand)(k:Operand)(ok:Bool):Ad P ow {dst:=dst,op:= .lookup t x k ok,type:=ty,pos:=pos,after:=af,guard:=gd} (A6 s) h v h'=(AQ P (dst.any ow) (.lookup t x k ok) (A6 s) h=some (v,h')):=rfl
theorem WE{dst:Option Tmp}{ty:TypeId}{pos:String}{af:Array Edge}{gd:Option (Nat × Bool)}{K:A8->A0->Prop}(t:TypeId)(x:Operand)(k:Operand)(y:Operand):Bu P ow {dst:=dst,op:= .mapUpdate t x k y,type:=ty,pos:=pos,after:=af,guard:=gd} K s h=match AQ P (dst.any ow) (.mapUpdate t x k y) (A6 s) h with|some (r,h')=>K (AW s dst r) h'|none=>False:=rfl
theorem WG{dst:Option Tmp}{ty:TypeId}{pos:String}{af:Array Edge}{gd:Option (Nat × Bool)}{v:PV}{h':A0}(t:TypeId)(x:Operand)(k:Operand)(y:Operand):Ad P ow {dst:=dst,op:= .mapUpdate t x k y,type:=ty,pos:=pos,after:=af,guard:=gd} (A6 s) h v h'=(AQ P (dst.any ow) (.mapUpdate t x k y) (A6 s) h=some (v,h')):=rfl
theorem WH{dst:Option Tmp}{ty:TypeId}{pos:String}{af:Array Edge}{gd:Option (Nat × Bool)}{K:A8->A0->Prop}(x:Operand)(t:TypeId)(u:TypeId)(ok:Bool):Bu P ow {dst:=dst,op:= .typeAssert x t u ok,type:=ty,pos:=pos,after:=af,guard:=gd} K s h=match AQ P (dst.any ow) (.typeAssert x t u ok) (A6 s) h with|some (r,h')=>K (AW s dst r) h'|none=>False:=rfl
theorem WI{dst:Option Tmp}{ty:TypeId}{pos:String}{af:Array Edge}{gd:Option (Nat × Bool)}{v:PV}{h':A0}(x:Operand)(t:TypeId)(u:TypeId)(ok:Bool):Ad P ow {dst:=dst,op:= .typeAssert x t u ok,type:=ty,pos:=pos,after:=af,guard:=gd} (A6 s) h v h'=(AQ P (dst.any ow) (.typeAssert x t u ok) (A6 s) h=some (v,h')):=rfl
theorem WJ{dst:Option Tmp}{ty:TypeId}{pos:String}{af:Array Edge}{gd:Option (Nat × Bool)}{K:A8->A0->Prop}(x:Operand)(i:Nat):Bu P ow {dst:=dst,op:= .extract x i,type:=ty,pos:=pos,after:=af,guard:=gd} K s h=match AQ P (dst.any ow) (.extract x i) (A6 s) h with|some (r,h')=>K (AW s dst r) h'|none=>False:=rfl
theorem WK{dst:Option Tmp}{ty:TypeId}{pos:String}{af:Array Edge}{gd:Option (Nat × Bool)}{v:PV}{h':A0}(x:Operand)(i:Nat):Ad P ow {dst:=dst,op:= .extract x i,type:=ty,pos:=pos,after:=af,guard:=gd} (A6 s) h v h'=(AQ P (dst.any ow) (.extract x i) (A6 s) h=some (v,h')):=rfl
theorem WL{dst:Option Tmp}{ty:TypeId}{pos:String}{af:Array Edge}{gd:Option (Nat × Bool)}{K:A8->A0->Prop}(bb:Builtin)(as:Array Operand)(ts:Array TypeId):Bu P ow {dst:=dst,op:= .call {callee:= .builtin bb,args:=as,argTypes:=ts},type:=ty,pos:=pos,after:=af,guard:=gd} K s h=match AQ P (dst.any ow) (.call {callee:= .builtin bb,args:=as,argTypes:=ts}) (A6 s) h with|some (r,h')=>K (AW s dst r) h'|none=>False:=rfl
theorem WM{dst:Option Tmp}{ty:TypeId}{pos:String}{af:Array Edge}{gd:Option (Nat × Bool)}{v:PV}{h':A0}(bb:Builtin)(as:Array Operand)(ts:Array TypeId):Ad P ow {dst:=dst,op:= .call {callee:= .builtin bb,args:=as,argTypes:=ts},type:=ty,pos:=pos,after:=af,guard:=gd} (A6 s) h v h'=(AQ P (dst.any ow) (.call {callee:= .builtin bb,args:=as,argTypes:=ts}) (A6 s) h=some (v,h')):=rfl
theorem C9{f:FuncId}{dst:Option Tmp}{args:List Operand}{ts:Array TypeId}{ty:TypeId}{pos:String}{af:Array Edge}{gd:Option (Nat × Bool)}{as:List PV}{v:PV}{h':A0}
  (hc:AA P f as h λr h''=>r=v/\h''=h')(ha:args.map (A6 s)=as):
  Ad P ow {dst:=dst,op:= .call {callee:= .value (.func f),args:=args.toArray,argTypes:=ts},type:=ty,pos:=pos,after:=af,guard:=gd} (A6 s) h v h':=by
 unfold Ad;simp only[callee,A6,Kd,AC];rw[ha];exact hc
theorem O4{f:FuncId}{d:Nat}{args:List Operand}{ts:Array TypeId}{ty:TypeId}{pos:String}{af:Array Edge}{gd:Option (Nat × Bool)}{as:List PV}{v:PV}{ops rest:List Oper}{k k':Nat}{past:Ev}{hist:List (Nat × A0)}{K:A8->A0->Prop}
  (hc:AA P f as h λr h'=>r=v/\h'=h)(ha:args.map (A6 s)=as)
  (hk:Dl P ow wf n ops k rest ((k',{dst:=some d,op:= .call {callee:= .value (.func f),args:=args.toArray,argTypes:=ts},type:=ty,pos:=pos,after:=af,guard:=gd},s,v)::past) hist K (C2 s d v) h):
  ∃ v,Ad P ow {dst:=some d,op:= .call {callee:= .value (.func f),args:=args.toArray,argTypes:=ts},type:=ty,pos:=pos,after:=af,guard:=gd} (A6 s) h v h/\
   Cn P ow wf n ops k rest (CX P ow ((k',{dst:=some d,op:= .call {callee:= .value (.func f),args:=args.toArray,argTypes:=ts},type:=ty,pos:=pos,after:=af,guard:=gd},s,v)::past)) hist K (C2 s d v) h:=
 ⟨v,C9 hc ha,HF _ _ _ _ _ _ hk⟩
theorem IT{f:FuncId}{d:Nat}{args:List Operand}{ts:Array TypeId}{ty:TypeId}{pos:String}{af:Array Edge}{gd:Option (Nat × Bool)}{as:List PV}{v:PV}{ops rest:List Oper}{k k':Nat}{past:Ev}{hist:List (Nat × A0)}{K:A8->A0->Prop}{A:PV->Prop}
  (hc:AA P f as h λr h'=>r=v/\h'=h)(ha:args.map (A6 s)=as)(hA:A v)
  (hk:Dl P ow wf n ops k rest ((k',{dst:=some d,op:= .call {callee:= .value (.func f),args:=args.toArray,argTypes:=ts},type:=ty,pos:=pos,after:=af,guard:=gd},s,v)::past) hist K (C2 s d v) h):
  ∃ v,Ad P ow {dst:=some d,op:= .call {callee:= .value (.func f),args:=args.toArray,argTypes:=ts},type:=ty,pos:=pos,after:=af,guard:=gd} (A6 s) h v h/\A v/\
   Cn P ow wf n ops k rest (CX P ow ((k',{dst:=some d,op:= .call {callee:= .value (.func f),args:=args.toArray,argTypes:=ts},type:=ty,pos:=pos,after:=af,guard:=gd},s,v)::past)) hist K (C2 s d v) h:=
 ⟨v,C9 hc ha,hA,HF _ _ _ _ _ _ hk⟩
theorem JJ{f:FuncId}{d:Nat}{args:List Operand}{ts:Array TypeId}{ty:TypeId}{pos:String}{af:Array Edge}{gd:Option (Nat × Bool)}{as:List PV}{v:PV}{h1:A0}{ops rest:List Oper}{k:Nat}{past:Ev}{hist:List (Nat × A0)}{K:A8->A0->Prop}{A:A0->Prop}
  (hc:AA P f as h λr h'=>r=v/\h'=h1)(ha:args.map (A6 s)=as)(hA:A h1)
  (hk:Dl P ow wf n ops k rest past hist K (C2 s d v) h1):
  ∃ v h',Ad P ow {dst:=some d,op:= .call {callee:= .value (.func f),args:=args.toArray,argTypes:=ts},type:=ty,pos:=pos,after:=af,guard:=gd} (A6 s) h v h'/\A h'/\
   Cn P ow wf n ops k rest (CX P ow past) hist K (C2 s d v) h':=
 ⟨v,h1,C9 hc ha,hA,HF _ _ _ _ _ _ hk⟩
end
theorem WN(h:A0)(z:Nat)(rows:List (List PV)):Dj h (.imm z rows)=some rows.length:=rfl
theorem WO(h:A0):Dj h .emp=some 0:=rfl
theorem WQ(h:A0):Dj h (.sc (.slice none 0 0))=some 0:=rfl
theorem WR(h:A0)(id off len:Nat):Dj h (.own id off len)=some len:=rfl
theorem WS(h:A0)(b:ByteArray):Dj h (.sc (.string b))=some b.size:=rfl
theorem WT(h:A0):Dj h (.sc (.map none))=some 0:=rfl
theorem WU(h:A0)(id:Nat):Dj h (.mp id)=match h.obj id with|some (.map es)=>some es.length|_=>none:=rfl
theorem WV(k z:Nat)(rows:List (List PV)):Ei k (.imm z rows)=(k==5):=rfl
theorem WW(k:Nat):Ei k .emp=(k==5):=rfl
theorem WX(k:Nat):Ei k (.sc (.slice none 0 0))=(k==5):=rfl
theorem WY(k id off len:Nat):Ei k (.own id off len)=(k==5):=rfl
theorem WZ(k:Nat)(b:ByteArray):Ei k (.sc (.string b))=(k==3):=rfl
theorem Wa(k:Nat):Ei k (.sc (.map none))=(k==6):=rfl
theorem Wb(k id:Nat):Ei k (.mp id)=(k==6):=rfl
theorem Wc(h:A0)(z z':Nat)(rows:List (List PV))(i:Int):F5 h z (.imm z' rows) i=if 0<=i then(if z'=z then(rows[i.toNat]?).map .cptr else none)else none:=rfl
theorem We(h:A0)(z id off len:Nat)(i:Int):F5 h z (.own id off len) i=if 0<=i then(match h.obj id with|some (.arr z' _)=>if z'=z/\i.toNat<len then some (.ptr id (off+i.toNat) 0)else none|_=>none)else none:=rfl
theorem Wg(n z id r f:Nat)(i:Int):J6 n z (.ptr id r f) i=if 0<=i/\i<n then some (.ptr id r (f+i.toNat*z))else none:=rfl
theorem Wh(n z:Nat)(cs:List PV)(i:Int):J6 n z (.cptr cs) i=if 0<=i/\i<n then(if i.toNat*z+z<=cs.length then some (.cptr ((cs.drop (i.toNat*z)).take z))else none)else none:=rfl
theorem Wi(off n id i f:Nat):Jv off n (.ptr id i f)=if 0<n then some (.ptr id i (f+off))else none:=rfl
theorem Wj(off n:Nat)(cs:List PV):Jv off n (.cptr cs)=if 0<n/\off+n<=cs.length then some (.cptr ((cs.drop off).take n))else none:=rfl
theorem Wl(h:A0)(id i f:Nat):rd h (.ptr id i f)=match h.obj id with|some (.arr _ rows)=>(rows[i]?).map (·.drop f)|_=>none:=rfl
theorem Wm(h:A0)(cs:List PV):rd h (.cptr cs)=some cs:=rfl
theorem Wn(h:A0)(vc:List PV)(id i f:Nat):wr h vc (.ptr id i f)=match h.obj id with|some (.arr z rows)=>(match rows[i]? with|some r=>if f+vc.length<=r.length then some (h.set id (.arr z (rows.set i (IN r f vc))))else none|none=>none)|_=>none:=rfl
theorem Wo(h:A0)(z:Nat)(rows:List (List PV)):E2 h (.imm z rows)=some rows:=rfl
theorem Wp(h:A0):E2 h .emp=some []:=rfl
theorem Wq(h:A0):E2 h (.sc (.slice none 0 0))=some []:=rfl
theorem Wr(h:A0)(id off len:Nat):E2 h (.own id off len)=match h.obj id with|some (.arr _ rows)=>if off+len<=rows.length then some ((rows.drop off).take len)else none|_=>none:=rfl
theorem Ws(h:A0)(z z':Nat)(rows:List (List PV)):CP h z (.imm z' rows)=(z'==z):=rfl
theorem Wt(h:A0)(z:Nat):CP h z .emp=true:=rfl
theorem Wu(h:A0)(z:Nat):CP h z (.sc (.slice none 0 0))=true:=rfl
theorem Wv(h:A0)(z id off len:Nat):CP h z (.own id off len)=match h.obj id with|some (.arr z' _)=>z'==z|_=>false:=rfl
theorem Ww(h:A0):Db h .emp=some (h,[]):=rfl
theorem Wx(h:A0):Db h (.sc (.slice none 0 0))=some (h,[]):=rfl
theorem Wy(h:A0)(id off len:Nat):Db h (.own id off len)=match h.obj id with|some (.arr _ rows)=>if off+len<=rows.length then some (h.kill id,(rows.drop off).take len)else none|_=>none:=rfl
theorem Wz(z:Nat)(rows:List (List PV)):Gf (.imm z rows)=true:=rfl
theorem X3(id off len:Nat):Gf (.own id off len)=true:=rfl
theorem X4:Gf .emp=true:=rfl
theorem X5:zB 0=true:=rfl
theorem X6:Gf (.sc (.slice none 0 0))=true:=rfl
theorem X7(h:A0):Jy h (.sc (.map none))=some []:=rfl
theorem X8(h:A0)(id:Nat):Jy h (.mp id)=match h.obj id with|some (.map es)=>some es|_=>none:=rfl
theorem XA(z z':Nat)(rows:List (List PV))(h:A0)(lo hi:Option Int):Jw z (.imm z' rows) h lo hi=if 0<=lo.getD 0/\lo.getD 0<=hi.getD rows.length/\hi.getD rows.length<=rows.length/\(z'==z)=true then some (.imm z' ((rows.drop (lo.getD 0).toNat).take (hi.getD rows.length-lo.getD 0).toNat))else none:=rfl
theorem XB(z id off len:Nat)(h:A0)(lo hi:Option Int):Jw z (.own id off len) h lo hi=if 0<=lo.getD 0/\lo.getD 0<=hi.getD len/\hi.getD len<=len/\CP h z (.own id off len)=true then(match h.obj id with|some (.arr _ _)=>some (.own id (off+(lo.getD 0).toNat) (hi.getD len-lo.getD 0).toNat)|_=>none)else none:=rfl
theorem XC(l:List PV):PV.cells (.agg l)=l:=rfl
theorem XD(v:Value):PV.cells (.sc v)=[.sc v]:=rfl
theorem XE(z:Nat)(l:List (List PV)):PV.cells (.imm z l)=[.imm z l]:=rfl
theorem XF(i o l:Nat):PV.cells (.own i o l)=[.own i o l]:=rfl
theorem XG(i o l:Nat):PV.cells (.ptr i o l)=[.ptr i o l]:=rfl
theorem XH(l:List PV):PV.cells (.cptr l)=[.cptr l]:=rfl
theorem XI:PV.cells .emp=[.emp]:=rfl
theorem XJ(i:Nat):PV.cells (.mp i)=[.mp i]:=rfl
theorem XK(k:IntKind)(i:Int):C8 (.sc (.int k i))=true:=rfl
theorem XL(b:Bool):C8 (.sc (.bool b))=true:=rfl
theorem XM(b:ByteArray):C8 (.sc (.string b))=true:=rfl
theorem XN:C8 (.sc .nilIface)=true:=rfl
theorem XO(t:TypeId)(v:Value):C8 (.sc (.iface t v))=true:=rfl
theorem XP(a:Option Addr):C8 (.sc (.pointer a))=true:=rfl
theorem XQ(a:Option Addr)(l c:Nat):C8 (.sc (.slice a l c))=true:=rfl
theorem XR(a:Option Nat):C8 (.sc (.map a))=true:=rfl
theorem XS(z:Nat)(l:List (List PV)):C8 (.imm z l)=true:=rfl
theorem XT(i o l:Nat):C8 (.own i o l)=true:=rfl
theorem XU(i o l:Nat):C8 (.ptr i o l)=true:=rfl
theorem XV(l:List PV):C8 (.cptr l)=true:=rfl
theorem XW:C8 .emp=true:=rfl
theorem XX(i:Nat):C8 (.mp i)=true:=rfl
structure Sl(h:A0)(z:Nat)(p:PV)(rows:List (List PV)):Prop where
 vw:E2 h p=some rows
 zk:CP h z p=true
 len:Dj h p=some rows.length
 lk:Ei 5 p=true
 sl:Gf p=true
 get: ∀ (i:Nat)(r:List PV),rows[i]? =some r-> ∃ q,F5 h z p (i:Int)=some q/\rd h q=some r
theorem Sl.imm{h:A0}{z:Nat}(rows:List (List PV)):Sl h z (.imm z rows) rows:=
 ⟨rfl,by simp[CP],rfl,rfl,rfl,λi r hr=>⟨.cptr r,by simp[F5,hr],rfl⟩⟩
theorem Sl.emp{h:A0}{z:Nat}:Sl h z .emp []:=⟨rfl,rfl,rfl,rfl,rfl,λi r hr=>by simp at hr⟩
theorem Sl.nil{h:A0}{z:Nat}:Sl h z (.sc (.slice none 0 0)) []:=⟨rfl,rfl,rfl,rfl,rfl,λi r hr=>by simp at hr⟩
theorem Sl.own{h:A0}{z id off len:Nat}{rows:List (List PV)}(ho:h.obj id=some (.arr z rows))(hl:off+len<=rows.length):Sl h z (.own id off len) ((rows.drop off).take len):=by
 refine⟨by simp[E2,ho,hl],by simp[CP,ho],by simp[Dj];omega,rfl,rfl,λi r hr=>?_⟩;rw[List.getElem?_take]at hr;split at hr
 ·rename_i hi;rw[List.getElem?_drop]at hr;exact⟨.ptr id (off+i) 0,by simp[F5,ho,hi],by simp[rd,ho,hr]⟩
 ·simp at hr
theorem Sl.own0{h:A0}{z id:Nat}{rows:List (List PV)}(ho:h.obj id=some (.arr z rows)):Sl h z (.own id 0 rows.length) rows:=by
 have:=Sl.own (off:=0) (len:=rows.length) ho (by omega);simpa using this
def Wf(h:A0):Prop:= ∀ id,(h.obj id).isSome=true->id<h.next
theorem GN{P:Program}{f:FuncId}{args:List PV}{h:A0}{K:PV->A0->Prop}(hb:Af P f=true)(hk:Wf h->AA P f args h K):AA P f args h K:=
 λβ w vals sm hr=>hk sm.lt β w vals sm hr
def L8(xs:List Int):List (List PV):=xs.map λx=>[.sc (.int .i64 x)]
theorem XY{xs:List Int}{i:Nat}(hi:i<xs.length):(L8 xs)[i]? =some [.sc (.int .i64 xs[i])]:=by simp[L8,hi]
theorem XZ(xs:List Int):(L8 xs).length=xs.length:=by simp[L8]
theorem Sl.int{h:A0}{p:PV}{xs:List Int}(hp:Sl h 1 p (L8 xs)){i:Nat}(hi:i<xs.length): ∃ q,F5 h 1 p (i:Int)=some q/\rd h q=some [.sc (.int .i64 xs[i])]:=hp.get i _ (XY hi)
theorem B9{n:Int}(h1: -9223372036854775808<=n)(h2:n<=9223372036854775807):IntKind.i64.wrap n=n:=IntWalk.i64_in _ ⟨h1,h2⟩
mutual
def AZ(n:Nat)(h':A0):PV->PV->Prop
 | .imm z rows, r' => (r' = .imm z rows /\ BG n rows) \/ (rows = [] /\ (r' = .emp \/ r' = .sc (.slice none 0 0))) \/
   ∃ id off len rows',r'= .own id off len/\n<=id/\h'.obj id=some (.arr z rows')/\off+len<=rows'.length/\D5 n h' rows ((rows'.drop off).take len)
 | .agg cs,r'=> ∃ cs',r'= .agg cs'/\B4 n h' cs cs'
 | .tup cs,r'=> ∃ cs',r'= .tup cs'/\B4 n h' cs cs'
 | .sc v,r'=>r'= .sc v
 | .ptr id i f,r'=>r'= .ptr id i f/\id<n
 | .cptr cs,r'=>(r'= .cptr cs/\BZ n cs)\/ ∃ id i f z rows' q,r'= .ptr id i f/\n<=id/\h'.obj id=some (.arr z rows')/\rows'[i]? =some q/\B4 n h' cs (q.drop f)
 | .own id off len,r'=>r'= .own id off len/\id<n
 | .emp,r'=>r'= .emp
 | .mp id,r'=>r'= .mp id/\id<n
 | .fn f a b,r'=>r'= .fn f a b/\BZ n a/\BZ n b
 | .ab k lo hi m r,r'=>r'= .ab k lo hi m r
def B4(n:Nat)(h':A0):List PV->List PV->Prop
 |[],[]=>True
 |p::ps,q::qs=>AZ n h' p q/\B4 n h' ps qs
 |_,_=>False
def D5(n:Nat)(h':A0):List (List PV)->List (List PV)->Prop
 |[],[]=>True
 |p::ps,q::qs=>B4 n h' p q/\D5 n h' ps qs
 |_,_=>False
end
section
variable {β:B8}{n m:Nat}{F F':Nat->Prop}{w:World}
theorem B4.len{h':A0}:(l l':List PV)->B4 n h' l l'->l.length=l'.length
 |[],[],_=>rfl
 |[],_::_,h=>by simp only[B4]at h
 |_::_,[],h=>by simp only[B4]at h
 |_::ps,_::qs,h=>by simp only[B4]at h;simp only[List.length_cons,B4.len ps qs h.2]
theorem D5.len{h':A0}:(l l':List (List PV))->D5 n h' l l'->l.length=l'.length
 |[],[],_=>rfl
 |[],_::_,h=>by simp only[D5]at h
 |_::_,[],h=>by simp only[D5]at h
 |_::ps,_::qs,h=>by simp only[D5]at h;simp only[List.length_cons,D5.len ps qs h.2]
mutual
theorem AZ.rep{h':A0}(sm:Ao β h' w)(hF: ∀ b,Fz β h' w b->F' b)(hB: ∀ id b,n<=id->(h'.obj id).isSome=true->(β id).b=some b->F' b):(p p':PV)->(x:Value)->AZ n h' p p'->A9 β h'.next (Fz β h' w) w p' x->A9 β n F' w p x
 | .imm z rows,p',x,hf,hr=>by
  simp only[AZ]at hf;rcases hf with⟨rfl,hs⟩|⟨rfl,hf⟩|⟨id,off,len,rows',rfl,hid,hob,hle,hf⟩
  ·exact A9.low hF _ x (by simpa only[BD]using hs) hr
  ·rcases hf with rfl|rfl
   ·simp only[A9]at hr⊢;obtain⟨a,rfl⟩:=hr;exact⟨a,0,rfl,AF _,BX _,.inl A2⟩
   ·simp only[A9]at hr⊢;exact⟨none,0,hr,AF _,BX _,.inl A2⟩
  ·have hl:=D5.len _ _ hf;have hl2:((rows'.drop off).take len).length=len:=(by simp;omega);simp only[A9]at hr⊢;obtain⟨_,a,cap,rfl,h2,h2',h3⟩:=hr;refine⟨a,cap,by rw[hl,hl2],by omega,h2',?_⟩;rcases h3 with h3|⟨b,h4,h5,h6⟩
   ·left;exact List.eq_nil_of_length_eq_zero (by omega)
   ·have hok:=sm.ok id _ hob;simp only[BA]at hok;rcases hok.2 with⟨h7,h8⟩|⟨b',c,e,fr,g5,g6,g7,g8,g9,g10⟩
    ·rw [h7]at h4;simp at h4
    ·rw [h4]at g5;simp at g5;subst g5;right;refine⟨b,_,hB id b hid (by rw[hob];try rfl) h4,h5,?_⟩;rw[hok.1];exact D5.rep sm hF hB z rows _ b _ hf ((g10.drop off).take len)
 | .agg cs,p',x,hf,hr=>by
  simp only[AZ]at hf;obtain⟨cs',rfl,hf⟩:=hf;simp only[A9]at hr⊢;obtain⟨xs,h1,h2,h3⟩:=hr;exact⟨xs,h1,h2,B4.rep sm hF hB cs cs' xs hf h3⟩
 | .tup cs,p',x,hf,hr=>by
  simp only[AZ]at hf;obtain⟨cs',rfl,hf⟩:=hf;simp only[A9]at hr⊢;obtain⟨xs,h1,h3⟩:=hr;exact⟨xs,h1,B4.rep sm hF hB cs cs' xs hf h3⟩
 | .sc v,p',x,hf,hr=>by simp only[AZ]at hf;subst hf;simpa only[A9]using hr
 | .ptr _ _ _,p',x,hf,hr=>by simp only[AZ]at hf;obtain⟨rfl,hf⟩:=hf;exact A9.low hF _ x (by simpa only[BD]using hf) hr
 | .cptr cs,p',x,hf,hr=>by
  simp only[AZ]at hf;rcases hf with⟨rfl,hf⟩|⟨id,i,f,z,rows',q,rfl,hid,hob,hq,hf⟩
  ·exact A9.low hF _ x (by simpa only[BD]using hf) hr
  ·simp only[A9]at hr⊢;obtain⟨_,b,hb,rfl⟩:=hr;have hok:=sm.ok id _ hob;simp only[BA]at hok;rcases hok.2 with⟨h7,h8⟩|⟨b',c,e,fr,g5,g6,g7,g8,g9,g10⟩
   ·rw [h7]at hb;simp at hb
   ·rw [hb]at g5;simp at g5;subst g5;refine⟨b,_,hB id b hid (by rw[hob];try rfl) hb,rfl,?_⟩;rw[hok.1];exact FrzS.rep sm hF hB cs _ b _ hf (((FZ.1 g10) i q hq).2.drop f)
 | .own _ _ _,p',x,hf,hr=>by simp only[AZ]at hf;obtain⟨rfl,hf⟩:=hf;exact A9.low hF _ x (by simpa only[BD]using hf) hr
 | .emp,p',x,hf,hr=>by simp only[AZ]at hf;subst hf;simpa only[A9]using hr
 | .mp _,p',x,hf,hr=>by simp only[AZ]at hf;obtain⟨rfl,hf⟩:=hf;exact A9.low hF _ x (by simpa only[BD]using hf) hr
 | .fn _ _ _,p',x,hf,hr=>by simp only[AZ]at hf;obtain⟨rfl,hf⟩:=hf;exact A9.low hF _ x (by simpa only[BD]using hf) hr
 | .ab _ _ _ _ _,p',x,hf,hr=>by simp only[AZ]at hf;subst hf;simpa only[A9]using hr
theorem B4.rep{h':A0}(sm:Ao β h' w)(hF: ∀ b,Fz β h' w b->F' b)(hB: ∀ id b,n<=id->(h'.obj id).isSome=true->(β id).b=some b->F' b):(l l':List PV)->(xs:List Value)->B4 n h' l l'->AR β h'.next (Fz β h' w) w l' xs->AR β n F' w l xs
 |[],[],[],_,_=>by simp only[AR]
 |[],[],_::_,_,h=>by simp only[AR]at h
 |[],_::_,_,h,_=>by simp only[B4]at h
 |_::_,[],_,h,_=>by simp only[B4]at h
 |_::_,_::_,[],_,h=>by simp only[AR]at h
 |p::ps,q::qs,v::vs,hf,hr=>by
  simp only[B4]at hf;simp only[AR]at hr⊢;exact⟨AZ.rep sm hF hB p q v hf.1 hr.1,B4.rep sm hF hB ps qs vs hf.2 hr.2⟩
theorem D5.rep{h':A0}(sm:Ao β h' w)(hF: ∀ b,Fz β h' w b->F' b)(hB: ∀ id b,n<=id->(h'.obj id).isSome=true->(β id).b=some b->F' b)(z:Nat):(l l':List (List PV))->(b o:Nat)->D5 n h' l l'->B7 β h'.next (Fz β h' w) w z l' b o->B7 β n F' w z l b o
 |[],[],_,_,_,_=>by simp only[B7]
 |[],_::_,_,_,h,_=>by simp only[D5]at h
 |_::_,[],_,_,h,_=>by simp only[D5]at h
 |p::ps,q::qs,b,o,hf,hr=>by
  simp only[D5]at hf;simp only[B7]at hr⊢;exact⟨⟨by rw[B4.len p q hf.1];exact hr.1.1,FrzS.rep sm hF hB p q b o hf.1 hr.1.2⟩,D5.rep sm hF hB z ps qs b (o+z) hf.2 hr.2⟩
theorem FrzS.rep{h':A0}(sm:Ao β h' w)(hF: ∀ b,Fz β h' w b->F' b)(hB: ∀ id b,n<=id->(h'.obj id).isSome=true->(β id).b=some b->F' b):(l l':List PV)->(b o:Nat)->B4 n h' l l'->BO β h'.next (Fz β h' w) w l' b o->BO β n F' w l b o
 |[],[],_,_,_,_=>by simp only[BO]
 |[],_::_,_,_,h,_=>by simp only[B4]at h
 |_::_,[],_,_,h,_=>by simp only[B4]at h
 |p::ps,q::qs,b,o,hf,hr=>by
  simp only[B4]at hf;simp only[BO]at hr⊢;obtain⟨⟨v,g1,g2,g3⟩,g4⟩:=hr;exact⟨⟨v,g1,g2,AZ.rep sm hF hB p q v hf.1 g3⟩,FrzS.rep sm hF hB ps qs b (o+1) hf.2 g4⟩
end
end
section
variable {P:Program}
theorem AA.drop{f:FuncId}{args:List PV}{h:A0}{K:PV->A0->Prop}
  (hc:AA P f args h (λr' h'=> ∃ r h2,K r h2/\AZ h2.next h' r r'/\h.next<=h2.next/\(∀ id o,h2.obj id=some o->h'.obj id=some o/\id<h2.next/\(h.obj id=some o\/De h2.next o)))):AA P f args h K:=by
 refine λβ w vals sm hr=>(hc β w vals sm hr).mono ?_;rintro e w' ⟨r',h',β',v,rfl,⟨r,h2,hK,hf,hn,ho⟩,sm',hrep,ex⟩;have hF: ∀ b,Fz β' h' w' b->Fz β' h2 w' b:=λb hb=>⟨hb.1,λid hid=>by
  obtain⟨o,hoo⟩:=Hf.1 hid;exact hb.2.1 id (by rw[(ho id o hoo).1];try rfl),hb.2.2⟩
 have hB: ∀ id b,h2.next<=id->(h'.obj id).isSome=true->(β' id).b=some b->Fz β' h2 w' b:=by
  intro id b hid hs hb;obtain⟨o,hoo⟩:=Hf.1 hs;refine⟨sm'.blk_lt hoo hb,λj hj hjb=>?_,sm'.nx id hs b hb⟩;obtain⟨o2,ho2⟩:=Hf.1 hj;obtain⟨h3,h4,_⟩:=ho j o2 ho2;have:=sm'.inj id j hs (by rw[h3];try rfl) b hb hjb;omega
 refine⟨r,h2,β',v,rfl,hK,⟨λid hid=>?_,λid o hoo=>?_,λi j hi hj=>?_,sm'.xs,λid hid=>?_⟩,?_,⟨ex.os,ex.tape,ex.output,ex.size,hn,ex.beta,ex.X,ex.xh,λb hb=>⟨hF b (ex.fz b hb).1,(ex.fz b hb).2⟩⟩⟩
 ·obtain ⟨o,hoo⟩:=Hf.1 hid;exact(ho id o hoo).2.1
 ·obtain ⟨h3,h4,h5⟩:=ho id o hoo;have hs:De h2.next o:=by
   rcases h5 with h5|h5
   ·have h6:=(sm.ok id o h5).inN
    -- what is below the first next is below the second
    have up: ∀ (o:Ae),De h.next o->De h2.next o:=by
     intro o hso;cases o with
     |arr z rows=>exact Nt hn rows hso
     |map es=>exact IQ hn _ hso
     |glb g lo hi=>simp only[De]
    exact up o h6
   ·exact h5
  exact BA.low hF hs (sm'.ok id o h3)
 ·obtain ⟨o,hoo⟩:=Hf.1 hi;obtain⟨o2,ho2⟩:=Hf.1 hj;exact sm'.inj i j (by rw[(ho i o hoo).1];try rfl) (by rw[(ho j o2 ho2).1];try rfl)
 ·obtain ⟨o,hoo⟩:=Hf.1 hid;exact sm'.nx id (by rw[(ho id o hoo).1];try rfl)
 ·exact AZ.rep sm' hF hB r r' v hf hrep
end
def DI(n:Nat)(h:A0):A0:=⟨h.next,λj=>if j<n then h.obj j else none⟩
def Co:List (Nat × PV)->A8->A8
 |[],s=>s
 |(t,p)::l,s=>C2 (Co l s) t p
theorem Qw{n:Nat}{h:A0}{id:Nat}{o:Ae}(ho:(DI n h).obj id=some o):id<n/\h.obj id=some o:=by
 simp only[DI]at ho;split at ho
 ·rename_i hn;exact⟨hn,ho⟩
 ·cases ho
theorem Wk.drop{s:A8}{h:A0}{n:Nat}{l:List (Nat × PV)}(hn:n<=h.next)(hf: ∀ x∈l,AZ n h x.2 (s x.1)):Wk s h (Co l s) (DI n h):=by
 intro β w sm;have hsome: ∀ id,((DI n h).obj id).isSome=true->id<n/\(h.obj id).isSome=true:=λid hid=>by
  obtain⟨o,ho⟩:=Hf.1 hid;obtain⟨h1,h2⟩:=Qw ho;exact⟨h1,by rw[h2];try rfl⟩
 have hF: ∀ b,Fz β h w b->Fz β (DI n h) w b:=λb hb=>⟨hb.1,λid hid=>hb.2.1 id (hsome id hid).2,hb.2.2⟩;have hB: ∀ id b,n<=id->(h.obj id).isSome=true->(β id).b=some b->Fz β (DI n h) w b:=by
  intro id b hid hs hb;obtain⟨o,hoo⟩:=Hf.1 hs;refine⟨sm.blk_lt hoo hb,λj hj hjb=>?_,sm.nx id hs b hb⟩;obtain⟨h1,h2⟩:=hsome j hj;have:=sm.inj id j hs h2 b hb hjb;omega
 have mv:Mv β h.next (Fz β h w) w β (DI n h).next (Fz β (DI n h) w) w:=⟨AF _,λ_ _ _=>rfl,λb hb=>⟨hF b hb,rfl⟩⟩
 have mv2:Mv β n (Fz β (DI n h) w) w β (DI n h).next (Fz β (DI n h) w) w:=⟨hn,λ_ _ _=>rfl,λb hb=>⟨hb,rfl⟩⟩
 refine⟨⟨λid hid=>sm.lt id (hsome id hid).2,λid o ho=>BA.mv mv (λ_ _=>rfl) (sm.ok id o (Qw ho).2),λi j hi hj=>sm.inj i j (hsome i hi).2 (hsome j hj).2,sm.xs,λid hid=>sm.nx id (hsome id hid).2⟩,
  ⟨rfl,rfl,rfl,AF _,AF _,λ_ _=>rfl,rfl,λ_ _ _=>rfl,λb hb=>⟨hF b hb,rfl⟩⟩,?_⟩
 induction l with
 |nil=>intro t x hr;exact A9.mv mv _ _ hr
 |cons a l ih=>
  intro t x hr;simp only[Co,C2];split
  ·rename_i he;subst he;exact A9.mv mv2 _ _ (AZ.rep sm hF hB _ _ _ (hf a (List.mem_cons_self ..)) hr)
  ·exact ih (λy hy=>hf y (List.mem_cons_of_mem _ hy)) t x hr
theorem JK{P:Program}{ow:Nat->Bool}{wf:FuncId->Bool}{m:Nat}{c:Code}{Q:Au}{s:A8}{h:A0}(n:Nat)(l:List (Nat × PV))(hc:IR c=true)(hn:n<=h.next)(hf: ∀ x∈l,AZ n h x.2 (s x.1))(hw:AX P ow wf m c Q (Co l s) (DI n h)):AX P ow wf m c Q s h:=Qs hc (Wk.drop hn hf) hw
theorem Xa{α β:Type}{a:α}{b:β}{Q:α->β->Prop}:(∃ v h',(a=v/\b=h')/\Q v h')↔Q a b:=
 ⟨λ⟨_,_,⟨rfl,rfl⟩,q⟩=>q,λq=>⟨a,b,⟨rfl,rfl⟩,q⟩⟩
theorem Xb{α:Type}{A:Nat × α->Prop}{ops:List Oper}{k:Nat}{R:Prop}{l:List (Nat × α)}(is:List Nat)(h1:l.map (·.1)=is)(h2:is.all (λi=>pre ops i k)=true)(h3:R):(∀ x∈l,pre ops x.1 k=true\/A x)/\R:=
 ⟨λx hx=> .inl (List.all_eq_true.1 h2 x.1 (by rw[← h1];exact List.mem_map_of_mem hx)),h3⟩
theorem Qx{α:Type}{A:Nat × α->Prop}{ops:List Oper}{k:Nat}{R:Prop}{l:List (Nat × α)}(h1: ∀ x∈l,pre ops x.1 k=true\/A x)(h3:R):(∀ x∈l,pre ops x.1 k=true\/A x)/\R:=⟨h1,h3⟩
def EI(h h':A0):Prop:=h.next<=h'.next/\ ∀ id,id<h.next->h'.obj id=h.obj id
theorem EI.refl(h:A0):EI h h:=⟨AF _,λ_ _=>rfl⟩
theorem EI.trans{h h' h'':A0}(a:EI h h')(b:EI h' h''):EI h h'':=⟨ES a.1 b.1,λid hid=>(b.2 id (FJ hid a.1)).trans (a.2 id hid)⟩
theorem Xc{h h':A0}{i:Nat}(hi:h.next<=i)(hk:EI h h'):EI h (h'.kill i):=by
 refine⟨by rw[MR];exact hk.1,λid hid=>?_⟩;rw[L7,A4 (by omega)];exact hk.2 id hid
theorem Sl.keep{h:A0}{z:Nat}{p:PV}{rows:List (List PV)}(hp:Sl h z p rows)(hwf:Wf h){h':A0}(hk:EI h h'):
  E2 h' p=some rows/\CP h' z p=true/\ ∀ (i:Nat)(r:List PV),rows[i]? =some r-> ∃ q,(∀ h'',EI h h''->F5 h'' z p (i:Int)=some q)/\ ∀ h'',EI h h''->rd h'' q=some r:=by
 have hs:=hp.sl;unfold Gf at hs;split at hs
 ·exact ⟨hp.vw,hp.zk,λi r hr=>by
   obtain⟨q,hq,hqr⟩:=hp.get i r hr;refine⟨q,λ_ _=>hq,λ_ _=>?_⟩;rename_i z' rows';simp only[F5]at hq;split at hq
   ·split at hq
    ·obtain ⟨c,_,rfl⟩:=Ck.1 hq;exact hqr
    ·exact absurd hq (by simp)
   ·exact absurd hq (by simp)⟩
 ·rename_i id off len;have hz:=hp.zk;simp only[CP]at hz;split at hz
  ·rename_i z' rows' ho;have e: ∀ h'',EI h h''->h''.obj id=h.obj id:=λh'' hk=>hk.2 id (hwf id (by rw[ho];try rfl));refine⟨by rw[← hp.vw];simp only[E2,e h' hk],by rw[← hp.zk];simp only[CP,e h' hk],λi r hr=>?_⟩;obtain⟨q,hq,hqr⟩:=hp.get i r hr;refine⟨q,λh'' hk=>by rw[← hq];simp only[F5,e h'' hk],λh'' hk=>?_⟩;rw[← hqr];simp only[F5,ho]at hq;split at hq
   ·split at hq
    ·simp only[Ag]at hq;subst hq;simp only[rd,e h'' hk]
    ·exact absurd hq (by simp)
   ·exact absurd hq (by simp)
  ·exact absurd hz (by simp)
 ·exact ⟨hp.vw,hp.zk,λi r hr=>by
   have:=hp.vw;simp only[E2,Ag]at this;subst this;simp at hr⟩
 ·exact ⟨hp.vw,hp.zk,λi r hr=>by
   have:=hp.vw;simp only[E2,Ag]at this;subst this;simp at hr⟩
 ·exact absurd hs (by simp)
theorem Sl.kview{h:A0}{z:Nat}{p:PV}{rows:List (List PV)}(hp:Sl h z p rows)(hwf:Wf h): ∀ h'',EI h h''->E2 h'' p=some rows:=λ_ hk=>(hp.keep hwf hk).1
theorem Sl.kz{h:A0}{z:Nat}{p:PV}{rows:List (List PV)}(hp:Sl h z p rows)(hwf:Wf h): ∀ h'',EI h h''->CP h'' z p=true:=λ_ hk=>(hp.keep hwf hk).2.1
theorem Sl.kget{h:A0}{z:Nat}{p:PV}{rows:List (List PV)}(hp:Sl h z p rows)(hwf:Wf h){i:Nat}{r:List PV}(hr:rows[i]? =some r): ∃ q,(∀ h'',EI h h''->F5 h'' z p (i:Int)=some q)/\ ∀ h'',EI h h''->rd h'' q=some r:=
 (hp.keep hwf (EI.refl h)).2.2 i r hr
theorem Xd{h:A0}{z:Nat}{p:PV}{rows:List (List PV)}(hp:Sl h z p rows): ∀ h',Dj h' p=some rows.length:=by
 intro h';have hs:=hp.sl;have hl:=hp.len;unfold Gf at hs;split at hs
 ·exact hl
 ·exact hl
 ·exact hl
 ·exact hl
 ·exact absurd hs (by simp)
theorem Sl.up{h h':A0}{z:Nat}{p:PV}{rows:List (List PV)}(hp:Sl h z p rows)(hwf:Wf h)(hk:EI h h'):Sl h' z p rows:=
 ⟨hp.kview hwf h' hk,hp.kz hwf h' hk,Xd hp h',hp.lk,hp.sl,λi r hr=>by
  obtain⟨q,h1,h2⟩:=hp.kget hwf hr;exact⟨q,h1 h' hk,h2 h' hk⟩⟩
theorem Sl.two{h:A0}{z:Nat}{p:PV}{rows:List (List PV)}(hp:Sl h z p rows)(hr:0<rows.length):p= .imm z rows\/ ∃ id off rows',p= .own id off rows.length/\h.obj id=some (.arr z rows')/\off+rows.length<=rows'.length/\(rows'.drop off).take rows.length=rows:=by
 have hs:=hp.sl;have hl:=hp.len;have hv:=hp.vw;have hz:=hp.zk;unfold Gf at hs;split at hs
 ·simp only[E2,Ag]at hv;simp only[CP,DZ]at hz;left;rw[hv,hz]
 ·rename_i id off len;right;simp only[Dj,Ag]at hl;subst hl;simp only[CP]at hz;simp only[E2]at hv;split at hv
  ·rename_i z' rows' ho;rw[ho]at hz;simp only[DZ]at hz;subst hz;split at hv
   ·rename_i h1;simp only[Ag]at hv;exact⟨id,off,rows',rfl,ho,h1,hv⟩
   ·simp at hv
  ·simp at hv
 ·simp only[Dj,Ag]at hl;omega
 ·simp only[Dj,Ag]at hl;omega
 ·exact absurd hs (by simp)
theorem Xe(a b:Int):Kg .u64 a b=IntKind.u64.wrap (((BitVec.ofInt 64 a&&&BitVec.ofInt 64 b).toNat:Nat):Int):=rfl
theorem Xf(a b:Int):Kh .u64 a b=IntKind.u64.wrap (((BitVec.ofInt 64 a|||BitVec.ofInt 64 b).toNat:Nat):Int):=rfl
theorem Xg(a b:Int):Ki .u64 a b=IntKind.u64.wrap (((BitVec.ofInt 64 a ^^^ BitVec.ofInt 64 b).toNat:Nat):Int):=rfl
theorem Xh(a b:Int):Kj .u64 a b=IntKind.u64.wrap (((BitVec.ofInt 64 a&&& ~~~ BitVec.ofInt 64 b).toNat:Nat):Int):=rfl
theorem Xi(a b:Int):Kg .i64 a b=IntKind.i64.wrap (((BitVec.ofInt 64 a&&&BitVec.ofInt 64 b).toNat:Nat):Int):=rfl
theorem Xj(a b:Int):Kh .i64 a b=IntKind.i64.wrap (((BitVec.ofInt 64 a|||BitVec.ofInt 64 b).toNat:Nat):Int):=rfl
theorem Xk(a b:Int):Ki .i64 a b=IntKind.i64.wrap (((BitVec.ofInt 64 a ^^^ BitVec.ofInt 64 b).toNat:Nat):Int):=rfl
theorem Xl(a b:Int):Kj .i64 a b=IntKind.i64.wrap (((BitVec.ofInt 64 a&&& ~~~ BitVec.ofInt 64 b).toNat:Nat):Int):=rfl
theorem Xm(a b:Int):Kg .u8 a b=IntKind.u8.wrap (((BitVec.ofInt 8 a&&&BitVec.ofInt 8 b).toNat:Nat):Int):=rfl
theorem Xn(a b:Int):Kh .u8 a b=IntKind.u8.wrap (((BitVec.ofInt 8 a|||BitVec.ofInt 8 b).toNat:Nat):Int):=rfl
theorem Xo(a b:Int):Ki .u8 a b=IntKind.u8.wrap (((BitVec.ofInt 8 a ^^^ BitVec.ofInt 8 b).toNat:Nat):Int):=rfl
theorem Xp(a b:Int):Kj .u8 a b=IntKind.u8.wrap (((BitVec.ofInt 8 a&&& ~~~ BitVec.ofInt 8 b).toNat:Nat):Int):=rfl
end Go.AM
namespace Go.AM
structure Pm where
 name:ByteArray
 type:ByteArray
inductive Ex where
 |mk(op name:ByteArray)(n:Int)(args:List ByteArray)(kids:List Ex)
inductive Fm where
 |mk(op name:ByteArray)(args:List ByteArray)(params:List Pm)(exprs:List Ex)(kids:List Fm)
abbrev A1(s:ByteArray):PV:= .sc (.string s)
def AP(l:List ByteArray):List (List PV):=l.map λs=>[A1 s]
def JL(p:Pm):List PV:=[A1 p.name,A1 p.type]
def A7(l:List Pm):List (List PV):=l.map JL
theorem EX(l:List Pm):(A7 l).length=l.length:=by simp[A7]
theorem Hu{l:List Pm}{i:Nat}{p:Pm}(h:l[i]? =some p):(A7 l)[i]? =some [A1 p.name,A1 p.type]:=by simp[A7,h,JL]
mutual
def Ex.cells:Ex->List PV
 | .mk op name n args kids=>[A1 op,A1 name,.sc (.int .i64 n),.imm 1 (AP args),.imm 5 (Ex.rows kids)]
def Ex.rows:List Ex->List (List PV)
 |[]=>[]
 |k::ks=>k.cells::Ex.rows ks
end
mutual
def Fm.cells:Fm->List PV
 | .mk op name args params exprs kids=>[A1 op,A1 name,.imm 1 (AP args),.imm 2 (A7 params),.imm 5 (Ex.rows exprs),.imm 6 (Fm.rows kids)]
def Fm.rows:List Fm->List (List PV)
 |[]=>[]
 |k::ks=>k.cells::Fm.rows ks
end
theorem Ex.rows_map: ∀ l:List Ex,Ex.rows l=l.map Ex.cells
 |[]=>rfl
 |k::ks=>by simp[Ex.rows,Ex.rows_map ks]
theorem Fm.rows_map: ∀ l:List Fm,Fm.rows l=l.map Fm.cells
 |[]=>rfl
 |k::ks=>by simp[Fm.rows,Fm.rows_map ks]
mutual
def Ex.size:Ex->Int
 | .mk _ _ _ _ kids=>Ex.sizes 1 kids
def Ex.sizes(n:Int):List Ex->Int
 |[]=>n
 |k::ks=>Ex.sizes (IntKind.i64.wrap (n+k.size)) ks
end
mutual
def Fm.size:Fm->Int
 | .mk _ _ _ _ exprs kids=>Fm.sizes (Ex.sizes 1 exprs) kids
def Fm.sizes(n:Int):List Fm->Int
 |[]=>n
 |k::ks=>Fm.sizes (IntKind.i64.wrap (n+k.size)) ks
end
def A3(a b:ByteArray):Bool:=a.data.toList==b.data.toList
def DR:List ByteArray->List ByteArray->Bool
 |[],[]=>true
 |a::l,b::m=>A3 a b&&DR l m
 |_,_=>false
def Qy(a b:Pm):Bool:=A3 a.name b.name&&A3 a.type b.type
def E5:List Pm->List Pm->Bool
 |[],[]=>true
 |a::l,b::m=>Qy a b&&E5 l m
 |_,_=>false
mutual
def Ex.same:Ex->Ex->Bool
 | .mk op name n args kids,.mk op' name' n' args' kids'=>A3 op op'&&A3 name name'&&n==n'&&DR args args'&&Ex.sames kids kids'
def Ex.sames:List Ex->List Ex->Bool
 |[],[]=>true
 |a::l,b::m=>a.same b&&Ex.sames l m
 |_,_=>false
end
mutual
def Fm.same:Fm->Fm->Bool
 | .mk op name args params exprs kids,.mk op' name' args' params' exprs' kids'=>A3 op op'&&A3 name name'&&DR args args'&&E5 params params'&&Ex.sames exprs exprs'&&Fm.sames kids kids'
def Fm.sames:List Fm->List Fm->Bool
 |[],[]=>true
 |a::l,b::m=>a.same b&&Fm.sames l m
 |_,_=>false
end
theorem Ex.rows_len(l:List Ex):(Ex.rows l).length=l.length:=by simp[Ex.rows_map]
theorem Fm.rows_len(l:List Fm):(Fm.rows l).length=l.length:=by simp[Fm.rows_map]
theorem Ex.rows_get{l:List Ex}{i:Nat}{k:Ex}(h:l[i]? =some k):(Ex.rows l)[i]? =some k.cells:=by simp[Ex.rows_map,h]
theorem Fm.rows_get{l:List Fm}{i:Nat}{k:Fm}(h:l[i]? =some k):(Fm.rows l)[i]? =some k.cells:=by simp[Fm.rows_map,h]
theorem Ex.ind{C:Ex->Prop}(hC: ∀ op name n args kids,(∀ k∈kids,C k)->C (.mk op name n args kids)): ∀ e,C e
 | .mk op name n args kids=>hC op name n args kids λk hk=>Ex.ind hC k
termination_by e=>SizeOf.sizeOf e
decreasing_by
 have:=List.sizeOf_lt_of_mem hk;simp only[Ex.mk.sizeOf_spec];omega
theorem Fm.ind{C:Fm->Prop}(hC: ∀ op name args params exprs kids,(∀ k∈kids,C k)->C (.mk op name args params exprs kids)): ∀ f,C f
 | .mk op name args params exprs kids=>hC op name args params exprs kids λk hk=>Fm.ind hC k
termination_by f=>SizeOf.sizeOf f
decreasing_by
 have:=List.sizeOf_lt_of_mem hk;simp only[Fm.mk.sizeOf_spec];omega
theorem Ex.sizes_append: ∀ (l m:List Ex)(n:Int),Ex.sizes n (l++m)=Ex.sizes (Ex.sizes n l) m
 |[],m,n=>by simp[Ex.sizes]
 |k::l,m,n=>by simp only[List.cons_append,Ex.sizes];exact Ex.sizes_append l m _
theorem Fm.sizes_append: ∀ (l m:List Fm)(n:Int),Fm.sizes n (l++m)=Fm.sizes (Fm.sizes n l) m
 |[],m,n=>by simp[Fm.sizes]
 |k::l,m,n=>by simp only[List.cons_append,Fm.sizes];exact Fm.sizes_append l m _
theorem Ex.sizes_take{l:List Ex}{i:Nat}{k:Ex}(n:Int)(h:l[i]? =some k):Ex.sizes n (l.take (i+1))=IntKind.i64.wrap (Ex.sizes n (l.take i)+k.size):=by
 rw[List.take_add_one,h,Ex.sizes_append];try rfl
theorem Fm.sizes_take{l:List Fm}{i:Nat}{k:Fm}(n:Int)(h:l[i]? =some k):Fm.sizes n (l.take (i+1))=IntKind.i64.wrap (Fm.sizes n (l.take i)+k.size):=by
 rw[List.take_add_one,h,Fm.sizes_append];try rfl
theorem Ex.sames_len: ∀ {l m:List Ex},¬ l.length=m.length->Ex.sames l m=false
 |[],[],h=>by simp at h
 |[],_::_,_=>rfl
 |_::_,[],_=>rfl
 |a::l,b::m,h=>by simp only[Ex.sames,Ex.sames_len (l:=l) (m:=m) (by simpa using h),B5]
theorem Fm.sames_len: ∀ {l m:List Fm},¬ l.length=m.length->Fm.sames l m=false
 |[],[],h=>by simp at h
 |[],_::_,_=>rfl
 |_::_,[],_=>rfl
 |a::l,b::m,h=>by simp only[Fm.sames,Fm.sames_len (l:=l) (m:=m) (by simpa using h),B5]
def AE:Nat:=1152921504606846976
mutual
def Ex.ok:Ex->Prop
 | .mk op name n args kids=>op.size<=AE/\name.size<=AE/\(-9223372036854775808<=n/\n<=9223372036854775807)/\(args.length<=AE/\ ∀ a∈args,a.size<=AE)/\kids.length<=AE/\Ex.oks kids
def Ex.oks:List Ex->Prop
 |[]=>True
 |k::ks=>k.ok/\Ex.oks ks
end
def Pm.ok(p:Pm):Prop:=p.name.size<=AE/\p.type.size<=AE
mutual
def Fm.ok:Fm->Prop
 | .mk op name args params exprs kids=>op.size<=AE/\name.size<=AE/\(args.length<=AE/\ ∀ a∈args,a.size<=AE)/\(params.length<=AE/\ ∀ p∈params,p.ok)/\(exprs.length<=AE/\Ex.oks exprs)/\kids.length<=AE/\Fm.oks kids
def Fm.oks:List Fm->Prop
 |[]=>True
 |k::ks=>k.ok/\Fm.oks ks
end
theorem Ex.oks_iff:{l:List Ex}->(Ex.oks l↔ ∀ k∈l,k.ok)
 |[]=>by simp[Ex.oks]
 |k::ks=>by simp[Ex.oks,Ex.oks_iff (l:=ks)]
theorem Fm.oks_iff:{l:List Fm}->(Fm.oks l↔ ∀ k∈l,k.ok)
 |[]=>by simp[Fm.oks]
 |k::ks=>by simp[Fm.oks,Fm.oks_iff (l:=ks)]
structure AL(h h':A0):Prop where
 le:h.next<=h'.next
 old: ∀ id,id<h.next->h'.obj id=h.obj id
theorem AL.refl(h:A0):AL h h:=⟨AF _,λ_ _=>rfl⟩
theorem AL.new{h h':A0}(g:AL h h')(o:Ae):AL h (h'.new o):=
 ⟨ES g.le (by simp[A0.new]),λid hid=>by simp only[A0.new];rw[A4 (by have:=g.le;omega)];exact g.old id hid⟩
theorem AL.set{h h':A0}(g:AL h h'){id:Nat}(hid:h.next<=id)(o:Ae):AL h (h'.set id o):=
 ⟨g.le,λi hi=>by simp only[A0.set];rw[A4 (by omega)];exact g.old i hi⟩
theorem AL.kill{h h':A0}(g:AL h h'){id:Nat}(hid:h.next<=id):AL h (h'.kill id):=
 ⟨g.le,λi hi=>by simp only[A0.kill];rw[A4 (by omega)];exact g.old i hi⟩
theorem AL.trans{h h' h2:A0}(g:AL h h')(k:AL h' h2):AL h h2:=
 ⟨ES g.le k.le,λi hi=>by rw[k.old i (by have:=g.le;omega)];exact g.old i hi⟩
theorem AA.quiet{P:Program}{f:FuncId}{args:List PV}{h:A0}{v:Value}(hb:Af P f=true)(hc:AA P f args h λr h'=>r= .sc v/\AL h h'):AA P f args h λr h'=>r= .sc v/\h'=h:=by
 refine GN hb λhw=>AA.drop (hc.mono ?_);rintro r h' ⟨rfl,g⟩;refine⟨.sc v,h,⟨rfl,rfl⟩,by simp only[AZ],AF _,λid o ho=>?_⟩;have hid:=hw id (by rw[ho];try rfl);exact⟨by rw[g.old id hid];exact ho,hid,.inl ho⟩
theorem MW{P:Program}{ow:Nat->Bool}{n:Nat}{s:A8}{h:A0}{f:FuncId}{fo:Operand}{dst:Option Tmp}{args:List Operand}{ts:Array TypeId}{ty:TypeId}{pos:String}{af:Array Edge}{gd:Option (Nat × Bool)}{ags:List PV}{v:PV}{K:A8->A0->Prop}{ops rest:List Oper}
  (hf:A6 s fo= .sc (.func (.func f) #[] #[]))(hc:AA P f ags h λr h'=>r=v/\h'=h)(ha:args.map (A6 s)=ags)(hk:D4 P ow n ops rest K (AW s dst v) h):
  Bu P ow {dst:=dst,op:= .call {callee:= .value fo,args:=args.toArray,argTypes:=ts},type:=ty,pos:=pos,after:=af,guard:=gd} (DH P ow n ops rest K) s h:=by
 unfold Bu;simp only[callee,hf,Kd,AC];rw[ha];exact hc.mono λr h' hr=>by rw[hr.1,hr.2];exact IS _ _ _ hk
end Go.AM
namespace Go.AM
structure Ch where
 kind:Int
 params:List Pm
 cond:Fm
 name:ByteArray
 args:List ByteArray
 value:Ex
structure Pr where
 name:ByteArray
 params:List Pm
structure Fu where
 name:ByteArray
 params:List Pm
 lo:Int
 hi:Int
structure Ac where
 name:ByteArray
 params:List Pm
 cost:Int
 pre:Fm
 changes:List Ch
structure Du where
 name:ByteArray
 params:List Pm
 duration:Int
 start:Fm
 over:Fm
 stop:Fm
 atStart:List Ch
 atStop:List Ch
structure Dm where
 name:ByteArray
 types:List Pm
 constants:List Pm
 predicates:List Pr
 functions:List Fu
 actions:List Ac
 duratives:List Du
def Df(c:Ch):List PV:=[.sc (.int .i64 c.kind),.imm 2 (A7 c.params)]++(c.cond.cells++([A1 c.name,.imm 1 (AP c.args)]++c.value.cells))
def Ay(l:List Ch):List (List PV):=l.map Df
def F7(p:Pr):List PV:=[A1 p.name,.imm 2 (A7 p.params)]
def Az(l:List Pr):List (List PV):=l.map F7
def F8(f:Fu):List PV:=[A1 f.name,.imm 2 (A7 f.params),.sc (.int .i64 f.lo),.sc (.int .i64 f.hi)]
def Av(l:List Fu):List (List PV):=l.map F8
def EJ(a:Ac):List PV:=[A1 a.name,.imm 2 (A7 a.params),.sc (.int .i64 a.cost)]++(a.pre.cells++[.imm 15 (Ay a.changes)])
def B0(l:List Ac):List (List PV):=l.map EJ
def EK(d:Du):List PV:=[A1 d.name,.imm 2 (A7 d.params),.sc (.int .i64 d.duration)]++(d.start.cells++(d.over.cells++(d.stop.cells++[.imm 15 (Ay d.atStart),.imm 15 (Ay d.atStop)])))
def B1(l:List Du):List (List PV):=l.map EK
def Dm.cells(d:Dm):List PV:=[A1 d.name,.imm 2 (A7 d.types),.imm 2 (A7 d.constants),.imm 2 (Az d.predicates),.imm 4 (Av d.functions),.imm 10 (B0 d.actions),.imm 23 (B1 d.duratives)]
theorem HG(l:List Ch):(Ay l).length=l.length:=by simp[Ay]
theorem MX{l:List Ch}{i:Nat}{a:Ch}(h:l[i]? =some a):(Ay l)[i]? =some (Df a):=by simp[Ay,h]
theorem MY(l:List Pr):(Az l).length=l.length:=by simp[Az]
theorem O5{l:List Pr}{i:Nat}{a:Pr}(h:l[i]? =some a):(Az l)[i]? =some (F7 a):=by simp[Az,h]
theorem MZ(l:List Fu):(Av l).length=l.length:=by simp[Av]
theorem O6{l:List Fu}{i:Nat}{a:Fu}(h:l[i]? =some a):(Av l)[i]? =some (F8 a):=by simp[Av,h]
theorem Ma(l:List Ac):(B0 l).length=l.length:=by simp[B0]
theorem Mb{l:List Ac}{i:Nat}{a:Ac}(h:l[i]? =some a):(B0 l)[i]? =some (EJ a):=by simp[B0,h]
theorem Mc(l:List Du):(B1 l).length=l.length:=by simp[B1]
theorem Md{l:List Du}{i:Nat}{a:Du}(h:l[i]? =some a):(B1 l)[i]? =some (EK a):=by simp[B1,h]
structure Ch.ok(c:Ch):Prop where
 params:c.params.length<=AE/\ ∀ a∈c.params,a.ok
 cond:c.cond.ok
 args:c.args.length<=AE/\ ∀ a∈c.args,a.size<=AE
 value:c.value.ok
 name:c.name.size<=AE
 kind: -9223372036854775808<=c.kind/\c.kind<=9223372036854775807
def Chs.ok(l:List Ch):Prop:=l.length<=AE/\ ∀ a∈l,a.ok
structure Pr.ok(p:Pr):Prop where
 name:p.name.size<=AE
 params:p.params.length<=AE/\ ∀ a∈p.params,a.ok
structure Fu.ok(p:Fu):Prop where
 name:p.name.size<=AE
 params:p.params.length<=AE/\ ∀ a∈p.params,a.ok
 lo: -9223372036854775808<=p.lo/\p.lo<=9223372036854775807
 hi: -9223372036854775808<=p.hi/\p.hi<=9223372036854775807
structure Ac.ok(a:Ac):Prop where
 name:a.name.size<=AE
 params:a.params.length<=AE/\ ∀ p∈a.params,p.ok
 cost: -9223372036854775808<=a.cost/\a.cost<=9223372036854775807
 pre:a.pre.ok
 changes:Chs.ok a.changes
structure Du.ok(a:Du):Prop where
 name:a.name.size<=AE
 params:a.params.length<=AE/\ ∀ p∈a.params,p.ok
 duration: -9223372036854775808<=a.duration/\a.duration<=9223372036854775807
 start:a.start.ok
 over:a.over.ok
 stop:a.stop.ok
 atStart:Chs.ok a.atStart
 atStop:Chs.ok a.atStop
structure Dm.ok(d:Dm):Prop where
 name:d.name.size<=AE
 types:d.types.length<=AE/\ ∀ a∈d.types,a.ok
 constants:d.constants.length<=AE/\ ∀ a∈d.constants,a.ok
 predicates:d.predicates.length<=AE/\ ∀ a∈d.predicates,a.ok
 functions:d.functions.length<=AE/\ ∀ a∈d.functions,a.ok
 actions:d.actions.length<=AE/\ ∀ a∈d.actions,a.ok
 duratives:d.duratives.length<=AE/\ ∀ a∈d.duratives,a.ok
end Go.AM
namespace Go.AM
set_option maxRecDepth 20000
variable {P:Program}{ow:Nat->Bool}{s:A8}{h:A0}
def Xq:=AJ @XZ @Xa @Kz @L7 @Qq @O0 @MR @Qr @WN @WO @WQ (AJ @WR @WS @WT @WU @WV @WW @WX @WY @WZ @Wa @Wb (AJ @Wc @We @Wg @Wh @Wi @Wj @Wl @Wm @Wn @Wo @Wp @Wq))
def Xr:=AJ @Wr @Ws @Wt @Wu @Wv @Ww @Wx @Wy @Wz @X3 @X4 (AJ @X6 @X7 @X8 @XA @XB @XC @XD @XE @XF @XG @XH (AJ @XI @XJ @XK @XL @XM @XN @XO @XP @XQ @XR @XS @XT))
def Xt:=AJ @XU @XV @XW @XX @VV @VX @VZ @Vb @Vd @Vf @Vh (AJ @Vj @Vm @Vo @Vq @Vs @Vu @Vw @Vy @W0 @W2 @W4 (AJ @W6 @W8 @WA @WC @WE @WH @WJ @WL @VW @VY @Va @Vc))
def Xu:=AJ @Ve @Vg @Vi @Vk @Vn @Vp @Vr @Vt @Vv @Vx @Vz (AJ @W1 @W3 @W5 @W7 @W9 @WB @WD @WG @WI @WK @WM (AJ @VK @VL @VM @VN @VO @VP @VQ @VR @VG @VH @VI @VJ))
def Xv:=AJ @Bb @Int.natCast_nonneg @BQ @CE @U7 @U1 @Cd @Cb @GD @Option.bind_some.{0,0} @Option.bind_none.{0,0} (AJ @Option.map_some.{0,0} @Option.map_none.{0,0} @Option.all_some.{0} @Option.all_none.{0} @Option.any_some.{0} @Option.any_none.{0} @Option.some.injEq.{0} @Prod.mk.injEq.{0,0} @List.map_cons.{0,0} @List.map_nil.{0,0} @List.length_cons.{0} (AJ @List.length_nil.{0} @List.length_map.{0,0} @List.getD_cons_zero.{0} @List.getD_cons_succ.{0} @List.getElem?_cons_zero.{0} @List.getElem?_cons_succ.{0} @List.drop_zero.{0} @List.drop_succ_cons.{0} @List.drop_nil.{0} @List.take_zero.{0} @List.take_succ_cons.{0} @List.take_nil.{0}))
def Xw:=AJ @List.head?_cons.{0} @List.all_cons.{0} @List.all_nil.{0} @List.cons_append.{0} @List.nil_append.{0} @List.append_nil.{0} @List.replicate_succ.{0} @List.replicate_zero.{0} @List.set_cons_zero.{0} @List.set_cons_succ.{0} @Nb (AJ @Na @Bh @Bd @E1 @BL @C7 @Ah @B5 @Ai @Ab @Al (AJ @Ap @FK @He @and_false @false_and @Kd @or_true @true_or @DO @false_or @List.not_mem_nil.{0} @false_implies))
def Xx:=Aj @Int.toNat_natCast @X5 @List.getElem?_map.{0,0}
def Xy:=AJ @Xe @Xf @Xg @Xh @Xi @Xj @Xk @Xl @Xm @Xn @Xo @Xp
def Xz:=AV @beq_iff_eq.{0} @bne_iff_ne.{0} @ne_eq.{1} @beq_eq_false_iff_ne.{0} @beq_self_eq_true.{0}
def BI:=AJ @Cb @Cd @BQ @CE @Cc @Bool.or_eq_false_iff @AT @Ps @DF @Bool.not_eq_false' @U7 (Cv @U1 @bne_iff_ne.{0} @bne_eq_false_iff_eq.{0} @beq_iff_eq.{0} @beq_eq_false_iff_ne.{0} @ne_eq.{1} @gt_iff_lt.{0} @ge_iff_le.{0} @Int.not_lt @Int.not_le @GD)
section
variable {K:A8->A0->Prop}{Q:Au}{i j:Nat}
theorem Y0:Au.seq K Q .normal s h=K s h:=rfl
theorem Y1:Au.seq K Q .ret s h=Q .ret s h:=rfl
theorem Y2:Au.seq K Q (.exit i) s h=Q (.exit i) s h:=rfl
theorem Y3:Au.block j Q .normal s h=Q .normal s h:=rfl
theorem Y4:Au.block j Q .ret s h=Q .ret s h:=rfl
theorem Y5:Au.block j Q (.exit i) s h=if i=j then Q .normal s h else Q (.exit i) s h:=rfl
end
def B2:=AK @Y0 @Y1 @Y2 @Y3 @Y4 @Y5
end Go.AM
namespace Go.AM
set_option maxRecDepth 20000
def Y6:=AJ @Go.undef.eq_1 @Go.AM.D4.eq_1 @Go.AM.D4.eq_2 @Go.AM.Dl.eq_1 @Go.AM.Dl.eq_2 @Go.AM.callee.eq_1 @Go.AM.callee.eq_2 @Go.AM.Bt.eq_1 @Go.AM.Ax.eq_1 @Go.AM.AQ.eq_1 @Go.AM.AQ.eq_2 (AJ @Go.AM.AQ.eq_3 @Go.AM.AQ.eq_4 @Go.AM.AQ.eq_5 @Go.AM.AQ.eq_6 @Go.AM.AQ.eq_7 @Go.AM.AQ.eq_8 @Go.AM.AQ.eq_9 @Go.AM.AQ.eq_10 @Go.AM.AQ.eq_11 @Go.AM.AQ.eq_12 @Go.AM.AQ.eq_13 (AJ @Go.AM.AQ.eq_14 @Go.AM.AQ.eq_15 @Go.AM.AQ.eq_16 @Go.AM.AQ.eq_17 @Go.AM.AQ.eq_18 @Go.AM.AQ.eq_19 @Go.AM.AQ.eq_20 @Go.AM.AQ.eq_21 @Go.AM.AQ.eq_22 @Go.AM.AQ.eq_23 @Go.AM.AQ.eq_24 (AS @Go.AM.AQ.eq_25 @Go.AM.AQ.eq_26 @Go.AM.AQ.eq_27 @Go.AM.AQ.eq_28)))
def Y7:=AJ @Go.AM.A6.eq_1 @Go.AM.A6.eq_2 @Go.AM.A6.eq_3 @Go.AM.A6.eq_4 @Go.AM.GH.eq_1 @Go.AM.GH.eq_2 @Go.AM.GH.eq_3 @Go.AM.F6.eq_1 @Go.AM.F6.eq_2 @Go.AM.JA.eq_1 @Go.AM.JA.eq_2 (AJ @Go.AM.EV.eq_1 @Go.AM.EV.eq_2 @Go.AM.F4.eq_1 @Go.AM.F4.eq_2 @Go.AM.H9.eq_1 @Go.AM.IN.eq_1 @Go.AM.Gb.eq_1 @Go.AM.Gb.eq_2 @Go.AM.Gb.eq_3 @Go.AM.Gb.eq_4 @Go.AM.Gb.eq_5 (AJ @Go.AM.Gb.eq_6 @Go.AM.Gb.eq_7 @Go.AM.IM.eq_1 @Go.AM.IM.eq_2 @Go.AM.IM.eq_3 @Go.AM.IM.eq_4 @Go.AM.Gc.eq_1 @Go.AM.Gc.eq_2 @Go.AM.Gc.eq_3 @Go.AM.Da.eq_1 @Go.AM.Da.eq_2 (AK @Go.AM.Da.eq_3 @Go.AM.Da.eq_4 @Go.AM.Da.eq_5 @Go.AM.Da.eq_6 @Go.AM.Da.eq_7 @Go.AM.Da.eq_8)))
def Y8:=AJ @Go.AM.Da.eq_9 @Go.AM.Da.eq_10 @Go.AM.Da.eq_11 @Go.AM.Da.eq_12 @Go.AM.Da.eq_13 @Go.AM.Da.eq_14 @Go.AM.Da.eq_15 @Go.AM.Cm.eq_1 @Go.AM.Cm.eq_2 @Go.AM.Cm.eq_3 @Go.AM.Cm.eq_4 (AJ @Go.AM.Cm.eq_5 @Go.AM.Cm.eq_6 @Go.AM.Cm.eq_7 @Go.AM.Cm.eq_8 @Go.AM.Cm.eq_9 @Go.AM.Cm.eq_10 @Go.AM.Cm.eq_11 @Go.AM.Cm.eq_12 @Go.AM.Cm.eq_13 @Go.AM.Cm.eq_14 @Go.AM.Cm.eq_15 (AJ @Go.AM.Cm.eq_16 @Go.AM.J3.eq_1 @Go.AM.J3.eq_2 @Go.AM.J3.eq_3 @Go.AM.GE.eq_1 @Go.AM.GE.eq_2 @Go.AM.GE.eq_3 @Go.AM.GE.eq_4 @Go.AM.GE.eq_5 @Go.AM.GE.eq_6 @Go.AM.GE.eq_7 (AY @Go.AM.GE.eq_8 @Go.AM.J4.eq_1 @Go.AM.J4.eq_2 @Go.AM.J4.eq_3 @Go.AM.J4.eq_4 @Go.AM.Ju.eq_1 @Go.AM.Ju.eq_2)))
def YA:=AJ @Go.AM.Ju.eq_3 @Go.AM.Ga.eq_1 @Go.AM.Ga.eq_2 @Go.AM.Ga.eq_3 @Go.AM.ED.eq_1 @Go.AM.ED.eq_2 @Go.AM.Hh.eq_1 @Go.AM.Jx.eq_1 @Go.AM.Jx.eq_2 @Go.AM.GF.eq_1 @Go.AM.GF.eq_2 (AJ @Go.AM.FW.eq_1 @Go.AM.FW.eq_2 @Go.AM.Hj.eq_1 @Go.AM.Hj.eq_2 @Go.AM.EU.eq_1 @Go.AM.EU.eq_2 @Go.AM.EU.eq_3 @Go.AM.EU.eq_4 @Go.AM.HA.eq_1 @Go.AM.HA.eq_2 @Go.AM.HA.eq_3 (AJ @Go.AM.HA.eq_4 @Go.AM.Ge.eq_1 @Go.AM.Ge.eq_2 @Go.AM.HB.eq_1 @Go.AM.HB.eq_2 @Go.AM.GG.eq_1 @Go.AM.GG.eq_2 @Go.AM.Hi.eq_1 @Go.AM.Hi.eq_2 @Go.IntKind.bits.eq_1 @Go.IntKind.bits.eq_2 (AK @Go.IntKind.bits.eq_3 @Go.IntKind.bits.eq_4 @Go.IntKind.bits.eq_5 @Go.IntKind.bits.eq_6 @Go.IntKind.bits.eq_7 @Go.IntKind.bits.eq_8)))
def w0:=AJ @Xq @Xr @Xt @Xu @Xv @Xw @Xx @Xy @Xz @B2 @Y6 (B6 @Y7 @Y8 @YA @forall_const.{0} @forall_const.{1} @exists_eq_left'.{1} @implies_true.{0} @implies_true.{1})
end Go.AM
