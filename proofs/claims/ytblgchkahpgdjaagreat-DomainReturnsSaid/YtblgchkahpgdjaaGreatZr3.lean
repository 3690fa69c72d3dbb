/- What the claim rests on, part 3: the abstract machine, contracts of the functions, plain data. -/
import Derived.Orders
import Derived.Test.YtblgchkahpgdjaaGreatZr2
set_option linter.unusedVariables false
set_option linter.unusedSimpArgs false
set_option linter.unusedSectionVars false
namespace Go.AM
section
variable {P:Program}{ow:Nat->Bool}{wf:FuncId->Bool}{n:Nat}{β:BH}{h:A0}{w:World}{s:A9}{a:Act}
def A0.bump(h:A0)(m:Nat):A0:=⟨h.next+m,h.obj⟩
theorem St.bump(st:St n β s h a w)(m:Nat): ∃ β0,St n β0 s (h.bump m) a w/\BM β h w β0 (h.bump m) w/\ ∀ id,h.next<=id->(β0 id).b=none:=by
 have hb: ∀ id,(h.obj id).isSome=true->id<h.next:=st.sim.lt
 have e:BM β h w ⟨λid=>if id<h.next then β id else⟨none,0,0,0⟩,β.X⟩ (h.bump m) w:=
  ⟨rfl,rfl,rfl,AD _,Oh _ _,λid hid=>by simp[hid],rfl,λ_ _ _=>rfl,λb hbb=>⟨⟨hbb.1,λid hs=>by
   have:=hb id hs;simp only[this,AH];exact hbb.2.1 id hs,hbb.2.2⟩,rfl⟩⟩
 refine⟨⟨λid=>if id<h.next then β id else⟨none,0,0,0⟩,β.X⟩,⟨⟨λid hs=>?_,λid o ho=>?_,λi j hi hj b h1 h2=>?_,st.sim.xs,λid hs b h1=>?_⟩,λt=>e.rep (st.rep t),st.size,st.defers⟩,e,λid hid=>?_⟩
 ·exact HV (hb id hs) (Oh _ _)
 ·have hid:=hb id (by rw[show h.obj id=some o from ho];try rfl);have:=BI.mv e.mv (λ_ _=>rfl) (st.sim.ok id o ho);simp only[hid,AH];exact this
 ·simp only[hb i hi,hb j hj,AH]at h1 h2;exact st.sim.inj i j hi hj b h1 h2
 ·simp only[hb id hs,AH]at h1;exact st.sim.nx id hs b h1
 ·simp only[show ¬ id<h.next by omega,AP]
theorem St.hide{i z:Nat}{rows:List (List PV)}(hr:rows≠[])(hi:i<h.next)(hn:h.obj i=none)(st:St n β s (h.set i (.arr z rows)) a w):
  ∃ βX,St n βX s h a w/\ ∀ (β':BH)(s':A9)(h':A0)(a':Act)(w':World),St n β' s' h' a' w'->BM βX h w β' h' w'->h'.obj i=none->
   ∃ β'',St n β'' s' (h'.set i (.arr z rows)) a' w'/\BM β (h.set i (.arr z rows)) w β'' (h'.set i (.arr z rows)) w':=by
 have oi:(h.set i (.arr z rows)).obj i=some (.arr z rows):=by simp[A0.set]
 have on: ∀ j,j≠i->(h.set i (.arr z rows)).obj j=h.obj j:=λj hj=>by simp[A0.set,hj]
 have live: ∀ j,(h.obj j).isSome=true->j≠i:=λj hj e=>by rw[e,hn]at hj;simp at hj
 have hok:=st.sim.ok i _ oi;obtain⟨b,hb⟩: ∃ b,(β i).b=some b:=by
  simp only[BI]at hok;rcases hok.2 with⟨_,h2⟩|⟨b,c,e,fr,h2,_⟩
  ·exact (hr h2).elim
  ·exact ⟨b,h2⟩
 have hbl:b<w.heap.size:=st.sim.blk_lt oi hb;have fzd: ∀ c,Fz β (h.set i (.arr z rows)) w c->Fz ⟨β.bl,λd=>β.X d\/d=b⟩ h w c:=λc hc=>⟨hc.1,λj hj=>hc.2.1 j (by rw[on j (live j hj)];exact hj),λhx=>hx.elim hc.2.2 (λe=>hc.2.1 i (by rw[oi];try rfl) (by rw[e];exact hb))⟩;have m1:Mv β h.next (Fz β (h.set i (.arr z rows)) w) w ⟨β.bl,λd=>β.X d\/d=b⟩ h.next (Fz ⟨β.bl,λd=>β.X d\/d=b⟩ h w) w:=⟨AD _,λ_ _ _=>rfl,λc hc=>⟨fzd c hc,rfl⟩⟩
 refine⟨⟨β.bl,λd=>β.X d\/d=b⟩,⟨⟨λid hs=>?_,λid o ho=>?_,λj k hj hk c h1 h2=>?_,λc hc=>?_,λid hs c h1=>?_⟩,λt=>A8.mv m1 _ _ (st.rep t),st.size,st.defers⟩,?_⟩
 ·exact st.sim.lt id (by rw[on id (live id hs)];exact hs)
 ·have:=live id (by rw[ho];try rfl);exact BI.mv m1 (λ_ _=>rfl) (st.sim.ok id o (by rw[on id this];exact ho))
 ·exact st.sim.inj j k (by rw[on j (live j hj)];exact hj) (by rw[on k (live k hk)];exact hk) c h1 h2
 ·exact hc.elim (st.sim.xs c) (λe=>by rw[e];exact hbl)
 ·have hs':((h.set i (.arr z rows)).obj id).isSome=true:=by rw[on id (live id hs)];exact hs
  rintro(hx|hx)
  ·exact st.sim.nx id hs' c h1 hx
  ·subst hx;exact live id hs (st.sim.inj id i hs' (by rw[oi];try rfl) _ h1 hb)
 ·intro β' s' h' a' w' st' ex hn';have on': ∀ j,j≠i->(h'.set i (.arr z rows)).obj j=h'.obj j:=λj hj=>by simp[A0.set,hj]
  have live': ∀ j,(h'.obj j).isSome=true->j≠i:=λj hj e=>by rw[e,hn']at hj;simp at hj
  have hbi:(β' i)=β i:=ex.beta i hi;have hX:β'.X=λd=>β.X d\/d=b:=ex.X;have fzu: ∀ c,Fz β' h' w' c->Fz ⟨β'.bl,β.X⟩ (h'.set i (.arr z rows)) w' c:=λc hc=>by
   have h3:=hc.2.2;rw[hX]at h3;refine⟨hc.1,λj hj hjc=>?_,λhx=>h3 (.inl hx)⟩;by_cases hji:j=i
   ·subst hji;have h4:(β' j).b=some c:=hjc;rw[hbi,hb]at h4;simp at h4;exact h3 (.inr h4.symm)
   ·rw [on' j hji]at hj;exact hc.2.1 j hj hjc
  have blkeq:w'.heap[b]? =w.heap[b]?:=ex.xh b (.inr rfl) hbl;have e2:BM β (h.set i (.arr z rows)) w ⟨β'.bl,β.X⟩ (h'.set i (.arr z rows)) w':=
   ⟨ex.os,ex.tape,ex.output,ex.size,ex.next,ex.beta,rfl,λc hc hl=>ex.xh c (.inl hc) hl,λc hc=>⟨fzu c (ex.fz c (fzd c hc)).1,(ex.fz c (fzd c hc)).2⟩⟩
  have m2:Mv β' h'.next (Fz β' h' w') w' ⟨β'.bl,β.X⟩ h'.next (Fz ⟨β'.bl,β.X⟩ (h'.set i (.arr z rows)) w') w':=⟨AD _,λ_ _ _=>rfl,λc hc=>⟨fzu c hc,rfl⟩⟩
  refine⟨⟨β'.bl,β.X⟩,⟨⟨λid hs=>?_,λid o ho=>?_,λj k hj hk c h1 h2=>?_,λc hc=>?_,λid hs c h1=>?_⟩,λt=>A8.mv m2 _ _ (st'.rep t),st'.size,st'.defers⟩,e2⟩
  ·by_cases hid:id=i
   ·subst hid;exact HV hi ex.next
   ·rw [on' id hid]at hs;exact st'.sim.lt id hs
  ·by_cases hid:id=i
   ·subst hid;have:o= .arr z rows:=(by simp[A0.set]at ho;exact ho.symm);subst this;have h3:=BI.mv (w':=w') (β':=⟨β'.bl,β.X⟩) (n':=h'.next) (F':=Fz ⟨β'.bl,β.X⟩ (h'.set id (.arr z rows)) w') e2.mv (λc hc=>by rw[hb]at hc;simp at hc;subst hc;exact blkeq) hok;show BI _ _ _ _ (β' id) _;rw[hbi];exact h3
   ·rw [on' id hid]at ho;exact BI.mv m2 (λ_ _=>rfl) (st'.sim.ok id o ho)
  ·have key: ∀ j,j≠i->((h'.set i (.arr z rows)).obj j).isSome=true->(β' j).b≠some b:=λj hji hj e=>by
    rw[on' j hji]at hj;have:=st'.sim.nx j hj b e;rw[hX]at this;exact this (.inr rfl)
   by_cases hji:j=i
   ·by_cases hki:k=i
    ·rw [hji,hki]
    ·have h3:(β' j).b=some c:=h1;rw[hji,hbi,hb]at h3;simp at h3;subst h3;exact(key k hki hk h2).elim
   ·by_cases hki:k=i
    ·have h3:(β' k).b=some c:=h2;rw[hki,hbi,hb]at h3;simp at h3;subst h3;exact(key j hji hj h1).elim
    ·rw [on' j hji]at hj;rw[on' k hki]at hk;exact st'.sim.inj j k hj hk c h1 h2
  ·exact st'.sim.xs c (by rw[hX];exact .inl hc)
  ·by_cases hid:id=i
   ·have h3:(β' id).b=some c:=h1;rw[hid,hbi]at h3;exact st.sim.nx i (by rw[oi];try rfl) c h3
   ·rw [on' id hid]at hs;have:=st'.sim.nx id hs c h1;rw[hX]at this;exact λhx=>this (.inl hx)
def Dh(H:A0)(base:Nat)(ob:Nat->Ab)(p:Nat->Bool):A0:=⟨H.next,λid=>if base<=id/\p (id-base)=true then some (ob (id-base))else H.obj id⟩
theorem Fo{h h':A0}(h1:h.next=h'.next)(h2: ∀ id,h.obj id=h'.obj id):h=h':=by
 cases h;cases h';simp only at h1 h2;subst h1;congr 1;funext id;exact h2 id
theorem LQ{H:A0}{base:Nat}{ob:Nat->Ab}{p:Nat->Bool}(hp: ∀ f,p f=false):Dh H base ob p=H:=Fo rfl λid=>by simp[Dh,hp]
theorem Na{H:A0}{base:Nat}{ob:Nat->Ab}{p q:Nat->Bool}(hp: ∀ f,p f=q f):Dh H base ob p=Dh H base ob q:=by rw[show p=q from funext hp]
theorem Qv{H:A0}{base m:Nat}{ob:Nat->Ab}{p q:Nat->Bool}(hm:q m=true)(hq: ∀ f,f≠m->q f=p f):Dh H base ob q=(Dh H base ob p).set (base+m) (ob m):=Fo rfl λid=>by
 simp only[Dh,A0.set];by_cases h1:id=base+m
 ·subst h1;have:base+m-base=m:=by omega
  simp[this,hm]
 ·rw [A4 h1];by_cases h2:base<=id
  ·rw [hq (id-base) (by omega)]
  ·simp [h2]
theorem St.hides{H:A0}{base:Nat}{ob:Nat->Ab}{p:Nat->Bool}(hp: ∀ f,p f=true->base+f<H.next/\H.obj (base+f)=none/\ ∃ z rows,ob f= .arr z rows/\rows≠[]): ∀ (m:Nat){β:BH},St n β s (Dh H base ob λf=>decide (f<m)&&p f) a w->
  ∃ βX,St n βX s H a w/\ ∀ (β':BH)(s':A9)(h':A0)(a':Act)(w':World),St n β' s' h' a' w'->BM βX H w β' h' w'->(∀ f,p f=true->h'.obj (base+f)=none)->
   ∃ β'',St n β'' s' (Dh h' base ob λf=>decide (f<m)&&p f) a' w'/\BM β (Dh H base ob λf=>decide (f<m)&&p f) w β'' (Dh h' base ob λf=>decide (f<m)&&p f) w'
 |0,β,st=>by
  rw[LQ (by simp)]at st;refine⟨β,st,λβ' s' h' a' w' st' ex _=>⟨β',?_,?_⟩⟩
  ·rw [LQ (by simp)];exact st'
  ·rw [LQ (by simp),LQ (by simp)];exact ex
 |m+1,β,st=>by
  cases hpm:p m with
  |false=>
   have hc: ∀ H:A0,(Dh H base ob λf=>decide (f<m+1)&&p f)=Dh H base ob λf=>decide (f<m)&&p f:=λH=>Na λf=>by
    by_cases hf:f=m
    ·subst hf;simp[hpm]
    ·rw [show decide (f<m+1)=decide (f<m) by simp;omega]
   simp only[hc]at st⊢;exact St.hides hp m st
  |true=>
   obtain⟨g1,g2,z,rows,g3,g4⟩:=hp m hpm;have hc: ∀ H:A0,(Dh H base ob λf=>decide (f<m+1)&&p f)=(Dh H base ob λf=>decide (f<m)&&p f).set (base+m) (.arr z rows):=λH=>by
    rw[← g3];exact Qv (by simp[hpm]) λf hf=>by rw[show decide (f<m+1)=decide (f<m) by simp;omega]
   have hnn: ∀ H:A0,H.obj (base+m)=none->(Dh H base ob λf=>decide (f<m)&&p f).obj (base+m)=none:=λH hH=>by
    simp only[Dh];rw[A4 (by rw[show base+m-base=m by omega];simp)];exact hH
   rw[hc]at st;obtain⟨β1,st1,back1⟩:=St.hide g4 (show base+m<(Dh H base ob _).next from g1) (hnn H g2) st;obtain⟨β2,st2,back2⟩:=St.hides hp m st1;refine⟨β2,st2,λβ' s' h' a' w' st' ex hno=>?_⟩;obtain⟨β3,st3,ex3⟩:=back2 β' s' h' a' w' st' ex hno;obtain⟨β4,st4,ex4⟩:=back1 β3 s' _ a' w' st3 ex3 (hnn h' (hno m hpm));refine⟨β4,?_,?_⟩
   ·rw [hc];exact st4
   ·rw [hc,hc];exact ex4
theorem St.float{t:TypeId}{zs:List Value}{id0:Nat}(hz:D4 P t=some zs)(hlt:id0<h.next)(hn:h.obj id0=none)(hb:(β id0).b=none)(st:St n β s h a w){o:Oper}(ho:o.op= .alloc t)(hd:o.dst.all (λd=>decide (d<n))=true){K:Act->World->Prop}{Q:Exit->Act->World->Prop}
  (hk: ∀ (β':BH)(a':Act)(w':World),St n β' (AZ s o.dst (.ptr id0 0 0)) (h.set id0 (.arr zs.length [zs.map .sc])) a' w'->(∀ id,id≠id0->β' id=β id)->w'.os=w.os->w'.tape=w.tape->w'.output=w.output->w.heap.size<=w'.heap.size->β'.X=β.X->(∀ b,b<w.heap.size->w'.heap[b]? =w.heap[b]?)->(∀ b,Fz β h w b->Fz β' (h.set id0 (.arr zs.length [zs.map .sc])) w' b)->K a' w'):o.wp P a w K Q:=by
 obtain⟨i,v,h1,h2,h3,h4⟩:=Oo hz;have hrun:(execOp a.eval o).run P w= .ok (.value (.pointer (some ⟨w.heap.size,0,none⟩))) (w.alloc (.cells v.cells t)):=by
  obtain⟨dst,op,ty,pos,af,gd⟩:=o;simp only at ho;subst ho;simp[execOp,Instr.alloc,zeroValue,typeInfo,h1,h2,Oq]
 unfold Oper.wp;rw[hrun];have on: ∀ j,j≠id0->(h.set id0 (.arr zs.length [zs.map .sc])).obj j=h.obj j:=λj hj=>by simp[A0.set,hj]
 have fzu: ∀ b,Fz β h w b->Fz ⟨λid=>if id=id0 then⟨some w.heap.size,0,zs.length,v.cells.size⟩else β id,β.X⟩ (h.set id0 (.arr zs.length [zs.map .sc])) (w.alloc (.cells v.cells t)) b:=λb hbb=>by
  refine⟨by have:=hbb.1;simp;omega,λj hj hjb=>?_,hbb.2.2⟩;by_cases hji:j=id0
  ·subst hji;simp at hjb;have:=hbb.1;omega
  ·rw [on j hji]at hj;simp only[hji,AP]at hjb;exact hbb.2.1 j hj hjb
 have m:Mv β h.next (Fz β h w) w ⟨λid=>if id=id0 then⟨some w.heap.size,0,zs.length,v.cells.size⟩else β id,β.X⟩ h.next (Fz ⟨λid=>if id=id0 then⟨some w.heap.size,0,zs.length,v.cells.size⟩else β id,β.X⟩ (h.set id0 (.arr zs.length [zs.map .sc])) (w.alloc (.cells v.cells t))) (w.alloc (.cells v.cells t)):=
  ⟨AD _,λid hid hbn=>by
   have:id≠id0:=λe=>hbn (by rw[e];exact hb);simp[this],λb hbb=>⟨fzu b hbb,heap_alloc_old w _ hbb.1⟩⟩
 have hcl:v.cells.size=zs.length:=by rw[← h3];simp
 have hrow:HF β h.next (Fz β h w) w zs.length [zs.map .sc] v.cells:=
  HF.of_flat (xs:=zs) (by simp) (by simpa using AS.sc zs) h4 (λj u hu=>by rw[← h3]at hu;simpa using hu)
 refine hk ⟨λid=>if id=id0 then⟨some w.heap.size,0,zs.length,v.cells.size⟩else β id,β.X⟩ _ _ ⟨⟨λid hs=>?_,λid ob hob=>?_,λj k hj hkk b g1 g2=>?_,λb hx=>?_,λid hs b g1=>?_⟩,λu=>?_,?_,?_⟩ (λid hne=>by simp[hne]) rfl rfl rfl (by simp) rfl (λb hbl=>heap_alloc_old w _ hbl) fzu
 ·by_cases hid:id=id0
  ·subst hid;exact hlt
  ·rw [on id hid]at hs;exact st.sim.lt id hs
 ·by_cases hid:id=id0
  ·subst hid;have:ob= .arr zs.length [zs.map .sc]:=(by simp[A0.set]at hob;exact hob.symm);subst this;simp only[BI,AH];exact⟨trivial,.inr ⟨w.heap.size,v.cells,t,(0,0),rfl,heap_alloc_new w _,rfl,by simp[hcl],λi _=>by simp,hrow.rep m (heap_alloc_new w _)⟩⟩
  ·rw [on id hid]at hob;have g:=BI.mv m (λb hbb=>heap_alloc_old w _ (st.sim.blk_lt hob hbb)) (st.sim.ok id ob hob);simp only[hid,AP];exact g
 ·have key: ∀ j,j≠id0->((h.set id0 (.arr zs.length [zs.map .sc])).obj j).isSome=true->(β j).b≠some w.heap.size:=λj hji hj e=>by
   rw[on j hji]at hj;have:=st.sim.blk_lt (Y5 hj) e;omega
  by_cases hji:j=id0
  ·by_cases hki:k=id0
   ·rw [hji,hki]
   ·subst hji;simp at g1;simp only[hki,AP]at g2;rw[← g1]at g2;exact(key k hki hkk g2).elim
  ·by_cases hki:k=id0
   ·subst hki;simp at g2;simp only[hji,AP]at g1;rw[← g2]at g1;exact(key j hji hj g1).elim
   ·simp only[hji,hki,AP]at g1 g2;rw[on j hji]at hj;rw[on k hki]at hkk;exact st.sim.inj j k hj hkk b g1 g2
 ·have:=st.sim.xs b hx;simp;omega
 ·by_cases hid:id=id0
  ·subst hid;simp at g1;exact λhx=>by have:=st.sim.xs b hx;omega
  ·simp only[hid,AP]at g1;rw[on id hid]at hs;exact st.sim.nx id hs b g1
 ·have old: ∀ u,AQ ⟨λid=>if id=id0 then⟨some w.heap.size,0,zs.length,v.cells.size⟩else β id,β.X⟩ (h.set id0 (.arr zs.length [zs.map .sc])) (w.alloc (.cells v.cells t)) (s u) (a.tmps.getD u Go.undef):=λu=>A8.mv m _ _ (st.rep u);cases hdd:o.dst with
  |none=>simp only[AZ,Act.put];exact old u
  |some d=>
   rw[hdd]at hd;simp at hd;simp only[AZ,CX,Act.put];by_cases hu:u=d
   ·subst hu;rw[AG rfl];have hus:u<a.tmps.size:=(by rw[st.size];exact hd);have:AQ ⟨λid=>if id=id0 then⟨some w.heap.size,0,zs.length,v.cells.size⟩else β id,β.X⟩ (h.set id0 (.arr zs.length [zs.map .sc])) (w.alloc (.cells v.cells t)) (.ptr id0 0 0) (.pointer (some ⟨w.heap.size,0,none⟩)):=by
     simp only[AQ,A8];exact⟨hlt,w.heap.size,by simp,by simp⟩
    simpa[DJ,hus]using this
   ·rw [A4 hu];simpa[DJ,MG (Ne.symm hu)]using old u
 ·cases hdd:o.dst with
  |none=>exact st.size
  |some d=>simp[Act.put,st.size]
 ·cases hdd:o.dst with
  |none=>exact st.defers
  |some d=>simp[Act.put,st.defers]
end
end Go.AM
namespace Go.AM
section
variable {P:Program}{ow:Nat->Bool}{wf:FuncId->Bool}{n:Nat}{ops:List Oper}
theorem Qw{o:Oper}(hw:B0 ow wf o=false){id:Nat}{ρ:Operand->PV}{h h':A0}{v:PV}:Ha P ow id o ρ h v h'↔Af P ow o ρ h v h':=by
 unfold Ha;split
 ·rename_i t he;simp[B0,he]at hw
 ·exact Iff.rfl
structure Et(P:Program)(ow:Nat->Bool)(wf:FuncId->Bool)(n:Nat)(ops:List Oper)(base:Nat)(k:Nat)(sk:Nat->A9)(hk:Nat->A0)(vk:Nat->PV):Prop where
 step: ∀ (j:Nat)(o:Oper),k<=j->ops[j]? =some o->o.dst.all (λd=>decide (d<n))=true/\ ∃ b,CN ops (sk j) o=some b/\
  (b=false->sk (j+1)=AZ (sk j) o.dst (.sc undef)/\hk (j+1)=hk j)/\
  (b=true->sk (j+1)=AZ (sk j) o.dst (vk j)/\Ha P ow (base+j) o (A5 (sk j)) (hk j) (vk j) (hk (j+1))/\(B0 ow wf o=false->hk (j+1)=hk j)/\(B0 ow wf o=true-> ∀ f,j<f->FB ops f=true->(hk (j+1)).obj (base+f)=none))
 apart: ∀ (i j:Nat)(o:Oper),k<=i->k<=j->Nd ow wf ops sk i o->Wd ow wf ops sk j->
  (i<j->pre ops i j=true\/Af P ow o (A5 (sk i)) (hk (j+1)) (vk i) (hk (j+1)))/\(j<i->pre ops j i=true\/Af P ow o (A5 (sk i)) (hk j) (vk i) (hk j))
theorem P7{base:Nat}{K:A9->A0->Prop}: ∀ (l:List Oper)(k:Nat)(past:List (Nat × (A0->Prop)))(hist:List (Nat × A0))(s:A9)(h:A0),l=ops.drop k->FU P ow wf n ops base k l past hist K s h->
  ∃ sk hk vk,sk k=s/\hk k=h/\(K (sk (k+l.length)) (hk (k+l.length)))/\Et P ow wf n ops base k sk hk vk/\
   (∀ x∈past, ∀ j,k<=j->Wd ow wf ops sk j->pre ops x.1 j=true\/x.2 (hk (j+1)))/\
   (∀ x∈hist, ∀ i o,k<=i->Nd ow wf ops sk i o->pre ops x.1 i=true\/Af P ow o (A5 (sk i)) x.2 (vk i) x.2)
 |[],k,past,hist,s,h,hl,hd=>by
  simp only[FU]at hd;have hk:ops.length<=k:=by
   have:=L8 List.length hl;simp at this;omega
  have hno: ∀ (j:Nat)(o:Oper),k<=j->ops[j]? =some o->False:=λj o hj ho=>by
   have:=(BC.1 ho).1;omega
  refine⟨λ_=>s,λ_=>h,λ_=> .emp,rfl,rfl,hd,⟨λj o hj ho=>(hno j o hj ho).elim,λi j o hi _ hn _=>(hno i o hi hn.1).elim⟩,λx _ j hj hw=>?_,λx _ i o hi hn=>(hno i o hi hn.1).elim⟩;obtain⟨o,ho,_⟩:=hw;exact(hno j o hj ho).elim
 |o::rest,k,past,hist,s,h,hl,hd=>by
  have hok:ops[k]? =some o:=by
   have:(ops.drop k)[0]? =some o:=(by rw[← hl];try rfl);simpa using this
  have hrest:rest=ops.drop (k+1):=by
   have:=L8 List.tail hl;simpa using this
  simp only[FU]at hd;obtain⟨hdst,hd⟩:=hd;have Bb: ∀ {sk':Nat->A9}{j:Nat},k+1<=j->(By k s sk') j=sk' j:=λhj=>FV (by omega);have exth: ∀ {hk':Nat->A0}{j:Nat},k+1<=j->(By k h hk') j=hk' j:=λhj=>FV (by omega);split at hd
  ·exact hd.elim
  ·rename_i b hb;cases b with
   |false=>
    simp only[BG,AP]at hd;obtain⟨sk',hk',vk',e1,e2,e3,tr,hp,hh⟩:=P7 rest (k+1) past hist _ _ hrest hd;have hnW:¬ Wd ow wf ops (By k s sk') k:=by
     rintro⟨q,hq,_,hw⟩;rw[hok]at hq;simp at hq;subst hq;rw[DC,hb]at hw;simp at hw
    have hnN: ∀ q,¬ Nd ow wf ops (By k s sk') k q:=by
     rintro q ⟨hq,_,hw⟩;rw[hok]at hq;simp at hq;subst hq;rw[DC,hb]at hw;simp at hw
    have wdE: ∀ j,k+1<=j->Wd ow wf ops (By k s sk') j->Wd ow wf ops sk' j:=by
     intro j hj hw;unfold Wd at hw⊢;rw[Bb hj]at hw;exact hw
    have ndE: ∀ j q,k+1<=j->Nd ow wf ops (By k s sk') j q->Nd ow wf ops sk' j q:=by
     intro j q hj hw;unfold Nd at hw⊢;rw[Bb hj]at hw;exact hw
    have gt: ∀ j,k<=j->Wd ow wf ops (By k s sk') j->k+1<=j:=by
     intro j hj hw;rcases CT k j with h1|h1
     ·exact h1
     ·have:j=k:=(by omega);subst this;exact(hnW hw).elim
    have gtn: ∀ j q,k<=j->Nd ow wf ops (By k s sk') j q->k+1<=j:=by
     intro j q hj hw;rcases CT k j with h1|h1
     ·exact h1
     ·have:j=k:=(by omega);subst this;exact(hnN q hw).elim
    refine⟨By k s sk',By k h hk',vk',DC,DC,?_,⟨λj q hj hq=>?_,λi j q hi hj hn hw=>?_⟩,λx hx j hj hw=>?_,λx hx i q hi hn=>?_⟩
    ·rw [FV (by simp),FV (by simp)];rw[show k+(o::rest).length=k+1+rest.length by simp;omega];exact e3
    ·rcases CT k j with h1|h1
     ·obtain ⟨t1,t2⟩:=tr.step j q h1 hq;refine⟨t1,?_⟩;rw[Bb (sk':=sk') h1,Bb (sk':=sk') (by omega:k+1<=j+1),exth (hk':=hk') h1,exth (hk':=hk') (by omega:k+1<=j+1)];exact t2
     ·have hjk:j=k:=(by omega);subst hjk;rw[hok]at hq;simp at hq;subst hq;refine⟨hdst,false,by rw[DC];exact hb,λ_=>?_,λhc=>by cases hc⟩;rw[Bb (sk':=sk') (AD _),exth (hk':=hk') (AD _)];simp[e1,e2,DC]
    ·have hi':=gtn i q hi hn;have hj':=gt j hj hw;have:=tr.apart i j q hi' hj' (ndE i q hi' hn) (wdE j hj' hw);rw[Bb (sk':=sk') hi',exth (hk':=hk') (by omega:k+1<=j+1),exth (hk':=hk') hj'];exact this
    ·have hj':=gt j hj hw;have:=hp x hx j hj' (wdE j hj' hw);rw[exth (hk':=hk') (by omega:k+1<=j+1)];exact this
    ·have hi':=gtn i q hi hn;have:=hh x hx i q hi' (ndE i q hi' hn);rw[Bb (sk':=sk') hi'];exact this
   |true=>
    simp only[AH]at hd;split at hd
    ·rename_i hw;obtain⟨v,h',hdo,hnone,hpast,hd⟩:=hd;obtain⟨sk',hk',vk',e1,e2,e3,tr,hp,hh⟩:=P7 rest (k+1) past ((k,h)::hist) _ _ hrest hd;have hnN: ∀ q,¬ Nd ow wf ops (By k s sk') k q:=by
      rintro q ⟨hq,hq2,_⟩;rw[hok]at hq;simp at hq;subst hq;rw[hw]at hq2;simp at hq2
     have wdE: ∀ j,k+1<=j->Wd ow wf ops (By k s sk') j->Wd ow wf ops sk' j:=by
      intro j hj hw;unfold Wd at hw⊢;rw[Bb hj]at hw;exact hw
     have ndE: ∀ j q,k+1<=j->Nd ow wf ops (By k s sk') j q->Nd ow wf ops sk' j q:=by
      intro j q hj hw;unfold Nd at hw⊢;rw[Bb hj]at hw;exact hw
     have gtn: ∀ j q,k<=j->Nd ow wf ops (By k s sk') j q->k+1<=j:=by
      intro j q hj hw;rcases CT k j with h1|h1
      ·exact h1
      ·have:j=k:=(by omega);subst this;exact(hnN q hw).elim
     have vkE: ∀ {j},k+1<=j->(By k v vk') j=vk' j:=λhj=>FV (by omega);refine⟨By k s sk',By k h hk',By k v vk',DC,DC,?_,⟨λj q hj hq=>?_,λi j q hi hj hn hwd=>?_⟩,λx hx j hj hwd=>?_,λx hx i q hi hn=>?_⟩
     ·rw [FV (by simp),FV (by simp)];rw[show k+(o::rest).length=k+1+rest.length by simp;omega];exact e3
     ·rcases CT k j with h1|h1
      ·obtain ⟨t1,t2⟩:=tr.step j q h1 hq;refine⟨t1,?_⟩;rw[Bb (sk':=sk') h1,Bb (sk':=sk') (by omega:k+1<=j+1),exth (hk':=hk') h1,exth (hk':=hk') (by omega:k+1<=j+1),vkE h1];exact t2
      ·have hjk:j=k:=(by omega);subst hjk;rw[hok]at hq;simp at hq;subst hq;refine⟨hdst,true,by rw[DC];exact hb,(λhc=>by cases hc),λ_=>?_⟩;rw[Bb (sk':=sk') (AD _),exth (hk':=hk') (AD _)];simp only[DC,e1,e2];exact⟨trivial,hdo,(λhc=>by rw[hw]at hc;simp at hc),λ_=>hnone⟩
     ·have hi':=gtn i q hi hn;rw[Bb (sk':=sk') hi',exth (hk':=hk') (by omega:k+1<=j+1),vkE hi'];rcases CT k j with h1|h1
      ·have:=tr.apart i j q hi' h1 (ndE i q hi' hn) (wdE j h1 hwd);rw[exth (hk':=hk') h1];exact this
      ·have hjk:j=k:=(by omega);subst hjk;refine⟨λhlt=>by omega,λ_=>?_⟩;rw[DC];exact hh (j,h) (by simp) i q hi' (ndE i q hi' hn)
     ·rcases CT k j with h1|h1
      ·rw [exth (hk':=hk') (by omega:k+1<=j+1)];exact hp x hx j h1 (wdE j h1 hwd)
      ·have hjk:j=k:=(by omega);subst hjk;rw[exth (hk':=hk') (AD _),e2];exact hpast x hx
     ·have hi':=gtn i q hi hn;rw[Bb (sk':=sk') hi',vkE hi'];exact hh x (by simp[hx]) i q hi' (ndE i q hi' hn)
    ·rename_i hw;obtain⟨v,hdo,hhist,hd⟩:=hd;have hw':B0 ow wf o=false:=(by simpa using hw);obtain⟨sk',hk',vk',e1,e2,e3,tr,hp,hh⟩:=P7 rest (k+1) ((k,λh'=>Af P ow o (A5 s) h' v h')::past) hist _ _ hrest hd;have hnW:¬ Wd ow wf ops (By k s sk') k:=by
      rintro⟨q,hq,hq2,_⟩;rw[hok]at hq;simp at hq;subst hq;exact hw hq2
     have wdE: ∀ j,k+1<=j->Wd ow wf ops (By k s sk') j->Wd ow wf ops sk' j:=by
      intro j hj hw;unfold Wd at hw⊢;rw[Bb hj]at hw;exact hw
     have ndE: ∀ j q,k+1<=j->Nd ow wf ops (By k s sk') j q->Nd ow wf ops sk' j q:=by
      intro j q hj hw;unfold Nd at hw⊢;rw[Bb hj]at hw;exact hw
     have gt: ∀ j,k<=j->Wd ow wf ops (By k s sk') j->k+1<=j:=by
      intro j hj hw;rcases CT k j with h1|h1
      ·exact h1
      ·have:j=k:=(by omega);subst this;exact(hnW hw).elim
     have vkE: ∀ {j},k+1<=j->(By k v vk') j=vk' j:=λhj=>FV (by omega);refine⟨By k s sk',By k h hk',By k v vk',DC,DC,?_,⟨λj q hj hq=>?_,λi j q hi hj hn hwd=>?_⟩,λx hx j hj hwd=>?_,λx hx i q hi hn=>?_⟩
     ·rw [FV (by simp),FV (by simp)];rw[show k+(o::rest).length=k+1+rest.length by simp;omega];exact e3
     ·rcases CT k j with h1|h1
      ·obtain ⟨t1,t2⟩:=tr.step j q h1 hq;refine⟨t1,?_⟩;rw[Bb (sk':=sk') h1,Bb (sk':=sk') (by omega:k+1<=j+1),exth (hk':=hk') h1,exth (hk':=hk') (by omega:k+1<=j+1),vkE h1];exact t2
      ·have hjk:j=k:=(by omega);subst hjk;rw[hok]at hq;simp at hq;subst hq;refine⟨hdst,true,by rw[DC];exact hb,(λhc=>by cases hc),λ_=>?_⟩;rw[Bb (sk':=sk') (AD _),exth (hk':=hk') (AD _)];simp only[DC,e1,e2];exact⟨trivial,(Qw hw').2 hdo,(λ_=>trivial),λhc=>by rw[hw']at hc;simp at hc⟩
     ·have hj':=gt j hj hwd;rw[exth (hk':=hk') (by omega:k+1<=j+1),exth (hk':=hk') hj'];rcases CT k i with h1|h1
      ·rw [Bb (sk':=sk') h1,vkE h1];exact tr.apart i j q h1 hj' (ndE i q h1 hn) (wdE j hj' hwd)
      ·have hik:i=k:=(by omega);subst hik;have hq:=hn.1;rw[hok]at hq;simp at hq;subst hq;refine⟨λ_=>?_,λhlt=>by omega⟩;simp only[DC];exact hp _ (KF ..) j hj' (wdE j hj' hwd)
     ·have hj':=gt j hj hwd;rw[exth (hk':=hk') (by omega:k+1<=j+1)];exact hp x (by simp[hx]) j hj' (wdE j hj' hwd)
     ·rcases CT k i with h1|h1
      ·rw [Bb (sk':=sk') h1,vkE h1];exact hh x hx i q h1 (ndE i q h1 hn)
      ·have hik:i=k:=(by omega);subst hik;have hq:=hn.1;rw[hok]at hq;simp at hq;subst hq;simp only[DC];exact hhist x hx
end
end Go.AM
namespace Go.AM
section
variable {P:Program}{ow:Nat->Bool}{wf:FuncId->Bool}{n:Nat}{ops:List Oper}{base:Nat}
structure I8(ow:Nat->Bool)(wf:FuncId->Bool)(ops:List Oper):Prop where
 back: ∀ (j:Nat)(o:Oper),ops[j]? =some o-> ∀ e∈o.after.toList,Region.binds .any e=true->e.on<j
 nosel: ∀ (j:Nat)(o:Oper),ops[j]? =some o-> ∀ cs b,o.op≠ .select cs b
 slot: ∀ (i j:Nat)(q o:Oper),i≠j->ops[i]? =some q->ops[j]? =some o-> ∀ d,q.dst=some d->d∈Ea ops o->pre ops i j=true\/pre ops j i=true
 ww: ∀ (i j:Nat)(q o:Oper),i≠j->ops[i]? =some q->ops[j]? =some o->B0 ow wf q=true->B0 ow wf o=true->pre ops i j=true\/pre ops j i=true\/(i<j/\Ji o=true)\/(j<i/\Ji q=true)
theorem I8.of{ops:List Oper}(h:NS ow wf ops=true):I8 ow wf ops:=by
 unfold NS at h;rw[Bq]at h;have hm: ∀ (j:Nat)(o:Oper),ops[j]? =some o->_:=λj o ho=>h (o,j) (MI.2 ho);refine⟨λj o ho e he hb=>?_,λj o ho cs b hsel=>?_,λi j q o hij hq ho d hd hl=>?_,λi j q o hij hq ho h1 h2=>?_⟩
 ·have h0:=hm j o ho;simp only[AR,Bq]at h0;have:=h0.1.1 e he;simpa[hb]using this
 ·have h0:=hm j o ho;simp only[AR]at h0;have:=h0.1.2;rw[hsel]at this;simp at this
 ·have h0:=hm j o ho;simp only[AR,Bq]at h0;have:=h0.2 (q,i) (MI.2 hq);simp only[DG,AR,Dv,hd,E5]at this;rcases this with h1|⟨h1,_⟩
  ·exact absurd h1 hij
  ·rcases h1 with(h1|h1)|h1
   ·rw [NF.2 hl]at h1;simp at h1
   ·exact .inl h1
   ·exact .inr h1
 ·have h0:=hm j o ho;simp only[AR,Bq]at h0;have:=h0.2 (q,i) (MI.2 hq);simp only[DG,AR,Dv,h1,h2,E5,L9,Bool.true_eq_false,false_or,BP]at this;rcases this with h3|⟨_,h3⟩
  ·exact absurd h3 hij
  ·rcases h3 with((h3|h3)|h3)|h3
   ·exact .inl h3
   ·exact .inr (.inl h3)
   ·exact .inr (.inr (.inl h3))
   ·exact .inr (.inr (.inr h3))
theorem Nb{ops:List Oper}(hd:I8 ow wf ops): ∀ (j i:Nat),j<ops.length->pre ops i j=true->i<j:=by
 intro j
 induction j using Nat.strongRecOn with
 |_ j ih=>
  intro i hj hp;obtain⟨e,h1,h2,h3⟩:=MY (AU hj) hp;have hlt:=hd.back j _ (AU hj) e h1 h2;rcases h3 with rfl|⟨h4,h5⟩
  ·exact hlt
  ·exact YD (ih e.on h4 i (by omega) h5) h4
variable {sk:Nat->A9}{hk:Nat->A0}{vk:Nat->PV}
theorem Et.slot_const(tr:Et P ow wf n ops base 0 sk hk vk){t:Nat}{i:Nat}: ∀ d,i+d<=ops.length->(∀ j,i<=j->j<i+d->Cq ops t j=false)->sk (i+d) t=sk i t
 |0,_,_=>rfl
 |d+1,hd,hw=>by
  have ih:=Et.slot_const tr (t:=t) (i:=i) d (by omega) (λj h1 h2=>hw j h1 (by omega));rw[← ih];have hlt:i+d<ops.length:=by omega
  obtain⟨_,b,h1,h2,h3⟩:=tr.step (i+d) ops[i+d] (Bx _) (AU hlt);have hnw:=hw (i+d) (by omega) (by omega);simp only[Cq,AU hlt,D2,Cv]at hnw;have hupd: ∀ v,AZ (sk (i+d)) ops[i+d].dst v t=sk (i+d) t:=by
   intro v;cases hdst:ops[i+d].dst with
   |none=>rfl
   |some dd=>
    simp only[AZ,CX];rw[A4];intro e;subst e;exact hnw hdst
  rw[show i+(d+1)=i+d+1 by omega];cases b with
  |false=>rw[(h2 rfl).1];exact hupd _
  |true=>rw[(h3 rfl).1];exact hupd _
theorem Bz.slot2(hd:I8 ow wf ops)(tr:Et P ow wf n ops base 0 sk hk vk){S:Nat->Bool}{i:Nat}{o:Oper}(r:Bz ops S i o){t:Nat}(ht:t∈Ea ops o):C6 ops sk S t=sk i t:=by
 have hi:i<ops.length:=(BC.1 r.at_).1;obtain⟨h1,h2,h3⟩:=FW (λj=>S j&&Cq ops t j) ops.length;unfold C6;generalize Dg (λj=>S j&&Cq ops t j) ops.length=m at*
 -- a writer of t that is not this operation comes before or behind it
 have ord: ∀ j,j<ops.length->j≠i->Cq ops t j=true->Go.AM.pre ops j i=true\/Go.AM.pre ops i j=true:=by
  intro j hj hne hw;simp only[Cq,AU hj,D2,BP]at hw;exact hd.slot j i _ o hne (AU hj) r.at_ t hw ht
 rcases CT i m with h4|h4
 ·-- a writer behind i has been done: none can be
  rcases h2 with h2|⟨k,h2,h5⟩
  ·omega
  ·simp only[AR]at h5;by_cases hki:k=i
   ·subst hki;rw[r.new]at h5;simp at h5
   ·rcases ord k (by omega) hki h5.2 with h6|h6
    ·have:=Nb hd i k hi h6;omega
    ·rw [r.not_pre (by omega) h5.1]at h6;simp at h6
 ·have:=tr.slot_const (t:=t) (i:=m) (i-m) (by omega) (λj h5 h6=>?_)
  ·rw [show m+(i-m)=i by omega]at this;exact this.symm
  ·cases hw:Cq ops t j with
   |false=>rfl
   |true=>
    have hns:=h3 j h5 (by omega);rw[hw,Cc]at hns;rcases ord j (by omega) (by omega) hw with h7|h7
    ·rw [r.bef h7]at hns;simp at hns
    ·have:=Nb hd j i (by omega) h7;omega
theorem Bz.next2(hd:I8 ow wf ops)(tr:Et P ow wf n ops base 0 sk hk vk){S S':Nat->Bool}{i:Nat}{o:Oper}(r:Bz ops S i o)(hs':S' i=true)(ho: ∀ j,j≠i->S' j=S j){x:PV}(hx:sk (i+1)=AZ (sk i) o.dst x):
  AZ (C6 ops sk S) o.dst x=C6 ops sk S':=by
 have hi:i<ops.length:=(BC.1 r.at_).1;funext t;have hwr:Cq ops t i=decide (o.dst=some t):=by simp[Cq,r.at_]
 by_cases ht:o.dst=some t
 ·have hl:t∈Ea ops o:=by simp[Ea,ht]
  have h1:AZ (C6 ops sk S) o.dst x t=x:=by rw[ht];simp[AZ,CX]
  have h2:sk (i+1) t=x:=by rw[hx,ht];simp[AZ,CX]
  rw[h1, ← h2];unfold C6;rw[Jm (m:=i+1) (by omega) (.inr ⟨i,rfl,by rw[hs',hwr];simp[ht]⟩)];intro j h3 h4;cases hw:Cq ops t j with
  |false=>simp
  |true=>
   cases hsj:S' j with
   |false=>simp
   |true=>
    rw[ho j (by omega)]at hsj;simp only[Cq,AU h4,D2,BP]at hw;rcases hd.slot j i _ o (by omega) (AU h4) r.at_ t hw hl with h7|h7
    ·have:=Nb hd i j hi h7;omega
    ·rw [r.not_pre h4 hsj]at h7;simp at h7
 ·have h1:AZ (C6 ops sk S) o.dst x t=C6 ops sk S t:=by
   cases hdst:o.dst with
   |none=>rfl
   |some d=>
    simp only[AZ,CX];rw[A4];intro e;subst e;exact ht hdst
  rw[h1];unfold C6;rw[LP ops.length (λj hj=>?_)];by_cases hji:j=i
  ·subst hji;rw[hwr];simp[ht]
  ·rw [ho j hji]
def He(P:Program)(ops:List Oper)(f:Nat):Ab:=match ops[f]? with
 |some o=>(match o.op with
  | .alloc t=>(match D4 P t with
   |some zs=> .arr zs.length [zs.map .sc]
   |none=> .arr 0 [])
  |_=> .arr 0 [])
 |none=> .arr 0 []
def Dw(ow:Nat->Bool)(wf:FuncId->Bool)(ops:List Oper)(sk:Nat->A9)(f:Nat):Bool:=C5 ow wf ops sk f&&FB ops f
def E6(ow:Nat->Bool)(wf:FuncId->Bool)(ops:List Oper)(sk:Nat->A9)(f:Nat):Bool:=C5 ow wf ops sk f&&!(FB ops f)
def MS(ow:Nat->Bool)(wf:FuncId->Bool)(ops:List Oper)(sk:Nat->A9)(S:Nat->Bool):Nat:=Dg (λj=>S j&&E6 ow wf ops sk j) ops.length
def pS(ow:Nat->Bool)(wf:FuncId->Bool)(ops:List Oper)(sk:Nat->A9)(S:Nat->Bool)(j f:Nat):Bool:=decide (j<=f)&&S f&&Dw ow wf ops sk f
def Dx(P:Program)(ow:Nat->Bool)(wf:FuncId->Bool)(ops:List Oper)(base:Nat)(sk:Nat->A9)(hk:Nat->A0)(S:Nat->Bool):A0:=
 Dh (hk (MS ow wf ops sk S)) base (He P ops) (pS ow wf ops sk S (MS ow wf ops sk S))
theorem ZD{j:Nat}(h:C5 ow wf ops sk j=true):j<ops.length:=by
 obtain⟨o,ho,_⟩:=Eb.1 h;exact(BC.1 ho).1
theorem Qx{j:Nat}(h:Dw ow wf ops sk j=true):j<ops.length:=by
 unfold Dw at h;simp only[AR]at h;exact ZD h.1
theorem Et.constH(tr:Et P ow wf n ops base 0 sk hk vk){j:Nat}(hj:j<ops.length)(hw:C5 ow wf ops sk j=false):hk (j+1)=hk j:=by
 obtain⟨_,b,h1,h2,h3⟩:=tr.step j ops[j] (Bx _) (AU hj);cases b with
 |false=>exact(h2 rfl).2
 |true=>
  refine(h3 rfl).2.2.1 ?_;cases hiw:B0 ow wf ops[j]with
  |false=>rfl
  |true=>
   have:C5 ow wf ops sk j=true:=Eb.2 ⟨_,AU hj,hiw,h1⟩;rw[hw]at this;simp at this
theorem Et.stepF(tr:Et P ow wf n ops base 0 sk hk vk){j:Nat}(hw:Dw ow wf ops sk j=true):
  ∃ o t zs,ops[j]? =some o/\o.op= .alloc t/\D4 P t=some zs/\0<zs.length/\He P ops j= .arr zs.length [zs.map .sc]/\vk j= .ptr (base+j) 0 0/\hk (j+1)=(hk j).set (base+j) (He P ops j):=by
 unfold Dw at hw;simp only[AR]at hw;obtain⟨o,ho,hiw,hwt⟩:=Eb.1 hw.1;have hal:=hw.2;unfold FB at hal;rw[ho]at hal;simp only[Ji]at hal;split at hal
 case h_2=>simp at hal
 rename_i t hop;obtain⟨_,b,h1,_,h3⟩:=tr.step j o (Bx _) ho;rw[hwt]at h1;simp at h1;subst h1;have hd:=(h3 rfl).2.1;unfold Ha at hd;rw[hop]at hd;simp only at hd;obtain⟨zs,hz,hpos,hv,hh⟩:=hd;have hob:He P ops j= .arr zs.length [zs.map .sc]:=by unfold He;rw[ho];simp only[hop,hz]
 exact⟨o,t,zs,ho,hop,hz,hpos,hob,hv,by rw[hob];exact hh⟩
theorem Et.noneH(tr:Et P ow wf n ops base 0 sk hk vk)(h0: ∀ f,FB ops f=true->(hk 0).obj (base+f)=none): ∀ j,j<=ops.length-> ∀ f,j<=f->FB ops f=true->(hk j).obj (base+f)=none
 |0,_,f,_,hf=>h0 f hf
 |j+1,hj,f,hle,hf=>by
  cases hw:C5 ow wf ops sk j with
  |false=>rw[tr.constH (by omega) hw];exact Et.noneH tr h0 j (by omega) f (by omega) hf
  |true=>
   obtain⟨o,ho,hiw,hwt⟩:=Eb.1 hw;obtain⟨_,b,h1,_,h3⟩:=tr.step j o (Bx _) ho;rw[hwt]at h1;simp at h1;subst h1;exact(h3 rfl).2.2.2 hiw f (by omega) hf
theorem Et.seg(tr:Et P ow wf n ops base 0 sk hk vk){M:Nat}: ∀ d,M+d<=ops.length->(∀ j,M<=j->j<M+d->E6 ow wf ops sk j=false)->
  hk (M+d)=Dh (hk M) base (He P ops) (λf=>decide (M<=f)&&decide (f<M+d)&&Dw ow wf ops sk f)
 |0,_,_=>by
  rw[LQ (λf=>?_)]
  ·rfl
  ·by_cases h:M<=f
   ·have:¬ f<M+0:=(by omega);simp only[this,QZ,BD,B9]
   ·simp [h]
 |d+1,hd,hn=>by
  have ih:=Et.seg tr d (by omega) (λj h1 h2=>hn j h1 (by omega));cases hw:Dw ow wf ops sk (M+d)with
  |true=>
   obtain⟨_,_,_,_,_,_,_,_,_,hh⟩:=tr.stepF hw;rw[show M+(d+1)=M+d+1 by omega,hh,ih];refine(Qv (p:=λf=>decide (M<=f)&&decide (f<M+d)&&Dw ow wf ops sk f) ?_ (λf hf=>?_)).symm
   ·simp [hw]
   ·rw [show decide (f<M+d+1)=decide (f<M+d) by simp;omega]
  |false=>
   have hnw:=hn (M+d) (by omega) (by omega);have hwd:C5 ow wf ops sk (M+d)=false:=by
    unfold Dw at hw;unfold E6 at hnw;cases hx:C5 ow wf ops sk (M+d)with
    |false=>rfl
    |true=>rw[hx]at hw hnw;simp at hw hnw;rw[hw]at hnw;simp at hnw
   rw[show M+(d+1)=M+d+1 by omega,tr.constH (by omega) hwd,ih];refine Na λf=>?_;by_cases hf:f=M+d
   ·subst hf;simp[hw]
   ·rw [show decide (f<M+d+1)=decide (f<M+d) by simp;omega]
theorem Et.heap_at(tr:Et P ow wf n ops base 0 sk hk vk){S:Nat->Bool}{j:Nat}(h1:MS ow wf ops sk S<=j)(h2:j<=ops.length)(h3: ∀ i,MS ow wf ops sk S<=i->i<j->E6 ow wf ops sk i=false)(h4: ∀ f,MS ow wf ops sk S<=f->f<j->Dw ow wf ops sk f=true->S f=true):
  Dx P ow wf ops base sk hk S=Dh (hk j) base (He P ops) (pS ow wf ops sk S j):=by
 unfold Dx;generalize MS ow wf ops sk S=M at*;obtain⟨d,rfl⟩: ∃ d,j=M+d:=⟨j-M,by omega⟩;rw[tr.seg d h2 h3];refine Fo rfl λid=>?_;simp only[Dh];by_cases hb:base<=id
 ·generalize id-base=f;simp only[hb,FQ];unfold pS;by_cases c1:M<=f
  ·by_cases c2:f<M+d
   ·have:¬ M+d<=f:=(by omega);cases hw:Dw ow wf ops sk f with
    |false=>simp
    |true=>simp[c1,c2,this,h4 f c1 c2 hw]
   ·have:M+d<=f:=(by omega);simp[c1,c2,this]
  ·have:¬ M+d<=f:=(by omega);simp[c1,this]
 ·simp [hb]
theorem Bz.nf(hd:I8 ow wf ops){S:Nat->Bool}{i:Nat}{o:Oper}(r:Bz ops S i o)(hw:C5 ow wf ops sk i=true):MS ow wf ops sk S<=i:=by
 obtain⟨h1,h2,h3⟩:=FW (λj=>S j&&E6 ow wf ops sk j) ops.length;unfold MS;generalize Dg (λj=>S j&&E6 ow wf ops sk j) ops.length=m at*;rcases h2 with h2|⟨k,h2,h5⟩
 ·omega
 ·simp only[AR]at h5;rcases CT i m with h4|h4
  ·have hki:k≠i:=(by intro e;subst e;rw[r.new]at h5;simp at h5);have h6:=h5.2;unfold E6 at h6;simp only[AR,E5]at h6;obtain⟨q,hq,hqw,_⟩:=Eb.1 h6.1;obtain⟨q',hq',hqw',_⟩:=Eb.1 hw;rw[r.at_]at hq';simp at hq';subst hq';have hal:Ji q=false:=(by have:=h6.2;unfold FB at this;rw[hq]at this;exact this);have hi:i<ops.length:=(BC.1 r.at_).1;rcases hd.ww k i q o hki hq r.at_ hqw hqw' with h7|h7|h7|h7
   ·have:=Nb hd i k hi h7;omega
   ·rw [r.not_pre (by omega) h5.1]at h7;simp at h7
   ·omega
   ·rw [hal]at h7;simp at h7
  ·exact h4
theorem P8{S:Nat->Bool}{j:Nat}(h1:MS ow wf ops sk S<=j)(h2:j<ops.length)(h3:S j=true):E6 ow wf ops sk j=false:=by
 have:=(FW (λj=>S j&&E6 ow wf ops sk j) ops.length).2.2 j h1 h2;simpa[h3]using this
theorem U1{S S':Nat->Bool}{i:Nat}(hw:E6 ow wf ops sk i=false)(ho: ∀ j,j≠i->S' j=S j):MS ow wf ops sk S'=MS ow wf ops sk S:=by
 unfold MS;refine LP ops.length λj hj=>?_;by_cases hji:j=i
 ·subst hji;simp[hw]
 ·rw [ho j hji]
theorem U2{S S':Nat->Bool}{i:Nat}(hw:C5 ow wf ops sk i=false)(ho: ∀ j,j≠i->S' j=S j):Dx P ow wf ops base sk hk S'=Dx P ow wf ops base sk hk S:=by
 have hn:E6 ow wf ops sk i=false:=by unfold E6;rw[hw];try rfl
 have hf:Dw ow wf ops sk i=false:=by unfold Dw;rw[hw];try rfl
 unfold Dx;rw[U1 hn ho];refine Na λf=>?_;unfold pS;by_cases hfi:f=i
 ·subst hfi;simp[hf]
 ·rw [ho f hfi]
theorem Bz.doesW(hd:I8 ow wf ops)(tr:Et P ow wf n ops base 0 sk hk vk){S:Nat->Bool}{i:Nat}{o:Oper}(r:Bz ops S i o)(hw:E6 ow wf ops sk i=true):
  Dx P ow wf ops base sk hk S=Dh (hk i) base (He P ops) (pS ow wf ops sk S i):=by
 have hw0:=hw;unfold E6 at hw;simp only[AR,E5]at hw;obtain⟨q',hq',hqw',_⟩:=Eb.1 hw.1;rw[r.at_]at hq';simp at hq';subst hq';have hal:Ji o=false:=by have:=hw.2;unfold FB at this;rw[r.at_]at this;exact this
 have hi:i<ops.length:=(BC.1 r.at_).1;have key: ∀ j,j<i->C5 ow wf ops sk j=true->S j=true:=by
  intro j hj hwj;obtain⟨q,hq,hqw,_⟩:=Eb.1 hwj;rcases hd.ww j i q o (by omega) hq r.at_ hqw hqw' with h7|h7|h7|h7
  ·exact r.bef h7
  ·have:=Nb hd j i (by omega) h7;omega
  ·rw [hal]at h7;simp at h7
  ·omega
 refine tr.heap_at (r.nf hd hw.1) (by omega) (λj h1 h2=>?_) (λf h1 h2 h3=>?_)
 ·cases hx:E6 ow wf ops sk j with
  |false=>rfl
  |true=>
   have hx':=hx;unfold E6 at hx';simp only[AR]at hx';rw[P8 h1 (by omega) (key j h2 hx'.1)]at hx;simp at hx
 ·unfold Dw at h3;simp only[AR]at h3;exact key f h2 h3.1
theorem Bz.nextW(hd:I8 ow wf ops){S S':Nat->Bool}{i:Nat}{o:Oper}(r:Bz ops S i o)(hw:E6 ow wf ops sk i=true)(hs':S' i=true)(ho: ∀ j,j≠i->S' j=S j):
  Dx P ow wf ops base sk hk S'=Dh (hk (i+1)) base (He P ops) (pS ow wf ops sk S i):=by
 have hi:i<ops.length:=(BC.1 r.at_).1;have hw':=hw;unfold E6 at hw';simp only[AR,E5]at hw';have hM:MS ow wf ops sk S'=i+1:=by
  unfold MS;refine Jm (by omega) (.inr ⟨i,rfl,by rw[hs',hw];try rfl⟩) λj h1 h2=>?_;cases hsj:S' j with
  |false=>rfl
  |true=>
   rw[ho j (by omega)]at hsj;have:=P8 (ow:=ow) (wf:=wf) (sk:=sk) (by have:=r.nf (sk:=sk) hd hw'.1;omega) h2 hsj;simp[this]
 unfold Dx;rw[hM];refine Na λf=>?_;unfold pS;have hf:Dw ow wf ops sk i=false:=by unfold Dw;rw[hw'.2];simp
 by_cases hfi:f=i
 ·subst hfi;simp[hf]
 ·rw [ho f hfi,show decide (i+1<=f)=decide (i<=f) by simp;omega]
theorem Bz.nextF(hd:I8 ow wf ops)(tr:Et P ow wf n ops base 0 sk hk vk)(h0: ∀ f,FB ops f=true->(hk 0).obj (base+f)=none){S S':Nat->Bool}{i:Nat}{o:Oper}(r:Bz ops S i o)(hw:Dw ow wf ops sk i=true)(hs':S' i=true)(ho: ∀ j,j≠i->S' j=S j):
  Dx P ow wf ops base sk hk S'=(Dx P ow wf ops base sk hk S).set (base+i) (He P ops i)/\(Dx P ow wf ops base sk hk S).obj (base+i)=none:=by
 have hi:i<ops.length:=(BC.1 r.at_).1;have hw':=hw;unfold Dw at hw';simp only[AR]at hw';have hn:E6 ow wf ops sk i=false:=by unfold E6;rw[hw'.2];simp
 have hM:=r.nf (sk:=sk) hd hw'.1;constructor
 ·unfold Dx;rw[U1 hn ho];refine Qv ?_ λf hf=>?_
  ·simp [pS,hM,hs',hw]
  ·unfold pS;rw[ho f hf]
 ·unfold Dx;simp only[Dh];rw[A4 (by rw[show base+i-base=i by omega];simp[pS,r.new])];exact tr.noneH h0 _ (by omega) i hM hw'.2
theorem Bz.doesN(hd:I8 ow wf ops)(tr:Et P ow wf n ops base 0 sk hk vk){S:Nat->Bool}{i:Nat}{o:Oper}(r:Bz ops S i o)(hiw:B0 ow wf o=false)(hw:CN ops (sk i) o=some true):
  ∃ j,j<=ops.length/\MS ow wf ops sk S<=j/\Dx P ow wf ops base sk hk S=Dh (hk j) base (He P ops) (pS ow wf ops sk S j)/\Af P ow o (A5 (sk i)) (hk j) (vk i) (hk j):=by
 have hi:i<ops.length:=(BC.1 r.at_).1;have hN:Nd ow wf ops sk i o:=⟨r.at_,hiw,hw⟩;have hwi:C5 ow wf ops sk i=false:=by
  cases hx:C5 ow wf ops sk i with
  |false=>rfl
  |true=>
   obtain⟨q,hq,hqw,_⟩:=Eb.1 hx;rw[r.at_]at hq;simp at hq;subst hq;rw[hiw]at hqw;simp at hqw
 obtain⟨_,b,h1,_,h3⟩:=tr.step i o (Bx _) r.at_;rw[hw]at h1;simp at h1;subst h1;have hdo:=(Qw hiw).1 (h3 rfl).2.1;rw[(h3 rfl).2.2.1 hiw]at hdo;have hMl:MS ow wf ops sk S<=ops.length:=(FW _ _).1;rcases CT i (MS ow wf ops sk S)with h4|h4
 ·rcases (FW (λj=>S j&&E6 ow wf ops sk j) ops.length).2.1 with h5|⟨k,h5,h6⟩
  ·unfold MS at h4;omega
  ·simp only[AR]at h6;have hk':MS ow wf ops sk S=k+1:=h5;have hwk:C5 ow wf ops sk k=true:=(by have:=h6.2;unfold E6 at this;simp only[AR]at this;exact this.1);have hki:k≠i:=(by intro e;subst e;rw[hwi]at hwk;simp at hwk);refine⟨k+1,by omega,by omega,?_,?_⟩
   ·have:=tr.heap_at (S:=S) (j:=k+1) (by omega) (by omega) (λj a c=>by omega) (λf a c=>by omega);exact this
   ·rcases (tr.apart i k o (Bx _) (Bx _) hN (Eb.1 hwk)).1 (by omega)with h7|h7
    ·rw [r.not_pre (by omega) h6.1]at h7;simp at h7
    ·exact h7
 ·have hex:(∀ j,MS ow wf ops sk S<=j->j<i->C5 ow wf ops sk j=true->S j=true)\/ ∃ j,MS ow wf ops sk S<=j/\j<i/\C5 ow wf ops sk j=true/\S j=false/\ ∀ l,MS ow wf ops sk S<=l->l<j->C5 ow wf ops sk l=true->S l=true:=by
   have: ∀ d,(∀ j,MS ow wf ops sk S<=j->j<MS ow wf ops sk S+d->C5 ow wf ops sk j=true->S j=true)\/ ∃ j,MS ow wf ops sk S<=j/\j<MS ow wf ops sk S+d/\C5 ow wf ops sk j=true/\S j=false/\ ∀ l,MS ow wf ops sk S<=l->l<j->C5 ow wf ops sk l=true->S l=true:=by
    intro d
    induction d with
    |zero=>left;intro j a b;omega
    |succ d ih=>
     rcases ih with ih|⟨j,g1,g2,g3⟩
     ·by_cases hx:C5 ow wf ops sk (MS ow wf ops sk S+d)=true/\S (MS ow wf ops sk S+d)=false
      ·exact .inr ⟨_,by omega,by omega,hx.1,hx.2,ih⟩
      ·left;intro j a b hj;rcases CT j (MS ow wf ops sk S+d)with c|c
       ·exact ih j a c hj
       ·have:j=MS ow wf ops sk S+d:=(by omega);subst this;cases hs:S (MS ow wf ops sk S+d)with
        |true=>rfl
        |false=>exact(hx ⟨hj,hs⟩).elim
     ·exact .inr ⟨j,g1,by omega,g3⟩
   have:=this (i-MS ow wf ops sk S)
   rwa [show MS ow wf ops sk S+(i-MS ow wf ops sk S)=i by omega]at this
  have fromAll: ∀ j,j<=ops.length->MS ow wf ops sk S<=j->(∀ l,MS ow wf ops sk S<=l->l<j->C5 ow wf ops sk l=true->S l=true)->Dx P ow wf ops base sk hk S=Dh (hk j) base (He P ops) (pS ow wf ops sk S j):=by
   intro j hj hM hall;refine tr.heap_at hM hj (λl a c=>?_) (λf a c hf=>?_)
   ·cases hx:E6 ow wf ops sk l with
    |false=>rfl
    |true=>
     have hx':=hx;unfold E6 at hx';simp only[AR]at hx';rw[P8 a (by omega) (hall l a c hx'.1)]at hx;simp at hx
   ·unfold Dw at hf;simp only[AR]at hf;exact hall f a c hf.1
  rcases hex with hall|⟨j,g1,g2,g3,g4,g5⟩
  ·exact ⟨i,by omega,h4,fromAll i (by omega) h4 hall,hdo⟩
  ·refine ⟨j,by omega,g1,fromAll j (by omega) g1 g5,?_⟩;rcases(tr.apart i j o (Bx _) (Bx _) hN (Eb.1 g3)).2 g2 with h7|h7
   ·rw [r.bef h7]at g4;simp at g4
   ·exact h7
end
end Go.AM
namespace Go.AM
section
variable {P:Program}{ow:Nat->Bool}{wf:FuncId->Bool}{n:Nat}{ops:List Oper}{base:Nat}{sk:Nat->A9}{hk:Nat->A0}{vk:Nat->PV}
theorem LR{S:Nat->Bool}{j:Nat}{H:A0}{ob:Nat->Ab}:Dh H base ob (pS ow wf ops sk S j)=Dh H base ob (λf=>decide (f<ops.length)&&pS ow wf ops sk S j f):=Na λf=>by
 by_cases hf:f<ops.length
 ·simp [hf]
 ·have:Dw ow wf ops sk f=false:=by
   cases hx:Dw ow wf ops sk f with
   |false=>rfl
   |true=>exact(hf (Qx hx)).elim
  simp[pS,this]
theorem ZE(hd:I8 ow wf ops)(tr:Et P ow wf n ops base 0 sk hk vk)(h0: ∀ f,FB ops f=true->(hk 0).obj (base+f)=none){K:A9->A0->Prop}(hK:K (sk ops.length) (hk ops.length)){β0:BH}{hb:A0}{w0:World}(hbn:hb.next<=base){Q:Exit->Act->World->Prop}
  (hk': ∀ a' w',To n β0 hb w0 K a' w'->Q .normal a' w'):
  ∀ (fuel:Nat)(listed:Array Bool)(β:BH)(a:Act)(w:World),listed.size=ops.length->I7 ops (λj=>listed.getD j false)->FC (λj=>listed.getD j false) ops.length<=fuel->
   St n β (C6 ops sk λj=>listed.getD j false) (Dx P ow wf ops base sk hk λj=>listed.getD j false) a w->
   BM β0 hb w0 β (Dx P ow wf ops base sk hk λj=>listed.getD j false) w->
   base+ops.length<=(Dx P ow wf ops base sk hk λj=>listed.getD j false).next->
   (∀ f,f<ops.length->listed.getD f false=false->(β (base+f)).b=none)->wpAny P .any ops.toArray Q fuel listed a w:=by
 have Ck: ∀ (listed:Array Bool)(β:BH)(a:Act)(w:World),(∀ j,j<ops.length->listed.getD j false=true)->
   St n β (C6 ops sk λj=>listed.getD j false) (Dx P ow wf ops base sk hk λj=>listed.getD j false) a w->
   BM β0 hb w0 β (Dx P ow wf ops base sk hk λj=>listed.getD j false) w->Q .normal a w:=by
  intro listed β a w hall st ex;have e1:C6 ops sk (λj=>listed.getD j false)=sk ops.length:=by
   funext t;obtain⟨h1,h2,h3⟩:=FW (λj=>listed.getD j false&&Cq ops t j) ops.length;unfold C6;generalize Dg (λj=>listed.getD j false&&Cq ops t j) ops.length=m at*;have:=tr.slot_const (t:=t) (i:=m) (ops.length-m) (by omega) (λj h5 h6=>by
    have:=h3 j h5 (by omega);rw[hall j (by omega),B8]at this;exact this)
   rw[show m+(ops.length-m)=ops.length by omega]at this;exact this.symm
  have e2:Dx P ow wf ops base sk hk (λj=>listed.getD j false)=hk ops.length:=by
   rw[tr.heap_at (S:=λj=>listed.getD j false) (j:=ops.length) (FW _ _).1 (AD _) (λi a c=>P8 a c (hall i c)) (λf a c _=>hall f c)];refine LQ λf=>?_;by_cases hf:ops.length<=f
   ·have:Dw ow wf ops sk f=false:=by
     cases hx:Dw ow wf ops sk f with
     |false=>rfl
     |true=>have:=Qx hx;omega
    simp[pS,this]
   ·simp [pS,hf]
  rw[e1,e2]at st;rw[e2]at ex;exact hk' a w ⟨_,_,β,hK,st,ex⟩
 have rdy: ∀ (listed:Array Bool)(i:Nat),listed.size=ops.length->I7 ops (λj=>listed.getD j false)->i∈Region.ready .any ops.toArray listed-> ∃ o,Bz ops (λj=>listed.getD j false) i o:=by
  intro listed i hsz hc hi;simp only[Region.ready,LB,EY,IW,AR,E5,IX]at hi;obtain⟨h1,h2,h3⟩:=hi;rw[AU h1]at h3;simp only[Ba,B6,Og,DG,E5]at h3;refine⟨_,AU h1,?_,hc,λe he hb=>?_⟩
  ·rw [DJ,ND (by omega)]at h2⊢;simpa using h2
  ·rcases h3 e (Hy.1 he)with h4|h4
   ·rw [hb]at h4;simp at h4
   ·exact h4
 have noRdy: ∀ (listed:Array Bool),listed.size=ops.length->Region.ready .any ops.toArray listed=[]-> ∀ j,j<ops.length->listed.getD j false=true:=by
  intro listed hsz hr j
  induction j using Nat.strongRecOn with
  |_ j ih=>
   intro hj;cases hs:listed.getD j false with
   |true=>rfl
   |false=>
    have hm:j∈Region.ready .any ops.toArray listed:=by
     simp only[Region.ready,LB,EY,IW,AR,E5,IX];refine⟨hj,?_,?_⟩
     ·rw [DJ,ND (by omega)]at hs⊢;simpa using hs
     ·rw [AU hj];simp only[Ba,B6,Og,DG,E5];intro e he;cases hb:Region.binds .any e with
      |false=>exact .inl rfl
      |true=>
       have hlt:=hd.back j _ (AU hj) e (Hy.2 he) hb;exact .inr (ih e.on hlt (by omega))
    rw[hr]at hm;simp at hm
 intro fuel
 induction fuel with
 |zero=>
  intro listed β a w hsz hc hm st ex hnx hho;have hall:=P6 (S:=λj=>listed.getD j false) ops.length (by omega);refine⟨?_,Ck listed β a w hall st ex⟩;apply QX.2;intro i hi;obtain⟨o,r⟩:=rdy listed i hsz hc hi;have:=hall i (BC.1 r.at_).1;have hn:=r.new;rw[this]at hn;simp at hn
 |succ fuel ih=>
  intro listed β a w hsz hc hm st ex hnx hho;refine⟨λhr=>Ck listed β a w (noRdy listed hsz hr) st ex,λi hi=>?_⟩;obtain⟨o,r⟩:=rdy listed i hsz hc hi;have hil:i<ops.length:=(BC.1 r.at_).1;have hs':(listed.setIfInBounds i true).getD i false=true:=by
   rw[DJ,YE (by omega)];try rfl
  have ho: ∀ j,j≠i->(listed.setIfInBounds i true).getD j false=listed.getD j false:=by
   intro j hj;rw[DJ,MG (Ne.symm hj), ← DJ]
  have hc':I7 ops (λj=>(listed.setIfInBounds i true).getD j false):=by
   intro j q hq hj e he hb;by_cases heq:e.on=i
   ·simp only[heq];exact hs'
   ·simp only;rw[ho _ heq];by_cases hji:j=i
    ·subst hji;have:=r.at_;rw[hq]at this;simp at this;subst this;exact r.before e he hb
    ·simp only at hj;rw[ho j hji]at hj;exact hc j q hq hj e he hb
  have hm':FC (λj=>(listed.setIfInBounds i true).getD j false) ops.length<=fuel:=by
   have:=P5 (S:=λj=>listed.getD j false) (S':=λj=>(listed.setIfInBounds i true).getD j false) r.new hs' (λj hj=>(ho j hj).symm) ops.length hil;omega
  obtain⟨hdst,b,hb,hb1,hb2⟩:=tr.step i o (Bx _) r.at_;have hlook: ∀ t,t∈Ea ops o->C6 ops sk (λj=>listed.getD j false) t=sk i t:=λt ht=>r.slot2 hd tr ht;have hwant:=P0 st (o:=o) (ops:=ops) (by rw[Qt hlook];exact hb);have hnext:=λ{x:PV}(hx:sk (i+1)=AZ (sk i) o.dst x)=>r.next2 (S':=λj=>(listed.setIfInBounds i true).getD j false) hd tr hs' ho hx;have ho2: ∀ j,j≠i->(λj=>(listed.setIfInBounds i true).getD j false) j=(λj=>listed.getD j false) j:=ho;have hho': ∀ f,f<ops.length->(listed.setIfInBounds i true).getD f false=false->f≠i/\(β (base+f)).b=none:=by
   intro f hf hfs;by_cases hfi:f=i
   ·rw [hfi,hs']at hfs;simp at hfs
   ·exact ⟨hfi,hho f hf (by rw[← ho f hfi];exact hfs)⟩
  unfold wpOp;simp only[IX,r.at_];rw[hwant];cases b with
  |false=>
   obtain⟨e1,e2⟩:=hb1 rfl;simp only[BG,AP];have st':=st.undef (d:=o.dst) hdst;rw[hnext e1]at st';have hwdf:C5 ow wf ops sk i=false:=by
    cases hx:C5 ow wf ops sk i with
    |false=>rfl
    |true=>
     obtain⟨q,hq,_,hqw⟩:=Eb.1 hx;rw[r.at_]at hq;simp at hq;subst hq;rw[hb]at hqw;simp at hqw
   have eh:=U2 (P:=P) (base:=base) (hk:=hk) hwdf ho2;exact ih _ β _ w (by simpa using hsz) hc' hm' (by rw[eh];exact st') (by rw[eh];exact ex) (by rw[eh];exact hnx) (λf hf hfs=>(hho' f hf hfs).2)
  |true=>
   obtain⟨e1,e2,e3⟩:=hb2 rfl;simp only[AH];left;have hops: ∀ t,.tmp t∈o.op.operands->sk i t=C6 ops sk (λj=>listed.getD j false) t:=λt ht=>(hlook t (by
    simp only[Ea,DY,KG];exact .inl (.inl ⟨.tmp t,Hy.2 ht,rfl⟩))).symm
   have pOk: ∀ j,j<=ops.length-> ∀ f,pS ow wf ops sk (λj=>listed.getD j false) j f=true->(hk j).obj (base+f)=none/\f<ops.length/\ ∃ z rows,He P ops f= .arr z rows/\rows≠[]:=by
    intro j hj f hf;unfold pS at hf;simp only[AR,BP]at hf;have hfl:=hf.2;obtain⟨_,_,zs,_,_,_,_,hob,_⟩:=tr.stepF hfl;have hal:FB ops f=true:=(by unfold Dw at hfl;simp only[AR]at hfl;exact hfl.2);exact⟨tr.noneH h0 j hj f hf.1.1 hal,Qx hf.2,_,_,hob,by simp⟩
   cases hiw:B0 ow wf o with
   |true=>
    have hwd:C5 ow wf ops sk i=true:=Eb.2 ⟨o,r.at_,hiw,hb⟩;cases hal:FB ops i with
    |true=>
     have hwf:Dw ow wf ops sk i=true:=(by unfold Dw;rw[hwd,hal];try rfl);obtain⟨q,t,zs,hq,hop,hz,hpos,hob,hv,_⟩:=tr.stepF hwf;rw[r.at_]at hq;simp at hq;subst hq;obtain⟨eh,hno⟩:=r.nextF (P:=P) (base:=base) (hk:=hk) hd tr h0 hwf hs' ho2;rw[hv]at e1;refine St.float (P:=P) hz (show base+i<_ by omega) hno (hho i hil r.new) st hop hdst λβ' a' w' st' hbeta hos htape hout hsize hX hmem hfz=>?_;rw[hnext e1, ← hob, ← eh]at st';have hrn:(Dx P ow wf ops base sk hk λj=>(listed.setIfInBounds i true).getD j false).next=(Dx P ow wf ops base sk hk λj=>listed.getD j false).next:=by rw[eh];try rfl
     refine ih _ β' a' w' (by simpa using hsz) hc' hm' st' ?_ (by rw[hrn];exact hnx) (λf hf hfs=>?_)
     ·refine ⟨hos.trans ex.os,htape.trans ex.tape,hout.trans ex.output,EE ex.size hsize,by rw[hrn];exact ex.next,λid hid=>?_,hX.trans ex.X,λc hc hl=>?_,λc hc=>?_⟩
      ·rw [hbeta id (by omega)];exact ex.beta id hid
      ·rw [hmem c (HV hl ex.size)];exact ex.xh c hc hl
      ·obtain ⟨g1,g2⟩:=ex.fz c hc;refine⟨?_,by rw[hmem c g1.1];exact g2⟩;have:=hfz c g1;rw[← hob, ← eh]at this;exact this
     ·obtain ⟨g1,g2⟩:=hho' f hf hfs;rw[hbeta _ (by omega)];exact g2
    |false=>
     have hwn:E6 ow wf ops sk i=true:=(by unfold E6;rw[hwd,hal];try rfl);have hdo:Af P ow o (A5 (sk i)) (hk i) (vk i) (hk (i+1)):=by
      have:=e2;unfold Ha at this;split at this
      ·rename_i t hop;unfold FB at hal;rw[r.at_]at hal;simp[Ji,hop]at hal
      ·exact this
     have eS:=r.doesW (P:=P) (base:=base) hd tr hwn;have eS':=r.nextW (P:=P) (base:=base) (hk:=hk) hd hwn hs' ho2;rw[eS,LR]at st;have hnn:(hk i).next=(Dx P ow wf ops base sk hk λj=>listed.getD j false).next:=by rw[eS];try rfl
     obtain⟨βX,stX,back⟩:=St.hides (λf hf=>by
      obtain⟨g1,g2,g3⟩:=pOk i (by omega) f hf;exact⟨by rw[hnn];omega,g1,g3⟩) ops.length st
     refine Af.wp stX hdst (LO hops hdo) (λa' w' ht=>?_);obtain⟨s',h',β',⟨rfl,rfl⟩,st',ex'⟩:=ht;obtain⟨β'',st'',ex''⟩:=back β' _ _ a' w' st' ex' (λf hf=>by
      unfold pS at hf;simp only[AR,BP]at hf;have hal':FB ops f=true:=(by have h9:=hf.2;unfold Dw at h9;simp only[AR]at h9;exact h9.2);have hfi:f≠i:=(by intro e;subst e;rw[hal]at hal';simp at hal');exact tr.noneH h0 (i+1) (by omega) f (by omega) hal')
     rw[hnext e1, ← LR, ← eS']at st'';rw[← LR, ← LR, ← eS', ← eS]at ex'';refine ih _ β'' a' w' (by simpa using hsz) hc' hm' st'' (ex.trans ex'') (EE hnx ex''.next) (λf hf hfs=>?_);rw[ex''.beta _ (by omega)];exact(hho' f hf hfs).2
   |false=>
    have hwd:C5 ow wf ops sk i=false:=by
     cases hx:C5 ow wf ops sk i with
     |false=>rfl
     |true=>
      obtain⟨q,hq,hqw,_⟩:=Eb.1 hx;rw[r.at_]at hq;simp at hq;subst hq;rw[hiw]at hqw;simp at hqw
    obtain⟨j,hj,hMj,eS,hdo⟩:=r.doesN (P:=P) (base:=base) hd tr hiw hb;have eh:=U2 (P:=P) (base:=base) (hk:=hk) hwd ho2;rw[eS,LR]at st;have hnn:(hk j).next=(Dx P ow wf ops base sk hk λj=>listed.getD j false).next:=by rw[eS];try rfl
    obtain⟨βX,stX,back⟩:=St.hides (λf hf=>by
     obtain⟨g1,g2,g3⟩:=pOk j hj f hf;exact⟨by rw[hnn];omega,g1,g3⟩) ops.length st
    refine Af.wp stX hdst (LO hops hdo) (λa' w' ht=>?_);obtain⟨s',h',β',⟨rfl,rfl⟩,st',ex'⟩:=ht;obtain⟨β'',st'',ex''⟩:=back β' _ _ a' w' st' ex' (λf hf=>(pOk j hj f hf).1);rw[hnext e1, ← LR, ← eS, ← eh]at st'';rw[← LR, ← eS]at ex'';refine ih _ β'' a' w' (by simpa using hsz) hc' hm' st'' (by rw[eh];exact ex.trans ex'') (by rw[eh];exact EE hnx ex''.next) (λf hf hfs=>?_);rw[ex''.beta _ (by omega)];exact(hho' f hf hfs).2
theorem ZF{id:Nat}(hm:P.follows .mixedOrders=true){β:BH}{s:A9}{h:A0}{a:Act}{w:World}{K:A9->A0->Prop}{Q:Exit->Act->World->Prop}(st:St n β s h a w)(hw:TM P ow wf n ops K s h)
  (hk': ∀ a' w',To n β h w K a' w'->Q .normal a' w'):(Code.region id ops.toArray true).wp P Q a w:=by
 obtain⟨h1,h2⟩:=hw;have hd:=I8.of h1;obtain⟨sk,hk,vk,e1,e2,hK,tr,_,_⟩:=P7 ops 0 [] [] s _ (by simp) h2;rw[Be]at hK;refine wp_region_any hm ?_;obtain⟨s1,s2⟩:=st.sim.drew;have std:St n β s h a w.drew:=⟨s1,λt=>s2.rep (st.rep t),st.size,st.defers⟩;obtain⟨β0,st0,ex0,hnone0⟩:=std.bump ops.length;have hS: ∀ j,(Array.replicate ops.toArray.size false).getD j false=false:=by
  intro j;rw[DJ,QY];split<;>rfl
 have emp: ∀ (p:Nat->Bool),(λj=>((Array.replicate ops.toArray.size false).getD j false&&p j))=λ_=>false:=by
  intro p;funext j;rw[hS];try rfl
 have l0:Dg (λ_=>false) ops.length=0:=Jm (Bx _) (.inl rfl) (λ_ _ _=>rfl);have hval:C6 ops sk (λj=>(Array.replicate ops.toArray.size false).getD j false)=s:=by
  funext t;unfold C6;rw[emp,l0,e1]
 have hheap:Dx P ow wf ops h.next sk hk (λj=>(Array.replicate ops.toArray.size false).getD j false)=h.bump ops.length:=by
  unfold Dx;rw[LQ (λf=>by unfold pS;simp only[hS,BD,B9])];unfold MS;rw[emp,l0,e2];try rfl
 refine ZE hd tr (λf _=>?_) hK (hb:=h) (β0:=β) (w0:=w) (AD _) hk' _ _ β0 a w.drew (by simp) (λj o _ hj=>by simp only[hS]at hj;simp at hj) ?_ ?_ ?_ ?_ ?_
 ·rw [e2];cases ho:h.obj (h.next+f)with
  |none=>rfl
  |some o=>have:=st.sim.lt (h.next+f) (by rw[ho];try rfl);omega
 ·have: ∀ m,FC (λj=>(Array.replicate ops.toArray.size false).getD j false) m<=m:=by
   intro m
   induction m with
   |zero=>exact AD _
   |succ m ih=>unfold FC;split<;>omega
  simpa using this ops.length
 ·rw [hval,hheap];exact st0
 ·rw [hheap];exact s2.trans ex0
 ·rw [hheap];exact AD _
 ·intro f hf _;exact hnone0 _ (by omega)
end
end Go.AM
namespace Go.AM
section
variable {P:Program}{ow:Nat->Bool}{n:Nat}{β:BH}{h:A0}{w:World}{s:A9}{a:Act}
theorem St.hideG{i:Nat}{o:Ab}(hi:i<h.next)(hn:h.obj i=none)(st:St n β s (h.set i o) a w):
  ∃ βX,St n βX s h a w/\ ∀ (β':BH)(s':A9)(h':A0)(a':Act)(w':World),St n β' s' h' a' w'->BM βX h w β' h' w'->h'.obj i=none->
   ∃ β'',St n β'' s' (h'.set i o) a' w'/\BM β (h.set i o) w β'' (h'.set i o) w':=by
 have oi:(h.set i o).obj i=some o:=by simp[A0.set]
 have on: ∀ j,j≠i->(h.set i o).obj j=h.obj j:=λj hj=>by simp[A0.set,hj]
 have live: ∀ j,(h.obj j).isSome=true->j≠i:=λj hj e=>by rw[e,hn]at hj;simp at hj
 have hok:=st.sim.ok i _ oi;have fzd: ∀ c,Fz β (h.set i o) w c->Fz ⟨β.bl,λd=>β.X d\/(β i).b=some d⟩ h w c:=λc hc=>⟨hc.1,λj hj=>hc.2.1 j (by rw[on j (live j hj)];exact hj),λhx=>hx.elim hc.2.2 (λe=>hc.2.1 i (by rw[oi];try rfl) e)⟩;have m1:Mv β h.next (Fz β (h.set i o) w) w ⟨β.bl,λd=>β.X d\/(β i).b=some d⟩ h.next (Fz ⟨β.bl,λd=>β.X d\/(β i).b=some d⟩ h w) w:=⟨AD _,λ_ _ _=>rfl,λc hc=>⟨fzd c hc,rfl⟩⟩
 refine⟨⟨β.bl,λd=>β.X d\/(β i).b=some d⟩,⟨⟨λid hs=>?_,λid o ho=>?_,λj k hj hk c h1 h2=>?_,λc hc=>?_,λid hs c h1=>?_⟩,λt=>A8.mv m1 _ _ (st.rep t),st.size,st.defers⟩,?_⟩
 ·exact st.sim.lt id (by rw[on id (live id hs)];exact hs)
 ·have:=live id (by rw[ho];try rfl);exact BI.mv m1 (λ_ _=>rfl) (st.sim.ok id o (by rw[on id this];exact ho))
 ·exact st.sim.inj j k (by rw[on j (live j hj)];exact hj) (by rw[on k (live k hk)];exact hk) c h1 h2
 ·exact hc.elim (st.sim.xs c) (λe=>st.sim.blk_lt oi e)
 ·have hs':((h.set i o).obj id).isSome=true:=by rw[on id (live id hs)];exact hs
  rintro(hx|hx)
  ·exact st.sim.nx id hs' c h1 hx
  ·exact live id hs (st.sim.inj id i hs' (by rw[oi];try rfl) _ h1 hx)
 ·intro β' s' h' a' w' st' ex hn';have on': ∀ j,j≠i->(h'.set i o).obj j=h'.obj j:=λj hj=>by simp[A0.set,hj]
  have hbi:(β' i)=β i:=ex.beta i hi;have hX:β'.X=λd=>β.X d\/(β i).b=some d:=ex.X;have fzu: ∀ c,Fz β' h' w' c->Fz ⟨β'.bl,β.X⟩ (h'.set i o) w' c:=λc hc=>by
   have h3:=hc.2.2;rw[hX]at h3;refine⟨hc.1,λj hj hjc=>?_,λhx=>h3 (.inl hx)⟩;by_cases hji:j=i
   ·subst hji;have h4:(β' j).b=some c:=hjc;rw[hbi]at h4;exact h3 (.inr h4)
   ·rw [on' j hji]at hj;exact hc.2.1 j hj hjc
  have e2:BM β (h.set i o) w ⟨β'.bl,β.X⟩ (h'.set i o) w':=
   ⟨ex.os,ex.tape,ex.output,ex.size,ex.next,ex.beta,rfl,λc hc hl=>ex.xh c (.inl hc) hl,λc hc=>⟨fzu c (ex.fz c (fzd c hc)).1,(ex.fz c (fzd c hc)).2⟩⟩
  have m2:Mv β' h'.next (Fz β' h' w') w' ⟨β'.bl,β.X⟩ h'.next (Fz ⟨β'.bl,β.X⟩ (h'.set i o) w') w':=⟨AD _,λ_ _ _=>rfl,λc hc=>⟨fzu c hc,rfl⟩⟩
  refine⟨⟨β'.bl,β.X⟩,⟨⟨λid hs=>?_,λid o2 ho=>?_,λj k hj hk c h1 h2=>?_,λc hc=>?_,λid hs c h1=>?_⟩,λt=>A8.mv m2 _ _ (st'.rep t),st'.size,st'.defers⟩,e2⟩
  ·by_cases hid:id=i
   ·subst hid;exact HV hi ex.next
   ·rw [on' id hid]at hs;exact st'.sim.lt id hs
  ·by_cases hid:id=i
   ·subst hid;have:o2=o:=(by simp[A0.set]at ho;exact ho.symm);subst this;have h3:=BI.mv (w':=w') (β':=⟨β'.bl,β.X⟩) (n':=h'.next) (F':=Fz ⟨β'.bl,β.X⟩ (h'.set id o2) w') e2.mv (λc hc=>ex.xh c (.inr hc) (st.sim.blk_lt oi hc)) hok;show BI _ _ _ _ (β' id) _;rw[hbi];exact h3
   ·rw [on' id hid]at ho;exact BI.mv m2 (λ_ _=>rfl) (st'.sim.ok id o2 ho)
  ·have key: ∀ j,j≠i->((h'.set i o).obj j).isSome=true-> ∀ b,(β i).b=some b->(β' j).b≠some b:=λj hji hj b hb e=>by
    rw[on' j hji]at hj;have:=st'.sim.nx j hj b e;rw[hX]at this;exact this (.inr hb)
   by_cases hji:j=i
   ·by_cases hki:k=i
    ·rw [hji,hki]
    ·have h3:(β' j).b=some c:=h1;rw[hji,hbi]at h3;exact(key k hki hk c h3 h2).elim
   ·by_cases hki:k=i
    ·have h3:(β' k).b=some c:=h2;rw[hki,hbi]at h3;exact(key j hji hj c h3 h1).elim
    ·rw [on' j hji]at hj;rw[on' k hki]at hk;exact st'.sim.inj j k hj hk c h1 h2
  ·exact st'.sim.xs c (by rw[hX];exact .inl hc)
  ·by_cases hid:id=i
   ·have h3:(β' id).b=some c:=h1;rw[hid,hbi]at h3;exact st.sim.nx i (by rw[oi];try rfl) c h3
   ·rw [on' id hid]at hs;have:=st'.sim.nx id hs c h1;rw[hX]at this;exact λhx=>this (.inl hx)
theorem U3{H:A0}{l:List Nat}:CD (Az H l) H l=H:=Fo rfl λj=>by
 simp only[CD,Az];by_cases h1:j∈l
 ·cases h2:H.obj j<;>simp[h1,h2]
 ·simp [h1]
theorem St.hidesK{H:A0}(hlt: ∀ id,(H.obj id).isSome=true->id<H.next): ∀ (l:List Nat){β:BH},St n β s H a w->
  ∃ βX,St n βX s (Az H l) a w/\ ∀ (β':BH)(s':A9)(h':A0)(a':Act)(w':World),St n β' s' h' a' w'->BM βX (Az H l) w β' h' w'->(∀ j∈l,(H.obj j).isSome=true->h'.obj j=none)->
   ∃ β'',St n β'' s' (CD h' H l) a' w'/\BM β H w β'' (CD h' H l) w'
 |[],β,st=>by
  have e:Az H []=H:=Fo rfl λj=>by simp[Az]
  have e': ∀ h',CD h' H []=h':=λh'=>Fo rfl λj=>by simp[CD]
  rw[e];exact⟨β,st,λβ' s' h' a' w' st' ex _=>⟨β',by rw[e'];exact st',by rw[e'];exact ex⟩⟩
 |i::l,β,st=>by
  obtain⟨β1,st1,back1⟩:=St.hidesK hlt l st;by_cases hc:l.contains i=true\/H.obj i=none
  ·have e:Az H (i::l)=Az H l:=Fo rfl λj=>by
    simp only[Az,T9];by_cases hj:j=i
    ·subst hj;rcases hc with hc|hc
     ·have hm:j∈l:=(by simpa using hc);simp[hm]
     ·simp [hc]
    ·simp [hj]
   have e': ∀ h',CD h' H (i::l)=CD h' H l:=λh'=>Fo rfl λj=>by
    simp only[CD,T9];by_cases hj:j=i
    ·subst hj;rcases hc with hc|hc
     ·have hm:j∈l:=(by simpa using hc);simp[hm]
     ·simp [hc]
    ·simp [hj]
   rw[e];refine⟨β1,st1,λβ' s' h' a' w' st' ex hno=>?_⟩;rw[e'];exact back1 β' s' h' a' w' st' ex λj hj=>hno j (by simp[hj])
  ·simp only[not_or]at hc;obtain⟨hc1,hc2⟩:=hc;obtain⟨o,ho⟩:=Option.ne_none_iff_exists'.1 hc2;have e:Az H l=(Az H (i::l)).set i o:=Fo rfl λj=>by
    simp only[Az,A0.set,T9];by_cases hj:j=i
    ·subst hj;simp only[hc1,AP,AH];simpa using ho
    ·simp [hj]
   have hlt':i<(Az H (i::l)).next:=hlt i (by rw[ho];try rfl)
   rw[e]at st1 back1;obtain⟨β2,st2,back2⟩:=St.hideG hlt' (by simp[Az]) st1;refine⟨β2,st2,λβ' s' h' a' w' st' ex hno=>?_⟩;obtain⟨β3,st3,ex3⟩:=back2 β' s' h' a' w' st' ex (hno i (by simp) (by rw[ho];try rfl));obtain⟨β4,st4,ex4⟩:=back1 β3 s' _ a' w' st3 ex3 (λj hj hs=>by
    have:j≠i:=λe=>hc1 (by rw[← e];simpa using hj);simp only[A0.set,this,AP];exact hno j (by simp[hj]) hs)
   have e':CD h' H (i::l)=CD (h'.set i o) H l:=Fo rfl λj=>by
    simp only[CD,A0.set,T9];by_cases hj:j=i
    ·subst hj;simp[hc1,ho]
    ·simp [hj]
   exact⟨β4,by rw[e'];exact st4,by rw[e'];exact ex4⟩
theorem U4{m z:Nat}{ρ:Operand->PV}: ∀ (parts:List (Nat × Operand)){rows out:List (List PV)},B1 m rows->(∀ x,BB m (ρ x))->HY z rows (parts.map λp=>(p.1,ρ p.2))=some out->B1 m out
 |[],rows,out,hr,_,h=>by simp[HY]at h;subst h;exact hr
 |(i,x)::ps,rows,out,hr,hx,h=>by
  simp only[BS,HY]at h;split at h
  ·refine U4 ps ?_ hx h;have hc:BT m (ρ x).cells:=by
    have:=hx x;cases hp:ρ x<;>rw[hp]at this<;>simp only[PV.cells,BT,Da]<;>(try exact this)
   rename_i hcnd;clear h hcnd
   induction rows generalizing i with
   |nil=>simpa using hr
   |cons r rs ih=>
    simp only[B1]at hr;cases i with
    |zero=>simp only[Y8,B1];exact⟨hc,hr.2⟩
    |succ i=>simp only[List.set_cons_succ,B1];exact⟨hr.1,ih i hr.2⟩
  ·simp at h
theorem Qy{m:Nat}: ∀ l:List Value,BT m (l.map PV.sc)
 |[]=>by simp only[B5,BT]
 |v::l=>by simp only[BS,BT,BB,FQ];exact Qy l
theorem ZG{m k:Nat}{r:List PV}(h:BT m r):B1 m (List.replicate k r):=by
 induction k with
 |zero=>simp only[List.replicate_zero,B1]
 |succ k ih=>simp only[List.replicate_succ,B1];exact⟨h,ih⟩
theorem ZH{id:Nat}{o:Oper}{ρ:Operand->PV}{v:PV}{ob:Ab}(ha:Bl ow o=true)(h1:ER P ow id o ρ=some (v,ob))(H:A0)(hin: ∀ x,BB H.next (ρ x)):
  ∃ z rows v1,ob= .arr z rows/\rows≠[]/\B1 H.next rows/\AT P (o.dst.any ow) o.op ρ H=some (v1,H.new ob)/\((v1= .ptr H.next 0 0/\v= .ptr id 0 0)\/ ∃ len,v1= .own H.next 0 len/\v= .own id 0 len):=by
 obtain⟨dst,op,ty,pos,af,gd⟩:=o;unfold ER at h1;simp only at h1;unfold Bl at ha;simp only at ha;split at ha
 ·rename_i t;simp only[AT]at h1⊢;cases hz:D4 P t with
  |none=>simp[hz]at h1
  |some zs=>
   simp only[hz,D2]at h1⊢;by_cases hp:0<zs.length
   ·simp only[hp,AH]at h1⊢;simp[A0.new]at h1;obtain⟨rfl,rfl⟩:=h1;exact⟨_,_,_,rfl,by simp,by simp only[B1,Da];exact Qy zs,rfl,.inl ⟨rfl,rfl⟩⟩
   ·simp [hp]at h1
 ·rename_i t x;simp only[AT,ha,AH]at h1⊢;by_cases hc:(ρ x).cells.all CW=false
  ·simp [hc]at h1
  ·simp only[hc,AP]at h1⊢;by_cases hp:0<(ρ x).cells.length
   ·simp only[hp,AH]at h1⊢;simp[A0.new]at h1;obtain⟨rfl,rfl⟩:=h1;have hcc:BT H.next (ρ x).cells:=by
     have:=hin x;cases hpx:ρ x<;>rw[hpx]at this<;>simp only[PV.cells,BT,Da]<;>(try exact this)
    exact⟨_,_,_,rfl,by simp,by simp only[B1,Da];exact hcc,rfl,.inl ⟨rfl,rfl⟩⟩
   ·simp [hp]at h1
 ·rename_i t len parts;simp only[AT,ha,AH]at h1⊢;cases hz:DK P t with
  |none=>simp[hz]at h1
  |some zb=>
   cases hz2:GA P t with
   |none=>simp[hz,hz2]at h1
   |some z=>
    simp only[hz,hz2,D2]at h1⊢;by_cases hcd:z.length=zb.1/\0<zb.1/\len*zb.1<=16777216
    ·simp only[AG hcd]at h1⊢;cases hr:HY zb.1 (List.replicate len (z.map .sc)) (parts.toList.map λp=>(p.1,ρ p.2))with
     |none=>simp[hr]at h1
     |some rows=>
      simp only[hr,D2]at h1⊢;by_cases hl:len=0
      ·simp [hl]at h1
      ·simp only[hl,AP]at h1⊢;simp only[A0.new,AH]at h1;by_cases he:rows.isEmpty=true
       ·simp [he]at h1
       ·simp [he]at h1;obtain⟨rfl,rfl⟩:=h1;refine⟨_,_,_,rfl,by simpa using he,U4 _ (ZG (Qy z)) hin hr,rfl,.inr ⟨len,rfl,rfl⟩⟩
    ·simp [hcd]at h1
 ·simp at ha
theorem St.floatA{id0:Nat}{o:Oper}{v:PV}{ob:Ab}(ha:Bl ow o=true)(h1:ER P ow id0 o (A5 s)=some (v,ob))(hlt:id0<h.next)(hn:h.obj id0=none)(hb:(β id0).b=none)(st:St n β s h a w)(hd:o.dst.all (λd=>decide (d<n))=true){K:Act->World->Prop}{Q:Exit->Act->World->Prop}
  (hk: ∀ (β':BH)(a':Act)(w':World),St n β' (AZ s o.dst v) (h.set id0 ob) a' w'->(∀ id,id<h.next->id≠id0->β' id=β id)->w'.os=w.os->w'.tape=w.tape->w'.output=w.output->w.heap.size<=w'.heap.size->β'.X=β.X->(∀ b,β.X b->b<w.heap.size->w'.heap[b]? =w.heap[b]?)->(∀ b,Fz β h w b->Fz β' (h.set id0 ob) w' b/\w'.heap[b]? =w.heap[b]?)->K a' w'):o.wp P a w K Q:=by
 have hin: ∀ x,BB h.next (A5 s x):=λx=>A8.inN _ _ (KP st.rep x)
 obtain⟨z,rows,v1,rfl,hrows,hrin,heff,hv⟩:=ZH ha h1 h hin;obtain⟨nx,v',w',β1,hrun,hnx,sm1,ex,hrep⟩:=Tv st.sim st.rep o heff;unfold Oper.wp;rw[hrun];have new0:(h.new (.arr z rows)).obj h.next=some (.arr z rows):=by simp[A0.new]
 have newO: ∀ j,j<h.next->(h.new (.arr z rows)).obj j=h.obj j:=λj hj=>by simp only[A0.new];rw[A4 (by omega)]
 have on: ∀ j,j≠id0->(h.set id0 (.arr z rows)).obj j=h.obj j:=λj hj=>by simp[A0.set,hj]
 have live: ∀ j,(h.obj j).isSome=true->j<h.next/\j≠id0:=λj hj=>⟨st.sim.lt j hj,λe=>by rw[e,hn]at hj;simp at hj⟩
 have fz2: ∀ c,Fz β1 (h.new (.arr z rows)) w' c->Fz ⟨λid=>if id=id0 then β1 h.next else β id,β.X⟩ (h.set id0 (.arr z rows)) w' c:=λc hc=>by
  refine⟨hc.1,λj hj hjc=>?_,by have:=hc.2.2;rw[ex.X]at this;exact this⟩;by_cases hj0:j=id0
  ·subst hj0;simp only[AH]at hjc;exact hc.2.1 h.next (by rw[new0];try rfl) hjc
  ·rw [on j hj0]at hj;simp only[hj0,AP]at hjc;have hl:=(live j hj).1;exact hc.2.1 j (by rw[newO j hl];exact hj) (by rw[ex.beta j hl];exact hjc)
 have m2:Mv β1 h.next (Fz β1 (h.new (.arr z rows)) w') w' ⟨λid=>if id=id0 then β1 h.next else β id,β.X⟩ h.next (Fz ⟨λid=>if id=id0 then β1 h.next else β id,β.X⟩ (h.set id0 (.arr z rows)) w') w':=
  ⟨AD _,λid hid hbn=>by
   have:id≠id0:=λe=>hbn (by rw[ex.beta id hid,e];exact hb);simp only[this,AP];exact(ex.beta id hid).symm,λc hc=>⟨fz2 c hc,rfl⟩⟩
 have m3:Mv β h.next (Fz β h w) w ⟨λid=>if id=id0 then β1 h.next else β id,β.X⟩ h.next (Fz ⟨λid=>if id=id0 then β1 h.next else β id,β.X⟩ (h.set id0 (.arr z rows)) w') w':=
  ⟨AD _,λid hid hbn=>by
   have:id≠id0:=λe=>hbn (by rw[e];exact hb);simp only[this,AP],λc hc=>⟨fz2 c (ex.fz c hc).1,(ex.fz c hc).2⟩⟩
 have hv2:AQ ⟨λid=>if id=id0 then β1 h.next else β id,β.X⟩ (h.set id0 (.arr z rows)) w' v v':=by
  rcases hv with⟨rfl,rfl⟩|⟨len,rfl,rfl⟩
  ·simp only[AQ,A8]at hrep⊢;obtain⟨_,b,g1,g2⟩:=hrep;exact⟨hlt,b,by simp only[AH];exact g1,by simp only[AH];exact g2⟩
  ·simp only[AQ,A8]at hrep⊢;obtain⟨_,aa,cap,g1,g2,g3,g4⟩:=hrep;exact⟨hlt,aa,cap,g1,g2,g3,by simp only[AH];exact g4⟩
 have Ck:St n ⟨λid=>if id=id0 then β1 h.next else β id,β.X⟩ (AZ s o.dst v) (h.set id0 (.arr z rows)) (a.put o.dst v') w':=by
  refine⟨⟨λid hs=>?_,λid o2 ho=>?_,λj k hj hkk c g1 g2=>?_,λc hc=>?_,λid hs c g1=>?_⟩,λu=>?_,?_,?_⟩
  ·by_cases hid:id=id0
   ·subst hid;exact hlt
   ·rw [on id hid]at hs;exact st.sim.lt id hs
  ·by_cases hid:id=id0
   ·subst hid;have:o2= .arr z rows:=(by simp[A0.set]at ho;exact ho.symm);subst this;have g:=BI.mv m2 (λ_ _=>rfl) (BI.low (n:=h.next) (F':=Fz β1 (h.new (.arr z rows)) w') (λb hb=>hb) (show Ec h.next (.arr z rows) by simpa only[Ec]using hrin) (sm1.ok h.next _ new0));simp only[AH];exact g
   ·rw [on id hid]at ho;have hl:=live id (by rw[ho];try rfl);have g:=BI.mv m2 (λ_ _=>rfl) (BI.low (n:=h.next) (F':=Fz β1 (h.new (.arr z rows)) w') (λb hb=>hb) (st.sim.ok id o2 ho).inN (sm1.ok id o2 (by rw[newO id hl.1];exact ho)));simp only[hid,AP];rw[ex.beta id hl.1]at g;exact g
  ·have key: ∀ j,j≠id0->((h.set id0 (.arr z rows)).obj j).isSome=true-> ∀ c,(β j).b=some c->(β1 h.next).b≠some c:=λj hji hj c e e2=>by
    rw[on j hji]at hj;have hl:=(live j hj).1;have:=sm1.inj j h.next (by rw[newO j hl];exact hj) (by rw[new0];try rfl) c (by rw[ex.beta j hl];exact e) e2
    omega
   by_cases hji:j=id0
   ·by_cases hki:k=id0
    ·rw [hji,hki]
    ·simp only[hji,AH]at g1;simp only[hki,AP]at g2;exact(key k hki hkk c g2 g1).elim
   ·by_cases hki:k=id0
    ·simp only[hki,AH]at g2;simp only[hji,AP]at g1;exact(key j hji hj c g1 g2).elim
    ·simp only[hji,hki,AP]at g1 g2;rw[on j hji]at hj;rw[on k hki]at hkk;exact st.sim.inj j k hj hkk c g1 g2
  ·exact HV (st.sim.xs c hc) ex.size
  ·by_cases hid:id=id0
   ·simp only[hid,AH]at g1;have:=sm1.nx h.next (by rw[new0];try rfl) c g1
    rw[ex.X]at this;exact this
   ·simp only[hid,AP]at g1;rw[on id hid]at hs;exact st.sim.nx id hs c g1
  ·cases hdd:o.dst with
   |none=>simp only[AZ,Act.put];exact A8.mv m3 _ _ (st.rep u)
   |some d=>
    rw[hdd]at hd;simp at hd;simp only[AZ,CX,Act.put];by_cases hu:u=d
    ·subst hu;rw[AG rfl];have hus:u<a.tmps.size:=(by rw[st.size];exact hd);simpa[DJ,hus]using hv2
    ·rw [A4 hu];have:AQ ⟨λid=>if id=id0 then β1 h.next else β id,β.X⟩ (h.set id0 (.arr z rows)) w' (s u) (a.tmps.getD u Go.undef):=A8.mv m3 _ _ (st.rep u);simpa[DJ,MG (Ne.symm hu)]using this
  ·cases hdd:o.dst with
   |none=>exact st.size
   |some d=>simp[Act.put,st.size]
  ·cases hdd:o.dst with
   |none=>exact st.defers
   |some d=>simp[Act.put,st.defers]
 have done:=hk _ _ _ Ck (λid _ hne=>by simp only[hne,AP]) ex.os ex.tape ex.output ex.size rfl (λb hb' hl=>ex.xh b hb' hl) (λb hbb=>⟨fz2 b (ex.fz b hbb).1,(ex.fz b hbb).2⟩);rcases hnx with rfl|⟨rfl,rfl⟩<;>exact done
theorem ZI{t:TypeId}{x y:Operand}{b:Bool}{ρ:Operand->PV}{H H':A0}{id r f:Nat}{ob:Ab}{v:PV}(hx:ρ x= .ptr id r f)(he:AT P b (.store t x y) ρ H=some (v,H.set id ob))(ho:H'.obj id=H.obj id):AT P b (.store t x y) ρ H'=some (v,H'.set id ob):=by
 simp only[AT]at he⊢;cases hz:CM P t with
 |none=>simp[hz]at he
 |some m=>
  simp only[hz,D2]at he⊢;split at he
  ·rename_i hc;rw[AG hc];rw[hx]at he⊢;simp only[wr]at he⊢;rw[ho];cases hob:H.obj id with
   |none=>simp[hob]at he
   |some o1=>
    simp only[hob]at he⊢;cases o1 with
    |arr z rows=>
     simp only at he⊢;cases hr:rows[r]? with
     |none=>simp[hr]at he
     |some q=>
      simp only[hr]at he⊢;split at he
      ·rename_i hl;simp only[hl,AH,Ba,Ak,Ar]at he⊢;refine⟨he.1,?_⟩;have:=L8 (λh:A0=>h.obj id) he.2;simp[A0.set]at this;rw[this]
      ·simp at he
    |map es=>simp at he
    |glb g lo hi=>simp at he
  ·simp at he
end
end Go.AM
namespace Go.AM
section
variable {P:Program}{ow:Nat->Bool}{wf:FuncId->Bool}{n:Nat}{ops:List Oper}{base:Nat}
structure HG(ops:List Oper):Prop where
 back: ∀ (j:Nat)(o:Oper),ops[j]? =some o-> ∀ e∈o.after.toList,Region.binds .any e=true->e.on<j
 nosel: ∀ (j:Nat)(o:Oper),ops[j]? =some o-> ∀ cs b,o.op≠ .select cs b
 slot: ∀ (i j:Nat)(q o:Oper),i≠j->ops[i]? =some q->ops[j]? =some o-> ∀ d,q.dst=some d->d∈Ea ops o->pre ops i j=true\/pre ops j i=true
theorem HG.of{ops:List Oper}(h:LL ops=true):HG ops:=by
 unfold LL at h;rw[Bq]at h;have hm: ∀ (j:Nat)(o:Oper),ops[j]? =some o->_:=λj o ho=>h (o,j) (MI.2 ho);refine⟨λj o ho e he hb=>?_,λj o ho cs b hsel=>?_,λi j q o hij hq ho d hd hl=>?_⟩
 ·have h0:=hm j o ho;simp only[AR,Bq]at h0;have:=h0.1.1 e he;simpa[hb]using this
 ·have h0:=hm j o ho;simp only[AR]at h0;have:=h0.1.2;rw[hsel]at this;simp at this
 ·have h0:=hm j o ho;simp only[AR,Bq]at h0;have:=h0.2 (q,i) (MI.2 hq);simp only[DG,AR,Dv,hd,E5]at this;rcases this with h1|h1
  ·exact absurd h1 hij
  ·rcases h1 with(h1|h1)|h1
   ·rw [NF.2 hl]at h1;simp at h1
   ·exact .inl h1
   ·exact .inr h1
theorem Jn{ops:List Oper}(hd:HG ops): ∀ (j i:Nat),j<ops.length->pre ops i j=true->i<j:=by
 intro j
 induction j using Nat.strongRecOn with
 |_ j ih=>
  intro i hj hp;obtain⟨e,h1,h2,h3⟩:=MY (AU hj) hp;have hlt:=hd.back j _ (AU hj) e h1 h2;rcases h3 with rfl|⟨h4,h5⟩
  ·exact hlt
  ·exact YD (ih e.on h4 i (by omega) h5) h4
variable {sk:Nat->A9}{hk:Nat->A0}{vk:Nat->PV}{lt:Nat->Option (Nat × Ab)}{br:Nat->Bool}
theorem D9.slot_const(tr:D9 P ow wf n ops base sk hk vk lt br){t:Nat}{i:Nat}: ∀ d,i+d<=ops.length->(∀ j,i<=j->j<i+d->Cq ops t j=false)->sk (i+d) t=sk i t
 |0,_,_=>rfl
 |d+1,hd,hw=>by
  have ih:=D9.slot_const tr (t:=t) (i:=i) d (by omega) (λj h1 h2=>hw j h1 (by omega));rw[← ih];have hlt:i+d<ops.length:=by omega
  obtain⟨_,b,h1,h2,h3⟩:=tr.step (i+d) ops[i+d] (AU hlt);have hnw:=hw (i+d) (by omega) (by omega);simp only[Cq,AU hlt,D2,Cv]at hnw;have hupd: ∀ v,AZ (sk (i+d)) ops[i+d].dst v t=sk (i+d) t:=by
   intro v;cases hdst:ops[i+d].dst with
   |none=>rfl
   |some dd=>
    simp only[AZ,CX];rw[A4];intro e;subst e;exact hnw hdst
  rw[show i+(d+1)=i+d+1 by omega];cases b with
  |false=>rw[(h2 rfl).1];exact hupd _
  |true=>rw[(h3 rfl).1];exact hupd _
theorem Bz.slot3(hd:HG ops)(tr:D9 P ow wf n ops base sk hk vk lt br){S:Nat->Bool}{i:Nat}{o:Oper}(r:Bz ops S i o){t:Nat}(ht:t∈Ea ops o):C6 ops sk S t=sk i t:=by
 have hi:i<ops.length:=(BC.1 r.at_).1;obtain⟨h1,h2,h3⟩:=FW (λj=>S j&&Cq ops t j) ops.length;unfold C6;generalize Dg (λj=>S j&&Cq ops t j) ops.length=m at*
 -- a writer of t that is not this operation comes before or behind it
 have ord: ∀ j,j<ops.length->j≠i->Cq ops t j=true->Go.AM.pre ops j i=true\/Go.AM.pre ops i j=true:=by
  intro j hj hne hw;simp only[Cq,AU hj,D2,BP]at hw;exact hd.slot j i _ o hne (AU hj) r.at_ t hw ht
 rcases CT i m with h4|h4
 ·-- a writer behind i has been done: none can be
  rcases h2 with h2|⟨k,h2,h5⟩
  ·omega
  ·simp only[AR]at h5;by_cases hki:k=i
   ·subst hki;rw[r.new]at h5;simp at h5
   ·rcases ord k (by omega) hki h5.2 with h6|h6
    ·have:=Jn hd i k hi h6;omega
    ·rw [r.not_pre (by omega) h5.1]at h6;simp at h6
 ·have:=tr.slot_const (t:=t) (i:=m) (i-m) (by omega) (λj h5 h6=>?_)
  ·rw [show m+(i-m)=i by omega]at this;exact this.symm
  ·cases hw:Cq ops t j with
   |false=>rfl
   |true=>
    have hns:=h3 j h5 (by omega);rw[hw,Cc]at hns;rcases ord j (by omega) (by omega) hw with h7|h7
    ·rw [r.bef h7]at hns;simp at hns
    ·have:=Jn hd j i (by omega) h7;omega
theorem Bz.next3(hd:HG ops)(tr:D9 P ow wf n ops base sk hk vk lt br){S S':Nat->Bool}{i:Nat}{o:Oper}(r:Bz ops S i o)(hs':S' i=true)(ho: ∀ j,j≠i->S' j=S j){x:PV}(hx:sk (i+1)=AZ (sk i) o.dst x):
  AZ (C6 ops sk S) o.dst x=C6 ops sk S':=by
 have hi:i<ops.length:=(BC.1 r.at_).1;funext t;have hwr:Cq ops t i=decide (o.dst=some t):=by simp[Cq,r.at_]
 by_cases ht:o.dst=some t
 ·have hl:t∈Ea ops o:=by simp[Ea,ht]
  have h1:AZ (C6 ops sk S) o.dst x t=x:=by rw[ht];simp[AZ,CX]
  have h2:sk (i+1) t=x:=by rw[hx,ht];simp[AZ,CX]
  rw[h1, ← h2];unfold C6;rw[Jm (m:=i+1) (by omega) (.inr ⟨i,rfl,by rw[hs',hwr];simp[ht]⟩)];intro j h3 h4;cases hw:Cq ops t j with
  |false=>simp
  |true=>
   cases hsj:S' j with
   |false=>simp
   |true=>
    rw[ho j (by omega)]at hsj;simp only[Cq,AU h4,D2,BP]at hw;rcases hd.slot j i _ o (by omega) (AU h4) r.at_ t hw hl with h7|h7
    ·have:=Jn hd i j hi h7;omega
    ·rw [r.not_pre h4 hsj]at h7;simp at h7
 ·have h1:AZ (C6 ops sk S) o.dst x t=C6 ops sk S t:=by
   cases hdst:o.dst with
   |none=>rfl
   |some d=>
    simp only[AZ,CX];rw[A4];intro e;subst e;exact ht hdst
  rw[h1];unfold C6;rw[LP ops.length (λj hj=>?_)];by_cases hji:j=i
  ·subst hji;rw[hwr];simp[ht]
  ·rw [ho j hji]
theorem P9{p:Nat->Bool}{H:A0}{m:Nat}:CZ lt p H (m+1)=match lt m with
  |some q=>if p m=true then(CZ lt p H m).set q.1 q.2 else CZ lt p H m
  |none=>CZ lt p H m:=rfl
theorem PA{p:Nat->Bool}{H:A0}: ∀ m,(CZ lt p H m).next=H.next
 |0=>rfl
 |m+1=>by
  unfold CZ;split
  ·split
   ·exact PA m
   ·exact PA m
  ·exact PA m
theorem LS{p q:Nat->Bool}{H:A0}: ∀ m,(∀ f,f<m->(lt f).isSome=true->p f=q f)->CZ lt p H m=CZ lt q H m
 |0,_=>rfl
 |m+1,h=>by
  have ih:=LS (H:=H) m (λf hf=>h f (by omega));unfold CZ;cases hl:lt m with
  |none=>exact ih
  |some x=>simp only[h m (by omega) (by rw[hl];try rfl),ih]
theorem LU{p:Nat->Bool}{H:A0}{m:Nat}: ∀ d,(∀ f,m<=f->f<m+d->(lt f).isSome=true->p f=false)->CZ lt p H (m+d)=CZ lt p H m
 |0,_=>rfl
 |d+1,h=>by
  have ih:=LU (H:=H) d (λf h1 h2=>h f h1 (by omega));rw[show m+(d+1)=m+d+1 by omega,P9];cases hl:lt (m+d)with
  |none=>exact ih
  |some x=>simp only[h (m+d) (by omega) (by omega) (by rw[hl];try rfl),BG,AP];exact ih
theorem ZJ{H:A0}{i j:Nat}{a b:Ab}(h:i≠j):(H.set i a).set j b=(H.set j b).set i a:=Fo rfl λk=>by
 simp only[A0.set];by_cases h1:k=i
 ·by_cases h2:k=j
  ·exact (h (h1 ▸ h2)).elim
  ·simp [h1,h]
 ·simp [h1]
theorem U5{p p':Nat->Bool}{H:A0}{x id:Nat}{ob:Ab}(hx:lt x=some (id,ob))(h1:p x=false)(h2:p' x=true)(h3: ∀ f,f≠x->p' f=p f): ∀ m,x<m->(∀ f q,x<f->f<m->p f=true->lt f=some q->q.1≠id)->CZ lt p' H m=(CZ lt p H m).set id ob
 |0,h,_=>by omega
 |m+1,h,h4=>by
  by_cases hm:m=x
  ·subst hm;unfold CZ;rw[hx];simp only[h1,h2,AH,BG,AP];rw[LS m (λf hf _=>h3 f (by omega))]
  ·have ih:=U5 hx h1 h2 h3 (H:=H) m (by omega) (λf q a b=>h4 f q a (by omega));unfold CZ;cases hl:lt m with
   |none=>exact ih
   |some q=>
    simp only[h3 m hm];split
    ·rename_i hp;rw[ih,ZJ (λe=>h4 m q (by omega) (by omega) hp hl e.symm)]
    ·exact ih
theorem Nc{p q:Nat->Bool}{H:A0}{id:Nat}: ∀ m,(∀ f x,f<m->lt f=some x->x.1=id->p f=q f)->(CZ lt p H m).obj id=(CZ lt q H m).obj id
 |0,_=>rfl
 |m+1,h=>by
  have ih:=Nc (H:=H) m (λf x hf=>h f x (by omega));unfold CZ;cases hl:lt m with
  |none=>exact ih
  |some x=>
   by_cases hx:x.1=id
   ·simp only[h m x (by omega) hl hx];split
    ·simp [A0.set,hx]
    ·exact ih
   ·have hx':¬ id=x.1:=λe=>hx e.symm;cases p m<;>cases q m<;>simp[A0.set,hx',ih]
theorem Nf{p:Nat->Bool}{H:A0}{id:Nat}: ∀ m,(∀ f x,f<m->p f=true->lt f=some x->x.1≠id)->(CZ lt p H m).obj id=H.obj id:=λm h=>by
 rw[Nc (q:=λ_=>false) m (λf x hf hl he=>by
  cases hp:p f with
  |false=>rfl
  |true=>exact(h f x hf hp hl he).elim)]
 have:=LU (lt:=lt) (p:=λ_=>false) (H:=H) (m:=0) m (λ_ _ _ _=>rfl);rw[Be]at this;rw[this];try rfl
theorem PB{H:A0}{l:List Nat}{id:Nat}{ob:Ab}:Az (H.set id ob) l=if l.contains id=true then Az H l else(Az H l).set id ob:=by
 split
 ·rename_i hc;refine Fo rfl λj=>?_;have hm:id∈l:=by simpa using hc
  simp only[Az,A0.set];by_cases hj:j=id
  ·subst hj;simp[hm]
  ·simp [hj]
 ·rename_i hc;refine Fo rfl λj=>?_;simp only[Az,A0.set];by_cases hj:j=id
  ·subst hj;simp only[hc,AH];simp
  ·simp [hj]
theorem PC{p q:Nat->Bool}{H:A0}{l:List Nat}: ∀ m,(∀ f x,f<m->lt f=some x->p f=q f\/x.1∈l)->Az (CZ lt p H m) l=Az (CZ lt q H m) l
 |0,_=>rfl
 |m+1,h=>by
  have ih:=PC (H:=H) m (λf x hf=>h f x (by omega));unfold CZ;cases hl:lt m with
  |none=>exact ih
  |some x=>
   rcases h m x (by omega) hl with he|he
   ·simp only[he];split
    ·rw [PB,PB,ih]
    ·exact ih
   ·have hc:l.contains x.1=true:=(by simpa using he);cases p m<;>cases q m<;>simp only[PB,hc,AH,ih,BG,AP]
theorem U6(b:Nat->Nat): ∀ (l:List Edge)(s i:Nat),(s.testBit i=true\/ ∃ e∈l,Region.binds .any e=true/\(i=e.on\/(b e.on).testBit i=true))->(l.foldl (λs e=>if Region.binds .any e then s|||2 ^ e.on|||b e.on else s) s).testBit i=true
 |[],s,i,h=>by
  rcases h with h|⟨e,he,_⟩
  ·exact h
  ·simp at he
 |e::l,s,i,h=>by
  simp only[L7];refine U6 b l _ i ?_;rcases h with h|⟨e',he',hb,hi⟩
  ·left;split
   ·simp [T7,h]
   ·exact h
  ·simp only[D7]at he';rcases he' with rfl|he'
   ·left;rw[AG hb];rcases hi with rfl|hi
    ·simp [T7,Nat.testBit_two_pow_self]
    ·simp [T7,hi]
   ·exact .inr ⟨e',he',hb,hi⟩
theorem ZK{i j:Nat}{o:Oper}{e:Edge}(ho:ops[j]? =some o)(he:e∈o.after.toList)(hb:Region.binds .any e=true)(hlt:e.on<j)(hi:i=e.on\/pre ops i e.on=true):pre ops i j=true:=by
 unfold pre at hi⊢;have hbb:Region.before ops.toArray=ops.foldl (λacc o=>acc.push (o.after.foldl (λs e=>if Region.binds .any e then s|||2 ^ e.on|||acc.getD e.on 0 else s) 0)) #[]:=by
  unfold Region.before;rw[← Oe]
 have h3:=(Qs (λacc o=>acc.push (o.after.foldl (λs e=>if Region.binds .any e then s|||2 ^ e.on|||acc.getD e.on 0 else s) 0))
  (λb o=>o.after.toList.foldl (λs e=>if Region.binds .any e then s|||2 ^ e.on|||b e.on else s) 0) (λacc o=>by rw[← Oe]) ops #[]).2.2 j o ho
 simp only[IW,Bw,Be]at h3;rw[← hbb]at h3;rw[h3];refine U6 (λm=>if m<j then(Region.before ops.toArray).getD m 0 else 0) _ _ _ (.inr ⟨e,he,hb,hi.imp id λh=>?_⟩);rw[AG hlt];exact h
theorem ZL(hd:HG ops): ∀ (c:Nat){a b:Nat},c<ops.length->pre ops a b=true->pre ops b c=true->pre ops a c=true:=by
 intro c
 induction c using Nat.strongRecOn with
 |_ c ih=>
  intro a b hc hab hbc;obtain⟨e,h1,h2,h3⟩:=MY (AU hc) hbc;have hlt:=hd.back c _ (AU hc) e h1 h2;refine ZK (AU hc) h1 h2 hlt (.inr ?_);rcases h3 with rfl|⟨_,h5⟩
  ·exact hab
  ·exact ih e.on hlt (by omega) hab h5
theorem Qz{α γ:Type}{f g:α->Option γ}: ∀ {l:List α},(∀ x∈l,f x=g x)->l.filterMap f=l.filterMap g
 |[],_=>rfl
 |x::l,h=>by
  have h1:=h x (by simp);have h2:=Qz (f:=f) (g:=g) (l:=l) (λy hy=>h y (by simp[hy]));simp only[YF,h1,h2]
def MB(br:Nat->Bool)(ops:List Oper)(S:Nat->Bool):Nat:=Dg (λj=>S j&&br j) ops.length
def dl(lt:Nat->Option (Nat × Ab))(br:Nat->Bool)(ops:List Oper)(S:Nat->Bool):List Nat:=(List.range ops.length).filterMap λf=>if(decide (f<MB br ops S)&&!(S f))=true then(lt f).map (·.1)else none
def Xs(lt:Nat->Option (Nat × Ab))(br:Nat->Bool)(ops:List Oper)(hk:Nat->A0)(S:Nat->Bool):A0:=CZ lt (λf=>decide (MB br ops S<=f)&&S f) (hk (MB br ops S)) ops.length
def Hs(lt:Nat->Option (Nat × Ab))(br:Nat->Bool)(ops:List Oper)(hk:Nat->A0)(S:Nat->Bool):A0:=Az (Xs lt br ops hk S) (dl lt br ops S)
theorem Ng{S:Nat->Bool}{j:Nat}(h1:MB br ops S<=j)(h2:j<ops.length)(h3:S j=true):br j=false:=by
 have:=(FW (λj=>S j&&br j) ops.length).2.2 j h1 h2;simpa[h3]using this
theorem PD{S:Nat->Bool}:MB br ops S=0\/ ∃ k,MB br ops S=k+1/\S k=true/\br k=true:=by
 rcases(FW (λj=>S j&&br j) ops.length).2.1 with h|⟨k,h1,h2⟩
 ·exact .inl h
 ·simp only[AR]at h2;exact .inr ⟨k,h1,h2⟩
theorem Jo{S:Nat->Bool}:MB br ops S<=ops.length:=(FW _ _).1
theorem I9{S:Nat->Bool}{id:Nat}:id∈dl lt br ops S↔ ∃ f q,f<ops.length/\f<MB br ops S/\S f=false/\lt f=some q/\q.1=id:=by
 unfold dl;rw[KG];constructor
 ·rintro ⟨f,hf,h1⟩;split at h1
  ·rename_i hc;simp only[AR,BP,E5]at hc;cases hl:lt f with
   |none=>simp[hl]at h1
   |some q=>simp[hl]at h1;exact⟨f,q,EY.1 hf,hc.1,hc.2,hl,h1⟩
  ·simp at h1
 ·rintro ⟨f,q,h1,h2,h3,h4,h5⟩;exact⟨f,EY.2 h1,by simp[h2,h3,h4,h5]⟩
theorem U7{H:A0}{l l':List Nat}(h: ∀ id∈l,id∈l'):Az (Az H l) l'=Az H l':=Fo rfl λj=>by
 simp only[Az];by_cases h1:j∈l'
 ·simp [h1]
 ·have:j ∉ l:=λh2=>h1 (h j h2);simp[h1,this]
theorem D9.excl(tr:D9 P ow wf n ops base sk hk vk lt br){j:Nat}(hj:j<ops.length):br j=true->lt j=none:=by
 intro hb;obtain⟨_,b,_,h1,h2⟩:=tr.step j ops[j] (AU hj);cases b with
 |false=>rw[(h1 rfl).2.2.2]at hb;simp at hb
 |true=>
  cases hw:B0 ow wf ops[j]with
  |false=>rw[((h2 rfl).2.1 hw).2.2.1]at hb;simp at hb
  |true=>
   rcases(h2 rfl).2.2 hw with h3|h3|h3
   ·exact h3.2.1
   ·rw [h3.1]at hb;simp at hb
   ·rw [h3.1]at hb;simp at hb
theorem D9.kind(tr:D9 P ow wf n ops base sk hk vk lt br){f:Nat}{q:Nat × Ab}(hf:f<ops.length)(hl:lt f=some q):
  br f=false/\hk (f+1)=(hk f).set q.1 q.2/\((Bl ow ops[f]=true/\q.1=base+f)\/(Bl ow ops[f]=false/\ ∀ g o,f<g->ops[g]? =some o->Bl ow o=true->base+g≠q.1)):=by
 obtain⟨_,b,_,h1,h2⟩:=tr.step f ops[f] (AU hf);cases b with
 |false=>rw[(h1 rfl).2.2.1]at hl;simp at hl
 |true=>
  cases hw:B0 ow wf ops[f]with
  |false=>rw[((h2 rfl).2.1 hw).2.1]at hl;simp at hl
  |true=>
   rcases(h2 rfl).2.2 hw with h3|h3|h3
   ·rw [h3.2.1]at hl;simp at hl
   ·obtain ⟨k1,k2,ob,k3,_,k4⟩:=h3;rw[k3]at hl;simp at hl;subst hl;exact⟨k1,k4,.inl ⟨k2,rfl⟩⟩
   ·obtain ⟨k1,t,x,y,id,r,ff,ob,k2,_,k3,k4,k5,_⟩:=h3;rw[k3]at hl;simp at hl;subst hl;exact⟨k1,k4,.inr ⟨by unfold Bl;rw[k2],k5⟩⟩
theorem D9.hstep(tr:D9 P ow wf n ops base sk hk vk lt br){j:Nat}(hj:j<ops.length)(hb:br j=false):hk (j+1)=match lt j with
  |some q=>(hk j).set q.1 q.2
  |none=>hk j:=by
 cases hl:lt j with
 |some q=>exact(tr.kind hj hl).2.1
 |none=>
  obtain⟨_,b,_,h1,h2⟩:=tr.step j ops[j] (AU hj);cases b with
  |false=>exact(h1 rfl).2.1
  |true=>
   cases hw:B0 ow wf ops[j]with
   |false=>exact((h2 rfl).2.1 hw).1
   |true=>
    rcases(h2 rfl).2.2 hw with h3|h3|h3
    ·rw [h3.1]at hb;simp at hb
    ·obtain ⟨_,_,ob,h4,_,_⟩:=h3;rw[h4]at hl;simp at hl
    ·obtain ⟨_,t,x,y,id,r,f,ob,_,_,h4,_,_⟩:=h3;rw[h4]at hl;simp at hl
theorem D9.seg(tr:D9 P ow wf n ops base sk hk vk lt br){M:Nat}: ∀ d,M+d<=ops.length->(∀ j,M<=j->j<M+d->br j=false)->hk (M+d)=CZ lt (λf=>decide (M<=f)) (hk M) (M+d)
 |0,_,_=>by
  have:=LU (lt:=lt) (p:=λf=>decide (M<=f)) (H:=hk M) (m:=0) M (λf _ hf _=>by simp;omega);rw[Be]at this;rw[Fi,this];try rfl
 |d+1,hd,hn=>by
  have ih:=D9.seg tr d (by omega) (λj h1 h2=>hn j h1 (by omega));have hs:=tr.hstep (j:=M+d) (by omega) (hn (M+d) (by omega) (by omega));rw[show M+(d+1)=M+d+1 by omega,hs];unfold CZ;cases hl:lt (M+d)with
  |none=>simp only;rw[← ih]
  |some q=>simp only[show decide (M<=M+d)=true by simp,AH];rw[← ih]
theorem D9.segL(tr:D9 P ow wf n ops base sk hk vk lt br){M i:Nat}(h1:M<=i)(h2:i<=ops.length)(hn: ∀ j,M<=j->j<i->br j=false):hk i=CZ lt (λf=>decide (M<=f)&&decide (f<i)) (hk M) ops.length:=by
 have h3:=tr.seg (M:=M) (i-M) (by omega) (λj a c=>hn j a (by omega));rw[show M+(i-M)=i by omega]at h3;obtain⟨d,hdd⟩: ∃ d,ops.length=i+d:=⟨ops.length-i,by omega⟩;rw[h3,hdd,LU d (λf a _ _=>by simp;omega)];exact LS _ λf hf _=>by simp[hf]
theorem D9.noneH(tr:D9 P ow wf n ops base sk hk vk lt br)(h0: ∀ f,(hk 0).obj (base+f)=none): ∀ j,j<=ops.length-> ∀ f q,j<=f->ops[f]? =some q->Bl ow q=true->(hk j).obj (base+f)=none
 |0,_,f,_,_,_,_=>h0 f
 |j+1,hj,f,q,hle,hq,ha=>by
  have ih:=D9.noneH tr h0 j (by omega) f q (by omega) hq ha;obtain⟨_,b,_,h1,h2⟩:=tr.step j ops[j] (AU (by omega));cases b with
  |false=>rw[(h1 rfl).2.1];exact ih
  |true=>
   cases hw:B0 ow wf ops[j]with
   |false=>rw[((h2 rfl).2.1 hw).1];exact ih
   |true=>
    rcases(h2 rfl).2.2 hw with h3|h3|h3
    ·exact h3.2.2.2 f q (by omega) hq ha
    ·obtain ⟨_,_,ob,_,_,h5⟩:=h3;rw[h5];simp only[A0.set];rw[A4 (by omega)];exact ih
    ·obtain ⟨_,t,x,y,id,r,f',ob,_,_,h4,h5,h6,_⟩:=h3;rw[h5];simp only[A0.set];rw[A4 (h6 f q (by omega) hq ha)];exact ih
theorem Ma{x f:Nat}{q:Nat × Ab}(hf:f<ops.length)(h0:x≠f)(h2:pre ops f x=false)(h1:pre ops x f=false\/Bl ow ops[f]=true)(hl:lt f=some q):q.1∈kx ow ops lt x:=by
 unfold kx;rw[KG];refine⟨f,EY.2 hf,?_⟩;rw[AU hf];rcases h1 with h1|h1<;>simp[h0,h1,h2,hl]
theorem U8{x id:Nat}(h:id∈kx ow ops lt x): ∃ f q, ∃ hf:f<ops.length,x≠f/\pre ops f x=false/\(pre ops x f=false\/Bl ow ops[f]=true)/\lt f=some q/\q.1=id:=by
 unfold kx at h;rw[KG]at h;obtain⟨f,hf,h1⟩:=h;have hf':=EY.1 hf;split at h1
 ·rename_i hc;rw[AU hf']at hc;simp only[AR,DG,E5,NG,Option.any_some]at hc;cases hl:lt f with
  |none=>simp[hl]at h1
  |some q=>simp[hl]at h1;exact⟨f,q,hf',hc.1.1,hc.1.2,hc.2,hl,h1⟩
 ·simp at h1
theorem Bz.closedB(tr:D9 P ow wf n ops base sk hk vk lt br){S:Nat->Bool}{i:Nat}{o:Oper}(r:Bz ops S i o){b:Nat}(hb:b<MB br ops S)(hbr:br b=true):S b=true:=by
 rcases PD (br:=br) (ops:=ops) (S:=S)with h|⟨k,h1,h2,h3⟩
 ·omega
 ·have hkl:k<ops.length:=by have:=Jo (br:=br) (ops:=ops) (S:=S);omega
  by_cases hbk:b=k
  ·rw [hbk];exact h2
  ·rcases tr.ww b k (by omega) hkl (.inl hbr) (.inl h3)with h5|⟨p,q,_,h5,_⟩|⟨_,h5,_⟩|⟨h5,_⟩
   ·exact r.closed.pre k b hkl h2 h5
   ·rw [tr.excl hkl h3]at h5;simp at h5
   ·rw [tr.excl hkl h3]at h5;simp at h5
   ·rw [tr.excl (by omega) hbr]at h5;simp at h5
theorem Bz.early(tr:D9 P ow wf n ops base sk hk vk lt br){S:Nat->Bool}{i:Nat}{o:Oper}(r:Bz ops S i o){f:Nat}{q:Nat × Ab}(hf:f<MB br ops S)(hs:S f=false)(hl:lt f=some q): ∃ hf:f<ops.length,Bl ow ops[f]=true/\q.1=base+f:=by
 rcases PD (br:=br) (ops:=ops) (S:=S)with h|⟨k,h1,h2,h3⟩
 ·omega
 ·have hkl:k<ops.length:=by have:=Jo (br:=br) (ops:=ops) (S:=S);omega
  have hfl:f<ops.length:=by omega
  have hfk:f≠k:=λe=>by rw[e,h2]at hs;simp at hs
  refine⟨hfl,?_⟩;have hA:Bl ow ops[f]=true:=by
   rcases tr.ww f k (by omega) hkl (.inr (by rw[hl];try rfl)) (.inl h3)with h5|⟨p,q',_,h5,_⟩|⟨_,h5,_⟩|⟨_,_,o2,h5,h6⟩
   ·rw [r.closed.pre k f hkl h2 h5]at hs;simp at hs
   ·rw [tr.excl hkl h3]at h5;simp at h5
   ·rw [tr.excl hkl h3]at h5;simp at h5
   ·rw [AU hfl]at h5;simp at h5;rw[h5];exact h6
  refine⟨hA,?_⟩;rcases(tr.kind hfl hl).2.2 with h5|h5
  ·exact h5.2
  ·rw [h5.1]at hA;simp at hA
theorem Bz.mb(tr:D9 P ow wf n ops base sk hk vk lt br){S:Nat->Bool}{i:Nat}{o:Oper}(r:Bz ops S i o)(hw:br i=true\/((lt i).isSome=true/\Bl ow o=false)):MB br ops S<=i:=by
 rcases PD (br:=br) (ops:=ops) (S:=S)with h|⟨k,h1,h2,h3⟩
 ·omega
 ·rcases CT i (MB br ops S)with h4|h4
  ·have hki:k≠i:=(by intro e;subst e;rw[r.new]at h2;simp at h2);have hkl:k<ops.length:=(by have:=Jo (br:=br) (ops:=ops) (S:=S);omega);rcases tr.ww i k (by omega) hkl (hw.imp id (·.1)) (.inl h3)with h5|⟨p,q,_,h5,_⟩|⟨_,h5,_⟩|⟨h5,_,o2,h6,h7⟩
   ·rw [r.not_pre hkl h2]at h5;simp at h5
   ·rw [tr.excl hkl h3]at h5;simp at h5
   ·rw [tr.excl hkl h3]at h5;simp at h5
   ·rw [r.at_]at h6;simp at h6;subst h6;rcases hw with hw|hw
    ·rw [tr.excl (by omega) hw]at h5;simp at h5
    ·rw [h7]at hw;simp at hw
  ·exact h4
theorem LV{S S':Nat->Bool}{i:Nat}(hw:br i=false)(ho: ∀ j,j≠i->S' j=S j):MB br ops S'=MB br ops S:=by
 unfold MB;refine LP ops.length λj hj=>?_;by_cases hji:j=i
 ·subst hji;simp[hw]
 ·rw [ho j hji]
theorem U9{S S':Nat->Bool}{i:Nat}(hb:br i=false)(hl:lt i=none)(ho: ∀ j,j≠i->S' j=S j):Hs lt br ops hk S'=Hs lt br ops hk S:=by
 have h1:Xs lt br ops hk S'=Xs lt br ops hk S:=by
  unfold Xs;rw[LV hb ho];refine LS _ λf hf hs=>?_;have:f≠i:=λe=>by rw[e,hl]at hs;simp at hs
  rw[ho f this]
 have h2:dl lt br ops S'=dl lt br ops S:=by
  unfold dl;rw[LV hb ho];refine Qz λf hf=>?_;by_cases hfi:f=i
  ·rw [hfi,hl];simp
  ·rw [ho f hfi]
 unfold Hs;rw[h1,h2]
theorem Bz.dl_kx(tr:D9 P ow wf n ops base sk hk vk lt br){S:Nat->Bool}{i:Nat}{o:Oper}(r:Bz ops S i o)(hli:lt i=none): ∀ id∈dl lt br ops S,id∈kx ow ops lt i:=by
 intro id hid;obtain⟨f,q,h1,h2,h3,h4,h5⟩:=I9.1 hid;obtain⟨_,hA,_⟩:=r.early tr h2 h3 h4;rw[← h5];refine Ma h1 (λe=>by rw[← e,hli]at h4;simp at h4) ?_ (.inr hA) h4;cases hp:Go.AM.pre ops f i with
 |false=>rfl
 |true=>rw[r.bef hp]at h3;simp at h3
theorem Bz.quiet(hd:HG ops)(tr:D9 P ow wf n ops base sk hk vk lt br){S:Nat->Bool}{i:Nat}{o:Oper}(r:Bz ops S i o)(hli:lt i=none):TN ops br i (MB br ops S)/\ ∀ l,(∀ id∈kx ow ops lt i,id∈l)->Az (Hs lt br ops hk S) l=gx ops lt hk i (MB br ops S) l:=by
 refine⟨⟨Jo,λb hb hbr=>?_,λb hb hbr=>?_,?_⟩,?_⟩
 ·exact r.not_pre (by have:=Jo (br:=br) (ops:=ops) (S:=S);omega) (r.closedB tr hb hbr)
 ·cases hp:Go.AM.pre ops b i with
  |false=>rfl
  |true=>
   have hil:i<ops.length:=(BC.1 r.at_).1;have hbi:=Jn hd i b hil hp;rw[Ng hb (by omega) (r.bef hp)]at hbr;simp at hbr
 ·rcases PD (br:=br) (ops:=ops) (S:=S)with h|⟨k,h1,h2,h3⟩
  ·exact .inl h
  ·exact .inr (by rw[h1];exact h3)
 ·intro l hkl;unfold Hs gx;rw[U7 (λid hid=>hkl id (r.dl_kx tr hli id hid))];unfold Xs;refine PC _ λf x hf hl=>?_;by_cases hM:MB br ops S<=f
  ·simp only[hM,Qa,B8];cases hp:Go.AM.pre ops f i with
   |true=>exact .inl (r.bef hp)
   |false=>
    cases hs:S f with
    |false=>exact .inl rfl
    |true=>
     refine .inr (hkl _<|Ma hf (λe=>by rw[← e,r.new]at hs;simp at hs) hp (.inl (r.not_pre hf hs)) hl)
  ·exact .inl (by simp[hM])
theorem Bz.others(tr:D9 P ow wf n ops base sk hk vk lt br){S:Nat->Bool}{i id:Nat}{ob:Ab}{o:Oper}(r:Bz ops S i o)(hl:lt i=some (id,ob)):
  ∀ f q,f<ops.length->S f=true->lt f=some q->i<f->q.1≠id:=by
 have hil:i<ops.length:=(BC.1 r.at_).1;have hb:br i=false:=(tr.kind hil hl).1;intro f q hf hs hlf hif;rcases tr.ww i f hif hf (.inr (by rw[hl];try rfl)) (.inr (by rw[hlf];try rfl))with h5|⟨p,q',h5,h6,h7⟩|⟨h5,_⟩|⟨_,h5,_⟩
 ·rw [r.not_pre hf hs]at h5;simp at h5
 ·rw [hl]at h5;rw[hlf]at h6;simp at h5 h6;subst h5;subst h6;exact λe=>h7 e.symm
 ·rw [hb]at h5;simp at h5
 ·rw [tr.excl hf h5]at hlf;simp at hlf
theorem Bz.light(tr:D9 P ow wf n ops base sk hk vk lt br){S S':Nat->Bool}{i id:Nat}{ob:Ab}{o:Oper}(r:Bz ops S i o)(hl:lt i=some (id,ob))(hM:MB br ops S<=i)(hid:id ∉ dl lt br ops S)(hs':S' i=true)(ho: ∀ j,j≠i->S' j=S j):
  Hs lt br ops hk S'=(Hs lt br ops hk S).set id ob:=by
 have hil:i<ops.length:=(BC.1 r.at_).1;have hb:br i=false:=(tr.kind hil hl).1;have h1:Xs lt br ops hk S'=(Xs lt br ops hk S).set id ob:=by
  unfold Xs;rw[LV hb ho];refine U5 hl (by simp[r.new]) (by simp[hM,hs']) (λf hf=>by rw[ho f hf]) _ hil (λf q hif hfl hp hlf=>?_);simp only[AR,BP]at hp;exact r.others tr hl f q hfl hp.2 hlf hif
 have h2:dl lt br ops S'=dl lt br ops S:=by
  unfold dl;rw[LV hb ho];refine Qz λf hf=>?_;by_cases hfi:f=i
  ·rw [hfi];simp[show ¬ i<MB br ops S by omega]
  ·rw [ho f hfi]
 unfold Hs;rw[h1,h2,PB,A4 (by simpa using hid)]
theorem D9.stays(tr:D9 P ow wf n ops base sk hk vk lt br){S:Nat->Bool}{i:Nat}{ob:Ab}{o:Oper}(r:Bz ops S i o)(hd:HG ops)(hl:lt i=some (base+i,ob)): ∀ d,i+1+d<=MB br ops S->(hk (i+1+d)).obj (base+i)=some ob
 |0,hle=>by
  have hil:i<ops.length:=(BC.1 r.at_).1;rw[Fi,(tr.kind hil hl).2.1];simp[A0.set]
 |d+1,hle=>by
  have hil:i<ops.length:=(BC.1 r.at_).1;have hML:=Jo (br:=br) (ops:=ops) (S:=S);have ih:=D9.stays tr r hd hl d (by omega);have hjl:i+1+d<ops.length:=by omega
  rw[show i+1+(d+1)=i+1+d+1 by omega];cases hb:br (i+1+d)with
  |true=>
   obtain⟨_,b,_,h1,h2⟩:=tr.step (i+1+d) ops[i+1+d] (AU hjl);cases b with
   |false=>rw[(h1 rfl).2.2.2]at hb;simp at hb
   |true=>
    cases hw:B0 ow wf ops[i+1+d]with
    |false=>rw[((h2 rfl).2.1 hw).2.2.1]at hb;simp at hb
    |true=>
     rcases(h2 rfl).2.2 hw with h3|h3|h3
     ·obtain ⟨_,_,⟨H',_,_,h4⟩,_⟩:=h3;have hS:=r.closedB tr (by omega) hb;have hk1:base+i∈kx ow ops lt (i+1+d):=by
       refine Ma (q:=(base+i,ob)) hil (by omega) (r.not_pre hjl hS) ?_ hl;left;cases hp:Go.AM.pre ops (i+1+d) i with
       |false=>rfl
       |true=>have:=Jn hd i _ hil hp;omega
      rw[h4];simp only[CD];rw[AG ⟨by simpa using hk1,by rw[ih];try rfl⟩];exact ih
     ·rw [h3.1]at hb;simp at hb
     ·rw [h3.1]at hb;simp at hb
  |false=>
   rw[tr.hstep hjl hb];cases hlf:lt (i+1+d)with
   |none=>exact ih
   |some q=>
    simp only[A0.set];rw[A4]
    ·exact ih
    ·intro e
     -- a store into it stands behind it, and before the last one that closes
     rcases tr.ww i (i+1+d) (by omega) hjl (.inr (by rw[hl];try rfl)) (.inr (by rw[hlf];try rfl))with h5|⟨p,q',h5,h6,h7⟩|⟨h5,_⟩|⟨_,h5,_⟩
     ·cases hs:S (i+1+d)with
      |true=>rw[r.not_pre hjl hs]at h5;simp at h5
      |false=>
       obtain⟨_,_,h9⟩:=r.early tr (by omega) hs hlf;omega
     ·rw [hl]at h5;rw[hlf]at h6;simp at h5 h6;subst h5;subst h6;exact h7 e
     ·rw [(tr.kind hil hl).1]at h5;simp at h5
     ·rw [hb]at h5;simp at h5
theorem Bz.newA(hd:HG ops)(tr:D9 P ow wf n ops base sk hk vk lt br)(h0: ∀ f,(hk 0).obj (base+f)=none){S S':Nat->Bool}{i:Nat}{ob:Ab}{o:Oper}(r:Bz ops S i o)(hA:Bl ow o=true)(hl:lt i=some (base+i,ob))(hs':S' i=true)(ho: ∀ j,j≠i->S' j=S j):
  Hs lt br ops hk S'=(Hs lt br ops hk S).set (base+i) ob/\(Hs lt br ops hk S).obj (base+i)=none:=by
 have hil:i<ops.length:=(BC.1 r.at_).1;have hb:br i=false:=(tr.kind hil hl).1
 -- no change that has been done is of this object
 have oth: ∀ f q,f<ops.length->S f=true->lt f=some q->q.1≠base+i:=by
  intro f q hf hs hlf;have hfi:f≠i:=λe=>by rw[e,r.new]at hs;simp at hs
  rcases CT i f with h1|h1
  ·exact r.others tr hl f q hf hs hlf h1
  ·rcases (tr.kind hf hlf).2.2 with h2|h2
   ·rw [h2.2];omega
   ·exact λe=>h2.2 i o (by omega) r.at_ hA e.symm
 have dlO: ∀ f q,f<MB br ops S->S f=false->lt f=some q->q.1=base+i->f=i:=by
  intro f q h1 h2 h3 h4;obtain⟨_,_,h5⟩:=r.early tr h1 h2 h3;omega
 have hX:(Xs lt br ops hk S).obj (base+i)=(hk (MB br ops S)).obj (base+i):=by
  unfold Xs;refine Nf _ λf q hf hp hlf=>?_;simp only[AR]at hp;exact oth f q hf hp.2 hlf
 rcases CT i (MB br ops S)with hM|hM
 ·have hin:base+i∈dl lt br ops S:=I9.2 ⟨i,_,hil,hM,r.new,hl,rfl⟩;have hnone:(Hs lt br ops hk S).obj (base+i)=none:=by
   unfold Hs;simp only[Az];rw[AG (by simpa using hin)]
  refine⟨?_,hnone⟩;have hXX:Xs lt br ops hk S'=Xs lt br ops hk S:=by
   unfold Xs;rw[LV hb ho];refine LS _ λf hf _=>?_;by_cases hfi:f=i
   ·rw [hfi];simp[show ¬ MB br ops S<=i by omega]
   ·rw [ho f hfi]
  have hst:(hk (MB br ops S)).obj (base+i)=some ob:=by
   have:=tr.stays r hd hl (MB br ops S-(i+1)) (by omega)
   rwa [show i+1+(MB br ops S-(i+1))=MB br ops S by omega]at this
  refine Fo (by unfold Hs;rw[hXX];try rfl) λj=>?_;unfold Hs;rw[hXX];simp only[Az,A0.set];by_cases hj:j=base+i
  ·rw [AG hj,A4,hj,hX,hst];rw[hj];intro hc;obtain⟨f,q,h1,h2,h3,h4,h5⟩:=I9.1 (by simpa using hc);rw[LV hb ho]at h2;by_cases hfi:f=i
   ·rw [hfi,hs']at h3;simp at h3
   ·rw [ho f hfi]at h3;exact hfi (dlO f q h2 h3 h4 h5)
  ·rw [A4 hj];have e:(dl lt br ops S').contains j=(dl lt br ops S).contains j:=by
    rw[YG,NF,NF,I9,I9,LV hb ho];constructor
    ·rintro ⟨f,q,h1,h2,h3,h4,h5⟩;have hfi:f≠i:=λe=>(by rw[e,hs']at h3;simp at h3);exact⟨f,q,h1,h2,by rw[← ho f hfi];exact h3,h4,h5⟩
    ·rintro ⟨f,q,h1,h2,h3,h4,h5⟩;have hfi:f≠i:=λe=>by
      rw[e,hl]at h4;simp at h4;rw[← h4]at h5;exact hj h5.symm
     exact⟨f,q,h1,h2,by rw[ho f hfi];exact h3,h4,h5⟩
   rw[e]
 ·have hnd:base+i ∉ dl lt br ops S:=by
   intro hc;obtain⟨f,q,h1,h2,h3,h4,h5⟩:=I9.1 hc;have:=dlO f q h2 h3 h4 h5;omega
  refine⟨r.light tr hl hM hnd hs' ho,?_⟩;unfold Hs;simp only[Az];rw[A4 (by simpa using hnd),hX];exact tr.noneH h0 _ Jo i o hM r.at_ hA
theorem Bz.stored(tr:D9 P ow wf n ops base sk hk vk lt br){S:Nat->Bool}{i id:Nat}{ob:Ab}{o:Oper}(r:Bz ops S i o)(hA:Bl ow o=false)(hl:lt i=some (id,ob)):
  MB br ops S<=i/\id ∉ dl lt br ops S/\(Hs lt br ops hk S).obj id=(hk i).obj id:=by
 have hil:i<ops.length:=(BC.1 r.at_).1;have hb:br i=false:=(tr.kind hil hl).1;have hM:=r.mb tr (.inr ⟨by rw[hl];try rfl,hA⟩);have ord: ∀ f q,f<i->lt f=some q->q.1=id->S f=true:=by
  intro f q hf hlf he;rcases tr.ww f i hf hil (.inr (by rw[hlf];try rfl)) (.inr (by rw[hl];try rfl))with h6|⟨p,q',h6,h7,h8⟩|⟨h6,_⟩|⟨_,h6,_⟩
  ·exact r.bef h6
  ·rw [hlf]at h6;rw[hl]at h7;simp at h6 h7;subst h6;subst h7;exact(h8 he).elim
  ·rw [tr.excl (by omega) h6]at hlf;simp at hlf
  ·rw [hb]at h6;simp at h6
 have hnd:id ∉ dl lt br ops S:=by
  intro hc;obtain⟨f,q,h1,h2,h3,h4,h5⟩:=I9.1 hc;rw[ord f q (by omega) h4 h5]at h3;simp at h3
 refine⟨hM,hnd,?_⟩;have hnb: ∀ b,MB br ops S<=b->b<i->br b=false:=by
  intro b h1 h2;cases hbb:br b with
  |false=>rfl
  |true=>
   rcases tr.ww b i h2 hil (.inl hbb) (.inr (by rw[hl];try rfl))with h5|⟨p,q,h5,_,_⟩|⟨_,_,o2,h5,h6⟩|⟨h5,_⟩
   ·rw [Ng h1 (by omega) (r.bef h5)]at hbb;simp at hbb
   ·rw [tr.excl (by omega) hbb]at h5;simp at h5
   ·rw [r.at_]at h5;simp at h5;subst h5;rw[hA]at h6;simp at h6
   ·rw [tr.excl (by omega) hbb]at h5;simp at h5
 unfold Hs;simp only[Az];rw[A4 (by simpa using hnd),tr.segL hM (by omega) hnb];unfold Xs;refine Nc _ λf q hf hlf he=>?_;by_cases hMf:MB br ops S<=f
 ·rcases T8 f i with h5|h5|h5
  ·simp only[ord f q h5 hlf he,h5,Qa,Cc]
  ·rw [h5];simp only[r.new,BD,YH,QZ]
  ·have hsf:S f=false:=by
    cases hx2:S f with
    |false=>rfl
    |true=>exact(r.others tr hl f q hf hx2 hlf h5 he).elim
   simp only[hsf,show ¬ f<i by omega,QZ,BD]
 ·simp only[hMf,QZ,B9]
theorem UA{p:Nat->Bool}{H H':A0}{id:Nat}: ∀ m,(∃ f x,f<m/\p f=true/\lt f=some x/\x.1=id)->(CZ lt p H m).obj id=(CZ lt p H' m).obj id/\((CZ lt p H m).obj id).isSome=true
 |0,⟨f,_,hf,_⟩=>by omega
 |m+1,⟨f,x,hf,hp,hl,he⟩=>by
  rw[P9,P9];by_cases hfm:f=m
  ·subst hfm;rw[hl];simp only[hp,AH];simp[A0.set,he]
  ·have ih:=UA (H:=H) (H':=H') m ⟨f,x,by omega,hp,hl,he⟩;cases hlm:lt m with
   |none=>exact ih
   |some y=>
    simp only;split
    ·by_cases hy:id=y.1
     ·simp [A0.set,hy]
     ·simp only[A0.set,hy,AP];exact ih
    ·exact ih
theorem Bz.barrier(hd:HG ops)(tr:D9 P ow wf n ops base sk hk vk lt br)(h0: ∀ f,(hk 0).obj (base+f)=none){S S':Nat->Bool}{i:Nat}{o:Oper}(r:Bz ops S i o)(hb:br i=true){H':A0}(hH: ∀ id∈kx ow ops lt i,H'.obj id=none)(hki1:hk (i+1)=CD H' (hk i) (kx ow ops lt i))(hs':S' i=true)(ho: ∀ j,j≠i->S' j=S j):
  Az (Hs lt br ops hk S) (kx ow ops lt i)=Az (hk i) (kx ow ops lt i)/\CD H' (Hs lt br ops hk S) (kx ow ops lt i)=Hs lt br ops hk S':=by
 have hil:i<ops.length:=(BC.1 r.at_).1;have hli:lt i=none:=tr.excl hil hb;have hM:=r.mb tr (.inl hb);have hnb: ∀ b,MB br ops S<=b->b<i->br b=false:=by
  intro b h1 h2;cases hbb:br b with
  |false=>rfl
  |true=>
   rcases tr.ww b i h2 hil (.inl hbb) (.inl hb)with h5|⟨p,q,_,h5,_⟩|⟨_,h5,_⟩|⟨h5,_⟩
   ·rw [Ng h1 (by omega) (r.bef h5)]at hbb;simp at hbb
   ·rw [hli]at h5;simp at h5
   ·rw [hli]at h5;simp at h5
   ·rw [tr.excl (by omega) hbb]at h5;simp at h5
 have hki:=tr.segL hM (by omega) hnb
 -- the changes apart from this one
 have inK: ∀ f q,f<ops.length->lt f=some q->(f<i->S f=false)->(i<f->S f=true)->q.1∈kx ow ops lt i:=by
  intro f q hf hl h1 h2;have hne:i≠f:=λe=>by rw[← e,hli]at hl;simp at hl
  rcases CT f i with h3|h3
  ·refine Ma hf hne ?_ (.inl ?_) hl
   ·cases hp:Go.AM.pre ops f i with
    |false=>rfl
    |true=>have:=r.bef hp;rw[h1 h3]at this;simp at this
   ·cases hp:Go.AM.pre ops i f with
    |false=>rfl
    |true=>have:=Jn hd f i hf hp;omega
  ·refine Ma hf hne ?_ (.inl (r.not_pre hf (h2 (by omega)))) hl;cases hp:Go.AM.pre ops f i with
   |false=>rfl
   |true=>have:=Jn hd i f hil hp;omega
 have kxA: ∀ id∈kx ow ops lt i, ∃ f q, ∃ hf:f<ops.length,f≠i/\Bl ow ops[f]=true/\lt f=some q/\q.1=id/\id=base+f/\Go.AM.pre ops f i=false:=by
  intro id hid;obtain⟨f,q,hf,h2,h3,h4,h5,h6⟩:=U8 hid;have hA:Bl ow ops[f]=true:=by
   rcases h4 with h4|h4
   ·rcases T8 f i with h7|h7|h7
    ·rcases tr.ww f i h7 hil (.inr (by rw[h5];try rfl)) (.inl hb)with h8|⟨_,_,_,h8,_⟩|⟨_,h8,_⟩|⟨_,_,o2,h8,h9⟩
     ·rw [h8]at h3;simp at h3
     ·rw [hli]at h8;simp at h8
     ·rw [hli]at h8;simp at h8
     ·rw [AU hf]at h8;simp at h8;rw[h8];exact h9
    ·exact (h2 h7.symm).elim
    ·rcases tr.ww i f h7 hf (.inl hb) (.inr (by rw[h5];try rfl))with h8|⟨_,_,h8,_⟩|⟨_,_,o2,h8,h9⟩|⟨h8,_⟩
     ·rw [h8]at h4;simp at h4
     ·rw [hli]at h8;simp at h8
     ·rw [AU hf]at h8;simp at h8;rw[h8];exact h9
     ·rw [hli]at h8;simp at h8
   ·exact h4
  rcases(tr.kind hf h5).2.2 with h7|h7
  ·exact ⟨f,q,hf,λe=>h2 e.symm,hA,h5,h6,by rw[← h6];exact h7.2,h3⟩
  ·rw [h7.1]at hA;simp at hA
 -- a change of such an object is that one, or stands behind this operation
 have uniq: ∀ f q g x,(hf:f<ops.length)->Bl ow ops[f]=true->lt f=some q->q.1=base+f->Go.AM.pre ops f i=false->(hg:g<ops.length)->lt g=some x->x.1=base+f->g≠f->i<g/\S g=false:=by
  intro f q g x hf hfA hlf hq hpf hg hlg hx hgf;have hgA:Bl ow ops[g]=false:=by
   rcases(tr.kind hg hlg).2.2 with h1|h1
   ·rw [h1.2]at hx;omega
   ·exact h1.1
  have hfg:f<g:=by
   rcases CT g f with h1|h1
   ·rcases (tr.kind hg hlg).2.2 with h3|h3
    ·rw [h3.1]at hgA;simp at hgA
    ·exact (h3.2 f ops[f] (by omega) (AU hf) hfA (by rw[hx])).elim
   ·omega
  have hpre:Go.AM.pre ops f g=true:=by
   rcases tr.ww f g hfg hg (.inr (by rw[hlf];try rfl)) (.inr (by rw[hlg];try rfl))with h5|⟨p,q',h5,h6,h7⟩|⟨h5,_⟩|⟨_,h5,_⟩
   ·exact h5
   ·rw [hlf]at h5;rw[hlg]at h6;simp at h5 h6;subst h5;subst h6;exact(h7 (by rw[hq,hx])).elim
   ·rw [tr.excl hf h5]at hlf;simp at hlf
   ·rw [tr.excl hg h5]at hlg;simp at hlg
  have hgi:g≠i:=λe=>by rw[e,hli]at hlg;simp at hlg
  have hig:i<g:=by
   rcases CT i g with h1|h1
   ·exact h1
   ·rcases tr.ww g i (by omega) hil (.inr (by rw[hlg];try rfl)) (.inl hb)with h8|⟨_,_,_,h8,_⟩|⟨_,h8,_⟩|⟨_,_,o2,h8,h9⟩
    ·rw [ZL hd i hil hpre h8]at hpf;simp at hpf
    ·rw [hli]at h8;simp at h8
    ·rw [hli]at h8;simp at h8
    ·rw [AU hg]at h8;simp at h8;rw[h8,h9]at hgA;simp at hgA
  refine⟨hig,?_⟩;cases hsg:S g with
  |false=>rfl
  |true=>
   rcases tr.ww i g hig hg (.inl hb) (.inr (by rw[hlg];try rfl))with h8|⟨_,_,h8,_⟩|⟨_,_,o2,h8,h9⟩|⟨h8,_⟩
   ·rw [r.not_pre hg hsg]at h8;simp at h8
   ·rw [hli]at h8;simp at h8
   ·rw [AU hg]at h8;simp at h8;rw[h8,h9]at hgA;simp at hgA
   ·rw [hli]at h8;simp at h8
 refine⟨?_,?_⟩
 ·unfold Hs;rw[U7 (r.dl_kx tr hli)];unfold Xs;rw[hki];refine PC _ λf q hf hl=>?_;by_cases hMf:MB br ops S<=f
  ·simp only[hMf,Qa,B8];have hne:f≠i:=λe=>(by rw[e,hli]at hl;simp at hl);cases hs:S f with
   |true=>
    rcases CT f i with h1|h1
    ·exact .inl (by simp[h1])
    ·exact .inr (inK f q hf hl (λh2=>by omega) (λ_=>hs))
   |false=>
    rcases CT f i with h1|h1
    ·exact .inr (inK f q hf hl (λ_=>hs) (λh2=>by omega))
    ·exact .inl (by simp;omega)
  ·exact .inl (by simp[hMf])
 ·have hMS:MB br ops S'=i+1:=by
   unfold MB;refine Jm (by omega) (.inr ⟨i,rfl,by rw[hs',hb];try rfl⟩) λj h1 h2=>?_;cases hsj:S' j with
   |false=>rfl
   |true=>
    rw[ho j (by omega)]at hsj;have:=Ng (br:=br) (by omega:MB br ops S<=j) h2 hsj;simp[this]
  have hXn:(Xs lt br ops hk S').next=H'.next:=by unfold Xs;rw[PA,hMS,hki1];try rfl
  refine Fo (by unfold Hs;simp only[Az,CD];exact hXn.symm) λid=>?_
  -- what S' has not done yet, by its own numbers
  have dl':id∈dl lt br ops S'↔ ∃ g x,g<ops.length/\g<i/\S g=false/\lt g=some x/\x.1=id:=by
   rw[I9,hMS];constructor
   ·rintro ⟨g,x,h1,h2,h3,h4,h5⟩;have hgi:g≠i:=λe=>(by rw[e,hli]at h4;simp at h4);exact⟨g,x,h1,by omega,by rw[← ho g hgi];exact h3,h4,h5⟩
   ·rintro ⟨g,x,h1,h2,h3,h4,h5⟩;exact⟨g,x,h1,by omega,by rw[ho g (by omega)];exact h3,h4,h5⟩
  by_cases hid:id∈kx ow ops lt i
  ·obtain ⟨f,q,hf,hne,hA,hlf,hq,hbase,hpf⟩:=kxA id hid;have hu: ∀ g x,g<ops.length->lt g=some x->x.1=id->g≠f->i<g/\S g=false:=λg x h1 h2 h3 h4=>uniq f q g x hf hA hlf (by rw[hq,hbase]) hpf h1 h2 (by rw[h3,hbase]) h4;have hL:(CD H' (Hs lt br ops hk S) (kx ow ops lt i)).obj id=(Hs lt br ops hk S).obj id:=by
    simp only[CD];cases hx:(Hs lt br ops hk S).obj id with
    |none=>simp[hH id hid]
    |some o2=>simp[hid]
   rw[hL];cases hsf:S f with
   |true=>
    have n1:id ∉ dl lt br ops S:=λhc=>by
     obtain⟨g,x,h1,h2,h3,h4,h5⟩:=I9.1 hc;by_cases hgf:g=f
     ·rw [hgf,hsf]at h3;simp at h3
     ·have:=(hu g x h1 h4 h5 hgf).1;omega
    have n2:id ∉ dl lt br ops S':=λhc=>by
     obtain⟨g,x,h1,h2,h3,h4,h5⟩:=dl'.1 hc;by_cases hgf:g=f
     ·rw [hgf,hsf]at h3;simp at h3
     ·have:=(hu g x h1 h4 h5 hgf).1;omega
    unfold Hs;simp only[Az];rw[A4 (by simpa using n1),A4 (by simpa using n2)];unfold Xs;rcases CT f i with h1|h1
    ·rw [Nf (p:=λf=>decide (MB br ops S'<=f)&&S' f) _ (λg x h2 h3 h4 h5=>?_),hMS,hki1]
     ·have h6:(CD H' (hk i) (kx ow ops lt i)).obj id=(hk i).obj id:=by
       simp only[CD];cases hx:(hk i).obj id with
       |none=>simp[hH id hid]
       |some o2=>simp[hid]
      rw[h6,hki];refine Nc _ λg x h2 h3 h4=>?_;by_cases hgf:g=f
      ·rw [hgf,hsf];simp[h1]
      ·obtain ⟨k1,k2⟩:=hu g x h2 h3 h4 hgf;rw[k2];simp;omega
     ·rw [hMS]at h3;simp only[AR,BP]at h3;by_cases hgf:g=f
      ·omega
      ·have:=(hu g x h2 h4 h5 hgf).2;rw[ho g (by omega),this]at h3;simp at h3
    ·have hfi:i<f:=(by omega);have e1:(CZ lt (λf=>decide (MB br ops S<=f)&&S f) (hk (MB br ops S)) ops.length).obj id=(CZ lt (λf=>decide (MB br ops S'<=f)&&S' f) (hk (MB br ops S)) ops.length).obj id:=by
      refine Nc _ λg x h2 h3 h4=>?_;rw[hMS];by_cases hgf:g=f
      ·rw [hgf,ho f hne,hsf];simp;omega
      ·obtain ⟨k1,k2⟩:=hu g x h2 h3 h4 hgf;rw[ho g (by omega),k2];simp
     rw[e1];refine(UA _ ⟨f,q,hf,?_,hlf,hq⟩).1;rw[hMS,ho f hne,hsf];simp;omega
   |false=>
    have no: ∀ g x,g<ops.length->lt g=some x->x.1=id->S g=false:=λg x h1 h2 h3=>by
     by_cases hgf:g=f
     ·rw [hgf];exact hsf
     ·exact (hu g x h1 h2 h3 hgf).2
    have l1:(Hs lt br ops hk S).obj id=none:=by
     unfold Hs;simp only[Az];split
     ·rfl
     ·rename_i hc;rcases CT f (MB br ops S)with h1|h1
      ·exact (hc (by simpa using I9.2 ⟨f,q,hf,h1,hsf,hlf,hq⟩)).elim
      ·unfold Xs;rw[Nf _ (λg x h2 h3 h4 h5=>by
        simp only[AR]at h3;rw[no g x h2 h4 h5]at h3;simp at h3)]
       rw[hbase];exact tr.noneH h0 _ Jo f ops[f] h1 (AU hf) hA
    rw[l1];unfold Hs;simp only[Az];split
    ·rfl
    ·rename_i hc;rcases CT f i with h1|h1
     ·exact (hc (by simpa using dl'.2 ⟨f,q,hf,h1,hsf,hlf,hq⟩)).elim
     ·unfold Xs;rw[Nf _ (λg x h2 h3 h4 h5=>by
       rw[hMS]at h3;simp only[AR,BP]at h3;rw[ho g (by omega),no g x h2 h4 h5]at h3;simp at h3)]
      rw[hMS,hbase];exact(tr.noneH h0 (i+1) (by omega) f ops[f] (by omega) (AU hf) hA).symm
  ·have n2:id ∉ dl lt br ops S':=λhc=>by
    obtain⟨g,x,h1,h2,h3,h4,h5⟩:=dl'.1 hc;exact hid (by rw[← h5];exact inK g x h1 h4 (λ_=>h3) (λh6=>by omega))
   have hL:(CD H' (Hs lt br ops hk S) (kx ow ops lt i)).obj id=H'.obj id:=by
    simp only[CD];rw[A4 (λhc=>hid (by simpa using hc.1))]
   rw[hL];unfold Hs;simp only[Az];rw[A4 (by simpa using n2)];unfold Xs;rw[Nf _ (λg x h2 h3 h4 h5=>by
    rw[hMS]at h3;simp only[AR,BP]at h3;rw[ho g (by omega)]at h3;exact hid (by rw[← h5];exact inK g x h2 h4 (λh6=>by omega) (λ_=>h3.2)))]
   rw[hMS,hki1];simp only[CD];rw[A4 (λhc=>hid (by simpa using hc.1))]
end
end Go.AM
