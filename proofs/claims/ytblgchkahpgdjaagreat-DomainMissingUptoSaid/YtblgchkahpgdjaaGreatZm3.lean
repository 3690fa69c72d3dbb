/- What the claim rests on, part 3: the abstract machine, contracts of the functions, plain data. -/
import Derived.Orders
import Derived.Test.YtblgchkahpgdjaaGreatZm2
set_option linter.unusedVariables false
set_option linter.unusedSimpArgs false
set_option linter.unusedSectionVars false
namespace Go.AM
section
variable {P:Program}{ow:Nat->Bool}{wf:FuncId->Bool}{n:Nat}{β:BK}{h:A0}{w:World}{s:AE}{a:Act}
def A0.LV(h:A0)(m:Nat):A0:=⟨h.next+m,h.obj⟩
theorem St.LV(st:St n β s h a w)(m:Nat): ∃ β0,St n β0 s (h.LV m) a w/\BR β h w β0 (h.LV m) w/\ ∀ id,h.next<=id->(β0 id).b=none:=by
 have hb: ∀ id,(h.obj id).isSome=true->id<h.next:=st.Bb.lt
 have e:BR β h w ⟨λid=>if id<h.next then β id else⟨none,0,0,0⟩,β.X⟩ (h.LV m) w:=
  ⟨rfl,rfl,rfl,AG _,TO _ _,λid hid=>by simp[hid],rfl,λ_ _ _=>rfl,λb hbb=>⟨⟨hbb.1,λid hs=>by
   have:=hb id hs;simp only[this,AO];exact hbb.2.1 id hs,hbb.2.2⟩,rfl⟩⟩
 refine⟨⟨λid=>if id<h.next then β id else⟨none,0,0,0⟩,β.X⟩,⟨⟨λid hs=>?_,λid o ho=>?_,λi j hi hj b h1 h2=>?_,st.Bb.xs,λid hs b h1=>?_⟩,λt=>e.rep (st.rep t),st.size,st.defers⟩,e,λid hid=>?_⟩
 ·exact I8 (hb id hs) (TO _ _)
 ·have hid:=hb id (by rw[show h.obj id=some o from ho];try rfl);have:=BN.mv e.mv (λ_ _=>rfl) (st.Bb.ok id o ho);simp only[hid,AO];exact this
 ·simp only[hb i hi,hb j hj,AO]at h1 h2;exact st.Bb.inj i j hi hj b h1 h2
 ·simp only[hb id hs,AO]at h1;exact st.Bb.nx id hs b h1
 ·simp only[show ¬ id<h.next by omega,AP]
theorem St.pY{i z:Nat}{rows:List (List PV)}(hr:rows≠[])(hi:i<h.next)(hn:h.obj i=none)(st:St n β s (h.set i (.arr z rows)) a w):
  ∃ βX,St n βX s h a w/\ ∀ (β':BK)(s':AE)(h':A0)(a':Act)(w':World),St n β' s' h' a' w'->BR βX h w β' h' w'->h'.obj i=none->
   ∃ β'',St n β'' s' (h'.set i (.arr z rows)) a' w'/\BR β (h.set i (.arr z rows)) w β'' (h'.set i (.arr z rows)) w':=by
 have oi:(h.set i (.arr z rows)).obj i=some (.arr z rows):=by simp[A0.set]
 have on: ∀ j,j≠i->(h.set i (.arr z rows)).obj j=h.obj j:=λj hj=>by simp[A0.set,hj]
 have live: ∀ j,(h.obj j).isSome=true->j≠i:=λj hj e=>by rw[e,hn]at hj;simp at hj
 have hok:=st.Bb.ok i _ oi;obtain⟨b,hb⟩: ∃ b,(β i).b=some b:=by
  simp only[BN]at hok;rcases hok.2 with⟨_,h2⟩|⟨b,c,e,fr,h2,_⟩
  ·exact (hr h2).elim
  ·exact ⟨b,h2⟩
 have hbl:b<w.heap.size:=st.Bb.Jm oi hb;have fzd: ∀ c,Fz β (h.set i (.arr z rows)) w c->Fz ⟨β.bl,λd=>β.X d\/d=b⟩ h w c:=λc hc=>⟨hc.1,λj hj=>hc.2.1 j (by rw[on j (live j hj)];exact hj),λhx=>hx.elim hc.2.2 (λe=>hc.2.1 i (by rw[oi];try rfl) (by rw[e];exact hb))⟩;have m1:Mv β h.next (Fz β (h.set i (.arr z rows)) w) w ⟨β.bl,λd=>β.X d\/d=b⟩ h.next (Fz ⟨β.bl,λd=>β.X d\/d=b⟩ h w) w:=⟨AG _,λ_ _ _=>rfl,λc hc=>⟨fzd c hc,rfl⟩⟩
 refine⟨⟨β.bl,λd=>β.X d\/d=b⟩,⟨⟨λid hs=>?_,λid o ho=>?_,λj k hj hk c h1 h2=>?_,λc hc=>?_,λid hs c h1=>?_⟩,λt=>AA.mv m1 _ _ (st.rep t),st.size,st.defers⟩,?_⟩
 ·exact st.Bb.lt id (by rw[on id (live id hs)];exact hs)
 ·have:=live id (by rw[ho];try rfl);exact BN.mv m1 (λ_ _=>rfl) (st.Bb.ok id o (by rw[on id this];exact ho))
 ·exact st.Bb.inj j k (by rw[on j (live j hj)];exact hj) (by rw[on k (live k hk)];exact hk) c h1 h2
 ·exact hc.elim (st.Bb.xs c) (λe=>by rw[e];exact hbl)
 ·have hs':((h.set i (.arr z rows)).obj id).isSome=true:=by rw[on id (live id hs)];exact hs
  rintro(hx|hx)
  ·exact st.Bb.nx id hs' c h1 hx
  ·subst hx;exact live id hs (st.Bb.inj id i hs' (by rw[oi];try rfl) _ h1 hb)
 ·intro β' s' h' a' w' st' ex hn';have on': ∀ j,j≠i->(h'.set i (.arr z rows)).obj j=h'.obj j:=λj hj=>by simp[A0.set,hj]
  have live': ∀ j,(h'.obj j).isSome=true->j≠i:=λj hj e=>by rw[e,hn']at hj;simp at hj
  have hbi:(β' i)=β i:=ex.beta i hi;have hX:β'.X=λd=>β.X d\/d=b:=ex.X;have fzu: ∀ c,Fz β' h' w' c->Fz ⟨β'.bl,β.X⟩ (h'.set i (.arr z rows)) w' c:=λc hc=>by
   have h3:=hc.2.2;rw[hX]at h3;refine⟨hc.1,λj hj hjc=>?_,λhx=>h3 (.inl hx)⟩;by_cases hji:j=i
   ·subst hji;have h4:(β' j).b=some c:=hjc;rw[hbi,hb]at h4;simp at h4;exact h3 (.inr h4.symm)
   ·rw [on' j hji]at hj;exact hc.2.1 j hj hjc
  have blkeq:w'.heap[b]? =w.heap[b]?:=ex.xh b (.inr rfl) hbl;have e2:BR β (h.set i (.arr z rows)) w ⟨β'.bl,β.X⟩ (h'.set i (.arr z rows)) w':=
   ⟨ex.os,ex.tape,ex.output,ex.size,ex.next,ex.beta,rfl,λc hc hl=>ex.xh c (.inl hc) hl,λc hc=>⟨fzu c (ex.fz c (fzd c hc)).1,(ex.fz c (fzd c hc)).2⟩⟩
  have m2:Mv β' h'.next (Fz β' h' w') w' ⟨β'.bl,β.X⟩ h'.next (Fz ⟨β'.bl,β.X⟩ (h'.set i (.arr z rows)) w') w':=⟨AG _,λ_ _ _=>rfl,λc hc=>⟨fzu c hc,rfl⟩⟩
  refine⟨⟨β'.bl,β.X⟩,⟨⟨λid hs=>?_,λid o ho=>?_,λj k hj hk c h1 h2=>?_,λc hc=>?_,λid hs c h1=>?_⟩,λt=>AA.mv m2 _ _ (st'.rep t),st'.size,st'.defers⟩,e2⟩
  ·by_cases hid:id=i
   ·subst hid;exact I8 hi ex.next
   ·rw [on' id hid]at hs;exact st'.Bb.lt id hs
  ·by_cases hid:id=i
   ·subst hid;have:o= .arr z rows:=(by simp[A0.set]at ho;exact ho.symm);subst this;have h3:=BN.mv (w':=w') (β':=⟨β'.bl,β.X⟩) (n':=h'.next) (F':=Fz ⟨β'.bl,β.X⟩ (h'.set id (.arr z rows)) w') e2.mv (λc hc=>by rw[hb]at hc;simp at hc;subst hc;exact blkeq) hok;show BN _ _ _ _ (β' id) _;rw[hbi];exact h3
   ·rw [on' id hid]at ho;exact BN.mv m2 (λ_ _=>rfl) (st'.Bb.ok id o ho)
  ·have key: ∀ j,j≠i->((h'.set i (.arr z rows)).obj j).isSome=true->(β' j).b≠some b:=λj hji hj e=>by
    rw[on' j hji]at hj;have:=st'.Bb.nx j hj b e;rw[hX]at this;exact this (.inr rfl)
   by_cases hji:j=i
   ·by_cases hki:k=i
    ·rw [hji,hki]
    ·have h3:(β' j).b=some c:=h1;rw[hji,hbi,hb]at h3;simp at h3;subst h3;exact(key k hki hk h2).elim
   ·by_cases hki:k=i
    ·have h3:(β' k).b=some c:=h2;rw[hki,hbi,hb]at h3;simp at h3;subst h3;exact(key j hji hj h1).elim
    ·rw [on' j hji]at hj;rw[on' k hki]at hk;exact st'.Bb.inj j k hj hk c h1 h2
  ·exact st'.Bb.xs c (by rw[hX];exact .inl hc)
  ·by_cases hid:id=i
   ·have h3:(β' id).b=some c:=h1;rw[hid,hbi]at h3;exact st.Bb.nx i (by rw[oi];try rfl) c h3
   ·rw [on' id hid]at hs;have:=st'.Bb.nx id hs c h1;rw[hX]at this;exact λhx=>this (.inl hx)
def Dy(H:A0)(base:Nat)(ob:Nat->Am)(p:Nat->Bool):A0:=⟨H.next,λid=>if base<=id/\p (id-base)=true then some (ob (id-base))else H.obj id⟩
theorem GT{h h':A0}(h1:h.next=h'.next)(h2: ∀ id,h.obj id=h'.obj id):h=h':=by
 cases h;cases h';simp only at h1 h2;subst h1;congr 1;funext id;exact h2 id
theorem Li{H:A0}{base:Nat}{ob:Nat->Am}{p:Nat->Bool}(hp: ∀ f,p f=false):Dy H base ob p=H:=GT rfl λid=>by simp[Dy,hp]
theorem Ni{H:A0}{base:Nat}{ob:Nat->Am}{p q:Nat->Bool}(hp: ∀ f,p f=q f):Dy H base ob p=Dy H base ob q:=by rw[show p=q from funext hp]
theorem RF{H:A0}{base m:Nat}{ob:Nat->Am}{p q:Nat->Bool}(hm:q m=true)(hq: ∀ f,f≠m->q f=p f):Dy H base ob q=(Dy H base ob p).set (base+m) (ob m):=GT rfl λid=>by
 simp only[Dy,A0.set];by_cases h1:id=base+m
 ·subst h1;have:base+m-base=m:=by omega
  simp[this,hm]
 ·rw [A7 h1];by_cases h2:base<=id
  ·rw [hq (id-base) (by omega)]
  ·simp [h2]
theorem St.Qm{H:A0}{base:Nat}{ob:Nat->Am}{p:Nat->Bool}(hp: ∀ f,p f=true->base+f<H.next/\H.obj (base+f)=none/\ ∃ z rows,ob f= .arr z rows/\rows≠[]): ∀ (m:Nat){β:BK},St n β s (Dy H base ob λf=>decide (f<m)&&p f) a w->
  ∃ βX,St n βX s H a w/\ ∀ (β':BK)(s':AE)(h':A0)(a':Act)(w':World),St n β' s' h' a' w'->BR βX H w β' h' w'->(∀ f,p f=true->h'.obj (base+f)=none)->
   ∃ β'',St n β'' s' (Dy h' base ob λf=>decide (f<m)&&p f) a' w'/\BR β (Dy H base ob λf=>decide (f<m)&&p f) w β'' (Dy h' base ob λf=>decide (f<m)&&p f) w'
 |0,β,st=>by
  rw[Li (by simp)]at st;refine⟨β,st,λβ' s' h' a' w' st' ex _=>⟨β',?_,?_⟩⟩
  ·rw [Li (by simp)];exact st'
  ·rw [Li (by simp),Li (by simp)];exact ex
 |m+1,β,st=>by
  cases hpm:p m with
  |false=>
   have hc: ∀ H:A0,(Dy H base ob λf=>decide (f<m+1)&&p f)=Dy H base ob λf=>decide (f<m)&&p f:=λH=>Ni λf=>by
    by_cases hf:f=m
    ·subst hf;simp[hpm]
    ·rw [show decide (f<m+1)=decide (f<m) by simp;omega]
   simp only[hc]at st⊢;exact St.Qm hp m st
  |true=>
   obtain⟨g1,g2,z,rows,g3,g4⟩:=hp m hpm;have hc: ∀ H:A0,(Dy H base ob λf=>decide (f<m+1)&&p f)=(Dy H base ob λf=>decide (f<m)&&p f).set (base+m) (.arr z rows):=λH=>by
    rw[← g3];exact RF (by simp[hpm]) λf hf=>by rw[show decide (f<m+1)=decide (f<m) by simp;omega]
   have hnn: ∀ H:A0,H.obj (base+m)=none->(Dy H base ob λf=>decide (f<m)&&p f).obj (base+m)=none:=λH hH=>by
    simp only[Dy];rw[A7 (by rw[show base+m-base=m by omega];simp)];exact hH
   rw[hc]at st;obtain⟨β1,st1,back1⟩:=St.pY g4 (show base+m<(Dy H base ob _).next from g1) (hnn H g2) st;obtain⟨β2,st2,back2⟩:=St.Qm hp m st1;refine⟨β2,st2,λβ' s' h' a' w' st' ex hno=>?_⟩;obtain⟨β3,st3,ex3⟩:=back2 β' s' h' a' w' st' ex hno;obtain⟨β4,st4,ex4⟩:=back1 β3 s' _ a' w' st3 ex3 (hnn h' (hno m hpm));refine⟨β4,?_,?_⟩
   ·rw [hc];exact st4
   ·rw [hc,hc];exact ex4
theorem St.float{t:TypeId}{zs:List Value}{id0:Nat}(hz:DP P t=some zs)(hlt:id0<h.next)(hn:h.obj id0=none)(hb:(β id0).b=none)(st:St n β s h a w){o:Oper}(ho:o.op= .alloc t)(hd:o.dst.all (λd=>decide (d<n))=true){K:Act->World->Prop}{Q:Exit->Act->World->Prop}
  (hk: ∀ (β':BK)(a':Act)(w':World),St n β' (Ak s o.dst (.ptr id0 0 0)) (h.set id0 (.arr zs.length [zs.map .sc])) a' w'->(∀ id,id≠id0->β' id=β id)->w'.os=w.os->w'.tape=w.tape->w'.output=w.output->w.heap.size<=w'.heap.size->β'.X=β.X->(∀ b,b<w.heap.size->w'.heap[b]? =w.heap[b]?)->(∀ b,Fz β h w b->Fz β' (h.set id0 (.arr zs.length [zs.map .sc])) w' b)->K a' w'):o.wp P a w K Q:=by
 obtain⟨i,v,h1,h2,h3,h4⟩:=PD hz;have hrun:(execOp a.eval o).run P w= .ok (.value (.pointer (some ⟨w.heap.size,0,none⟩))) (w.alloc (.cells v.cells t)):=by
  obtain⟨dst,op,ty,pos,af,gd⟩:=o;simp only at ho;subst ho;simp[execOp,Instr.alloc,zeroValue,typeInfo,h1,h2,PE]
 unfold Oper.wp;rw[hrun];have on: ∀ j,j≠id0->(h.set id0 (.arr zs.length [zs.map .sc])).obj j=h.obj j:=λj hj=>by simp[A0.set,hj]
 have fzu: ∀ b,Fz β h w b->Fz ⟨λid=>if id=id0 then⟨some w.heap.size,0,zs.length,v.cells.size⟩else β id,β.X⟩ (h.set id0 (.arr zs.length [zs.map .sc])) (w.alloc (.cells v.cells t)) b:=λb hbb=>by
  refine⟨by have:=hbb.1;simp;omega,λj hj hjb=>?_,hbb.2.2⟩;by_cases hji:j=id0
  ·subst hji;simp at hjb;have:=hbb.1;omega
  ·rw [on j hji]at hj;simp only[hji,AP]at hjb;exact hbb.2.1 j hj hjb
 have m:Mv β h.next (Fz β h w) w ⟨λid=>if id=id0 then⟨some w.heap.size,0,zs.length,v.cells.size⟩else β id,β.X⟩ h.next (Fz ⟨λid=>if id=id0 then⟨some w.heap.size,0,zs.length,v.cells.size⟩else β id,β.X⟩ (h.set id0 (.arr zs.length [zs.map .sc])) (w.alloc (.cells v.cells t))) (w.alloc (.cells v.cells t)):=
  ⟨AG _,λid hid hbn=>by
   have:id≠id0:=λe=>hbn (by rw[e];exact hb);simp[this],λb hbb=>⟨fzu b hbb,heap_alloc_old w _ hbb.1⟩⟩
 have hcl:v.cells.size=zs.length:=by rw[← h3];simp
 have hrow:HI β h.next (Fz β h w) w zs.length [zs.map .sc] v.cells:=
  HI.of_flat (xs:=zs) (by simp) (by simpa using AT.sc zs) h4 (λj u hu=>by rw[← h3]at hu;simpa using hu)
 refine hk ⟨λid=>if id=id0 then⟨some w.heap.size,0,zs.length,v.cells.size⟩else β id,β.X⟩ _ _ ⟨⟨λid hs=>?_,λid ob hob=>?_,λj k hj hkk b g1 g2=>?_,λb hx=>?_,λid hs b g1=>?_⟩,λu=>?_,?_,?_⟩ (λid hne=>by simp[hne]) rfl rfl rfl (by simp) rfl (λb hbl=>heap_alloc_old w _ hbl) fzu
 ·by_cases hid:id=id0
  ·subst hid;exact hlt
  ·rw [on id hid]at hs;exact st.Bb.lt id hs
 ·by_cases hid:id=id0
  ·subst hid;have:ob= .arr zs.length [zs.map .sc]:=(by simp[A0.set]at hob;exact hob.symm);subst this;simp only[BN,AO];exact⟨trivial,.inr ⟨w.heap.size,v.cells,t,(0,0),rfl,heap_alloc_new w _,rfl,by simp[hcl],λi _=>by simp,hrow.rep m (heap_alloc_new w _)⟩⟩
  ·rw [on id hid]at hob;have g:=BN.mv m (λb hbb=>heap_alloc_old w _ (st.Bb.Jm hob hbb)) (st.Bb.ok id ob hob);simp only[hid,AP];exact g
 ·have key: ∀ j,j≠id0->((h.set id0 (.arr zs.length [zs.map .sc])).obj j).isSome=true->(β j).b≠some w.heap.size:=λj hji hj e=>by
   rw[on j hji]at hj;have:=st.Bb.Jm (Yo hj) e;omega
  by_cases hji:j=id0
  ·by_cases hki:k=id0
   ·rw [hji,hki]
   ·subst hji;simp at g1;simp only[hki,AP]at g2;rw[← g1]at g2;exact(key k hki hkk g2).elim
  ·by_cases hki:k=id0
   ·subst hki;simp at g2;simp only[hji,AP]at g1;rw[← g2]at g1;exact(key j hji hj g1).elim
   ·simp only[hji,hki,AP]at g1 g2;rw[on j hji]at hj;rw[on k hki]at hkk;exact st.Bb.inj j k hj hkk b g1 g2
 ·have:=st.Bb.xs b hx;simp;omega
 ·by_cases hid:id=id0
  ·subst hid;simp at g1;exact λhx=>by have:=st.Bb.xs b hx;omega
  ·simp only[hid,AP]at g1;rw[on id hid]at hs;exact st.Bb.nx id hs b g1
 ·have B1: ∀ u,AS ⟨λid=>if id=id0 then⟨some w.heap.size,0,zs.length,v.cells.size⟩else β id,β.X⟩ (h.set id0 (.arr zs.length [zs.map .sc])) (w.alloc (.cells v.cells t)) (s u) (a.tmps.getD u Go.undef):=λu=>AA.mv m _ _ (st.rep u);cases hdd:o.dst with
  |none=>simp only[Ak,Act.put];exact B1 u
  |some d=>
   rw[hdd]at hd;simp at hd;simp only[Ak,Ci,Act.put];by_cases hu:u=d
   ·subst hu;rw[AK rfl];have hus:u<a.tmps.size:=(by rw[st.size];exact hd);have:AS ⟨λid=>if id=id0 then⟨some w.heap.size,0,zs.length,v.cells.size⟩else β id,β.X⟩ (h.set id0 (.arr zs.length [zs.map .sc])) (w.alloc (.cells v.cells t)) (.ptr id0 0 0) (.pointer (some ⟨w.heap.size,0,none⟩)):=by
     simp only[AS,AA];exact⟨hlt,w.heap.size,by simp,by simp⟩
    simpa[Da,hus]using this
   ·rw [A7 hu];simpa[Da,MQ (Ne.symm hu)]using B1 u
 ·cases hdd:o.dst with
  |none=>exact st.size
  |some d=>simp[Act.put,st.size]
 ·cases hdd:o.dst with
  |none=>exact st.defers
  |some d=>simp[Act.put,st.defers]
end
end Go.AM
namespace Go.AM
section
variable {P:Program}{ow:Nat->Bool}{wf:FuncId->Bool}{n:Nat}{ops:List Oper}
theorem UG{o:Oper}(hw:BL ow wf o=false){id:Nat}{ρ:Operand->PV}{h h':A0}{v:PV}:Io P ow id o ρ h v h'↔Ap P ow o ρ h v h':=by
 unfold Io;split
 ·rename_i t he;simp[BL,he]at hw
 ·exact Iff.rfl
structure FG(P:Program)(ow:Nat->Bool)(wf:FuncId->Bool)(n:Nat)(ops:List Oper)(base:Nat)(k:Nat)(sk:Nat->AE)(hk:Nat->A0)(vk:Nat->PV):Prop where
 step: ∀ (j:Nat)(o:Oper),k<=j->ops[j]? =some o->o.dst.all (λd=>decide (d<n))=true/\ ∃ b,D4 ops (sk j) o=some b/\
  (b=false->sk (j+1)=Ak (sk j) o.dst (.sc undef)/\hk (j+1)=hk j)/\
  (b=true->sk (j+1)=Ak (sk j) o.dst (vk j)/\Io P ow (base+j) o (A9 (sk j)) (hk j) (vk j) (hk (j+1))/\(BL ow wf o=false->hk (j+1)=hk j)/\(BL ow wf o=true-> ∀ f,j<f->G7 ops f=true->(hk (j+1)).obj (base+f)=none))
 apart: ∀ (i j:Nat)(o:Oper),k<=i->k<=j->Nd ow wf ops sk i o->Wd ow wf ops sk j->
  (i<j->pre ops i j=true\/Ap P ow o (A9 (sk i)) (hk (j+1)) (vk i) (hk (j+1)))/\(j<i->pre ops j i=true\/Ap P ow o (A9 (sk i)) (hk j) (vk i) (hk j))
theorem PW{base:Nat}{K:AE->A0->Prop}: ∀ (l:List Oper)(k:Nat)(past:List (Nat × (A0->Prop)))(hist:List (Nat × A0))(s:AE)(h:A0),l=ops.drop k->GG P ow wf n ops base k l past hist K s h->
  ∃ sk hk vk,sk k=s/\hk k=h/\(K (sk (k+l.length)) (hk (k+l.length)))/\FG P ow wf n ops base k sk hk vk/\
   (∀ x∈past, ∀ j,k<=j->Wd ow wf ops sk j->pre ops x.1 j=true\/x.2 (hk (j+1)))/\
   (∀ x∈hist, ∀ i o,k<=i->Nd ow wf ops sk i o->pre ops x.1 i=true\/Ap P ow o (A9 (sk i)) x.2 (vk i) x.2)
 |[],k,past,hist,s,h,hl,hd=>by
  simp only[GG]at hd;have hk:ops.length<=k:=by
   have:=LQ List.length hl;simp at this;omega
  have hno: ∀ (j:Nat)(o:Oper),k<=j->ops[j]? =some o->False:=λj o hj ho=>by
   have:=(List.getElem?_eq_some_iff.1 ho).1;omega
  refine⟨λ_=>s,λ_=>h,λ_=> .emp,rfl,rfl,hd,⟨λj o hj ho=>(hno j o hj ho).elim,λi j o hi _ hn _=>(hno i o hi hn.1).elim⟩,λx _ j hj hw=>?_,λx _ i o hi hn=>(hno i o hi hn.1).elim⟩;obtain⟨o,ho,_⟩:=hw;exact(hno j o hj ho).elim
 |o::rest,k,past,hist,s,h,hl,hd=>by
  have hok:ops[k]? =some o:=by
   have:(ops.drop k)[0]? =some o:=(by rw[← hl];try rfl);simpa using this
  have hrest:rest=ops.drop (k+1):=by
   have:=LQ List.tail hl;simpa using this
  simp only[GG]at hd;obtain⟨hdst,hd⟩:=hd;have CS: ∀ {sk':Nat->AE}{j:Nat},k+1<=j->(C8 k s sk') j=sk' j:=λhj=>Fo (by omega);have exth: ∀ {hk':Nat->A0}{j:Nat},k+1<=j->(C8 k h hk') j=hk' j:=λhj=>Fo (by omega);split at hd
  ·exact hd.elim
  ·rename_i b hb;cases b with
   |false=>
    simp only[BQ,AP]at hd;obtain⟨sk',hk',vk',e1,e2,e3,tr,hp,hh⟩:=PW rest (k+1) past hist _ _ hrest hd;have hnW:¬ Wd ow wf ops (C8 k s sk') k:=by
     rintro⟨q,hq,_,hw⟩;rw[hok]at hq;simp at hq;subst hq;rw[DS,hb]at hw;simp at hw
    have hnN: ∀ q,¬ Nd ow wf ops (C8 k s sk') k q:=by
     rintro q ⟨hq,_,hw⟩;rw[hok]at hq;simp at hq;subst hq;rw[DS,hb]at hw;simp at hw
    have wdE: ∀ j,k+1<=j->Wd ow wf ops (C8 k s sk') j->Wd ow wf ops sk' j:=by
     intro j hj hw;unfold Wd at hw⊢;rw[CS hj]at hw;exact hw
    have ndE: ∀ j q,k+1<=j->Nd ow wf ops (C8 k s sk') j q->Nd ow wf ops sk' j q:=by
     intro j q hj hw;unfold Nd at hw⊢;rw[CS hj]at hw;exact hw
    have gt: ∀ j,k<=j->Wd ow wf ops (C8 k s sk') j->k+1<=j:=by
     intro j hj hw;rcases Cr k j with h1|h1
     ·exact h1
     ·have:j=k:=(by omega);subst this;exact(hnW hw).elim
    have gtn: ∀ j q,k<=j->Nd ow wf ops (C8 k s sk') j q->k+1<=j:=by
     intro j q hj hw;rcases Cr k j with h1|h1
     ·exact h1
     ·have:j=k:=(by omega);subst this;exact(hnN q hw).elim
    refine⟨C8 k s sk',C8 k h hk',vk',DS,DS,?_,⟨λj q hj hq=>?_,λi j q hi hj hn hw=>?_⟩,λx hx j hj hw=>?_,λx hx i q hi hn=>?_⟩
    ·rw [Fo (by simp),Fo (by simp)];rw[show k+(o::rest).length=k+1+rest.length by simp;omega];exact e3
    ·rcases Cr k j with h1|h1
     ·obtain ⟨t1,t2⟩:=tr.step j q h1 hq;refine⟨t1,?_⟩;rw[CS (sk':=sk') h1,CS (sk':=sk') (by omega:k+1<=j+1),exth (hk':=hk') h1,exth (hk':=hk') (by omega:k+1<=j+1)];exact t2
     ·have hjk:j=k:=(by omega);subst hjk;rw[hok]at hq;simp at hq;subst hq;refine⟨hdst,false,by rw[DS];exact hb,λ_=>?_,λhc=>by cases hc⟩;rw[CS (sk':=sk') (AG _),exth (hk':=hk') (AG _)];simp[e1,e2,DS]
    ·have hi':=gtn i q hi hn;have hj':=gt j hj hw;have:=tr.apart i j q hi' hj' (ndE i q hi' hn) (wdE j hj' hw);rw[CS (sk':=sk') hi',exth (hk':=hk') (by omega:k+1<=j+1),exth (hk':=hk') hj'];exact this
    ·have hj':=gt j hj hw;have:=hp x hx j hj' (wdE j hj' hw);rw[exth (hk':=hk') (by omega:k+1<=j+1)];exact this
    ·have hi':=gtn i q hi hn;have:=hh x hx i q hi' (ndE i q hi' hn);rw[CS (sk':=sk') hi'];exact this
   |true=>
    simp only[AO]at hd;split at hd
    ·rename_i hw;obtain⟨v,h',hdo,hnone,hpast,hd⟩:=hd;obtain⟨sk',hk',vk',e1,e2,e3,tr,hp,hh⟩:=PW rest (k+1) past ((k,h)::hist) _ _ hrest hd;have hnN: ∀ q,¬ Nd ow wf ops (C8 k s sk') k q:=by
      rintro q ⟨hq,hq2,_⟩;rw[hok]at hq;simp at hq;subst hq;rw[hw]at hq2;simp at hq2
     have wdE: ∀ j,k+1<=j->Wd ow wf ops (C8 k s sk') j->Wd ow wf ops sk' j:=by
      intro j hj hw;unfold Wd at hw⊢;rw[CS hj]at hw;exact hw
     have ndE: ∀ j q,k+1<=j->Nd ow wf ops (C8 k s sk') j q->Nd ow wf ops sk' j q:=by
      intro j q hj hw;unfold Nd at hw⊢;rw[CS hj]at hw;exact hw
     have gtn: ∀ j q,k<=j->Nd ow wf ops (C8 k s sk') j q->k+1<=j:=by
      intro j q hj hw;rcases Cr k j with h1|h1
      ·exact h1
      ·have:j=k:=(by omega);subst this;exact(hnN q hw).elim
     have vkE: ∀ {j},k+1<=j->(C8 k v vk') j=vk' j:=λhj=>Fo (by omega);refine⟨C8 k s sk',C8 k h hk',C8 k v vk',DS,DS,?_,⟨λj q hj hq=>?_,λi j q hi hj hn hwd=>?_⟩,λx hx j hj hwd=>?_,λx hx i q hi hn=>?_⟩
     ·rw [Fo (by simp),Fo (by simp)];rw[show k+(o::rest).length=k+1+rest.length by simp;omega];exact e3
     ·rcases Cr k j with h1|h1
      ·obtain ⟨t1,t2⟩:=tr.step j q h1 hq;refine⟨t1,?_⟩;rw[CS (sk':=sk') h1,CS (sk':=sk') (by omega:k+1<=j+1),exth (hk':=hk') h1,exth (hk':=hk') (by omega:k+1<=j+1),vkE h1];exact t2
      ·have hjk:j=k:=(by omega);subst hjk;rw[hok]at hq;simp at hq;subst hq;refine⟨hdst,true,by rw[DS];exact hb,(λhc=>by cases hc),λ_=>?_⟩;rw[CS (sk':=sk') (AG _),exth (hk':=hk') (AG _)];simp only[DS,e1,e2];exact⟨trivial,hdo,(λhc=>by rw[hw]at hc;simp at hc),λ_=>hnone⟩
     ·have hi':=gtn i q hi hn;rw[CS (sk':=sk') hi',exth (hk':=hk') (by omega:k+1<=j+1),vkE hi'];rcases Cr k j with h1|h1
      ·have:=tr.apart i j q hi' h1 (ndE i q hi' hn) (wdE j h1 hwd);rw[exth (hk':=hk') h1];exact this
      ·have hjk:j=k:=(by omega);subst hjk;refine⟨λhlt=>by omega,λ_=>?_⟩;rw[DS];exact hh (j,h) (by simp) i q hi' (ndE i q hi' hn)
     ·rcases Cr k j with h1|h1
      ·rw [exth (hk':=hk') (by omega:k+1<=j+1)];exact hp x hx j h1 (wdE j h1 hwd)
      ·have hjk:j=k:=(by omega);subst hjk;rw[exth (hk':=hk') (AG _),e2];exact hpast x hx
     ·have hi':=gtn i q hi hn;rw[CS (sk':=sk') hi',vkE hi'];exact hh x (by simp[hx]) i q hi' (ndE i q hi' hn)
    ·rename_i hw;obtain⟨v,hdo,hhist,hd⟩:=hd;have hw':BL ow wf o=false:=(by simpa using hw);obtain⟨sk',hk',vk',e1,e2,e3,tr,hp,hh⟩:=PW rest (k+1) ((k,λh'=>Ap P ow o (A9 s) h' v h')::past) hist _ _ hrest hd;have hnW:¬ Wd ow wf ops (C8 k s sk') k:=by
      rintro⟨q,hq,hq2,_⟩;rw[hok]at hq;simp at hq;subst hq;exact hw hq2
     have wdE: ∀ j,k+1<=j->Wd ow wf ops (C8 k s sk') j->Wd ow wf ops sk' j:=by
      intro j hj hw;unfold Wd at hw⊢;rw[CS hj]at hw;exact hw
     have ndE: ∀ j q,k+1<=j->Nd ow wf ops (C8 k s sk') j q->Nd ow wf ops sk' j q:=by
      intro j q hj hw;unfold Nd at hw⊢;rw[CS hj]at hw;exact hw
     have gt: ∀ j,k<=j->Wd ow wf ops (C8 k s sk') j->k+1<=j:=by
      intro j hj hw;rcases Cr k j with h1|h1
      ·exact h1
      ·have:j=k:=(by omega);subst this;exact(hnW hw).elim
     have vkE: ∀ {j},k+1<=j->(C8 k v vk') j=vk' j:=λhj=>Fo (by omega);refine⟨C8 k s sk',C8 k h hk',C8 k v vk',DS,DS,?_,⟨λj q hj hq=>?_,λi j q hi hj hn hwd=>?_⟩,λx hx j hj hwd=>?_,λx hx i q hi hn=>?_⟩
     ·rw [Fo (by simp),Fo (by simp)];rw[show k+(o::rest).length=k+1+rest.length by simp;omega];exact e3
     ·rcases Cr k j with h1|h1
      ·obtain ⟨t1,t2⟩:=tr.step j q h1 hq;refine⟨t1,?_⟩;rw[CS (sk':=sk') h1,CS (sk':=sk') (by omega:k+1<=j+1),exth (hk':=hk') h1,exth (hk':=hk') (by omega:k+1<=j+1),vkE h1];exact t2
      ·have hjk:j=k:=(by omega);subst hjk;rw[hok]at hq;simp at hq;subst hq;refine⟨hdst,true,by rw[DS];exact hb,(λhc=>by cases hc),λ_=>?_⟩;rw[CS (sk':=sk') (AG _),exth (hk':=hk') (AG _)];simp only[DS,e1,e2];exact⟨trivial,(UG hw').2 hdo,(λ_=>trivial),λhc=>by rw[hw']at hc;simp at hc⟩
     ·have hj':=gt j hj hwd;rw[exth (hk':=hk') (by omega:k+1<=j+1),exth (hk':=hk') hj'];rcases Cr k i with h1|h1
      ·rw [CS (sk':=sk') h1,vkE h1];exact tr.apart i j q h1 hj' (ndE i q h1 hn) (wdE j hj' hwd)
      ·have hik:i=k:=(by omega);subst hik;have hq:=hn.1;rw[hok]at hq;simp at hq;subst hq;refine⟨λ_=>?_,λhlt=>by omega⟩;simp only[DS];exact hp _ (List.mem_cons_self ..) j hj' (wdE j hj' hwd)
     ·have hj':=gt j hj hwd;rw[exth (hk':=hk') (by omega:k+1<=j+1)];exact hp x (by simp[hx]) j hj' (wdE j hj' hwd)
     ·rcases Cr k i with h1|h1
      ·rw [CS (sk':=sk') h1,vkE h1];exact hh x hx i q h1 (ndE i q h1 hn)
      ·have hik:i=k:=(by omega);subst hik;have hq:=hn.1;rw[hok]at hq;simp at hq;subst hq;simp only[DS];exact hhist x hx
end
end Go.AM
namespace Go.AM
section
variable {P:Program}{ow:Nat->Bool}{wf:FuncId->Bool}{n:Nat}{ops:List Oper}{base:Nat}
structure II(ow:Nat->Bool)(wf:FuncId->Bool)(ops:List Oper):Prop where
 back: ∀ (j:Nat)(o:Oper),ops[j]? =some o-> ∀ e∈o.after.toList,Region.binds .any e=true->e.on<j
 Z4: ∀ (j:Nat)(o:Oper),ops[j]? =some o-> ∀ cs b,o.op≠ .select cs b
 slot: ∀ (i j:Nat)(q o:Oper),i≠j->ops[i]? =some q->ops[j]? =some o-> ∀ d,q.dst=some d->d∈F4 ops o->pre ops i j=true\/pre ops j i=true
 ww: ∀ (i j:Nat)(q o:Oper),i≠j->ops[i]? =some q->ops[j]? =some o->BL ow wf q=true->BL ow wf o=true->pre ops i j=true\/pre ops j i=true\/(i<j/\Js o=true)\/(j<i/\Js q=true)
theorem II.of{ops:List Oper}(h:PB ow wf ops=true):II ow wf ops:=by
 unfold PB at h;rw[List.all_eq_true]at h;have hm: ∀ (j:Nat)(o:Oper),ops[j]? =some o->_:=λj o ho=>h (o,j) (List.mem_zipIdx_iff_getElem?.2 ho);refine⟨λj o ho e he hb=>?_,λj o ho cs b hsel=>?_,λi j q o hij hq ho d hd hl=>?_,λi j q o hij hq ho h1 h2=>?_⟩
 ·have h0:=hm j o ho;simp only[AV,List.all_eq_true]at h0;have:=h0.1.1 e he;simpa[hb]using this
 ·have h0:=hm j o ho;simp only[AV]at h0;have:=h0.1.2;rw[hsel]at this;simp at this
 ·have h0:=hm j o ho;simp only[AV,List.all_eq_true]at h0;have:=h0.2 (q,i) (List.mem_zipIdx_iff_getElem?.2 hq);simp only[EH,AV,F0,hd,EI]at this;rcases this with h1|⟨h1,_⟩
  ·exact absurd h1 hij
  ·rcases h1 with(h1|h1)|h1
   ·rw [List.contains_iff_mem.2 hl]at h1;simp at h1
   ·exact .inl h1
   ·exact .inr h1
 ·have h0:=hm j o ho;simp only[AV,List.all_eq_true]at h0;have:=h0.2 (q,i) (List.mem_zipIdx_iff_getElem?.2 hq);simp only[EH,AV,F0,h1,h2,EI,LS,Bool.true_eq_false,false_or,Ba]at this;rcases this with h3|⟨_,h3⟩
  ·exact absurd h3 hij
  ·rcases h3 with((h3|h3)|h3)|h3
   ·exact .inl h3
   ·exact .inr (.inl h3)
   ·exact .inr (.inr (.inl h3))
   ·exact .inr (.inr (.inr h3))
theorem Nj{ops:List Oper}(hd:II ow wf ops): ∀ (j i:Nat),j<ops.length->pre ops i j=true->i<j:=by
 intro j
 induction j using Nat.strongRecOn with
 |_ j ih=>
  intro i hj hp;obtain⟨e,h1,h2,h3⟩:=Mi (List.getElem?_eq_getElem hj) hp;have hlt:=hd.back j _ (List.getElem?_eq_getElem hj) e h1 h2;rcases h3 with rfl|⟨h4,h5⟩
  ·exact hlt
  ·exact Yr (ih e.on h4 i (by omega) h5) h4
variable {sk:Nat->AE}{hk:Nat->A0}{vk:Nat->PV}
theorem FG.JD(tr:FG P ow wf n ops base 0 sk hk vk){t:Nat}{i:Nat}: ∀ d,i+d<=ops.length->(∀ j,i<=j->j<i+d->Cz ops t j=false)->sk (i+d) t=sk i t
 |0,_,_=>rfl
 |d+1,hd,hw=>by
  have ih:=FG.JD tr (t:=t) (i:=i) d (by omega) (λj h1 h2=>hw j h1 (by omega));rw[← ih];have hlt:i+d<ops.length:=by omega
  obtain⟨_,b,h1,h2,h3⟩:=tr.step (i+d) ops[i+d] (Bj _) (List.getElem?_eq_getElem hlt);have hnw:=hw (i+d) (by omega) (by omega);simp only[Cz,List.getElem?_eq_getElem hlt,DJ,Cw]at hnw;have hupd: ∀ v,Ak (sk (i+d)) ops[i+d].dst v t=sk (i+d) t:=by
   intro v;cases hdst:ops[i+d].dst with
   |none=>rfl
   |some dd=>
    simp only[Ak,Ci];rw[A7];intro e;subst e;exact hnw hdst
  rw[show i+(d+1)=i+d+1 by omega];cases b with
  |false=>rw[(h2 rfl).1];exact hupd _
  |true=>rw[(h3 rfl).1];exact hupd _
theorem C9.pZ(hd:II ow wf ops)(tr:FG P ow wf n ops base 0 sk hk vk){S:Nat->Bool}{i:Nat}{o:Oper}(r:C9 ops S i o){t:Nat}(ht:t∈F4 ops o):CF ops sk S t=sk i t:=by
 have hi:i<ops.length:=(List.getElem?_eq_some_iff.1 r.at_).1;obtain⟨h1,h2,h3⟩:=GH (λj=>S j&&Cz ops t j) ops.length;unfold CF;generalize EB (λj=>S j&&Cz ops t j) ops.length=m at*
 have ord: ∀ j,j<ops.length->j≠i->Cz ops t j=true->Go.AM.pre ops j i=true\/Go.AM.pre ops i j=true:=by
  intro j hj hne hw;simp only[Cz,List.getElem?_eq_getElem hj,DJ,Ba]at hw;exact hd.slot j i _ o hne (List.getElem?_eq_getElem hj) r.at_ t hw ht
 rcases Cr i m with h4|h4
 ·-- a writer behind i has been done: none can be
  rcases h2 with h2|⟨k,h2,h5⟩
  ·omega
  ·simp only[AV]at h5;by_cases hki:k=i
   ·subst hki;rw[r.new]at h5;simp at h5
   ·rcases ord k (by omega) hki h5.2 with h6|h6
    ·have:=Nj hd i k hi h6;omega
    ·rw [r.GE (by omega) h5.1]at h6;simp at h6
 ·have:=tr.JD (t:=t) (i:=m) (i-m) (by omega) (λj h5 h6=>?_)
  ·rw [show m+(i-m)=i by omega]at this;exact this.symm
  ·cases hw:Cz ops t j with
   |false=>rfl
   |true=>
    have hns:=h3 j h5 (by omega);rw[hw,Cm]at hns;rcases ord j (by omega) (by omega) hw with h7|h7
    ·rw [r.Hb h7]at hns;simp at hns
    ·have:=Nj hd j i (by omega) h7;omega
theorem C9.pd(hd:II ow wf ops)(tr:FG P ow wf n ops base 0 sk hk vk){S S':Nat->Bool}{i:Nat}{o:Oper}(r:C9 ops S i o)(hs':S' i=true)(ho: ∀ j,j≠i->S' j=S j){x:PV}(hx:sk (i+1)=Ak (sk i) o.dst x):
  Ak (CF ops sk S) o.dst x=CF ops sk S':=by
 have hi:i<ops.length:=(List.getElem?_eq_some_iff.1 r.at_).1;funext t;have hwr:Cz ops t i=decide (o.dst=some t):=by simp[Cz,r.at_]
 by_cases ht:o.dst=some t
 ·have hl:t∈F4 ops o:=by simp[F4,ht]
  have h1:Ak (CF ops sk S) o.dst x t=x:=by rw[ht];simp[Ak,Ci]
  have h2:sk (i+1) t=x:=by rw[hx,ht];simp[Ak,Ci]
  rw[h1, ← h2];unfold CF;rw[Jw (m:=i+1) (by omega) (.inr ⟨i,rfl,by rw[hs',hwr];simp[ht]⟩)];intro j h3 h4;cases hw:Cz ops t j with
  |false=>simp
  |true=>
   cases hsj:S' j with
   |false=>simp
   |true=>
    rw[ho j (by omega)]at hsj;simp only[Cz,List.getElem?_eq_getElem h4,DJ,Ba]at hw;rcases hd.slot j i _ o (by omega) (List.getElem?_eq_getElem h4) r.at_ t hw hl with h7|h7
    ·have:=Nj hd i j hi h7;omega
    ·rw [r.GE h4 hsj]at h7;simp at h7
 ·have h1:Ak (CF ops sk S) o.dst x t=CF ops sk S t:=by
   cases hdst:o.dst with
   |none=>rfl
   |some d=>
    simp only[Ak,Ci];rw[A7];intro e;subst e;exact ht hdst
  rw[h1];unfold CF;rw[Lh ops.length (λj hj=>?_)];by_cases hji:j=i
  ·subst hji;rw[hwr];simp[ht]
  ·rw [ho j hji]
def Hj(P:Program)(ops:List Oper)(f:Nat):Am:=match ops[f]? with
 |some o=>(match o.op with
  | .alloc t=>(match DP P t with
   |some zs=> .arr zs.length [zs.map .sc]
   |none=> .arr 0 [])
  |_=> .arr 0 [])
 |none=> .arr 0 []
def EL(ow:Nat->Bool)(wf:FuncId->Bool)(ops:List Oper)(sk:Nat->AE)(f:Nat):Bool:=CE ow wf ops sk f&&G7 ops f
def EV(ow:Nat->Bool)(wf:FuncId->Bool)(ops:List Oper)(sk:Nat->AE)(f:Nat):Bool:=CE ow wf ops sk f&&!(G7 ops f)
def MS(ow:Nat->Bool)(wf:FuncId->Bool)(ops:List Oper)(sk:Nat->AE)(S:Nat->Bool):Nat:=EB (λj=>S j&&EV ow wf ops sk j) ops.length
def pS(ow:Nat->Bool)(wf:FuncId->Bool)(ops:List Oper)(sk:Nat->AE)(S:Nat->Bool)(j f:Nat):Bool:=decide (j<=f)&&S f&&EL ow wf ops sk f
def EM(P:Program)(ow:Nat->Bool)(wf:FuncId->Bool)(ops:List Oper)(base:Nat)(sk:Nat->AE)(hk:Nat->A0)(S:Nat->Bool):A0:=
 Dy (hk (MS ow wf ops sk S)) base (Hj P ops) (pS ow wf ops sk S (MS ow wf ops sk S))
theorem aI{j:Nat}(h:CE ow wf ops sk j=true):j<ops.length:=by
 obtain⟨o,ho,_⟩:=F6.1 h;exact(List.getElem?_eq_some_iff.1 ho).1
theorem RG{j:Nat}(h:EL ow wf ops sk j=true):j<ops.length:=by
 unfold EL at h;simp only[AV]at h;exact aI h.1
theorem FG.Z5(tr:FG P ow wf n ops base 0 sk hk vk){j:Nat}(hj:j<ops.length)(hw:CE ow wf ops sk j=false):hk (j+1)=hk j:=by
 obtain⟨_,b,h1,h2,h3⟩:=tr.step j ops[j] (Bj _) (List.getElem?_eq_getElem hj);cases b with
 |false=>exact(h2 rfl).2
 |true=>
  refine(h3 rfl).2.2.1 ?_;cases hiw:BL ow wf ops[j]with
  |false=>rfl
  |true=>
   have:CE ow wf ops sk j=true:=F6.2 ⟨_,List.getElem?_eq_getElem hj,hiw,h1⟩;rw[hw]at this;simp at this
theorem FG.Fx(tr:FG P ow wf n ops base 0 sk hk vk){j:Nat}(hw:EL ow wf ops sk j=true):
  ∃ o t zs,ops[j]? =some o/\o.op= .alloc t/\DP P t=some zs/\0<zs.length/\Hj P ops j= .arr zs.length [zs.map .sc]/\vk j= .ptr (base+j) 0 0/\hk (j+1)=(hk j).set (base+j) (Hj P ops j):=by
 unfold EL at hw;simp only[AV]at hw;obtain⟨o,ho,hiw,hwt⟩:=F6.1 hw.1;have hal:=hw.2;unfold G7 at hal;rw[ho]at hal;simp only[Js]at hal;split at hal
 case h_2=>simp at hal
 rename_i t hop;obtain⟨_,b,h1,_,h3⟩:=tr.step j o (Bj _) ho;rw[hwt]at h1;simp at h1;subst h1;have hd:=(h3 rfl).2.1;unfold Io at hd;rw[hop]at hd;simp only at hd;obtain⟨zs,hz,hpos,hv,hh⟩:=hd;have hob:Hj P ops j= .arr zs.length [zs.map .sc]:=by unfold Hj;rw[ho];simp only[hop,hz]
 exact⟨o,t,zs,ho,hop,hz,hpos,hob,hv,by rw[hob];exact hh⟩
theorem FG.KY(tr:FG P ow wf n ops base 0 sk hk vk)(h0: ∀ f,G7 ops f=true->(hk 0).obj (base+f)=none): ∀ j,j<=ops.length-> ∀ f,j<=f->G7 ops f=true->(hk j).obj (base+f)=none
 |0,_,f,_,hf=>h0 f hf
 |j+1,hj,f,hle,hf=>by
  cases hw:CE ow wf ops sk j with
  |false=>rw[tr.Z5 (by omega) hw];exact FG.KY tr h0 j (by omega) f (by omega) hf
  |true=>
   obtain⟨o,ho,hiw,hwt⟩:=F6.1 hw;obtain⟨_,b,h1,_,h3⟩:=tr.step j o (Bj _) ho;rw[hwt]at h1;simp at h1;subst h1;exact(h3 rfl).2.2.2 hiw f (by omega) hf
theorem FG.NP(tr:FG P ow wf n ops base 0 sk hk vk){M:Nat}: ∀ d,M+d<=ops.length->(∀ j,M<=j->j<M+d->EV ow wf ops sk j=false)->
  hk (M+d)=Dy (hk M) base (Hj P ops) (λf=>decide (M<=f)&&decide (f<M+d)&&EL ow wf ops sk f)
 |0,_,_=>by
  rw[Li (λf=>?_)]
  ·rfl
  ·by_cases h:M<=f
   ·have:¬ f<M+0:=(by omega);simp only[this,Qi,BA,B5]
   ·simp [h]
 |d+1,hd,hn=>by
  have ih:=FG.NP tr d (by omega) (λj h1 h2=>hn j h1 (by omega));cases hw:EL ow wf ops sk (M+d)with
  |true=>
   obtain⟨_,_,_,_,_,_,_,_,_,hh⟩:=tr.Fx hw;rw[show M+(d+1)=M+d+1 by omega,hh,ih];refine(RF (p:=λf=>decide (M<=f)&&decide (f<M+d)&&EL ow wf ops sk f) ?_ (λf hf=>?_)).symm
   ·simp [hw]
   ·rw [show decide (f<M+d+1)=decide (f<M+d) by simp;omega]
  |false=>
   have hnw:=hn (M+d) (by omega) (by omega);have hwd:CE ow wf ops sk (M+d)=false:=by
    unfold EL at hw;unfold EV at hnw;cases hx:CE ow wf ops sk (M+d)with
    |false=>rfl
    |true=>rw[hx]at hw hnw;simp at hw hnw;rw[hw]at hnw;simp at hnw
   rw[show M+(d+1)=M+d+1 by omega,tr.Z5 (by omega) hwd,ih];refine Ni λf=>?_;by_cases hf:f=M+d
   ·subst hf;simp[hw]
   ·rw [show decide (f<M+d+1)=decide (f<M+d) by simp;omega]
theorem FG.Qn(tr:FG P ow wf n ops base 0 sk hk vk){S:Nat->Bool}{j:Nat}(h1:MS ow wf ops sk S<=j)(h2:j<=ops.length)(h3: ∀ i,MS ow wf ops sk S<=i->i<j->EV ow wf ops sk i=false)(h4: ∀ f,MS ow wf ops sk S<=f->f<j->EL ow wf ops sk f=true->S f=true):
  EM P ow wf ops base sk hk S=Dy (hk j) base (Hj P ops) (pS ow wf ops sk S j):=by
 unfold EM;generalize MS ow wf ops sk S=M at*;obtain⟨d,rfl⟩: ∃ d,j=M+d:=⟨j-M,by omega⟩;rw[tr.NP d h2 h3];refine GT rfl λid=>?_;simp only[Dy];by_cases hb:base<=id
 ·generalize id-base=f;simp only[hb,Fk];unfold pS;by_cases c1:M<=f
  ·by_cases c2:f<M+d
   ·have:¬ M+d<=f:=(by omega);cases hw:EL ow wf ops sk f with
    |false=>simp
    |true=>simp[c1,c2,this,h4 f c1 c2 hw]
   ·have:M+d<=f:=(by omega);simp[c1,c2,this]
  ·have:¬ M+d<=f:=(by omega);simp[c1,this]
 ·simp [hb]
theorem C9.nf(hd:II ow wf ops){S:Nat->Bool}{i:Nat}{o:Oper}(r:C9 ops S i o)(hw:CE ow wf ops sk i=true):MS ow wf ops sk S<=i:=by
 obtain⟨h1,h2,h3⟩:=GH (λj=>S j&&EV ow wf ops sk j) ops.length;unfold MS;generalize EB (λj=>S j&&EV ow wf ops sk j) ops.length=m at*;rcases h2 with h2|⟨k,h2,h5⟩
 ·omega
 ·simp only[AV]at h5;rcases Cr i m with h4|h4
  ·have hki:k≠i:=(by intro e;subst e;rw[r.new]at h5;simp at h5);have h6:=h5.2;unfold EV at h6;simp only[AV,EI]at h6;obtain⟨q,hq,hqw,_⟩:=F6.1 h6.1;obtain⟨q',hq',hqw',_⟩:=F6.1 hw;rw[r.at_]at hq';simp at hq';subst hq';have hal:Js q=false:=(by have:=h6.2;unfold G7 at this;rw[hq]at this;exact this);have hi:i<ops.length:=(List.getElem?_eq_some_iff.1 r.at_).1;rcases hd.ww k i q o hki hq r.at_ hqw hqw' with h7|h7|h7|h7
   ·have:=Nj hd i k hi h7;omega
   ·rw [r.GE (by omega) h5.1]at h7;simp at h7
   ·omega
   ·rw [hal]at h7;simp at h7
  ·exact h4
theorem PX{S:Nat->Bool}{j:Nat}(h1:MS ow wf ops sk S<=j)(h2:j<ops.length)(h3:S j=true):EV ow wf ops sk j=false:=by
 have:=(GH (λj=>S j&&EV ow wf ops sk j) ops.length).2.2 j h1 h2;simpa[h3]using this
theorem UH{S S':Nat->Bool}{i:Nat}(hw:EV ow wf ops sk i=false)(ho: ∀ j,j≠i->S' j=S j):MS ow wf ops sk S'=MS ow wf ops sk S:=by
 unfold MS;refine Lh ops.length λj hj=>?_;by_cases hji:j=i
 ·subst hji;simp[hw]
 ·rw [ho j hji]
theorem UI{S S':Nat->Bool}{i:Nat}(hw:CE ow wf ops sk i=false)(ho: ∀ j,j≠i->S' j=S j):EM P ow wf ops base sk hk S'=EM P ow wf ops base sk hk S:=by
 have hn:EV ow wf ops sk i=false:=by unfold EV;rw[hw];try rfl
 have hf:EL ow wf ops sk i=false:=by unfold EL;rw[hw];try rfl
 unfold EM;rw[UH hn ho];refine Ni λf=>?_;unfold pS;by_cases hfi:f=i
 ·subst hfi;simp[hf]
 ·rw [ho f hfi]
theorem C9.pe(hd:II ow wf ops)(tr:FG P ow wf n ops base 0 sk hk vk){S:Nat->Bool}{i:Nat}{o:Oper}(r:C9 ops S i o)(hw:EV ow wf ops sk i=true):
  EM P ow wf ops base sk hk S=Dy (hk i) base (Hj P ops) (pS ow wf ops sk S i):=by
 have hw0:=hw;unfold EV at hw;simp only[AV,EI]at hw;obtain⟨q',hq',hqw',_⟩:=F6.1 hw.1;rw[r.at_]at hq';simp at hq';subst hq';have hal:Js o=false:=by have:=hw.2;unfold G7 at this;rw[r.at_]at this;exact this
 have hi:i<ops.length:=(List.getElem?_eq_some_iff.1 r.at_).1;have key: ∀ j,j<i->CE ow wf ops sk j=true->S j=true:=by
  intro j hj hwj;obtain⟨q,hq,hqw,_⟩:=F6.1 hwj;rcases hd.ww j i q o (by omega) hq r.at_ hqw hqw' with h7|h7|h7|h7
  ·exact r.Hb h7
  ·have:=Nj hd j i (by omega) h7;omega
  ·rw [hal]at h7;simp at h7
  ·omega
 refine tr.Qn (r.nf hd hw.1) (by omega) (λj h1 h2=>?_) (λf h1 h2 h3=>?_)
 ·cases hx:EV ow wf ops sk j with
  |false=>rfl
  |true=>
   have hx':=hx;unfold EV at hx';simp only[AV]at hx';rw[PX h1 (by omega) (key j h2 hx'.1)]at hx;simp at hx
 ·unfold EL at h3;simp only[AV]at h3;exact key f h2 h3.1
theorem C9.pf(hd:II ow wf ops){S S':Nat->Bool}{i:Nat}{o:Oper}(r:C9 ops S i o)(hw:EV ow wf ops sk i=true)(hs':S' i=true)(ho: ∀ j,j≠i->S' j=S j):
  EM P ow wf ops base sk hk S'=Dy (hk (i+1)) base (Hj P ops) (pS ow wf ops sk S i):=by
 have hi:i<ops.length:=(List.getElem?_eq_some_iff.1 r.at_).1;have hw':=hw;unfold EV at hw';simp only[AV,EI]at hw';have hM:MS ow wf ops sk S'=i+1:=by
  unfold MS;refine Jw (by omega) (.inr ⟨i,rfl,by rw[hs',hw];try rfl⟩) λj h1 h2=>?_;cases hsj:S' j with
  |false=>rfl
  |true=>
   rw[ho j (by omega)]at hsj;have:=PX (ow:=ow) (wf:=wf) (sk:=sk) (by have:=r.nf (sk:=sk) hd hw'.1;omega) h2 hsj;simp[this]
 unfold EM;rw[hM];refine Ni λf=>?_;unfold pS;have hf:EL ow wf ops sk i=false:=by unfold EL;rw[hw'.2];simp
 by_cases hfi:f=i
 ·subst hfi;simp[hf]
 ·rw [ho f hfi,show decide (i+1<=f)=decide (i<=f) by simp;omega]
theorem C9.pg(hd:II ow wf ops)(tr:FG P ow wf n ops base 0 sk hk vk)(h0: ∀ f,G7 ops f=true->(hk 0).obj (base+f)=none){S S':Nat->Bool}{i:Nat}{o:Oper}(r:C9 ops S i o)(hw:EL ow wf ops sk i=true)(hs':S' i=true)(ho: ∀ j,j≠i->S' j=S j):
  EM P ow wf ops base sk hk S'=(EM P ow wf ops base sk hk S).set (base+i) (Hj P ops i)/\(EM P ow wf ops base sk hk S).obj (base+i)=none:=by
 have hi:i<ops.length:=(List.getElem?_eq_some_iff.1 r.at_).1;have hw':=hw;unfold EL at hw';simp only[AV]at hw';have hn:EV ow wf ops sk i=false:=by unfold EV;rw[hw'.2];simp
 have hM:=r.nf (sk:=sk) hd hw'.1;constructor
 ·unfold EM;rw[UH hn ho];refine RF ?_ λf hf=>?_
  ·simp [pS,hM,hs',hw]
  ·unfold pS;rw[ho f hf]
 ·unfold EM;simp only[Dy];rw[A7 (by rw[show base+i-base=i by omega];simp[pS,r.new])];exact tr.KY h0 _ (by omega) i hM hw'.2
theorem C9.ph(hd:II ow wf ops)(tr:FG P ow wf n ops base 0 sk hk vk){S:Nat->Bool}{i:Nat}{o:Oper}(r:C9 ops S i o)(hiw:BL ow wf o=false)(hw:D4 ops (sk i) o=some true):
  ∃ j,j<=ops.length/\MS ow wf ops sk S<=j/\EM P ow wf ops base sk hk S=Dy (hk j) base (Hj P ops) (pS ow wf ops sk S j)/\Ap P ow o (A9 (sk i)) (hk j) (vk i) (hk j):=by
 have hi:i<ops.length:=(List.getElem?_eq_some_iff.1 r.at_).1;have hN:Nd ow wf ops sk i o:=⟨r.at_,hiw,hw⟩;have hwi:CE ow wf ops sk i=false:=by
  cases hx:CE ow wf ops sk i with
  |false=>rfl
  |true=>
   obtain⟨q,hq,hqw,_⟩:=F6.1 hx;rw[r.at_]at hq;simp at hq;subst hq;rw[hiw]at hqw;simp at hqw
 obtain⟨_,b,h1,_,h3⟩:=tr.step i o (Bj _) r.at_;rw[hw]at h1;simp at h1;subst h1;have hdo:=(UG hiw).1 (h3 rfl).2.1;rw[(h3 rfl).2.2.1 hiw]at hdo;have hMl:MS ow wf ops sk S<=ops.length:=(GH _ _).1;rcases Cr i (MS ow wf ops sk S)with h4|h4
 ·rcases (GH (λj=>S j&&EV ow wf ops sk j) ops.length).2.1 with h5|⟨k,h5,h6⟩
  ·unfold MS at h4;omega
  ·simp only[AV]at h6;have hk':MS ow wf ops sk S=k+1:=h5;have hwk:CE ow wf ops sk k=true:=(by have:=h6.2;unfold EV at this;simp only[AV]at this;exact this.1);have hki:k≠i:=(by intro e;subst e;rw[hwi]at hwk;simp at hwk);refine⟨k+1,by omega,by omega,?_,?_⟩
   ·have:=tr.Qn (S:=S) (j:=k+1) (by omega) (by omega) (λj a c=>by omega) (λf a c=>by omega);exact this
   ·rcases (tr.apart i k o (Bj _) (Bj _) hN (F6.1 hwk)).1 (by omega)with h7|h7
    ·rw [r.GE (by omega) h6.1]at h7;simp at h7
    ·exact h7
 ·have hex:(∀ j,MS ow wf ops sk S<=j->j<i->CE ow wf ops sk j=true->S j=true)\/ ∃ j,MS ow wf ops sk S<=j/\j<i/\CE ow wf ops sk j=true/\S j=false/\ ∀ l,MS ow wf ops sk S<=l->l<j->CE ow wf ops sk l=true->S l=true:=by
   have: ∀ d,(∀ j,MS ow wf ops sk S<=j->j<MS ow wf ops sk S+d->CE ow wf ops sk j=true->S j=true)\/ ∃ j,MS ow wf ops sk S<=j/\j<MS ow wf ops sk S+d/\CE ow wf ops sk j=true/\S j=false/\ ∀ l,MS ow wf ops sk S<=l->l<j->CE ow wf ops sk l=true->S l=true:=by
    intro d
    induction d with
    |zero=>left;intro j a b;omega
    |succ d ih=>
     rcases ih with ih|⟨j,g1,g2,g3⟩
     ·by_cases hx:CE ow wf ops sk (MS ow wf ops sk S+d)=true/\S (MS ow wf ops sk S+d)=false
      ·exact .inr ⟨_,by omega,by omega,hx.1,hx.2,ih⟩
      ·left;intro j a b hj;rcases Cr j (MS ow wf ops sk S+d)with c|c
       ·exact ih j a c hj
       ·have:j=MS ow wf ops sk S+d:=(by omega);subst this;cases hs:S (MS ow wf ops sk S+d)with
        |true=>rfl
        |false=>exact(hx ⟨hj,hs⟩).elim
     ·exact .inr ⟨j,g1,by omega,g3⟩
   have:=this (i-MS ow wf ops sk S)
   rwa [show MS ow wf ops sk S+(i-MS ow wf ops sk S)=i by omega]at this
  have fromAll: ∀ j,j<=ops.length->MS ow wf ops sk S<=j->(∀ l,MS ow wf ops sk S<=l->l<j->CE ow wf ops sk l=true->S l=true)->EM P ow wf ops base sk hk S=Dy (hk j) base (Hj P ops) (pS ow wf ops sk S j):=by
   intro j hj hM hall;refine tr.Qn hM hj (λl a c=>?_) (λf a c hf=>?_)
   ·cases hx:EV ow wf ops sk l with
    |false=>rfl
    |true=>
     have hx':=hx;unfold EV at hx';simp only[AV]at hx';rw[PX a (by omega) (hall l a c hx'.1)]at hx;simp at hx
   ·unfold EL at hf;simp only[AV]at hf;exact hall f a c hf.1
  rcases hex with hall|⟨j,g1,g2,g3,g4,g5⟩
  ·exact ⟨i,by omega,h4,fromAll i (by omega) h4 hall,hdo⟩
  ·refine ⟨j,by omega,g1,fromAll j (by omega) g1 g5,?_⟩;rcases(tr.apart i j o (Bj _) (Bj _) hN (F6.1 g3)).2 g2 with h7|h7
   ·rw [r.Hb h7]at g4;simp at g4
   ·exact h7
end
end Go.AM
namespace Go.AM
section
variable {P:Program}{ow:Nat->Bool}{wf:FuncId->Bool}{n:Nat}{ops:List Oper}{base:Nat}{sk:Nat->AE}{hk:Nat->A0}{vk:Nat->PV}
theorem Lj{S:Nat->Bool}{j:Nat}{H:A0}{ob:Nat->Am}:Dy H base ob (pS ow wf ops sk S j)=Dy H base ob (λf=>decide (f<ops.length)&&pS ow wf ops sk S j f):=Ni λf=>by
 by_cases hf:f<ops.length
 ·simp [hf]
 ·have:EL ow wf ops sk f=false:=by
   cases hx:EL ow wf ops sk f with
   |false=>rfl
   |true=>exact(hf (RG hx)).elim
  simp[pS,this]
theorem aJ(hd:II ow wf ops)(tr:FG P ow wf n ops base 0 sk hk vk)(h0: ∀ f,G7 ops f=true->(hk 0).obj (base+f)=none){K:AE->A0->Prop}(hK:K (sk ops.length) (hk ops.length)){β0:BK}{hb:A0}{w0:World}(hbn:hb.next<=base){Q:Exit->Act->World->Prop}
  (hk': ∀ a' w',To n β0 hb w0 K a' w'->Q .normal a' w'):
  ∀ (fuel:Nat)(listed:Array Bool)(β:BK)(a:Act)(w:World),listed.size=ops.length->IH ops (λj=>listed.getD j false)->FV (λj=>listed.getD j false) ops.length<=fuel->
   St n β (CF ops sk λj=>listed.getD j false) (EM P ow wf ops base sk hk λj=>listed.getD j false) a w->
   BR β0 hb w0 β (EM P ow wf ops base sk hk λj=>listed.getD j false) w->
   base+ops.length<=(EM P ow wf ops base sk hk λj=>listed.getD j false).next->
   (∀ f,f<ops.length->listed.getD f false=false->(β (base+f)).b=none)->wpAny P .any ops.toArray Q fuel listed a w:=by
 have DA: ∀ (listed:Array Bool)(β:BK)(a:Act)(w:World),(∀ j,j<ops.length->listed.getD j false=true)->
   St n β (CF ops sk λj=>listed.getD j false) (EM P ow wf ops base sk hk λj=>listed.getD j false) a w->
   BR β0 hb w0 β (EM P ow wf ops base sk hk λj=>listed.getD j false) w->Q .normal a w:=by
  intro listed β a w hall st ex;have e1:CF ops sk (λj=>listed.getD j false)=sk ops.length:=by
   funext t;obtain⟨h1,h2,h3⟩:=GH (λj=>listed.getD j false&&Cz ops t j) ops.length;unfold CF;generalize EB (λj=>listed.getD j false&&Cz ops t j) ops.length=m at*;have:=tr.JD (t:=t) (i:=m) (ops.length-m) (by omega) (λj h5 h6=>by
    have:=h3 j h5 (by omega);rw[hall j (by omega),B7]at this;exact this)
   rw[show m+(ops.length-m)=ops.length by omega]at this;exact this.symm
  have e2:EM P ow wf ops base sk hk (λj=>listed.getD j false)=hk ops.length:=by
   rw[tr.Qn (S:=λj=>listed.getD j false) (j:=ops.length) (GH _ _).1 (AG _) (λi a c=>PX a c (hall i c)) (λf a c _=>hall f c)];refine Li λf=>?_;by_cases hf:ops.length<=f
   ·have:EL ow wf ops sk f=false:=by
     cases hx:EL ow wf ops sk f with
     |false=>rfl
     |true=>have:=RG hx;omega
    simp[pS,this]
   ·simp [pS,hf]
  rw[e1,e2]at st;rw[e2]at ex;exact hk' a w ⟨_,_,β,hK,st,ex⟩
 have rdy: ∀ (listed:Array Bool)(i:Nat),listed.size=ops.length->IH ops (λj=>listed.getD j false)->i∈Region.ready .any ops.toArray listed-> ∃ o,C9 ops (λj=>listed.getD j false) i o:=by
  intro listed i hsz hc hi;simp only[Region.ready,List.mem_filter,List.mem_range,List.size_toArray,AV,EI,List.getElem?_toArray]at hi;obtain⟨h1,h2,h3⟩:=hi;rw[List.getElem?_eq_getElem h1]at h3;simp only[Bq,BD,Ox,EH,EI]at h3;refine⟨_,List.getElem?_eq_getElem h1,?_,hc,λe he hb=>?_⟩
  ·rw [Da,NL (by omega)]at h2⊢;simpa using h2
  ·rcases h3 e (I9.1 he)with h4|h4
   ·rw [hb]at h4;simp at h4
   ·exact h4
 have noRdy: ∀ (listed:Array Bool),listed.size=ops.length->Region.ready .any ops.toArray listed=[]-> ∀ j,j<ops.length->listed.getD j false=true:=by
  intro listed hsz hr j
  induction j using Nat.strongRecOn with
  |_ j ih=>
   intro hj;cases hs:listed.getD j false with
   |true=>rfl
   |false=>
    have hm:j∈Region.ready .any ops.toArray listed:=by
     simp only[Region.ready,List.mem_filter,List.mem_range,List.size_toArray,AV,EI,List.getElem?_toArray];refine⟨hj,?_,?_⟩
     ·rw [Da,NL (by omega)]at hs⊢;simpa using hs
     ·rw [List.getElem?_eq_getElem hj];simp only[Bq,BD,Ox,EH,EI];intro e he;cases hb:Region.binds .any e with
      |false=>exact .inl rfl
      |true=>
       have hlt:=hd.back j _ (List.getElem?_eq_getElem hj) e (I9.2 he) hb;exact .inr (ih e.on hlt (by omega))
    rw[hr]at hm;simp at hm
 intro fuel
 induction fuel with
 |zero=>
  intro listed β a w hsz hc hm st ex hnx hho;have hall:=PU (S:=λj=>listed.getD j false) ops.length (by omega);refine⟨?_,DA listed β a w hall st ex⟩;apply List.eq_nil_iff_forall_not_mem.2;intro i hi;obtain⟨o,r⟩:=rdy listed i hsz hc hi;have:=hall i (List.getElem?_eq_some_iff.1 r.at_).1;have hn:=r.new;rw[this]at hn;simp at hn
 |succ fuel ih=>
  intro listed β a w hsz hc hm st ex hnx hho;refine⟨λhr=>DA listed β a w (noRdy listed hsz hr) st ex,λi hi=>?_⟩;obtain⟨o,r⟩:=rdy listed i hsz hc hi;have hil:i<ops.length:=(List.getElem?_eq_some_iff.1 r.at_).1;have hs':(listed.setIfInBounds i true).getD i false=true:=by
   rw[Da,Yt (by omega)];try rfl
  have ho: ∀ j,j≠i->(listed.setIfInBounds i true).getD j false=listed.getD j false:=by
   intro j hj;rw[Da,MQ (Ne.symm hj), ← Da]
  have hc':IH ops (λj=>(listed.setIfInBounds i true).getD j false):=by
   intro j q hq hj e he hb;by_cases heq:e.on=i
   ·simp only[heq];exact hs'
   ·simp only;rw[ho _ heq];by_cases hji:j=i
    ·subst hji;have:=r.at_;rw[hq]at this;simp at this;subst this;exact r.before e he hb
    ·simp only at hj;rw[ho j hji]at hj;exact hc j q hq hj e he hb
  have hm':FV (λj=>(listed.setIfInBounds i true).getD j false) ops.length<=fuel:=by
   have:=PT (S:=λj=>listed.getD j false) (S':=λj=>(listed.setIfInBounds i true).getD j false) r.new hs' (λj hj=>(ho j hj).symm) ops.length hil;omega
  obtain⟨hdst,b,hb,hb1,hb2⟩:=tr.step i o (Bj _) r.at_;have hlook: ∀ t,t∈F4 ops o->CF ops sk (λj=>listed.getD j false) t=sk i t:=λt ht=>r.pZ hd tr ht;have hwant:=PO st (o:=o) (ops:=ops) (by rw[RD hlook];exact hb);have hnext:=λ{x:PV}(hx:sk (i+1)=Ak (sk i) o.dst x)=>r.pd (S':=λj=>(listed.setIfInBounds i true).getD j false) hd tr hs' ho hx;have ho2: ∀ j,j≠i->(λj=>(listed.setIfInBounds i true).getD j false) j=(λj=>listed.getD j false) j:=ho;have hho': ∀ f,f<ops.length->(listed.setIfInBounds i true).getD f false=false->f≠i/\(β (base+f)).b=none:=by
   intro f hf hfs;by_cases hfi:f=i
   ·rw [hfi,hs']at hfs;simp at hfs
   ·exact ⟨hfi,hho f hf (by rw[← ho f hfi];exact hfs)⟩
  unfold wpOp;simp only[List.getElem?_toArray,r.at_];rw[hwant];cases b with
  |false=>
   obtain⟨e1,e2⟩:=hb1 rfl;simp only[BQ,AP];have st':=st.undef (d:=o.dst) hdst;rw[hnext e1]at st';have hwdf:CE ow wf ops sk i=false:=by
    cases hx:CE ow wf ops sk i with
    |false=>rfl
    |true=>
     obtain⟨q,hq,_,hqw⟩:=F6.1 hx;rw[r.at_]at hq;simp at hq;subst hq;rw[hb]at hqw;simp at hqw
   have eh:=UI (P:=P) (base:=base) (hk:=hk) hwdf ho2;exact ih _ β _ w (by simpa using hsz) hc' hm' (by rw[eh];exact st') (by rw[eh];exact ex) (by rw[eh];exact hnx) (λf hf hfs=>(hho' f hf hfs).2)
  |true=>
   obtain⟨e1,e2,e3⟩:=hb2 rfl;simp only[AO];left;have hops: ∀ t,.tmp t∈o.op.operands->sk i t=CF ops sk (λj=>listed.getD j false) t:=λt ht=>(hlook t (by
    simp only[F4,List.mem_append,List.mem_filterMap];exact .inl (.inl ⟨.tmp t,I9.2 ht,rfl⟩))).symm
   have pOk: ∀ j,j<=ops.length-> ∀ f,pS ow wf ops sk (λj=>listed.getD j false) j f=true->(hk j).obj (base+f)=none/\f<ops.length/\ ∃ z rows,Hj P ops f= .arr z rows/\rows≠[]:=by
    intro j hj f hf;unfold pS at hf;simp only[AV,Ba]at hf;have hfl:=hf.2;obtain⟨_,_,zs,_,_,_,_,hob,_⟩:=tr.Fx hfl;have hal:G7 ops f=true:=(by unfold EL at hfl;simp only[AV]at hfl;exact hfl.2);exact⟨tr.KY h0 j hj f hf.1.1 hal,RG hf.2,_,_,hob,by simp⟩
   cases hiw:BL ow wf o with
   |true=>
    have hwd:CE ow wf ops sk i=true:=F6.2 ⟨o,r.at_,hiw,hb⟩;cases hal:G7 ops i with
    |true=>
     have hwf:EL ow wf ops sk i=true:=(by unfold EL;rw[hwd,hal];try rfl);obtain⟨q,t,zs,hq,hop,hz,hpos,hob,hv,_⟩:=tr.Fx hwf;rw[r.at_]at hq;simp at hq;subst hq;obtain⟨eh,hno⟩:=r.pg (P:=P) (base:=base) (hk:=hk) hd tr h0 hwf hs' ho2;rw[hv]at e1;refine St.float (P:=P) hz (show base+i<_ by omega) hno (hho i hil r.new) st hop hdst λβ' a' w' st' hbeta hos htape hout hsize hX hmem hfz=>?_;rw[hnext e1, ← hob, ← eh]at st';have hrn:(EM P ow wf ops base sk hk λj=>(listed.setIfInBounds i true).getD j false).next=(EM P ow wf ops base sk hk λj=>listed.getD j false).next:=by rw[eh];try rfl
     refine ih _ β' a' w' (by simpa using hsz) hc' hm' st' ?_ (by rw[hrn];exact hnx) (λf hf hfs=>?_)
     ·refine ⟨hos.trans ex.os,htape.trans ex.tape,hout.trans ex.output,ER ex.size hsize,by rw[hrn];exact ex.next,λid hid=>?_,hX.trans ex.X,λc hc hl=>?_,λc hc=>?_⟩
      ·rw [hbeta id (by omega)];exact ex.beta id hid
      ·rw [hmem c (I8 hl ex.size)];exact ex.xh c hc hl
      ·obtain ⟨g1,g2⟩:=ex.fz c hc;refine⟨?_,by rw[hmem c g1.1];exact g2⟩;have:=hfz c g1;rw[← hob, ← eh]at this;exact this
     ·obtain ⟨g1,g2⟩:=hho' f hf hfs;rw[hbeta _ (by omega)];exact g2
    |false=>
     have hwn:EV ow wf ops sk i=true:=(by unfold EV;rw[hwd,hal];try rfl);have hdo:Ap P ow o (A9 (sk i)) (hk i) (vk i) (hk (i+1)):=by
      have:=e2;unfold Io at this;split at this
      ·rename_i t hop;unfold G7 at hal;rw[r.at_]at hal;simp[Js,hop]at hal
      ·exact this
     have eS:=r.pe (P:=P) (base:=base) hd tr hwn;have eS':=r.pf (P:=P) (base:=base) (hk:=hk) hd hwn hs' ho2;rw[eS,Lj]at st;have hnn:(hk i).next=(EM P ow wf ops base sk hk λj=>listed.getD j false).next:=by rw[eS];try rfl
     obtain⟨βX,stX,back⟩:=St.Qm (λf hf=>by
      obtain⟨g1,g2,g3⟩:=pOk i (by omega) f hf;exact⟨by rw[hnn];omega,g1,g3⟩) ops.length st
     refine Ap.wp stX hdst (Lg hops hdo) (λa' w' ht=>?_);obtain⟨s',h',β',⟨rfl,rfl⟩,st',ex'⟩:=ht;obtain⟨β'',st'',ex''⟩:=back β' _ _ a' w' st' ex' (λf hf=>by
      unfold pS at hf;simp only[AV,Ba]at hf;have hal':G7 ops f=true:=(by have h9:=hf.2;unfold EL at h9;simp only[AV]at h9;exact h9.2);have hfi:f≠i:=(by intro e;subst e;rw[hal]at hal';simp at hal');exact tr.KY h0 (i+1) (by omega) f (by omega) hal')
     rw[hnext e1, ← Lj, ← eS']at st'';rw[← Lj, ← Lj, ← eS', ← eS]at ex'';refine ih _ β'' a' w' (by simpa using hsz) hc' hm' st'' (ex.trans ex'') (ER hnx ex''.next) (λf hf hfs=>?_);rw[ex''.beta _ (by omega)];exact(hho' f hf hfs).2
   |false=>
    have hwd:CE ow wf ops sk i=false:=by
     cases hx:CE ow wf ops sk i with
     |false=>rfl
     |true=>
      obtain⟨q,hq,hqw,_⟩:=F6.1 hx;rw[r.at_]at hq;simp at hq;subst hq;rw[hiw]at hqw;simp at hqw
    obtain⟨j,hj,hMj,eS,hdo⟩:=r.ph (P:=P) (base:=base) hd tr hiw hb;have eh:=UI (P:=P) (base:=base) (hk:=hk) hwd ho2;rw[eS,Lj]at st;have hnn:(hk j).next=(EM P ow wf ops base sk hk λj=>listed.getD j false).next:=by rw[eS];try rfl
    obtain⟨βX,stX,back⟩:=St.Qm (λf hf=>by
     obtain⟨g1,g2,g3⟩:=pOk j hj f hf;exact⟨by rw[hnn];omega,g1,g3⟩) ops.length st
    refine Ap.wp stX hdst (Lg hops hdo) (λa' w' ht=>?_);obtain⟨s',h',β',⟨rfl,rfl⟩,st',ex'⟩:=ht;obtain⟨β'',st'',ex''⟩:=back β' _ _ a' w' st' ex' (λf hf=>(pOk j hj f hf).1);rw[hnext e1, ← Lj, ← eS, ← eh]at st'';rw[← Lj, ← eS]at ex'';refine ih _ β'' a' w' (by simpa using hsz) hc' hm' st'' (by rw[eh];exact ex.trans ex'') (by rw[eh];exact ER hnx ex''.next) (λf hf hfs=>?_);rw[ex''.beta _ (by omega)];exact(hho' f hf hfs).2
theorem aK{id:Nat}(hm:P.follows .mixedOrders=true){β:BK}{s:AE}{h:A0}{a:Act}{w:World}{K:AE->A0->Prop}{Q:Exit->Act->World->Prop}(st:St n β s h a w)(hw:Tb P ow wf n ops K s h)
  (hk': ∀ a' w',To n β h w K a' w'->Q .normal a' w'):(Code.region id ops.toArray true).wp P Q a w:=by
 obtain⟨h1,h2⟩:=hw;have hd:=II.of h1;obtain⟨sk,hk,vk,e1,e2,hK,tr,_,_⟩:=PW ops 0 [] [] s _ (by simp) h2;rw[C7]at hK;refine wp_region_any hm ?_;obtain⟨s1,s2⟩:=st.Bb.drew;have std:St n β s h a w.drew:=⟨s1,λt=>s2.rep (st.rep t),st.size,st.defers⟩;obtain⟨β0,st0,ex0,hnone0⟩:=std.LV ops.length;have hS: ∀ j,(Array.replicate ops.toArray.size false).getD j false=false:=by
  intro j;rw[Da,Qh];split<;>rfl
 have emp: ∀ (p:Nat->Bool),(λj=>((Array.replicate ops.toArray.size false).getD j false&&p j))=λ_=>false:=by
  intro p;funext j;rw[hS];try rfl
 have l0:EB (λ_=>false) ops.length=0:=Jw (Bj _) (.inl rfl) (λ_ _ _=>rfl);have hval:CF ops sk (λj=>(Array.replicate ops.toArray.size false).getD j false)=s:=by
  funext t;unfold CF;rw[emp,l0,e1]
 have hheap:EM P ow wf ops h.next sk hk (λj=>(Array.replicate ops.toArray.size false).getD j false)=h.LV ops.length:=by
  unfold EM;rw[Li (λf=>by unfold pS;simp only[hS,BA,B5])];unfold MS;rw[emp,l0,e2];try rfl
 refine aJ hd tr (λf _=>?_) hK (hb:=h) (β0:=β) (w0:=w) (AG _) hk' _ _ β0 a w.drew (by simp) (λj o _ hj=>by simp only[hS]at hj;simp at hj) ?_ ?_ ?_ ?_ ?_
 ·rw [e2];cases ho:h.obj (h.next+f)with
  |none=>rfl
  |some o=>have:=st.Bb.lt (h.next+f) (by rw[ho];try rfl);omega
 ·have: ∀ m,FV (λj=>(Array.replicate ops.toArray.size false).getD j false) m<=m:=by
   intro m
   induction m with
   |zero=>exact AG _
   |succ m ih=>unfold FV;split<;>omega
  simpa using this ops.length
 ·rw [hval,hheap];exact st0
 ·rw [hheap];exact s2.trans ex0
 ·rw [hheap];exact AG _
 ·intro f hf _;exact hnone0 _ (by omega)
end
end Go.AM
namespace Go.AM
section
variable {P:Program}{ow:Nat->Bool}{n:Nat}{β:BK}{h:A0}{w:World}{s:AE}{a:Act}
theorem St.pj{i:Nat}{o:Am}(hi:i<h.next)(hn:h.obj i=none)(st:St n β s (h.set i o) a w):
  ∃ βX,St n βX s h a w/\ ∀ (β':BK)(s':AE)(h':A0)(a':Act)(w':World),St n β' s' h' a' w'->BR βX h w β' h' w'->h'.obj i=none->
   ∃ β'',St n β'' s' (h'.set i o) a' w'/\BR β (h.set i o) w β'' (h'.set i o) w':=by
 have oi:(h.set i o).obj i=some o:=by simp[A0.set]
 have on: ∀ j,j≠i->(h.set i o).obj j=h.obj j:=λj hj=>by simp[A0.set,hj]
 have live: ∀ j,(h.obj j).isSome=true->j≠i:=λj hj e=>by rw[e,hn]at hj;simp at hj
 have hok:=st.Bb.ok i _ oi;have fzd: ∀ c,Fz β (h.set i o) w c->Fz ⟨β.bl,λd=>β.X d\/(β i).b=some d⟩ h w c:=λc hc=>⟨hc.1,λj hj=>hc.2.1 j (by rw[on j (live j hj)];exact hj),λhx=>hx.elim hc.2.2 (λe=>hc.2.1 i (by rw[oi];try rfl) e)⟩;have m1:Mv β h.next (Fz β (h.set i o) w) w ⟨β.bl,λd=>β.X d\/(β i).b=some d⟩ h.next (Fz ⟨β.bl,λd=>β.X d\/(β i).b=some d⟩ h w) w:=⟨AG _,λ_ _ _=>rfl,λc hc=>⟨fzd c hc,rfl⟩⟩
 refine⟨⟨β.bl,λd=>β.X d\/(β i).b=some d⟩,⟨⟨λid hs=>?_,λid o ho=>?_,λj k hj hk c h1 h2=>?_,λc hc=>?_,λid hs c h1=>?_⟩,λt=>AA.mv m1 _ _ (st.rep t),st.size,st.defers⟩,?_⟩
 ·exact st.Bb.lt id (by rw[on id (live id hs)];exact hs)
 ·have:=live id (by rw[ho];try rfl);exact BN.mv m1 (λ_ _=>rfl) (st.Bb.ok id o (by rw[on id this];exact ho))
 ·exact st.Bb.inj j k (by rw[on j (live j hj)];exact hj) (by rw[on k (live k hk)];exact hk) c h1 h2
 ·exact hc.elim (st.Bb.xs c) (λe=>st.Bb.Jm oi e)
 ·have hs':((h.set i o).obj id).isSome=true:=by rw[on id (live id hs)];exact hs
  rintro(hx|hx)
  ·exact st.Bb.nx id hs' c h1 hx
  ·exact live id hs (st.Bb.inj id i hs' (by rw[oi];try rfl) _ h1 hx)
 ·intro β' s' h' a' w' st' ex hn';have on': ∀ j,j≠i->(h'.set i o).obj j=h'.obj j:=λj hj=>by simp[A0.set,hj]
  have hbi:(β' i)=β i:=ex.beta i hi;have hX:β'.X=λd=>β.X d\/(β i).b=some d:=ex.X;have fzu: ∀ c,Fz β' h' w' c->Fz ⟨β'.bl,β.X⟩ (h'.set i o) w' c:=λc hc=>by
   have h3:=hc.2.2;rw[hX]at h3;refine⟨hc.1,λj hj hjc=>?_,λhx=>h3 (.inl hx)⟩;by_cases hji:j=i
   ·subst hji;have h4:(β' j).b=some c:=hjc;rw[hbi]at h4;exact h3 (.inr h4)
   ·rw [on' j hji]at hj;exact hc.2.1 j hj hjc
  have e2:BR β (h.set i o) w ⟨β'.bl,β.X⟩ (h'.set i o) w':=
   ⟨ex.os,ex.tape,ex.output,ex.size,ex.next,ex.beta,rfl,λc hc hl=>ex.xh c (.inl hc) hl,λc hc=>⟨fzu c (ex.fz c (fzd c hc)).1,(ex.fz c (fzd c hc)).2⟩⟩
  have m2:Mv β' h'.next (Fz β' h' w') w' ⟨β'.bl,β.X⟩ h'.next (Fz ⟨β'.bl,β.X⟩ (h'.set i o) w') w':=⟨AG _,λ_ _ _=>rfl,λc hc=>⟨fzu c hc,rfl⟩⟩
  refine⟨⟨β'.bl,β.X⟩,⟨⟨λid hs=>?_,λid o2 ho=>?_,λj k hj hk c h1 h2=>?_,λc hc=>?_,λid hs c h1=>?_⟩,λt=>AA.mv m2 _ _ (st'.rep t),st'.size,st'.defers⟩,e2⟩
  ·by_cases hid:id=i
   ·subst hid;exact I8 hi ex.next
   ·rw [on' id hid]at hs;exact st'.Bb.lt id hs
  ·by_cases hid:id=i
   ·subst hid;have:o2=o:=(by simp[A0.set]at ho;exact ho.symm);subst this;have h3:=BN.mv (w':=w') (β':=⟨β'.bl,β.X⟩) (n':=h'.next) (F':=Fz ⟨β'.bl,β.X⟩ (h'.set id o2) w') e2.mv (λc hc=>ex.xh c (.inr hc) (st.Bb.Jm oi hc)) hok;show BN _ _ _ _ (β' id) _;rw[hbi];exact h3
   ·rw [on' id hid]at ho;exact BN.mv m2 (λ_ _=>rfl) (st'.Bb.ok id o2 ho)
  ·have key: ∀ j,j≠i->((h'.set i o).obj j).isSome=true-> ∀ b,(β i).b=some b->(β' j).b≠some b:=λj hji hj b hb e=>by
    rw[on' j hji]at hj;have:=st'.Bb.nx j hj b e;rw[hX]at this;exact this (.inr hb)
   by_cases hji:j=i
   ·by_cases hki:k=i
    ·rw [hji,hki]
    ·have h3:(β' j).b=some c:=h1;rw[hji,hbi]at h3;exact(key k hki hk c h3 h2).elim
   ·by_cases hki:k=i
    ·have h3:(β' k).b=some c:=h2;rw[hki,hbi]at h3;exact(key j hji hj c h3 h1).elim
    ·rw [on' j hji]at hj;rw[on' k hki]at hk;exact st'.Bb.inj j k hj hk c h1 h2
  ·exact st'.Bb.xs c (by rw[hX];exact .inl hc)
  ·by_cases hid:id=i
   ·have h3:(β' id).b=some c:=h1;rw[hid,hbi]at h3;exact st.Bb.nx i (by rw[oi];try rfl) c h3
   ·rw [on' id hid]at hs;have:=st'.Bb.nx id hs c h1;rw[hX]at this;exact λhx=>this (.inl hx)
theorem aM{H:A0}{l:List Nat}:Cd (BE H l) H l=H:=GT rfl λj=>by
 simp only[Cd,BE];by_cases h1:j∈l
 ·cases h2:H.obj j<;>simp[h1,h2]
 ·simp [h1]
theorem St.TV{H:A0}(hlt: ∀ id,(H.obj id).isSome=true->id<H.next): ∀ (l:List Nat){β:BK},St n β s H a w->
  ∃ βX,St n βX s (BE H l) a w/\ ∀ (β':BK)(s':AE)(h':A0)(a':Act)(w':World),St n β' s' h' a' w'->BR βX (BE H l) w β' h' w'->(∀ j∈l,(H.obj j).isSome=true->h'.obj j=none)->
   ∃ β'',St n β'' s' (Cd h' H l) a' w'/\BR β H w β'' (Cd h' H l) w'
 |[],β,st=>by
  have e:BE H []=H:=GT rfl λj=>by simp[BE]
  have e': ∀ h',Cd h' H []=h':=λh'=>GT rfl λj=>by simp[Cd]
  rw[e];exact⟨β,st,λβ' s' h' a' w' st' ex _=>⟨β',by rw[e'];exact st',by rw[e'];exact ex⟩⟩
 |i::l,β,st=>by
  obtain⟨β1,st1,back1⟩:=St.TV hlt l st;by_cases hc:l.contains i=true\/H.obj i=none
  ·have e:BE H (i::l)=BE H l:=GT rfl λj=>by
    simp only[BE,List.contains_cons];by_cases hj:j=i
    ·subst hj;rcases hc with hc|hc
     ·have hm:j∈l:=(by simpa using hc);simp[hm]
     ·simp [hc]
    ·simp [hj]
   have e': ∀ h',Cd h' H (i::l)=Cd h' H l:=λh'=>GT rfl λj=>by
    simp only[Cd,List.contains_cons];by_cases hj:j=i
    ·subst hj;rcases hc with hc|hc
     ·have hm:j∈l:=(by simpa using hc);simp[hm]
     ·simp [hc]
    ·simp [hj]
   rw[e];refine⟨β1,st1,λβ' s' h' a' w' st' ex hno=>?_⟩;rw[e'];exact back1 β' s' h' a' w' st' ex λj hj=>hno j (by simp[hj])
  ·simp only[not_or]at hc;obtain⟨hc1,hc2⟩:=hc;obtain⟨o,ho⟩:=Option.ne_none_iff_exists'.1 hc2;have e:BE H l=(BE H (i::l)).set i o:=GT rfl λj=>by
    simp only[BE,A0.set,List.contains_cons];by_cases hj:j=i
    ·subst hj;simp only[hc1,AP,AO];simpa using ho
    ·simp [hj]
   have hlt':i<(BE H (i::l)).next:=hlt i (by rw[ho];try rfl)
   rw[e]at st1 back1;obtain⟨β2,st2,back2⟩:=St.pj hlt' (by simp[BE]) st1;refine⟨β2,st2,λβ' s' h' a' w' st' ex hno=>?_⟩;obtain⟨β3,st3,ex3⟩:=back2 β' s' h' a' w' st' ex (hno i (by simp) (by rw[ho];try rfl));obtain⟨β4,st4,ex4⟩:=back1 β3 s' _ a' w' st3 ex3 (λj hj hs=>by
    have:j≠i:=λe=>hc1 (by rw[← e];simpa using hj);simp only[A0.set,this,AP];exact hno j (by simp[hj]) hs)
   have e':Cd h' H (i::l)=Cd (h'.set i o) H l:=GT rfl λj=>by
    simp only[Cd,A0.set,List.contains_cons];by_cases hj:j=i
    ·subst hj;simp[hc1,ho]
    ·simp [hj]
   exact⟨β4,by rw[e'];exact st4,by rw[e'];exact ex4⟩
theorem UJ{m z:Nat}{ρ:Operand->PV}: ∀ (parts:List (Nat × Operand)){rows out:List (List PV)},B9 m rows->(∀ x,Bc m (ρ x))->Hf z rows (parts.map λp=>(p.1,ρ p.2))=some out->B9 m out
 |[],rows,out,hr,_,h=>by simp[Hf]at h;subst h;exact hr
 |(i,x)::ps,rows,out,hr,hx,h=>by
  simp only[List.map_cons,Hf]at h;split at h
  ·refine UJ ps ?_ hx h;have hc:Bo m (ρ x).cells:=by
    have:=hx x;cases hp:ρ x<;>rw[hp]at this<;>simp only[PV.cells,Bo,Do]<;>(try exact this)
   rename_i hcnd;clear h hcnd
   induction rows generalizing i with
   |nil=>simpa using hr
   |cons r rs ih=>
    simp only[B9]at hr;cases i with
    |zero=>simp only[List.set_cons_zero,B9];exact⟨hc,hr.2⟩
    |succ i=>simp only[List.set_cons_succ,B9];exact⟨hr.1,ih i hr.2⟩
  ·simp at h
theorem RH{m:Nat}: ∀ l:List Value,Bo m (l.map PV.sc)
 |[]=>by simp only[List.map_nil,Bo]
 |v::l=>by simp only[List.map_cons,Bo,Bc,Fk];exact RH l
theorem aN{m k:Nat}{r:List PV}(h:Bo m r):B9 m (List.replicate k r):=by
 induction k with
 |zero=>simp only[List.replicate_zero,B9]
 |succ k ih=>simp only[List.replicate_succ,B9];exact⟨h,ih⟩
theorem aO{id:Nat}{o:Oper}{ρ:Operand->PV}{v:PV}{ob:Am}(ha:Ce ow o=true)(h1:F5 P ow id o ρ=some (v,ob))(H:A0)(hin: ∀ x,Bc H.next (ρ x)):
  ∃ z rows v1,ob= .arr z rows/\rows≠[]/\B9 H.next rows/\AZ P (o.dst.any ow) o.op ρ H=some (v1,H.new ob)/\((v1= .ptr H.next 0 0/\v= .ptr id 0 0)\/ ∃ len,v1= .own H.next 0 len/\v= .own id 0 len):=by
 obtain⟨dst,op,ty,pos,af,gd⟩:=o;unfold F5 at h1;simp only at h1;unfold Ce at ha;simp only at ha;split at ha
 ·rename_i t;simp only[AZ]at h1⊢;cases hz:DP P t with
  |none=>simp[hz]at h1
  |some zs=>
   simp only[hz,DJ]at h1⊢;by_cases hp:0<zs.length
   ·simp only[hp,AO]at h1⊢;simp[A0.new]at h1;obtain⟨rfl,rfl⟩:=h1;exact⟨_,_,_,rfl,by simp,by simp only[B9,Do];exact RH zs,rfl,.inl ⟨rfl,rfl⟩⟩
   ·simp [hp]at h1
 ·rename_i t x;simp only[AZ,ha,AO]at h1⊢;by_cases hc:(ρ x).cells.all Cs=false
  ·simp [hc]at h1
  ·simp only[hc,AP]at h1⊢;by_cases hp:0<(ρ x).cells.length
   ·simp only[hp,AO]at h1⊢;simp[A0.new]at h1;obtain⟨rfl,rfl⟩:=h1;have hcc:Bo H.next (ρ x).cells:=by
     have:=hin x;cases hpx:ρ x<;>rw[hpx]at this<;>simp only[PV.cells,Bo,Do]<;>(try exact this)
    exact⟨_,_,_,rfl,by simp,by simp only[B9,Do];exact hcc,rfl,.inl ⟨rfl,rfl⟩⟩
   ·simp [hp]at h1
 ·rename_i t len parts;simp only[AZ,ha,AO]at h1⊢;cases hz:Dc P t with
  |none=>simp[hz]at h1
  |some zb=>
   cases hz2:GQ P t with
   |none=>simp[hz,hz2]at h1
   |some z=>
    simp only[hz,hz2,DJ]at h1⊢;by_cases hcd:z.length=zb.1/\0<zb.1/\len*zb.1<=16777216
    ·simp only[AK hcd]at h1⊢;cases hr:Hf zb.1 (List.replicate len (z.map .sc)) (parts.toList.map λp=>(p.1,ρ p.2))with
     |none=>simp[hr]at h1
     |some rows=>
      simp only[hr,DJ]at h1⊢;by_cases hl:len=0
      ·simp [hl]at h1
      ·simp only[hl,AP]at h1⊢;simp only[A0.new,AO]at h1;by_cases he:rows.isEmpty=true
       ·simp [he]at h1
       ·simp [he]at h1;obtain⟨rfl,rfl⟩:=h1;refine⟨_,_,_,rfl,by simpa using he,UJ _ (aN (RH z)) hin hr,rfl,.inr ⟨len,rfl,rfl⟩⟩
    ·simp [hcd]at h1
 ·simp at ha
theorem St.po{id0:Nat}{o:Oper}{v:PV}{ob:Am}(ha:Ce ow o=true)(h1:F5 P ow id0 o (A9 s)=some (v,ob))(hlt:id0<h.next)(hn:h.obj id0=none)(hb:(β id0).b=none)(st:St n β s h a w)(hd:o.dst.all (λd=>decide (d<n))=true){K:Act->World->Prop}{Q:Exit->Act->World->Prop}
  (hk: ∀ (β':BK)(a':Act)(w':World),St n β' (Ak s o.dst v) (h.set id0 ob) a' w'->(∀ id,id<h.next->id≠id0->β' id=β id)->w'.os=w.os->w'.tape=w.tape->w'.output=w.output->w.heap.size<=w'.heap.size->β'.X=β.X->(∀ b,β.X b->b<w.heap.size->w'.heap[b]? =w.heap[b]?)->(∀ b,Fz β h w b->Fz β' (h.set id0 ob) w' b/\w'.heap[b]? =w.heap[b]?)->K a' w'):o.wp P a w K Q:=by
 have hin: ∀ x,Bc h.next (A9 s x):=λx=>AA.inN _ _ (Kj st.rep x)
 obtain⟨z,rows,v1,rfl,hrows,hrin,heff,hv⟩:=aO ha h1 h hin;obtain⟨nx,v',w',β1,hrun,hnx,sm1,ex,hrep⟩:=UB st.Bb st.rep o heff;unfold Oper.wp;rw[hrun];have new0:(h.new (.arr z rows)).obj h.next=some (.arr z rows):=by simp[A0.new]
 have newO: ∀ j,j<h.next->(h.new (.arr z rows)).obj j=h.obj j:=λj hj=>by simp only[A0.new];rw[A7 (by omega)]
 have on: ∀ j,j≠id0->(h.set id0 (.arr z rows)).obj j=h.obj j:=λj hj=>by simp[A0.set,hj]
 have live: ∀ j,(h.obj j).isSome=true->j<h.next/\j≠id0:=λj hj=>⟨st.Bb.lt j hj,λe=>by rw[e,hn]at hj;simp at hj⟩
 have fz2: ∀ c,Fz β1 (h.new (.arr z rows)) w' c->Fz ⟨λid=>if id=id0 then β1 h.next else β id,β.X⟩ (h.set id0 (.arr z rows)) w' c:=λc hc=>by
  refine⟨hc.1,λj hj hjc=>?_,by have:=hc.2.2;rw[ex.X]at this;exact this⟩;by_cases hj0:j=id0
  ·subst hj0;simp only[AO]at hjc;exact hc.2.1 h.next (by rw[new0];try rfl) hjc
  ·rw [on j hj0]at hj;simp only[hj0,AP]at hjc;have hl:=(live j hj).1;exact hc.2.1 j (by rw[newO j hl];exact hj) (by rw[ex.beta j hl];exact hjc)
 have m2:Mv β1 h.next (Fz β1 (h.new (.arr z rows)) w') w' ⟨λid=>if id=id0 then β1 h.next else β id,β.X⟩ h.next (Fz ⟨λid=>if id=id0 then β1 h.next else β id,β.X⟩ (h.set id0 (.arr z rows)) w') w':=
  ⟨AG _,λid hid hbn=>by
   have:id≠id0:=λe=>hbn (by rw[ex.beta id hid,e];exact hb);simp only[this,AP];exact(ex.beta id hid).symm,λc hc=>⟨fz2 c hc,rfl⟩⟩
 have m3:Mv β h.next (Fz β h w) w ⟨λid=>if id=id0 then β1 h.next else β id,β.X⟩ h.next (Fz ⟨λid=>if id=id0 then β1 h.next else β id,β.X⟩ (h.set id0 (.arr z rows)) w') w':=
  ⟨AG _,λid hid hbn=>by
   have:id≠id0:=λe=>hbn (by rw[e];exact hb);simp only[this,AP],λc hc=>⟨fz2 c (ex.fz c hc).1,(ex.fz c hc).2⟩⟩
 have hv2:AS ⟨λid=>if id=id0 then β1 h.next else β id,β.X⟩ (h.set id0 (.arr z rows)) w' v v':=by
  rcases hv with⟨rfl,rfl⟩|⟨len,rfl,rfl⟩
  ·simp only[AS,AA]at hrep⊢;obtain⟨_,b,g1,g2⟩:=hrep;exact⟨hlt,b,by simp only[AO];exact g1,by simp only[AO];exact g2⟩
  ·simp only[AS,AA]at hrep⊢;obtain⟨_,aa,cap,g1,g2,g3,g4⟩:=hrep;exact⟨hlt,aa,cap,g1,g2,g3,by simp only[AO];exact g4⟩
 have DA:St n ⟨λid=>if id=id0 then β1 h.next else β id,β.X⟩ (Ak s o.dst v) (h.set id0 (.arr z rows)) (a.put o.dst v') w':=by
  refine⟨⟨λid hs=>?_,λid o2 ho=>?_,λj k hj hkk c g1 g2=>?_,λc hc=>?_,λid hs c g1=>?_⟩,λu=>?_,?_,?_⟩
  ·by_cases hid:id=id0
   ·subst hid;exact hlt
   ·rw [on id hid]at hs;exact st.Bb.lt id hs
  ·by_cases hid:id=id0
   ·subst hid;have:o2= .arr z rows:=(by simp[A0.set]at ho;exact ho.symm);subst this;have g:=BN.mv m2 (λ_ _=>rfl) (BN.low (n:=h.next) (F':=Fz β1 (h.new (.arr z rows)) w') (λb hb=>hb) (show F7 h.next (.arr z rows) by simpa only[F7]using hrin) (sm1.ok h.next _ new0));simp only[AO];exact g
   ·rw [on id hid]at ho;have hl:=live id (by rw[ho];try rfl);have g:=BN.mv m2 (λ_ _=>rfl) (BN.low (n:=h.next) (F':=Fz β1 (h.new (.arr z rows)) w') (λb hb=>hb) (st.Bb.ok id o2 ho).inN (sm1.ok id o2 (by rw[newO id hl.1];exact ho)));simp only[hid,AP];rw[ex.beta id hl.1]at g;exact g
  ·have key: ∀ j,j≠id0->((h.set id0 (.arr z rows)).obj j).isSome=true-> ∀ c,(β j).b=some c->(β1 h.next).b≠some c:=λj hji hj c e e2=>by
    rw[on j hji]at hj;have hl:=(live j hj).1;have:=sm1.inj j h.next (by rw[newO j hl];exact hj) (by rw[new0];try rfl) c (by rw[ex.beta j hl];exact e) e2
    omega
   by_cases hji:j=id0
   ·by_cases hki:k=id0
    ·rw [hji,hki]
    ·simp only[hji,AO]at g1;simp only[hki,AP]at g2;exact(key k hki hkk c g2 g1).elim
   ·by_cases hki:k=id0
    ·simp only[hki,AO]at g2;simp only[hji,AP]at g1;exact(key j hji hj c g1 g2).elim
    ·simp only[hji,hki,AP]at g1 g2;rw[on j hji]at hj;rw[on k hki]at hkk;exact st.Bb.inj j k hj hkk c g1 g2
  ·exact I8 (st.Bb.xs c hc) ex.size
  ·by_cases hid:id=id0
   ·simp only[hid,AO]at g1;have:=sm1.nx h.next (by rw[new0];try rfl) c g1
    rw[ex.X]at this;exact this
   ·simp only[hid,AP]at g1;rw[on id hid]at hs;exact st.Bb.nx id hs c g1
  ·cases hdd:o.dst with
   |none=>simp only[Ak,Act.put];exact AA.mv m3 _ _ (st.rep u)
   |some d=>
    rw[hdd]at hd;simp at hd;simp only[Ak,Ci,Act.put];by_cases hu:u=d
    ·subst hu;rw[AK rfl];have hus:u<a.tmps.size:=(by rw[st.size];exact hd);simpa[Da,hus]using hv2
    ·rw [A7 hu];have:AS ⟨λid=>if id=id0 then β1 h.next else β id,β.X⟩ (h.set id0 (.arr z rows)) w' (s u) (a.tmps.getD u Go.undef):=AA.mv m3 _ _ (st.rep u);simpa[Da,MQ (Ne.symm hu)]using this
  ·cases hdd:o.dst with
   |none=>exact st.size
   |some d=>simp[Act.put,st.size]
  ·cases hdd:o.dst with
   |none=>exact st.defers
   |some d=>simp[Act.put,st.defers]
 have done:=hk _ _ _ DA (λid _ hne=>by simp only[hne,AP]) ex.os ex.tape ex.output ex.size rfl (λb hb' hl=>ex.xh b hb' hl) (λb hbb=>⟨fz2 b (ex.fz b hbb).1,(ex.fz b hbb).2⟩);rcases hnx with rfl|⟨rfl,rfl⟩<;>exact done
theorem aP{t:TypeId}{x y:Operand}{b:Bool}{ρ:Operand->PV}{H H':A0}{id r f:Nat}{ob:Am}{v:PV}(hx:ρ x= .ptr id r f)(he:AZ P b (.store t x y) ρ H=some (v,H.set id ob))(ho:H'.obj id=H.obj id):AZ P b (.store t x y) ρ H'=some (v,H'.set id ob):=by
 simp only[AZ]at he⊢;cases hz:CQ P t with
 |none=>simp[hz]at he
 |some m=>
  simp only[hz,DJ]at he⊢;split at he
  ·rename_i hc;rw[AK hc];rw[hx]at he⊢;simp only[wr]at he⊢;rw[ho];cases hob:H.obj id with
   |none=>simp[hob]at he
   |some o1=>
    simp only[hob]at he⊢;cases o1 with
    |arr z rows=>
     simp only at he⊢;cases hr:rows[r]? with
     |none=>simp[hr]at he
     |some q=>
      simp only[hr]at he⊢;split at he
      ·rename_i hl;simp only[hl,AO,Bq,BC,C4]at he⊢;refine⟨he.1,?_⟩;have:=LQ (λh:A0=>h.obj id) he.2;simp[A0.set]at this;rw[this]
      ·simp at he
    |map es=>simp at he
    |Ih g lo hi=>simp at he
  ·simp at he
end
end Go.AM
namespace Go.AM
section
variable {P:Program}{ow:Nat->Bool}{wf:FuncId->Bool}{n:Nat}{ops:List Oper}{base:Nat}
structure Hl(ops:List Oper):Prop where
 back: ∀ (j:Nat)(o:Oper),ops[j]? =some o-> ∀ e∈o.after.toList,Region.binds .any e=true->e.on<j
 Z4: ∀ (j:Nat)(o:Oper),ops[j]? =some o-> ∀ cs b,o.op≠ .select cs b
 slot: ∀ (i j:Nat)(q o:Oper),i≠j->ops[i]? =some q->ops[j]? =some o-> ∀ d,q.dst=some d->d∈F4 ops o->pre ops i j=true\/pre ops j i=true
theorem Hl.of{ops:List Oper}(h:Me ops=true):Hl ops:=by
 unfold Me at h;rw[List.all_eq_true]at h;have hm: ∀ (j:Nat)(o:Oper),ops[j]? =some o->_:=λj o ho=>h (o,j) (List.mem_zipIdx_iff_getElem?.2 ho);refine⟨λj o ho e he hb=>?_,λj o ho cs b hsel=>?_,λi j q o hij hq ho d hd hl=>?_⟩
 ·have h0:=hm j o ho;simp only[AV,List.all_eq_true]at h0;have:=h0.1.1 e he;simpa[hb]using this
 ·have h0:=hm j o ho;simp only[AV]at h0;have:=h0.1.2;rw[hsel]at this;simp at this
 ·have h0:=hm j o ho;simp only[AV,List.all_eq_true]at h0;have:=h0.2 (q,i) (List.mem_zipIdx_iff_getElem?.2 hq);simp only[EH,AV,F0,hd,EI]at this;rcases this with h1|h1
  ·exact absurd h1 hij
  ·rcases h1 with(h1|h1)|h1
   ·rw [List.contains_iff_mem.2 hl]at h1;simp at h1
   ·exact .inl h1
   ·exact .inr h1
theorem Kl{ops:List Oper}(hd:Hl ops): ∀ (j i:Nat),j<ops.length->pre ops i j=true->i<j:=by
 intro j
 induction j using Nat.strongRecOn with
 |_ j ih=>
  intro i hj hp;obtain⟨e,h1,h2,h3⟩:=Mi (List.getElem?_eq_getElem hj) hp;have hlt:=hd.back j _ (List.getElem?_eq_getElem hj) e h1 h2;rcases h3 with rfl|⟨h4,h5⟩
  ·exact hlt
  ·exact Yr (ih e.on h4 i (by omega) h5) h4
variable {sk:Nat->AE}{hk:Nat->A0}{vk:Nat->PV}{lt:Nat->Option (Nat × Am)}{br:Nat->Bool}
theorem DR.JD(tr:DR P ow wf n ops base sk hk vk lt br){t:Nat}{i:Nat}: ∀ d,i+d<=ops.length->(∀ j,i<=j->j<i+d->Cz ops t j=false)->sk (i+d) t=sk i t
 |0,_,_=>rfl
 |d+1,hd,hw=>by
  have ih:=DR.JD tr (t:=t) (i:=i) d (by omega) (λj h1 h2=>hw j h1 (by omega));rw[← ih];have hlt:i+d<ops.length:=by omega
  obtain⟨_,b,h1,h2,h3⟩:=tr.step (i+d) ops[i+d] (List.getElem?_eq_getElem hlt);have hnw:=hw (i+d) (by omega) (by omega);simp only[Cz,List.getElem?_eq_getElem hlt,DJ,Cw]at hnw;have hupd: ∀ v,Ak (sk (i+d)) ops[i+d].dst v t=sk (i+d) t:=by
   intro v;cases hdst:ops[i+d].dst with
   |none=>rfl
   |some dd=>
    simp only[Ak,Ci];rw[A7];intro e;subst e;exact hnw hdst
  rw[show i+(d+1)=i+d+1 by omega];cases b with
  |false=>rw[(h2 rfl).1];exact hupd _
  |true=>rw[(h3 rfl).1];exact hupd _
theorem C9.pq(hd:Hl ops)(tr:DR P ow wf n ops base sk hk vk lt br){S:Nat->Bool}{i:Nat}{o:Oper}(r:C9 ops S i o){t:Nat}(ht:t∈F4 ops o):CF ops sk S t=sk i t:=by
 have hi:i<ops.length:=(List.getElem?_eq_some_iff.1 r.at_).1;obtain⟨h1,h2,h3⟩:=GH (λj=>S j&&Cz ops t j) ops.length;unfold CF;generalize EB (λj=>S j&&Cz ops t j) ops.length=m at*
 have ord: ∀ j,j<ops.length->j≠i->Cz ops t j=true->Go.AM.pre ops j i=true\/Go.AM.pre ops i j=true:=by
  intro j hj hne hw;simp only[Cz,List.getElem?_eq_getElem hj,DJ,Ba]at hw;exact hd.slot j i _ o hne (List.getElem?_eq_getElem hj) r.at_ t hw ht
 rcases Cr i m with h4|h4
 ·-- a writer behind i has been done: none can be
  rcases h2 with h2|⟨k,h2,h5⟩
  ·omega
  ·simp only[AV]at h5;by_cases hki:k=i
   ·subst hki;rw[r.new]at h5;simp at h5
   ·rcases ord k (by omega) hki h5.2 with h6|h6
    ·have:=Kl hd i k hi h6;omega
    ·rw [r.GE (by omega) h5.1]at h6;simp at h6
 ·have:=tr.JD (t:=t) (i:=m) (i-m) (by omega) (λj h5 h6=>?_)
  ·rw [show m+(i-m)=i by omega]at this;exact this.symm
  ·cases hw:Cz ops t j with
   |false=>rfl
   |true=>
    have hns:=h3 j h5 (by omega);rw[hw,Cm]at hns;rcases ord j (by omega) (by omega) hw with h7|h7
    ·rw [r.Hb h7]at hns;simp at hns
    ·have:=Kl hd j i (by omega) h7;omega
theorem C9.pr(hd:Hl ops)(tr:DR P ow wf n ops base sk hk vk lt br){S S':Nat->Bool}{i:Nat}{o:Oper}(r:C9 ops S i o)(hs':S' i=true)(ho: ∀ j,j≠i->S' j=S j){x:PV}(hx:sk (i+1)=Ak (sk i) o.dst x):
  Ak (CF ops sk S) o.dst x=CF ops sk S':=by
 have hi:i<ops.length:=(List.getElem?_eq_some_iff.1 r.at_).1;funext t;have hwr:Cz ops t i=decide (o.dst=some t):=by simp[Cz,r.at_]
 by_cases ht:o.dst=some t
 ·have hl:t∈F4 ops o:=by simp[F4,ht]
  have h1:Ak (CF ops sk S) o.dst x t=x:=by rw[ht];simp[Ak,Ci]
  have h2:sk (i+1) t=x:=by rw[hx,ht];simp[Ak,Ci]
  rw[h1, ← h2];unfold CF;rw[Jw (m:=i+1) (by omega) (.inr ⟨i,rfl,by rw[hs',hwr];simp[ht]⟩)];intro j h3 h4;cases hw:Cz ops t j with
  |false=>simp
  |true=>
   cases hsj:S' j with
   |false=>simp
   |true=>
    rw[ho j (by omega)]at hsj;simp only[Cz,List.getElem?_eq_getElem h4,DJ,Ba]at hw;rcases hd.slot j i _ o (by omega) (List.getElem?_eq_getElem h4) r.at_ t hw hl with h7|h7
    ·have:=Kl hd i j hi h7;omega
    ·rw [r.GE h4 hsj]at h7;simp at h7
 ·have h1:Ak (CF ops sk S) o.dst x t=CF ops sk S t:=by
   cases hdst:o.dst with
   |none=>rfl
   |some d=>
    simp only[Ak,Ci];rw[A7];intro e;subst e;exact ht hdst
  rw[h1];unfold CF;rw[Lh ops.length (λj hj=>?_)];by_cases hji:j=i
  ·subst hji;rw[hwr];simp[ht]
  ·rw [ho j hji]
theorem RI{p:Nat->Bool}{H:A0}{m:Nat}:Ct lt p H (m+1)=match lt m with
  |some q=>if p m=true then(Ct lt p H m).set q.1 q.2 else Ct lt p H m
  |none=>Ct lt p H m:=rfl
theorem PY{p:Nat->Bool}{H:A0}: ∀ m,(Ct lt p H m).next=H.next
 |0=>rfl
 |m+1=>by
  unfold Ct;split
  ·split
   ·exact PY m
   ·exact PY m
  ·exact PY m
theorem Mk{p q:Nat->Bool}{H:A0}: ∀ m,(∀ f,f<m->(lt f).isSome=true->p f=q f)->Ct lt p H m=Ct lt q H m
 |0,_=>rfl
 |m+1,h=>by
  have ih:=Mk (H:=H) m (λf hf=>h f (by omega));unfold Ct;cases hl:lt m with
  |none=>exact ih
  |some x=>simp only[h m (by omega) (by rw[hl];try rfl),ih]
theorem Nk{p:Nat->Bool}{H:A0}{m:Nat}: ∀ d,(∀ f,m<=f->f<m+d->(lt f).isSome=true->p f=false)->Ct lt p H (m+d)=Ct lt p H m
 |0,_=>rfl
 |d+1,h=>by
  have ih:=Nk (H:=H) d (λf h1 h2=>h f h1 (by omega));rw[show m+(d+1)=m+d+1 by omega,RI];cases hl:lt (m+d)with
  |none=>exact ih
  |some x=>simp only[h (m+d) (by omega) (by omega) (by rw[hl];try rfl),BQ,AP];exact ih
theorem aQ{H:A0}{i j:Nat}{a b:Am}(h:i≠j):(H.set i a).set j b=(H.set j b).set i a:=GT rfl λk=>by
 simp only[A0.set];by_cases h1:k=i
 ·by_cases h2:k=j
  ·exact (h (h1 ▸ h2)).elim
  ·simp [h1,h]
 ·simp [h1]
theorem UK{p p':Nat->Bool}{H:A0}{x id:Nat}{ob:Am}(hx:lt x=some (id,ob))(h1:p x=false)(h2:p' x=true)(h3: ∀ f,f≠x->p' f=p f): ∀ m,x<m->(∀ f q,x<f->f<m->p f=true->lt f=some q->q.1≠id)->Ct lt p' H m=(Ct lt p H m).set id ob
 |0,h,_=>by omega
 |m+1,h,h4=>by
  by_cases hm:m=x
  ·subst hm;unfold Ct;rw[hx];simp only[h1,h2,AO,BQ,AP];rw[Mk m (λf hf _=>h3 f (by omega))]
  ·have ih:=UK hx h1 h2 h3 (H:=H) m (by omega) (λf q a b=>h4 f q a (by omega));unfold Ct;cases hl:lt m with
   |none=>exact ih
   |some q=>
    simp only[h3 m hm];split
    ·rename_i hp;rw[ih,aQ (λe=>h4 m q (by omega) (by omega) hp hl e.symm)]
    ·exact ih
theorem Nl{p q:Nat->Bool}{H:A0}{id:Nat}: ∀ m,(∀ f x,f<m->lt f=some x->x.1=id->p f=q f)->(Ct lt p H m).obj id=(Ct lt q H m).obj id
 |0,_=>rfl
 |m+1,h=>by
  have ih:=Nl (H:=H) m (λf x hf=>h f x (by omega));unfold Ct;cases hl:lt m with
  |none=>exact ih
  |some x=>
   by_cases hx:x.1=id
   ·simp only[h m x (by omega) hl hx];split
    ·simp [A0.set,hx]
    ·exact ih
   ·have hx':¬ id=x.1:=λe=>hx e.symm;cases p m<;>cases q m<;>simp[A0.set,hx',ih]
theorem Nm{p:Nat->Bool}{H:A0}{id:Nat}: ∀ m,(∀ f x,f<m->p f=true->lt f=some x->x.1≠id)->(Ct lt p H m).obj id=H.obj id:=λm h=>by
 rw[Nl (q:=λ_=>false) m (λf x hf hl he=>by
  cases hp:p f with
  |false=>rfl
  |true=>exact(h f x hf hp hl he).elim)]
 have:=Nk (lt:=lt) (p:=λ_=>false) (H:=H) (m:=0) m (λ_ _ _ _=>rfl);rw[C7]at this;rw[this];try rfl
theorem PZ{H:A0}{l:List Nat}{id:Nat}{ob:Am}:BE (H.set id ob) l=if l.contains id=true then BE H l else(BE H l).set id ob:=by
 split
 ·rename_i hc;refine GT rfl λj=>?_;have hm:id∈l:=by simpa using hc
  simp only[BE,A0.set];by_cases hj:j=id
  ·subst hj;simp[hm]
  ·simp [hj]
 ·rename_i hc;refine GT rfl λj=>?_;simp only[BE,A0.set];by_cases hj:j=id
  ·subst hj;simp only[hc,AO];simp
  ·simp [hj]
theorem RJ{p q:Nat->Bool}{H:A0}{l:List Nat}: ∀ m,(∀ f x,f<m->lt f=some x->p f=q f\/x.1∈l)->BE (Ct lt p H m) l=BE (Ct lt q H m) l
 |0,_=>rfl
 |m+1,h=>by
  have ih:=RJ (H:=H) m (λf x hf=>h f x (by omega));unfold Ct;cases hl:lt m with
  |none=>exact ih
  |some x=>
   rcases h m x (by omega) hl with he|he
   ·simp only[he];split
    ·rw [PZ,PZ,ih]
    ·exact ih
   ·have hc:l.contains x.1=true:=(by simpa using he);cases p m<;>cases q m<;>simp only[PZ,hc,AO,ih,BQ,AP]
theorem UL(b:Nat->Nat): ∀ (l:List Edge)(s i:Nat),(s.testBit i=true\/ ∃ e∈l,Region.binds .any e=true/\(i=e.on\/(b e.on).testBit i=true))->(l.foldl (λs e=>if Region.binds .any e then s|||2 ^ e.on|||b e.on else s) s).testBit i=true
 |[],s,i,h=>by
  rcases h with h|⟨e,he,_⟩
  ·exact h
  ·simp at he
 |e::l,s,i,h=>by
  simp only[List.foldl_cons];refine UL b l _ i ?_;rcases h with h|⟨e',he',hb,hi⟩
  ·left;split
   ·simp [TN,h]
   ·exact h
  ·simp only[List.mem_cons]at he';rcases he' with rfl|he'
   ·left;rw[AK hb];rcases hi with rfl|hi
    ·simp [TN,Nat.testBit_two_pow_self]
    ·simp [TN,hi]
   ·exact .inr ⟨e',he',hb,hi⟩
theorem aR{i j:Nat}{o:Oper}{e:Edge}(ho:ops[j]? =some o)(he:e∈o.after.toList)(hb:Region.binds .any e=true)(hlt:e.on<j)(hi:i=e.on\/pre ops i e.on=true):pre ops i j=true:=by
 unfold pre at hi⊢;have hbb:Region.before ops.toArray=ops.foldl (λacc o=>acc.push (o.after.foldl (λs e=>if Region.binds .any e then s|||2 ^ e.on|||acc.getD e.on 0 else s) 0)) #[]:=by
  unfold Region.before;rw[← Ov]
 have h3:=(RC (λacc o=>acc.push (o.after.foldl (λs e=>if Region.binds .any e then s|||2 ^ e.on|||acc.getD e.on 0 else s) 0))
  (λb o=>o.after.toList.foldl (λs e=>if Region.binds .any e then s|||2 ^ e.on|||b e.on else s) 0) (λacc o=>by rw[← Ov]) ops #[]).2.2 j o ho
 simp only[List.size_toArray,List.length_nil,C7]at h3;rw[← hbb]at h3;rw[h3];refine UL (λm=>if m<j then(Region.before ops.toArray).getD m 0 else 0) _ _ _ (.inr ⟨e,he,hb,hi.imp id λh=>?_⟩);rw[AK hlt];exact h
theorem aT(hd:Hl ops): ∀ (c:Nat){a b:Nat},c<ops.length->pre ops a b=true->pre ops b c=true->pre ops a c=true:=by
 intro c
 induction c using Nat.strongRecOn with
 |_ c ih=>
  intro a b hc hab hbc;obtain⟨e,h1,h2,h3⟩:=Mi (List.getElem?_eq_getElem hc) hbc;have hlt:=hd.back c _ (List.getElem?_eq_getElem hc) e h1 h2;refine aR (List.getElem?_eq_getElem hc) h1 h2 hlt (.inr ?_);rcases h3 with rfl|⟨_,h5⟩
  ·exact hab
  ·exact ih e.on hlt (by omega) hab h5
theorem RL{α γ:Type}{f g:α->Option γ}: ∀ {l:List α},(∀ x∈l,f x=g x)->l.filterMap f=l.filterMap g
 |[],_=>rfl
 |x::l,h=>by
  have h1:=h x (by simp);have h2:=RL (f:=f) (g:=g) (l:=l) (λy hy=>h y (by simp[hy]));simp only[List.filterMap_cons,h1,h2]
def MB(br:Nat->Bool)(ops:List Oper)(S:Nat->Bool):Nat:=EB (λj=>S j&&br j) ops.length
def dl(lt:Nat->Option (Nat × Am))(br:Nat->Bool)(ops:List Oper)(S:Nat->Bool):List Nat:=(List.range ops.length).filterMap λf=>if(decide (f<MB br ops S)&&!(S f))=true then(lt f).map (·.1)else none
def Xs(lt:Nat->Option (Nat × Am))(br:Nat->Bool)(ops:List Oper)(hk:Nat->A0)(S:Nat->Bool):A0:=Ct lt (λf=>decide (MB br ops S<=f)&&S f) (hk (MB br ops S)) ops.length
def Hs(lt:Nat->Option (Nat × Am))(br:Nat->Bool)(ops:List Oper)(hk:Nat->A0)(S:Nat->Bool):A0:=BE (Xs lt br ops hk S) (dl lt br ops S)
theorem Nn{S:Nat->Bool}{j:Nat}(h1:MB br ops S<=j)(h2:j<ops.length)(h3:S j=true):br j=false:=by
 have:=(GH (λj=>S j&&br j) ops.length).2.2 j h1 h2;simpa[h3]using this
theorem Pa{S:Nat->Bool}:MB br ops S=0\/ ∃ k,MB br ops S=k+1/\S k=true/\br k=true:=by
 rcases(GH (λj=>S j&&br j) ops.length).2.1 with h|⟨k,h1,h2⟩
 ·exact .inl h
 ·simp only[AV]at h2;exact .inr ⟨k,h1,h2⟩
theorem Jx{S:Nat->Bool}:MB br ops S<=ops.length:=(GH _ _).1
theorem IJ{S:Nat->Bool}{id:Nat}:id∈dl lt br ops S↔ ∃ f q,f<ops.length/\f<MB br ops S/\S f=false/\lt f=some q/\q.1=id:=by
 unfold dl;rw[List.mem_filterMap];constructor
 ·rintro ⟨f,hf,h1⟩;split at h1
  ·rename_i hc;simp only[AV,Ba,EI]at hc;cases hl:lt f with
   |none=>simp[hl]at h1
   |some q=>simp[hl]at h1;exact⟨f,q,List.mem_range.1 hf,hc.1,hc.2,hl,h1⟩
  ·simp at h1
 ·rintro ⟨f,q,h1,h2,h3,h4,h5⟩;exact⟨f,List.mem_range.2 h1,by simp[h2,h3,h4,h5]⟩
theorem UM{H:A0}{l l':List Nat}(h: ∀ id∈l,id∈l'):BE (BE H l) l'=BE H l':=GT rfl λj=>by
 simp only[BE];by_cases h1:j∈l'
 ·simp [h1]
 ·have:j ∉ l:=λh2=>h1 (h j h2);simp[h1,this]
theorem DR.Gu(tr:DR P ow wf n ops base sk hk vk lt br){j:Nat}(hj:j<ops.length):br j=true->lt j=none:=by
 intro hb;obtain⟨_,b,_,h1,h2⟩:=tr.step j ops[j] (List.getElem?_eq_getElem hj);cases b with
 |false=>rw[(h1 rfl).2.2.2]at hb;simp at hb
 |true=>
  cases hw:BL ow wf ops[j]with
  |false=>rw[((h2 rfl).2.1 hw).2.2.1]at hb;simp at hb
  |true=>
   rcases(h2 rfl).2.2 hw with h3|h3|h3
   ·exact h3.2.1
   ·rw [h3.1]at hb;simp at hb
   ·rw [h3.1]at hb;simp at hb
theorem DR.kind(tr:DR P ow wf n ops base sk hk vk lt br){f:Nat}{q:Nat × Am}(hf:f<ops.length)(hl:lt f=some q):
  br f=false/\hk (f+1)=(hk f).set q.1 q.2/\((Ce ow ops[f]=true/\q.1=base+f)\/(Ce ow ops[f]=false/\ ∀ g o,f<g->ops[g]? =some o->Ce ow o=true->base+g≠q.1)):=by
 obtain⟨_,b,_,h1,h2⟩:=tr.step f ops[f] (List.getElem?_eq_getElem hf);cases b with
 |false=>rw[(h1 rfl).2.2.1]at hl;simp at hl
 |true=>
  cases hw:BL ow wf ops[f]with
  |false=>rw[((h2 rfl).2.1 hw).2.1]at hl;simp at hl
  |true=>
   rcases(h2 rfl).2.2 hw with h3|h3|h3
   ·rw [h3.2.1]at hl;simp at hl
   ·obtain ⟨k1,k2,ob,k3,_,k4⟩:=h3;rw[k3]at hl;simp at hl;subst hl;exact⟨k1,k4,.inl ⟨k2,rfl⟩⟩
   ·obtain ⟨k1,t,x,y,id,r,ff,ob,k2,_,k3,k4,k5,_⟩:=h3;rw[k3]at hl;simp at hl;subst hl;exact⟨k1,k4,.inr ⟨by unfold Ce;rw[k2],k5⟩⟩
theorem DR.NQ(tr:DR P ow wf n ops base sk hk vk lt br){j:Nat}(hj:j<ops.length)(hb:br j=false):hk (j+1)=match lt j with
  |some q=>(hk j).set q.1 q.2
  |none=>hk j:=by
 cases hl:lt j with
 |some q=>exact(tr.kind hj hl).2.1
 |none=>
  obtain⟨_,b,_,h1,h2⟩:=tr.step j ops[j] (List.getElem?_eq_getElem hj);cases b with
  |false=>exact(h1 rfl).2.1
  |true=>
   cases hw:BL ow wf ops[j]with
   |false=>exact((h2 rfl).2.1 hw).1
   |true=>
    rcases(h2 rfl).2.2 hw with h3|h3|h3
    ·rw [h3.1]at hb;simp at hb
    ·obtain ⟨_,_,ob,h4,_,_⟩:=h3;rw[h4]at hl;simp at hl
    ·obtain ⟨_,t,x,y,id,r,f,ob,_,_,h4,_,_⟩:=h3;rw[h4]at hl;simp at hl
theorem DR.NP(tr:DR P ow wf n ops base sk hk vk lt br){M:Nat}: ∀ d,M+d<=ops.length->(∀ j,M<=j->j<M+d->br j=false)->hk (M+d)=Ct lt (λf=>decide (M<=f)) (hk M) (M+d)
 |0,_,_=>by
  have:=Nk (lt:=lt) (p:=λf=>decide (M<=f)) (H:=hk M) (m:=0) M (λf _ hf _=>by simp;omega);rw[C7]at this;rw[GC,this];try rfl
 |d+1,hd,hn=>by
  have ih:=DR.NP tr d (by omega) (λj h1 h2=>hn j h1 (by omega));have hs:=tr.NQ (j:=M+d) (by omega) (hn (M+d) (by omega) (by omega));rw[show M+(d+1)=M+d+1 by omega,hs];unfold Ct;cases hl:lt (M+d)with
  |none=>simp only;rw[← ih]
  |some q=>simp only[show decide (M<=M+d)=true by simp,AO];rw[← ih]
theorem DR.segL(tr:DR P ow wf n ops base sk hk vk lt br){M i:Nat}(h1:M<=i)(h2:i<=ops.length)(hn: ∀ j,M<=j->j<i->br j=false):hk i=Ct lt (λf=>decide (M<=f)&&decide (f<i)) (hk M) ops.length:=by
 have h3:=tr.NP (M:=M) (i-M) (by omega) (λj a c=>hn j a (by omega));rw[show M+(i-M)=i by omega]at h3;obtain⟨d,hdd⟩: ∃ d,ops.length=i+d:=⟨ops.length-i,by omega⟩;rw[h3,hdd,Nk d (λf a _ _=>by simp;omega)];exact Mk _ λf hf _=>by simp[hf]
theorem DR.KY(tr:DR P ow wf n ops base sk hk vk lt br)(h0: ∀ f,(hk 0).obj (base+f)=none): ∀ j,j<=ops.length-> ∀ f q,j<=f->ops[f]? =some q->Ce ow q=true->(hk j).obj (base+f)=none
 |0,_,f,_,_,_,_=>h0 f
 |j+1,hj,f,q,hle,hq,ha=>by
  have ih:=DR.KY tr h0 j (by omega) f q (by omega) hq ha;obtain⟨_,b,_,h1,h2⟩:=tr.step j ops[j] (List.getElem?_eq_getElem (by omega));cases b with
  |false=>rw[(h1 rfl).2.1];exact ih
  |true=>
   cases hw:BL ow wf ops[j]with
   |false=>rw[((h2 rfl).2.1 hw).1];exact ih
   |true=>
    rcases(h2 rfl).2.2 hw with h3|h3|h3
    ·exact h3.2.2.2 f q (by omega) hq ha
    ·obtain ⟨_,_,ob,_,_,h5⟩:=h3;rw[h5];simp only[A0.set];rw[A7 (by omega)];exact ih
    ·obtain ⟨_,t,x,y,id,r,f',ob,_,_,h4,h5,h6,_⟩:=h3;rw[h5];simp only[A0.set];rw[A7 (h6 f q (by omega) hq ha)];exact ih
theorem No{x f:Nat}{q:Nat × Am}(hf:f<ops.length)(h0:x≠f)(h2:pre ops f x=false)(h1:pre ops x f=false\/Ce ow ops[f]=true)(hl:lt f=some q):q.1∈kx ow ops lt x:=by
 unfold kx;rw[List.mem_filterMap];refine⟨f,List.mem_range.2 hf,?_⟩;rw[List.getElem?_eq_getElem hf];rcases h1 with h1|h1<;>simp[h0,h1,h2,hl]
theorem aU{x id:Nat}(h:id∈kx ow ops lt x): ∃ f q, ∃ hf:f<ops.length,x≠f/\pre ops f x=false/\(pre ops x f=false\/Ce ow ops[f]=true)/\lt f=some q/\q.1=id:=by
 unfold kx at h;rw[List.mem_filterMap]at h;obtain⟨f,hf,h1⟩:=h;have hf':=List.mem_range.1 hf;split at h1
 ·rename_i hc;rw[List.getElem?_eq_getElem hf']at hc;simp only[AV,EH,EI,NM,Option.any_some]at hc;cases hl:lt f with
  |none=>simp[hl]at h1
  |some q=>simp[hl]at h1;exact⟨f,q,hf',hc.1.1,hc.1.2,hc.2,hl,h1⟩
 ·simp at h1
theorem C9.Z6(tr:DR P ow wf n ops base sk hk vk lt br){S:Nat->Bool}{i:Nat}{o:Oper}(r:C9 ops S i o){b:Nat}(hb:b<MB br ops S)(hbr:br b=true):S b=true:=by
 rcases Pa (br:=br) (ops:=ops) (S:=S)with h|⟨k,h1,h2,h3⟩
 ·omega
 ·have hkl:k<ops.length:=by have:=Jx (br:=br) (ops:=ops) (S:=S);omega
  by_cases hbk:b=k
  ·rw [hbk];exact h2
  ·rcases tr.ww b k (by omega) hkl (.inl hbr) (.inl h3)with h5|⟨p,q,_,h5,_⟩|⟨_,h5,_⟩|⟨h5,_⟩
   ·exact r.closed.pre k b hkl h2 h5
   ·rw [tr.Gu hkl h3]at h5;simp at h5
   ·rw [tr.Gu hkl h3]at h5;simp at h5
   ·rw [tr.Gu (by omega) hbr]at h5;simp at h5
theorem C9.early(tr:DR P ow wf n ops base sk hk vk lt br){S:Nat->Bool}{i:Nat}{o:Oper}(r:C9 ops S i o){f:Nat}{q:Nat × Am}(hf:f<MB br ops S)(hs:S f=false)(hl:lt f=some q): ∃ hf:f<ops.length,Ce ow ops[f]=true/\q.1=base+f:=by
 rcases Pa (br:=br) (ops:=ops) (S:=S)with h|⟨k,h1,h2,h3⟩
 ·omega
 ·have hkl:k<ops.length:=by have:=Jx (br:=br) (ops:=ops) (S:=S);omega
  have hfl:f<ops.length:=by omega
  have hfk:f≠k:=λe=>by rw[e,h2]at hs;simp at hs
  refine⟨hfl,?_⟩;have hA:Ce ow ops[f]=true:=by
   rcases tr.ww f k (by omega) hkl (.inr (by rw[hl];try rfl)) (.inl h3)with h5|⟨p,q',_,h5,_⟩|⟨_,h5,_⟩|⟨_,_,o2,h5,h6⟩
   ·rw [r.closed.pre k f hkl h2 h5]at hs;simp at hs
   ·rw [tr.Gu hkl h3]at h5;simp at h5
   ·rw [tr.Gu hkl h3]at h5;simp at h5
   ·rw [List.getElem?_eq_getElem hfl]at h5;simp at h5;rw[h5];exact h6
  refine⟨hA,?_⟩;rcases(tr.kind hfl hl).2.2 with h5|h5
  ·exact h5.2
  ·rw [h5.1]at hA;simp at hA
theorem C9.mb(tr:DR P ow wf n ops base sk hk vk lt br){S:Nat->Bool}{i:Nat}{o:Oper}(r:C9 ops S i o)(hw:br i=true\/((lt i).isSome=true/\Ce ow o=false)):MB br ops S<=i:=by
 rcases Pa (br:=br) (ops:=ops) (S:=S)with h|⟨k,h1,h2,h3⟩
 ·omega
 ·rcases Cr i (MB br ops S)with h4|h4
  ·have hki:k≠i:=(by intro e;subst e;rw[r.new]at h2;simp at h2);have hkl:k<ops.length:=(by have:=Jx (br:=br) (ops:=ops) (S:=S);omega);rcases tr.ww i k (by omega) hkl (hw.imp id (·.1)) (.inl h3)with h5|⟨p,q,_,h5,_⟩|⟨_,h5,_⟩|⟨h5,_,o2,h6,h7⟩
   ·rw [r.GE hkl h2]at h5;simp at h5
   ·rw [tr.Gu hkl h3]at h5;simp at h5
   ·rw [tr.Gu hkl h3]at h5;simp at h5
   ·rw [r.at_]at h6;simp at h6;subst h6;rcases hw with hw|hw
    ·rw [tr.Gu (by omega) hw]at h5;simp at h5
    ·rw [h7]at hw;simp at hw
  ·exact h4
theorem Lk{S S':Nat->Bool}{i:Nat}(hw:br i=false)(ho: ∀ j,j≠i->S' j=S j):MB br ops S'=MB br ops S:=by
 unfold MB;refine Lh ops.length λj hj=>?_;by_cases hji:j=i
 ·subst hji;simp[hw]
 ·rw [ho j hji]
theorem UN{S S':Nat->Bool}{i:Nat}(hb:br i=false)(hl:lt i=none)(ho: ∀ j,j≠i->S' j=S j):Hs lt br ops hk S'=Hs lt br ops hk S:=by
 have h1:Xs lt br ops hk S'=Xs lt br ops hk S:=by
  unfold Xs;rw[Lk hb ho];refine Mk _ λf hf hs=>?_;have:f≠i:=λe=>by rw[e,hl]at hs;simp at hs
  rw[ho f this]
 have h2:dl lt br ops S'=dl lt br ops S:=by
  unfold dl;rw[Lk hb ho];refine RL λf hf=>?_;by_cases hfi:f=i
  ·rw [hfi,hl];simp
  ·rw [ho f hfi]
 unfold Hs;rw[h1,h2]
theorem C9.Z7(tr:DR P ow wf n ops base sk hk vk lt br){S:Nat->Bool}{i:Nat}{o:Oper}(r:C9 ops S i o)(hli:lt i=none): ∀ id∈dl lt br ops S,id∈kx ow ops lt i:=by
 intro id hid;obtain⟨f,q,h1,h2,h3,h4,h5⟩:=IJ.1 hid;obtain⟨_,hA,_⟩:=r.early tr h2 h3 h4;rw[← h5];refine No h1 (λe=>by rw[← e,hli]at h4;simp at h4) ?_ (.inr hA) h4;cases hp:Go.AM.pre ops f i with
 |false=>rfl
 |true=>rw[r.Hb hp]at h3;simp at h3
theorem C9.quiet(hd:Hl ops)(tr:DR P ow wf n ops base sk hk vk lt br){S:Nat->Bool}{i:Nat}{o:Oper}(r:C9 ops S i o)(hli:lt i=none):Tc ops br i (MB br ops S)/\ ∀ l,(∀ id∈kx ow ops lt i,id∈l)->BE (Hs lt br ops hk S) l=gx ops lt hk i (MB br ops S) l:=by
 refine⟨⟨Jx,λb hb hbr=>?_,λb hb hbr=>?_,?_⟩,?_⟩
 ·exact r.GE (by have:=Jx (br:=br) (ops:=ops) (S:=S);omega) (r.Z6 tr hb hbr)
 ·cases hp:Go.AM.pre ops b i with
  |false=>rfl
  |true=>
   have hil:i<ops.length:=(List.getElem?_eq_some_iff.1 r.at_).1;have hbi:=Kl hd i b hil hp;rw[Nn hb (by omega) (r.Hb hp)]at hbr;simp at hbr
 ·rcases Pa (br:=br) (ops:=ops) (S:=S)with h|⟨k,h1,h2,h3⟩
  ·exact .inl h
  ·exact .inr (by rw[h1];exact h3)
 ·intro l hkl;unfold Hs gx;rw[UM (λid hid=>hkl id (r.Z7 tr hli id hid))];unfold Xs;refine RJ _ λf x hf hl=>?_;by_cases hM:MB br ops S<=f
  ·simp only[hM,TP,B7];cases hp:Go.AM.pre ops f i with
   |true=>exact .inl (r.Hb hp)
   |false=>
    cases hs:S f with
    |false=>exact .inl rfl
    |true=>
     refine .inr (hkl _<|No hf (λe=>by rw[← e,r.new]at hs;simp at hs) hp (.inl (r.GE hf hs)) hl)
  ·exact .inl (by simp[hM])
theorem C9.others(tr:DR P ow wf n ops base sk hk vk lt br){S:Nat->Bool}{i id:Nat}{ob:Am}{o:Oper}(r:C9 ops S i o)(hl:lt i=some (id,ob)):
  ∀ f q,f<ops.length->S f=true->lt f=some q->i<f->q.1≠id:=by
 have hil:i<ops.length:=(List.getElem?_eq_some_iff.1 r.at_).1;have hb:br i=false:=(tr.kind hil hl).1;intro f q hf hs hlf hif;rcases tr.ww i f hif hf (.inr (by rw[hl];try rfl)) (.inr (by rw[hlf];try rfl))with h5|⟨p,q',h5,h6,h7⟩|⟨h5,_⟩|⟨_,h5,_⟩
 ·rw [r.GE hf hs]at h5;simp at h5
 ·rw [hl]at h5;rw[hlf]at h6;simp at h5 h6;subst h5;subst h6;exact λe=>h7 e.symm
 ·rw [hb]at h5;simp at h5
 ·rw [tr.Gu hf h5]at hlf;simp at hlf
theorem C9.Z8(tr:DR P ow wf n ops base sk hk vk lt br){S S':Nat->Bool}{i id:Nat}{ob:Am}{o:Oper}(r:C9 ops S i o)(hl:lt i=some (id,ob))(hM:MB br ops S<=i)(hid:id ∉ dl lt br ops S)(hs':S' i=true)(ho: ∀ j,j≠i->S' j=S j):
  Hs lt br ops hk S'=(Hs lt br ops hk S).set id ob:=by
 have hil:i<ops.length:=(List.getElem?_eq_some_iff.1 r.at_).1;have hb:br i=false:=(tr.kind hil hl).1;have h1:Xs lt br ops hk S'=(Xs lt br ops hk S).set id ob:=by
  unfold Xs;rw[Lk hb ho];refine UK hl (by simp[r.new]) (by simp[hM,hs']) (λf hf=>by rw[ho f hf]) _ hil (λf q hif hfl hp hlf=>?_);simp only[AV,Ba]at hp;exact r.others tr hl f q hfl hp.2 hlf hif
 have h2:dl lt br ops S'=dl lt br ops S:=by
  unfold dl;rw[Lk hb ho];refine RL λf hf=>?_;by_cases hfi:f=i
  ·rw [hfi];simp[show ¬ i<MB br ops S by omega]
  ·rw [ho f hfi]
 unfold Hs;rw[h1,h2,PZ,A7 (by simpa using hid)]
theorem DR.stays(tr:DR P ow wf n ops base sk hk vk lt br){S:Nat->Bool}{i:Nat}{ob:Am}{o:Oper}(r:C9 ops S i o)(hd:Hl ops)(hl:lt i=some (base+i,ob)): ∀ d,i+1+d<=MB br ops S->(hk (i+1+d)).obj (base+i)=some ob
 |0,hle=>by
  have hil:i<ops.length:=(List.getElem?_eq_some_iff.1 r.at_).1;rw[GC,(tr.kind hil hl).2.1];simp[A0.set]
 |d+1,hle=>by
  have hil:i<ops.length:=(List.getElem?_eq_some_iff.1 r.at_).1;have hML:=Jx (br:=br) (ops:=ops) (S:=S);have ih:=DR.stays tr r hd hl d (by omega);have hjl:i+1+d<ops.length:=by omega
  rw[show i+1+(d+1)=i+1+d+1 by omega];cases hb:br (i+1+d)with
  |true=>
   obtain⟨_,b,_,h1,h2⟩:=tr.step (i+1+d) ops[i+1+d] (List.getElem?_eq_getElem hjl);cases b with
   |false=>rw[(h1 rfl).2.2.2]at hb;simp at hb
   |true=>
    cases hw:BL ow wf ops[i+1+d]with
    |false=>rw[((h2 rfl).2.1 hw).2.2.1]at hb;simp at hb
    |true=>
     rcases(h2 rfl).2.2 hw with h3|h3|h3
     ·obtain ⟨_,_,⟨H',_,_,h4⟩,_⟩:=h3;have hS:=r.Z6 tr (by omega) hb;have hk1:base+i∈kx ow ops lt (i+1+d):=by
       refine No (q:=(base+i,ob)) hil (by omega) (r.GE hjl hS) ?_ hl;left;cases hp:Go.AM.pre ops (i+1+d) i with
       |false=>rfl
       |true=>have:=Kl hd i _ hil hp;omega
      rw[h4];simp only[Cd];rw[AK ⟨by simpa using hk1,by rw[ih];try rfl⟩];exact ih
     ·rw [h3.1]at hb;simp at hb
     ·rw [h3.1]at hb;simp at hb
  |false=>
   rw[tr.NQ hjl hb];cases hlf:lt (i+1+d)with
   |none=>exact ih
   |some q=>
    simp only[A0.set];rw[A7]
    ·exact ih
    ·intro e
     rcases tr.ww i (i+1+d) (by omega) hjl (.inr (by rw[hl];try rfl)) (.inr (by rw[hlf];try rfl))with h5|⟨p,q',h5,h6,h7⟩|⟨h5,_⟩|⟨_,h5,_⟩
     ·cases hs:S (i+1+d)with
      |true=>rw[r.GE hjl hs]at h5;simp at h5
      |false=>
       obtain⟨_,_,h9⟩:=r.early tr (by omega) hs hlf;omega
     ·rw [hl]at h5;rw[hlf]at h6;simp at h5 h6;subst h5;subst h6;exact h7 e
     ·rw [(tr.kind hil hl).1]at h5;simp at h5
     ·rw [hb]at h5;simp at h5
theorem C9.px(hd:Hl ops)(tr:DR P ow wf n ops base sk hk vk lt br)(h0: ∀ f,(hk 0).obj (base+f)=none){S S':Nat->Bool}{i:Nat}{ob:Am}{o:Oper}(r:C9 ops S i o)(hA:Ce ow o=true)(hl:lt i=some (base+i,ob))(hs':S' i=true)(ho: ∀ j,j≠i->S' j=S j):
  Hs lt br ops hk S'=(Hs lt br ops hk S).set (base+i) ob/\(Hs lt br ops hk S).obj (base+i)=none:=by
 have hil:i<ops.length:=(List.getElem?_eq_some_iff.1 r.at_).1;have hb:br i=false:=(tr.kind hil hl).1
 have oth: ∀ f q,f<ops.length->S f=true->lt f=some q->q.1≠base+i:=by
  intro f q hf hs hlf;have hfi:f≠i:=λe=>by rw[e,r.new]at hs;simp at hs
  rcases Cr i f with h1|h1
  ·exact r.others tr hl f q hf hs hlf h1
  ·rcases (tr.kind hf hlf).2.2 with h2|h2
   ·rw [h2.2];omega
   ·exact λe=>h2.2 i o (by omega) r.at_ hA e.symm
 have dlO: ∀ f q,f<MB br ops S->S f=false->lt f=some q->q.1=base+i->f=i:=by
  intro f q h1 h2 h3 h4;obtain⟨_,_,h5⟩:=r.early tr h1 h2 h3;omega
 have hX:(Xs lt br ops hk S).obj (base+i)=(hk (MB br ops S)).obj (base+i):=by
  unfold Xs;refine Nm _ λf q hf hp hlf=>?_;simp only[AV]at hp;exact oth f q hf hp.2 hlf
 rcases Cr i (MB br ops S)with hM|hM
 ·have hin:base+i∈dl lt br ops S:=IJ.2 ⟨i,_,hil,hM,r.new,hl,rfl⟩;have hnone:(Hs lt br ops hk S).obj (base+i)=none:=by
   unfold Hs;simp only[BE];rw[AK (by simpa using hin)]
  refine⟨?_,hnone⟩;have hXX:Xs lt br ops hk S'=Xs lt br ops hk S:=by
   unfold Xs;rw[Lk hb ho];refine Mk _ λf hf _=>?_;by_cases hfi:f=i
   ·rw [hfi];simp[show ¬ MB br ops S<=i by omega]
   ·rw [ho f hfi]
  have hst:(hk (MB br ops S)).obj (base+i)=some ob:=by
   have:=tr.stays r hd hl (MB br ops S-(i+1)) (by omega)
   rwa [show i+1+(MB br ops S-(i+1))=MB br ops S by omega]at this
  refine GT (by unfold Hs;rw[hXX];try rfl) λj=>?_;unfold Hs;rw[hXX];simp only[BE,A0.set];by_cases hj:j=base+i
  ·rw [AK hj,A7,hj,hX,hst];rw[hj];intro hc;obtain⟨f,q,h1,h2,h3,h4,h5⟩:=IJ.1 (by simpa using hc);rw[Lk hb ho]at h2;by_cases hfi:f=i
   ·rw [hfi,hs']at h3;simp at h3
   ·rw [ho f hfi]at h3;exact hfi (dlO f q h2 h3 h4 h5)
  ·rw [A7 hj];have e:(dl lt br ops S').contains j=(dl lt br ops S).contains j:=by
    rw[Yu,List.contains_iff_mem,List.contains_iff_mem,IJ,IJ,Lk hb ho];constructor
    ·rintro ⟨f,q,h1,h2,h3,h4,h5⟩;have hfi:f≠i:=λe=>(by rw[e,hs']at h3;simp at h3);exact⟨f,q,h1,h2,by rw[← ho f hfi];exact h3,h4,h5⟩
    ·rintro ⟨f,q,h1,h2,h3,h4,h5⟩;have hfi:f≠i:=λe=>by
      rw[e,hl]at h4;simp at h4;rw[← h4]at h5;exact hj h5.symm
     exact⟨f,q,h1,h2,by rw[ho f hfi];exact h3,h4,h5⟩
   rw[e]
 ·have hnd:base+i ∉ dl lt br ops S:=by
   intro hc;obtain⟨f,q,h1,h2,h3,h4,h5⟩:=IJ.1 hc;have:=dlO f q h2 h3 h4 h5;omega
  refine⟨r.Z8 tr hl hM hnd hs' ho,?_⟩;unfold Hs;simp only[BE];rw[A7 (by simpa using hnd),hX];exact tr.KY h0 _ Jx i o hM r.at_ hA
theorem C9.stored(tr:DR P ow wf n ops base sk hk vk lt br){S:Nat->Bool}{i id:Nat}{ob:Am}{o:Oper}(r:C9 ops S i o)(hA:Ce ow o=false)(hl:lt i=some (id,ob)):
  MB br ops S<=i/\id ∉ dl lt br ops S/\(Hs lt br ops hk S).obj id=(hk i).obj id:=by
 have hil:i<ops.length:=(List.getElem?_eq_some_iff.1 r.at_).1;have hb:br i=false:=(tr.kind hil hl).1;have hM:=r.mb tr (.inr ⟨by rw[hl];try rfl,hA⟩);have ord: ∀ f q,f<i->lt f=some q->q.1=id->S f=true:=by
  intro f q hf hlf he;rcases tr.ww f i hf hil (.inr (by rw[hlf];try rfl)) (.inr (by rw[hl];try rfl))with h6|⟨p,q',h6,h7,h8⟩|⟨h6,_⟩|⟨_,h6,_⟩
  ·exact r.Hb h6
  ·rw [hlf]at h6;rw[hl]at h7;simp at h6 h7;subst h6;subst h7;exact(h8 he).elim
  ·rw [tr.Gu (by omega) h6]at hlf;simp at hlf
  ·rw [hb]at h6;simp at h6
 have hnd:id ∉ dl lt br ops S:=by
  intro hc;obtain⟨f,q,h1,h2,h3,h4,h5⟩:=IJ.1 hc;rw[ord f q (by omega) h4 h5]at h3;simp at h3
 refine⟨hM,hnd,?_⟩;have hnb: ∀ b,MB br ops S<=b->b<i->br b=false:=by
  intro b h1 h2;cases hbb:br b with
  |false=>rfl
  |true=>
   rcases tr.ww b i h2 hil (.inl hbb) (.inr (by rw[hl];try rfl))with h5|⟨p,q,h5,_,_⟩|⟨_,_,o2,h5,h6⟩|⟨h5,_⟩
   ·rw [Nn h1 (by omega) (r.Hb h5)]at hbb;simp at hbb
   ·rw [tr.Gu (by omega) hbb]at h5;simp at h5
   ·rw [r.at_]at h5;simp at h5;subst h5;rw[hA]at h6;simp at h6
   ·rw [tr.Gu (by omega) hbb]at h5;simp at h5
 unfold Hs;simp only[BE];rw[A7 (by simpa using hnd),tr.segL hM (by omega) hnb];unfold Xs;refine Nl _ λf q hf hlf he=>?_;by_cases hMf:MB br ops S<=f
 ·rcases Ys f i with h5|h5|h5
  ·simp only[ord f q h5 hlf he,h5,TP,Cm]
  ·rw [h5];simp only[r.new,BA,Yv,Qi]
  ·have hsf:S f=false:=by
    cases hx2:S f with
    |false=>rfl
    |true=>exact(r.others tr hl f q hf hx2 hlf h5 he).elim
   simp only[hsf,show ¬ f<i by omega,Qi,BA]
 ·simp only[hMf,Qi,B5]
theorem UO{p:Nat->Bool}{H H':A0}{id:Nat}: ∀ m,(∃ f x,f<m/\p f=true/\lt f=some x/\x.1=id)->(Ct lt p H m).obj id=(Ct lt p H' m).obj id/\((Ct lt p H m).obj id).isSome=true
 |0,⟨f,_,hf,_⟩=>by omega
 |m+1,⟨f,x,hf,hp,hl,he⟩=>by
  rw[RI,RI];by_cases hfm:f=m
  ·subst hfm;rw[hl];simp only[hp,AO];simp[A0.set,he]
  ·have ih:=UO (H:=H) (H':=H') m ⟨f,x,by omega,hp,hl,he⟩;cases hlm:lt m with
   |none=>exact ih
   |some y=>
    simp only;split
    ·by_cases hy:id=y.1
     ·simp [A0.set,hy]
     ·simp only[A0.set,hy,AP];exact ih
    ·exact ih
theorem C9.py(hd:Hl ops)(tr:DR P ow wf n ops base sk hk vk lt br)(h0: ∀ f,(hk 0).obj (base+f)=none){S S':Nat->Bool}{i:Nat}{o:Oper}(r:C9 ops S i o)(hb:br i=true){H':A0}(hH: ∀ id∈kx ow ops lt i,H'.obj id=none)(hki1:hk (i+1)=Cd H' (hk i) (kx ow ops lt i))(hs':S' i=true)(ho: ∀ j,j≠i->S' j=S j):
  BE (Hs lt br ops hk S) (kx ow ops lt i)=BE (hk i) (kx ow ops lt i)/\Cd H' (Hs lt br ops hk S) (kx ow ops lt i)=Hs lt br ops hk S':=by
 have hil:i<ops.length:=(List.getElem?_eq_some_iff.1 r.at_).1;have hli:lt i=none:=tr.Gu hil hb;have hM:=r.mb tr (.inl hb);have hnb: ∀ b,MB br ops S<=b->b<i->br b=false:=by
  intro b h1 h2;cases hbb:br b with
  |false=>rfl
  |true=>
   rcases tr.ww b i h2 hil (.inl hbb) (.inl hb)with h5|⟨p,q,_,h5,_⟩|⟨_,h5,_⟩|⟨h5,_⟩
   ·rw [Nn h1 (by omega) (r.Hb h5)]at hbb;simp at hbb
   ·rw [hli]at h5;simp at h5
   ·rw [hli]at h5;simp at h5
   ·rw [tr.Gu (by omega) hbb]at h5;simp at h5
 have hki:=tr.segL hM (by omega) hnb
 have inK: ∀ f q,f<ops.length->lt f=some q->(f<i->S f=false)->(i<f->S f=true)->q.1∈kx ow ops lt i:=by
  intro f q hf hl h1 h2;have hne:i≠f:=λe=>by rw[← e,hli]at hl;simp at hl
  rcases Cr f i with h3|h3
  ·refine No hf hne ?_ (.inl ?_) hl
   ·cases hp:Go.AM.pre ops f i with
    |false=>rfl
    |true=>have:=r.Hb hp;rw[h1 h3]at this;simp at this
   ·cases hp:Go.AM.pre ops i f with
    |false=>rfl
    |true=>have:=Kl hd f i hf hp;omega
  ·refine No hf hne ?_ (.inl (r.GE hf (h2 (by omega)))) hl;cases hp:Go.AM.pre ops f i with
   |false=>rfl
   |true=>have:=Kl hd i f hil hp;omega
 have kxA: ∀ id∈kx ow ops lt i, ∃ f q, ∃ hf:f<ops.length,f≠i/\Ce ow ops[f]=true/\lt f=some q/\q.1=id/\id=base+f/\Go.AM.pre ops f i=false:=by
  intro id hid;obtain⟨f,q,hf,h2,h3,h4,h5,h6⟩:=aU hid;have hA:Ce ow ops[f]=true:=by
   rcases h4 with h4|h4
   ·rcases Ys f i with h7|h7|h7
    ·rcases tr.ww f i h7 hil (.inr (by rw[h5];try rfl)) (.inl hb)with h8|⟨_,_,_,h8,_⟩|⟨_,h8,_⟩|⟨_,_,o2,h8,h9⟩
     ·rw [h8]at h3;simp at h3
     ·rw [hli]at h8;simp at h8
     ·rw [hli]at h8;simp at h8
     ·rw [List.getElem?_eq_getElem hf]at h8;simp at h8;rw[h8];exact h9
    ·exact (h2 h7.symm).elim
    ·rcases tr.ww i f h7 hf (.inl hb) (.inr (by rw[h5];try rfl))with h8|⟨_,_,h8,_⟩|⟨_,_,o2,h8,h9⟩|⟨h8,_⟩
     ·rw [h8]at h4;simp at h4
     ·rw [hli]at h8;simp at h8
     ·rw [List.getElem?_eq_getElem hf]at h8;simp at h8;rw[h8];exact h9
     ·rw [hli]at h8;simp at h8
   ·exact h4
  rcases(tr.kind hf h5).2.2 with h7|h7
  ·exact ⟨f,q,hf,λe=>h2 e.symm,hA,h5,h6,by rw[← h6];exact h7.2,h3⟩
  ·rw [h7.1]at hA;simp at hA
 have uniq: ∀ f q g x,(hf:f<ops.length)->Ce ow ops[f]=true->lt f=some q->q.1=base+f->Go.AM.pre ops f i=false->(hg:g<ops.length)->lt g=some x->x.1=base+f->g≠f->i<g/\S g=false:=by
  intro f q g x hf hfA hlf hq hpf hg hlg hx hgf;have hgA:Ce ow ops[g]=false:=by
   rcases(tr.kind hg hlg).2.2 with h1|h1
   ·rw [h1.2]at hx;omega
   ·exact h1.1
  have hfg:f<g:=by
   rcases Cr g f with h1|h1
   ·rcases (tr.kind hg hlg).2.2 with h3|h3
    ·rw [h3.1]at hgA;simp at hgA
    ·exact (h3.2 f ops[f] (by omega) (List.getElem?_eq_getElem hf) hfA (by rw[hx])).elim
   ·omega
  have hpre:Go.AM.pre ops f g=true:=by
   rcases tr.ww f g hfg hg (.inr (by rw[hlf];try rfl)) (.inr (by rw[hlg];try rfl))with h5|⟨p,q',h5,h6,h7⟩|⟨h5,_⟩|⟨_,h5,_⟩
   ·exact h5
   ·rw [hlf]at h5;rw[hlg]at h6;simp at h5 h6;subst h5;subst h6;exact(h7 (by rw[hq,hx])).elim
   ·rw [tr.Gu hf h5]at hlf;simp at hlf
   ·rw [tr.Gu hg h5]at hlg;simp at hlg
  have hgi:g≠i:=λe=>by rw[e,hli]at hlg;simp at hlg
  have hig:i<g:=by
   rcases Cr i g with h1|h1
   ·exact h1
   ·rcases tr.ww g i (by omega) hil (.inr (by rw[hlg];try rfl)) (.inl hb)with h8|⟨_,_,_,h8,_⟩|⟨_,h8,_⟩|⟨_,_,o2,h8,h9⟩
    ·rw [aT hd i hil hpre h8]at hpf;simp at hpf
    ·rw [hli]at h8;simp at h8
    ·rw [hli]at h8;simp at h8
    ·rw [List.getElem?_eq_getElem hg]at h8;simp at h8;rw[h8,h9]at hgA;simp at hgA
  refine⟨hig,?_⟩;cases hsg:S g with
  |false=>rfl
  |true=>
   rcases tr.ww i g hig hg (.inl hb) (.inr (by rw[hlg];try rfl))with h8|⟨_,_,h8,_⟩|⟨_,_,o2,h8,h9⟩|⟨h8,_⟩
   ·rw [r.GE hg hsg]at h8;simp at h8
   ·rw [hli]at h8;simp at h8
   ·rw [List.getElem?_eq_getElem hg]at h8;simp at h8;rw[h8,h9]at hgA;simp at hgA
   ·rw [hli]at h8;simp at h8
 refine⟨?_,?_⟩
 ·unfold Hs;rw[UM (r.Z7 tr hli)];unfold Xs;rw[hki];refine RJ _ λf q hf hl=>?_;by_cases hMf:MB br ops S<=f
  ·simp only[hMf,TP,B7];have hne:f≠i:=λe=>(by rw[e,hli]at hl;simp at hl);cases hs:S f with
   |true=>
    rcases Cr f i with h1|h1
    ·exact .inl (by simp[h1])
    ·exact .inr (inK f q hf hl (λh2=>by omega) (λ_=>hs))
   |false=>
    rcases Cr f i with h1|h1
    ·exact .inr (inK f q hf hl (λ_=>hs) (λh2=>by omega))
    ·exact .inl (by simp;omega)
  ·exact .inl (by simp[hMf])
 ·have hMS:MB br ops S'=i+1:=by
   unfold MB;refine Jw (by omega) (.inr ⟨i,rfl,by rw[hs',hb];try rfl⟩) λj h1 h2=>?_;cases hsj:S' j with
   |false=>rfl
   |true=>
    rw[ho j (by omega)]at hsj;have:=Nn (br:=br) (by omega:MB br ops S<=j) h2 hsj;simp[this]
  have hXn:(Xs lt br ops hk S').next=H'.next:=by unfold Xs;rw[PY,hMS,hki1];try rfl
  refine GT (by unfold Hs;simp only[BE,Cd];exact hXn.symm) λid=>?_
  have dl':id∈dl lt br ops S'↔ ∃ g x,g<ops.length/\g<i/\S g=false/\lt g=some x/\x.1=id:=by
   rw[IJ,hMS];constructor
   ·rintro ⟨g,x,h1,h2,h3,h4,h5⟩;have hgi:g≠i:=λe=>(by rw[e,hli]at h4;simp at h4);exact⟨g,x,h1,by omega,by rw[← ho g hgi];exact h3,h4,h5⟩
   ·rintro ⟨g,x,h1,h2,h3,h4,h5⟩;exact⟨g,x,h1,by omega,by rw[ho g (by omega)];exact h3,h4,h5⟩
  by_cases hid:id∈kx ow ops lt i
  ·obtain ⟨f,q,hf,hne,hA,hlf,hq,hbase,hpf⟩:=kxA id hid;have hu: ∀ g x,g<ops.length->lt g=some x->x.1=id->g≠f->i<g/\S g=false:=λg x h1 h2 h3 h4=>uniq f q g x hf hA hlf (by rw[hq,hbase]) hpf h1 h2 (by rw[h3,hbase]) h4;have hL:(Cd H' (Hs lt br ops hk S) (kx ow ops lt i)).obj id=(Hs lt br ops hk S).obj id:=by
    simp only[Cd];cases hx:(Hs lt br ops hk S).obj id with
    |none=>simp[hH id hid]
    |some o2=>simp[hid]
   rw[hL];cases hsf:S f with
   |true=>
    have n1:id ∉ dl lt br ops S:=λhc=>by
     obtain⟨g,x,h1,h2,h3,h4,h5⟩:=IJ.1 hc;by_cases hgf:g=f
     ·rw [hgf,hsf]at h3;simp at h3
     ·have:=(hu g x h1 h4 h5 hgf).1;omega
    have n2:id ∉ dl lt br ops S':=λhc=>by
     obtain⟨g,x,h1,h2,h3,h4,h5⟩:=dl'.1 hc;by_cases hgf:g=f
     ·rw [hgf,hsf]at h3;simp at h3
     ·have:=(hu g x h1 h4 h5 hgf).1;omega
    unfold Hs;simp only[BE];rw[A7 (by simpa using n1),A7 (by simpa using n2)];unfold Xs;rcases Cr f i with h1|h1
    ·rw [Nm (p:=λf=>decide (MB br ops S'<=f)&&S' f) _ (λg x h2 h3 h4 h5=>?_),hMS,hki1]
     ·have h6:(Cd H' (hk i) (kx ow ops lt i)).obj id=(hk i).obj id:=by
       simp only[Cd];cases hx:(hk i).obj id with
       |none=>simp[hH id hid]
       |some o2=>simp[hid]
      rw[h6,hki];refine Nl _ λg x h2 h3 h4=>?_;by_cases hgf:g=f
      ·rw [hgf,hsf];simp[h1]
      ·obtain ⟨k1,k2⟩:=hu g x h2 h3 h4 hgf;rw[k2];simp;omega
     ·rw [hMS]at h3;simp only[AV,Ba]at h3;by_cases hgf:g=f
      ·omega
      ·have:=(hu g x h2 h4 h5 hgf).2;rw[ho g (by omega),this]at h3;simp at h3
    ·have hfi:i<f:=(by omega);have e1:(Ct lt (λf=>decide (MB br ops S<=f)&&S f) (hk (MB br ops S)) ops.length).obj id=(Ct lt (λf=>decide (MB br ops S'<=f)&&S' f) (hk (MB br ops S)) ops.length).obj id:=by
      refine Nl _ λg x h2 h3 h4=>?_;rw[hMS];by_cases hgf:g=f
      ·rw [hgf,ho f hne,hsf];simp;omega
      ·obtain ⟨k1,k2⟩:=hu g x h2 h3 h4 hgf;rw[ho g (by omega),k2];simp
     rw[e1];refine(UO _ ⟨f,q,hf,?_,hlf,hq⟩).1;rw[hMS,ho f hne,hsf];simp;omega
   |false=>
    have no: ∀ g x,g<ops.length->lt g=some x->x.1=id->S g=false:=λg x h1 h2 h3=>by
     by_cases hgf:g=f
     ·rw [hgf];exact hsf
     ·exact (hu g x h1 h2 h3 hgf).2
    have l1:(Hs lt br ops hk S).obj id=none:=by
     unfold Hs;simp only[BE];split
     ·rfl
     ·rename_i hc;rcases Cr f (MB br ops S)with h1|h1
      ·exact (hc (by simpa using IJ.2 ⟨f,q,hf,h1,hsf,hlf,hq⟩)).elim
      ·unfold Xs;rw[Nm _ (λg x h2 h3 h4 h5=>by
        simp only[AV]at h3;rw[no g x h2 h4 h5]at h3;simp at h3)]
       rw[hbase];exact tr.KY h0 _ Jx f ops[f] h1 (List.getElem?_eq_getElem hf) hA
    rw[l1];unfold Hs;simp only[BE];split
    ·rfl
    ·rename_i hc;rcases Cr f i with h1|h1
     ·exact (hc (by simpa using dl'.2 ⟨f,q,hf,h1,hsf,hlf,hq⟩)).elim
     ·unfold Xs;rw[Nm _ (λg x h2 h3 h4 h5=>by
       rw[hMS]at h3;simp only[AV,Ba]at h3;rw[ho g (by omega),no g x h2 h4 h5]at h3;simp at h3)]
      rw[hMS,hbase];exact(tr.KY h0 (i+1) (by omega) f ops[f] (by omega) (List.getElem?_eq_getElem hf) hA).symm
  ·have n2:id ∉ dl lt br ops S':=λhc=>by
    obtain⟨g,x,h1,h2,h3,h4,h5⟩:=dl'.1 hc;exact hid (by rw[← h5];exact inK g x h1 h4 (λ_=>h3) (λh6=>by omega))
   have hL:(Cd H' (Hs lt br ops hk S) (kx ow ops lt i)).obj id=H'.obj id:=by
    simp only[Cd];rw[A7 (λhc=>hid (by simpa using hc.1))]
   rw[hL];unfold Hs;simp only[BE];rw[A7 (by simpa using n2)];unfold Xs;rw[Nm _ (λg x h2 h3 h4 h5=>by
    rw[hMS]at h3;simp only[AV,Ba]at h3;rw[ho g (by omega)]at h3;exact hid (by rw[← h5];exact inK g x h2 h4 (λh6=>by omega) (λ_=>h3.2)))]
   rw[hMS,hki1];simp only[Cd];rw[A7 (λhc=>hid (by simpa using hc.1))]
end
end Go.AM
