/- What the claim rests on, part 7: the abstract machine, contracts of the functions, plain data. -/
import Derived.OpenShut
import Derived.ChangeShapes
import Derived.SizedLaws
import Derived.Test.YtblgchkahpgdjaaGreatZr6
set_option linter.unusedVariables false
set_option linter.unusedSimpArgs false
set_option linter.unusedSectionVars false
namespace Go.Proofs.YtblgchkahpgdjaaGreat
open Go.AM Go.Proofs.Tryz
set_option maxHeartbeats 4000000
set_option maxRecDepth 20000
def Gw(x:Sx):Ex × Int:=if(CL x 0 0).1=true then(if(BV x).2=0 then(if EL (BV x).1=true then((BV x).1,0)else(Bs,5))else(Bs,(BV x).2))else(Bs,2)
theorem gF{e:Ex}(hv:EL e=true)(hs:Ey e=true):Gw (BE e)=(e,0):=by
 have h1:=Rm e hs;have h2:(CL (BE e) 0 0).1=true:=by unfold EL at hv;simp only[AR]at hv;exact hv.2
 unfold Gw;rw[AG h2,h1];simp only[AG,hv]
theorem gG{x:Sx}(hok:x.ok)(h:A0):A6 prog 147 [.agg x.cells] h λr h'=>r= .tup [.agg (Gw x).1.cells,AO (Gw x).2]/\h'=h:=by
 refine A6.frz Ty.Nw ?_;have hv:=λh:A0=>JI hok h;have hX:Gw x=(if(CL x 0 0).1=true then(if(BV x).2=0 then(if EL (BV x).1=true then((BV x).1,0)else(Bs,5))else(Bs,(BV x).2))else(Bs,2)):=rfl;generalize Gw x=F at hX;have bad: ∀ (c:Int)(h':A0),(c==0)=false->AC h h'->F=(Bs,c)->AF h.next h' (.tup [.agg F.1.cells,AO F.2]) (.tup [.agg [.sc (.string ⟨#[]⟩),.sc (.string ⟨#[]⟩),.sc (.int .i64 0),.sc (.slice none 0 0),.sc (.slice none 0 0)],Aj c])/\AC h h':=by
  intro c h' hc hg hF;subst hF;have:AO c=Aj c:=by simp only[AO,hc,AI]
  simp only[this];refine⟨?_,hg⟩;simp only[Aj,Bs,Ex.cells,Ex.rows,AN,B5,AF,AL];exact⟨_,rfl,⟨_,rfl,rfl,rfl,rfl,.inr (.inl ⟨rfl,.inr rfl⟩),.inr (.inl ⟨rfl,.inr rfl⟩),trivial⟩,rfl,trivial⟩
 simp only[Aj]at bad;have hg1: ∀ r,AC h ((h.new (.arr 5 [[.sc (.string ⟨#[]⟩),.sc (.string ⟨#[]⟩),.sc (.int .i64 0),.sc (.slice none 0 0),.sc (.slice none 0 0)]])).set h.next r):=λr=>((AC.refl h).new _).set (AD _) _;have hg2: ∀ o1 o2 r,AC h ((((h.new (.arr 5 [[.sc (.string ⟨#[]⟩),.sc (.string ⟨#[]⟩),.sc (.int .i64 0),.sc (.slice none 0 0),.sc (.slice none 0 0)]])).new o1).set (h.next+1) o2).set h.next r):=λo1 o2 r=>((((AC.refl h).new _).new _).set (Oj _) _).set (AD _) _;have n1:(h.next=h.next+1)=False:=by simp
 cases v1:(CL x 0 0).1 with
 |false=>
  rw[v1]at hv;rw[A4 (by rw[v1];simp)]at hX;obtain⟨kind,value,line,col,text,kids⟩:=x;simp only[Sx.cells]at hv⊢;refine AE func147 ntmps147 results147 Ty.Nw ?_;refine wt A3 ?_;refine uU A3 (hv _) ?_;refine wt yF ?_;exact bad 2 _ rfl (hg1 _) hX
 |true=>
  have hsm:=Kf v1;have hp:=Rs x hok hsm;have hfo:=Pk x hok hsm;rw[v1]at hv;rw[AG v1]at hX;have hfz:=λn hh=>VJ n hh (BV x).1;generalize BV x=E at hp hfo hX hfz;obtain⟨f,c⟩:=E;simp only at hp hfo hX hfz;obtain⟨kind,value,line,col,text,kids⟩:=x;simp only[Sx.cells]at hv hp⊢;cases hc:c==0 with
  |false=>
   rw[A4 (by simpa using hc)]at hX;have e0:AO c=Aj c:=(by simp only[AO,hc,AI]);rw[e0]at hp;simp only[Aj]at hp;obtain⟨fop,fna,fnn,far,fki⟩:=f;simp only[Ex.cells]at hp;refine AE func147 ntmps147 results147 Ty.Nw ?_;refine wt A3 ?_;refine uU A3 (hv _) ?_;refine wt yT ?_;refine uU A3 (hp _) ?_;refine wt (uu n1 @B2) ?_;exact bad c _ hc (hg2 _ _ _) hX
  |true=>
   rw[AG (by simpa using hc)]at hX;have e0:AO c= .sc .nilIface:=(by simp only[AO,hc,AB]);rw[e0]at hp;have hV:=λh:A0=>VF hfo.1 hfo.2 h;cases v2:EL f with
   |false=>
    rw[v2]at hV;rw[A4 (by rw[v2];simp)]at hX;obtain⟨fop,fna,fnn,far,fki⟩:=f;simp only[Ex.cells]at hp hV;refine AE func147 ntmps147 results147 Ty.Nw ?_;refine wt A3 ?_;refine uU A3 (hv _) ?_;refine wt yT ?_;refine uU A3 (hp _) ?_;refine wt (uu n1 @B2) ?_;refine uU (uu n1 @B2) (hV _) ?_;refine wt (AV n1 @B2 yF) ?_;exact bad 5 _ rfl (hg2 _ _ _) hX
   |true=>
    rw[v2]at hV;rw[AG v2]at hX;subst hX;obtain⟨fop,fna,fnn,far,fki⟩:=f;simp only[Ex.cells]at hp hV hfz;have e2:AO 0= .sc .nilIface:=rfl;simp only[e2,Ex.cells];refine AE func147 ntmps147 results147 Ty.Nw ?_;refine wt A3 ?_;refine uU A3 (hv _) ?_;refine wt yT ?_;refine uU A3 (hp _) ?_;refine wt (uu n1 @B2) ?_;refine uU (uu n1 @B2) (hV _) ?_;refine wt (AV n1 @B2 yT) ?_;refine⟨?_,hg2 _ _ _⟩;have h1:=λhh=>hfz h.next hh
    unfold AF;refine⟨_,rfl,?_⟩;unfold AL;refine⟨?_,by unfold AL;exact⟨by simp only[AF],by simp only[AL]⟩⟩;unfold AF;exact⟨_,rfl,h1 _⟩
set_option maxHeartbeats 8000000
def IG(v:Bool)(p:Pm):Bool:=(if v=true then Eg p.name else An p.name)&&Gd p.type
end Go.Proofs.YtblgchkahpgdjaaGreat
namespace Go.AM
mutual
def Nz:PV->PV->Prop
 | .imm z rows,p=>(∃ rows',p= .imm z rows'/\F0 rows rows')\/(rows=[]/\(p= .emp\/p= .sc (.slice none 0 0)))
 | .agg l,p=> ∃ l',p= .agg l'/\Cx l l'
 |q,p=>p=q
def Cx:List PV->List PV->Prop
 |[],[]=>True
 |p::ps,q::qs=>Nz p q/\Cx ps qs
 |_,_=>False
def F0:List (List PV)->List (List PV)->Prop
 |[],[]=>True
 |p::ps,q::qs=>Cx p q/\F0 ps qs
 |_,_=>False
end
theorem Cx.len:(l l':List PV)->Cx l l'->l.length=l'.length
 |[],[],_=>rfl
 |[],_::_,h=>by simp[Cx]at h
 |_::_,[],h=>by simp[Cx]at h
 |p::l,q::l',h=>by
  unfold Cx at h;simp only[Aw,Cx.len l l' h.2]
theorem F0.len:(l l':List (List PV))->F0 l l'->l.length=l'.length
 |[],[],_=>rfl
 |[],_::_,h=>by simp[F0]at h
 |_::_,[],h=>by simp[F0]at h
 |p::l,q::l',h=>by
  unfold F0 at h;simp only[Aw,F0.len l l' h.2]
mutual
theorem Nz.refl:(p:PV)->Nz p p
 | .imm z rows=>by unfold Nz;exact .inl ⟨rows,rfl,F0.refl rows⟩
 | .agg l=>by unfold Nz;exact⟨l,rfl,Cx.refl l⟩
 | .sc v=>by unfold Nz;rfl
 | .ptr _ _ _=>by unfold Nz;rfl
 | .cptr _=>by unfold Nz;rfl
 | .own _ _ _=>by unfold Nz;rfl
 | .emp=>by unfold Nz;rfl
 | .mp _=>by unfold Nz;rfl
 | .tup _=>by unfold Nz;rfl
 | .fn _ _ _=>by unfold Nz;rfl
 | .ab _ _ _ _ _=>by unfold Nz;rfl
theorem Cx.refl:(l:List PV)->Cx l l
 |[]=>by unfold Cx;trivial
 |p::l=>by unfold Cx;exact⟨Nz.refl p,Cx.refl l⟩
theorem F0.refl:(l:List (List PV))->F0 l l
 |[]=>by unfold F0;trivial
 |p::l=>by unfold F0;exact⟨Cx.refl p,F0.refl l⟩
end
section
variable {β:BH}{n:Nat}{F:Nat->Prop}{w:World}
mutual
theorem Nz.rep:(q p:PV)->(x:Value)->Nz q p->A8 β n F w p x->A8 β n F w q x
 | .imm z rows,p,x,h,hr=>by
  unfold Nz at h;rcases h with⟨rows',rfl,hR⟩|⟨rfl,rfl|rfl⟩
  ·simp only[A8]at hr⊢;have hl:=F0.len rows rows' hR;obtain⟨a,cap,rfl,g1,g2,g3⟩:=hr;refine⟨a,cap,by rw[hl],by omega,g2,?_⟩;rcases g3 with g3|⟨b,o,hF,ha,hRR⟩
   ·left;rw[g3]at hl;exact J6.1 hl
   ·exact .inr ⟨b,o,hF,ha,F0.rep z rows rows' b o hR hRR⟩
  ·simp only[A8]at hr⊢;obtain⟨a,rfl⟩:=hr;exact⟨a,0,rfl,AD _,Bx _,.inl A3⟩
  ·simp only[A8]at hr⊢;exact⟨none,0,hr,AD _,Bx _,.inl A3⟩
 | .agg l,p,x,h,hr=>by
  unfold Nz at h;obtain⟨l',rfl,hl⟩:=h;simp only[A8]at hr⊢;obtain⟨xs,rfl,h1,h2⟩:=hr;exact⟨xs,rfl,h1,Cx.rep l l' xs hl h2⟩
 | .sc _,p,x,h,hr=>by unfold Nz at h;subst h;exact hr
 | .ptr _ _ _,p,x,h,hr=>by unfold Nz at h;subst h;exact hr
 | .cptr _,p,x,h,hr=>by unfold Nz at h;subst h;exact hr
 | .own _ _ _,p,x,h,hr=>by unfold Nz at h;subst h;exact hr
 | .emp,p,x,h,hr=>by unfold Nz at h;subst h;exact hr
 | .mp _,p,x,h,hr=>by unfold Nz at h;subst h;exact hr
 | .tup _,p,x,h,hr=>by unfold Nz at h;subst h;exact hr
 | .fn _ _ _,p,x,h,hr=>by unfold Nz at h;subst h;exact hr
 | .ab _ _ _ _ _,p,x,h,hr=>by unfold Nz at h;subst h;exact hr
theorem Cx.rep:(l l':List PV)->(xs:List Value)->Cx l l'->AS β n F w l' xs->AS β n F w l xs
 |[],[],xs,_,hr=>hr
 |[],_::_,_,h,_=>by simp[Cx]at h
 |_::_,[],_,h,_=>by simp[Cx]at h
 |p::l,q::l',[],_,hr=>by simp[AS]at hr
 |p::l,q::l',v::xs,h,hr=>by
  unfold Cx at h;unfold AS at hr⊢;exact⟨Nz.rep p q v h.1 hr.1,Cx.rep l l' xs h.2 hr.2⟩
theorem NzS.rep:(l l':List PV)->(b o:Nat)->Cx l l'->BY β n F w l' b o->BY β n F w l b o
 |[],[],_,_,_,_=>by unfold BY;trivial
 |[],_::_,_,_,h,_=>by simp[Cx]at h
 |_::_,[],_,_,h,_=>by simp[Cx]at h
 |p::l,q::l',b,o,h,hr=>by
  unfold Cx at h;unfold BY at hr⊢;obtain⟨⟨v,h1,h2,h3⟩,h4⟩:=hr;exact⟨⟨v,h1,h2,Nz.rep p q v h.1 h3⟩,NzS.rep l l' b (o+1) h.2 h4⟩
theorem F0.rep(z:Nat):(l l':List (List PV))->(b o:Nat)->F0 l l'->BF β n F w z l' b o->BF β n F w z l b o
 |[],[],_,_,_,_=>by unfold BF;trivial
 |[],_::_,_,_,h,_=>by simp[F0]at h
 |_::_,[],_,_,h,_=>by simp[F0]at h
 |p::l,q::l',b,o,h,hr=>by
  unfold F0 at h;unfold BF at hr⊢;exact⟨⟨by rw[Cx.len p q h.1];exact hr.1.1,NzS.rep p q b o h.1 hr.1.2⟩,F0.rep z l l' b (o+z) h.2 hr.2⟩
end
end
theorem A6.nz{P:Program}{f:FuncId}{ys xs:List PV}{h:A0}{K:PV->A0->Prop}(hc:A6 P f ys h K)(hz:Cx ys xs):A6 P f xs h K:=
 λβ w vals sm hr=>hc β w vals sm (Cx.rep ys xs vals hz hr)
theorem Pl{z:Nat}:Nz (.imm z []) (.sc (.slice none 0 0)):=by unfold Nz;exact .inr ⟨rfl,.inr rfl⟩
theorem VW{r r':List PV}(h:Cx r r'):Nz (.agg r) (.agg r'):=by unfold Nz;exact⟨_,rfl,h⟩
theorem Hj{p q:PV}{l m:List PV}(h:Nz p q)(h2:Cx l m):Cx (p::l) (q::m):=by unfold Cx;exact⟨h,h2⟩
end Go.AM
namespace Go.AM
theorem DS{h:A0}{o:Ab}{j:Nat}(hj:j<h.next):(h.new o).obj j=h.obj j:=by
 simp only[A0.new];rw[A4 (by omega)]
theorem F3{h:A0}{id j:Nat}(hj:j≠id):(h.kill id).obj j=h.obj j:=by
 simp only[A0.kill];rw[A4 hj]
theorem Av{h:A0}{o:Ab}{id j:Nat}(hj:j≠id):(h.set id o).obj j=h.obj j:=by
 simp only[A0.set];rw[A4 hj]
theorem Cy{h:A0}{o:Ab}{id:Nat}:(h.set id o).obj id=some o:=by simp only[A0.set,AH]
def Ge(h:A0)(o o':Ab):A0:=Ed h.next ((h.new o).set h.next o')
theorem HL{h:A0}{o o':Ab}:(Ge h o o').next=h.next+1:=rfl
theorem Gx{h:A0}{o o':Ab}{j:Nat}(hj:j<h.next):(Ge h o o').obj j=h.obj j:=by
 simp only[Ge,Ed,A0.set,A0.new];rw[AG hj,A4 (by omega),A4 (by omega)]
theorem Gy{P:Program}{ow:Nat->Bool}{wf:FuncId->Bool}{m z:Nat}{c:Code}{Q:BA}{s:A9}{h:A0}{o:Ab}{cells:List PV}(t:Nat)(hc:KR c=true)(hs:s t= .ptr h.next 0 0)(hf: ∀ n H,AL n H cells cells)
  (hw:Ad P ow wf m c Q (CX s t (.cptr cells)) (Ge h o (.arr z [cells]))):Ad P ow wf m c Q s ((h.new o).set h.next (.arr z [cells])):=by
 refine Mc h.next [(t,.cptr cells)] hc (by simp[A0.new,A0.set]) ?_ hw
 intro x hx;simp only[D7,Gn,HE]at hx;subst hx;simp only[hs,AF];exact .inr ⟨h.next,0,0,z,[cells],cells,rfl,AD _,by simp[A0.set],rfl,hf _ _⟩
theorem AC.tmp{h h':A0}(g:AC h h')(o o':Ab):AC h (Ge h' o o'):=
 ⟨by rw[HL];have:=g.le;omega,λid hid=>by rw[Gx (by have:=g.le;omega)];exact g.old id hid⟩
theorem Tl.tmp{h:A0}{lo z:Nat}{p:PV}{R:List (List PV)}(t:Tl h lo z p R)(o o':Ab):Tl (Ge h o o') lo z p R:=t.up (by rw[HL];omega) λj _ hj=>Gx hj
theorem Tl.cell{h:A0}{lo z:Nat}{p:PV}{R:List (List PV)}(t:Tl h lo z p R):p.cells=[p]/\CW p=true:=by
 rcases t with⟨_,rfl|rfl⟩|⟨_,_,_,rfl,_⟩<;>exact⟨rfl,rfl⟩
theorem Tl.mid{h:A0}{lo z:Nat}{p:PV}{R:List (List PV)}(t:Tl h lo z p R){id:Nat}(hid:id<lo)(o:Ab):Tl (h.set id o) lo z p R:=t.up (AD _) λj hj _=>by simp only[A0.set];rw[A4 (by omega)]
theorem Tl.frzR{h:A0}{id0 z:Nat}{p:PV}{rows:List (List PV)}(t:Tl h id0 z p rows){n:Nat}(hn:n<=id0)(hr:Cr n h rows rows):AF n h (.imm z rows) p:=by
 simp only[AF];rcases t with⟨h1,h2⟩|⟨id,h1,h2,rfl,ho⟩
 ·exact .inr (.inl ⟨h1,h2.symm⟩)
 ·refine .inr (.inr ⟨id,0,_,_,rfl,by omega,ho,by omega,?_⟩);rw[CB,DQ (by omega)];exact hr
theorem VX{h0 h H:A0}{lo z j:Nat}{p:PV}{R R2:List (List PV)}(t:Tl h0 lo z p R)(t1:Dc h p=some (H,R2))(hj:h0.next<=j):H.obj j=h.obj j:=by
 rcases t with⟨_,rfl|rfl⟩|⟨id,b1,b2,rfl,b3⟩
 ·simp only[Dc,Ak,Ar]at t1;rw[← t1.1]
 ·simp only[Dc,Ak,Ar]at t1;rw[← t1.1]
 ·unfold Dc at t1;simp only at t1;split at t1
  ·split at t1
   ·simp only[Ak,Ar]at t1;rw[← t1.1];exact F3 (by omega)
   ·cases t1
  ·cases t1
structure Iq(h:A0)(ir io lo zr zo zl:Nat)(Z pre post:List PV)(R:List (List PV))(h':A0):Prop where
 grow:AC h h'
 ids:h.next<=ir/\h.next<=io/\ir<lo/\io<lo/\lo<=h'.next/\ir≠io
 ores:h'.obj ir=some (.arr zr [Z])
 ex: ∃ p H,h'.obj io=some (.arr zo [pre++p::post])/\Tl h' lo zl p R/\Dc h' p=some (H,R)/\Cw h' zl p=true/\H.next=h'.next/\(∀ j,j<lo->H.obj j=h'.obj j)/\AC h H/\p.cells=[p]/\CW p=true
theorem Iq.mk2{h h':A0}{ir io lo zr zo zl:Nat}{Z pre post:List PV}{R:List (List PV)}{p:PV}(g:AC h h')(ids:h.next<=ir/\h.next<=io/\ir<lo/\io<lo/\lo<=h'.next/\ir≠io)(o1:h'.obj ir=some (.arr zr [Z]))(o2:h'.obj io=some (.arr zo [pre++p::post]))(tl:Tl h' lo zl p R):
  Iq h ir io lo zr zo zl Z pre post R h':=by
 obtain⟨H,t1,t2,t3,t4,t5⟩:=tl.tail;have hk:=t5 h ⟨g.le,g.old⟩ (by omega);exact⟨g,ids,o1,p,H,o2,tl,t1,t2,t3,t4,⟨hk.1,hk.2⟩,tl.cell.1,tl.cell.2⟩
theorem Iq.tmp{h h':A0}{ir io lo zr zo zl:Nat}{Z pre post:List PV}{R:List (List PV)}(i:Iq h ir io lo zr zo zl Z pre post R h')(o o':Ab):Iq h ir io lo zr zo zl Z pre post R (Ge h' o o'):=by
 obtain⟨g,ids,o1,p,H,o2,tl,_⟩:=i;exact .mk2 (g.tmp o o') ⟨ids.1,ids.2.1,ids.2.2.1,ids.2.2.2.1,by rw[HL];omega,ids.2.2.2.2.2⟩ (by rw[Gx (by omega)];exact o1) (by rw[Gx (by omega)];exact o2) (tl.tmp o o')
theorem Iq.push{h h' H:A0}{ir io lo zr zo zl m:Nat}{Z pre post:List PV}{R:List (List PV)}(X:List PV)(g:AC h H)(ids:h.next<=ir/\h.next<=io/\ir<lo/\io<lo/\lo<=h'.next/\ir≠io)(o1:h'.obj ir=some (.arr zr [Z]))(t3:H.next=h'.next)(t4: ∀ j,j<lo->H.obj j=h'.obj j)(hm:m=R.length+1):
  Iq h ir io lo zr zo zl Z pre post (R++[X]) ((H.new (.arr zl (R++[X]))).set io (.arr zo [pre++ .own h'.next 0 m::post])):=by
 obtain⟨i1,i2,i3,i4,i5,i6⟩:=ids;refine Iq.mk2 (p:= .own h'.next 0 m) ((g.new _).set i2 _) ⟨i1,i2,i3,i4,by simp only[A0.set,A0.new];omega,i6⟩ ?_ ?_ ?_
 ·simp only[A0.set,A0.new];rw[A4 i6,A4 (by omega),t4 _ i3];exact o1
 ·simp only[A0.set,AH]
 ·rw [← t3];have:Tl (H.new (.arr zl (R++[X]))) lo zl (.own H.next 0 m) (R++[X]):=Tl.grow (by omega) (by rw[hm];simp);exact this.up (AD _) (λj hj _=>by simp only[A0.set];rw[A4 (by omega)])
def Gv(X z:Nat)(R:List (List PV))(p q:PV):Prop:=p=q\/(p= .own X 0 R.length/\q= .imm z R)
def Fb(X z:Nat)(R:List (List PV)):List PV->List PV->Prop
 |[],[]=>True
 |p::ps,q::qs=>Gv X z R p q/\Fb X z R ps qs
 |_,_=>False
def Fc(X z:Nat)(R:List (List PV)):List (List PV)->List (List PV)->Prop
 |[],[]=>True
 |p::ps,q::qs=>Fb X z R p q/\Fc X z R ps qs
 |_,_=>False
theorem Fb.refl{X z:Nat}{R:List (List PV)}: ∀ l:List PV,Fb X z R l l
 |[]=>trivial
 |_::l=>⟨.inl rfl,Fb.refl l⟩
theorem Fc.snoc{X z:Nat}{R:List (List PV)}{r r':List PV}(h:Fb X z R r r'): ∀ l:List (List PV),Fc X z R (l++[r]) (l++[r'])
 |[]=>⟨h,trivial⟩
 |a::l=>⟨Fb.refl a,Fc.snoc h l⟩
theorem Fb.len{X z:Nat}{R:List (List PV)}: ∀ l l':List PV,Fb X z R l l'->l.length=l'.length
 |[],[],_=>rfl
 |[],_::_,h=>h.elim
 |_::_,[],h=>h.elim
 |_::l,_::l',h=>by simp only[Aw,Fb.len l l' h.2]
theorem Fc.len{X z:Nat}{R:List (List PV)}: ∀ l l':List (List PV),Fc X z R l l'->l.length=l'.length
 |[],[],_=>rfl
 |[],_::_,h=>h.elim
 |_::_,[],h=>h.elim
 |_::l,_::l',h=>by simp only[Aw,Fc.len l l' h.2]
section
variable {β:BH}{h:A0}{w:World}{X z:Nat}{R:List (List PV)}{F':Nat->Prop}
theorem Gv.rep(sm:Ay β h w)(hX:h.obj X=some (.arr z R))(mv:Mv β h.next (Fz β h w) w β h.next F' w)(hB: ∀ b,(β X).b=some b->F' b){p q:PV}{x:Value}(hg:Gv X z R p q)(hr:A8 β h.next (Fz β h w) w p x):A8 β h.next F' w q x:=by
 rcases hg with rfl|⟨rfl,rfl⟩
 ·exact A8.mv mv _ _ hr
 ·simp only[A8]at hr⊢;obtain⟨_,a,cap,rfl,h1,h2,h3⟩:=hr;refine⟨a,cap,rfl,h1,h2,?_⟩;rcases h3 with h3|⟨b,g1,g2,g3⟩
  ·exact .inl (GT (by omega))
  ·have hok:=sm.ok X _ hX;simp only[BI]at hok;obtain⟨hz,hok⟩:=hok;rcases hok with⟨k1,_⟩|⟨b',c,e,fr,k1,k2,k3,k4,k5,k6⟩
   ·rw [k1]at g1;cases g1
   ·rw [k1]at g1;simp only[Ak]at g1;subst g1;exact .inr ⟨b',_,hB b' k1,g2,by simpa using BF.mvb mv rfl z R _ k6⟩
theorem Fb.rep(sm:Ay β h w)(hX:h.obj X=some (.arr z R))(mv:Mv β h.next (Fz β h w) w β h.next F' w)(hB: ∀ b,(β X).b=some b->F' b): ∀ (l l':List PV)(b o:Nat),Fb X z R l l'->BY β h.next (Fz β h w) w l b o->BY β h.next F' w l' b o
 |[],[],_,_,_,_=>by simp only[BY]
 |[],_::_,_,_,h,_=>h.elim
 |_::_,[],_,_,h,_=>h.elim
 |p::l,q::l',b,o,hg,hr=>by
  simp only[BY]at hr⊢;obtain⟨⟨v,h1,h2,h3⟩,h4⟩:=hr;exact⟨⟨v,h1,h2,Gv.rep sm hX mv hB hg.1 h3⟩,Fb.rep sm hX mv hB l l' b (o+1) hg.2 h4⟩
theorem Fc.rep(sm:Ay β h w)(hX:h.obj X=some (.arr z R))(mv:Mv β h.next (Fz β h w) w β h.next F' w)(hB: ∀ b,(β X).b=some b->F' b)(zY:Nat): ∀ (l l':List (List PV))(b o:Nat),Fc X z R l l'->BF β h.next (Fz β h w) w zY l b o->BF β h.next F' w zY l' b o
 |[],[],_,_,_,_=>by simp only[BF]
 |[],_::_,_,_,h,_=>h.elim
 |_::_,[],_,_,h,_=>h.elim
 |p::l,q::l',b,o,hg,hr=>by
  simp only[BF]at hr⊢;obtain⟨⟨h1,h2⟩,h3⟩:=hr;exact⟨⟨by rw[← Fb.len _ _ hg.1];exact h1,Fb.rep sm hX mv hB p q b o hg.1 h2⟩,Fc.rep sm hX mv hB zY l l' b (o+zY) hg.2 h3⟩
end
def JL(h:A0)(X Y zY:Nat)(R':List (List PV)):A0:=(h.kill X).set Y (.arr zY R')
theorem Wk.give{s:A9}{h:A0}{X Y z zY:Nat}{R RY RY':List (List PV)}(hX:h.obj X=some (.arr z R))(hY:h.obj Y=some (.arr zY RY))(hne:X≠Y)(hg:Fc X z R RY RY'):Wk s h s (JL h X Y zY RY'):=by
 intro β w sm;have ho: ∀ j,(JL h X Y zY RY').obj j=if j=Y then some (.arr zY RY')else if j=X then none else h.obj j:=λj=>rfl
 have hsome: ∀ id,((JL h X Y zY RY').obj id).isSome=true->id≠X/\(h.obj id).isSome=true:=λid hid=>by
  rw[ho]at hid;split at hid
  ·rename_i e;subst e;exact⟨λe=>hne e.symm,by rw[hY];try rfl⟩
  ·split at hid
   ·simp at hid
   ·exact ⟨by assumption,hid⟩
 have hF: ∀ b,Fz β h w b->Fz β (JL h X Y zY RY') w b:=λb hb=>⟨hb.1,λid hid=>hb.2.1 id (hsome id hid).2,hb.2.2⟩;have hsX:(h.obj X).isSome=true:=by rw[hX];try rfl
 have hB: ∀ b,(β X).b=some b->Fz β (JL h X Y zY RY') w b:=λb hb=>
  ⟨sm.blk_lt hX hb,λj hj hjb=>(hsome j hj).1 (sm.inj j X (hsome j hj).2 hsX b hjb hb),sm.nx X hsX b hb⟩
 have mv:Mv β h.next (Fz β h w) w β h.next (Fz β (JL h X Y zY RY') w) w:=⟨AD _,λ_ _ _=>rfl,λb hb=>⟨hF b hb,rfl⟩⟩
 refine⟨⟨λid hid=>sm.lt id (hsome id hid).2,λid o hoo=>?_,λi j hi hj=>sm.inj i j (hsome i hi).2 (hsome j hj).2,sm.xs,λid hid=>sm.nx id (hsome id hid).2⟩,
  ⟨rfl,rfl,rfl,AD _,AD _,λ_ _=>rfl,rfl,λ_ _ _=>rfl,λb hb=>⟨hF b hb,rfl⟩⟩,λt x hr=>A8.mv mv _ _ hr⟩
 rw[ho]at hoo;split at hoo
 ·rename_i e;subst e;simp only[Ak]at hoo;subst hoo;have hok:=sm.ok id _ hY;simp only[BI]at hok⊢;refine⟨hok.1,?_⟩;rcases hok.2 with⟨k1,k2⟩|⟨b,c,e,fr,k1,k2,k3,k4,k5,k6⟩
  ·left;refine⟨k1,?_⟩;have:=hg.len;rw[k2]at this;exact GT this.symm
  ·exact .inr ⟨b,c,e,fr,k1,k2,k3,by rw[← hg.len];exact k4,k5,Fc.rep sm hX mv hB zY RY RY' b _ hg k6⟩
 ·split at hoo
  ·cases hoo
  ·exact BI.mv mv (λ_ _=>rfl) (sm.ok id o hoo)
theorem Rw{P:Program}{ow:Nat->Bool}{wf:FuncId->Bool}{m:Nat}{c:Code}{Q:BA}{s:A9}{h:A0}{X Y z zY:Nat}{R RY:List (List PV)}(RY':List (List PV))(hc:KR c=true)(hX:h.obj X=some (.arr z R))(hY:h.obj Y=some (.arr zY RY))(hne:X≠Y)(hg:Fc X z R RY RY')
  (hw:Ad P ow wf m c Q s (JL h X Y zY RY')):Ad P ow wf m c Q s h:=UF hc (Wk.give hX hY hne hg) hw
def VY(h:A0)(ir io lo zr zo zl:Nat)(Z pre post:List PV)(R':List (List PV))(H:A0):Prop:=
 ∃ X Y z RX R,AC h H/\(h.next<=ir/\h.next<=io/\ir<lo/\io<lo/\lo<=H.next/\ir≠io)/\H.obj ir=some (.arr zr [Z])/\H.obj io=some (.arr zo [pre++ .own Y 0 R.length::post])/\
  H.obj Y=some (.arr zl R)/\H.obj X=some (.arr z RX)/\X≠Y/\lo<=X/\lo<=Y/\Y<H.next/\Fc X z RX R R'
theorem VY.push{h H3:A0}{ir io lo zr zo zl X Y z m:Nat}{Z pre post r r':List PV}{RX R R':List (List PV)}(g:AC h H3)(ids:h.next<=ir/\h.next<=io/\ir<lo/\io<lo/\lo<=H3.next/\ir≠io)(o1:H3.obj ir=some (.arr zr [Z]))(oX:H3.obj X=some (.arr z RX))(hx:lo<=X)(hxn:X<H3.next)
  (hY:H3.next=Y)(hm:m=R.length+1)(hr:R'=R++[r'])(hg:Fb X z RX r r'):VY h ir io lo zr zo zl Z pre post R' ((H3.new (.arr zl (R++[r]))).set io (.arr zo [pre++ .own Y 0 m::post])):=by
 subst hY;subst hr;obtain⟨i1,i2,i3,i4,i5,i6⟩:=ids;refine⟨X,H3.next,z,RX,R++[r],(g.new _).set i2 _,⟨i1,i2,i3,i4,show lo<=H3.next+1 by omega,i6⟩,?_,?_,?_,?_,by omega,hx,i5,show H3.next<H3.next+1 by omega,Fc.snoc hg R⟩
 ·rw [Av i6,DS (by omega)];exact o1
 ·rw [Cy,hm];simp
 ·rw [Av (by omega)];simp only[A0.new,AH]
 ·rw [Av (by omega),DS hxn];exact oX
theorem Tl.old{h H:A0}{lo z:Nat}{p:PV}{R:List (List PV)}(t:Tl h lo z p R)(g:AC h H):Tl H lo z p R:=t.up g.le λj _ hj=>g.old j hj
theorem Iq.up{h H H':A0}{ir io lo zr zo zl:Nat}{Z pre post:List PV}{R:List (List PV)}(i:Iq h ir io lo zr zo zl Z pre post R H)(g:AC H H'):Iq h ir io lo zr zo zl Z pre post R H':=by
 obtain⟨g0,ids,o1,p,Hk,o2,tl,_⟩:=i;exact .mk2 (g0.trans g) ⟨ids.1,ids.2.1,ids.2.2.1,ids.2.2.2.1,EE ids.2.2.2.2.1 g.le,ids.2.2.2.2.2⟩ (by rw[g.old _ (by omega)];exact o1) (by rw[g.old _ (by omega)];exact o2) (tl.old g)
structure Kg(h:A0)(io lo zo zl:Nat)(pre post:List PV)(R:List (List PV))(H:A0):Prop where
 grow:AC h H
 ids:h.next<=io/\h.next<=lo/\io<H.next
 ex: ∃ p Hk,H.obj io=some (.arr zo [pre++p::post])/\Tl H lo zl p R/\Dc H p=some (Hk,R)/\Cw H zl p=true/\Hk.next=H.next/\Hk.obj io=H.obj io/\AC h Hk/\p.cells=[p]/\CW p=true
theorem Kg.mk2{h H:A0}{io lo zo zl:Nat}{pre post:List PV}{R:List (List PV)}{p:PV}(g:AC h H)(ids:h.next<=io/\h.next<=lo/\io<H.next)(o2:H.obj io=some (.arr zo [pre++p::post]))(tl:Tl H lo zl p R)(sep: ∀ id,p= .own id 0 R.length->id≠io):
  Kg h io lo zo zl pre post R H:=by
 obtain⟨Hk,t1,t2,t3,t4,t5⟩:=tl.tail;have hk:=t5 h ⟨g.le,g.old⟩ ids.2.1;refine⟨g,ids,p,Hk,o2,tl,t1,t2,t3,?_,⟨hk.1,hk.2⟩,tl.cell.1,tl.cell.2⟩;rcases tl with⟨_,rfl|rfl⟩|⟨id,b1,b2,rfl,b3⟩
 ·simp only[Dc,Ak,Ar]at t1;rw[← t1.1]
 ·simp only[Dc,Ak,Ar]at t1;rw[← t1.1]
 ·have:=sep id rfl;simp only[Dc,b3]at t1;split at t1
  ·simp only[Ak,Ar]at t1;rw[← t1.1];exact F3 (by omega)
  ·cases t1
theorem Kg.tmp{h H:A0}{io lo zo zl:Nat}{pre post:List PV}{R:List (List PV)}(i:Kg h io lo zo zl pre post R H)(o o':Ab):Kg h io lo zo zl pre post R (Ge H o o'):=by
 obtain⟨g,ids,p,Hk,o2,tl,t1,t2,t3,t4,t5,t6,t7⟩:=i;refine .mk2 (p:=p) (g.tmp o o') ⟨ids.1,ids.2.1,by rw[HL];omega⟩ (by rw[Gx ids.2.2];exact o2) (tl.tmp o o') ?_;rintro id rfl;rintro rfl;rcases tl with⟨_,h1|h1⟩|⟨id,b1,b2,h1,b3⟩
 ·cases h1
 ·cases h1
 ·simp only[PV.own.injEq]at h1;obtain⟨rfl,_⟩:=h1;simp only[Dc,b3]at t1;split at t1
  ·simp only[Ak,Ar]at t1;rw[← t1.1]at t4;simp only[A0.kill,AH]at t4;rw[o2]at t4;cases t4
  ·cases t1
theorem Kg.push{h H Hk:A0}{io lo zo zl m:Nat}{pre post:List PV}{R:List (List PV)}(X:List PV)(g:AC h Hk)(ids:h.next<=io/\h.next<=lo/\io<H.next)(hlo:lo<=H.next)(t3:Hk.next=H.next)(hm:m=R.length+1):
  Kg h io lo zo zl pre post (R++[X]) ((Hk.new (.arr zl (R++[X]))).set io (.arr zo [pre++ .own H.next 0 m::post])):=by
 refine Kg.mk2 (p:= .own H.next 0 m) ((g.new _).set ids.1 _) ⟨ids.1,ids.2.1,show io<Hk.next+1 by omega⟩ Cy ?_ ?_
 ·rw [← t3];exact .inr ⟨Hk.next,by omega,YM _,by rw[hm];simp,by rw[Av (by omega)];simp only[A0.new,AH]⟩
 ·intro id he;simp only[PV.own.injEq]at he;omega
theorem VZ{h H:A0}(g:AC h H):AC h (Ed h.next H):=⟨g.le,λj hj=>by simp only[Ed];rw[AG hj];exact g.old j hj⟩
end Go.AM
namespace Go.Proofs.YtblgchkahpgdjaaGreat
open Go.AM Go.Proofs.Tryz
theorem Pn{P:Program}{ow:Nat->Bool}{wf:FuncId->Bool}{n:Nat}{Q:BA}{s:A9}{h:A0}(id:Nat){ops:Array Oper}{d:Bool}(hh:VC (Ad P ow wf n (.region id ops d) Q s h)):Ad P ow wf n (.region id ops d) Q s h:=hh.out
end Go.Proofs.YtblgchkahpgdjaaGreat
namespace Go.AM
open Go.ChangeShapes Go.WideShapes
def HM(P:Program)(t:TypeId):List (Nat × TypeId):=match P.underlying t with
 |some (.struct fs)=>fs.toList.map λf=>(f.offset,f.type)
 |some (.array n e)=>(List.range n).map λi=>(i*P.cellsOf e,e)
 |_=>[]
def Ju(P:Program)(e:Nat):Nat->List (Nat × TypeId)->Bool
 |o,[]=>o==e
 |o,p::l=>p.1==o&&Ju P e (o+P.cellsOf p.2) l
def DT(P:Program):Nat->TypeId->List PV->Prop
 |0,_,_=>False
 |f+1,t,ps=>match P.underlying t with
  |some .bool=> ∃ b,ps=[.sc (.bool b)]
  |some (.int k)=> ∃ n,(Lit.int k n).wf=true/\ps=[.sc (.int k n)]
  |some .string=> ∃ s:ByteArray,s.size<=reachBytes/\ps=[.sc (.string s)]
  |some (.slice e)=> ∃ rows,ps=[.imm (P.cellsOf e) rows]/\rows.length*P.bytesOf e<=reachBytes/\rows.length<=maxLen/\ ∀ r∈rows,r.length=P.cellsOf e/\DT P f e r
  |some (.struct _)=>ps.length=P.cellsOf t/\ ∀ p∈HM P t,DT P f p.2 ((ps.drop p.1).take (P.cellsOf p.2))
  |some (.array _ _)=>ps.length=P.cellsOf t/\ ∀ p∈HM P t,DT P f p.2 ((ps.drop p.1).take (P.cellsOf p.2))
  |_=>False
section
variable {H:Type}{enc:TypeId × Value->H}{P:Program}{w:World}{sp:Nat->Bool}{held:Bool}
def RA(w:World)(ps:List PV)(cs:List Value):Prop:=(∀ v∈cs,v.oneCell'=true)/\ ∀ β n,AS β n (λb=>b<w.heap.size) w ps cs
theorem RA.len{ps:List PV}{cs:List Value}(h:RA w ps cs):ps.length=cs.length:=(h.2 ⟨λ_=>⟨none,0,0,0⟩,λ_=>False⟩ 0).len
theorem RA.append{ps ps':List PV}{cs cs':List Value}(h:RA w ps cs)(k:RA w ps' cs'):RA w (ps++ps') (cs++cs'):=
 ⟨λv hv=>by exact(DY.1 hv).elim (h.1 v) (k.1 v),λβ n=>(h.2 β n).append (k.2 β n)⟩
theorem Rx{e:Nat}:(l:List (Nat × TypeId))->(o:Nat)->Ju P e o l=true->o<=e/\ ∀ p∈l,o<=p.1/\p.1+P.cellsOf p.2<=e
 |[],o,h=>by simp[Ju]at h;simp[h]
 |p::l,o,h=>by
  simp only[Ju,AR,Dv]at h;obtain⟨h1,h2⟩:=Rx l _ h.2;refine⟨by omega,λq hq=>?_⟩;rcases D7.1 hq with rfl|hq
  ·omega
  ·have:=h2 q hq;omega
theorem Ry{c:Nat}{cs:List Value}:(l:List (Nat × TypeId))->(o:Nat)->Ju P cs.length o l=true->
  (∀ p∈l, ∃ ps,DT P c p.2 ps/\RA w ps ((cs.drop p.1).take (P.cellsOf p.2)))->
  ∃ ps,RA w ps (cs.drop o)/\ ∀ p∈l,DT P c p.2 ((ps.drop (p.1-o)).take (P.cellsOf p.2))
 |[],o,h,_=>by
  simp[Ju]at h;refine⟨[],⟨?_,λβ n=>?_⟩,by simp⟩
  ·rw [mJ (by omega)];simp
  ·rw [mJ (by omega)];simp[AS]
 |p::l,o,h,hp=>by
  have hle:=(Rx (p::l) o h).2 p (by simp);simp only[Ju,AR,Dv]at h;obtain⟨ps,h1,h2⟩:=Ry l _ h.2 (λq hq=>hp q (by simp[hq]));obtain⟨ps0,h3,h4⟩:=hp p (by simp);have hl2:=(Rx l _ h.2).2;have e0:p.1=o:=h.1;have l0:ps0.length=P.cellsOf p.2:=by rw[h4.len,HX,KC];omega
  refine⟨ps0++ps,?_,λq hq=>?_⟩
  ·have:cs.drop o=(cs.drop p.1).take (P.cellsOf p.2)++cs.drop (o+P.cellsOf p.2):=by
    rw[e0, ← T6,mA]
   rw[this];exact h4.append h1
  ·rcases D7.1 hq with rfl|hq
   ·rw [e0,LD,CB,List.take_append_of_le_length (by omega),DQ (by omega)];exact h3
   ·have h5:=hl2 q hq;have:q.1-o=ps0.length+(q.1-(o+P.cellsOf p.2)):=(by omega);rw[this, ← T6,List.drop_left];exact h2 q hq
theorem Va{α:Type}{R:Nat->α->Prop}:(n:Nat)->(∀ i,i<n-> ∃ x,R i x)-> ∃ l:List α,l.length=n/\ ∀ i x,l[i]? =some x->R i x
 |0,_=>⟨[],rfl,by simp⟩
 |n+1,h=>by
  obtain⟨l,h1,h2⟩:=Va n (λi hi=>h i (by omega));obtain⟨x,hx⟩:=h n (by omega);refine⟨l++[x],by simp[h1],λi y hy=>?_⟩;rw[NA]at hy;split at hy
  ·exact h2 i y hy
  ·rename_i hi;have:i=n:=by
    have:=(BC.1 hy).1;simp at this;omega
   subst this;rw[h1]at hy;simp at hy;subst hy;exact hx
theorem Rz{e:TypeId}{n:Nat}:{ds:List (DataW H)}->{i:Nat}->{d:DataW H}->ds[i]? =some d->n∈d.weights P e->n∈DataW.weightsAll P e ds
 |[],_,_,h,_=>by simp at h
 |d0::ds,0,d,h,hn=>by
  simp at h;subst h;simp only[DataW.weightsAll,DY];exact .inl hn
 |d0::ds,i+1,d,h,hn=>by
  simp at h;simp only[DataW.weightsAll,DY];exact .inr (Rz h hn)
theorem S0{v:Value}(h:v.oneCell'=true):RA w [.sc v] [v]:=
 ⟨λu hu=>by simp at hu;subst hu;exact h,λβ n=>by simp only[AS,A8];exact⟨trivial,trivial⟩⟩
end
end Go.AM
namespace Go.AM
open Go.ChangeShapes Go.WideShapes
section
variable {H:Type}{enc:TypeId × Value->H}{P:Program}{w:World}{sp:Nat->Bool}{held:Bool}
def Vb(P:Program)(Ts:List TypeId):Bool:=Ts.all λt=>match P.underlying t with
 |some .bool=>true
 |some (.int _)=>true
 |some .string=>true
 |some (.slice e)=>decide (0<P.cellsOf e)&&Ts.contains e
 |some (.struct _)=>Ju P (P.cellsOf t) 0 (HM P t)&&(HM P t).all λp=>Ts.contains p.2
 |some (.array _ _)=>Ju P (P.cellsOf t) 0 (HM P t)&&(HM P t).all λp=>Ts.contains p.2
 |_=>false
theorem Po{Ts:List TypeId}(hT:Vb P Ts=true): ∀ (fuel:Nat)(t:TypeId),Ts.contains t=true-> ∀ (cs:List Value)(x:DataW H × List MemPlace),DataW.trod enc P w 0 sp held fuel t cs=some x->(∀ n∈x.1.weights P t,n<=reachBytes)->
  ∃ ps,DT P fuel t ps/\RA w ps cs
 |0,_,_,_,_,hx,_=>by simp[DataW.trod]at hx
 |c+1,t,ht,cs,x,hx,hw=>by
  have h:=Bq.1 hT t (by simpa using ht);split at h
  ·rename_i hu;obtain⟨b,rfl,rfl⟩:=DataW.trod_bool hu hx;refine⟨[.sc (.bool b)],?_,S0 rfl⟩;unfold DT;rw[hu];exact⟨b,rfl⟩
  ·rename_i k hu;obtain⟨n,rfl,rfl,hwf⟩:=DataW.trod_int hu hx;refine⟨[.sc (.int k n)],?_,S0 rfl⟩;unfold DT;rw[hu];exact⟨n,hwf,rfl⟩
  ·rename_i hu;obtain⟨s,rfl,rfl,hs⟩:=DataW.trod_string hu hx;refine⟨[.sc (.string s)],?_,S0 rfl⟩;unfold DT;rw[hu];refine⟨s,?_,rfl⟩;have:=hw s.data.toList.length (by simp[DataW.weights]);simpa using this
  ·rename_i e hu;simp only[AR,BP]at h;obtain⟨hpos,hcov⟩:=h;rcases DataW.trod_slice hu hx with⟨rfl,rfl⟩|⟨a,len,cap,elems,rest,n,hfu,rfl,rfl,hb,hl,hm,hlen,hel,hsp,hns⟩
   ·refine ⟨[.imm (P.cellsOf e) []],?_,λv hv=>?_,λβ n=>?_⟩
    ·unfold DT;rw[hu];exact⟨[],rfl,by simp,by simp,by simp⟩
    ·simp at hv;subst hv;rfl
    ·simp only[AS,A8];exact⟨⟨none,0,rfl,AD _,Bx _,.inl (by trivial)⟩,trivial⟩
   ·obtain rfl:c=n:=(by omega);have each: ∀ i,i<len-> ∃ r:List PV,(r.length=P.cellsOf e/\DT P c e r)/\ ∃ ci,RA w r ci/\ci.length=P.cellsOf e/\ ∀ j,j<P.cellsOf e->w.cell? ((a.add (i*P.cellsOf e)).add j)=ci[j]?:=by
     intro i hi;have h1:=hel i hi;have h2:elems[i]? =some (elems[i]'(by omega)):=AU _;rw[h2,KJ]at h1;obtain⟨ci,h3,h4⟩:=h1;obtain⟨_,h5,h6⟩:=World.cells?_some h3;obtain⟨r,h7,h8⟩:=Po hT c e hcov ci _ h4 (λm hm=>hw m (by
      simp only[DataW.weights,hu,D7,DY];exact .inr (.inl (Rz (i:=i) (by rw[IY,h2];try rfl) hm))))
     exact⟨r,⟨by rw[h8.len,h5],h7⟩,ci,h8,h5,h6⟩
    obtain⟨rows,hrl,hrows⟩:=Va len each;refine⟨[.imm (P.cellsOf e) rows],?_,λv hv=>?_,λβ m=>?_⟩
    ·unfold DT;rw[hu];refine⟨rows,rfl,?_,by omega,λr hr=>?_⟩
     ·have:=hw ((elems.map (·.1)).length*P.bytesOf e+(rest.map (·.1)).length*P.bytesOf e) (by
       simp only[DataW.weights,hu,D7,L4,true_or])
      have h9:rows.length=(elems.map (·.1)).length:=(by simp[hrl,hlen]);rw[h9];exact EE (Oh _ _) this
     ·obtain ⟨i,hi⟩:=MF hr;exact(hrows i r hi).1
    ·simp at hv;subst hv;rfl
    ·simp only[AS,A8];refine⟨⟨some a,cap,by rw[hrl],by omega,hm,?_⟩,trivial⟩;by_cases h0:len=0
     ·left;exact J6.1 (by omega)
     ·right;obtain⟨_,_,c0,_,hc0,hcell0⟩:=each 0 (by omega);have h10:=hcell0 0 hpos;rw[AU (by omega)]at h10;simp only[Nat.zero_mul,Addr.add,AH]at h10;have hs:a.spot=none:=by
       unfold World.cell? at h10;split at h10
       ·split at h10
        ·simp at h10
        ·rename_i hsp;simpa using hsp
       ·simp at h10
      have hblk:a.block<w.heap.size:=by
       unfold World.cell? at h10;split at h10
       ·rename_i hh;exact(J4.1 hh).1
       ·simp at h10
      refine⟨a.block,a.off,hblk,by cases a;simp only at hs;subst hs;rfl,?_⟩;rw[Hc];intro i r hr;obtain⟨⟨g1,_⟩,ci,g2,g3,g4⟩:=hrows i r hr;refine⟨g1,?_⟩;rw[Hb];intro j p hp;obtain⟨v,hv,hrep⟩:=(g2.2 β m).get hp;have hj:j<P.cellsOf e:=(by rw[← g3];exact(BC.1 hv).1);refine⟨v,?_,g2.1 v (C7 hv),hrep⟩;rw[← hv, ← g4 j hj];congr 1;cases a;simp only at hs;subst hs;simp only[Addr.add];split<;>split<;>simp_all<;>omega
  ·rename_i fs hu;simp only[AR,Bq]at h;obtain⟨xs,n,hfu,rfl,hcl,hxl,hp⟩:=DataW.trod_struct hu hx;obtain rfl:c=n:=(by omega);have hpt:HM P t=fs.toList.map λf=>(f.offset,f.type):=(by unfold HM;rw[hu]);obtain⟨ps,h1,h2⟩:=Ry (w:=w) (c:=c) (cs:=cs) (HM P t) 0 (by rw[hcl];exact h.1) (λp hpm=>by
    have hcv:=h.2 p hpm;rw[hpt]at hpm;obtain⟨i,hi⟩:=MF hpm;rw[IY,Dt]at hi;obtain⟨f,hf,rfl⟩:=hi;have hf':fs[i]? =some f:=(by simpa using hf);have hi':i<xs.length:=by
     rw[hxl];exact(J4.1 hf').1
    have h3:=hp i f hf';rw[AU hi']at h3;exact Po hT c f.type hcv _ _ h3 (λm hm=>hw m (by
     simp only[DataW.weights,hu];exact DataW.weights_mem_each (j:=i) (t:=f.type) (d:=xs[i].1) (by rw[IY,hf];try rfl) (by rw[IY,AU hi'];try rfl) m hm)))
   refine⟨ps,?_,by simpa using h1⟩;unfold DT;rw[hu];exact⟨by rw[h1.len,CB,hcl],λp hpm=>by simpa using h2 p hpm⟩
  ·rename_i k e hu;simp only[AR,Bq]at h;obtain⟨xs,n,hfu,rfl,hcl,hxl,hp⟩:=DataW.trod_array hu hx;obtain rfl:c=n:=(by omega);have hpt:HM P t=(List.range k).map λi=>(i*P.cellsOf e,e):=(by unfold HM;rw[hu]);obtain⟨ps,h1,h2⟩:=Ry (w:=w) (c:=c) (cs:=cs) (HM P t) 0 (by rw[hcl];exact h.1) (λp hpm=>by
    have hcv:=h.2 p hpm;rw[hpt]at hpm;obtain⟨i,hi,rfl⟩:=Er.1 hpm;have hi':i<xs.length:=(by rw[hxl];simpa using hi);have h3:=hp i (by simpa using hi);rw[AU hi']at h3;exact Po hT c e hcv _ _ h3 (λm hm=>hw m (by
     simp only[DataW.weights,hu];exact Rz (i:=i) (d:=xs[i].1) (by rw[IY,AU hi'];try rfl) hm)))
   refine⟨ps,?_,by simpa using h1⟩;unfold DT;rw[hu];exact⟨by rw[h1.len,CB,hcl],λp hpm=>by simpa using h2 p hpm⟩
  ·simp at h
theorem gI{Ts:List TypeId}(hT:Vb P Ts=true){t:TypeId}(ht:Ts.contains t=true){fs:Array Field}(hu:P.underlying t=some (.struct fs)){v:Value}{d:DataW H}{pl:List MemPlace}
  (h:DataW.Trod enc P w 0 sp held t v d pl)(hv: ∃ base,Value.okWide P w .any base t v)(hw: ∀ n∈d.weights P t,n<=reachBytes):
  ∃ c ps,DT P c t ps/\ ∀ β n,A8 β n (λb=>b<w.heap.size) w (.agg ps) v:=by
 obtain⟨fuel,hf⟩:=h;obtain⟨ps,h1,h2⟩:=Po hT fuel t ht _ _ hf hw;obtain⟨base,hv⟩:=hv;unfold Value.okWide at hv;simp only[hu]at hv;obtain⟨cs,rfl,_⟩:=hv;refine⟨fuel,ps,h1,λβ n=>?_⟩;simp only[A8];exact⟨cs.toList,by simp,h2.1,h2.2 β n⟩
end
end Go.AM
namespace Go.AM
open Go.ChangeShapes Go.WideShapes
section
variable {P:Program}{c:Nat}{t e:TypeId}{ps:List PV}{a:PV}
theorem gJ{k:IntKind}(hu:P.underlying t=some (.int k))(h:DT P (c+1) t ps): ∃ n,(Lit.int k n).wf=true/\ps=[.sc (.int k n)]:=by
 unfold DT at h;rw[hu]at h;exact h
theorem gK(hu:P.underlying t=some (.slice e))(h:DT P (c+1) t ps): ∃ rows,ps=[.imm (P.cellsOf e) rows]/\rows.length*P.bytesOf e<=reachBytes/\rows.length<=maxLen/\ ∀ r∈rows,r.length=P.cellsOf e/\DT P c e r:=by
 unfold DT at h;rw[hu]at h;exact h
theorem gM{fs:Array Field}(hu:P.underlying t=some (.struct fs))(h:DT P (c+1) t ps):ps.length=P.cellsOf t/\ ∀ p∈HM P t,DT P c p.2 ((ps.drop p.1).take (P.cellsOf p.2)):=by
 unfold DT at h;rw[hu]at h;exact h
theorem Vc{α:Type}{Q:α->Prop}{f:α->List PV}:(rows:List (List PV))->(∀ r∈rows, ∃ x,Q x/\r=f x)-> ∃ xs:List α,rows=xs.map f/\ ∀ x∈xs,Q x
 |[],_=>⟨[],rfl,by simp⟩
 |r::rows,h=>by
  obtain⟨xs,h1,h2⟩:=Vc rows (λq hq=>h q (by simp[hq]));obtain⟨x,h3,h4⟩:=h r (by simp);refine⟨x::xs,by simp[h1,h4],λy hy=>?_⟩;rcases D7.1 hy with rfl|hy
  ·exact h3
  ·exact h2 y hy
theorem gN{n:Int}(h:(Lit.int .i64 n).wf=true): -9223372036854775808<=n/\n<=9223372036854775807:=by
 simp[Lit.wf,IntKind.min,IntKind.max,IntKind.bits,IntKind.signed]at h;omega
end
end Go.AM
namespace Go.Proofs.YtblgchkahpgdjaaGreat
open Go.AM Go.Proofs.Tryz
set_option maxHeartbeats 2000000
set_option maxRecDepth 20000
theorem Hl(a:ByteArray):A1 a a=true:=by simp[A1]
theorem Mn: ∀ l:List ByteArray,Ee l l=true
 |[]=>rfl
 |a::l=>by simp[Ee,Hl,Mn l]
theorem JM: ∀ l:List Pm,DL l l=true
 |[]=>rfl
 |a::l=>by simp[DL,PL,Hl,JM l]
theorem S1: ∀ {l:List Ex},(∀ e∈l,e.same e=true)->Ex.sames l l=true
 |[],_=>rfl
 |a::l,h=>by rw[Ex.sames,h a (KF ..),S1 (l:=l) λe he=>h e (Gm _ he)];try rfl
theorem Vd: ∀ e:Ex,e.same e=true:=by
 refine Ex.ind ?_;intro op name n args kids ih;simp only[Ex.same,Hl,Mn,S1 ih,D8,Cc]
theorem Ve: ∀ {l:List Fm},(∀ e∈l,e.same e=true)->Fm.sames l l=true
 |[],_=>rfl
 |a::l,h=>by rw[Fm.sames,h a (KF ..),Ve (l:=l) λe he=>h e (Gm _ he)];try rfl
theorem S2: ∀ f:Fm,f.same f=true:=by
 refine Fm.ind ?_;intro op name args params exprs kids ih;simp only[Fm.same,Hl,Mn,JM,S1 (λe _=>Vd e),Ve ih,Cc]
end Go.Proofs.YtblgchkahpgdjaaGreat
namespace Go.AM
def Ch.same(a b:Ch):Bool:=(a.kind==b.kind)&&(DL a.params b.params&&(a.cond.same b.cond&&(A1 a.name b.name&&(Ee a.args b.args&&a.value.same b.value))))
def Pr.same(a b:Pr):Bool:=A1 a.name b.name&&DL a.params b.params
def Fu.same(a b:Fu):Bool:=A1 a.name b.name&&(DL a.params b.params&&((a.lo==b.lo)&&(a.hi==b.hi)))
def GH:List Ch->List Ch->Bool
 |[],[]=>true
 |a::l,b::m=>a.same b&&GH l m
 |_,_=>false
theorem Vf: ∀ {l m:List Ch},¬ l.length=m.length->GH l m=false
 |[],[],h=>by simp at h
 |[],_::_,_=>rfl
 |_::_,[],_=>rfl
 |a::l,b::m,h=>by simp only[GH,Vf (l:=l) (m:=m) (by simpa using h),BD]
def Hm:List Pr->List Pr->Bool
 |[],[]=>true
 |a::l,b::m=>a.same b&&Hm l m
 |_,_=>false
theorem Vg: ∀ {l m:List Pr},¬ l.length=m.length->Hm l m=false
 |[],[],h=>by simp at h
 |[],_::_,_=>rfl
 |_::_,[],_=>rfl
 |a::l,b::m,h=>by simp only[Hm,Vg (l:=l) (m:=m) (by simpa using h),BD]
def Hn:List Fu->List Fu->Bool
 |[],[]=>true
 |a::l,b::m=>a.same b&&Hn l m
 |_,_=>false
theorem Vh: ∀ {l m:List Fu},¬ l.length=m.length->Hn l m=false
 |[],[],h=>by simp at h
 |[],_::_,_=>rfl
 |_::_,[],_=>rfl
 |a::l,b::m,h=>by simp only[Hn,Vh (l:=l) (m:=m) (by simpa using h),BD]
def Ac.same(a b:Ac):Bool:=A1 a.name b.name&&(DL a.params b.params&&((a.cost==b.cost)&&(a.pre.same b.pre&&GH a.changes b.changes)))
def Du.same(a b:Du):Bool:=A1 a.name b.name&&(DL a.params b.params&&((a.duration==b.duration)&&(a.start.same b.start&&(a.over.same b.over&&(a.stop.same b.stop&&(GH a.atStart b.atStart&&GH a.atStop b.atStop))))))
def Ho:List Ac->List Ac->Bool
 |[],[]=>true
 |a::l,b::m=>a.same b&&Ho l m
 |_,_=>false
theorem Vi: ∀ {l m:List Ac},¬ l.length=m.length->Ho l m=false
 |[],[],h=>by simp at h
 |[],_::_,_=>rfl
 |_::_,[],_=>rfl
 |a::l,b::m,h=>by simp only[Ho,Vi (l:=l) (m:=m) (by simpa using h),BD]
def Hp:List Du->List Du->Bool
 |[],[]=>true
 |a::l,b::m=>a.same b&&Hp l m
 |_,_=>false
theorem Vj: ∀ {l m:List Du},¬ l.length=m.length->Hp l m=false
 |[],[],h=>by simp at h
 |[],_::_,_=>rfl
 |_::_,[],_=>rfl
 |a::l,b::m,h=>by simp only[Hp,Vj (l:=l) (m:=m) (by simpa using h),BD]
def Dm.same(a b:Dm):Bool:=A1 a.name b.name&&(DL a.types b.types&&(DL a.constants b.constants&&(Hm a.predicates b.predicates&&(Hn a.functions b.functions&&(Ho a.actions b.actions&&Hp a.duratives b.duratives)))))
end Go.AM
namespace Go.Proofs.YtblgchkahpgdjaaGreat
open Go.AM Go.Proofs.Tryz
theorem gO(a:Ch):a.same a=true:=by simp[Ch.same,JM,S2,Hl,Mn,Vd]
theorem gP(a:Pr):a.same a=true:=by simp[Pr.same,JM,Hl]
theorem gQ(a:Fu):a.same a=true:=by simp[Fu.same,JM,Hl]
theorem S3: ∀ l:List Ch,GH l l=true
 |[]=>rfl
 |a::l=>by simp[GH,gO,S3 l]
theorem Vk: ∀ l:List Pr,Hm l l=true
 |[]=>rfl
 |a::l=>by simp[Hm,gP,Vk l]
theorem Vm: ∀ l:List Fu,Hn l l=true
 |[]=>rfl
 |a::l=>by simp[Hn,gQ,Vm l]
theorem gR(a:Ac):a.same a=true:=by simp[Ac.same,JM,S2,Hl,S3]
theorem gT(a:Du):a.same a=true:=by simp[Du.same,JM,S2,Hl,S3]
theorem Vn: ∀ l:List Ac,Ho l l=true
 |[]=>rfl
 |a::l=>by simp[Ho,gR,Vn l]
theorem Vo: ∀ l:List Du,Hp l l=true
 |[]=>rfl
 |a::l=>by simp[Hp,gT,Vo l]
theorem gU(a:Dm):a.same a=true:=by simp[Dm.same,JM,Hl,Vk,Vm,Vn,Vo]
end Go.Proofs.YtblgchkahpgdjaaGreat
namespace Go.AM
def Vp(q p:PV):Prop:=q=p\/(q= .sc (.slice none 0 0)/\ ∃ z,p= .imm z [])
def Hq:List PV->List PV->Prop
 |[],[]=>True
 |q::qs,p::ps=>Vp q p/\Hq qs ps
 |_,_=>False
theorem A8.nil1{β:BH}{n:Nat}{F:Nat->Prop}{w:World}{q p:PV}{x:Value}(hq:Vp q p)(h:A8 β n F w q x):A8 β n F w p x:=by
 rcases hq with rfl|⟨rfl,z,rfl⟩
 ·exact h
 ·simp only[A8]at h⊢;exact⟨none,0,h,AD _,Bx _,.inl (by trivial)⟩
theorem AS.nilL{β:BH}{n:Nat}{F:Nat->Prop}{w:World}: ∀ {qs ps:List PV}{xs:List Value},Hq qs ps->AS β n F w qs xs->AS β n F w ps xs
 |[],[],[],_,_=>by simp only[AS]
 |[],[],_::_,_,h=>by simp[AS]at h
 |q::qs,p::ps,[],_,h=>by simp[AS]at h
 |q::qs,p::ps,x::xs,hq,h=>by
  simp only[Go.AM.Hq]at hq;simp only[AS]at h⊢;exact⟨A8.nil1 hq.1 h.1,AS.nilL hq.2 h.2⟩
 |[],_::_,_,hq,_=>by simp[Go.AM.Hq]at hq
 |_::_,[],_,hq,_=>by simp[Go.AM.Hq]at hq
theorem A6.nil2{P:Program}{f:FuncId}{a a' b b':List PV}{h:A0}{K:PV->A0->Prop}(ha:Hq a' a)(hb:Hq b' b)(hc:A6 P f [.agg a,.agg b] h K):A6 P f [.agg a',.agg b'] h K:=by
 intro β w vals sm hr;refine hc β w vals sm ?_
 match vals,hr with
 |[x,y],hr=>
  simp only[AS,A8]at hr⊢;obtain⟨⟨xs,h1,h2,h3⟩,⟨ys,k1,k2,k3⟩,_⟩:=hr;exact⟨⟨xs,h1,h2,AS.nilL ha h3⟩,⟨ys,k1,k2,AS.nilL hb k3⟩,trivial⟩
end Go.AM
namespace Go.Proofs.YtblgchkahpgdjaaGreat
open Go.AM Go.Proofs.Tryz
set_option maxHeartbeats 4000000
set_option maxRecDepth 20000
theorem Vq{a b:Ex}(ha:a.ok)(hb:b.ok)(h:A0):A6 prog 145 [.agg a.cells,.agg b.cells] h λr h'=>r= .sc (.bool (a.same b))/\h'=h:=by
 have ok1: ∀ e:Ex,e.ok->(Fm.mk ⟨#[]⟩ ⟨#[]⟩ [] [] [e] []).ok:=λe he=>by
  simp only[Fm.ok,Fm.oks,Ex.oks,Bw,Aw];exact⟨by simp[AJ,ByteArray.size],by simp[AJ,ByteArray.size],⟨by simp,by simp⟩,⟨by simp,by simp⟩,⟨by simp[AJ],he,trivial⟩,by simp,trivial⟩
 have hc:=λh:A0=>Io _ (ok1 a ha) _ (ok1 b hb) h;have hs:(Fm.mk ⟨#[]⟩ ⟨#[]⟩ [] [] [a] []).same (.mk ⟨#[]⟩ ⟨#[]⟩ [] [] [b] [])=a.same b:=by simp[Fm.same,Fm.sames,Ex.sames,A1,Ee,DL]
 rw[hs]at hc;generalize a.same b=e at hc⊢;have hc2:=λh:A0=>A6.nil2 (a':=[.sc (.string ⟨#[]⟩),.sc (.string ⟨#[]⟩),.sc (.slice none 0 0),.sc (.slice none 0 0),.imm 5 [a.cells],.sc (.slice none 0 0)]) (b':=[.sc (.string ⟨#[]⟩),.sc (.string ⟨#[]⟩),.sc (.slice none 0 0),.sc (.slice none 0 0),.imm 5 [b.cells],.sc (.slice none 0 0)]) (by
  simp only[Fm.cells,Ex.rows,Fm.rows,AN,A7,B5,Hq];exact⟨.inl rfl,.inl rfl,.inr ⟨rfl,_,rfl⟩,.inr ⟨rfl,_,rfl⟩,.inl rfl,.inr ⟨rfl,_,rfl⟩,trivial⟩) (by
  simp only[Fm.cells,Ex.rows,Fm.rows,AN,A7,B5,Hq];exact⟨.inl rfl,.inl rfl,.inr ⟨rfl,_,rfl⟩,.inr ⟨rfl,_,rfl⟩,.inl rfl,.inr ⟨rfl,_,rfl⟩,trivial⟩) (hc h)
 clear ok1 ha hb hc hs;obtain⟨op,name,n,args,kids⟩:=a;obtain⟨op2,name2,n2,args2,kids2⟩:=b;simp only[Ex.cells]at hc2⊢;refine AE func145 ntmps145 results145 Ty.eE ?_;refine wt A3 ?_;refine uU A3 (hc2 _) ?_;exact wz A3
theorem S5{a b:Ch}(ha:a.ok)(hb:b.ok)(h:A0):A6 prog 128 [.agg (Di a),.agg (Di b)] h λr h'=>r= .sc (.bool (a.same b))/\h'=h:=by
 have c_params:=λh:A0=>Jq (h:=h) (l:=a.params) (m:=b.params) ha.params.1 hb.params.1;have c_cond:=Io a.cond ha.cond b.cond hb.cond;have c_args:=λh:A0=>O2 (h:=h) (l:=a.args) (m:=b.args) ha.args.1 hb.args.1;have c_value:=Vq ha.value hb.value;unfold Ch.same;generalize DL a.params b.params=v_params at c_params⊢;generalize a.cond.same b.cond=v_cond at c_cond⊢;generalize Ee a.args b.args=v_args at c_args⊢;generalize a.value.same b.value=v_value at c_value⊢
 clear ha hb;obtain⟨kind,params,⟨fopc,fnac,farc,fpac,fexc,fkic⟩,name,args,⟨eopv,enav,env,earv,ekiv⟩⟩:=a;obtain⟨kind3,params3,⟨fopc3,fnac3,farc3,fpac3,fexc3,fkic3⟩,name3,args3,⟨eopv3,enav3,env3,earv3,ekiv3⟩⟩:=b;simp only[Di,Fm.cells,Ex.cells,C3,Au,A1]at c_params c_cond c_args c_value⊢;refine AE func128 ntmps128 results128 Ty.eR ?_;cases e0:(kind==kind3)with
 |false=>
  refine wm e0 ?_;try exact zI
  all_goals first|rfl|(simp only[e0,B9,BD,B8,Cc];done)
 |true=>
  refine wt e0 ?_;cases v_params with
  |false=>
   refine uU e0 (c_params _) ?_;refine wm e0 ?_;try exact zI
   all_goals first|rfl|(simp only[e0,B9,BD,B8,Cc];done)
  |true=>
   refine uU e0 (c_params _) ?_;refine wt e0 ?_;cases v_cond with
   |false=>
    refine uU e0 (c_cond _) ?_;refine wm e0 ?_;try exact zI
    all_goals first|rfl|(simp only[e0,B9,BD,B8,Cc];done)
   |true=>
    cases e1:(name.data.toList==name3.data.toList)with
    |false=>
     refine uU (uu e0 e1) (c_cond _) ?_;refine wm (uu e0 e1) ?_;try exact zI
     all_goals first|rfl|(simp only[e0,e1,B9,BD,B8,Cc];done)
    |true=>
     refine uU (uu e0 e1) (c_cond _) ?_;refine wt (uu e0 e1) ?_;cases v_args with
     |false=>
      refine uU (uu e0 e1) (c_args _) ?_;refine wm (uu e0 e1) ?_;try exact zI
      all_goals first|rfl|(simp only[e0,e1,B9,BD,B8,Cc];done)
     |true=>
      refine uU (uu e0 e1) (c_args _) ?_;refine wt (uu e0 e1) ?_;refine uU (uu e0 e1) (c_value _) ?_;refine wm (uu e0 e1) ?_;try exact zI
      all_goals first|rfl|(simp only[e0,e1,B9,BD,B8,Cc];done)
theorem S6{g:FuncId}{l m:List Ch}(hl:l.length<=AJ)(hf: ∀ a∈l, ∀ b∈m, ∀ h:A0,A6 prog g [.agg (Di a),.agg (Di b)] h λr h'=>r= .sc (.bool (a.same b))/\h'=h)(h:A0):
  A6 prog 127 [.imm 15 (Al l),.imm 15 (Al m),.sc (.func (.func g) #[] #[])] h λr h'=>r= .sc (.bool (GH l m))/\h'=h:=by
 unfold AJ at hl;have hll:=Md l;have hlm:=Md m;refine A6.quiet Ty.Ub ?_;refine AE func127 ntmps127 results127 Ty.Ub ?_;cases hne:((l.length:Int) !=m.length)with
 |true=>
  have:GH l m=false:=Vf (by simp at hne;omega);refine wt (AV hll hlm hne) ?_;rw[this];exact⟨rfl,AC.refl _⟩
 |false=>
  have hlen:l.length=m.length:=by simp at hne;omega
  refine wt (AV hll hlm hne) ?_;refine Cd (λc S h'=>AC h h'/\S 1= .imm 15 (Al m)/\S 2= .sc (.func (.func g) #[] #[])/\S 15= .imm 15 (Al l)/\S 16= .sc (.int .i64 l.length)/\ ∃ k:Nat,S 17= .sc (.int .i64 k)/\k<=l.length/\c=l.length-k/\GH l m=GH (l.drop k) (m.drop k)) l.length ?_ ?_
  ·simp only[Ty.w,simprocAttr];exact⟨AC.refl _,0,rfl,by omega,rfl,by simp⟩
  ·rintro c S h' ⟨hg,g1,g2,g15,g16,k,gk,hkl,rfl,hinv⟩;by_cases hlt:k<l.length
   ·have hd:decide ((k:Int)<(l.length:Int))=true:=(by simp;omega);have w7:IntKind.i64.wrap ((k:Int)+1)=k+1:=(by rw[Br (by omega) (by omega)]);obtain⟨a,hx⟩: ∃ a,l[k]? =some a:=⟨_,AU hlt⟩;obtain⟨b,hy⟩: ∃ b,m[k]? =some b:=⟨_,AU (by omega)⟩;have hc:=hf a (C7 hx) b (C7 hy);rw[Cm hx,Cm hy]at hinv;simp only[GH]at hinv;have hr:=R9 hx;have hr2:=R9 hy;generalize he:a.same b=e at hc hinv;clear he hf;obtain⟨kind2,params2,⟨fopc2,fnac2,farc2,fpac2,fexc2,fkic2⟩,name2,args2,⟨eopv2,enav2,env2,earv2,ekiv2⟩⟩:=a;obtain⟨kind3,params3,⟨fopc3,fnac3,farc3,fpac3,fexc3,fkic3⟩,name3,args3,⟨eopv3,enav3,env3,earv3,ekiv3⟩⟩:=b;simp only[Di,Fm.cells,Ex.cells,C3,Au]at hr hr2 hc;replace zz:=AY g1 g2 g15 g16 gk hll hlm hd hr hr2 w7 @B2;refine wy zz ?_;refine Jp (sq g2) (hc _) (by simp only[Ty.w,simprocAttr,g1,g2,g15,g16,gk];try rfl) ?_;simp only[Ty.w,simprocAttr,Ty.AW];cases e with
    |false=>
     replace zz:=Ag g1 g2 g15 g16 gk w7 yF;refine wy zz ?_;rw[hinv];exact⟨rfl,(((hg.new _).set hg.le _).new _).set (Hz hg.le) _⟩
    |true=>
     replace zz:=Ag g1 g2 g15 g16 gk w7 yT;refine wy zz ?_;rw[B8]at hinv;exact⟨l.length-(k+1),by omega,(((hg.new _).set hg.le _).new _).set (Hz hg.le) _,k+1,by simp,by omega,rfl,hinv⟩
   ·have hd:decide ((k:Int)<(l.length:Int))=false:=(by simp;omega);rw[D3 (by omega),D3 (by omega)]at hinv;simp only[GH]at hinv;replace zz:=Ag g1 g2 g15 g16 gk hll hd;refine wt zz ?_;rw[hinv];exact⟨rfl,hg⟩
theorem gW{g:FuncId}{l m:List Pr}(hl:l.length<=AJ)(hf: ∀ a∈l, ∀ b∈m, ∀ h:A0,A6 prog g [.agg (FE a),.agg (FE b)] h λr h'=>r= .sc (.bool (a.same b))/\h'=h)(h:A0):
  A6 prog 71 [.imm 2 (Bj l),.imm 2 (Bj m),.sc (.func (.func g) #[] #[])] h λr h'=>r= .sc (.bool (Hm l m))/\h'=h:=by
 unfold AJ at hl;have hll:=No l;have hlm:=No m;refine A6.quiet Ty.UP ?_;refine AE func71 ntmps71 results71 Ty.UP ?_;cases hne:((l.length:Int) !=m.length)with
 |true=>
  have:Hm l m=false:=Vg (by simp at hne;omega);refine wt (AV hll hlm hne) ?_;rw[this];exact⟨rfl,AC.refl _⟩
 |false=>
  have hlen:l.length=m.length:=by simp at hne;omega
  refine wt (AV hll hlm hne) ?_;refine Cd (λc S h'=>AC h h'/\S 1= .imm 2 (Bj m)/\S 2= .sc (.func (.func g) #[] #[])/\S 15= .imm 2 (Bj l)/\S 16= .sc (.int .i64 l.length)/\ ∃ k:Nat,S 17= .sc (.int .i64 k)/\k<=l.length/\c=l.length-k/\Hm l m=Hm (l.drop k) (m.drop k)) l.length ?_ ?_
  ·simp only[Ty.w,simprocAttr];exact⟨AC.refl _,0,rfl,by omega,rfl,by simp⟩
  ·rintro c S h' ⟨hg,g1,g2,g15,g16,k,gk,hkl,rfl,hinv⟩;by_cases hlt:k<l.length
   ·have hd:decide ((k:Int)<(l.length:Int))=true:=(by simp;omega);have w7:IntKind.i64.wrap ((k:Int)+1)=k+1:=(by rw[Br (by omega) (by omega)]);obtain⟨a,hx⟩: ∃ a,l[k]? =some a:=⟨_,AU hlt⟩;obtain⟨b,hy⟩: ∃ b,m[k]? =some b:=⟨_,AU (by omega)⟩;have hc:=hf a (C7 hx) b (C7 hy);rw[Cm hx,Cm hy]at hinv;simp only[Hm]at hinv;have hr:=RB hx;have hr2:=RB hy;generalize he:a.same b=e at hc hinv;clear he hf;obtain⟨name2,params2⟩:=a;obtain⟨name3,params3⟩:=b;simp only[FE,Fm.cells,Ex.cells,C3,Au]at hr hr2 hc;replace zz:=AY g1 g2 g15 g16 gk hll hlm hd hr hr2 w7 @B2;refine wy zz ?_;refine Jp (sq g2) (hc _) (by simp only[Ty.w,simprocAttr,g1,g2,g15,g16,gk];try rfl) ?_;simp only[Ty.w,simprocAttr,Ty.AW];cases e with
    |false=>
     replace zz:=Ag g1 g2 g15 g16 gk w7 yF;refine wy zz ?_;rw[hinv];exact⟨rfl,(((hg.new _).set hg.le _).new _).set (Hz hg.le) _⟩
    |true=>
     replace zz:=Ag g1 g2 g15 g16 gk w7 yT;refine wy zz ?_;rw[B8]at hinv;exact⟨l.length-(k+1),by omega,(((hg.new _).set hg.le _).new _).set (Hz hg.le) _,k+1,by simp,by omega,rfl,hinv⟩
   ·have hd:decide ((k:Int)<(l.length:Int))=false:=(by simp;omega);rw[D3 (by omega),D3 (by omega)]at hinv;simp only[Hm]at hinv;replace zz:=Ag g1 g2 g15 g16 gk hll hd;refine wt zz ?_;rw[hinv];exact⟨rfl,hg⟩
theorem gX{g:FuncId}{l m:List Fu}(hl:l.length<=AJ)(hf: ∀ a∈l, ∀ b∈m, ∀ h:A0,A6 prog g [.agg (FF a),.agg (FF b)] h λr h'=>r= .sc (.bool (a.same b))/\h'=h)(h:A0):
  A6 prog 72 [.imm 4 (Bh l),.imm 4 (Bh m),.sc (.func (.func g) #[] #[])] h λr h'=>r= .sc (.bool (Hn l m))/\h'=h:=by
 unfold AJ at hl;have hll:=Np l;have hlm:=Np m;refine A6.quiet Ty.UQ ?_;refine AE func72 ntmps72 results72 Ty.UQ ?_;cases hne:((l.length:Int) !=m.length)with
 |true=>
  have:Hn l m=false:=Vh (by simp at hne;omega);refine wt (AV hll hlm hne) ?_;rw[this];exact⟨rfl,AC.refl _⟩
 |false=>
  have hlen:l.length=m.length:=by simp at hne;omega
  refine wt (AV hll hlm hne) ?_;refine Cd (λc S h'=>AC h h'/\S 1= .imm 4 (Bh m)/\S 2= .sc (.func (.func g) #[] #[])/\S 15= .imm 4 (Bh l)/\S 16= .sc (.int .i64 l.length)/\ ∃ k:Nat,S 17= .sc (.int .i64 k)/\k<=l.length/\c=l.length-k/\Hn l m=Hn (l.drop k) (m.drop k)) l.length ?_ ?_
  ·simp only[Ty.w,simprocAttr];exact⟨AC.refl _,0,rfl,by omega,rfl,by simp⟩
  ·rintro c S h' ⟨hg,g1,g2,g15,g16,k,gk,hkl,rfl,hinv⟩;by_cases hlt:k<l.length
   ·have hd:decide ((k:Int)<(l.length:Int))=true:=(by simp;omega);have w7:IntKind.i64.wrap ((k:Int)+1)=k+1:=(by rw[Br (by omega) (by omega)]);obtain⟨a,hx⟩: ∃ a,l[k]? =some a:=⟨_,AU hlt⟩;obtain⟨b,hy⟩: ∃ b,m[k]? =some b:=⟨_,AU (by omega)⟩;have hc:=hf a (C7 hx) b (C7 hy);rw[Cm hx,Cm hy]at hinv;simp only[Hn]at hinv;have hr:=RC hx;have hr2:=RC hy;generalize he:a.same b=e at hc hinv;clear he hf;obtain⟨name2,params2,lo2,hi2⟩:=a;obtain⟨name3,params3,lo3,hi3⟩:=b;simp only[FF,Fm.cells,Ex.cells,C3,Au]at hr hr2 hc;replace zz:=AY g1 g2 g15 g16 gk hll hlm hd hr hr2 w7 @B2;refine wy zz ?_;refine Jp (sq g2) (hc _) (by simp only[Ty.w,simprocAttr,g1,g2,g15,g16,gk];try rfl) ?_;simp only[Ty.w,simprocAttr,Ty.AW];cases e with
    |false=>
     replace zz:=Ag g1 g2 g15 g16 gk w7 yF;refine wy zz ?_;rw[hinv];exact⟨rfl,(((hg.new _).set hg.le _).new _).set (Hz hg.le) _⟩
    |true=>
     replace zz:=Ag g1 g2 g15 g16 gk w7 yT;refine wy zz ?_;rw[B8]at hinv;exact⟨l.length-(k+1),by omega,(((hg.new _).set hg.le _).new _).set (Hz hg.le) _,k+1,by simp,by omega,rfl,hinv⟩
   ·have hd:decide ((k:Int)<(l.length:Int))=false:=(by simp;omega);rw[D3 (by omega),D3 (by omega)]at hinv;simp only[Hn]at hinv;replace zz:=Ag g1 g2 g15 g16 gk hll hd;refine wt zz ?_;rw[hinv];exact⟨rfl,hg⟩
theorem gY{g:FuncId}{l m:List Ac}(hl:l.length<=AJ)(hf: ∀ a∈l, ∀ b∈m, ∀ h:A0,A6 prog g [.agg (FG a),.agg (FG b)] h λr h'=>r= .sc (.bool (a.same b))/\h'=h)(h:A0):
  A6 prog 73 [.imm 10 (Bm l),.imm 10 (Bm m),.sc (.func (.func g) #[] #[])] h λr h'=>r= .sc (.bool (Ho l m))/\h'=h:=by
 unfold AJ at hl;have hll:=Nq l;have hlm:=Nq m;refine A6.quiet Ty.UR ?_;refine AE func73 ntmps73 results73 Ty.UR ?_;cases hne:((l.length:Int) !=m.length)with
 |true=>
  have:Ho l m=false:=Vi (by simp at hne;omega);refine wt (AV hll hlm hne) ?_;rw[this];exact⟨rfl,AC.refl _⟩
 |false=>
  have hlen:l.length=m.length:=by simp at hne;omega
  refine wt (AV hll hlm hne) ?_;refine Cd (λc S h'=>AC h h'/\S 1= .imm 10 (Bm m)/\S 2= .sc (.func (.func g) #[] #[])/\S 15= .imm 10 (Bm l)/\S 16= .sc (.int .i64 l.length)/\ ∃ k:Nat,S 17= .sc (.int .i64 k)/\k<=l.length/\c=l.length-k/\Ho l m=Ho (l.drop k) (m.drop k)) l.length ?_ ?_
  ·simp only[Ty.w,simprocAttr];exact⟨AC.refl _,0,rfl,by omega,rfl,by simp⟩
  ·rintro c S h' ⟨hg,g1,g2,g15,g16,k,gk,hkl,rfl,hinv⟩;by_cases hlt:k<l.length
   ·have hd:decide ((k:Int)<(l.length:Int))=true:=(by simp;omega);have w7:IntKind.i64.wrap ((k:Int)+1)=k+1:=(by rw[Br (by omega) (by omega)]);obtain⟨a,hx⟩: ∃ a,l[k]? =some a:=⟨_,AU hlt⟩;obtain⟨b,hy⟩: ∃ b,m[k]? =some b:=⟨_,AU (by omega)⟩;have hc:=hf a (C7 hx) b (C7 hy);rw[Cm hx,Cm hy]at hinv;simp only[Ho]at hinv;have hr:=RD hx;have hr2:=RD hy;generalize he:a.same b=e at hc hinv;clear he hf;obtain⟨name2,params2,cost2,⟨fopp2,fnap2,farp2,fpap2,fexp2,fkip2⟩,changes2⟩:=a;obtain⟨name3,params3,cost3,⟨fopp3,fnap3,farp3,fpap3,fexp3,fkip3⟩,changes3⟩:=b;simp only[FG,Fm.cells,Ex.cells,C3,Au]at hr hr2 hc;replace zz:=AY g1 g2 g15 g16 gk hll hlm hd hr hr2 w7 @B2;refine wy zz ?_;refine Jp (sq g2) (hc _) (by simp only[Ty.w,simprocAttr,g1,g2,g15,g16,gk];try rfl) ?_;simp only[Ty.w,simprocAttr,Ty.AW];cases e with
    |false=>
     replace zz:=Ag g1 g2 g15 g16 gk w7 yF;refine wy zz ?_;rw[hinv];exact⟨rfl,(((hg.new _).set hg.le _).new _).set (Hz hg.le) _⟩
    |true=>
     replace zz:=Ag g1 g2 g15 g16 gk w7 yT;refine wy zz ?_;rw[B8]at hinv;exact⟨l.length-(k+1),by omega,(((hg.new _).set hg.le _).new _).set (Hz hg.le) _,k+1,by simp,by omega,rfl,hinv⟩
   ·have hd:decide ((k:Int)<(l.length:Int))=false:=(by simp;omega);rw[D3 (by omega),D3 (by omega)]at hinv;simp only[Ho]at hinv;replace zz:=Ag g1 g2 g15 g16 gk hll hd;refine wt zz ?_;rw[hinv];exact⟨rfl,hg⟩
theorem gZ{g:FuncId}{l m:List Du}(hl:l.length<=AJ)(hf: ∀ a∈l, ∀ b∈m, ∀ h:A0,A6 prog g [.agg (FH a),.agg (FH b)] h λr h'=>r= .sc (.bool (a.same b))/\h'=h)(h:A0):
  A6 prog 75 [.imm 23 (Bn l),.imm 23 (Bn m),.sc (.func (.func g) #[] #[])] h λr h'=>r= .sc (.bool (Hp l m))/\h'=h:=by
 unfold AJ at hl;have hll:=Nr l;have hlm:=Nr m;refine A6.quiet Ty.US ?_;refine AE func75 ntmps75 results75 Ty.US ?_;cases hne:((l.length:Int) !=m.length)with
 |true=>
  have:Hp l m=false:=Vj (by simp at hne;omega);refine wt (AV hll hlm hne) ?_;rw[this];exact⟨rfl,AC.refl _⟩
 |false=>
  have hlen:l.length=m.length:=by simp at hne;omega
  refine wt (AV hll hlm hne) ?_;refine Cd (λc S h'=>AC h h'/\S 1= .imm 23 (Bn m)/\S 2= .sc (.func (.func g) #[] #[])/\S 15= .imm 23 (Bn l)/\S 16= .sc (.int .i64 l.length)/\ ∃ k:Nat,S 17= .sc (.int .i64 k)/\k<=l.length/\c=l.length-k/\Hp l m=Hp (l.drop k) (m.drop k)) l.length ?_ ?_
  ·simp only[Ty.w,simprocAttr];exact⟨AC.refl _,0,rfl,by omega,rfl,by simp⟩
  ·rintro c S h' ⟨hg,g1,g2,g15,g16,k,gk,hkl,rfl,hinv⟩;by_cases hlt:k<l.length
   ·have hd:decide ((k:Int)<(l.length:Int))=true:=(by simp;omega);have w7:IntKind.i64.wrap ((k:Int)+1)=k+1:=(by rw[Br (by omega) (by omega)]);obtain⟨a,hx⟩: ∃ a,l[k]? =some a:=⟨_,AU hlt⟩;obtain⟨b,hy⟩: ∃ b,m[k]? =some b:=⟨_,AU (by omega)⟩;have hc:=hf a (C7 hx) b (C7 hy);rw[Cm hx,Cm hy]at hinv;simp only[Hp]at hinv;have hr:=RE hx;have hr2:=RE hy;generalize he:a.same b=e at hc hinv;clear he hf;obtain⟨name2,params2,dur2,⟨fops2,fnas2,fars2,fpas2,fexs2,fkis2⟩,⟨fopo2,fnao2,faro2,fpao2,fexo2,fkio2⟩,⟨fope2,fnae2,fare2,fpae2,fexe2,fkie2⟩,atStart2,atStop2⟩:=a;obtain⟨name3,params3,dur3,⟨fops3,fnas3,fars3,fpas3,fexs3,fkis3⟩,⟨fopo3,fnao3,faro3,fpao3,fexo3,fkio3⟩,⟨fope3,fnae3,fare3,fpae3,fexe3,fkie3⟩,atStart3,atStop3⟩:=b;simp only[FH,Fm.cells,Ex.cells,C3,Au]at hr hr2 hc;replace zz:=AY g1 g2 g15 g16 gk hll hlm hd hr hr2 w7 @B2;refine wy zz ?_;refine Jp (sq g2) (hc _) (by simp only[Ty.w,simprocAttr,g1,g2,g15,g16,gk];try rfl) ?_;simp only[Ty.w,simprocAttr,Ty.AW];cases e with
    |false=>
     replace zz:=Ag g1 g2 g15 g16 gk w7 yF;refine wy zz ?_;rw[hinv];exact⟨rfl,(((hg.new _).set hg.le _).new _).set (Hz hg.le) _⟩
    |true=>
     replace zz:=Ag g1 g2 g15 g16 gk w7 yT;refine wy zz ?_;rw[B8]at hinv;exact⟨l.length-(k+1),by omega,(((hg.new _).set hg.le _).new _).set (Hz hg.le) _,k+1,by simp,by omega,rfl,hinv⟩
   ·have hd:decide ((k:Int)<(l.length:Int))=false:=(by simp;omega);rw[D3 (by omega),D3 (by omega)]at hinv;simp only[Hp]at hinv;replace zz:=Ag g1 g2 g15 g16 gk hll hd;refine wt zz ?_;rw[hinv];exact⟨rfl,hg⟩
theorem ga{a b:Pr}(ha:a.ok)(hb:b.ok)(h:A0):A6 prog 68 [.agg (FE a),.agg (FE b)] h λr h'=>r= .sc (.bool (a.same b))/\h'=h:=by
 have c_params:=λh:A0=>Jq (h:=h) (l:=a.params) (m:=b.params) ha.params.1 hb.params.1;unfold Pr.same;generalize DL a.params b.params=v_params at c_params⊢
 clear ha hb;obtain⟨name,params⟩:=a;obtain⟨name3,params3⟩:=b;simp only[FE,Fm.cells,Ex.cells,C3,Au,A1]at c_params⊢;refine AE func68 ntmps68 results68 Ty.eM ?_;cases e0:(name.data.toList==name3.data.toList)with
 |false=>
  refine wm e0 ?_;try exact zI
  all_goals first|rfl|(simp only[e0,B9,BD,B8,Cc];done)
 |true=>
  refine wt e0 ?_;refine uU e0 (c_params _) ?_;refine wm e0 ?_;try exact zI
  all_goals first|rfl|(simp only[e0,B9,BD,B8,Cc];done)
theorem gb{a b:Fu}(ha:a.ok)(hb:b.ok)(h:A0):A6 prog 70 [.agg (FF a),.agg (FF b)] h λr h'=>r= .sc (.bool (a.same b))/\h'=h:=by
 have c_params:=λh:A0=>Jq (h:=h) (l:=a.params) (m:=b.params) ha.params.1 hb.params.1;unfold Fu.same;generalize DL a.params b.params=v_params at c_params⊢
 clear ha hb;obtain⟨name,params,lo,hi⟩:=a;obtain⟨name3,params3,lo3,hi3⟩:=b;simp only[FF,Fm.cells,Ex.cells,C3,Au,A1]at c_params⊢;refine AE func70 ntmps70 results70 Ty.eN ?_;cases e0:(name.data.toList==name3.data.toList)with
 |false=>
  refine wm e0 ?_;try exact zI
  all_goals first|rfl|(simp only[e0,B9,BD,B8,Cc];done)
 |true=>
  refine wt e0 ?_;cases v_params with
  |false=>
   refine uU e0 (c_params _) ?_;refine wm e0 ?_;try exact zI
   all_goals first|rfl|(simp only[e0,B9,BD,B8,Cc];done)
  |true=>
   cases e1:(lo==lo3)with
   |false=>
    refine uU (uu e0 e1) (c_params _) ?_;refine wm (uu e0 e1) ?_;try exact zI
    all_goals first|rfl|(simp only[e0,e1,B9,BD,B8,Cc];done)
   |true=>
    cases e2:(hi==hi3)with
    |false=>
     refine uU (AV e0 e1 e2) (c_params _) ?_;refine wm (AV e0 e1 e2) ?_;try exact zI
     all_goals first|rfl|(simp only[e0,e1,e2,B9,BD,B8,Cc];done)
    |true=>
     refine uU (AV e0 e1 e2) (c_params _) ?_;refine wm (AV e0 e1 e2) ?_;try exact zI
     all_goals first|rfl|(simp only[e0,e1,e2,B9,BD,B8,Cc];done)
theorem gf{a b:Ac}(ha:a.ok)(hb:b.ok)(h:A0):A6 prog 74 [.agg (FG a),.agg (FG b)] h λr h'=>r= .sc (.bool (a.same b))/\h'=h:=by
 have c_params:=λh:A0=>Jq (h:=h) (l:=a.params) (m:=b.params) ha.params.1 hb.params.1;have c_pre:=Io a.pre ha.pre b.pre hb.pre;have c_changes:=S6 (g:=128) ha.changes.1 (λx hx y hy=>S5 (ha.changes.2 x hx) (hb.changes.2 y hy));unfold Ac.same;generalize DL a.params b.params=v_params at c_params⊢;generalize a.pre.same b.pre=v_pre at c_pre⊢;generalize GH a.changes b.changes=v_changes at c_changes⊢
 clear ha hb;obtain⟨name,params,cost,⟨fopp,fnap,farp,fpap,fexp,fkip⟩,changes⟩:=a;obtain⟨name3,params3,cost3,⟨fopp3,fnap3,farp3,fpap3,fexp3,fkip3⟩,changes3⟩:=b;simp only[FG,Fm.cells,Ex.cells,C3,Au,A1]at c_params c_pre c_changes⊢;refine AE func74 ntmps74 results74 Ty.eO ?_;cases e0:(name.data.toList==name3.data.toList)with
 |false=>
  refine wm e0 ?_;try exact zI
  all_goals first|rfl|(simp only[e0,B9,BD,B8,Cc];done)
 |true=>
  refine wt e0 ?_;cases v_params with
  |false=>
   refine uU e0 (c_params _) ?_;refine wm e0 ?_;try exact zI
   all_goals first|rfl|(simp only[e0,B9,BD,B8,Cc];done)
  |true=>
   cases e1:(cost==cost3)with
   |false=>
    refine uU (uu e0 e1) (c_params _) ?_;refine wm (uu e0 e1) ?_;try exact zI
    all_goals first|rfl|(simp only[e0,e1,B9,BD,B8,Cc];done)
   |true=>
    refine uU (uu e0 e1) (c_params _) ?_;refine wt (uu e0 e1) ?_;cases v_pre with
    |false=>
     refine uU (uu e0 e1) (c_pre _) ?_;refine wm (uu e0 e1) ?_;try exact zI
     all_goals first|rfl|(simp only[e0,e1,B9,BD,B8,Cc];done)
    |true=>
     refine uU (uu e0 e1) (c_pre _) ?_;refine wt (uu e0 e1) ?_;refine uU (uu e0 e1) (c_changes _) ?_;refine wm (uu e0 e1) ?_;try exact zI
     all_goals first|rfl|(simp only[e0,e1,B9,BD,B8,Cc];done)
theorem gh{a b:Du}(ha:a.ok)(hb:b.ok)(h:A0):A6 prog 76 [.agg (FH a),.agg (FH b)] h λr h'=>r= .sc (.bool (a.same b))/\h'=h:=by
 have c_params:=λh:A0=>Jq (h:=h) (l:=a.params) (m:=b.params) ha.params.1 hb.params.1;have c_start:=Io a.start ha.start b.start hb.start;have c_over:=Io a.over ha.over b.over hb.over;have c_stop:=Io a.stop ha.stop b.stop hb.stop;have c_atStart:=S6 (g:=128) ha.atStart.1 (λx hx y hy=>S5 (ha.atStart.2 x hx) (hb.atStart.2 y hy));have c_atStop:=S6 (g:=128) ha.atStop.1 (λx hx y hy=>S5 (ha.atStop.2 x hx) (hb.atStop.2 y hy));unfold Du.same;generalize DL a.params b.params=v_params at c_params⊢;generalize a.start.same b.start=v_start at c_start⊢;generalize a.over.same b.over=v_over at c_over⊢;generalize a.stop.same b.stop=v_stop at c_stop⊢;generalize GH a.atStart b.atStart=v_atStart at c_atStart⊢;generalize GH a.atStop b.atStop=v_atStop at c_atStop⊢
 clear ha hb;obtain⟨name,params,dur,⟨fops,fnas,fars,fpas,fexs,fkis⟩,⟨fopo,fnao,faro,fpao,fexo,fkio⟩,⟨fope,fnae,fare,fpae,fexe,fkie⟩,atStart,atStop⟩:=a;obtain⟨name3,params3,dur3,⟨fops3,fnas3,fars3,fpas3,fexs3,fkis3⟩,⟨fopo3,fnao3,faro3,fpao3,fexo3,fkio3⟩,⟨fope3,fnae3,fare3,fpae3,fexe3,fkie3⟩,atStart3,atStop3⟩:=b;simp only[FH,Fm.cells,Ex.cells,C3,Au,A1]at c_params c_start c_over c_stop c_atStart c_atStop⊢;refine AE func76 ntmps76 results76 Ty.eQ ?_;cases e0:(name.data.toList==name3.data.toList)with
 |false=>
  refine wm e0 ?_;try exact zI
  all_goals first|rfl|(simp only[e0,B9,BD,B8,Cc];done)
 |true=>
  refine wt e0 ?_;cases v_params with
  |false=>
   refine uU e0 (c_params _) ?_;refine wm e0 ?_;try exact zI
   all_goals first|rfl|(simp only[e0,B9,BD,B8,Cc];done)
  |true=>
   cases e1:(dur==dur3)with
   |false=>
    refine uU (uu e0 e1) (c_params _) ?_;refine wm (uu e0 e1) ?_;try exact zI
    all_goals first|rfl|(simp only[e0,e1,B9,BD,B8,Cc];done)
   |true=>
    refine uU (uu e0 e1) (c_params _) ?_;refine wt (uu e0 e1) ?_;cases v_start with
    |false=>
     refine uU (uu e0 e1) (c_start _) ?_;refine wm (uu e0 e1) ?_;try exact zI
     all_goals first|rfl|(simp only[e0,e1,B9,BD,B8,Cc];done)
    |true=>
     refine uU (uu e0 e1) (c_start _) ?_;refine wt (uu e0 e1) ?_;cases v_over with
     |false=>
      refine uU (uu e0 e1) (c_over _) ?_;refine wm (uu e0 e1) ?_;try exact zI
      all_goals first|rfl|(simp only[e0,e1,B9,BD,B8,Cc];done)
     |true=>
      refine uU (uu e0 e1) (c_over _) ?_;refine wt (uu e0 e1) ?_;cases v_stop with
      |false=>
       refine uU (uu e0 e1) (c_stop _) ?_;refine wm (uu e0 e1) ?_;try exact zI
       all_goals first|rfl|(simp only[e0,e1,B9,BD,B8,Cc];done)
      |true=>
       refine uU (uu e0 e1) (c_stop _) ?_;refine wt (uu e0 e1) ?_;cases v_atStart with
       |false=>
        refine uU (uu e0 e1) (c_atStart _) ?_;refine wm (uu e0 e1) ?_;try exact zI
        all_goals first|rfl|(simp only[e0,e1,B9,BD,B8,Cc];done)
       |true=>
        refine uU (uu e0 e1) (c_atStart _) ?_;refine wt (uu e0 e1) ?_;refine uU (uu e0 e1) (c_atStop _) ?_;refine wm (uu e0 e1) ?_;try exact zI
        all_goals first|rfl|(simp only[e0,e1,B9,BD,B8,Cc];done)
theorem gi(a b:Dm)(ha:a.ok)(hb:b.ok)(h:A0):A6 prog 26 [.agg a.cells,.agg b.cells] h λr h'=>r= .sc (.bool (a.same b))/\h'=h:=by
 have c_types:=λh:A0=>Jq (h:=h) (l:=a.types) (m:=b.types) ha.types.1 hb.types.1;have c_constants:=λh:A0=>Jq (h:=h) (l:=a.constants) (m:=b.constants) ha.constants.1 hb.constants.1;have c_predicates:=gW (g:=68) ha.predicates.1 (λx hx y hy=>ga (ha.predicates.2 x hx) (hb.predicates.2 y hy));have c_functions:=gX (g:=70) ha.functions.1 (λx hx y hy=>gb (ha.functions.2 x hx) (hb.functions.2 y hy));have c_actions:=gY (g:=74) ha.actions.1 (λx hx y hy=>gf (ha.actions.2 x hx) (hb.actions.2 y hy));have c_duratives:=gZ (g:=76) ha.duratives.1 (λx hx y hy=>gh (ha.duratives.2 x hx) (hb.duratives.2 y hy));unfold Dm.same;generalize DL a.types b.types=v_types at c_types⊢;generalize DL a.constants b.constants=v_constants at c_constants⊢;generalize Hm a.predicates b.predicates=v_predicates at c_predicates⊢;generalize Hn a.functions b.functions=v_functions at c_functions⊢;generalize Ho a.actions b.actions=v_actions at c_actions⊢;generalize Hp a.duratives b.duratives=v_duratives at c_duratives⊢
 clear ha hb;obtain⟨name,types,constants,predicates,functions,actions,duratives⟩:=a;obtain⟨name3,types3,constants3,predicates3,functions3,actions3,duratives3⟩:=b;simp only[Dm.cells,A1]at c_types c_constants c_predicates c_functions c_actions c_duratives⊢;refine AE func26 ntmps26 results26 Ty.dv ?_;cases e0:(name.data.toList==name3.data.toList)with
 |false=>
  refine wm e0 ?_;try exact zI
  all_goals first|rfl|(simp only[e0,B9,BD,B8,Cc];done)
 |true=>
  refine wt e0 ?_;cases v_types with
  |false=>
   refine uU e0 (c_types _) ?_;refine wm e0 ?_;try exact zI
   all_goals first|rfl|(simp only[e0,B9,BD,B8,Cc];done)
  |true=>
   refine uU e0 (c_types _) ?_;refine wt e0 ?_;cases v_constants with
   |false=>
    refine uU e0 (c_constants _) ?_;refine wm e0 ?_;try exact zI
    all_goals first|rfl|(simp only[e0,B9,BD,B8,Cc];done)
   |true=>
    refine uU e0 (c_constants _) ?_;refine wt e0 ?_;cases v_predicates with
    |false=>
     refine uU e0 (c_predicates _) ?_;refine wm e0 ?_;try exact zI
     all_goals first|rfl|(simp only[e0,B9,BD,B8,Cc];done)
    |true=>
     refine uU e0 (c_predicates _) ?_;refine wt e0 ?_;cases v_functions with
     |false=>
      refine uU e0 (c_functions _) ?_;refine wm e0 ?_;try exact zI
      all_goals first|rfl|(simp only[e0,B9,BD,B8,Cc];done)
     |true=>
      refine uU e0 (c_functions _) ?_;refine wt e0 ?_;cases v_actions with
      |false=>
       refine uU e0 (c_actions _) ?_;refine wm e0 ?_;try exact zI
       all_goals first|rfl|(simp only[e0,B9,BD,B8,Cc];done)
      |true=>
       refine uU e0 (c_actions _) ?_;refine wt e0 ?_;refine uU e0 (c_duratives _) ?_;refine wm e0 ?_;try exact zI
       all_goals first|rfl|(simp only[e0,B9,BD,B8,Cc];done)
end Go.Proofs.YtblgchkahpgdjaaGreat
namespace Go.Proofs.YtblgchkahpgdjaaGreat
open Go.AM Go.Proofs.Tryz
set_option maxHeartbeats 4000000
set_option maxRecDepth 20000
def fh:List Sx->List Ex × Int
 |[a,b]=>(match BV a with
  | (ea, ca) => bif ca == 0 then (match BV b with
   |(eb,cb)=>bif cb==0 then([ea,eb],0)else([],cb))else([],ca))
 |_=>([],2)
end Go.Proofs.YtblgchkahpgdjaaGreat
namespace Go.Proofs.YtblgchkahpgdjaaGreat
open Go.AM Go.Proofs.Tryz
set_option maxHeartbeats 4000000
set_option maxRecDepth 20000
theorem Vr{x:Sx}(h:x.ok):(Ah x).size<=AJ:=by
 obtain⟨_,_,_,_,t,_⟩:=x;simp only[Sx.ok]at h;exact h.2.2.1
theorem Bu(n:Nat)(l:List Pm):B1 n (A7 l):=by
 induction l with
 |nil=>simp only[A7,B5,B1]
 |cons a l ih=>simp only[A7,BS,B1,LZ,BT,BB,Da,FQ]at ih⊢;exact ih
theorem Dq(n:Nat): ∀ l:List Ex,B1 n (Ex.rows l)
 |[]=>by simp only[Ex.rows,B1]
 |k::ks=>by simp only[Ex.rows,B1];exact⟨Pi n k,Dq n ks⟩
theorem Vs(n:Nat): ∀ f:Fm,BT n f.cells:=by
 refine Fm.ind ?_;intro op name args params exprs kids ih;have:B1 n (Fm.rows kids):=by
  clear op name args params exprs
  induction kids with
  |nil=>simp only[Fm.rows,B1]
  |cons k ks ih2=>
   simp only[Fm.rows,B1];exact⟨ih k (by simp),ih2 λq hq=>ih q (by simp[hq])⟩
 simp only[Fm.cells,BT,BB,Da,FQ];exact⟨DO n args,Bu n params,Dq n exprs,this⟩
theorem EO(n:Nat): ∀ l:List Fm,B1 n (Fm.rows l)
 |[]=>by simp only[Fm.rows,B1]
 |k::ks=>by simp only[Fm.rows,B1];exact⟨Vs n k,EO n ks⟩
theorem S7(n:Nat)(h:A0)(f:Fm):AL n h f.cells f.cells:=by
 have hi:=Vs n f;obtain⟨op,name,args,params,exprs,kids⟩:=f;simp only[Fm.cells,BT,BB,Da,FQ]at hi;simp only[Fm.cells,AL,AF,Da,FQ];exact⟨.inl hi.1,.inl hi.2.1,.inl hi.2.2.1,.inl hi.2.2.2⟩
theorem S8(n:Nat)(h:A0): ∀ l:List Fm,Cr n h (Fm.rows l) (Fm.rows l)
 |[]=>by simp only[Fm.rows,Cr]
 |k::ks=>by simp only[Fm.rows,Cr];exact⟨S7 n h k,S8 n h ks⟩
theorem Vt{h:A0}{id0 n:Nat}{p:PV}{l:List Fm}(hn:n<=id0)(t:Tl h id0 6 p (Fm.rows l)):AF n h (.imm 6 (Fm.rows l)) p:=by
 simp only[AF];rcases t with⟨h1,h2⟩|⟨id,h1,h2,rfl,ho⟩
 ·exact .inr (.inl ⟨h1,h2.symm⟩)
 ·refine .inr (.inr ⟨id,0,_,_,rfl,by omega,ho,by omega,?_⟩);rw[CB,DQ (by omega)];exact S8 _ _ _
theorem gj: ∀ l:List Sx,((D6 l).2==0)=false->(D6 l).1=[]
 |[],h=>by simp[D6]at h
 |x::l,h=>by
  simp only[D6]at h⊢;cases hq:(Cf x).2==0 with
  |false=>simp only[AI]
  |true=>
   rw[hq]at h;simp only[AB]at h⊢;cases hr:(D6 l).2==0 with
   |false=>simp only[AI]
   |true=>rw[hr]at h;simp at h
theorem Vu{l:List Sx}(hl:l.length<=1048576)(hf: ∀ x∈l, ∀ h:A0,A6 prog 169 [.agg x.cells] h λr h'=>r= .tup [.agg (Cf x).1.cells,AO (Cf x).2]/\h'=h)(h:A0):
  A6 prog 182 [.imm 6 (Sx.rows l)] h λr h'=>r= .tup [.imm 6 (Fm.rows (D6 l).1),AO (D6 l).2]/\h'=h:=by
 refine A6.frz Ty.Ur ?_;have hll:=Sx.rows_len l;refine AE func182 ntmps182 results182 Ty.Ur ?_;refine wt hll ?_;refine Cd (λm S h'=>S 9= .imm 6 (Sx.rows l)/\S 10= .sc (.int .i64 l.length)/\ ∃ (k:Nat)(o:PV)(pre:List Fm),S 11= .sc (.int .i64 k)/\S 4=o/\k<=l.length/\m=l.length-k/\AC h h'/\pre.length=k/\Tl h' h.next 6 o (Fm.rows pre)/\
  D6 l=(bif (D6 (l.drop k)).2==0 then(pre++(D6 (l.drop k)).1,0)else([],(D6 (l.drop k)).2))) l.length ?_ ?_
 ·simp only[Ty.w,simprocAttr];refine⟨0,_,[],rfl,rfl,by omega,rfl,AC.refl _,rfl,Tl.nil,?_⟩;rw[CB];cases hq:(D6 l).2==0
  ·simp only[AI];rw[← gj l hq]
  ·have h0:(D6 l).2=0:=(by simpa using hq);simp only[AB,Au];rw[← h0]
 ·rintro m S h' ⟨g9,g10,k,o,pre,g11,g4,hk,rfl,hg,hpl,tl,hinv⟩;by_cases hlt:k<l.length
  ·have hd:decide ((k:Int)<(l.length:Int))=true:=(by simp;omega);have w7:IntKind.i64.wrap ((k:Int)+1)=k+1:=(by rw[Br (by omega) (by omega)]);obtain⟨x,hx⟩: ∃ x,l[k]? =some x:=⟨_,AU hlt⟩;have hr:=Sx.rows_get hx;have hc:=hf x (C7 hx);rw[Cm hx]at hinv;simp only[D6]at hinv;generalize hE:Cf x=E at hc hinv;obtain⟨f,c⟩:=E;simp only at hc hinv;clear hE hf;obtain⟨ki,va,li,co,te,ks⟩:=x;simp only[Sx.cells]at hr hc;have n3:(h'.next=h'.next+1)=False:=(by simp);cases hcc:c==0 with
   |false=>
    rw[hcc]at hinv;simp only[AI]at hinv;have e0:AO c=Aj c:=(by simp only[AO,hcc,AI]);rw[e0]at hc;simp only[Aj]at hc;have hq:D6 l=([],c):=(by rw[hinv];simp only[hcc,AI]);rw[hq];obtain⟨fop,fna,far,fpa,fex,fki⟩:=f;simp only[Fm.cells]at hc;replace zz:=Aq g9 g10 g11 g4 hd hr;refine wt zz ?_;replace zz:=Aq g9 g10 g11 g4 hd hr;refine uU zz (hc _) ?_;replace zz:=BO g9 g10 g11 g4 hd hr n3 @B2;refine wt zz ?_;rw[e0];refine⟨?_,(((hg.new _).set hg.le _).new _).set (show h.next<=h'.next+1 by have:=hg.le;omega) _⟩;simp only[Aj,Fm.rows,AF,AL];exact⟨_,rfl,.inr (.inl ⟨rfl,.inr rfl⟩),rfl,trivial⟩
   |true=>
    have e0:AO c= .sc .nilIface:=(by simp only[AO,hcc,AB]);rw[e0]at hc;have hto:=Rr tl;have hrows:Fm.rows (pre++[f])=Fm.rows pre++[f.cells]:=(by simp only[Fm.rows_map,Qe,BS,B5]);obtain⟨fop,fna,far,fpa,fex,fki⟩:=f;simp only[Fm.cells]at hc hrows;generalize hH2:((((h'.new (.arr 6 [[.sc (.int .i64 0),.sc (.int .i64 0),.sc (.int .i64 0),.sc (.int .i64 0),.sc (.string ⟨#[]⟩),.sc (.slice none 0 0)]])).set h'.next (.arr 6 [[.sc (.int .i64 ki),.sc (.int .i64 va),.sc (.int .i64 li),.sc (.int .i64 co),A2 te,.imm 6 (Sx.rows ks)]])).new (.arr 6 [[.sc (.string ⟨#[]⟩),.sc (.string ⟨#[]⟩),.sc (.slice none 0 0),.sc (.slice none 0 0),.sc (.slice none 0 0),.sc (.slice none 0 0)]])).set (h'.next+1) (.arr 6 [[A2 fop,A2 fna,.imm 1 (AN far),.imm 2 (A7 fpa),.imm 5 (Ex.rows fex),.imm 6 (Fm.rows fki)]]))=H2;have hnn:H2.next=h'.next+1+1:=by rw[← hH2];simp[A0.new,A0.set]
    have hold: ∀ j,j<h'.next->H2.obj j=h'.obj j:=λj hj=>by
     have a1:¬ j=h'.next:=by omega
     have a2:¬ j=h'.next+1:=by omega
     rw[← hH2];simp only[A0.new,A0.set,a1,a2,AP]
    have tl2:=tl.up (h':=H2) (by omega) (λj _ hj=>hold j hj);have hg2:AC h H2:=(by rw[← hH2];exact(((hg.new _).set hg.le _).new _).set (show h.next<=h'.next+1 by have:=hg.le;omega) _);obtain⟨H,t1,t2,t3,t4,t5⟩:=tl2.tail;have hkp:=t5 h ⟨hg2.le,hg2.old⟩ (AD _);have hgH:AC h H:=⟨hkp.1,hkp.2⟩;have hpr:(Fm.rows pre).length=k:=(by rw[Fm.rows_len];exact hpl);have hb:(k+1)*128<=140737488355328:=(by omega);have hob:H2.obj (h'.next+1)=some (.arr 6 [[A2 fop,A2 fna,.imm 1 (AN far),.imm 2 (A7 fpa),.imm 5 (Ex.rows fex),.imm 6 (Fm.rows fki)]]):=(by rw[← hH2];simp[A0.set]);replace zz:=Aq g9 g10 g11 g4 hd hr;refine wt zz ?_;replace zz:=Aq g9 g10 g11 g4 hd hr;refine uU zz (hc _) ?_;replace zz:=AY g9 g10 g11 g4 n3 @B2 hH2 hob t1 t2 hpr (uu hb w7);(repeat'(first|refine cK ?_|refine nK ?_|refine Ae λK hK=>?_|refine uR zz ?_|refine uQ zz λK hK=>?_|refine uK ?_|refine Bo zz ?_|(refine uN hK ?_;clear hK)|(rw[AG];rotate_left 1;omega;simp only[Ty.w,simprocAttr,g9,g10,g11,g4,n3,B2,hH2,hob,t1,t2,hpr,hb,w7])|apply zI));rw[← hrows];have hgr:=Tl.grow (H:=H) (id0:=h.next) (z:=6) (len:=k+1) (rows:=Fm.rows (pre++[Fm.mk fop fna far fpa fex fki])) hkp.1 (by rw[Fm.rows_len];simp[hpl]);refine⟨l.length-(k+1),by omega,k+1,.own H.next 0 (k+1),pre++[Fm.mk fop fna far fpa fex fki],by simp,by rw[t3,hnn],by omega,rfl,hgH.new _,by simp[hpl],hgr,?_⟩;rw[hinv,hcc];simp only[AB];cases hq:(D6 (List.drop (k+1) l)).2==0 with
    |false=>simp only[hq,AI]
    |true=>simp only[AB,D8,HW,C3,Au]
  ·have hd:decide ((k:Int)<(l.length:Int))=false:=(by simp;omega);rw[D3 (by omega)]at hinv;have hq:D6 l=(pre,0):=(by rw[hinv];simp[D6]);replace zz:=As g9 g10 g11 g4 hd;refine wt zz ?_;have e2:AO 0= .sc .nilIface:=rfl;rw[hq];simp only[e2];refine⟨?_,hg⟩;have h1:=Vt (AD _) tl;unfold AF;refine⟨_,rfl,?_⟩;unfold AL;refine⟨h1,?_⟩;unfold AL;exact⟨by simp only[AF],by simp only[AL]⟩
end Go.Proofs.YtblgchkahpgdjaaGreat
namespace Go.Proofs.YtblgchkahpgdjaaGreat
open Go.AM Go.Proofs.Tryz
set_option maxHeartbeats 4000000
set_option maxRecDepth 20000
theorem gl{w:ByteArray}{x y:Sx}(hx:x.ok)(hy:y.ok)
  (cx: ∀ h:A0,A6 prog 168 [.agg x.cells] h λr h'=>r= .tup [.agg (BV x).1.cells,AO (BV x).2]/\h'=h)
  (cy: ∀ h:A0,A6 prog 168 [.agg y.cells] h λr h'=>r= .tup [.agg (BV y).1.cells,AO (BV y).2]/\h'=h)(h:A0):
  A6 prog 183 [A2 w,.agg x.cells,.agg y.cells] h λr h'=>r= .tup [.agg (Hi w x y).1.cells,AO (Hi w x y).2]/\h'=h:=by
 refine A6.frz Ty.Us ?_;have ht:=λh:A0=>Rl (l:=[x,y]) (by simp) (by simp[hx,hy]) h;generalize hF:Hi w x y=F;unfold Hi at hF;have hti:=DO;generalize CF [x,y]=T at ht hF;obtain⟨t,c⟩:=T;have hi1:=Pi;generalize BV x=X at cx hF;obtain⟨ex,c1⟩:=X;generalize BV y=Y at cy hF;obtain⟨ey,c2⟩:=Y;obtain⟨kx,vx,lx,ox,tx,sx⟩:=x;obtain⟨ky,vy,ly,oy,ty,sy⟩:=y;obtain⟨ER,ana,an,aar,aki⟩:=ex;obtain⟨bop,bna,bn,bar,bki⟩:=ey;simp only[Ax]at hF;simp only[Sx.rows,Sx.cells,Ex.cells]at ht cx cy⊢;have hgr: ∀ r,AC h ((h.new (.arr 6 [[.sc (.string ⟨#[]⟩),.sc (.string ⟨#[]⟩),.sc (.slice none 0 0),.sc (.slice none 0 0),.sc (.slice none 0 0),.sc (.slice none 0 0)]])).set h.next r):=λr=>((AC.refl h).new _).set (AD _) _;refine AE func183 ntmps183 results183 Ty.Us ?_;refine xH 1 A3 ?_;refine⟨?_⟩;refine DA (λS h'=>S 0=A2 w/\S 4= .cptr (Sx.mk kx vx lx ox tx sx).cells/\S 5= .cptr (Sx.mk ky vy ly oy ty sy).cells/\S 6= .ptr h.next 0 0/\h'=h.new (.arr 6 [[.sc (.string ⟨#[]⟩),.sc (.string ⟨#[]⟩),.sc (.slice none 0 0),.sc (.slice none 0 0),.sc (.slice none 0 0),.sc (.slice none 0 0)]])/\(A1 w CR&&kx==1&&ky==1)=false) ?_ ?_
 ·clear cx cy;simp only[Sx.cells];cases q1:(w.data.toList==(#[61]:Array UInt8).toList)with
  |false=>
   have q1':A1 w CR=false:=q1;refine wm q1 ?_;try exact zI
   all_goals first|rfl|(simp only[Ty.w,simprocAttr,q1',B9];done)
  |true=>
   have q1':A1 w CR=true:=q1;cases q2:(kx==1)with
   |false=>
    refine wm (uu q1 q2) ?_;try exact zI
    all_goals first|rfl|(simp only[Ty.w,simprocAttr,q1',q2,B9,B8];done)
   |true=>
    cases q3:(ky==1)with
    |false=>
     refine wm (AV q1 q2 q3) ?_;try exact zI
     all_goals first|rfl|(simp only[Ty.w,simprocAttr,q1',q2,q3,B8];done)
    |true=>
     rw[q1',q2,q3]at hF;simp only[Cc,AB]at hF;subst hF;cases hc:c==0 with
     |true=>
      have e0:AO c= .sc .nilIface:=(by simp only[AO,hc,AB]);rw[e0]at ht⊢;refine wt (AV q1 q2 q3) ?_;refine uU (AV q1 q2 q3) (ht _) ?_;refine wt A3 ?_;refine⟨?_,hgr _⟩;simp only[C9,Fm.cells,Ex.rows,Fm.rows,A7,B5,AF,AL];exact⟨_,rfl,⟨_,rfl,rfl,rfl,.inl ⟨rfl,hti _ _⟩,.inr (.inl ⟨rfl,.inr rfl⟩),.inr (.inl ⟨rfl,.inr rfl⟩),.inr (.inl ⟨rfl,.inr rfl⟩),trivial⟩,rfl,trivial⟩
     |false=>
      have e0:AO c=Aj c:=(by simp only[AO,hc,AI]);rw[e0]at ht⊢;simp only[Aj]at ht⊢;refine wt (AV q1 q2 q3) ?_;refine uU (AV q1 q2 q3) (ht _) ?_;refine wt A3 ?_;refine⟨?_,hgr _⟩;simp only[C9,Fm.cells,Ex.rows,Fm.rows,A7,B5,AF,AL];exact⟨_,rfl,⟨_,rfl,rfl,rfl,.inl ⟨rfl,hti _ _⟩,.inr (.inl ⟨rfl,.inr rfl⟩),.inr (.inl ⟨rfl,.inr rfl⟩),.inr (.inl ⟨rfl,.inr rfl⟩),trivial⟩,rfl,trivial⟩
 ·rintro S h' ⟨g0,g4,g5,g6,rfl,hq⟩;rw[hq]at hF
  clear ht hq;simp only[AI]at hF;simp only[Sx.cells]at g4 g5;have n1:(h.next=h.next+1)=False:=by simp
  have n2:(h.next=h.next+1+1)=False:=by simp;omega
  have n3:(h.next+1=h.next+1+1)=False:=by simp
  have hgr2: ∀ o1 o2 r,AC h ((((h.new (.arr 6 [[.sc (.string ⟨#[]⟩),.sc (.string ⟨#[]⟩),.sc (.slice none 0 0),.sc (.slice none 0 0),.sc (.slice none 0 0),.sc (.slice none 0 0)]])).new o1).set (h.next+1) o2).set h.next r):=λo1 o2 r=>((((AC.refl h).new _).new _).set (Oj _) _).set (AD _) _;have hgr3: ∀ o1 o2 o3 o4 r,AC h ((((((h.new (.arr 6 [[.sc (.string ⟨#[]⟩),.sc (.string ⟨#[]⟩),.sc (.slice none 0 0),.sc (.slice none 0 0),.sc (.slice none 0 0),.sc (.slice none 0 0)]])).new o1).set (h.next+1) o2).new o3).set (h.next+1+1) o4).set h.next r):=λo1 o2 o3 o4 r=>((((((AC.refl h).new _).new _).set (Oj _) _).new _).set (by omega) _).set (AD _) _;cases hc1:c1==0 with
  |false=>
   rw[hc1]at hF;simp only[AI]at hF;subst hF;have e0:AO c1=Aj c1:=(by simp only[AO,hc1,AI]);rw[e0]at cx⊢;simp only[Aj]at cx⊢;replace zz:=Aa g0 g4 g5 g6;refine wt zz ?_;replace zz:=Aa g0 g4 g5 g6;refine uU zz (cx _) ?_;replace zz:=Aq g0 g4 g5 g6 n1 @B2;refine wt zz ?_;refine⟨?_,hgr2 _ _ _⟩;simp only[Ce,Fm.cells,Ex.rows,Fm.rows,A7,AN,B5,AF,AL];exact⟨_,rfl,⟨_,rfl,rfl,rfl,.inr (.inl ⟨rfl,.inr rfl⟩),.inr (.inl ⟨rfl,.inr rfl⟩),.inr (.inl ⟨rfl,.inr rfl⟩),.inr (.inl ⟨rfl,.inr rfl⟩),trivial⟩,rfl,trivial⟩
  |true=>
   rw[hc1]at hF;simp only[AB]at hF;have e0:AO c1= .sc .nilIface:=(by simp only[AO,hc1,AB]);rw[e0]at cx;cases hc2:c2==0 with
   |false=>
    rw[hc2]at hF;simp only[AI]at hF;subst hF;have e1:AO c2=Aj c2:=(by simp only[AO,hc2,AI]);rw[e1]at cy⊢;simp only[Aj]at cy⊢;replace zz:=Aa g0 g4 g5 g6;refine wt zz ?_;replace zz:=Aa g0 g4 g5 g6;refine uU zz (cx _) ?_;replace zz:=Aq g0 g4 g5 g6 n1 @B2;refine wt zz ?_;replace zz:=Aa g0 g4 g5 g6;refine uU zz (cy _) ?_;replace zz:=BO g0 g4 g5 g6 n1 n2 n3 @B2;refine wt zz ?_;refine⟨?_,hgr3 _ _ _ _ _⟩;simp only[Ce,Fm.cells,Ex.rows,Fm.rows,A7,AN,B5,AF,AL];exact⟨_,rfl,⟨_,rfl,rfl,rfl,.inr (.inl ⟨rfl,.inr rfl⟩),.inr (.inl ⟨rfl,.inr rfl⟩),.inr (.inl ⟨rfl,.inr rfl⟩),.inr (.inl ⟨rfl,.inr rfl⟩),trivial⟩,rfl,trivial⟩
   |true=>
    rw[hc2]at hF;simp only[AB]at hF;have e1:AO c2= .sc .nilIface:=(by simp only[AO,hc2,AB]);rw[e1]at cy;have e2:AO 0= .sc .nilIface:=rfl;cases p1:(w.data.toList==(#[62]:Array UInt8).toList)with
    |true=>
     rw[AG (show A1 w Il=true from p1)]at hF;subst hF;replace zz:=Aa g0 g4 g5 g6;refine wt zz ?_;replace zz:=Aa g0 g4 g5 g6;refine uU zz (cx _) ?_;replace zz:=Aq g0 g4 g5 g6 n1 @B2;refine wt zz ?_;replace zz:=Aa g0 g4 g5 g6;refine uU zz (cy _) ?_;replace zz:=BK g0 g4 g5 g6 n1 n2 n3 @B2 p1;refine wt zz ?_;refine⟨?_,hgr3 _ _ _ _ _⟩;simp only[e2,D0,Fm.cells,Ex.cells,Ex.rows,Fm.rows,A7,AN,B5,AF,AL];exact⟨_,rfl,⟨_,rfl,rfl,rfl,.inr (.inl ⟨rfl,.inr rfl⟩),.inr (.inl ⟨rfl,.inr rfl⟩),.inl ⟨rfl,Dq _ [.mk bop bna bn bar bki,.mk ER ana an aar aki]⟩,.inr (.inl ⟨rfl,.inr rfl⟩),trivial⟩,rfl,trivial⟩
    |false=>
     rw[A4 (show ¬ A1 w Il=true by rw[show A1 w Il=false from p1];simp)]at hF;cases p2:(w.data.toList==(#[62,61]:Array UInt8).toList)with
     |true=>
      rw[AG (show A1 w JJ=true from p2)]at hF;subst hF;replace zz:=Aa g0 g4 g5 g6;refine wt zz ?_;replace zz:=Aa g0 g4 g5 g6;refine uU zz (cx _) ?_;replace zz:=Aq g0 g4 g5 g6 n1 @B2;refine wt zz ?_;replace zz:=Aa g0 g4 g5 g6;refine uU zz (cy _) ?_;replace zz:=B7 g0 g4 g5 g6 n1 n2 n3 @B2 p1 p2;refine wt zz ?_;refine⟨?_,hgr3 _ _ _ _ _⟩;simp only[e2,DN,Fm.cells,Ex.cells,Ex.rows,Fm.rows,A7,AN,B5,AF,AL];exact⟨_,rfl,⟨_,rfl,rfl,rfl,.inr (.inl ⟨rfl,.inr rfl⟩),.inr (.inl ⟨rfl,.inr rfl⟩),.inl ⟨rfl,Dq _ [.mk bop bna bn bar bki,.mk ER ana an aar aki]⟩,.inr (.inl ⟨rfl,.inr rfl⟩),trivial⟩,rfl,trivial⟩
     |false=>
      rw[A4 (show ¬ A1 w JJ=true by rw[show A1 w JJ=false from p2];simp)]at hF;subst hF;replace zz:=Aa g0 g4 g5 g6;refine wt zz ?_;replace zz:=Aa g0 g4 g5 g6;refine uU zz (cx _) ?_;replace zz:=Aq g0 g4 g5 g6 n1 @B2;refine wt zz ?_;replace zz:=Aa g0 g4 g5 g6;refine uU zz (cy _) ?_;replace zz:=B7 g0 g4 g5 g6 n1 n2 n3 @B2 p1 p2;refine wt zz ?_;refine⟨?_,hgr3 _ _ _ _ _⟩;simp only[e2,Fm.cells,Ex.cells,Ex.rows,Fm.rows,A7,AN,B5,AF,AL];exact⟨_,rfl,⟨_,rfl,rfl,rfl,.inr (.inl ⟨rfl,.inr rfl⟩),.inr (.inl ⟨rfl,.inr rfl⟩),.inl ⟨rfl,Dq _ [.mk ER ana an aar aki,.mk bop bna bn bar bki]⟩,.inr (.inl ⟨rfl,.inr rfl⟩),trivial⟩,rfl,trivial⟩
end Go.Proofs.YtblgchkahpgdjaaGreat
namespace Go.Proofs.YtblgchkahpgdjaaGreat
open Go.AM Go.Proofs.Tryz
set_option maxHeartbeats 4000000
set_option maxRecDepth 20000
theorem gm{don:List Pm}{pen:List ByteArray}{t s:ByteArray}{j:Nat}(hj:pen[j]? =some s):
  (A7 (don++Bi t (pen.take j)++Bi Dd (pen.drop j)))[don.length+j]? =some [A2 s,A2 Dd]/\
  (A7 (don++Bi t (pen.take j)++Bi Dd (pen.drop j))).set (don.length+j) [A2 s,A2 t]=A7 (don++Bi t (pen.take (j+1))++Bi Dd (pen.drop (j+1))):=by
 have hjl:j<pen.length:=(BC.1 hj).1;have hA:(A7 (don++Bi t (pen.take j))).length=don.length+j:=by simp[A7,Bi];omega
 have e1:A7 (don++Bi t (pen.take j)++Bi Dd (pen.drop j))=A7 (don++Bi t (pen.take j))++([A2 s,A2 Dd]::A7 (Bi Dd (pen.drop (j+1)))):=by
  rw[Cm hj];simp[A7,Bi,LZ]
 have e2:A7 (don++Bi t (pen.take (j+1))++Bi Dd (pen.drop (j+1)))=A7 (don++Bi t (pen.take j))++([A2 s,A2 t]::A7 (Bi Dd (pen.drop (j+1)))):=by
  rw[Jc,hj];simp[A7,Bi,LZ]
 rw[e1,e2];constructor
 ·rw [L5 (by omega),hA];simp
 ·rw [NH _ _ (by omega),hA];simp
theorem gp(vars:Bool)(x:Sx)(l:List Sx)(don:List Pm)(pen:List ByteArray):EN vars (x::l) don pen=(bif Hh x then
   (bif A1 (Ah x) Fx then (match l with
    |[]=>([],2)
    |t::l'=>bif !pen.isEmpty&&Hh t then(bif Gd (Ah t)then EN vars l' (don++Bi (Ah t) pen) []else([],8))else([],2))
   else bif (bif vars then Eg (Ah x)else An (Ah x))then EN vars l don (pen++[Ah x])else([],8))
  else([],2)):=by
 cases l<;>(conv=>lhs;unfold EN)
theorem S9{P:Program}{ow:Nat->Bool}{wf:FuncId->Bool}{n:Nat}{Q:BA}{s:A9}{h:A0}{c:Code}(I:A9->A0->Prop)(hi:I s h)(hh: ∀ s h,I s h->Ad P ow wf n c Q s h):Ad P ow wf n c Q s h:=hh _ _ hi
theorem Vv(l:List Pm): ∀ r∈A7 l, ∀ p∈r, ∃ v,p=PV.sc v:=by
 intro r hr p hp;simp only[A7,Er]at hr;obtain⟨x,_,rfl⟩:=hr;simp only[LZ,D7,Gn,HE]at hp;rcases hp with rfl|rfl
 ·exact ⟨_,rfl⟩
 ·exact ⟨_,rfl⟩
theorem Vw{h:A0}{id0:Nat}{p:PV}{l:List Pm}(t:Tl h id0 2 p (A7 l)):AF id0 h (.imm 2 (A7 l)) p:=t.frz (Vv l)
theorem Lp{vars:Bool}{l:List Sx}(hl:l.length<=1048576)(hok: ∀ x∈l,x.ok)(h:A0):
  A6 prog 118 [.imm 6 (Sx.rows l),.sc (.bool vars)] h λr h'=>r= .tup [.imm 2 (A7 (Bt vars l).1),AO (Bt vars l).2]/\h'=h:=by
 refine A6.frz Ty.UY ?_;have hll:=Sx.rows_len l;generalize hF:Bt vars l=F;have bad: ∀ (c:Int)(h':A0),c=2\/c=8->AC h h'->F=([],c)->AF h.next h' (.tup [.imm 2 (A7 F.1),AO F.2]) (.tup [.sc (.slice none 0 0),Aj c])/\AC h h':=by
  intro c h' hc hg hf;subst hf;have:AO c=Aj c:=by rcases hc with rfl|rfl<;>rfl
  simp only[this];refine⟨?_,hg⟩;simp only[Aj,A7,B5,AF,AL];exact⟨_,rfl,.inr (.inl ⟨rfl,.inr rfl⟩),rfl,trivial⟩
 simp only[Aj]at bad;refine AE func118 ntmps118 results118 Ty.UY ?_;refine wt A3 ?_;refine Cd (λm S h'=>S 0= .imm 6 (Sx.rows l)/\S 1= .sc (.bool vars)/\ ∃ (k:Nat)(o:PV)(don:List Pm)(pen:List ByteArray),S 8= .sc (.int .i64 k)/\S 6=o/\S 7= .sc (.int .i64 don.length)/\k<=l.length/\m=l.length-k/\don.length+pen.length<=k/\AC h h'/\Tl h' h.next 2 o (A7 (don++Bi Dd pen))/\F=EN vars (l.drop k) don pen) l.length ?_ ?_
 ·simp only[Ty.w,simprocAttr];exact⟨0,_,[],[],rfl,rfl,rfl,by omega,rfl,by simp,AC.refl _,Tl.nil,by rw[← hF];try rfl⟩
 ·rintro m S h' ⟨g0,g1,k,o,don,pen,g8,g6,g7,hk,rfl,hdp,hg,tl,hinv⟩
  clear hF;by_cases hlt:k<l.length
  ·have hd:decide ((k:Int)<(l.length:Int))=true:=(by simp;omega);have w7:IntKind.i64.wrap ((k:Int)+1)=k+1:=(by rw[Br (by omega) (by omega)]);obtain⟨x,hx⟩: ∃ x,l[k]? =some x:=⟨_,AU hlt⟩;have hr:=Sx.rows_get hx;have hxk:=hok x (C7 hx);have hv:=λh:A0=>JI hxk h;have hte:=Vr hxk;rw[Cm hx]at hinv;simp only[gp,Hh]at hinv;generalize CL x 0 0=V at hv hinv;obtain⟨vb,vn⟩:=V;obtain⟨ki,va,li,co,te,ks⟩:=x;simp only[Ax,Ah]at hinv hte;simp only[Sx.cells]at hr hv;have hte':te.size<=9223372036854775807:=(by unfold AJ at hte;omega);cases q1:(ki !=1)with
   |true=>
    rw[show(ki==1)=false by simpa using q1]at hinv;simp only[B9,AI]at hinv;replace zz:=BK g0 g1 g6 g7 g8 hll hd hr q1;refine wt zz ?_;exact bad 2 _ (.inl rfl) hg hinv
   |false=>
    rw[show(ki==1)=true by simpa using q1]at hinv;cases vb with
    |false=>
     simp only[BD,AI]at hinv;replace zz:=BK g0 g1 g6 g7 g8 hll hd hr q1;refine wt zz ?_;replace zz:=B7 g0 g1 g6 g7 g8 hll hd hr q1 yF;refine uU zz (hv _) ?_;replace zz:=Aq g0 g1 g6 g7 g8 yF;refine wt zz ?_;exact bad 2 _ (.inl rfl) hg hinv
    |true=>
     simp only[L9,AB]at hinv;replace zz:=BK g0 g1 g6 g7 g8 hll hd hr q1;refine xH 9 zz ?_;replace zz:=B7 g0 g1 g6 g7 g8 hll hd hr q1 yT;refine uU zz (hv _) ?_;replace zz:=Ag g0 g1 g6 g7 g8 hr yT;refine xH 9 zz ?_;refine⟨?_⟩;refine S9 (λS h2=>S 0= .imm 6 (Sx.rows l)/\S 1= .sc (.bool vars)/\S 6=o/\S 7= .sc (.int .i64 don.length)/\S 8= .sc (.int .i64 k)/\S 9=A2 te/\h2=h') ?_ ?_
     ·simp only[Ty.w,simprocAttr,g0,g1,g6,g7,g8]
     clear g0 g1 g6 g7 g8 hv hr q1;rintro S h' ⟨g0,g1,g6,g7,g8,g9,rfl⟩;have hrl:(A7 (don++Bi Dd pen)).length=don.length+pen.length:=(by rw[IA];simp[Bi]);obtain⟨n,hn⟩: ∃ n,n=don.length+pen.length:=⟨_,rfl⟩;rw[← hn]at hrl;cases q2:(te.data.toList==(#[45]:Array UInt8).toList)with
     |false=>
      rw[show A1 te Fx=false from q2]at hinv;simp only[AI]at hinv;have hap:A7 (don++Bi Dd pen)++[[.sc (.string te),.sc (.string ⟨#[111,98,106,101,99,116]⟩)]]=A7 (don++Bi Dd (pen++[te])):=(by simp[A7,Bi,LZ,Dd]);have hb:(n+1)*32<=140737488355328:=(by omega);obtain⟨H,t1,t2,t3,t4,t5⟩:=tl.tail;have hkp:=t5 h ⟨hg.le,hg.old⟩ (AD _);have hgH:AC h H:=⟨hkp.1,hkp.2⟩;have fin2:AC h (H.new (.arr 2 (A7 (don++Bi Dd (pen++[te])))))/\Tl (H.new (.arr 2 (A7 (don++Bi Dd (pen++[te]))))) h.next 2 (.own H.next 0 (n+1)) (A7 (don++Bi Dd (pen++[te]))):=
       ⟨hgH.new _,Tl.grow hkp.1 (by rw[IA];simp[Bi];omega)⟩
      rw[t3]at fin2;cases vars with
      |true=>
       simp only[AB]at hinv;have hc:=λh:A0=>Lg (h:=h) hte';cases v1:Eg te with
       |false=>
        rw[v1]at hinv hc;simp only[AI]at hinv;replace zz:=BK g0 g1 g6 g7 g8 g9 q2 yT yF;refine wt zz ?_;replace zz:=Ag g0 g1 g6 g7 g8 g9 yF;refine uU zz (hc _) ?_;refine wt zz ?_;exact bad 8 _ (.inr rfl) hg hinv
       |true=>
        rw[v1]at hinv hc;simp only[AB]at hinv;replace zz:=BK g0 g1 g6 g7 g8 g9 q2 yT yF;refine wt zz ?_;replace zz:=Ag g0 g1 g6 g7 g8 g9 yT;refine uU zz (hc _) ?_;replace zz:=AY g0 g1 g6 g7 g8 g9 yT t1 t2 hrl hb (uu hap w7);(repeat'(first|refine cK ?_|refine nK ?_|refine Ae λK hK=>?_|refine uR zz ?_|refine uK ?_|refine uX ?_|refine Bo zz ?_|(refine uN hK ?_;clear hK)|(clear hK;refine uN hK ?_;clear hK)|(rw[AG];rotate_left 1;omega;simp only[Ty.w,simprocAttr,g0,g1,g6,g7,g8,g9,Ap,t1,t2,hrl,hb,hap,w7])|apply zI));exact⟨l.length-(k+1),by omega,k+1,_,don,pen++[te],by simp,rfl,rfl,by omega,rfl,by simp;omega,fin2.1,fin2.2,hinv⟩
      |false=>
       simp only[AI]at hinv;have hc:=λh:A0=>FI (h:=h) hte';cases v1:An te with
       |false=>
        rw[v1]at hinv hc;simp only[AI]at hinv;replace zz:=BK g0 g1 g6 g7 g8 g9 q2 yT yF;refine wt zz ?_;replace zz:=Ag g0 g1 g6 g7 g8 g9 yF;refine uU zz (hc _) ?_;refine wt zz ?_;exact bad 8 _ (.inr rfl) hg hinv
       |true=>
        rw[v1]at hinv hc;simp only[AB]at hinv;replace zz:=BK g0 g1 g6 g7 g8 g9 q2 yT yF;refine wt zz ?_;replace zz:=Ag g0 g1 g6 g7 g8 g9 yT;refine uU zz (hc _) ?_;replace zz:=AY g0 g1 g6 g7 g8 g9 yT t1 t2 hrl hb (uu hap w7);(repeat'(first|refine cK ?_|refine nK ?_|refine Ae λK hK=>?_|refine uR zz ?_|refine uK ?_|refine uX ?_|refine Bo zz ?_|(refine uN hK ?_;clear hK)|(clear hK;refine uN hK ?_;clear hK)|(rw[AG];rotate_left 1;omega;simp only[Ty.w,simprocAttr,g0,g1,g6,g7,g8,g9,Ap,t1,t2,hrl,hb,hap,w7])|apply zI));exact⟨l.length-(k+1),by omega,k+1,_,don,pen++[te],by simp,rfl,rfl,by omega,rfl,by simp;omega,fin2.1,fin2.2,hinv⟩
     |true=>
      rw[show A1 te Fx=true from q2]at hinv;simp only[AB]at hinv;have hsl:=tl.sl;have hlo:=hsl.len;rw[hrl]at hlo;have hlk:=hsl.lk;replace zz:=BK g0 g1 g6 g7 g8 g9 q2 w7 yT;refine xH 14 zz ?_;refine⟨?_⟩;refine S9 (λS h2=>S 0= .imm 6 (Sx.rows l)/\S 1= .sc (.bool vars)/\S 6=o/\S 7= .sc (.int .i64 don.length)/\S 8= .sc (.int .i64 ((k:Int)+1))/\h2=h') ?_ ?_
      ·simp only[Ty.w,simprocAttr,g0,g1,g6,g7,g8]
      clear g0 g1 g6 g7 g8 g9 w7;rintro S h' ⟨g0,g1,g6,g7,g8,rfl⟩;obtain⟨k1,hk1⟩: ∃ k1:Int,k1=(k:Int)+1:=⟨_,rfl⟩;rw[← hk1]at g8;cases hpe:pen.isEmpty with
      |true=>
       have hpe':pen=[]:=KM.1 hpe;have hF2:F=([],2):=by
        rw[hinv,hpe];split
        ·rfl
        ·rfl
       have hdd:((don.length:Int)==(n:Int))=true:=(by rw[hn,hpe'];simp);replace zz:=BO g0 g1 g6 g7 g8 hlo hlk hdd;refine wt zz ?_;exact bad 2 _ (.inl rfl) hg hF2
      |false=>
       rw[hpe]at hinv;simp only[C4,B8]at hinv;have hp0:0<pen.length:=by
        cases pen with
        |nil=>simp at hpe
        |cons _ _=>simp
       have hdd:((don.length:Int)==(n:Int))=false:=(by rw[hn];simp;omega);by_cases hl2:k+1<l.length
       ·have hd2:(k1==(l.length:Int))=false:=(by rw[hk1];simp;omega);obtain⟨y,hy⟩: ∃ y,l[k+1]? =some y:=⟨_,AU hl2⟩;have hyk:=hok y (C7 hy);have hvy:=λh:A0=>JI hyk h;have htey:=Vr hyk;rw[Cm hy]at hinv;simp only at hinv;have hry:(Sx.rows l)[k1.toNat]? =some y.cells:=(by rw[hk1];exact Sx.rows_get hy);generalize CL y 0 0=V2 at hvy hinv;obtain⟨vb2,vn2⟩:=V2;obtain⟨ki2,va2,li2,co2,te2,ks2⟩:=y;simp only[Ax,Ah]at hinv htey;simp only[Sx.cells]at hry hvy;have hcy:=λh:A0=>Rf (h:=h) htey;have hk0:(0:Int)<=k1:=(by omega);cases q3:(ki2 !=1)with
        |true=>
         rw[show(ki2==1)=false by simpa using q3]at hinv;simp only[B9,AI]at hinv;replace zz:=AY g0 g1 g6 g7 g8 hlo hlk hdd hll hd2 hry (uu hk0 q3);refine wt zz ?_;exact bad 2 _ (.inl rfl) hg hinv
        |false=>
         rw[show(ki2==1)=true by simpa using q3]at hinv;simp only[B8]at hinv;cases vb2 with
         |false=>
          simp only[AI]at hinv;replace zz:=AY g0 g1 g6 g7 g8 hlo hlk hdd hll hd2 hry (uu hk0 q3);refine wt zz ?_;replace zz:=BO g0 g1 g6 g7 g8 hry hk0 yF;refine uU zz (hvy _) ?_;replace zz:=Aq g0 g1 g6 g7 g8 yF;refine wt zz ?_;exact bad 2 _ (.inl rfl) hg hinv
         |true=>
          simp only[AB]at hinv;cases v3:Gd te2 with
          |false=>
           rw[v3]at hinv hcy;simp only[AI]at hinv;replace zz:=AY g0 g1 g6 g7 g8 hlo hlk hdd hll hd2 hry (uu hk0 q3);refine wt zz ?_;replace zz:=BO g0 g1 g6 g7 g8 hry hk0 yT;refine uU zz (hvy _) ?_;refine wt zz ?_;replace zz:=BO g0 g1 g6 g7 g8 hry hk0 yF;refine uU zz (hcy _) ?_;replace zz:=Aq g0 g1 g6 g7 g8 yF;refine wt zz ?_;exact bad 8 _ (.inr rfl) hg hinv
          |true=>
           rw[v3]at hinv hcy;simp only[AB]at hinv;obtain⟨id,i1,i2,ho,i4⟩: ∃ id,h.next<=id/\id<h'.next/\o= .own id 0 n/\h'.obj id=some (.arr 2 (A7 (don++Bi Dd pen))):=by
            rcases tl with⟨hn0,_⟩|⟨id,i1,i2,i3,i4⟩
            ·rw [hn0]at hrl;simp at hrl;omega
            ·rw [hrl]at i3;exact⟨id,i1,i2,i3,i4⟩
           subst ho;clear tl hsl;replace zz:=AY g0 g1 g6 g7 g8 hlo hlk hdd hll hd2 hry (uu hk0 q3);refine wt zz ?_;replace zz:=BO g0 g1 g6 g7 g8 hry hk0 yT;refine uU zz (hvy _) ?_;refine wt zz ?_;replace zz:=BO g0 g1 g6 g7 g8 hry hk0 yT;refine uU zz (hcy _) ?_;refine wt zz ?_;refine Cd (λm S h2=>S 0= .imm 6 (Sx.rows l)/\S 1= .sc (.bool vars)/\S 8= .sc (.int .i64 k1)/\S 6= .own id 0 n/\ ∃ j:Nat,S 7= .sc (.int .i64 ((don.length+j:Nat):Int))/\j<=pen.length/\m=pen.length-j/\AC h h2/\h2.next=h'.next/\h2.obj id=some (.arr 2 (A7 (don++Bi te2 (pen.take j)++Bi Dd (pen.drop j))))) pen.length ?_ ?_
           ·simp only[Ty.w,simprocAttr,g0,g1,g6,g7,g8];exact⟨0,by simp,by omega,rfl,hg,by simpa[Bi]using i4⟩
           ·clear g0 g1 g6 g7 g8 i4;rintro m S h2 ⟨g0,g1,g8,g6,j,g7,hj,rfl,hg2,hn2,ob⟩;by_cases hjl:j<pen.length
            ·obtain ⟨q,hqn⟩: ∃ q,q=don.length+j:=⟨_,rfl⟩;obtain⟨s,hs⟩: ∃ s,pen[j]? =some s:=⟨_,AU hjl⟩;obtain⟨hp1,hp2⟩:=gm (don:=don) (t:=te2) hs;rw[← hqn]at g7 hp1 hp2;have hdj:decide ((q:Int)<(n:Int))=true:=(by simp;omega);have wj:IntKind.i64.wrap ((q:Int)+1)=((q+1:Nat):Int):=(by rw[Br (by omega) (by omega)];try rfl);have hjl2:q<n:=(by omega);generalize hR:A7 (don++Bi te2 (pen.take j)++Bi Dd (pen.drop j))=R at ob hp1 hp2;replace zz:=AY g0 g1 g6 g7 g8 hdj wj hry hk0 ob hp1 (uu hp2 hjl2);refine wt zz ?_;refine⟨pen.length-(j+1),by omega,j+1,by rw[hqn];try rfl,by omega,rfl,hg2.set i1 _,hn2,?_⟩;try simp[A0.set]
            ·have hje:j=pen.length:=(by omega);subst hje;rw[← hn]at g7;have hdj:decide ((n:Int)<(n:Int))=false:=(by simp);have w8:IntKind.i64.wrap (k1+1)=((k+2:Nat):Int):=(by rw[hk1,Br (by omega) (by omega)];omega);rw[J7,ML]at ob;have hz:A7 (don++Bi te2 pen++Bi Dd [])=A7 (don++Bi te2 pen):=(by simp[Bi]);rw[hz]at ob;replace zz:=Ag g0 g1 g6 g7 g8 hdj w8;refine wt zz ?_;refine⟨l.length-(k+2),by omega,k+2,_,don++Bi te2 pen,[],rfl,rfl,by rw[hn];simp[Bi],by omega,rfl,by simp[Bi];omega,hg2,?_,hinv⟩;refine .inr ⟨id,i1,by omega,?_,?_⟩
             ·rw [IA,hn];simp[Bi]
             ·rw [ob];simp[Bi]
       ·have hke:k+1=l.length:=(by omega);have hd2:(k1==(l.length:Int))=true:=(by rw[hk1];simp;omega);rw[D3 (by omega)]at hinv;simp only at hinv;replace zz:=B7 g0 g1 g6 g7 g8 hlo hlk hdd hll hd2;refine wt zz ?_;exact bad 2 _ (.inl rfl) hg hinv
  ·have hd:decide ((k:Int)<(l.length:Int))=false:=(by simp;omega);rw[D3 (by omega)]at hinv;simp only[EN]at hinv;subst hinv;replace zz:=Ag g0 g1 g6 g7 g8 hll hd;refine wt zz ?_;have e2:AO 0= .sc .nilIface:=rfl;simp only[e2];refine⟨?_,hg⟩;have h1:=Vw tl;unfold AF;refine⟨_,rfl,?_⟩;unfold AL;refine⟨h1,?_⟩;unfold AL;exact⟨by simp only[AF],by simp only[AL]⟩
end Go.Proofs.YtblgchkahpgdjaaGreat
