/- What the claim rests on, part 7: the abstract machine, contracts of the functions, plain data. -/
import Derived.OpenShut
import Derived.ChangeShapes
import Derived.SizedLaws
import Derived.Test.YtblgchkahpgdjaaGreatZs6
set_option linter.unusedVariables false
set_option linter.unusedSimpArgs false
set_option linter.unusedSectionVars false
namespace Go.Proofs.YtblgchkahpgdjaaGreat
open Go.AM Go.Proofs.Tryz
set_option maxHeartbeats 4000000
set_option maxRecDepth 20000
def Gz(x:Sx):Ex × Int:=if(CM x 0 0).1=true then(if(Bi x).2=0 then(if Ea (Bi x).1=true then((Bi x).1,0)else(By,5))else(By,(Bi x).2))else(By,2)
theorem iS{e:Ex}(hv:Ea e=true)(hs:FD e=true):Gz (BI e)=(e,0):=by
 have h1:=Ry e hs;have h2:(CM (BI e) 0 0).1=true:=by unfold Ea at hv;simp only[AV]at hv;exact hv.2
 unfold Gz;rw[AK h2,h1];simp only[AK,hv]
theorem iT{x:Sx}(hok:x.ok)(h:A1):A6 prog 147 [.agg x.cells] h λr h'=>r= .Am [.agg (Gz x).1.cells,AS (Gz x).2]/\h'=h:=by
 refine A6.CF Ty.Nu ?_;have hv:=λh:A1=>JO hok h;have hX:Gz x=(if(CM x 0 0).1=true then(if(Bi x).2=0 then(if Ea (Bi x).1=true then((Bi x).1,0)else(By,5))else(By,(Bi x).2))else(By,2)):=rfl;generalize Gz x=F at hX;have bad: ∀ (c:Int)(h':A1),(c==0)=false->AH h h'->F=(By,c)->AJ h.next h' (.Am [.agg F.1.cells,AS F.2]) (.Am [.agg [.sc (.string ⟨#[]⟩),.sc (.string ⟨#[]⟩),.sc (.int .i64 0),.sc (.slice none 0 0),.sc (.slice none 0 0)],Ao c])/\AH h h':=by
  intro c h' hc hg hF;subst hF;have:AS c=Ao c:=by simp only[AS,hc,AL]
  simp only[this];refine⟨?_,hg⟩;simp only[Ao,By,Ex.cells,Ex.rows,AN,List.map_nil,AJ,AP];exact⟨_,rfl,⟨_,rfl,rfl,rfl,rfl,.inr (.inl ⟨rfl,.inr rfl⟩),.inr (.inl ⟨rfl,.inr rfl⟩),trivial⟩,rfl,trivial⟩
 simp only[Ao]at bad;have hg1: ∀ r,AH h ((h.new (.arr 5 [[.sc (.string ⟨#[]⟩),.sc (.string ⟨#[]⟩),.sc (.int .i64 0),.sc (.slice none 0 0),.sc (.slice none 0 0)]])).set h.next r):=λr=>((AH.refl h).new _).set (AG _) _;have hg2: ∀ o1 o2 r,AH h ((((h.new (.arr 5 [[.sc (.string ⟨#[]⟩),.sc (.string ⟨#[]⟩),.sc (.int .i64 0),.sc (.slice none 0 0),.sc (.slice none 0 0)]])).new o1).set (h.next+1) o2).set h.next r):=λo1 o2 r=>((((AH.refl h).new _).new _).set (Oo _) _).set (AG _) _;have n1:(h.next=h.next+1)=False:=by simp
 cases v1:(CM x 0 0).1 with
 |false=>
  rw[v1]at hv;rw[A8 (by rw[v1];simp)]at hX;obtain⟨kind,value,line,col,text,kids⟩:=x;simp only[Sx.cells]at hv⊢;refine AF func147 ntmps147 results147 Ty.Nu ?_;refine wt A5 ?_;refine uU A5 (hv _) ?_;refine wt yF ?_;exact bad 2 _ rfl (hg1 _) hX
 |true=>
  have hsm:=Kx v1;have hp:=S4 x hok hsm;have hfo:=Pw x hok hsm;rw[v1]at hv;rw[AK v1]at hX;have hfz:=λn hh=>VV n hh (Bi x).1;generalize Bi x=E at hp hfo hX hfz;obtain⟨f,c⟩:=E;simp only at hp hfo hX hfz;obtain⟨kind,value,line,col,text,kids⟩:=x;simp only[Sx.cells]at hv hp⊢;cases hc:c==0 with
  |false=>
   rw[A8 (by simpa using hc)]at hX;have e0:AS c=Ao c:=(by simp only[AS,hc,AL]);rw[e0]at hp;simp only[Ao]at hp;obtain⟨fop,fna,fnn,far,fki⟩:=f;simp only[Ex.cells]at hp;refine AF func147 ntmps147 results147 Ty.Nu ?_;refine wt A5 ?_;refine uU A5 (hv _) ?_;refine wt yT ?_;refine uU A5 (hp _) ?_;refine wt (uu n1 @B1) ?_;exact bad c _ hc (hg2 _ _ _) hX
  |true=>
   rw[AK (by simpa using hc)]at hX;have e0:AS c= .sc .nilIface:=(by simp only[AS,hc,AC]);rw[e0]at hp;have hV:=λh:A1=>VP hfo.1 hfo.2 h;cases v2:Ea f with
   |false=>
    rw[v2]at hV;rw[A8 (by rw[v2];simp)]at hX;obtain⟨fop,fna,fnn,far,fki⟩:=f;simp only[Ex.cells]at hp hV;refine AF func147 ntmps147 results147 Ty.Nu ?_;refine wt A5 ?_;refine uU A5 (hv _) ?_;refine wt yT ?_;refine uU A5 (hp _) ?_;refine wt (uu n1 @B1) ?_;refine uU (uu n1 @B1) (hV _) ?_;refine wt (AY n1 @B1 yF) ?_;exact bad 5 _ rfl (hg2 _ _ _) hX
   |true=>
    rw[v2]at hV;rw[AK v2]at hX;subst hX;obtain⟨fop,fna,fnn,far,fki⟩:=f;simp only[Ex.cells]at hp hV hfz;have e2:AS 0= .sc .nilIface:=rfl;simp only[e2,Ex.cells];refine AF func147 ntmps147 results147 Ty.Nu ?_;refine wt A5 ?_;refine uU A5 (hv _) ?_;refine wt yT ?_;refine uU A5 (hp _) ?_;refine wt (uu n1 @B1) ?_;refine uU (uu n1 @B1) (hV _) ?_;refine wt (AY n1 @B1 yT) ?_;refine⟨?_,hg2 _ _ _⟩;have h1:=λhh=>hfz h.next hh
    unfold AJ;refine⟨_,rfl,?_⟩;unfold AP;refine⟨?_,by unfold AP;exact⟨by simp only[AJ],by simp only[AP]⟩⟩;unfold AJ;exact⟨_,rfl,h1 _⟩
set_option maxHeartbeats 8000000
def IN(v:Bool)(p:Pm):Bool:=(if v=true then Ey p.name else As p.name)&&Gj p.type
end Go.Proofs.YtblgchkahpgdjaaGreat
namespace Go.AM
mutual
def Nz:PV->PV->Prop
 | .A2 z rows,p=>(∃ rows',p= .A2 z rows'/\FF rows rows')\/(rows=[]/\(p= .emp\/p= .sc (.slice none 0 0)))
 | .agg l,p=> ∃ l',p= .agg l'/\D6 l l'
 |q,p=>p=q
def D6:List PV->List PV->Prop
 |[],[]=>True
 |p::ps,q::qs=>Nz p q/\D6 ps qs
 |_,_=>False
def FF:List (List PV)->List (List PV)->Prop
 |[],[]=>True
 |p::ps,q::qs=>D6 p q/\FF ps qs
 |_,_=>False
end
theorem D6.len:(l l':List PV)->D6 l l'->l.length=l'.length
 |[],[],_=>rfl
 |[],_::_,h=>by simp[D6]at h
 |_::_,[],h=>by simp[D6]at h
 |p::l,q::l',h=>by
  unfold D6 at h;simp only[List.length_cons,D6.len l l' h.2]
theorem FF.len:(l l':List (List PV))->FF l l'->l.length=l'.length
 |[],[],_=>rfl
 |[],_::_,h=>by simp[FF]at h
 |_::_,[],h=>by simp[FF]at h
 |p::l,q::l',h=>by
  unfold FF at h;simp only[List.length_cons,FF.len l l' h.2]
mutual
theorem Nz.refl:(p:PV)->Nz p p
 | .A2 z rows=>by unfold Nz;exact .inl ⟨rows,rfl,FF.refl rows⟩
 | .agg l=>by unfold Nz;exact⟨l,rfl,D6.refl l⟩
 | .sc v=>by unfold Nz;rfl
 | .ptr _ _ _=>by unfold Nz;rfl
 | .Ag _=>by unfold Nz;rfl
 | .own _ _ _=>by unfold Nz;rfl
 | .emp=>by unfold Nz;rfl
 | .mp _=>by unfold Nz;rfl
 | .Am _=>by unfold Nz;rfl
 | .fn _ _ _=>by unfold Nz;rfl
 | .ab _ _ _ _ _=>by unfold Nz;rfl
theorem D6.refl:(l:List PV)->D6 l l
 |[]=>by unfold D6;trivial
 |p::l=>by unfold D6;exact⟨Nz.refl p,D6.refl l⟩
theorem FF.refl:(l:List (List PV))->FF l l
 |[]=>by unfold FF;trivial
 |p::l=>by unfold FF;exact⟨D6.refl p,FF.refl l⟩
end
section
variable {β:BK}{n:Nat}{F:Nat->Prop}{w:World}
mutual
theorem Nz.rep:(q p:PV)->(x:Value)->Nz q p->AA β n F w p x->AA β n F w q x
 | .A2 z rows,p,x,h,hr=>by
  unfold Nz at h;rcases h with⟨rows',rfl,hR⟩|⟨rfl,rfl|rfl⟩
  ·simp only[AA]at hr⊢;have hl:=FF.len rows rows' hR;obtain⟨a,cap,rfl,g1,g2,g3⟩:=hr;refine⟨a,cap,by rw[hl],by omega,g2,?_⟩;rcases g3 with g3|⟨b,o,hF,ha,hRR⟩
   ·left;rw[g3]at hl;exact List.length_eq_zero_iff.1 hl
   ·exact .inr ⟨b,o,hF,ha,FF.rep z rows rows' b o hR hRR⟩
  ·simp only[AA]at hr⊢;obtain⟨a,rfl⟩:=hr;exact⟨a,0,rfl,AG _,BY _,.inl A5⟩
  ·simp only[AA]at hr⊢;exact⟨none,0,hr,AG _,BY _,.inl A5⟩
 | .agg l,p,x,h,hr=>by
  unfold Nz at h;obtain⟨l',rfl,hl⟩:=h;simp only[AA]at hr⊢;obtain⟨xs,rfl,h1,h2⟩:=hr;exact⟨xs,rfl,h1,D6.rep l l' xs hl h2⟩
 | .sc _,p,x,h,hr=>by unfold Nz at h;subst h;exact hr
 | .ptr _ _ _,p,x,h,hr=>by unfold Nz at h;subst h;exact hr
 | .Ag _,p,x,h,hr=>by unfold Nz at h;subst h;exact hr
 | .own _ _ _,p,x,h,hr=>by unfold Nz at h;subst h;exact hr
 | .emp,p,x,h,hr=>by unfold Nz at h;subst h;exact hr
 | .mp _,p,x,h,hr=>by unfold Nz at h;subst h;exact hr
 | .Am _,p,x,h,hr=>by unfold Nz at h;subst h;exact hr
 | .fn _ _ _,p,x,h,hr=>by unfold Nz at h;subst h;exact hr
 | .ab _ _ _ _ _,p,x,h,hr=>by unfold Nz at h;subst h;exact hr
theorem D6.rep:(l l':List PV)->(xs:List Value)->D6 l l'->AU β n F w l' xs->AU β n F w l xs
 |[],[],xs,_,hr=>hr
 |[],_::_,_,h,_=>by simp[D6]at h
 |_::_,[],_,h,_=>by simp[D6]at h
 |p::l,q::l',[],_,hr=>by simp[AU]at hr
 |p::l,q::l',v::xs,h,hr=>by
  unfold D6 at h;unfold AU at hr⊢;exact⟨Nz.rep p q v h.1 hr.1,D6.rep l l' xs h.2 hr.2⟩
theorem NzS.rep:(l l':List PV)->(b o:Nat)->D6 l l'->Bm β n F w l' b o->Bm β n F w l b o
 |[],[],_,_,_,_=>by unfold Bm;trivial
 |[],_::_,_,_,h,_=>by simp[D6]at h
 |_::_,[],_,_,h,_=>by simp[D6]at h
 |p::l,q::l',b,o,h,hr=>by
  unfold D6 at h;unfold Bm at hr⊢;obtain⟨⟨v,h1,h2,h3⟩,h4⟩:=hr;exact⟨⟨v,h1,h2,Nz.rep p q v h.1 h3⟩,NzS.rep l l' b (o+1) h.2 h4⟩
theorem FF.rep(z:Nat):(l l':List (List PV))->(b o:Nat)->FF l l'->BJ β n F w z l' b o->BJ β n F w z l b o
 |[],[],_,_,_,_=>by unfold BJ;trivial
 |[],_::_,_,_,h,_=>by simp[FF]at h
 |_::_,[],_,_,h,_=>by simp[FF]at h
 |p::l,q::l',b,o,h,hr=>by
  unfold FF at h;unfold BJ at hr⊢;exact⟨⟨by rw[D6.len p q h.1];exact hr.1.1,NzS.rep p q b o h.1 hr.1.2⟩,FF.rep z l l' b (o+z) h.2 hr.2⟩
end
end
theorem A6.nz{P:Program}{f:FuncId}{ys xs:List PV}{h:A1}{K:PV->A1->Prop}(hc:A6 P f ys h K)(hz:D6 ys xs):A6 P f xs h K:=
 λβ w vals sm hr=>hc β w vals sm (D6.rep ys xs vals hz hr)
theorem O6{z:Nat}:Nz (.A2 z []) (.sc (.slice none 0 0)):=by unfold Nz;exact .inr ⟨rfl,.inr rfl⟩
theorem Vh{r r':List PV}(h:D6 r r'):Nz (.agg r) (.agg r'):=by unfold Nz;exact⟨_,rfl,h⟩
theorem HN{p q:PV}{l m:List PV}(h:Nz p q)(h2:D6 l m):D6 (p::l) (q::m):=by unfold D6;exact⟨h,h2⟩
end Go.AM
namespace Go.AM
theorem Dt{h:A1}{o:An}{j:Nat}(hj:j<h.next):(h.new o).obj j=h.obj j:=by
 simp only[A1.new];rw[A8 (by omega)]
theorem FU{h:A1}{id j:Nat}(hj:j≠id):(h.kill id).obj j=h.obj j:=by
 simp only[A1.kill];rw[A8 hj]
theorem Az{h:A1}{o:An}{id j:Nat}(hj:j≠id):(h.set id o).obj j=h.obj j:=by
 simp only[A1.set];rw[A8 hj]
theorem DC{h:A1}{o:An}{id:Nat}:(h.set id o).obj id=some o:=by simp only[A1.set,AO]
def HO(h:A1)(o o':An):A1:=Ev h.next ((h.new o).set h.next o')
theorem IP{h:A1}{o o':An}:(HO h o o').next=h.next+1:=rfl
theorem IQ{h:A1}{o o':An}{j:Nat}(hj:j<h.next):(HO h o o').obj j=h.obj j:=by
 simp only[HO,Ev,A1.set,A1.new];rw[AK hj,A8 (by omega),A8 (by omega)]
theorem H4{P:Program}{ow:Nat->Bool}{wf:FuncId->Bool}{m z:Nat}{c:Code}{Q:BW}{s:AD}{h:A1}{o:An}{cells:List PV}(t:Nat)(hc:Kl c=true)(hs:s t= .ptr h.next 0 0)(hf: ∀ n H,AP n H cells cells)
  (hw:Aq P ow wf m c Q (Cf s t (.Ag cells)) (HO h o (.arr z [cells]))):Aq P ow wf m c Q s ((h.new o).set h.next (.arr z [cells])):=by
 refine Iq h.next [(t,.Ag cells)] hc (by simp[A1.new,A1.set]) ?_ hw
 intro x hx;simp only[List.mem_cons,List.not_mem_nil,ET]at hx;subst hx;simp only[hs,AJ];exact .inr ⟨h.next,0,0,z,[cells],cells,rfl,AG _,by simp[A1.set],rfl,hf _ _⟩
theorem AH.tmp{h h':A1}(g:AH h h')(o o':An):AH h (HO h' o o'):=
 ⟨by rw[IP];have:=g.le;omega,λid hid=>by rw[IQ (by have:=g.le;omega)];exact g.B6 id hid⟩
theorem Tl.tmp{h:A1}{lo z:Nat}{p:PV}{R:List (List PV)}(t:Tl h lo z p R)(o o':An):Tl (HO h o o') lo z p R:=t.up (by rw[IP];omega) λj _ hj=>IQ hj
theorem Tl.cell{h:A1}{lo z:Nat}{p:PV}{R:List (List PV)}(t:Tl h lo z p R):p.cells=[p]/\Cx p=true:=by
 rcases t with⟨_,rfl|rfl⟩|⟨_,_,_,rfl,_⟩<;>exact⟨rfl,rfl⟩
theorem Tl.E4{h:A1}{lo z:Nat}{p:PV}{R:List (List PV)}(t:Tl h lo z p R){id:Nat}(hid:id<lo)(o:An):Tl (h.set id o) lo z p R:=t.up (AG _) λj hj _=>by simp only[A1.set];rw[A8 (by omega)]
theorem Tl.frzR{h:A1}{id0 z:Nat}{p:PV}{rows:List (List PV)}(t:Tl h id0 z p rows){n:Nat}(hn:n<=id0)(hr:DA n h rows rows):AJ n h (.A2 z rows) p:=by
 simp only[AJ];rcases t with⟨h1,h2⟩|⟨id,h1,h2,rfl,ho⟩
 ·exact .inr (.inl ⟨h1,h2.symm⟩)
 ·refine .inr (.inr ⟨id,0,_,_,rfl,by omega,ho,by omega,?_⟩);rw[List.drop_zero,List.take_of_length_le (by omega)];exact hr
theorem Vi{h0 h H:A1}{lo z j:Nat}{p:PV}{R R2:List (List PV)}(t:Tl h0 lo z p R)(t1:EW h p=some (H,R2))(hj:h0.next<=j):H.obj j=h.obj j:=by
 rcases t with⟨_,rfl|rfl⟩|⟨id,b1,b2,rfl,b3⟩
 ·simp only[EW,BD,C4]at t1;rw[← t1.1]
 ·simp only[EW,BD,C4]at t1;rw[← t1.1]
 ·unfold EW at t1;simp only at t1;split at t1
  ·split at t1
   ·simp only[BD,C4]at t1;rw[← t1.1];exact FU (by omega)
   ·cases t1
  ·cases t1
def Gv(X z:Nat)(R:List (List PV))(p q:PV):Prop:=p=q\/(p= .own X 0 R.length/\q= .A2 z R)
def Fy(X z:Nat)(R:List (List PV)):List PV->List PV->Prop
 |[],[]=>True
 |p::ps,q::qs=>Gv X z R p q/\Fy X z R ps qs
 |_,_=>False
def GH(X z:Nat)(R:List (List PV)):List (List PV)->List (List PV)->Prop
 |[],[]=>True
 |p::ps,q::qs=>Fy X z R p q/\GH X z R ps qs
 |_,_=>False
theorem Fy.refl{X z:Nat}{R:List (List PV)}: ∀ l:List PV,Fy X z R l l
 |[]=>trivial
 |_::l=>⟨.inl rfl,Fy.refl l⟩
theorem GH.snoc{X z:Nat}{R:List (List PV)}{r r':List PV}(h:Fy X z R r r'): ∀ l:List (List PV),GH X z R (l++[r]) (l++[r'])
 |[]=>⟨h,trivial⟩
 |a::l=>⟨Fy.refl a,GH.snoc h l⟩
theorem Fy.len{X z:Nat}{R:List (List PV)}: ∀ l l':List PV,Fy X z R l l'->l.length=l'.length
 |[],[],_=>rfl
 |[],_::_,h=>h.elim
 |_::_,[],h=>h.elim
 |_::l,_::l',h=>by simp only[List.length_cons,Fy.len l l' h.2]
theorem GH.len{X z:Nat}{R:List (List PV)}: ∀ l l':List (List PV),GH X z R l l'->l.length=l'.length
 |[],[],_=>rfl
 |[],_::_,h=>h.elim
 |_::_,[],h=>h.elim
 |_::l,_::l',h=>by simp only[List.length_cons,GH.len l l' h.2]
section
variable {β:BK}{h:A1}{w:World}{X z:Nat}{R:List (List PV)}{F':Nat->Prop}
theorem Gv.rep(sm:B3 β h w)(hX:h.obj X=some (.arr z R))(mv:Mv β h.next (Fz β h w) w β h.next F' w)(hB: ∀ b,(β X).b=some b->F' b){p q:PV}{x:Value}(hg:Gv X z R p q)(hr:AA β h.next (Fz β h w) w p x):AA β h.next F' w q x:=by
 rcases hg with rfl|⟨rfl,rfl⟩
 ·exact AA.mv mv _ _ hr
 ·simp only[AA]at hr⊢;obtain⟨_,a,cap,rfl,h1,h2,h3⟩:=hr;refine⟨a,cap,rfl,h1,h2,?_⟩;rcases h3 with h3|⟨b,g1,g2,g3⟩
  ·exact .inl (List.eq_nil_of_length_eq_zero (by omega))
  ·have hok:=sm.ok X _ hX;simp only[BM]at hok;obtain⟨hz,hok⟩:=hok;rcases hok with⟨k1,_⟩|⟨b',c,e,fr,k1,k2,k3,k4,k5,k6⟩
   ·rw [k1]at g1;cases g1
   ·rw [k1]at g1;simp only[BD]at g1;subst g1;exact .inr ⟨b',_,hB b' k1,g2,by simpa using BJ.KW mv rfl z R _ k6⟩
theorem Fy.rep(sm:B3 β h w)(hX:h.obj X=some (.arr z R))(mv:Mv β h.next (Fz β h w) w β h.next F' w)(hB: ∀ b,(β X).b=some b->F' b): ∀ (l l':List PV)(b o:Nat),Fy X z R l l'->Bm β h.next (Fz β h w) w l b o->Bm β h.next F' w l' b o
 |[],[],_,_,_,_=>by simp only[Bm]
 |[],_::_,_,_,h,_=>h.elim
 |_::_,[],_,_,h,_=>h.elim
 |p::l,q::l',b,o,hg,hr=>by
  simp only[Bm]at hr⊢;obtain⟨⟨v,h1,h2,h3⟩,h4⟩:=hr;exact⟨⟨v,h1,h2,Gv.rep sm hX mv hB hg.1 h3⟩,Fy.rep sm hX mv hB l l' b (o+1) hg.2 h4⟩
theorem GH.rep(sm:B3 β h w)(hX:h.obj X=some (.arr z R))(mv:Mv β h.next (Fz β h w) w β h.next F' w)(hB: ∀ b,(β X).b=some b->F' b)(zY:Nat): ∀ (l l':List (List PV))(b o:Nat),GH X z R l l'->BJ β h.next (Fz β h w) w zY l b o->BJ β h.next F' w zY l' b o
 |[],[],_,_,_,_=>by simp only[BJ]
 |[],_::_,_,_,h,_=>h.elim
 |_::_,[],_,_,h,_=>h.elim
 |p::l,q::l',b,o,hg,hr=>by
  simp only[BJ]at hr⊢;obtain⟨⟨h1,h2⟩,h3⟩:=hr;exact⟨⟨by rw[← Fy.len _ _ hg.1];exact h1,Fy.rep sm hX mv hB p q b o hg.1 h2⟩,GH.rep sm hX mv hB zY l l' b (o+zY) hg.2 h3⟩
end
def JR(h:A1)(X Y zY:Nat)(R':List (List PV)):A1:=(h.kill X).set Y (.arr zY R')
theorem Wk.Z2{s:AD}{h:A1}{X Y z zY:Nat}{R RY RY':List (List PV)}(hX:h.obj X=some (.arr z R))(hY:h.obj Y=some (.arr zY RY))(hne:X≠Y)(hg:GH X z R RY RY'):Wk s h s (JR h X Y zY RY'):=by
 intro β w sm;have ho: ∀ j,(JR h X Y zY RY').obj j=if j=Y then some (.arr zY RY')else if j=X then none else h.obj j:=λj=>rfl
 have hsome: ∀ id,((JR h X Y zY RY').obj id).isSome=true->id≠X/\(h.obj id).isSome=true:=λid hid=>by
  rw[ho]at hid;split at hid
  ·rename_i e;subst e;exact⟨λe=>hne e.symm,by rw[hY];try rfl⟩
  ·split at hid
   ·simp at hid
   ·exact ⟨by assumption,hid⟩
 have hF: ∀ b,Fz β h w b->Fz β (JR h X Y zY RY') w b:=λb hb=>⟨hb.1,λid hid=>hb.2.1 id (hsome id hid).2,hb.2.2⟩;have hsX:(h.obj X).isSome=true:=by rw[hX];try rfl
 have hB: ∀ b,(β X).b=some b->Fz β (JR h X Y zY RY') w b:=λb hb=>
  ⟨sm.Jm hX hb,λj hj hjb=>(hsome j hj).1 (sm.inj j X (hsome j hj).2 hsX b hjb hb),sm.nx X hsX b hb⟩
 have mv:Mv β h.next (Fz β h w) w β h.next (Fz β (JR h X Y zY RY') w) w:=⟨AG _,λ_ _ _=>rfl,λb hb=>⟨hF b hb,rfl⟩⟩
 refine⟨⟨λid hid=>sm.lt id (hsome id hid).2,λid o hoo=>?_,λi j hi hj=>sm.inj i j (hsome i hi).2 (hsome j hj).2,sm.xs,λid hid=>sm.nx id (hsome id hid).2⟩,
  ⟨rfl,rfl,rfl,AG _,AG _,λ_ _=>rfl,rfl,λ_ _ _=>rfl,λb hb=>⟨hF b hb,rfl⟩⟩,λt x hr=>AA.mv mv _ _ hr⟩
 rw[ho]at hoo;split at hoo
 ·rename_i e;subst e;simp only[BD]at hoo;subst hoo;have hok:=sm.ok id _ hY;simp only[BM]at hok⊢;refine⟨hok.1,?_⟩;rcases hok.2 with⟨k1,k2⟩|⟨b,c,e,fr,k1,k2,k3,k4,k5,k6⟩
  ·left;refine⟨k1,?_⟩;have:=hg.len;rw[k2]at this;exact List.eq_nil_of_length_eq_zero this.symm
  ·exact .inr ⟨b,c,e,fr,k1,k2,k3,by rw[← hg.len];exact k4,k5,GH.rep sm hX mv hB zY RY RY' b _ hg k6⟩
 ·split at hoo
  ·cases hoo
  ·exact BM.mv mv (λ_ _=>rfl) (sm.ok id o hoo)
theorem S8{P:Program}{ow:Nat->Bool}{wf:FuncId->Bool}{m:Nat}{c:Code}{Q:BW}{s:AD}{h:A1}{X Y z zY:Nat}{R RY:List (List PV)}(RY':List (List PV))(hc:Kl c=true)(hX:h.obj X=some (.arr z R))(hY:h.obj Y=some (.arr zY RY))(hne:X≠Y)(hg:GH X z R RY RY')
  (hw:Aq P ow wf m c Q s (JR h X Y zY RY')):Aq P ow wf m c Q s h:=UL hc (Wk.Z2 hX hY hne hg) hw
theorem Vj{h H:A1}(g:AH h H):AH h (Ev h.next H):=⟨g.le,λj hj=>by simp only[Ev];rw[AK hj];exact g.B6 j hj⟩
end Go.AM
namespace Go.Proofs.YtblgchkahpgdjaaGreat
open Go.AM Go.Proofs.Tryz
theorem iU{P:Program}{ow:Nat->Bool}{wf:FuncId->Bool}{n:Nat}{Q:BW}{s:AD}{h:A1}(id:Nat){ops:Array Oper}{d:Bool}{y:Code}(hh:Rn (Aq P ow wf n (.seq (.region id ops d) y) Q s h)):Aq P ow wf n (.seq (.region id ops d) y) Q s h:=hh.out
theorem Px{P:Program}{ow:Nat->Bool}{wf:FuncId->Bool}{n:Nat}{Q:BW}{s:AD}{h:A1}(id:Nat){ops:Array Oper}{d:Bool}(hh:Rn (Aq P ow wf n (.region id ops d) Q s h)):Aq P ow wf n (.region id ops d) Q s h:=hh.out
end Go.Proofs.YtblgchkahpgdjaaGreat
namespace Go.AM
open Go.ChangeShapes Go.WideShapes
def Dd(P:Program)(t:TypeId):List (Nat × TypeId):=match P.underlying t with
 |some (.struct fs)=>fs.toList.map λf=>(f.offset,f.type)
 |some (.array n e)=>(List.range n).map λi=>(i*P.cellsOf e,e)
 |_=>[]
def HP(P:Program)(e:Nat):Nat->List (Nat × TypeId)->Bool
 |o,[]=>o==e
 |o,p::l=>p.1==o&&HP P e (o+P.cellsOf p.2) l
def K4(P:Program):Nat->TypeId->Bool
 |0,_=>false
 |f+1,t=>match P.underlying t with
  |some .bool=>true
  |some (.int _)=>true
  |some .string=>true
  |some (.slice e)=>decide (0<P.cellsOf e)&&K4 P f e
  |some (.struct _)=>HP P (P.cellsOf t) 0 (Dd P t)&&(Dd P t).all λp=>K4 P f p.2
  |some (.array _ _)=>HP P (P.cellsOf t) 0 (Dd P t)&&(Dd P t).all λp=>K4 P f p.2
  |_=>false
def B7(P:Program):Nat->TypeId->List PV->Prop
 |0,_,_=>False
 |f+1,t,ps=>match P.underlying t with
  |some .bool=> ∃ b,ps=[.sc (.bool b)]
  |some (.int k)=> ∃ n,(Lit.int k n).wf=true/\ps=[.sc (.int k n)]
  |some .string=> ∃ s:ByteArray,s.size<=reachBytes/\ps=[.sc (.string s)]
  |some (.slice e)=> ∃ rows,ps=[.A2 (P.cellsOf e) rows]/\rows.length*P.bytesOf e<=reachBytes/\rows.length<=maxLen/\ ∀ r∈rows,r.length=P.cellsOf e/\B7 P f e r
  |some (.struct _)=>ps.length=P.cellsOf t/\ ∀ p∈Dd P t,B7 P f p.2 ((ps.drop p.1).take (P.cellsOf p.2))
  |some (.array _ _)=>ps.length=P.cellsOf t/\ ∀ p∈Dd P t,B7 P f p.2 ((ps.drop p.1).take (P.cellsOf p.2))
  |_=>False
section
variable {H:Type}{enc:TypeId × Value->H}{P:Program}{w:World}{sp:Nat->Bool}{held:Bool}
def RA(w:World)(ps:List PV)(cs:List Value):Prop:=(∀ v∈cs,v.oneCell'=true)/\ ∀ β n,AU β n (λb=>b<w.heap.size) w ps cs
theorem RA.len{ps:List PV}{cs:List Value}(h:RA w ps cs):ps.length=cs.length:=(h.2 ⟨λ_=>⟨none,0,0,0⟩,λ_=>False⟩ 0).len
theorem RA.append{ps ps':List PV}{cs cs':List Value}(h:RA w ps cs)(k:RA w ps' cs'):RA w (ps++ps') (cs++cs'):=
 ⟨λv hv=>by exact(List.mem_append.1 hv).elim (h.1 v) (k.1 v),λβ n=>(h.2 β n).append (k.2 β n)⟩
theorem O7{e:Nat}:(l:List (Nat × TypeId))->(o:Nat)->HP P e o l=true->o<=e/\ ∀ p∈l,o<=p.1/\p.1+P.cellsOf p.2<=e
 |[],o,h=>by simp[HP]at h;simp[h]
 |p::l,o,h=>by
  simp only[HP,AV,Eg]at h;obtain⟨h1,h2⟩:=O7 l _ h.2;refine⟨by omega,λq hq=>?_⟩;rcases List.mem_cons.1 hq with rfl|hq
  ·omega
  ·have:=h2 q hq;omega
theorem S9{c:Nat}{cs:List Value}:(l:List (Nat × TypeId))->(o:Nat)->HP P cs.length o l=true->
  (∀ p∈l, ∃ ps,B7 P c p.2 ps/\RA w ps ((cs.drop p.1).take (P.cellsOf p.2)))->
  ∃ ps,RA w ps (cs.drop o)/\ ∀ p∈l,B7 P c p.2 ((ps.drop (p.1-o)).take (P.cellsOf p.2))
 |[],o,h,_=>by
  simp[HP]at h;refine⟨[],⟨?_,λβ n=>?_⟩,by simp⟩
  ·rw [List.drop_of_length_le (by omega)];simp
  ·rw [List.drop_of_length_le (by omega)];simp[AU]
 |p::l,o,h,hp=>by
  have hle:=(O7 (p::l) o h).2 p (by simp);simp only[HP,AV,Eg]at h;obtain⟨ps,h1,h2⟩:=S9 l _ h.2 (λq hq=>hp q (by simp[hq]));obtain⟨ps0,h3,h4⟩:=hp p (by simp);have hl2:=(O7 l _ h.2).2;have e0:p.1=o:=h.1;have l0:ps0.length=P.cellsOf p.2:=by rw[h4.len,List.length_take,List.length_drop];omega
  refine⟨ps0++ps,?_,λq hq=>?_⟩
  ·have:cs.drop o=(cs.drop p.1).take (P.cellsOf p.2)++cs.drop (o+P.cellsOf p.2):=by
    rw[e0, ← List.drop_drop,List.take_append_drop]
   rw[this];exact h4.append h1
  ·rcases List.mem_cons.1 hq with rfl|hq
   ·rw [e0,KV,List.drop_zero,List.take_append_of_le_length (by omega),List.take_of_length_le (by omega)];exact h3
   ·have h5:=hl2 q hq;have:q.1-o=ps0.length+(q.1-(o+P.cellsOf p.2)):=(by omega);rw[this, ← List.drop_drop,List.drop_left];exact h2 q hq
theorem SA{α:Type}{R:Nat->α->Prop}:(n:Nat)->(∀ i,i<n-> ∃ x,R i x)-> ∃ l:List α,l.length=n/\ ∀ i x,l[i]? =some x->R i x
 |0,_=>⟨[],rfl,by simp⟩
 |n+1,h=>by
  obtain⟨l,h1,h2⟩:=SA n (λi hi=>h i (by omega));obtain⟨x,hx⟩:=h n (by omega);refine⟨l++[x],by simp[h1],λi y hy=>?_⟩;rw[List.getElem?_append]at hy;split at hy
  ·exact h2 i y hy
  ·rename_i hi;have:i=n:=by
    have:=(List.getElem?_eq_some_iff.1 hy).1;simp at this;omega
   subst this;rw[h1]at hy;simp at hy;subst hy;exact hx
theorem O8{e:TypeId}{n:Nat}:{ds:List (DataW H)}->{i:Nat}->{d:DataW H}->ds[i]? =some d->n∈d.weights P e->n∈DataW.weightsAll P e ds
 |[],_,_,h,_=>by simp at h
 |d0::ds,0,d,h,hn=>by
  simp at h;subst h;simp only[DataW.weightsAll,List.mem_append];exact .inl hn
 |d0::ds,i+1,d,h,hn=>by
  simp at h;simp only[DataW.weightsAll,List.mem_append];exact .inr (O8 h hn)
theorem Mu{v:Value}(h:v.oneCell'=true):RA w [.sc v] [v]:=
 ⟨λu hu=>by simp at hu;subst hu;exact h,λβ n=>by simp only[AU,AA];exact⟨trivial,trivial⟩⟩
theorem Py: ∀ (c:Nat)(t:TypeId),K4 P c t=true-> ∀ (fuel:Nat)(cs:List Value)(x:DataW H × List MemPlace),DataW.trod enc P w 0 sp held fuel t cs=some x->(∀ n∈x.1.weights P t,n<=reachBytes)->
  ∃ ps,B7 P c t ps/\RA w ps cs
 |0,_,h,_,_,_,_,_=>by simp[K4]at h
 |c+1,t,h,fuel,cs,x,hx,hw=>by
  unfold K4 at h;split at h
  ·rename_i hu;obtain⟨b,rfl,rfl⟩:=DataW.trod_bool hu hx;refine⟨[.sc (.bool b)],?_,Mu rfl⟩;unfold B7;rw[hu];exact⟨b,rfl⟩
  ·rename_i k hu;obtain⟨n,rfl,rfl,hwf⟩:=DataW.trod_int hu hx;refine⟨[.sc (.int k n)],?_,Mu rfl⟩;unfold B7;rw[hu];exact⟨n,hwf,rfl⟩
  ·rename_i hu;obtain⟨s,rfl,rfl,hs⟩:=DataW.trod_string hu hx;refine⟨[.sc (.string s)],?_,Mu rfl⟩;unfold B7;rw[hu];refine⟨s,?_,rfl⟩;have:=hw s.data.toList.length (by simp[DataW.weights]);simpa using this
  ·rename_i e hu;simp only[AV,Bg]at h;obtain⟨hpos,hcov⟩:=h;rcases DataW.trod_slice hu hx with⟨rfl,rfl⟩|⟨a,len,cap,elems,rest,n,rfl,rfl,rfl,hb,hl,hm,hlen,hel,hsp,hns⟩
   ·refine ⟨[.A2 (P.cellsOf e) []],?_,λv hv=>?_,λβ n=>?_⟩
    ·unfold B7;rw[hu];exact⟨[],rfl,by simp,by simp,by simp⟩
    ·simp at hv;subst hv;rfl
    ·simp only[AU,AA];exact⟨⟨none,0,rfl,AG _,BY _,.inl (by trivial)⟩,trivial⟩
   ·have each: ∀ i,i<len-> ∃ r:List PV,(r.length=P.cellsOf e/\B7 P c e r)/\ ∃ ci,RA w r ci/\ci.length=P.cellsOf e/\ ∀ j,j<P.cellsOf e->w.cell? ((a.add (i*P.cellsOf e)).add j)=ci[j]?:=by
     intro i hi;have h1:=hel i hi;have h2:elems[i]? =some (elems[i]'(by omega)):=List.getElem?_eq_getElem _;rw[h2,oU]at h1;obtain⟨ci,h3,h4⟩:=h1;obtain⟨_,h5,h6⟩:=World.cells?_some h3;obtain⟨r,h7,h8⟩:=Py c e hcov n ci _ h4 (λm hm=>hw m (by
      simp only[DataW.weights,hu,List.mem_cons,List.mem_append];exact .inr (.inl (O8 (i:=i) (by rw[List.getElem?_map,h2];try rfl) hm))))
     exact⟨r,⟨by rw[h8.len,h5],h7⟩,ci,h8,h5,h6⟩
    obtain⟨rows,hrl,hrows⟩:=SA len each;refine⟨[.A2 (P.cellsOf e) rows],?_,λv hv=>?_,λβ m=>?_⟩
    ·unfold B7;rw[hu];refine⟨rows,rfl,?_,by omega,λr hr=>?_⟩
     ·have:=hw ((elems.map (·.1)).length*P.bytesOf e+(rest.map (·.1)).length*P.bytesOf e) (by
       simp only[DataW.weights,hu,List.mem_cons,KP,true_or])
      have h9:rows.length=(elems.map (·.1)).length:=(by simp[hrl,hlen]);rw[h9];exact ES (Qe _ _) this
     ·obtain ⟨i,hi⟩:=List.getElem?_of_mem hr;exact(hrows i r hi).1
    ·simp at hv;subst hv;rfl
    ·simp only[AU,AA];refine⟨⟨some a,cap,by rw[hrl],by omega,hm,?_⟩,trivial⟩;by_cases h0:len=0
     ·left;exact List.length_eq_zero_iff.1 (by omega)
     ·right;obtain⟨_,_,c0,_,hc0,hcell0⟩:=each 0 (by omega);have h10:=hcell0 0 hpos;rw[List.getElem?_eq_getElem (by omega)]at h10;simp only[Yb,Addr.add,AO]at h10;have hs:a.spot=none:=by
       unfold World.cell? at h10;split at h10
       ·split at h10
        ·simp at h10
        ·rename_i hsp;simpa using hsp
       ·simp at h10
      have hblk:a.block<w.heap.size:=by
       unfold World.cell? at h10;split at h10
       ·rename_i hh;exact(I5.1 hh).1
       ·simp at h10
      refine⟨a.block,a.off,hblk,by cases a;simp only at hs;subst hs;rfl,?_⟩;rw[HG];intro i r hr;obtain⟨⟨g1,_⟩,ci,g2,g3,g4⟩:=hrows i r hr;refine⟨g1,?_⟩;rw[HF];intro j p hp;obtain⟨v,hv,hrep⟩:=(g2.2 β m).get hp;have hj:j<P.cellsOf e:=(by rw[← g3];exact(List.getElem?_eq_some_iff.1 hv).1);refine⟨v,?_,g2.1 v (List.mem_of_getElem? hv),hrep⟩;rw[← hv, ← g4 j hj];congr 1;cases a;simp only at hs;subst hs;simp only[Addr.add];split<;>split<;>simp_all<;>omega
  ·rename_i fs hu;simp only[AV,List.all_eq_true]at h;obtain⟨xs,n,rfl,rfl,hcl,hxl,hp⟩:=DataW.trod_struct hu hx;have hpt:Dd P t=fs.toList.map λf=>(f.offset,f.type):=(by unfold Dd;rw[hu]);obtain⟨ps,h1,h2⟩:=S9 (w:=w) (c:=c) (cs:=cs) (Dd P t) 0 (by rw[hcl];exact h.1) (λp hpm=>by
    have hcv:=h.2 p hpm;rw[hpt]at hpm;obtain⟨i,hi⟩:=List.getElem?_of_mem hpm;rw[List.getElem?_map,KR]at hi;obtain⟨f,hf,rfl⟩:=hi;have hf':fs[i]? =some f:=(by simpa using hf);have hi':i<xs.length:=by
     rw[hxl];exact(I5.1 hf').1
    have h3:=hp i f hf';rw[List.getElem?_eq_getElem hi']at h3;exact Py c f.type hcv n _ _ h3 (λm hm=>hw m (by
     simp only[DataW.weights,hu];exact DataW.weights_mem_each (j:=i) (t:=f.type) (d:=xs[i].1) (by rw[List.getElem?_map,hf];try rfl) (by rw[List.getElem?_map,List.getElem?_eq_getElem hi'];try rfl) m hm)))
   refine⟨ps,?_,by simpa using h1⟩;unfold B7;rw[hu];exact⟨by rw[h1.len,List.drop_zero,hcl],λp hpm=>by simpa using h2 p hpm⟩
  ·rename_i k e hu;simp only[AV,List.all_eq_true]at h;obtain⟨xs,n,rfl,rfl,hcl,hxl,hp⟩:=DataW.trod_array hu hx;have hpt:Dd P t=(List.range k).map λi=>(i*P.cellsOf e,e):=(by unfold Dd;rw[hu]);obtain⟨ps,h1,h2⟩:=S9 (w:=w) (c:=c) (cs:=cs) (Dd P t) 0 (by rw[hcl];exact h.1) (λp hpm=>by
    have hcv:=h.2 p hpm;rw[hpt]at hpm;obtain⟨i,hi,rfl⟩:=List.mem_map.1 hpm;have hi':i<xs.length:=(by rw[hxl];simpa using hi);have h3:=hp i (by simpa using hi);rw[List.getElem?_eq_getElem hi']at h3;exact Py c e hcv n _ _ h3 (λm hm=>hw m (by
     simp only[DataW.weights,hu];exact O8 (i:=i) (d:=xs[i].1) (by rw[List.getElem?_map,List.getElem?_eq_getElem hi'];try rfl) hm)))
   refine⟨ps,?_,by simpa using h1⟩;unfold B7;rw[hu];exact⟨by rw[h1.len,List.drop_zero,hcl],λp hpm=>by simpa using h2 p hpm⟩
  ·simp at h
def Pz(P:Program)(c:Nat)(t:TypeId)(p:PV):Prop:=match P.underlying t with
 |some (.struct _)=> ∃ ps,p= .agg ps/\B7 P c t ps
 |some (.array _ _)=> ∃ ps,p= .agg ps/\B7 P c t ps
 |_=>B7 P c t [p]
theorem iV{c:Nat}{t:TypeId}(hc:K4 P c t=true){v:Value}{d:DataW H}{pl:List MemPlace}(h:DataW.Trod enc P w 0 sp held t v d pl)(hv: ∃ base,Value.okWide P w .any base t v)
  (hw: ∀ n∈d.weights P t,n<=reachBytes): ∃ p,Pz P c t p/\ ∀ β n,AA β n (λb=>b<w.heap.size) w p v:=by
 obtain⟨fuel,hf⟩:=h;obtain⟨ps,h1,h2⟩:=Py c t hc fuel _ _ hf hw;obtain⟨base,hv⟩:=hv;unfold Value.okWide at hv;cases c with
 |zero=>simp[K4]at hc
 |succ c=>
  unfold K4 at hc;unfold Pz;have one:(∃ q,ps=[q])->(∃ u,v.cells.toList=[u]/\v=u)-> ∃ p,B7 P (c+1) t [p]/\ ∀ β n,AA β n (λb=>b<w.heap.size) w p v:=by
   rintro⟨q,rfl⟩ ⟨u,hu,rfl⟩;refine⟨q,h1,λβ n=>?_⟩;have:=h2.2 β n;rw[hu]at this;simp only[AU]at this;exact this.1
  have agg:(∃ cs,v= .agg cs)-> ∃ p,(∃ ps,p= .agg ps/\B7 P (c+1) t ps)/\ ∀ β n,AA β n (λb=>b<w.heap.size) w p v:=by
   rintro⟨cs,rfl⟩;refine⟨.agg ps,⟨ps,rfl,h1⟩,λβ n=>?_⟩;simp only[AA];exact⟨cs.toList,by simp,h2.1,h2.2 β n⟩
  split at hc
  ·rename_i hu;obtain⟨b,hb,_⟩:=DataW.trod_bool hu hf;simp only[hu]at hv⊢;refine one ?_ ⟨_,hb,?_⟩
   ·unfold B7 at h1;rw[hu]at h1;obtain⟨b,rfl⟩:=h1;exact⟨_,rfl⟩
   ·obtain ⟨b',rfl⟩:=okWide_bool hu (r:= .any) (base:=base) (v:=v) (w:=w) (by unfold Value.okWide;rw[hu];exact hv);simpa[Value.cells]using hb
  ·rename_i k hu;obtain⟨n,hb,_⟩:=DataW.trod_int hu hf;simp only[hu]at hv⊢;refine one ?_ ⟨_,hb,?_⟩
   ·unfold B7 at h1;rw[hu]at h1;obtain⟨n,_,rfl⟩:=h1;exact⟨_,rfl⟩
   ·obtain ⟨b',rfl⟩:=okWide_int hu (r:= .any) (base:=base) (v:=v) (w:=w) (by unfold Value.okWide;rw[hu];exact hv);simpa[Value.cells]using hb
  ·rename_i hu;obtain⟨n,hb,_⟩:=DataW.trod_string hu hf;simp only[hu]at hv⊢;refine one ?_ ⟨_,hb,?_⟩
   ·unfold B7 at h1;rw[hu]at h1;obtain⟨n,_,rfl⟩:=h1;exact⟨_,rfl⟩
   ·obtain ⟨b',rfl⟩:=okWide_string hu (r:= .any) (base:=base) (v:=v) (w:=w) (by unfold Value.okWide;rw[hu];exact hv);simpa[Value.cells]using hb
  ·rename_i e hu;simp only[hu]at hv⊢;obtain⟨a,len,cap,rfl⟩:=okWide_slice hu (r:= .any) (base:=base) (v:=v) (w:=w) (by unfold Value.okWide;rw[hu];exact hv);refine one ?_ ⟨_,rfl,rfl⟩;unfold B7 at h1;rw[hu]at h1;obtain⟨n,rfl,_⟩:=h1;exact⟨_,rfl⟩
  ·rename_i fs hu;simp only[hu]at hv⊢;obtain⟨cs,rfl,_⟩:=hv;exact agg ⟨_,rfl⟩
  ·rename_i n e hu;simp only[hu]at hv⊢;obtain⟨cs,rfl,_⟩:=hv;exact agg ⟨_,rfl⟩
  ·simp at hc
end
end Go.AM
namespace Go.AM
open Go.ChangeShapes Go.WideShapes
section
variable {H:Type}{enc:TypeId × Value->H}{P:Program}{w:World}{sp:Nat->Bool}{held:Bool}
def Vk(P:Program)(Ts:List TypeId):Bool:=Ts.all λt=>match P.underlying t with
 |some .bool=>true
 |some (.int _)=>true
 |some .string=>true
 |some (.slice e)=>decide (0<P.cellsOf e)&&Ts.contains e
 |some (.struct _)=>HP P (P.cellsOf t) 0 (Dd P t)&&(Dd P t).all λp=>Ts.contains p.2
 |some (.array _ _)=>HP P (P.cellsOf t) 0 (Dd P t)&&(Dd P t).all λp=>Ts.contains p.2
 |_=>false
end
end Go.AM
namespace Go.AM
open Go.ChangeShapes Go.WideShapes
section
variable {P:Program}{c:Nat}{t e:TypeId}{ps:List PV}{a:PV}
theorem Vl{k:IntKind}(hu:P.underlying t=some (.int k))(h:B7 P (c+1) t ps): ∃ n,(Lit.int k n).wf=true/\ps=[.sc (.int k n)]:=by
 unfold B7 at h;rw[hu]at h;exact h
theorem JS(hu:P.underlying t=some (.slice e))(h:B7 P (c+1) t ps): ∃ rows,ps=[.A2 (P.cellsOf e) rows]/\rows.length*P.bytesOf e<=reachBytes/\rows.length<=maxLen/\ ∀ r∈rows,r.length=P.cellsOf e/\B7 P c e r:=by
 unfold B7 at h;rw[hu]at h;exact h
theorem K5{fs:Array Field}(hu:P.underlying t=some (.struct fs))(h:B7 P (c+1) t ps):ps.length=P.cellsOf t/\ ∀ p∈Dd P t,B7 P c p.2 ((ps.drop p.1).take (P.cellsOf p.2)):=by
 unfold B7 at h;rw[hu]at h;exact h
theorem J2{α:Type}{Q:α->Prop}{f:α->List PV}:(rows:List (List PV))->(∀ r∈rows, ∃ x,Q x/\r=f x)-> ∃ xs:List α,rows=xs.map f/\ ∀ x∈xs,Q x
 |[],_=>⟨[],rfl,by simp⟩
 |r::rows,h=>by
  obtain⟨xs,h1,h2⟩:=J2 rows (λq hq=>h q (by simp[hq]));obtain⟨x,h3,h4⟩:=h r (by simp);refine⟨x::xs,by simp[h1,h4],λy hy=>?_⟩;rcases List.mem_cons.1 hy with rfl|hy
  ·exact h3
  ·exact h2 y hy
theorem iW{k:IntKind}(hu:P.underlying t=some (.int k))(h:Pz P (c+1) t a): ∃ n,(Lit.int k n).wf=true/\a= .sc (.int k n):=by
 unfold Pz at h;rw[hu]at h;obtain⟨n,h1,h2⟩:=Vl hu h;simp at h2;exact⟨n,h1,h2⟩
theorem iX{n:Int}(h:(Lit.int .i64 n).wf=true): -9223372036854775808<=n/\n<=9223372036854775807:=by
 simp[Lit.wf,IntKind.min,IntKind.max,IntKind.bits,IntKind.signed]at h;omega
end
end Go.AM
namespace Go.Proofs.YtblgchkahpgdjaaGreat
open Go.AM Go.Proofs.Tryz
set_option maxHeartbeats 1000000
set_option maxRecDepth 20000
def iY:List TypeId:=[67,75,123,9,3,64,22,65,63]
theorem iZ:Dd prog 75=[(0,9),(1,9),(2,3),(3,64),(4,65)]:=by kernel_rfl
theorem ia:Dd prog 67=[(0,9),(1,9),(2,64),(3,22),(4,65),(5,63)]:=by kernel_rfl
theorem ib:Dd prog 123=[(0,9),(1,9)]:=by kernel_rfl
theorem JT:Tryz.prog.cellsOf 9=1:=by kernel_rfl
theorem O9:Tryz.prog.cellsOf 3=1:=by kernel_rfl
theorem SB:Tryz.prog.cellsOf 64=1:=by kernel_rfl
theorem M1:Tryz.prog.cellsOf 22=1:=by kernel_rfl
theorem Vm:Tryz.prog.cellsOf 65=1:=by kernel_rfl
theorem ig:Tryz.prog.cellsOf 63=1:=by kernel_rfl
theorem Q0:Tryz.prog.cellsOf 75=5:=by kernel_rfl
theorem OA:Tryz.prog.cellsOf 67=6:=by kernel_rfl
theorem Vn:Tryz.prog.cellsOf 123=2:=by kernel_rfl
theorem ij:0<Tryz.prog.bytesOf 9:=by rw[show Tryz.prog.bytesOf 9=16 by kernel_rfl];omega
theorem im:0<Tryz.prog.bytesOf 123:=by rw[show Tryz.prog.bytesOf 123=32 by kernel_rfl];omega
theorem Vo:0<Tryz.prog.bytesOf 75:=by rw[show Tryz.prog.bytesOf 75=88 by kernel_rfl];omega
theorem iq:0<Tryz.prog.bytesOf 67:=by rw[show Tryz.prog.bytesOf 67=128 by kernel_rfl];omega
theorem JU{n b:Nat}(h:n*b<=reachBytes)(hb:0<b):n<=AI:=by
 have:=oL n hb;unfold reachBytes at h;unfold AI;omega
theorem Ho{c:Nat}{ps:List PV}(h:B7 prog c 9 ps): ∃ s:ByteArray,s.size<=AI/\ps=[A4 s]:=by
 cases c with
 |zero=>simp[B7]at h
 |succ c=>
  unfold B7 at h;rw[Tryz.underlying9]at h;obtain⟨s,h1,h2⟩:=h;exact⟨s,by unfold reachBytes at h1;unfold AI;omega,h2⟩
theorem Mw{c:Nat}{ps:List PV}(h:B7 prog c 3 ps): ∃ n:Int,(-9223372036854775808<=n/\n<=9223372036854775807)/\ps=[.sc (.int .i64 n)]:=by
 cases c with
 |zero=>simp[B7]at h
 |succ c=>
  obtain⟨n,h1,h2⟩:=Vl Tryz.underlying3 h;exact⟨n,iX h1,h2⟩
theorem SC{c:Nat}{ps:List PV}(h:B7 prog c 64 ps): ∃ l:List ByteArray,(l.length<=AI/\ ∀ a∈l,a.size<=AI)/\ps=[.A2 1 (AN l)]:=by
 cases c with
 |zero=>simp[B7]at h
 |succ c=>
  obtain⟨rows,rfl,h1,_,h2⟩:=JS Tryz.underlying64 h;obtain⟨xs,rfl,h3⟩:=J2 (Q:=λs:ByteArray=>s.size<=AI) (f:=λs=>[A4 s]) rows (λr hr=>Ho (h2 r hr).2);refine⟨xs,⟨JU (by simpa using h1) ij,h3⟩,?_⟩;rw[JT];try rfl
theorem ir{c:Nat}{ps:List PV}(h:B7 prog c 123 ps): ∃ p:Pm,p.ok/\ps=Ir p:=by
 cases c with
 |zero=>simp[B7]at h
 |succ c=>
  obtain⟨h1,h2⟩:=K5 Tryz.underlying123 h;rw[Vn]at h1;rw[ib]at h2
  match ps,h1,h2 with
  |[p0,p1],_,h2=>
   have a0:=h2 (0,9) (by simp);have a1:=h2 (1,9) (by simp);simp only[JT,List.drop_zero,List.drop_succ_cons,List.take_succ_cons,List.take_zero]at a0 a1;obtain⟨s,hs,e1⟩:=Ho a0;obtain⟨t,ht,e2⟩:=Ho a1;simp at e1 e2;exact⟨⟨s,t⟩,⟨hs,ht⟩,by simp[Ir,e1,e2]⟩
theorem Ky{c:Nat}{ps:List PV}(h:B7 prog c 22 ps): ∃ l:List Pm,(l.length<=AI/\ ∀ a∈l,a.ok)/\ps=[.A2 2 (A9 l)]:=by
 cases c with
 |zero=>simp[B7]at h
 |succ c=>
  obtain⟨rows,rfl,h1,_,h2⟩:=JS Tryz.underlying22 h;obtain⟨xs,rfl,h3⟩:=J2 (Q:=Pm.ok) (f:=Ir) rows (λr hr=>ir (h2 r hr).2);refine⟨xs,⟨JU (by simpa using h1) im,h3⟩,?_⟩;rw[Vn];try rfl
theorem Vp: ∀ (c:Nat){ps:List PV},B7 prog c 75 ps-> ∃ e:Ex,e.ok/\ps=e.cells:=by
 intro c
 induction c using Nat.strongRecOn with
 |_ c ih=>
  intro ps h;cases c with
  |zero=>simp[B7]at h
  |succ c=>
   obtain⟨h1,h2⟩:=K5 Tryz.underlying75 h;rw[Q0]at h1;rw[iZ]at h2
   match ps,h1,h2 with
   |[p0,p1,p2,p3,p4],_,h2=>
    have a0:=h2 (0,9) (by simp);have a1:=h2 (1,9) (by simp);have a2:=h2 (2,3) (by simp);have a3:=h2 (3,64) (by simp);have a4:=h2 (4,65) (by simp);simp only[JT,O9,SB,Vm,List.drop_zero,List.drop_succ_cons,List.take_succ_cons,List.take_zero]at a0 a1 a2 a3 a4;obtain⟨op,hop,e0⟩:=Ho a0;obtain⟨name,hname,e1⟩:=Ho a1;obtain⟨n,hn,e2⟩:=Mw a2;obtain⟨args,hargs,e3⟩:=SC a3;cases c with
    |zero=>simp[B7]at a4
    |succ c=>
     obtain⟨rows,e4,h3,_,h4⟩:=JS Tryz.underlying65 a4;obtain⟨xs,rfl,h5⟩:=J2 (Q:=Ex.ok) (f:=Ex.cells) rows (λr hr=>ih c (by omega) (h4 r hr).2);rw[Q0]at e4;simp at e0 e1 e2 e3 e4;refine⟨.mk op name n args xs,?_,?_⟩
     ·simp only[Ex.ok];exact⟨hop,hname,hn,hargs,JU (by simpa using h3) Vo,Ex.Bz.2 h5⟩
     ·simp only[Ex.cells,e0,e1,e2,e3,e4,Ex.rows_map]
theorem iu{c:Nat}{ps:List PV}(h:B7 prog c 65 ps): ∃ l:List Ex,(l.length<=AI/\Ex.DJ l)/\ps=[.A2 5 (Ex.rows l)]:=by
 cases c with
 |zero=>simp[B7]at h
 |succ c=>
  obtain⟨rows,rfl,h1,_,h2⟩:=JS Tryz.underlying65 h;obtain⟨xs,rfl,h3⟩:=J2 (Q:=Ex.ok) (f:=Ex.cells) rows (λr hr=>Vp c (h2 r hr).2);refine⟨xs,⟨JU (by simpa using h1) Vo,Ex.Bz.2 h3⟩,?_⟩;rw[Q0,Ex.rows_map]
theorem OB: ∀ (c:Nat){ps:List PV},B7 prog c 67 ps-> ∃ f:Fm,f.ok/\ps=f.cells:=by
 intro c
 induction c using Nat.strongRecOn with
 |_ c ih=>
  intro ps h;cases c with
  |zero=>simp[B7]at h
  |succ c=>
   obtain⟨h1,h2⟩:=K5 Tryz.underlying67 h;rw[OA]at h1;rw[ia]at h2
   match ps,h1,h2 with
   |[p0,p1,p2,p3,p4,p5],_,h2=>
    have a0:=h2 (0,9) (by simp);have a1:=h2 (1,9) (by simp);have a2:=h2 (2,64) (by simp);have a3:=h2 (3,22) (by simp);have a4:=h2 (4,65) (by simp);have a5:=h2 (5,63) (by simp);simp only[JT,SB,M1,Vm,ig,List.drop_zero,List.drop_succ_cons,List.take_succ_cons,List.take_zero]at a0 a1 a2 a3 a4 a5;obtain⟨op,hop,e0⟩:=Ho a0;obtain⟨name,hname,e1⟩:=Ho a1;obtain⟨args,hargs,e2⟩:=SC a2;obtain⟨params,hparams,e3⟩:=Ky a3;obtain⟨exprs,hexprs,e4⟩:=iu a4;cases c with
    |zero=>simp[B7]at a5
    |succ c=>
     obtain⟨rows,e5,h3,_,h4⟩:=JS Tryz.underlying63 a5;obtain⟨xs,rfl,h5⟩:=J2 (Q:=Fm.ok) (f:=Fm.cells) rows (λr hr=>ih c (by omega) (h4 r hr).2);rw[OA]at e5;simp at e0 e1 e2 e3 e4 e5;refine⟨.mk op name args params exprs xs,?_,?_⟩
     ·simp only[Fm.ok];exact⟨hop,hname,hargs,hparams,hexprs,JU (by simpa using h3) iq,Fm.Bz.2 h5⟩
     ·simp only[Fm.cells,e0,e1,e2,e3,e4,e5,Fm.rows_map]
end Go.Proofs.YtblgchkahpgdjaaGreat
namespace Go.Proofs.YtblgchkahpgdjaaGreat
open Go.AM Go.Proofs.Tryz
set_option maxHeartbeats 2000000
set_option maxRecDepth 20000
theorem Vq: ∀ (e:Ex),e.ok-> ∀ h:A1,A6 prog 50 [.agg e.cells] h λr h'=>r= .sc (.int .i64 e.size)/\h'=h:=by
 refine Ex.ind ?_;intro op name n args kids ih hok h;simp only[Ex.ok]at hok;obtain⟨_,_,_,_,hk,hks⟩:=hok;rw[Ex.Bz]at hks;have hlen:=Ex.B4 kids;simp only[Ex.cells,Ex.size];refine AF func50 ntmps50 results50 Ty.fV ?_;refine wt hlen ?_;refine CG (λm S h'=>h'=h/\S 1= .Ag (Ex.mk op name n args kids).cells/\ ∃ k:Nat,S 4= .sc (.int .i64 k)/\k<=kids.length/\m=kids.length-k/\S 3= .sc (.int .i64 (Ex.E3 1 (kids.take k)))) kids.length ?_ ?_
 ·simp only[Ty.w,simprocAttr];exact⟨rfl,0,rfl,by omega,rfl,by simp[Ex.E3]⟩
 ·rintro m S h' ⟨rfl,g1,k,g4,hkl,rfl,g3⟩;simp only[Ex.cells]at g1;by_cases hlt:k<kids.length
  ·have hd:decide ((k:Int)<(kids.length:Int))=true:=(by simp;omega);have w7:IntKind.i64.wrap ((k:Int)+1)=k+1:=(by unfold AI at hk;rw[BZ (by omega) (by omega)]);obtain⟨e,hx⟩: ∃ e,kids[k]? =some e:=⟨_,List.getElem?_eq_getElem hlt⟩;have hmem:=List.mem_of_getElem? hx;have hc:=ih e hmem (hks e hmem);have hsz:=Ex.Ql 1 hx;have hr:=Ex.CL hx;obtain⟨op2,name2,n2,args2,kids2⟩:=e;simp only[Ex.cells]at hr hc;replace zz:=Ah g1 g3 g4 hlen hd hr w7;refine wt zz ?_;replace zz:=Al g1 g3 g4 hlen hd hr;refine uU zz (hc _) ?_;replace zz:=Aa g1 g3 g4 w7;refine wt zz ?_;exact⟨kids.length-(k+1),by omega,rfl,k+1,by simp,by omega,rfl,by rw[hsz]⟩
  ·have hd:decide ((k:Int)<(kids.length:Int))=false:=(by simp;omega);have hke:k=kids.length:=(by omega);subst hke;rw[List.take_length]at g3;replace zz:=Ak g1 g3 g4 hlen hd;exact wz zz
theorem OC: ∀ (f:Fm),f.ok-> ∀ h:A1,A6 prog 31 [.agg f.cells] h λr h'=>r= .sc (.int .i64 f.size)/\h'=h:=by
 refine Fm.ind ?_;intro op name args params exprs kids ih hok h;simp only[Fm.ok]at hok;obtain⟨_,_,_,_,⟨he,hes⟩,hk,hks⟩:=hok;rw[Ex.Bz]at hes;rw[Fm.Bz]at hks;have hlen:=Fm.B4 kids;have hlene:=Ex.B4 exprs;simp only[Fm.cells,Fm.size];refine AF func31 ntmps31 results31 Ty.fU ?_;refine wt hlen ?_;refine CG (λm S h'=>h'=h/\S 1= .Ag (Fm.mk op name args params exprs kids).cells/\ ∃ k:Nat,S 4= .sc (.int .i64 k)/\k<=exprs.length/\m=exprs.length-k/\S 3= .sc (.int .i64 (Ex.E3 1 (exprs.take k)))) exprs.length ?_ ?_
 ·simp only[Ty.w,simprocAttr];exact⟨rfl,0,rfl,by omega,rfl,by simp[Ex.E3]⟩
 ·rintro m S h' ⟨rfl,g1,k,g4,hkl,rfl,g3⟩;simp only[Fm.cells]at g1;by_cases hlt:k<exprs.length
  ·have hd:decide ((k:Int)<(exprs.length:Int))=true:=(by simp;omega);have w7:IntKind.i64.wrap ((k:Int)+1)=k+1:=(by unfold AI at he;rw[BZ (by omega) (by omega)]);obtain⟨e,hx⟩: ∃ e,exprs[k]? =some e:=⟨_,List.getElem?_eq_getElem hlt⟩;have hmem:=List.mem_of_getElem? hx;have hc:=Vq e (hes e hmem);have hsz:=Ex.Ql 1 hx;have hr:=Ex.CL hx;obtain⟨op2,name2,n2,args2,kids2⟩:=e;simp only[Ex.cells]at hr hc;replace zz:=Ah g1 g3 g4 hlene hd hr w7;refine wt zz ?_;replace zz:=Al g1 g3 g4 hlene hd hr;refine uU zz (hc _) ?_;replace zz:=Aa g1 g3 g4 w7;refine wt zz ?_;exact⟨exprs.length-(k+1),by omega,by simp only[Fm.cells],k+1,by simp,by omega,rfl,by rw[hsz]⟩
  ·have hd:decide ((k:Int)<(exprs.length:Int))=false:=(by simp;omega);have hke:k=exprs.length:=(by omega);subst hke;rw[List.take_length]at g3;replace zz:=Ak g1 g3 g4 hlene hd;refine wt zz ?_;refine CG (λm S h2=>h2=h'/\S 1= .Ag (Fm.mk op name args params exprs kids).cells/\ ∃ k:Nat,S 5= .sc (.int .i64 k)/\k<=kids.length/\m=kids.length-k/\S 3= .sc (.int .i64 (Fm.E3 (Ex.E3 1 exprs) (kids.take k)))) kids.length ?_ ?_
   ·simp only[Ty.w,simprocAttr,g1,g3];exact⟨by simp only[Fm.cells],0,rfl,by omega,rfl,by simp[Fm.E3]⟩
   ·clear g1 g3 g4;rintro m S h' ⟨rfl,g1,k,g5,hkl,rfl,g3⟩;simp only[Fm.cells]at g1;by_cases hlt:k<kids.length
    ·have hd:decide ((k:Int)<(kids.length:Int))=true:=(by simp;omega);have w7:IntKind.i64.wrap ((k:Int)+1)=k+1:=(by unfold AI at hk;rw[BZ (by omega) (by omega)]);obtain⟨e,hx⟩: ∃ e,kids[k]? =some e:=⟨_,List.getElem?_eq_getElem hlt⟩;have hmem:=List.mem_of_getElem? hx;have hc:=ih e hmem (hks e hmem);have hsz:=Fm.Ql (Ex.E3 1 exprs) hx;have hr:=Fm.CL hx;obtain⟨op2,name2,args2,params2,VU,kids2⟩:=e;simp only[Fm.cells]at hr hc;replace zz:=Ah g1 g3 g5 hlen hd hr w7;refine wt zz ?_;replace zz:=Al g1 g3 g5 hlen hd hr;refine uU zz (hc _) ?_;replace zz:=Aa g1 g3 g5 w7;refine wt zz ?_;exact⟨kids.length-(k+1),by omega,by simp only[Fm.cells],k+1,by simp,by omega,rfl,by rw[hsz]⟩
    ·have hd:decide ((k:Int)<(kids.length:Int))=false:=(by simp;omega);have hke:k=kids.length:=(by omega);subst hke;rw[List.take_length]at g3;replace zz:=Ak g1 g3 g5 hlen hd;exact wz zz
end Go.Proofs.YtblgchkahpgdjaaGreat
namespace Go.Proofs.YtblgchkahpgdjaaGreat
open Go.AM Go.Proofs.Tryz
set_option maxHeartbeats 2000000
set_option maxRecDepth 20000
theorem Hp(a:ByteArray):A3 a a=true:=by simp[A3]
theorem Q1: ∀ l:List ByteArray,FO l l=true
 |[]=>rfl
 |a::l=>by simp[FO,Hp,Q1 l]
theorem Kz: ∀ l:List Pm,Di l l=true
 |[]=>rfl
 |a::l=>by simp[Di,RO,Hp,Kz l]
theorem SD: ∀ {l:List Ex},(∀ e∈l,e.same e=true)->Ex.DM l l=true
 |[],_=>rfl
 |a::l,h=>by rw[Ex.DM,h a (List.mem_cons_self ..),SD (l:=l) λe he=>h e (List.mem_cons_of_mem _ he)];try rfl
theorem Vr: ∀ e:Ex,e.same e=true:=by
 refine Ex.ind ?_;intro op name n args kids ih;simp only[Ex.same,Hp,Q1,SD ih,D8,Ck]
theorem Vs: ∀ {l:List Fm},(∀ e∈l,e.same e=true)->Fm.DM l l=true
 |[],_=>rfl
 |a::l,h=>by rw[Fm.DM,h a (List.mem_cons_self ..),Vs (l:=l) λe he=>h e (List.mem_cons_of_mem _ he)];try rfl
theorem SE: ∀ f:Fm,f.same f=true:=by
 refine Fm.ind ?_;intro op name args params exprs kids ih;simp only[Fm.same,Hp,Q1,Kz,SD (λe _=>Vr e),Vs ih,Ck]
end Go.Proofs.YtblgchkahpgdjaaGreat
namespace Go.AM
def Ch.same(a b:Ch):Bool:=(a.kind==b.kind)&&(Di a.params b.params&&(a.cond.same b.cond&&(A3 a.name b.name&&(FO a.args b.args&&a.value.same b.value))))
def Pr.same(a b:Pr):Bool:=A3 a.name b.name&&Di a.params b.params
def Fu.same(a b:Fu):Bool:=A3 a.name b.name&&(Di a.params b.params&&((a.lo==b.lo)&&(a.hi==b.hi)))
def GT:List Ch->List Ch->Bool
 |[],[]=>true
 |a::l,b::m=>a.same b&&GT l m
 |_,_=>false
theorem Vt: ∀ {l m:List Ch},¬ l.length=m.length->GT l m=false
 |[],[],h=>by simp at h
 |[],_::_,_=>rfl
 |_::_,[],_=>rfl
 |a::l,b::m,h=>by simp only[GT,Vt (l:=l) (m:=m) (by simpa using h),BH]
def Hq:List Pr->List Pr->Bool
 |[],[]=>true
 |a::l,b::m=>a.same b&&Hq l m
 |_,_=>false
theorem Vu: ∀ {l m:List Pr},¬ l.length=m.length->Hq l m=false
 |[],[],h=>by simp at h
 |[],_::_,_=>rfl
 |_::_,[],_=>rfl
 |a::l,b::m,h=>by simp only[Hq,Vu (l:=l) (m:=m) (by simpa using h),BH]
def Hr:List Fu->List Fu->Bool
 |[],[]=>true
 |a::l,b::m=>a.same b&&Hr l m
 |_,_=>false
theorem Vv: ∀ {l m:List Fu},¬ l.length=m.length->Hr l m=false
 |[],[],h=>by simp at h
 |[],_::_,_=>rfl
 |_::_,[],_=>rfl
 |a::l,b::m,h=>by simp only[Hr,Vv (l:=l) (m:=m) (by simpa using h),BH]
def Ac.same(a b:Ac):Bool:=A3 a.name b.name&&(Di a.params b.params&&((a.cost==b.cost)&&(a.pre.same b.pre&&GT a.changes b.changes)))
def Du.same(a b:Du):Bool:=A3 a.name b.name&&(Di a.params b.params&&((a.Dp==b.Dp)&&(a.start.same b.start&&(a.over.same b.over&&(a.stop.same b.stop&&(GT a.Bp b.Bp&&GT a.Bq b.Bq))))))
def Ht:List Ac->List Ac->Bool
 |[],[]=>true
 |a::l,b::m=>a.same b&&Ht l m
 |_,_=>false
theorem Vw: ∀ {l m:List Ac},¬ l.length=m.length->Ht l m=false
 |[],[],h=>by simp at h
 |[],_::_,_=>rfl
 |_::_,[],_=>rfl
 |a::l,b::m,h=>by simp only[Ht,Vw (l:=l) (m:=m) (by simpa using h),BH]
def Hu:List Du->List Du->Bool
 |[],[]=>true
 |a::l,b::m=>a.same b&&Hu l m
 |_,_=>false
theorem Vx: ∀ {l m:List Du},¬ l.length=m.length->Hu l m=false
 |[],[],h=>by simp at h
 |[],_::_,_=>rfl
 |_::_,[],_=>rfl
 |a::l,b::m,h=>by simp only[Hu,Vx (l:=l) (m:=m) (by simpa using h),BH]
def Dm.same(a b:Dm):Bool:=A3 a.name b.name&&(Di a.types b.types&&(Di a.constants b.constants&&(Hq a.B5 b.B5&&(Hr a.Ay b.Ay&&(Ht a.At b.At&&Hu a.duratives b.duratives)))))
end Go.AM
namespace Go.Proofs.YtblgchkahpgdjaaGreat
open Go.AM Go.Proofs.Tryz
theorem iw(a:Ch):a.same a=true:=by simp[Ch.same,Kz,SE,Hp,Q1,Vr]
theorem ix(a:Pr):a.same a=true:=by simp[Pr.same,Kz,Hp]
theorem iy(a:Fu):a.same a=true:=by simp[Fu.same,Kz,Hp]
theorem SF: ∀ l:List Ch,GT l l=true
 |[]=>rfl
 |a::l=>by simp[GT,iw,SF l]
theorem Vy: ∀ l:List Pr,Hq l l=true
 |[]=>rfl
 |a::l=>by simp[Hq,ix,Vy l]
theorem Vz: ∀ l:List Fu,Hr l l=true
 |[]=>rfl
 |a::l=>by simp[Hr,iy,Vz l]
theorem iz(a:Ac):a.same a=true:=by simp[Ac.same,Kz,SE,Hp,SF]
theorem j0(a:Du):a.same a=true:=by simp[Du.same,Kz,SE,Hp,SF]
theorem W0: ∀ l:List Ac,Ht l l=true
 |[]=>rfl
 |a::l=>by simp[Ht,iz,W0 l]
theorem W1: ∀ l:List Du,Hu l l=true
 |[]=>rfl
 |a::l=>by simp[Hu,j0,W1 l]
theorem j1(a:Dm):a.same a=true:=by simp[Dm.same,Kz,Hp,Vy,Vz,W0,W1]
end Go.Proofs.YtblgchkahpgdjaaGreat
namespace Go.AM
def W4(q p:PV):Prop:=q=p\/(q= .sc (.slice none 0 0)/\ ∃ z,p= .A2 z [])
def Hv:List PV->List PV->Prop
 |[],[]=>True
 |q::qs,p::ps=>W4 q p/\Hv qs ps
 |_,_=>False
theorem AA.nil1{β:BK}{n:Nat}{F:Nat->Prop}{w:World}{q p:PV}{x:Value}(hq:W4 q p)(h:AA β n F w q x):AA β n F w p x:=by
 rcases hq with rfl|⟨rfl,z,rfl⟩
 ·exact h
 ·simp only[AA]at h⊢;exact⟨none,0,h,AG _,BY _,.inl (by trivial)⟩
theorem AU.nilL{β:BK}{n:Nat}{F:Nat->Prop}{w:World}: ∀ {qs ps:List PV}{xs:List Value},Hv qs ps->AU β n F w qs xs->AU β n F w ps xs
 |[],[],[],_,_=>by simp only[AU]
 |[],[],_::_,_,h=>by simp[AU]at h
 |q::qs,p::ps,[],_,h=>by simp[AU]at h
 |q::qs,p::ps,x::xs,hq,h=>by
  simp only[Go.AM.Hv]at hq;simp only[AU]at h⊢;exact⟨AA.nil1 hq.1 h.1,AU.nilL hq.2 h.2⟩
 |[],_::_,_,hq,_=>by simp[Go.AM.Hv]at hq
 |_::_,[],_,hq,_=>by simp[Go.AM.Hv]at hq
theorem A6.Z3{P:Program}{f:FuncId}{a a' b b':List PV}{h:A1}{K:PV->A1->Prop}(ha:Hv a' a)(hb:Hv b' b)(hc:A6 P f [.agg a,.agg b] h K):A6 P f [.agg a',.agg b'] h K:=by
 intro β w vals sm hr;refine hc β w vals sm ?_
 match vals,hr with
 |[x,y],hr=>
  simp only[AU,AA]at hr⊢;obtain⟨⟨xs,h1,h2,h3⟩,⟨ys,k1,k2,k3⟩,_⟩:=hr;exact⟨⟨xs,h1,h2,AU.nilL ha h3⟩,⟨ys,k1,k2,AU.nilL hb k3⟩,trivial⟩
end Go.AM
namespace Go.Proofs.YtblgchkahpgdjaaGreat
open Go.AM Go.Proofs.Tryz
set_option maxHeartbeats 4000000
set_option maxRecDepth 20000
theorem W5{a b:Ex}(ha:a.ok)(hb:b.ok)(h:A1):A6 prog 145 [.agg a.cells,.agg b.cells] h λr h'=>r= .sc (.bool (a.same b))/\h'=h:=by
 have ok1: ∀ e:Ex,e.ok->(Fm.mk ⟨#[]⟩ ⟨#[]⟩ [] [] [e] []).ok:=λe he=>by
  simp only[Fm.ok,Fm.DJ,Ex.DJ,List.length_nil,List.length_cons];exact⟨by simp[AI,ByteArray.size],by simp[AI,ByteArray.size],⟨by simp,by simp⟩,⟨by simp,by simp⟩,⟨by simp[AI],he,trivial⟩,by simp,trivial⟩
 have hc:=λh:A1=>Iz _ (ok1 a ha) _ (ok1 b hb) h;have hs:(Fm.mk ⟨#[]⟩ ⟨#[]⟩ [] [] [a] []).same (.mk ⟨#[]⟩ ⟨#[]⟩ [] [] [b] [])=a.same b:=by simp[Fm.same,Fm.DM,Ex.DM,A3,FO,Di]
 rw[hs]at hc;generalize a.same b=e at hc⊢;have hc2:=λh:A1=>A6.Z3 (a':=[.sc (.string ⟨#[]⟩),.sc (.string ⟨#[]⟩),.sc (.slice none 0 0),.sc (.slice none 0 0),.A2 5 [a.cells],.sc (.slice none 0 0)]) (b':=[.sc (.string ⟨#[]⟩),.sc (.string ⟨#[]⟩),.sc (.slice none 0 0),.sc (.slice none 0 0),.A2 5 [b.cells],.sc (.slice none 0 0)]) (by
  simp only[Fm.cells,Ex.rows,Fm.rows,AN,A9,List.map_nil,Hv];exact⟨.inl rfl,.inl rfl,.inr ⟨rfl,_,rfl⟩,.inr ⟨rfl,_,rfl⟩,.inl rfl,.inr ⟨rfl,_,rfl⟩,trivial⟩) (by
  simp only[Fm.cells,Ex.rows,Fm.rows,AN,A9,List.map_nil,Hv];exact⟨.inl rfl,.inl rfl,.inr ⟨rfl,_,rfl⟩,.inr ⟨rfl,_,rfl⟩,.inl rfl,.inr ⟨rfl,_,rfl⟩,trivial⟩) (hc h)
 clear ok1 ha hb hc hs;obtain⟨op,name,n,args,kids⟩:=a;obtain⟨op2,name2,n2,args2,kids2⟩:=b;simp only[Ex.cells]at hc2⊢;refine AF func145 ntmps145 results145 Ty.fy ?_;refine wt A5 ?_;refine uU A5 (hc2 _) ?_;exact wz A5
theorem SG{a b:Ch}(ha:a.ok)(hb:b.ok)(h:A1):A6 prog 128 [.agg (CZ a),.agg (CZ b)] h λr h'=>r= .sc (.bool (a.same b))/\h'=h:=by
 have c_params:=λh:A1=>K0 (h:=h) (l:=a.params) (m:=b.params) ha.params.1 hb.params.1;have c_cond:=Iz a.cond ha.cond b.cond hb.cond;have c_args:=λh:A1=>Ny (h:=h) (l:=a.args) (m:=b.args) ha.args.1 hb.args.1;have c_value:=W5 ha.value hb.value;unfold Ch.same;generalize Di a.params b.params=v_params at c_params⊢;generalize a.cond.same b.cond=v_cond at c_cond⊢;generalize FO a.args b.args=v_args at c_args⊢;generalize a.value.same b.value=v_value at c_value⊢
 clear ha hb;obtain⟨kind,params,⟨fopc,fnac,farc,fpac,fexc,fkic⟩,name,args,⟨eopv,enav,env,earv,ekiv⟩⟩:=a;obtain⟨kind3,params3,⟨fopc3,fnac3,farc3,fpac3,fexc3,fkic3⟩,name3,args3,⟨eopv3,enav3,env3,earv3,ekiv3⟩⟩:=b;simp only[CZ,Fm.cells,Ex.cells,List.cons_append,List.nil_append,A3]at c_params c_cond c_args c_value⊢;refine AF func128 ntmps128 results128 Ty.gN ?_;cases e0:(kind==kind3)with
 |false=>
  refine wm e0 ?_;try exact zI
  all_goals first|rfl|(simp only[e0,BF,BH,BG,Ck];done)
 |true=>
  refine wt e0 ?_;cases v_params with
  |false=>
   refine uU e0 (c_params _) ?_;refine wm e0 ?_;try exact zI
   all_goals first|rfl|(simp only[e0,BF,BH,BG,Ck];done)
  |true=>
   refine uU e0 (c_params _) ?_;refine wt e0 ?_;cases v_cond with
   |false=>
    refine uU e0 (c_cond _) ?_;refine wm e0 ?_;try exact zI
    all_goals first|rfl|(simp only[e0,BF,BH,BG,Ck];done)
   |true=>
    cases e1:(name.data.toList==name3.data.toList)with
    |false=>
     refine uU (uu e0 e1) (c_cond _) ?_;refine wm (uu e0 e1) ?_;try exact zI
     all_goals first|rfl|(simp only[e0,e1,BF,BH,BG,Ck];done)
    |true=>
     refine uU (uu e0 e1) (c_cond _) ?_;refine wt (uu e0 e1) ?_;cases v_args with
     |false=>
      refine uU (uu e0 e1) (c_args _) ?_;refine wm (uu e0 e1) ?_;try exact zI
      all_goals first|rfl|(simp only[e0,e1,BF,BH,BG,Ck];done)
     |true=>
      refine uU (uu e0 e1) (c_args _) ?_;refine wt (uu e0 e1) ?_;refine uU (uu e0 e1) (c_value _) ?_;refine wm (uu e0 e1) ?_;try exact zI
      all_goals first|rfl|(simp only[e0,e1,BF,BH,BG,Ck];done)
theorem SH{g:FuncId}{l m:List Ch}(hl:l.length<=AI)(hf: ∀ a∈l, ∀ b∈m, ∀ h:A1,A6 prog g [.agg (CZ a),.agg (CZ b)] h λr h'=>r= .sc (.bool (a.same b))/\h'=h)(h:A1):
  A6 prog 127 [.A2 15 (Ae l),.A2 15 (Ae m),.sc (.func (.func g) #[] #[])] h λr h'=>r= .sc (.bool (GT l m))/\h'=h:=by
 unfold AI at hl;have hll:=Ko l;have hlm:=Ko m;refine A6.quiet Ty.Um ?_;refine AF func127 ntmps127 results127 Ty.Um ?_;cases hne:((l.length:Int) !=m.length)with
 |true=>
  have:GT l m=false:=Vt (by simp at hne;omega);refine wt (AY hll hlm hne) ?_;rw[this];exact⟨rfl,AH.refl _⟩
 |false=>
  have hlen:l.length=m.length:=by simp at hne;omega
  refine wt (AY hll hlm hne) ?_;refine CG (λc S h'=>AH h h'/\S 1= .A2 15 (Ae m)/\S 2= .sc (.func (.func g) #[] #[])/\S 15= .A2 15 (Ae l)/\S 16= .sc (.int .i64 l.length)/\ ∃ k:Nat,S 17= .sc (.int .i64 k)/\k<=l.length/\c=l.length-k/\GT l m=GT (l.drop k) (m.drop k)) l.length ?_ ?_
  ·simp only[Ty.w,simprocAttr];exact⟨AH.refl _,0,rfl,by omega,rfl,by simp⟩
  ·rintro c S h' ⟨hg,g1,g2,g15,g16,k,gk,hkl,rfl,hinv⟩;by_cases hlt:k<l.length
   ·have hd:decide ((k:Int)<(l.length:Int))=true:=(by simp;omega);have w7:IntKind.i64.wrap ((k:Int)+1)=k+1:=(by rw[BZ (by omega) (by omega)]);obtain⟨a,hx⟩: ∃ a,l[k]? =some a:=⟨_,List.getElem?_eq_getElem hlt⟩;obtain⟨b,hy⟩: ∃ b,m[k]? =some b:=⟨_,List.getElem?_eq_getElem (by omega)⟩;have hc:=hf a (List.mem_of_getElem? hx) b (List.mem_of_getElem? hy);rw[Cd hx,Cd hy]at hinv;simp only[GT]at hinv;have hr:=No hx;have hr2:=No hy;generalize he:a.same b=e at hc hinv;clear he hf;obtain⟨kind2,params2,⟨fopc2,fnac2,farc2,fpac2,fexc2,fkic2⟩,name2,args2,⟨eopv2,enav2,env2,earv2,ekiv2⟩⟩:=a;obtain⟨kind3,params3,⟨fopc3,fnac3,farc3,fpac3,fexc3,fkic3⟩,name3,args3,⟨eopv3,enav3,env3,earv3,ekiv3⟩⟩:=b;simp only[CZ,Fm.cells,Ex.cells,List.cons_append,List.nil_append]at hr hr2 hc;replace zz:=Ab g1 g2 g15 g16 gk hll hlm hd hr hr2 w7 @B1;refine wy zz ?_;refine Jz (sq g2) (hc _) (by simp only[Ty.w,simprocAttr,g1,g2,g15,g16,gk];try rfl) ?_;simp only[Ty.w,simprocAttr,Ty.AW];cases e with
    |false=>
     replace zz:=Ah g1 g2 g15 g16 gk w7 yF;refine wy zz ?_;rw[hinv];exact⟨rfl,(((hg.new _).set hg.le _).new _).set (I7 hg.le) _⟩
    |true=>
     replace zz:=Ah g1 g2 g15 g16 gk w7 yT;refine wy zz ?_;rw[BG]at hinv;exact⟨l.length-(k+1),by omega,(((hg.new _).set hg.le _).new _).set (I7 hg.le) _,k+1,by simp,by omega,rfl,hinv⟩
   ·have hd:decide ((k:Int)<(l.length:Int))=false:=(by simp;omega);rw[List.drop_eq_nil_of_le (by omega),List.drop_eq_nil_of_le (by omega)]at hinv;simp only[GT]at hinv;replace zz:=Ah g1 g2 g15 g16 gk hll hd;refine wt zz ?_;rw[hinv];exact⟨rfl,hg⟩
theorem j2{g:FuncId}{l m:List Pr}(hl:l.length<=AI)(hf: ∀ a∈l, ∀ b∈m, ∀ h:A1,A6 prog g [.agg (Dr a),.agg (Dr b)] h λr h'=>r= .sc (.bool (a.same b))/\h'=h)(h:A1):
  A6 prog 71 [.A2 2 (Ba l),.A2 2 (Ba m),.sc (.func (.func g) #[] #[])] h λr h'=>r= .sc (.bool (Hq l m))/\h'=h:=by
 unfold AI at hl;have hll:=Mi l;have hlm:=Mi m;refine A6.quiet Ty.UZ ?_;refine AF func71 ntmps71 results71 Ty.UZ ?_;cases hne:((l.length:Int) !=m.length)with
 |true=>
  have:Hq l m=false:=Vu (by simp at hne;omega);refine wt (AY hll hlm hne) ?_;rw[this];exact⟨rfl,AH.refl _⟩
 |false=>
  have hlen:l.length=m.length:=by simp at hne;omega
  refine wt (AY hll hlm hne) ?_;refine CG (λc S h'=>AH h h'/\S 1= .A2 2 (Ba m)/\S 2= .sc (.func (.func g) #[] #[])/\S 15= .A2 2 (Ba l)/\S 16= .sc (.int .i64 l.length)/\ ∃ k:Nat,S 17= .sc (.int .i64 k)/\k<=l.length/\c=l.length-k/\Hq l m=Hq (l.drop k) (m.drop k)) l.length ?_ ?_
  ·simp only[Ty.w,simprocAttr];exact⟨AH.refl _,0,rfl,by omega,rfl,by simp⟩
  ·rintro c S h' ⟨hg,g1,g2,g15,g16,k,gk,hkl,rfl,hinv⟩;by_cases hlt:k<l.length
   ·have hd:decide ((k:Int)<(l.length:Int))=true:=(by simp;omega);have w7:IntKind.i64.wrap ((k:Int)+1)=k+1:=(by rw[BZ (by omega) (by omega)]);obtain⟨a,hx⟩: ∃ a,l[k]? =some a:=⟨_,List.getElem?_eq_getElem hlt⟩;obtain⟨b,hy⟩: ∃ b,m[k]? =some b:=⟨_,List.getElem?_eq_getElem (by omega)⟩;have hc:=hf a (List.mem_of_getElem? hx) b (List.mem_of_getElem? hy);rw[Cd hx,Cd hy]at hinv;simp only[Hq]at hinv;have hr:=RP hx;have hr2:=RP hy;generalize he:a.same b=e at hc hinv;clear he hf;obtain⟨name2,params2⟩:=a;obtain⟨name3,params3⟩:=b;simp only[Dr,Fm.cells,Ex.cells,List.cons_append,List.nil_append]at hr hr2 hc;replace zz:=Ab g1 g2 g15 g16 gk hll hlm hd hr hr2 w7 @B1;refine wy zz ?_;refine Jz (sq g2) (hc _) (by simp only[Ty.w,simprocAttr,g1,g2,g15,g16,gk];try rfl) ?_;simp only[Ty.w,simprocAttr,Ty.AW];cases e with
    |false=>
     replace zz:=Ah g1 g2 g15 g16 gk w7 yF;refine wy zz ?_;rw[hinv];exact⟨rfl,(((hg.new _).set hg.le _).new _).set (I7 hg.le) _⟩
    |true=>
     replace zz:=Ah g1 g2 g15 g16 gk w7 yT;refine wy zz ?_;rw[BG]at hinv;exact⟨l.length-(k+1),by omega,(((hg.new _).set hg.le _).new _).set (I7 hg.le) _,k+1,by simp,by omega,rfl,hinv⟩
   ·have hd:decide ((k:Int)<(l.length:Int))=false:=(by simp;omega);rw[List.drop_eq_nil_of_le (by omega),List.drop_eq_nil_of_le (by omega)]at hinv;simp only[Hq]at hinv;replace zz:=Ah g1 g2 g15 g16 gk hll hd;refine wt zz ?_;rw[hinv];exact⟨rfl,hg⟩
theorem j3{g:FuncId}{l m:List Fu}(hl:l.length<=AI)(hf: ∀ a∈l, ∀ b∈m, ∀ h:A1,A6 prog g [.agg (Ds a),.agg (Ds b)] h λr h'=>r= .sc (.bool (a.same b))/\h'=h)(h:A1):
  A6 prog 72 [.A2 4 (BX l),.A2 4 (BX m),.sc (.func (.func g) #[] #[])] h λr h'=>r= .sc (.bool (Hr l m))/\h'=h:=by
 unfold AI at hl;have hll:=Mj l;have hlm:=Mj m;refine A6.quiet Ty.Ua ?_;refine AF func72 ntmps72 results72 Ty.Ua ?_;cases hne:((l.length:Int) !=m.length)with
 |true=>
  have:Hr l m=false:=Vv (by simp at hne;omega);refine wt (AY hll hlm hne) ?_;rw[this];exact⟨rfl,AH.refl _⟩
 |false=>
  have hlen:l.length=m.length:=by simp at hne;omega
  refine wt (AY hll hlm hne) ?_;refine CG (λc S h'=>AH h h'/\S 1= .A2 4 (BX m)/\S 2= .sc (.func (.func g) #[] #[])/\S 15= .A2 4 (BX l)/\S 16= .sc (.int .i64 l.length)/\ ∃ k:Nat,S 17= .sc (.int .i64 k)/\k<=l.length/\c=l.length-k/\Hr l m=Hr (l.drop k) (m.drop k)) l.length ?_ ?_
  ·simp only[Ty.w,simprocAttr];exact⟨AH.refl _,0,rfl,by omega,rfl,by simp⟩
  ·rintro c S h' ⟨hg,g1,g2,g15,g16,k,gk,hkl,rfl,hinv⟩;by_cases hlt:k<l.length
   ·have hd:decide ((k:Int)<(l.length:Int))=true:=(by simp;omega);have w7:IntKind.i64.wrap ((k:Int)+1)=k+1:=(by rw[BZ (by omega) (by omega)]);obtain⟨a,hx⟩: ∃ a,l[k]? =some a:=⟨_,List.getElem?_eq_getElem hlt⟩;obtain⟨b,hy⟩: ∃ b,m[k]? =some b:=⟨_,List.getElem?_eq_getElem (by omega)⟩;have hc:=hf a (List.mem_of_getElem? hx) b (List.mem_of_getElem? hy);rw[Cd hx,Cd hy]at hinv;simp only[Hr]at hinv;have hr:=RQ hx;have hr2:=RQ hy;generalize he:a.same b=e at hc hinv;clear he hf;obtain⟨name2,params2,lo2,hi2⟩:=a;obtain⟨name3,params3,lo3,hi3⟩:=b;simp only[Ds,Fm.cells,Ex.cells,List.cons_append,List.nil_append]at hr hr2 hc;replace zz:=Ab g1 g2 g15 g16 gk hll hlm hd hr hr2 w7 @B1;refine wy zz ?_;refine Jz (sq g2) (hc _) (by simp only[Ty.w,simprocAttr,g1,g2,g15,g16,gk];try rfl) ?_;simp only[Ty.w,simprocAttr,Ty.AW];cases e with
    |false=>
     replace zz:=Ah g1 g2 g15 g16 gk w7 yF;refine wy zz ?_;rw[hinv];exact⟨rfl,(((hg.new _).set hg.le _).new _).set (I7 hg.le) _⟩
    |true=>
     replace zz:=Ah g1 g2 g15 g16 gk w7 yT;refine wy zz ?_;rw[BG]at hinv;exact⟨l.length-(k+1),by omega,(((hg.new _).set hg.le _).new _).set (I7 hg.le) _,k+1,by simp,by omega,rfl,hinv⟩
   ·have hd:decide ((k:Int)<(l.length:Int))=false:=(by simp;omega);rw[List.drop_eq_nil_of_le (by omega),List.drop_eq_nil_of_le (by omega)]at hinv;simp only[Hr]at hinv;replace zz:=Ah g1 g2 g15 g16 gk hll hd;refine wt zz ?_;rw[hinv];exact⟨rfl,hg⟩
theorem j4{g:FuncId}{l m:List Ac}(hl:l.length<=AI)(hf: ∀ a∈l, ∀ b∈m, ∀ h:A1,A6 prog g [.agg (DE a),.agg (DE b)] h λr h'=>r= .sc (.bool (a.same b))/\h'=h)(h:A1):
  A6 prog 73 [.A2 10 (BP l),.A2 10 (BP m),.sc (.func (.func g) #[] #[])] h λr h'=>r= .sc (.bool (Ht l m))/\h'=h:=by
 unfold AI at hl;have hll:=Ll l;have hlm:=Ll m;refine A6.quiet Ty.Ub ?_;refine AF func73 ntmps73 results73 Ty.Ub ?_;cases hne:((l.length:Int) !=m.length)with
 |true=>
  have:Ht l m=false:=Vw (by simp at hne;omega);refine wt (AY hll hlm hne) ?_;rw[this];exact⟨rfl,AH.refl _⟩
 |false=>
  have hlen:l.length=m.length:=by simp at hne;omega
  refine wt (AY hll hlm hne) ?_;refine CG (λc S h'=>AH h h'/\S 1= .A2 10 (BP m)/\S 2= .sc (.func (.func g) #[] #[])/\S 15= .A2 10 (BP l)/\S 16= .sc (.int .i64 l.length)/\ ∃ k:Nat,S 17= .sc (.int .i64 k)/\k<=l.length/\c=l.length-k/\Ht l m=Ht (l.drop k) (m.drop k)) l.length ?_ ?_
  ·simp only[Ty.w,simprocAttr];exact⟨AH.refl _,0,rfl,by omega,rfl,by simp⟩
  ·rintro c S h' ⟨hg,g1,g2,g15,g16,k,gk,hkl,rfl,hinv⟩;by_cases hlt:k<l.length
   ·have hd:decide ((k:Int)<(l.length:Int))=true:=(by simp;omega);have w7:IntKind.i64.wrap ((k:Int)+1)=k+1:=(by rw[BZ (by omega) (by omega)]);obtain⟨a,hx⟩: ∃ a,l[k]? =some a:=⟨_,List.getElem?_eq_getElem hlt⟩;obtain⟨b,hy⟩: ∃ b,m[k]? =some b:=⟨_,List.getElem?_eq_getElem (by omega)⟩;have hc:=hf a (List.mem_of_getElem? hx) b (List.mem_of_getElem? hy);rw[Cd hx,Cd hy]at hinv;simp only[Ht]at hinv;have hr:=Np hx;have hr2:=Np hy;generalize he:a.same b=e at hc hinv;clear he hf;obtain⟨name2,params2,cost2,⟨fopp2,fnap2,farp2,fpap2,fexp2,fkip2⟩,changes2⟩:=a;obtain⟨name3,params3,cost3,⟨fopp3,fnap3,farp3,fpap3,fexp3,fkip3⟩,changes3⟩:=b;simp only[DE,Fm.cells,Ex.cells,List.cons_append,List.nil_append]at hr hr2 hc;replace zz:=Ab g1 g2 g15 g16 gk hll hlm hd hr hr2 w7 @B1;refine wy zz ?_;refine Jz (sq g2) (hc _) (by simp only[Ty.w,simprocAttr,g1,g2,g15,g16,gk];try rfl) ?_;simp only[Ty.w,simprocAttr,Ty.AW];cases e with
    |false=>
     replace zz:=Ah g1 g2 g15 g16 gk w7 yF;refine wy zz ?_;rw[hinv];exact⟨rfl,(((hg.new _).set hg.le _).new _).set (I7 hg.le) _⟩
    |true=>
     replace zz:=Ah g1 g2 g15 g16 gk w7 yT;refine wy zz ?_;rw[BG]at hinv;exact⟨l.length-(k+1),by omega,(((hg.new _).set hg.le _).new _).set (I7 hg.le) _,k+1,by simp,by omega,rfl,hinv⟩
   ·have hd:decide ((k:Int)<(l.length:Int))=false:=(by simp;omega);rw[List.drop_eq_nil_of_le (by omega),List.drop_eq_nil_of_le (by omega)]at hinv;simp only[Ht]at hinv;replace zz:=Ah g1 g2 g15 g16 gk hll hd;refine wt zz ?_;rw[hinv];exact⟨rfl,hg⟩
theorem j5{g:FuncId}{l m:List Du}(hl:l.length<=AI)(hf: ∀ a∈l, ∀ b∈m, ∀ h:A1,A6 prog g [.agg (DF a),.agg (DF b)] h λr h'=>r= .sc (.bool (a.same b))/\h'=h)(h:A1):
  A6 prog 75 [.A2 23 (BU l),.A2 23 (BU m),.sc (.func (.func g) #[] #[])] h λr h'=>r= .sc (.bool (Hu l m))/\h'=h:=by
 unfold AI at hl;have hll:=Lm l;have hlm:=Lm m;refine A6.quiet Ty.Uc ?_;refine AF func75 ntmps75 results75 Ty.Uc ?_;cases hne:((l.length:Int) !=m.length)with
 |true=>
  have:Hu l m=false:=Vx (by simp at hne;omega);refine wt (AY hll hlm hne) ?_;rw[this];exact⟨rfl,AH.refl _⟩
 |false=>
  have hlen:l.length=m.length:=by simp at hne;omega
  refine wt (AY hll hlm hne) ?_;refine CG (λc S h'=>AH h h'/\S 1= .A2 23 (BU m)/\S 2= .sc (.func (.func g) #[] #[])/\S 15= .A2 23 (BU l)/\S 16= .sc (.int .i64 l.length)/\ ∃ k:Nat,S 17= .sc (.int .i64 k)/\k<=l.length/\c=l.length-k/\Hu l m=Hu (l.drop k) (m.drop k)) l.length ?_ ?_
  ·simp only[Ty.w,simprocAttr];exact⟨AH.refl _,0,rfl,by omega,rfl,by simp⟩
  ·rintro c S h' ⟨hg,g1,g2,g15,g16,k,gk,hkl,rfl,hinv⟩;by_cases hlt:k<l.length
   ·have hd:decide ((k:Int)<(l.length:Int))=true:=(by simp;omega);have w7:IntKind.i64.wrap ((k:Int)+1)=k+1:=(by rw[BZ (by omega) (by omega)]);obtain⟨a,hx⟩: ∃ a,l[k]? =some a:=⟨_,List.getElem?_eq_getElem hlt⟩;obtain⟨b,hy⟩: ∃ b,m[k]? =some b:=⟨_,List.getElem?_eq_getElem (by omega)⟩;have hc:=hf a (List.mem_of_getElem? hx) b (List.mem_of_getElem? hy);rw[Cd hx,Cd hy]at hinv;simp only[Hu]at hinv;have hr:=Nq hx;have hr2:=Nq hy;generalize he:a.same b=e at hc hinv;clear he hf;obtain⟨name2,params2,dur2,⟨fops2,fnas2,fars2,fpas2,fexs2,fkis2⟩,⟨fopo2,fnao2,faro2,fpao2,fexo2,fkio2⟩,⟨fope2,fnae2,fare2,fpae2,fexe2,fkie2⟩,atStart2,atStop2⟩:=a;obtain⟨name3,params3,dur3,⟨fops3,fnas3,fars3,fpas3,fexs3,fkis3⟩,⟨fopo3,fnao3,faro3,fpao3,fexo3,fkio3⟩,⟨fope3,fnae3,fare3,fpae3,fexe3,fkie3⟩,atStart3,atStop3⟩:=b;simp only[DF,Fm.cells,Ex.cells,List.cons_append,List.nil_append]at hr hr2 hc;replace zz:=Ab g1 g2 g15 g16 gk hll hlm hd hr hr2 w7 @B1;refine wy zz ?_;refine Jz (sq g2) (hc _) (by simp only[Ty.w,simprocAttr,g1,g2,g15,g16,gk];try rfl) ?_;simp only[Ty.w,simprocAttr,Ty.AW];cases e with
    |false=>
     replace zz:=Ah g1 g2 g15 g16 gk w7 yF;refine wy zz ?_;rw[hinv];exact⟨rfl,(((hg.new _).set hg.le _).new _).set (I7 hg.le) _⟩
    |true=>
     replace zz:=Ah g1 g2 g15 g16 gk w7 yT;refine wy zz ?_;rw[BG]at hinv;exact⟨l.length-(k+1),by omega,(((hg.new _).set hg.le _).new _).set (I7 hg.le) _,k+1,by simp,by omega,rfl,hinv⟩
   ·have hd:decide ((k:Int)<(l.length:Int))=false:=(by simp;omega);rw[List.drop_eq_nil_of_le (by omega),List.drop_eq_nil_of_le (by omega)]at hinv;simp only[Hu]at hinv;replace zz:=Ah g1 g2 g15 g16 gk hll hd;refine wt zz ?_;rw[hinv];exact⟨rfl,hg⟩
theorem j6{a b:Pr}(ha:a.ok)(hb:b.ok)(h:A1):A6 prog 68 [.agg (Dr a),.agg (Dr b)] h λr h'=>r= .sc (.bool (a.same b))/\h'=h:=by
 have c_params:=λh:A1=>K0 (h:=h) (l:=a.params) (m:=b.params) ha.params.1 hb.params.1;unfold Pr.same;generalize Di a.params b.params=v_params at c_params⊢
 clear ha hb;obtain⟨name,params⟩:=a;obtain⟨name3,params3⟩:=b;simp only[Dr,Fm.cells,Ex.cells,List.cons_append,List.nil_append,A3]at c_params⊢;refine AF func68 ntmps68 results68 Ty.gF ?_;cases e0:(name.data.toList==name3.data.toList)with
 |false=>
  refine wm e0 ?_;try exact zI
  all_goals first|rfl|(simp only[e0,BF,BH,BG,Ck];done)
 |true=>
  refine wt e0 ?_;refine uU e0 (c_params _) ?_;refine wm e0 ?_;try exact zI
  all_goals first|rfl|(simp only[e0,BF,BH,BG,Ck];done)
theorem j8{a b:Fu}(ha:a.ok)(hb:b.ok)(h:A1):A6 prog 70 [.agg (Ds a),.agg (Ds b)] h λr h'=>r= .sc (.bool (a.same b))/\h'=h:=by
 have c_params:=λh:A1=>K0 (h:=h) (l:=a.params) (m:=b.params) ha.params.1 hb.params.1;unfold Fu.same;generalize Di a.params b.params=v_params at c_params⊢
 clear ha hb;obtain⟨name,params,lo,hi⟩:=a;obtain⟨name3,params3,lo3,hi3⟩:=b;simp only[Ds,Fm.cells,Ex.cells,List.cons_append,List.nil_append,A3]at c_params⊢;refine AF func70 ntmps70 results70 Ty.gG ?_;cases e0:(name.data.toList==name3.data.toList)with
 |false=>
  refine wm e0 ?_;try exact zI
  all_goals first|rfl|(simp only[e0,BF,BH,BG,Ck];done)
 |true=>
  refine wt e0 ?_;cases v_params with
  |false=>
   refine uU e0 (c_params _) ?_;refine wm e0 ?_;try exact zI
   all_goals first|rfl|(simp only[e0,BF,BH,BG,Ck];done)
  |true=>
   cases e1:(lo==lo3)with
   |false=>
    refine uU (uu e0 e1) (c_params _) ?_;refine wm (uu e0 e1) ?_;try exact zI
    all_goals first|rfl|(simp only[e0,e1,BF,BH,BG,Ck];done)
   |true=>
    cases e2:(hi==hi3)with
    |false=>
     refine uU (AY e0 e1 e2) (c_params _) ?_;refine wm (AY e0 e1 e2) ?_;try exact zI
     all_goals first|rfl|(simp only[e0,e1,e2,BF,BH,BG,Ck];done)
    |true=>
     refine uU (AY e0 e1 e2) (c_params _) ?_;refine wm (AY e0 e1 e2) ?_;try exact zI
     all_goals first|rfl|(simp only[e0,e1,e2,BF,BH,BG,Ck];done)
theorem j9{a b:Ac}(ha:a.ok)(hb:b.ok)(h:A1):A6 prog 74 [.agg (DE a),.agg (DE b)] h λr h'=>r= .sc (.bool (a.same b))/\h'=h:=by
 have c_params:=λh:A1=>K0 (h:=h) (l:=a.params) (m:=b.params) ha.params.1 hb.params.1;have c_pre:=Iz a.pre ha.pre b.pre hb.pre;have c_changes:=SH (g:=128) ha.changes.1 (λx hx y hy=>SG (ha.changes.2 x hx) (hb.changes.2 y hy));unfold Ac.same;generalize Di a.params b.params=v_params at c_params⊢;generalize a.pre.same b.pre=v_pre at c_pre⊢;generalize GT a.changes b.changes=v_changes at c_changes⊢
 clear ha hb;obtain⟨name,params,cost,⟨fopp,fnap,farp,fpap,fexp,fkip⟩,changes⟩:=a;obtain⟨name3,params3,cost3,⟨fopp3,fnap3,farp3,fpap3,fexp3,fkip3⟩,changes3⟩:=b;simp only[DE,Fm.cells,Ex.cells,List.cons_append,List.nil_append,A3]at c_params c_pre c_changes⊢;refine AF func74 ntmps74 results74 Ty.gH ?_;cases e0:(name.data.toList==name3.data.toList)with
 |false=>
  refine wm e0 ?_;try exact zI
  all_goals first|rfl|(simp only[e0,BF,BH,BG,Ck];done)
 |true=>
  refine wt e0 ?_;cases v_params with
  |false=>
   refine uU e0 (c_params _) ?_;refine wm e0 ?_;try exact zI
   all_goals first|rfl|(simp only[e0,BF,BH,BG,Ck];done)
  |true=>
   cases e1:(cost==cost3)with
   |false=>
    refine uU (uu e0 e1) (c_params _) ?_;refine wm (uu e0 e1) ?_;try exact zI
    all_goals first|rfl|(simp only[e0,e1,BF,BH,BG,Ck];done)
   |true=>
    refine uU (uu e0 e1) (c_params _) ?_;refine wt (uu e0 e1) ?_;cases v_pre with
    |false=>
     refine uU (uu e0 e1) (c_pre _) ?_;refine wm (uu e0 e1) ?_;try exact zI
     all_goals first|rfl|(simp only[e0,e1,BF,BH,BG,Ck];done)
    |true=>
     refine uU (uu e0 e1) (c_pre _) ?_;refine wt (uu e0 e1) ?_;refine uU (uu e0 e1) (c_changes _) ?_;refine wm (uu e0 e1) ?_;try exact zI
     all_goals first|rfl|(simp only[e0,e1,BF,BH,BG,Ck];done)
theorem jA{a b:Du}(ha:a.ok)(hb:b.ok)(h:A1):A6 prog 76 [.agg (DF a),.agg (DF b)] h λr h'=>r= .sc (.bool (a.same b))/\h'=h:=by
 have c_params:=λh:A1=>K0 (h:=h) (l:=a.params) (m:=b.params) ha.params.1 hb.params.1;have c_start:=Iz a.start ha.start b.start hb.start;have c_over:=Iz a.over ha.over b.over hb.over;have c_stop:=Iz a.stop ha.stop b.stop hb.stop;have c_atStart:=SH (g:=128) ha.Bp.1 (λx hx y hy=>SG (ha.Bp.2 x hx) (hb.Bp.2 y hy));have c_atStop:=SH (g:=128) ha.Bq.1 (λx hx y hy=>SG (ha.Bq.2 x hx) (hb.Bq.2 y hy));unfold Du.same;generalize Di a.params b.params=v_params at c_params⊢;generalize a.start.same b.start=v_start at c_start⊢;generalize a.over.same b.over=v_over at c_over⊢;generalize a.stop.same b.stop=v_stop at c_stop⊢;generalize GT a.Bp b.Bp=v_atStart at c_atStart⊢;generalize GT a.Bq b.Bq=v_atStop at c_atStop⊢
 clear ha hb;obtain⟨name,params,dur,⟨fops,fnas,fars,fpas,fexs,fkis⟩,⟨fopo,fnao,faro,fpao,fexo,fkio⟩,⟨fope,fnae,fare,fpae,fexe,fkie⟩,Bp,Bq⟩:=a;obtain⟨name3,params3,dur3,⟨fops3,fnas3,fars3,fpas3,fexs3,fkis3⟩,⟨fopo3,fnao3,faro3,fpao3,fexo3,fkio3⟩,⟨fope3,fnae3,fare3,fpae3,fexe3,fkie3⟩,atStart3,atStop3⟩:=b;simp only[DF,Fm.cells,Ex.cells,List.cons_append,List.nil_append,A3]at c_params c_start c_over c_stop c_atStart c_atStop⊢;refine AF func76 ntmps76 results76 Ty.gI ?_;cases e0:(name.data.toList==name3.data.toList)with
 |false=>
  refine wm e0 ?_;try exact zI
  all_goals first|rfl|(simp only[e0,BF,BH,BG,Ck];done)
 |true=>
  refine wt e0 ?_;cases v_params with
  |false=>
   refine uU e0 (c_params _) ?_;refine wm e0 ?_;try exact zI
   all_goals first|rfl|(simp only[e0,BF,BH,BG,Ck];done)
  |true=>
   cases e1:(dur==dur3)with
   |false=>
    refine uU (uu e0 e1) (c_params _) ?_;refine wm (uu e0 e1) ?_;try exact zI
    all_goals first|rfl|(simp only[e0,e1,BF,BH,BG,Ck];done)
   |true=>
    refine uU (uu e0 e1) (c_params _) ?_;refine wt (uu e0 e1) ?_;cases v_start with
    |false=>
     refine uU (uu e0 e1) (c_start _) ?_;refine wm (uu e0 e1) ?_;try exact zI
     all_goals first|rfl|(simp only[e0,e1,BF,BH,BG,Ck];done)
    |true=>
     refine uU (uu e0 e1) (c_start _) ?_;refine wt (uu e0 e1) ?_;cases v_over with
     |false=>
      refine uU (uu e0 e1) (c_over _) ?_;refine wm (uu e0 e1) ?_;try exact zI
      all_goals first|rfl|(simp only[e0,e1,BF,BH,BG,Ck];done)
     |true=>
      refine uU (uu e0 e1) (c_over _) ?_;refine wt (uu e0 e1) ?_;cases v_stop with
      |false=>
       refine uU (uu e0 e1) (c_stop _) ?_;refine wm (uu e0 e1) ?_;try exact zI
       all_goals first|rfl|(simp only[e0,e1,BF,BH,BG,Ck];done)
      |true=>
       refine uU (uu e0 e1) (c_stop _) ?_;refine wt (uu e0 e1) ?_;cases v_atStart with
       |false=>
        refine uU (uu e0 e1) (c_atStart _) ?_;refine wm (uu e0 e1) ?_;try exact zI
        all_goals first|rfl|(simp only[e0,e1,BF,BH,BG,Ck];done)
       |true=>
        refine uU (uu e0 e1) (c_atStart _) ?_;refine wt (uu e0 e1) ?_;refine uU (uu e0 e1) (c_atStop _) ?_;refine wm (uu e0 e1) ?_;try exact zI
        all_goals first|rfl|(simp only[e0,e1,BF,BH,BG,Ck];done)
theorem jB(a b:Dm)(ha:a.ok)(hb:b.ok)(h:A1):A6 prog 26 [.agg a.cells,.agg b.cells] h λr h'=>r= .sc (.bool (a.same b))/\h'=h:=by
 have c_types:=λh:A1=>K0 (h:=h) (l:=a.types) (m:=b.types) ha.types.1 hb.types.1;have c_constants:=λh:A1=>K0 (h:=h) (l:=a.constants) (m:=b.constants) ha.constants.1 hb.constants.1;have c_predicates:=j2 (g:=68) ha.B5.1 (λx hx y hy=>j6 (ha.B5.2 x hx) (hb.B5.2 y hy));have c_functions:=j3 (g:=70) ha.Ay.1 (λx hx y hy=>j8 (ha.Ay.2 x hx) (hb.Ay.2 y hy));have c_actions:=j4 (g:=74) ha.At.1 (λx hx y hy=>j9 (ha.At.2 x hx) (hb.At.2 y hy));have c_duratives:=j5 (g:=76) ha.duratives.1 (λx hx y hy=>jA (ha.duratives.2 x hx) (hb.duratives.2 y hy));unfold Dm.same;generalize Di a.types b.types=v_types at c_types⊢;generalize Di a.constants b.constants=v_constants at c_constants⊢;generalize Hq a.B5 b.B5=v_predicates at c_predicates⊢;generalize Hr a.Ay b.Ay=v_functions at c_functions⊢;generalize Ht a.At b.At=v_actions at c_actions⊢;generalize Hu a.duratives b.duratives=v_duratives at c_duratives⊢
 clear ha hb;obtain⟨name,types,constants,B5,Ay,At,duratives⟩:=a;obtain⟨name3,types3,constants3,predicates3,functions3,actions3,duratives3⟩:=b;simp only[Dm.cells,A3]at c_types c_constants c_predicates c_functions c_actions c_duratives⊢;refine AF func26 ntmps26 results26 Ty.fT ?_;cases e0:(name.data.toList==name3.data.toList)with
 |false=>
  refine wm e0 ?_;try exact zI
  all_goals first|rfl|(simp only[e0,BF,BH,BG,Ck];done)
 |true=>
  refine wt e0 ?_;cases v_types with
  |false=>
   refine uU e0 (c_types _) ?_;refine wm e0 ?_;try exact zI
   all_goals first|rfl|(simp only[e0,BF,BH,BG,Ck];done)
  |true=>
   refine uU e0 (c_types _) ?_;refine wt e0 ?_;cases v_constants with
   |false=>
    refine uU e0 (c_constants _) ?_;refine wm e0 ?_;try exact zI
    all_goals first|rfl|(simp only[e0,BF,BH,BG,Ck];done)
   |true=>
    refine uU e0 (c_constants _) ?_;refine wt e0 ?_;cases v_predicates with
    |false=>
     refine uU e0 (c_predicates _) ?_;refine wm e0 ?_;try exact zI
     all_goals first|rfl|(simp only[e0,BF,BH,BG,Ck];done)
    |true=>
     refine uU e0 (c_predicates _) ?_;refine wt e0 ?_;cases v_functions with
     |false=>
      refine uU e0 (c_functions _) ?_;refine wm e0 ?_;try exact zI
      all_goals first|rfl|(simp only[e0,BF,BH,BG,Ck];done)
     |true=>
      refine uU e0 (c_functions _) ?_;refine wt e0 ?_;cases v_actions with
      |false=>
       refine uU e0 (c_actions _) ?_;refine wm e0 ?_;try exact zI
       all_goals first|rfl|(simp only[e0,BF,BH,BG,Ck];done)
      |true=>
       refine uU e0 (c_actions _) ?_;refine wt e0 ?_;refine uU e0 (c_duratives _) ?_;refine wm e0 ?_;try exact zI
       all_goals first|rfl|(simp only[e0,BF,BH,BG,Ck];done)
end Go.Proofs.YtblgchkahpgdjaaGreat
namespace Go.Proofs.YtblgchkahpgdjaaGreat
open Go.AM Go.Proofs.Tryz
set_option maxHeartbeats 4000000
set_option maxRecDepth 20000
def VU:List Sx->List Ex × Int
 |[a,b]=>(match Bi a with
  | (ea, ca) => bif ca == 0 then (match Bi b with
   |(eb,cb)=>bif cb==0 then([ea,eb],0)else([],cb))else([],ca))
 |_=>([],2)
end Go.Proofs.YtblgchkahpgdjaaGreat
namespace Go.Proofs.YtblgchkahpgdjaaGreat
open Go.AM Go.Proofs.Tryz
set_option maxHeartbeats 4000000
set_option maxRecDepth 20000
theorem W6{x:Sx}(h:x.ok):(Aj x).size<=AI:=by
 obtain⟨_,_,_,_,t,_⟩:=x;simp only[Sx.ok]at h;exact h.2.2.1
theorem C6(n:Nat)(l:List Pm):BC n (A9 l):=by
 induction l with
 |nil=>simp only[A9,List.map_nil,BC]
 |cons a l ih=>simp only[A9,List.map_cons,BC,Ir,Br,Be,Dh,Fb]at ih⊢;exact ih
theorem E0(n:Nat): ∀ l:List Ex,BC n (Ex.rows l)
 |[]=>by simp only[Ex.rows,BC]
 |k::ks=>by simp only[Ex.rows,BC];exact⟨Pu n k,E0 n ks⟩
theorem W7(n:Nat): ∀ f:Fm,Br n f.cells:=by
 refine Fm.ind ?_;intro op name args params exprs kids ih;have:BC n (Fm.rows kids):=by
  clear op name args params exprs
  induction kids with
  |nil=>simp only[Fm.rows,BC]
  |cons k ks ih2=>
   simp only[Fm.rows,BC];exact⟨ih k (by simp),ih2 λq hq=>ih q (by simp[hq])⟩
 simp only[Fm.cells,Br,Be,Dh,Fb];exact⟨Dc n args,C6 n params,E0 n exprs,this⟩
theorem Ed(n:Nat): ∀ l:List Fm,BC n (Fm.rows l)
 |[]=>by simp only[Fm.rows,BC]
 |k::ks=>by simp only[Fm.rows,BC];exact⟨W7 n k,Ed n ks⟩
theorem SI(n:Nat)(h:A1)(f:Fm):AP n h f.cells f.cells:=by
 have hi:=W7 n f;obtain⟨op,name,args,params,exprs,kids⟩:=f;simp only[Fm.cells,Br,Be,Dh,Fb]at hi;simp only[Fm.cells,AP,AJ,Dh,Fb];exact⟨.inl hi.1,.inl hi.2.1,.inl hi.2.2.1,.inl hi.2.2.2⟩
theorem SJ(n:Nat)(h:A1): ∀ l:List Fm,DA n h (Fm.rows l) (Fm.rows l)
 |[]=>by simp only[Fm.rows,DA]
 |k::ks=>by simp only[Fm.rows,DA];exact⟨SI n h k,SJ n h ks⟩
theorem W8{h:A1}{id0 n:Nat}{p:PV}{l:List Fm}(hn:n<=id0)(t:Tl h id0 6 p (Fm.rows l)):AJ n h (.A2 6 (Fm.rows l)) p:=by
 simp only[AJ];rcases t with⟨h1,h2⟩|⟨id,h1,h2,rfl,ho⟩
 ·exact .inr (.inl ⟨h1,h2.symm⟩)
 ·refine .inr (.inr ⟨id,0,_,_,rfl,by omega,ho,by omega,?_⟩);rw[List.drop_zero,List.take_of_length_le (by omega)];exact SJ _ _ _
theorem jC: ∀ l:List Sx,((DL l).2==0)=false->(DL l).1=[]
 |[],h=>by simp[DL]at h
 |x::l,h=>by
  simp only[DL]at h⊢;cases hq:(Cn x).2==0 with
  |false=>simp only[AL]
  |true=>
   rw[hq]at h;simp only[AC]at h⊢;cases hr:(DL l).2==0 with
   |false=>simp only[AL]
   |true=>rw[hr]at h;simp at h
theorem W9{l:List Sx}(hl:l.length<=1048576)(hf: ∀ x∈l, ∀ h:A1,A6 prog 169 [.agg x.cells] h λr h'=>r= .Am [.agg (Cn x).1.cells,AS (Cn x).2]/\h'=h)(h:A1):
  A6 prog 182 [.A2 6 (Sx.rows l)] h λr h'=>r= .Am [.A2 6 (Fm.rows (DL l).1),AS (DL l).2]/\h'=h:=by
 refine A6.CF Ty.V1 ?_;have hll:=Sx.B4 l;refine AF func182 ntmps182 results182 Ty.V1 ?_;refine wt hll ?_;refine CG (λm S h'=>S 9= .A2 6 (Sx.rows l)/\S 10= .sc (.int .i64 l.length)/\ ∃ (k:Nat)(o:PV)(pre:List Fm),S 11= .sc (.int .i64 k)/\S 4=o/\k<=l.length/\m=l.length-k/\AH h h'/\pre.length=k/\Tl h' h.next 6 o (Fm.rows pre)/\
  DL l=(bif (DL (l.drop k)).2==0 then(pre++(DL (l.drop k)).1,0)else([],(DL (l.drop k)).2))) l.length ?_ ?_
 ·simp only[Ty.w,simprocAttr];refine⟨0,_,[],rfl,rfl,by omega,rfl,AH.refl _,rfl,Tl.nil,?_⟩;rw[List.drop_zero];cases hq:(DL l).2==0
  ·simp only[AL];rw[← jC l hq]
  ·have h0:(DL l).2=0:=(by simpa using hq);simp only[AC,List.nil_append];rw[← h0]
 ·rintro m S h' ⟨g9,g10,k,o,pre,g11,g4,hk,rfl,hg,hpl,tl,hinv⟩;by_cases hlt:k<l.length
  ·have hd:decide ((k:Int)<(l.length:Int))=true:=(by simp;omega);have w7:IntKind.i64.wrap ((k:Int)+1)=k+1:=(by rw[BZ (by omega) (by omega)]);obtain⟨x,hx⟩: ∃ x,l[k]? =some x:=⟨_,List.getElem?_eq_getElem hlt⟩;have hr:=Sx.CL hx;have hc:=hf x (List.mem_of_getElem? hx);rw[Cd hx]at hinv;simp only[DL]at hinv;generalize hE:Cn x=E at hc hinv;obtain⟨f,c⟩:=E;simp only at hc hinv;clear hE hf;obtain⟨ki,va,li,co,te,ks⟩:=x;simp only[Sx.cells]at hr hc;have n3:(h'.next=h'.next+1)=False:=(by simp);cases hcc:c==0 with
   |false=>
    rw[hcc]at hinv;simp only[AL]at hinv;have e0:AS c=Ao c:=(by simp only[AS,hcc,AL]);rw[e0]at hc;simp only[Ao]at hc;have hq:DL l=([],c):=(by rw[hinv];simp only[hcc,AL]);rw[hq];obtain⟨fop,fna,far,fpa,fex,fki⟩:=f;simp only[Fm.cells]at hc;replace zz:=Al g9 g10 g11 g4 hd hr;refine wt zz ?_;replace zz:=Al g9 g10 g11 g4 hd hr;refine uU zz (hc _) ?_;replace zz:=BT g9 g10 g11 g4 hd hr n3 @B1;refine wt zz ?_;rw[e0];refine⟨?_,(((hg.new _).set hg.le _).new _).set (show h.next<=h'.next+1 by have:=hg.le;omega) _⟩;simp only[Ao,Fm.rows,AJ,AP];exact⟨_,rfl,.inr (.inl ⟨rfl,.inr rfl⟩),rfl,trivial⟩
   |true=>
    have e0:AS c= .sc .nilIface:=(by simp only[AS,hcc,AC]);rw[e0]at hc;have hto:=S3 tl;have hrows:Fm.rows (pre++[f])=Fm.rows pre++[f.cells]:=(by simp only[Fm.rows_map,List.map_append,List.map_cons,List.map_nil]);obtain⟨fop,fna,far,fpa,fex,fki⟩:=f;simp only[Fm.cells]at hc hrows;generalize hH2:((((h'.new (.arr 6 [[.sc (.int .i64 0),.sc (.int .i64 0),.sc (.int .i64 0),.sc (.int .i64 0),.sc (.string ⟨#[]⟩),.sc (.slice none 0 0)]])).set h'.next (.arr 6 [[.sc (.int .i64 ki),.sc (.int .i64 va),.sc (.int .i64 li),.sc (.int .i64 co),A4 te,.A2 6 (Sx.rows ks)]])).new (.arr 6 [[.sc (.string ⟨#[]⟩),.sc (.string ⟨#[]⟩),.sc (.slice none 0 0),.sc (.slice none 0 0),.sc (.slice none 0 0),.sc (.slice none 0 0)]])).set (h'.next+1) (.arr 6 [[A4 fop,A4 fna,.A2 1 (AN far),.A2 2 (A9 fpa),.A2 5 (Ex.rows fex),.A2 6 (Fm.rows fki)]]))=H2;have hnn:H2.next=h'.next+1+1:=by rw[← hH2];simp[A1.new,A1.set]
    have hold: ∀ j,j<h'.next->H2.obj j=h'.obj j:=λj hj=>by
     have a1:¬ j=h'.next:=by omega
     have a2:¬ j=h'.next+1:=by omega
     rw[← hH2];simp only[A1.new,A1.set,a1,a2,AQ]
    have tl2:=tl.up (h':=H2) (by omega) (λj _ hj=>hold j hj);have hg2:AH h H2:=(by rw[← hH2];exact(((hg.new _).set hg.le _).new _).set (show h.next<=h'.next+1 by have:=hg.le;omega) _);obtain⟨H,t1,t2,t3,t4,t5⟩:=tl2.tail;have hkp:=t5 h ⟨hg2.le,hg2.B6⟩ (AG _);have hgH:AH h H:=⟨hkp.1,hkp.2⟩;have hpr:(Fm.rows pre).length=k:=(by rw[Fm.B4];exact hpl);have hb:(k+1)*128<=140737488355328:=(by omega);have hob:H2.obj (h'.next+1)=some (.arr 6 [[A4 fop,A4 fna,.A2 1 (AN far),.A2 2 (A9 fpa),.A2 5 (Ex.rows fex),.A2 6 (Fm.rows fki)]]):=(by rw[← hH2];simp[A1.set]);replace zz:=Al g9 g10 g11 g4 hd hr;refine wt zz ?_;replace zz:=Al g9 g10 g11 g4 hd hr;refine uU zz (hc _) ?_;replace zz:=Ab g9 g10 g11 g4 n3 @B1 hH2 hob t1 t2 hpr (uu hb w7);(repeat'(first|refine cK ?_|refine nK ?_|refine Af λK hK=>?_|refine uR zz ?_|refine uQ zz λK hK=>?_|refine uK ?_|refine C2 zz ?_|(refine uN hK ?_;clear hK)|(rw[AK];rotate_left 1;omega;simp only[Ty.w,simprocAttr,g9,g10,g11,g4,n3,B1,hH2,hob,t1,t2,hpr,hb,w7])|apply zI));rw[← hrows];have hgr:=Tl.grow (H:=H) (id0:=h.next) (z:=6) (len:=k+1) (rows:=Fm.rows (pre++[Fm.mk fop fna far fpa fex fki])) hkp.1 (by rw[Fm.B4];simp[hpl]);refine⟨l.length-(k+1),by omega,k+1,.own H.next 0 (k+1),pre++[Fm.mk fop fna far fpa fex fki],by simp,by rw[t3,hnn],by omega,rfl,hgH.new _,by simp[hpl],hgr,?_⟩;rw[hinv,hcc];simp only[AC];cases hq:(DL (List.drop (k+1) l)).2==0 with
    |false=>simp only[hq,AL]
    |true=>simp only[AC,D8,List.append_assoc,List.cons_append,List.nil_append]
  ·have hd:decide ((k:Int)<(l.length:Int))=false:=(by simp;omega);rw[List.drop_eq_nil_of_le (by omega)]at hinv;have hq:DL l=(pre,0):=(by rw[hinv];simp[DL]);replace zz:=Ak g9 g10 g11 g4 hd;refine wt zz ?_;have e2:AS 0= .sc .nilIface:=rfl;rw[hq];simp only[e2];refine⟨?_,hg⟩;have h1:=W8 (AG _) tl;unfold AJ;refine⟨_,rfl,?_⟩;unfold AP;refine⟨h1,?_⟩;unfold AP;exact⟨by simp only[AJ],by simp only[AP]⟩
end Go.Proofs.YtblgchkahpgdjaaGreat
namespace Go.Proofs.YtblgchkahpgdjaaGreat
open Go.AM Go.Proofs.Tryz
set_option maxHeartbeats 4000000
set_option maxRecDepth 20000
theorem jD{w:ByteArray}{x y:Sx}(hx:x.ok)(hy:y.ok)
  (cx: ∀ h:A1,A6 prog 168 [.agg x.cells] h λr h'=>r= .Am [.agg (Bi x).1.cells,AS (Bi x).2]/\h'=h)
  (cy: ∀ h:A1,A6 prog 168 [.agg y.cells] h λr h'=>r= .Am [.agg (Bi y).1.cells,AS (Bi y).2]/\h'=h)(h:A1):
  A6 prog 183 [A4 w,.agg x.cells,.agg y.cells] h λr h'=>r= .Am [.agg (Hn w x y).1.cells,AS (Hn w x y).2]/\h'=h:=by
 refine A6.CF Ty.V3 ?_;have ht:=λh:A1=>Rx (l:=[x,y]) (by simp) (by simp[hx,hy]) h;generalize hF:Hn w x y=F;unfold Hn at hF;have hti:=Dc;generalize CN [x,y]=T at ht hF;obtain⟨t,c⟩:=T;have hi1:=Pu;generalize Bi x=X at cx hF;obtain⟨ex,c1⟩:=X;generalize Bi y=Y at cy hF;obtain⟨ey,c2⟩:=Y;obtain⟨kx,vx,lx,ox,tx,sx⟩:=x;obtain⟨ky,vy,ly,oy,ty,sy⟩:=y;obtain⟨Es,ana,an,aar,aki⟩:=ex;obtain⟨bop,bna,bn,bar,bki⟩:=ey;simp only[Ax]at hF;simp only[Sx.rows,Sx.cells,Ex.cells]at ht cx cy⊢;have hgr: ∀ r,AH h ((h.new (.arr 6 [[.sc (.string ⟨#[]⟩),.sc (.string ⟨#[]⟩),.sc (.slice none 0 0),.sc (.slice none 0 0),.sc (.slice none 0 0),.sc (.slice none 0 0)]])).set h.next r):=λr=>((AH.refl h).new _).set (AG _) _;refine AF func183 ntmps183 results183 Ty.V3 ?_;refine xH 1 A5 ?_;refine⟨?_⟩;refine DB (λS h'=>S 0=A4 w/\S 4= .Ag (Sx.mk kx vx lx ox tx sx).cells/\S 5= .Ag (Sx.mk ky vy ly oy ty sy).cells/\S 6= .ptr h.next 0 0/\h'=h.new (.arr 6 [[.sc (.string ⟨#[]⟩),.sc (.string ⟨#[]⟩),.sc (.slice none 0 0),.sc (.slice none 0 0),.sc (.slice none 0 0),.sc (.slice none 0 0)]])/\(A3 w Ca&&kx==1&&ky==1)=false) ?_ ?_
 ·clear cx cy;simp only[Sx.cells];cases q1:(w.data.toList==(#[61]:Array UInt8).toList)with
  |false=>
   have q1':A3 w Ca=false:=q1;refine wm q1 ?_;try exact zI
   all_goals first|rfl|(simp only[Ty.w,simprocAttr,q1',BF];done)
  |true=>
   have q1':A3 w Ca=true:=q1;cases q2:(kx==1)with
   |false=>
    refine wm (uu q1 q2) ?_;try exact zI
    all_goals first|rfl|(simp only[Ty.w,simprocAttr,q1',q2,BF,BG];done)
   |true=>
    cases q3:(ky==1)with
    |false=>
     refine wm (AY q1 q2 q3) ?_;try exact zI
     all_goals first|rfl|(simp only[Ty.w,simprocAttr,q1',q2,q3,BG];done)
    |true=>
     rw[q1',q2,q3]at hF;simp only[Ck,AC]at hF;subst hF;cases hc:c==0 with
     |true=>
      have e0:AS c= .sc .nilIface:=(by simp only[AS,hc,AC]);rw[e0]at ht⊢;refine wt (AY q1 q2 q3) ?_;refine uU (AY q1 q2 q3) (ht _) ?_;refine wt A5 ?_;refine⟨?_,hgr _⟩;simp only[CI,Fm.cells,Ex.rows,Fm.rows,A9,List.map_nil,AJ,AP];exact⟨_,rfl,⟨_,rfl,rfl,rfl,.inl ⟨rfl,hti _ _⟩,.inr (.inl ⟨rfl,.inr rfl⟩),.inr (.inl ⟨rfl,.inr rfl⟩),.inr (.inl ⟨rfl,.inr rfl⟩),trivial⟩,rfl,trivial⟩
     |false=>
      have e0:AS c=Ao c:=(by simp only[AS,hc,AL]);rw[e0]at ht⊢;simp only[Ao]at ht⊢;refine wt (AY q1 q2 q3) ?_;refine uU (AY q1 q2 q3) (ht _) ?_;refine wt A5 ?_;refine⟨?_,hgr _⟩;simp only[CI,Fm.cells,Ex.rows,Fm.rows,A9,List.map_nil,AJ,AP];exact⟨_,rfl,⟨_,rfl,rfl,rfl,.inl ⟨rfl,hti _ _⟩,.inr (.inl ⟨rfl,.inr rfl⟩),.inr (.inl ⟨rfl,.inr rfl⟩),.inr (.inl ⟨rfl,.inr rfl⟩),trivial⟩,rfl,trivial⟩
 ·rintro S h' ⟨g0,g4,g5,g6,rfl,hq⟩;rw[hq]at hF
  clear ht hq;simp only[AL]at hF;simp only[Sx.cells]at g4 g5;have n1:(h.next=h.next+1)=False:=by simp
  have n2:(h.next=h.next+1+1)=False:=by simp;omega
  have n3:(h.next+1=h.next+1+1)=False:=by simp
  have hgr2: ∀ o1 o2 r,AH h ((((h.new (.arr 6 [[.sc (.string ⟨#[]⟩),.sc (.string ⟨#[]⟩),.sc (.slice none 0 0),.sc (.slice none 0 0),.sc (.slice none 0 0),.sc (.slice none 0 0)]])).new o1).set (h.next+1) o2).set h.next r):=λo1 o2 r=>((((AH.refl h).new _).new _).set (Oo _) _).set (AG _) _;have hgr3: ∀ o1 o2 o3 o4 r,AH h ((((((h.new (.arr 6 [[.sc (.string ⟨#[]⟩),.sc (.string ⟨#[]⟩),.sc (.slice none 0 0),.sc (.slice none 0 0),.sc (.slice none 0 0),.sc (.slice none 0 0)]])).new o1).set (h.next+1) o2).new o3).set (h.next+1+1) o4).set h.next r):=λo1 o2 o3 o4 r=>((((((AH.refl h).new _).new _).set (Oo _) _).new _).set (by omega) _).set (AG _) _;cases hc1:c1==0 with
  |false=>
   rw[hc1]at hF;simp only[AL]at hF;subst hF;have e0:AS c1=Ao c1:=(by simp only[AS,hc1,AL]);rw[e0]at cx⊢;simp only[Ao]at cx⊢;replace zz:=Aa g0 g4 g5 g6;refine wt zz ?_;replace zz:=Aa g0 g4 g5 g6;refine uU zz (cx _) ?_;replace zz:=Al g0 g4 g5 g6 n1 @B1;refine wt zz ?_;refine⟨?_,hgr2 _ _ _⟩;simp only[Cm,Fm.cells,Ex.rows,Fm.rows,A9,AN,List.map_nil,AJ,AP];exact⟨_,rfl,⟨_,rfl,rfl,rfl,.inr (.inl ⟨rfl,.inr rfl⟩),.inr (.inl ⟨rfl,.inr rfl⟩),.inr (.inl ⟨rfl,.inr rfl⟩),.inr (.inl ⟨rfl,.inr rfl⟩),trivial⟩,rfl,trivial⟩
  |true=>
   rw[hc1]at hF;simp only[AC]at hF;have e0:AS c1= .sc .nilIface:=(by simp only[AS,hc1,AC]);rw[e0]at cx;cases hc2:c2==0 with
   |false=>
    rw[hc2]at hF;simp only[AL]at hF;subst hF;have e1:AS c2=Ao c2:=(by simp only[AS,hc2,AL]);rw[e1]at cy⊢;simp only[Ao]at cy⊢;replace zz:=Aa g0 g4 g5 g6;refine wt zz ?_;replace zz:=Aa g0 g4 g5 g6;refine uU zz (cx _) ?_;replace zz:=Al g0 g4 g5 g6 n1 @B1;refine wt zz ?_;replace zz:=Aa g0 g4 g5 g6;refine uU zz (cy _) ?_;replace zz:=BT g0 g4 g5 g6 n1 n2 n3 @B1;refine wt zz ?_;refine⟨?_,hgr3 _ _ _ _ _⟩;simp only[Cm,Fm.cells,Ex.rows,Fm.rows,A9,AN,List.map_nil,AJ,AP];exact⟨_,rfl,⟨_,rfl,rfl,rfl,.inr (.inl ⟨rfl,.inr rfl⟩),.inr (.inl ⟨rfl,.inr rfl⟩),.inr (.inl ⟨rfl,.inr rfl⟩),.inr (.inl ⟨rfl,.inr rfl⟩),trivial⟩,rfl,trivial⟩
   |true=>
    rw[hc2]at hF;simp only[AC]at hF;have e1:AS c2= .sc .nilIface:=(by simp only[AS,hc2,AC]);rw[e1]at cy;have e2:AS 0= .sc .nilIface:=rfl;cases p1:(w.data.toList==(#[62]:Array UInt8).toList)with
    |true=>
     rw[AK (show A3 w Ix=true from p1)]at hF;subst hF;replace zz:=Aa g0 g4 g5 g6;refine wt zz ?_;replace zz:=Aa g0 g4 g5 g6;refine uU zz (cx _) ?_;replace zz:=Al g0 g4 g5 g6 n1 @B1;refine wt zz ?_;replace zz:=Aa g0 g4 g5 g6;refine uU zz (cy _) ?_;replace zz:=BO g0 g4 g5 g6 n1 n2 n3 @B1 p1;refine wt zz ?_;refine⟨?_,hgr3 _ _ _ _ _⟩;simp only[e2,DG,Fm.cells,Ex.cells,Ex.rows,Fm.rows,A9,AN,List.map_nil,AJ,AP];exact⟨_,rfl,⟨_,rfl,rfl,rfl,.inr (.inl ⟨rfl,.inr rfl⟩),.inr (.inl ⟨rfl,.inr rfl⟩),.inl ⟨rfl,E0 _ [.mk bop bna bn bar bki,.mk Es ana an aar aki]⟩,.inr (.inl ⟨rfl,.inr rfl⟩),trivial⟩,rfl,trivial⟩
    |false=>
     rw[A8 (show ¬ A3 w Ix=true by rw[show A3 w Ix=false from p1];simp)]at hF;cases p2:(w.data.toList==(#[62,61]:Array UInt8).toList)with
     |true=>
      rw[AK (show A3 w JP=true from p2)]at hF;subst hF;replace zz:=Aa g0 g4 g5 g6;refine wt zz ?_;replace zz:=Aa g0 g4 g5 g6;refine uU zz (cx _) ?_;replace zz:=Al g0 g4 g5 g6 n1 @B1;refine wt zz ?_;replace zz:=Aa g0 g4 g5 g6;refine uU zz (cy _) ?_;replace zz:=B9 g0 g4 g5 g6 n1 n2 n3 @B1 p1 p2;refine wt zz ?_;refine⟨?_,hgr3 _ _ _ _ _⟩;simp only[e2,Db,Fm.cells,Ex.cells,Ex.rows,Fm.rows,A9,AN,List.map_nil,AJ,AP];exact⟨_,rfl,⟨_,rfl,rfl,rfl,.inr (.inl ⟨rfl,.inr rfl⟩),.inr (.inl ⟨rfl,.inr rfl⟩),.inl ⟨rfl,E0 _ [.mk bop bna bn bar bki,.mk Es ana an aar aki]⟩,.inr (.inl ⟨rfl,.inr rfl⟩),trivial⟩,rfl,trivial⟩
     |false=>
      rw[A8 (show ¬ A3 w JP=true by rw[show A3 w JP=false from p2];simp)]at hF;subst hF;replace zz:=Aa g0 g4 g5 g6;refine wt zz ?_;replace zz:=Aa g0 g4 g5 g6;refine uU zz (cx _) ?_;replace zz:=Al g0 g4 g5 g6 n1 @B1;refine wt zz ?_;replace zz:=Aa g0 g4 g5 g6;refine uU zz (cy _) ?_;replace zz:=B9 g0 g4 g5 g6 n1 n2 n3 @B1 p1 p2;refine wt zz ?_;refine⟨?_,hgr3 _ _ _ _ _⟩;simp only[e2,Fm.cells,Ex.cells,Ex.rows,Fm.rows,A9,AN,List.map_nil,AJ,AP];exact⟨_,rfl,⟨_,rfl,rfl,rfl,.inr (.inl ⟨rfl,.inr rfl⟩),.inr (.inl ⟨rfl,.inr rfl⟩),.inl ⟨rfl,E0 _ [.mk Es ana an aar aki,.mk bop bna bn bar bki]⟩,.inr (.inl ⟨rfl,.inr rfl⟩),trivial⟩,rfl,trivial⟩
end Go.Proofs.YtblgchkahpgdjaaGreat
namespace Go.Proofs.YtblgchkahpgdjaaGreat
open Go.AM Go.Proofs.Tryz
set_option maxHeartbeats 4000000
set_option maxRecDepth 20000
theorem jE{don:List Pm}{pen:List ByteArray}{t s:ByteArray}{j:Nat}(hj:pen[j]? =some s):
  (A9 (don++Bv t (pen.take j)++Bv Dj (pen.drop j)))[don.length+j]? =some [A4 s,A4 Dj]/\
  (A9 (don++Bv t (pen.take j)++Bv Dj (pen.drop j))).set (don.length+j) [A4 s,A4 t]=A9 (don++Bv t (pen.take (j+1))++Bv Dj (pen.drop (j+1))):=by
 have hjl:j<pen.length:=(List.getElem?_eq_some_iff.1 hj).1;have hA:(A9 (don++Bv t (pen.take j))).length=don.length+j:=by simp[A9,Bv];omega
 have e1:A9 (don++Bv t (pen.take j)++Bv Dj (pen.drop j))=A9 (don++Bv t (pen.take j))++([A4 s,A4 Dj]::A9 (Bv Dj (pen.drop (j+1)))):=by
  rw[Cd hj];simp[A9,Bv,Ir]
 have e2:A9 (don++Bv t (pen.take (j+1))++Bv Dj (pen.drop (j+1)))=A9 (don++Bv t (pen.take j))++([A4 s,A4 t]::A9 (Bv Dj (pen.drop (j+1)))):=by
  rw[List.take_add_one,hj];simp[A9,Bv,Ir]
 rw[e1,e2];constructor
 ·rw [List.getElem?_append_right (by omega),hA];simp
 ·rw [List.set_append_right _ _ (by omega),hA];simp
theorem jF(vars:Bool)(x:Sx)(l:List Sx)(don:List Pm)(pen:List ByteArray):Ec vars (x::l) don pen=(bif Hm x then
   (bif A3 (Aj x) GD then (match l with
    |[]=>([],2)
    |t::l'=>bif !pen.isEmpty&&Hm t then(bif Gj (Aj t)then Ec vars l' (don++Bv (Aj t) pen) []else([],8))else([],2))
   else bif (bif vars then Ey (Aj x)else As (Aj x))then Ec vars l don (pen++[Aj x])else([],8))
  else([],2)):=by
 cases l<;>(conv=>lhs;unfold Ec)
theorem L3{P:Program}{ow:Nat->Bool}{wf:FuncId->Bool}{n:Nat}{Q:BW}{s:AD}{h:A1}{c:Code}(I:AD->A1->Prop)(hi:I s h)(hh: ∀ s h,I s h->Aq P ow wf n c Q s h):Aq P ow wf n c Q s h:=hh _ _ hi
theorem WA(l:List Pm): ∀ r∈A9 l, ∀ p∈r, ∃ v,p=PV.sc v:=by
 intro r hr p hp;simp only[A9,List.mem_map]at hr;obtain⟨x,_,rfl⟩:=hr;simp only[Ir,List.mem_cons,List.not_mem_nil,ET]at hp;rcases hp with rfl|rfl
 ·exact ⟨_,rfl⟩
 ·exact ⟨_,rfl⟩
theorem WB{h:A1}{id0:Nat}{p:PV}{l:List Pm}(t:Tl h id0 2 p (A9 l)):AJ id0 h (.A2 2 (A9 l)) p:=t.CF (WA l)
theorem M3{vars:Bool}{l:List Sx}(hl:l.length<=1048576)(hok: ∀ x∈l,x.ok)(h:A1):
  A6 prog 118 [.A2 6 (Sx.rows l),.sc (.bool vars)] h λr h'=>r= .Am [.A2 2 (A9 (C5 vars l).1),AS (C5 vars l).2]/\h'=h:=by
 refine A6.CF Ty.Ui ?_;have hll:=Sx.B4 l;generalize hF:C5 vars l=F;have bad: ∀ (c:Int)(h':A1),c=2\/c=8->AH h h'->F=([],c)->AJ h.next h' (.Am [.A2 2 (A9 F.1),AS F.2]) (.Am [.sc (.slice none 0 0),Ao c])/\AH h h':=by
  intro c h' hc hg hf;subst hf;have:AS c=Ao c:=by rcases hc with rfl|rfl<;>rfl
  simp only[this];refine⟨?_,hg⟩;simp only[Ao,A9,List.map_nil,AJ,AP];exact⟨_,rfl,.inr (.inl ⟨rfl,.inr rfl⟩),rfl,trivial⟩
 simp only[Ao]at bad;refine AF func118 ntmps118 results118 Ty.Ui ?_;refine wt A5 ?_;refine CG (λm S h'=>S 0= .A2 6 (Sx.rows l)/\S 1= .sc (.bool vars)/\ ∃ (k:Nat)(o:PV)(don:List Pm)(pen:List ByteArray),S 8= .sc (.int .i64 k)/\S 6=o/\S 7= .sc (.int .i64 don.length)/\k<=l.length/\m=l.length-k/\don.length+pen.length<=k/\AH h h'/\Tl h' h.next 2 o (A9 (don++Bv Dj pen))/\F=Ec vars (l.drop k) don pen) l.length ?_ ?_
 ·simp only[Ty.w,simprocAttr];exact⟨0,_,[],[],rfl,rfl,rfl,by omega,rfl,by simp,AH.refl _,Tl.nil,by rw[← hF];try rfl⟩
 ·rintro m S h' ⟨g0,g1,k,o,don,pen,g8,g6,g7,hk,rfl,hdp,hg,tl,hinv⟩
  clear hF;by_cases hlt:k<l.length
  ·have hd:decide ((k:Int)<(l.length:Int))=true:=(by simp;omega);have w7:IntKind.i64.wrap ((k:Int)+1)=k+1:=(by rw[BZ (by omega) (by omega)]);obtain⟨x,hx⟩: ∃ x,l[k]? =some x:=⟨_,List.getElem?_eq_getElem hlt⟩;have hr:=Sx.CL hx;have hxk:=hok x (List.mem_of_getElem? hx);have hv:=λh:A1=>JO hxk h;have hte:=W6 hxk;rw[Cd hx]at hinv;simp only[jF,Hm]at hinv;generalize CM x 0 0=V at hv hinv;obtain⟨vb,vn⟩:=V;obtain⟨ki,va,li,co,te,ks⟩:=x;simp only[Ax,Aj]at hinv hte;simp only[Sx.cells]at hr hv;have hte':te.size<=9223372036854775807:=(by unfold AI at hte;omega);cases q1:(ki !=1)with
   |true=>
    rw[show(ki==1)=false by simpa using q1]at hinv;simp only[BF,AL]at hinv;replace zz:=BO g0 g1 g6 g7 g8 hll hd hr q1;refine wt zz ?_;exact bad 2 _ (.inl rfl) hg hinv
   |false=>
    rw[show(ki==1)=true by simpa using q1]at hinv;cases vb with
    |false=>
     simp only[BH,AL]at hinv;replace zz:=BO g0 g1 g6 g7 g8 hll hd hr q1;refine wt zz ?_;replace zz:=B9 g0 g1 g6 g7 g8 hll hd hr q1 yF;refine uU zz (hv _) ?_;replace zz:=Al g0 g1 g6 g7 g8 yF;refine wt zz ?_;exact bad 2 _ (.inl rfl) hg hinv
    |true=>
     simp only[LP,AC]at hinv;replace zz:=BO g0 g1 g6 g7 g8 hll hd hr q1;refine xH 9 zz ?_;replace zz:=B9 g0 g1 g6 g7 g8 hll hd hr q1 yT;refine uU zz (hv _) ?_;replace zz:=Ah g0 g1 g6 g7 g8 hr yT;refine xH 9 zz ?_;refine⟨?_⟩;refine L3 (λS h2=>S 0= .A2 6 (Sx.rows l)/\S 1= .sc (.bool vars)/\S 6=o/\S 7= .sc (.int .i64 don.length)/\S 8= .sc (.int .i64 k)/\S 9=A4 te/\h2=h') ?_ ?_
     ·simp only[Ty.w,simprocAttr,g0,g1,g6,g7,g8]
     clear g0 g1 g6 g7 g8 hv hr q1;rintro S h' ⟨g0,g1,g6,g7,g8,g9,rfl⟩;have hrl:(A9 (don++Bv Dj pen)).length=don.length+pen.length:=(by rw[Gw];simp[Bv]);obtain⟨n,hn⟩: ∃ n,n=don.length+pen.length:=⟨_,rfl⟩;rw[← hn]at hrl;cases q2:(te.data.toList==(#[45]:Array UInt8).toList)with
     |false=>
      rw[show A3 te GD=false from q2]at hinv;simp only[AL]at hinv;have hap:A9 (don++Bv Dj pen)++[[.sc (.string te),.sc (.string ⟨#[111,98,106,101,99,116]⟩)]]=A9 (don++Bv Dj (pen++[te])):=(by simp[A9,Bv,Ir,Dj]);have hb:(n+1)*32<=140737488355328:=(by omega);obtain⟨H,t1,t2,t3,t4,t5⟩:=tl.tail;have hkp:=t5 h ⟨hg.le,hg.B6⟩ (AG _);have hgH:AH h H:=⟨hkp.1,hkp.2⟩;have fin2:AH h (H.new (.arr 2 (A9 (don++Bv Dj (pen++[te])))))/\Tl (H.new (.arr 2 (A9 (don++Bv Dj (pen++[te]))))) h.next 2 (.own H.next 0 (n+1)) (A9 (don++Bv Dj (pen++[te]))):=
       ⟨hgH.new _,Tl.grow hkp.1 (by rw[Gw];simp[Bv];omega)⟩
      rw[t3]at fin2;cases vars with
      |true=>
       simp only[AC]at hinv;have hc:=λh:A1=>Lt (h:=h) hte';cases v1:Ey te with
       |false=>
        rw[v1]at hinv hc;simp only[AL]at hinv;replace zz:=BO g0 g1 g6 g7 g8 g9 q2 yT yF;refine wt zz ?_;replace zz:=Ah g0 g1 g6 g7 g8 g9 yF;refine uU zz (hc _) ?_;refine wt zz ?_;exact bad 8 _ (.inr rfl) hg hinv
       |true=>
        rw[v1]at hinv hc;simp only[AC]at hinv;replace zz:=BO g0 g1 g6 g7 g8 g9 q2 yT yF;refine wt zz ?_;replace zz:=Ah g0 g1 g6 g7 g8 g9 yT;refine uU zz (hc _) ?_;replace zz:=Ab g0 g1 g6 g7 g8 g9 yT t1 t2 hrl hb (uu hap w7);(repeat'(first|refine cK ?_|refine nK ?_|refine Af λK hK=>?_|refine uR zz ?_|refine uK ?_|refine uX ?_|refine C2 zz ?_|(refine uN hK ?_;clear hK)|(clear hK;refine uN hK ?_;clear hK)|(rw[AK];rotate_left 1;omega;simp only[Ty.w,simprocAttr,g0,g1,g6,g7,g8,g9,Av,t1,t2,hrl,hb,hap,w7])|apply zI));exact⟨l.length-(k+1),by omega,k+1,_,don,pen++[te],by simp,rfl,rfl,by omega,rfl,by simp;omega,fin2.1,fin2.2,hinv⟩
      |false=>
       simp only[AL]at hinv;have hc:=λh:A1=>FP (h:=h) hte';cases v1:As te with
       |false=>
        rw[v1]at hinv hc;simp only[AL]at hinv;replace zz:=BO g0 g1 g6 g7 g8 g9 q2 yT yF;refine wt zz ?_;replace zz:=Ah g0 g1 g6 g7 g8 g9 yF;refine uU zz (hc _) ?_;refine wt zz ?_;exact bad 8 _ (.inr rfl) hg hinv
       |true=>
        rw[v1]at hinv hc;simp only[AC]at hinv;replace zz:=BO g0 g1 g6 g7 g8 g9 q2 yT yF;refine wt zz ?_;replace zz:=Ah g0 g1 g6 g7 g8 g9 yT;refine uU zz (hc _) ?_;replace zz:=Ab g0 g1 g6 g7 g8 g9 yT t1 t2 hrl hb (uu hap w7);(repeat'(first|refine cK ?_|refine nK ?_|refine Af λK hK=>?_|refine uR zz ?_|refine uK ?_|refine uX ?_|refine C2 zz ?_|(refine uN hK ?_;clear hK)|(clear hK;refine uN hK ?_;clear hK)|(rw[AK];rotate_left 1;omega;simp only[Ty.w,simprocAttr,g0,g1,g6,g7,g8,g9,Av,t1,t2,hrl,hb,hap,w7])|apply zI));exact⟨l.length-(k+1),by omega,k+1,_,don,pen++[te],by simp,rfl,rfl,by omega,rfl,by simp;omega,fin2.1,fin2.2,hinv⟩
     |true=>
      rw[show A3 te GD=true from q2]at hinv;simp only[AC]at hinv;have hsl:=tl.sl;have hlo:=hsl.len;rw[hrl]at hlo;have hlk:=hsl.lk;replace zz:=BO g0 g1 g6 g7 g8 g9 q2 w7 yT;refine xH 14 zz ?_;refine⟨?_⟩;refine L3 (λS h2=>S 0= .A2 6 (Sx.rows l)/\S 1= .sc (.bool vars)/\S 6=o/\S 7= .sc (.int .i64 don.length)/\S 8= .sc (.int .i64 ((k:Int)+1))/\h2=h') ?_ ?_
      ·simp only[Ty.w,simprocAttr,g0,g1,g6,g7,g8]
      clear g0 g1 g6 g7 g8 g9 w7;rintro S h' ⟨g0,g1,g6,g7,g8,rfl⟩;obtain⟨k1,hk1⟩: ∃ k1:Int,k1=(k:Int)+1:=⟨_,rfl⟩;rw[← hk1]at g8;cases hpe:pen.isEmpty with
      |true=>
       have hpe':pen=[]:=List.isEmpty_iff.1 hpe;have hF2:F=([],2):=by
        rw[hinv,hpe];split
        ·rfl
        ·rfl
       have hdd:((don.length:Int)==(n:Int))=true:=(by rw[hn,hpe'];simp);replace zz:=BT g0 g1 g6 g7 g8 hlo hlk hdd;refine wt zz ?_;exact bad 2 _ (.inl rfl) hg hF2
      |false=>
       rw[hpe]at hinv;simp only[CB,BG]at hinv;have hp0:0<pen.length:=by
        cases pen with
        |nil=>simp at hpe
        |cons _ _=>simp
       have hdd:((don.length:Int)==(n:Int))=false:=(by rw[hn];simp;omega);by_cases hl2:k+1<l.length
       ·have hd2:(k1==(l.length:Int))=false:=(by rw[hk1];simp;omega);obtain⟨y,hy⟩: ∃ y,l[k+1]? =some y:=⟨_,List.getElem?_eq_getElem hl2⟩;have hyk:=hok y (List.mem_of_getElem? hy);have hvy:=λh:A1=>JO hyk h;have htey:=W6 hyk;rw[Cd hy]at hinv;simp only at hinv;have hry:(Sx.rows l)[k1.toNat]? =some y.cells:=(by rw[hk1];exact Sx.CL hy);generalize CM y 0 0=V2 at hvy hinv;obtain⟨vb2,vn2⟩:=V2;obtain⟨ki2,va2,li2,co2,te2,ks2⟩:=y;simp only[Ax,Aj]at hinv htey;simp only[Sx.cells]at hry hvy;have hcy:=λh:A1=>Rr (h:=h) htey;have hk0:(0:Int)<=k1:=(by omega);cases q3:(ki2 !=1)with
        |true=>
         rw[show(ki2==1)=false by simpa using q3]at hinv;simp only[BF,AL]at hinv;replace zz:=Ab g0 g1 g6 g7 g8 hlo hlk hdd hll hd2 hry (uu hk0 q3);refine wt zz ?_;exact bad 2 _ (.inl rfl) hg hinv
        |false=>
         rw[show(ki2==1)=true by simpa using q3]at hinv;simp only[BG]at hinv;cases vb2 with
         |false=>
          simp only[AL]at hinv;replace zz:=Ab g0 g1 g6 g7 g8 hlo hlk hdd hll hd2 hry (uu hk0 q3);refine wt zz ?_;replace zz:=BT g0 g1 g6 g7 g8 hry hk0 yF;refine uU zz (hvy _) ?_;replace zz:=Al g0 g1 g6 g7 g8 yF;refine wt zz ?_;exact bad 2 _ (.inl rfl) hg hinv
         |true=>
          simp only[AC]at hinv;cases v3:Gj te2 with
          |false=>
           rw[v3]at hinv hcy;simp only[AL]at hinv;replace zz:=Ab g0 g1 g6 g7 g8 hlo hlk hdd hll hd2 hry (uu hk0 q3);refine wt zz ?_;replace zz:=BT g0 g1 g6 g7 g8 hry hk0 yT;refine uU zz (hvy _) ?_;refine wt zz ?_;replace zz:=BT g0 g1 g6 g7 g8 hry hk0 yF;refine uU zz (hcy _) ?_;replace zz:=Al g0 g1 g6 g7 g8 yF;refine wt zz ?_;exact bad 8 _ (.inr rfl) hg hinv
          |true=>
           rw[v3]at hinv hcy;simp only[AC]at hinv;obtain⟨id,i1,i2,ho,i4⟩: ∃ id,h.next<=id/\id<h'.next/\o= .own id 0 n/\h'.obj id=some (.arr 2 (A9 (don++Bv Dj pen))):=by
            rcases tl with⟨hn0,_⟩|⟨id,i1,i2,i3,i4⟩
            ·rw [hn0]at hrl;simp at hrl;omega
            ·rw [hrl]at i3;exact⟨id,i1,i2,i3,i4⟩
           subst ho;clear tl hsl;replace zz:=Ab g0 g1 g6 g7 g8 hlo hlk hdd hll hd2 hry (uu hk0 q3);refine wt zz ?_;replace zz:=BT g0 g1 g6 g7 g8 hry hk0 yT;refine uU zz (hvy _) ?_;refine wt zz ?_;replace zz:=BT g0 g1 g6 g7 g8 hry hk0 yT;refine uU zz (hcy _) ?_;refine wt zz ?_;refine CG (λm S h2=>S 0= .A2 6 (Sx.rows l)/\S 1= .sc (.bool vars)/\S 8= .sc (.int .i64 k1)/\S 6= .own id 0 n/\ ∃ j:Nat,S 7= .sc (.int .i64 ((don.length+j:Nat):Int))/\j<=pen.length/\m=pen.length-j/\AH h h2/\h2.next=h'.next/\h2.obj id=some (.arr 2 (A9 (don++Bv te2 (pen.take j)++Bv Dj (pen.drop j))))) pen.length ?_ ?_
           ·simp only[Ty.w,simprocAttr,g0,g1,g6,g7,g8];exact⟨0,by simp,by omega,rfl,hg,by simpa[Bv]using i4⟩
           ·clear g0 g1 g6 g7 g8 i4;rintro m S h2 ⟨g0,g1,g8,g6,j,g7,hj,rfl,hg2,hn2,ob⟩;by_cases hjl:j<pen.length
            ·obtain ⟨q,hqn⟩: ∃ q,q=don.length+j:=⟨_,rfl⟩;obtain⟨s,hs⟩: ∃ s,pen[j]? =some s:=⟨_,List.getElem?_eq_getElem hjl⟩;obtain⟨hp1,hp2⟩:=jE (don:=don) (t:=te2) hs;rw[← hqn]at g7 hp1 hp2;have hdj:decide ((q:Int)<(n:Int))=true:=(by simp;omega);have wj:IntKind.i64.wrap ((q:Int)+1)=((q+1:Nat):Int):=(by rw[BZ (by omega) (by omega)];try rfl);have hjl2:q<n:=(by omega);generalize hR:A9 (don++Bv te2 (pen.take j)++Bv Dj (pen.drop j))=R at ob hp1 hp2;replace zz:=Ab g0 g1 g6 g7 g8 hdj wj hry hk0 ob hp1 (uu hp2 hjl2);refine wt zz ?_;refine⟨pen.length-(j+1),by omega,j+1,by rw[hqn];try rfl,by omega,rfl,hg2.set i1 _,hn2,?_⟩;try simp[A1.set]
            ·have hje:j=pen.length:=(by omega);subst hje;rw[← hn]at g7;have hdj:decide ((n:Int)<(n:Int))=false:=(by simp);have w8:IntKind.i64.wrap (k1+1)=((k+2:Nat):Int):=(by rw[hk1,BZ (by omega) (by omega)];omega);rw[List.take_length,List.drop_length]at ob;have hz:A9 (don++Bv te2 pen++Bv Dj [])=A9 (don++Bv te2 pen):=(by simp[Bv]);rw[hz]at ob;replace zz:=Ah g0 g1 g6 g7 g8 hdj w8;refine wt zz ?_;refine⟨l.length-(k+2),by omega,k+2,_,don++Bv te2 pen,[],rfl,rfl,by rw[hn];simp[Bv],by omega,rfl,by simp[Bv];omega,hg2,?_,hinv⟩;refine .inr ⟨id,i1,by omega,?_,?_⟩
             ·rw [Gw,hn];simp[Bv]
             ·rw [ob];simp[Bv]
       ·have hke:k+1=l.length:=(by omega);have hd2:(k1==(l.length:Int))=true:=(by rw[hk1];simp;omega);rw[List.drop_eq_nil_of_le (by omega)]at hinv;simp only at hinv;replace zz:=B9 g0 g1 g6 g7 g8 hlo hlk hdd hll hd2;refine wt zz ?_;exact bad 2 _ (.inl rfl) hg hinv
  ·have hd:decide ((k:Int)<(l.length:Int))=false:=(by simp;omega);rw[List.drop_eq_nil_of_le (by omega)]at hinv;simp only[Ec]at hinv;subst hinv;replace zz:=Ah g0 g1 g6 g7 g8 hll hd;refine wt zz ?_;have e2:AS 0= .sc .nilIface:=rfl;simp only[e2];refine⟨?_,hg⟩;have h1:=WB tl;unfold AJ;refine⟨_,rfl,?_⟩;unfold AP;refine⟨h1,?_⟩;unfold AP;exact⟨by simp only[AJ],by simp only[AP]⟩
end Go.Proofs.YtblgchkahpgdjaaGreat
