/- What the claim rests on, part 14: the abstract machine, contracts of the functions, plain data. -/
import Derived.Test.YtblgchkahpgdjaaGreatZs13
set_option linter.unusedVariables false
set_option linter.unusedSimpArgs false
set_option linter.unusedSectionVars false
namespace Go.Proofs.YtblgchkahpgdjaaGreat
open Go.AM Go.Proofs.Tryz
set_option maxHeartbeats 8000000
set_option maxRecDepth 20000
def NA(z:Nat)(rows:List (List PV))(q:PV):Prop:=(∃ a cap,q= .sc (.slice a 0 cap)/\rows=[])\/(q= .A2 z rows/\rows≠[])
theorem NA.pc{z:Nat}{rows:List (List PV)}{q:PV}(h:NA z rows q):q.cells=[q]/\Cx q=true:=by
 rcases h with⟨_,_,rfl,_⟩|⟨rfl,_⟩<;>exact⟨rfl,rfl⟩
theorem A6.Z5{P:Program}{f:FuncId}{z:Nat}{h:A1}{K:PV->A1->Prop}{pre post rest:List PV}(h0: ∀ a cap,A6 P f (.agg (pre++ .sc (.slice a 0 cap)::post)::rest) h K):A6 P f (.agg (pre++ .A2 z []::post)::rest) h K:=by
 intro β w vals sm hr;cases vals with
 |nil=>simp[AU]at hr
 |cons v vals=>
  simp only[AU,AA]at hr;obtain⟨⟨xs,rfl,h1,h2⟩,h3⟩:=hr;obtain⟨a,cap,hx⟩:=AU.Ow h2;exact h0 a cap β w _ sm (by simp only[AU,AA];exact⟨⟨xs,rfl,h1,hx⟩,h3⟩)
theorem l9(cap:Nat)(h:A1):A6 prog 149 [.sc (.slice none 0 cap)] h λr h'=>r= .sc (.slice none 0 0)/\h'=h:=by
 refine AF func149 ntmps149 results149 Ty.Lq ?_;repeat'(first|refine Af λK hK=>?_|((first|refine Bn ?_|refine Ej ?_);simp only[Ty.w,simprocAttr,Q7])|(refine hK _ _ ?_;clear hK;(try simp only[Au,simprocAttr])))
theorem lA(x:Addr)(cap:Nat)(h:A1):A6 prog 149 [.sc (.slice (some x) 0 cap)] h λr h'=>r= .own h.next 0 0/\h'=h.new (.arr 6 []):=by
 refine AF func149 ntmps149 results149 Ty.Lq ?_;repeat'(first|refine Af λK hK=>?_|((first|refine Bn ?_|refine Ej ?_);simp only[Ty.w,simprocAttr,L6,L7,L8])|(refine Gh ?_;(try simp only[Au,simprocAttr]))|(refine EX _ (by(try simp only[Ty.w,simprocAttr,L6,L7,L8]);rfl) (λhb=>?_) (λhb=>?_)<;>(try simp only[DD,Bg,D7,simprocAttr]at hb)<;>(try(exfalso;omega)))|(refine hK _ _ ?_;clear hK;(try simp only[Au,simprocAttr])))
theorem lB{R:List (List PV)}{n:Nat}(hR:R.length=n+1)(hn:n<=1048576)(h:A1):A6 prog 149 [.A2 6 R] h λr h'=>r= .own h.next 0 (n+1)/\h'=h.new (.arr 6 R):=by
 have h0:(0<R.length)=True:=by rw[hR];simp
 have hb:(n+1)*128<=140737488355328:=by omega
 refine AF func149 ntmps149 results149 Ty.Lq ?_;replace zz:=Aa h0 hR hb @Bf;repeat'(first|refine Af λK hK=>?_|refine uR zz ?_|refine uT zz ?_|refine uK ?_|refine C2 zz ?_|(refine uN hK ?_;clear hK)|(rw[AK];rotate_left 1;omega;simp only[Ty.w,simprocAttr,h0,hR,hb,Bf])|apply zI)
theorem lC{R:List (List PV)}{q:PV}(hq:NA 6 R q)(hl:R.length<=1048576)(h:A1): ∃ v h1,(A6 prog 149 [q] h λr h'=>r=v/\h'=h1)/\AH h h1/\Tl h1 h.next 6 v R:=by
 rcases hq with⟨a,cap,rfl,rfl⟩|⟨rfl,hne⟩
 ·cases a with
  |none=>exact⟨_,_,l9 cap h,AH.refl _,Tl.nil⟩
  |some x=>exact⟨_,_,lA x cap h,(AH.refl h).new _,Tl.grow (AG _) rfl⟩
 ·obtain ⟨n,hn⟩: ∃ n,R.length=n+1:=⟨R.length-1,by have:=List.length_pos_iff.2 hne;omega⟩;exact⟨_,_,lB hn (by omega) h,(AH.refl h).new _,Tl.grow (AG _) hn.symm⟩
theorem lD(cap:Nat)(h:A1):A6 prog 150 [.sc (.slice none 0 cap)] h λr h'=>r= .sc (.slice none 0 0)/\h'=h:=by
 refine AF func150 ntmps150 results150 Ty.Lr ?_;repeat'(first|refine Af λK hK=>?_|((first|refine Bn ?_|refine Ej ?_);simp only[Ty.w,simprocAttr,Q7])|(refine hK _ _ ?_;clear hK;(try simp only[Au,simprocAttr])))
theorem lE(x:Addr)(cap:Nat)(h:A1):A6 prog 150 [.sc (.slice (some x) 0 cap)] h λr h'=>r= .own h.next 0 0/\h'=h.new (.arr 2 []):=by
 refine AF func150 ntmps150 results150 Ty.Lr ?_;repeat'(first|refine Af λK hK=>?_|((first|refine Bn ?_|refine Ej ?_);simp only[Ty.w,simprocAttr,L6,L7,L8])|(refine Gh ?_;(try simp only[Au,simprocAttr]))|(refine EX _ (by(try simp only[Ty.w,simprocAttr,L6,L7,L8]);rfl) (λhb=>?_) (λhb=>?_)<;>(try simp only[DD,Bg,D7,simprocAttr]at hb)<;>(try(exfalso;omega)))|(refine hK _ _ ?_;clear hK;(try simp only[Au,simprocAttr])))
theorem lF{R:List (List PV)}{n:Nat}(hR:R.length=n+1)(hn:n<=1048576)(h:A1):A6 prog 150 [.A2 2 R] h λr h'=>r= .own h.next 0 (n+1)/\h'=h.new (.arr 2 R):=by
 have h0:(0<R.length)=True:=by rw[hR];simp
 have hb:(n+1)*32<=140737488355328:=by omega
 refine AF func150 ntmps150 results150 Ty.Lr ?_;replace zz:=Aa h0 hR hb @Bf;repeat'(first|refine Af λK hK=>?_|refine uR zz ?_|refine uT zz ?_|refine uK ?_|refine C2 zz ?_|(refine uN hK ?_;clear hK)|(rw[AK];rotate_left 1;omega;simp only[Ty.w,simprocAttr,h0,hR,hb,Bf])|apply zI)
theorem lG{R:List (List PV)}{q:PV}(hq:NA 2 R q)(hl:R.length<=1048576)(h:A1): ∃ v h1,(A6 prog 150 [q] h λr h'=>r=v/\h'=h1)/\AH h h1/\Tl h1 h.next 2 v R:=by
 rcases hq with⟨a,cap,rfl,rfl⟩|⟨rfl,hne⟩
 ·cases a with
  |none=>exact⟨_,_,lD cap h,AH.refl _,Tl.nil⟩
  |some x=>exact⟨_,_,lE x cap h,(AH.refl h).new _,Tl.grow (AG _) rfl⟩
 ·obtain ⟨n,hn⟩: ∃ n,R.length=n+1:=⟨R.length-1,by have:=List.length_pos_iff.2 hne;omega⟩;exact⟨_,_,lF hn (by omega) h,(AH.refl h).new _,Tl.grow (AG _) hn.symm⟩
theorem lH(n:Nat)(H:A1)(c:Int):AJ n H (AS c) (AS c):=by
 unfold AS;cases c==0 with
 |true=>simp only[AC,AJ]
 |false=>simp only[AL,Ao,AJ]
theorem LJ(n:Nat)(H:A1)(l:List Ch)(c:Int):AJ n H (.Am [.A2 15 (Ae l),AS c]) (.Am [.A2 15 (Ae l),AS c]):=by
 have:=lH n H c;simp only[AJ,AP]at this⊢;exact⟨_,rfl,.inl ⟨rfl,Sm _ _⟩,this,trivial⟩
theorem Sx.I8(x:Sx):0<x.nodes:=by cases x;simp only[Sx.nodes];omega
theorem Fm.pL(l m:List Fm):Fm.rows (l++m)=Fm.rows l++Fm.rows m:=by simp[Fm.rows_map]
def NB(x:Sx):Prop:= ∀ (P:List Pm)(W:List Fm),P.length+x.nodes<=1048576->W.length+x.nodes<=1048576-> ∀ h:A1,
 A6 prog 53 [.agg [.A2 2 (A9 P),.A2 6 (Fm.rows W)],.agg x.cells] h λr h'=>r= .Am [.A2 15 (Ae (Cp x ⟨P,W⟩).1),AS (Cp x ⟨P,W⟩).2]/\h'=h
theorem X3(vars:Bool): ∀ (n:Nat)(l:List Sx),l.length<=n-> ∀ (don:List Pm)(pen:List ByteArray),(Ec vars l don pen).1.length<=don.length+pen.length+l.length
 |_,[],_,don,pen=>by simp[Ec,Bv]
 |0,_::_,h,_,_=>by simp at h
 |n+1,x::l,h,don,pen=>by
  simp only[List.length_cons]at h;have ih:=X3 vars n;rw[Ec.eq_def];simp only;cases Hm x with
  |false=>simp only[AL,List.length_nil];omega
  |true=>
   simp only[AC];cases A3 (Aj x) GD with
   |true=>
    simp only[AC]
    match l,h with
    |[],_=>simp only[List.length_nil];omega
    |t::l',h=>
     simp only[List.length_cons]at h;simp only;cases !pen.isEmpty&&Hm t with
     |false=>simp only[AL,List.length_nil];omega
     |true=>
      simp only[AC];cases Gj (Aj t)with
      |false=>simp only[AL,List.length_nil];omega
      |true=>
       have:=ih l' (by omega) (don++Bv (Aj t) pen) [];simp only[AC,List.length_append,Bv,List.length_map,List.length_nil,List.length_cons]at this⊢;omega
   |false=>
    simp only[AL];cases(bif vars then Ey (Aj x)else As (Aj x))with
    |false=>simp only[AL,List.length_nil];omega
    |true=>
     have:=ih l (by omega) don (pen++[Aj x]);simp only[AC,List.length_append,List.length_nil,List.length_cons]at this⊢;omega
theorem OS(vars:Bool)(l:List Sx):(C5 vars l).1.length<=l.length:=by
 have:=X3 vars l.length l (AG _) [] [];unfold C5;simpa using this
theorem lI(n:Nat)(h:A1)(l:List Pm):DA n h (A9 l) (A9 l):=Rk _ (WA l)
theorem Sx.len_nodess: ∀ l:List Sx,l.length<=Sx.Aw l
 |[]=>AG _
 |x::l=>by
  have:=Sx.len_nodess l;have:=Sx.I8 x;simp only[Sx.Aw,List.length_cons];omega
def OT(P:List Pm)(W:List Fm):List Sx->List Ch × Int
 |[f,e]=>bif (Co f).2==0 then Cp e ⟨P,W++[(Co f).1]⟩else([],(Co f).2)
 |_=>([],2)
theorem lJ{P:List Pm}{W:List Fm}{kind value line col:Int}{text:ByteArray}{y:Sx}{rest:List Sx}(hE: ∀ e∈rest,NB e)
  (hok: ∀ z∈rest,z.ok)(hp:P.length+Sx.Aw rest<=1048576)(hwl:W.length+Sx.Aw rest<=1048576)(h:A1):
  A6 prog 111 [.agg [.A2 2 (A9 P),.A2 6 (Fm.rows W)],.agg [.sc (.int .i64 kind),.sc (.int .i64 value),.sc (.int .i64 line),.sc (.int .i64 col),A4 text,.A2 6 (Sx.rows (y::rest))]] h λr h'=>
   r= .Am [.A2 15 (Ae (OT P W rest).1),AS (OT P W rest).2]/\h'=h:=by
 refine A6.CF Ty.Pf ?_;have hlen:=Sx.B4 (y::rest);generalize hF:OT P W rest=F;have main: ∀ q,NA 6 (Fm.rows W) q->A6 prog 111 [.agg [.A2 2 (A9 P),q],.agg [.sc (.int .i64 kind),.sc (.int .i64 value),.sc (.int .i64 line),.sc (.int .i64 col),A4 text,.A2 6 (Sx.rows (y::rest))]] h λr h'=>AJ h.next h' (.Am [.A2 15 (Ae F.1),AS F.2]) r/\AH h h':=by
  intro q hq;obtain⟨q1,q2⟩:=hq.pc;cases q3:(((Sx.rows (y::rest)).length:Int) !=3)with
  |true=>
   have e:F=([],2):=by
    rw[← hF]
    match rest,q3,hlen with
    |[],_,_=>rfl
    |[_],_,_=>rfl
    |[_,_],q,hlen=>rw[hlen]at q;simp at q
    |_::_::_::_,_,_=>rfl
   subst e;clear hE hF;generalize Sx.rows (y::rest)=R at q3⊢;refine uG (ow:=λt=>t==2) (wf:=λf=>f==150||f==149) func111 ntmps111 results111 Ty.Pf ?_;refine wt (AY q1 q2 q3) ?_;exact⟨GZ (c:=2) rfl,(AH.refl h).new _⟩
  |false=>
   obtain⟨f,e,rfl⟩: ∃ a e,rest=[a,e]:=by
    match rest,q3,hlen with
    |[],q,hlen=>rw[hlen]at q;simp at q
    |[_],q,hlen=>rw[hlen]at q;simp at q
    |[a,e],_,_=>exact⟨a,e,rfl⟩
    |_::_::_::l,q,hlen=>rw[hlen]at q;simp at q;omega
   have cf:=λh:A1=>OM (x:=f) (hok f (by simp)) h;have hEe:=hE e (by simp);simp only[Sx.Aw,G8]at hp hwl;have hfn:=Sx.I8 f;have r1:=Sx.CL (l:=[y,f,e]) (i:=1) rfl;have r2:=Sx.CL (l:=[y,f,e]) (i:=2) rfl;have d1:((1:Int)<((Sx.rows [y,f,e]).length:Int))=True:=DU (by rw[hlen];simp);have d2:((2:Int)<((Sx.rows [y,f,e]).length:Int))=True:=DU (by rw[hlen];simp);simp only[OT]at hF;generalize Sx.rows [y,f,e]=R at q3 r1 r2 d1 d2⊢;generalize Co f=E at cf hF;obtain⟨ev,ec⟩:=E;simp only at hF cf;have hwl2:=Fm.B4 W;have hEe:=hEe P (W++[ev]) (by omega) (by simp only[List.length_append,List.length_cons,List.length_nil];omega);obtain⟨fk,fv,fl,fc,ft,fs⟩:=f;simp only[Sx.cells]at r1 cf;cases z1:(ec==0)with
   |false=>
    rw[z1,AL]at hF;subst hF;rw[KF z1]at cf;clear hE hEe;obtain⟨gop,gna,gar,gpa,gex,gki⟩:=ev;simp only[Ao,Fm.cells]at cf;refine uG (ow:=λt=>t==2) (wf:=λf=>f==150||f==149) func111 ntmps111 results111 Ty.Pf ?_;replace zz:=Ak q1 q2 q3 r1 d1;refine wt zz ?_;refine uU (uu r1 d1) (cf _) ?_;refine wt @B1 ?_;exact⟨GZ z1,(((AH.refl h).new _).new _).set (by omega) _⟩
   |true=>
    rw[z1,AC]at hF;rw[KG z1]at cf;clear hE;have hap:Fm.rows (W++[ev])=Fm.rows W++[ev.cells]:=(by rw[Fm.pL];try rfl);obtain⟨gop,gna,gar,gpa,gex,gki⟩:=ev;simp only[Fm.cells]at cf hap;refine uG (ow:=λt=>t==2) (wf:=λf=>f==150||f==149) func111 ntmps111 results111 Ty.Pf ?_;replace zz:=Ak q1 q2 q3 r1 d1;refine wt zz ?_;refine uU (uu r1 d1) (cf _) ?_;refine xB 6 @B1 ?_;refine⟨?_⟩;refine Cq (λS H=>S 2= .ptr h.next 0 0/\S 3= .Ag [.sc (.int .i64 kind),.sc (.int .i64 value),.sc (.int .i64 line),.sc (.int .i64 col),A4 text,.A2 6 R]/\S 6= .ptr (h.next+1) 0 0/\AH h H/\H.next=h.next+2/\H.obj h.next=some (.arr 2 [[.A2 2 (A9 P),q]])/\H.obj (h.next+1)=some (.arr 6 [[A4 gop,A4 gna,.A2 1 (AN gar),.A2 2 (A9 gpa),.A2 5 (Ex.rows gex),.A2 6 (Fm.rows gki)]])) ⟨sq A5,sq A5,sq A5,(((AH.refl h).new _).new _).set (by omega) _,rfl,by simp[A1.new,A1.set],by simp[A1.new,A1.set]⟩ ?_;clear r1 cf;rintro S H ⟨s2,s3,s6,hg,hnx,o2,o6⟩;obtain⟨v,h1,hc,hgr,htl⟩:=lC hq (by rw[Fm.B4];omega) H;have hle1:=hgr.le;obtain⟨Hk,t1,t2,t3,t4,t5⟩:=htl.tail;have p2:=(hgr.B6 h.next (by omega)).trans o2;have p6:=(hgr.B6 (h.next+1) (by omega)).trans o6;replace zz:=Ak s2 s3 s6 o2 o6;refine wy zz ?_;refine Lk hc (sr (Ak s2 s3 s6 o2 o6)) (by
     try simp only[Ty.w,simprocAttr,Df,List.map_cons,List.map_nil,List.forall_mem_cons]
     (repeat' apply And.intro)<;>first
      |trivial
      |exact .inl (by decide+kernel)
      |exact .inr (by simp only[Ty.w,simprocAttr,Ty.AW,s2,p2,p6,q1,q2])) ?_
    simp only[Ty.w,simprocAttr,Ty.AW,B8,s2,s3,s6,o6,p2,p6];have k2:=(t4 h.next (by omega)).trans p2;have n1:(h.next=Hk.next)=False:=BB (by omega);replace zz:=B9 s2 s3 s6 o6 p2 p6 t1 t2 k2 n1;(repeat'(first|refine cK ?_|refine nK ?_|with_reducible refine Px 7 ?_|(rw[AK];rotate_left 1;omega;simp only[Ty.w,simprocAttr,s2,s3,s6,o6,p2,p6,t1,t2,k2,n1])|apply zI));refine⟨by
     simp only[List.forall_mem_cons];exact⟨.inr (by simp only[Ty.w,simprocAttr,Ty.AW,o6]),λ_ hx=>by cases hx⟩,?_⟩
    replace zz:=B9 s2 s3 s6 o6 p2 p6 t1 t2 k2 n1;refine xB 7 zz ?_;refine⟨by
     simp only[List.forall_mem_cons]
     (repeat' apply And.intro)<;>first|exact .inl (by decide+kernel)|exact(λ_ hx=>by cases hx),?_⟩
    refine⟨by
     simp only[List.forall_mem_cons]
     (repeat' apply And.intro)<;>first|exact .inl (by decide+kernel)|exact(λ_ hx=>by cases hx),?_⟩
    replace zz:=B9 s2 s3 s6 o6 p2 p6 t1 t2 k2 n1;refine xB 7 zz ?_;refine⟨?_⟩;have hlen2:(Fm.rows (W++[Fm.mk gop gna gar gpa gex gki])).length=(Fm.rows W).length+1:=(by rw[hap];simp);have hgk:AH h Hk:=⟨by omega,λj hj=>(t4 j (by omega)).trans ((hgr.B6 j (by omega)).trans (hg.B6 j hj))⟩;rw[← hap];refine Cq (λS H=>S 2= .ptr h.next 0 0/\S 3= .Ag [.sc (.int .i64 kind),.sc (.int .i64 value),.sc (.int .i64 line),.sc (.int .i64 col),A4 text,.A2 6 R]/\AH h H/\h.next<H.next/\ ∃ j,h.next<=j/\H.obj h.next=some (.arr 2 [[.A2 2 (A9 P),.own j 0 ((Fm.rows W).length+1)]])/\H.obj j=some (.arr 6 (Fm.rows (W++[Fm.mk gop gna gar gpa gex gki])))) ⟨sq s2,sq s3,(hgk.new _).set (by omega) _,by simp only[A1.new,A1.set];omega,Hk.next,by omega,by simp only[A1.new,A1.set,AO];rw[t3],by simp only[A1.new,A1.set];rw[A8 (by omega)];simp⟩ ?_;clear s2 s3 s6 hg hnx o2 o6 hc hgr htl hle1 t1 t2 t3 t4 t5 p2 p6 k2 n1 hgk;rintro S H ⟨s2,s3,hg,hlt,j,hj,o1,o2⟩;refine Iq h.next [(2,.Ag [.A2 2 (A9 P),.A2 6 (Fm.rows (W++[Fm.mk gop gna gar gpa gex gki]))])] rfl hg.le ?_ ?_
    ·intro x hx;simp only[List.mem_cons,List.not_mem_nil,ET]at hx;subst hx;show AJ h.next _ _ (S 2)
     rw[s2];simp only[AJ,AP,Dh];refine .inr ⟨_,0,0,2,_,_,rfl,AG _,o1,rfl,?_⟩;exact⟨.inl ⟨rfl,C6 _ _⟩,.inr (.inr ⟨j,0,_,_,rfl,hj,o2,by omega,by rw[List.drop_zero,List.take_of_length_le (by omega)];exact SJ _ _ _⟩),trivial⟩
    refine Cq (λS H=>S 2= .Ag [.A2 2 (A9 P),.A2 6 (Fm.rows (W++[Fm.mk gop gna gar gpa gex gki]))]/\S 3= .Ag [.sc (.int .i64 kind),.sc (.int .i64 value),.sc (.int .i64 line),.sc (.int .i64 col),A4 text,.A2 6 R]/\AH h H) ⟨by simp only[Cl,Ty.w,simprocAttr],by simp only[Cl,Ty.w,simprocAttr,s3],Vj hg⟩ ?_;(try clear zz);clear s2 s3 hg hlt o1 o2 hj S H;rintro S H ⟨s2,s3,hg⟩;generalize Fm.rows (W++[Fm.mk gop gna gar gpa gex gki])=FR at*;rw[hF]at hEe;clear hF hap hwl2;obtain⟨fl,fe⟩:=F;obtain⟨ek,ev,el,ec2,et,es⟩:=e;simp only[Sx.cells]at r2 hEe;replace zz:=Aa s2 s3 r2 d2;refine wy zz ?_;replace zz:=Aa s2 s3 r2 d2;(first|refine uV zz (hEe _) ?_|refine uA zz (hEe _) ?_);refine wy zz ?_;exact⟨LJ _ _ _ _,hg⟩
 cases W with
 |nil=>exact A6.Z5 (pre:=[.A2 2 (A9 P)]) λa cap=>main _ (.inl ⟨a,cap,rfl,rfl⟩)
 |cons f W=>exact main _ (.inr ⟨rfl,by simp[Fm.rows]⟩)
def OU(P:List Pm)(W:List Fm):List Sx->List Ch × Int
 |[p,e]=>bif Ax p==3 then(bif (C5 true (C9 p)).2==0 then Cp e ⟨P++(C5 true (C9 p)).1,W⟩else([],(C5 true (C9 p)).2))else([],2)
 |_=>([],2)
theorem lK{P:List Pm}{W:List Fm}{kind value line col:Int}{text:ByteArray}{y:Sx}{rest:List Sx}(hE: ∀ e∈rest,NB e)
  (hok: ∀ z∈rest,z.ok)(hp:P.length+Sx.Aw rest<=1048576)(hwl:W.length+Sx.Aw rest<=1048576)(h:A1):
  A6 prog 112 [.agg [.A2 2 (A9 P),.A2 6 (Fm.rows W)],.agg [.sc (.int .i64 kind),.sc (.int .i64 value),.sc (.int .i64 line),.sc (.int .i64 col),A4 text,.A2 6 (Sx.rows (y::rest))]] h λr h'=>
   r= .Am [.A2 15 (Ae (OU P W rest).1),AS (OU P W rest).2]/\h'=h:=by
 refine A6.CF Ty.Nt ?_;have hlen:=Sx.B4 (y::rest);generalize hF:OU P W rest=F;have main: ∀ q,NA 2 (A9 P) q->A6 prog 112 [.agg [q,.A2 6 (Fm.rows W)],.agg [.sc (.int .i64 kind),.sc (.int .i64 value),.sc (.int .i64 line),.sc (.int .i64 col),A4 text,.A2 6 (Sx.rows (y::rest))]] h λr h'=>AJ h.next h' (.Am [.A2 15 (Ae F.1),AS F.2]) r/\AH h h':=by
  intro q hq;obtain⟨q1,q2⟩:=hq.pc;cases q3:(((Sx.rows (y::rest)).length:Int) !=3)with
  |true=>
   have e:F=([],2):=by
    rw[← hF]
    match rest,q3,hlen with
    |[],_,_=>rfl
    |[_],_,_=>rfl
    |[_,_],q,hlen=>rw[hlen]at q;simp at q
    |_::_::_::_,_,_=>rfl
   subst e;clear hE hF;generalize Sx.rows (y::rest)=R at q3⊢;refine uG (ow:=λt=>t==2) (wf:=λf=>f==150||f==149) func112 ntmps112 results112 Ty.Nt ?_;refine wt (AY q1 q2 q3) ?_;exact⟨GZ (c:=2) rfl,(AH.refl h).new _⟩
  |false=>
   obtain⟨f,e,rfl⟩: ∃ a e,rest=[a,e]:=by
    match rest,q3,hlen with
    |[],q,hlen=>rw[hlen]at q;simp at q
    |[_],q,hlen=>rw[hlen]at q;simp at q
    |[a,e],_,_=>exact⟨a,e,rfl⟩
    |_::_::_::l,q,hlen=>rw[hlen]at q;simp at q;omega
   have hEe:=hE e (by simp);simp only[Sx.Aw,G8]at hp hwl;have r1:=Sx.CL (l:=[y,f,e]) (i:=1) rfl;have r2:=Sx.CL (l:=[y,f,e]) (i:=2) rfl;have d1:((1:Int)<((Sx.rows [y,f,e]).length:Int))=True:=DU (by rw[hlen];simp);have d2:((2:Int)<((Sx.rows [y,f,e]).length:Int))=True:=DU (by rw[hlen];simp);simp only[OU]at hF;generalize Sx.rows [y,f,e]=R at q3 r1 r2 d1 d2⊢;have hfo:=hok f (by simp);clear hok hE;obtain⟨fk,fv,fl,fc,ft,fs⟩:=f;simp only[Sx.ok]at hfo;obtain⟨_,_,_,_,hfo⟩:=hfo;have hfs:=Sx.len_nodess fs;simp only[Sx.nodes]at hp hwl;have cf:=λh:A1=>M3 (vars:=true) (l:=fs) (by omega) (Sx.Bz.1 hfo) h;have hpl:=OS true fs;simp only[Ax,C9]at hF;simp only[Sx.cells]at r1;cases z0:(fk==3)with
   |false=>
    have z0b:(fk !=3)=true:=(by simp[bne,z0]);have z0c:(fk=3)=False:=BB (by simpa using z0);rw[z0,AL]at hF;subst hF;clear cf hEe hpl;refine uG (ow:=λt=>t==2) (wf:=λf=>f==150||f==149) func112 ntmps112 results112 Ty.Nt ?_;replace zz:=BT q1 q2 q3 r1 d1 z0 z0b z0c;refine wt zz ?_;exact⟨GZ (c:=2) rfl,(AH.refl h).new _⟩
   |true=>
    have z0b:(fk !=3)=false:=(by simp[bne,z0]);have z0c:(fk=3)=True:=DU (by simpa using z0);rw[z0,AC]at hF;generalize C5 true fs=E at cf hF hpl;obtain⟨ev,ec⟩:=E;simp only at hF cf hpl;have hEe:=hEe (P++ev) W (by simp only[List.length_append];omega) (by omega);cases z1:(ec==0)with
    |false=>
     rw[z1,AL]at hF;subst hF;rw[KF z1]at cf;clear hEe;simp only[Ao]at cf;refine uG (ow:=λt=>t==2) (wf:=λf=>f==150||f==149) func112 ntmps112 results112 Ty.Nt ?_;replace zz:=BT q1 q2 q3 r1 d1 z0 z0b z0c;refine wt zz ?_;refine uU (uu r1 d1) (cf _) ?_;(repeat'(first|refine cK ?_|refine nK ?_|refine Af λK hK=>?_|refine uR @B1 ?_|refine uT @B1 ?_|(refine uN hK ?_;clear hK)|apply zI));exact⟨GZ z1,(AH.refl h).new _⟩
    |true=>
     rw[z1,AC]at hF;rw[KG z1]at cf;have hap:A9 (P++ev)=A9 P++A9 ev:=(by simp[A9]);have hlp:(A9 P).length=P.length:=(by simp[A9]);have hle:(A9 ev).length=ev.length:=(by simp[A9]);refine uG (ow:=λt=>t==2) (wf:=λf=>f==150||f==149) func112 ntmps112 results112 Ty.Nt ?_;replace zz:=BT q1 q2 q3 r1 d1 z0 z0b z0c;(repeat'(first|refine cK ?_|refine nK ?_|refine Af λK hK=>?_|refine uR zz ?_|refine uK ?_|refine C2 zz ?_|(refine uN hK ?_;clear hK)|apply zI));refine uU (uu r1 d1) (cf _) ?_;(repeat'(first|refine cK ?_|refine nK ?_|with_reducible refine Px 6 ?_|refine Af λK hK=>?_|refine uR @B1 ?_|refine uK ?_|refine C2 @B1 ?_|(refine uN hK ?_;clear hK)|apply zI));refine⟨?_⟩;refine Cq (λS H=>S 2= .ptr h.next 0 0/\S 3= .Ag [.sc (.int .i64 kind),.sc (.int .i64 value),.sc (.int .i64 line),.sc (.int .i64 col),A4 text,.A2 6 R]/\S 6= .A2 2 (A9 ev)/\AH h H/\h.next<H.next/\H.obj h.next=some (.arr 2 [[q,.A2 6 (Fm.rows W)]])) ⟨sq A5,sq A5,sq A5,(AH.refl h).new _,by simp[A1.new],by simp[A1.new]⟩ ?_;clear r1 cf;rintro S H ⟨s2,s3,s6,hg,hnx,o2⟩;obtain⟨v,h1,hc,hgr,htl⟩:=lG hq (by omega) H;have hle1:=hgr.le;obtain⟨Hk,t1,t2,t3,t4,t5⟩:=htl.tail;have p2:=(hgr.B6 h.next (by omega)).trans o2;have k2:=(t4 h.next (by omega)).trans p2;have n1:(h.next=Hk.next)=False:=BB (by omega);have hb:((A9 P).length+(A9 ev).length)*32<=140737488355328:=(by omega);replace zz:=Aa s2 s3 s6 o2;(repeat'(first|refine cK ?_|refine nK ?_|refine uR zz ?_|apply zI));refine DK (hc) (sr (Aa s2 s3 s6 o2)) ?_;simp only[Ty.w,simprocAttr,s2,s3,s6,o2];replace zz:=BO s2 s3 s6 p2 t1 t2 k2 n1 hb;(repeat'(first|refine cK ?_|refine nK ?_|with_reducible refine Px 7 ?_|refine Af λK hK=>?_|(refine uN hK ?_;clear hK)|(rw[AK];rotate_left 1;omega;simp only[Ty.w,simprocAttr,s2,s3,s6,p2,t1,t2,k2,n1,hb])|apply zI));refine⟨?_⟩;have hlen2:(A9 (P++ev)).length=(A9 P).length+(A9 ev).length:=(by rw[hap];simp);have hgk:AH h Hk:=⟨by omega,λj hj=>(t4 j (by omega)).trans ((hgr.B6 j (by omega)).trans (hg.B6 j hj))⟩;rw[← hap];refine Cq (λS H=>S 2= .ptr h.next 0 0/\S 3= .Ag [.sc (.int .i64 kind),.sc (.int .i64 value),.sc (.int .i64 line),.sc (.int .i64 col),A4 text,.A2 6 R]/\AH h H/\h.next<H.next/\ ∃ j,h.next<=j/\H.obj h.next=some (.arr 2 [[.own j 0 ((A9 P).length+(A9 ev).length),.A2 6 (Fm.rows W)]])/\H.obj j=some (.arr 2 (A9 (P++ev)))) ⟨sq s2,sq s3,(hgk.new _).set (by omega) _,by simp only[A1.new,A1.set];omega,Hk.next,by omega,by simp only[A1.new,A1.set,AO];rw[t3],by simp only[A1.new,A1.set];rw[A8 (by omega)];simp⟩ ?_;clear s2 s3 s6 hg hnx o2 hc hgr htl hle1 t1 t2 t3 t4 t5 p2 k2 n1 hgk hb;rintro S H ⟨s2,s3,hg,hlt,j,hj,o1,o2⟩;refine Iq h.next [(2,.Ag [.A2 2 (A9 (P++ev)),.A2 6 (Fm.rows W)])] rfl hg.le ?_ ?_
     ·intro x hx;simp only[List.mem_cons,List.not_mem_nil,ET]at hx;subst hx;show AJ h.next _ _ (S 2)
      rw[s2];simp only[AJ,AP,Dh];refine .inr ⟨_,0,0,2,_,_,rfl,AG _,o1,rfl,?_⟩;exact⟨.inr (.inr ⟨j,0,_,_,rfl,hj,o2,by omega,by rw[List.drop_zero,List.take_of_length_le (by omega)];exact lI _ _ _⟩),.inl ⟨rfl,Ed _ _⟩,trivial⟩
     refine Cq (λS H=>S 2= .Ag [.A2 2 (A9 (P++ev)),.A2 6 (Fm.rows W)]/\S 3= .Ag [.sc (.int .i64 kind),.sc (.int .i64 value),.sc (.int .i64 line),.sc (.int .i64 col),A4 text,.A2 6 R]/\AH h H) ⟨by simp only[Cl,Ty.w,simprocAttr],by simp only[Cl,Ty.w,simprocAttr,s3],Vj hg⟩ ?_;(try clear zz);clear s2 s3 hg hlt o1 o2 hj S H;rintro S H ⟨s2,s3,hg⟩;generalize A9 (P++ev)=FR at*;rw[hF]at hEe;clear hF hap hlen2;obtain⟨fl,fe⟩:=F;obtain⟨ek,ev2,el,ec2,et,es⟩:=e;simp only[Sx.cells]at r2 hEe;replace zz:=Aa s2 s3 r2 d2;(repeat'(first|refine cK ?_|refine nK ?_|refine uD zz ?_|apply zI));(first|refine uV zz (hEe _) ?_|refine uA zz (hEe _) ?_);(repeat'(first|refine cK ?_|refine nK ?_|refine uT zz ?_|(refine uN hK ?_;clear hK)|apply zI));exact⟨LJ _ _ _ _,hg⟩
 cases P with
 |nil=>exact A6.Z5 (pre:=[]) λa cap=>main _ (.inl ⟨a,cap,rfl,rfl⟩)
 |cons f P=>exact main _ (.inr ⟨rfl,by simp[A9]⟩)
theorem X4(w:ByteArray):Fi w=0\/Fi w=3\/Fi w=4\/Fi w=5:=by
 unfold Fi;cases A3 w JY<;>cases A3 w JZ<;>cases A3 w Ja<;>simp
theorem lL{P:List Pm}{W:List Fm}{k:Int}{n:ByteArray}{a:List ByteArray}(hp:P.length<=1048576)(hwl:W.length<=1048576)(h:A1):
  A6 prog 114 [.agg [.A2 2 (A9 P),.A2 6 (Fm.rows W)],.sc (.int .i64 k),A4 n,.A2 1 (AN a),.agg [.sc (.string ⟨#[]⟩),.sc (.string ⟨#[]⟩),.sc (.int .i64 0),.sc (.slice none 0 0),.sc (.slice none 0 0)]] h λr h'=>r= .agg (CZ (FG ⟨P,W⟩ k n a By))/\h'=h:=
 A6.nz (X2 (v:=By) (by omega) (by omega) h) (HN (Nz.refl _) (HN (Nz.refl _) (HN (Nz.refl _) (HN (Nz.refl _) (HN (Vh (HN (Nz.refl _) (HN (Nz.refl _) (HN (Nz.refl _) (HN O6 (HN O6 (D6.refl _))))))) (D6.refl _))))))
theorem Sx.NN{x:Sx}: ∀ {l:List Sx},x∈l->x.nodes<=Sx.Aw l
 |y::l,h=>by
  simp only[Sx.Aw];rcases List.mem_cons.1 h with rfl|h
  ·omega
  ·have:=Sx.NN h;omega
theorem lM(S:Dv)(k:Int): ∀ l:List Sx,(GW S k l).1.length<=1
 |[]=>by simp[GW]
 |[_]=>by simp[GW]
 |[a,e]=>by
  simp only[GW];cases(Em a).2.2==0<;>cases(Gz e).2==0<;>simp
 |_::_::_::_=>by simp[GW]
theorem lN(S:Dv): ∀ l:List Sx,F0 l S=(match F0 l S with|(b,c)=>bif c==0 then([]++b,0)else([],c))
 |[]=>by rw[F0];try rfl
 |x::l=>by
  rw[F0.eq_def];simp only;generalize Cp x S=A;obtain⟨a,c⟩:=A;simp only;cases z:c==0 with
  |false=>simp only[AL,z]
  |true=>
   simp only[AC];generalize F0 l S=B;obtain⟨b,c'⟩:=B;simp only;cases z':c'==0 with
   |false=>simp only[AL,z']
   |true=>simp only[AC,D8,List.nil_append]
theorem X5(S:Dv)(k:Int)(a:Sx):(J6 S k a).1.length<=1:=by
 unfold J6;cases(Em a).2.2==0<;>simp
theorem X6{S:Dv}: ∀ l:List Sx,(∀ x∈l,(Cp x S).1.length<=x.nodes)->(F0 l S).1.length<=Sx.Aw l
 |[],_=>by rw[F0];simp[Sx.Aw]
 |x::l,hx=>by
  have ih:=X6 l (λy hy=>hx y (by simp[hy]));have h1:=hx x (by simp);rw[F0.eq_def];simp only[Sx.Aw];generalize Cp x S=A at*;obtain⟨a,c⟩:=A;simp only at h1⊢;cases c==0 with
  |false=>simp
  |true=>
   simp only[AC];generalize F0 l S=B at*;obtain⟨b,c'⟩:=B;simp only at ih⊢;cases c'==0 with
   |false=>simp
   |true=>simp only[AC,List.length_append];omega
theorem QJ: ∀ (n:Nat)(x:Sx),x.nodes<=n-> ∀ S:Dv,(Cp x S).1.length<=x.nodes
 |0,x,h,_=>by have:=Sx.I8 x;omega
 |n+1,.mk kind v l c t kids,h,S=>by
  have ih:=QJ n;simp only[Sx.nodes]at h⊢;rw[Cp.eq_def];simp only;cases kind==3 with
  |false=>simp
  |true=>
   simp only[AC];cases kids with
   |nil=>simp
   |cons x rest=>
    have hx:=Sx.I8 x;simp only[Sx.Aw]at h⊢;cases Ax x==1 with
    |false=>simp
    |true=>
     simp only[AC];cases !(Fi (Aj x)==0)with
     |true=>have:=lM S (Fi (Aj x)) rest;simp only[AC];omega
     |false=>
      simp only[AL];cases A3 (Aj x) HR with
      |true=>
       simp only[AC]
       match rest,h with
       |[],_=>simp
       |[_],_=>simp
       |[f,e],h=>
        simp only[Sx.Aw]at h⊢;cases(Co f).2==0 with
        |false=>simp
        |true=>have:=ih e (by omega) ⟨S.params,S.Hb++[(Co f).1]⟩;simp only[AC];omega
       |_::_::_::_,_=>simp
      |false=>
       simp only[AL];cases A3 (Aj x) DV with
       |true=>
        simp only[AC]
        match rest,h with
        |[],_=>simp
        |[_],_=>simp
        |[p,e],h=>
         simp only[Sx.Aw]at h⊢;cases Ax p==3 with
         |false=>simp
         |true=>
          simp only[AC];cases(C5 true (C9 p)).2==0 with
          |false=>simp
          |true=>have:=ih e (by omega) ⟨S.params++(C5 true (C9 p)).1,S.Hb⟩;simp only[AC];omega
        |_::_::_::_,_=>simp
       |false=>
        simp only[AL];cases A3 (Aj x) Bo with
        |true=>
         have:=X6 (S:=S) rest (λy hy=>ih y (by have:=Sx.NN hy;omega) S);simp only[AC];omega
        |false=>
         simp only[AL];cases A3 (Aj x) DR with
         |true=>
          simp only[AC]
          match rest with
          |[]=>simp
          |[a]=>have:=X5 S 2 a;simp only;omega
          |_::_::_=>simp
         |false=>
          have:=X5 S 1 (.mk kind v l c t (x::rest));simp only[AL];omega
theorem lO{kind value line col:Int}{text:ByteArray}{kids:List Sx}(hE: ∀ e∈kids,NB e)
  (hok:(Sx.mk kind value line col text kids).ok)(hsm:(Sx.mk kind value line col text kids).small):NB (.mk kind value line col text kids):=by
 intro P W hp hwl h;refine A6.CF Ty.Hi ?_;have hbg:=M7 hok;have hda:=λh:A1=>Sk hok hsm h;have hks: ∀ z∈kids,z.ok:=by simp only[Sx.ok]at hok;exact Sx.Bz.1 hok.2.2.2.2
 have hkm: ∀ z∈kids,z.small:=by simp only[Sx.small]at hsm;exact Sx.Eh.1 hsm.2
 generalize hF:Cp (.mk kind value line col text kids) ⟨P,W⟩=F;rw[Cp.eq_def]at hF;simp only at hF;simp only[Sx.nodes]at hp hwl;have hlen:=Sx.B4 kids;cases q:kind==3 with
 |false=>
  rw[q,AL]at hF;subst hF;have hn:Bt (.mk kind value line col text kids)=none:=by simp only[Bt];rw[A8 (by simpa using q)]
  rw[hn]at hbg
  clear hE hda hok hsm hn;simp only[Sx.cells,MP]at hbg⊢;refine AF func53 ntmps53 results53 Ty.Hi ?_;refine wt q ?_;refine uU A5 (hbg _) ?_;refine wt yF ?_;exact⟨GZ (c:=2) rfl,AH.refl _⟩
 |true=>
  rw[q,AC]at hF;cases kids with
  |nil=>
   simp only at hF;subst hF;clear hE hda hbg hok hsm;simp only[Sx.cells,Sx.rows];refine AF func53 ntmps53 results53 Ty.Hi ?_;refine wt q ?_;refine⟨?_,AH.refl _⟩;simp only[AJ,AP,AS,D8,AC,Ae,List.map_nil];exact⟨_,rfl,.inr (.inl ⟨rfl,.inr rfl⟩),rfl,trivial⟩
  |cons x rest=>
   simp only at hF;have q5:(((Sx.rows (x::rest)).length:Int)==0)=false:=(by rw[hlen];simp;omega);have q0:((0:Int)<((Sx.rows (x::rest)).length:Int))=True:=DU (by rw[hlen];simp<;>omega);cases q1:Ax x==1 with
   |false=>
    rw[q1,AL]at hF;subst hF;have hn:Bt (.mk kind value line col text (x::rest))=none:=(by simp only[Bt];rw[AK (by simpa using q),q1];try rfl);rw[hn]at hbg;clear hE hda hok hsm hn;simp only[Sx.cells,MP]at hbg⊢;generalize Sx.rows (x::rest)=R at*;refine AF func53 ntmps53 results53 Ty.Hi ?_;refine wt (uu q q5) ?_;refine uU A5 (hbg _) ?_;refine wt yF ?_;exact⟨GZ (c:=2) rfl,AH.refl _⟩
   |true=>
    rw[q1,AC]at hF;have hn:Bt (.mk kind value line col text (x::rest))=some (Aj x,rest):=(by simp only[Bt];rw[AK (by simpa using q),q1];try rfl);rw[hn]at hbg;clear hn;have r0:=Sx.CL (l:=x::rest) (i:=0) rfl;have hnl:=Sx.len_nodess rest;have hxn:=Sx.I8 x;simp only[Sx.Aw]at hp hwl;have hnum:=λ(k:Int)(h:A1)=>l8 (P:=P) (W:=W) (k:=k) (kind:=kind) (value:=value) (line:=line) (col:=col) (text:=text) (y:=x) (rest:=rest) (by omega) (by omega) (λz hz=>hks z (by simp[hz])) (λz hz=>hkm z (by simp[hz])) (by omega) h;have hwh:=λh:A1=>lJ (P:=P) (W:=W) (kind:=kind) (value:=value) (line:=line) (col:=col) (text:=text) (y:=x) (rest:=rest) (λz hz=>hE z (by simp[hz])) (λz hz=>hks z (by simp[hz])) (by omega) (by omega) h;have hfa:=λh:A1=>lK (P:=P) (W:=W) (kind:=kind) (value:=value) (line:=line) (col:=col) (text:=text) (y:=x) (rest:=rest) (λz hz=>hE z (by simp[hz])) (λz hz=>hks z (by simp[hz])) (by omega) (by omega) h;have hcz:=λ(k:Int)(n:ByteArray)(a:List ByteArray)(h:A1)=>lL (P:=P) (W:=W) (k:=k) (n:=n) (a:=a) (by omega) (by omega) h;simp only[Sx.cells,NK]at hbg hda⊢;have hkc:=λh:A1=>kr (w:=Aj x) h;obtain⟨xk,xv,xl,xc,xt,xs⟩:=x;simp only[Aj,Ax]at hF q1 hkc;simp only[Sx.cells]at r0;generalize hR:Sx.rows (.mk xk xv xl xc xt xs::rest)=R at*;have q1b:(1:Int)<=(R.length:Int):=(by rw[hlen];simp<;>omega);have ht:List.take ((R.length:Int)-1).toNat (List.drop 1 R)=Sx.rows rest:=by
     rw[← hR];simp only[Sx.rows,List.drop_succ_cons,List.drop_zero,List.length_cons];rw[List.take_of_length_le (by omega)]
    have hll:=Sx.B4 rest;cases k0:Fi xt==0 with
    |false=>
     rw[k0,CB,AC]at hF;have e0:decide (0<Fi xt)=true:=by
      rcases X4 xt with h|h|h|h<;>simp[h]at k0⊢
     have hn2:=hnum (Fi xt);rw[hF]at hn2;generalize Fi xt=kw at*;clear hE hok hsm hda hnum hwh hfa hcz hF hks hkm hR;obtain⟨fl,fe⟩:=F;refine AF func53 ntmps53 results53 Ty.Hi ?_;refine wt (uu q q5) ?_;refine uU A5 (hbg _) ?_;replace zz:=Aa yT yF r0 q0;refine wt zz ?_;refine uU (uu r0 q0) (hkc _) ?_;refine wt e0 ?_;refine uU A5 (hn2 _) ?_;refine wt A5 ?_;exact⟨LJ _ _ _ _,AH.refl _⟩
    |true=>
     rw[k0,Av,AL]at hF;have kz:Fi xt=0:=(by simpa using k0);have e0:decide ((0:Int)<0)=false:=rfl;rw[kz]at hkc;clear hnum kz k0;cases e1:A3 xt HR with
     |true=>
      rw[e1,AC]at hF;have e1:(xt.data.toList==[119,104,101,110])=true:=e1;change OT P W rest=F at hF;rw[hF]at hwh;clear hE hok hsm hda hfa hcz hF hks hkm hR;obtain⟨fl,fe⟩:=F;refine AF func53 ntmps53 results53 Ty.Hi ?_;refine wt (uu q q5) ?_;refine uU A5 (hbg _) ?_;replace zz:=Aa yT yF r0 q0;refine wt zz ?_;refine uU (uu r0 q0) (hkc _) ?_;refine wt (uu e0 e1) ?_;refine uU A5 (hwh _) ?_;refine wt A5 ?_;exact⟨LJ _ _ _ _,AH.refl _⟩
     |false=>
      rw[e1,AL]at hF;have e1:(xt.data.toList==[119,104,101,110])=false:=e1;clear hwh;cases e2:A3 xt DV with
      |true=>
       rw[e2,AC]at hF;have e2:(xt.data.toList==[102,111,114,97,108,108])=true:=e2;change OU P W rest=F at hF;rw[hF]at hfa;clear hE hok hsm hda hcz hF hks hkm hR;obtain⟨fl,fe⟩:=F;refine AF func53 ntmps53 results53 Ty.Hi ?_;refine wt (uu q q5) ?_;refine uU A5 (hbg _) ?_;replace zz:=Aa yT yF r0 q0;refine wt zz ?_;refine uU (uu r0 q0) (hkc _) ?_;refine wt (AY e0 e1 e2) ?_;refine uU A5 (hfa _) ?_;refine wt A5 ?_;exact⟨LJ _ _ _ _,AH.refl _⟩
      |false=>
       rw[e2,AL]at hF;have e2:(xt.data.toList==[102,111,114,97,108,108])=false:=e2;clear hfa;cases e3:A3 xt Bo with
       |true=>
        rw[e3,AC]at hF;have e3:(xt.data.toList==[97,110,100])=true:=e3;refine AF func53 ntmps53 results53 Ty.Hi ?_;refine wt (uu q q5) ?_;refine uU A5 (hbg _) ?_;replace zz:=Aa yT yF r0 q0;refine wt zz ?_;refine uU (uu r0 q0) (hkc _) ?_;replace zz:=BO e0 e1 e2 e3 q1b ht hll @CT @Ce;refine wt zz ?_;clear hok hsm hks hkm hda hcz hbg hkc;refine CG (λm S h'=>S 2= .Ag [.A2 2 (A9 P),.A2 6 (Fm.rows W)]/\S 69= .A2 6 (Sx.rows rest)/\S 70= .sc (.int .i64 rest.length)/\ ∃ (k:Nat)(p:PV)(pre:List Ch),S 71= .sc (.int .i64 k)/\S 8=p/\k<=rest.length/\m=rest.length-k/\AH h h'/\Tl h' h.next 15 p (Ae pre)/\pre.length+Sx.Aw (rest.drop k)<=Sx.Aw rest/\
         F=(match F0 (rest.drop k) ⟨P,W⟩with|(b,c)=>bif c==0 then(pre++b,0)else([],c))) rest.length ?_ ?_
        ·simp only[Ty.w,simprocAttr];refine⟨0,_,[],rfl,rfl,by omega,rfl,AH.refl _,Tl.nil,by simp,?_⟩;rw[List.drop_zero, ← hF];exact lN _ _
        ·clear hF;rintro m S h' ⟨g2,g69,g70,k,p,pre,g71,g8,hk,rfl,hg,tl,hpl,hinv⟩;by_cases hlt:k<rest.length
         ·have hd:decide ((k:Int)<(rest.length:Int))=true:=(by simp;omega);have w7:IntKind.i64.wrap ((k:Int)+1)=k+1:=(by rw[BZ (by omega) (by omega)]);obtain⟨x,hx⟩: ∃ x,rest[k]? =some x:=⟨_,List.getElem?_eq_getElem hlt⟩;have hr:=Sx.CL hx;have hxm:=List.mem_of_getElem? hx;have hxe:=hE x (by simp[hxm]);have hxl:=Sx.NN hxm;have hxn:=QJ _ x (AG _) ⟨P,W⟩;have hce:=hxe P W (by omega) (by omega);rw[Cd hx]at hinv hpl;simp only[Sx.Aw]at hpl;rw[F0.eq_def]at hinv;simp only at hinv;generalize Cp x ⟨P,W⟩=A at*;obtain⟨a,c⟩:=A;simp only at hinv hce hxn;have hxok:=hce;clear hE hxe hxm hxl;obtain⟨yk,yv,yl,yc,yt,ys⟩:=x;simp only[Sx.cells]at hce hr;cases z1:(c==0)with
          |false=>
           simp only[z1,AL]at hinv;subst hinv;rw[KF z1]at hce;simp only[Ao]at hce;replace zz:=Ah g2 g69 g70 g71 g8 hd hr;refine wt zz ?_;replace zz:=Al g2 g69 g70 g71 g8 hr;refine uU zz (hce _) ?_;replace zz:=Al g2 g69 g70 g71 g8 @B1;refine wt zz ?_;exact⟨GZ z1,(hg.new _).set hg.le _⟩
          |true=>
           simp only[z1,AC]at hinv;rw[KG z1]at hce;have hg2:AH h ((h'.new (.arr 6 [[.sc (.int .i64 0),.sc (.int .i64 0),.sc (.int .i64 0),.sc (.int .i64 0),.sc (.string ⟨#[]⟩),.sc (.slice none 0 0)]])).set h'.next (.arr 6 [[.sc (.int .i64 yk),.sc (.int .i64 yv),.sc (.int .i64 yl),.sc (.int .i64 yc),A4 yt,.A2 6 (Sx.rows ys)]])):=(hg.new _).set hg.le _;have tl2:=tl.up (h':=((h'.new (.arr 6 [[.sc (.int .i64 0),.sc (.int .i64 0),.sc (.int .i64 0),.sc (.int .i64 0),.sc (.string ⟨#[]⟩),.sc (.slice none 0 0)]])).set h'.next (.arr 6 [[.sc (.int .i64 yk),.sc (.int .i64 yv),.sc (.int .i64 yl),.sc (.int .i64 yc),A4 yt,.A2 6 (Sx.rows ys)]]))) (by simp[A1.new,A1.set]) λj _ hj=>by
            simp only[A1.set,A1.new];rw[A8 (by omega),A8 (by omega)]
           obtain⟨H,t1,t2,t3,t4,t5⟩:=tl2.tail;have hpr:(Ae pre).length=pre.length:=(by simp[Ae]);have hpa:(Ae a).length=a.length:=(by simp[Ae]);have hb:((Ae pre).length+(Ae a).length)*304<=140737488355328:=(by omega);replace zz:=Ah g2 g69 g70 g71 g8 hd hr;refine wt zz ?_;replace zz:=Al g2 g69 g70 g71 g8 hr;refine uU zz (hce _) ?_;replace zz:=BT g2 g69 g70 g71 g8 w7 t1 t2;(repeat'(first|refine cK ?_|refine nK ?_|refine Af λK hK=>?_|refine uR zz ?_|refine uQ zz λK hK=>?_|refine uK ?_|refine C2 zz ?_|(refine uN hK ?_;clear hK)|(rw[AK];rotate_left 1;omega;simp only[Ty.w,simprocAttr,g2,g69,g70,g71,g8,w7,t1,t2])|apply zI));have t3':H.next=h'.next+1:=by rw[t3];simp[A1.new,A1.set]
           have hkp:=t5 h ⟨hg2.le,hg2.B6⟩ (AG _);have hgH:AH h H:=⟨hkp.1,hkp.2⟩;have hap:Ae pre++Ae a=Ae (pre++a):=(by simp[Ae]);rw[hap];refine⟨rest.length-(k+1),by omega,k+1,.own H.next 0 ((Ae pre).length+(Ae a).length),pre++a,by simp,by rw[t3'],by omega,rfl,hgH.new _,Tl.grow hkp.1 (by simp[Ae]),by simp only[List.length_append];omega,?_⟩;rw[hinv];generalize F0 (List.drop (k+1) rest) ⟨P,W⟩=B;obtain⟨b,c'⟩:=B;cases hq:c'==0 with
           |false=>simp only[hq,AL]
           |true=>simp only[hq,AC,D8,List.append_assoc]
         ·have hd:decide ((k:Int)<(rest.length:Int))=false:=(by simp;omega);rw[List.drop_eq_nil_of_le (by omega),F0]at hinv;simp only[D8,AC,List.append_nil]at hinv;replace zz:=Al g2 g69 g70 g71 g8 hd;refine wt zz ?_;subst hinv;refine⟨?_,hg⟩;have h1:=tl.frzR (AG _) (X1 h.next h' pre);have e2:AS 0= .sc .nilIface:=rfl;simp only[e2];unfold AJ;refine⟨_,rfl,?_⟩;unfold AP;refine⟨h1,?_⟩;unfold AP;exact⟨by simp only[AJ],by simp only[AP]⟩
       |false=>
        rw[e3,AL]at hF;have e3:(xt.data.toList==[97,110,100])=false:=e3;cases e4:A3 xt DR with
        |true=>
         rw[e4,AC]at hF;have e4:(xt.data.toList==[110,111,116])=true:=e4;clear hda hE;cases q6:((R.length:Int) !=2)with
         |true=>
          have e:F=([],2):=by
           rw[← hF]
           match rest,q6,hlen with
           |[],_,_=>rfl
           |[_],q,hlen=>rw[hlen]at q;simp at q
           |_::_::_,_,_=>rfl
          subst e;clear hks hkm hok hsm hcz hF hR ht;refine AF func53 ntmps53 results53 Ty.Hi ?_;refine wt (uu q q5) ?_;refine uU A5 (hbg _) ?_;replace zz:=Aa yT yF r0 q0;refine wt zz ?_;refine uU (uu r0 q0) (hkc _) ?_;replace zz:=Al e0 e1 e2 e3 e4 q6;refine wt zz ?_;exact⟨GZ (c:=2) rfl,AH.refl _⟩
         |false=>
          obtain⟨a,rfl⟩: ∃ a,rest=[a]:=by
           match rest,q6,hlen with
           |[],q,hlen=>rw[hlen]at q;simp at q
           |[a],_,_=>exact⟨a,rfl⟩
           |_::_::l,q,hlen=>rw[hlen]at q;simp at q;omega
          have ca:=λh:A1=>Sk (hks a (by simp)) (hkm a (by simp)) h;have r1:=Sx.CL (l:=[.mk xk xv xl xc xt xs,a]) (i:=1) rfl;have d1:((1:Int)<(R.length:Int))=True:=DU (by rw[hlen];simp);rw[hR]at r1;clear hks hkm hok hsm hR ht;simp only at hF;unfold J6 at hF;generalize Em a=A at hF ca;obtain⟨an,aa,ac⟩:=A;obtain⟨ak,av,al,acc,at_,as_⟩:=a;simp only[M8,Sx.cells]at hF ca r1;cases z1:(ac==0)with
          |false=>
           rw[z1,AL]at hF;subst hF;rw[KF z1]at ca;clear hcz;simp only[Ao]at ca;refine AF func53 ntmps53 results53 Ty.Hi ?_;refine wt (uu q q5) ?_;refine uU A5 (hbg _) ?_;replace zz:=Aa yT yF r0 q0;refine wt zz ?_;refine uU (uu r0 q0) (hkc _) ?_;replace zz:=Ab yT yF r0 q0 e0 e1 e2 e3 e4 q6 r1 d1;refine wt zz ?_;refine uU (uu r1 d1) (ca _) ?_;refine wt (AY @B1 yF yT) ?_;exact⟨GZ z1,AH.refl _⟩
          |true=>
           rw[z1,AC]at hF;subst hF;rw[KG z1]at ca;have hcz:=hcz 2 an aa;generalize FG ⟨P,W⟩ 2 an aa By=C at*;obtain⟨ck,cp,⟨gop,gna,gar,gpa,gex,gki⟩,cn,cas,⟨eop,ena,en,ear,eki⟩⟩:=C;simp only[CZ,Fm.cells,Ex.cells,List.cons_append,List.nil_append]at hcz;refine AF func53 ntmps53 results53 Ty.Hi ?_;refine wt (uu q q5) ?_;refine uU A5 (hbg _) ?_;replace zz:=Aa yT yF r0 q0;refine wt zz ?_;refine uU (uu r0 q0) (hkc _) ?_;replace zz:=Ab yT yF r0 q0 e0 e1 e2 e3 e4 q6 r1 d1;refine wt zz ?_;refine uU (uu r1 d1) (ca _) ?_;refine wt (AY @B1 yF yT) ?_;refine uU (uu r1 d1) (hcz _) ?_;refine wt (uu r1 d1) ?_;exact⟨LJ _ _ [_] 0,AH.refl _⟩
        |false=>
         rw[e4,AL]at hF;have e4:(xt.data.toList==[110,111,116])=false:=e4;clear hE hks hkm hok hsm;unfold J6 at hF;generalize Em (.mk kind value line col text (.mk xk xv xl xc xt xs::rest))=A at hF hda;obtain⟨an,aa,ac⟩:=A;simp only[M8]at hF hda;have ca:=hda;clear hda;clear hR;cases z1:(ac==0)with
         |false=>
          rw[z1,AL]at hF;subst hF;rw[KF z1]at ca;clear hcz;simp only[Ao]at ca;refine AF func53 ntmps53 results53 Ty.Hi ?_;refine wt (uu q q5) ?_;refine uU A5 (hbg _) ?_;replace zz:=Aa yT yF r0 q0;refine wt zz ?_;refine uU (uu r0 q0) (hkc _) ?_;replace zz:=BO yT yF r0 q0 e0 e1 e2 e3 e4;refine wt zz ?_;refine uU A5 (ca _) ?_;refine wt (AY @B1 yF yT) ?_;exact⟨GZ z1,AH.refl _⟩
         |true=>
          rw[z1,AC]at hF;subst hF;rw[KG z1]at ca;have hcz:=hcz 1 an aa;generalize FG ⟨P,W⟩ 1 an aa By=C at*;obtain⟨ck,cp,⟨gop,gna,gar,gpa,gex,gki⟩,cn,cas,⟨eop,ena,en,ear,eki⟩⟩:=C;simp only[CZ,Fm.cells,Ex.cells,List.cons_append,List.nil_append]at hcz;refine AF func53 ntmps53 results53 Ty.Hi ?_;refine wt (uu q q5) ?_;refine uU A5 (hbg _) ?_;replace zz:=Aa yT yF r0 q0;refine wt zz ?_;refine uU (uu r0 q0) (hkc _) ?_;replace zz:=BO yT yF r0 q0 e0 e1 e2 e3 e4;refine wt zz ?_;refine uU A5 (ca _) ?_;refine wt (AY @B1 yF yT) ?_;refine uU A5 (hcz _) ?_;refine wt A5 ?_;exact⟨LJ _ _ [_] 0,AH.refl _⟩
theorem X7: ∀ (n:Nat)(x:Sx),x.nodes<=n->x.ok->x.small->NB x
 |0,x,h,_,_=>by have:=Sx.I8 x;omega
 |n+1,.mk kind value line col text kids,h,hok,hsm=>by
  have hks: ∀ z∈kids,z.ok:=by simp only[Sx.ok]at hok;exact Sx.Bz.1 hok.2.2.2.2
  have hkm: ∀ z∈kids,z.small:=by simp only[Sx.small]at hsm;exact Sx.Eh.1 hsm.2
  refine lO (λe he=>X7 n e ?_ (hks e he) (hkm e he)) hok hsm;have:=Sx.NN he;simp only[Sx.nodes]at h;omega
theorem lP{x:Sx}(hok:x.ok)(hsm:x.small):NB x:=X7 _ x (AG _) hok hsm
set_option maxHeartbeats 2000000
structure Dv.KZ(S:Dv)(n:Nat):Prop where
 params: ∀ p∈S.params,p.ok
 Qo:S.params.length+n<=1048576
 Hb: ∀ f∈S.Hb,f.ok/\f.small
 Qp:S.Hb.length+n<=1048576
theorem Dv.KZ.mono{S:Dv}{n m:Nat}(h:S.KZ n)(hm:m<=n):S.KZ m:=⟨h.params,by have:=h.Qo;omega,h.Hb,by have:=h.Qp;omega⟩
theorem X8:Bw.ok/\Bw.small:=KA (by decide) (by decide) (by simp) (by simp) (by simp) (by simp) (by simp) (by simp) (by simp) (by simp)
theorem lQ{l:List Fm}(h: ∀ f∈l,f.ok/\f.small)(hl:l.length<=1048576):(QD l).ok/\(QD l).small:=by
 match l,h,hl with
 |[],_,_=>exact X8
 |[f],h,_=>exact h f (by simp)
 |f::g::l,h,hl=>exact KA (by decide) (by decide) (by simp) (by simp) (by simp) (by simp) (by simp) (by simp) hl h
theorem XA{S:Dv}{m:Nat}(hS:S.KZ m){k:Int}{n:ByteArray}{a:List ByteArray}{v:Ex}(hk:0<=k/\k<=5)(hn:n.size<=AI)(ha:a.length<=1048576)(has: ∀ s∈a,s.size<=AI)(hv:v.ok/\v.small):(FG S k n a v).ok/\FV (FG S k n a v):=by
 have hc:=lQ hS.Hb (by have:=hS.Qp;omega);have hp:=hS.Qo;refine⟨⟨⟨by simp only[FG,AI];omega,hS.params⟩,hc.1,⟨by simp only[FG,AI];omega,has⟩,hv.1,hn,by simp only[FG];omega⟩,⟨hc.2,hv.2,by simp only[FG];omega,ha⟩⟩
theorem XB{x:Sx}(hok:x.ok)(hsm:x.small):(Em x).1.size<=AI/\(Em x).2.1.length<=1048576/\ ∀ s∈(Em x).2.1,s.size<=AI:=by
 unfold Em;cases hD:Bt x with
 |none=>exact⟨by decide,by simp,by simp⟩
 |some wl=>
  obtain⟨w,l⟩:=wl;obtain⟨h1,h2,h3⟩:=LI hok hsm hD;have ht:=O5 h3;simp only;cases As w with
  |false=>exact⟨(by decide:(⟨#[]⟩:ByteArray).size<=AI),by simp,by simp⟩
  |true=>
   simp only[AC];cases(CN l).2==0 with
   |false=>exact⟨(by decide:(⟨#[]⟩:ByteArray).size<=AI),by simp,by simp⟩
   |true=>exact⟨h1,by simp only[AC];omega,ht.1⟩
theorem lR{x:Sx}(hok:x.ok):(Gz x).1.ok/\(Gz x).1.small:=by
 unfold Gz;split
 ·rename_i h;split
  ·split
   ·exact Pw x hok (Kx h)
   ·exact J1
  ·exact J1
 ·exact J1
theorem XC{S:Dv}{m:Nat}(hS:S.KZ m){k:Int}(hk:0<=k/\k<=5){a:Sx}(hok:a.ok)(hsm:a.small): ∀ c∈(J6 S k a).1,c.ok/\FV c:=by
 unfold J6;obtain⟨h1,h2,h3⟩:=XB hok hsm;cases(Em a).2.2==0 with
 |false=>simp
 |true=>
  intro c hc;simp only[AC,List.mem_singleton]at hc;subst hc;exact XA hS hk h1 h2 h3 J1
theorem lS{S:Dv}{m:Nat}(hS:S.KZ m){k:Int}(hk:0<=k/\k<=5): ∀ {l:List Sx},(∀ x∈l,x.ok)->(∀ x∈l,x.small)-> ∀ c∈(GW S k l).1,c.ok/\FV c
 |[],_,_=>by simp[GW]
 |[_],_,_=>by simp[GW]
 |[a,e],hok,hsm=>by
  obtain⟨h1,h2,h3⟩:=XB (hok a (by simp)) (hsm a (by simp));have hv:=lR (hok e (by simp));simp only[GW];cases(Em a).2.2==0 with
  |false=>simp
  |true=>
   cases(Gz e).2==0 with
   |false=>simp
   |true=>
    intro c hc;simp only[AC,List.mem_singleton]at hc;subst hc;exact XA hS hk h1 h2 h3 hv
 |_::_::_::_,_,_=>by simp[GW]
theorem XD{S:Dv}: ∀ l:List Sx,(∀ x∈l, ∀ c∈(Cp x S).1,c.ok/\FV c)-> ∀ c∈(F0 l S).1,c.ok/\FV c
 |[],_=>by rw[F0];simp
 |x::l,hx=>by
  have ih:=XD l (λy hy=>hx y (by simp[hy]));have h1:=hx x (by simp);rw[F0.eq_def];simp only;generalize Cp x S=A at*;obtain⟨a,c⟩:=A;simp only at h1⊢;cases c==0 with
  |false=>simp
  |true=>
   simp only[AC];generalize F0 l S=B at*;obtain⟨b,c'⟩:=B;simp only at ih⊢;cases c'==0 with
   |false=>simp
   |true=>
    simp only[AC,List.mem_append];rintro d (hd|hd)
    ·exact h1 d hd
    ·exact ih d hd
theorem Sn: ∀ (n:Nat)(x:Sx),x.nodes<=n-> ∀ S:Dv,x.ok->x.small->S.KZ x.nodes-> ∀ c∈(Cp x S).1,c.ok/\FV c
 |0,x,h,_=>by have:=Sx.I8 x;omega
 |n+1,.mk kind v l c t kids,h,S=>by
  intro hok hsm hS;have ih:=Sn n;have hks: ∀ z∈kids,z.ok:=by simp only[Sx.ok]at hok;exact Sx.Bz.1 hok.2.2.2.2
  have hkm: ∀ z∈kids,z.small:=by simp only[Sx.small]at hsm;exact Sx.Eh.1 hsm.2
  simp only[Sx.nodes]at h hS;rw[Cp.eq_def];simp only;cases kind==3 with
  |false=>simp
  |true=>
   simp only[AC];cases kids with
   |nil=>simp
   |cons x rest=>
    have hx:=Sx.I8 x;simp only[Sx.Aw]at h hS;simp only;cases Ax x==1 with
    |false=>simp
    |true=>
     simp only[AC];cases hk0:!(Fi (Aj x)==0)with
     |true=>
      simp only[AC];exact lS (k:=Fi (Aj x)) hS (by rcases X4 (Aj x)with h|h|h|h<;>omega) (λz hz=>hks z (by simp[hz])) (λz hz=>hkm z (by simp[hz]))
     |false=>
      simp only[AL];cases A3 (Aj x) HR with
      |true=>
       simp only[AC]
       match rest,h,hS,hks,hkm with
       |[],_,_,_,_=>simp
       |[_],_,_,_,_=>simp
       |[f,e],h,hS,hks,hkm=>
        simp only[Sx.Aw]at h hS;simp only;have hfn:=Sx.I8 f;have hf:=Se (hks f (by simp));cases(Co f).2==0 with
        |false=>simp
        |true=>
         simp only[AC];refine ih e (by omega) _ (hks e (by simp)) (hkm e (by simp)) ⟨hS.params,?_,?_,?_⟩
         ·have:=hS.Qo;simp only;omega
         ·intro g hg;simp only[List.mem_append,List.mem_singleton]at hg;rcases hg with hg|rfl
          ·exact hS.Hb g hg
          ·exact hf
         ·have:=hS.Qp;simp only[List.length_append,List.length_cons,List.length_nil];omega
       |_::_::_::_,_,_,_,_=>simp
      |false=>
       simp only[AL];cases A3 (Aj x) DV with
       |true=>
        simp only[AC]
        match rest,h,hS,hks,hkm with
        |[],_,_,_,_=>simp
        |[_],_,_,_,_=>simp
        |[p,e],h,hS,hks,hkm=>
         simp only[Sx.Aw]at h hS;simp only;cases Ax p==3 with
         |false=>simp
         |true=>
          simp only[AC];have hpo:=hks p (by simp);obtain⟨pk,pv,pl,pc,pt,ps⟩:=p;simp only[Sx.ok]at hpo;simp only[C9];simp only[Sx.nodes]at h hS;have hpl:=Sd true ps.length ps (AG _) (Sx.Bz.1 hpo.2.2.2.2) [] [] (by simp) (by simp);simp only[List.length_nil,Bf]at hpl;have hln:=Sx.len_nodess ps;change (∀ p∈(C5 true ps).1,p.ok)/\(C5 true ps).1.length<=ps.length at hpl;cases(C5 true ps).2==0 with
          |false=>simp
          |true=>
           simp only[AC];refine ih e (by omega) _ (hks e (by simp)) (hkm e (by simp)) ⟨?_,?_,hS.Hb,?_⟩
           ·intro g hg;simp only[List.mem_append]at hg;rcases hg with hg|hg
            ·exact hS.params g hg
            ·exact hpl.1 g hg
           ·have:=hS.Qo;simp only[List.length_append];omega
           ·have:=hS.Qp;simp only;omega
        |_::_::_::_,_,_,_,_=>simp
       |false=>
        simp only[AL];cases A3 (Aj x) Bo with
        |true=>
         simp only[AC];refine XD rest λy hy=>?_;have:=Sx.NN hy;exact ih y (by omega) S (hks y (by simp[hy])) (hkm y (by simp[hy])) (hS.mono (by omega))
        |false=>
         simp only[AL];cases A3 (Aj x) DR with
         |true=>
          simp only[AC]
          match rest,hks,hkm with
          |[],_,_=>simp
          |[a],hks,hkm=>exact XC hS (by omega) (hks a (by simp)) (hkm a (by simp))
          |_::_::_,_,_=>simp
         |false=>
          simp only[AL];exact XC hS (by omega) hok hsm
theorem XE:(Sx.mk 0 0 0 0 ⟨#[]⟩ []).ok:=⟨⟨by decide,by decide⟩,⟨by decide,by decide⟩,by decide,by simp,trivial⟩
theorem OV{f:Fm}(h:f.ok)(hs:f.small):(Bb f).ok:=by
 unfold Bb;cases hv:Bh f with
 |false=>exact XE
 |true=>exact Wh f h hs (J5 hv)
theorem lT{e:Ex}(h:e.ok)(hs:e.small):(J7 e).ok:=by
 unfold J7;cases Ea e with
 |false=>exact XE
 |true=>exact Rq e h hs
theorem XF{a b:Sx}(ha:a.ok)(hb:b.ok):(AE [a,b]).ok:=GE (by simp[AI]) ⟨ha,hb,trivial⟩
theorem So{a b c:Sx}(ha:a.ok)(hb:b.ok)(hc:c.ok):(AE [a,b,c]).ok:=GE (by simp[AI]) ⟨ha,hb,hc,trivial⟩
theorem lU(k:Int):(A7 (Jb k)).ok:=by
 unfold Jb;cases k==3<;>cases k==4<;>exact D5 (by decide)
theorem lV{c:Ch}(h:c.ok)(hs:FV c):(IU c).ok:=by
 have hw:(Cu c.name c.args).ok:=Pt h.name hs.args h.args.2;unfold IU;cases c.kind==1 with
 |true=>exact hw
 |false=>
  simp only[AL];cases c.kind==2 with
  |true=>exact XF (D5 (by decide)) hw
  |false=>
   simp only[AL];cases c.kind==3||c.kind==4||c.kind==5 with
   |true=>exact So (lU _) hw (lT h.value hs.value)
   |false=>exact hw
theorem lW{c:Ch}(h:c.ok)(hs:FV c):(IV c).ok:=by
 have h1:=lV h hs;unfold IV;cases C3 c.cond with
 |true=>exact h1
 |false=>exact So (D5 (by decide)) (OV h.cond hs.cond) h1
theorem lX{c:Ch}(h:c.ok)(hs:FV c):(F3 c).ok:=by
 have h2:=lW h hs;unfold F3;cases c.params.isEmpty with
 |true=>exact h2
 |false=>exact So (D5 (by decide)) (GE (by rw[Gy];have:=hs.params;unfold AI;omega) (L9 _ h.params.2)) h2
theorem QK{l:List Ch}(hl:l.length<=1048576)(h: ∀ c∈l,c.ok/\FV c):(CS l).ok:=by
 unfold CS;cases l.isEmpty with
 |true=>exact GE (by simp) trivial
 |false=>
  refine GE (by simp only[List.length_cons,List.length_map,AI];omega) ⟨D5 (by decide),?_⟩;rw[Sx.Bz];intro k hk;rw[List.mem_map]at hk;obtain⟨c,hc,rfl⟩:=hk;exact lX (h c hc).1 (h c hc).2
theorem M9{s w:ByteArray}(h:As s=true)(hw:w∈HI):A3 s w=false:=by
 unfold As at h;simp only[AV,EF,List.any_eq_false]at h;simpa using h.2 w hw
theorem XG{n:ByteArray}{a:List ByteArray}(hn:As n=true)(ha:a.all CH=true):Em (Cu n a)=(n,a,0):=by
 have e:Bt (Cu n a)=some (n,a.map A7):=rfl;unfold Em;rw[e];simp only[hn,AC,O4 a ha,D8]
theorem XH{S:Dv}{k:Int}{n:ByteArray}{a:List ByteArray}(hn:As n=true)(ha:a.all CH=true):J6 S k (Cu n a)=([FG S k n a By],0):=by
 unfold J6;rw[XG hn ha];try rfl
theorem lY{n:ByteArray}(hn:As n=true):Fi n=0:=by
 unfold Fi;rw[M9 hn (w:=JY) (by simp[HI,JY]),M9 hn (w:=JZ) (by simp[HI,JZ]),M9 hn (w:=Ja) (by simp[HI,Ja])];try rfl
theorem lZ{S:Dv}{n:ByteArray}{a:List ByteArray}(hn:As n=true)(ha:a.all CH=true):Cp (Cu n a) S=([FG S 1 n a By],0):=by
 have e:Cu n a= .mk 3 0 0 0 ⟨#[]⟩ (A7 n::a.map A7):=rfl;have ho:=XH (S:=S) (k:=1) hn ha;rw[e]at ho⊢;rw[Cp.eq_def];have k1:Ax (A7 n)=1:=rfl;have k2:Aj (A7 n)=n:=rfl;simp only[k1,k2,lY hn,M9 hn (w:=HR) (by simp[HI,HR]),M9 hn (w:=DV) (by simp[HI,DV]),M9 hn (w:=Bo) (by simp[HI,Bo]),M9 hn (w:=DR) (by simp[HI,DR]),D8,AC,AL,Av];exact ho
theorem lb{S:Dv}(x:Sx):Cp (AE [A7 DR,x]) S=J6 S 2 x:=by
 have e:AE [A7 DR,x]= .mk 3 0 0 0 ⟨#[]⟩ [A7 DR,x]:=rfl;rw[e,Cp.eq_def];try rfl
theorem ld{S:Dv}{k:Int}(hk:k=3\/k=4\/k=5)(x y:Sx):Cp (AE [A7 (Jb k),x,y]) S=GW S k [x,y]:=by
 have e:AE [A7 (Jb k),x,y]= .mk 3 0 0 0 ⟨#[]⟩ [A7 (Jb k),x,y]:=rfl;rw[e,Cp.eq_def];rcases hk with rfl|rfl|rfl<;>rfl
theorem lf{S:Dv}(f x:Sx):Cp (AE [A7 HR,f,x]) S=bif (Co f).2==0 then Cp x ⟨S.params,S.Hb++[(Co f).1]⟩else([],(Co f).2):=by
 have e:AE [A7 HR,f,x]= .mk 3 0 0 0 ⟨#[]⟩ [A7 HR,f,x]:=rfl;rw[e,Cp.eq_def];try rfl
theorem lg{S:Dv}(l:List Sx)(x:Sx):Cp (AE [A7 DV,AE l,x]) S=bif (C5 true l).2==0 then Cp x ⟨S.params++(C5 true l).1,S.Hb⟩else([],(C5 true l).2):=by
 have e:AE [A7 DV,AE l,x]= .mk 3 0 0 0 ⟨#[]⟩ [A7 DV,AE l,x]:=rfl;rw[e,Cp.eq_def];try rfl
theorem lh{S:Dv}(l:List Sx):Cp (AE (A7 Bo::l)) S=F0 l S:=by
 have e:AE (A7 Bo::l)= .mk 3 0 0 0 ⟨#[]⟩ (A7 Bo::l):=rfl;rw[e,Cp.eq_def];try rfl
theorem XI{e:Ex}(h:e.same By=true):e=By:=by
 obtain⟨op,na,n,a,k⟩:=e;simp only[By,Ex.same,AV,Eg]at h;obtain⟨⟨⟨⟨h1,h2⟩,h3⟩,h4⟩,h5⟩:=h;have e1:=E9 h1;have e2:=E9 h2;have e4:a=[]:=by cases a<;>simp_all [FO]
 have e5:k=[]:=by cases k<;>simp_all [Ex.DM]
 rw[e1,e2,h3,e4,e5];try rfl
theorem LK{f:Fm}(h:C3 f=true):f=Bw:=by
 obtain⟨op,na,a,p,e,k⟩:=f;simp only[C3,Bw,Fm.same,AV]at h;obtain⟨⟨⟨⟨⟨h1,h2⟩,h3⟩,h4⟩,h5⟩,h6⟩:=h;have e1:=E9 h1;have e2:=E9 h2;have e3:a=[]:=by cases a<;>simp_all [FO]
 have e4:p=[]:=by cases p<;>simp_all [Di]
 have e5:e=[]:=by cases e<;>simp_all [Ex.DM]
 have e6:k=[]:=by cases k<;>simp_all [Fm.DM]
 rw[e1,e2,e3,e4,e5,e6];try rfl
theorem XJ{e:Ex}(h:Ea e=true):FD e=true:=by
 unfold Ea at h;simp only[AV]at h;exact O2 e 0 0 h.1
theorem ln{c:Ch}(h:CA c=true)(S:Dv):Cp (IU c) S=([FG S c.kind c.name c.args c.value],0):=by
 unfold CA at h;simp only[AV]at h;obtain⟨⟨⟨⟨hn,ha⟩,hv⟩,_⟩,_⟩:=h;unfold IU;cases k1:c.kind==1 with
 |true=>
  rw[k1]at hv;have hz:=XI (by simpa using hv);have hk:c.kind=1:=by simpa using k1
  rw[AC,lZ hn ha,hz,hk]
 |false=>
  rw[k1]at hv;simp only[AL,HZ]at hv⊢;cases k2:c.kind==2 with
  |true=>
   rw[k2]at hv;have hz:=XI (by simpa using hv);have hk:c.kind=2:=(by simpa using k2);rw[AC,lb,XH hn ha,hz,hk]
  |false=>
   rw[k2]at hv;simp only[AL]at hv⊢;cases k3:c.kind==3||c.kind==4||c.kind==5 with
   |false=>rw[k3]at hv;simp at hv
   |true=>
    rw[k3,AC]at hv;have hk:c.kind=3\/c.kind=4\/c.kind=5:=by
     simp only[ED,Eg]at k3;omega
    have hx:J7 c.value=BI c.value:=(by unfold J7;rw[hv];try rfl);rw[AC,ld hk,hx];simp only[GW];rw[XG hn ha,iS hv (XJ hv)];try rfl
theorem lp{c:Ch}(h:CA c=true):Cp (F3 c) ⟨[],[]⟩=([c],0):=by
 have h1:=ln h;unfold CA at h;simp only[AV]at h;obtain⟨⟨_,hf⟩,hp⟩:=h;have h2: ∀ P:List Pm,Cp (IV c) ⟨P,[]⟩=([⟨c.kind,P,c.cond,c.name,c.args,c.value⟩],0):=by
  intro P;unfold IV;cases q:C3 c.cond with
  |true=>
   rw[AC,h1];have:=LK q;simp only[FG,QD,this]
  |false=>
   rw[q,HZ]at hf;have hx:Bb c.cond=Ap c.cond:=(by unfold Bb;rw[hf];try rfl);rw[AL,lf,hx,OJ hf,h1];try rfl
 unfold F3;cases q:c.params.isEmpty with
 |true=>
  rw[AC,h2];have:c.params=[]:=List.isEmpty_iff.1 q;obtain⟨kd,P,cd,n,a,v⟩:=c;simp only at this;rw[this]
 |false=>
  rw[AL,lg,S7 (l:=c.params) ?_]
  ·simp only[D8,AC,List.nil_append];rw[h2]
  ·rw [List.all_eq_true]at hp⊢;intro x hx;have:=hp x hx;unfold BN at this;unfold Hl Gj;rw[Ym];simpa using this
theorem XK: ∀ l:List Ch,l.all CA=true->F0 (l.map F3) ⟨[],[]⟩=(l,0)
 |[],_=>by rw[List.map_nil,F0]
 |c::l,h=>by
  simp only[List.all_cons,AV]at h;rw[List.map_cons,F0.eq_def];simp only[lp h.1,XK l h.2];rfl
theorem lq{l:List Ch}(h:l.all CA=true):Cp (CS l) ⟨[],[]⟩=(l,0):=by
 unfold CS;cases l with
 |nil=>rfl
 |cons c l=>exact(lh _).trans (XK _ h)
theorem Sp{l:List Ch}(h:GX l=true):En (CS l)=(l,0):=by
 have h':=h;unfold GX at h';simp only[AV]at h';unfold En;rw[AK h'.2,lq h'.1];simp only[AO,h]
def VS(x:Sx):Prop:=IL x=true/\x.depth<=32/\x.nodes<=4096
theorem Je{x:Sx}:(CM x 0 0).1=true↔VS x:=by
 have:=(JQ x 0 0 (by omega) (by omega)).1;simpa[VS]using this
theorem XL{k:Sx}: ∀ {l:List Sx},J0 l=true->k∈l->IL k=true
 |x::l,h,hk=>by
  simp only[J0,AV]at h;rcases List.mem_cons.1 hk with rfl|hk
  ·exact h.1
  ·exact XL h.2 hk
theorem XM{k:Sx}: ∀ {l:List Sx}(n:Nat),k∈l->k.depth<=Sx.F8 n l
 |x::l,n,hk=>by
  simp only[Sx.F8];rcases List.mem_cons.1 hk with rfl|hk
  ·exact ES (Nat.le_max_right _ _) (Sx.TQ l _)
  ·exact XM _ hk
theorem Gl{l:List Sx}(h:VS (AE l)){k:Sx}(hk:k∈l):VS k:=by
 obtain⟨h1,h2,h3⟩:=h;simp only[AE,IL,AV]at h1;simp only[AE,Sx.depth]at h2;simp only[AE,Sx.nodes]at h3;have n1:=Sx.NN hk;have d1:=XM 0 hk;refine⟨?_,?_,by omega⟩
 ·simp at h1;exact XL h1 hk
 ·simp only[AO]at h2;omega
theorem lr{e:Ex}(hs:FD e=true)(h:VS (BI e)):Ea e=true:=by
 have hn:(BI e).nodes<=AI:=by have:=h.2.2;unfold AI;omega
 rw[jT hn,hs, ← Ms hn,Je.2 h];try rfl
theorem Sq{f:Fm}(hs:DH f=true)(h:VS (Ap f)):Bh f=true:=by
 have hn:(Ap f).nodes<=AI:=by have:=h.2.2;unfold AI;omega
 rw[kj hn,hs, ← Ms hn,Je.2 h];try rfl
theorem XN(c:Ch):DH (IW c)=(As c.name&&c.args.all CH):=by
 simp[IW,DH,FT,Dz,Ez,Hp,K3]
theorem lz(c:Ch):Ap (IW c)=Cu c.name c.args:=by
 simp[IW,Ap,Hp]
theorem MA{f:Fm}(h:DH f=true):IX f=C3 f:=by
 cases ha:C3 f with
 |true=>rw[LK ha];try rfl
 |false=>
  cases ht:IX f with
  |false=>rfl
  |true=>
   exfalso;obtain⟨op,na,a,p,e,k⟩:=f;simp only[IX,AV]at ht;have e1:=E9 ht.1;have e2:k=[]:=by
    have:=ht.2;simp only[Fm.B4,Eg]at this;cases k with
    |nil=>rfl
    |cons x k=>simp only[List.length_cons]at this;omega
   subst e1 e2;simp only[DH,FT,AV]at h;have hs:Dz Bo ([]:List Fm).length=some (0,0,false):=rfl;rw[hs]at h;have ht2:Ez Bo na a=(HL na&&a.isEmpty):=rfl;simp only[ht2,AV,Gq,Bg,List.isEmpty_iff]at h;obtain⟨⟨⟨⟨⟨⟨⟨h1,h2⟩,h3⟩,h4⟩,h5⟩,h6⟩,h7⟩,h8⟩:=h;have e3:e=[]:=List.length_eq_zero_iff.1 h3;have e4:na=⟨#[]⟩:=E9 h1;subst h2 e3 h5 e4;simp[C3,Bw,Fm.same,Hp,FO,Di,Ex.DM,Fm.DM]at ha
theorem XO(p:Pm):BN true p=IN true p:=by
 unfold BN IN Gj;simp only[AC,AO];rw[Ym]
theorem m7{c:Ch}(h:CA c=true):1<=c.kind/\c.kind<=5:=by
 unfold CA at h;simp only[AV]at h;obtain⟨⟨⟨_,hv⟩,_⟩,_⟩:=h;cases k1:c.kind==1||c.kind==2 with
 |true=>
  simp only[ED,Eg]at k1;omega
 |false=>
  rw[k1,AL]at hv;cases k3:c.kind==3||c.kind==4||c.kind==5 with
  |false=>rw[k3]at hv;simp at hv
  |true=>
   simp only[ED,Eg]at k3;omega
theorem XP{c:Ch}(h:CA c=true):Jc c=true/\F3 c=N6 c:=by
 have hk:=m7 h;unfold CA at h;simp only[AV]at h;obtain⟨⟨⟨⟨hn,ha⟩,hv⟩,hf⟩,hp⟩:=h;have hat:DH (IW c)=true:=by rw[XN,hn,ha];try rfl
 have hcs:DH c.cond=true:=by
  simp only[ED]at hf;rcases hf with hf|hf
  ·rw [LK hf];try rfl
  ·exact J5 hf
 have hpp:c.params.all (IN true)=true:=by
  rw[List.all_eq_true]at hp⊢;intro x hx;rw[← XO];exact hp x hx
 have hval:(bif decide (c.kind<=2)then c.value.same By else FD c.value)=true/\(2<c.kind->J7 c.value=BI c.value):=by
  cases k1:c.kind==1||c.kind==2 with
  |true=>
   rw[k1,AC]at hv;simp only[ED,Eg]at k1;have:decide (c.kind<=2)=true:=(by simp;omega);rw[this];exact⟨hv,λh=>by omega⟩
  |false=>
   rw[k1,AL]at hv;cases k3:c.kind==3||c.kind==4||c.kind==5 with
   |false=>rw[k3]at hv;simp at hv
   |true=>
    rw[k3,AC]at hv;simp only[ED,Eg]at k3;have:decide (c.kind<=2)=false:=(by simp;omega);rw[this];exact⟨XJ hv,λ_=>by unfold J7;rw[hv];try rfl⟩
 refine⟨?_,?_⟩
 ·unfold Jc;have q1:decide (c.kind<1)=false:=by simp;omega
  have q2:decide (5<c.kind)=false:=by simp;omega
  rw[q1,q2,hpp,hcs,hat,hval.1];try rfl
 ·have h1:IU c=N4 c:=by
   unfold IU N4;rw[lz];have hk5:c.kind=1\/c.kind=2\/c.kind=3\/c.kind=4\/c.kind=5:=(by omega);rcases hk5 with k|k|k|k|k
   ·rw [k];try rfl
   ·rw [k];try rfl
   ·rw [hval.2 (by omega),k];try rfl
   ·rw [hval.2 (by omega),k];try rfl
   ·rw [hval.2 (by omega),k];try rfl
  have h2:IV c=N5 c:=by
   unfold IV N5;rw[MA hcs,h1];cases q:C3 c.cond with
   |true=>rfl
   |false=>
    rw[q,HZ]at hf;have:Bb c.cond=Ap c.cond:=(by unfold Bb;rw[hf];try rfl);rw[this]
  unfold F3 N6;rw[h2]
theorem m8{c:Ch}(h:Jc c=true)(hv:VS (N6 c)):CA c=true:=by
 unfold Jc at h;simp only[AV,EF,D7]at h;obtain⟨q1,q2,hpp,hcs,hat,hval⟩:=h;rw[XN,AV]at hat;have v2:VS (N5 c):=by
  unfold N6 at hv;cases q:c.params.isEmpty with
  |true=>rw[q]at hv;exact hv
  |false=>rw[q]at hv;exact Gl hv (by simp)
 have v1:VS (N4 c)/\(C3 c.cond||Bh c.cond)=true:=by
  unfold N5 at v2;rw[MA hcs]at v2;cases q:C3 c.cond with
  |true=>rw[q]at v2;exact⟨v2,rfl⟩
  |false=>
   rw[q,AL]at v2;exact⟨Gl v2 (by simp),by rw[HZ];exact Sq hcs (Gl v2 (by simp))⟩
 have vv:(bif c.kind==1||c.kind==2 then c.value.same By else(bif c.kind==3||c.kind==4||c.kind==5 then Ea c.value else false))=true:=by
  have hk5:c.kind=1\/c.kind=2\/c.kind=3\/c.kind=4\/c.kind=5:=by omega
  have w:=v1.1;unfold N4 at w;rcases hk5 with k|k|k|k|k
  ·rw [k]at hval⊢;exact hval
  ·rw [k]at hval⊢;exact hval
  all_goals
   rw[k]at hval w⊢;exact lr hval (Gl (l:=[A7 _,Ap (IW c),BI c.value]) w (by simp))
 unfold CA;rw[hat.1,hat.2,vv,v1.2];simp only[BG];rw[List.all_eq_true]at hpp⊢;intro x hx;rw[XO];exact hpp x hx
theorem KH{l:List Ch}(h:l.all CA=true):l.all Jc=true/\CS l=IY l:=by
 rw[List.all_eq_true]at h;refine⟨List.all_eq_true.2 λc hc=>(XP (h c hc)).1,?_⟩;have:l.map F3=l.map N6:=List.map_congr_left λc hc=>(XP (h c hc)).2;unfold CS IY;rw[this]
theorem XQ{l:List Ch}(h:LH l=true):l.all CA=true:=by
 unfold LH at h;simp only[AV]at h;have hv:=Je.1 h.2;rw[List.all_eq_true];intro c hc;refine m8 (List.all_eq_true.1 h.1 c hc) ?_;unfold IY at hv;cases l with
 |nil=>simp at hc
 |cons d l=>exact Gl hv (List.mem_cons_of_mem _ (List.mem_map_of_mem hc))
theorem m9(l:List Ch):GX l=LH l:=by
 cases hr:LH l with
 |true=>
  have hb:=XQ hr;have hx:=KH hb;unfold LH at hr;simp only[AV]at hr;unfold GX;rw[hb,hx.2,hr.2];try rfl
 |false=>
  cases he:GX l with
  |false=>rfl
  |true=>
   unfold GX at he;simp only[AV]at he;have hx:=KH he.1;unfold LH at hr;rw[hx.1, ← hx.2,he.2]at hr;exact hr
set_option maxHeartbeats 8000000
theorem Sr{x:Sx}(hok:x.ok)(h:A1):A6 prog 19 [.agg x.cells] h λr h'=>
  r= .Am [.A2 15 (Ae (En x).1),AS (En x).2]/\h'=h:=by
 refine A6.CF Ty.Nr ?_;have hV:=λh:A1=>JO (x:=x) hok h;generalize hF:En x=F;unfold En at hF;cases v:(CM x 0 0).1 with
 |false=>
  rw[v,A8 (by simp)]at hF;subst hF;rw[v]at hV;obtain⟨kind,value,line,col,text,kids⟩:=x;simp only[Sx.cells]at hV⊢;refine AF func19 ntmps19 results19 Ty.Nr ?_;refine wt A5 ?_;refine uU A5 (hV _) ?_;refine wt yF ?_;exact⟨GZ (c:=2) rfl,AH.refl _⟩
 |true=>
  rw[v,AK rfl]at hF;have hsm:=Kx v;have hnd:=((JQ x 0 0 (by omega) (by omega)).1.1 v).2.2;have hS:Dv.KZ ⟨[],[]⟩ x.nodes:=⟨by simp,by simp only[List.length_nil];omega,by simp,by simp only[List.length_nil];omega⟩;have hcs:=Sn _ x (AG _) ⟨[],[]⟩ hok hsm hS;have hln:=QJ _ x (AG _) ⟨[],[]⟩;have hE:=λh:A1=>A6.nz (lP hok hsm [] [] (by simp only[List.length_nil];omega) (by simp only[List.length_nil];omega) h) (xs:=[.agg [.sc (.slice none 0 0),.sc (.slice none 0 0)],.agg x.cells]) (HN (Vh (HN O6 (HN O6 (D6.refl _)))) (D6.refl _));rw[v]at hV;generalize Cp x ⟨[],[]⟩=E at*;obtain⟨l,c⟩:=E;simp only at hF hcs hln hE;have hW:=λh:A1=>ko (l:=l) (by omega) (λc hc=>(hcs c hc).1) (λc hc=>(hcs c hc).2) (QK (by omega) hcs) h
  clear hcs hS hsm;obtain⟨kind,value,line,col,text,kids⟩:=x;simp only[Sx.cells]at hV hE⊢;cases z1:(c==0)with
  |false=>
   have z2:¬ c=0:=(by simpa using z1);rw[A8 z2]at hF;subst hF;rw[KF z1]at hE;simp only[Ao]at hE;clear hW;refine AF func19 ntmps19 results19 Ty.Nr ?_;refine wt A5 ?_;refine uU A5 (hV _) ?_;refine wt yT ?_;refine uU A5 (hE _) ?_;refine wt @B1 ?_;exact⟨GZ z1,AH.refl _⟩
  |true=>
   have z2:c=0:=(by simpa using z1);subst z2;rw[AK rfl]at hF;rw[KG z1]at hE;generalize CS l=X at hW;obtain⟨xk,xv,xl,xc,xt,xs⟩:=X;simp only[Sx.cells,Hj,Ao]at hW;cases hw:GX l with
   |false=>
    rw[hw,A8 (by simp)]at hF;subst hF;simp only[hw,BR,AQ]at hW;refine AF func19 ntmps19 results19 Ty.Nr ?_;refine wt A5 ?_;refine uU A5 (hV _) ?_;refine wt yT ?_;refine uU A5 (hE _) ?_;refine wt A5 ?_;refine uU A5 (hW _) ?_;refine wt @B1 ?_;exact⟨GZ (c:=5) rfl,((AH.refl h).new _).set (AG _) _⟩
   |true=>
    rw[hw,AK rfl]at hF;subst hF;simp only[hw,AO]at hW;refine AF func19 ntmps19 results19 Ty.Nr ?_;refine wt A5 ?_;refine uU A5 (hV _) ?_;refine wt yT ?_;refine uU A5 (hE _) ?_;refine wt A5 ?_;refine uU A5 (hW _) ?_;refine wt A5 ?_;exact⟨LJ _ _ _ 0,((AH.refl h).new _).set (AG _) _⟩
set_option maxHeartbeats 4000000
theorem XR(c:Ch):PV.D2 (A9 c.params)+PV.bulkL c.cond.cells+PV.D2 (AN c.args)+PV.bulkL c.value.cells+4<=PV.bulkL (CZ c):=by
 obtain⟨kd,P,f,n,a,v⟩:=c;simp only[CZ,List.cons_append,List.nil_append,PV.Ox,PV.bulkL,PV.bulk,A4];omega
theorem mA{c:Ch}(h:PV.bulkL (CZ c)<=1048576):FV c:=by
 have:=XR c;have p1:=KD c.params;have p2:=QB c.args;exact⟨Fm.KY _ (by omega),Ex.KY _ (by omega),by omega,by omega⟩
theorem XS: ∀ l:List Ch,l.length<=PV.D2 (Ae l)
 |[]=>BY _
 |c::l=>by
  have:=XS l;have:=XR c;have e:Ae (c::l)=CZ c::Ae l:=rfl;rw[e];simp only[PV.D2,List.length_cons];omega
theorem XT{c:Ch}: ∀ {l:List Ch},c∈l->PV.bulkL (CZ c)<=PV.D2 (Ae l)
 |d::l,h=>by
  have e:Ae (d::l)=CZ d::Ae l:=rfl;rw[e];simp only[PV.D2];rcases List.mem_cons.1 h with rfl|h
  ·omega
  ·have:=XT h;omega
end Go.Proofs.YtblgchkahpgdjaaGreat
