/- What the claim rests on, part 14: the abstract machine, contracts of the functions, plain data. -/
import Derived.Test.YtblgchkahpgdjaaGreatZm13
set_option linter.unusedVariables false
set_option linter.unusedSimpArgs false
set_option linter.unusedSectionVars false
namespace Go.Proofs.YtblgchkahpgdjaaGreat
open Go.AM Go.Proofs.Tryz
set_option maxHeartbeats 8000000
set_option maxRecDepth 20000
variable {q:PV}{n text:ByteArray}{R:List (List PV)}{P:List Pm}{col line kind value k:Int}{W:List Fm}{a:List ByteArray}{x:Sx}{m:Nat}{S:E5}{f:Fm}{e:Ex}{c:Ch}{l:List Ch}
def ND(z:Nat)(rows:List (List PV))(q:PV):Prop:=(∃ a cap,q= .sc (.slice a 0 cap)/\rows=[])\/(q= .A1 z rows/\rows≠[])
theorem ND.pc{z:Nat}{rows:List (List PV)}(h:ND z rows q):q.cells=[q]/\Cs q=true:=by
 rcases h with⟨_,_,rfl,_⟩|⟨rfl,_⟩<;>exact⟨rfl,rfl⟩
theorem A6.ZL{P:Program}{f:FuncId}{z:Nat}{h:A0}{K:PV->A0->Prop}{pre post rest:List PV}(h0: ∀ a cap,A6 P f (.agg (pre++ .sc (.slice a 0 cap)::post)::rest) h K):A6 P f (.agg (pre++ .A1 z []::post)::rest) h K:=by
 intro β w vals sm hr;cases vals with
 |nil=>simp[AT]at hr
 |cons v vals=>
  simp only[AT,AA]at hr;obtain⟨⟨xs,rfl,h1,h2⟩,h3⟩:=hr;obtain⟨a,cap,hx⟩:=AT.P7 h2;exact h0 a cap β w _ sm (by simp only[AT,AA];exact⟨⟨xs,rfl,h1,hx⟩,h3⟩)
theorem lY(cap:Nat)(h:A0):A6 prog 149 [.sc (.slice none 0 cap)] h λr h'=>r= .sc (.slice none 0 0)/\h'=h:=by
 refine AD func149 ntmps149 results149 Ty.Ls ?_;repeat'(first|refine Ai λK hK=>?_|((first|refine Bp ?_|refine Eu ?_);simp only[Ty.w,simprocAttr,QC])|(refine hK _ _ ?_;clear hK;(try simp only[At,simprocAttr])))
theorem lZ(x:Addr)(cap:Nat)(h:A0):A6 prog 149 [.sc (.slice (some x) 0 cap)] h λr h'=>r= .own h.next 0 0/\h'=h.new (.arr 6 []):=by
 refine AD func149 ntmps149 results149 Ty.Ls ?_;repeat'(first|refine Ai λK hK=>?_|((first|refine Bp ?_|refine Eu ?_);simp only[Ty.w,simprocAttr,L5,L6,L7])|(refine Gk ?_;(try simp only[At,simprocAttr]))|(refine Eg _ (by(try simp only[Ty.w,simprocAttr,L5,L6,L7]);rfl) (λhb=>?_) (λhb=>?_)<;>(try simp only[DD,Ba,Cw,simprocAttr]at hb)<;>(try(exfalso;omega)))|(refine hK _ _ ?_;clear hK;(try simp only[At,simprocAttr])))
theorem lb{n:Nat}(hR:R.length=n+1)(hn:n<=1048576)(h:A0):A6 prog 149 [.A1 6 R] h λr h'=>r= .own h.next 0 (n+1)/\h'=h.new (.arr 6 R):=by
 have h0:(0<R.length)=True:=by rw[hR];simp
 have hb:(n+1)*128<=140737488355328:=by omega
 refine AD func149 ntmps149 results149 Ty.Ls ?_;replace zz:=AW h0 hR hb @C7;repeat'(first|refine Ai λK hK=>?_|refine uR zz ?_|refine uT zz ?_|refine uK ?_|refine C3 zz ?_|(refine uN hK ?_;clear hK)|(rw[AK];rotate_left 1;omega;simp only[Ty.w,simprocAttr,h0,hR,hb,C7])|apply zI)
theorem ld(hq:ND 6 R q)(hl:R.length<=1048576)(h:A0): ∃ v h1,(A6 prog 149 [q] h λr h'=>r=v/\h'=h1)/\AH h h1/\Tl h1 h.next 6 v R:=by
 rcases hq with⟨a,cap,rfl,rfl⟩|⟨rfl,hne⟩
 ·cases a with
  |none=>exact⟨_,_,lY cap h,AH.refl _,Tl.nil⟩
  |some x=>exact⟨_,_,lZ x cap h,(AH.refl h).new _,Tl.grow (AG _) rfl⟩
 ·obtain ⟨n,hn⟩: ∃ n,R.length=n+1:=⟨R.length-1,by have:=List.length_pos_iff.2 hne;omega⟩;exact⟨_,_,lb hn (by omega) h,(AH.refl h).new _,Tl.grow (AG _) hn.symm⟩
theorem lf(cap:Nat)(h:A0):A6 prog 150 [.sc (.slice none 0 cap)] h λr h'=>r= .sc (.slice none 0 0)/\h'=h:=by
 refine AD func150 ntmps150 results150 Ty.Lt ?_;repeat'(first|refine Ai λK hK=>?_|((first|refine Bp ?_|refine Eu ?_);simp only[Ty.w,simprocAttr,QC])|(refine hK _ _ ?_;clear hK;(try simp only[At,simprocAttr])))
theorem lg(x:Addr)(cap:Nat)(h:A0):A6 prog 150 [.sc (.slice (some x) 0 cap)] h λr h'=>r= .own h.next 0 0/\h'=h.new (.arr 2 []):=by
 refine AD func150 ntmps150 results150 Ty.Lt ?_;repeat'(first|refine Ai λK hK=>?_|((first|refine Bp ?_|refine Eu ?_);simp only[Ty.w,simprocAttr,L5,L6,L7])|(refine Gk ?_;(try simp only[At,simprocAttr]))|(refine Eg _ (by(try simp only[Ty.w,simprocAttr,L5,L6,L7]);rfl) (λhb=>?_) (λhb=>?_)<;>(try simp only[DD,Ba,Cw,simprocAttr]at hb)<;>(try(exfalso;omega)))|(refine hK _ _ ?_;clear hK;(try simp only[At,simprocAttr])))
theorem lh{n:Nat}(hR:R.length=n+1)(hn:n<=1048576)(h:A0):A6 prog 150 [.A1 2 R] h λr h'=>r= .own h.next 0 (n+1)/\h'=h.new (.arr 2 R):=by
 have h0:(0<R.length)=True:=by rw[hR];simp
 have hb:(n+1)*32<=140737488355328:=by omega
 refine AD func150 ntmps150 results150 Ty.Lt ?_;replace zz:=AW h0 hR hb @C7;repeat'(first|refine Ai λK hK=>?_|refine uR zz ?_|refine uT zz ?_|refine uK ?_|refine C3 zz ?_|(refine uN hK ?_;clear hK)|(rw[AK];rotate_left 1;omega;simp only[Ty.w,simprocAttr,h0,hR,hb,C7])|apply zI)
theorem ln(hq:ND 2 R q)(hl:R.length<=1048576)(h:A0): ∃ v h1,(A6 prog 150 [q] h λr h'=>r=v/\h'=h1)/\AH h h1/\Tl h1 h.next 2 v R:=by
 rcases hq with⟨a,cap,rfl,rfl⟩|⟨rfl,hne⟩
 ·cases a with
  |none=>exact⟨_,_,lf cap h,AH.refl _,Tl.nil⟩
  |some x=>exact⟨_,_,lg x cap h,(AH.refl h).new _,Tl.grow (AG _) rfl⟩
 ·obtain ⟨n,hn⟩: ∃ n,R.length=n+1:=⟨R.length-1,by have:=List.length_pos_iff.2 hne;omega⟩;exact⟨_,_,lh hn (by omega) h,(AH.refl h).new _,Tl.grow (AG _) hn.symm⟩
theorem lp(n:Nat)(H:A0)(c:Int):AI n H (AQ c) (AQ c):=by
 unfold AQ;cases c==0 with
 |true=>simp only[AB,AI]
 |false=>simp only[AJ,An,AI]
theorem LI(n:Nat)(H:A0)(l:List Ch)(c:Int):AI n H (.Al [.A1 15 (Ag l),AQ c]) (.Al [.A1 15 (Ag l),AQ c]):=by
 have:=lp n H c;simp only[AI,AN]at this⊢;exact⟨_,rfl,.inl ⟨rfl,Sq _ _⟩,this,trivial⟩
theorem Sx.HG(x:Sx):0<x.nodes:=by cases x;simp only[Sx.nodes];omega
theorem Fm.qF(l m:List Fm):Fm.rows (l++m)=Fm.rows l++Fm.rows m:=by simp[Fm.rows_map]
def NF(x:Sx):Prop:= ∀ (P:List Pm)(W:List Fm),P.length+x.nodes<=1048576->W.length+x.nodes<=1048576-> ∀ h:A0,
 A6 prog 53 [.agg [.A1 2 (A8 P),.A1 6 (Fm.rows W)],.agg x.cells] h λr h'=>r= .Al [.A1 15 (Ag (Cp x ⟨P,W⟩).1),AQ (Cp x ⟨P,W⟩).2]/\h'=h
theorem XH(vars:Bool): ∀ (n:Nat)(l:List Sx),l.length<=n-> ∀ (don:List Pm)(pen:List ByteArray),(Ek vars l don pen).1.length<=don.length+pen.length+l.length
 |_,[],_,don,pen=>by simp[Ek,Bw]
 |0,_::_,h,_,_=>by simp at h
 |n+1,x::l,h,don,pen=>by
  simp only[List.length_cons]at h;have ih:=XH vars n;rw[Ek.eq_def];simp only;cases Hq x with
  |false=>simp only[AJ,List.length_nil];omega
  |true=>
   simp only[AB];cases A2 (Af x) GJ with
   |true=>
    simp only[AB]
    match l,h with
    |[],_=>simp only[List.length_nil];omega
    |t::l',h=>
     simp only[List.length_cons]at h;simp only;cases !pen.isEmpty&&Hq t with
     |false=>simp only[AJ,List.length_nil];omega
     |true=>
      simp only[AB];cases Gm (Af t)with
      |false=>simp only[AJ,List.length_nil];omega
      |true=>
       have:=ih l' (by omega) (don++Bw (Af t) pen) [];simp only[AB,List.length_append,Bw,List.length_map,List.length_nil,List.length_cons]at this⊢;omega
   |false=>
    simp only[AJ];cases(bif vars then F9 (Af x)else As (Af x))with
    |false=>simp only[AJ,List.length_nil];omega
    |true=>
     have:=ih l (by omega) don (pen++[Af x]);simp only[AB,List.length_append,List.length_nil,List.length_cons]at this⊢;omega
theorem OX(vars:Bool)(l:List Sx):(C5 vars l).1.length<=l.length:=by
 have:=XH vars l.length l (AG _) [] [];unfold C5;simpa using this
theorem lq(n:Nat)(h:A0)(l:List Pm):DE n h (A8 l) (A8 l):=Rq _ (WN l)
theorem Sx.len_nodess: ∀ l:List Sx,l.length<=Sx.Aq l
 |[]=>AG _
 |x::l=>by
  have:=Sx.len_nodess l;have:=Sx.HG x;simp only[Sx.Aq,List.length_cons];omega
def OY(P:List Pm)(W:List Fm):List Sx->List Ch × Int
 |[f,e]=>bif (Cl f).2==0 then Cp e ⟨P,W++[(Cl f).1]⟩else([],(Cl f).2)
 |_=>([],2)
theorem lr{y:Sx}{rest:List Sx}(hE: ∀ e∈rest,NF e)
  (hok: ∀ z∈rest,z.ok)(hp:P.length+Sx.Aq rest<=1048576)(hwl:W.length+Sx.Aq rest<=1048576)(h:A0):
  A6 prog 111 [.agg [.A1 2 (A8 P),.A1 6 (Fm.rows W)],.agg [qK kind,qK value,qK line,qK col,A3 text,.A1 6 (Sx.rows (y::rest))]] h λr h'=>
   r= .Al [.A1 15 (Ag (OY P W rest).1),AQ (OY P W rest).2]/\h'=h:=by
 refine A6.CD Ty.Pn ?_;have hlen:=Sx.B3 (y::rest);generalize hF:OY P W rest=F;have main: ∀ q,ND 6 (Fm.rows W) q->A6 prog 111 [.agg [.A1 2 (A8 P),q],.agg [qK kind,qK value,qK line,qK col,A3 text,.A1 6 (Sx.rows (y::rest))]] h λr h'=>AI h.next h' (.Al [.A1 15 (Ag F.1),AQ F.2]) r/\AH h h':=by
  intro q hq;obtain⟨q1,q2⟩:=hq.pc;cases q3:(((Sx.rows (y::rest)).length:Int) !=3)with
  |true=>
   have e:F=([],2):=by
    rw[← hF]
    match rest,q3,hlen with
    |[],_,_=>rfl
    |[_],_,_=>rfl
    |[_,_],q,hlen=>rw[hlen]at q;simp at q
    |_::_::_::_,_,_=>rfl
   subst e;clear hE hF;generalize Sx.rows (y::rest)=R at q3⊢;refine uG (ow:=λt=>t==2) (wf:=λf=>f==150||f==149) func111 ntmps111 results111 Ty.Pn ?_;refine wt (AU q1 q2 q3) ?_;exact⟨Gd (c:=2) rfl,(AH.refl h).new _⟩
  |false=>
   obtain⟨f,e,rfl⟩: ∃ a e,rest=[a,e]:=by
    match rest,q3,hlen with
    |[],q,hlen=>rw[hlen]at q;simp at q
    |[_],q,hlen=>rw[hlen]at q;simp at q
    |[a,e],_,_=>exact⟨a,e,rfl⟩
    |_::_::_::l,q,hlen=>rw[hlen]at q;simp at q;omega
   have cf:=λh:A0=>OR (x:=f) (hok f (by simp)) h;have hEe:=hE e (by simp);simp only[Sx.Aq,GC]at hp hwl;have hfn:=Sx.HG f;have r1:=Sx.CG (l:=[y,f,e]) (i:=1) rfl;have r2:=Sx.CG (l:=[y,f,e]) (i:=2) rfl;have d1:((1:Int)<((Sx.rows [y,f,e]).length:Int))=True:=Di (by rw[hlen];simp);have d2:((2:Int)<((Sx.rows [y,f,e]).length:Int))=True:=Di (by rw[hlen];simp);simp only[OY]at hF;generalize Sx.rows [y,f,e]=R at q3 r1 r2 d1 d2⊢;generalize Cl f=E at cf hF;obtain⟨ev,ec⟩:=E;simp only at hF cf;have hwl2:=Fm.B3 W;have hEe:=hEe P (W++[ev]) (by omega) (by simp only[List.length_append,List.length_cons,List.length_nil];omega);obtain⟨fk,fv,fl,fc,ft,fs⟩:=f;simp only[Sx.cells]at r1 cf;cases z1:(ec==0)with
   |false=>
    rw[z1,AJ]at hF;subst hF;rw[KI z1]at cf;clear hE hEe;obtain⟨gop,gna,gar,gpa,gex,gki⟩:=ev;simp only[An,Fm.cells]at cf;refine uG (ow:=λt=>t==2) (wf:=λf=>f==150||f==149) func111 ntmps111 results111 Ty.Pn ?_;replace zz:=Ae q1 q2 q3 r1 d1;refine wt zz ?_;refine uU (uu r1 d1) (cf _) ?_;refine wt @B4 ?_;exact⟨Gd z1,(((AH.refl h).new _).new _).set (by omega) _⟩
   |true=>
    rw[z1,AB]at hF;rw[KJ z1]at cf;clear hE;have hap:Fm.rows (W++[ev])=Fm.rows W++[ev.cells]:=(by rw[Fm.qF];try rfl);obtain⟨gop,gna,gar,gpa,gex,gki⟩:=ev;simp only[Fm.cells]at cf hap;refine uG (ow:=λt=>t==2) (wf:=λf=>f==150||f==149) func111 ntmps111 results111 Ty.Pn ?_;replace zz:=Ae q1 q2 q3 r1 d1;refine wt zz ?_;refine uU (uu r1 d1) (cf _) ?_;refine xB 6 @B4 ?_;refine⟨?_⟩;refine Cf (λS H=>S 2= .ptr h.next 0 0/\S 3= .Aj [qK kind,qK value,qK line,qK col,A3 text,.A1 6 R]/\S 6= .ptr (h.next+1) 0 0/\AH h H/\H.next=h.next+2/\H.obj h.next=some (.arr 2 [[.A1 2 (A8 P),q]])/\H.obj (h.next+1)=some (.arr 6 [[A3 gop,A3 gna,.A1 1 (AL gar),.A1 2 (A8 gpa),.A1 5 (Ex.rows gex),.A1 6 (Fm.rows gki)]])) ⟨sq A4,sq A4,sq A4,(((AH.refl h).new _).new _).set (by omega) _,rfl,by simp[A0.new,A0.set],by simp[A0.new,A0.set]⟩ ?_;clear r1 cf;rintro S H ⟨s2,s3,s6,hg,hnx,o2,o6⟩;obtain⟨v,h1,hc,hgr,htl⟩:=ld hq (by rw[Fm.B3];omega) H;have hle1:=hgr.le;obtain⟨Hk,t1,t2,t3,t4,t5⟩:=htl.tail;have p2:=(hgr.B1 h.next (by omega)).trans o2;have p6:=(hgr.B1 (h.next+1) (by omega)).trans o6;replace zz:=Ae s2 s3 s6 o2 o6;refine wy zz ?_;refine Lm hc (sr (Ae s2 s3 s6 o2 o6)) (by
     try simp only[Ty.w,simprocAttr,Dj,List.map_cons,List.map_nil,List.forall_mem_cons]
     (repeat' apply And.intro)<;>first
      |trivial
      |exact .inl (by decide+kernel)
      |exact .inr (by simp only[Ty.w,simprocAttr,Ty.AX,s2,p2,p6,q1,q2])) ?_
    simp only[Ty.w,simprocAttr,Ty.AX,BD,s2,s3,s6,o6,p2,p6];have k2:=(t4 h.next (by omega)).trans p2;have n1:(h.next=Hk.next)=False:=BB (by omega);replace zz:=B6 s2 s3 s6 o6 p2 p6 t1 t2 k2 n1;(repeat'(first|refine cK ?_|refine nK ?_|with_reducible refine Q4 7 ?_|(rw[AK];rotate_left 1;omega;simp only[Ty.w,simprocAttr,s2,s3,s6,o6,p2,p6,t1,t2,k2,n1])|apply zI));refine⟨by
     simp only[List.forall_mem_cons];exact⟨.inr (by simp only[Ty.w,simprocAttr,Ty.AX,o6]),λ_ hx=>by cases hx⟩,?_⟩
    replace zz:=B6 s2 s3 s6 o6 p2 p6 t1 t2 k2 n1;refine xB 7 zz ?_;refine⟨by
     simp only[List.forall_mem_cons]
     (repeat' apply And.intro)<;>first|exact .inl (by decide+kernel)|exact(λ_ hx=>by cases hx),?_⟩
    refine⟨by
     simp only[List.forall_mem_cons]
     (repeat' apply And.intro)<;>first|exact .inl (by decide+kernel)|exact(λ_ hx=>by cases hx),?_⟩
    replace zz:=B6 s2 s3 s6 o6 p2 p6 t1 t2 k2 n1;refine xB 7 zz ?_;refine⟨?_⟩;have hlen2:(Fm.rows (W++[Fm.mk gop gna gar gpa gex gki])).length=(Fm.rows W).length+1:=(by rw[hap];simp);have hgk:AH h Hk:=⟨by omega,λj hj=>(t4 j (by omega)).trans ((hgr.B1 j (by omega)).trans (hg.B1 j hj))⟩;rw[← hap];refine Cf (λS H=>S 2= .ptr h.next 0 0/\S 3= .Aj [qK kind,qK value,qK line,qK col,A3 text,.A1 6 R]/\AH h H/\h.next<H.next/\ ∃ j,h.next<=j/\H.obj h.next=some (.arr 2 [[.A1 2 (A8 P),.own j 0 ((Fm.rows W).length+1)]])/\H.obj j=some (.arr 6 (Fm.rows (W++[Fm.mk gop gna gar gpa gex gki])))) ⟨sq s2,sq s3,(hgk.new _).set (by omega) _,by simp only[A0.new,A0.set];omega,Hk.next,by omega,by simp only[A0.new,A0.set,AO];rw[t3],by simp only[A0.new,A0.set];rw[A7 (by omega)];simp⟩ ?_;clear s2 s3 s6 hg hnx o2 o6 hc hgr htl hle1 t1 t2 t3 t4 t5 p2 p6 k2 n1 hgk;rintro S H ⟨s2,s3,hg,hlt,j,hj,o1,o2⟩;refine Jz h.next [(2,.Aj [.A1 2 (A8 P),.A1 6 (Fm.rows (W++[Fm.mk gop gna gar gpa gex gki]))])] rfl hg.le ?_ ?_
    ·intro x hx;simp only[List.mem_cons,List.not_mem_nil,FF]at hx;subst hx;show AI h.next _ _ (S 2)
     rw[s2];simp only[AI,AN,Do];refine .inr ⟨_,0,0,2,_,_,rfl,AG _,o1,rfl,?_⟩;exact⟨.inl ⟨rfl,C6 _ _⟩,.inr (.inr ⟨j,0,_,_,rfl,hj,o2,by omega,by rw[List.drop_zero,List.take_of_length_le (by omega)];exact SP _ _ _⟩),trivial⟩
    refine Cf (λS H=>S 2= .Aj [.A1 2 (A8 P),.A1 6 (Fm.rows (W++[Fm.mk gop gna gar gpa gex gki]))]/\S 3= .Aj [qK kind,qK value,qK line,qK col,A3 text,.A1 6 R]/\AH h H) ⟨by simp only[DT,Ty.w,simprocAttr],by simp only[DT,Ty.w,simprocAttr,s3],Vv hg⟩ ?_;(try clear zz);clear s2 s3 hg hlt o1 o2 hj S H;rintro S H ⟨s2,s3,hg⟩;generalize Fm.rows (W++[Fm.mk gop gna gar gpa gex gki])=FR at*;rw[hF]at hEe;clear hF hap hwl2;obtain⟨fl,fe⟩:=F;obtain⟨ek,ev,el,ec2,et,es⟩:=e;simp only[Sx.cells]at r2 hEe;replace zz:=AW s2 s3 r2 d2;refine wy zz ?_;replace zz:=AW s2 s3 r2 d2;(first|refine uV zz (hEe _) ?_|refine uA zz (hEe _) ?_);refine wy zz ?_;exact⟨LI _ _ _ _,hg⟩
 cases W with
 |nil=>exact A6.ZL (pre:=[.A1 2 (A8 P)]) λa cap=>main _ (.inl ⟨a,cap,rfl,rfl⟩)
 |cons f W=>exact main _ (.inr ⟨rfl,by simp[Fm.rows]⟩)
def OZ(P:List Pm)(W:List Fm):List Sx->List Ch × Int
 |[p,e]=>bif Az p==3 then(bif (C5 true (BS p)).2==0 then Cp e ⟨P++(C5 true (BS p)).1,W⟩else([],(C5 true (BS p)).2))else([],2)
 |_=>([],2)
theorem lz{y:Sx}{rest:List Sx}(hE: ∀ e∈rest,NF e)
  (hok: ∀ z∈rest,z.ok)(hp:P.length+Sx.Aq rest<=1048576)(hwl:W.length+Sx.Aq rest<=1048576)(h:A0):
  A6 prog 112 [.agg [.A1 2 (A8 P),.A1 6 (Fm.rows W)],.agg [qK kind,qK value,qK line,qK col,A3 text,.A1 6 (Sx.rows (y::rest))]] h λr h'=>
   r= .Al [.A1 15 (Ag (OZ P W rest).1),AQ (OZ P W rest).2]/\h'=h:=by
 refine A6.CD Ty.Nx ?_;have hlen:=Sx.B3 (y::rest);generalize hF:OZ P W rest=F;have main: ∀ q,ND 2 (A8 P) q->A6 prog 112 [.agg [q,.A1 6 (Fm.rows W)],.agg [qK kind,qK value,qK line,qK col,A3 text,.A1 6 (Sx.rows (y::rest))]] h λr h'=>AI h.next h' (.Al [.A1 15 (Ag F.1),AQ F.2]) r/\AH h h':=by
  intro q hq;obtain⟨q1,q2⟩:=hq.pc;cases q3:(((Sx.rows (y::rest)).length:Int) !=3)with
  |true=>
   have e:F=([],2):=by
    rw[← hF]
    match rest,q3,hlen with
    |[],_,_=>rfl
    |[_],_,_=>rfl
    |[_,_],q,hlen=>rw[hlen]at q;simp at q
    |_::_::_::_,_,_=>rfl
   subst e;clear hE hF;generalize Sx.rows (y::rest)=R at q3⊢;refine uG (ow:=λt=>t==2) (wf:=λf=>f==150||f==149) func112 ntmps112 results112 Ty.Nx ?_;refine wt (AU q1 q2 q3) ?_;exact⟨Gd (c:=2) rfl,(AH.refl h).new _⟩
  |false=>
   obtain⟨f,e,rfl⟩: ∃ a e,rest=[a,e]:=by
    match rest,q3,hlen with
    |[],q,hlen=>rw[hlen]at q;simp at q
    |[_],q,hlen=>rw[hlen]at q;simp at q
    |[a,e],_,_=>exact⟨a,e,rfl⟩
    |_::_::_::l,q,hlen=>rw[hlen]at q;simp at q;omega
   have hEe:=hE e (by simp);simp only[Sx.Aq,GC]at hp hwl;have r1:=Sx.CG (l:=[y,f,e]) (i:=1) rfl;have r2:=Sx.CG (l:=[y,f,e]) (i:=2) rfl;have d1:((1:Int)<((Sx.rows [y,f,e]).length:Int))=True:=Di (by rw[hlen];simp);have d2:((2:Int)<((Sx.rows [y,f,e]).length:Int))=True:=Di (by rw[hlen];simp);simp only[OZ]at hF;generalize Sx.rows [y,f,e]=R at q3 r1 r2 d1 d2⊢;have hfo:=hok f (by simp);clear hok hE;obtain⟨fk,fv,fl,fc,ft,fs⟩:=f;simp only[Sx.ok]at hfo;obtain⟨_,_,_,_,hfo⟩:=hfo;have hfs:=Sx.len_nodess fs;simp only[Sx.nodes]at hp hwl;have cf:=λh:A0=>M7 (vars:=true) (l:=fs) (by omega) (Sx.Bs.1 hfo) h;have hpl:=OX true fs;simp only[Az,BS]at hF;simp only[Sx.cells]at r1;cases z0:(fk==3)with
   |false=>
    have z0b:(fk !=3)=true:=(by simp[bne,z0]);have z0c:(fk=3)=False:=BB (by simpa using z0);rw[z0,AJ]at hF;subst hF;clear cf hEe hpl;refine uG (ow:=λt=>t==2) (wf:=λf=>f==150||f==149) func112 ntmps112 results112 Ty.Nx ?_;replace zz:=BJ q1 q2 q3 r1 d1 z0 z0b z0c;refine wt zz ?_;exact⟨Gd (c:=2) rfl,(AH.refl h).new _⟩
   |true=>
    have z0b:(fk !=3)=false:=(by simp[bne,z0]);have z0c:(fk=3)=True:=Di (by simpa using z0);rw[z0,AB]at hF;generalize C5 true fs=E at cf hF hpl;obtain⟨ev,ec⟩:=E;simp only at hF cf hpl;have hEe:=hEe (P++ev) W (by simp only[List.length_append];omega) (by omega);cases z1:(ec==0)with
    |false=>
     rw[z1,AJ]at hF;subst hF;rw[KI z1]at cf;clear hEe;simp only[An]at cf;refine uG (ow:=λt=>t==2) (wf:=λf=>f==150||f==149) func112 ntmps112 results112 Ty.Nx ?_;replace zz:=BJ q1 q2 q3 r1 d1 z0 z0b z0c;refine wt zz ?_;refine uU (uu r1 d1) (cf _) ?_;(repeat'(first|refine cK ?_|refine nK ?_|refine Ai λK hK=>?_|refine uR @B4 ?_|refine uT @B4 ?_|(refine uN hK ?_;clear hK)|apply zI));exact⟨Gd z1,(AH.refl h).new _⟩
    |true=>
     rw[z1,AB]at hF;rw[KJ z1]at cf;have hap:A8 (P++ev)=A8 P++A8 ev:=(by simp[A8]);have hlp:(A8 P).length=P.length:=(by simp[A8]);have hle:(A8 ev).length=ev.length:=(by simp[A8]);refine uG (ow:=λt=>t==2) (wf:=λf=>f==150||f==149) func112 ntmps112 results112 Ty.Nx ?_;replace zz:=BJ q1 q2 q3 r1 d1 z0 z0b z0c;(repeat'(first|refine cK ?_|refine nK ?_|refine Ai λK hK=>?_|refine uR zz ?_|refine uK ?_|refine C3 zz ?_|(refine uN hK ?_;clear hK)|apply zI));refine uU (uu r1 d1) (cf _) ?_;(repeat'(first|refine cK ?_|refine nK ?_|with_reducible refine Q4 6 ?_|refine Ai λK hK=>?_|refine uR @B4 ?_|refine uK ?_|refine C3 @B4 ?_|(refine uN hK ?_;clear hK)|apply zI));refine⟨?_⟩;refine Cf (λS H=>S 2= .ptr h.next 0 0/\S 3= .Aj [qK kind,qK value,qK line,qK col,A3 text,.A1 6 R]/\S 6= .A1 2 (A8 ev)/\AH h H/\h.next<H.next/\H.obj h.next=some (.arr 2 [[q,.A1 6 (Fm.rows W)]])) ⟨sq A4,sq A4,sq A4,(AH.refl h).new _,by simp[A0.new],by simp[A0.new]⟩ ?_;clear r1 cf;rintro S H ⟨s2,s3,s6,hg,hnx,o2⟩;obtain⟨v,h1,hc,hgr,htl⟩:=ln hq (by omega) H;have hle1:=hgr.le;obtain⟨Hk,t1,t2,t3,t4,t5⟩:=htl.tail;have p2:=(hgr.B1 h.next (by omega)).trans o2;have k2:=(t4 h.next (by omega)).trans p2;have n1:(h.next=Hk.next)=False:=BB (by omega);have hb:((A8 P).length+(A8 ev).length)*32<=140737488355328:=(by omega);replace zz:=AW s2 s3 s6 o2;(repeat'(first|refine cK ?_|refine nK ?_|refine uR zz ?_|apply zI));refine DM (hc) (sr (AW s2 s3 s6 o2)) ?_;simp only[Ty.w,simprocAttr,s2,s3,s6,o2];replace zz:=BF s2 s3 s6 p2 t1 t2 k2 n1 hb;(repeat'(first|refine cK ?_|refine nK ?_|with_reducible refine Q4 7 ?_|refine Ai λK hK=>?_|(refine uN hK ?_;clear hK)|(rw[AK];rotate_left 1;omega;simp only[Ty.w,simprocAttr,s2,s3,s6,p2,t1,t2,k2,n1,hb])|apply zI));refine⟨?_⟩;have hlen2:(A8 (P++ev)).length=(A8 P).length+(A8 ev).length:=(by rw[hap];simp);have hgk:AH h Hk:=⟨by omega,λj hj=>(t4 j (by omega)).trans ((hgr.B1 j (by omega)).trans (hg.B1 j hj))⟩;rw[← hap];refine Cf (λS H=>S 2= .ptr h.next 0 0/\S 3= .Aj [qK kind,qK value,qK line,qK col,A3 text,.A1 6 R]/\AH h H/\h.next<H.next/\ ∃ j,h.next<=j/\H.obj h.next=some (.arr 2 [[.own j 0 ((A8 P).length+(A8 ev).length),.A1 6 (Fm.rows W)]])/\H.obj j=some (.arr 2 (A8 (P++ev)))) ⟨sq s2,sq s3,(hgk.new _).set (by omega) _,by simp only[A0.new,A0.set];omega,Hk.next,by omega,by simp only[A0.new,A0.set,AO];rw[t3],by simp only[A0.new,A0.set];rw[A7 (by omega)];simp⟩ ?_;clear s2 s3 s6 hg hnx o2 hc hgr htl hle1 t1 t2 t3 t4 t5 p2 k2 n1 hgk hb;rintro S H ⟨s2,s3,hg,hlt,j,hj,o1,o2⟩;refine Jz h.next [(2,.Aj [.A1 2 (A8 (P++ev)),.A1 6 (Fm.rows W)])] rfl hg.le ?_ ?_
     ·intro x hx;simp only[List.mem_cons,List.not_mem_nil,FF]at hx;subst hx;show AI h.next _ _ (S 2)
      rw[s2];simp only[AI,AN,Do];refine .inr ⟨_,0,0,2,_,_,rfl,AG _,o1,rfl,?_⟩;exact⟨.inr (.inr ⟨j,0,_,_,rfl,hj,o2,by omega,by rw[List.drop_zero,List.take_of_length_le (by omega)];exact lq _ _ _⟩),.inl ⟨rfl,El _ _⟩,trivial⟩
     refine Cf (λS H=>S 2= .Aj [.A1 2 (A8 (P++ev)),.A1 6 (Fm.rows W)]/\S 3= .Aj [qK kind,qK value,qK line,qK col,A3 text,.A1 6 R]/\AH h H) ⟨by simp only[DT,Ty.w,simprocAttr],by simp only[DT,Ty.w,simprocAttr,s3],Vv hg⟩ ?_;(try clear zz);clear s2 s3 hg hlt o1 o2 hj S H;rintro S H ⟨s2,s3,hg⟩;generalize A8 (P++ev)=FR at*;rw[hF]at hEe;clear hF hap hlen2;obtain⟨fl,fe⟩:=F;obtain⟨ek,ev2,el,ec2,et,es⟩:=e;simp only[Sx.cells]at r2 hEe;replace zz:=AW s2 s3 r2 d2;(repeat'(first|refine cK ?_|refine nK ?_|refine uD zz ?_|apply zI));(first|refine uV zz (hEe _) ?_|refine uA zz (hEe _) ?_);(repeat'(first|refine cK ?_|refine nK ?_|refine uT zz ?_|(refine uN hK ?_;clear hK)|apply zI));exact⟨LI _ _ _ _,hg⟩
 cases P with
 |nil=>exact A6.ZL (pre:=[]) λa cap=>main _ (.inl ⟨a,cap,rfl,rfl⟩)
 |cons f P=>exact main _ (.inr ⟨rfl,by simp[A8]⟩)
theorem XI(w:ByteArray):Fq w=0\/Fq w=3\/Fq w=4\/Fq w=5:=by
 unfold Fq;cases A2 w JX<;>cases A2 w JY<;>cases A2 w JZ<;>simp
theorem m7(hp:P.length<=1048576)(hwl:W.length<=1048576)(h:A0):
  A6 prog 114 [.agg [.A1 2 (A8 P),.A1 6 (Fm.rows W)],qK k,A3 n,.A1 1 (AL a),.agg [.sc (.string ⟨#[]⟩),.sc (.string ⟨#[]⟩),qK 0,.sc (.slice none 0 0),.sc (.slice none 0 0)]] h λr h'=>r= .agg (CZ (FN ⟨P,W⟩ k n a C2))/\h'=h:=
 A6.nz (XG (v:=C2) (by omega) (by omega) h) (HP (Nz.refl _) (HP (Nz.refl _) (HP (Nz.refl _) (HP (Nz.refl _) (HP (Vt (HP (Nz.refl _) (HP (Nz.refl _) (HP (Nz.refl _) (HP OD (HP OD (D6.refl _))))))) (D6.refl _))))))
theorem Sx.NS{x:Sx}: ∀ {l:List Sx},x∈l->x.nodes<=Sx.Aq l
 |y::l,h=>by
  simp only[Sx.Aq];rcases List.mem_cons.1 h with rfl|h
  ·omega
  ·have:=Sx.NS h;omega
theorem m8(S:E5)(k:Int): ∀ l:List Sx,(Ga S k l).1.length<=1
 |[]=>by simp[Ga]
 |[_]=>by simp[Ga]
 |[a,e]=>by
  simp only[Ga];cases(Ey a).2.2==0<;>cases(H6 e).2==0<;>simp
 |_::_::_::_=>by simp[Ga]
theorem m9(S:E5): ∀ l:List Sx,FB l S=(match FB l S with|(b,c)=>bif c==0 then([]++b,0)else([],c))
 |[]=>by rw[FB];try rfl
 |x::l=>by
  rw[FB.eq_def];simp only;generalize Cp x S=A;obtain⟨a,c⟩:=A;simp only;cases z:c==0 with
  |false=>simp only[AJ,z]
  |true=>
   simp only[AB];generalize FB l S=B;obtain⟨b,c'⟩:=B;simp only;cases z':c'==0 with
   |false=>simp only[AJ,z']
   |true=>simp only[AB,DC,List.nil_append]
theorem XJ(S:E5)(k:Int)(a:Sx):(J6 S k a).1.length<=1:=by
 unfold J6;cases(Ey a).2.2==0<;>simp
theorem XK{S:E5}: ∀ l:List Sx,(∀ x∈l,(Cp x S).1.length<=x.nodes)->(FB l S).1.length<=Sx.Aq l
 |[],_=>by rw[FB];simp[Sx.Aq]
 |x::l,hx=>by
  have ih:=XK l (λy hy=>hx y (by simp[hy]));have h1:=hx x (by simp);rw[FB.eq_def];simp only[Sx.Aq];generalize Cp x S=A at*;obtain⟨a,c⟩:=A;simp only at h1⊢;cases c==0 with
  |false=>simp
  |true=>
   simp only[AB];generalize FB l S=B at*;obtain⟨b,c'⟩:=B;simp only at ih⊢;cases c'==0 with
   |false=>simp
   |true=>simp only[AB,List.length_append];omega
theorem QO: ∀ (n:Nat)(x:Sx),x.nodes<=n-> ∀ S:E5,(Cp x S).1.length<=x.nodes
 |0,x,h,_=>by have:=Sx.HG x;omega
 |n+1,.mk kind v l c t kids,h,S=>by
  have ih:=QO n;simp only[Sx.nodes]at h⊢;rw[Cp.eq_def];simp only;cases kind==3 with
  |false=>simp
  |true=>
   simp only[AB];cases kids with
   |nil=>simp
   |cons x rest=>
    have hx:=Sx.HG x;simp only[Sx.Aq]at h⊢;cases Az x==1 with
    |false=>simp
    |true=>
     simp only[AB];cases !(Fq (Af x)==0)with
     |true=>have:=m8 S (Fq (Af x)) rest;simp only[AB];omega
     |false=>
      simp only[AJ];cases A2 (Af x) HS with
      |true=>
       simp only[AB]
       match rest,h with
       |[],_=>simp
       |[_],_=>simp
       |[f,e],h=>
        simp only[Sx.Aq]at h⊢;cases(Cl f).2==0 with
        |false=>simp
        |true=>have:=ih e (by omega) ⟨S.params,S.Hc++[(Cl f).1]⟩;simp only[AB];omega
       |_::_::_::_,_=>simp
      |false=>
       simp only[AJ];cases A2 (Af x) DY with
       |true=>
        simp only[AB]
        match rest,h with
        |[],_=>simp
        |[_],_=>simp
        |[p,e],h=>
         simp only[Sx.Aq]at h⊢;cases Az p==3 with
         |false=>simp
         |true=>
          simp only[AB];cases(C5 true (BS p)).2==0 with
          |false=>simp
          |true=>have:=ih e (by omega) ⟨S.params++(C5 true (BS p)).1,S.Hc⟩;simp only[AB];omega
        |_::_::_::_,_=>simp
       |false=>
        simp only[AJ];cases A2 (Af x) Bl with
        |true=>
         have:=XK (S:=S) rest (λy hy=>ih y (by have:=Sx.NS hy;omega) S);simp only[AB];omega
        |false=>
         simp only[AJ];cases A2 (Af x) DU with
         |true=>
          simp only[AB]
          match rest with
          |[]=>simp
          |[a]=>have:=XJ S 2 a;simp only;omega
          |_::_::_=>simp
         |false=>
          have:=XJ S 1 (.mk kind v l c t (x::rest));simp only[AJ];omega
theorem mA{kids:List Sx}(hE: ∀ e∈kids,NF e)
  (hok:(Sx.mk kind value line col text kids).ok)(hsm:(Sx.mk kind value line col text kids).small):NF (.mk kind value line col text kids):=by
 intro P W hp hwl h;refine A6.CD Ty.Hm ?_;have hbg:=MA hok;have hda:=λh:A0=>Sp hok hsm h;have hks: ∀ z∈kids,z.ok:=by simp only[Sx.ok]at hok;exact Sx.Bs.1 hok.2.2.2.2
 have hkm: ∀ z∈kids,z.small:=by simp only[Sx.small]at hsm;exact Sx.Es.1 hsm.2
 generalize hF:Cp (.mk kind value line col text kids) ⟨P,W⟩=F;rw[Cp.eq_def]at hF;simp only at hF;simp only[Sx.nodes]at hp hwl;have hlen:=Sx.B3 kids;cases q:kind==3 with
 |false=>
  rw[q,AJ]at hF;subst hF;have hn:Br (.mk kind value line col text kids)=none:=by simp only[Br];rw[A7 (by simpa using q)]
  rw[hn]at hbg
  clear hE hda hok hsm hn;simp only[Sx.cells,MU]at hbg⊢;refine AD func53 ntmps53 results53 Ty.Hm ?_;refine wt q ?_;refine uU A4 (hbg _) ?_;refine wt yF ?_;exact⟨Gd (c:=2) rfl,AH.refl _⟩
 |true=>
  rw[q,AB]at hF;cases kids with
  |nil=>
   simp only at hF;subst hF;clear hE hda hbg hok hsm;simp only[Sx.cells,Sx.rows];refine AD func53 ntmps53 results53 Ty.Hm ?_;refine wt q ?_;refine⟨?_,AH.refl _⟩;simp only[AI,AN,AQ,DC,AB,Ag,List.map_nil];exact⟨_,rfl,.inr (.inl ⟨rfl,.inr rfl⟩),rfl,trivial⟩
  |cons x rest=>
   simp only at hF;have q5:(((Sx.rows (x::rest)).length:Int)==0)=false:=(by rw[hlen];simp;omega);have q0:((0:Int)<((Sx.rows (x::rest)).length:Int))=True:=Di (by rw[hlen];simp<;>omega);cases q1:Az x==1 with
   |false=>
    rw[q1,AJ]at hF;subst hF;have hn:Br (.mk kind value line col text (x::rest))=none:=(by simp only[Br];rw[AK (by simpa using q),q1];try rfl);rw[hn]at hbg;clear hE hda hok hsm hn;simp only[Sx.cells,MU]at hbg⊢;generalize Sx.rows (x::rest)=R at*;refine AD func53 ntmps53 results53 Ty.Hm ?_;refine wt (uu q q5) ?_;refine uU A4 (hbg _) ?_;refine wt yF ?_;exact⟨Gd (c:=2) rfl,AH.refl _⟩
   |true=>
    rw[q1,AB]at hF;have hn:Br (.mk kind value line col text (x::rest))=some (Af x,rest):=(by simp only[Br];rw[AK (by simpa using q),q1];try rfl);rw[hn]at hbg;clear hn;have r0:=Sx.CG (l:=x::rest) (i:=0) rfl;have hnl:=Sx.len_nodess rest;have hxn:=Sx.HG x;simp only[Sx.Aq]at hp hwl;have hnum:=λ(k:Int)(h:A0)=>lX (P:=P) (W:=W) (k:=k) (kind:=kind) (value:=value) (line:=line) (col:=col) (text:=text) (y:=x) (rest:=rest) (by omega) (by omega) (λz hz=>hks z (by simp[hz])) (λz hz=>hkm z (by simp[hz])) (by omega) h;have hwh:=λh:A0=>lr (P:=P) (W:=W) (kind:=kind) (value:=value) (line:=line) (col:=col) (text:=text) (y:=x) (rest:=rest) (λz hz=>hE z (by simp[hz])) (λz hz=>hks z (by simp[hz])) (by omega) (by omega) h;have hfa:=λh:A0=>lz (P:=P) (W:=W) (kind:=kind) (value:=value) (line:=line) (col:=col) (text:=text) (y:=x) (rest:=rest) (λz hz=>hE z (by simp[hz])) (λz hz=>hks z (by simp[hz])) (by omega) (by omega) h;have hcz:=λ(k:Int)(n:ByteArray)(a:List ByteArray)(h:A0)=>m7 (P:=P) (W:=W) (k:=k) (n:=n) (a:=a) (by omega) (by omega) h;simp only[Sx.cells,NO]at hbg hda⊢;have hkc:=λh:A0=>lU (w:=Af x) h;obtain⟨xk,xv,xl,xc,xt,xs⟩:=x;simp only[Af,Az]at hF q1 hkc;simp only[Sx.cells]at r0;generalize hR:Sx.rows (.mk xk xv xl xc xt xs::rest)=R at*;have q1b:(1:Int)<=(R.length:Int):=(by rw[hlen];simp<;>omega);have ht:List.take ((R.length:Int)-1).toNat (List.drop 1 R)=Sx.rows rest:=by
     rw[← hR];simp only[Sx.rows,List.drop_succ_cons,List.drop_zero,List.length_cons];rw[List.take_of_length_le (by omega)]
    have hll:=Sx.B3 rest;cases k0:Fq xt==0 with
    |false=>
     rw[k0,CB,AB]at hF;have e0:decide (0<Fq xt)=true:=by
      rcases XI xt with h|h|h|h<;>simp[h]at k0⊢
     have hn2:=hnum (Fq xt);rw[hF]at hn2;generalize Fq xt=kw at*;clear hE hok hsm hda hnum hwh hfa hcz hF hks hkm hR;obtain⟨fl,fe⟩:=F;refine AD func53 ntmps53 results53 Ty.Hm ?_;refine wt (uu q q5) ?_;refine uU A4 (hbg _) ?_;replace zz:=AW yT yF r0 q0;refine wt zz ?_;refine uU (uu r0 q0) (hkc _) ?_;refine wt e0 ?_;refine uU A4 (hn2 _) ?_;refine wt A4 ?_;exact⟨LI _ _ _ _,AH.refl _⟩
    |true=>
     rw[k0,Ax,AJ]at hF;have kz:Fq xt=0:=(by simpa using k0);have e0:decide ((0:Int)<0)=false:=rfl;rw[kz]at hkc;clear hnum kz k0;cases e1:A2 xt HS with
     |true=>
      rw[e1,AB]at hF;have e1:(xt.data.toList==[119,104,101,110])=true:=e1;change OY P W rest=F at hF;rw[hF]at hwh;clear hE hok hsm hda hfa hcz hF hks hkm hR;obtain⟨fl,fe⟩:=F;refine AD func53 ntmps53 results53 Ty.Hm ?_;refine wt (uu q q5) ?_;refine uU A4 (hbg _) ?_;replace zz:=AW yT yF r0 q0;refine wt zz ?_;refine uU (uu r0 q0) (hkc _) ?_;refine wt (uu e0 e1) ?_;refine uU A4 (hwh _) ?_;refine wt A4 ?_;exact⟨LI _ _ _ _,AH.refl _⟩
     |false=>
      rw[e1,AJ]at hF;have e1:(xt.data.toList==[119,104,101,110])=false:=e1;clear hwh;cases e2:A2 xt DY with
      |true=>
       rw[e2,AB]at hF;have e2:(xt.data.toList==[102,111,114,97,108,108])=true:=e2;change OZ P W rest=F at hF;rw[hF]at hfa;clear hE hok hsm hda hcz hF hks hkm hR;obtain⟨fl,fe⟩:=F;refine AD func53 ntmps53 results53 Ty.Hm ?_;refine wt (uu q q5) ?_;refine uU A4 (hbg _) ?_;replace zz:=AW yT yF r0 q0;refine wt zz ?_;refine uU (uu r0 q0) (hkc _) ?_;refine wt (AU e0 e1 e2) ?_;refine uU A4 (hfa _) ?_;refine wt A4 ?_;exact⟨LI _ _ _ _,AH.refl _⟩
      |false=>
       rw[e2,AJ]at hF;have e2:(xt.data.toList==[102,111,114,97,108,108])=false:=e2;clear hfa;cases e3:A2 xt Bl with
       |true=>
        rw[e3,AB]at hF;have e3:(xt.data.toList==[97,110,100])=true:=e3;refine AD func53 ntmps53 results53 Ty.Hm ?_;refine wt (uu q q5) ?_;refine uU A4 (hbg _) ?_;replace zz:=AW yT yF r0 q0;refine wt zz ?_;refine uU (uu r0 q0) (hkc _) ?_;replace zz:=BF e0 e1 e2 e3 q1b ht hll @CW @CX;refine wt zz ?_;clear hok hsm hks hkm hda hcz hbg hkc;refine By (λm S h'=>S 2= .Aj [.A1 2 (A8 P),.A1 6 (Fm.rows W)]/\S 69= .A1 6 (Sx.rows rest)/\S 70= qK rest.length/\ ∃ (k:Nat)(p:PV)(pre:List Ch),S 71= qK k/\S 8=p/\k<=rest.length/\m=rest.length-k/\AH h h'/\Tl h' h.next 15 p (Ag pre)/\pre.length+Sx.Aq (rest.drop k)<=Sx.Aq rest/\
         F=(match FB (rest.drop k) ⟨P,W⟩with|(b,c)=>bif c==0 then(pre++b,0)else([],c))) rest.length ?_ ?_
        ·simp only[Ty.w,simprocAttr];refine⟨0,_,[],rfl,rfl,by omega,rfl,AH.refl _,Tl.nil,by simp,?_⟩;rw[List.drop_zero, ← hF];exact m9 _ _
        ·clear hF;rintro m S h' ⟨g2,g69,g70,k,p,pre,g71,g8,hk,rfl,hg,tl,hpl,hinv⟩;by_cases hlt:k<rest.length
         ·have hd:decide ((k:Int)<(rest.length:Int))=true:=(by simp;omega);have w7:IntKind.i64.wrap ((k:Int)+1)=k+1:=(by rw[BM (by omega) (by omega)]);obtain⟨x,hx⟩: ∃ x,rest[k]? =some x:=⟨_,List.getElem?_eq_getElem hlt⟩;have hr:=Sx.CG hx;have hxm:=List.mem_of_getElem? hx;have hxe:=hE x (by simp[hxm]);have hxl:=Sx.NS hxm;have hxn:=QO _ x (AG _) ⟨P,W⟩;have hce:=hxe P W (by omega) (by omega);rw[Ca hx]at hinv hpl;simp only[Sx.Aq]at hpl;rw[FB.eq_def]at hinv;simp only at hinv;generalize Cp x ⟨P,W⟩=A at*;obtain⟨a,c⟩:=A;simp only at hinv hce hxn;have hxok:=hce;clear hE hxe hxm hxl;obtain⟨yk,yv,yl,yc,yt,ys⟩:=x;simp only[Sx.cells]at hce hr;cases z1:(c==0)with
          |false=>
           simp only[z1,AJ]at hinv;subst hinv;rw[KI z1]at hce;simp only[An]at hce;replace zz:=Ad g2 g69 g70 g71 g8 hd hr;refine wt zz ?_;replace zz:=Ah g2 g69 g70 g71 g8 hr;refine uU zz (hce _) ?_;replace zz:=Ah g2 g69 g70 g71 g8 @B4;refine wt zz ?_;exact⟨Gd z1,(hg.new _).set hg.le _⟩
          |true=>
           simp only[z1,AB]at hinv;rw[KJ z1]at hce;have hg2:AH h ((h'.new (.arr 6 [[qK 0,qK 0,qK 0,qK 0,.sc (.string ⟨#[]⟩),.sc (.slice none 0 0)]])).set h'.next (.arr 6 [[qK yk,qK yv,qK yl,qK yc,A3 yt,.A1 6 (Sx.rows ys)]])):=(hg.new _).set hg.le _;have tl2:=tl.up (h':=((h'.new (.arr 6 [[qK 0,qK 0,qK 0,qK 0,.sc (.string ⟨#[]⟩),.sc (.slice none 0 0)]])).set h'.next (.arr 6 [[qK yk,qK yv,qK yl,qK yc,A3 yt,.A1 6 (Sx.rows ys)]]))) (by simp[A0.new,A0.set]) λj _ hj=>by
            simp only[A0.set,A0.new];rw[A7 (by omega),A7 (by omega)]
           obtain⟨H,t1,t2,t3,t4,t5⟩:=tl2.tail;have hpr:(Ag pre).length=pre.length:=(by simp[Ag]);have hpa:(Ag a).length=a.length:=(by simp[Ag]);have hb:((Ag pre).length+(Ag a).length)*304<=140737488355328:=(by omega);replace zz:=Ad g2 g69 g70 g71 g8 hd hr;refine wt zz ?_;replace zz:=Ah g2 g69 g70 g71 g8 hr;refine uU zz (hce _) ?_;replace zz:=BJ g2 g69 g70 g71 g8 w7 t1 t2;(repeat'(first|refine cK ?_|refine nK ?_|refine Ai λK hK=>?_|refine uR zz ?_|refine uQ zz λK hK=>?_|refine uK ?_|refine C3 zz ?_|(refine uN hK ?_;clear hK)|(rw[AK];rotate_left 1;omega;simp only[Ty.w,simprocAttr,g2,g69,g70,g71,g8,w7,t1,t2])|apply zI));have t3':H.next=h'.next+1:=by rw[t3];simp[A0.new,A0.set]
           have hkp:=t5 h ⟨hg2.le,hg2.B1⟩ (AG _);have hgH:AH h H:=⟨hkp.1,hkp.2⟩;have hap:Ag pre++Ag a=Ag (pre++a):=(by simp[Ag]);rw[hap];refine⟨rest.length-(k+1),by omega,k+1,.own H.next 0 ((Ag pre).length+(Ag a).length),pre++a,by simp,by rw[t3'],by omega,rfl,hgH.new _,Tl.grow hkp.1 (by simp[Ag]),by simp only[List.length_append];omega,?_⟩;rw[hinv];generalize FB (List.drop (k+1) rest) ⟨P,W⟩=B;obtain⟨b,c'⟩:=B;cases hq:c'==0 with
           |false=>simp only[hq,AJ]
           |true=>simp only[hq,AB,DC,List.append_assoc]
         ·have hd:decide ((k:Int)<(rest.length:Int))=false:=(by simp;omega);rw[List.drop_eq_nil_of_le (by omega),FB]at hinv;simp only[DC,AB,List.append_nil]at hinv;replace zz:=Ah g2 g69 g70 g71 g8 hd;refine wt zz ?_;subst hinv;refine⟨?_,hg⟩;have h1:=tl.frzR (AG _) (XF h.next h' pre);have e2:AQ 0= .sc .nilIface:=rfl;simp only[e2];unfold AI;refine⟨_,rfl,?_⟩;unfold AN;refine⟨h1,?_⟩;unfold AN;exact⟨by simp only[AI],by simp only[AN]⟩
       |false=>
        rw[e3,AJ]at hF;have e3:(xt.data.toList==[97,110,100])=false:=e3;cases e4:A2 xt DU with
        |true=>
         rw[e4,AB]at hF;have e4:(xt.data.toList==[110,111,116])=true:=e4;clear hda hE;cases q6:((R.length:Int) !=2)with
         |true=>
          have e:F=([],2):=by
           rw[← hF]
           match rest,q6,hlen with
           |[],_,_=>rfl
           |[_],q,hlen=>rw[hlen]at q;simp at q
           |_::_::_,_,_=>rfl
          subst e;clear hks hkm hok hsm hcz hF hR ht;refine AD func53 ntmps53 results53 Ty.Hm ?_;refine wt (uu q q5) ?_;refine uU A4 (hbg _) ?_;replace zz:=AW yT yF r0 q0;refine wt zz ?_;refine uU (uu r0 q0) (hkc _) ?_;replace zz:=Ah e0 e1 e2 e3 e4 q6;refine wt zz ?_;exact⟨Gd (c:=2) rfl,AH.refl _⟩
         |false=>
          obtain⟨a,rfl⟩: ∃ a,rest=[a]:=by
           match rest,q6,hlen with
           |[],q,hlen=>rw[hlen]at q;simp at q
           |[a],_,_=>exact⟨a,rfl⟩
           |_::_::l,q,hlen=>rw[hlen]at q;simp at q;omega
          have ca:=λh:A0=>Sp (hks a (by simp)) (hkm a (by simp)) h;have r1:=Sx.CG (l:=[.mk xk xv xl xc xt xs,a]) (i:=1) rfl;have d1:((1:Int)<(R.length:Int))=True:=Di (by rw[hlen];simp);rw[hR]at r1;clear hks hkm hok hsm hR ht;simp only at hF;unfold J6 at hF;generalize Ey a=A at hF ca;obtain⟨an,aa,ac⟩:=A;obtain⟨ak,av,al,acc,at_,as_⟩:=a;simp only[MC,Sx.cells]at hF ca r1;cases z1:(ac==0)with
          |false=>
           rw[z1,AJ]at hF;subst hF;rw[KI z1]at ca;clear hcz;simp only[An]at ca;refine AD func53 ntmps53 results53 Ty.Hm ?_;refine wt (uu q q5) ?_;refine uU A4 (hbg _) ?_;replace zz:=AW yT yF r0 q0;refine wt zz ?_;refine uU (uu r0 q0) (hkc _) ?_;replace zz:=AY yT yF r0 q0 e0 e1 e2 e3 e4 q6 r1 d1;refine wt zz ?_;refine uU (uu r1 d1) (ca _) ?_;refine wt (AU @B4 yF yT) ?_;exact⟨Gd z1,AH.refl _⟩
          |true=>
           rw[z1,AB]at hF;subst hF;rw[KJ z1]at ca;have hcz:=hcz 2 an aa;generalize FN ⟨P,W⟩ 2 an aa C2=C at*;obtain⟨ck,cp,⟨gop,gna,gar,gpa,gex,gki⟩,cn,cas,⟨eop,ena,en,ear,eki⟩⟩:=C;simp only[CZ,Fm.cells,Ex.cells,List.cons_append,List.nil_append]at hcz;refine AD func53 ntmps53 results53 Ty.Hm ?_;refine wt (uu q q5) ?_;refine uU A4 (hbg _) ?_;replace zz:=AW yT yF r0 q0;refine wt zz ?_;refine uU (uu r0 q0) (hkc _) ?_;replace zz:=AY yT yF r0 q0 e0 e1 e2 e3 e4 q6 r1 d1;refine wt zz ?_;refine uU (uu r1 d1) (ca _) ?_;refine wt (AU @B4 yF yT) ?_;refine uU (uu r1 d1) (hcz _) ?_;refine wt (uu r1 d1) ?_;exact⟨LI _ _ [_] 0,AH.refl _⟩
        |false=>
         rw[e4,AJ]at hF;have e4:(xt.data.toList==[110,111,116])=false:=e4;clear hE hks hkm hok hsm;unfold J6 at hF;generalize Ey (.mk kind value line col text (.mk xk xv xl xc xt xs::rest))=A at hF hda;obtain⟨an,aa,ac⟩:=A;simp only[MC]at hF hda;have ca:=hda;clear hda;clear hR;cases z1:(ac==0)with
         |false=>
          rw[z1,AJ]at hF;subst hF;rw[KI z1]at ca;clear hcz;simp only[An]at ca;refine AD func53 ntmps53 results53 Ty.Hm ?_;refine wt (uu q q5) ?_;refine uU A4 (hbg _) ?_;replace zz:=AW yT yF r0 q0;refine wt zz ?_;refine uU (uu r0 q0) (hkc _) ?_;replace zz:=BF yT yF r0 q0 e0 e1 e2 e3 e4;refine wt zz ?_;refine uU A4 (ca _) ?_;refine wt (AU @B4 yF yT) ?_;exact⟨Gd z1,AH.refl _⟩
         |true=>
          rw[z1,AB]at hF;subst hF;rw[KJ z1]at ca;have hcz:=hcz 1 an aa;generalize FN ⟨P,W⟩ 1 an aa C2=C at*;obtain⟨ck,cp,⟨gop,gna,gar,gpa,gex,gki⟩,cn,cas,⟨eop,ena,en,ear,eki⟩⟩:=C;simp only[CZ,Fm.cells,Ex.cells,List.cons_append,List.nil_append]at hcz;refine AD func53 ntmps53 results53 Ty.Hm ?_;refine wt (uu q q5) ?_;refine uU A4 (hbg _) ?_;replace zz:=AW yT yF r0 q0;refine wt zz ?_;refine uU (uu r0 q0) (hkc _) ?_;replace zz:=BF yT yF r0 q0 e0 e1 e2 e3 e4;refine wt zz ?_;refine uU A4 (ca _) ?_;refine wt (AU @B4 yF yT) ?_;refine uU A4 (hcz _) ?_;refine wt A4 ?_;exact⟨LI _ _ [_] 0,AH.refl _⟩
theorem XL: ∀ (n:Nat)(x:Sx),x.nodes<=n->x.ok->x.small->NF x
 |0,x,h,_,_=>by have:=Sx.HG x;omega
 |n+1,.mk kind value line col text kids,h,hok,hsm=>by
  have hks: ∀ z∈kids,z.ok:=by simp only[Sx.ok]at hok;exact Sx.Bs.1 hok.2.2.2.2
  have hkm: ∀ z∈kids,z.small:=by simp only[Sx.small]at hsm;exact Sx.Es.1 hsm.2
  refine mA (λe he=>XL n e ?_ (hks e he) (hkm e he)) hok hsm;have:=Sx.NS he;simp only[Sx.nodes]at h;omega
theorem mB(hok:x.ok)(hsm:x.small):NF x:=XL _ x (AG _) hok hsm
set_option maxHeartbeats 2000000
structure E5.Ka(S:E5)(n:Nat):Prop where
 params: ∀ p∈S.params,p.ok
 Qr:S.params.length+n<=1048576
 Hc: ∀ f∈S.Hc,f.ok/\f.small
 Qs:S.Hc.length+n<=1048576
theorem E5.Ka.mono{n:Nat}(h:S.Ka n)(hm:m<=n):S.Ka m:=⟨h.params,by have:=h.Qr;omega,h.Hc,by have:=h.Qs;omega⟩
theorem XM:Bu.ok/\Bu.small:=KD (by decide) (by decide) (by simp) (by simp) (by simp) (by simp) (by simp) (by simp) (by simp) (by simp)
theorem mC{l:List Fm}(h: ∀ f∈l,f.ok/\f.small)(hl:l.length<=1048576):(QI l).ok/\(QI l).small:=by
 match l,h,hl with
 |[],_,_=>exact XM
 |[f],h,_=>exact h f (by simp)
 |f::g::l,h,hl=>exact KD (by decide) (by decide) (by simp) (by simp) (by simp) (by simp) (by simp) (by simp) hl h
theorem XN(hS:S.Ka m){k:Int}{n:ByteArray}{a:List ByteArray}{v:Ex}(hk:0<=k/\k<=5)(hn:n.size<=AF)(ha:a.length<=1048576)(has: ∀ s∈a,s.size<=AF)(hv:v.ok/\v.small):(FN S k n a v).ok/\Fe (FN S k n a v):=by
 have hc:=mC hS.Hc (by have:=hS.Qs;omega);have hp:=hS.Qr;refine⟨⟨⟨by simp only[FN,AF];omega,hS.params⟩,hc.1,⟨by simp only[FN,AF];omega,has⟩,hv.1,hn,by simp only[FN];omega⟩,⟨hc.2,hv.2,by simp only[FN];omega,ha⟩⟩
theorem XO(hok:x.ok)(hsm:x.small):(Ey x).1.size<=AF/\(Ey x).2.1.length<=1048576/\ ∀ s∈(Ey x).2.1,s.size<=AF:=by
 unfold Ey;cases hD:Br x with
 |none=>exact⟨by decide,by simp,by simp⟩
 |some wl=>
  obtain⟨w,l⟩:=wl;obtain⟨h1,h2,h3⟩:=LH hok hsm hD;have ht:=OC h3;simp only;cases As w with
  |false=>exact⟨(by decide:(⟨#[]⟩:ByteArray).size<=AF),by simp,by simp⟩
  |true=>
   simp only[AB];cases(CM l).2==0 with
   |false=>exact⟨(by decide:(⟨#[]⟩:ByteArray).size<=AF),by simp,by simp⟩
   |true=>exact⟨h1,by simp only[AB];omega,ht.1⟩
theorem mD(hok:x.ok):(H6 x).1.ok/\(H6 x).1.small:=by
 unfold H6;split
 ·rename_i h;split
  ·split
   ·exact Q3 x hok (Kx h)
   ·exact J1
  ·exact J1
 ·exact J1
theorem XP(hS:S.Ka m){k:Int}(hk:0<=k/\k<=5){a:Sx}(hok:a.ok)(hsm:a.small): ∀ c∈(J6 S k a).1,c.ok/\Fe c:=by
 unfold J6;obtain⟨h1,h2,h3⟩:=XO hok hsm;cases(Ey a).2.2==0 with
 |false=>simp
 |true=>
  intro c hc;simp only[AB,List.mem_singleton]at hc;subst hc;exact XN hS hk h1 h2 h3 J1
theorem mE{S:E5}{m:Nat}(hS:S.Ka m){k:Int}(hk:0<=k/\k<=5): ∀ {l:List Sx},(∀ x∈l,x.ok)->(∀ x∈l,x.small)-> ∀ c∈(Ga S k l).1,c.ok/\Fe c
 |[],_,_=>by simp[Ga]
 |[_],_,_=>by simp[Ga]
 |[a,e],hok,hsm=>by
  obtain⟨h1,h2,h3⟩:=XO (hok a (by simp)) (hsm a (by simp));have hv:=mD (hok e (by simp));simp only[Ga];cases(Ey a).2.2==0 with
  |false=>simp
  |true=>
   cases(H6 e).2==0 with
   |false=>simp
   |true=>
    intro c hc;simp only[AB,List.mem_singleton]at hc;subst hc;exact XN hS hk h1 h2 h3 hv
 |_::_::_::_,_,_=>by simp[Ga]
theorem XQ{S:E5}: ∀ l:List Sx,(∀ x∈l, ∀ c∈(Cp x S).1,c.ok/\Fe c)-> ∀ c∈(FB l S).1,c.ok/\Fe c
 |[],_=>by rw[FB];simp
 |x::l,hx=>by
  have ih:=XQ l (λy hy=>hx y (by simp[hy]));have h1:=hx x (by simp);rw[FB.eq_def];simp only;generalize Cp x S=A at*;obtain⟨a,c⟩:=A;simp only at h1⊢;cases c==0 with
  |false=>simp
  |true=>
   simp only[AB];generalize FB l S=B at*;obtain⟨b,c'⟩:=B;simp only at ih⊢;cases c'==0 with
   |false=>simp
   |true=>
    simp only[AB,List.mem_append];rintro d (hd|hd)
    ·exact h1 d hd
    ·exact ih d hd
theorem Sr: ∀ (n:Nat)(x:Sx),x.nodes<=n-> ∀ S:E5,x.ok->x.small->S.Ka x.nodes-> ∀ c∈(Cp x S).1,c.ok/\Fe c
 |0,x,h,_=>by have:=Sx.HG x;omega
 |n+1,.mk kind v l c t kids,h,S=>by
  intro hok hsm hS;have ih:=Sr n;have hks: ∀ z∈kids,z.ok:=by simp only[Sx.ok]at hok;exact Sx.Bs.1 hok.2.2.2.2
  have hkm: ∀ z∈kids,z.small:=by simp only[Sx.small]at hsm;exact Sx.Es.1 hsm.2
  simp only[Sx.nodes]at h hS;rw[Cp.eq_def];simp only;cases kind==3 with
  |false=>simp
  |true=>
   simp only[AB];cases kids with
   |nil=>simp
   |cons x rest=>
    have hx:=Sx.HG x;simp only[Sx.Aq]at h hS;simp only;cases Az x==1 with
    |false=>simp
    |true=>
     simp only[AB];cases hk0:!(Fq (Af x)==0)with
     |true=>
      simp only[AB];exact mE (k:=Fq (Af x)) hS (by rcases XI (Af x)with h|h|h|h<;>omega) (λz hz=>hks z (by simp[hz])) (λz hz=>hkm z (by simp[hz]))
     |false=>
      simp only[AJ];cases A2 (Af x) HS with
      |true=>
       simp only[AB]
       match rest,h,hS,hks,hkm with
       |[],_,_,_,_=>simp
       |[_],_,_,_,_=>simp
       |[f,e],h,hS,hks,hkm=>
        simp only[Sx.Aq]at h hS;simp only;have hfn:=Sx.HG f;have hf:=Sj (hks f (by simp));cases(Cl f).2==0 with
        |false=>simp
        |true=>
         simp only[AB];refine ih e (by omega) _ (hks e (by simp)) (hkm e (by simp)) ⟨hS.params,?_,?_,?_⟩
         ·have:=hS.Qr;simp only;omega
         ·intro g hg;simp only[List.mem_append,List.mem_singleton]at hg;rcases hg with hg|rfl
          ·exact hS.Hc g hg
          ·exact hf
         ·have:=hS.Qs;simp only[List.length_append,List.length_cons,List.length_nil];omega
       |_::_::_::_,_,_,_,_=>simp
      |false=>
       simp only[AJ];cases A2 (Af x) DY with
       |true=>
        simp only[AB]
        match rest,h,hS,hks,hkm with
        |[],_,_,_,_=>simp
        |[_],_,_,_,_=>simp
        |[p,e],h,hS,hks,hkm=>
         simp only[Sx.Aq]at h hS;simp only;cases Az p==3 with
         |false=>simp
         |true=>
          simp only[AB];have hpo:=hks p (by simp);obtain⟨pk,pv,pl,pc,pt,ps⟩:=p;simp only[Sx.ok]at hpo;simp only[BS];simp only[Sx.nodes]at h hS;have hpl:=Si true ps.length ps (AG _) (Sx.Bs.1 hpo.2.2.2.2) [] [] (by simp) (by simp);simp only[List.length_nil,C7]at hpl;have hln:=Sx.len_nodess ps;change (∀ p∈(C5 true ps).1,p.ok)/\(C5 true ps).1.length<=ps.length at hpl;cases(C5 true ps).2==0 with
          |false=>simp
          |true=>
           simp only[AB];refine ih e (by omega) _ (hks e (by simp)) (hkm e (by simp)) ⟨?_,?_,hS.Hc,?_⟩
           ·intro g hg;simp only[List.mem_append]at hg;rcases hg with hg|hg
            ·exact hS.params g hg
            ·exact hpl.1 g hg
           ·have:=hS.Qr;simp only[List.length_append];omega
           ·have:=hS.Qs;simp only;omega
        |_::_::_::_,_,_,_,_=>simp
       |false=>
        simp only[AJ];cases A2 (Af x) Bl with
        |true=>
         simp only[AB];refine XQ rest λy hy=>?_;have:=Sx.NS hy;exact ih y (by omega) S (hks y (by simp[hy])) (hkm y (by simp[hy])) (hS.mono (by omega))
        |false=>
         simp only[AJ];cases A2 (Af x) DU with
         |true=>
          simp only[AB]
          match rest,hks,hkm with
          |[],_,_=>simp
          |[a],hks,hkm=>exact XP hS (by omega) (hks a (by simp)) (hkm a (by simp))
          |_::_::_,_,_=>simp
         |false=>
          simp only[AJ];exact XP hS (by omega) hok hsm
theorem XR:(Sx.mk 0 0 0 0 ⟨#[]⟩ []).ok:=⟨⟨by decide,by decide⟩,⟨by decide,by decide⟩,by decide,by simp,trivial⟩
theorem Oa(h:f.ok)(hs:f.small):(BH f).ok:=by
 unfold BH;cases hv:Bf f with
 |false=>exact XR
 |true=>exact Wu f h hs (J5 hv)
theorem mF(h:e.ok)(hs:e.small):(J7 e).ok:=by
 unfold J7;cases Ei e with
 |false=>exact XR
 |true=>exact Rv e h hs
theorem XS{a b:Sx}(ha:a.ok)(hb:b.ok):(AC [a,b]).ok:=GK (by simp[AF]) ⟨ha,hb,trivial⟩
theorem Ss{a b c:Sx}(ha:a.ok)(hb:b.ok)(hc:c.ok):(AC [a,b,c]).ok:=GK (by simp[AF]) ⟨ha,hb,hc,trivial⟩
theorem mG(k:Int):(A5 (Ja k)).ok:=by
 unfold Ja;cases k==3<;>cases k==4<;>exact DB (by decide)
theorem mH(h:c.ok)(hs:Fe c):(IV c).ok:=by
 have hw:(Cu c.name c.args).ok:=Q0 h.name hs.args h.args.2;unfold IV;cases c.kind==1 with
 |true=>exact hw
 |false=>
  simp only[AJ];cases c.kind==2 with
  |true=>exact XS (DB (by decide)) hw
  |false=>
   simp only[AJ];cases c.kind==3||c.kind==4||c.kind==5 with
   |true=>exact Ss (mG _) hw (mF h.value hs.value)
   |false=>exact hw
theorem mI(h:c.ok)(hs:Fe c):(IW c).ok:=by
 have h1:=mH h hs;unfold IW;cases BX c.cond with
 |true=>exact h1
 |false=>exact Ss (DB (by decide)) (Oa h.cond hs.cond) h1
theorem mJ(h:c.ok)(hs:Fe c):(FC c).ok:=by
 have h2:=mI h hs;unfold FC;cases c.params.isEmpty with
 |true=>exact h2
 |false=>exact Ss (DB (by decide)) (GK (by rw[H5];have:=hs.params;unfold AF;omega) (L8 _ h.params.2)) h2
theorem QP(hl:l.length<=1048576)(h: ∀ c∈l,c.ok/\Fe c):(Bx l).ok:=by
 unfold Bx;cases l.isEmpty with
 |true=>exact GK (by simp) trivial
 |false=>
  refine GK (by simp only[List.length_cons,List.length_map,AF];omega) ⟨DB (by decide),?_⟩;rw[Sx.Bs];intro k hk;rw[List.mem_map]at hk;obtain⟨c,hc,rfl⟩:=hk;exact mJ (h c hc).1 (h c hc).2
theorem MD{s w:ByteArray}(h:As s=true)(hw:w∈HJ):A2 s w=false:=by
 unfold As at h;simp only[AV,EI,List.any_eq_false]at h;simpa using h.2 w hw
theorem XT(hn:As n=true)(ha:a.all CH=true):Ey (Cu n a)=(n,a,0):=by
 have e:Br (Cu n a)=some (n,a.map A5):=rfl;unfold Ey;rw[e];simp only[hn,AB,OB a ha,DC]
theorem XU(hn:As n=true)(ha:a.all CH=true):J6 S k (Cu n a)=([FN S k n a C2],0):=by
 unfold J6;rw[XT hn ha];try rfl
theorem mK(hn:As n=true):Fq n=0:=by
 unfold Fq;rw[MD hn (w:=JX) (by simp[HJ,JX]),MD hn (w:=JY) (by simp[HJ,JY]),MD hn (w:=JZ) (by simp[HJ,JZ])];try rfl
theorem mL(hn:As n=true)(ha:a.all CH=true):Cp (Cu n a) S=([FN S 1 n a C2],0):=by
 have e:Cu n a= .mk 3 0 0 0 ⟨#[]⟩ (A5 n::a.map A5):=rfl;have ho:=XU (S:=S) (k:=1) hn ha;rw[e]at ho⊢;rw[Cp.eq_def];have k1:Az (A5 n)=1:=rfl;have k2:Af (A5 n)=n:=rfl;simp only[k1,k2,mK hn,MD hn (w:=HS) (by simp[HJ,HS]),MD hn (w:=DY) (by simp[HJ,DY]),MD hn (w:=Bl) (by simp[HJ,Bl]),MD hn (w:=DU) (by simp[HJ,DU]),DC,AB,AJ,Ax];exact ho
theorem mM(x:Sx):Cp (AC [A5 DU,x]) S=J6 S 2 x:=by
 have e:AC [A5 DU,x]= .mk 3 0 0 0 ⟨#[]⟩ [A5 DU,x]:=rfl;rw[e,Cp.eq_def];try rfl
theorem mN(hk:k=3\/k=4\/k=5)(x y:Sx):Cp (AC [A5 (Ja k),x,y]) S=Ga S k [x,y]:=by
 have e:AC [A5 (Ja k),x,y]= .mk 3 0 0 0 ⟨#[]⟩ [A5 (Ja k),x,y]:=rfl;rw[e,Cp.eq_def];rcases hk with rfl|rfl|rfl<;>rfl
theorem mO(f x:Sx):Cp (AC [A5 HS,f,x]) S=bif (Cl f).2==0 then Cp x ⟨S.params,S.Hc++[(Cl f).1]⟩else([],(Cl f).2):=by
 have e:AC [A5 HS,f,x]= .mk 3 0 0 0 ⟨#[]⟩ [A5 HS,f,x]:=rfl;rw[e,Cp.eq_def];try rfl
theorem mP(l:List Sx)(x:Sx):Cp (AC [A5 DY,AC l,x]) S=bif (C5 true l).2==0 then Cp x ⟨S.params++(C5 true l).1,S.Hc⟩else([],(C5 true l).2):=by
 have e:AC [A5 DY,AC l,x]= .mk 3 0 0 0 ⟨#[]⟩ [A5 DY,AC l,x]:=rfl;rw[e,Cp.eq_def];try rfl
theorem mQ(l:List Sx):Cp (AC (A5 Bl::l)) S=FB l S:=by
 have e:AC (A5 Bl::l)= .mk 3 0 0 0 ⟨#[]⟩ (A5 Bl::l):=rfl;rw[e,Cp.eq_def];try rfl
theorem XV(h:e.same C2=true):e=C2:=by
 obtain⟨op,na,n,a,k⟩:=e;simp only[C2,Ex.same,AV,F0]at h;obtain⟨⟨⟨⟨h1,h2⟩,h3⟩,h4⟩,h5⟩:=h;have e1:=ED h1;have e2:=ED h2;have e4:a=[]:=by cases a<;>simp_all [FX]
 have e5:k=[]:=by cases k<;>simp_all [Ex.DO]
 rw[e1,e2,h3,e4,e5];try rfl
theorem LJ(h:BX f=true):f=Bu:=by
 obtain⟨op,na,a,p,e,k⟩:=f;simp only[BX,Bu,Fm.same,AV]at h;obtain⟨⟨⟨⟨⟨h1,h2⟩,h3⟩,h4⟩,h5⟩,h6⟩:=h;have e1:=ED h1;have e2:=ED h2;have e3:a=[]:=by cases a<;>simp_all [FX]
 have e4:p=[]:=by cases p<;>simp_all [Dq]
 have e5:e=[]:=by cases e<;>simp_all [Ex.DO]
 have e6:k=[]:=by cases k<;>simp_all [Fm.DO]
 rw[e1,e2,e3,e4,e5,e6];try rfl
theorem XW(h:Ei e=true):FJ e=true:=by
 unfold Ei at h;simp only[AV]at h;exact O9 e 0 0 h.1
theorem mR(h:CA c=true)(S:E5):Cp (IV c) S=([FN S c.kind c.name c.args c.value],0):=by
 unfold CA at h;simp only[AV]at h;obtain⟨⟨⟨⟨hn,ha⟩,hv⟩,_⟩,_⟩:=h;unfold IV;cases k1:c.kind==1 with
 |true=>
  rw[k1]at hv;have hz:=XV (by simpa using hv);have hk:c.kind=1:=by simpa using k1
  rw[AB,mL hn ha,hz,hk]
 |false=>
  rw[k1]at hv;simp only[AJ,Cx]at hv⊢;cases k2:c.kind==2 with
  |true=>
   rw[k2]at hv;have hz:=XV (by simpa using hv);have hk:c.kind=2:=(by simpa using k2);rw[AB,mM,XU hn ha,hz,hk]
  |false=>
   rw[k2]at hv;simp only[AJ]at hv⊢;cases k3:c.kind==3||c.kind==4||c.kind==5 with
   |false=>rw[k3]at hv;simp at hv
   |true=>
    rw[k3,AB]at hv;have hk:c.kind=3\/c.kind=4\/c.kind=5:=by
     simp only[EH,F0]at k3;omega
    have hx:J7 c.value=BG c.value:=(by unfold J7;rw[hv];try rfl);rw[AB,mN hk,hx];simp only[Ga];rw[XT hn ha,j8 hv (XW hv)];try rfl
theorem mS(h:CA c=true):Cp (FC c) ⟨[],[]⟩=([c],0):=by
 have h1:=mR h;unfold CA at h;simp only[AV]at h;obtain⟨⟨_,hf⟩,hp⟩:=h;have h2: ∀ P:List Pm,Cp (IW c) ⟨P,[]⟩=([⟨c.kind,P,c.cond,c.name,c.args,c.value⟩],0):=by
  intro P;unfold IW;cases q:BX c.cond with
  |true=>
   rw[AB,h1];have:=LJ q;simp only[FN,QI,this]
  |false=>
   rw[q,Cx]at hf;have hx:BH c.cond=Ao c.cond:=(by unfold BH;rw[hf];try rfl);rw[AJ,mO,hx,OO hf,h1];try rfl
 unfold FC;cases q:c.params.isEmpty with
 |true=>
  rw[AB,h2];have:c.params=[]:=List.isEmpty_iff.1 q;obtain⟨kd,P,cd,n,a,v⟩:=c;simp only at this;rw[this]
 |false=>
  rw[AJ,mP,SC (l:=c.params) ?_]
  ·simp only[DC,AB,List.nil_append];rw[h2]
  ·rw [List.all_eq_true]at hp⊢;intro x hx;have:=hp x hx;unfold BO at this;unfold Hp Gm;rw[Yz];simpa using this
theorem XX: ∀ l:List Ch,l.all CA=true->FB (l.map FC) ⟨[],[]⟩=(l,0)
 |[],_=>by rw[List.map_nil,FB]
 |c::l,h=>by
  simp only[List.all_cons,AV]at h;rw[List.map_cons,FB.eq_def];simp only[mS h.1,XX l h.2];rfl
theorem mT(h:l.all CA=true):Cp (Bx l) ⟨[],[]⟩=(l,0):=by
 unfold Bx;cases l with
 |nil=>rfl
 |cons c l=>exact(mQ _).trans (XX _ h)
theorem Su(h:Gb l=true):En (Bx l)=(l,0):=by
 have h':=h;unfold Gb at h';simp only[AV]at h';unfold En;rw[AK h'.2,mT h'.1];simp only[AO,h]
def VS(x:Sx):Prop:=HO x=true/\x.depth<=32/\x.nodes<=4096
theorem KL:(CJ x 0 0).1=true↔VS x:=by
 have:=(JO x 0 0 (by omega) (by omega)).1;simpa[VS]using this
theorem XY{k:Sx}: ∀ {l:List Sx},J0 l=true->k∈l->HO k=true
 |x::l,h,hk=>by
  simp only[J0,AV]at h;rcases List.mem_cons.1 hk with rfl|hk
  ·exact h.1
  ·exact XY h.2 hk
theorem XZ{k:Sx}: ∀ {l:List Sx}(n:Nat),k∈l->k.depth<=Sx.DW n l
 |x::l,n,hk=>by
  simp only[Sx.DW];rcases List.mem_cons.1 hk with rfl|hk
  ·exact ER (Nat.le_max_right _ _) (Sx.TW l _)
  ·exact XZ _ hk
theorem Gn{l:List Sx}(h:VS (AC l)){k:Sx}(hk:k∈l):VS k:=by
 obtain⟨h1,h2,h3⟩:=h;simp only[AC,HO,AV]at h1;simp only[AC,Sx.depth]at h2;simp only[AC,Sx.nodes]at h3;have n1:=Sx.NS hk;have d1:=XZ 0 hk;refine⟨?_,?_,by omega⟩
 ·simp at h1;exact XY h1 hk
 ·simp only[AO]at h2;omega
theorem mU(hs:FJ e=true)(h:VS (BG e)):Ei e=true:=by
 have hn:(BG e).nodes<=AF:=by have:=h.2.2;unfold AF;omega
 rw[jt hn,hs, ← M5 hn,KL.2 h];try rfl
theorem Sv(hs:DI f=true)(h:VS (Ao f)):Bf f=true:=by
 have hn:(Ao f).nodes<=AF:=by have:=h.2.2;unfold AF;omega
 rw[lP hn,hs, ← M5 hn,KL.2 h];try rfl
theorem Xa(c:Ch):DI (IX c)=(As c.name&&c.args.all CH):=by
 simp[IX,DI,Fb,EC,FA,Hu,K6]
theorem mV(c:Ch):Ao (IX c)=Cu c.name c.args:=by
 simp[IX,Ao,Hu]
theorem ME(h:DI f=true):IY f=BX f:=by
 cases ha:BX f with
 |true=>rw[LJ ha];try rfl
 |false=>
  cases ht:IY f with
  |false=>rfl
  |true=>
   exfalso;obtain⟨op,na,a,p,e,k⟩:=f;simp only[IY,AV]at ht;have e1:=ED ht.1;have e2:k=[]:=by
    have:=ht.2;simp only[Fm.B3,F0]at this;cases k with
    |nil=>rfl
    |cons x k=>simp only[List.length_cons]at this;omega
   subst e1 e2;simp only[DI,Fb,AV]at h;have hs:EC Bl ([]:List Fm).length=some (0,0,false):=rfl;rw[hs]at h;have ht2:FA Bl na a=(HM na&&a.isEmpty):=rfl;simp only[ht2,AV,GD,Ba,List.isEmpty_iff]at h;obtain⟨⟨⟨⟨⟨⟨⟨h1,h2⟩,h3⟩,h4⟩,h5⟩,h6⟩,h7⟩,h8⟩:=h;have e3:e=[]:=List.length_eq_zero_iff.1 h3;have e4:na=⟨#[]⟩:=ED h1;subst h2 e3 h5 e4;simp[BX,Bu,Fm.same,Hu,FX,Dq,Ex.DO,Fm.DO]at ha
theorem Xb(p:Pm):BO true p=IP true p:=by
 unfold BO IP Gm;simp only[AB,AO];rw[Yz]
theorem mW(h:CA c=true):1<=c.kind/\c.kind<=5:=by
 unfold CA at h;simp only[AV]at h;obtain⟨⟨⟨_,hv⟩,_⟩,_⟩:=h;cases k1:c.kind==1||c.kind==2 with
 |true=>
  simp only[EH,F0]at k1;omega
 |false=>
  rw[k1,AJ]at hv;cases k3:c.kind==3||c.kind==4||c.kind==5 with
  |false=>rw[k3]at hv;simp at hv
  |true=>
   simp only[EH,F0]at k3;omega
theorem Xc(h:CA c=true):Jb c=true/\FC c=N8 c:=by
 have hk:=mW h;unfold CA at h;simp only[AV]at h;obtain⟨⟨⟨⟨hn,ha⟩,hv⟩,hf⟩,hp⟩:=h;have hat:DI (IX c)=true:=by rw[Xa,hn,ha];try rfl
 have hcs:DI c.cond=true:=by
  simp only[EH]at hf;rcases hf with hf|hf
  ·rw [LJ hf];try rfl
  ·exact J5 hf
 have hpp:c.params.all (IP true)=true:=by
  rw[List.all_eq_true]at hp⊢;intro x hx;rw[← Xb];exact hp x hx
 have hval:(bif decide (c.kind<=2)then c.value.same C2 else FJ c.value)=true/\(2<c.kind->J7 c.value=BG c.value):=by
  cases k1:c.kind==1||c.kind==2 with
  |true=>
   rw[k1,AB]at hv;simp only[EH,F0]at k1;have:decide (c.kind<=2)=true:=(by simp;omega);rw[this];exact⟨hv,λh=>by omega⟩
  |false=>
   rw[k1,AJ]at hv;cases k3:c.kind==3||c.kind==4||c.kind==5 with
   |false=>rw[k3]at hv;simp at hv
   |true=>
    rw[k3,AB]at hv;simp only[EH,F0]at k3;have:decide (c.kind<=2)=false:=(by simp;omega);rw[this];exact⟨XW hv,λ_=>by unfold J7;rw[hv];try rfl⟩
 refine⟨?_,?_⟩
 ·unfold Jb;have q1:decide (c.kind<1)=false:=by simp;omega
  have q2:decide (5<c.kind)=false:=by simp;omega
  rw[q1,q2,hpp,hcs,hat,hval.1];try rfl
 ·have h1:IV c=N6 c:=by
   unfold IV N6;rw[mV];have hk5:c.kind=1\/c.kind=2\/c.kind=3\/c.kind=4\/c.kind=5:=(by omega);rcases hk5 with k|k|k|k|k
   ·rw [k];try rfl
   ·rw [k];try rfl
   ·rw [hval.2 (by omega),k];try rfl
   ·rw [hval.2 (by omega),k];try rfl
   ·rw [hval.2 (by omega),k];try rfl
  have h2:IW c=N7 c:=by
   unfold IW N7;rw[ME hcs,h1];cases q:BX c.cond with
   |true=>rfl
   |false=>
    rw[q,Cx]at hf;have:BH c.cond=Ao c.cond:=(by unfold BH;rw[hf];try rfl);rw[this]
  unfold FC N8;rw[h2]
theorem mX(h:Jb c=true)(hv:VS (N8 c)):CA c=true:=by
 unfold Jb at h;simp only[AV,EI,Cw]at h;obtain⟨q1,q2,hpp,hcs,hat,hval⟩:=h;rw[Xa,AV]at hat;have v2:VS (N7 c):=by
  unfold N8 at hv;cases q:c.params.isEmpty with
  |true=>rw[q]at hv;exact hv
  |false=>rw[q]at hv;exact Gn hv (by simp)
 have v1:VS (N6 c)/\(BX c.cond||Bf c.cond)=true:=by
  unfold N7 at v2;rw[ME hcs]at v2;cases q:BX c.cond with
  |true=>rw[q]at v2;exact⟨v2,rfl⟩
  |false=>
   rw[q,AJ]at v2;exact⟨Gn v2 (by simp),by rw[Cx];exact Sv hcs (Gn v2 (by simp))⟩
 have vv:(bif c.kind==1||c.kind==2 then c.value.same C2 else(bif c.kind==3||c.kind==4||c.kind==5 then Ei c.value else false))=true:=by
  have hk5:c.kind=1\/c.kind=2\/c.kind=3\/c.kind=4\/c.kind=5:=by omega
  have w:=v1.1;unfold N6 at w;rcases hk5 with k|k|k|k|k
  ·rw [k]at hval⊢;exact hval
  ·rw [k]at hval⊢;exact hval
  all_goals
   rw[k]at hval w⊢;exact mU hval (Gn (l:=[A5 _,Ao (IX c),BG c.value]) w (by simp))
 unfold CA;rw[hat.1,hat.2,vv,v1.2];simp only[B7];rw[List.all_eq_true]at hpp⊢;intro x hx;rw[Xb];exact hpp x hx
theorem KM(h:l.all CA=true):l.all Jb=true/\Bx l=IZ l:=by
 rw[List.all_eq_true]at h;refine⟨List.all_eq_true.2 λc hc=>(Xc (h c hc)).1,?_⟩;have:l.map FC=l.map N8:=List.map_congr_left λc hc=>(Xc (h c hc)).2;unfold Bx IZ;rw[this]
theorem Xd(h:LG l=true):l.all CA=true:=by
 unfold LG at h;simp only[AV]at h;have hv:=KL.1 h.2;rw[List.all_eq_true];intro c hc;refine mX (List.all_eq_true.1 h.1 c hc) ?_;unfold IZ at hv;cases l with
 |nil=>simp at hc
 |cons d l=>exact Gn hv (List.mem_cons_of_mem _ (List.mem_map_of_mem hc))
theorem mY(l:List Ch):Gb l=LG l:=by
 cases hr:LG l with
 |true=>
  have hb:=Xd hr;have hx:=KM hb;unfold LG at hr;simp only[AV]at hr;unfold Gb;rw[hb,hx.2,hr.2];try rfl
 |false=>
  cases he:Gb l with
  |false=>rfl
  |true=>
   unfold Gb at he;simp only[AV]at he;have hx:=KM he.1;unfold LG at hr;rw[hx.1, ← hx.2,he.2]at hr;exact hr
set_option maxHeartbeats 8000000
theorem Sw(hok:x.ok)(h:A0):A6 prog 19 [.agg x.cells] h λr h'=>
  r= .Al [.A1 15 (Ag (En x).1),AQ (En x).2]/\h'=h:=by
 refine A6.CD Ty.Nv ?_;have hV:=λh:A0=>JM (x:=x) hok h;generalize hF:En x=F;unfold En at hF;cases v:(CJ x 0 0).1 with
 |false=>
  rw[v,A7 (by simp)]at hF;subst hF;rw[v]at hV;obtain⟨kind,value,line,col,text,kids⟩:=x;simp only[Sx.cells]at hV⊢;refine AD func19 ntmps19 results19 Ty.Nv ?_;refine wt A4 ?_;refine uU A4 (hV _) ?_;refine wt yF ?_;exact⟨Gd (c:=2) rfl,AH.refl _⟩
 |true=>
  rw[v,AK rfl]at hF;have hsm:=Kx v;have hnd:=((JO x 0 0 (by omega) (by omega)).1.1 v).2.2;have hS:E5.Ka ⟨[],[]⟩ x.nodes:=⟨by simp,by simp only[List.length_nil];omega,by simp,by simp only[List.length_nil];omega⟩;have hcs:=Sr _ x (AG _) ⟨[],[]⟩ hok hsm hS;have hln:=QO _ x (AG _) ⟨[],[]⟩;have hE:=λh:A0=>A6.nz (mB hok hsm [] [] (by simp only[List.length_nil];omega) (by simp only[List.length_nil];omega) h) (xs:=[.agg [.sc (.slice none 0 0),.sc (.slice none 0 0)],.agg x.cells]) (HP (Vt (HP OD (HP OD (D6.refl _)))) (D6.refl _));rw[v]at hV;generalize Cp x ⟨[],[]⟩=E at*;obtain⟨l,c⟩:=E;simp only at hF hcs hln hE;have hW:=λh:A0=>lR (l:=l) (by omega) (λc hc=>(hcs c hc).1) (λc hc=>(hcs c hc).2) (QP (by omega) hcs) h
  clear hcs hS hsm;obtain⟨kind,value,line,col,text,kids⟩:=x;simp only[Sx.cells]at hV hE⊢;cases z1:(c==0)with
  |false=>
   have z2:¬ c=0:=(by simpa using z1);rw[A7 z2]at hF;subst hF;rw[KI z1]at hE;simp only[An]at hE;clear hW;refine AD func19 ntmps19 results19 Ty.Nv ?_;refine wt A4 ?_;refine uU A4 (hV _) ?_;refine wt yT ?_;refine uU A4 (hE _) ?_;refine wt @B4 ?_;exact⟨Gd z1,AH.refl _⟩
  |true=>
   have z2:c=0:=(by simpa using z1);subst z2;rw[AK rfl]at hF;rw[KJ z1]at hE;generalize Bx l=X at hW;obtain⟨xk,xv,xl,xc,xt,xs⟩:=X;simp only[Sx.cells,Ho,An]at hW;cases hw:Gb l with
   |false=>
    rw[hw,A7 (by simp)]at hF;subst hF;simp only[hw,BQ,AP]at hW;refine AD func19 ntmps19 results19 Ty.Nv ?_;refine wt A4 ?_;refine uU A4 (hV _) ?_;refine wt yT ?_;refine uU A4 (hE _) ?_;refine wt A4 ?_;refine uU A4 (hW _) ?_;refine wt @B4 ?_;exact⟨Gd (c:=5) rfl,((AH.refl h).new _).set (AG _) _⟩
   |true=>
    rw[hw,AK rfl]at hF;subst hF;simp only[hw,AO]at hW;refine AD func19 ntmps19 results19 Ty.Nv ?_;refine wt A4 ?_;refine uU A4 (hV _) ?_;refine wt yT ?_;refine uU A4 (hE _) ?_;refine wt A4 ?_;refine uU A4 (hW _) ?_;refine wt A4 ?_;exact⟨LI _ _ _ 0,((AH.refl h).new _).set (AG _) _⟩
set_option maxHeartbeats 4000000
theorem Xe(c:Ch):PV.D3 (A8 c.params)+PV.bulkL c.cond.cells+PV.D3 (AL c.args)+PV.bulkL c.value.cells+4<=PV.bulkL (CZ c):=by
 obtain⟨kd,P,f,n,a,v⟩:=c;simp only[CZ,List.cons_append,List.nil_append,PV.P8,PV.bulkL,PV.bulk,A3];omega
theorem mZ(h:PV.bulkL (CZ c)<=1048576):Fe c:=by
 have:=Xe c;have p1:=KG c.params;have p2:=QG c.args;exact⟨Fm.KZ _ (by omega),Ex.KZ _ (by omega),by omega,by omega⟩
theorem Xf: ∀ l:List Ch,l.length<=PV.D3 (Ag l)
 |[]=>Bj _
 |c::l=>by
  have:=Xf l;have:=Xe c;have e:Ag (c::l)=CZ c::Ag l:=rfl;rw[e];simp only[PV.D3,List.length_cons];omega
theorem Xg{c:Ch}: ∀ {l:List Ch},c∈l->PV.bulkL (CZ c)<=PV.D3 (Ag l)
 |d::l,h=>by
  have e:Ag (d::l)=CZ d::Ag l:=rfl;rw[e];simp only[PV.D3];rcases List.mem_cons.1 h with rfl|h
  ·omega
  ·have:=Xg h;omega
end Go.Proofs.YtblgchkahpgdjaaGreat
