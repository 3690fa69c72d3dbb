/- What the claim rests on, part 14: the abstract machine, contracts of the functions, plain data. -/
import Derived.Test.YtblgchkahpgdjaaGreatZr13
set_option linter.unusedVariables false
set_option linter.unusedSimpArgs false
set_option linter.unusedSectionVars false
namespace Go.Proofs.YtblgchkahpgdjaaGreat
open Go.AM Go.Proofs.Tryz
set_option maxHeartbeats 8000000
set_option maxRecDepth 20000
def N4(z:Nat)(rows:List (List PV))(q:PV):Prop:=(∃ a cap,q= .sc (.slice a 0 cap)/\rows=[])\/(q= .imm z rows/\rows≠[])
theorem N4.pc{z:Nat}{rows:List (List PV)}{q:PV}(h:N4 z rows q):q.cells=[q]/\CW q=true:=by
 rcases h with⟨_,_,rfl,_⟩|⟨rfl,_⟩<;>exact⟨rfl,rfl⟩
theorem A6.nilAgg{P:Program}{f:FuncId}{z:Nat}{h:A0}{K:PV->A0->Prop}{pre post rest:List PV}(h0: ∀ a cap,A6 P f (.agg (pre++ .sc (.slice a 0 cap)::post)::rest) h K):A6 P f (.agg (pre++ .imm z []::post)::rest) h K:=by
 intro β w vals sm hr;cases vals with
 |nil=>simp[AS]at hr
 |cons v vals=>
  simp only[AS,A8]at hr;obtain⟨⟨xs,rfl,h1,h2⟩,h3⟩:=hr;obtain⟨a,cap,hx⟩:=AS.nil_split h2;exact h0 a cap β w _ sm (by simp only[AS,A8];exact⟨⟨xs,rfl,h1,hx⟩,h3⟩)
theorem jL(cap:Nat)(h:A0):A6 prog 149 [.sc (.slice none 0 cap)] h λr h'=>r= .sc (.slice none 0 0)/\h'=h:=by
 refine AE func149 ntmps149 results149 Ty.Ld ?_;repeat'(first|refine Ae λK hK=>?_|((first|refine BZ ?_|refine ES ?_);simp only[Ty.w,simprocAttr,Pv])|(refine hK _ _ ?_;clear hK;(try simp only[Ao,simprocAttr])))
theorem jM(x:Addr)(cap:Nat)(h:A0):A6 prog 149 [.sc (.slice (some x) 0 cap)] h λr h'=>r= .own h.next 0 0/\h'=h.new (.arr 6 []):=by
 refine AE func149 ntmps149 results149 Ty.Ld ?_;repeat'(first|refine Ae λK hK=>?_|((first|refine BZ ?_|refine ES ?_);simp only[Ty.w,simprocAttr,Kj,Kk,Kl])|(refine GZ ?_;(try simp only[Ao,simprocAttr]))|(refine EI _ (by(try simp only[Ty.w,simprocAttr,Kj,Kk,Kl]);rfl) (λhb=>?_) (λhb=>?_)<;>(try simp only[Cz,BP,Cv,simprocAttr]at hb)<;>(try(exfalso;omega)))|(refine hK _ _ ?_;clear hK;(try simp only[Ao,simprocAttr])))
theorem jN{R:List (List PV)}{n:Nat}(hR:R.length=n+1)(hn:n<=1048576)(h:A0):A6 prog 149 [.imm 6 R] h λr h'=>r= .own h.next 0 (n+1)/\h'=h.new (.arr 6 R):=by
 have h0:(0<R.length)=True:=by rw[hR];simp
 have hb:(n+1)*128<=140737488355328:=by omega
 refine AE func149 ntmps149 results149 Ty.Ld ?_;replace zz:=Aa h0 hR hb @Be;repeat'(first|refine Ae λK hK=>?_|refine uR zz ?_|refine uT zz ?_|refine uK ?_|refine Bo zz ?_|(refine uN hK ?_;clear hK)|(rw[AG];rotate_left 1;omega;simp only[Ty.w,simprocAttr,h0,hR,hb,Be])|apply zI)
theorem jO{R:List (List PV)}{q:PV}(hq:N4 6 R q)(hl:R.length<=1048576)(h:A0): ∃ v h1,(A6 prog 149 [q] h λr h'=>r=v/\h'=h1)/\AC h h1/\Tl h1 h.next 6 v R:=by
 rcases hq with⟨a,cap,rfl,rfl⟩|⟨rfl,hne⟩
 ·cases a with
  |none=>exact⟨_,_,jL cap h,AC.refl _,Tl.nil⟩
  |some x=>exact⟨_,_,jM x cap h,(AC.refl h).new _,Tl.grow (AD _) rfl⟩
 ·obtain ⟨n,hn⟩: ∃ n,R.length=n+1:=⟨R.length-1,by have:=mL.2 hne;omega⟩;exact⟨_,_,jN hn (by omega) h,(AC.refl h).new _,Tl.grow (AD _) hn.symm⟩
theorem jP(cap:Nat)(h:A0):A6 prog 150 [.sc (.slice none 0 cap)] h λr h'=>r= .sc (.slice none 0 0)/\h'=h:=by
 refine AE func150 ntmps150 results150 Ty.Le ?_;repeat'(first|refine Ae λK hK=>?_|((first|refine BZ ?_|refine ES ?_);simp only[Ty.w,simprocAttr,Pv])|(refine hK _ _ ?_;clear hK;(try simp only[Ao,simprocAttr])))
theorem jQ(x:Addr)(cap:Nat)(h:A0):A6 prog 150 [.sc (.slice (some x) 0 cap)] h λr h'=>r= .own h.next 0 0/\h'=h.new (.arr 2 []):=by
 refine AE func150 ntmps150 results150 Ty.Le ?_;repeat'(first|refine Ae λK hK=>?_|((first|refine BZ ?_|refine ES ?_);simp only[Ty.w,simprocAttr,Kj,Kk,Kl])|(refine GZ ?_;(try simp only[Ao,simprocAttr]))|(refine EI _ (by(try simp only[Ty.w,simprocAttr,Kj,Kk,Kl]);rfl) (λhb=>?_) (λhb=>?_)<;>(try simp only[Cz,BP,Cv,simprocAttr]at hb)<;>(try(exfalso;omega)))|(refine hK _ _ ?_;clear hK;(try simp only[Ao,simprocAttr])))
theorem jR{R:List (List PV)}{n:Nat}(hR:R.length=n+1)(hn:n<=1048576)(h:A0):A6 prog 150 [.imm 2 R] h λr h'=>r= .own h.next 0 (n+1)/\h'=h.new (.arr 2 R):=by
 have h0:(0<R.length)=True:=by rw[hR];simp
 have hb:(n+1)*32<=140737488355328:=by omega
 refine AE func150 ntmps150 results150 Ty.Le ?_;replace zz:=Aa h0 hR hb @Be;repeat'(first|refine Ae λK hK=>?_|refine uR zz ?_|refine uT zz ?_|refine uK ?_|refine Bo zz ?_|(refine uN hK ?_;clear hK)|(rw[AG];rotate_left 1;omega;simp only[Ty.w,simprocAttr,h0,hR,hb,Be])|apply zI)
theorem jS{R:List (List PV)}{q:PV}(hq:N4 2 R q)(hl:R.length<=1048576)(h:A0): ∃ v h1,(A6 prog 150 [q] h λr h'=>r=v/\h'=h1)/\AC h h1/\Tl h1 h.next 2 v R:=by
 rcases hq with⟨a,cap,rfl,rfl⟩|⟨rfl,hne⟩
 ·cases a with
  |none=>exact⟨_,_,jP cap h,AC.refl _,Tl.nil⟩
  |some x=>exact⟨_,_,jQ x cap h,(AC.refl h).new _,Tl.grow (AD _) rfl⟩
 ·obtain ⟨n,hn⟩: ∃ n,R.length=n+1:=⟨R.length-1,by have:=mL.2 hne;omega⟩;exact⟨_,_,jR hn (by omega) h,(AC.refl h).new _,Tl.grow (AD _) hn.symm⟩
theorem jT(n:Nat)(H:A0)(c:Int):AF n H (AO c) (AO c):=by
 unfold AO;cases c==0 with
 |true=>simp only[AB,AF]
 |false=>simp only[AI,Aj,AF]
theorem Kv(n:Nat)(H:A0)(l:List Ch)(c:Int):AF n H (.tup [.imm 15 (Al l),AO c]) (.tup [.imm 15 (Al l),AO c]):=by
 have:=jT n H c;simp only[AF,AL]at this⊢;exact⟨_,rfl,.inl ⟨rfl,Sc _ _⟩,this,trivial⟩
theorem Sx.nodes_pos(x:Sx):0<x.nodes:=by cases x;simp only[Sx.nodes];omega
theorem Fm.rows_app(l m:List Fm):Fm.rows (l++m)=Fm.rows l++Fm.rows m:=by simp[Fm.rows_map]
def N5(x:Sx):Prop:= ∀ (P:List Pm)(W:List Fm),P.length+x.nodes<=1048576->W.length+x.nodes<=1048576-> ∀ h:A0,
 A6 prog 53 [.agg [.imm 2 (A7 P),.imm 6 (Fm.rows W)],.agg x.cells] h λr h'=>r= .tup [.imm 15 (Al (Ci x ⟨P,W⟩).1),AO (Ci x ⟨P,W⟩).2]/\h'=h
theorem Wq(vars:Bool): ∀ (n:Nat)(l:List Sx),l.length<=n-> ∀ (don:List Pm)(pen:List ByteArray),(EN vars l don pen).1.length<=don.length+pen.length+l.length
 |_,[],_,don,pen=>by simp[EN,Bi]
 |0,_::_,h,_,_=>by simp at h
 |n+1,x::l,h,don,pen=>by
  simp only[Aw]at h;have ih:=Wq vars n;rw[EN.eq_def];simp only;cases Hh x with
  |false=>simp only[AI,Bw];omega
  |true=>
   simp only[AB];cases A1 (Ah x) Fx with
   |true=>
    simp only[AB]
    match l,h with
    |[],_=>simp only[Bw];omega
    |t::l',h=>
     simp only[Aw]at h;simp only;cases !pen.isEmpty&&Hh t with
     |false=>simp only[AI,Bw];omega
     |true=>
      simp only[AB];cases Gd (Ah t)with
      |false=>simp only[AI,Bw];omega
      |true=>
       have:=ih l' (by omega) (don++Bi (Ah t) pen) [];simp only[AB,DZ,Bi,E4,Bw,Aw]at this⊢;omega
   |false=>
    simp only[AI];cases(bif vars then Eg (Ah x)else An (Ah x))with
    |false=>simp only[AI,Bw];omega
    |true=>
     have:=ih l (by omega) don (pen++[Ah x]);simp only[AB,DZ,Bw,Aw]at this⊢;omega
theorem OP(vars:Bool)(l:List Sx):(Bt vars l).1.length<=l.length:=by
 have:=Wq vars l.length l (AD _) [] [];unfold Bt;simpa using this
theorem jU(n:Nat)(h:A0)(l:List Pm):Cr n h (A7 l) (A7 l):=RW _ (Vv l)
theorem Sx.len_nodess: ∀ l:List Sx,l.length<=Sx.nodess l
 |[]=>AD _
 |x::l=>by
  have:=Sx.len_nodess l;have:=Sx.nodes_pos x;simp only[Sx.nodess,Aw];omega
def OQ(P:List Pm)(W:List Fm):List Sx->List Ch × Int
 |[f,e]=>bif (Cg f).2==0 then Ci e ⟨P,W++[(Cg f).1]⟩else([],(Cg f).2)
 |_=>([],2)
theorem jV{P:List Pm}{W:List Fm}{kind value line col:Int}{text:ByteArray}{y:Sx}{rest:List Sx}(hE: ∀ e∈rest,N5 e)
  (hok: ∀ z∈rest,z.ok)(hp:P.length+Sx.nodess rest<=1048576)(hwl:W.length+Sx.nodess rest<=1048576)(h:A0):
  A6 prog 111 [.agg [.imm 2 (A7 P),.imm 6 (Fm.rows W)],.agg [.sc (.int .i64 kind),.sc (.int .i64 value),.sc (.int .i64 line),.sc (.int .i64 col),A2 text,.imm 6 (Sx.rows (y::rest))]] h λr h'=>
   r= .tup [.imm 15 (Al (OQ P W rest).1),AO (OQ P W rest).2]/\h'=h:=by
 refine A6.frz Ty.PQ ?_;have hlen:=Sx.rows_len (y::rest);generalize hF:OQ P W rest=F;have main: ∀ q,N4 6 (Fm.rows W) q->A6 prog 111 [.agg [.imm 2 (A7 P),q],.agg [.sc (.int .i64 kind),.sc (.int .i64 value),.sc (.int .i64 line),.sc (.int .i64 col),A2 text,.imm 6 (Sx.rows (y::rest))]] h λr h'=>AF h.next h' (.tup [.imm 15 (Al F.1),AO F.2]) r/\AC h h':=by
  intro q hq;obtain⟨q1,q2⟩:=hq.pc;cases q3:(((Sx.rows (y::rest)).length:Int) !=3)with
  |true=>
   have e:F=([],2):=by
    rw[← hF]
    match rest,q3,hlen with
    |[],_,_=>rfl
    |[_],_,_=>rfl
    |[_,_],q,hlen=>rw[hlen]at q;simp at q
    |_::_::_::_,_,_=>rfl
   subst e;clear hE hF;generalize Sx.rows (y::rest)=R at q3⊢;refine uG (ow:=λt=>t==2) (wf:=λf=>f==150||f==149) func111 ntmps111 results111 Ty.PQ ?_;refine wt (AV q1 q2 q3) ?_;exact⟨GM (c:=2) rfl,(AC.refl h).new _⟩
  |false=>
   obtain⟨f,e,rfl⟩: ∃ a e,rest=[a,e]:=by
    match rest,q3,hlen with
    |[],q,hlen=>rw[hlen]at q;simp at q
    |[_],q,hlen=>rw[hlen]at q;simp at q
    |[a,e],_,_=>exact⟨a,e,rfl⟩
    |_::_::_::l,q,hlen=>rw[hlen]at q;simp at q;omega
   have cf:=λh:A0=>OL (x:=f) (hok f (by simp)) h;have hEe:=hE e (by simp);simp only[Sx.nodess,Fi]at hp hwl;have hfn:=Sx.nodes_pos f;have r1:=Sx.rows_get (l:=[y,f,e]) (i:=1) rfl;have r2:=Sx.rows_get (l:=[y,f,e]) (i:=2) rfl;have d1:((1:Int)<((Sx.rows [y,f,e]).length:Int))=True:=Db (by rw[hlen];simp);have d2:((2:Int)<((Sx.rows [y,f,e]).length:Int))=True:=Db (by rw[hlen];simp);simp only[OQ]at hF;generalize Sx.rows [y,f,e]=R at q3 r1 r2 d1 d2⊢;generalize Cg f=E at cf hF;obtain⟨ev,ec⟩:=E;simp only at hF cf;have hwl2:=Fm.rows_len W;have hEe:=hEe P (W++[ev]) (by omega) (by simp only[DZ,Aw,Bw];omega);obtain⟨fk,fv,fl,fc,ft,fs⟩:=f;simp only[Sx.cells]at r1 cf;cases z1:(ec==0)with
   |false=>
    rw[z1,AI]at hF;subst hF;rw[K5 z1]at cf;clear hE hEe;obtain⟨gop,gna,gar,gpa,gex,gki⟩:=ev;simp only[Aj,Fm.cells]at cf;refine uG (ow:=λt=>t==2) (wf:=λf=>f==150||f==149) func111 ntmps111 results111 Ty.PQ ?_;replace zz:=As q1 q2 q3 r1 d1;refine wt zz ?_;refine uU (uu r1 d1) (cf _) ?_;refine wt @B2 ?_;exact⟨GM z1,(((AC.refl h).new _).new _).set (by omega) _⟩
   |true=>
    rw[z1,AB]at hF;rw[K6 z1]at cf;clear hE;have hap:Fm.rows (W++[ev])=Fm.rows W++[ev.cells]:=(by rw[Fm.rows_app];try rfl);obtain⟨gop,gna,gar,gpa,gex,gki⟩:=ev;simp only[Fm.cells]at cf hap;refine uG (ow:=λt=>t==2) (wf:=λf=>f==150||f==149) func111 ntmps111 results111 Ty.PQ ?_;replace zz:=As q1 q2 q3 r1 d1;refine wt zz ?_;refine uU (uu r1 d1) (cf _) ?_;refine xB 6 @B2 ?_;refine⟨?_⟩;refine Cj (λS H=>S 2= .ptr h.next 0 0/\S 3= .cptr [.sc (.int .i64 kind),.sc (.int .i64 value),.sc (.int .i64 line),.sc (.int .i64 col),A2 text,.imm 6 R]/\S 6= .ptr (h.next+1) 0 0/\AC h H/\H.next=h.next+2/\H.obj h.next=some (.arr 2 [[.imm 2 (A7 P),q]])/\H.obj (h.next+1)=some (.arr 6 [[A2 gop,A2 gna,.imm 1 (AN gar),.imm 2 (A7 gpa),.imm 5 (Ex.rows gex),.imm 6 (Fm.rows gki)]])) ⟨sq A3,sq A3,sq A3,(((AC.refl h).new _).new _).set (by omega) _,rfl,by simp[A0.new,A0.set],by simp[A0.new,A0.set]⟩ ?_;clear r1 cf;rintro S H ⟨s2,s3,s6,hg,hnx,o2,o6⟩;obtain⟨v,h1,hc,hgr,htl⟩:=jO hq (by rw[Fm.rows_len];omega) H;have hle1:=hgr.le;obtain⟨Hk,t1,t2,t3,t4,t5⟩:=htl.tail;have p2:=(hgr.old h.next (by omega)).trans o2;have p6:=(hgr.old (h.next+1) (by omega)).trans o6;replace zz:=As s2 s3 s6 o2 o6;refine wy zz ?_;refine LY hc (sr (As s2 s3 s6 o2 o6)) (by
     try simp only[Ty.w,simprocAttr,DR,BS,B5,Bg]
     (repeat' apply And.intro)<;>first
      |trivial
      |exact .inl (by decide+kernel)
      |exact .inr (by simp only[Ty.w,simprocAttr,Ty.AW,s2,p2,p6,q1,q2])) ?_
    simp only[Ty.w,simprocAttr,Ty.AW,B6,s2,s3,s6,o6,p2,p6];have k2:=(t4 h.next (by omega)).trans p2;have n1:(h.next=Hk.next)=False:=B4 (by omega);replace zz:=B7 s2 s3 s6 o6 p2 p6 t1 t2 k2 n1;(repeat'(first|refine cK ?_|refine nK ?_|with_reducible refine Pn 7 ?_|(rw[AG];rotate_left 1;omega;simp only[Ty.w,simprocAttr,s2,s3,s6,o6,p2,p6,t1,t2,k2,n1])|apply zI));refine⟨by
     simp only[Bg];exact⟨.inr (by simp only[Ty.w,simprocAttr,Ty.AW,o6]),λ_ hx=>by cases hx⟩,?_⟩
    replace zz:=B7 s2 s3 s6 o6 p2 p6 t1 t2 k2 n1;refine xB 7 zz ?_;refine⟨by
     simp only[Bg]
     (repeat' apply And.intro)<;>first|exact .inl (by decide+kernel)|exact(λ_ hx=>by cases hx),?_⟩
    refine⟨by
     simp only[Bg]
     (repeat' apply And.intro)<;>first|exact .inl (by decide+kernel)|exact(λ_ hx=>by cases hx),?_⟩
    replace zz:=B7 s2 s3 s6 o6 p2 p6 t1 t2 k2 n1;refine xB 7 zz ?_;refine⟨?_⟩;have hlen2:(Fm.rows (W++[Fm.mk gop gna gar gpa gex gki])).length=(Fm.rows W).length+1:=(by rw[hap];simp);have hgk:AC h Hk:=⟨by omega,λj hj=>(t4 j (by omega)).trans ((hgr.old j (by omega)).trans (hg.old j hj))⟩;rw[← hap];refine Cj (λS H=>S 2= .ptr h.next 0 0/\S 3= .cptr [.sc (.int .i64 kind),.sc (.int .i64 value),.sc (.int .i64 line),.sc (.int .i64 col),A2 text,.imm 6 R]/\AC h H/\h.next<H.next/\ ∃ j,h.next<=j/\H.obj h.next=some (.arr 2 [[.imm 2 (A7 P),.own j 0 ((Fm.rows W).length+1)]])/\H.obj j=some (.arr 6 (Fm.rows (W++[Fm.mk gop gna gar gpa gex gki])))) ⟨sq s2,sq s3,(hgk.new _).set (by omega) _,by simp only[A0.new,A0.set];omega,Hk.next,by omega,by simp only[A0.new,A0.set,AH];rw[t3],by simp only[A0.new,A0.set];rw[A4 (by omega)];simp⟩ ?_;clear s2 s3 s6 hg hnx o2 o6 hc hgr htl hle1 t1 t2 t3 t4 t5 p2 p6 k2 n1 hgk;rintro S H ⟨s2,s3,hg,hlt,j,hj,o1,o2⟩;refine Mc h.next [(2,.cptr [.imm 2 (A7 P),.imm 6 (Fm.rows (W++[Fm.mk gop gna gar gpa gex gki]))])] rfl hg.le ?_ ?_
    ·intro x hx;simp only[D7,Gn,HE]at hx;subst hx;show AF h.next _ _ (S 2)
     rw[s2];simp only[AF,AL,Da];refine .inr ⟨_,0,0,2,_,_,rfl,AD _,o1,rfl,?_⟩;exact⟨.inl ⟨rfl,Bu _ _⟩,.inr (.inr ⟨j,0,_,_,rfl,hj,o2,by omega,by rw[CB,DQ (by omega)];exact S8 _ _ _⟩),trivial⟩
    refine Cj (λS H=>S 2= .cptr [.imm 2 (A7 P),.imm 6 (Fm.rows (W++[Fm.mk gop gna gar gpa gex gki]))]/\S 3= .cptr [.sc (.int .i64 kind),.sc (.int .i64 value),.sc (.int .i64 line),.sc (.int .i64 col),A2 text,.imm 6 R]/\AC h H) ⟨by simp only[Ev,Ty.w,simprocAttr],by simp only[Ev,Ty.w,simprocAttr,s3],VZ hg⟩ ?_;clear s2 s3 hg hlt o1 o2 hj S H;rintro S H ⟨s2,s3,hg⟩;generalize Fm.rows (W++[Fm.mk gop gna gar gpa gex gki])=FR at*;rw[hF]at hEe;clear hF hap hwl2;obtain⟨fl,fe⟩:=F;obtain⟨ek,ev,el,ec2,et,es⟩:=e;simp only[Sx.cells]at r2 hEe;replace zz:=Aa s2 s3 r2 d2;refine wy zz ?_;replace zz:=Aa s2 s3 r2 d2;(first|refine uV zz (hEe _) ?_|refine uA zz (hEe _) ?_);refine wy zz ?_;exact⟨Kv _ _ _ _,hg⟩
 cases W with
 |nil=>exact A6.nilAgg (pre:=[.imm 2 (A7 P)]) λa cap=>main _ (.inl ⟨a,cap,rfl,rfl⟩)
 |cons f W=>exact main _ (.inr ⟨rfl,by simp[Fm.rows]⟩)
def OR(P:List Pm)(W:List Fm):List Sx->List Ch × Int
 |[p,e]=>bif Ax p==3 then(bif (Bt true (CA p)).2==0 then Ci e ⟨P++(Bt true (CA p)).1,W⟩else([],(Bt true (CA p)).2))else([],2)
 |_=>([],2)
theorem jW{P:List Pm}{W:List Fm}{kind value line col:Int}{text:ByteArray}{y:Sx}{rest:List Sx}(hE: ∀ e∈rest,N5 e)
  (hok: ∀ z∈rest,z.ok)(hp:P.length+Sx.nodess rest<=1048576)(hwl:W.length+Sx.nodess rest<=1048576)(h:A0):
  A6 prog 112 [.agg [.imm 2 (A7 P),.imm 6 (Fm.rows W)],.agg [.sc (.int .i64 kind),.sc (.int .i64 value),.sc (.int .i64 line),.sc (.int .i64 col),A2 text,.imm 6 (Sx.rows (y::rest))]] h λr h'=>
   r= .tup [.imm 15 (Al (OR P W rest).1),AO (OR P W rest).2]/\h'=h:=by
 refine A6.frz Ty.Nv ?_;have hlen:=Sx.rows_len (y::rest);generalize hF:OR P W rest=F;have main: ∀ q,N4 2 (A7 P) q->A6 prog 112 [.agg [q,.imm 6 (Fm.rows W)],.agg [.sc (.int .i64 kind),.sc (.int .i64 value),.sc (.int .i64 line),.sc (.int .i64 col),A2 text,.imm 6 (Sx.rows (y::rest))]] h λr h'=>AF h.next h' (.tup [.imm 15 (Al F.1),AO F.2]) r/\AC h h':=by
  intro q hq;obtain⟨q1,q2⟩:=hq.pc;cases q3:(((Sx.rows (y::rest)).length:Int) !=3)with
  |true=>
   have e:F=([],2):=by
    rw[← hF]
    match rest,q3,hlen with
    |[],_,_=>rfl
    |[_],_,_=>rfl
    |[_,_],q,hlen=>rw[hlen]at q;simp at q
    |_::_::_::_,_,_=>rfl
   subst e;clear hE hF;generalize Sx.rows (y::rest)=R at q3⊢;refine uG (ow:=λt=>t==2) (wf:=λf=>f==150||f==149) func112 ntmps112 results112 Ty.Nv ?_;refine wt (AV q1 q2 q3) ?_;exact⟨GM (c:=2) rfl,(AC.refl h).new _⟩
  |false=>
   obtain⟨f,e,rfl⟩: ∃ a e,rest=[a,e]:=by
    match rest,q3,hlen with
    |[],q,hlen=>rw[hlen]at q;simp at q
    |[_],q,hlen=>rw[hlen]at q;simp at q
    |[a,e],_,_=>exact⟨a,e,rfl⟩
    |_::_::_::l,q,hlen=>rw[hlen]at q;simp at q;omega
   have hEe:=hE e (by simp);simp only[Sx.nodess,Fi]at hp hwl;have r1:=Sx.rows_get (l:=[y,f,e]) (i:=1) rfl;have r2:=Sx.rows_get (l:=[y,f,e]) (i:=2) rfl;have d1:((1:Int)<((Sx.rows [y,f,e]).length:Int))=True:=Db (by rw[hlen];simp);have d2:((2:Int)<((Sx.rows [y,f,e]).length:Int))=True:=Db (by rw[hlen];simp);simp only[OR]at hF;generalize Sx.rows [y,f,e]=R at q3 r1 r2 d1 d2⊢;have hfo:=hok f (by simp);clear hok hE;obtain⟨fk,fv,fl,fc,ft,fs⟩:=f;simp only[Sx.ok]at hfo;obtain⟨_,_,_,_,hfo⟩:=hfo;have hfs:=Sx.len_nodess fs;simp only[Sx.nodes]at hp hwl;have cf:=λh:A0=>Lp (vars:=true) (l:=fs) (by omega) (Sx.oks_iff.1 hfo) h;have hpl:=OP true fs;simp only[Ax,CA]at hF;simp only[Sx.cells]at r1;cases z0:(fk==3)with
   |false=>
    have z0b:(fk !=3)=true:=(by simp[bne,z0]);have z0c:(fk=3)=False:=B4 (by simpa using z0);rw[z0,AI]at hF;subst hF;clear cf hEe hpl;refine uG (ow:=λt=>t==2) (wf:=λf=>f==150||f==149) func112 ntmps112 results112 Ty.Nv ?_;replace zz:=BO q1 q2 q3 r1 d1 z0 z0b z0c;refine wt zz ?_;exact⟨GM (c:=2) rfl,(AC.refl h).new _⟩
   |true=>
    have z0b:(fk !=3)=false:=(by simp[bne,z0]);have z0c:(fk=3)=True:=Db (by simpa using z0);rw[z0,AB]at hF;generalize Bt true fs=E at cf hF hpl;obtain⟨ev,ec⟩:=E;simp only at hF cf hpl;have hEe:=hEe (P++ev) W (by simp only[DZ];omega) (by omega);cases z1:(ec==0)with
    |false=>
     rw[z1,AI]at hF;subst hF;rw[K5 z1]at cf;clear hEe;simp only[Aj]at cf;refine uG (ow:=λt=>t==2) (wf:=λf=>f==150||f==149) func112 ntmps112 results112 Ty.Nv ?_;replace zz:=BO q1 q2 q3 r1 d1 z0 z0b z0c;refine wt zz ?_;refine uU (uu r1 d1) (cf _) ?_;(repeat'(first|refine cK ?_|refine nK ?_|refine Ae λK hK=>?_|refine uR @B2 ?_|refine uT @B2 ?_|(refine uN hK ?_;clear hK)|apply zI));exact⟨GM z1,(AC.refl h).new _⟩
    |true=>
     rw[z1,AB]at hF;rw[K6 z1]at cf;have hap:A7 (P++ev)=A7 P++A7 ev:=(by simp[A7]);have hlp:(A7 P).length=P.length:=(by simp[A7]);have hle:(A7 ev).length=ev.length:=(by simp[A7]);refine uG (ow:=λt=>t==2) (wf:=λf=>f==150||f==149) func112 ntmps112 results112 Ty.Nv ?_;replace zz:=BO q1 q2 q3 r1 d1 z0 z0b z0c;(repeat'(first|refine cK ?_|refine nK ?_|refine Ae λK hK=>?_|refine uR zz ?_|refine uK ?_|refine Bo zz ?_|(refine uN hK ?_;clear hK)|apply zI));refine uU (uu r1 d1) (cf _) ?_;(repeat'(first|refine cK ?_|refine nK ?_|with_reducible refine Pn 6 ?_|refine Ae λK hK=>?_|refine uR @B2 ?_|refine uK ?_|refine Bo @B2 ?_|(refine uN hK ?_;clear hK)|apply zI));refine⟨?_⟩;refine Cj (λS H=>S 2= .ptr h.next 0 0/\S 3= .cptr [.sc (.int .i64 kind),.sc (.int .i64 value),.sc (.int .i64 line),.sc (.int .i64 col),A2 text,.imm 6 R]/\S 6= .imm 2 (A7 ev)/\AC h H/\h.next<H.next/\H.obj h.next=some (.arr 2 [[q,.imm 6 (Fm.rows W)]])) ⟨sq A3,sq A3,sq A3,(AC.refl h).new _,by simp[A0.new],by simp[A0.new]⟩ ?_;clear r1 cf;rintro S H ⟨s2,s3,s6,hg,hnx,o2⟩;obtain⟨v,h1,hc,hgr,htl⟩:=jS hq (by omega) H;have hle1:=hgr.le;obtain⟨Hk,t1,t2,t3,t4,t5⟩:=htl.tail;have p2:=(hgr.old h.next (by omega)).trans o2;have k2:=(t4 h.next (by omega)).trans p2;have n1:(h.next=Hk.next)=False:=B4 (by omega);have hb:((A7 P).length+(A7 ev).length)*32<=140737488355328:=(by omega);replace zz:=Aa s2 s3 s6 o2;(repeat'(first|refine cK ?_|refine nK ?_|refine uR zz ?_|apply zI));refine D5 (hc) (sr (Aa s2 s3 s6 o2)) ?_;simp only[Ty.w,simprocAttr,s2,s3,s6,o2];replace zz:=BK s2 s3 s6 p2 t1 t2 k2 n1 hb;(repeat'(first|refine cK ?_|refine nK ?_|with_reducible refine Pn 7 ?_|refine Ae λK hK=>?_|(refine uN hK ?_;clear hK)|(rw[AG];rotate_left 1;omega;simp only[Ty.w,simprocAttr,s2,s3,s6,p2,t1,t2,k2,n1,hb])|apply zI));refine⟨?_⟩;have hlen2:(A7 (P++ev)).length=(A7 P).length+(A7 ev).length:=(by rw[hap];simp);have hgk:AC h Hk:=⟨by omega,λj hj=>(t4 j (by omega)).trans ((hgr.old j (by omega)).trans (hg.old j hj))⟩;rw[← hap];refine Cj (λS H=>S 2= .ptr h.next 0 0/\S 3= .cptr [.sc (.int .i64 kind),.sc (.int .i64 value),.sc (.int .i64 line),.sc (.int .i64 col),A2 text,.imm 6 R]/\AC h H/\h.next<H.next/\ ∃ j,h.next<=j/\H.obj h.next=some (.arr 2 [[.own j 0 ((A7 P).length+(A7 ev).length),.imm 6 (Fm.rows W)]])/\H.obj j=some (.arr 2 (A7 (P++ev)))) ⟨sq s2,sq s3,(hgk.new _).set (by omega) _,by simp only[A0.new,A0.set];omega,Hk.next,by omega,by simp only[A0.new,A0.set,AH];rw[t3],by simp only[A0.new,A0.set];rw[A4 (by omega)];simp⟩ ?_;clear s2 s3 s6 hg hnx o2 hc hgr htl hle1 t1 t2 t3 t4 t5 p2 k2 n1 hgk hb;rintro S H ⟨s2,s3,hg,hlt,j,hj,o1,o2⟩;refine Mc h.next [(2,.cptr [.imm 2 (A7 (P++ev)),.imm 6 (Fm.rows W)])] rfl hg.le ?_ ?_
     ·intro x hx;simp only[D7,Gn,HE]at hx;subst hx;show AF h.next _ _ (S 2)
      rw[s2];simp only[AF,AL,Da];refine .inr ⟨_,0,0,2,_,_,rfl,AD _,o1,rfl,?_⟩;exact⟨.inr (.inr ⟨j,0,_,_,rfl,hj,o2,by omega,by rw[CB,DQ (by omega)];exact jU _ _ _⟩),.inl ⟨rfl,EO _ _⟩,trivial⟩
     refine Cj (λS H=>S 2= .cptr [.imm 2 (A7 (P++ev)),.imm 6 (Fm.rows W)]/\S 3= .cptr [.sc (.int .i64 kind),.sc (.int .i64 value),.sc (.int .i64 line),.sc (.int .i64 col),A2 text,.imm 6 R]/\AC h H) ⟨by simp only[Ev,Ty.w,simprocAttr],by simp only[Ev,Ty.w,simprocAttr,s3],VZ hg⟩ ?_;clear s2 s3 hg hlt o1 o2 hj S H;rintro S H ⟨s2,s3,hg⟩;generalize A7 (P++ev)=FR at*;rw[hF]at hEe;clear hF hap hlen2;obtain⟨fl,fe⟩:=F;obtain⟨ek,ev2,el,ec2,et,es⟩:=e;simp only[Sx.cells]at r2 hEe;replace zz:=Aa s2 s3 r2 d2;(repeat'(first|refine cK ?_|refine nK ?_|refine uD zz ?_|apply zI));(first|refine uV zz (hEe _) ?_|refine uA zz (hEe _) ?_);(repeat'(first|refine cK ?_|refine nK ?_|refine uT zz ?_|(refine uN hK ?_;clear hK)|apply zI));exact⟨Kv _ _ _ _,hg⟩
 cases P with
 |nil=>exact A6.nilAgg (pre:=[]) λa cap=>main _ (.inl ⟨a,cap,rfl,rfl⟩)
 |cons f P=>exact main _ (.inr ⟨rfl,by simp[A7]⟩)
theorem Wr(w:ByteArray):Fe w=0\/Fe w=3\/Fe w=4\/Fe w=5:=by
 unfold Fe;cases A1 w JQ<;>cases A1 w JR<;>cases A1 w JS<;>simp
theorem jX{P:List Pm}{W:List Fm}{k:Int}{n:ByteArray}{a:List ByteArray}(hp:P.length<=1048576)(hwl:W.length<=1048576)(h:A0):
  A6 prog 114 [.agg [.imm 2 (A7 P),.imm 6 (Fm.rows W)],.sc (.int .i64 k),A2 n,.imm 1 (AN a),.agg [.sc (.string ⟨#[]⟩),.sc (.string ⟨#[]⟩),.sc (.int .i64 0),.sc (.slice none 0 0),.sc (.slice none 0 0)]] h λr h'=>r= .agg (Di (F5 ⟨P,W⟩ k n a Bs))/\h'=h:=
 A6.nz (Wp (v:=Bs) (by omega) (by omega) h) (Hj (Nz.refl _) (Hj (Nz.refl _) (Hj (Nz.refl _) (Hj (Nz.refl _) (Hj (VW (Hj (Nz.refl _) (Hj (Nz.refl _) (Hj (Nz.refl _) (Hj Pl (Hj Pl (Cx.refl _))))))) (Cx.refl _))))))
theorem Sx.nodes_le{x:Sx}: ∀ {l:List Sx},x∈l->x.nodes<=Sx.nodess l
 |y::l,h=>by
  simp only[Sx.nodess];rcases D7.1 h with rfl|h
  ·omega
  ·have:=Sx.nodes_le h;omega
theorem jY(S:Dk)(k:Int): ∀ l:List Sx,(GJ S k l).1.length<=1
 |[]=>by simp[GJ]
 |[_]=>by simp[GJ]
 |[a,e]=>by
  simp only[GJ];cases(EV a).2.2==0<;>cases(Gw e).2==0<;>simp
 |_::_::_::_=>by simp[GJ]
theorem jZ(S:Dk): ∀ l:List Sx,Ek l S=(match Ek l S with|(b,c)=>bif c==0 then([]++b,0)else([],c))
 |[]=>by rw[Ek];try rfl
 |x::l=>by
  rw[Ek.eq_def];simp only;generalize Ci x S=A;obtain⟨a,c⟩:=A;simp only;cases z:c==0 with
  |false=>simp only[AI,z]
  |true=>
   simp only[AB];generalize Ek l S=B;obtain⟨b,c'⟩:=B;simp only;cases z':c'==0 with
   |false=>simp only[AI,z']
   |true=>simp only[AB,D8,Au]
theorem Ws(S:Dk)(k:Int)(a:Sx):(Ix S k a).1.length<=1:=by
 unfold Ix;cases(EV a).2.2==0<;>simp
theorem Wt{S:Dk}: ∀ l:List Sx,(∀ x∈l,(Ci x S).1.length<=x.nodes)->(Ek l S).1.length<=Sx.nodess l
 |[],_=>by rw[Ek];simp[Sx.nodess]
 |x::l,hx=>by
  have ih:=Wt l (λy hy=>hx y (by simp[hy]));have h1:=hx x (by simp);rw[Ek.eq_def];simp only[Sx.nodess];generalize Ci x S=A at*;obtain⟨a,c⟩:=A;simp only at h1⊢;cases c==0 with
  |false=>simp
  |true=>
   simp only[AB];generalize Ek l S=B at*;obtain⟨b,c'⟩:=B;simp only at ih⊢;cases c'==0 with
   |false=>simp
   |true=>simp only[AB,DZ];omega
theorem QB: ∀ (n:Nat)(x:Sx),x.nodes<=n-> ∀ S:Dk,(Ci x S).1.length<=x.nodes
 |0,x,h,_=>by have:=Sx.nodes_pos x;omega
 |n+1,.mk kind v l c t kids,h,S=>by
  have ih:=QB n;simp only[Sx.nodes]at h⊢;rw[Ci.eq_def];simp only;cases kind==3 with
  |false=>simp
  |true=>
   simp only[AB];cases kids with
   |nil=>simp
   |cons x rest=>
    have hx:=Sx.nodes_pos x;simp only[Sx.nodess]at h⊢;cases Ax x==1 with
    |false=>simp
    |true=>
     simp only[AB];cases !(Fe (Ah x)==0)with
     |true=>have:=jY S (Fe (Ah x)) rest;simp only[AB];omega
     |false=>
      simp only[AI];cases A1 (Ah x) HO with
      |true=>
       simp only[AB]
       match rest,h with
       |[],_=>simp
       |[_],_=>simp
       |[f,e],h=>
        simp only[Sx.nodess]at h⊢;cases(Cg f).2==0 with
        |false=>simp
        |true=>have:=ih e (by omega) ⟨S.params,S.whens++[(Cg f).1]⟩;simp only[AB];omega
       |_::_::_::_,_=>simp
      |false=>
       simp only[AI];cases A1 (Ah x) DH with
       |true=>
        simp only[AB]
        match rest,h with
        |[],_=>simp
        |[_],_=>simp
        |[p,e],h=>
         simp only[Sx.nodess]at h⊢;cases Ax p==3 with
         |false=>simp
         |true=>
          simp only[AB];cases(Bt true (CA p)).2==0 with
          |false=>simp
          |true=>have:=ih e (by omega) ⟨S.params++(Bt true (CA p)).1,S.whens⟩;simp only[AB];omega
        |_::_::_::_,_=>simp
       |false=>
        simp only[AI];cases A1 (Ah x) Bc with
        |true=>
         have:=Wt (S:=S) rest (λy hy=>ih y (by have:=Sx.nodes_le hy;omega) S);simp only[AB];omega
        |false=>
         simp only[AI];cases A1 (Ah x) DD with
         |true=>
          simp only[AB]
          match rest with
          |[]=>simp
          |[a]=>have:=Ws S 2 a;simp only;omega
          |_::_::_=>simp
         |false=>
          have:=Ws S 1 (.mk kind v l c t (x::rest));simp only[AI];omega
theorem ja{kind value line col:Int}{text:ByteArray}{kids:List Sx}(hE: ∀ e∈kids,N5 e)
  (hok:(Sx.mk kind value line col text kids).ok)(hsm:(Sx.mk kind value line col text kids).small):N5 (.mk kind value line col text kids):=by
 intro P W hp hwl h;refine A6.frz Ty.Hf ?_;have hbg:=Ly hok;have hda:=λh:A0=>Sb hok hsm h;have hks: ∀ z∈kids,z.ok:=by simp only[Sx.ok]at hok;exact Sx.oks_iff.1 hok.2.2.2.2
 have hkm: ∀ z∈kids,z.small:=by simp only[Sx.small]at hsm;exact Sx.smalls_iff.1 hsm.2
 generalize hF:Ci (.mk kind value line col text kids) ⟨P,W⟩=F;rw[Ci.eq_def]at hF;simp only at hF;simp only[Sx.nodes]at hp hwl;have hlen:=Sx.rows_len kids;cases q:kind==3 with
 |false=>
  rw[q,AI]at hF;subst hF;have hn:Bd (.mk kind value line col text kids)=none:=by simp only[Bd];rw[A4 (by simpa using q)]
  rw[hn]at hbg
  clear hE hda hok hsm hn;simp only[Sx.cells,MN]at hbg⊢;refine AE func53 ntmps53 results53 Ty.Hf ?_;refine wt q ?_;refine uU A3 (hbg _) ?_;refine wt yF ?_;exact⟨GM (c:=2) rfl,AC.refl _⟩
 |true=>
  rw[q,AB]at hF;cases kids with
  |nil=>
   simp only at hF;subst hF;clear hE hda hbg hok hsm;simp only[Sx.cells,Sx.rows];refine AE func53 ntmps53 results53 Ty.Hf ?_;refine wt q ?_;refine⟨?_,AC.refl _⟩;simp only[AF,AL,AO,D8,AB,Al,B5];exact⟨_,rfl,.inr (.inl ⟨rfl,.inr rfl⟩),rfl,trivial⟩
  |cons x rest=>
   simp only at hF;have q5:(((Sx.rows (x::rest)).length:Int)==0)=false:=(by rw[hlen];simp;omega);have q0:((0:Int)<((Sx.rows (x::rest)).length:Int))=True:=Db (by rw[hlen];simp<;>omega);cases q1:Ax x==1 with
   |false=>
    rw[q1,AI]at hF;subst hF;have hn:Bd (.mk kind value line col text (x::rest))=none:=(by simp only[Bd];rw[AG (by simpa using q),q1];try rfl);rw[hn]at hbg;clear hE hda hok hsm hn;simp only[Sx.cells,MN]at hbg⊢;generalize Sx.rows (x::rest)=R at*;refine AE func53 ntmps53 results53 Ty.Hf ?_;refine wt (uu q q5) ?_;refine uU A3 (hbg _) ?_;refine wt yF ?_;exact⟨GM (c:=2) rfl,AC.refl _⟩
   |true=>
    rw[q1,AB]at hF;have hn:Bd (.mk kind value line col text (x::rest))=some (Ah x,rest):=(by simp only[Bd];rw[AG (by simpa using q),q1];try rfl);rw[hn]at hbg;clear hn;have r0:=Sx.rows_get (l:=x::rest) (i:=0) rfl;have hnl:=Sx.len_nodess rest;have hxn:=Sx.nodes_pos x;simp only[Sx.nodess]at hp hwl;have hnum:=λ(k:Int)(h:A0)=>jK (P:=P) (W:=W) (k:=k) (kind:=kind) (value:=value) (line:=line) (col:=col) (text:=text) (y:=x) (rest:=rest) (by omega) (by omega) (λz hz=>hks z (by simp[hz])) (λz hz=>hkm z (by simp[hz])) (by omega) h;have hwh:=λh:A0=>jV (P:=P) (W:=W) (kind:=kind) (value:=value) (line:=line) (col:=col) (text:=text) (y:=x) (rest:=rest) (λz hz=>hE z (by simp[hz])) (λz hz=>hks z (by simp[hz])) (by omega) (by omega) h;have hfa:=λh:A0=>jW (P:=P) (W:=W) (kind:=kind) (value:=value) (line:=line) (col:=col) (text:=text) (y:=x) (rest:=rest) (λz hz=>hE z (by simp[hz])) (λz hz=>hks z (by simp[hz])) (by omega) (by omega) h;have hcz:=λ(k:Int)(n:ByteArray)(a:List ByteArray)(h:A0)=>jX (P:=P) (W:=W) (k:=k) (n:=n) (a:=a) (by omega) (by omega) h;simp only[Sx.cells,NL]at hbg hda⊢;have hkc:=λh:A0=>jH (w:=Ah x) h;obtain⟨xk,xv,xl,xc,xt,xs⟩:=x;simp only[Ah,Ax]at hF q1 hkc;simp only[Sx.cells]at r0;generalize hR:Sx.rows (.mk xk xv xl xc xt xs::rest)=R at*;have q1b:(1:Int)<=(R.length:Int):=(by rw[hlen];simp<;>omega);have ht:List.take ((R.length:Int)-1).toNat (List.drop 1 R)=Sx.rows rest:=by
     rw[← hR];simp only[Sx.rows,GW,CB,Aw];rw[DQ (by omega)]
    have hll:=Sx.rows_len rest;cases k0:Fe xt==0 with
    |false=>
     rw[k0,C4,AB]at hF;have e0:decide (0<Fe xt)=true:=by
      rcases Wr xt with h|h|h|h<;>simp[h]at k0⊢
     have hn2:=hnum (Fe xt);rw[hF]at hn2;generalize Fe xt=kw at*;clear hE hok hsm hda hnum hwh hfa hcz hF hks hkm hR;obtain⟨fl,fe⟩:=F;refine AE func53 ntmps53 results53 Ty.Hf ?_;refine wt (uu q q5) ?_;refine uU A3 (hbg _) ?_;replace zz:=Aa yT yF r0 q0;refine wt zz ?_;refine uU (uu r0 q0) (hkc _) ?_;refine wt e0 ?_;refine uU A3 (hn2 _) ?_;refine wt A3 ?_;exact⟨Kv _ _ _ _,AC.refl _⟩
    |true=>
     rw[k0,Ap,AI]at hF;have kz:Fe xt=0:=(by simpa using k0);have e0:decide ((0:Int)<0)=false:=rfl;rw[kz]at hkc;clear hnum kz k0;cases e1:A1 xt HO with
     |true=>
      rw[e1,AB]at hF;have e1:(xt.data.toList==[119,104,101,110])=true:=e1;change OQ P W rest=F at hF;rw[hF]at hwh;clear hE hok hsm hda hfa hcz hF hks hkm hR;obtain⟨fl,fe⟩:=F;refine AE func53 ntmps53 results53 Ty.Hf ?_;refine wt (uu q q5) ?_;refine uU A3 (hbg _) ?_;replace zz:=Aa yT yF r0 q0;refine wt zz ?_;refine uU (uu r0 q0) (hkc _) ?_;refine wt (uu e0 e1) ?_;refine uU A3 (hwh _) ?_;refine wt A3 ?_;exact⟨Kv _ _ _ _,AC.refl _⟩
     |false=>
      rw[e1,AI]at hF;have e1:(xt.data.toList==[119,104,101,110])=false:=e1;clear hwh;cases e2:A1 xt DH with
      |true=>
       rw[e2,AB]at hF;have e2:(xt.data.toList==[102,111,114,97,108,108])=true:=e2;change OR P W rest=F at hF;rw[hF]at hfa;clear hE hok hsm hda hcz hF hks hkm hR;obtain⟨fl,fe⟩:=F;refine AE func53 ntmps53 results53 Ty.Hf ?_;refine wt (uu q q5) ?_;refine uU A3 (hbg _) ?_;replace zz:=Aa yT yF r0 q0;refine wt zz ?_;refine uU (uu r0 q0) (hkc _) ?_;refine wt (AV e0 e1 e2) ?_;refine uU A3 (hfa _) ?_;refine wt A3 ?_;exact⟨Kv _ _ _ _,AC.refl _⟩
      |false=>
       rw[e2,AI]at hF;have e2:(xt.data.toList==[102,111,114,97,108,108])=false:=e2;clear hfa;cases e3:A1 xt Bc with
       |true=>
        rw[e3,AB]at hF;have e3:(xt.data.toList==[97,110,100])=true:=e3;refine AE func53 ntmps53 results53 Ty.Hf ?_;refine wt (uu q q5) ?_;refine uU A3 (hbg _) ?_;replace zz:=Aa yT yF r0 q0;refine wt zz ?_;refine uU (uu r0 q0) (hkc _) ?_;replace zz:=BK e0 e1 e2 e3 q1b ht hll @CU @CV;refine wt zz ?_;clear hok hsm hks hkm hda hcz hbg hkc;refine Cd (λm S h'=>S 2= .cptr [.imm 2 (A7 P),.imm 6 (Fm.rows W)]/\S 69= .imm 6 (Sx.rows rest)/\S 70= .sc (.int .i64 rest.length)/\ ∃ (k:Nat)(p:PV)(pre:List Ch),S 71= .sc (.int .i64 k)/\S 8=p/\k<=rest.length/\m=rest.length-k/\AC h h'/\Tl h' h.next 15 p (Al pre)/\pre.length+Sx.nodess (rest.drop k)<=Sx.nodess rest/\
         F=(match Ek (rest.drop k) ⟨P,W⟩with|(b,c)=>bif c==0 then(pre++b,0)else([],c))) rest.length ?_ ?_
        ·simp only[Ty.w,simprocAttr];refine⟨0,_,[],rfl,rfl,by omega,rfl,AC.refl _,Tl.nil,by simp,?_⟩;rw[CB, ← hF];exact jZ _ _
        ·clear hF;rintro m S h' ⟨g2,g69,g70,k,p,pre,g71,g8,hk,rfl,hg,tl,hpl,hinv⟩;by_cases hlt:k<rest.length
         ·have hd:decide ((k:Int)<(rest.length:Int))=true:=(by simp;omega);have w7:IntKind.i64.wrap ((k:Int)+1)=k+1:=(by rw[Br (by omega) (by omega)]);obtain⟨x,hx⟩: ∃ x,rest[k]? =some x:=⟨_,AU hlt⟩;have hr:=Sx.rows_get hx;have hxm:=C7 hx;have hxe:=hE x (by simp[hxm]);have hxl:=Sx.nodes_le hxm;have hxn:=QB _ x (AD _) ⟨P,W⟩;have hce:=hxe P W (by omega) (by omega);rw[Cm hx]at hinv hpl;simp only[Sx.nodess]at hpl;rw[Ek.eq_def]at hinv;simp only at hinv;generalize Ci x ⟨P,W⟩=A at*;obtain⟨a,c⟩:=A;simp only at hinv hce hxn;have hxok:=hce;clear hE hxe hxm hxl;obtain⟨yk,yv,yl,yc,yt,ys⟩:=x;simp only[Sx.cells]at hce hr;cases z1:(c==0)with
          |false=>
           simp only[z1,AI]at hinv;subst hinv;rw[K5 z1]at hce;simp only[Aj]at hce;replace zz:=Ag g2 g69 g70 g71 g8 hd hr;refine wt zz ?_;replace zz:=Aq g2 g69 g70 g71 g8 hr;refine uU zz (hce _) ?_;replace zz:=Aq g2 g69 g70 g71 g8 @B2;refine wt zz ?_;exact⟨GM z1,(hg.new _).set hg.le _⟩
          |true=>
           simp only[z1,AB]at hinv;rw[K6 z1]at hce;have hg2:AC h ((h'.new (.arr 6 [[.sc (.int .i64 0),.sc (.int .i64 0),.sc (.int .i64 0),.sc (.int .i64 0),.sc (.string ⟨#[]⟩),.sc (.slice none 0 0)]])).set h'.next (.arr 6 [[.sc (.int .i64 yk),.sc (.int .i64 yv),.sc (.int .i64 yl),.sc (.int .i64 yc),A2 yt,.imm 6 (Sx.rows ys)]])):=(hg.new _).set hg.le _;have tl2:=tl.up (h':=((h'.new (.arr 6 [[.sc (.int .i64 0),.sc (.int .i64 0),.sc (.int .i64 0),.sc (.int .i64 0),.sc (.string ⟨#[]⟩),.sc (.slice none 0 0)]])).set h'.next (.arr 6 [[.sc (.int .i64 yk),.sc (.int .i64 yv),.sc (.int .i64 yl),.sc (.int .i64 yc),A2 yt,.imm 6 (Sx.rows ys)]]))) (by simp[A0.new,A0.set]) λj _ hj=>by
            simp only[A0.set,A0.new];rw[A4 (by omega),A4 (by omega)]
           obtain⟨H,t1,t2,t3,t4,t5⟩:=tl2.tail;have hpr:(Al pre).length=pre.length:=(by simp[Al]);have hpa:(Al a).length=a.length:=(by simp[Al]);have hb:((Al pre).length+(Al a).length)*304<=140737488355328:=(by omega);replace zz:=Ag g2 g69 g70 g71 g8 hd hr;refine wt zz ?_;replace zz:=Aq g2 g69 g70 g71 g8 hr;refine uU zz (hce _) ?_;replace zz:=BO g2 g69 g70 g71 g8 w7 t1 t2;(repeat'(first|refine cK ?_|refine nK ?_|refine Ae λK hK=>?_|refine uR zz ?_|refine uQ zz λK hK=>?_|refine uK ?_|refine Bo zz ?_|(refine uN hK ?_;clear hK)|(rw[AG];rotate_left 1;omega;simp only[Ty.w,simprocAttr,g2,g69,g70,g71,g8,w7,t1,t2])|apply zI));have t3':H.next=h'.next+1:=by rw[t3];simp[A0.new,A0.set]
           have hkp:=t5 h ⟨hg2.le,hg2.old⟩ (AD _);have hgH:AC h H:=⟨hkp.1,hkp.2⟩;have hap:Al pre++Al a=Al (pre++a):=(by simp[Al]);rw[hap];refine⟨rest.length-(k+1),by omega,k+1,.own H.next 0 ((Al pre).length+(Al a).length),pre++a,by simp,by rw[t3'],by omega,rfl,hgH.new _,Tl.grow hkp.1 (by simp[Al]),by simp only[DZ];omega,?_⟩;rw[hinv];generalize Ek (List.drop (k+1) rest) ⟨P,W⟩=B;obtain⟨b,c'⟩:=B;cases hq:c'==0 with
           |false=>simp only[hq,AI]
           |true=>simp only[hq,AB,D8,HW]
         ·have hd:decide ((k:Int)<(rest.length:Int))=false:=(by simp;omega);rw[D3 (by omega),Ek]at hinv;simp only[D8,AB,J5]at hinv;replace zz:=Aq g2 g69 g70 g71 g8 hd;refine wt zz ?_;subst hinv;refine⟨?_,hg⟩;have h1:=tl.frzR (AD _) (Wo h.next h' pre);have e2:AO 0= .sc .nilIface:=rfl;simp only[e2];unfold AF;refine⟨_,rfl,?_⟩;unfold AL;refine⟨h1,?_⟩;unfold AL;exact⟨by simp only[AF],by simp only[AL]⟩
       |false=>
        rw[e3,AI]at hF;have e3:(xt.data.toList==[97,110,100])=false:=e3;cases e4:A1 xt DD with
        |true=>
         rw[e4,AB]at hF;have e4:(xt.data.toList==[110,111,116])=true:=e4;clear hda hE;cases q6:((R.length:Int) !=2)with
         |true=>
          have e:F=([],2):=by
           rw[← hF]
           match rest,q6,hlen with
           |[],_,_=>rfl
           |[_],q,hlen=>rw[hlen]at q;simp at q
           |_::_::_,_,_=>rfl
          subst e;clear hks hkm hok hsm hcz hF hR ht;refine AE func53 ntmps53 results53 Ty.Hf ?_;refine wt (uu q q5) ?_;refine uU A3 (hbg _) ?_;replace zz:=Aa yT yF r0 q0;refine wt zz ?_;refine uU (uu r0 q0) (hkc _) ?_;replace zz:=Aq e0 e1 e2 e3 e4 q6;refine wt zz ?_;exact⟨GM (c:=2) rfl,AC.refl _⟩
         |false=>
          obtain⟨a,rfl⟩: ∃ a,rest=[a]:=by
           match rest,q6,hlen with
           |[],q,hlen=>rw[hlen]at q;simp at q
           |[a],_,_=>exact⟨a,rfl⟩
           |_::_::l,q,hlen=>rw[hlen]at q;simp at q;omega
          have ca:=λh:A0=>Sb (hks a (by simp)) (hkm a (by simp)) h;have r1:=Sx.rows_get (l:=[.mk xk xv xl xc xt xs,a]) (i:=1) rfl;have d1:((1:Int)<(R.length:Int))=True:=Db (by rw[hlen];simp);rw[hR]at r1;clear hks hkm hok hsm hR ht;simp only at hF;unfold Ix at hF;generalize EV a=A at hF ca;obtain⟨an,aa,ac⟩:=A;obtain⟨ak,av,al,acc,at_,as_⟩:=a;simp only[Lz,Sx.cells]at hF ca r1;cases z1:(ac==0)with
          |false=>
           rw[z1,AI]at hF;subst hF;rw[K5 z1]at ca;clear hcz;simp only[Aj]at ca;refine AE func53 ntmps53 results53 Ty.Hf ?_;refine wt (uu q q5) ?_;refine uU A3 (hbg _) ?_;replace zz:=Aa yT yF r0 q0;refine wt zz ?_;refine uU (uu r0 q0) (hkc _) ?_;replace zz:=AY yT yF r0 q0 e0 e1 e2 e3 e4 q6 r1 d1;refine wt zz ?_;refine uU (uu r1 d1) (ca _) ?_;refine wt (AV @B2 yF yT) ?_;exact⟨GM z1,AC.refl _⟩
          |true=>
           rw[z1,AB]at hF;subst hF;rw[K6 z1]at ca;have hcz:=hcz 2 an aa;generalize F5 ⟨P,W⟩ 2 an aa Bs=C at*;obtain⟨ck,cp,⟨gop,gna,gar,gpa,gex,gki⟩,cn,cas,⟨eop,ena,en,ear,eki⟩⟩:=C;simp only[Di,Fm.cells,Ex.cells,C3,Au]at hcz;refine AE func53 ntmps53 results53 Ty.Hf ?_;refine wt (uu q q5) ?_;refine uU A3 (hbg _) ?_;replace zz:=Aa yT yF r0 q0;refine wt zz ?_;refine uU (uu r0 q0) (hkc _) ?_;replace zz:=AY yT yF r0 q0 e0 e1 e2 e3 e4 q6 r1 d1;refine wt zz ?_;refine uU (uu r1 d1) (ca _) ?_;refine wt (AV @B2 yF yT) ?_;refine uU (uu r1 d1) (hcz _) ?_;refine wt (uu r1 d1) ?_;exact⟨Kv _ _ [_] 0,AC.refl _⟩
        |false=>
         rw[e4,AI]at hF;have e4:(xt.data.toList==[110,111,116])=false:=e4;clear hE hks hkm hok hsm;unfold Ix at hF;generalize EV (.mk kind value line col text (.mk xk xv xl xc xt xs::rest))=A at hF hda;obtain⟨an,aa,ac⟩:=A;simp only[Lz]at hF hda;have ca:=hda;clear hda;clear hR;cases z1:(ac==0)with
         |false=>
          rw[z1,AI]at hF;subst hF;rw[K5 z1]at ca;clear hcz;simp only[Aj]at ca;refine AE func53 ntmps53 results53 Ty.Hf ?_;refine wt (uu q q5) ?_;refine uU A3 (hbg _) ?_;replace zz:=Aa yT yF r0 q0;refine wt zz ?_;refine uU (uu r0 q0) (hkc _) ?_;replace zz:=BK yT yF r0 q0 e0 e1 e2 e3 e4;refine wt zz ?_;refine uU A3 (ca _) ?_;refine wt (AV @B2 yF yT) ?_;exact⟨GM z1,AC.refl _⟩
         |true=>
          rw[z1,AB]at hF;subst hF;rw[K6 z1]at ca;have hcz:=hcz 1 an aa;generalize F5 ⟨P,W⟩ 1 an aa Bs=C at*;obtain⟨ck,cp,⟨gop,gna,gar,gpa,gex,gki⟩,cn,cas,⟨eop,ena,en,ear,eki⟩⟩:=C;simp only[Di,Fm.cells,Ex.cells,C3,Au]at hcz;refine AE func53 ntmps53 results53 Ty.Hf ?_;refine wt (uu q q5) ?_;refine uU A3 (hbg _) ?_;replace zz:=Aa yT yF r0 q0;refine wt zz ?_;refine uU (uu r0 q0) (hkc _) ?_;replace zz:=BK yT yF r0 q0 e0 e1 e2 e3 e4;refine wt zz ?_;refine uU A3 (ca _) ?_;refine wt (AV @B2 yF yT) ?_;refine uU A3 (hcz _) ?_;refine wt A3 ?_;exact⟨Kv _ _ [_] 0,AC.refl _⟩
theorem Wu: ∀ (n:Nat)(x:Sx),x.nodes<=n->x.ok->x.small->N5 x
 |0,x,h,_,_=>by have:=Sx.nodes_pos x;omega
 |n+1,.mk kind value line col text kids,h,hok,hsm=>by
  have hks: ∀ z∈kids,z.ok:=by simp only[Sx.ok]at hok;exact Sx.oks_iff.1 hok.2.2.2.2
  have hkm: ∀ z∈kids,z.small:=by simp only[Sx.small]at hsm;exact Sx.smalls_iff.1 hsm.2
  refine ja (λe he=>Wu n e ?_ (hks e he) (hkm e he)) hok hsm;have:=Sx.nodes_le he;simp only[Sx.nodes]at h;omega
theorem jb{x:Sx}(hok:x.ok)(hsm:x.small):N5 x:=Wu _ x (AD _) hok hsm
set_option maxHeartbeats 2000000
structure Dk.okN(S:Dk)(n:Nat):Prop where
 params: ∀ p∈S.params,p.ok
 plen:S.params.length+n<=1048576
 whens: ∀ f∈S.whens,f.ok/\f.small
 wlen:S.whens.length+n<=1048576
theorem Dk.okN.mono{S:Dk}{n m:Nat}(h:S.okN n)(hm:m<=n):S.okN m:=⟨h.params,by have:=h.plen;omega,h.whens,by have:=h.wlen;omega⟩
theorem Wv:Bv.ok/\Bv.small:=K0 (by decide) (by decide) (by simp) (by simp) (by simp) (by simp) (by simp) (by simp) (by simp) (by simp)
theorem jc{l:List Fm}(h: ∀ f∈l,f.ok/\f.small)(hl:l.length<=1048576):(Q3 l).ok/\(Q3 l).small:=by
 match l,h,hl with
 |[],_,_=>exact Wv
 |[f],h,_=>exact h f (by simp)
 |f::g::l,h,hl=>exact K0 (by decide) (by decide) (by simp) (by simp) (by simp) (by simp) (by simp) (by simp) hl h
theorem Ww{S:Dk}{m:Nat}(hS:S.okN m){k:Int}{n:ByteArray}{a:List ByteArray}{v:Ex}(hk:0<=k/\k<=5)(hn:n.size<=AJ)(ha:a.length<=1048576)(has: ∀ s∈a,s.size<=AJ)(hv:v.ok/\v.small):(F5 S k n a v).ok/\Fq (F5 S k n a v):=by
 have hc:=jc hS.whens (by have:=hS.wlen;omega);have hp:=hS.plen;refine⟨⟨⟨by simp only[F5,AJ];omega,hS.params⟩,hc.1,⟨by simp only[F5,AJ];omega,has⟩,hv.1,hn,by simp only[F5];omega⟩,⟨hc.2,hv.2,by simp only[F5];omega,ha⟩⟩
theorem Wx{x:Sx}(hok:x.ok)(hsm:x.small):(EV x).1.size<=AJ/\(EV x).2.1.length<=1048576/\ ∀ s∈(EV x).2.1,s.size<=AJ:=by
 unfold EV;cases hD:Bd x with
 |none=>exact⟨by decide,by simp,by simp⟩
 |some wl=>
  obtain⟨w,l⟩:=wl;obtain⟨h1,h2,h3⟩:=Ku hok hsm hD;have ht:=O8 h3;simp only;cases An w with
  |false=>exact⟨(by decide:(⟨#[]⟩:ByteArray).size<=AJ),by simp,by simp⟩
  |true=>
   simp only[AB];cases(CF l).2==0 with
   |false=>exact⟨(by decide:(⟨#[]⟩:ByteArray).size<=AJ),by simp,by simp⟩
   |true=>exact⟨h1,by simp only[AB];omega,ht.1⟩
theorem jd{x:Sx}(hok:x.ok):(Gw x).1.ok/\(Gw x).1.small:=by
 unfold Gw;split
 ·rename_i h;split
  ·split
   ·exact Pk x hok (Kf h)
   ·exact Ip
  ·exact Ip
 ·exact Ip
theorem Wy{S:Dk}{m:Nat}(hS:S.okN m){k:Int}(hk:0<=k/\k<=5){a:Sx}(hok:a.ok)(hsm:a.small): ∀ c∈(Ix S k a).1,c.ok/\Fq c:=by
 unfold Ix;obtain⟨h1,h2,h3⟩:=Wx hok hsm;cases(EV a).2.2==0 with
 |false=>simp
 |true=>
  intro c hc;simp only[AB,GV]at hc;subst hc;exact Ww hS hk h1 h2 h3 Ip
theorem je{S:Dk}{m:Nat}(hS:S.okN m){k:Int}(hk:0<=k/\k<=5): ∀ {l:List Sx},(∀ x∈l,x.ok)->(∀ x∈l,x.small)-> ∀ c∈(GJ S k l).1,c.ok/\Fq c
 |[],_,_=>by simp[GJ]
 |[_],_,_=>by simp[GJ]
 |[a,e],hok,hsm=>by
  obtain⟨h1,h2,h3⟩:=Wx (hok a (by simp)) (hsm a (by simp));have hv:=jd (hok e (by simp));simp only[GJ];cases(EV a).2.2==0 with
  |false=>simp
  |true=>
   cases(Gw e).2==0 with
   |false=>simp
   |true=>
    intro c hc;simp only[AB,GV]at hc;subst hc;exact Ww hS hk h1 h2 h3 hv
 |_::_::_::_,_,_=>by simp[GJ]
theorem Wz{S:Dk}: ∀ l:List Sx,(∀ x∈l, ∀ c∈(Ci x S).1,c.ok/\Fq c)-> ∀ c∈(Ek l S).1,c.ok/\Fq c
 |[],_=>by rw[Ek];simp
 |x::l,hx=>by
  have ih:=Wz l (λy hy=>hx y (by simp[hy]));have h1:=hx x (by simp);rw[Ek.eq_def];simp only;generalize Ci x S=A at*;obtain⟨a,c⟩:=A;simp only at h1⊢;cases c==0 with
  |false=>simp
  |true=>
   simp only[AB];generalize Ek l S=B at*;obtain⟨b,c'⟩:=B;simp only at ih⊢;cases c'==0 with
   |false=>simp
   |true=>
    simp only[AB,DY];rintro d (hd|hd)
    ·exact h1 d hd
    ·exact ih d hd
theorem Sd: ∀ (n:Nat)(x:Sx),x.nodes<=n-> ∀ S:Dk,x.ok->x.small->S.okN x.nodes-> ∀ c∈(Ci x S).1,c.ok/\Fq c
 |0,x,h,_=>by have:=Sx.nodes_pos x;omega
 |n+1,.mk kind v l c t kids,h,S=>by
  intro hok hsm hS;have ih:=Sd n;have hks: ∀ z∈kids,z.ok:=by simp only[Sx.ok]at hok;exact Sx.oks_iff.1 hok.2.2.2.2
  have hkm: ∀ z∈kids,z.small:=by simp only[Sx.small]at hsm;exact Sx.smalls_iff.1 hsm.2
  simp only[Sx.nodes]at h hS;rw[Ci.eq_def];simp only;cases kind==3 with
  |false=>simp
  |true=>
   simp only[AB];cases kids with
   |nil=>simp
   |cons x rest=>
    have hx:=Sx.nodes_pos x;simp only[Sx.nodess]at h hS;simp only;cases Ax x==1 with
    |false=>simp
    |true=>
     simp only[AB];cases hk0:!(Fe (Ah x)==0)with
     |true=>
      simp only[AB];exact je (k:=Fe (Ah x)) hS (by rcases Wr (Ah x)with h|h|h|h<;>omega) (λz hz=>hks z (by simp[hz])) (λz hz=>hkm z (by simp[hz]))
     |false=>
      simp only[AI];cases A1 (Ah x) HO with
      |true=>
       simp only[AB]
       match rest,h,hS,hks,hkm with
       |[],_,_,_,_=>simp
       |[_],_,_,_,_=>simp
       |[f,e],h,hS,hks,hkm=>
        simp only[Sx.nodess]at h hS;simp only;have hfn:=Sx.nodes_pos f;have hf:=SV (hks f (by simp));cases(Cg f).2==0 with
        |false=>simp
        |true=>
         simp only[AB];refine ih e (by omega) _ (hks e (by simp)) (hkm e (by simp)) ⟨hS.params,?_,?_,?_⟩
         ·have:=hS.plen;simp only;omega
         ·intro g hg;simp only[DY,GV]at hg;rcases hg with hg|rfl
          ·exact hS.whens g hg
          ·exact hf
         ·have:=hS.wlen;simp only[DZ,Aw,Bw];omega
       |_::_::_::_,_,_,_,_=>simp
      |false=>
       simp only[AI];cases A1 (Ah x) DH with
       |true=>
        simp only[AB]
        match rest,h,hS,hks,hkm with
        |[],_,_,_,_=>simp
        |[_],_,_,_,_=>simp
        |[p,e],h,hS,hks,hkm=>
         simp only[Sx.nodess]at h hS;simp only;cases Ax p==3 with
         |false=>simp
         |true=>
          simp only[AB];have hpo:=hks p (by simp);obtain⟨pk,pv,pl,pc,pt,ps⟩:=p;simp only[Sx.ok]at hpo;simp only[CA];simp only[Sx.nodes]at h hS;have hpl:=SU true ps.length ps (AD _) (Sx.oks_iff.1 hpo.2.2.2.2) [] [] (by simp) (by simp);simp only[Bw,Be]at hpl;have hln:=Sx.len_nodess ps;change (∀ p∈(Bt true ps).1,p.ok)/\(Bt true ps).1.length<=ps.length at hpl;cases(Bt true ps).2==0 with
          |false=>simp
          |true=>
           simp only[AB];refine ih e (by omega) _ (hks e (by simp)) (hkm e (by simp)) ⟨?_,?_,hS.whens,?_⟩
           ·intro g hg;simp only[DY]at hg;rcases hg with hg|hg
            ·exact hS.params g hg
            ·exact hpl.1 g hg
           ·have:=hS.plen;simp only[DZ];omega
           ·have:=hS.wlen;simp only;omega
        |_::_::_::_,_,_,_,_=>simp
       |false=>
        simp only[AI];cases A1 (Ah x) Bc with
        |true=>
         simp only[AB];refine Wz rest λy hy=>?_;have:=Sx.nodes_le hy;exact ih y (by omega) S (hks y (by simp[hy])) (hkm y (by simp[hy])) (hS.mono (by omega))
        |false=>
         simp only[AI];cases A1 (Ah x) DD with
         |true=>
          simp only[AB]
          match rest,hks,hkm with
          |[],_,_=>simp
          |[a],hks,hkm=>exact Wy hS (by omega) (hks a (by simp)) (hkm a (by simp))
          |_::_::_,_,_=>simp
         |false=>
          simp only[AI];exact Wy hS (by omega) hok hsm
theorem X1:(Sx.mk 0 0 0 0 ⟨#[]⟩ []).ok:=⟨⟨by decide,by decide⟩,⟨by decide,by decide⟩,by decide,by simp,trivial⟩
theorem OS{f:Fm}(h:f.ok)(hs:f.small):(BQ f).ok:=by
 unfold BQ;cases hv:BU f with
 |false=>exact X1
 |true=>exact WU f h hs (Iw hv)
theorem jf{e:Ex}(h:e.ok)(hs:e.small):(Iy e).ok:=by
 unfold Iy;cases EL e with
 |false=>exact X1
 |true=>exact Re e h hs
theorem X2{a b:Sx}(ha:a.ok)(hb:b.ok):(AK [a,b]).ok:=Fy (by simp[AJ]) ⟨ha,hb,trivial⟩
theorem Se{a b c:Sx}(ha:a.ok)(hb:b.ok)(hc:c.ok):(AK [a,b,c]).ok:=Fy (by simp[AJ]) ⟨ha,hb,hc,trivial⟩
theorem jg(k:Int):(AA (JT k)).ok:=by
 unfold JT;cases k==3<;>cases k==4<;>exact Dj (by decide)
theorem jh{c:Ch}(h:c.ok)(hs:Fq c):(IL c).ok:=by
 have hw:(Cn c.name c.args).ok:=Ph h.name hs.args h.args.2;unfold IL;cases c.kind==1 with
 |true=>exact hw
 |false=>
  simp only[AI];cases c.kind==2 with
  |true=>exact X2 (Dj (by decide)) hw
  |false=>
   simp only[AI];cases c.kind==3||c.kind==4||c.kind==5 with
   |true=>exact Se (jg _) hw (jf h.value hs.value)
   |false=>exact hw
theorem ji{c:Ch}(h:c.ok)(hs:Fq c):(IM c).ok:=by
 have h1:=jh h hs;unfold IM;cases Bp c.cond with
 |true=>exact h1
 |false=>exact Se (Dj (by decide)) (OS h.cond hs.cond) h1
theorem jj{c:Ch}(h:c.ok)(hs:Fq c):(El c).ok:=by
 have h2:=ji h hs;unfold El;cases c.params.isEmpty with
 |true=>exact h2
 |false=>exact Se (Dj (by decide)) (Fy (by rw[Gu];have:=hs.params;unfold AJ;omega) (Kp _ h.params.2)) h2
theorem QC{l:List Ch}(hl:l.length<=1048576)(h: ∀ c∈l,c.ok/\Fq c):(CJ l).ok:=by
 unfold CJ;cases l.isEmpty with
 |true=>exact Fy (by simp) trivial
 |false=>
  refine Fy (by simp only[Aw,E4,AJ];omega) ⟨Dj (by decide),?_⟩;rw[Sx.oks_iff];intro k hk;rw[Er]at hk;obtain⟨c,hc,rfl⟩:=hk;exact jj (h c hc).1 (h c hc).2
theorem M0{s w:ByteArray}(h:An s=true)(hw:w∈HH):A1 s w=false:=by
 unfold An at h;simp only[AR,E5,List.any_eq_false]at h;simpa using h.2 w hw
theorem X3{n:ByteArray}{a:List ByteArray}(hn:An n=true)(ha:a.all C8=true):EV (Cn n a)=(n,a,0):=by
 have e:Bd (Cn n a)=some (n,a.map AA):=rfl;unfold EV;rw[e];simp only[hn,AB,O7 a ha,D8]
theorem X4{S:Dk}{k:Int}{n:ByteArray}{a:List ByteArray}(hn:An n=true)(ha:a.all C8=true):Ix S k (Cn n a)=([F5 S k n a Bs],0):=by
 unfold Ix;rw[X3 hn ha];try rfl
theorem jk{n:ByteArray}(hn:An n=true):Fe n=0:=by
 unfold Fe;rw[M0 hn (w:=JQ) (by simp[HH,JQ]),M0 hn (w:=JR) (by simp[HH,JR]),M0 hn (w:=JS) (by simp[HH,JS])];try rfl
theorem jl{S:Dk}{n:ByteArray}{a:List ByteArray}(hn:An n=true)(ha:a.all C8=true):Ci (Cn n a) S=([F5 S 1 n a Bs],0):=by
 have e:Cn n a= .mk 3 0 0 0 ⟨#[]⟩ (AA n::a.map AA):=rfl;have ho:=X4 (S:=S) (k:=1) hn ha;rw[e]at ho⊢;rw[Ci.eq_def];have k1:Ax (AA n)=1:=rfl;have k2:Ah (AA n)=n:=rfl;simp only[k1,k2,jk hn,M0 hn (w:=HO) (by simp[HH,HO]),M0 hn (w:=DH) (by simp[HH,DH]),M0 hn (w:=Bc) (by simp[HH,Bc]),M0 hn (w:=DD) (by simp[HH,DD]),D8,AB,AI,Ap];exact ho
theorem jm{S:Dk}(x:Sx):Ci (AK [AA DD,x]) S=Ix S 2 x:=by
 have e:AK [AA DD,x]= .mk 3 0 0 0 ⟨#[]⟩ [AA DD,x]:=rfl;rw[e,Ci.eq_def];try rfl
theorem jn{S:Dk}{k:Int}(hk:k=3\/k=4\/k=5)(x y:Sx):Ci (AK [AA (JT k),x,y]) S=GJ S k [x,y]:=by
 have e:AK [AA (JT k),x,y]= .mk 3 0 0 0 ⟨#[]⟩ [AA (JT k),x,y]:=rfl;rw[e,Ci.eq_def];rcases hk with rfl|rfl|rfl<;>rfl
theorem jo{S:Dk}(f x:Sx):Ci (AK [AA HO,f,x]) S=bif (Cg f).2==0 then Ci x ⟨S.params,S.whens++[(Cg f).1]⟩else([],(Cg f).2):=by
 have e:AK [AA HO,f,x]= .mk 3 0 0 0 ⟨#[]⟩ [AA HO,f,x]:=rfl;rw[e,Ci.eq_def];try rfl
theorem jq{S:Dk}(l:List Sx)(x:Sx):Ci (AK [AA DH,AK l,x]) S=bif (Bt true l).2==0 then Ci x ⟨S.params++(Bt true l).1,S.whens⟩else([],(Bt true l).2):=by
 have e:AK [AA DH,AK l,x]= .mk 3 0 0 0 ⟨#[]⟩ [AA DH,AK l,x]:=rfl;rw[e,Ci.eq_def];try rfl
theorem jr{S:Dk}(l:List Sx):Ci (AK (AA Bc::l)) S=Ek l S:=by
 have e:AK (AA Bc::l)= .mk 3 0 0 0 ⟨#[]⟩ (AA Bc::l):=rfl;rw[e,Ci.eq_def];try rfl
theorem X5{e:Ex}(h:e.same Bs=true):e=Bs:=by
 obtain⟨op,na,n,a,k⟩:=e;simp only[Bs,Ex.same,AR,Dv]at h;obtain⟨⟨⟨⟨h1,h2⟩,h3⟩,h4⟩,h5⟩:=h;have e1:=Dz h1;have e2:=Dz h2;have e4:a=[]:=by cases a<;>simp_all [Ee]
 have e5:k=[]:=by cases k<;>simp_all [Ex.sames]
 rw[e1,e2,h3,e4,e5];try rfl
theorem Kw{f:Fm}(h:Bp f=true):f=Bv:=by
 obtain⟨op,na,a,p,e,k⟩:=f;simp only[Bp,Bv,Fm.same,AR]at h;obtain⟨⟨⟨⟨⟨h1,h2⟩,h3⟩,h4⟩,h5⟩,h6⟩:=h;have e1:=Dz h1;have e2:=Dz h2;have e3:a=[]:=by cases a<;>simp_all [Ee]
 have e4:p=[]:=by cases p<;>simp_all [DL]
 have e5:e=[]:=by cases e<;>simp_all [Ex.sames]
 have e6:k=[]:=by cases k<;>simp_all [Fm.sames]
 rw[e1,e2,e3,e4,e5,e6];try rfl
theorem X6{e:Ex}(h:EL e=true):Ey e=true:=by
 unfold EL at h;simp only[AR]at h;exact O5 e 0 0 h.1
theorem js{c:Ch}(h:C2 c=true)(S:Dk):Ci (IL c) S=([F5 S c.kind c.name c.args c.value],0):=by
 unfold C2 at h;simp only[AR]at h;obtain⟨⟨⟨⟨hn,ha⟩,hv⟩,_⟩,_⟩:=h;unfold IL;cases k1:c.kind==1 with
 |true=>
  rw[k1]at hv;have hz:=X5 (by simpa using hv);have hk:c.kind=1:=by simpa using k1
  rw[AB,jl hn ha,hz,hk]
 |false=>
  rw[k1]at hv;simp only[AI,Fw]at hv⊢;cases k2:c.kind==2 with
  |true=>
   rw[k2]at hv;have hz:=X5 (by simpa using hv);have hk:c.kind=2:=(by simpa using k2);rw[AB,jm,X4 hn ha,hz,hk]
  |false=>
   rw[k2]at hv;simp only[AI]at hv⊢;cases k3:c.kind==3||c.kind==4||c.kind==5 with
   |false=>rw[k3]at hv;simp at hv
   |true=>
    rw[k3,AB]at hv;have hk:c.kind=3\/c.kind=4\/c.kind=5:=by
     simp only[DG,Dv]at k3;omega
    have hx:Iy c.value=BE c.value:=(by unfold Iy;rw[hv];try rfl);rw[AB,jn hk,hx];simp only[GJ];rw[X3 hn ha,gF hv (X6 hv)];try rfl
theorem jt{c:Ch}(h:C2 c=true):Ci (El c) ⟨[],[]⟩=([c],0):=by
 have h1:=js h;unfold C2 at h;simp only[AR]at h;obtain⟨⟨_,hf⟩,hp⟩:=h;have h2: ∀ P:List Pm,Ci (IM c) ⟨P,[]⟩=([⟨c.kind,P,c.cond,c.name,c.args,c.value⟩],0):=by
  intro P;unfold IM;cases q:Bp c.cond with
  |true=>
   rw[AB,h1];have:=Kw q;simp only[F5,Q3,this]
  |false=>
   rw[q,Fw]at hf;have hx:BQ c.cond=Am c.cond:=(by unfold BQ;rw[hf];try rfl);rw[AI,jo,hx,OI hf,h1];try rfl
 unfold El;cases q:c.params.isEmpty with
 |true=>
  rw[AB,h2];have:c.params=[]:=KM.1 q;obtain⟨kd,P,cd,n,a,v⟩:=c;simp only at this;rw[this]
 |false=>
  rw[AI,jq,Rv (l:=c.params) ?_]
  ·simp only[D8,AB,Au];rw[h2]
  ·rw [Bq]at hp⊢;intro x hx;have:=hp x hx;unfold BJ at this;unfold Hg Gd;rw[YP];simpa using this
theorem X7: ∀ l:List Ch,l.all C2=true->Ek (l.map El) ⟨[],[]⟩=(l,0)
 |[],_=>by rw[B5,Ek]
 |c::l,h=>by
  simp only[GX,AR]at h;rw[BS,Ek.eq_def];simp only[jt h.1,X7 l h.2];rfl
theorem ju{l:List Ch}(h:l.all C2=true):Ci (CJ l) ⟨[],[]⟩=(l,0):=by
 unfold CJ;cases l with
 |nil=>rfl
 |cons c l=>exact(jr _).trans (X7 _ h)
theorem Sf{l:List Ch}(h:GK l=true):EW (CJ l)=(l,0):=by
 have h':=h;unfold GK at h';simp only[AR]at h';unfold EW;rw[AG h'.2,ju h'.1];simp only[AH,h]
def VS(x:Sx):Prop:=Ke x=true/\x.depth<=32/\x.nodes<=4096
theorem Kx{x:Sx}:(CL x 0 0).1=true↔VS x:=by
 have:=(JK x 0 0 (by omega) (by omega)).1;simpa[VS]using this
theorem X8{k:Sx}: ∀ {l:List Sx},Lo l=true->k∈l->Ke k=true
 |x::l,h,hk=>by
  simp only[Lo,AR]at h;rcases D7.1 hk with rfl|hk
  ·exact h.1
  ·exact X8 h.2 hk
theorem XA{k:Sx}: ∀ {l:List Sx}(n:Nat),k∈l->k.depth<=Sx.depths n l
 |x::l,n,hk=>by
  simp only[Sx.depths];rcases D7.1 hk with rfl|hk
  ·exact EE (Nat.le_max_right _ _) (Sx.depths_le l _)
  ·exact XA _ hk
theorem Gg{l:List Sx}(h:VS (AK l)){k:Sx}(hk:k∈l):VS k:=by
 obtain⟨h1,h2,h3⟩:=h;simp only[AK,Ke,AR]at h1;simp only[AK,Sx.depth]at h2;simp only[AK,Sx.nodes]at h3;have n1:=Sx.nodes_le hk;have d1:=XA 0 hk;refine⟨?_,?_,by omega⟩
 ·simp at h1;exact X8 h1 hk
 ·simp only[AH]at h2;omega
theorem jv{e:Ex}(hs:Ey e=true)(h:VS (BE e)):EL e=true:=by
 have hn:(BE e).nodes<=AJ:=by have:=h.2.2;unfold AJ;omega
 rw[iG hn,hs, ← Ml hn,Kx.2 h];try rfl
theorem Sg{f:Fm}(hs:D1 f=true)(h:VS (Am f)):BU f=true:=by
 have hn:(Am f).nodes<=AJ:=by have:=h.2.2;unfold AJ;omega
 rw[jC hn,hs, ← Ml hn,Kx.2 h];try rfl
theorem XB(c:Ch):D1 (IN c)=(An c.name&&c.args.all C8):=by
 simp[IN,D1,FK,Dp,Eh,Hl,Jt]
theorem jw(c:Ch):Am (IN c)=Cn c.name c.args:=by
 simp[IN,Am,Hl]
theorem M1{f:Fm}(h:D1 f=true):IP f=Bp f:=by
 cases ha:Bp f with
 |true=>rw[Kw ha];try rfl
 |false=>
  cases ht:IP f with
  |false=>rfl
  |true=>
   exfalso;obtain⟨op,na,a,p,e,k⟩:=f;simp only[IP,AR]at ht;have e1:=Dz ht.1;have e2:k=[]:=by
    have:=ht.2;simp only[Fm.rows_len,Dv]at this;cases k with
    |nil=>rfl
    |cons x k=>simp only[Aw]at this;omega
   subst e1 e2;simp only[D1,FK,AR]at h;have hs:Dp Bc ([]:List Fm).length=some (0,0,false):=rfl;rw[hs]at h;have ht2:Eh Bc na a=(HJ na&&a.isEmpty):=rfl;simp only[ht2,AR,GU,BP,KM]at h;obtain⟨⟨⟨⟨⟨⟨⟨h1,h2⟩,h3⟩,h4⟩,h5⟩,h6⟩,h7⟩,h8⟩:=h;have e3:e=[]:=J6.1 h3;have e4:na=⟨#[]⟩:=Dz h1;subst h2 e3 h5 e4;simp[Bp,Bv,Fm.same,Hl,Ee,DL,Ex.sames,Fm.sames]at ha
theorem XC(p:Pm):BJ true p=IG true p:=by
 unfold BJ IG Gd;simp only[AB,AH];rw[YP]
theorem jx{c:Ch}(h:C2 c=true):1<=c.kind/\c.kind<=5:=by
 unfold C2 at h;simp only[AR]at h;obtain⟨⟨⟨_,hv⟩,_⟩,_⟩:=h;cases k1:c.kind==1||c.kind==2 with
 |true=>
  simp only[DG,Dv]at k1;omega
 |false=>
  rw[k1,AI]at hv;cases k3:c.kind==3||c.kind==4||c.kind==5 with
  |false=>rw[k3]at hv;simp at hv
  |true=>
   simp only[DG,Dv]at k3;omega
theorem XD{c:Ch}(h:C2 c=true):JU c=true/\El c=N0 c:=by
 have hk:=jx h;unfold C2 at h;simp only[AR]at h;obtain⟨⟨⟨⟨hn,ha⟩,hv⟩,hf⟩,hp⟩:=h;have hat:D1 (IN c)=true:=by rw[XB,hn,ha];try rfl
 have hcs:D1 c.cond=true:=by
  simp only[DG]at hf;rcases hf with hf|hf
  ·rw [Kw hf];try rfl
  ·exact Iw hf
 have hpp:c.params.all (IG true)=true:=by
  rw[Bq]at hp⊢;intro x hx;rw[← XC];exact hp x hx
 have hval:(bif decide (c.kind<=2)then c.value.same Bs else Ey c.value)=true/\(2<c.kind->Iy c.value=BE c.value):=by
  cases k1:c.kind==1||c.kind==2 with
  |true=>
   rw[k1,AB]at hv;simp only[DG,Dv]at k1;have:decide (c.kind<=2)=true:=(by simp;omega);rw[this];exact⟨hv,λh=>by omega⟩
  |false=>
   rw[k1,AI]at hv;cases k3:c.kind==3||c.kind==4||c.kind==5 with
   |false=>rw[k3]at hv;simp at hv
   |true=>
    rw[k3,AB]at hv;simp only[DG,Dv]at k3;have:decide (c.kind<=2)=false:=(by simp;omega);rw[this];exact⟨X6 hv,λ_=>by unfold Iy;rw[hv];try rfl⟩
 refine⟨?_,?_⟩
 ·unfold JU;have q1:decide (c.kind<1)=false:=by simp;omega
  have q2:decide (5<c.kind)=false:=by simp;omega
  rw[q1,q2,hpp,hcs,hat,hval.1];try rfl
 ·have h1:IL c=My c:=by
   unfold IL My;rw[jw];have hk5:c.kind=1\/c.kind=2\/c.kind=3\/c.kind=4\/c.kind=5:=(by omega);rcases hk5 with k|k|k|k|k
   ·rw [k];try rfl
   ·rw [k];try rfl
   ·rw [hval.2 (by omega),k];try rfl
   ·rw [hval.2 (by omega),k];try rfl
   ·rw [hval.2 (by omega),k];try rfl
  have h2:IM c=Mz c:=by
   unfold IM Mz;rw[M1 hcs,h1];cases q:Bp c.cond with
   |true=>rfl
   |false=>
    rw[q,Fw]at hf;have:BQ c.cond=Am c.cond:=(by unfold BQ;rw[hf];try rfl);rw[this]
  unfold El N0;rw[h2]
theorem jy{c:Ch}(h:JU c=true)(hv:VS (N0 c)):C2 c=true:=by
 unfold JU at h;simp only[AR,E5,Cv]at h;obtain⟨q1,q2,hpp,hcs,hat,hval⟩:=h;rw[XB,AR]at hat;have v2:VS (Mz c):=by
  unfold N0 at hv;cases q:c.params.isEmpty with
  |true=>rw[q]at hv;exact hv
  |false=>rw[q]at hv;exact Gg hv (by simp)
 have v1:VS (My c)/\(Bp c.cond||BU c.cond)=true:=by
  unfold Mz at v2;rw[M1 hcs]at v2;cases q:Bp c.cond with
  |true=>rw[q]at v2;exact⟨v2,rfl⟩
  |false=>
   rw[q,AI]at v2;exact⟨Gg v2 (by simp),by rw[Fw];exact Sg hcs (Gg v2 (by simp))⟩
 have vv:(bif c.kind==1||c.kind==2 then c.value.same Bs else(bif c.kind==3||c.kind==4||c.kind==5 then EL c.value else false))=true:=by
  have hk5:c.kind=1\/c.kind=2\/c.kind=3\/c.kind=4\/c.kind=5:=by omega
  have w:=v1.1;unfold My at w;rcases hk5 with k|k|k|k|k
  ·rw [k]at hval⊢;exact hval
  ·rw [k]at hval⊢;exact hval
  all_goals
   rw[k]at hval w⊢;exact jv hval (Gg (l:=[AA _,Am (IN c),BE c.value]) w (by simp))
 unfold C2;rw[hat.1,hat.2,vv,v1.2];simp only[B8];rw[Bq]at hpp⊢;intro x hx;rw[XC];exact hpp x hx
theorem K7{l:List Ch}(h:l.all C2=true):l.all JU=true/\CJ l=IQ l:=by
 rw[Bq]at h;refine⟨Bq.2 λc hc=>(XD (h c hc)).1,?_⟩;have:l.map El=l.map N0:=NC λc hc=>(XD (h c hc)).2;unfold CJ IQ;rw[this]
theorem XE{l:List Ch}(h:Kt l=true):l.all C2=true:=by
 unfold Kt at h;simp only[AR]at h;have hv:=Kx.1 h.2;rw[Bq];intro c hc;refine jy (Bq.1 h.1 c hc) ?_;unfold IQ at hv;cases l with
 |nil=>simp at hc
 |cons d l=>exact Gg hv (Gm _ (Oi hc))
theorem jz(l:List Ch):GK l=Kt l:=by
 cases hr:Kt l with
 |true=>
  have hb:=XE hr;have hx:=K7 hb;unfold Kt at hr;simp only[AR]at hr;unfold GK;rw[hb,hx.2,hr.2];try rfl
 |false=>
  cases he:GK l with
  |false=>rfl
  |true=>
   unfold GK at he;simp only[AR]at he;have hx:=K7 he.1;unfold Kt at hr;rw[hx.1, ← hx.2,he.2]at hr;exact hr
set_option maxHeartbeats 8000000
theorem Sh{x:Sx}(hok:x.ok)(h:A0):A6 prog 19 [.agg x.cells] h λr h'=>
  r= .tup [.imm 15 (Al (EW x).1),AO (EW x).2]/\h'=h:=by
 refine A6.frz Ty.Nt ?_;have hV:=λh:A0=>JI (x:=x) hok h;generalize hF:EW x=F;unfold EW at hF;cases v:(CL x 0 0).1 with
 |false=>
  rw[v,A4 (by simp)]at hF;subst hF;rw[v]at hV;obtain⟨kind,value,line,col,text,kids⟩:=x;simp only[Sx.cells]at hV⊢;refine AE func19 ntmps19 results19 Ty.Nt ?_;refine wt A3 ?_;refine uU A3 (hV _) ?_;refine wt yF ?_;exact⟨GM (c:=2) rfl,AC.refl _⟩
 |true=>
  rw[v,AG rfl]at hF;have hsm:=Kf v;have hnd:=((JK x 0 0 (by omega) (by omega)).1.1 v).2.2;have hS:Dk.okN ⟨[],[]⟩ x.nodes:=⟨by simp,by simp only[Bw];omega,by simp,by simp only[Bw];omega⟩;have hcs:=Sd _ x (AD _) ⟨[],[]⟩ hok hsm hS;have hln:=QB _ x (AD _) ⟨[],[]⟩;have hE:=λh:A0=>A6.nz (jb hok hsm [] [] (by simp only[Bw];omega) (by simp only[Bw];omega) h) (xs:=[.agg [.sc (.slice none 0 0),.sc (.slice none 0 0)],.agg x.cells]) (Hj (VW (Hj Pl (Hj Pl (Cx.refl _)))) (Cx.refl _));rw[v]at hV;generalize Ci x ⟨[],[]⟩=E at*;obtain⟨l,c⟩:=E;simp only at hF hcs hln hE;have hW:=λh:A0=>jE (l:=l) (by omega) (λc hc=>(hcs c hc).1) (λc hc=>(hcs c hc).2) (QC (by omega) hcs) h
  clear hcs hS hsm;obtain⟨kind,value,line,col,text,kids⟩:=x;simp only[Sx.cells]at hV hE⊢;cases z1:(c==0)with
  |false=>
   have z2:¬ c=0:=(by simpa using z1);rw[A4 z2]at hF;subst hF;rw[K5 z1]at hE;simp only[Aj]at hE;clear hW;refine AE func19 ntmps19 results19 Ty.Nt ?_;refine wt A3 ?_;refine uU A3 (hV _) ?_;refine wt yT ?_;refine uU A3 (hE _) ?_;refine wt @B2 ?_;exact⟨GM z1,AC.refl _⟩
  |true=>
   have z2:c=0:=(by simpa using z1);subst z2;rw[AG rfl]at hF;rw[K6 z1]at hE;generalize CJ l=X at hW;obtain⟨xk,xv,xl,xc,xt,xs⟩:=X;simp only[Sx.cells,IE,Aj]at hW;cases hw:GK l with
   |false=>
    rw[hw,A4 (by simp)]at hF;subst hF;simp only[hw,BG,AP]at hW;refine AE func19 ntmps19 results19 Ty.Nt ?_;refine wt A3 ?_;refine uU A3 (hV _) ?_;refine wt yT ?_;refine uU A3 (hE _) ?_;refine wt A3 ?_;refine uU A3 (hW _) ?_;refine wt @B2 ?_;exact⟨GM (c:=5) rfl,((AC.refl h).new _).set (AD _) _⟩
   |true=>
    rw[hw,AG rfl]at hF;subst hF;simp only[hw,AH]at hW;refine AE func19 ntmps19 results19 Ty.Nt ?_;refine wt A3 ?_;refine uU A3 (hV _) ?_;refine wt yT ?_;refine uU A3 (hE _) ?_;refine wt A3 ?_;refine uU A3 (hW _) ?_;refine wt A3 ?_;exact⟨Kv _ _ _ 0,((AC.refl h).new _).set (AD _) _⟩
end Go.Proofs.YtblgchkahpgdjaaGreat
