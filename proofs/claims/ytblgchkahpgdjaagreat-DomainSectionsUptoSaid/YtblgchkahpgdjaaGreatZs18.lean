/- What the claim rests on, part 18: the abstract machine, contracts of the functions, plain data. -/
import Derived.Test.YtblgchkahpgdjaaGreatZs17
set_option linter.unusedVariables false
set_option linter.unusedSimpArgs false
set_option linter.unusedSectionVars false
namespace Go.Proofs.YtblgchkahpgdjaaGreat
open Go.AM Go.Proofs.Tryz
set_option maxHeartbeats 4000000
set_option maxRecDepth 20000
def Ep(x:Sx):Bool:=match C9 x with
 |[]=>false
 |k::_=>A3 (Aj k) D0||A3 (Aj k) EN
theorem oD{x:Sx}(hok:x.ok)(h:A1):A6 prog 36 [.agg x.cells] h λr h'=>r= .sc (.bool (Ep x))/\h'=h:=by
 generalize hF:Ep x=F;obtain⟨kind,value,line,col,text,kids⟩:=x;simp only[Ep,C9]at hF;simp only[Sx.ok]at hok;have hl:=Sx.B4 kids;simp only[Sx.cells];cases kids with
 |nil=>
  subst hF;have hl0:((Sx.rows []).length:Int)=0:=rfl;have d0:decide ((0:Int)>0)=false:=by decide
  refine AF func36 ntmps36 results36 Ty.Pc ?_;exact wz (uu hl0 d0)
 |cons k ks=>
  have hb:ks.length+1<=AI:=hok.2.2.2.1;have hl0:((Sx.rows (k::ks)).length:Int)=ks.length+1:=by rw[hl];simp
  have d0:decide ((ks.length:Int)+1>0)=true:=LQ (by omega);have d1:(0:Int)<ks.length+1:=by omega
  have hg:(Sx.rows (k::ks))[0]? =some k.cells:=rfl;obtain⟨ki,va,li,co,te,kk⟩:=k;simp only[Aj]at hF;simp only[Sx.cells]at hg;generalize Sx.rows (Sx.mk ki va li co te kk::ks)=R at hl0 hg
  clear hl hok;cases qa:(te.data.toList==(#[58,97,99,116,105,111,110]:Array UInt8).toList)with
  |true=>
   rw[show A3 te D0=true from qa,On]at hF;subst hF;refine AF func36 ntmps36 results36 Ty.Pc ?_;replace zz:=Ak hl0 d0 d1 hg qa;exact wz zz
  |false=>
   rw[show A3 te D0=false from qa,HZ]at hF;cases qb:(te.data.toList==(#[58,100,117,114,97,116,105,118,101,45,97,99,116,105,111,110]:Array UInt8).toList)with
   |true=>
    rw[show A3 te EN=true from qb]at hF;subst hF;refine AF func36 ntmps36 results36 Ty.Pc ?_;replace zz:=Al hl0 d0 d1 hg qa qb;exact wz zz
   |false=>
    rw[show A3 te EN=false from qb]at hF;subst hF;refine AF func36 ntmps36 results36 Ty.Pc ?_;replace zz:=Al hl0 d0 d1 hg qa qb;exact wz zz
theorem oE(d:Dm): ∀ x∈aL d,Ep x=true:=by
 intro x hx;unfold aL at hx;rcases List.mem_append.1 hx with hx|hx
 ·obtain ⟨a,_,rfl⟩:=List.mem_map.1 hx;obtain⟨ks,e⟩:=Xp a;rw[e];try rfl
 ·obtain ⟨a,_,rfl⟩:=List.mem_map.1 hx;obtain⟨ks,e⟩:=Xq a;rw[e];try rfl
theorem oF(d:Dm): ∀ x∈gL d,Ep x=false:=by
 intro x hx;unfold gL at hx;obtain⟨k,hk,rfl⟩:=List.mem_map.1 hx;have:=TD d k hk
 match k,this with
 |0,_=>rfl
 |1,_=>rfl
 |2,_=>rfl
 |3,_=>rfl
theorem YW:Fq.ok:=by
 unfold Fq;refine LF (by simp[AI]) ?_;intro x hx;simp only[List.mem_cons,List.not_mem_nil,ET]at hx;rcases hx with rfl|rfl|rfl
 ·exact D5 (by decide)
 ·exact D5 (by decide)
 ·exact LF (by simp[AI]) (λx hx=>by cases hx)
theorem YX: ∀ l:List Sx,l.length<=Sx.Aw l
 |[]=>by simp[Sx.Aw]
 |k::l=>by
  have:=YX l;have:=Sx.I8 k;simp only[Sx.Aw,List.length_cons];omega
structure B2(a b:PV)(A B:List Sx)(h:A1):Prop where
 ca:Tl h 0 6 a (Sx.rows A)
 cb:Tl h 0 6 b (Sx.rows B)
 ab: ∀ i m n,a= .own i 0 m->b= .own i 0 n->False
theorem B2.swap{a b:PV}{A B:List Sx}{h:A1}(i:B2 a b A B h):B2 b a B A h:=⟨i.cb,i.ca,λj m n e f=>i.ab j n m f e⟩
theorem YY{h:A1}{id0 z:Nat}{p:PV}{rows:List (List PV)}(t:Tl h id0 z p rows){i m:Nat}(e:p= .own i 0 m):i<h.next:=by
 rcases t with⟨_,rfl|rfl⟩|⟨id,_,h2,rfl,_⟩
 ·simp at e
 ·simp at e
 ·simp only[PV.own.injEq]at e;omega
theorem B2.app{a b:PV}{A B:List Sx}{h:A1}(i:B2 a b A B h): ∃ H,EW h a=some (H,Sx.rows A)/\De h 6 a=true/\H.next=h.next/\
  ∀ (x:Sx)(m:Nat)(R:List (List PV)),m=A.length+1->R=Sx.rows A++[x.cells]->B2 (.own h.next 0 m) b (A++[x]) B (H.new (.arr 6 R)):=by
 have hR: ∀ x:Sx,Sx.rows (A++[x])=Sx.rows A++[x.cells]:=λx=>by simp[Sx.rows_map]
 rcases i.ca with⟨hn,hp⟩|⟨id,h1,h2,rfl,h3⟩
 ·refine ⟨h,?_,?_,rfl,?_⟩
  ·rw [hn];rcases hp with rfl|rfl<;>rfl
  ·rcases hp with rfl|rfl<;>rfl
  ·rintro x m R rfl rfl;refine⟨?_,i.cb.up (by simp[A1.new]) λj _ hj=>?_,λj m n e f=>?_⟩
   ·rw [← hR];exact Tl.grow (BY _) (by rw[Sx.B4];simp)
   ·simp only[A1.new];rw[A8 (by omega)]
   ·simp only[PV.own.injEq]at e;have:=YY i.cb f;omega
 ·refine ⟨h.kill id,?_,?_,rfl,?_⟩
  ·simp only[EW,h3,Bf,AG,AO,List.drop_zero,List.take_length]
  ·simp only[De,h3,D8]
  ·rintro x m R rfl rfl;refine⟨?_,?_,λj m n e f=>?_⟩
   ·rw [← hR];exact Tl.grow (H:=h.kill id) (id0:=0) (z:=6) (len:=A.length+1) (rows:=Sx.rows (A++[x])) (BY _) (by rw[Sx.B4];simp)
   ·rcases i.cb with ht|⟨k,k1,k2,e,k3⟩
    ·exact .inl ht
    ·have hki:¬ k=id:=λe2=>(by subst e2;exact i.ab _ _ _ rfl e);refine .inr ⟨k,k1,by simp[A1.new,A1.kill];omega,e,?_⟩;rw[RI,A8 (by rw[RJ];omega),PU,A8 hki];exact k3
   ·simp only[PV.own.injEq]at e;have:=YY i.cb f;omega
theorem YZ{h:A1}{p:PV}{A:List Sx}(t:Tl h 0 6 p (Sx.rows A)):AJ 0 h (.A2 6 (Sx.rows A)) p:=by
 simp only[AJ];rcases t with⟨h1,h2⟩|⟨id,h1,h2,rfl,ho⟩
 ·exact .inr (.inl ⟨h1,h2.symm⟩)
 ·refine .inr (.inr ⟨id,0,_,_,rfl,h1,ho,by omega,?_⟩);rw[List.drop_zero,List.take_of_length_le (by omega)];exact IK 0 h A
theorem oG(d:Dm)(b:Nat):HY d b=A7 Dk::AE [A7 Cv,A7 d.name]::Fq::(aL d++(Fq::EB (gL d) b)):=rfl
set_option maxHeartbeats 8000000
theorem oH{d:Dm}(hok:d.ok)(hb:PV.bulkL d.cells<=1048576){w:Int}(hw0: -9223372036854775808<=w)(hw1:w<=9223372036854775807):A6 prog 8 [.agg d.cells,.sc (.int .i64 w)] A1.nil λr _=>r= .sc (.bool true):=by
 have hsm:=mQ hb;have hL:=jV d hok;have hXo:=Xh hok hsm;have hW:=λh:A1=>XV hok hsm hXo h;have e0:(GI d&&(CM (Ee d) 0 0).1)=H6 d:=rfl;rw[e0]at hW;generalize SR d=big at hL;cases big with
 |true=>
  clear hW hok hsm hb e0 hXo;obtain⟨dn,dt,dc,dp,df,da,dd⟩:=d;simp only[Dm.cells]at hL⊢;refine AF func8 ntmps8 results8 Ty.Mk ?_;refine wt A5 ?_;refine uU A5 (hL _) ?_;refine wt A5 ?_;refine uU A5 (Oj) ?_;exact wz A5
 |false=>
  cases hw:H6 d with
  |false=>
   simp only[hw,BR,AQ]at hW;clear hok hsm hb hw e0 hXo;obtain⟨dn,dt,dc,dp,df,da,dd⟩:=d;simp only[Dm.cells,Hj,Sx.cells,Sx.rows,Ao]at hL hW⊢;refine AF func8 ntmps8 results8 Ty.Mk ?_;refine wt A5 ?_;refine uU A5 (hL _) ?_;refine wt A5 ?_;refine uU yT (Oj) ?_;refine wt yT ?_;refine uU A5 (hW _) ?_;exact wz A5
  |true=>
   simp only[hw,AO]at hW;have hC:=iL (Ee d) hXo;have hpp:=λhc b=>oA hw (d:=d) hc b;have hS:=λh:A1=>jB d d hok hok h;rw[j1]at hS;have hse:=λb=>oG d b;have hXn:(Ee d).nodes<=4096:=by
    unfold H6 at hw;simp only[AV]at hw;exact(Je.1 hw.2).2.2
   have hcn:(Ee d).count=((Ee d).nodes:Int):=Sx.count_eq _ (by unfold AI;omega);have hdl:(J9 d).length<=4096:=by
    have h1:=YX (J9 d);have h2:(Ee d).nodes=Sx.Aw (J9 d)+1:=My _;omega
   rw[TE]at hdl;generalize(Ee d).nodes=nd at hXn hpp hcn;have hXk: ∀ x∈J9 d,x.ok:=by
    have ex:Ee d=AE (J9 d):=rfl;rw[ex]at hXo;simp only[AE,Sx.ok]at hXo;exact Sx.Bz.1 hXo.2.2.2.2
   have hXe:Ee d=AE (J9 d):=rfl;rw[TE]at hXe hXk;have haL:=oE d;have hgL:=oF d;generalize Ee d=X at hW hC hcn hXe;generalize aL d=A at hXe hXk haL hse hdl;generalize gL d=G at hXe hXk hgL hse hdl;clear hok hsm hb hw e0 hXo;subst hXe;have hfa:(G++A).filter Ep=A:=by
    rw[List.filter_append,List.filter_eq_nil_iff.2 (λx hx=>by rw[hgL x hx];simp),List.filter_eq_self.2 haL,List.nil_append]
   have hfg:(G++A).filter (λx=>!Ep x)=G:=by
    rw[List.filter_append,List.filter_eq_self.2 (λx hx=>by rw[hgL x hx];try rfl),List.filter_eq_nil_iff.2 (λx hx=>by rw[haL x hx];simp),List.append_nil]
   have hPo: ∀ b,(AE (HY d b)).ok:=λb=>by
    refine LF ?_ ?_
    ·rw [hse];simp only[List.length_cons,List.length_append,EB,List.length_drop,List.length_take,AI]at hdl⊢;omega
    ·intro x hx;rw[hse]at hx;simp only[List.mem_cons,List.mem_append,(Qb G b).mem_iff]at hx;rcases hx with rfl|rfl|rfl|hx|rfl|hx
     ·exact hXk _ (by simp)
     ·exact hXk _ (by simp)
     ·exact YW
     ·exact hXk _ (by simp[hx])
     ·exact YW
     ·exact hXk _ (by simp[hx])
   generalize hT:G++A=T at hfa hfg hW hC hXk hcn hdl;have hTl:(T.length:Int)=G.length+A.length:=(by rw[← hT];simp);generalize hA0:A7 Dk=A0 at hW hC hXk hcn hdl hse;generalize hB0:AE [A7 Cv,A7 d.name]=B0 at hW hC hXk hcn hdl hse;have hrA:=Sx.B4 A;have hrG:=Sx.B4 G;have hR:=Sx.B4 (A0::B0::T);have hRl:((Sx.rows (A0::B0::T)).length:Int)=(T.length:Int)+2:=(by rw[hR];simp;omega);have hLf:=λn h=>FC n h (AE (A0::B0::T));have hrow: ∀ k x,T[k]? =some x->(Sx.rows (A0::B0::T))[k+2]? =some x.cells:=λk x hx=>Sx.CL (by simp only[List.getElem?_cons_succ];exact hx);have hrow0:(Sx.rows (A0::B0::T))[0]? =some A0.cells:=rfl;have hrow1:(Sx.rows (A0::B0::T))[1]? =some B0.cells:=rfl;have hall: ∀ b,Sx.rows [A0,B0,Fq]++Sx.rows A++Sx.rows [Fq]++Sx.rows (EB G b)=Sx.rows (HY d b):=λb=>by
    rw[hse];simp only[Sx.rows_map, ← List.map_append,List.cons_append,List.nil_append,List.append_assoc]
   simp only[AE,Sx.cells]at hW hC hLf hcn;generalize Sx.count _=cn at hC hcn;generalize hRe:Sx.rows (A0::B0::T)=R at hW hC hR hRl hLf hrow hrow0 hrow1;have hn0:(0:Int)<=T.length:=(by omega);cases d3:decide ((T.length:Int)+2>3000)with
   |true=>
    have d2:decide ((T.length:Int)+2>=2)=true:=(by simp;omega);obtain⟨dn,dt,dc,dp,df,da,dd⟩:=d;simp only[Dm.cells]at hL hW⊢;clear hpp hS hse hPo hall;refine AF func8 ntmps8 results8 Ty.Mk ?_;refine wt A5 ?_;refine uU A5 (hL _) ?_;refine wt A5 ?_;refine uU yT (Oj) ?_;refine wt yT ?_;refine uU A5 (hW _) ?_;replace zz:=Aa hRl d3 d2 @B1;exact wz zz
   |false=>
    cases d4:decide (cn>4000)with
    |true=>
     have d2:decide ((T.length:Int)+2>=2)=true:=(by simp;omega);obtain⟨dn,dt,dc,dp,df,da,dd⟩:=d;simp only[Dm.cells]at hL hW⊢;clear hpp hS hse hPo hall;refine AF func8 ntmps8 results8 Ty.Mk ?_;refine wt A5 ?_;refine uU A5 (hL _) ?_;refine wt A5 ?_;refine uU yT (Oj) ?_;refine wt yT ?_;refine uU A5 (hW _) ?_;refine wt (AY hRl d3 @B1) ?_;replace zz:=Aa hRl d3 d4 @B1;refine uU zz (hC _) ?_;replace zz:=Aa hRl d2 d4 @B1;exact wz zz
    |false=>
     have hns:nd<=4000:=(by have:=TM d4;omega);have hP:=λb (h:A1)=>YP (hPo b) h;have hP: ∀ b (h:A1),A6 prog 22 [.agg (AE (HY d b)).cells] h λr h'=>r= .Am [.agg d.cells,.sc .nilIface]/\h'=h:=λb h=>by
      have:=hP b h;rw[hpp hns b]at this;exact this
     clear hpp hPo hcn hns;have hl4:T.length<=2998:=(by have:=TM d3;omega);have hrx: ∀ (k:Nat)(x:Sx),T[k]? =some x->x.ok:=λk x hx=>hXk x (by simp[List.mem_of_getElem? hx]);have hA:=λ(x:Sx)(hx:x.ok)(h:A1)=>oD hx h;have hfr:=λ(l:List Sx) n h=>IK n h l;have hw1':=λh:A1=>Sf (s:=FK) h;have hw2':=λh:A1=>Sf (s:=NH) h;have hl0': ∀ h:A1,A6 prog 27 [.sc (.slice none 0 0)] h λr h'=>r= .agg (AE []).cells/\h'=h:=λh=>
      A6.nz (M6 [] h) (HN O6 (D6.refl _))
     have hl1':=λh:A1=>M6 [A7 FK,A7 NH,AE []] h;have hnd:(AE [A7 FK,A7 NH,AE []]).cells=Fq.cells:=rfl;have hndf:=λn h=>FC n h Fq;simp only[FK,NH,Fq,A4,A7,AE,Sx.cells,Sx.rows]at hw1' hw2' hl0' hl1' hall hndf;generalize HY d=SL at hall hP;obtain⟨dn,dt,dc,dp,df,da,dd⟩:=d;obtain⟨ak,av,al,ac,ax,ay⟩:=A0;obtain⟨bk,bv,bl,bc,bx,bz⟩:=B0;simp only[Dm.cells]at hL hW hP hS⊢;simp only[AE,Sx.cells]at hP hrow0 hrow1 hall;clear hse hXn hXk hTl hnd;have d2:decide ((T.length:Int)+2<2)=false:=Qh (by omega);refine uG (ow:=λt=>t==116) (wf:=λ_=>false) func8 ntmps8 results8 Ty.Mk ?_;refine wt A5 ?_;refine uU A5 (hL _) ?_;refine wt A5 ?_;refine uU yT (Oj) ?_;refine wt yT ?_;refine uU A5 (hW _) ?_;refine xH 4 @B1 ?_;refine⟨?_⟩;refine Iq 0 [(5,.Ag [.sc (.int .i64 3),.sc (.int .i64 0),.sc (.int .i64 0),.sc (.int .i64 0),A4 ⟨#[]⟩,.A2 6 R])] rfl (BY _) ?_ ?_
     ·intro x hx;simp only[List.mem_cons,List.not_mem_nil,ET]at hx;subst hx;simp only[AJ];exact .inr ⟨0,0,0,6,_,_,by(simp only[Ty.w,simprocAttr];try rfl),AG _,DC,rfl,hLf 0 _⟩
     refine L3 (λS H=>S 1= .sc (.int .i64 w)/\S 2= .Ag [A4 dn,.A2 2 (A9 dt),.A2 2 (A9 dc),.A2 2 (Ba dp),.A2 4 (BX df),.A2 10 (BP da),.A2 23 (BU dd)]/\S 5= .Ag [.sc (.int .i64 3),.sc (.int .i64 0),.sc (.int .i64 0),.sc (.int .i64 0),A4 ⟨#[]⟩,.A2 6 R]/\S 6= .sc .nilIface) ⟨by simp only[Cl,Ty.w,simprocAttr],by simp only[Cl,Ty.w,simprocAttr],by simp only[Cl,Ty.w,simprocAttr],by simp only[Cl,Ty.w,simprocAttr]⟩ ?_;clear hL hW;rintro S H ⟨s1,s2,s5,s6⟩;replace zz:=Ak s5 s6 hRl d3 @B1;refine wt zz ?_;replace zz:=Al s5 s6 hRl d3 d4 @B1;refine uU zz (hC _) ?_;replace zz:=Ah s5 s6 hRl d3 d4 d2 @B1;refine wt zz ?_;refine CG (λm S H=>S 1= .sc (.int .i64 w)/\S 2= .Ag [A4 dn,.A2 2 (A9 dt),.A2 2 (A9 dc),.A2 2 (Ba dp),.A2 4 (BX df),.A2 10 (BP da),.A2 23 (BU dd)]/\S 5= .Ag [.sc (.int .i64 3),.sc (.int .i64 0),.sc (.int .i64 0),.sc (.int .i64 0),A4 ⟨#[]⟩,.A2 6 R]/\ ∃ (k:Nat)(pa pb:PV),S 9= .sc (.int .i64 ((k:Int)+2))/\S 7=pa/\S 8=pb/\k<=T.length/\m=T.length-k/\B2 pa pb ((T.take k).filter Ep) ((T.take k).filter λx=>!Ep x) H) T.length ?_ ?_
     ·simp only[Ty.w,simprocAttr,s1,s2,s5];exact⟨0,_,_,rfl,rfl,rfl,BY _,rfl,Tl.nil,Tl.nil,λi m n e=>by simp at e⟩
     ·clear s1 s2 s5 s6 hC;rintro m S H ⟨s1,s2,s5,k,pa,pb,s9,s7,s8,hk,rfl,hI⟩;by_cases hlt:k<T.length
      ·have hd:decide ((k:Int)+2<(T.length:Int)+2)=true:=LQ (by omega);have w9:IntKind.i64.wrap ((k:Int)+2+1)=((k+1:Nat):Int)+2:=(by rw[BZ (by omega) (by omega)];omega);obtain⟨x,hx⟩: ∃ x,T[k]? =some x:=⟨_,List.getElem?_eq_getElem hlt⟩;have hr:=hrow k x hx;have t1:((k:Int)+2).toNat=k+2:=(by omega);have b1:(0:Int)<=(k:Int)+2:=(by omega);have b2:(k:Int)+2<(T.length:Int)+2:=(by omega);have hAx:=hA x (hrx k x hx);have hlk:(T.take k).length=k:=(by rw[List.length_take];omega);have hL1:=List.length_filter_le Ep (T.take k);have hL2:=List.length_filter_le (λx=>!Ep x) (T.take k);have hpr1:=Sx.B4 ((T.take k).filter Ep);have hpr2:=Sx.B4 ((T.take k).filter λx=>!Ep x);have hbb:(((T.take k).filter Ep).length+1)*72<=140737488355328:=(by omega);have hbc:(((T.take k).filter λx=>!Ep x).length+1)*72<=140737488355328:=(by omega);have hF1:(T.take (k+1)).filter Ep=(T.take k).filter Ep++(bif Ep x then[x]else[]):=by
        rw[List.take_add_one,hx,List.filter_append];cases q:Ep x<;>simp[q]
       have hF2:(T.take (k+1)).filter (λx=>!Ep x)=(T.take k).filter (λx=>!Ep x)++(bif Ep x then[]else[x]):=by
        rw[List.take_add_one,hx,List.filter_append];cases q:Ep x<;>simp[q]
       obtain⟨H1,a1,a2,a3,a4⟩:=hI.app;obtain⟨H2,c1,c2,c3,c4⟩:=hI.swap.app;have hIa:=a4 x _ _ rfl rfl;have hIb:=(c4 x _ _ rfl rfl).swap;generalize Ep x=bx0 at hAx hF1 hF2;cases bx0 with
       |true=>
        simp only[AC,List.append_nil]at hF1 hF2;rw[← hF1, ← hF2]at hIa;clear hIb c4 a4 hF1 hF2;obtain⟨xk,xv,xl,xc,xt,xs⟩:=x;simp only[Sx.cells]at hr hAx hIa;replace zz:=B9 s5 s7 s8 s9 hRl hd t1 b1 b2 hr;refine wt zz ?_;replace zz:=B9 s5 s7 s8 s9 hRl hd t1 b1 b2 hr;refine uU zz (hAx _) ?_;replace zz:=Ab s1 s2 s5 s7 s8 s9 hRl hd t1 b1 b2 (Al hr a1 a2 hpr1 hbb w9);refine wt zz ?_;exact⟨T.length-(k+1),by omega,k+1,_,_,by simp,rfl,rfl,by omega,rfl,hIa⟩
       |false=>
        simp only[AL,List.append_nil]at hF1 hF2;rw[← hF1, ← hF2]at hIb;clear hIa c4 a4 hF1 hF2;obtain⟨xk,xv,xl,xc,xt,xs⟩:=x;simp only[Sx.cells]at hr hAx hIb;replace zz:=B9 s5 s7 s8 s9 hRl hd t1 b1 b2 hr;refine wt zz ?_;replace zz:=B9 s5 s7 s8 s9 hRl hd t1 b1 b2 hr;refine uU zz (hAx _) ?_;replace zz:=Ab s1 s2 s5 s7 s8 s9 hRl hd t1 b1 b2 (Al hr c1 c2 hpr2 hbc w9);refine wt zz ?_;exact⟨T.length-(k+1),by omega,k+1,_,_,by simp,rfl,rfl,by omega,rfl,hIb⟩
      ·have hd:decide ((k:Int)+2<(T.length:Int)+2)=false:=Qh (by omega);have hke:k=T.length:=(by omega);subst hke;rw[List.take_length,hfa,hfg]at hI;replace zz:=Aa s5 s9 hRl hd;refine xH 15 zz ?_;refine⟨?_⟩;refine Iq 0 [(7,.A2 6 (Sx.rows A)),(8,.A2 6 (Sx.rows G))] rfl (BY _) ?_ ?_
       ·intro x hx;simp only[List.mem_cons,List.not_mem_nil,ET]at hx;rcases hx with rfl|rfl
        ·simp only[Ty.w,simprocAttr,s7];exact YZ hI.ca
        ·simp only[Ty.w,simprocAttr,s8];exact YZ hI.cb
       refine L3 (λS H=>S 1= .sc (.int .i64 w)/\S 2= .Ag [A4 dn,.A2 2 (A9 dt),.A2 2 (A9 dc),.A2 2 (Ba dp),.A2 4 (BX df),.A2 10 (BP da),.A2 23 (BU dd)]/\S 5= .Ag [.sc (.int .i64 3),.sc (.int .i64 0),.sc (.int .i64 0),.sc (.int .i64 0),A4 ⟨#[]⟩,.A2 6 R]/\S 7= .A2 6 (Sx.rows A)/\S 8= .A2 6 (Sx.rows G)) ⟨by simp only[Cl,Ty.w,simprocAttr,s1],by simp only[Cl,Ty.w,simprocAttr,s2],by simp only[Cl,Ty.w,simprocAttr,s5],by simp only[Cl,Ty.w,simprocAttr],by simp only[Cl,Ty.w,simprocAttr]⟩ ?_;clear s1 s2 s5 s7 s8 s9 hI hd hk hlt hrow hrx hfa hfg d2 d3 d4;rintro S H ⟨s1,s2,s5,s7,s8⟩;have hrGl:((Sx.rows G).length:Int)=G.length:=(by rw[hrG]);have hGA:G.length+A.length<=2998:=(by rw[← List.length_append,hT];exact hl4);have hlr: ∀ b,(Sx.rows (EB G b)).length=G.length:=λb=>(by rw[Sx.B4];exact(Qb G b).length_eq);have hWl: ∀ b,(Sx.rows (SL b)).length=A.length+1+1+1+1+G.length:=λb=>(by rw[← hall b];simp only[List.length_append,List.length_cons,List.length_nil,hrA,hlr];omega);have hbb1:(3+A.length)*72<=140737488355328:=(by omega);have hbc2:(A.length+1+1+1+1)*72<=140737488355328:=(by omega);have hbc3:(A.length+1+1+1+1+G.length)*72<=140737488355328:=(by omega);have e0:(0:Int)<(T.length:Int)+2:=(by omega);have e1:(1:Int)<(T.length:Int)+2:=(by omega);have c1:(3+A.length<=A.length+1+1+1)=True:=DU (by omega);have c2:(A.length+1+1+1+1<=A.length+1+1+1+1)=True:=DU (AG _);have htk: ∀ r0 r1 r2:List PV,List.take (3+A.length) (r0::r1::r2::Sx.rows A)=r0::r1::r2::Sx.rows A:=λr0 r1 r2=>List.take_of_length_le (by simp only[List.length_cons,hrA];omega);have htk2: ∀ r0 r1 r2 r3:List PV,List.take (A.length+1+1+1+1) (r0::r1::r2::(Sx.rows A++[r3]))=r0::r1::r2::(Sx.rows A++[r3]):=λr0 r1 r2 r3=>List.take_of_length_le (by simp only[List.length_cons,List.length_append,hrA,List.length_nil];omega);refine DB (λS H=>S 2= .Ag [A4 dn,.A2 2 (A9 dt),.A2 2 (A9 dc),.A2 2 (Ba dp),.A2 4 (BX df),.A2 10 (BP da),.A2 23 (BU dd)]/\S 5= .Ag [.sc (.int .i64 3),.sc (.int .i64 0),.sc (.int .i64 0),.sc (.int .i64 0),A4 ⟨#[]⟩,.A2 6 R]/\S 7= .A2 6 (Sx.rows A)/\ ∃ b,AJ 0 H (.A2 6 (Sx.rows (EB G b))) (S 8)) ?_ ?_
       ·cases hg:decide ((G.length:Int)>0)with
        |false=>
         replace zz:=Aa s7 s8 hrGl hg;refine wt zz ?_;refine⟨sq s2,sq s5,sq s7,0,?_⟩;rw[show EB G 0=G by simp[EB]];simp only[Ty.w,simprocAttr,s8,AJ];exact .inl (HK 0 G)
        |true=>
         have hG0:0<G.length:=(by have:=KS hg;omega);have hn0:((G.length:Int)=0)=False:=BB (by omega);have hr0:=Int.tmod_lt_of_pos w (show(0:Int)<G.length by omega);have hr1:=Int.lt_tmod_of_pos w (show(0:Int)<G.length by omega);obtain⟨r,hr⟩: ∃ r,r=w.tmod G.length:=⟨_,rfl⟩;rw[← hr]at hr0 hr1;have hr2:=Int.tmod_lt_of_pos (r+G.length) (show(0:Int)<G.length by omega);have hr3:=Int.tmod_nonneg (a:=r+G.length) G.length (by omega);obtain⟨b,hbe⟩: ∃ b:Nat,(b:Int)=(r+G.length).tmod G.length:=⟨((r+G.length).tmod G.length).toNat,by omega⟩;rw[← hbe]at hr2;have hbl:b<G.length:=(by omega);have hre:=hr.symm;have hbee:=hbe.symm;have wr:IntKind.i64.wrap r=r:=BZ (by omega) (by omega);have wb:IntKind.i64.wrap (b:Int)=b:=BZ (by omega) (by omega);have wg:IntKind.i64.wrap (r+G.length)=r+G.length:=BZ (by omega) (by omega);have q1:(0:Int)<=b:=(by omega);have q2:(b:Int)<=G.length:=(by omega);have q3:b<=(Sx.rows G).length:=(by omega);have q4:(0:Int)<=(G.length:Int):=(by omega);have hro:Sx.rows (EB G b)=(Sx.rows G).drop b++(Sx.rows G).take b:=(by simp only[EB,Sx.rows_map,List.map_append,List.map_drop,List.map_take]);have hdt:List.take ((G.length:Int)-b).toNat ((Sx.rows G).drop b)=(Sx.rows G).drop b:=List.take_of_length_le (by rw[List.length_drop];omega);obtain⟨D,hDe⟩: ∃ D,D=(Sx.rows G).drop b:=⟨_,rfl⟩;obtain⟨O,hOe⟩: ∃ O,O=(Sx.rows G).take b:=⟨_,rfl⟩;have hDl:D.length=G.length-b:=(by rw[hDe,List.length_drop,hrG]);have hOl:O.length=b:=(by rw[hOe,List.length_take];omega);rw[← hDe, ← hOe]at hro;rw[← hDe]at hdt;have hDt:List.take D.length D=D:=List.take_length;have hbd1:D.length*72<=140737488355328:=(by omega);have hbd2:(D.length+O.length)*72<=140737488355328:=(by omega);(repeat'(first|refine cK ?_|(refine nK ?_;try exact zI)|refine Af λK hK=>?_|((first|refine Bn ?_|refine Lj (by decide+kernel) ?_);simp only[Ty.w,simprocAttr,s1,s7,s8,hrGl,hg,hn0,hre,hbee,wr,wb,wg,q1,q2,q3,q4, ← hDe,hdt,hDt, ← hOe,hbd1,hbd2,B8,Bl,CT,Bf,List.drop_zero,TO,JD])|(refine hK _ _ ?_;clear hK;(try simp only[Au,simprocAttr]))|(with_reducible refine Nm (by simp only[List.forall_mem_cons,Ty.w,simprocAttr,s1,s7,s8,hrGl,hg,hn0,hre,hbee,wr,wb,wg,q1,q2,q3,q4, ← hDe,hdt,hDt, ← hOe,hbd1,hbd2,B8,Bl,CT,Bf,List.drop_zero,TO,JD]<;>(repeat' apply And.intro)<;>first|trivial|exact .inl (by decide+kernel)) ?_;try simp only[Ty.w,simprocAttr,s1,s7,s8,hrGl,hg,hn0,hre,hbee,wr,wb,wg,q1,q2,q3,q4, ← hDe,hdt,hDt, ← hOe,hbd1,hbd2,B8,Bl,CT,Bf,List.drop_zero,TO,JD])|(rw[AK];rotate_left 1;omega;simp only[Ty.w,simprocAttr,s1,s7,s8,hrGl,hg,hn0,hre,hbee,wr,wb,wg,q1,q2,q3,q4, ← hDe,hdt,hDt, ← hOe,hbd1,hbd2,B8,Bl,CT,Bf,List.drop_zero,TO,JD])));refine⟨s2,s5,b,?_⟩;simp only[AJ];refine .inr (.inr ⟨H.next+1,0,D.length+O.length,D++O,rfl,BY _,KJ,by rw[List.length_append];omega,?_⟩);rw[List.drop_zero,List.take_of_length_le (by rw[List.length_append];omega), ← hro];exact IK 0 _ _
       ·clear s1 s2 s5 s7 s8;rintro S H ⟨s2,s5,s7,b,hf8⟩;refine Iq 0 [(8,.A2 6 (Sx.rows (EB G b)))] rfl (BY _) ?_ ?_
        ·intro x hx;simp only[List.mem_cons,List.not_mem_nil,ET]at hx;subst hx;exact hf8
        refine L3 (λS H=>S 2= .Ag [A4 dn,.A2 2 (A9 dt),.A2 2 (A9 dc),.A2 2 (Ba dp),.A2 4 (BX df),.A2 10 (BP da),.A2 23 (BU dd)]/\S 5= .Ag [.sc (.int .i64 3),.sc (.int .i64 0),.sc (.int .i64 0),.sc (.int .i64 0),A4 ⟨#[]⟩,.A2 6 R]/\S 7= .A2 6 (Sx.rows A)/\S 8= .A2 6 (Sx.rows (EB G b))) ⟨by simp only[Cl,Ty.w,simprocAttr,s2],by simp only[Cl,Ty.w,simprocAttr,s5],by simp only[Cl,Ty.w,simprocAttr,s7],by simp only[Cl,Ty.w,simprocAttr]⟩ ?_;clear s2 s5 s7 hf8;rintro S H ⟨s2,s5,s7,s8⟩;refine wt A5 ?_;refine uU A5 (hw1' _) ?_;refine wt A5 ?_;refine uU A5 (hw2' _) ?_;refine wt A5 ?_;refine uU A5 (hl0' _) ?_;refine wt A5 ?_;refine uU A5 (hl1' _) ?_;refine xG 19 @B1 ?_;refine⟨?_⟩;refine Iq 0 [(10,.Ag Fq.cells)] rfl (BY _) ?_ ?_
        ·intro x hx;simp only[List.mem_cons,List.not_mem_nil,ET]at hx;subst hx;simp only[AJ];exact .inr ⟨H.next,0,0,6,_,_,by(simp only[Ty.w,simprocAttr];try rfl),BY _,DC,rfl,hndf 0 _⟩
        refine L3 (λS H=>S 2= .Ag [A4 dn,.A2 2 (A9 dt),.A2 2 (A9 dc),.A2 2 (Ba dp),.A2 4 (BX df),.A2 10 (BP da),.A2 23 (BU dd)]/\S 5= .Ag [.sc (.int .i64 3),.sc (.int .i64 0),.sc (.int .i64 0),.sc (.int .i64 0),A4 ⟨#[]⟩,.A2 6 R]/\S 7= .A2 6 (Sx.rows A)/\S 8= .A2 6 (Sx.rows (EB G b))/\S 10= .Ag Fq.cells) ⟨by simp only[Cl,Ty.w,simprocAttr,s2],by simp only[Cl,Ty.w,simprocAttr,s5],by simp only[Cl,Ty.w,simprocAttr,s7],by simp only[Cl,Ty.w,simprocAttr,s8],by simp only[Cl,Ty.w,simprocAttr]⟩ ?_;clear s2 s5 s7 s8;clear hLf hA hw1' hw2' hl0' hl1' hndf haL hgL hrG hrGl hw0 hw1;rintro S H ⟨s2,s5,s7,s8,s10⟩;simp only[Fq,A7,AE,Sx.cells,Sx.rows]at s10;have hall:=hall b;simp only[FK,NH]at s10;generalize hNR:([[PV.sc (.int .i64 1),.sc (.int .i64 0),.sc (.int .i64 0),.sc (.int .i64 0),.sc (.string ⟨#[58,114,101,113,117,105,114,101,109,101,110,116,115]⟩),.A2 6 []],[.sc (.int .i64 1),.sc (.int .i64 0),.sc (.int .i64 0),.sc (.int .i64 0),.sc (.string ⟨#[58,115,116,114,105,112,115]⟩),.A2 6 []],[.sc (.int .i64 3),.sc (.int .i64 0),.sc (.int .i64 0),.sc (.int .i64 0),.sc (.string ⟨#[]⟩),.A2 6 []]]:List (List PV))=NR at s10 hall;generalize Sx.rows ay=YR at hrow0 hall;generalize Sx.rows bz=ZR at hrow1 hall;have hlr:=hlr b;have hWl:=hWl b;have hra: ∀ r3:List PV,(Sx.rows A++[r3]).length=A.length+1:=λr3=>(by rw[List.length_append,hrA];try rfl);have c3:(A.length+1<=A.length+1)=True:=DU (AG _);(repeat'(first|(with_reducible refine iU 20 ?_)|refine cK ?_|(refine nK ?_;try exact zI)|refine Af λK hK=>?_|(refine Lj (by decide+kernel) ?_;simp only[Ty.w,simprocAttr,s2,s5,s7,s8,s10,hRl,hrow0,hrow1,hrA,hlr,hbb1,e0,e1,c1,htk,hbc2,c2,htk2,hra,c3,hbc3,Bf,List.drop_zero])|(refine hK _ _ ?_;clear hK;(try simp only[Au,simprocAttr]))|(with_reducible refine Nm (by simp only[List.forall_mem_cons,Ty.w,simprocAttr,s2,s5,s7,s8,s10,hRl,hrow0,hrow1,hrA,hlr,hbb1,e0,e1,c1,htk,hbc2,c2,htk2,hra,c3,hbc3,Bf,List.drop_zero]<;>(repeat' apply And.intro)<;>first|trivial|exact .inl (by decide+kernel)) ?_;try simp only[Ty.w,simprocAttr,s2,s5,s7,s8,s10,hRl,hrow0,hrow1,hrA,hlr,hbb1,e0,e1,c1,htk,hbc2,c2,htk2,hra,c3,hbc3,Bf,List.drop_zero])));refine⟨?_⟩;refine Iq 0 [(11,.A2 6 (Sx.rows (SL b)))] rfl (BY _) ?_ ?_
        ·intro x hx;simp only[List.mem_cons,List.not_mem_nil,ET]at hx;subst hx;have hq:=λK=>hfr (SL b) 0 K;clear hP hS hfr;simp only[AJ];refine .inr (.inr ⟨H.next+1+1+1,0,A.length+1+1+1+1+G.length,_,sq A5,BY _,KJ,?_,?_⟩)
         ·exact Nat.le_of_eq ((Bf _).trans (hWl.symm.trans (If List.length hall.symm)))
         ·refine (If (DA 0 _ (Sx.rows (SL b))) (?_:_=Sx.rows (SL b))).mpr (hq _);exact(List.take_of_length_le (Nat.le_of_eq ((If List.length hall).trans hWl))).trans hall
        refine L3 (λS H=>S 2= .Ag [A4 dn,.A2 2 (A9 dt),.A2 2 (A9 dc),.A2 2 (Ba dp),.A2 4 (BX df),.A2 10 (BP da),.A2 23 (BU dd)]/\S 11= .A2 6 (Sx.rows (SL b))) ⟨by simp only[Cl,Ty.w,simprocAttr,s2],by simp only[Cl,Ty.w,simprocAttr]⟩ ?_;clear s2 s5 s7 s8 s10;rintro S H ⟨s2,s11⟩;refine wt s11 ?_;refine uU (uu s11 s2) (hP b _) ?_;refine wt (uu s2 @B1) ?_;refine uU (uu s2 @B1) (hS _) ?_;exact wz @B1
end Go.Proofs.YtblgchkahpgdjaaGreat
