/- What the claim rests on, part 11: the abstract machine, contracts of the functions, plain data. -/
import Derived.Test.YtblgchkahpgdjaaGreatZw10
set_option linter.unusedVariables false
set_option linter.unusedSimpArgs false
set_option linter.unusedSectionVars false
namespace Go.Proofs.YtblgchkahpgdjaaGreat
open Go.AM Go.Proofs.Tryz
set_option maxHeartbeats 8000000
set_option maxRecDepth 20000
abbrev BJ:List PV:=[.sc (.int .i64 0),.sc (.int .i64 0),.sc (.int .i64 0),.sc (.int .i64 0),.sc (.string ⟨#[]⟩),.sc (.slice none 0 0)]
structure Di(h:A0)(id:Nat)(b:Bool)(x:Sx)(H:A0):Prop where
 grow:Bq h id (wO b) H
 nx:h.next+2<=H.next
 res:H.obj h.next=some (.arr 6 [BJ])
 at_:H.obj (h.next+1)=some (.arr 6 [x.cells])
theorem Di.put{h H:A0}{id:Nat}{b b2:Bool}{x:Sx}(i:Di h id b x H)(hid:id<h.next):Di h id b2 x (H.set id (wO b2)):=by
 refine⟨i.grow.put,i.nx,?_,?_⟩
 ·simp only[A0.set];rw[A4 (by omega)];exact i.res
 ·simp only[A0.set];rw[A4 (by omega)];exact i.at_
theorem Di.upd{h H:A0}{id:Nat}{b:Bool}{x y:Sx}(i:Di h id b x H)(hid:id<h.next):Di h id b y (H.set (h.next+1) (.arr 6 [y.cells])):=by
 refine⟨i.grow.set hid (by omega),i.nx,?_,?_⟩
 ·simp only[A0.set];rw[A4 (by omega)];exact i.res
 ·simp only[A0.set,AC]
theorem Di.new{h H:A0}{id:Nat}{b:Bool}{x:Sx}{o:Ae}(i:Di h id b x H)(hid:id<h.next):Di h id b x (H.new o):=by
 have:=i.nx;refine⟨i.grow.new hid,by simp only[A0.new];omega,?_,?_⟩
 ·simp only[A0.new];rw[A4 (by omega)];exact i.res
 ·simp only[A0.new];rw[A4 (by omega)];exact i.at_
theorem Di.hi{h H:A0}{id j:Nat}{b:Bool}{x:Sx}{o:Ae}(i:Di h id b x H)(hid:id<h.next)(hj:h.next+2<=j):Di h id b x (H.set j o):=by
 refine⟨i.grow.set hid (by omega),i.nx,?_,?_⟩
 ·simp only[A0.set];rw[A4 (by omega)];exact i.res
 ·simp only[A0.set];rw[A4 (by omega)];exact i.at_
structure FE(c:Ch):Prop where
 cond:c.cond.small
 value:c.value.small
 params:c.params.length<=1048576
 args:c.args.length<=1048576
def PG(c:Ch):Bool:=bif c.kind==1||c.kind==2 then c.value.same Dr else(bif c.kind==3||c.kind==4||c.kind==5 then EM c.value else false)
theorem TL: ∀ l:List PV,Fo l l
 |[]=>by simp[Fo]
 |p::l=>by simp only[Fo];exact⟨.inl rfl,TL l⟩
theorem Le:DC.ok:=(bZ (by decide) (by decide) (by simp) (by simp) (by simp) (by simp) (by simp) (by simp) (by simp) (by simp)).1
theorem bj{h:A0}{id:Nat}{b:Bool}{c:Ch}(hok:c.ok)(hsm:FE c)(hid:id<h.next)(ho:h.obj id=some (wO b)):
  AA prog 107 [.ptr id 0 0,.agg (Df c)] h λr h'=>r= .agg (EP c).cells/\h'=h.set id (wO (b||!C0 c)):=by
 refine AA.frzX Ty.RN ho (Is _ _) ?_;obtain⟨kind,params,cond,name,args,value⟩:=c;have hns:name.size<=9223372036854775807:=by have:=hok.name;unfold AE at this;simp only at this;omega
 have hchB:C0 ⟨kind,params,cond,name,args,value⟩=((Ak name&&args.all BS)&&PG ⟨kind,params,cond,name,args,value⟩&&(Bx cond||BW cond)&&params.all (BE true)):=rfl;have hX2:EP ⟨kind,params,cond,name,args,value⟩=(bif params.isEmpty then HY ⟨kind,params,cond,name,args,value⟩else AB [A5 DJ,AB (AG params),HY ⟨kind,params,cond,name,args,value⟩]):=rfl;have hX1:HY ⟨kind,params,cond,name,args,value⟩=(bif Bx cond then HX ⟨kind,params,cond,name,args,value⟩else AB [A5 I9,By cond,HX ⟨kind,params,cond,name,args,value⟩]):=rfl;have hX0:HX ⟨kind,params,cond,name,args,value⟩=(bif kind==1 then Bv name args else bif kind==2 then AB [A5 E8,Bv name args]
  else bif kind==3||kind==4||kind==5 then AB [A5 (Jj kind),Bv name args,IA value]else Bv name args):=rfl
 have hK0:PG ⟨kind,params,cond,name,args,value⟩=(bif kind==1||kind==2 then value.same Dr else(bif kind==3||kind==4||kind==5 then EM value else false)):=rfl;rw[hchB];have c0:=λ(z:Ae)=>bd (h:=h.new z) (b:=b) (first:=name) (l:=args) hns hsm.args hok.args.2 (show id<h.next+1 by omega) ((Fk hid).trans ho);have hvs:=λ(h:A0)=>AA.nil2 (TL _) (b':=[.sc (.string ⟨#[]⟩),.sc (.string ⟨#[]⟩),.sc (.int .i64 0),.sc (.slice none 0 0),.sc (.slice none 0 0)]) (by
  simp only[Dr,Ex.cells,Ex.rows,AP,List.map_nil,Fo];exact⟨.inl rfl,.inl rfl,.inl rfl,.inr ⟨rfl,_,rfl⟩,.inr ⟨rfl,_,rfl⟩,trivial⟩) (Zp (a:=value) (b:=Dr) hok.value SB.1 h)
 have hWE:=λh:A0=>Z8 hok.value hsm.value h;have hXE:(if EM value then(PV.tup [.agg (Am value).cells,.sc .nilIface])else .tup [.agg Fg.cells,Dp 2])= .tup [.agg (IA value).cells,if EM value then .sc .nilIface else Dp 2]:=by
  unfold IA;cases EM value<;>rfl
 simp only at hWE;rw[hXE]at hWE;have hSame:=λh:A0=>KF cond hok.cond DC Le h;have hAl:cond.same DC=Bx cond:=rfl;rw[hAl]at hSame;have hWF:=λ(h':A0)(b':Bool)(hid':id<h'.next)(ho':h'.obj id=some (wO b'))=>Lc (f:=cond) hok.cond hsm.cond hid' ho';have hWP:=λ(h':A0)(b':Bool)(hid':id<h'.next)(ho':h'.obj id=some (wO b'))=>Jk (vars:=true) (l:=params) hsm.params hok.params.2 hid' ho';have hw: ∀ (s:ByteArray)(h:A0),AA prog 40 [A1 s] h λr h'=>r= .agg (A5 s).cells/\h'=h:=λs h=>IB;have hpl:=EX params;have hpb0:params.isEmpty=true->params.all (BE true)=true:=by cases params<;>simp
 have hpe:params.isEmpty=decide (params.length=0):=by cases params<;>simp
 clear hok hsm;generalize EP ⟨kind,params,cond,name,args,value⟩=R2 at hX2⊢;generalize HY ⟨kind,params,cond,name,args,value⟩=R1 at hX1 hX2;generalize HX ⟨kind,params,cond,name,args,value⟩=R0 at hX0 hX1;generalize PG ⟨kind,params,cond,name,args,value⟩=kB at hK0⊢;generalize(Ak name&&args.all BS)=a1 at c0⊢;generalize value.same Dr=vs at hvs hK0;generalize EM value=ve at hWE hK0;generalize IA value=eX at hWE hX0;generalize Bx cond=al at hSame hX1⊢;generalize BW cond=vf at hWF⊢;generalize By cond=fX at hWF hX1;generalize AG params=pw at hWP hX2;generalize params.all (BE true)=pb at hWP hpb0⊢;generalize Bv name args=X0 at c0 hX0;obtain⟨gop,gna,gar,gpa,gex,gki⟩:=cond;obtain⟨eop,ena,en,ear,eki⟩:=value;generalize hF:(b||!(a1&&kB&&(al||vf)&&pb))=F;simp only[Df,Fm.cells,Ex.cells,List.cons_append,List.nil_append,A5,Sx.cells,Sx.rows,DC]at hw c0 hvs hWE hWF hSame⊢;obtain⟨xk,xv,xl,xc,xt,xs⟩:=X0;simp only[Sx.cells]at c0;refine uG (ow:=λ_=>false) (wf:=λf=>f==100||f==43) func107 ntmps107 results107 Ty.RN ?_;refine wt A2 ?_;refine CV (c0 _) (sr ho) ?_;simp only[Ty.w,simprocAttr,ho];refine xH 2 ho ?_;refine⟨?_⟩;refine C6 (λS H=>S 0= .ptr id 0 0/\S 3= .cptr [.sc (.int .i64 kind),.imm 2 (A7 params),A1 gop,A1 gna,.imm 1 (AP gar),.imm 2 (A7 gpa),.imm 5 (Ex.rows gex),.imm 6 (Fm.rows gki),A1 name,.imm 1 (AP args),A1 eop,A1 ena,.sc (.int .i64 en),.imm 1 (AP ear),.imm 5 (Ex.rows eki)]/\S 4= .ptr h.next 0 0/\S 5= .ptr (h.next+1) 0 0/\Di h id (b||!a1) (.mk xk xv xl xc xt xs) H) ⟨sq A2,sq A2,sq A2,sq A2,?_⟩ ?_
 ·refine ⟨?_,by simp only[A0.set,A0.new];omega,?_,?_⟩
  ·exact ((((Bq.refl ho).new hid).put).new hid).set hid (by omega)
  ·simp only[A0.set,A0.new];repeat(first|rw[A4 (by omega)]|rw[AH A2])
  ·simp only[A0.set,A0.new,Sx.cells];repeat(first|rw[A4 (by omega)]|rw[AH A2])
 clear c0;rintro S H ⟨s0,s3,s4,s5,hI⟩;refine CF (λS H=>S 0= .ptr id 0 0/\S 3= .cptr [.sc (.int .i64 kind),.imm 2 (A7 params),A1 gop,A1 gna,.imm 1 (AP gar),.imm 2 (A7 gpa),.imm 5 (Ex.rows gex),.imm 6 (Fm.rows gki),A1 name,.imm 1 (AP args),A1 eop,A1 ena,.sc (.int .i64 en),.imm 1 (AP ear),.imm 5 (Ex.rows eki)]/\S 4= .ptr h.next 0 0/\S 5= .ptr (h.next+1) 0 0/\ ∃ b1,Di h id b1 R0 H/\b1=(b||!(a1&&kB))) ?_ ?_
 ·clear hX1 hX2 hF hSame hWF hWP;have stepK: ∀ b1:Bool,b1=((b||!a1)||!kB)->b1=(b||!(a1&&kB)):=λb1 e=>by
   rw[e];cases b<;>cases a1<;>cases kB<;>rfl
  generalize(b||!a1)=b0 at hI stepK;have hnx:=hI.nx;cases k12:(kind==1||kind==2)with
  |true=>
   have hKv:kB=vs:=(by rw[hK0,k12,D2]);subst hKv;clear hK0;cases k1:(kind==1)with
   |true=>
    have k2:(kind==2)=false:=(by have:=eq_of_beq k1;subst this;rfl);rw[k1,D2]at hX0;subst hX0;have hno:=hI.grow.at_;cases b0 with
    |true=>
     replace zz:=AY s0 s3 s4 s5 k1 k2 hno;refine wt zz ?_;first
      |exact⟨true,hI.put hid,stepK _ (by simp)⟩
      |exact⟨sq s0,sq s3,sq s4,sq s5,true,hI.put hid,stepK _ (by simp)⟩
    |false=>
     replace zz:=AY s0 s3 s4 s5 k1 k2 hno;refine wt zz ?_;replace zz:=AV s0 s3 s4 s5 hno;refine uU zz (hvs _) ?_;replace zz:=AY s0 s3 s4 s5 k1 k2 hno;refine wt zz ?_;first
      |exact⟨_,hI.put hid,stepK _ (by simp)⟩
      |exact⟨sq s0,sq s3,sq s4,sq s5,_,hI.put hid,stepK _ (by simp)⟩
   |false=>
    have k2:(kind==2)=true:=(by rw[k1,BL]at k12;exact k12);rw[k1,k2,CH,D2]at hX0;subst hX0;have hl2:=λh:A0=>HZ [A5 E8,.mk xk xv xl xc xt xs] h;simp only[A5,E8,AB,Sx.cells,Sx.rows]at hl2;replace zz:=AK s0 s3 s4 s5 k1 k2;refine xB 6 zz ?_;refine⟨?_⟩;refine JR (λS H=>S 0= .ptr id 0 0/\S 3= .cptr [.sc (.int .i64 kind),.imm 2 (A7 params),A1 gop,A1 gna,.imm 1 (AP gar),.imm 2 (A7 gpa),.imm 5 (Ex.rows gex),.imm 6 (Fm.rows gki),A1 name,.imm 1 (AP args),A1 eop,A1 ena,.sc (.int .i64 en),.imm 1 (AP ear),.imm 5 (Ex.rows eki)]/\S 4= .ptr h.next 0 0/\S 5= .ptr (h.next+1) 0 0/\ ∃ b1,Di h id b1 (.mk xk xv xl xc xt xs) H/\b1=(b0||!kB)) ?_ ?_
    ·have hno:=hI.grow.at_;cases b0 with
     |true=>
      replace zz:=AY s0 s3 s4 s5 k1 k2 hno;refine wt zz ?_;first
       |exact⟨true,hI.put hid,by simp⟩
       |exact⟨sq s0,sq s3,sq s4,sq s5,true,hI.put hid,by simp⟩
     |false=>
      replace zz:=AY s0 s3 s4 s5 k1 k2 hno;refine wt zz ?_;replace zz:=AV s0 s3 s4 s5 hno;refine uU zz (hvs _) ?_;replace zz:=AY s0 s3 s4 s5 k1 k2 hno;refine wt zz ?_;first
       |exact⟨_,hI.put hid,by simp⟩
       |exact⟨sq s0,sq s3,sq s4,sq s5,_,hI.put hid,by simp⟩
    ·clear s0 s3 s4 s5 hI hnx hvs;rintro S H ⟨s0,s3,s4,s5,b1,hI,hb1⟩;(first|refine hK _ _ ?_|refine cK ?_);(try clear hK);have hat:=hI.at_;simp only[Sx.cells]at hat;replace zz:=AY s0 s3 s4 s5 k1 k2 hat;refine wy zz ?_;replace zz:=AV s0 s3 s4 s5 hat;(first|refine uV zz (hw _ _) ?_|refine uA zz (hw _ _) ?_);refine wy zz ?_;replace zz:=AV s0 s3 s4 s5 hat;(first|refine uV zz (hl2 _) ?_|refine uA zz (hl2 _) ?_);refine wy zz ?_;first
      |exact⟨b1,hI.upd hid,stepK _ hb1⟩
      |exact⟨sq s0,sq s3,sq s4,sq s5,b1,hI.upd hid,stepK _ hb1⟩
  |false=>
   have k1:(kind==1)=false:=(by revert k12;cases(kind==1)<;>simp);have k2:(kind==2)=false:=(by revert k12;cases(kind==2)<;>simp);rw[k1,k2,CH,CH]at hX0;rw[k12,CH]at hK0;clear hvs k12;cases k345:(kind==3||kind==4||kind==5)with
   |false=>
    have k3:(kind==3)=false:=(by revert k345;cases(kind==3)<;>simp);have k4:(kind==4)=false:=(by revert k345;cases(kind==4)<;>simp);have k5:(kind==5)=false:=(by revert k345;cases(kind==5)<;>simp);rw[k345,CH]at hX0 hK0;subst hX0 hK0;have hno:=hI.grow.at_;replace zz:=Aq s0 s3 s4 s5 k1 k2 k3 k4 k5 hno;refine wt zz ?_;first
     |exact⟨true,hI.put hid,stepK _ (by simp)⟩
     |exact⟨sq s0,sq s3,sq s4,sq s5,true,hI.put hid,stepK _ (by simp)⟩
   |true=>
    rw[k345,D2]at hX0 hK0;subst hX0 hK0;obtain⟨ev,hev⟩: ∃ ev,ev=(if kB=true then PV.sc .nilIface else Dp 2):=⟨_,rfl⟩;rw[← hev]at hWE;have hk:kind=3\/kind=4\/kind=5:=(by simpa[or_assoc]using k345);clear k345 k1 k2;obtain⟨ek,ea,el,ec,et,es⟩:=eX;simp only[Sx.cells]at hWE;rcases hk with rfl|rfl|rfl
    ·have k1:((3:Int)==1)=false:=rfl;have k2:((3:Int)==2)=false:=rfl;have k3:((3:Int)==3)=true:=rfl;have k4:((3:Int)==4)=false:=rfl;have k5:((3:Int)==5)=false:=rfl;have kw:Jj 3=Ip:=rfl;have wi:IntKind.i64.wrap ((3:Int)-3)=0:=rfl;have wj:IntKind.i64.wrap 0=0:=rfl;have hl3:=λh:A0=>HZ [A5 Ip,.mk xk xv xl xc xt xs,.mk ek ea el ec et es] h;simp only[A5,Ip,AB,Sx.cells,Sx.rows]at hl3;replace zz:=BR s0 s3 s4 s5 k1 k2 k3 k4 k5;refine wt zz ?_;replace zz:=AS s0 s3 s4 s5;refine uU zz (hWE _) ?_;replace zz:=AV s0 s3 s4 s5 @Ds;refine xB 13 zz ?_;refine⟨?_⟩;refine C6 (λS H2=>S 0= .ptr id 0 0/\S 3= .cptr [.sc (.int .i64 3),.imm 2 (A7 params),A1 gop,A1 gna,.imm 1 (AP gar),.imm 2 (A7 gpa),.imm 5 (Ex.rows gex),.imm 6 (Fm.rows gki),A1 name,.imm 1 (AP args),A1 eop,A1 ena,.sc (.int .i64 en),.imm 1 (AP ear),.imm 5 (Ex.rows eki)]/\S 4= .ptr h.next 0 0/\S 5= .ptr (h.next+1) 0 0/\S 6= .ptr H.next 0 0/\S 7=ev/\Di h id b0 (.mk xk xv xl xc xt xs) H2/\H2.obj H.next=some (.arr 6 [[.sc (.int .i64 ek),.sc (.int .i64 ea),.sc (.int .i64 el),.sc (.int .i64 ec),A1 et,.imm 6 (Sx.rows es)]])) ⟨sq s0,sq s3,sq s4,sq s5,sq A2,sq A2,(hI.new hid).hi hid hnx,by simp only[A0.set,AC]⟩ ?_;obtain⟨j,hj⟩: ∃ j,j=H.next:=⟨_,rfl⟩
     rw[← hj]at hnx;clear s0 s3 s4 s5 hI hWE;rw[← hj];clear hj;rintro S H2 ⟨s0,s3,s4,s5,s6,s7,hI,hej⟩;refine JR (λS H2=>S 0= .ptr id 0 0/\S 3= .cptr [.sc (.int .i64 3),.imm 2 (A7 params),A1 gop,A1 gna,.imm 1 (AP gar),.imm 2 (A7 gpa),.imm 5 (Ex.rows gex),.imm 6 (Fm.rows gki),A1 name,.imm 1 (AP args),A1 eop,A1 ena,.sc (.int .i64 en),.imm 1 (AP ear),.imm 5 (Ex.rows eki)]/\S 4= .ptr h.next 0 0/\S 5= .ptr (h.next+1) 0 0/\S 6= .ptr j 0 0/\H2.obj j=some (.arr 6 [[.sc (.int .i64 ek),.sc (.int .i64 ea),.sc (.int .i64 el),.sc (.int .i64 ec),A1 et,.imm 6 (Sx.rows es)]])/\ ∃ b1,Di h id b1 (.mk xk xv xl xc xt xs) H2/\b1=(b0||!kB)) ?_ ?_
     ·have hno:=hI.grow.at_;have hej2: ∀ b1,(H2.set id (wO b1)).obj j=some (.arr 6 [[.sc (.int .i64 ek),.sc (.int .i64 ea),.sc (.int .i64 el),.sc (.int .i64 ec),A1 et,.imm 6 (Sx.rows es)]]):=λb1=>by
       simp only[A0.set];rw[A4 (by omega)];exact hej
      cases b0 with
      |true=>
       replace zz:=AY s0 s3 s4 s5 s6 s7 hno;refine wt zz ?_;first
        |exact⟨hej2 _,true,hI.put hid,by simp⟩
        |exact⟨sq s0,sq s3,sq s4,sq s5,sq s6,hej2 _,true,hI.put hid,by simp⟩
      |false=>
       cases kB with
       |true=>
        simp only[AC]at hev;subst hev;replace zz:=AY s0 s3 s4 s5 s6 s7 hno;refine wt zz ?_;exact⟨hej2 _,_,hI.put hid,by simp⟩
       |false=>
        simp only[Ap,AD,Dp]at hev;subst hev;replace zz:=AY s0 s3 s4 s5 s6 s7 hno;refine wt zz ?_;exact⟨hej2 _,_,hI.put hid,by simp⟩
     ·clear s0 s3 s4 s5 s6 s7 hI hej;rintro S H3 ⟨s0,s3,s4,s5,s6,hej,b1,hI,hb1⟩;(first|refine hK _ _ ?_|refine cK ?_);(try clear hK);have hat:=hI.at_;simp only[Sx.cells]at hat;replace zz:=BR s0 s3 s4 s5 s6 hat hej wi wj;refine wy zz ?_;replace zz:=AY s0 s3 s4 s5 s6 hat hej;(first|refine uV zz (hw _ _) ?_|refine uA zz (hw _ _) ?_);refine wy zz ?_;replace zz:=AY s0 s3 s4 s5 s6 hat hej;(first|refine uV zz (hl3 _) ?_|refine uA zz (hl3 _) ?_);refine wy zz ?_;first
       |exact⟨b1,hI.upd hid,stepK _ hb1⟩
       |exact⟨sq s0,sq s3,sq s4,sq s5,b1,hI.upd hid,stepK _ hb1⟩
    ·have k1:((4:Int)==1)=false:=rfl;have k2:((4:Int)==2)=false:=rfl;have k3:((4:Int)==3)=false:=rfl;have k4:((4:Int)==4)=true:=rfl;have k5:((4:Int)==5)=false:=rfl;have kw:Jj 4=Iq:=rfl;have wi:IntKind.i64.wrap ((4:Int)-3)=1:=rfl;have wj:IntKind.i64.wrap 1=1:=rfl;have hl3:=λh:A0=>HZ [A5 Iq,.mk xk xv xl xc xt xs,.mk ek ea el ec et es] h;simp only[A5,Iq,AB,Sx.cells,Sx.rows]at hl3;replace zz:=BR s0 s3 s4 s5 k1 k2 k3 k4 k5;refine wt zz ?_;replace zz:=AS s0 s3 s4 s5;refine uU zz (hWE _) ?_;replace zz:=AV s0 s3 s4 s5 @Ds;refine xB 13 zz ?_;refine⟨?_⟩;refine C6 (λS H2=>S 0= .ptr id 0 0/\S 3= .cptr [.sc (.int .i64 4),.imm 2 (A7 params),A1 gop,A1 gna,.imm 1 (AP gar),.imm 2 (A7 gpa),.imm 5 (Ex.rows gex),.imm 6 (Fm.rows gki),A1 name,.imm 1 (AP args),A1 eop,A1 ena,.sc (.int .i64 en),.imm 1 (AP ear),.imm 5 (Ex.rows eki)]/\S 4= .ptr h.next 0 0/\S 5= .ptr (h.next+1) 0 0/\S 6= .ptr H.next 0 0/\S 7=ev/\Di h id b0 (.mk xk xv xl xc xt xs) H2/\H2.obj H.next=some (.arr 6 [[.sc (.int .i64 ek),.sc (.int .i64 ea),.sc (.int .i64 el),.sc (.int .i64 ec),A1 et,.imm 6 (Sx.rows es)]])) ⟨sq s0,sq s3,sq s4,sq s5,sq A2,sq A2,(hI.new hid).hi hid hnx,by simp only[A0.set,AC]⟩ ?_;obtain⟨j,hj⟩: ∃ j,j=H.next:=⟨_,rfl⟩
     rw[← hj]at hnx;clear s0 s3 s4 s5 hI hWE;rw[← hj];clear hj;rintro S H2 ⟨s0,s3,s4,s5,s6,s7,hI,hej⟩;refine JR (λS H2=>S 0= .ptr id 0 0/\S 3= .cptr [.sc (.int .i64 4),.imm 2 (A7 params),A1 gop,A1 gna,.imm 1 (AP gar),.imm 2 (A7 gpa),.imm 5 (Ex.rows gex),.imm 6 (Fm.rows gki),A1 name,.imm 1 (AP args),A1 eop,A1 ena,.sc (.int .i64 en),.imm 1 (AP ear),.imm 5 (Ex.rows eki)]/\S 4= .ptr h.next 0 0/\S 5= .ptr (h.next+1) 0 0/\S 6= .ptr j 0 0/\H2.obj j=some (.arr 6 [[.sc (.int .i64 ek),.sc (.int .i64 ea),.sc (.int .i64 el),.sc (.int .i64 ec),A1 et,.imm 6 (Sx.rows es)]])/\ ∃ b1,Di h id b1 (.mk xk xv xl xc xt xs) H2/\b1=(b0||!kB)) ?_ ?_
     ·have hno:=hI.grow.at_;have hej2: ∀ b1,(H2.set id (wO b1)).obj j=some (.arr 6 [[.sc (.int .i64 ek),.sc (.int .i64 ea),.sc (.int .i64 el),.sc (.int .i64 ec),A1 et,.imm 6 (Sx.rows es)]]):=λb1=>by
       simp only[A0.set];rw[A4 (by omega)];exact hej
      cases b0 with
      |true=>
       replace zz:=AY s0 s3 s4 s5 s6 s7 hno;refine wt zz ?_;first
        |exact⟨hej2 _,true,hI.put hid,by simp⟩
        |exact⟨sq s0,sq s3,sq s4,sq s5,sq s6,hej2 _,true,hI.put hid,by simp⟩
      |false=>
       cases kB with
       |true=>
        simp only[AC]at hev;subst hev;replace zz:=AY s0 s3 s4 s5 s6 s7 hno;refine wt zz ?_;exact⟨hej2 _,_,hI.put hid,by simp⟩
       |false=>
        simp only[Ap,AD,Dp]at hev;subst hev;replace zz:=AY s0 s3 s4 s5 s6 s7 hno;refine wt zz ?_;exact⟨hej2 _,_,hI.put hid,by simp⟩
     ·clear s0 s3 s4 s5 s6 s7 hI hej;rintro S H3 ⟨s0,s3,s4,s5,s6,hej,b1,hI,hb1⟩;(first|refine hK _ _ ?_|refine cK ?_);(try clear hK);have hat:=hI.at_;simp only[Sx.cells]at hat;replace zz:=BR s0 s3 s4 s5 s6 hat hej wi wj;refine wy zz ?_;replace zz:=AY s0 s3 s4 s5 s6 hat hej;(first|refine uV zz (hw _ _) ?_|refine uA zz (hw _ _) ?_);refine wy zz ?_;replace zz:=AY s0 s3 s4 s5 s6 hat hej;(first|refine uV zz (hl3 _) ?_|refine uA zz (hl3 _) ?_);refine wy zz ?_;first
       |exact⟨b1,hI.upd hid,stepK _ hb1⟩
       |exact⟨sq s0,sq s3,sq s4,sq s5,b1,hI.upd hid,stepK _ hb1⟩
    ·have k1:((5:Int)==1)=false:=rfl;have k2:((5:Int)==2)=false:=rfl;have k3:((5:Int)==3)=false:=rfl;have k4:((5:Int)==4)=false:=rfl;have k5:((5:Int)==5)=true:=rfl;have kw:Jj 5=Ir:=rfl;have wi:IntKind.i64.wrap ((5:Int)-3)=2:=rfl;have wj:IntKind.i64.wrap 2=2:=rfl;have hl3:=λh:A0=>HZ [A5 Ir,.mk xk xv xl xc xt xs,.mk ek ea el ec et es] h;simp only[A5,Ir,AB,Sx.cells,Sx.rows]at hl3;replace zz:=BR s0 s3 s4 s5 k1 k2 k3 k4 k5;refine wt zz ?_;replace zz:=AS s0 s3 s4 s5;refine uU zz (hWE _) ?_;replace zz:=AV s0 s3 s4 s5 @Ds;refine xB 13 zz ?_;refine⟨?_⟩;refine C6 (λS H2=>S 0= .ptr id 0 0/\S 3= .cptr [.sc (.int .i64 5),.imm 2 (A7 params),A1 gop,A1 gna,.imm 1 (AP gar),.imm 2 (A7 gpa),.imm 5 (Ex.rows gex),.imm 6 (Fm.rows gki),A1 name,.imm 1 (AP args),A1 eop,A1 ena,.sc (.int .i64 en),.imm 1 (AP ear),.imm 5 (Ex.rows eki)]/\S 4= .ptr h.next 0 0/\S 5= .ptr (h.next+1) 0 0/\S 6= .ptr H.next 0 0/\S 7=ev/\Di h id b0 (.mk xk xv xl xc xt xs) H2/\H2.obj H.next=some (.arr 6 [[.sc (.int .i64 ek),.sc (.int .i64 ea),.sc (.int .i64 el),.sc (.int .i64 ec),A1 et,.imm 6 (Sx.rows es)]])) ⟨sq s0,sq s3,sq s4,sq s5,sq A2,sq A2,(hI.new hid).hi hid hnx,by simp only[A0.set,AC]⟩ ?_;obtain⟨j,hj⟩: ∃ j,j=H.next:=⟨_,rfl⟩
     rw[← hj]at hnx;clear s0 s3 s4 s5 hI hWE;rw[← hj];clear hj;rintro S H2 ⟨s0,s3,s4,s5,s6,s7,hI,hej⟩;refine JR (λS H2=>S 0= .ptr id 0 0/\S 3= .cptr [.sc (.int .i64 5),.imm 2 (A7 params),A1 gop,A1 gna,.imm 1 (AP gar),.imm 2 (A7 gpa),.imm 5 (Ex.rows gex),.imm 6 (Fm.rows gki),A1 name,.imm 1 (AP args),A1 eop,A1 ena,.sc (.int .i64 en),.imm 1 (AP ear),.imm 5 (Ex.rows eki)]/\S 4= .ptr h.next 0 0/\S 5= .ptr (h.next+1) 0 0/\S 6= .ptr j 0 0/\H2.obj j=some (.arr 6 [[.sc (.int .i64 ek),.sc (.int .i64 ea),.sc (.int .i64 el),.sc (.int .i64 ec),A1 et,.imm 6 (Sx.rows es)]])/\ ∃ b1,Di h id b1 (.mk xk xv xl xc xt xs) H2/\b1=(b0||!kB)) ?_ ?_
     ·have hno:=hI.grow.at_;have hej2: ∀ b1,(H2.set id (wO b1)).obj j=some (.arr 6 [[.sc (.int .i64 ek),.sc (.int .i64 ea),.sc (.int .i64 el),.sc (.int .i64 ec),A1 et,.imm 6 (Sx.rows es)]]):=λb1=>by
       simp only[A0.set];rw[A4 (by omega)];exact hej
      cases b0 with
      |true=>
       replace zz:=AY s0 s3 s4 s5 s6 s7 hno;refine wt zz ?_;first
        |exact⟨hej2 _,true,hI.put hid,by simp⟩
        |exact⟨sq s0,sq s3,sq s4,sq s5,sq s6,hej2 _,true,hI.put hid,by simp⟩
      |false=>
       cases kB with
       |true=>
        simp only[AC]at hev;subst hev;replace zz:=AY s0 s3 s4 s5 s6 s7 hno;refine wt zz ?_;exact⟨hej2 _,_,hI.put hid,by simp⟩
       |false=>
        simp only[Ap,AD,Dp]at hev;subst hev;replace zz:=AY s0 s3 s4 s5 s6 s7 hno;refine wt zz ?_;exact⟨hej2 _,_,hI.put hid,by simp⟩
     ·clear s0 s3 s4 s5 s6 s7 hI hej;rintro S H3 ⟨s0,s3,s4,s5,s6,hej,b1,hI,hb1⟩;(first|refine hK _ _ ?_|refine cK ?_);(try clear hK);have hat:=hI.at_;simp only[Sx.cells]at hat;replace zz:=BR s0 s3 s4 s5 s6 hat hej wi wj;refine wy zz ?_;replace zz:=AY s0 s3 s4 s5 s6 hat hej;(first|refine uV zz (hw _ _) ?_|refine uA zz (hw _ _) ?_);refine wy zz ?_;replace zz:=AY s0 s3 s4 s5 s6 hat hej;(first|refine uV zz (hl3 _) ?_|refine uA zz (hl3 _) ?_);refine wy zz ?_;first
       |exact⟨b1,hI.upd hid,stepK _ hb1⟩
       |exact⟨sq s0,sq s3,sq s4,sq s5,b1,hI.upd hid,stepK _ hb1⟩
 ·clear hvs hWE hX0 hK0 hI s0 s3 s4 s5;rintro S H ⟨s0,s3,s4,s5,b1,hI,hb1⟩;refine CF (λS H=>S 0= .ptr id 0 0/\S 3= .cptr [.sc (.int .i64 kind),.imm 2 (A7 params),A1 gop,A1 gna,.imm 1 (AP gar),.imm 2 (A7 gpa),.imm 5 (Ex.rows gex),.imm 6 (Fm.rows gki),A1 name,.imm 1 (AP args),A1 eop,A1 ena,.sc (.int .i64 en),.imm 1 (AP ear),.imm 5 (Ex.rows eki)]/\S 4= .ptr h.next 0 0/\S 5= .ptr (h.next+1) 0 0/\ ∃ b2,Di h id b2 R1 H/\b2=(b1||!(al||vf))) ?_ ?_
  ·have hda:=λh:A0=>Lb (h:=h);simp only[DC,C5,Fm.cells]at hda hSame;replace zz:=AS s0 s3 s4 s5;refine wy zz ?_;replace zz:=AS s0 s3 s4 s5;(first|refine uV zz (hda _) ?_|refine uA zz (hda _) ?_);refine wy zz ?_;replace zz:=AS s0 s3 s4 s5;(first|refine uV zz (hSame _) ?_|refine uA zz (hSame _) ?_);cases al with
   |true=>
    rw[D2]at hX1;subst hX1;replace zz:=AV s0 s3 s4 s5 yT;refine wy zz ?_;first
     |exact⟨b1,hI,by simp⟩
     |exact⟨sq s0,sq s3,sq s4,sq s5,b1,hI,by simp⟩
   |false=>
    rw[CH]at hX1;subst hX1;obtain⟨rk,rv,rl,rc,rt,rs⟩:=R0;obtain⟨fk,fv,fl,fc,ft,fs⟩:=fX;simp only[Sx.cells]at hWF;have hl3:=λh:A0=>HZ [A5 I9,.mk fk fv fl fc ft fs,.mk rk rv rl rc rt rs] h;simp only[A5,I9,AB,Sx.cells,Sx.rows]at hl3;have hat:=hI.at_;simp only[Sx.cells]at hat;have hno:=hI.grow.at_;have hnx:=hI.nx;have d1:(h.next+1=id)=False:=BF (by omega);replace zz:=AK s0 s3 s4 s5 yF hat;refine wy zz ?_;replace zz:=AV s0 s3 s4 s5 hat;(first|refine uV zz (hw _ _) ?_|refine uA zz (hw _ _) ?_);refine wy zz ?_;refine JJ (hWF H b1 (by omega) hno) (sr (AS s0 s3 s4 s5)) (by
     try simp only[Ty.w,simprocAttr,CX,List.map_cons,List.map_nil,List.forall_mem_cons]
     (repeat' apply And.intro)<;>first
      |trivial
      |exact .inl (by decide+kernel)
      |exact .inr (C9 (hw _ _) (sr A2))) ?_
    simp only[Ty.w,simprocAttr,Ty.AU,Bm,s0,s3,s4,s5,hat,d1];replace zz:=AK s0 s3 s4 s5 hat d1;refine wy zz ?_;refine IT (hl3 _) (sr (AK s0 s3 s4 s5 hat d1)) (by first|exact .inl (by decide+kernel)|exact⟨.inl (by decide+kernel),trivial⟩|(simp only[List.forall_mem_cons];exact⟨.inl (by decide+kernel),λ_ hx=>by cases hx⟩)) ?_;simp only[Ty.w,simprocAttr,Ty.AU,Bm,s0,s3,s4,s5,hat,d1];replace zz:=AK s0 s3 s4 s5 hat d1;refine wy zz ?_;first
     |exact⟨b1||!vf,(hI.put hid).upd hid,by simp⟩
     |exact⟨sq s0,sq s3,sq s4,sq s5,b1||!vf,(hI.put hid).upd hid,by simp⟩
  ·clear hSame hWF hX1 hI s0 s3 s4 s5;rintro S H ⟨s0,s3,s4,s5,b2,hI,hb2⟩;have hfin:(b2||!pb)=F:=by
    rw[hb2,hb1, ← hF];cases b<;>cases a1<;>cases kB<;>cases al<;>cases vf<;>cases pb<;>rfl
   clear hb1 hb2 hF;have hat:=hI.at_;have hno:=hI.grow.at_;have hnx:=hI.nx;have hrs:=hI.res;have d1:(h.next+1=id)=False:=BF (by omega);have d2:(h.next+1=h.next)=False:=BF (by omega);have d3:(h.next=h.next+1)=False:=BF (by omega);have d4:(h.next=id)=False:=BF (by omega);have Cs: ∀ (X:Sx)(H:A0),Di h id F X H->AZ h.next (H.set h.next (.arr 6 [X.cells])) (.agg X.cells) (.agg X.cells)/\Bq h id (wO F) (H.set h.next (.arr 6 [X.cells])):=λX H i=>⟨by
    simp only[AZ];exact⟨_,rfl,Do _ _ _⟩,i.grow.set hid (AF _)⟩
   obtain⟨rk,rv,rl,rc,rt,rs⟩:=R1;simp only[Sx.cells]at hat;cases hpn:decide ((params.length:Int)>0)with
   |false=>
    have e0:params.isEmpty=true:=by
     have h0:params.length=0:=(by have:=Px hpn;omega);rw[hpe,h0];try rfl
    have hpb:pb=true:=hpb0 e0;rw[e0,D2]at hX2;subst hX2;rw[hpb,Ab,E1]at hfin;subst hfin;have hf:=Cs _ _ hI;simp only[Sx.cells]at hf;replace zz:=BR s0 s3 s4 s5 hpl hpn hat hrs d2;refine wt zz ?_;exact hf
   |true=>
    have e0:params.isEmpty=false:=by
     have h0:¬ params.length=0:=(by have:=J0 hpn;omega);rw[hpe];exact U8 h0
    rw[e0,CH]at hX2;subst hX2;have hl2:=λh:A0=>HZ pw h;have hl3:=λh:A0=>HZ [A5 DJ,AB pw,.mk rk rv rl rc rt rs] h;simp only[A5,DJ,AB,Sx.cells,Sx.rows]at hl2 hl3;have hf:=λi=>Cs (AB [A5 DJ,AB pw,.mk rk rv rl rc rt rs]) ((H.set id (wO F)).set (h.next+1) (.arr 6 [(AB [A5 DJ,AB pw,.mk rk rv rl rc rt rs]).cells])) i;have hf:=hf ((hI.put hid).upd hid);simp only[A5,DJ,AB,Sx.cells,Sx.rows]at hf;replace zz:=AY s0 s3 s4 s5 hpl hpn hat;refine wy zz ?_;replace zz:=AV s0 s3 s4 s5 hat;(first|refine uV zz (hw _ _) ?_|refine uA zz (hw _ _) ?_);refine wy zz ?_;refine JJ (hWP H b2 (by omega) hno) (sr (AS s0 s3 s4 s5)) (by
     try simp only[Ty.w,simprocAttr,CX,List.map_cons,List.map_nil,List.forall_mem_cons]
     (repeat' apply And.intro)<;>first
      |trivial
      |exact .inl (by decide+kernel)
      |exact .inr (C9 (hw _ _) (sr A2))) ?_
    simp only[Ty.w,simprocAttr,Ty.AU,Bm,s0,s3,s4,s5,hat,d1];replace zz:=AK s0 s3 s4 s5 hat d1;refine wy zz ?_;refine IT (hl2 _) (sr (AK s0 s3 s4 s5 hat d1)) (by first|exact .inl (by decide+kernel)|exact⟨.inl (by decide+kernel),trivial⟩|(simp only[List.forall_mem_cons];exact⟨.inl (by decide+kernel),λ_ hx=>by cases hx⟩)) ?_;simp only[Ty.w,simprocAttr,Ty.AU,Bm,s0,s3,s4,s5,hat,d1];replace zz:=AK s0 s3 s4 s5 hat d1;refine wy zz ?_;refine IT (hl3 _) (sr (AK s0 s3 s4 s5 hat d1)) (by first|exact .inl (by decide+kernel)|exact⟨.inl (by decide+kernel),trivial⟩|(simp only[List.forall_mem_cons];exact⟨.inl (by decide+kernel),λ_ hx=>by cases hx⟩)) ?_;simp only[Ty.w,simprocAttr,Ty.AU,Bm,s0,s3,s4,s5,hat,d1];replace zz:=Aq s0 s3 s4 s5 hat d1 d2 d3 d4 hrs;refine wy zz ?_;rw[hfin];exact hf
end Go.Proofs.YtblgchkahpgdjaaGreat
