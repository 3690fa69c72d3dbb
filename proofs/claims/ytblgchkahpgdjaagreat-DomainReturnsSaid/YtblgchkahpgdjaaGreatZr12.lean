/- What the claim rests on, part 12: the abstract machine, contracts of the functions, plain data. -/
import Derived.Test.YtblgchkahpgdjaaGreatZr11
set_option linter.unusedVariables false
set_option linter.unusedSimpArgs false
set_option linter.unusedSectionVars false
namespace Go.Proofs.YtblgchkahpgdjaaGreat
open Go.AM Go.Proofs.Tryz
set_option maxHeartbeats 8000000
set_option maxRecDepth 20000
abbrev BW:List PV:=[.sc (.int .i64 0),.sc (.int .i64 0),.sc (.int .i64 0),.sc (.int .i64 0),.sc (.string ⟨#[]⟩),.sc (.slice none 0 0)]
structure Em(h:A0)(id:Nat)(b:Bool)(x:Sx)(H:A0):Prop where
 grow:CI h id (wO b) H
 nx:h.next+2<=H.next
 res:H.obj h.next=some (.arr 6 [BW])
 at_:H.obj (h.next+1)=some (.arr 6 [x.cells])
theorem Em.put{h H:A0}{id:Nat}{b b2:Bool}{x:Sx}(i:Em h id b x H)(hid:id<h.next):Em h id b2 x (H.set id (wO b2)):=by
 refine⟨i.grow.put,i.nx,?_,?_⟩
 ·simp only[A0.set];rw[A4 (by omega)];exact i.res
 ·simp only[A0.set];rw[A4 (by omega)];exact i.at_
theorem Em.upd{h H:A0}{id:Nat}{b:Bool}{x y:Sx}(i:Em h id b x H)(hid:id<h.next):Em h id b y (H.set (h.next+1) (.arr 6 [y.cells])):=by
 refine⟨i.grow.set hid (by omega),i.nx,?_,?_⟩
 ·simp only[A0.set];rw[A4 (by omega)];exact i.res
 ·simp only[A0.set,AH]
theorem Em.new{h H:A0}{id:Nat}{b:Bool}{x:Sx}{o:Ab}(i:Em h id b x H)(hid:id<h.next):Em h id b x (H.new o):=by
 have:=i.nx;refine⟨i.grow.new hid,by simp only[A0.new];omega,?_,?_⟩
 ·simp only[A0.new];rw[A4 (by omega)];exact i.res
 ·simp only[A0.new];rw[A4 (by omega)];exact i.at_
theorem Em.hi{h H:A0}{id j:Nat}{b:Bool}{x:Sx}{o:Ab}(i:Em h id b x H)(hid:id<h.next)(hj:h.next+2<=j):Em h id b x (H.set j o):=by
 refine⟨i.grow.set hid (by omega),i.nx,?_,?_⟩
 ·simp only[A0.set];rw[A4 (by omega)];exact i.res
 ·simp only[A0.set];rw[A4 (by omega)];exact i.at_
structure Fq(c:Ch):Prop where
 cond:c.cond.small
 value:c.value.small
 params:c.params.length<=1048576
 args:c.args.length<=1048576
def SX(c:Ch):Bool:=bif c.kind==1||c.kind==2 then c.value.same Bs else(bif c.kind==3||c.kind==4||c.kind==5 then EL c.value else false)
theorem Wj: ∀ l:List PV,Hq l l
 |[]=>by simp[Hq]
 |p::l=>by simp only[Hq];exact⟨.inl rfl,Wj l⟩
theorem OM:Bv.ok:=(K0 (by decide) (by decide) (by simp) (by simp) (by simp) (by simp) (by simp) (by simp) (by simp) (by simp)).1
theorem jD{h:A0}{id:Nat}{b:Bool}{c:Ch}(hok:c.ok)(hsm:Fq c)(hid:id<h.next)(ho:h.obj id=some (wO b)):
  A6 prog 107 [.ptr id 0 0,.agg (Di c)] h λr h'=>r= .agg (El c).cells/\h'=h.set id (wO (b||!C2 c)):=by
 refine A6.frzX Ty.UX ho (Kr _ _) ?_;obtain⟨kind,params,cond,name,args,value⟩:=c;have hns:name.size<=9223372036854775807:=by have:=hok.name;unfold AJ at this;simp only at this;omega
 have hchB:C2 ⟨kind,params,cond,name,args,value⟩=((An name&&args.all C8)&&SX ⟨kind,params,cond,name,args,value⟩&&(Bp cond||BU cond)&&params.all (BJ true)):=rfl;have hX2:El ⟨kind,params,cond,name,args,value⟩=(bif params.isEmpty then IM ⟨kind,params,cond,name,args,value⟩else AK [AA DH,AK (AX params),IM ⟨kind,params,cond,name,args,value⟩]):=rfl;have hX1:IM ⟨kind,params,cond,name,args,value⟩=(bif Bp cond then IL ⟨kind,params,cond,name,args,value⟩else AK [AA HO,BQ cond,IL ⟨kind,params,cond,name,args,value⟩]):=rfl;have hX0:IL ⟨kind,params,cond,name,args,value⟩=(bif kind==1 then Cn name args else bif kind==2 then AK [AA DD,Cn name args]
  else bif kind==3||kind==4||kind==5 then AK [AA (JT kind),Cn name args,Iy value]else Cn name args):=rfl
 have hK0:SX ⟨kind,params,cond,name,args,value⟩=(bif kind==1||kind==2 then value.same Bs else(bif kind==3||kind==4||kind==5 then EL value else false)):=rfl;rw[hchB];have c0:=λ(z:Ab)=>j8 (h:=h.new z) (b:=b) (first:=name) (l:=args) hns hsm.args hok.args.2 (show id<h.next+1 by omega) ((DS hid).trans ho);have hvs:=λ(h:A0)=>A6.nil2 (Wj _) (b':=[.sc (.string ⟨#[]⟩),.sc (.string ⟨#[]⟩),.sc (.int .i64 0),.sc (.slice none 0 0),.sc (.slice none 0 0)]) (by
  simp only[Bs,Ex.cells,Ex.rows,AN,B5,Hq];exact⟨.inl rfl,.inl rfl,.inl rfl,.inr ⟨rfl,_,rfl⟩,.inr ⟨rfl,_,rfl⟩,trivial⟩) (Vq (a:=value) (b:=Bs) hok.value Ip.1 h)
 have hWE:=λh:A0=>fR hok.value hsm.value h;have hXE:(if EL value then(PV.tup [.agg (BE value).cells,.sc .nilIface])else .tup [.agg IE.cells,Aj 2])= .tup [.agg (Iy value).cells,if EL value then .sc .nilIface else Aj 2]:=by
  unfold Iy;cases EL value<;>rfl
 simp only at hWE;rw[hXE]at hWE;have hSame:=λh:A0=>Io cond hok.cond Bv OM h;have hAl:cond.same Bv=Bp cond:=rfl;rw[hAl]at hSame;have hWF:=λ(h':A0)(b':Bool)(hid':id<h'.next)(ho':h'.obj id=some (wO b'))=>OJ (f:=cond) hok.cond hsm.cond hid' ho';have hWP:=λ(h':A0)(b':Bool)(hid':id<h'.next)(ho':h'.obj id=some (wO b'))=>Lx (vars:=true) (l:=params) hsm.params hok.params.2 hid' ho';have hw: ∀ (s:ByteArray)(h:A0),A6 prog 40 [A2 s] h λr h'=>r= .agg (AA s).cells/\h'=h:=λs h=>K1;have hpl:=IA params;have hpb0:params.isEmpty=true->params.all (BJ true)=true:=by cases params<;>simp
 have hpe:params.isEmpty=decide (params.length=0):=by cases params<;>simp
 clear hok hsm;generalize El ⟨kind,params,cond,name,args,value⟩=R2 at hX2⊢;generalize IM ⟨kind,params,cond,name,args,value⟩=R1 at hX1 hX2;generalize IL ⟨kind,params,cond,name,args,value⟩=R0 at hX0 hX1;generalize SX ⟨kind,params,cond,name,args,value⟩=kB at hK0⊢;generalize(An name&&args.all C8)=a1 at c0⊢;generalize value.same Bs=vs at hvs hK0;generalize EL value=ve at hWE hK0;generalize Iy value=eX at hWE hX0;generalize Bp cond=al at hSame hX1⊢;generalize BU cond=vf at hWF⊢;generalize BQ cond=fX at hWF hX1;generalize AX params=pw at hWP hX2;generalize params.all (BJ true)=pb at hWP hpb0⊢;generalize Cn name args=X0 at c0 hX0;obtain⟨gop,gna,gar,gpa,gex,gki⟩:=cond;obtain⟨eop,ena,en,ear,eki⟩:=value;generalize hF:(b||!(a1&&kB&&(al||vf)&&pb))=F;simp only[Di,Fm.cells,Ex.cells,C3,Au,AA,Sx.cells,Sx.rows,Bv]at hw c0 hvs hWE hWF hSame⊢;obtain⟨xk,xv,xl,xc,xt,xs⟩:=X0;simp only[Sx.cells]at c0;refine uG (ow:=λ_=>false) (wf:=λf=>f==100||f==43) func107 ntmps107 results107 Ty.UX ?_;refine wt A3 ?_;refine D5 (c0 _) (sr ho) ?_;simp only[Ty.w,simprocAttr,ho];refine xH 2 ho ?_;refine⟨?_⟩;refine Cj (λS H=>S 0= .ptr id 0 0/\S 3= .cptr [.sc (.int .i64 kind),.imm 2 (A7 params),A2 gop,A2 gna,.imm 1 (AN gar),.imm 2 (A7 gpa),.imm 5 (Ex.rows gex),.imm 6 (Fm.rows gki),A2 name,.imm 1 (AN args),A2 eop,A2 ena,.sc (.int .i64 en),.imm 1 (AN ear),.imm 5 (Ex.rows eki)]/\S 4= .ptr h.next 0 0/\S 5= .ptr (h.next+1) 0 0/\Em h id (b||!a1) (.mk xk xv xl xc xt xs) H) ⟨sq A3,sq A3,sq A3,sq A3,?_⟩ ?_
 ·refine ⟨?_,by simp only[A0.set,A0.new];omega,?_,?_⟩
  ·exact ((((CI.refl ho).new hid).put).new hid).set hid (by omega)
  ·simp only[A0.set,A0.new];repeat(first|rw[A4 (by omega)]|rw[AG A3])
  ·simp only[A0.set,A0.new,Sx.cells];repeat(first|rw[A4 (by omega)]|rw[AG A3])
 clear c0;rintro S H ⟨s0,s3,s4,s5,hI⟩;refine DA (λS H=>S 0= .ptr id 0 0/\S 3= .cptr [.sc (.int .i64 kind),.imm 2 (A7 params),A2 gop,A2 gna,.imm 1 (AN gar),.imm 2 (A7 gpa),.imm 5 (Ex.rows gex),.imm 6 (Fm.rows gki),A2 name,.imm 1 (AN args),A2 eop,A2 ena,.sc (.int .i64 en),.imm 1 (AN ear),.imm 5 (Ex.rows eki)]/\S 4= .ptr h.next 0 0/\S 5= .ptr (h.next+1) 0 0/\ ∃ b1,Em h id b1 R0 H/\b1=(b||!(a1&&kB))) ?_ ?_
 ·clear hX1 hX2 hF hSame hWF hWP;have stepK: ∀ b1:Bool,b1=((b||!a1)||!kB)->b1=(b||!(a1&&kB)):=λb1 e=>by
   rw[e];cases b<;>cases a1<;>cases kB<;>rfl
  generalize(b||!a1)=b0 at hI stepK;have hnx:=hI.nx;cases k12:(kind==1||kind==2)with
  |true=>
   have hKv:kB=vs:=(by rw[hK0,k12,AB]);subst hKv;clear hK0;cases k1:(kind==1)with
   |true=>
    have k2:(kind==2)=false:=(by have:=eq_of_beq k1;subst this;rfl);rw[k1,AB]at hX0;subst hX0;have hno:=hI.grow.at_;cases b0 with
    |true=>
     replace zz:=Ag s0 s3 s4 s5 k1 k2 hno;refine wt zz ?_;first
      |exact⟨true,hI.put hid,stepK _ (by simp)⟩
      |exact⟨sq s0,sq s3,sq s4,sq s5,true,hI.put hid,stepK _ (by simp)⟩
    |false=>
     replace zz:=Ag s0 s3 s4 s5 k1 k2 hno;refine wt zz ?_;replace zz:=As s0 s3 s4 s5 hno;refine uU zz (hvs _) ?_;replace zz:=Ag s0 s3 s4 s5 k1 k2 hno;refine wt zz ?_;first
      |exact⟨_,hI.put hid,stepK _ (by simp)⟩
      |exact⟨sq s0,sq s3,sq s4,sq s5,_,hI.put hid,stepK _ (by simp)⟩
   |false=>
    have k2:(kind==2)=true:=(by rw[k1,Fw]at k12;exact k12);rw[k1,k2,AI,AB]at hX0;subst hX0;have hl2:=λh:A0=>JV [AA DD,.mk xk xv xl xc xt xs] h;simp only[AA,DD,AK,Sx.cells,Sx.rows]at hl2;replace zz:=Aq s0 s3 s4 s5 k1 k2;refine xB 6 zz ?_;refine⟨?_⟩;refine Mg (λS H=>S 0= .ptr id 0 0/\S 3= .cptr [.sc (.int .i64 kind),.imm 2 (A7 params),A2 gop,A2 gna,.imm 1 (AN gar),.imm 2 (A7 gpa),.imm 5 (Ex.rows gex),.imm 6 (Fm.rows gki),A2 name,.imm 1 (AN args),A2 eop,A2 ena,.sc (.int .i64 en),.imm 1 (AN ear),.imm 5 (Ex.rows eki)]/\S 4= .ptr h.next 0 0/\S 5= .ptr (h.next+1) 0 0/\ ∃ b1,Em h id b1 (.mk xk xv xl xc xt xs) H/\b1=(b0||!kB)) ?_ ?_
    ·have hno:=hI.grow.at_;cases b0 with
     |true=>
      replace zz:=Ag s0 s3 s4 s5 k1 k2 hno;refine wt zz ?_;first
       |exact⟨true,hI.put hid,by simp⟩
       |exact⟨sq s0,sq s3,sq s4,sq s5,true,hI.put hid,by simp⟩
     |false=>
      replace zz:=Ag s0 s3 s4 s5 k1 k2 hno;refine wt zz ?_;replace zz:=As s0 s3 s4 s5 hno;refine uU zz (hvs _) ?_;replace zz:=Ag s0 s3 s4 s5 k1 k2 hno;refine wt zz ?_;first
       |exact⟨_,hI.put hid,by simp⟩
       |exact⟨sq s0,sq s3,sq s4,sq s5,_,hI.put hid,by simp⟩
    ·clear s0 s3 s4 s5 hI hnx hvs;rintro S H ⟨s0,s3,s4,s5,b1,hI,hb1⟩;(first|refine hK _ _ ?_|refine cK ?_);(try clear hK);have hat:=hI.at_;simp only[Sx.cells]at hat;replace zz:=Ag s0 s3 s4 s5 k1 k2 hat;refine wy zz ?_;replace zz:=As s0 s3 s4 s5 hat;(first|refine uV zz (hw _ _) ?_|refine uA zz (hw _ _) ?_);refine wy zz ?_;replace zz:=As s0 s3 s4 s5 hat;(first|refine uV zz (hl2 _) ?_|refine uA zz (hl2 _) ?_);refine wy zz ?_;first
      |exact⟨b1,hI.upd hid,stepK _ hb1⟩
      |exact⟨sq s0,sq s3,sq s4,sq s5,b1,hI.upd hid,stepK _ hb1⟩
  |false=>
   have k1:(kind==1)=false:=(by revert k12;cases(kind==1)<;>simp);have k2:(kind==2)=false:=(by revert k12;cases(kind==2)<;>simp);rw[k1,k2,AI,AI]at hX0;rw[k12,AI]at hK0;clear hvs k12;cases k345:(kind==3||kind==4||kind==5)with
   |false=>
    have k3:(kind==3)=false:=(by revert k345;cases(kind==3)<;>simp);have k4:(kind==4)=false:=(by revert k345;cases(kind==4)<;>simp);have k5:(kind==5)=false:=(by revert k345;cases(kind==5)<;>simp);rw[k345,AI]at hX0 hK0;subst hX0 hK0;have hno:=hI.grow.at_;replace zz:=B7 s0 s3 s4 s5 k1 k2 k3 k4 k5 hno;refine wt zz ?_;first
     |exact⟨true,hI.put hid,stepK _ (by simp)⟩
     |exact⟨sq s0,sq s3,sq s4,sq s5,true,hI.put hid,stepK _ (by simp)⟩
   |true=>
    rw[k345,AB]at hX0 hK0;subst hX0 hK0;obtain⟨ev,hev⟩: ∃ ev,ev=(if kB=true then PV.sc .nilIface else Aj 2):=⟨_,rfl⟩;rw[← hev]at hWE;have hk:kind=3\/kind=4\/kind=5:=(by simpa[or_assoc]using k345);clear k345 k1 k2;obtain⟨ek,ea,el,ec,et,es⟩:=eX;simp only[Sx.cells]at hWE;rcases hk with rfl|rfl|rfl
    ·have k1:((3:Int)==1)=false:=rfl;have k2:((3:Int)==2)=false:=rfl;have k3:((3:Int)==3)=true:=rfl;have k4:((3:Int)==4)=false:=rfl;have k5:((3:Int)==5)=false:=rfl;have kw:JT 3=JQ:=rfl;have wi:IntKind.i64.wrap ((3:Int)-3)=0:=rfl;have wj:IntKind.i64.wrap 0=0:=rfl;have hl3:=λh:A0=>JV [AA JQ,.mk xk xv xl xc xt xs,.mk ek ea el ec et es] h;simp only[AA,JQ,AK,Sx.cells,Sx.rows]at hl3;replace zz:=BK s0 s3 s4 s5 k1 k2 k3 k4 k5;refine wt zz ?_;replace zz:=Aa s0 s3 s4 s5;refine uU zz (hWE _) ?_;replace zz:=As s0 s3 s4 s5 @B2;refine xB 13 zz ?_;refine⟨?_⟩;refine Cj (λS H2=>S 0= .ptr id 0 0/\S 3= .cptr [.sc (.int .i64 3),.imm 2 (A7 params),A2 gop,A2 gna,.imm 1 (AN gar),.imm 2 (A7 gpa),.imm 5 (Ex.rows gex),.imm 6 (Fm.rows gki),A2 name,.imm 1 (AN args),A2 eop,A2 ena,.sc (.int .i64 en),.imm 1 (AN ear),.imm 5 (Ex.rows eki)]/\S 4= .ptr h.next 0 0/\S 5= .ptr (h.next+1) 0 0/\S 6= .ptr H.next 0 0/\S 7=ev/\Em h id b0 (.mk xk xv xl xc xt xs) H2/\H2.obj H.next=some (.arr 6 [[.sc (.int .i64 ek),.sc (.int .i64 ea),.sc (.int .i64 el),.sc (.int .i64 ec),A2 et,.imm 6 (Sx.rows es)]])) ⟨sq s0,sq s3,sq s4,sq s5,sq A3,sq A3,(hI.new hid).hi hid hnx,by simp only[A0.set,AH]⟩ ?_;obtain⟨j,hj⟩: ∃ j,j=H.next:=⟨_,rfl⟩
     rw[← hj]at hnx;clear s0 s3 s4 s5 hI hWE;rw[← hj];clear hj;rintro S H2 ⟨s0,s3,s4,s5,s6,s7,hI,hej⟩;refine Mg (λS H2=>S 0= .ptr id 0 0/\S 3= .cptr [.sc (.int .i64 3),.imm 2 (A7 params),A2 gop,A2 gna,.imm 1 (AN gar),.imm 2 (A7 gpa),.imm 5 (Ex.rows gex),.imm 6 (Fm.rows gki),A2 name,.imm 1 (AN args),A2 eop,A2 ena,.sc (.int .i64 en),.imm 1 (AN ear),.imm 5 (Ex.rows eki)]/\S 4= .ptr h.next 0 0/\S 5= .ptr (h.next+1) 0 0/\S 6= .ptr j 0 0/\H2.obj j=some (.arr 6 [[.sc (.int .i64 ek),.sc (.int .i64 ea),.sc (.int .i64 el),.sc (.int .i64 ec),A2 et,.imm 6 (Sx.rows es)]])/\ ∃ b1,Em h id b1 (.mk xk xv xl xc xt xs) H2/\b1=(b0||!kB)) ?_ ?_
     ·have hno:=hI.grow.at_;have hej2: ∀ b1,(H2.set id (wO b1)).obj j=some (.arr 6 [[.sc (.int .i64 ek),.sc (.int .i64 ea),.sc (.int .i64 el),.sc (.int .i64 ec),A2 et,.imm 6 (Sx.rows es)]]):=λb1=>by
       simp only[A0.set];rw[A4 (by omega)];exact hej
      cases b0 with
      |true=>
       replace zz:=Ag s0 s3 s4 s5 s6 s7 hno;refine wt zz ?_;first
        |exact⟨hej2 _,true,hI.put hid,by simp⟩
        |exact⟨sq s0,sq s3,sq s4,sq s5,sq s6,hej2 _,true,hI.put hid,by simp⟩
      |false=>
       cases kB with
       |true=>
        simp only[AH]at hev;subst hev;replace zz:=Ag s0 s3 s4 s5 s6 s7 hno;refine wt zz ?_;exact⟨hej2 _,_,hI.put hid,by simp⟩
       |false=>
        simp only[BG,AP,Aj]at hev;subst hev;replace zz:=Ag s0 s3 s4 s5 s6 s7 hno;refine wt zz ?_;exact⟨hej2 _,_,hI.put hid,by simp⟩
     ·clear s0 s3 s4 s5 s6 s7 hI hej;rintro S H3 ⟨s0,s3,s4,s5,s6,hej,b1,hI,hb1⟩;(first|refine hK _ _ ?_|refine cK ?_);(try clear hK);have hat:=hI.at_;simp only[Sx.cells]at hat;replace zz:=BK s0 s3 s4 s5 s6 hat hej wi wj;refine wy zz ?_;replace zz:=Ag s0 s3 s4 s5 s6 hat hej;(first|refine uV zz (hw _ _) ?_|refine uA zz (hw _ _) ?_);refine wy zz ?_;replace zz:=Ag s0 s3 s4 s5 s6 hat hej;(first|refine uV zz (hl3 _) ?_|refine uA zz (hl3 _) ?_);refine wy zz ?_;first
       |exact⟨b1,hI.upd hid,stepK _ hb1⟩
       |exact⟨sq s0,sq s3,sq s4,sq s5,b1,hI.upd hid,stepK _ hb1⟩
    ·have k1:((4:Int)==1)=false:=rfl;have k2:((4:Int)==2)=false:=rfl;have k3:((4:Int)==3)=false:=rfl;have k4:((4:Int)==4)=true:=rfl;have k5:((4:Int)==5)=false:=rfl;have kw:JT 4=JR:=rfl;have wi:IntKind.i64.wrap ((4:Int)-3)=1:=rfl;have wj:IntKind.i64.wrap 1=1:=rfl;have hl3:=λh:A0=>JV [AA JR,.mk xk xv xl xc xt xs,.mk ek ea el ec et es] h;simp only[AA,JR,AK,Sx.cells,Sx.rows]at hl3;replace zz:=BK s0 s3 s4 s5 k1 k2 k3 k4 k5;refine wt zz ?_;replace zz:=Aa s0 s3 s4 s5;refine uU zz (hWE _) ?_;replace zz:=As s0 s3 s4 s5 @B2;refine xB 13 zz ?_;refine⟨?_⟩;refine Cj (λS H2=>S 0= .ptr id 0 0/\S 3= .cptr [.sc (.int .i64 4),.imm 2 (A7 params),A2 gop,A2 gna,.imm 1 (AN gar),.imm 2 (A7 gpa),.imm 5 (Ex.rows gex),.imm 6 (Fm.rows gki),A2 name,.imm 1 (AN args),A2 eop,A2 ena,.sc (.int .i64 en),.imm 1 (AN ear),.imm 5 (Ex.rows eki)]/\S 4= .ptr h.next 0 0/\S 5= .ptr (h.next+1) 0 0/\S 6= .ptr H.next 0 0/\S 7=ev/\Em h id b0 (.mk xk xv xl xc xt xs) H2/\H2.obj H.next=some (.arr 6 [[.sc (.int .i64 ek),.sc (.int .i64 ea),.sc (.int .i64 el),.sc (.int .i64 ec),A2 et,.imm 6 (Sx.rows es)]])) ⟨sq s0,sq s3,sq s4,sq s5,sq A3,sq A3,(hI.new hid).hi hid hnx,by simp only[A0.set,AH]⟩ ?_;obtain⟨j,hj⟩: ∃ j,j=H.next:=⟨_,rfl⟩
     rw[← hj]at hnx;clear s0 s3 s4 s5 hI hWE;rw[← hj];clear hj;rintro S H2 ⟨s0,s3,s4,s5,s6,s7,hI,hej⟩;refine Mg (λS H2=>S 0= .ptr id 0 0/\S 3= .cptr [.sc (.int .i64 4),.imm 2 (A7 params),A2 gop,A2 gna,.imm 1 (AN gar),.imm 2 (A7 gpa),.imm 5 (Ex.rows gex),.imm 6 (Fm.rows gki),A2 name,.imm 1 (AN args),A2 eop,A2 ena,.sc (.int .i64 en),.imm 1 (AN ear),.imm 5 (Ex.rows eki)]/\S 4= .ptr h.next 0 0/\S 5= .ptr (h.next+1) 0 0/\S 6= .ptr j 0 0/\H2.obj j=some (.arr 6 [[.sc (.int .i64 ek),.sc (.int .i64 ea),.sc (.int .i64 el),.sc (.int .i64 ec),A2 et,.imm 6 (Sx.rows es)]])/\ ∃ b1,Em h id b1 (.mk xk xv xl xc xt xs) H2/\b1=(b0||!kB)) ?_ ?_
     ·have hno:=hI.grow.at_;have hej2: ∀ b1,(H2.set id (wO b1)).obj j=some (.arr 6 [[.sc (.int .i64 ek),.sc (.int .i64 ea),.sc (.int .i64 el),.sc (.int .i64 ec),A2 et,.imm 6 (Sx.rows es)]]):=λb1=>by
       simp only[A0.set];rw[A4 (by omega)];exact hej
      cases b0 with
      |true=>
       replace zz:=Ag s0 s3 s4 s5 s6 s7 hno;refine wt zz ?_;first
        |exact⟨hej2 _,true,hI.put hid,by simp⟩
        |exact⟨sq s0,sq s3,sq s4,sq s5,sq s6,hej2 _,true,hI.put hid,by simp⟩
      |false=>
       cases kB with
       |true=>
        simp only[AH]at hev;subst hev;replace zz:=Ag s0 s3 s4 s5 s6 s7 hno;refine wt zz ?_;exact⟨hej2 _,_,hI.put hid,by simp⟩
       |false=>
        simp only[BG,AP,Aj]at hev;subst hev;replace zz:=Ag s0 s3 s4 s5 s6 s7 hno;refine wt zz ?_;exact⟨hej2 _,_,hI.put hid,by simp⟩
     ·clear s0 s3 s4 s5 s6 s7 hI hej;rintro S H3 ⟨s0,s3,s4,s5,s6,hej,b1,hI,hb1⟩;(first|refine hK _ _ ?_|refine cK ?_);(try clear hK);have hat:=hI.at_;simp only[Sx.cells]at hat;replace zz:=BK s0 s3 s4 s5 s6 hat hej wi wj;refine wy zz ?_;replace zz:=Ag s0 s3 s4 s5 s6 hat hej;(first|refine uV zz (hw _ _) ?_|refine uA zz (hw _ _) ?_);refine wy zz ?_;replace zz:=Ag s0 s3 s4 s5 s6 hat hej;(first|refine uV zz (hl3 _) ?_|refine uA zz (hl3 _) ?_);refine wy zz ?_;first
       |exact⟨b1,hI.upd hid,stepK _ hb1⟩
       |exact⟨sq s0,sq s3,sq s4,sq s5,b1,hI.upd hid,stepK _ hb1⟩
    ·have k1:((5:Int)==1)=false:=rfl;have k2:((5:Int)==2)=false:=rfl;have k3:((5:Int)==3)=false:=rfl;have k4:((5:Int)==4)=false:=rfl;have k5:((5:Int)==5)=true:=rfl;have kw:JT 5=JS:=rfl;have wi:IntKind.i64.wrap ((5:Int)-3)=2:=rfl;have wj:IntKind.i64.wrap 2=2:=rfl;have hl3:=λh:A0=>JV [AA JS,.mk xk xv xl xc xt xs,.mk ek ea el ec et es] h;simp only[AA,JS,AK,Sx.cells,Sx.rows]at hl3;replace zz:=BK s0 s3 s4 s5 k1 k2 k3 k4 k5;refine wt zz ?_;replace zz:=Aa s0 s3 s4 s5;refine uU zz (hWE _) ?_;replace zz:=As s0 s3 s4 s5 @B2;refine xB 13 zz ?_;refine⟨?_⟩;refine Cj (λS H2=>S 0= .ptr id 0 0/\S 3= .cptr [.sc (.int .i64 5),.imm 2 (A7 params),A2 gop,A2 gna,.imm 1 (AN gar),.imm 2 (A7 gpa),.imm 5 (Ex.rows gex),.imm 6 (Fm.rows gki),A2 name,.imm 1 (AN args),A2 eop,A2 ena,.sc (.int .i64 en),.imm 1 (AN ear),.imm 5 (Ex.rows eki)]/\S 4= .ptr h.next 0 0/\S 5= .ptr (h.next+1) 0 0/\S 6= .ptr H.next 0 0/\S 7=ev/\Em h id b0 (.mk xk xv xl xc xt xs) H2/\H2.obj H.next=some (.arr 6 [[.sc (.int .i64 ek),.sc (.int .i64 ea),.sc (.int .i64 el),.sc (.int .i64 ec),A2 et,.imm 6 (Sx.rows es)]])) ⟨sq s0,sq s3,sq s4,sq s5,sq A3,sq A3,(hI.new hid).hi hid hnx,by simp only[A0.set,AH]⟩ ?_;obtain⟨j,hj⟩: ∃ j,j=H.next:=⟨_,rfl⟩
     rw[← hj]at hnx;clear s0 s3 s4 s5 hI hWE;rw[← hj];clear hj;rintro S H2 ⟨s0,s3,s4,s5,s6,s7,hI,hej⟩;refine Mg (λS H2=>S 0= .ptr id 0 0/\S 3= .cptr [.sc (.int .i64 5),.imm 2 (A7 params),A2 gop,A2 gna,.imm 1 (AN gar),.imm 2 (A7 gpa),.imm 5 (Ex.rows gex),.imm 6 (Fm.rows gki),A2 name,.imm 1 (AN args),A2 eop,A2 ena,.sc (.int .i64 en),.imm 1 (AN ear),.imm 5 (Ex.rows eki)]/\S 4= .ptr h.next 0 0/\S 5= .ptr (h.next+1) 0 0/\S 6= .ptr j 0 0/\H2.obj j=some (.arr 6 [[.sc (.int .i64 ek),.sc (.int .i64 ea),.sc (.int .i64 el),.sc (.int .i64 ec),A2 et,.imm 6 (Sx.rows es)]])/\ ∃ b1,Em h id b1 (.mk xk xv xl xc xt xs) H2/\b1=(b0||!kB)) ?_ ?_
     ·have hno:=hI.grow.at_;have hej2: ∀ b1,(H2.set id (wO b1)).obj j=some (.arr 6 [[.sc (.int .i64 ek),.sc (.int .i64 ea),.sc (.int .i64 el),.sc (.int .i64 ec),A2 et,.imm 6 (Sx.rows es)]]):=λb1=>by
       simp only[A0.set];rw[A4 (by omega)];exact hej
      cases b0 with
      |true=>
       replace zz:=Ag s0 s3 s4 s5 s6 s7 hno;refine wt zz ?_;first
        |exact⟨hej2 _,true,hI.put hid,by simp⟩
        |exact⟨sq s0,sq s3,sq s4,sq s5,sq s6,hej2 _,true,hI.put hid,by simp⟩
      |false=>
       cases kB with
       |true=>
        simp only[AH]at hev;subst hev;replace zz:=Ag s0 s3 s4 s5 s6 s7 hno;refine wt zz ?_;exact⟨hej2 _,_,hI.put hid,by simp⟩
       |false=>
        simp only[BG,AP,Aj]at hev;subst hev;replace zz:=Ag s0 s3 s4 s5 s6 s7 hno;refine wt zz ?_;exact⟨hej2 _,_,hI.put hid,by simp⟩
     ·clear s0 s3 s4 s5 s6 s7 hI hej;rintro S H3 ⟨s0,s3,s4,s5,s6,hej,b1,hI,hb1⟩;(first|refine hK _ _ ?_|refine cK ?_);(try clear hK);have hat:=hI.at_;simp only[Sx.cells]at hat;replace zz:=BK s0 s3 s4 s5 s6 hat hej wi wj;refine wy zz ?_;replace zz:=Ag s0 s3 s4 s5 s6 hat hej;(first|refine uV zz (hw _ _) ?_|refine uA zz (hw _ _) ?_);refine wy zz ?_;replace zz:=Ag s0 s3 s4 s5 s6 hat hej;(first|refine uV zz (hl3 _) ?_|refine uA zz (hl3 _) ?_);refine wy zz ?_;first
       |exact⟨b1,hI.upd hid,stepK _ hb1⟩
       |exact⟨sq s0,sq s3,sq s4,sq s5,b1,hI.upd hid,stepK _ hb1⟩
 ·clear hvs hWE hX0 hK0 hI s0 s3 s4 s5;rintro S H ⟨s0,s3,s4,s5,b1,hI,hb1⟩;refine DA (λS H=>S 0= .ptr id 0 0/\S 3= .cptr [.sc (.int .i64 kind),.imm 2 (A7 params),A2 gop,A2 gna,.imm 1 (AN gar),.imm 2 (A7 gpa),.imm 5 (Ex.rows gex),.imm 6 (Fm.rows gki),A2 name,.imm 1 (AN args),A2 eop,A2 ena,.sc (.int .i64 en),.imm 1 (AN ear),.imm 5 (Ex.rows eki)]/\S 4= .ptr h.next 0 0/\S 5= .ptr (h.next+1) 0 0/\ ∃ b2,Em h id b2 R1 H/\b2=(b1||!(al||vf))) ?_ ?_
  ·have hda:=λh:A0=>Ks (h:=h);simp only[Bv,Bc,Fm.cells]at hda hSame;replace zz:=Aa s0 s3 s4 s5;refine wy zz ?_;replace zz:=Aa s0 s3 s4 s5;(first|refine uV zz (hda _) ?_|refine uA zz (hda _) ?_);refine wy zz ?_;replace zz:=Aa s0 s3 s4 s5;(first|refine uV zz (hSame _) ?_|refine uA zz (hSame _) ?_);cases al with
   |true=>
    rw[AB]at hX1;subst hX1;replace zz:=As s0 s3 s4 s5 yT;refine wy zz ?_;first
     |exact⟨b1,hI,by simp⟩
     |exact⟨sq s0,sq s3,sq s4,sq s5,b1,hI,by simp⟩
   |false=>
    rw[AI]at hX1;subst hX1;obtain⟨rk,rv,rl,rc,rt,rs⟩:=R0;obtain⟨fk,fv,fl,fc,ft,fs⟩:=fX;simp only[Sx.cells]at hWF;have hl3:=λh:A0=>JV [AA HO,.mk fk fv fl fc ft fs,.mk rk rv rl rc rt rs] h;simp only[AA,HO,AK,Sx.cells,Sx.rows]at hl3;have hat:=hI.at_;simp only[Sx.cells]at hat;have hno:=hI.grow.at_;have hnx:=hI.nx;have d1:(h.next+1=id)=False:=B4 (by omega);replace zz:=Aq s0 s3 s4 s5 yF hat;refine wy zz ?_;replace zz:=As s0 s3 s4 s5 hat;(first|refine uV zz (hw _ _) ?_|refine uA zz (hw _ _) ?_);refine wy zz ?_;refine LY (hWF H b1 (by omega) hno) (sr (Aa s0 s3 s4 s5)) (by
     try simp only[Ty.w,simprocAttr,DR,BS,B5,Bg]
     (repeat' apply And.intro)<;>first
      |trivial
      |exact .inl (by decide+kernel)
      |exact .inr (CO (hw _ _) (sr A3))) ?_
    simp only[Ty.w,simprocAttr,Ty.AW,B6,s0,s3,s4,s5,hat,d1];replace zz:=Aq s0 s3 s4 s5 hat d1;refine wy zz ?_;refine If (hl3 _) (sr (Aq s0 s3 s4 s5 hat d1)) (by first|exact .inl (by decide+kernel)|exact⟨.inl (by decide+kernel),trivial⟩|(simp only[Bg];exact⟨.inl (by decide+kernel),λ_ hx=>by cases hx⟩)) ?_;simp only[Ty.w,simprocAttr,Ty.AW,B6,s0,s3,s4,s5,hat,d1];replace zz:=Aq s0 s3 s4 s5 hat d1;refine wy zz ?_;first
     |exact⟨b1||!vf,(hI.put hid).upd hid,by simp⟩
     |exact⟨sq s0,sq s3,sq s4,sq s5,b1||!vf,(hI.put hid).upd hid,by simp⟩
  ·clear hSame hWF hX1 hI s0 s3 s4 s5;rintro S H ⟨s0,s3,s4,s5,b2,hI,hb2⟩;have hfin:(b2||!pb)=F:=by
    rw[hb2,hb1, ← hF];cases b<;>cases a1<;>cases kB<;>cases al<;>cases vf<;>cases pb<;>rfl
   clear hb1 hb2 hF;have hat:=hI.at_;have hno:=hI.grow.at_;have hnx:=hI.nx;have hrs:=hI.res;have d1:(h.next+1=id)=False:=B4 (by omega);have d2:(h.next+1=h.next)=False:=B4 (by omega);have d3:(h.next=h.next+1)=False:=B4 (by omega);have d4:(h.next=id)=False:=B4 (by omega);have Ck: ∀ (X:Sx)(H:A0),Em h id F X H->AF h.next (H.set h.next (.arr 6 [X.cells])) (.agg X.cells) (.agg X.cells)/\CI h id (wO F) (H.set h.next (.arr 6 [X.cells])):=λX H i=>⟨by
    simp only[AF];exact⟨_,rfl,FZ _ _ _⟩,i.grow.set hid (AD _)⟩
   obtain⟨rk,rv,rl,rc,rt,rs⟩:=R1;simp only[Sx.cells]at hat;cases hpn:decide ((params.length:Int)>0)with
   |false=>
    have e0:params.isEmpty=true:=by
     have h0:params.length=0:=(by have:=of_decide_eq_false hpn;omega);rw[hpe,h0];try rfl
    have hpb:pb=true:=hpb0 e0;rw[e0,AB]at hX2;subst hX2;rw[hpb,Ap,GU]at hfin;subst hfin;have hf:=Ck _ _ hI;simp only[Sx.cells]at hf;replace zz:=BK s0 s3 s4 s5 hpl hpn hat hrs d2;refine wt zz ?_;exact hf
   |true=>
    have e0:params.isEmpty=false:=by
     have h0:¬ params.length=0:=(by have:=NB hpn;omega);rw[hpe];exact YO h0
    rw[e0,AI]at hX2;subst hX2;have hl2:=λh:A0=>JV pw h;have hl3:=λh:A0=>JV [AA DH,AK pw,.mk rk rv rl rc rt rs] h;simp only[AA,DH,AK,Sx.cells,Sx.rows]at hl2 hl3;have hf:=λi=>Ck (AK [AA DH,AK pw,.mk rk rv rl rc rt rs]) ((H.set id (wO F)).set (h.next+1) (.arr 6 [(AK [AA DH,AK pw,.mk rk rv rl rc rt rs]).cells])) i;have hf:=hf ((hI.put hid).upd hid);simp only[AA,DH,AK,Sx.cells,Sx.rows]at hf;replace zz:=Ag s0 s3 s4 s5 hpl hpn hat;refine wy zz ?_;replace zz:=As s0 s3 s4 s5 hat;(first|refine uV zz (hw _ _) ?_|refine uA zz (hw _ _) ?_);refine wy zz ?_;refine LY (hWP H b2 (by omega) hno) (sr (Aa s0 s3 s4 s5)) (by
     try simp only[Ty.w,simprocAttr,DR,BS,B5,Bg]
     (repeat' apply And.intro)<;>first
      |trivial
      |exact .inl (by decide+kernel)
      |exact .inr (CO (hw _ _) (sr A3))) ?_
    simp only[Ty.w,simprocAttr,Ty.AW,B6,s0,s3,s4,s5,hat,d1];replace zz:=Aq s0 s3 s4 s5 hat d1;refine wy zz ?_;refine If (hl2 _) (sr (Aq s0 s3 s4 s5 hat d1)) (by first|exact .inl (by decide+kernel)|exact⟨.inl (by decide+kernel),trivial⟩|(simp only[Bg];exact⟨.inl (by decide+kernel),λ_ hx=>by cases hx⟩)) ?_;simp only[Ty.w,simprocAttr,Ty.AW,B6,s0,s3,s4,s5,hat,d1];replace zz:=Aq s0 s3 s4 s5 hat d1;refine wy zz ?_;refine If (hl3 _) (sr (Aq s0 s3 s4 s5 hat d1)) (by first|exact .inl (by decide+kernel)|exact⟨.inl (by decide+kernel),trivial⟩|(simp only[Bg];exact⟨.inl (by decide+kernel),λ_ hx=>by cases hx⟩)) ?_;simp only[Ty.w,simprocAttr,Ty.AW,B6,s0,s3,s4,s5,hat,d1];replace zz:=B7 s0 s3 s4 s5 hat d1 d2 d3 d4 hrs;refine wy zz ?_;rw[hfin];exact hf
end Go.Proofs.YtblgchkahpgdjaaGreat
