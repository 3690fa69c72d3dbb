/- What the claim rests on, part 12: the abstract machine, contracts of the functions, plain data. -/
import Derived.Test.YtblgchkahpgdjaaGreatZm11
set_option linter.unusedVariables false
set_option linter.unusedSimpArgs false
set_option linter.unusedSectionVars false
namespace Go.Proofs.YtblgchkahpgdjaaGreat
open Go.AM Go.Proofs.Tryz
set_option maxHeartbeats 8000000
set_option maxRecDepth 20000
variable {H h:A0}{id:Nat}{b:Bool}{x:Sx}
abbrev Bh:List PV:=[qK 0,qK 0,qK 0,qK 0,.sc (.string ⟨#[]⟩),.sc (.slice none 0 0)]
structure FD(h:A0)(id:Nat)(b:Bool)(x:Sx)(H:A0):Prop where
 grow:CP h id (wO b) H
 nx:h.next+2<=H.next
 res:H.obj h.next=some (.arr 6 [Bh])
 at_:H.obj (h.next+1)=some (.arr 6 [x.cells])
theorem FD.put{b2:Bool}(i:FD h id b x H)(hid:id<h.next):FD h id b2 x (H.set id (wO b2)):=by
 refine⟨i.grow.put,i.nx,?_,?_⟩
 ·simp only[A0.set];rw[A7 (by omega)];exact i.res
 ·simp only[A0.set];rw[A7 (by omega)];exact i.at_
theorem FD.upd{y:Sx}(i:FD h id b x H)(hid:id<h.next):FD h id b y (H.set (h.next+1) (.arr 6 [y.cells])):=by
 refine⟨i.grow.set hid (by omega),i.nx,?_,?_⟩
 ·simp only[A0.set];rw[A7 (by omega)];exact i.res
 ·simp only[A0.set,AO]
theorem FD.new{o:Am}(i:FD h id b x H)(hid:id<h.next):FD h id b x (H.new o):=by
 have:=i.nx;refine⟨i.grow.new hid,by simp only[A0.new];omega,?_,?_⟩
 ·simp only[A0.new];rw[A7 (by omega)];exact i.res
 ·simp only[A0.new];rw[A7 (by omega)];exact i.at_
theorem FD.hi{j:Nat}{o:Am}(i:FD h id b x H)(hid:id<h.next)(hj:h.next+2<=j):FD h id b x (H.set j o):=by
 refine⟨i.grow.set hid (by omega),i.nx,?_,?_⟩
 ·simp only[A0.set];rw[A7 (by omega)];exact i.res
 ·simp only[A0.set];rw[A7 (by omega)];exact i.at_
structure Fe(c:Ch):Prop where
 cond:c.cond.small
 value:c.value.small
 params:c.params.length<=1048576
 args:c.args.length<=1048576
def Sk(c:Ch):Bool:=bif c.kind==1||c.kind==2 then c.value.same C2 else(bif c.kind==3||c.kind==4||c.kind==5 then Ei c.value else false)
theorem XB: ∀ l:List PV,Hz l l
 |[]=>by simp[Hz]
 |p::l=>by simp only[Hz];exact⟨.inl rfl,XB l⟩
theorem OS:Bu.ok:=(KD (by decide) (by decide) (by simp) (by simp) (by simp) (by simp) (by simp) (by simp) (by simp) (by simp)).1
theorem lQ{c:Ch}(hok:c.ok)(hsm:Fe c)(hid:id<h.next)(ho:h.obj id=some (wO b)):
  A6 prog 107 [.ptr id 0 0,.agg (CZ c)] h λr h'=>r= .agg (FC c).cells/\h'=h.set id (wO (b||!CA c)):=by
 refine A6.LW Ty.Ur ho (LB _ _) ?_;obtain⟨kind,params,cond,name,args,value⟩:=c;have hns:name.size<=9223372036854775807:=by have:=hok.name;unfold AF at this;simp only at this;omega
 have hchB:CA ⟨kind,params,cond,name,args,value⟩=((As name&&args.all CH)&&Sk ⟨kind,params,cond,name,args,value⟩&&(BX cond||Bf cond)&&params.all (BO true)):=rfl;have hX2:FC ⟨kind,params,cond,name,args,value⟩=(bif params.isEmpty then IW ⟨kind,params,cond,name,args,value⟩else AC [A5 DY,AC (Aa params),IW ⟨kind,params,cond,name,args,value⟩]):=rfl;have hX1:IW ⟨kind,params,cond,name,args,value⟩=(bif BX cond then IV ⟨kind,params,cond,name,args,value⟩else AC [A5 HS,BH cond,IV ⟨kind,params,cond,name,args,value⟩]):=rfl;have hX0:IV ⟨kind,params,cond,name,args,value⟩=(bif kind==1 then Cu name args else bif kind==2 then AC [A5 DU,Cu name args]
  else bif kind==3||kind==4||kind==5 then AC [A5 (Ja kind),Cu name args,J7 value]else Cu name args):=rfl
 have hK0:Sk ⟨kind,params,cond,name,args,value⟩=(bif kind==1||kind==2 then value.same C2 else(bif kind==3||kind==4||kind==5 then Ei value else false)):=rfl;rw[hchB];have c0:=λ(z:Am)=>lL (h:=h.new z) (b:=b) (first:=name) (l:=args) hns hsm.args hok.args.2 (show id<h.next+1 by omega) ((E4 hid).trans ho);have hvs:=λ(h:A0)=>A6.ZH (XB _) (b':=[.sc (.string ⟨#[]⟩),.sc (.string ⟨#[]⟩),qK 0,.sc (.slice none 0 0),.sc (.slice none 0 0)]) (by
  simp only[C2,Ex.cells,Ex.rows,AL,List.map_nil,Hz];exact⟨.inl rfl,.inl rfl,.inl rfl,.inr ⟨rfl,_,rfl⟩,.inr ⟨rfl,_,rfl⟩,trivial⟩) (WI (a:=value) (b:=C2) hok.value J1.1 h)
 have hWE:=λh:A0=>iU hok.value hsm.value h;have hXE:(if Ei value then(PV.Al [.agg (BG value).cells,.sc .nilIface])else .Al [.agg Ho.cells,An 2])= .Al [.agg (J7 value).cells,if Ei value then .sc .nilIface else An 2]:=by
  unfold J7;cases Ei value<;>rfl
 simp only at hWE;rw[hXE]at hWE;have hSame:=λh:A0=>Iz cond hok.cond Bu OS h;have hAl:cond.same Bu=BX cond:=rfl;rw[hAl]at hSame;have hWF:=λ(h':A0)(b':Bool)(hid':id<h'.next)(ho':h'.obj id=some (wO b'))=>OP (f:=cond) hok.cond hsm.cond hid' ho';have hWP:=λ(h':A0)(b':Bool)(hid':id<h'.next)(ho':h'.obj id=some (wO b'))=>M9 (vars:=true) (l:=params) hsm.params hok.params.2 hid' ho';have hw: ∀ (s:ByteArray)(h:A0),A6 prog 40 [A3 s] h λr h'=>r= .agg (A5 s).cells/\h'=h:=λs h=>KE;have hpl:=Gz params;have hpb0:params.isEmpty=true->params.all (BO true)=true:=by cases params<;>simp
 have hpe:params.isEmpty=decide (params.length=0):=by cases params<;>simp
 clear hok hsm;generalize FC ⟨kind,params,cond,name,args,value⟩=R2 at hX2⊢;generalize IW ⟨kind,params,cond,name,args,value⟩=R1 at hX1 hX2;generalize IV ⟨kind,params,cond,name,args,value⟩=R0 at hX0 hX1;generalize Sk ⟨kind,params,cond,name,args,value⟩=kB at hK0⊢;generalize(As name&&args.all CH)=a1 at c0⊢;generalize value.same C2=vs at hvs hK0;generalize Ei value=ve at hWE hK0;generalize J7 value=eX at hWE hX0;generalize BX cond=al at hSame hX1⊢;generalize Bf cond=vf at hWF⊢;generalize BH cond=fX at hWF hX1;generalize Aa params=pw at hWP hX2;generalize params.all (BO true)=pb at hWP hpb0⊢;generalize Cu name args=X0 at c0 hX0;obtain⟨gop,gna,gar,gpa,gex,gki⟩:=cond;obtain⟨eop,ena,en,ear,eki⟩:=value;generalize hF:(b||!(a1&&kB&&(al||vf)&&pb))=F;simp only[CZ,Fm.cells,Ex.cells,List.cons_append,List.nil_append,A5,Sx.cells,Sx.rows,Bu]at hw c0 hvs hWE hWF hSame⊢;obtain⟨xk,xv,xl,xc,xt,xs⟩:=X0;simp only[Sx.cells]at c0;refine uG (ow:=λ_=>false) (wf:=λf=>f==100||f==43) func107 ntmps107 results107 Ty.Ur ?_;refine wt A4 ?_;refine DM (c0 _) (sr ho) ?_;simp only[Ty.w,simprocAttr,ho];refine xH 2 ho ?_;refine⟨?_⟩;refine Cf (λS H=>S 0= .ptr id 0 0/\S 3= .Aj [qK kind,.A1 2 (A8 params),A3 gop,A3 gna,.A1 1 (AL gar),.A1 2 (A8 gpa),.A1 5 (Ex.rows gex),.A1 6 (Fm.rows gki),A3 name,.A1 1 (AL args),A3 eop,A3 ena,qK en,.A1 1 (AL ear),.A1 5 (Ex.rows eki)]/\S 4= .ptr h.next 0 0/\S 5= .ptr (h.next+1) 0 0/\FD h id (b||!a1) (.mk xk xv xl xc xt xs) H) ⟨sq A4,sq A4,sq A4,sq A4,?_⟩ ?_
 ·refine ⟨?_,by simp only[A0.set,A0.new];omega,?_,?_⟩
  ·exact ((((CP.refl ho).new hid).put).new hid).set hid (by omega)
  ·simp only[A0.set,A0.new];repeat(first|rw[A7 (by omega)]|rw[AK A4])
  ·simp only[A0.set,A0.new,Sx.cells];repeat(first|rw[A7 (by omega)]|rw[AK A4])
 clear c0;rintro S H ⟨s0,s3,s4,s5,hI⟩;refine D0 (λS H=>S 0= .ptr id 0 0/\S 3= .Aj [qK kind,.A1 2 (A8 params),A3 gop,A3 gna,.A1 1 (AL gar),.A1 2 (A8 gpa),.A1 5 (Ex.rows gex),.A1 6 (Fm.rows gki),A3 name,.A1 1 (AL args),A3 eop,A3 ena,qK en,.A1 1 (AL ear),.A1 5 (Ex.rows eki)]/\S 4= .ptr h.next 0 0/\S 5= .ptr (h.next+1) 0 0/\ ∃ b1,FD h id b1 R0 H/\b1=(b||!(a1&&kB))) ?_ ?_
 ·clear hX1 hX2 hF hSame hWF hWP;have stepK: ∀ b1:Bool,b1=((b||!a1)||!kB)->b1=(b||!(a1&&kB)):=λb1 e=>by
   rw[e];cases b<;>cases a1<;>cases kB<;>rfl
  generalize(b||!a1)=b0 at hI stepK;have hnx:=hI.nx;cases k12:(kind==1||kind==2)with
  |true=>
   have hKv:kB=vs:=(by rw[hK0,k12,AB]);subst hKv;clear hK0;cases k1:(kind==1)with
   |true=>
    have k2:(kind==2)=false:=(by have:=eq_of_beq k1;subst this;rfl);rw[k1,AB]at hX0;subst hX0;have hno:=hI.grow.at_;cases b0 with
    |true=>
     replace zz:=Ad s0 s3 s4 s5 k1 k2 hno;refine wt zz ?_;first
      |exact⟨true,hI.put hid,stepK _ (by simp)⟩
      |exact⟨sq s0,sq s3,sq s4,sq s5,true,hI.put hid,stepK _ (by simp)⟩
    |false=>
     replace zz:=Ad s0 s3 s4 s5 k1 k2 hno;refine wt zz ?_;replace zz:=Ae s0 s3 s4 s5 hno;refine uU zz (hvs _) ?_;replace zz:=Ad s0 s3 s4 s5 k1 k2 hno;refine wt zz ?_;first
      |exact⟨_,hI.put hid,stepK _ (by simp)⟩
      |exact⟨sq s0,sq s3,sq s4,sq s5,_,hI.put hid,stepK _ (by simp)⟩
   |false=>
    have k2:(kind==2)=true:=(by rw[k1,Cx]at k12;exact k12);rw[k1,k2,AJ,AB]at hX0;subst hX0;have hl2:=λh:A0=>Jc [A5 DU,.mk xk xv xl xc xt xs] h;simp only[A5,DU,AC,Sx.cells,Sx.rows]at hl2;replace zz:=Ah s0 s3 s4 s5 k1 k2;refine xB 6 zz ?_;refine⟨?_⟩;refine Mq (λS H=>S 0= .ptr id 0 0/\S 3= .Aj [qK kind,.A1 2 (A8 params),A3 gop,A3 gna,.A1 1 (AL gar),.A1 2 (A8 gpa),.A1 5 (Ex.rows gex),.A1 6 (Fm.rows gki),A3 name,.A1 1 (AL args),A3 eop,A3 ena,qK en,.A1 1 (AL ear),.A1 5 (Ex.rows eki)]/\S 4= .ptr h.next 0 0/\S 5= .ptr (h.next+1) 0 0/\ ∃ b1,FD h id b1 (.mk xk xv xl xc xt xs) H/\b1=(b0||!kB)) ?_ ?_
    ·have hno:=hI.grow.at_;cases b0 with
     |true=>
      replace zz:=Ad s0 s3 s4 s5 k1 k2 hno;refine wt zz ?_;first
       |exact⟨true,hI.put hid,by simp⟩
       |exact⟨sq s0,sq s3,sq s4,sq s5,true,hI.put hid,by simp⟩
     |false=>
      replace zz:=Ad s0 s3 s4 s5 k1 k2 hno;refine wt zz ?_;replace zz:=Ae s0 s3 s4 s5 hno;refine uU zz (hvs _) ?_;replace zz:=Ad s0 s3 s4 s5 k1 k2 hno;refine wt zz ?_;first
       |exact⟨_,hI.put hid,by simp⟩
       |exact⟨sq s0,sq s3,sq s4,sq s5,_,hI.put hid,by simp⟩
    ·clear s0 s3 s4 s5 hI hnx hvs;rintro S H ⟨s0,s3,s4,s5,b1,hI,hb1⟩;(first|refine hK _ _ ?_|refine cK ?_);(try clear hK);have hat:=hI.at_;simp only[Sx.cells]at hat;replace zz:=Ad s0 s3 s4 s5 k1 k2 hat;refine wy zz ?_;replace zz:=Ae s0 s3 s4 s5 hat;(first|refine uV zz (hw _ _) ?_|refine uA zz (hw _ _) ?_);refine wy zz ?_;replace zz:=Ae s0 s3 s4 s5 hat;(first|refine uV zz (hl2 _) ?_|refine uA zz (hl2 _) ?_);refine wy zz ?_;first
      |exact⟨b1,hI.upd hid,stepK _ hb1⟩
      |exact⟨sq s0,sq s3,sq s4,sq s5,b1,hI.upd hid,stepK _ hb1⟩
  |false=>
   have k1:(kind==1)=false:=(by revert k12;cases(kind==1)<;>simp);have k2:(kind==2)=false:=(by revert k12;cases(kind==2)<;>simp);rw[k1,k2,AJ,AJ]at hX0;rw[k12,AJ]at hK0;clear hvs k12;cases k345:(kind==3||kind==4||kind==5)with
   |false=>
    have k3:(kind==3)=false:=(by revert k345;cases(kind==3)<;>simp);have k4:(kind==4)=false:=(by revert k345;cases(kind==4)<;>simp);have k5:(kind==5)=false:=(by revert k345;cases(kind==5)<;>simp);rw[k345,AJ]at hX0 hK0;subst hX0 hK0;have hno:=hI.grow.at_;replace zz:=B6 s0 s3 s4 s5 k1 k2 k3 k4 k5 hno;refine wt zz ?_;first
     |exact⟨true,hI.put hid,stepK _ (by simp)⟩
     |exact⟨sq s0,sq s3,sq s4,sq s5,true,hI.put hid,stepK _ (by simp)⟩
   |true=>
    rw[k345,AB]at hX0 hK0;subst hX0 hK0;obtain⟨ev,hev⟩: ∃ ev,ev=(if kB=true then PV.sc .nilIface else An 2):=⟨_,rfl⟩;rw[← hev]at hWE;have hk:kind=3\/kind=4\/kind=5:=(by simpa[or_assoc]using k345);clear k345 k1 k2;obtain⟨ek,ea,el,ec,et,es⟩:=eX;simp only[Sx.cells]at hWE;rcases hk with rfl|rfl|rfl
    ·have k1:((3:Int)==1)=false:=rfl;have k2:((3:Int)==2)=false:=rfl;have k3:((3:Int)==3)=true:=rfl;have k4:((3:Int)==4)=false:=rfl;have k5:((3:Int)==5)=false:=rfl;have kw:Ja 3=JX:=rfl;have wi:IntKind.i64.wrap ((3:Int)-3)=0:=rfl;have wj:IntKind.i64.wrap 0=0:=rfl;have hl3:=λh:A0=>Jc [A5 JX,.mk xk xv xl xc xt xs,.mk ek ea el ec et es] h;simp only[A5,JX,AC,Sx.cells,Sx.rows]at hl3;replace zz:=BF s0 s3 s4 s5 k1 k2 k3 k4 k5;refine wt zz ?_;replace zz:=AW s0 s3 s4 s5;refine uU zz (hWE _) ?_;replace zz:=Ae s0 s3 s4 s5 @B4;refine xB 13 zz ?_;refine⟨?_⟩;refine Cf (λS H2=>S 0= .ptr id 0 0/\S 3= .Aj [qK 3,.A1 2 (A8 params),A3 gop,A3 gna,.A1 1 (AL gar),.A1 2 (A8 gpa),.A1 5 (Ex.rows gex),.A1 6 (Fm.rows gki),A3 name,.A1 1 (AL args),A3 eop,A3 ena,qK en,.A1 1 (AL ear),.A1 5 (Ex.rows eki)]/\S 4= .ptr h.next 0 0/\S 5= .ptr (h.next+1) 0 0/\S 6= .ptr H.next 0 0/\S 7=ev/\FD h id b0 (.mk xk xv xl xc xt xs) H2/\H2.obj H.next=some (.arr 6 [[qK ek,qK ea,qK el,qK ec,A3 et,.A1 6 (Sx.rows es)]])) ⟨sq s0,sq s3,sq s4,sq s5,sq A4,sq A4,(hI.new hid).hi hid hnx,by simp only[A0.set,AO]⟩ ?_;obtain⟨j,hj⟩: ∃ j,j=H.next:=⟨_,rfl⟩
     rw[← hj]at hnx;clear s0 s3 s4 s5 hI hWE;rw[← hj];clear hj;rintro S H2 ⟨s0,s3,s4,s5,s6,s7,hI,hej⟩;refine Mq (λS H2=>S 0= .ptr id 0 0/\S 3= .Aj [qK 3,.A1 2 (A8 params),A3 gop,A3 gna,.A1 1 (AL gar),.A1 2 (A8 gpa),.A1 5 (Ex.rows gex),.A1 6 (Fm.rows gki),A3 name,.A1 1 (AL args),A3 eop,A3 ena,qK en,.A1 1 (AL ear),.A1 5 (Ex.rows eki)]/\S 4= .ptr h.next 0 0/\S 5= .ptr (h.next+1) 0 0/\S 6= .ptr j 0 0/\H2.obj j=some (.arr 6 [[qK ek,qK ea,qK el,qK ec,A3 et,.A1 6 (Sx.rows es)]])/\ ∃ b1,FD h id b1 (.mk xk xv xl xc xt xs) H2/\b1=(b0||!kB)) ?_ ?_
     ·have hno:=hI.grow.at_;have hej2: ∀ b1,(H2.set id (wO b1)).obj j=some (.arr 6 [[qK ek,qK ea,qK el,qK ec,A3 et,.A1 6 (Sx.rows es)]]):=λb1=>by
       simp only[A0.set];rw[A7 (by omega)];exact hej
      cases b0 with
      |true=>
       replace zz:=Ad s0 s3 s4 s5 s6 s7 hno;refine wt zz ?_;first
        |exact⟨hej2 _,true,hI.put hid,by simp⟩
        |exact⟨sq s0,sq s3,sq s4,sq s5,sq s6,hej2 _,true,hI.put hid,by simp⟩
      |false=>
       cases kB with
       |true=>
        simp only[AO]at hev;subst hev;replace zz:=Ad s0 s3 s4 s5 s6 s7 hno;refine wt zz ?_;exact⟨hej2 _,_,hI.put hid,by simp⟩
       |false=>
        simp only[BQ,AP,An]at hev;subst hev;replace zz:=Ad s0 s3 s4 s5 s6 s7 hno;refine wt zz ?_;exact⟨hej2 _,_,hI.put hid,by simp⟩
     ·clear s0 s3 s4 s5 s6 s7 hI hej;rintro S H3 ⟨s0,s3,s4,s5,s6,hej,b1,hI,hb1⟩;(first|refine hK _ _ ?_|refine cK ?_);(try clear hK);have hat:=hI.at_;simp only[Sx.cells]at hat;replace zz:=BF s0 s3 s4 s5 s6 hat hej wi wj;refine wy zz ?_;replace zz:=Ad s0 s3 s4 s5 s6 hat hej;(first|refine uV zz (hw _ _) ?_|refine uA zz (hw _ _) ?_);refine wy zz ?_;replace zz:=Ad s0 s3 s4 s5 s6 hat hej;(first|refine uV zz (hl3 _) ?_|refine uA zz (hl3 _) ?_);refine wy zz ?_;first
       |exact⟨b1,hI.upd hid,stepK _ hb1⟩
       |exact⟨sq s0,sq s3,sq s4,sq s5,b1,hI.upd hid,stepK _ hb1⟩
    ·have k1:((4:Int)==1)=false:=rfl;have k2:((4:Int)==2)=false:=rfl;have k3:((4:Int)==3)=false:=rfl;have k4:((4:Int)==4)=true:=rfl;have k5:((4:Int)==5)=false:=rfl;have kw:Ja 4=JY:=rfl;have wi:IntKind.i64.wrap ((4:Int)-3)=1:=rfl;have wj:IntKind.i64.wrap 1=1:=rfl;have hl3:=λh:A0=>Jc [A5 JY,.mk xk xv xl xc xt xs,.mk ek ea el ec et es] h;simp only[A5,JY,AC,Sx.cells,Sx.rows]at hl3;replace zz:=BF s0 s3 s4 s5 k1 k2 k3 k4 k5;refine wt zz ?_;replace zz:=AW s0 s3 s4 s5;refine uU zz (hWE _) ?_;replace zz:=Ae s0 s3 s4 s5 @B4;refine xB 13 zz ?_;refine⟨?_⟩;refine Cf (λS H2=>S 0= .ptr id 0 0/\S 3= .Aj [qK 4,.A1 2 (A8 params),A3 gop,A3 gna,.A1 1 (AL gar),.A1 2 (A8 gpa),.A1 5 (Ex.rows gex),.A1 6 (Fm.rows gki),A3 name,.A1 1 (AL args),A3 eop,A3 ena,qK en,.A1 1 (AL ear),.A1 5 (Ex.rows eki)]/\S 4= .ptr h.next 0 0/\S 5= .ptr (h.next+1) 0 0/\S 6= .ptr H.next 0 0/\S 7=ev/\FD h id b0 (.mk xk xv xl xc xt xs) H2/\H2.obj H.next=some (.arr 6 [[qK ek,qK ea,qK el,qK ec,A3 et,.A1 6 (Sx.rows es)]])) ⟨sq s0,sq s3,sq s4,sq s5,sq A4,sq A4,(hI.new hid).hi hid hnx,by simp only[A0.set,AO]⟩ ?_;obtain⟨j,hj⟩: ∃ j,j=H.next:=⟨_,rfl⟩
     rw[← hj]at hnx;clear s0 s3 s4 s5 hI hWE;rw[← hj];clear hj;rintro S H2 ⟨s0,s3,s4,s5,s6,s7,hI,hej⟩;refine Mq (λS H2=>S 0= .ptr id 0 0/\S 3= .Aj [qK 4,.A1 2 (A8 params),A3 gop,A3 gna,.A1 1 (AL gar),.A1 2 (A8 gpa),.A1 5 (Ex.rows gex),.A1 6 (Fm.rows gki),A3 name,.A1 1 (AL args),A3 eop,A3 ena,qK en,.A1 1 (AL ear),.A1 5 (Ex.rows eki)]/\S 4= .ptr h.next 0 0/\S 5= .ptr (h.next+1) 0 0/\S 6= .ptr j 0 0/\H2.obj j=some (.arr 6 [[qK ek,qK ea,qK el,qK ec,A3 et,.A1 6 (Sx.rows es)]])/\ ∃ b1,FD h id b1 (.mk xk xv xl xc xt xs) H2/\b1=(b0||!kB)) ?_ ?_
     ·have hno:=hI.grow.at_;have hej2: ∀ b1,(H2.set id (wO b1)).obj j=some (.arr 6 [[qK ek,qK ea,qK el,qK ec,A3 et,.A1 6 (Sx.rows es)]]):=λb1=>by
       simp only[A0.set];rw[A7 (by omega)];exact hej
      cases b0 with
      |true=>
       replace zz:=Ad s0 s3 s4 s5 s6 s7 hno;refine wt zz ?_;first
        |exact⟨hej2 _,true,hI.put hid,by simp⟩
        |exact⟨sq s0,sq s3,sq s4,sq s5,sq s6,hej2 _,true,hI.put hid,by simp⟩
      |false=>
       cases kB with
       |true=>
        simp only[AO]at hev;subst hev;replace zz:=Ad s0 s3 s4 s5 s6 s7 hno;refine wt zz ?_;exact⟨hej2 _,_,hI.put hid,by simp⟩
       |false=>
        simp only[BQ,AP,An]at hev;subst hev;replace zz:=Ad s0 s3 s4 s5 s6 s7 hno;refine wt zz ?_;exact⟨hej2 _,_,hI.put hid,by simp⟩
     ·clear s0 s3 s4 s5 s6 s7 hI hej;rintro S H3 ⟨s0,s3,s4,s5,s6,hej,b1,hI,hb1⟩;(first|refine hK _ _ ?_|refine cK ?_);(try clear hK);have hat:=hI.at_;simp only[Sx.cells]at hat;replace zz:=BF s0 s3 s4 s5 s6 hat hej wi wj;refine wy zz ?_;replace zz:=Ad s0 s3 s4 s5 s6 hat hej;(first|refine uV zz (hw _ _) ?_|refine uA zz (hw _ _) ?_);refine wy zz ?_;replace zz:=Ad s0 s3 s4 s5 s6 hat hej;(first|refine uV zz (hl3 _) ?_|refine uA zz (hl3 _) ?_);refine wy zz ?_;first
       |exact⟨b1,hI.upd hid,stepK _ hb1⟩
       |exact⟨sq s0,sq s3,sq s4,sq s5,b1,hI.upd hid,stepK _ hb1⟩
    ·have k1:((5:Int)==1)=false:=rfl;have k2:((5:Int)==2)=false:=rfl;have k3:((5:Int)==3)=false:=rfl;have k4:((5:Int)==4)=false:=rfl;have k5:((5:Int)==5)=true:=rfl;have kw:Ja 5=JZ:=rfl;have wi:IntKind.i64.wrap ((5:Int)-3)=2:=rfl;have wj:IntKind.i64.wrap 2=2:=rfl;have hl3:=λh:A0=>Jc [A5 JZ,.mk xk xv xl xc xt xs,.mk ek ea el ec et es] h;simp only[A5,JZ,AC,Sx.cells,Sx.rows]at hl3;replace zz:=BF s0 s3 s4 s5 k1 k2 k3 k4 k5;refine wt zz ?_;replace zz:=AW s0 s3 s4 s5;refine uU zz (hWE _) ?_;replace zz:=Ae s0 s3 s4 s5 @B4;refine xB 13 zz ?_;refine⟨?_⟩;refine Cf (λS H2=>S 0= .ptr id 0 0/\S 3= .Aj [qK 5,.A1 2 (A8 params),A3 gop,A3 gna,.A1 1 (AL gar),.A1 2 (A8 gpa),.A1 5 (Ex.rows gex),.A1 6 (Fm.rows gki),A3 name,.A1 1 (AL args),A3 eop,A3 ena,qK en,.A1 1 (AL ear),.A1 5 (Ex.rows eki)]/\S 4= .ptr h.next 0 0/\S 5= .ptr (h.next+1) 0 0/\S 6= .ptr H.next 0 0/\S 7=ev/\FD h id b0 (.mk xk xv xl xc xt xs) H2/\H2.obj H.next=some (.arr 6 [[qK ek,qK ea,qK el,qK ec,A3 et,.A1 6 (Sx.rows es)]])) ⟨sq s0,sq s3,sq s4,sq s5,sq A4,sq A4,(hI.new hid).hi hid hnx,by simp only[A0.set,AO]⟩ ?_;obtain⟨j,hj⟩: ∃ j,j=H.next:=⟨_,rfl⟩
     rw[← hj]at hnx;clear s0 s3 s4 s5 hI hWE;rw[← hj];clear hj;rintro S H2 ⟨s0,s3,s4,s5,s6,s7,hI,hej⟩;refine Mq (λS H2=>S 0= .ptr id 0 0/\S 3= .Aj [qK 5,.A1 2 (A8 params),A3 gop,A3 gna,.A1 1 (AL gar),.A1 2 (A8 gpa),.A1 5 (Ex.rows gex),.A1 6 (Fm.rows gki),A3 name,.A1 1 (AL args),A3 eop,A3 ena,qK en,.A1 1 (AL ear),.A1 5 (Ex.rows eki)]/\S 4= .ptr h.next 0 0/\S 5= .ptr (h.next+1) 0 0/\S 6= .ptr j 0 0/\H2.obj j=some (.arr 6 [[qK ek,qK ea,qK el,qK ec,A3 et,.A1 6 (Sx.rows es)]])/\ ∃ b1,FD h id b1 (.mk xk xv xl xc xt xs) H2/\b1=(b0||!kB)) ?_ ?_
     ·have hno:=hI.grow.at_;have hej2: ∀ b1,(H2.set id (wO b1)).obj j=some (.arr 6 [[qK ek,qK ea,qK el,qK ec,A3 et,.A1 6 (Sx.rows es)]]):=λb1=>by
       simp only[A0.set];rw[A7 (by omega)];exact hej
      cases b0 with
      |true=>
       replace zz:=Ad s0 s3 s4 s5 s6 s7 hno;refine wt zz ?_;first
        |exact⟨hej2 _,true,hI.put hid,by simp⟩
        |exact⟨sq s0,sq s3,sq s4,sq s5,sq s6,hej2 _,true,hI.put hid,by simp⟩
      |false=>
       cases kB with
       |true=>
        simp only[AO]at hev;subst hev;replace zz:=Ad s0 s3 s4 s5 s6 s7 hno;refine wt zz ?_;exact⟨hej2 _,_,hI.put hid,by simp⟩
       |false=>
        simp only[BQ,AP,An]at hev;subst hev;replace zz:=Ad s0 s3 s4 s5 s6 s7 hno;refine wt zz ?_;exact⟨hej2 _,_,hI.put hid,by simp⟩
     ·clear s0 s3 s4 s5 s6 s7 hI hej;rintro S H3 ⟨s0,s3,s4,s5,s6,hej,b1,hI,hb1⟩;(first|refine hK _ _ ?_|refine cK ?_);(try clear hK);have hat:=hI.at_;simp only[Sx.cells]at hat;replace zz:=BF s0 s3 s4 s5 s6 hat hej wi wj;refine wy zz ?_;replace zz:=Ad s0 s3 s4 s5 s6 hat hej;(first|refine uV zz (hw _ _) ?_|refine uA zz (hw _ _) ?_);refine wy zz ?_;replace zz:=Ad s0 s3 s4 s5 s6 hat hej;(first|refine uV zz (hl3 _) ?_|refine uA zz (hl3 _) ?_);refine wy zz ?_;first
       |exact⟨b1,hI.upd hid,stepK _ hb1⟩
       |exact⟨sq s0,sq s3,sq s4,sq s5,b1,hI.upd hid,stepK _ hb1⟩
 ·clear hvs hWE hX0 hK0 hI s0 s3 s4 s5;rintro S H ⟨s0,s3,s4,s5,b1,hI,hb1⟩;refine D0 (λS H=>S 0= .ptr id 0 0/\S 3= .Aj [qK kind,.A1 2 (A8 params),A3 gop,A3 gna,.A1 1 (AL gar),.A1 2 (A8 gpa),.A1 5 (Ex.rows gex),.A1 6 (Fm.rows gki),A3 name,.A1 1 (AL args),A3 eop,A3 ena,qK en,.A1 1 (AL ear),.A1 5 (Ex.rows eki)]/\S 4= .ptr h.next 0 0/\S 5= .ptr (h.next+1) 0 0/\ ∃ b2,FD h id b2 R1 H/\b2=(b1||!(al||vf))) ?_ ?_
  ·have hda:=λh:A0=>LC (h:=h);simp only[Bu,Bl,Fm.cells]at hda hSame;replace zz:=AW s0 s3 s4 s5;refine wy zz ?_;replace zz:=AW s0 s3 s4 s5;(first|refine uV zz (hda _) ?_|refine uA zz (hda _) ?_);refine wy zz ?_;replace zz:=AW s0 s3 s4 s5;(first|refine uV zz (hSame _) ?_|refine uA zz (hSame _) ?_);cases al with
   |true=>
    rw[AB]at hX1;subst hX1;replace zz:=Ae s0 s3 s4 s5 yT;refine wy zz ?_;first
     |exact⟨b1,hI,by simp⟩
     |exact⟨sq s0,sq s3,sq s4,sq s5,b1,hI,by simp⟩
   |false=>
    rw[AJ]at hX1;subst hX1;obtain⟨rk,rv,rl,rc,rt,rs⟩:=R0;obtain⟨fk,fv,fl,fc,ft,fs⟩:=fX;simp only[Sx.cells]at hWF;have hl3:=λh:A0=>Jc [A5 HS,.mk fk fv fl fc ft fs,.mk rk rv rl rc rt rs] h;simp only[A5,HS,AC,Sx.cells,Sx.rows]at hl3;have hat:=hI.at_;simp only[Sx.cells]at hat;have hno:=hI.grow.at_;have hnx:=hI.nx;have d1:(h.next+1=id)=False:=BB (by omega);replace zz:=Ah s0 s3 s4 s5 yF hat;refine wy zz ?_;replace zz:=Ae s0 s3 s4 s5 hat;(first|refine uV zz (hw _ _) ?_|refine uA zz (hw _ _) ?_);refine wy zz ?_;refine Lm (hWF H b1 (by omega) hno) (sr (AW s0 s3 s4 s5)) (by
     try simp only[Ty.w,simprocAttr,Dj,List.map_cons,List.map_nil,List.forall_mem_cons]
     (repeat' apply And.intro)<;>first
      |trivial
      |exact .inl (by decide+kernel)
      |exact .inr (CT (hw _ _) (sr A4))) ?_
    simp only[Ty.w,simprocAttr,Ty.AX,BD,s0,s3,s4,s5,hat,d1];replace zz:=Ah s0 s3 s4 s5 hat d1;refine wy zz ?_;refine Iq (hl3 _) (sr (Ah s0 s3 s4 s5 hat d1)) (by first|exact .inl (by decide+kernel)|exact⟨.inl (by decide+kernel),trivial⟩|(simp only[List.forall_mem_cons];exact⟨.inl (by decide+kernel),λ_ hx=>by cases hx⟩)) ?_;simp only[Ty.w,simprocAttr,Ty.AX,BD,s0,s3,s4,s5,hat,d1];replace zz:=Ah s0 s3 s4 s5 hat d1;refine wy zz ?_;first
     |exact⟨b1||!vf,(hI.put hid).upd hid,by simp⟩
     |exact⟨sq s0,sq s3,sq s4,sq s5,b1||!vf,(hI.put hid).upd hid,by simp⟩
  ·clear hSame hWF hX1 hI s0 s3 s4 s5;rintro S H ⟨s0,s3,s4,s5,b2,hI,hb2⟩;have hfin:(b2||!pb)=F:=by
    rw[hb2,hb1, ← hF];cases b<;>cases a1<;>cases kB<;>cases al<;>cases vf<;>cases pb<;>rfl
   clear hb1 hb2 hF;have hat:=hI.at_;have hno:=hI.grow.at_;have hnx:=hI.nx;have hrs:=hI.res;have d1:(h.next+1=id)=False:=BB (by omega);have d2:(h.next+1=h.next)=False:=BB (by omega);have d3:(h.next=h.next+1)=False:=BB (by omega);have d4:(h.next=id)=False:=BB (by omega);have DA: ∀ (X:Sx)(H:A0),FD h id F X H->AI h.next (H.set h.next (.arr 6 [X.cells])) (.agg X.cells) (.agg X.cells)/\CP h id (wO F) (H.set h.next (.arr 6 [X.cells])):=λX H i=>⟨by
    simp only[AI];exact⟨_,rfl,FZ _ _ _⟩,i.grow.set hid (AG _)⟩
   obtain⟨rk,rv,rl,rc,rt,rs⟩:=R1;simp only[Sx.cells]at hat;cases hpn:decide ((params.length:Int)>0)with
   |false=>
    have e0:params.isEmpty=true:=by
     have h0:params.length=0:=(by have:=TT hpn;omega);rw[hpe,h0];try rfl
    have hpb:pb=true:=hpb0 e0;rw[e0,AB]at hX2;subst hX2;rw[hpb,Ax,GD]at hfin;subst hfin;have hf:=DA _ _ hI;simp only[Sx.cells]at hf;replace zz:=BF s0 s3 s4 s5 hpl hpn hat hrs d2;refine wt zz ?_;exact hf
   |true=>
    have e0:params.isEmpty=false:=by
     have h0:¬ params.length=0:=(by have:=LR hpn;omega);rw[hpe];exact NN h0
    rw[e0,AJ]at hX2;subst hX2;have hl2:=λh:A0=>Jc pw h;have hl3:=λh:A0=>Jc [A5 DY,AC pw,.mk rk rv rl rc rt rs] h;simp only[A5,DY,AC,Sx.cells,Sx.rows]at hl2 hl3;have hf:=λi=>DA (AC [A5 DY,AC pw,.mk rk rv rl rc rt rs]) ((H.set id (wO F)).set (h.next+1) (.arr 6 [(AC [A5 DY,AC pw,.mk rk rv rl rc rt rs]).cells])) i;have hf:=hf ((hI.put hid).upd hid);simp only[A5,DY,AC,Sx.cells,Sx.rows]at hf;replace zz:=Ad s0 s3 s4 s5 hpl hpn hat;refine wy zz ?_;replace zz:=Ae s0 s3 s4 s5 hat;(first|refine uV zz (hw _ _) ?_|refine uA zz (hw _ _) ?_);refine wy zz ?_;refine Lm (hWP H b2 (by omega) hno) (sr (AW s0 s3 s4 s5)) (by
     try simp only[Ty.w,simprocAttr,Dj,List.map_cons,List.map_nil,List.forall_mem_cons]
     (repeat' apply And.intro)<;>first
      |trivial
      |exact .inl (by decide+kernel)
      |exact .inr (CT (hw _ _) (sr A4))) ?_
    simp only[Ty.w,simprocAttr,Ty.AX,BD,s0,s3,s4,s5,hat,d1];replace zz:=Ah s0 s3 s4 s5 hat d1;refine wy zz ?_;refine Iq (hl2 _) (sr (Ah s0 s3 s4 s5 hat d1)) (by first|exact .inl (by decide+kernel)|exact⟨.inl (by decide+kernel),trivial⟩|(simp only[List.forall_mem_cons];exact⟨.inl (by decide+kernel),λ_ hx=>by cases hx⟩)) ?_;simp only[Ty.w,simprocAttr,Ty.AX,BD,s0,s3,s4,s5,hat,d1];replace zz:=Ah s0 s3 s4 s5 hat d1;refine wy zz ?_;refine Iq (hl3 _) (sr (Ah s0 s3 s4 s5 hat d1)) (by first|exact .inl (by decide+kernel)|exact⟨.inl (by decide+kernel),trivial⟩|(simp only[List.forall_mem_cons];exact⟨.inl (by decide+kernel),λ_ hx=>by cases hx⟩)) ?_;simp only[Ty.w,simprocAttr,Ty.AX,BD,s0,s3,s4,s5,hat,d1];replace zz:=B6 s0 s3 s4 s5 hat d1 d2 d3 d4 hrs;refine wy zz ?_;rw[hfin];exact hf
end Go.Proofs.YtblgchkahpgdjaaGreat
