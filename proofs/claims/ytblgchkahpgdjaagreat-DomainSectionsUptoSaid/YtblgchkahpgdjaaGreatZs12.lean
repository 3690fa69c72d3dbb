/- What the claim rests on, part 12: the abstract machine, contracts of the functions, plain data. -/
import Derived.Test.YtblgchkahpgdjaaGreatZs11
set_option linter.unusedVariables false
set_option linter.unusedSimpArgs false
set_option linter.unusedSectionVars false
namespace Go.Proofs.YtblgchkahpgdjaaGreat
open Go.AM Go.Proofs.Tryz
set_option maxHeartbeats 8000000
set_option maxRecDepth 20000
abbrev Bj:List PV:=[.sc (.int .i64 0),.sc (.int .i64 0),.sc (.int .i64 0),.sc (.int .i64 0),.sc (.string ⟨#[]⟩),.sc (.slice none 0 0)]
structure F4(h:A1)(id:Nat)(b:Bool)(x:Sx)(H:A1):Prop where
 grow:CQ h id (wO b) H
 nx:h.next+2<=H.next
 res:H.obj h.next=some (.arr 6 [Bj])
 at_:H.obj (h.next+1)=some (.arr 6 [x.cells])
theorem F4.put{h H:A1}{id:Nat}{b b2:Bool}{x:Sx}(i:F4 h id b x H)(hid:id<h.next):F4 h id b2 x (H.set id (wO b2)):=by
 refine⟨i.grow.put,i.nx,?_,?_⟩
 ·simp only[A1.set];rw[A8 (by omega)];exact i.res
 ·simp only[A1.set];rw[A8 (by omega)];exact i.at_
theorem F4.upd{h H:A1}{id:Nat}{b:Bool}{x y:Sx}(i:F4 h id b x H)(hid:id<h.next):F4 h id b y (H.set (h.next+1) (.arr 6 [y.cells])):=by
 refine⟨i.grow.set hid (by omega),i.nx,?_,?_⟩
 ·simp only[A1.set];rw[A8 (by omega)];exact i.res
 ·simp only[A1.set,AO]
theorem F4.new{h H:A1}{id:Nat}{b:Bool}{x:Sx}{o:An}(i:F4 h id b x H)(hid:id<h.next):F4 h id b x (H.new o):=by
 have:=i.nx;refine⟨i.grow.new hid,by simp only[A1.new];omega,?_,?_⟩
 ·simp only[A1.new];rw[A8 (by omega)];exact i.res
 ·simp only[A1.new];rw[A8 (by omega)];exact i.at_
theorem F4.hi{h H:A1}{id j:Nat}{b:Bool}{x:Sx}{o:An}(i:F4 h id b x H)(hid:id<h.next)(hj:h.next+2<=j):F4 h id b x (H.set j o):=by
 refine⟨i.grow.set hid (by omega),i.nx,?_,?_⟩
 ·simp only[A1.set];rw[A8 (by omega)];exact i.res
 ·simp only[A1.set];rw[A8 (by omega)];exact i.at_
structure FV(c:Ch):Prop where
 cond:c.cond.small
 value:c.value.small
 params:c.params.length<=1048576
 args:c.args.length<=1048576
def Sg(c:Ch):Bool:=bif c.kind==1||c.kind==2 then c.value.same By else(bif c.kind==3||c.kind==4||c.kind==5 then Ea c.value else false)
theorem Ww: ∀ l:List PV,Hv l l
 |[]=>by simp[Hv]
 |p::l=>by simp only[Hv];exact⟨.inl rfl,Ww l⟩
theorem ON:Bw.ok:=(KA (by decide) (by decide) (by simp) (by simp) (by simp) (by simp) (by simp) (by simp) (by simp) (by simp)).1
theorem km{h:A1}{id:Nat}{b:Bool}{c:Ch}(hok:c.ok)(hsm:FV c)(hid:id<h.next)(ho:h.obj id=some (wO b)):
  A6 prog 107 [.ptr id 0 0,.agg (CZ c)] h λr h'=>r= .agg (F3 c).cells/\h'=h.set id (wO (b||!CA c)):=by
 refine A6.LS Ty.Uh ho (LC _ _) ?_;obtain⟨kind,params,cond,name,args,value⟩:=c;have hns:name.size<=9223372036854775807:=by have:=hok.name;unfold AI at this;simp only at this;omega
 have hchB:CA ⟨kind,params,cond,name,args,value⟩=((As name&&args.all CH)&&Sg ⟨kind,params,cond,name,args,value⟩&&(C3 cond||Bh cond)&&params.all (BN true)):=rfl;have hX2:F3 ⟨kind,params,cond,name,args,value⟩=(bif params.isEmpty then IV ⟨kind,params,cond,name,args,value⟩else AE [A7 DV,AE (AZ params),IV ⟨kind,params,cond,name,args,value⟩]):=rfl;have hX1:IV ⟨kind,params,cond,name,args,value⟩=(bif C3 cond then IU ⟨kind,params,cond,name,args,value⟩else AE [A7 HR,Bb cond,IU ⟨kind,params,cond,name,args,value⟩]):=rfl;have hX0:IU ⟨kind,params,cond,name,args,value⟩=(bif kind==1 then Cu name args else bif kind==2 then AE [A7 DR,Cu name args]
  else bif kind==3||kind==4||kind==5 then AE [A7 (Jb kind),Cu name args,J7 value]else Cu name args):=rfl
 have hK0:Sg ⟨kind,params,cond,name,args,value⟩=(bif kind==1||kind==2 then value.same By else(bif kind==3||kind==4||kind==5 then Ea value else false)):=rfl;rw[hchB];have c0:=λ(z:An)=>ke (h:=h.new z) (b:=b) (first:=name) (l:=args) hns hsm.args hok.args.2 (show id<h.next+1 by omega) ((Dt hid).trans ho);have hvs:=λ(h:A1)=>A6.Z3 (Ww _) (b':=[.sc (.string ⟨#[]⟩),.sc (.string ⟨#[]⟩),.sc (.int .i64 0),.sc (.slice none 0 0),.sc (.slice none 0 0)]) (by
  simp only[By,Ex.cells,Ex.rows,AN,List.map_nil,Hv];exact⟨.inl rfl,.inl rfl,.inl rfl,.inr ⟨rfl,_,rfl⟩,.inr ⟨rfl,_,rfl⟩,trivial⟩) (W5 (a:=value) (b:=By) hok.value J1.1 h)
 have hWE:=λh:A1=>hZ hok.value hsm.value h;have hXE:(if Ea value then(PV.Am [.agg (BI value).cells,.sc .nilIface])else .Am [.agg Hj.cells,Ao 2])= .Am [.agg (J7 value).cells,if Ea value then .sc .nilIface else Ao 2]:=by
  unfold J7;cases Ea value<;>rfl
 simp only at hWE;rw[hXE]at hWE;have hSame:=λh:A1=>Iz cond hok.cond Bw ON h;have hAl:cond.same Bw=C3 cond:=rfl;rw[hAl]at hSame;have hWF:=λ(h':A1)(b':Bool)(hid':id<h'.next)(ho':h'.obj id=some (wO b'))=>OK (f:=cond) hok.cond hsm.cond hid' ho';have hWP:=λ(h':A1)(b':Bool)(hid':id<h'.next)(ho':h'.obj id=some (wO b'))=>M5 (vars:=true) (l:=params) hsm.params hok.params.2 hid' ho';have hw: ∀ (s:ByteArray)(h:A1),A6 prog 40 [A4 s] h λr h'=>r= .agg (A7 s).cells/\h'=h:=λs h=>KB;have hpl:=Gw params;have hpb0:params.isEmpty=true->params.all (BN true)=true:=by cases params<;>simp
 have hpe:params.isEmpty=decide (params.length=0):=by cases params<;>simp
 clear hok hsm;generalize F3 ⟨kind,params,cond,name,args,value⟩=R2 at hX2⊢;generalize IV ⟨kind,params,cond,name,args,value⟩=R1 at hX1 hX2;generalize IU ⟨kind,params,cond,name,args,value⟩=R0 at hX0 hX1;generalize Sg ⟨kind,params,cond,name,args,value⟩=kB at hK0⊢;generalize(As name&&args.all CH)=a1 at c0⊢;generalize value.same By=vs at hvs hK0;generalize Ea value=ve at hWE hK0;generalize J7 value=eX at hWE hX0;generalize C3 cond=al at hSame hX1⊢;generalize Bh cond=vf at hWF⊢;generalize Bb cond=fX at hWF hX1;generalize AZ params=pw at hWP hX2;generalize params.all (BN true)=pb at hWP hpb0⊢;generalize Cu name args=X0 at c0 hX0;obtain⟨gop,gna,gar,gpa,gex,gki⟩:=cond;obtain⟨eop,ena,en,ear,eki⟩:=value;generalize hF:(b||!(a1&&kB&&(al||vf)&&pb))=F;simp only[CZ,Fm.cells,Ex.cells,List.cons_append,List.nil_append,A7,Sx.cells,Sx.rows,Bw]at hw c0 hvs hWE hWF hSame⊢;obtain⟨xk,xv,xl,xc,xt,xs⟩:=X0;simp only[Sx.cells]at c0;refine uG (ow:=λ_=>false) (wf:=λf=>f==100||f==43) func107 ntmps107 results107 Ty.Uh ?_;refine wt A5 ?_;refine DK (c0 _) (sr ho) ?_;simp only[Ty.w,simprocAttr,ho];refine xH 2 ho ?_;refine⟨?_⟩;refine Cq (λS H=>S 0= .ptr id 0 0/\S 3= .Ag [.sc (.int .i64 kind),.A2 2 (A9 params),A4 gop,A4 gna,.A2 1 (AN gar),.A2 2 (A9 gpa),.A2 5 (Ex.rows gex),.A2 6 (Fm.rows gki),A4 name,.A2 1 (AN args),A4 eop,A4 ena,.sc (.int .i64 en),.A2 1 (AN ear),.A2 5 (Ex.rows eki)]/\S 4= .ptr h.next 0 0/\S 5= .ptr (h.next+1) 0 0/\F4 h id (b||!a1) (.mk xk xv xl xc xt xs) H) ⟨sq A5,sq A5,sq A5,sq A5,?_⟩ ?_
 ·refine ⟨?_,by simp only[A1.set,A1.new];omega,?_,?_⟩
  ·exact ((((CQ.refl ho).new hid).put).new hid).set hid (by omega)
  ·simp only[A1.set,A1.new];repeat(first|rw[A8 (by omega)]|rw[AK A5])
  ·simp only[A1.set,A1.new,Sx.cells];repeat(first|rw[A8 (by omega)]|rw[AK A5])
 clear c0;rintro S H ⟨s0,s3,s4,s5,hI⟩;refine DB (λS H=>S 0= .ptr id 0 0/\S 3= .Ag [.sc (.int .i64 kind),.A2 2 (A9 params),A4 gop,A4 gna,.A2 1 (AN gar),.A2 2 (A9 gpa),.A2 5 (Ex.rows gex),.A2 6 (Fm.rows gki),A4 name,.A2 1 (AN args),A4 eop,A4 ena,.sc (.int .i64 en),.A2 1 (AN ear),.A2 5 (Ex.rows eki)]/\S 4= .ptr h.next 0 0/\S 5= .ptr (h.next+1) 0 0/\ ∃ b1,F4 h id b1 R0 H/\b1=(b||!(a1&&kB))) ?_ ?_
 ·clear hX1 hX2 hF hSame hWF hWP;have stepK: ∀ b1:Bool,b1=((b||!a1)||!kB)->b1=(b||!(a1&&kB)):=λb1 e=>by
   rw[e];cases b<;>cases a1<;>cases kB<;>rfl
  generalize(b||!a1)=b0 at hI stepK;have hnx:=hI.nx;cases k12:(kind==1||kind==2)with
  |true=>
   have hKv:kB=vs:=(by rw[hK0,k12,AC]);subst hKv;clear hK0;cases k1:(kind==1)with
   |true=>
    have k2:(kind==2)=false:=(by have:=eq_of_beq k1;subst this;rfl);rw[k1,AC]at hX0;subst hX0;have hno:=hI.grow.at_;cases b0 with
    |true=>
     replace zz:=Ah s0 s3 s4 s5 k1 k2 hno;refine wt zz ?_;first
      |exact⟨true,hI.put hid,stepK _ (by simp)⟩
      |exact⟨sq s0,sq s3,sq s4,sq s5,true,hI.put hid,stepK _ (by simp)⟩
    |false=>
     replace zz:=Ah s0 s3 s4 s5 k1 k2 hno;refine wt zz ?_;replace zz:=Ak s0 s3 s4 s5 hno;refine uU zz (hvs _) ?_;replace zz:=Ah s0 s3 s4 s5 k1 k2 hno;refine wt zz ?_;first
      |exact⟨_,hI.put hid,stepK _ (by simp)⟩
      |exact⟨sq s0,sq s3,sq s4,sq s5,_,hI.put hid,stepK _ (by simp)⟩
   |false=>
    have k2:(kind==2)=true:=(by rw[k1,HZ]at k12;exact k12);rw[k1,k2,AL,AC]at hX0;subst hX0;have hl2:=λh:A1=>Jd [A7 DR,.mk xk xv xl xc xt xs] h;simp only[A7,DR,AE,Sx.cells,Sx.rows]at hl2;replace zz:=Al s0 s3 s4 s5 k1 k2;refine xB 6 zz ?_;refine⟨?_⟩;refine Mn (λS H=>S 0= .ptr id 0 0/\S 3= .Ag [.sc (.int .i64 kind),.A2 2 (A9 params),A4 gop,A4 gna,.A2 1 (AN gar),.A2 2 (A9 gpa),.A2 5 (Ex.rows gex),.A2 6 (Fm.rows gki),A4 name,.A2 1 (AN args),A4 eop,A4 ena,.sc (.int .i64 en),.A2 1 (AN ear),.A2 5 (Ex.rows eki)]/\S 4= .ptr h.next 0 0/\S 5= .ptr (h.next+1) 0 0/\ ∃ b1,F4 h id b1 (.mk xk xv xl xc xt xs) H/\b1=(b0||!kB)) ?_ ?_
    ·have hno:=hI.grow.at_;cases b0 with
     |true=>
      replace zz:=Ah s0 s3 s4 s5 k1 k2 hno;refine wt zz ?_;first
       |exact⟨true,hI.put hid,by simp⟩
       |exact⟨sq s0,sq s3,sq s4,sq s5,true,hI.put hid,by simp⟩
     |false=>
      replace zz:=Ah s0 s3 s4 s5 k1 k2 hno;refine wt zz ?_;replace zz:=Ak s0 s3 s4 s5 hno;refine uU zz (hvs _) ?_;replace zz:=Ah s0 s3 s4 s5 k1 k2 hno;refine wt zz ?_;first
       |exact⟨_,hI.put hid,by simp⟩
       |exact⟨sq s0,sq s3,sq s4,sq s5,_,hI.put hid,by simp⟩
    ·clear s0 s3 s4 s5 hI hnx hvs;rintro S H ⟨s0,s3,s4,s5,b1,hI,hb1⟩;(first|refine hK _ _ ?_|refine cK ?_);(try clear hK);have hat:=hI.at_;simp only[Sx.cells]at hat;replace zz:=Ah s0 s3 s4 s5 k1 k2 hat;refine wy zz ?_;replace zz:=Ak s0 s3 s4 s5 hat;(first|refine uV zz (hw _ _) ?_|refine uA zz (hw _ _) ?_);refine wy zz ?_;replace zz:=Ak s0 s3 s4 s5 hat;(first|refine uV zz (hl2 _) ?_|refine uA zz (hl2 _) ?_);refine wy zz ?_;first
      |exact⟨b1,hI.upd hid,stepK _ hb1⟩
      |exact⟨sq s0,sq s3,sq s4,sq s5,b1,hI.upd hid,stepK _ hb1⟩
  |false=>
   have k1:(kind==1)=false:=(by revert k12;cases(kind==1)<;>simp);have k2:(kind==2)=false:=(by revert k12;cases(kind==2)<;>simp);rw[k1,k2,AL,AL]at hX0;rw[k12,AL]at hK0;clear hvs k12;cases k345:(kind==3||kind==4||kind==5)with
   |false=>
    have k3:(kind==3)=false:=(by revert k345;cases(kind==3)<;>simp);have k4:(kind==4)=false:=(by revert k345;cases(kind==4)<;>simp);have k5:(kind==5)=false:=(by revert k345;cases(kind==5)<;>simp);rw[k345,AL]at hX0 hK0;subst hX0 hK0;have hno:=hI.grow.at_;replace zz:=B9 s0 s3 s4 s5 k1 k2 k3 k4 k5 hno;refine wt zz ?_;first
     |exact⟨true,hI.put hid,stepK _ (by simp)⟩
     |exact⟨sq s0,sq s3,sq s4,sq s5,true,hI.put hid,stepK _ (by simp)⟩
   |true=>
    rw[k345,AC]at hX0 hK0;subst hX0 hK0;obtain⟨ev,hev⟩: ∃ ev,ev=(if kB=true then PV.sc .nilIface else Ao 2):=⟨_,rfl⟩;rw[← hev]at hWE;have hk:kind=3\/kind=4\/kind=5:=(by simpa[or_assoc]using k345);clear k345 k1 k2;obtain⟨ek,ea,el,ec,et,es⟩:=eX;simp only[Sx.cells]at hWE;rcases hk with rfl|rfl|rfl
    ·have k1:((3:Int)==1)=false:=rfl;have k2:((3:Int)==2)=false:=rfl;have k3:((3:Int)==3)=true:=rfl;have k4:((3:Int)==4)=false:=rfl;have k5:((3:Int)==5)=false:=rfl;have kw:Jb 3=JY:=rfl;have wi:IntKind.i64.wrap ((3:Int)-3)=0:=rfl;have wj:IntKind.i64.wrap 0=0:=rfl;have hl3:=λh:A1=>Jd [A7 JY,.mk xk xv xl xc xt xs,.mk ek ea el ec et es] h;simp only[A7,JY,AE,Sx.cells,Sx.rows]at hl3;replace zz:=BO s0 s3 s4 s5 k1 k2 k3 k4 k5;refine wt zz ?_;replace zz:=Aa s0 s3 s4 s5;refine uU zz (hWE _) ?_;replace zz:=Ak s0 s3 s4 s5 @B1;refine xB 13 zz ?_;refine⟨?_⟩;refine Cq (λS H2=>S 0= .ptr id 0 0/\S 3= .Ag [.sc (.int .i64 3),.A2 2 (A9 params),A4 gop,A4 gna,.A2 1 (AN gar),.A2 2 (A9 gpa),.A2 5 (Ex.rows gex),.A2 6 (Fm.rows gki),A4 name,.A2 1 (AN args),A4 eop,A4 ena,.sc (.int .i64 en),.A2 1 (AN ear),.A2 5 (Ex.rows eki)]/\S 4= .ptr h.next 0 0/\S 5= .ptr (h.next+1) 0 0/\S 6= .ptr H.next 0 0/\S 7=ev/\F4 h id b0 (.mk xk xv xl xc xt xs) H2/\H2.obj H.next=some (.arr 6 [[.sc (.int .i64 ek),.sc (.int .i64 ea),.sc (.int .i64 el),.sc (.int .i64 ec),A4 et,.A2 6 (Sx.rows es)]])) ⟨sq s0,sq s3,sq s4,sq s5,sq A5,sq A5,(hI.new hid).hi hid hnx,by simp only[A1.set,AO]⟩ ?_;obtain⟨j,hj⟩: ∃ j,j=H.next:=⟨_,rfl⟩
     rw[← hj]at hnx;clear s0 s3 s4 s5 hI hWE;rw[← hj];clear hj;rintro S H2 ⟨s0,s3,s4,s5,s6,s7,hI,hej⟩;refine Mn (λS H2=>S 0= .ptr id 0 0/\S 3= .Ag [.sc (.int .i64 3),.A2 2 (A9 params),A4 gop,A4 gna,.A2 1 (AN gar),.A2 2 (A9 gpa),.A2 5 (Ex.rows gex),.A2 6 (Fm.rows gki),A4 name,.A2 1 (AN args),A4 eop,A4 ena,.sc (.int .i64 en),.A2 1 (AN ear),.A2 5 (Ex.rows eki)]/\S 4= .ptr h.next 0 0/\S 5= .ptr (h.next+1) 0 0/\S 6= .ptr j 0 0/\H2.obj j=some (.arr 6 [[.sc (.int .i64 ek),.sc (.int .i64 ea),.sc (.int .i64 el),.sc (.int .i64 ec),A4 et,.A2 6 (Sx.rows es)]])/\ ∃ b1,F4 h id b1 (.mk xk xv xl xc xt xs) H2/\b1=(b0||!kB)) ?_ ?_
     ·have hno:=hI.grow.at_;have hej2: ∀ b1,(H2.set id (wO b1)).obj j=some (.arr 6 [[.sc (.int .i64 ek),.sc (.int .i64 ea),.sc (.int .i64 el),.sc (.int .i64 ec),A4 et,.A2 6 (Sx.rows es)]]):=λb1=>by
       simp only[A1.set];rw[A8 (by omega)];exact hej
      cases b0 with
      |true=>
       replace zz:=Ah s0 s3 s4 s5 s6 s7 hno;refine wt zz ?_;first
        |exact⟨hej2 _,true,hI.put hid,by simp⟩
        |exact⟨sq s0,sq s3,sq s4,sq s5,sq s6,hej2 _,true,hI.put hid,by simp⟩
      |false=>
       cases kB with
       |true=>
        simp only[AO]at hev;subst hev;replace zz:=Ah s0 s3 s4 s5 s6 s7 hno;refine wt zz ?_;exact⟨hej2 _,_,hI.put hid,by simp⟩
       |false=>
        simp only[BR,AQ,Ao]at hev;subst hev;replace zz:=Ah s0 s3 s4 s5 s6 s7 hno;refine wt zz ?_;exact⟨hej2 _,_,hI.put hid,by simp⟩
     ·clear s0 s3 s4 s5 s6 s7 hI hej;rintro S H3 ⟨s0,s3,s4,s5,s6,hej,b1,hI,hb1⟩;(first|refine hK _ _ ?_|refine cK ?_);(try clear hK);have hat:=hI.at_;simp only[Sx.cells]at hat;replace zz:=BO s0 s3 s4 s5 s6 hat hej wi wj;refine wy zz ?_;replace zz:=Ah s0 s3 s4 s5 s6 hat hej;(first|refine uV zz (hw _ _) ?_|refine uA zz (hw _ _) ?_);refine wy zz ?_;replace zz:=Ah s0 s3 s4 s5 s6 hat hej;(first|refine uV zz (hl3 _) ?_|refine uA zz (hl3 _) ?_);refine wy zz ?_;first
       |exact⟨b1,hI.upd hid,stepK _ hb1⟩
       |exact⟨sq s0,sq s3,sq s4,sq s5,b1,hI.upd hid,stepK _ hb1⟩
    ·have k1:((4:Int)==1)=false:=rfl;have k2:((4:Int)==2)=false:=rfl;have k3:((4:Int)==3)=false:=rfl;have k4:((4:Int)==4)=true:=rfl;have k5:((4:Int)==5)=false:=rfl;have kw:Jb 4=JZ:=rfl;have wi:IntKind.i64.wrap ((4:Int)-3)=1:=rfl;have wj:IntKind.i64.wrap 1=1:=rfl;have hl3:=λh:A1=>Jd [A7 JZ,.mk xk xv xl xc xt xs,.mk ek ea el ec et es] h;simp only[A7,JZ,AE,Sx.cells,Sx.rows]at hl3;replace zz:=BO s0 s3 s4 s5 k1 k2 k3 k4 k5;refine wt zz ?_;replace zz:=Aa s0 s3 s4 s5;refine uU zz (hWE _) ?_;replace zz:=Ak s0 s3 s4 s5 @B1;refine xB 13 zz ?_;refine⟨?_⟩;refine Cq (λS H2=>S 0= .ptr id 0 0/\S 3= .Ag [.sc (.int .i64 4),.A2 2 (A9 params),A4 gop,A4 gna,.A2 1 (AN gar),.A2 2 (A9 gpa),.A2 5 (Ex.rows gex),.A2 6 (Fm.rows gki),A4 name,.A2 1 (AN args),A4 eop,A4 ena,.sc (.int .i64 en),.A2 1 (AN ear),.A2 5 (Ex.rows eki)]/\S 4= .ptr h.next 0 0/\S 5= .ptr (h.next+1) 0 0/\S 6= .ptr H.next 0 0/\S 7=ev/\F4 h id b0 (.mk xk xv xl xc xt xs) H2/\H2.obj H.next=some (.arr 6 [[.sc (.int .i64 ek),.sc (.int .i64 ea),.sc (.int .i64 el),.sc (.int .i64 ec),A4 et,.A2 6 (Sx.rows es)]])) ⟨sq s0,sq s3,sq s4,sq s5,sq A5,sq A5,(hI.new hid).hi hid hnx,by simp only[A1.set,AO]⟩ ?_;obtain⟨j,hj⟩: ∃ j,j=H.next:=⟨_,rfl⟩
     rw[← hj]at hnx;clear s0 s3 s4 s5 hI hWE;rw[← hj];clear hj;rintro S H2 ⟨s0,s3,s4,s5,s6,s7,hI,hej⟩;refine Mn (λS H2=>S 0= .ptr id 0 0/\S 3= .Ag [.sc (.int .i64 4),.A2 2 (A9 params),A4 gop,A4 gna,.A2 1 (AN gar),.A2 2 (A9 gpa),.A2 5 (Ex.rows gex),.A2 6 (Fm.rows gki),A4 name,.A2 1 (AN args),A4 eop,A4 ena,.sc (.int .i64 en),.A2 1 (AN ear),.A2 5 (Ex.rows eki)]/\S 4= .ptr h.next 0 0/\S 5= .ptr (h.next+1) 0 0/\S 6= .ptr j 0 0/\H2.obj j=some (.arr 6 [[.sc (.int .i64 ek),.sc (.int .i64 ea),.sc (.int .i64 el),.sc (.int .i64 ec),A4 et,.A2 6 (Sx.rows es)]])/\ ∃ b1,F4 h id b1 (.mk xk xv xl xc xt xs) H2/\b1=(b0||!kB)) ?_ ?_
     ·have hno:=hI.grow.at_;have hej2: ∀ b1,(H2.set id (wO b1)).obj j=some (.arr 6 [[.sc (.int .i64 ek),.sc (.int .i64 ea),.sc (.int .i64 el),.sc (.int .i64 ec),A4 et,.A2 6 (Sx.rows es)]]):=λb1=>by
       simp only[A1.set];rw[A8 (by omega)];exact hej
      cases b0 with
      |true=>
       replace zz:=Ah s0 s3 s4 s5 s6 s7 hno;refine wt zz ?_;first
        |exact⟨hej2 _,true,hI.put hid,by simp⟩
        |exact⟨sq s0,sq s3,sq s4,sq s5,sq s6,hej2 _,true,hI.put hid,by simp⟩
      |false=>
       cases kB with
       |true=>
        simp only[AO]at hev;subst hev;replace zz:=Ah s0 s3 s4 s5 s6 s7 hno;refine wt zz ?_;exact⟨hej2 _,_,hI.put hid,by simp⟩
       |false=>
        simp only[BR,AQ,Ao]at hev;subst hev;replace zz:=Ah s0 s3 s4 s5 s6 s7 hno;refine wt zz ?_;exact⟨hej2 _,_,hI.put hid,by simp⟩
     ·clear s0 s3 s4 s5 s6 s7 hI hej;rintro S H3 ⟨s0,s3,s4,s5,s6,hej,b1,hI,hb1⟩;(first|refine hK _ _ ?_|refine cK ?_);(try clear hK);have hat:=hI.at_;simp only[Sx.cells]at hat;replace zz:=BO s0 s3 s4 s5 s6 hat hej wi wj;refine wy zz ?_;replace zz:=Ah s0 s3 s4 s5 s6 hat hej;(first|refine uV zz (hw _ _) ?_|refine uA zz (hw _ _) ?_);refine wy zz ?_;replace zz:=Ah s0 s3 s4 s5 s6 hat hej;(first|refine uV zz (hl3 _) ?_|refine uA zz (hl3 _) ?_);refine wy zz ?_;first
       |exact⟨b1,hI.upd hid,stepK _ hb1⟩
       |exact⟨sq s0,sq s3,sq s4,sq s5,b1,hI.upd hid,stepK _ hb1⟩
    ·have k1:((5:Int)==1)=false:=rfl;have k2:((5:Int)==2)=false:=rfl;have k3:((5:Int)==3)=false:=rfl;have k4:((5:Int)==4)=false:=rfl;have k5:((5:Int)==5)=true:=rfl;have kw:Jb 5=Ja:=rfl;have wi:IntKind.i64.wrap ((5:Int)-3)=2:=rfl;have wj:IntKind.i64.wrap 2=2:=rfl;have hl3:=λh:A1=>Jd [A7 Ja,.mk xk xv xl xc xt xs,.mk ek ea el ec et es] h;simp only[A7,Ja,AE,Sx.cells,Sx.rows]at hl3;replace zz:=BO s0 s3 s4 s5 k1 k2 k3 k4 k5;refine wt zz ?_;replace zz:=Aa s0 s3 s4 s5;refine uU zz (hWE _) ?_;replace zz:=Ak s0 s3 s4 s5 @B1;refine xB 13 zz ?_;refine⟨?_⟩;refine Cq (λS H2=>S 0= .ptr id 0 0/\S 3= .Ag [.sc (.int .i64 5),.A2 2 (A9 params),A4 gop,A4 gna,.A2 1 (AN gar),.A2 2 (A9 gpa),.A2 5 (Ex.rows gex),.A2 6 (Fm.rows gki),A4 name,.A2 1 (AN args),A4 eop,A4 ena,.sc (.int .i64 en),.A2 1 (AN ear),.A2 5 (Ex.rows eki)]/\S 4= .ptr h.next 0 0/\S 5= .ptr (h.next+1) 0 0/\S 6= .ptr H.next 0 0/\S 7=ev/\F4 h id b0 (.mk xk xv xl xc xt xs) H2/\H2.obj H.next=some (.arr 6 [[.sc (.int .i64 ek),.sc (.int .i64 ea),.sc (.int .i64 el),.sc (.int .i64 ec),A4 et,.A2 6 (Sx.rows es)]])) ⟨sq s0,sq s3,sq s4,sq s5,sq A5,sq A5,(hI.new hid).hi hid hnx,by simp only[A1.set,AO]⟩ ?_;obtain⟨j,hj⟩: ∃ j,j=H.next:=⟨_,rfl⟩
     rw[← hj]at hnx;clear s0 s3 s4 s5 hI hWE;rw[← hj];clear hj;rintro S H2 ⟨s0,s3,s4,s5,s6,s7,hI,hej⟩;refine Mn (λS H2=>S 0= .ptr id 0 0/\S 3= .Ag [.sc (.int .i64 5),.A2 2 (A9 params),A4 gop,A4 gna,.A2 1 (AN gar),.A2 2 (A9 gpa),.A2 5 (Ex.rows gex),.A2 6 (Fm.rows gki),A4 name,.A2 1 (AN args),A4 eop,A4 ena,.sc (.int .i64 en),.A2 1 (AN ear),.A2 5 (Ex.rows eki)]/\S 4= .ptr h.next 0 0/\S 5= .ptr (h.next+1) 0 0/\S 6= .ptr j 0 0/\H2.obj j=some (.arr 6 [[.sc (.int .i64 ek),.sc (.int .i64 ea),.sc (.int .i64 el),.sc (.int .i64 ec),A4 et,.A2 6 (Sx.rows es)]])/\ ∃ b1,F4 h id b1 (.mk xk xv xl xc xt xs) H2/\b1=(b0||!kB)) ?_ ?_
     ·have hno:=hI.grow.at_;have hej2: ∀ b1,(H2.set id (wO b1)).obj j=some (.arr 6 [[.sc (.int .i64 ek),.sc (.int .i64 ea),.sc (.int .i64 el),.sc (.int .i64 ec),A4 et,.A2 6 (Sx.rows es)]]):=λb1=>by
       simp only[A1.set];rw[A8 (by omega)];exact hej
      cases b0 with
      |true=>
       replace zz:=Ah s0 s3 s4 s5 s6 s7 hno;refine wt zz ?_;first
        |exact⟨hej2 _,true,hI.put hid,by simp⟩
        |exact⟨sq s0,sq s3,sq s4,sq s5,sq s6,hej2 _,true,hI.put hid,by simp⟩
      |false=>
       cases kB with
       |true=>
        simp only[AO]at hev;subst hev;replace zz:=Ah s0 s3 s4 s5 s6 s7 hno;refine wt zz ?_;exact⟨hej2 _,_,hI.put hid,by simp⟩
       |false=>
        simp only[BR,AQ,Ao]at hev;subst hev;replace zz:=Ah s0 s3 s4 s5 s6 s7 hno;refine wt zz ?_;exact⟨hej2 _,_,hI.put hid,by simp⟩
     ·clear s0 s3 s4 s5 s6 s7 hI hej;rintro S H3 ⟨s0,s3,s4,s5,s6,hej,b1,hI,hb1⟩;(first|refine hK _ _ ?_|refine cK ?_);(try clear hK);have hat:=hI.at_;simp only[Sx.cells]at hat;replace zz:=BO s0 s3 s4 s5 s6 hat hej wi wj;refine wy zz ?_;replace zz:=Ah s0 s3 s4 s5 s6 hat hej;(first|refine uV zz (hw _ _) ?_|refine uA zz (hw _ _) ?_);refine wy zz ?_;replace zz:=Ah s0 s3 s4 s5 s6 hat hej;(first|refine uV zz (hl3 _) ?_|refine uA zz (hl3 _) ?_);refine wy zz ?_;first
       |exact⟨b1,hI.upd hid,stepK _ hb1⟩
       |exact⟨sq s0,sq s3,sq s4,sq s5,b1,hI.upd hid,stepK _ hb1⟩
 ·clear hvs hWE hX0 hK0 hI s0 s3 s4 s5;rintro S H ⟨s0,s3,s4,s5,b1,hI,hb1⟩;refine DB (λS H=>S 0= .ptr id 0 0/\S 3= .Ag [.sc (.int .i64 kind),.A2 2 (A9 params),A4 gop,A4 gna,.A2 1 (AN gar),.A2 2 (A9 gpa),.A2 5 (Ex.rows gex),.A2 6 (Fm.rows gki),A4 name,.A2 1 (AN args),A4 eop,A4 ena,.sc (.int .i64 en),.A2 1 (AN ear),.A2 5 (Ex.rows eki)]/\S 4= .ptr h.next 0 0/\S 5= .ptr (h.next+1) 0 0/\ ∃ b2,F4 h id b2 R1 H/\b2=(b1||!(al||vf))) ?_ ?_
  ·have hda:=λh:A1=>LD (h:=h);simp only[Bw,Bo,Fm.cells]at hda hSame;replace zz:=Aa s0 s3 s4 s5;refine wy zz ?_;replace zz:=Aa s0 s3 s4 s5;(first|refine uV zz (hda _) ?_|refine uA zz (hda _) ?_);refine wy zz ?_;replace zz:=Aa s0 s3 s4 s5;(first|refine uV zz (hSame _) ?_|refine uA zz (hSame _) ?_);cases al with
   |true=>
    rw[AC]at hX1;subst hX1;replace zz:=Ak s0 s3 s4 s5 yT;refine wy zz ?_;first
     |exact⟨b1,hI,by simp⟩
     |exact⟨sq s0,sq s3,sq s4,sq s5,b1,hI,by simp⟩
   |false=>
    rw[AL]at hX1;subst hX1;obtain⟨rk,rv,rl,rc,rt,rs⟩:=R0;obtain⟨fk,fv,fl,fc,ft,fs⟩:=fX;simp only[Sx.cells]at hWF;have hl3:=λh:A1=>Jd [A7 HR,.mk fk fv fl fc ft fs,.mk rk rv rl rc rt rs] h;simp only[A7,HR,AE,Sx.cells,Sx.rows]at hl3;have hat:=hI.at_;simp only[Sx.cells]at hat;have hno:=hI.grow.at_;have hnx:=hI.nx;have d1:(h.next+1=id)=False:=BB (by omega);replace zz:=Al s0 s3 s4 s5 yF hat;refine wy zz ?_;replace zz:=Ak s0 s3 s4 s5 hat;(first|refine uV zz (hw _ _) ?_|refine uA zz (hw _ _) ?_);refine wy zz ?_;refine Lk (hWF H b1 (by omega) hno) (sr (Aa s0 s3 s4 s5)) (by
     try simp only[Ty.w,simprocAttr,Df,List.map_cons,List.map_nil,List.forall_mem_cons]
     (repeat' apply And.intro)<;>first
      |trivial
      |exact .inl (by decide+kernel)
      |exact .inr (CW (hw _ _) (sr A5))) ?_
    simp only[Ty.w,simprocAttr,Ty.AW,B8,s0,s3,s4,s5,hat,d1];replace zz:=Al s0 s3 s4 s5 hat d1;refine wy zz ?_;refine Ip (hl3 _) (sr (Al s0 s3 s4 s5 hat d1)) (by first|exact .inl (by decide+kernel)|exact⟨.inl (by decide+kernel),trivial⟩|(simp only[List.forall_mem_cons];exact⟨.inl (by decide+kernel),λ_ hx=>by cases hx⟩)) ?_;simp only[Ty.w,simprocAttr,Ty.AW,B8,s0,s3,s4,s5,hat,d1];replace zz:=Al s0 s3 s4 s5 hat d1;refine wy zz ?_;first
     |exact⟨b1||!vf,(hI.put hid).upd hid,by simp⟩
     |exact⟨sq s0,sq s3,sq s4,sq s5,b1||!vf,(hI.put hid).upd hid,by simp⟩
  ·clear hSame hWF hX1 hI s0 s3 s4 s5;rintro S H ⟨s0,s3,s4,s5,b2,hI,hb2⟩;have hfin:(b2||!pb)=F:=by
    rw[hb2,hb1, ← hF];cases b<;>cases a1<;>cases kB<;>cases al<;>cases vf<;>cases pb<;>rfl
   clear hb1 hb2 hF;have hat:=hI.at_;have hno:=hI.grow.at_;have hnx:=hI.nx;have hrs:=hI.res;have d1:(h.next+1=id)=False:=BB (by omega);have d2:(h.next+1=h.next)=False:=BB (by omega);have d3:(h.next=h.next+1)=False:=BB (by omega);have d4:(h.next=id)=False:=BB (by omega);have D9: ∀ (X:Sx)(H:A1),F4 h id F X H->AJ h.next (H.set h.next (.arr 6 [X.cells])) (.agg X.cells) (.agg X.cells)/\CQ h id (wO F) (H.set h.next (.arr 6 [X.cells])):=λX H i=>⟨by
    simp only[AJ];exact⟨_,rfl,FC _ _ _⟩,i.grow.set hid (AG _)⟩
   obtain⟨rk,rv,rl,rc,rt,rs⟩:=R1;simp only[Sx.cells]at hat;cases hpn:decide ((params.length:Int)>0)with
   |false=>
    have e0:params.isEmpty=true:=by
     have h0:params.length=0:=(by have:=TM hpn;omega);rw[hpe,h0];try rfl
    have hpb:pb=true:=hpb0 e0;rw[e0,AC]at hX2;subst hX2;rw[hpb,Av,Gq]at hfin;subst hfin;have hf:=D9 _ _ hI;simp only[Sx.cells]at hf;replace zz:=BO s0 s3 s4 s5 hpl hpn hat hrs d2;refine wt zz ?_;exact hf
   |true=>
    have e0:params.isEmpty=false:=by
     have h0:¬ params.length=0:=(by have:=KS hpn;omega);rw[hpe];exact Qh h0
    rw[e0,AL]at hX2;subst hX2;have hl2:=λh:A1=>Jd pw h;have hl3:=λh:A1=>Jd [A7 DV,AE pw,.mk rk rv rl rc rt rs] h;simp only[A7,DV,AE,Sx.cells,Sx.rows]at hl2 hl3;have hf:=λi=>D9 (AE [A7 DV,AE pw,.mk rk rv rl rc rt rs]) ((H.set id (wO F)).set (h.next+1) (.arr 6 [(AE [A7 DV,AE pw,.mk rk rv rl rc rt rs]).cells])) i;have hf:=hf ((hI.put hid).upd hid);simp only[A7,DV,AE,Sx.cells,Sx.rows]at hf;replace zz:=Ah s0 s3 s4 s5 hpl hpn hat;refine wy zz ?_;replace zz:=Ak s0 s3 s4 s5 hat;(first|refine uV zz (hw _ _) ?_|refine uA zz (hw _ _) ?_);refine wy zz ?_;refine Lk (hWP H b2 (by omega) hno) (sr (Aa s0 s3 s4 s5)) (by
     try simp only[Ty.w,simprocAttr,Df,List.map_cons,List.map_nil,List.forall_mem_cons]
     (repeat' apply And.intro)<;>first
      |trivial
      |exact .inl (by decide+kernel)
      |exact .inr (CW (hw _ _) (sr A5))) ?_
    simp only[Ty.w,simprocAttr,Ty.AW,B8,s0,s3,s4,s5,hat,d1];replace zz:=Al s0 s3 s4 s5 hat d1;refine wy zz ?_;refine Ip (hl2 _) (sr (Al s0 s3 s4 s5 hat d1)) (by first|exact .inl (by decide+kernel)|exact⟨.inl (by decide+kernel),trivial⟩|(simp only[List.forall_mem_cons];exact⟨.inl (by decide+kernel),λ_ hx=>by cases hx⟩)) ?_;simp only[Ty.w,simprocAttr,Ty.AW,B8,s0,s3,s4,s5,hat,d1];replace zz:=Al s0 s3 s4 s5 hat d1;refine wy zz ?_;refine Ip (hl3 _) (sr (Al s0 s3 s4 s5 hat d1)) (by first|exact .inl (by decide+kernel)|exact⟨.inl (by decide+kernel),trivial⟩|(simp only[List.forall_mem_cons];exact⟨.inl (by decide+kernel),λ_ hx=>by cases hx⟩)) ?_;simp only[Ty.w,simprocAttr,Ty.AW,B8,s0,s3,s4,s5,hat,d1];replace zz:=B9 s0 s3 s4 s5 hat d1 d2 d3 d4 hrs;refine wy zz ?_;rw[hfin];exact hf
end Go.Proofs.YtblgchkahpgdjaaGreat
