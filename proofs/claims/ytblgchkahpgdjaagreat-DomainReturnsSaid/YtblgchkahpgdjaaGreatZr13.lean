/- What the claim rests on, part 13: the abstract machine, contracts of the functions, plain data. -/
import Derived.Test.YtblgchkahpgdjaaGreatZr12
set_option linter.unusedVariables false
set_option linter.unusedSimpArgs false
set_option linter.unusedSectionVars false
namespace Go.Proofs.YtblgchkahpgdjaaGreat
open Go.AM Go.Proofs.Tryz
set_option maxHeartbeats 8000000
set_option maxRecDepth 20000
structure Iz(h:A0)(id:Nat)(b:Bool)(l:List Sx)(h':A0):Prop where
 grow:CI h id (wO b) h'
 ex: ∃ j,h.next+1+1<h'.next/\j≠h.next+1+1/\h.next<j/\j<h'.next/\
  h'.obj h.next=some (.arr 6 [BW])/\
  h'.obj (h.next+1+1)=some (.arr 6 [[.sc (.int .i64 3),.sc (.int .i64 0),.sc (.int .i64 0),.sc (.int .i64 0),.sc (.string ⟨#[]⟩),.own j 0 l.length]])/\
  h'.obj j=some (.arr 6 (Sx.rows l))
theorem Iz.put{h h':A0}{id:Nat}{b b2:Bool}{l:List Sx}(i:Iz h id b l h')(hid:id<h.next):Iz h id b2 l (h'.set id (wO b2)):=by
 obtain⟨hg,j,h1,h2,h3,h4,o1,o2,o3⟩:=i;refine⟨hg.put,j,h1,h2,h3,h4,?_,?_,?_⟩
 ·simp only[A0.set];rw[A4 (by omega)];exact o1
 ·simp only[A0.set];rw[A4 (by omega)];exact o2
 ·simp only[A0.set];rw[A4 (by omega)];exact o3
theorem Iz.newset{h h':A0}{id:Nat}{b:Bool}{l:List Sx}{o o2:Ab}(i:Iz h id b l h')(hid:id<h.next):Iz h id b l ((h'.new o).set h'.next o2):=by
 obtain⟨hg,j,h1,h2,h3,h4,p1,p2,p3⟩:=i;refine⟨(hg.new hid).set hid hg.le,j,by simp only[A0.new,A0.set];omega,h2,h3,by simp only[A0.new,A0.set];omega,?_,?_,?_⟩
 ·simp only[A0.set,A0.new];rw[A4 (by omega),A4 (by omega)];exact p1
 ·simp only[A0.set,A0.new];rw[A4 (by omega),A4 (by omega)];exact p2
 ·simp only[A0.set,A0.new];rw[A4 (by omega),A4 (by omega)];exact p3
theorem Iz.push{h h':A0}{id j:Nat}{b:Bool}{l:List Sx}{x:Sx}(hg:CI h id (wO b) h')(hid:id<h.next)(h1:h.next+1+1<h'.next)(h2:j≠h.next+1+1)(h3:h.next<j)(h4:j<h'.next)(o1:h'.obj h.next=some (.arr 6 [BW])):
  Iz h id b (l++[x]) (((h'.kill j).new (.arr 6 (Sx.rows l++[x.cells]))).set (h.next+1+1) (.arr 6 [[.sc (.int .i64 3),.sc (.int .i64 0),.sc (.int .i64 0),.sc (.int .i64 0),.sc (.string ⟨#[]⟩),.own h'.next 0 (l.length+1)]])):=by
 have e:Sx.rows (l++[x])=Sx.rows l++[x.cells]:=by rw[Sx.rows_map,Sx.rows_map];simp
 refine⟨((hg.kill hid (by omega)).new hid).set hid (by omega),h'.next,?_,?_,?_,?_,?_,?_,?_⟩
 ·simp only[A0.set,A0.new,A0.kill];omega
 ·omega
 ·omega
 ·simp only[A0.set,A0.new,A0.kill];omega
 ·have a1:¬ h.next=h.next+1+1:=by omega
  have a2:¬ h.next=h'.next:=by omega
  have a3:¬ h.next=j:=by omega
  simp only[A0.set,A0.new,A0.kill,a1,a2,a3,AP];exact o1
 ·simp only[A0.set,AH,DZ,Aw,Bw]
 ·have a1:¬ h'.next=h.next+1+1:=by omega
  simp only[A0.set,A0.new,A0.kill,a1,AP,AH,e]
theorem Q5{h:A0}{id:Nat}{b:Bool}{l:List Ch}(hl:l.length<=1048576)(hok: ∀ c∈l,c.ok)(hsm: ∀ c∈l,Fq c)(hid:id<h.next)(ho:h.obj id=some (wO b)):
  A6 prog 51 [.ptr id 0 0,.imm 15 (Al l)] h λr h'=>r= .agg (CJ l).cells/\h'=h.set id (wO (b||!(l.all C2))):=by
 refine A6.frzX Ty.RJ ho (Kr _ _) ?_;have hll:=Md l;have hw: ∀ (s:ByteArray)(h:A0),A6 prog 40 [A2 s] h λr h'=>r= .agg (AA s).cells/\h'=h:=λs h=>K1;simp only[AA,Sx.cells,Sx.rows]at hw;have hE:CJ l=(bif l.isEmpty then AK []else AK (AA Bc::l.map El)):=rfl;cases q0:((l.length:Int)==0)with
 |true=>
  have e0:l=[]:=by have:=eq_of_beq q0;exact J6.1 (by omega)
  rw[hE,e0];simp only[List.isEmpty_nil,AB,MM,Ap,GU];subst e0;have hl0:=λh:A0=>K3 (h:=h) (p:= .sc (.slice none 0 0)) rfl (λ_=>by simp only[AF]);refine AE func51 ntmps51 results51 Ty.RJ ?_;repeat'(first|refine Ae λK hK=>?_|refine uR (uu hll q0) ?_|(refine uN hK ?_;clear hK)|apply zI)
  refine uU A3 (hl0 _) ?_;repeat'(first|refine uT A3 ?_|(refine uN hK ?_;clear hK)|apply zI)
  refine⟨?_,((CI.refl ho).new hid).set hid (AD _)⟩;simp only[AK,Sx.cells,Sx.rows,AF,AL];exact⟨_,rfl,rfl,rfl,rfl,rfl,rfl,.inr (.inl ⟨rfl,.inr rfl⟩),trivial⟩
 |false=>
  have e0:l.isEmpty=false:=by cases l with
   |nil=>simp at q0
   |cons=>rfl
  rw[hE,e0,AI]
  clear hE e0;generalize hF:(b||!(l.all C2))=F;refine uG (ow:=λt=>t==13) (wf:=λf=>f==107||f==41||f==43||f==100||f==51) func51 ntmps51 results51 Ty.RJ ?_;replace zz:=uu hll q0;repeat'(first|refine Ae λK hK=>?_|refine uR zz ?_|refine uK ?_|refine Bo zz ?_|(refine uN hK ?_;clear hK)|apply zI)
  refine uU A3 (hw Bc _) ?_;try apply zI
  refine uU A3 (K3 (p:= .own (h.next+1) 0 1) rfl (λ_=>KZ (by simp[A0.new]))) ?_;repeat'(first|refine Ae λK hK=>?_|refine Ca ?_|refine uR hll ?_|(refine uN hK ?_;clear hK)|apply zI)
  refine Cd (λm S h'=>S 0= .ptr id 0 0/\S 4= .ptr h.next 0 0/\S 5= .ptr (h.next+1+1) 0 0/\S 15= .imm 15 (Al l)/\S 16= .sc (.int .i64 l.length)/\ ∃ (k:Nat)(b':Bool),S 17= .sc (.int .i64 k)/\k<=l.length/\m=l.length-k/\Iz h id b' (AA Bc::(l.take k).map El) h'/\F=(b'||!((l.drop k).all C2))) l.length ?_ ?_
  ·simp only[Ty.w,simprocAttr];refine⟨0,b,rfl,by omega,rfl,⟨?_,h.next+1,by simp[A0.new,A0.set],by omega,by omega,by simp[A0.new,A0.set],?_,?_,?_⟩,by rw[CB];exact hF.symm⟩
   ·exact ((((CI.refl ho).new hid).new hid).new hid).set hid (by omega)
   ·simp only[A0.new,A0.set];repeat(first|rw[A4 (by omega)]|rw[AG A3])
   ·simp only[A0.new,A0.set];(repeat(first|rw[A4 (by omega)]|rw[AG A3]));try rfl
   ·simp only[A0.new,A0.set];(repeat(first|rw[A4 (by omega)]|rw[AG A3]));simp[AA,Sx.rows,Sx.cells]
  ·clear hF;rintro m S h' ⟨g0,g4,g5,g15,g16,k,b',g17,hk,rfl,hI,hinv⟩;by_cases hlt:k<l.length
   ·have hd:decide ((k:Int)<(l.length:Int))=true:=(by simp;omega);have w7:IntKind.i64.wrap ((k:Int)+1)=k+1:=(by rw[Br (by omega) (by omega)]);obtain⟨c,hx⟩: ∃ c,l[k]? =some c:=⟨_,AU hlt⟩;have hr:=R9 hx;have hcc:=λ(H:A0)(b':Bool)(hid':id<H.next)(ho':H.obj id=some (wO b'))=>jD (h:=H) (b:=b') (hok c (C7 hx)) (hsm c (C7 hx)) hid' ho';rw[Cm hx,GX]at hinv;have htk:(l.take (k+1)).map El=(l.take k).map El++[El c]:=(by rw[Jc,hx];simp);generalize C2 c=q at hcc hinv;generalize El c=X at hcc htk;have hlen:(AA Bc::(l.take k).map El).length=k+1:=(by simp;omega);have hcon:AA Bc::(l.take (k+1)).map El=(AA Bc::(l.take k).map El)++[X]:=(by rw[htk];try rfl);generalize(AA Bc::(l.take k).map El)=L at hI hlen hcon;clear htk;obtain⟨kind,params,⟨gop,gna,gar,gpa,gex,gki⟩,name,args,⟨eop,ena,en,ear,eki⟩⟩:=c;simp only[Di,Fm.cells,Ex.cells,C3,Au]at hr hcc;obtain⟨xk,xv,xl,xc,xt,xs⟩:=X;simp only[Sx.cells]at hcc;replace zz:=BO g0 g4 g5 g15 g16 g17 hd hr;(repeat'(first|with_reducible refine Pn 7 ?_|refine Ae λK hK=>?_|refine uR zz ?_|refine uK ?_|refine Bo zz ?_|(refine uN hK ?_;clear hK)|apply zI));refine⟨?_⟩;refine Cj (λS H=>S 0= .ptr id 0 0/\S 4= .ptr h.next 0 0/\S 5= .ptr (h.next+1+1) 0 0/\S 15= .imm 15 (Al l)/\S 16= .sc (.int .i64 l.length)/\S 17= .sc (.int .i64 k)/\ ∃ j7,S 7= .ptr j7 0 0/\h.next+1+1<j7/\H.obj j7=some (.arr 15 [[.sc (.int .i64 kind),.imm 2 (A7 params),A2 gop,A2 gna,.imm 1 (AN gar),.imm 2 (A7 gpa),.imm 5 (Ex.rows gex),.imm 6 (Fm.rows gki),A2 name,.imm 1 (AN args),A2 eop,A2 ena,.sc (.int .i64 en),.imm 1 (AN ear),.imm 5 (Ex.rows eki)]])/\Iz h id b' L H) ?_ ?_
    ·obtain ⟨_,hlt2,_⟩:=hI.ex;exact⟨sq g0,sq g4,sq g5,sq g15,sq g16,sq g17,h'.next,sq A3,hlt2,by simp only[A0.set,AH],hI.newset hid⟩
    ·clear g0 g4 g5 g15 g16 g17 hI hd hr;rintro S H ⟨g0,g4,g5,g15,g16,g17,j7,g7,hj7,ho7,hI⟩;have stepF:(b'||!q)=(b'||!q)/\F=((b'||!q)||!((l.drop (k+1)).all C2)):=⟨rfl,by rw[hinv];cases b'<;>cases q<;>simp⟩;have hno:=hI.grow.at_;have hle:=hI.grow.le;obtain⟨hg,j,h1,h2,h3,h4,o1,o2,o3⟩:=hI;have d1:(h.next+1+1=id)=False:=B4 (by omega);have d2:(j=id)=False:=B4 (by omega);have d3:(h.next+1+1=j)=False:=B4 (by omega);have d4:(h.next+1+1=H.next)=False:=B4 (by omega);have hrl:(Sx.rows L).length=k+1:=(by rw[Sx.rows_len];exact hlen);have htk:List.take (k+1) (Sx.rows L)=Sx.rows L:=DQ (by omega);have hb:(k+1+1)*72<=140737488355328:=(by omega);rw[hlen]at o2;generalize hRe:Sx.rows L=R at o3 hrl htk;replace zz:=BK g0 g4 g5 g15 g16 g17 g7 ho7 o2;(repeat'(first|refine uE zz λK hK=>?_|apply zI));refine LY (hcc H b' (by omega) hno) (sr (BO g0 g4 g5 g15 g16 g17 g7 ho7)) (by
      try simp only[Ty.w,simprocAttr,Ty.AW,DR,BS,B5,Bg,g0,g4,g5,g7,ho7,o2,d1]
      (repeat' apply And.intro)<;>first
       |trivial
       |exact .inl (by decide+kernel)
       |exact .inr A3) ?_
     simp only[Ty.w,simprocAttr,Ty.AW,B6,g0,g4,g5,g15,g16,g17,g7,ho7,o2,o3,d1,d2];replace zz:=AY g0 g4 g5 g15 g16 g17 g7 o2 o3 d1 d2 (Aq d3 d4 hrl htk hb w7);(repeat'(first|refine uR zz ?_|(refine uN hK ?_;clear hK)|refine uB zz ?_|(rw[AG];rotate_left 1;omega;simp only[Ty.w,simprocAttr,g0,g4,g5,g15,g16,g17,g7,o2,o3,d1,d2,d3,d4,hrl,htk,hb,w7])|apply zI));have hp:=Iz.push (x:= .mk xk xv xl xc xt xs) (l:=L) ((hg.put (o2:=wO (b'||!q)))) hid h1 h2 h3 h4 (by simp only[A0.set];rw[A4 (by omega)];exact o1);rw[← hcon,hRe,hlen]at hp;exact⟨l.length-(k+1),by omega,k+1,b'||!q,by simp,by omega,rfl,hp,stepF.2⟩
   ·have hd:decide ((k:Int)<(l.length:Int))=false:=(by simp;omega);have hke:k=l.length:=(by omega);subst hke;obtain⟨hg,j,hn2,hne,hlo,hhi,o1,o2,o3⟩:=hI;rw[J7]at o2 o3;rw[ML,MM,Ap,GU]at hinv;subst hinv;have n1:(h.next+1+1=h.next)=False:=(by simp;omega);generalize hLe:AA Bc::l.map El=L at o2 o3;replace zz:=E7 g0 g4 g5 g15 g16 g17 hd o1 o2 o3 n1;(repeat'(first|refine Ae λK hK=>?_|refine uR zz ?_|refine uT zz ?_|refine uX ?_|refine Bo zz ?_|(refine uN hK ?_;clear hK)|(clear hK;refine uN hK ?_;clear hK)|apply zI));refine⟨?_,hg.set hid (AD _)⟩;rw[hLe];simp only[AK,Sx.cells,AF,AL];refine⟨_,rfl,rfl,rfl,rfl,rfl,rfl,.inr (.inr ⟨j,0,L.length,Sx.rows L,rfl,by omega,?_,?_,?_⟩),trivial⟩
    ·simp only[A0.set];rw[A4 (by omega)];exact o3
    ·rw [Sx.rows_len];omega
    ·rw [CB,DQ (by rw[Sx.rows_len];omega)];exact Jr _ _ _
theorem Q6{n:Nat}{h:A0}:AF n h (.agg IE.cells) (.agg BW):=by
 simp only[IE,Sx.cells,Sx.rows,AF,AL];exact⟨_,rfl,rfl,rfl,rfl,rfl,rfl,.inr (.inl ⟨rfl,.inr rfl⟩),trivial⟩
theorem jE{l:List Ch}(hl:l.length<=1048576)(hok: ∀ c∈l,c.ok)(hsm: ∀ c∈l,Fq c)(hX:(CJ l).ok)(h:A0):
  A6 prog 17 [.imm 15 (Al l)] h λr h'=>r=(if GK l then .tup [.agg (CJ l).cells,.sc .nilIface]else .tup [.agg IE.cells,Aj 2])/\h'=h:=by
 refine A6.frz Ty.PM ?_;have hc:=λ(H:A0)(hid:h.next+1<H.next)(ho:H.obj (h.next+1)=some (wO false))=>Q5 (h:=H) (b:=false) hl hok hsm hid ho;have hV:=λh:A0=>JI (x:=CJ l) hX h;have hW:GK l=(l.all C2&&(CL (CJ l) 0 0).1):=rfl;rw[hW];generalize(CL (CJ l) 0 0).1=v at hV⊢;generalize l.all C2=a at hc⊢;generalize CJ l=X at hc hV⊢;generalize Al l=R at hc⊢;obtain⟨xk,xv,xl,xc,xt,xs⟩:=X;simp only[Sx.cells]at hc hV⊢;have n1:(h.next=h.next+1)=False:=B4 (by omega);have n2:(h.next=h.next+1+1)=False:=B4 (by omega);have n3:(h.next+1=h.next+1+1)=False:=B4 (by omega);have n4:(h.next+1+1=h.next+1)=False:=B4 (by omega);have n5:(h.next+1+1=h.next)=False:=B4 (by omega);have n6:(h.next+1=h.next)=False:=B4 (by omega);cases a with
 |false=>
  refine uG (ow:=λt=>t==7) (wf:=λ_=>false) func17 ntmps17 results17 Ty.PM ?_;repeat'(first|refine Ae λK hK=>?_|refine uR A3 ?_|(refine uN hK ?_;clear hK)|apply zI)
  refine D5 (hc _ (by simp[A0.new]) (by simp[A0.new])) (sr A3) ?_;simp only[Ty.w,simprocAttr];repeat'(first|refine Ae λK hK=>?_|((first|refine BZ ?_|refine ES ?_);simp only[Ty.w,simprocAttr,n1,n2,n3,n4,n5,n6,C4,Fw])|(refine hK _ _ ?_;clear hK;(try simp only[Ao,simprocAttr])))
  refine⟨?_,((((((AC.refl h).new _).new _).set (by omega) _).new _).set (by omega) _).set (AD _) _⟩;simp only[B9,BG,AP,Aj,AF,AL,Da];exact⟨_,rfl,Q6,rfl,trivial⟩
 |true=>
  cases v with
  |false=>
   refine uG (ow:=λt=>t==7) (wf:=λ_=>false) func17 ntmps17 results17 Ty.PM ?_;(repeat'(first|refine Ae λK hK=>?_|refine uR A3 ?_|(refine uN hK ?_;clear hK)|apply zI));refine D5 (hc _ (by simp[A0.new]) (by simp[A0.new])) (sr A3) ?_;simp only[Ty.w,simprocAttr];(repeat'(first|refine Ae λK hK=>?_|(refine BZ ?_;simp only[Ty.w,simprocAttr,n1,n2,n3,n4,n5,n6,Ap,Fw])|(refine hK _ _ ?_;clear hK;(try simp only[Ao,simprocAttr]))));replace zz:=Aq n1 n2 n3 n4 n5 n6;refine uU zz (hV _) ?_;replace zz:=Ag n1 n2 n3 n4 n5 n6 yF;(repeat'(first|refine Ae λK hK=>?_|refine uR zz ?_|refine uT zz ?_|(refine uN hK ?_;clear hK)|apply zI));refine⟨?_,((((((AC.refl h).new _).new _).set (by omega) _).new _).set (by omega) _).set (AD _) _⟩;simp only[BD,BG,AP,Aj,AF,AL,Da];exact⟨_,rfl,Q6,rfl,trivial⟩
  |true=>
   refine uG (ow:=λt=>t==7) (wf:=λ_=>false) func17 ntmps17 results17 Ty.PM ?_;(repeat'(first|refine Ae λK hK=>?_|refine uR A3 ?_|(refine uN hK ?_;clear hK)|apply zI));refine D5 (hc _ (by simp[A0.new]) (by simp[A0.new])) (sr A3) ?_;simp only[Ty.w,simprocAttr];(repeat'(first|refine Ae λK hK=>?_|(refine BZ ?_;simp only[Ty.w,simprocAttr,n1,n2,n3,n4,n5,n6,Ap,Fw])|(refine hK _ _ ?_;clear hK;(try simp only[Ao,simprocAttr]))));replace zz:=Aq n1 n2 n3 n4 n5 n6;refine uU zz (hV _) ?_;replace zz:=Ag n1 n2 n3 n4 n5 n6 yT;(repeat'(first|refine Ae λK hK=>?_|refine uR zz ?_|refine uT zz ?_|refine uK ?_|refine Bo zz ?_|(refine uN hK ?_;clear hK)|apply zI));refine⟨?_,((((((AC.refl h).new _).new _).set (by omega) _).new _).set (by omega) _).set (AD _) _⟩;simp only[L9,AH,AF];exact⟨_,rfl,by simp only[AL,AF,Da];exact⟨_,rfl,FZ _ _ (.mk xk xv xl xc xt xs)⟩⟩
def IQ(l:List Ch):Sx:=bif l.isEmpty then AK []else AK (AA Bc::l.map N0)
def Kt(l:List Ch):Bool:=l.all JU&&(CL (IQ l) 0 0).1
def K4(n:Int):Bool:=decide (n>= -1099511627776)&&decide (n<=1099511627776)
def SY(p:Pr):Bool:=An p.name&&p.params.all (IG true)
def Q7(f:Fu):Bool:=An f.name&&(f.params.all (IG true)&&(K4 f.lo&&K4 f.hi))
def N1(a:Ac):Bool:=An a.name&&(a.params.all (IG true)&&(!(decide (a.cost<0))&&(K4 a.cost&&(D1 a.pre&&a.changes.all JU))))
def N2(a:Du):Bool:=An a.name&&(a.params.all (IG true)&&(K4 a.duration&&(a.atStart.all JU&&(a.atStop.all JU&&(D1 a.start&&(D1 a.over&&D1 a.stop))))))
def ON(d:Dm):Bool:=An d.name&&(d.types.all (IG false)&&(d.constants.all (IG false)&&(d.predicates.all SY&&(d.functions.all Q7&&(d.actions.all N1&&d.duratives.all N2)))))
theorem SZ{h:A0}{n:Int}:A6 prog 44 [.sc (.int .i64 n)] h λr h'=>r= .agg (DB n).cells/\h'=h:=by
 refine A6.frz Ty.UM ?_;refine AE func44 ntmps44 results44 Ty.UM ?_;refine wt A3 ?_;refine⟨?_,((AC.refl h).new _).set (AD _) _⟩;simp only[DB,Sx.cells,Sx.rows,AF,AL];exact⟨_,rfl,rfl,rfl,rfl,rfl,rfl,.inr (.inl ⟨rfl,.inr rfl⟩),trivial⟩
abbrev xO(j k:Nat):Ab:= .arr 6 [[.sc (.int .i64 3),.sc (.int .i64 0),.sc (.int .i64 0),.sc (.int .i64 0),.sc (.string ⟨#[]⟩),.own j 0 k]]
def Hu(h:A0)(xi j:Nat)(L:List Sx):A0:=⟨h.next+18+1,λi=>if i=xi then some (xO (h.next+18) L.length)else if i=h.next+18 then some (.arr 6 (Sx.rows L))else if i=j then none else if i<h.next then h.obj i else none⟩
theorem J0{h:A0}{xi j:Nat}{L:List Sx}{kw:ByteArray}{v:Sx}{m:Bool}(hx:h.obj xi=some (xO j L.length))(hj:h.obj j=some (.arr 6 (Sx.rows L)))(hne:xi≠j)(hxl:xi<h.next)(hjl:j<h.next)(hL:L.length<=1048576):
  A6 prog 97 [.ptr xi 0 0,.sc (.bool m),A2 kw,.agg v.cells] h λr h'=>r=Fl []/\h'=(if m=true then h else Hu h xi j (L++[AA kw,v])):=by
 have hw: ∀ (s:ByteArray)(h:A0),A6 prog 40 [A2 s] h λr h'=>r= .agg (AA s).cells/\h'=h:=λs h=>K1;simp only[AA,Sx.cells,Sx.rows]at hw;obtain⟨vk,vv,vl,vc,vt,vs⟩:=v;simp only[Sx.cells];cases m with
 |true=>
  refine AE func97 ntmps97 results97 Ty.UU ?_;refine wt A3 ?_;simp only[I5,Gr];exact⟨trivial,trivial⟩
 |false=>
  have hrl:(Sx.rows L).length=L.length:=Sx.rows_len L;have hb2:(L.length+2)*72<=140737488355328:=by omega
  have htk:List.take L.length (Sx.rows L)=Sx.rows L:=DQ (by omega);refine A6.drop ?_;refine AE func97 ntmps97 results97 Ty.UU ?_;refine xB 2 A3 ?_;refine⟨?_⟩;refine Pq 10 (by decide+kernel) λK hK=>?_;simp only[LC,KL,GW,CB];have c1:(Value.int IntKind.i64 0).oneCell'=true:=rfl;have c2:(Value.string ⟨#[]⟩).oneCell'=true:=rfl;have c3:(Value.slice none 0 0).oneCell'=true:=rfl;simp only[xO]at hx;simp(maxSteps:=4000000) only[Ty.w,simprocAttr,Ty.AW,c1,c2,c3,hx,hj,hrl,htk,hb2,AD];replace zz:=BK c1 c2 c3 hx hj hrl htk hb2 @AD;first|refine uV zz (hw kw _) ?_|refine uA zz (hw kw _) ?_
  refine⟨by simp only[Bg];(repeat' apply And.intro)<;>first|exact .inl (by decide+kernel)|exact(λ_ hx=>by cases hx),?_⟩;have hset1: ∀ x:List PV,(Sx.rows L++[BW,BW]).set L.length x=Sx.rows L++[x,BW]:=λx=>by rw[NH _ _ (by omega),hrl,LD];try rfl
  have hset2: ∀ x y:List PV,(Sx.rows L++[x,BW]).set (L.length+1) y=Sx.rows L++[x,y]:=λx y=>by rw[NH _ _ (by omega),hrl,mK];try rfl
  have hget1:(Sx.rows L++[BW,BW])[L.length]? =some BW:=by rw[L5 (by omega),hrl,LD];try rfl
  have hget2: ∀ x:List PV,(Sx.rows L++[x,BW])[L.length+1]? =some BW:=λx=>by rw[L5 (by omega),hrl,mK];try rfl
  have w1:IntKind.i64.wrap ((L.length:Int)+1)=((L.length+1:Nat):Int):=by rw[Br (by omega) (by omega)];omega
  have hN1:((A0.kill ⟨h.next+18,h.obj⟩ j).new (.arr 6 (Sx.rows L++[BW,BW]))).obj (h.next+18)=some (.arr 6 (Sx.rows L++[BW,BW])):=by simp only[A0.new,A0.kill,AH]
  have hX1:((A0.kill ⟨h.next+18,h.obj⟩ j).new (.arr 6 (Sx.rows L++[BW,BW]))).obj xi=some (xO j L.length):=by
   simp only[A0.new,A0.kill];rw[A4 (by omega),A4 hne];exact hx
  have hO1: ∀ i,i<h.next->i≠j->((A0.kill ⟨h.next+18,h.obj⟩ j).new (.arr 6 (Sx.rows L++[BW,BW]))).obj i=h.obj i:=λi hi hij=>by
   simp only[A0.new,A0.kill];rw[A4 (by omega),A4 hij]
  have hn1:((A0.kill ⟨h.next+18,h.obj⟩ j).new (.arr 6 (Sx.rows L++[BW,BW]))).next=h.next+18+1:=rfl
  generalize((A0.kill ⟨h.next+18,h.obj⟩ j).new (.arr 6 (Sx.rows L++[BW,BW])))=H1 at hN1 hX1 hO1 hn1⊢;have hkc:List.length [PV.sc (.int .i64 1),.sc (.int .i64 0),.sc (.int .i64 0),.sc (.int .i64 0),A2 kw,.imm 6 []]=6:=rfl;refine IH (.ptr (h.next+18) L.length 0) [h.next+18] (.inr (by decide+kernel)) (by decide) rfl rfl (λH hH=>by
   have hH:=(hH _ (GV.2 rfl)).trans hN1;have q1:(L.length<L.length+2)=True:=Db (by omega);simp only[Ty.w,simprocAttr,Ty.AW,hH,q1,c1,c2,c3,hrl,hb2,AD,w1]) dL ?_
  refine Jx (ob:= .arr 6 (Sx.rows L++[[.sc (.int .i64 1),.sc (.int .i64 0),.sc (.int .i64 0),.sc (.int .i64 0),A2 kw,.imm 6 []],BW])) rfl (by decide) rfl (by simp only[Ty.w,simprocAttr,Ty.AW];try rfl) (by
   simp only[Ty.w,simprocAttr,Ty.AW,hN1,hget1,hset1,c1,c2,c3,hrl,hb2,AD,w1];try rfl) (λf q hf hq ha=>by rcases(show f=12\/f=13\/f=14\/f=15\/f=16\/f=17 from by have hfl:=(BC.1 hq).1;simp only[Aw,Bw]at hfl;omega)with rfl|rfl|rfl|rfl|rfl|rfl<;>(simp only[KE,NK,Ak]at hq;subst hq;revert ha;decide+kernel)) dL dL ?_
  have hN2:(H1.set (h.next+18) (.arr 6 (Sx.rows L++[[.sc (.int .i64 1),.sc (.int .i64 0),.sc (.int .i64 0),.sc (.int .i64 0),A2 kw,.imm 6 []],BW]))).obj (h.next+18)=some (.arr 6 (Sx.rows L++[[.sc (.int .i64 1),.sc (.int .i64 0),.sc (.int .i64 0),.sc (.int .i64 0),A2 kw,.imm 6 []],BW])):=Cy;have hX2:(H1.set (h.next+18) (.arr 6 (Sx.rows L++[[.sc (.int .i64 1),.sc (.int .i64 0),.sc (.int .i64 0),.sc (.int .i64 0),A2 kw,.imm 6 []],BW]))).obj xi=some (xO j L.length):=(Av (by omega)).trans hX1;have hO2: ∀ i,i<h.next->i≠j->(H1.set (h.next+18) (.arr 6 (Sx.rows L++[[.sc (.int .i64 1),.sc (.int .i64 0),.sc (.int .i64 0),.sc (.int .i64 0),A2 kw,.imm 6 []],BW]))).obj i=h.obj i:=λi hi hij=>(Av (by omega)).trans (hO1 i hi hij)
  have hn2:(H1.set (h.next+18) (.arr 6 (Sx.rows L++[[.sc (.int .i64 1),.sc (.int .i64 0),.sc (.int .i64 0),.sc (.int .i64 0),A2 kw,.imm 6 []],BW]))).next=h.next+18+1:=hn1
  generalize H1.set (h.next+18) (.arr 6 (Sx.rows L++[[.sc (.int .i64 1),.sc (.int .i64 0),.sc (.int .i64 0),.sc (.int .i64 0),A2 kw,.imm 6 []],BW]))=H2 at hN2 hX2 hO2 hn2⊢;refine IH (.sc (.int .i64 ((L.length+1:Nat):Int))) [] (.inl rfl) (by decide) rfl rfl (λH _=>by(try simp only[Ty.w,simprocAttr,Ty.AW,c1,c2,c3,hrl,hb2,AD,w1]);try rfl) dL ?_;refine IH (.ptr (h.next+18) (L.length+1) 0) [h.next+18] (.inr (by decide+kernel)) (by decide) rfl rfl (λH hH=>by
   have hH:=(hH _ (GV.2 rfl)).trans hN2;have q1:(L.length+1<L.length+2)=True:=Db (by omega);simp only[Ty.w,simprocAttr,Ty.AW,hH,q1,c1,c2,c3,hrl,hb2,AD,w1]) dL ?_
  refine Jx (ob:= .arr 6 (Sx.rows L++[[.sc (.int .i64 1),.sc (.int .i64 0),.sc (.int .i64 0),.sc (.int .i64 0),A2 kw,.imm 6 []],[.sc (.int .i64 vk),.sc (.int .i64 vv),.sc (.int .i64 vl),.sc (.int .i64 vc),A2 vt,.imm 6 (Sx.rows vs)]])) rfl (by decide) rfl (by simp only[Ty.w,simprocAttr,Ty.AW];try rfl) (by
   simp only[Ty.w,simprocAttr,Ty.AW,hN2,hget2,hset2,c1,c2,c3,hrl,hb2,AD,w1];try rfl) (λf q hf hq ha=>by rcases(show f=15\/f=16\/f=17 from by have hfl:=(BC.1 hq).1;simp only[Aw,Bw]at hfl;omega)with rfl|rfl|rfl<;>(simp only[KE,NK,Ak]at hq;subst hq;revert ha;decide+kernel)) dL dL ?_
  refine IH (.ptr xi 0 0) [] (.inl rfl) (by decide) rfl rfl (λH _=>by(try simp only[Ty.w,simprocAttr,Ty.AW,c1,c2,c3,hrl,hb2,AD,w1]);try rfl) dL ?_;refine IH (.ptr xi 0 5) [] (.inl rfl) (by decide) rfl rfl (λH _=>by(try simp only[Ty.w,simprocAttr,Ty.AW,c1,c2,c3,hrl,hb2,AD,w1]);try rfl) dL ?_;have hX3:=hX2;have nX:(xi=h.next+18)=False:=B4 (by omega);simp only[xO]at hX3;refine Jx (ob:=xO (h.next+18) (L.length+2)) rfl (by decide) rfl (by simp only[Ty.w,simprocAttr,Ty.AW];try rfl) (by
   simp only[Ty.w,simprocAttr,Ty.AW,hX3,nX,c1,c2,c3,hrl,hb2,AD,w1];try rfl) (λf q hf hq ha=>by have hfl:=(BC.1 hq).1;simp only[Aw,Bw]at hfl;omega) dL dL ?_
  refine Ps (hK _ _ ?_);simp only[I5,Gr];have hRL:Sx.rows (L++[AA kw,.mk vk vv vl vc vt vs])=Sx.rows L++[[.sc (.int .i64 1),.sc (.int .i64 0),.sc (.int .i64 0),.sc (.int .i64 0),A2 kw,.imm 6 []],[.sc (.int .i64 vk),.sc (.int .i64 vv),.sc (.int .i64 vl),.sc (.int .i64 vc),A2 vt,.imm 6 (Sx.rows vs)]]:=by simp[Sx.rows_map,AA,Sx.cells,Sx.rows]
  rw[← hRL];have hlen:(L++[AA kw,.mk vk vv vl vc vt vs]).length=L.length+2:=by simp
  rw[← hlen];generalize L++[AA kw,.mk vk vv vl vc vt vs]=L2;refine⟨Fl [],Hu h xi j L2,⟨rfl,by simp⟩,by simp[Fl,AF,AL],by simp only[Hu];omega,λi o hio=>?_⟩;simp only[Hu]at hio⊢;by_cases h1:i=xi
  ·subst h1;rw[AG rfl]at hio;obtain rfl:=J8 hio;exact⟨Cy,by omega,.inr (by simp[xO,Ec,B1,BT,BB])⟩
  ·rw [A4 h1]at hio;by_cases h2:i=h.next+18
   ·subst h2;rw[AG rfl]at hio;obtain rfl:=J8 hio;exact⟨(Av h1).trans Cy,by omega,.inr (by simp only[Ec];exact ID _ _)⟩
   ·rw [A4 h2]at hio;by_cases h3:i=j
    ·rw [AG h3]at hio;cases hio
    ·rw [A4 h3]at hio;by_cases h4:i<h.next
     ·rw [AG h4]at hio;exact⟨((Av h1).trans ((Av h2).trans (hO2 i h4 h3))).trans hio,by omega,.inl hio⟩
     ·rw [A4 h4]at hio;cases hio
theorem Sa{P:Program}{ow:Nat->Bool}{wf:FuncId->Bool}{n:Nat}{s:A9}{h:A0}{f:FuncId}{d:Nat}{args:List Operand}{ts:Array TypeId}{ty:TypeId}{pos:String}{af:Array Edge}{gd:Option (Nat × Bool)}{aS:List PV}{v:PV}{h1:A0}{ops rest:List Oper}{base k:Nat}{past:Ga}{hist:List (Nat × A0)}{K:A9->A0->Prop}{A:A0->Prop}(al:List Nat)(ha:Lq ops=al)
  (hc:A6 P f aS h λr h'=>r=v/\h'=h1)(hs:args.map (A5 s)=aS)(hA:A h1)
  (hk:EB P ow wf n ops al base k rest past hist K (CX s d v) h1):
  ∃ v h',Af P ow {dst:=some d,op:= .call {callee:= .value (.func f),args:=args.toArray,argTypes:=ts},type:=ty,pos:=pos,after:=af,guard:=gd} (A5 s) h v h'/\A h'/\
   FU P ow wf n ops base k rest (DR P ow past) hist K (CX s d v) h':=
 ⟨v,h1,CO hc hs,hA,Kh ha _ _ _ _ _ _ hk⟩
def Dl:ByteArray:=⟨#[58,97,99,116,105,111,110]⟩
def Cb:ByteArray:=⟨#[58,112,97,114,97,109,101,116,101,114,115]⟩
def Fs:ByteArray:=⟨#[58,99,111,115,116]⟩
def GL:ByteArray:=⟨#[58,112,114,101,99,111,110,100,105,116,105,111,110]⟩
def HP:ByteArray:=⟨#[58,101,102,102,101,99,116]⟩
def BL(L:List Sx)(m:Bool)(kw:ByteArray)(v:Sx):List Sx:=bif m then L else L++[AA kw,v]
def Wl(a:Ac):List Sx:=BL (BL (BL (BL [AA Dl,AA a.name] ((a.params.length:Int)==0) Cb (AK (AX a.params))) (a.cost==1) Fs (DB a.cost)) (Bp a.pre) GL (BQ a.pre)) ((a.changes.length:Int)==0) HP (CJ a.changes)
def Dr(a:Ac):Sx:=AK (Wl a)
def Ff(a:Ac):Bool:=An a.name&&!(decide (a.cost<0))&&a.params.all (BJ true)&&BU a.pre&&a.changes.all C2
structure Q8(a:Ac):Prop where
 params:a.params.length<=1048576
 pre:a.pre.small
 chs:a.changes.length<=1048576
 ch: ∀ c∈a.changes,Fq c
theorem IR(L:List Sx)(m:Bool)(kw:ByteArray)(v:Sx):(BL L m kw v).length<=L.length+2:=by cases m<;>simp[BL]
structure DU(h:A0)(id:Nat)(b:Bool)(xi j:Nat)(L:List Sx)(H:A0):Prop where
 grow:CI h id (wO b) H
 ids:h.next<xi/\xi<H.next/\h.next<j/\j<H.next/\xi≠j
 ores:H.obj h.next=some (.arr 6 [BW])
 ox:H.obj xi=some (xO j L.length)
 oj:H.obj j=some (.arr 6 (Sx.rows L))
structure HQ(h:A0)(id xi:Nat)(row:List PV)(S:A9):Prop where
 s0:S 0= .ptr id 0 0
 s3:S 3= .cptr row
 s4:S 4= .ptr h.next 0 0
 s5:S 5= .ptr xi 0 0
theorem DU.put{h H:A0}{id xi j:Nat}{b b2:Bool}{L:List Sx}(i:DU h id b xi j L H)(hid:id<h.next):DU h id b2 xi j L (H.set id (wO b2)):=by
 obtain⟨g,⟨i1,i2,i3,i4,i5⟩,o1,o2,o3⟩:=i;exact⟨g.put,⟨i1,i2,i3,i4,i5⟩,(Av (by omega)).trans o1,(Av (by omega)).trans o2,(Av (by omega)).trans o3⟩
theorem DU.part{h H:A0}{id xi j:Nat}{b:Bool}{L L2:List Sx}(i:DU h id b xi j L H)(hid:id<h.next):DU h id b xi (H.next+18) L2 (Hu H xi j L2):=by
 obtain⟨g,⟨i1,i2,i3,i4,i5⟩,o1,o2,o3⟩:=i;have hle:=g.le;refine⟨⟨by simp only[Hu];omega,λk hk hne=>?_,?_⟩,⟨i1,by simp only[Hu];omega,by omega,by simp only[Hu];omega,by omega⟩,?_,?_,?_⟩
 ·simp only[Hu];rw[A4 (by omega),A4 (by omega),A4 (by omega),AG (by omega)];exact g.old k hk hne
 ·simp only[Hu];rw[A4 (by omega),A4 (by omega),A4 (by omega),AG (by omega)];exact g.at_
 ·simp only[Hu];rw[A4 (by omega),A4 (by omega),A4 (by omega),AG (by omega)];exact o1
 ·simp only[Hu,AH]
 ·simp only[Hu];rw[A4 (by omega),AG A3]
theorem jF{h:A0}{id:Nat}{b:Bool}{a:Ac}(hok:a.ok)(hsm:Q8 a)(hid:id<h.next)(ho:h.obj id=some (wO b)):
  A6 prog 45 [.ptr id 0 0,.agg (FG a)] h λr h'=>r= .agg (Dr a).cells/\h'=h.set id (wO (b||!Ff a)):=by
 refine Ig Ty.RH λhwf=>?_;refine A6.frzX Ty.RH ho (Kr _ _) ?_;have hno: ∀ i,h.next<=i->h.obj i=none:=λi hi=>by
  cases q:h.obj i with
  |none=>rfl
  |some o=>have:=hwf i (by rw[q];try rfl);omega
 obtain⟨name,params,cost,⟨gop,gna,gar,gpa,gex,gki⟩,changes⟩:=a;have hw: ∀ (s:ByteArray)(h:A0),A6 prog 40 [A2 s] h λr h'=>r= .agg (AA s).cells/\h'=h:=λs h=>K1;have hns:name.size<=9223372036854775807:=by have:=hok.name;unfold AJ at this;simp only at this;omega
 have cN:=λ(H:A0)(hid:id<H.next)(ho:H.obj id=some (wO b))=>Mx (h:=H) (b:=b) hns hid ho;simp only[AA,Sx.cells,Sx.rows]at hw cN;simp only[FG,Fm.cells,C3,Au];have n1:(id=h.next)=False:=B4 (by omega);have n2:(h.next=id)=False:=B4 (by omega);refine Ni (ow:=λt=>t==11) (wf:=λf=>f==41||f==43||f==100||f==51||f==97) Ty.Ns func45 rfl Ty.RH (by rw[ntmps45];simp) ?_;rw[ntmps45,results45];refine Ae (λK hK=>?_);repeat'(first|refine Ae λK hK=>?_|refine uR A3 ?_|(refine uN hK ?_;clear hK)|apply zI)
 refine SB [7] (by decide+kernel) (by decide+kernel) ?_;have n3:(h.next+1+7=h.next)=False:=B4 (by omega);have n4:(h.next+1+7=id)=False:=B4 (by omega);have n5:(h.next+1+9=id)=False:=B4 (by omega);have n6:(h.next+1+7=h.next+1+9)=False:=B4 (by omega);have n7:(h.next+1+9=h.next+1+7)=False:=B4 (by omega);have n8:(id=h.next+1+7)=False:=B4 (by omega);have hN8:h.obj (h.next+1+7)=none:=hno _ (by omega);simp(maxSteps:=4000000) only[EB,Ty.w,simprocAttr,Ty.AW,Bg,ho,n1,n2,n3,n4,n5,n6,n7,n8,hN8];first
  |refine Pt [7] (by decide+kernel) (hw Dl _) (sr (B7 ho n1 n2 n3 n4 n5 n6 n7 n8 hN8)) ?_
  |refine Ki [7] (by decide+kernel) (hw Dl _) (sr (B7 ho n1 n2 n3 n4 n5 n6 n7 n8 hN8)) (by simp only[Ty.w,simprocAttr,Ty.AW,ho,n1,n2,n3,n4,n5,n6,n7,n8,hN8];try trivial) ?_
 simp(maxSteps:=4000000) only[EB,Ty.w,simprocAttr,Ty.AW,Bg,Au,ho,n1,n2,n3,n4,n5,n6,n7,n8,hN8];refine Sa [7] (by decide+kernel) (cN _ (by simp only[A0.new];omega) (sq (B7 ho n1 n2 n3 n4 n5 n6 n7 n8 hN8))) (sr (B7 ho n1 n2 n3 n4 n5 n6 n7 n8 hN8)) ?_ ?_
 ·exact ⟨sq (B7 ho n1 n2 n3 n4 n5 n6 n7 n8 hN8),by simp only[DR,BS,B5,Bg];(repeat' apply And.intro)<;>first|exact .inl (by decide+kernel)|exact(λ_ hx=>by cases hx)⟩
 simp(maxSteps:=4000000) only[EB,Ty.w,simprocAttr,Ty.AW,Bg,Au,ho,n1,n2,n3,n4,n5,n6,n7,n8,hN8];refine⟨by(repeat' apply And.intro)<;>first|exact .inl (by decide+kernel)|exact(λ_ hx=>by cases hx)|trivial,?_⟩;have hl3: ∀ H:A0,h.next+1+9<H.next->A6 prog 39 [.own (h.next+1+9) 0 2] H λr h'=>r= .agg [.sc (.int .i64 3),.sc (.int .i64 0),.sc (.int .i64 0),.sc (.int .i64 0),.sc (.string ⟨#[]⟩),.own (h.next+1+9) 0 2]/\h'=H:=λH hh=>K3 rfl (λ_=>KZ hh)
 refine Ki [7] (by decide+kernel) (hl3 _ (by simp[A0.new,A0.set])) (sr (B7 ho n1 n2 n3 n4 n5 n6 n7 n8 hN8)) (by(repeat' apply And.intro)<;>first|exact .inl (by decide+kernel)|exact(λ_ hx=>by cases hx)|trivial) ?_;simp(maxSteps:=4000000) only[EB,Ty.w,simprocAttr,Ty.AW,Bg,Au,ho,n1,n2,n3,n4,n5,n6,n7,n8,hN8];refine⟨?_,?_⟩
 ·(repeat' apply And.intro)<;>first
    |exact .inl (by decide+kernel)
    |exact .inr (CO (hw Dl _) (sr (B7 ho n1 n2 n3 n4 n5 n6 n7 n8 hN8)))
    |exact .inr (CO (hl3 _ (by simp[A0.new,A0.set])) (sr (B7 ho n1 n2 n3 n4 n5 n6 n7 n8 hN8)))
    |exact .inr (by simp only[Ty.w,simprocAttr,Ty.AW,ho,n1,n2,n3,n4,n5,n6,n7,n8,hN8])
    |exact(λ_ hx=>by cases hx)
    |trivial
 refine⟨?_,?_⟩
 ·(repeat' apply And.intro)<;>first
    |exact .inl (by decide+kernel)
    |exact .inr (CO (hw Dl _) (sr (B7 ho n1 n2 n3 n4 n5 n6 n7 n8 hN8)))
    |exact .inr (CO (hl3 _ (by simp[A0.new,A0.set])) (sr (B7 ho n1 n2 n3 n4 n5 n6 n7 n8 hN8)))
    |exact .inr (by simp only[Ty.w,simprocAttr,Ty.AW,ho,n1,n2,n3,n4,n5,n6,n7,n8,hN8])
    |exact(λ_ hx=>by cases hx)
    |trivial
 first|refine hK _ _ ?_|refine cK ?_
 try clear hK
 generalize hxi:h.next+1+7=xi
 refine Cj (λS H=> ∃ j,HQ h id xi [A2 name,.imm 2 (A7 params),.sc (.int .i64 cost),A2 gop,A2 gna,.imm 1 (AN gar),.imm 2 (A7 gpa),.imm 5 (Ex.rows gex),.imm 6 (Fm.rows gki),.imm 15 (Al changes)] S/\DU h id (b||!An name) xi j [AA Dl,AA name] H) ?_ ?_
 ·subst hxi;refine⟨h.next+1+9,⟨sq A3,sq A3,sq A3,sq A3⟩,⟨?_,⟨by omega,by simp only[A0.set,A0.new];omega,by omega,by simp only[A0.set,A0.new];omega,by omega⟩,?_,?_,?_⟩⟩
  ·refine ⟨by simp only[A0.set,A0.new];omega,λk hk hne=>?_,?_⟩
   ·simp only[A0.set,A0.new];(repeat(first|rw[A4 (by omega)]|rw[AG A3]));try exact A4 (by omega)
   ·simp only[A0.set,A0.new];repeat(first|rw[A4 (by omega)]|rw[AG A3])
  ·simp only[A0.set,A0.new];repeat(first|rw[A4 (by omega)]|rw[AG A3])
  ·simp only[A0.set,A0.new];(repeat(first|rw[A4 (by omega)]|rw[AG A3]));rfl
  ·simp only[A0.set,A0.new];(repeat(first|rw[A4 (by omega)]|rw[AG A3]));simp[AA,Sx.rows,Sx.cells]
 clear n1 n2 n3 n4 n5 n6 n7 n8 hN8 hno hwf hl3 cN;rintro S H ⟨j,⟨s0,s3,s4,s5⟩,hI⟩;generalize hb1:(b||!An name)=b1 at hI;refine DA (λS H=> ∃ j,HQ h id xi [A2 name,.imm 2 (A7 params),.sc (.int .i64 cost),A2 gop,A2 gna,.imm 1 (AN gar),.imm 2 (A7 gpa),.imm 5 (Ex.rows gex),.imm 6 (Fm.rows gki),.imm 15 (Al changes)] S/\DU h id (b1||decide (cost<0)) xi j [AA Dl,AA name] H) ?_ ?_
 ·have hat:=hI.grow.at_;cases b1 with
  |true=>
   replace zz:=As s0 s3 s4 s5 hat;refine wt zz ?_;exact⟨j,⟨sq s0,sq s3,sq s4,sq s5⟩,hI.put hid⟩
  |false=>
   replace zz:=As s0 s3 s4 s5 hat;refine wt zz ?_;exact⟨j,⟨sq s0,sq s3,sq s4,sq s5⟩,hI.put hid⟩
 clear s0 s3 s4 s5 hI;rintro S H ⟨j,⟨s0,s3,s4,s5⟩,hI⟩;generalize hb2:(b1||decide (cost<0))=b2 at hI;refine DA (λS H=> ∃ j,HQ h id xi [A2 name,.imm 2 (A7 params),.sc (.int .i64 cost),A2 gop,A2 gna,.imm 1 (AN gar),.imm 2 (A7 gpa),.imm 5 (Ex.rows gex),.imm 6 (Fm.rows gki),.imm 15 (Al changes)] S/\DU h id (b2||!(params.all (BJ true))) xi j (BL [AA Dl,AA name] ((params.length:Int)==0) Cb (AK (AX params))) H) ?_ ?_
 ·have hpl:=IA params;have hat:=hI.grow.at_;obtain⟨hg,⟨i1,i2,i3,i4,i5⟩,o1,o2,o3⟩:=(show DU _ _ _ _ _ _ _ from hI);have cP:=Lx (h:=H) (b:=b2) (vars:=true) hsm.params hok.params.2 (by omega) hat;have cL:=λh:A0=>JV (AX params) h;have cp:=λ(m:Bool)(hx:(H.set id (wO (b2||!(params.all (BJ true))))).obj xi=some (xO j 2))(hj:(H.set id (wO (b2||!(params.all (BJ true))))).obj j=some (.arr 6 (Sx.rows [AA Dl,AA name])))=>J0 (h:=H.set id (wO (b2||!(params.all (BJ true))))) (xi:=xi) (j:=j) (L:=[AA Dl,AA name]) (kw:=Cb) (v:=AK (AX params)) (m:=m) hx hj i5 i2 i4 (by simp);generalize hm:((params.length:Int)==0)=m;simp only[AK,Sx.cells,Cb]at cL cp;replace zz:=As s0 s3 s5 hpl hm;refine wy zz ?_;replace zz:=As s0 s3 s5 hpl hm;refine uZ zz (cP) ?_;refine wy zz ?_;replace zz:=As s0 s3 s5 hpl hm;first|refine uV zz (cL _) ?_|refine uJ zz cL ?_
  refine wy zz ?_;have o1':(H.set id (wO (b2||!(params.all (BJ true))))).obj xi=some (xO j 2):=(Av (by omega)).trans o2;have o2':(H.set id (wO (b2||!(params.all (BJ true))))).obj j=some (.arr 6 (Sx.rows [AA Dl,AA name])):=(Av (by omega)).trans o3;replace zz:=As s0 s3 s5 hpl hm;refine uZ zz (cp m o1' o2') ?_;refine wy zz ?_;cases m with
  |true=>exact⟨j,⟨sq s0,sq s3,sq s4,sq s5⟩,hI.put hid⟩
  |false=>exact⟨_,⟨sq s0,sq s3,sq s4,sq s5⟩,(hI.put hid).part hid⟩
 ·have hL1:(BL [AA Dl,AA name] ((params.length:Int)==0) Cb (AK (AX params))).length<=4:=IR _ _ _ _;generalize hLe1:BL [AA Dl,AA name] ((params.length:Int)==0) Cb (AK (AX params))=LL1 at hL1⊢;generalize hb3:(b2||!(params.all (BJ true)))=b3
  clear s0 s3 s4 s5 hI;rintro S H ⟨j,⟨s0,s3,s4,s5⟩,hI⟩;refine DA (λS H=> ∃ j,HQ h id xi [A2 name,.imm 2 (A7 params),.sc (.int .i64 cost),A2 gop,A2 gna,.imm 1 (AN gar),.imm 2 (A7 gpa),.imm 5 (Ex.rows gex),.imm 6 (Fm.rows gki),.imm 15 (Al changes)] S/\DU h id b3 xi j (BL LL1 (cost==1) Fs (DB cost)) H) ?_ ?_
  ·have hat:=hI.grow.at_;obtain⟨hg,⟨i1,i2,i3,i4,i5⟩,o1,o2,o3⟩:=(show DU _ _ _ _ _ _ _ from hI);have cD:=λh:A0=>SZ (h:=h) (n:=cost);have cp:=λ(m:Bool)(hx:H.obj xi=some (xO j LL1.length))(hj:H.obj j=some (.arr 6 (Sx.rows LL1)))=>J0 (h:=H) (xi:=xi) (j:=j) (L:=LL1) (kw:=Fs) (v:=(DB cost)) (m:=m) hx hj i5 i2 i4 (by omega);generalize hm:(cost==1)=m;simp only[DB,Sx.cells,Sx.rows,Fs]at cD cp;replace zz:=Aa s0 s3 s5 hm;refine wy zz ?_;replace zz:=Aa s0 s3 s5 hm;(first|refine uV zz (cD _) ?_|refine uJ zz cD ?_);refine wy zz ?_;have o1':H.obj xi=some (xO j LL1.length):=o2;have o2':H.obj j=some (.arr 6 (Sx.rows LL1)):=o3;replace zz:=Aa s0 s3 s5 hm;refine uZ zz (cp m o1' o2') ?_;refine wy zz ?_;cases m with
   |true=>exact⟨j,⟨sq s0,sq s3,sq s4,sq s5⟩,hI⟩
   |false=>exact⟨_,⟨sq s0,sq s3,sq s4,sq s5⟩,hI.part hid⟩
  ·have hL2:(BL LL1 (cost==1) Fs (DB cost)).length<=6:=(by have:=IR LL1 (cost==1) Fs (DB cost);omega);generalize hLe2:BL LL1 (cost==1) Fs (DB cost)=LL2 at hL2⊢;clear s0 s3 s4 s5 hI;rintro S H ⟨j,⟨s0,s3,s4,s5⟩,hI⟩;refine DA (λS H=> ∃ j,HQ h id xi [A2 name,.imm 2 (A7 params),.sc (.int .i64 cost),A2 gop,A2 gna,.imm 1 (AN gar),.imm 2 (A7 gpa),.imm 5 (Ex.rows gex),.imm 6 (Fm.rows gki),.imm 15 (Al changes)] S/\DU h id (b3||!(BU (.mk gop gna gar gpa gex gki))) xi j (BL LL2 (Bp (.mk gop gna gar gpa gex gki)) GL (BQ (.mk gop gna gar gpa gex gki))) H) ?_ ?_
   ·have hat:=hI.grow.at_;obtain⟨hg,⟨i1,i2,i3,i4,i5⟩,o1,o2,o3⟩:=(show DU _ _ _ _ _ _ _ from hI);have cA:=λh:A0=>Ks (h:=h);have cS:=λh:A0=>Io (.mk gop gna gar gpa gex gki) hok.pre Bv OM h;have hAl:(.mk gop gna gar gpa gex gki:Fm).same Bv=Bp (.mk gop gna gar gpa gex gki):=rfl;rw[hAl]at cS;have cW:=OJ (h:=H) (b:=b3) hok.pre hsm.pre (by omega) hat;generalize BQ (.mk gop gna gar gpa gex gki)=X at cW⊢;obtain⟨yk,yv,yl,yc,yt,ys⟩:=X;have cp:=λ(m:Bool)(hx:(H.set id (wO (b3||!(BU (.mk gop gna gar gpa gex gki))))).obj xi=some (xO j LL2.length))(hj:(H.set id (wO (b3||!(BU (.mk gop gna gar gpa gex gki))))).obj j=some (.arr 6 (Sx.rows LL2)))=>J0 (h:=(H.set id (wO (b3||!(BU (.mk gop gna gar gpa gex gki)))))) (xi:=xi) (j:=j) (L:=LL2) (kw:=GL) (v:=(.mk yk yv yl yc yt ys)) (m:=m) hx hj i5 i2 i4 (by omega);generalize hm:(Bp (.mk gop gna gar gpa gex gki))=m at cS⊢;simp only[Bv,Fm.cells,Sx.cells,Sx.rows,GL]at cA cS cW cp;replace zz:=Aa s0 s3 s5 hm;refine wy zz ?_;replace zz:=Aa s0 s3 s5 hm;(first|refine uV zz (cA _) ?_|refine uJ zz cA ?_);refine wy zz ?_;replace zz:=Aa s0 s3 s5 hm;(first|refine uV zz (cS _) ?_|refine uJ zz cS ?_);refine wy zz ?_;replace zz:=Aa s0 s3 s5 hm;refine uZ zz (cW) ?_;refine wy zz ?_;have o1':(H.set id (wO (b3||!(BU (.mk gop gna gar gpa gex gki))))).obj xi=some (xO j LL2.length):=(Av (by omega)).trans o2;have o2':(H.set id (wO (b3||!(BU (.mk gop gna gar gpa gex gki))))).obj j=some (.arr 6 (Sx.rows LL2)):=(Av (by omega)).trans o3;replace zz:=Aa s0 s3 s5 hm;refine uZ zz (cp m o1' o2') ?_;refine wy zz ?_;cases m with
    |true=>exact⟨j,⟨sq s0,sq s3,sq s4,sq s5⟩,hI.put hid⟩
    |false=>exact⟨_,⟨sq s0,sq s3,sq s4,sq s5⟩,(hI.put hid).part hid⟩
   ·have hL3:(BL LL2 (Bp (.mk gop gna gar gpa gex gki)) GL (BQ (.mk gop gna gar gpa gex gki))).length<=8:=(by have:=IR LL2 (Bp (.mk gop gna gar gpa gex gki)) GL (BQ (.mk gop gna gar gpa gex gki));omega);generalize hLe3:BL LL2 (Bp (.mk gop gna gar gpa gex gki)) GL (BQ (.mk gop gna gar gpa gex gki))=LL3 at hL3⊢;generalize hb4:(b3||!(BU (.mk gop gna gar gpa gex gki)))=b4;clear s0 s3 s4 s5 hI;rintro S H ⟨j,⟨s0,s3,s4,s5⟩,hI⟩;refine DA (λS H=> ∃ j,HQ h id xi [A2 name,.imm 2 (A7 params),.sc (.int .i64 cost),A2 gop,A2 gna,.imm 1 (AN gar),.imm 2 (A7 gpa),.imm 5 (Ex.rows gex),.imm 6 (Fm.rows gki),.imm 15 (Al changes)] S/\DU h id (b4||!(changes.all C2)) xi j (BL LL3 ((changes.length:Int)==0) HP (CJ changes)) H) ?_ ?_
    ·have hat:=hI.grow.at_;obtain⟨hg,⟨i1,i2,i3,i4,i5⟩,o1,o2,o3⟩:=(show DU _ _ _ _ _ _ _ from hI);have hpl:=Md changes;have cE:=Q5 (h:=H) (b:=b4) hsm.chs hok.changes.2 hsm.ch (by omega) hat;generalize CJ changes=X at cE⊢;obtain⟨yk,yv,yl,yc,yt,ys⟩:=X;have cp:=λ(m:Bool)(hx:(H.set id (wO (b4||!(changes.all C2)))).obj xi=some (xO j LL3.length))(hj:(H.set id (wO (b4||!(changes.all C2)))).obj j=some (.arr 6 (Sx.rows LL3)))=>J0 (h:=(H.set id (wO (b4||!(changes.all C2))))) (xi:=xi) (j:=j) (L:=LL3) (kw:=HP) (v:=(.mk yk yv yl yc yt ys)) (m:=m) hx hj i5 i2 i4 (by omega);generalize hm:((changes.length:Int)==0)=m;simp only[AK,Sx.cells,Sx.rows,HP]at cE cp;replace zz:=As s0 s3 s5 hm hpl;refine wy zz ?_;replace zz:=As s0 s3 s5 hm hpl;refine uZ zz (cE) ?_;refine wy zz ?_;have o1':(H.set id (wO (b4||!(changes.all C2)))).obj xi=some (xO j LL3.length):=(Av (by omega)).trans o2;have o2':(H.set id (wO (b4||!(changes.all C2)))).obj j=some (.arr 6 (Sx.rows LL3)):=(Av (by omega)).trans o3;replace zz:=As s0 s3 s5 hm hpl;refine uZ zz (cp m o1' o2') ?_;refine wy zz ?_;cases m with
     |true=>exact⟨j,⟨sq s0,sq s3,sq s4,sq s5⟩,hI.put hid⟩
     |false=>exact⟨_,⟨sq s0,sq s3,sq s4,sq s5⟩,(hI.put hid).part hid⟩
    ·have hL4:(BL LL3 ((changes.length:Int)==0) HP (CJ changes)).length<=10:=(by have:=IR LL3 ((changes.length:Int)==0) HP (CJ changes);omega);have hLL:Dr ⟨name,params,cost,.mk gop gna gar gpa gex gki,changes⟩=AK (BL LL3 ((changes.length:Int)==0) HP (CJ changes)):=(by rw[← hLe3, ← hLe2, ← hLe1];try rfl);have hBB:(b||!Ff ⟨name,params,cost,.mk gop gna gar gpa gex gki,changes⟩)=(b4||!(changes.all C2)):=by
      rw[← hb4, ← hb3, ← hb2, ← hb1];unfold Ff;simp only;cases b<;>cases An name<;>cases decide (cost<0)<;>cases params.all (BJ true)<;>cases BU (.mk gop gna gar gpa gex gki)<;>cases changes.all C2<;>rfl
     rw[hLL,hBB];generalize BL LL3 ((changes.length:Int)==0) HP (CJ changes)=L at hL4⊢;generalize(b4||!(changes.all C2))=bb;clear s0 s3 s4 s5 hI;rintro S H ⟨j,⟨s0,s3,s4,s5⟩,⟨hg,⟨i1,i2,i3,i4,i5⟩,o1,o2,o3⟩⟩;simp only[xO]at o2;have n1:(h.next=xi)=False:=B4 (by omega);replace zz:=As s4 s5 o1 o2 n1;refine wt zz ?_;refine⟨?_,hg.set hid (AD _)⟩;simp only[AK,Sx.cells,AF,AL];refine⟨_,rfl,rfl,rfl,rfl,rfl,rfl,.inr (.inr ⟨j,0,L.length,Sx.rows L,rfl,by omega,?_,?_,?_⟩),trivial⟩
     ·simp only[A0.set];rw[A4 (by omega)];exact o3
     ·rw [Sx.rows_len];omega
     ·rw [CB,DQ (by rw[Sx.rows_len];omega)];exact Jr _ _ _
def En:ByteArray:=⟨#[58,100,117,114,97,116,105,118,101,45,97,99,116,105,111,110]⟩
def EX:ByteArray:=⟨#[58,100,117,114,97,116,105,111,110]⟩
def Eo:ByteArray:=⟨#[58,115,116,97,114,116]⟩
def F6:ByteArray:=⟨#[58,111,118,101,114]⟩
def FL:ByteArray:=⟨#[58,101,110,100]⟩
def Fg:ByteArray:=⟨#[58,97,116,45,115,116,97,114,116]⟩
def Gf:ByteArray:=⟨#[58,97,116,45,101,110,100]⟩
def Wm(a:Du):List Sx:=BL (BL (BL (BL (BL (BL (BL [AA En,AA a.name] ((a.params.length:Int)==0) Cb (AK (AX a.params))) (a.duration==1) EX (DB a.duration)) (Bp a.start) Eo (BQ a.start)) (Bp a.over) F6 (BQ a.over)) (Bp a.stop) FL (BQ a.stop)) ((a.atStart.length:Int)==0) Fg (CJ a.atStart)) ((a.atStop.length:Int)==0) Gf (CJ a.atStop)
def Ds(a:Du):Sx:=AK (Wm a)
def F7(a:Du):Bool:=An a.name&&a.params.all (BJ true)&&BU a.start&&BU a.over&&BU a.stop&&a.atStart.all C2&&a.atStop.all C2
structure Q9(a:Du):Prop where
 params:a.params.length<=1048576
 start:a.start.small
 over:a.over.small
 stop:a.stop.small
 atS:a.atStart.length<=1048576/\ ∀ c∈a.atStart,Fq c
 atE:a.atStop.length<=1048576/\ ∀ c∈a.atStop,Fq c
theorem jG{h:A0}{id:Nat}{b:Bool}{a:Du}(hok:a.ok)(hsm:Q9 a)(hid:id<h.next)(ho:h.obj id=some (wO b)):
  A6 prog 46 [.ptr id 0 0,.agg (FH a)] h λr h'=>r= .agg (Ds a).cells/\h'=h.set id (wO (b||!F7 a)):=by
 refine Ig Ty.RI λhwf=>?_;refine A6.frzX Ty.RI ho (Kr _ _) ?_;have hno: ∀ i,h.next<=i->h.obj i=none:=λi hi=>by
  cases q:h.obj i with
  |none=>rfl
  |some o=>have:=hwf i (by rw[q];try rfl);omega
 obtain⟨name,params,dur,⟨sop,sna,sar,spa,sex,ski⟩,⟨vop,vna,var_,vpa,vex,vki⟩,⟨eop,ena,ear,epa,eex,eki⟩,ats,ate⟩:=a;have hw: ∀ (s:ByteArray)(h:A0),A6 prog 40 [A2 s] h λr h'=>r= .agg (AA s).cells/\h'=h:=λs h=>K1;have hns:name.size<=9223372036854775807:=by have:=hok.name;unfold AJ at this;simp only at this;omega
 have cN:=λ(H:A0)(hid:id<H.next)(ho:H.obj id=some (wO b))=>Mx (h:=H) (b:=b) hns hid ho;simp only[AA,Sx.cells,Sx.rows]at hw cN;simp only[FH,Fm.cells,C3,Au];have n1:(id=h.next)=False:=B4 (by omega);have n2:(h.next=id)=False:=B4 (by omega);refine Ni (ow:=λt=>t==11) (wf:=λf=>f==41||f==43||f==100||f==51||f==97) Ty.Ns func46 rfl Ty.RI (by rw[ntmps46];simp) ?_;rw[ntmps46,results46];refine Ae (λK hK=>?_);repeat'(first|refine Ae λK hK=>?_|refine uR A3 ?_|(refine uN hK ?_;clear hK)|apply zI)
 refine SB [7] (by decide+kernel) (by decide+kernel) ?_;have n3:(h.next+1+7=h.next)=False:=B4 (by omega);have n4:(h.next+1+7=id)=False:=B4 (by omega);have n5:(h.next+1+9=id)=False:=B4 (by omega);have n6:(h.next+1+7=h.next+1+9)=False:=B4 (by omega);have n7:(h.next+1+9=h.next+1+7)=False:=B4 (by omega);have n8:(id=h.next+1+7)=False:=B4 (by omega);have hN8:h.obj (h.next+1+7)=none:=hno _ (by omega);simp(maxSteps:=4000000) only[EB,Ty.w,simprocAttr,Ty.AW,Bg,ho,n1,n2,n3,n4,n5,n6,n7,n8,hN8];first
  |refine Pt [7] (by decide+kernel) (hw En _) (sr (B7 ho n1 n2 n3 n4 n5 n6 n7 n8 hN8)) ?_
  |refine Ki [7] (by decide+kernel) (hw En _) (sr (B7 ho n1 n2 n3 n4 n5 n6 n7 n8 hN8)) (by simp only[Ty.w,simprocAttr,Ty.AW,ho,n1,n2,n3,n4,n5,n6,n7,n8,hN8];try trivial) ?_
 simp(maxSteps:=4000000) only[EB,Ty.w,simprocAttr,Ty.AW,Bg,Au,ho,n1,n2,n3,n4,n5,n6,n7,n8,hN8];refine Sa [7] (by decide+kernel) (cN _ (by simp only[A0.new];omega) (sq (B7 ho n1 n2 n3 n4 n5 n6 n7 n8 hN8))) (sr (B7 ho n1 n2 n3 n4 n5 n6 n7 n8 hN8)) ?_ ?_
 ·exact ⟨sq (B7 ho n1 n2 n3 n4 n5 n6 n7 n8 hN8),by simp only[DR,BS,B5,Bg];(repeat' apply And.intro)<;>first|exact .inl (by decide+kernel)|exact(λ_ hx=>by cases hx)⟩
 simp(maxSteps:=4000000) only[EB,Ty.w,simprocAttr,Ty.AW,Bg,Au,ho,n1,n2,n3,n4,n5,n6,n7,n8,hN8];refine⟨by(repeat' apply And.intro)<;>first|exact .inl (by decide+kernel)|exact(λ_ hx=>by cases hx)|trivial,?_⟩;have hl3: ∀ H:A0,h.next+1+9<H.next->A6 prog 39 [.own (h.next+1+9) 0 2] H λr h'=>r= .agg [.sc (.int .i64 3),.sc (.int .i64 0),.sc (.int .i64 0),.sc (.int .i64 0),.sc (.string ⟨#[]⟩),.own (h.next+1+9) 0 2]/\h'=H:=λH hh=>K3 rfl (λ_=>KZ hh)
 refine Ki [7] (by decide+kernel) (hl3 _ (by simp[A0.new,A0.set])) (sr (B7 ho n1 n2 n3 n4 n5 n6 n7 n8 hN8)) (by(repeat' apply And.intro)<;>first|exact .inl (by decide+kernel)|exact(λ_ hx=>by cases hx)|trivial) ?_;simp(maxSteps:=4000000) only[EB,Ty.w,simprocAttr,Ty.AW,Bg,Au,ho,n1,n2,n3,n4,n5,n6,n7,n8,hN8];refine⟨?_,?_⟩
 ·(repeat' apply And.intro)<;>first
    |exact .inl (by decide+kernel)
    |exact .inr (CO (hw En _) (sr (B7 ho n1 n2 n3 n4 n5 n6 n7 n8 hN8)))
    |exact .inr (CO (hl3 _ (by simp[A0.new,A0.set])) (sr (B7 ho n1 n2 n3 n4 n5 n6 n7 n8 hN8)))
    |exact .inr (by simp only[Ty.w,simprocAttr,Ty.AW,ho,n1,n2,n3,n4,n5,n6,n7,n8,hN8])
    |exact(λ_ hx=>by cases hx)
    |trivial
 refine⟨?_,?_⟩
 ·(repeat' apply And.intro)<;>first
    |exact .inl (by decide+kernel)
    |exact .inr (CO (hw En _) (sr (B7 ho n1 n2 n3 n4 n5 n6 n7 n8 hN8)))
    |exact .inr (CO (hl3 _ (by simp[A0.new,A0.set])) (sr (B7 ho n1 n2 n3 n4 n5 n6 n7 n8 hN8)))
    |exact .inr (by simp only[Ty.w,simprocAttr,Ty.AW,ho,n1,n2,n3,n4,n5,n6,n7,n8,hN8])
    |exact(λ_ hx=>by cases hx)
    |trivial
 first|refine hK _ _ ?_|refine cK ?_
 try clear hK
 generalize hxi:h.next+1+7=xi
 refine Cj (λS H=> ∃ j,HQ h id xi [A2 name,.imm 2 (A7 params),.sc (.int .i64 dur),A2 sop,A2 sna,.imm 1 (AN sar),.imm 2 (A7 spa),.imm 5 (Ex.rows sex),.imm 6 (Fm.rows ski),A2 vop,A2 vna,.imm 1 (AN var_),.imm 2 (A7 vpa),.imm 5 (Ex.rows vex),.imm 6 (Fm.rows vki),A2 eop,A2 ena,.imm 1 (AN ear),.imm 2 (A7 epa),.imm 5 (Ex.rows eex),.imm 6 (Fm.rows eki),.imm 15 (Al ats),.imm 15 (Al ate)] S/\DU h id (b||!An name) xi j [AA En,AA name] H) ?_ ?_
 ·subst hxi;refine⟨h.next+1+9,⟨sq A3,sq A3,sq A3,sq A3⟩,⟨?_,⟨by omega,by simp only[A0.set,A0.new];omega,by omega,by simp only[A0.set,A0.new];omega,by omega⟩,?_,?_,?_⟩⟩
  ·refine ⟨by simp only[A0.set,A0.new];omega,λk hk hne=>?_,?_⟩
   ·simp only[A0.set,A0.new];(repeat(first|rw[A4 (by omega)]|rw[AG A3]));try exact A4 (by omega)
   ·simp only[A0.set,A0.new];repeat(first|rw[A4 (by omega)]|rw[AG A3])
  ·simp only[A0.set,A0.new];repeat(first|rw[A4 (by omega)]|rw[AG A3])
  ·simp only[A0.set,A0.new];(repeat(first|rw[A4 (by omega)]|rw[AG A3]));rfl
  ·simp only[A0.set,A0.new];(repeat(first|rw[A4 (by omega)]|rw[AG A3]));simp[AA,Sx.rows,Sx.cells]
 clear n1 n2 n3 n4 n5 n6 n7 n8 hN8 hno hwf hl3 cN;rintro S H ⟨j,⟨s0,s3,s4,s5⟩,hI⟩;generalize hb1:(b||!An name)=b1 at hI;have hL0:[AA En,AA name].length<=2:=by simp
 generalize hLe0:[AA En,AA name]=LL0 at hL0 hI;refine DA (λS H=> ∃ j,HQ h id xi [A2 name,.imm 2 (A7 params),.sc (.int .i64 dur),A2 sop,A2 sna,.imm 1 (AN sar),.imm 2 (A7 spa),.imm 5 (Ex.rows sex),.imm 6 (Fm.rows ski),A2 vop,A2 vna,.imm 1 (AN var_),.imm 2 (A7 vpa),.imm 5 (Ex.rows vex),.imm 6 (Fm.rows vki),A2 eop,A2 ena,.imm 1 (AN ear),.imm 2 (A7 epa),.imm 5 (Ex.rows eex),.imm 6 (Fm.rows eki),.imm 15 (Al ats),.imm 15 (Al ate)] S/\DU h id (b1||!(params.all (BJ true))) xi j (BL LL0 ((params.length:Int)==0) Cb (AK (AX params))) H) ?_ ?_
 ·have hat:=hI.grow.at_;obtain⟨hg,⟨i1,i2,i3,i4,i5⟩,o1,o2,o3⟩:=(show DU _ _ _ _ _ _ _ from hI);have hpl:=IA params;have cP:=Lx (h:=H) (b:=b1) (vars:=true) hsm.params hok.params.2 (by omega) hat;have cL:=λh:A0=>JV (AX params) h;have cp:=λ(m:Bool)(hx:(H.set id (wO (b1||!(params.all (BJ true))))).obj xi=some (xO j LL0.length))(hj:(H.set id (wO (b1||!(params.all (BJ true))))).obj j=some (.arr 6 (Sx.rows LL0)))=>J0 (h:=(H.set id (wO (b1||!(params.all (BJ true)))))) (xi:=xi) (j:=j) (L:=LL0) (kw:=Cb) (v:=(AK (AX params))) (m:=m) hx hj i5 i2 i4 (by omega);generalize hm:((params.length:Int)==0)=m;simp only[AK,Sx.cells,Sx.rows,Cb]at cP cL cp;replace zz:=As s0 s3 s5 hm hpl;refine wy zz ?_;replace zz:=As s0 s3 s5 hm hpl;refine uZ zz (cP) ?_;refine wy zz ?_;replace zz:=As s0 s3 s5 hm hpl;first|refine uV zz (cL _) ?_|refine uJ zz cL ?_
  refine wy zz ?_;have o1':(H.set id (wO (b1||!(params.all (BJ true))))).obj xi=some (xO j LL0.length):=(Av (by omega)).trans o2;have o2':(H.set id (wO (b1||!(params.all (BJ true))))).obj j=some (.arr 6 (Sx.rows LL0)):=(Av (by omega)).trans o3;replace zz:=As s0 s3 s5 hm hpl;refine uZ zz (cp m o1' o2') ?_;refine wy zz ?_;cases m with
  |true=>exact⟨j,⟨sq s0,sq s3,sq s4,sq s5⟩,hI.put hid⟩
  |false=>exact⟨_,⟨sq s0,sq s3,sq s4,sq s5⟩,(hI.put hid).part hid⟩
 ·have hL1:(BL LL0 ((params.length:Int)==0) Cb (AK (AX params))).length<=4:=by have:=IR LL0 ((params.length:Int)==0) Cb (AK (AX params));omega
  generalize hLe1:BL LL0 ((params.length:Int)==0) Cb (AK (AX params))=LL1 at hL1⊢;generalize hb2:(b1||!(params.all (BJ true)))=b2
  clear s0 s3 s4 s5 hI;rintro S H ⟨j,⟨s0,s3,s4,s5⟩,hI⟩;refine DA (λS H=> ∃ j,HQ h id xi [A2 name,.imm 2 (A7 params),.sc (.int .i64 dur),A2 sop,A2 sna,.imm 1 (AN sar),.imm 2 (A7 spa),.imm 5 (Ex.rows sex),.imm 6 (Fm.rows ski),A2 vop,A2 vna,.imm 1 (AN var_),.imm 2 (A7 vpa),.imm 5 (Ex.rows vex),.imm 6 (Fm.rows vki),A2 eop,A2 ena,.imm 1 (AN ear),.imm 2 (A7 epa),.imm 5 (Ex.rows eex),.imm 6 (Fm.rows eki),.imm 15 (Al ats),.imm 15 (Al ate)] S/\DU h id b2 xi j (BL LL1 (dur==1) EX (DB dur)) H) ?_ ?_
  ·have hat:=hI.grow.at_;obtain⟨hg,⟨i1,i2,i3,i4,i5⟩,o1,o2,o3⟩:=(show DU _ _ _ _ _ _ _ from hI);have cD:=λh:A0=>SZ (h:=h) (n:=dur);have cp:=λ(m:Bool)(hx:H.obj xi=some (xO j LL1.length))(hj:H.obj j=some (.arr 6 (Sx.rows LL1)))=>J0 (h:=H) (xi:=xi) (j:=j) (L:=LL1) (kw:=EX) (v:=(DB dur)) (m:=m) hx hj i5 i2 i4 (by omega);generalize hm:(dur==1)=m;simp only[DB,Sx.cells,Sx.rows,EX]at cD cp;replace zz:=Aa s0 s3 s5 hm;refine wy zz ?_;replace zz:=Aa s0 s3 s5 hm;(first|refine uV zz (cD _) ?_|refine uJ zz cD ?_);refine wy zz ?_;have o1':H.obj xi=some (xO j LL1.length):=o2;have o2':H.obj j=some (.arr 6 (Sx.rows LL1)):=o3;replace zz:=Aa s0 s3 s5 hm;refine uZ zz (cp m o1' o2') ?_;refine wy zz ?_;cases m with
   |true=>exact⟨j,⟨sq s0,sq s3,sq s4,sq s5⟩,hI⟩
   |false=>exact⟨_,⟨sq s0,sq s3,sq s4,sq s5⟩,hI.part hid⟩
  ·have hL2:(BL LL1 (dur==1) EX (DB dur)).length<=6:=(by have:=IR LL1 (dur==1) EX (DB dur);omega);generalize hLe2:BL LL1 (dur==1) EX (DB dur)=LL2 at hL2⊢;clear s0 s3 s4 s5 hI;rintro S H ⟨j,⟨s0,s3,s4,s5⟩,hI⟩;refine DA (λS H=> ∃ j,HQ h id xi [A2 name,.imm 2 (A7 params),.sc (.int .i64 dur),A2 sop,A2 sna,.imm 1 (AN sar),.imm 2 (A7 spa),.imm 5 (Ex.rows sex),.imm 6 (Fm.rows ski),A2 vop,A2 vna,.imm 1 (AN var_),.imm 2 (A7 vpa),.imm 5 (Ex.rows vex),.imm 6 (Fm.rows vki),A2 eop,A2 ena,.imm 1 (AN ear),.imm 2 (A7 epa),.imm 5 (Ex.rows eex),.imm 6 (Fm.rows eki),.imm 15 (Al ats),.imm 15 (Al ate)] S/\DU h id (b2||!(BU (.mk sop sna sar spa sex ski))) xi j (BL LL2 (Bp (.mk sop sna sar spa sex ski)) Eo (BQ (.mk sop sna sar spa sex ski))) H) ?_ ?_
   ·have hat:=hI.grow.at_;obtain⟨hg,⟨i1,i2,i3,i4,i5⟩,o1,o2,o3⟩:=(show DU _ _ _ _ _ _ _ from hI);have cA:=λh:A0=>Ks (h:=h);have cS:=λh:A0=>Io (.mk sop sna sar spa sex ski) hok.start Bv OM h;have hAl:(.mk sop sna sar spa sex ski:Fm).same Bv=Bp (.mk sop sna sar spa sex ski):=rfl;rw[hAl]at cS;have cW:=OJ (h:=H) (b:=b2) hok.start hsm.start (by omega) hat;generalize BQ (.mk sop sna sar spa sex ski)=X at cW⊢;obtain⟨yk,yv,yl,yc,yt,ys⟩:=X;have cp:=λ(m:Bool)(hx:(H.set id (wO (b2||!(BU (.mk sop sna sar spa sex ski))))).obj xi=some (xO j LL2.length))(hj:(H.set id (wO (b2||!(BU (.mk sop sna sar spa sex ski))))).obj j=some (.arr 6 (Sx.rows LL2)))=>J0 (h:=(H.set id (wO (b2||!(BU (.mk sop sna sar spa sex ski)))))) (xi:=xi) (j:=j) (L:=LL2) (kw:=Eo) (v:=(.mk yk yv yl yc yt ys)) (m:=m) hx hj i5 i2 i4 (by omega);generalize hm:(Bp (.mk sop sna sar spa sex ski))=m at cS⊢;simp only[Bv,Fm.cells,Sx.cells,Sx.rows,Eo]at cA cS cW cp;replace zz:=Aa s0 s3 s5 hm;refine wy zz ?_;replace zz:=Aa s0 s3 s5 hm;(first|refine uV zz (cA _) ?_|refine uJ zz cA ?_);refine wy zz ?_;replace zz:=Aa s0 s3 s5 hm;(first|refine uV zz (cS _) ?_|refine uJ zz cS ?_);refine wy zz ?_;replace zz:=Aa s0 s3 s5 hm;refine uZ zz (cW) ?_;refine wy zz ?_;have o1':(H.set id (wO (b2||!(BU (.mk sop sna sar spa sex ski))))).obj xi=some (xO j LL2.length):=(Av (by omega)).trans o2;have o2':(H.set id (wO (b2||!(BU (.mk sop sna sar spa sex ski))))).obj j=some (.arr 6 (Sx.rows LL2)):=(Av (by omega)).trans o3;replace zz:=Aa s0 s3 s5 hm;refine uZ zz (cp m o1' o2') ?_;refine wy zz ?_;cases m with
    |true=>exact⟨j,⟨sq s0,sq s3,sq s4,sq s5⟩,hI.put hid⟩
    |false=>exact⟨_,⟨sq s0,sq s3,sq s4,sq s5⟩,(hI.put hid).part hid⟩
   ·have hL3:(BL LL2 (Bp (.mk sop sna sar spa sex ski)) Eo (BQ (.mk sop sna sar spa sex ski))).length<=8:=(by have:=IR LL2 (Bp (.mk sop sna sar spa sex ski)) Eo (BQ (.mk sop sna sar spa sex ski));omega);generalize hLe3:BL LL2 (Bp (.mk sop sna sar spa sex ski)) Eo (BQ (.mk sop sna sar spa sex ski))=LL3 at hL3⊢;generalize hb3:(b2||!(BU (.mk sop sna sar spa sex ski)))=b3;clear s0 s3 s4 s5 hI;rintro S H ⟨j,⟨s0,s3,s4,s5⟩,hI⟩;refine DA (λS H=> ∃ j,HQ h id xi [A2 name,.imm 2 (A7 params),.sc (.int .i64 dur),A2 sop,A2 sna,.imm 1 (AN sar),.imm 2 (A7 spa),.imm 5 (Ex.rows sex),.imm 6 (Fm.rows ski),A2 vop,A2 vna,.imm 1 (AN var_),.imm 2 (A7 vpa),.imm 5 (Ex.rows vex),.imm 6 (Fm.rows vki),A2 eop,A2 ena,.imm 1 (AN ear),.imm 2 (A7 epa),.imm 5 (Ex.rows eex),.imm 6 (Fm.rows eki),.imm 15 (Al ats),.imm 15 (Al ate)] S/\DU h id (b3||!(BU (.mk vop vna var_ vpa vex vki))) xi j (BL LL3 (Bp (.mk vop vna var_ vpa vex vki)) F6 (BQ (.mk vop vna var_ vpa vex vki))) H) ?_ ?_
    ·have hat:=hI.grow.at_;obtain⟨hg,⟨i1,i2,i3,i4,i5⟩,o1,o2,o3⟩:=(show DU _ _ _ _ _ _ _ from hI);have cA:=λh:A0=>Ks (h:=h);have cS:=λh:A0=>Io (.mk vop vna var_ vpa vex vki) hok.over Bv OM h;have hAl:(.mk vop vna var_ vpa vex vki:Fm).same Bv=Bp (.mk vop vna var_ vpa vex vki):=rfl;rw[hAl]at cS;have cW:=OJ (h:=H) (b:=b3) hok.over hsm.over (by omega) hat;generalize BQ (.mk vop vna var_ vpa vex vki)=X at cW⊢;obtain⟨yk,yv,yl,yc,yt,ys⟩:=X;have cp:=λ(m:Bool)(hx:(H.set id (wO (b3||!(BU (.mk vop vna var_ vpa vex vki))))).obj xi=some (xO j LL3.length))(hj:(H.set id (wO (b3||!(BU (.mk vop vna var_ vpa vex vki))))).obj j=some (.arr 6 (Sx.rows LL3)))=>J0 (h:=(H.set id (wO (b3||!(BU (.mk vop vna var_ vpa vex vki)))))) (xi:=xi) (j:=j) (L:=LL3) (kw:=F6) (v:=(.mk yk yv yl yc yt ys)) (m:=m) hx hj i5 i2 i4 (by omega);generalize hm:(Bp (.mk vop vna var_ vpa vex vki))=m at cS⊢;simp only[Bv,Fm.cells,Sx.cells,Sx.rows,F6]at cA cS cW cp;replace zz:=Aa s0 s3 s5 hm;refine wy zz ?_;replace zz:=Aa s0 s3 s5 hm;(first|refine uV zz (cA _) ?_|refine uJ zz cA ?_);refine wy zz ?_;replace zz:=Aa s0 s3 s5 hm;(first|refine uV zz (cS _) ?_|refine uJ zz cS ?_);refine wy zz ?_;replace zz:=Aa s0 s3 s5 hm;refine uZ zz (cW) ?_;refine wy zz ?_;have o1':(H.set id (wO (b3||!(BU (.mk vop vna var_ vpa vex vki))))).obj xi=some (xO j LL3.length):=(Av (by omega)).trans o2;have o2':(H.set id (wO (b3||!(BU (.mk vop vna var_ vpa vex vki))))).obj j=some (.arr 6 (Sx.rows LL3)):=(Av (by omega)).trans o3;replace zz:=Aa s0 s3 s5 hm;refine uZ zz (cp m o1' o2') ?_;refine wy zz ?_;cases m with
     |true=>exact⟨j,⟨sq s0,sq s3,sq s4,sq s5⟩,hI.put hid⟩
     |false=>exact⟨_,⟨sq s0,sq s3,sq s4,sq s5⟩,(hI.put hid).part hid⟩
    ·have hL4:(BL LL3 (Bp (.mk vop vna var_ vpa vex vki)) F6 (BQ (.mk vop vna var_ vpa vex vki))).length<=10:=(by have:=IR LL3 (Bp (.mk vop vna var_ vpa vex vki)) F6 (BQ (.mk vop vna var_ vpa vex vki));omega);generalize hLe4:BL LL3 (Bp (.mk vop vna var_ vpa vex vki)) F6 (BQ (.mk vop vna var_ vpa vex vki))=LL4 at hL4⊢;generalize hb4:(b3||!(BU (.mk vop vna var_ vpa vex vki)))=b4;clear s0 s3 s4 s5 hI;rintro S H ⟨j,⟨s0,s3,s4,s5⟩,hI⟩;refine DA (λS H=> ∃ j,HQ h id xi [A2 name,.imm 2 (A7 params),.sc (.int .i64 dur),A2 sop,A2 sna,.imm 1 (AN sar),.imm 2 (A7 spa),.imm 5 (Ex.rows sex),.imm 6 (Fm.rows ski),A2 vop,A2 vna,.imm 1 (AN var_),.imm 2 (A7 vpa),.imm 5 (Ex.rows vex),.imm 6 (Fm.rows vki),A2 eop,A2 ena,.imm 1 (AN ear),.imm 2 (A7 epa),.imm 5 (Ex.rows eex),.imm 6 (Fm.rows eki),.imm 15 (Al ats),.imm 15 (Al ate)] S/\DU h id (b4||!(BU (.mk eop ena ear epa eex eki))) xi j (BL LL4 (Bp (.mk eop ena ear epa eex eki)) FL (BQ (.mk eop ena ear epa eex eki))) H) ?_ ?_
     ·have hat:=hI.grow.at_;obtain⟨hg,⟨i1,i2,i3,i4,i5⟩,o1,o2,o3⟩:=(show DU _ _ _ _ _ _ _ from hI);have cA:=λh:A0=>Ks (h:=h);have cS:=λh:A0=>Io (.mk eop ena ear epa eex eki) hok.stop Bv OM h;have hAl:(.mk eop ena ear epa eex eki:Fm).same Bv=Bp (.mk eop ena ear epa eex eki):=rfl;rw[hAl]at cS;have cW:=OJ (h:=H) (b:=b4) hok.stop hsm.stop (by omega) hat;generalize BQ (.mk eop ena ear epa eex eki)=X at cW⊢;obtain⟨yk,yv,yl,yc,yt,ys⟩:=X;have cp:=λ(m:Bool)(hx:(H.set id (wO (b4||!(BU (.mk eop ena ear epa eex eki))))).obj xi=some (xO j LL4.length))(hj:(H.set id (wO (b4||!(BU (.mk eop ena ear epa eex eki))))).obj j=some (.arr 6 (Sx.rows LL4)))=>J0 (h:=(H.set id (wO (b4||!(BU (.mk eop ena ear epa eex eki)))))) (xi:=xi) (j:=j) (L:=LL4) (kw:=FL) (v:=(.mk yk yv yl yc yt ys)) (m:=m) hx hj i5 i2 i4 (by omega);generalize hm:(Bp (.mk eop ena ear epa eex eki))=m at cS⊢;simp only[Bv,Fm.cells,Sx.cells,Sx.rows,FL]at cA cS cW cp;replace zz:=Aa s0 s3 s5 hm;refine wy zz ?_;replace zz:=Aa s0 s3 s5 hm;(first|refine uV zz (cA _) ?_|refine uJ zz cA ?_);refine wy zz ?_;replace zz:=Aa s0 s3 s5 hm;(first|refine uV zz (cS _) ?_|refine uJ zz cS ?_);refine wy zz ?_;replace zz:=Aa s0 s3 s5 hm;refine uZ zz (cW) ?_;refine wy zz ?_;have o1':(H.set id (wO (b4||!(BU (.mk eop ena ear epa eex eki))))).obj xi=some (xO j LL4.length):=(Av (by omega)).trans o2;have o2':(H.set id (wO (b4||!(BU (.mk eop ena ear epa eex eki))))).obj j=some (.arr 6 (Sx.rows LL4)):=(Av (by omega)).trans o3;replace zz:=Aa s0 s3 s5 hm;refine uZ zz (cp m o1' o2') ?_;refine wy zz ?_;cases m with
      |true=>exact⟨j,⟨sq s0,sq s3,sq s4,sq s5⟩,hI.put hid⟩
      |false=>exact⟨_,⟨sq s0,sq s3,sq s4,sq s5⟩,(hI.put hid).part hid⟩
     ·have hL5:(BL LL4 (Bp (.mk eop ena ear epa eex eki)) FL (BQ (.mk eop ena ear epa eex eki))).length<=12:=(by have:=IR LL4 (Bp (.mk eop ena ear epa eex eki)) FL (BQ (.mk eop ena ear epa eex eki));omega);generalize hLe5:BL LL4 (Bp (.mk eop ena ear epa eex eki)) FL (BQ (.mk eop ena ear epa eex eki))=LL5 at hL5⊢;generalize hb5:(b4||!(BU (.mk eop ena ear epa eex eki)))=b5;clear s0 s3 s4 s5 hI;rintro S H ⟨j,⟨s0,s3,s4,s5⟩,hI⟩;refine DA (λS H=> ∃ j,HQ h id xi [A2 name,.imm 2 (A7 params),.sc (.int .i64 dur),A2 sop,A2 sna,.imm 1 (AN sar),.imm 2 (A7 spa),.imm 5 (Ex.rows sex),.imm 6 (Fm.rows ski),A2 vop,A2 vna,.imm 1 (AN var_),.imm 2 (A7 vpa),.imm 5 (Ex.rows vex),.imm 6 (Fm.rows vki),A2 eop,A2 ena,.imm 1 (AN ear),.imm 2 (A7 epa),.imm 5 (Ex.rows eex),.imm 6 (Fm.rows eki),.imm 15 (Al ats),.imm 15 (Al ate)] S/\DU h id (b5||!(ats.all C2)) xi j (BL LL5 ((ats.length:Int)==0) Fg (CJ ats)) H) ?_ ?_
      ·have hat:=hI.grow.at_;obtain⟨hg,⟨i1,i2,i3,i4,i5⟩,o1,o2,o3⟩:=(show DU _ _ _ _ _ _ _ from hI);have hpl:=Md ats;have cE:=Q5 (h:=H) (b:=b5) hsm.atS.1 hok.atStart.2 hsm.atS.2 (by omega) hat;generalize CJ ats=X at cE⊢;obtain⟨yk,yv,yl,yc,yt,ys⟩:=X;have cp:=λ(m:Bool)(hx:(H.set id (wO (b5||!(ats.all C2)))).obj xi=some (xO j LL5.length))(hj:(H.set id (wO (b5||!(ats.all C2)))).obj j=some (.arr 6 (Sx.rows LL5)))=>J0 (h:=(H.set id (wO (b5||!(ats.all C2))))) (xi:=xi) (j:=j) (L:=LL5) (kw:=Fg) (v:=(.mk yk yv yl yc yt ys)) (m:=m) hx hj i5 i2 i4 (by omega);generalize hm:((ats.length:Int)==0)=m;simp only[AK,Sx.cells,Sx.rows,Fg]at cE cp;replace zz:=As s0 s3 s5 hm hpl;refine wy zz ?_;replace zz:=As s0 s3 s5 hm hpl;refine uZ zz (cE) ?_;refine wy zz ?_;have o1':(H.set id (wO (b5||!(ats.all C2)))).obj xi=some (xO j LL5.length):=(Av (by omega)).trans o2;have o2':(H.set id (wO (b5||!(ats.all C2)))).obj j=some (.arr 6 (Sx.rows LL5)):=(Av (by omega)).trans o3;replace zz:=As s0 s3 s5 hm hpl;refine uZ zz (cp m o1' o2') ?_;refine wy zz ?_;cases m with
       |true=>exact⟨j,⟨sq s0,sq s3,sq s4,sq s5⟩,hI.put hid⟩
       |false=>exact⟨_,⟨sq s0,sq s3,sq s4,sq s5⟩,(hI.put hid).part hid⟩
      ·have hL6:(BL LL5 ((ats.length:Int)==0) Fg (CJ ats)).length<=14:=(by have:=IR LL5 ((ats.length:Int)==0) Fg (CJ ats);omega);generalize hLe6:BL LL5 ((ats.length:Int)==0) Fg (CJ ats)=LL6 at hL6⊢;generalize hb6:(b5||!(ats.all C2))=b6;clear s0 s3 s4 s5 hI;rintro S H ⟨j,⟨s0,s3,s4,s5⟩,hI⟩;refine DA (λS H=> ∃ j,HQ h id xi [A2 name,.imm 2 (A7 params),.sc (.int .i64 dur),A2 sop,A2 sna,.imm 1 (AN sar),.imm 2 (A7 spa),.imm 5 (Ex.rows sex),.imm 6 (Fm.rows ski),A2 vop,A2 vna,.imm 1 (AN var_),.imm 2 (A7 vpa),.imm 5 (Ex.rows vex),.imm 6 (Fm.rows vki),A2 eop,A2 ena,.imm 1 (AN ear),.imm 2 (A7 epa),.imm 5 (Ex.rows eex),.imm 6 (Fm.rows eki),.imm 15 (Al ats),.imm 15 (Al ate)] S/\DU h id (b6||!(ate.all C2)) xi j (BL LL6 ((ate.length:Int)==0) Gf (CJ ate)) H) ?_ ?_
       ·have hat:=hI.grow.at_;obtain⟨hg,⟨i1,i2,i3,i4,i5⟩,o1,o2,o3⟩:=(show DU _ _ _ _ _ _ _ from hI);have hpl:=Md ate;have cE:=Q5 (h:=H) (b:=b6) hsm.atE.1 hok.atStop.2 hsm.atE.2 (by omega) hat;generalize CJ ate=X at cE⊢;obtain⟨yk,yv,yl,yc,yt,ys⟩:=X;have cp:=λ(m:Bool)(hx:(H.set id (wO (b6||!(ate.all C2)))).obj xi=some (xO j LL6.length))(hj:(H.set id (wO (b6||!(ate.all C2)))).obj j=some (.arr 6 (Sx.rows LL6)))=>J0 (h:=(H.set id (wO (b6||!(ate.all C2))))) (xi:=xi) (j:=j) (L:=LL6) (kw:=Gf) (v:=(.mk yk yv yl yc yt ys)) (m:=m) hx hj i5 i2 i4 (by omega);generalize hm:((ate.length:Int)==0)=m;simp only[AK,Sx.cells,Sx.rows,Gf]at cE cp;replace zz:=As s0 s3 s5 hm hpl;refine wy zz ?_;replace zz:=As s0 s3 s5 hm hpl;refine uZ zz (cE) ?_;refine wy zz ?_;have o1':(H.set id (wO (b6||!(ate.all C2)))).obj xi=some (xO j LL6.length):=(Av (by omega)).trans o2;have o2':(H.set id (wO (b6||!(ate.all C2)))).obj j=some (.arr 6 (Sx.rows LL6)):=(Av (by omega)).trans o3;replace zz:=As s0 s3 s5 hm hpl;refine uZ zz (cp m o1' o2') ?_;refine wy zz ?_;cases m with
        |true=>exact⟨j,⟨sq s0,sq s3,sq s4,sq s5⟩,hI.put hid⟩
        |false=>exact⟨_,⟨sq s0,sq s3,sq s4,sq s5⟩,(hI.put hid).part hid⟩
       ·have hL7:(BL LL6 ((ate.length:Int)==0) Gf (CJ ate)).length<=16:=(by have:=IR LL6 ((ate.length:Int)==0) Gf (CJ ate);omega);generalize hLe7:BL LL6 ((ate.length:Int)==0) Gf (CJ ate)=LL7 at hL7⊢;generalize hb7:(b6||!(ate.all C2))=b7;clear s0 s3 s4 s5 hI;rintro S H ⟨j,⟨s0,s3,s4,s5⟩,hI⟩;have hLL:Ds ⟨name,params,dur,.mk sop sna sar spa sex ski,.mk vop vna var_ vpa vex vki,.mk eop ena ear epa eex eki,ats,ate⟩=AK LL7:=(by rw[← hLe7, ← hLe6, ← hLe5, ← hLe4, ← hLe3, ← hLe2, ← hLe1, ← hLe0];try rfl);have hBB:(b||!F7 ⟨name,params,dur,.mk sop sna sar spa sex ski,.mk vop vna var_ vpa vex vki,.mk eop ena ear epa eex eki,ats,ate⟩)=b7:=by
         rw[← hb7, ← hb6, ← hb5, ← hb4, ← hb3, ← hb2, ← hb1];unfold F7;simp only;cases b<;>cases An name<;>cases params.all (BJ true)<;>cases BU (.mk sop sna sar spa sex ski)<;>cases BU (.mk vop vna var_ vpa vex vki)<;>cases BU (.mk eop ena ear epa eex eki)<;>cases ats.all C2<;>cases ate.all C2<;>rfl
        rw[hLL,hBB];obtain⟨hg,⟨i1,i2,i3,i4,i5⟩,o1,o2,o3⟩:=hI;simp only[xO]at o2;have n1:(h.next=xi)=False:=B4 (by omega);replace zz:=As s4 s5 o1 o2 n1;refine wt zz ?_;refine⟨?_,hg.set hid (AD _)⟩;simp only[AK,Sx.cells,AF,AL];refine⟨_,rfl,rfl,rfl,rfl,rfl,rfl,.inr (.inr ⟨j,0,LL7.length,Sx.rows LL7,rfl,by omega,?_,?_,?_⟩),trivial⟩
        ·simp only[A0.set];rw[A4 (by omega)];exact o3
        ·rw [Sx.rows_len];omega
        ·rw [CB,DQ (by rw[Sx.rows_len];omega)];exact Jr _ _ _
theorem A6.weak{P:Program}{f:FuncId}{args:List PV}{h:A0}{K:PV->A0->Prop}(hc:A6 P f args h λr' h'=> ∃ r h2,K r h2/\Wk (λ_=>r') h' (λ_=>r) h2):A6 P f args h K:=by
 intro β w vals sm hr;refine(hc β w vals sm hr).mono ?_;rintro e w' ⟨r',h',β',v,rfl,⟨r,h2,hK,hw⟩,sm',hrep,ex⟩;obtain⟨k1,k2,k3⟩:=hw β' w' sm';exact⟨r,h2,β',v,rfl,hK,k1,k3 0 _ hrep,ex.trans k2⟩
def FM(h:A0)(xi j:Nat)(L:List Sx):A0:=⟨h.next+18+1+1+1,λi=>if i=xi then some (xO (h.next+18+1+1) L.length)else if i=h.next+18+1+1 then some (.arr 6 (Sx.rows L))else if i=j then none else if i<h.next then h.obj i else none⟩
theorem QA{h:A0}{xi j:Nat}{L ks:List Sx}{kw:ByteArray}(hx:h.obj xi=some (xO j L.length))(hj:h.obj j=some (.arr 6 (Sx.rows L)))(hne:xi≠j)(hxl:xi<h.next)(hjl:j<h.next)(hL:L.length<=1048580)(hks:ks.length<=4194304):
  A6 prog 42 [.ptr xi 0 0,A2 kw,.imm 6 (Sx.rows ks)] h λr h'=>r=Fl []/\h'=(if ks.isEmpty=true then h else FM h xi j (L++[AK (AA kw::ks)])):=by
 have hw: ∀ (s:ByteArray)(h:A0),A6 prog 40 [A2 s] h λr h'=>r= .agg (AA s).cells/\h'=h:=λs h=>K1;simp only[AA,Sx.cells,Sx.rows]at hw;have hkl:=Sx.rows_len ks;cases q0:ks.isEmpty with
 |true=>
  have d0:decide ((ks.length:Int)>0)=false:=by rw[KM.1 q0];try rfl
  have d1:((0:Int)<(ks.length:Int))=False:=B4 (by rw[KM.1 q0];simp);refine AE func42 ntmps42 results42 Ty.UL ?_;refine wt (AV hkl d0 d1) ?_;simp only[I5,Gr];exact⟨trivial,trivial⟩
 |false=>
  have hpos:0<ks.length:=by
   cases ks with
   |nil=>cases q0
   |cons a l=>simp
  have d0:decide ((ks.length:Int)>0)=true:=by simp;omega
  have d1:((0:Int)<(ks.length:Int))=True:=Db (by omega);have hrl:(Sx.rows L).length=L.length:=Sx.rows_len L;have hb1:(1+ks.length)*72<=140737488355328:=by omega
  have hb2:(L.length+1)*72<=140737488355328:=by omega
  have htk:List.take L.length (Sx.rows L)=Sx.rows L:=DQ (by omega);have c1:(Value.int IntKind.i64 0).oneCell'=true:=rfl;have c2:(Value.string ⟨#[]⟩).oneCell'=true:=rfl;have c3:(Value.slice none 0 0).oneCell'=true:=rfl;have n1:(xi=h.next+18)=False:=B4 (by omega);have n2:(xi=h.next+18+1)=False:=B4 (by omega);have n3:(j=h.next+18)=False:=B4 (by omega);have n4:(j=h.next+18+1)=False:=B4 (by omega);simp only[xO]at hx;have hl3: ∀ H:A0,h.next+18+1<H.next->A6 prog 39 [.own (h.next+18+1) 0 (1+ks.length)] H λr h'=>r= .agg [.sc (.int .i64 3),.sc (.int .i64 0),.sc (.int .i64 0),.sc (.int .i64 0),.sc (.string ⟨#[]⟩),.own (h.next+18+1) 0 (1+ks.length)]/\h'=H:=λH hh=>K3 rfl (λ_=>KZ hh)
  refine A6.drop (A6.weak ?_);refine uG (ow:=λt=>t==15) (wf:=λ_=>false) func42 ntmps42 results42 Ty.UL ?_;refine xB 1 (AV hkl d0 d1) ?_;refine⟨?_⟩;refine Pq 13 (by decide+kernel) λK hK=>?_;simp only[LC,KL,GW,CB];simp(maxSteps:=4000000) only[Ty.w,simprocAttr,Ty.AW,c1,c2,c3,hx,hj,hrl,hkl,htk,hb1,hb2,n1,n2,n3,n4,d0,d1,AD];replace zz:=AY c1 c2 c3 hx hj hrl hkl htk hb1 hb2 n1 (Aq n2 n3 n4 d0 d1 @AD);first|refine uV zz (hw kw _) ?_|refine Ux zz (hw kw _) ?_
  refine⟨by(try simp(maxSteps:=4000000) only[Bg,Ty.w,simprocAttr,Ty.AW,c1,c2,c3,hx,hj,hrl,hkl,htk,hb1,hb2,n1,n2,n3,n4,d0,d1,AD])<;>((repeat' apply And.intro)<;>first|trivial|exact .inl (by decide+kernel)|exact .inr A3|exact .inr (CO (hw kw _) (sr (AY c1 c2 c3 hx hj hrl hkl htk hb1 hb2 n1 (Aq n2 n3 n4 d0 d1 @AD))))|exact(λ_ hx=>by cases hx)),?_⟩;try simp(maxSteps:=4000000) only[Ty.w,simprocAttr,Ty.AW,c1,c2,c3,hx,hj,hrl,hkl,htk,hb1,hb2,n1,n2,n3,n4,d0,d1,AD]
  refine⟨by(try simp(maxSteps:=4000000) only[Bg,Ty.w,simprocAttr,Ty.AW,c1,c2,c3,hx,hj,hrl,hkl,htk,hb1,hb2,n1,n2,n3,n4,d0,d1,AD])<;>((repeat' apply And.intro)<;>first|trivial|exact .inl (by decide+kernel)|exact .inr A3|exact .inr (CO (hw kw _) (sr (AY c1 c2 c3 hx hj hrl hkl htk hb1 hb2 n1 (Aq n2 n3 n4 d0 d1 @AD))))|exact(λ_ hx=>by cases hx)),?_⟩;try simp(maxSteps:=4000000) only[Ty.w,simprocAttr,Ty.AW,c1,c2,c3,hx,hj,hrl,hkl,htk,hb1,hb2,n1,n2,n3,n4,d0,d1,AD]
  replace zz:=AY c1 c2 c3 hx hj hrl hkl htk hb1 hb2 n1 (Aq n2 n3 n4 d0 d1 @AD);first|refine uV zz (hl3 _ (by simp[A0.new,A0.kill])) ?_|refine Ux zz (hl3 _ (by simp[A0.new,A0.kill])) ?_
  refine⟨by simp only[Bg];(repeat' apply And.intro)<;>first|exact .inl (by decide+kernel)|exact(λ_ hx=>by cases hx),?_⟩;have hset1: ∀ x:List PV,(Sx.rows L++[BW]).set L.length x=Sx.rows L++[x]:=λx=>by rw[NH _ _ (by omega),hrl,LD];try rfl
  have hget1:(Sx.rows L++[BW])[L.length]? =some BW:=by rw[L5 (by omega),hrl,LD];try rfl
  have hN1:(((((A0.new ⟨h.next+18,h.obj⟩ (.arr 6 [[.sc (.int .i64 1),.sc (.int .i64 0),.sc (.int .i64 0),.sc (.int .i64 0),A2 kw,.imm 6 []]])).kill (h.next+18)).new (.arr 6 ([.sc (.int .i64 1),.sc (.int .i64 0),.sc (.int .i64 0),.sc (.int .i64 0),A2 kw,.imm 6 []]::Sx.rows ks))).kill j).new (.arr 6 (Sx.rows L++[BW]))).obj (h.next+18+1+1)=some (.arr 6 (Sx.rows L++[BW])):=by simp only[A0.new,A0.kill,AH]
  have hX1:(((((A0.new ⟨h.next+18,h.obj⟩ (.arr 6 [[.sc (.int .i64 1),.sc (.int .i64 0),.sc (.int .i64 0),.sc (.int .i64 0),A2 kw,.imm 6 []]])).kill (h.next+18)).new (.arr 6 ([.sc (.int .i64 1),.sc (.int .i64 0),.sc (.int .i64 0),.sc (.int .i64 0),A2 kw,.imm 6 []]::Sx.rows ks))).kill j).new (.arr 6 (Sx.rows L++[BW]))).obj xi=some (xO j L.length):=by
   simp only[A0.new,A0.kill];rw[A4 (by omega),A4 hne,A4 (by omega),A4 (by omega),A4 (by omega)];exact hx
  have hM1:(((((A0.new ⟨h.next+18,h.obj⟩ (.arr 6 [[.sc (.int .i64 1),.sc (.int .i64 0),.sc (.int .i64 0),.sc (.int .i64 0),A2 kw,.imm 6 []]])).kill (h.next+18)).new (.arr 6 ([.sc (.int .i64 1),.sc (.int .i64 0),.sc (.int .i64 0),.sc (.int .i64 0),A2 kw,.imm 6 []]::Sx.rows ks))).kill j).new (.arr 6 (Sx.rows L++[BW]))).obj (h.next+18+1)=some (.arr 6 ([.sc (.int .i64 1),.sc (.int .i64 0),.sc (.int .i64 0),.sc (.int .i64 0),A2 kw,.imm 6 []]::Sx.rows ks)):=by
   simp only[A0.new,A0.kill];rw[A4 (by omega),A4 (by omega),AG A3]
  have hO1: ∀ i,i<h.next->i≠j->(((((A0.new ⟨h.next+18,h.obj⟩ (.arr 6 [[.sc (.int .i64 1),.sc (.int .i64 0),.sc (.int .i64 0),.sc (.int .i64 0),A2 kw,.imm 6 []]])).kill (h.next+18)).new (.arr 6 ([.sc (.int .i64 1),.sc (.int .i64 0),.sc (.int .i64 0),.sc (.int .i64 0),A2 kw,.imm 6 []]::Sx.rows ks))).kill j).new (.arr 6 (Sx.rows L++[BW]))).obj i=h.obj i:=λi hi hij=>by
   simp only[A0.new,A0.kill];rw[A4 (by omega),A4 hij,A4 (by omega),A4 (by omega),A4 (by omega)]
  have hn1:(((((A0.new ⟨h.next+18,h.obj⟩ (.arr 6 [[.sc (.int .i64 1),.sc (.int .i64 0),.sc (.int .i64 0),.sc (.int .i64 0),A2 kw,.imm 6 []]])).kill (h.next+18)).new (.arr 6 ([.sc (.int .i64 1),.sc (.int .i64 0),.sc (.int .i64 0),.sc (.int .i64 0),A2 kw,.imm 6 []]::Sx.rows ks))).kill j).new (.arr 6 (Sx.rows L++[BW]))).next=h.next+18+1+1+1:=rfl
  generalize((((A0.new ⟨h.next+18,h.obj⟩ (.arr 6 [[.sc (.int .i64 1),.sc (.int .i64 0),.sc (.int .i64 0),.sc (.int .i64 0),A2 kw,.imm 6 []]])).kill (h.next+18)).new (.arr 6 ([.sc (.int .i64 1),.sc (.int .i64 0),.sc (.int .i64 0),.sc (.int .i64 0),A2 kw,.imm 6 []]::Sx.rows ks))).kill j).new (.arr 6 (Sx.rows L++[BW]))=H1 at hN1 hX1 hM1 hO1 hn1⊢;refine IH (.ptr (h.next+18+1+1) L.length 0) [h.next+18+1+1] (.inr (by decide+kernel)) (by decide) rfl rfl (λH hH=>by
   have hH:=(hH _ (GV.2 rfl)).trans hN1;have q1:(L.length<L.length+1)=True:=Db (by omega);simp only[Ty.w,simprocAttr,Ty.AW,hH,q1,c1,c2,c3,hrl,hkl,hb2,AD]) dL ?_
  refine Jx (ob:= .arr 6 (Sx.rows L++[[.sc (.int .i64 3),.sc (.int .i64 0),.sc (.int .i64 0),.sc (.int .i64 0),.sc (.string ⟨#[]⟩),.own (h.next+18+1) 0 (1+ks.length)]])) rfl (by decide) rfl (by simp only[Ty.w,simprocAttr,Ty.AW];try rfl) (by
   simp only[Ty.w,simprocAttr,Ty.AW,hN1,hget1,hset1,c1,c2,c3,hrl,hkl,hb2,AD];try rfl) (λf q hf hq ha=>by rcases(show f=15\/f=16\/f=17 from by have hfl:=(BC.1 hq).1;simp only[Aw,Bw]at hfl;omega)with rfl|rfl|rfl<;>(simp only[KE,NK,Ak]at hq;subst hq;revert ha;decide+kernel)) dL dL ?_
  refine IH (.ptr xi 0 0) [] (.inl rfl) (by decide) rfl rfl (λH _=>by(try simp only[Ty.w,simprocAttr,Ty.AW,c1,c2,c3,hrl,hkl,hb2,AD]);try rfl) dL ?_;refine IH (.ptr xi 0 5) [] (.inl rfl) (by decide) rfl rfl (λH _=>by(try simp only[Ty.w,simprocAttr,Ty.AW,c1,c2,c3,hrl,hkl,hb2,AD]);try rfl) dL ?_;have nX:(xi=h.next+18+1+1)=False:=B4 (by omega);have hX2:=hX1;simp only[xO]at hX2;refine Jx (ob:=xO (h.next+18+1+1) (L.length+1)) rfl (by decide) rfl (by simp only[Ty.w,simprocAttr,Ty.AW];try rfl) (by
   simp only[Ty.w,simprocAttr,Ty.AW,hX2,nX,c1,c2,c3,hrl,hkl,hb2,AD];try rfl) (λf q hf hq ha=>by have hfl:=(BC.1 hq).1;simp only[Aw,Bw]at hfl;omega) dL dL ?_
  refine Ps (hK _ _ ?_);simp only[I5,Gr];have hlen:(L++[AK (AA kw::ks)]).length=L.length+1:=by simp
  have hRL:Sx.rows (L++[AK (AA kw::ks)])=Sx.rows L++[[.sc (.int .i64 3),.sc (.int .i64 0),.sc (.int .i64 0),.sc (.int .i64 0),.sc (.string ⟨#[]⟩),.imm 6 ([.sc (.int .i64 1),.sc (.int .i64 0),.sc (.int .i64 0),.sc (.int .i64 0),A2 kw,.imm 6 []]::Sx.rows ks)]]:=by simp[Sx.rows_map,AK,AA,Sx.cells,Sx.rows,A2]
  have oM:((H1.set (h.next+18+1+1) (.arr 6 (Sx.rows L++[[.sc (.int .i64 3),.sc (.int .i64 0),.sc (.int .i64 0),.sc (.int .i64 0),.sc (.string ⟨#[]⟩),.own (h.next+18+1) 0 (1+ks.length)]]))).set xi (xO (h.next+18+1+1) (L.length+1))).obj (h.next+18+1)=some (.arr 6 ([.sc (.int .i64 1),.sc (.int .i64 0),.sc (.int .i64 0),.sc (.int .i64 0),A2 kw,.imm 6 []]::Sx.rows ks)):=(Av (by omega)).trans ((Av (by omega)).trans hM1);have oN:((H1.set (h.next+18+1+1) (.arr 6 (Sx.rows L++[[.sc (.int .i64 3),.sc (.int .i64 0),.sc (.int .i64 0),.sc (.int .i64 0),.sc (.string ⟨#[]⟩),.own (h.next+18+1) 0 (1+ks.length)]]))).set xi (xO (h.next+18+1+1) (L.length+1))).obj (h.next+18+1+1)=some (.arr 6 (Sx.rows L++[[.sc (.int .i64 3),.sc (.int .i64 0),.sc (.int .i64 0),.sc (.int .i64 0),.sc (.string ⟨#[]⟩),.own (h.next+18+1) 0 (1+ks.length)]])):=(Av (by omega)).trans Cy;have hgv:Fc (h.next+18+1) 6 ([.sc (.int .i64 1),.sc (.int .i64 0),.sc (.int .i64 0),.sc (.int .i64 0),A2 kw,.imm 6 []]::Sx.rows ks) (Sx.rows L++[[.sc (.int .i64 3),.sc (.int .i64 0),.sc (.int .i64 0),.sc (.int .i64 0),.sc (.string ⟨#[]⟩),.own (h.next+18+1) 0 (1+ks.length)]]) (Sx.rows (L++[AK (AA kw::ks)])):=by
   rw[hRL];refine Fc.snoc ?_ _;simp only[Fb,Gv];exact⟨.inl A3,.inl A3,.inl A3,.inl A3,.inl A3,.inr ⟨by rw[Aw,hkl,TG ks.length 1],trivial⟩,trivial⟩
  refine⟨_,_,?_,Wk.give oM oN (by omega) hgv⟩;rw[← hlen];generalize L++[AK (AA kw::ks)]=L2;refine⟨Fl [],FM h xi j L2,⟨rfl,by simp⟩,by simp[Fl,AF,AL],by simp only[FM];omega,λi o hio=>?_⟩;simp only[FM]at hio⊢;simp only[JL];by_cases h1:i=xi
  ·subst h1;rw[AG rfl]at hio;obtain rfl:=J8 hio;exact⟨(Av (by omega)).trans ((F3 (by omega)).trans Cy),by omega,.inr (by simp[xO,Ec,B1,BT,BB])⟩
  ·rw [A4 h1]at hio;by_cases h2:i=h.next+18+1+1
   ·subst h2;rw[AG rfl]at hio;obtain rfl:=J8 hio;exact⟨Cy,by omega,.inr (by simp only[Ec];exact ID _ _)⟩
   ·rw [A4 h2]at hio;by_cases h3:i=j
    ·rw [AG h3]at hio;cases hio
    ·rw [A4 h3]at hio;by_cases h4:i<h.next
     ·rw [AG h4]at hio;exact⟨((Av h2).trans ((F3 (by omega)).trans ((Av h1).trans ((Av h2).trans (hO1 i h4 h3))))).trans hio,by omega,.inl hio⟩
     ·rw [A4 h4]at hio;cases hio
set_option maxHeartbeats 4000000
theorem Ku{x:Sx}(hok:x.ok)(hsm:x.small){w:ByteArray}{l:List Sx}(h:Bd x=some (w,l)):w.size<=AJ/\l.length<=1048576/\ ∀ y∈l,y.ok:=by
 obtain⟨kind,value,line,col,text,kids⟩:=x;simp only[Sx.ok]at hok;simp only[Sx.small]at hsm;obtain⟨_,_,_,hk,hks⟩:=hok;simp only[Bd]at h;split at h
 ·cases kids with
  |nil=>simp at h
  |cons y rest=>
   simp only at h;rw[Sx.oks_iff]at hks;cases hh:Ax y==1 with
   |false=>rw[hh]at h;simp at h
   |true=>
    rw[hh]at h;simp only[AB,Ak,Ar]at h;obtain⟨rfl,rfl⟩:=h;have hy:=hks y (by simp);have hl1:=hsm.1;refine⟨?_,by simp only[Aw]at hl1;omega,λz hz=>hks z (by simp[hz])⟩;obtain⟨ki,va,li,co,te,ks⟩:=y;simp only[Sx.ok]at hy;exact hy.2.2.1
 ·simp at h
theorem N3{kind value line col:Int}{text w:ByteArray}{kids l:List Sx}(h:Bd (.mk kind value line col text kids)=some (w,l)): ∃ y,kids=y::l/\(Ax y==1)=true/\Ah y=w:=by
 simp only[Bd]at h;split at h
 ·cases kids with
  |nil=>simp at h
  |cons y rest=>
   simp only at h;cases hh:Ax y==1 with
   |false=>rw[hh]at h;simp at h
   |true=>
    rw[hh]at h;simp only[AB,Ak,Ar]at h;obtain⟨rfl,rfl⟩:=h;exact⟨y,rfl,hh,rfl⟩
 ·simp at h
theorem OO{x:Sx}(h:A0):A6 prog 116 [.agg x.cells] h λr h'=>r= .sc (.bool (Ax x==1))/\h'=h:=by
 obtain⟨kind,value,line,col,text,kids⟩:=x;simp only[Sx.cells,Ax];refine AE func116 ntmps116 results116 Ty.dz ?_;exact wz A3
theorem Ly{x:Sx}(hok:x.ok)(h:A0):A6 prog 58 [.agg x.cells] h λr h'=>r= .sc (.bool (Bd x).isSome)/\h'=h:=by
 obtain⟨kind,value,line,col,text,kids⟩:=x;simp only[Sx.ok]at hok;obtain⟨_,_,_,hk,_⟩:=hok;generalize hF:(Bd (.mk kind value line col text kids)).isSome=F;simp only[Bd]at hF;simp only[Sx.cells];have hlen:=Sx.rows_len kids;cases k3:(kind==3)with
 |false=>
  rw[A4 (by simpa using k3)]at hF;subst hF;refine AE func58 ntmps58 results58 Ty.RK ?_;refine wm k3 ?_;try exact zI
  all_goals rfl
 |true=>
  rw[AG (by simpa using k3)]at hF;cases kids with
  |nil=>
   simp only at hF;subst hF;have q:decide (((Sx.rows []).length:Int)>0)=false:=rfl;generalize Sx.rows []=R at q hlen;refine AE func58 ntmps58 results58 Ty.RK ?_;refine wm (uu k3 q) ?_;try exact zI
   all_goals rfl
  |cons y rest=>
   simp only at hF;have q:decide (((Sx.rows (y::rest)).length:Int)>0)=true:=(by rw[hlen];simp<;>omega);have q1:((0:Int)<((Sx.rows (y::rest)).length:Int))=True:=Db (by rw[hlen];simp<;>omega);have r0:=Sx.rows_get (l:=y::rest) (i:=0) rfl;have hc:=λh:A0=>OO (x:=y) h;generalize Sx.rows (y::rest)=R at q q1 r0 hlen⊢;obtain⟨ki,va,li,co,te,ks⟩:=y;simp only[Sx.cells,Ax,Ah]at r0 hF hc;have e:F=(ki==1):=(by rw[← hF];cases ki==1<;>rfl);subst e;clear hF;refine AE func58 ntmps58 results58 Ty.RK ?_;replace zz:=Aa k3 q q1 r0;refine wt zz ?_;refine uU r0 (hc _) ?_;refine wm (uu k3 q) ?_;try exact zI
   all_goals rfl
theorem jH{w:ByteArray}(h:A0):A6 prog 109 [A2 w] h λr h'=>r= .sc (.int .i64 (Fe w))/\h'=h:=by
 unfold Fe A1 JQ JR JS;cases e1:(w.data.toList==[97,115,115,105,103,110])with
 |true=>
  refine AE func109 ntmps109 results109 Ty.PO ?_;refine wm e1 ?_;try exact zI
  all_goals rfl
 |false=>
  cases e2:(w.data.toList==[105,110,99,114,101,97,115,101])with
  |true=>
   refine AE func109 ntmps109 results109 Ty.PO ?_;refine wm (uu e1 e2) ?_;try exact zI
   all_goals rfl
  |false=>
   cases e3:(w.data.toList==[100,101,99,114,101,97,115,101])with
   |true=>
    refine AE func109 ntmps109 results109 Ty.PO ?_;refine wm (AV e1 e2 e3) ?_;try exact zI
    all_goals rfl
   |false=>
    refine AE func109 ntmps109 results109 Ty.PO ?_;refine wm (AV e1 e2 e3) ?_;try exact zI
    all_goals rfl
abbrev Lz(a:ByteArray × List ByteArray × Int):PV:= .tup [A2 a.1,.imm 1 (AN a.2.1),AO a.2.2]
theorem Sb{x:Sx}(hok:x.ok)(hsm:x.small)(h:A0):A6 prog 113 [.agg x.cells] h λr h'=>r=Lz (EV x)/\h'=h:=by
 refine A6.frz Ty.PT ?_;have hb:=Ly hok;generalize hF:EV x=F;unfold EV at hF;have bad: ∀ (c:Int)(h':A0),c=2\/c=8->F=(⟨#[]⟩,[],c)->AF h.next h' (Lz F) (.tup [A2 ⟨#[]⟩,.sc (.slice none 0 0),Aj c]):=by
  intro c h' hc hf;subst hf;have e:AO c=Aj c:=by rcases hc with rfl|rfl<;>rfl
  simp only[Lz,e,Aj,AN,B5,AF,AL];exact⟨_,rfl,rfl,.inr (.inl ⟨rfl,.inr rfl⟩),rfl,trivial⟩
 simp only[Aj]at bad;have hO:=λw l=>Ku hok hsm (w:=w) (l:=l);obtain⟨kind,value,line,col,text,kids⟩:=x;generalize hD:Bd (.mk kind value line col text kids)=D at hF hb hO;cases D with
 |none=>
  simp only at hF;simp only[Sx.cells,MN]at hb⊢;refine AE func113 ntmps113 results113 Ty.PT ?_;refine wt A3 ?_;refine uU A3 (hb _) ?_;refine wt yF ?_;exact⟨bad 2 _ (.inl rfl) hF.symm,AC.refl _⟩
 |some wl=>
  obtain⟨w,l⟩:=wl;obtain⟨hw,hl,hlo⟩:=hO w l rfl;simp only at hF;simp only[Sx.cells,NL]at hb⊢;obtain⟨y,rfl,hy1,hy2⟩:=N3 hD;have hlen:=Sx.rows_len (y::l);have r0:=Sx.rows_get (l:=y::l) (i:=0) rfl;have q1:(1:Int)<=((Sx.rows (y::l)).length:Int):=by rw[hlen];simp<;>omega
  have q0:((0:Int)<((Sx.rows (y::l)).length:Int))=True:=Db (by rw[hlen];simp<;>omega);have ht:List.take (((Sx.rows (y::l)).length:Int)-1).toNat (List.drop 1 (Sx.rows (y::l)))=Sx.rows l:=by
   simp only[Sx.rows,GW,CB,Aw];rw[DQ (by omega)]
  have hll:=Sx.rows_len l;have hwn:w.size<=9223372036854775807:=by unfold AJ at hw;omega
  have hn:=λh:A0=>FI (h:=h) hwn
  clear hD hO hlen;generalize Sx.rows (y::l)=R at r0 q1 q0 ht hb⊢;obtain⟨yk,yv,yl,yc,yt,ys⟩:=y;simp only[Ax,Ah]at hy1 hy2;subst hy2;simp only[Sx.cells]at r0;cases q2:An yt with
  |false=>
   rw[q2]at hF hn;simp only[AI]at hF;refine AE func113 ntmps113 results113 Ty.PT ?_;refine wt A3 ?_;refine uU A3 (hb _) ?_;refine wt (AV yT r0 q0) ?_;refine uU (uu r0 q0) (hn _) ?_;refine wt yF ?_;exact⟨bad 8 _ (.inr rfl) hF.symm,AC.refl _⟩
  |true=>
   rw[q2]at hF hn;simp only[AB]at hF;refine AE func113 ntmps113 results113 Ty.PT ?_;refine wt A3 ?_;refine uU A3 (hb _) ?_;refine wt (AV yT r0 q0) ?_;refine uU (uu r0 q0) (hn _) ?_;replace zz:=Aq yT q1 ht hll @CU @CV;refine wt zz ?_;refine Cd (λm S h'=>S 1= .cptr [.sc (.int .i64 kind),.sc (.int .i64 value),.sc (.int .i64 line),.sc (.int .i64 col),A2 text,.imm 6 R]/\S 22= .imm 6 (Sx.rows l)/\S 23= .sc (.int .i64 l.length)/\ ∃ (k:Nat)(p:PV)(pre:List ByteArray),S 24= .sc (.int .i64 k)/\S 5=p/\k<=l.length/\m=l.length-k/\AC h h'/\pre.length=k/\Tl h' h.next 1 p (AN pre)/\
    F=(match CF (l.drop k)with|(t,c)=>bif c==0 then(yt,pre++t,0)else(⟨#[]⟩,[],c))) l.length ?_ ?_
   ·simp only[Ty.w,simprocAttr];refine⟨0,_,[],rfl,rfl,by omega,rfl,AC.refl _,rfl,Tl.nil,?_⟩;rw[CB, ← hF];try rfl
   ·clear hF hb hn;rintro m S h' ⟨g1,g22,g23,k,p,pre,g24,g5,hk,rfl,hg,hpl,tl,hinv⟩;by_cases hlt:k<l.length
    ·have hd:decide ((k:Int)<(l.length:Int))=true:=(by simp;omega);have w7:IntKind.i64.wrap ((k:Int)+1)=k+1:=(by rw[Br (by omega) (by omega)]);obtain⟨x,hx⟩: ∃ x,l[k]? =some x:=⟨_,AU hlt⟩;have hr:=Sx.rows_get hx;have hxk:=hlo x (C7 hx);have hcw:=λh:A0=>OO (x:=x) h;rw[Cm hx]at hinv;simp only[CF]at hinv;obtain⟨ki,va,li,co,te,ks⟩:=x;simp only[Sx.ok]at hxk;have hte:te.size<=9223372036854775807:=(by have:=hxk.2.2.1;unfold AJ at this;omega);simp only[Sx.cells,Ax]at hr hcw;simp only[Ax,Ah]at hinv;have tl2:=tl.up (h':=(h'.new (.arr 6 [[.sc (.int .i64 0),.sc (.int .i64 0),.sc (.int .i64 0),.sc (.int .i64 0),.sc (.string ⟨#[]⟩),.sc (.slice none 0 0)]])).set h'.next (.arr 6 [[.sc (.int .i64 ki),.sc (.int .i64 va),.sc (.int .i64 li),.sc (.int .i64 co),A2 te,.imm 6 (Sx.rows ks)]])) (by simp[A0.new,A0.set]) λj hj _=>by
      simp only[A0.set,A0.new];rw[A4 (by omega),A4 (by omega)]
     have hg2:AC h ((h'.new (.arr 6 [[.sc (.int .i64 0),.sc (.int .i64 0),.sc (.int .i64 0),.sc (.int .i64 0),.sc (.string ⟨#[]⟩),.sc (.slice none 0 0)]])).set h'.next (.arr 6 [[.sc (.int .i64 ki),.sc (.int .i64 va),.sc (.int .i64 li),.sc (.int .i64 co),A2 te,.imm 6 (Sx.rows ks)]])):=(hg.new _).set hg.le _;cases q3:(ki==1)with
     |false=>
      rw[q3]at hinv hcw;simp only[AI]at hinv;replace zz:=Ag g1 g22 g23 g24 g5 hd hr;refine wt zz ?_;replace zz:=Aq g1 g22 g23 g24 g5 hr;refine uU zz (hcw _) ?_;replace zz:=Aq g1 g22 g23 g24 g5 yF;refine wt zz ?_;exact⟨bad 2 _ (.inl rfl) hinv,hg2⟩
     |true=>
      rw[q3]at hinv hcw;simp only[AB]at hinv;have hc:=λh:A0=>We (h:=h) hte;generalize C8 te=b at hc hinv;cases b with
      |false=>
       simp only[AI]at hinv;replace zz:=Ag g1 g22 g23 g24 g5 hd hr;refine wt zz ?_;replace zz:=Aq g1 g22 g23 g24 g5 hr;refine uU zz (hcw _) ?_;replace zz:=Aq g1 g22 g23 g24 g5 yT;refine wt zz ?_;replace zz:=As g1 g22 g23 g24 g5;refine uU zz (hc _) ?_;replace zz:=Aq g1 g22 g23 g24 g5 yF;refine wt zz ?_;exact⟨bad 8 _ (.inr rfl) hinv,hg2⟩
      |true=>
       simp only[AB]at hinv;obtain⟨H,t1,t2,t3,t4,t5⟩:=tl2.tail;have hpr:(AN pre).length=k:=(by rw[Gb];exact hpl);have hb:(k+1)*16<=140737488355328:=(by omega);replace zz:=Ag g1 g22 g23 g24 g5 hd hr;refine wt zz ?_;replace zz:=Aq g1 g22 g23 g24 g5 hr;refine uU zz (hcw _) ?_;replace zz:=Aq g1 g22 g23 g24 g5 yT;refine wt zz ?_;replace zz:=As g1 g22 g23 g24 g5;refine uU zz (hc _) ?_;replace zz:=E7 g1 g22 g23 g24 g5 w7 yT t1 t2 hpr hb;(repeat'(first|refine cK ?_|refine nK ?_|refine uR zz ?_|refine uQ zz λK hK=>?_|refine uK ?_|refine Bo zz ?_|(refine uN hK ?_;clear hK)|(rw[AG];rotate_left 1;omega;simp only[Ty.w,simprocAttr,g1,g22,g23,g24,g5,w7,Ap,t1,t2,hpr,hb])|apply zI));have t3':H.next=h'.next+1:=by rw[t3];simp[A0.new,A0.set]
       have hkp:=t5 h ⟨hg2.le,hg2.old⟩ (AD _);have hgH:AC h H:=⟨hkp.1,hkp.2⟩;have hap:AN pre++[[PV.sc (.string te)]]=AN (pre++[te]):=(by simp[AN]);rw[hap];refine⟨l.length-(k+1),by omega,k+1,.own H.next 0 (k+1),pre++[te],by simp,by rw[t3'],by omega,rfl,hgH.new _,by simp[hpl],Tl.grow hkp.1 (by rw[Gb];simp[hpl]),?_⟩;rw[hinv];generalize CF (List.drop (k+1) l)=W;obtain⟨t,c⟩:=W;cases hq:c==0 with
       |false=>simp only[hq,AI]
       |true=>simp only[hq,AB,D8,HW,C3,Au]
    ·have hd:decide ((k:Int)<(l.length:Int))=false:=(by simp;omega);rw[D3 (by omega)]at hinv;simp only[CF,D8,AB,J5]at hinv;replace zz:=BO g1 g22 g23 g24 g5 hd r0 q0;refine wt zz ?_;subst hinv;refine⟨?_,hg⟩;have h1:=VI tl;have e2:AO 0= .sc .nilIface:=rfl;simp only[Lz,e2];unfold AF;refine⟨_,rfl,?_⟩;unfold AL;refine⟨by simp only[AF],?_⟩;unfold AL;refine⟨h1,?_⟩;unfold AL;exact⟨by simp only[AF],by simp only[AL]⟩
set_option maxHeartbeats 8000000
theorem jI(n:Nat)(c:Ch):BT n (Di c):=by
 obtain⟨k,P,⟨gop,gna,gar,gpa,gex,gki⟩,nm,a,⟨eop,ena,en,ear,eki⟩⟩:=c;simp only[Di,Fm.cells,Ex.cells,C3,Au,BT,BB,FQ,Da];exact⟨Bu _ _,DO _ _,Bu _ _,Dq _ _,EO _ _,DO _ _,DO _ _,Dq _ _⟩
theorem Wn(n:Nat)(h:A0)(c:Ch):AL n h (Di c) (Di c):=by
 obtain⟨k,P,⟨gop,gna,gar,gpa,gex,gki⟩,nm,a,⟨eop,ena,en,ear,eki⟩⟩:=c;simp only[Di,Fm.cells,Ex.cells,C3,Au,AL,AF,FQ,Da];exact⟨.inl (Bu _ _),.inl (DO _ _),.inl (Bu _ _),.inl (Dq _ _),.inl (EO _ _),.inl (DO _ _),.inl (DO _ _),.inl (Dq _ _)⟩
theorem Sc(n:Nat): ∀ l:List Ch,B1 n (Al l)
 |[]=>by simp only[Al,B5,B1]
 |c::l=>by
  have:=Sc n l;simp only[Al,BS,B1]at this⊢;exact⟨jI n c,this⟩
theorem Wo(n:Nat)(h:A0): ∀ l:List Ch,Cr n h (Al l) (Al l)
 |[]=>by simp only[Al,B5,Cr]
 |c::l=>by
  have:=Wo n h l;simp only[Al,BS,Cr]at this⊢;exact⟨Wn n h c,this⟩
theorem Wp{P:List Pm}{W:List Fm}{k:Int}{n:ByteArray}{a:List ByteArray}{v:Ex}(hp:P.length<=1099511627776)(hwl:W.length<=1099511627776)(h:A0):
  A6 prog 114 [.agg [.imm 2 (A7 P),.imm 6 (Fm.rows W)],.sc (.int .i64 k),A2 n,.imm 1 (AN a),.agg v.cells] h λr h'=>r= .agg (Di (F5 ⟨P,W⟩ k n a v))/\h'=h:=by
 refine A6.frz Ty.PU ?_;have hcP:=λh:A0=>iA (l:=P) hp h;have hcF:=λh:A0=>iC (l:=W) hwl h;have hda:=λh:A0=>Ks (h:=h);simp only[Bv,Fm.cells,AN,A7,Ex.rows,Fm.rows,B5]at hda;have hwl2:=Fm.rows_len W;have Ck: ∀ (H:A0)(c:Ch)(z:Ab),AC h H->c=F5 ⟨P,W⟩ k n a v->AF h.next (H.set h.next (.arr 15 [Di c])) (.agg (Di (F5 ⟨P,W⟩ k n a v))) (.agg (Di c))/\AC h (H.set h.next (.arr 15 [Di c])):=λH c z g e=>⟨by
  rw[← e];simp only[AF];exact⟨_,rfl,Wn _ _ _⟩,g.set (AD _) _⟩
 obtain⟨eop,ena,en,ear,eki⟩:=v;simp only[Ex.cells]at Ck⊢;cases W with
 |nil=>
  have q0:(((Fm.rows []).length:Int)==0)=true:=rfl;have fin0:=λH g=>Ck H ⟨k,P,Bv,n,a,.mk eop ena en ear eki⟩ (.arr 0 []) g rfl;generalize F5 ⟨P,[]⟩ k n a (.mk eop ena en ear eki)=C at fin0⊢;simp only[Di,Bv,Fm.cells,Ex.cells,C3,Au,AN,A7,Ex.rows,Fm.rows,B5]at fin0;generalize Fm.rows []=R at q0⊢;refine AE func114 ntmps114 results114 Ty.PU ?_;refine wy A3 ?_;first|refine uV A3 (hcP _) ?_|refine uA A3 (hcP _) ?_
  refine wy A3 ?_;first|refine uV A3 (hda _) ?_|refine uA A3 (hda _) ?_
  refine⟨?_,?_⟩
  ·simp only[Bg,Ty.w,simprocAttr,Ty.AW]
   (repeat' apply And.intro)<;>first
    |exact .inl (by decide+kernel)
    |exact .inr (CO (hcP _) (sr A3))
    |exact .inr (CO (hda _) (sr A3))
    |exact .inr A3
    |exact λ_ hx=>nomatch hx
  refine wy (uu q0 @B2) ?_;exact fin0 _ (((((AC.refl h).new _).new _).set (by omega) _))
 |cons f W2=>
  cases W2 with
  |nil=>
   have q0:(((Fm.rows [f]).length:Int)==0)=false:=rfl;have q1:(((Fm.rows [f]).length:Int)==1)=true:=rfl;have q2:((0:Int)<((Fm.rows [f]).length:Int))=True:=Db (by rw[hwl2];simp);have r0:(Fm.rows [f])[0]? =some f.cells:=rfl;have fin0:=λH g=>Ck H ⟨k,P,f,n,a,.mk eop ena en ear eki⟩ (.arr 0 []) g rfl;generalize F5 ⟨P,[f]⟩ k n a (.mk eop ena en ear eki)=C at fin0⊢;obtain⟨gop,gna,gar,gpa,gex,gki⟩:=f;simp only[Di,Fm.cells,Ex.cells,C3,Au]at fin0 r0;generalize Fm.rows [_]=R at q0 q1 q2 r0⊢;refine AE func114 ntmps114 results114 Ty.PU ?_;refine wy A3 ?_;(first|refine uV A3 (hcP _) ?_|refine uA A3 (hcP _) ?_);refine wy A3 ?_;(first|refine uV A3 (hda _) ?_|refine uA A3 (hda _) ?_);refine⟨?_,?_⟩
   ·simp only[Bg,Ty.w,simprocAttr,Ty.AW]
    (repeat' apply And.intro)<;>first
     |exact .inl (by decide+kernel)
     |exact .inr (CO (hcP _) (sr A3))
     |exact .inr (CO (hda _) (sr A3))
     |exact .inr A3
     |exact λ_ hx=>nomatch hx
   replace zz:=As q0 q1 q2 r0 @B2;refine wy zz ?_;exact fin0 _ ((((((AC.refl h).new _).new _).set (by omega) _).set (by omega) _))
  |cons g W3=>
   have q0:(((Fm.rows (f::g::W3)).length:Int)==0)=false:=(by rw[hwl2];simp;omega);have q1:(((Fm.rows (f::g::W3)).length:Int)==1)=false:=(by rw[hwl2];simp;omega);have fin0:=λH g'=>Ck H ⟨k,P,.mk Bc ⟨#[]⟩ [] [] [] (f::g::W3),n,a,.mk eop ena en ear eki⟩ (.arr 0 []) g' rfl;generalize F5 ⟨P,f::g::W3⟩ k n a (.mk eop ena en ear eki)=C at fin0⊢;simp only[Di,Fm.cells,Ex.cells,C3,Au,AN,A7,Ex.rows,B5]at fin0;simp only[AN,A7]at hcP hcF hda⊢;generalize Fm.rows (f::g::W3)=R at q0 q1 fin0 hcF⊢;refine AE func114 ntmps114 results114 Ty.PU ?_;refine wy A3 ?_;(first|refine uV A3 (hcP _) ?_|refine uA A3 (hcP _) ?_);refine wy A3 ?_;(first|refine uV A3 (hda _) ?_|refine uA A3 (hda _) ?_);refine⟨?_,?_⟩
   ·simp only[Bg,Ty.w,simprocAttr,Ty.AW]
    (repeat' apply And.intro)<;>first
     |exact .inl (by decide+kernel)
     |exact .inr (CO (hcP _) (sr A3))
     |exact .inr (CO (hda _) (sr A3))
     |exact .inr A3
     |exact λ_ hx=>nomatch hx
   refine wy (AV q0 q1 @B2) ?_;refine uU @B2 (hcF _) ?_;(repeat'(first|refine cK ?_|(refine nK ?_;try exact zI)|refine Ae λK hK=>?_|((first|refine BZ ?_|refine ES ?_);simp only[Ty.w,simprocAttr,B2,Je])|(refine hK _ _ ?_;clear hK;(try simp only[Ao,simprocAttr]))));exact fin0 _ ((((((AC.refl h).new _).new _).set (by omega) _).set (by omega) _))
theorem K5{c:Int}(h:(c==0)=false):AO c=Aj c:=by simp only[AO,h,AI]
theorem K6{c:Int}(h:(c==0)=true):AO c= .sc .nilIface:=by simp only[AO,h,AB]
theorem GM{n:Nat}{H:A0}{c:Int}(hc:(c==0)=false):AF n H (.tup [.imm 15 (Al []),AO c]) (.tup [.sc (.slice none 0 0),Aj c]):=by
 rw[K5 hc];simp only[Aj,Al,B5,AF,AL];exact⟨_,rfl,.inr (.inl ⟨rfl,.inr rfl⟩),rfl,trivial⟩
theorem jJ{n:Nat}{H:A0}{l:List Ch}{c:Int}(hc:(c==0)=true):AF n H (.tup [.imm 15 (Al l),AO c]) (.tup [.imm 15 (Al l),.sc .nilIface]):=by
 rw[K6 hc];simp only[AF,AL];exact⟨_,rfl,.inl ⟨rfl,Sc _ _⟩,rfl,trivial⟩
theorem jK{P:List Pm}{W:List Fm}{k:Int}(hp:P.length<=1099511627776)(hwl:W.length<=1099511627776){kind value line col:Int}{text:ByteArray}{y:Sx}{rest:List Sx}
  (hok: ∀ z∈rest,z.ok)(hsm: ∀ z∈rest,z.small)(hl:rest.length<=1048576)(h:A0):
  A6 prog 110 [.agg [.imm 2 (A7 P),.imm 6 (Fm.rows W)],.sc (.int .i64 k),.agg [.sc (.int .i64 kind),.sc (.int .i64 value),.sc (.int .i64 line),.sc (.int .i64 col),A2 text,.imm 6 (Sx.rows (y::rest))]] h λr h'=>
   r= .tup [.imm 15 (Al (GJ ⟨P,W⟩ k rest).1),AO (GJ ⟨P,W⟩ k rest).2]/\h'=h:=by
 refine A6.frz Ty.Nu ?_;have hlen:=Sx.rows_len (y::rest);generalize hF:GJ ⟨P,W⟩ k rest=F;cases q3:(((Sx.rows (y::rest)).length:Int) !=3)with
 |true=>
  have e:F=([],2):=by
   rw[← hF]
   match rest,q3,hlen with
   |[],_,_=>rfl
   |[_],_,_=>rfl
   |[_,_],q,hlen=>rw[hlen]at q;simp at q
   |_::_::_::_,_,_=>rfl
  subst e;generalize Sx.rows (y::rest)=R at q3⊢;refine AE func110 ntmps110 results110 Ty.Nu ?_;refine wt q3 ?_;exact⟨GM (c:=2) rfl,AC.refl _⟩
 |false=>
  obtain⟨a,e,rfl⟩: ∃ a e,rest=[a,e]:=by
   match rest,q3,hlen with
   |[],q,hlen=>rw[hlen]at q;simp at q
   |[_],q,hlen=>rw[hlen]at q;simp at q
   |[a,e],_,_=>exact⟨a,e,rfl⟩
   |_::_::_::l,q,hlen=>rw[hlen]at q;simp at q;omega
  have ca:=λh:A0=>Sb (hok a (by simp)) (hsm a (by simp)) h;have ce:=λh:A0=>gG (x:=e) (hok e (by simp)) h;have r1:=Sx.rows_get (l:=[y,a,e]) (i:=1) rfl;have r2:=Sx.rows_get (l:=[y,a,e]) (i:=2) rfl;have d1:((1:Int)<((Sx.rows [y,a,e]).length:Int))=True:=Db (by rw[hlen];simp);have d2:((2:Int)<((Sx.rows [y,a,e]).length:Int))=True:=Db (by rw[hlen];simp);simp only[GJ]at hF;generalize Sx.rows [y,a,e]=R at q3 r1 r2 d1 d2⊢;generalize EV a=A at ca hF;obtain⟨an,aa,ac⟩:=A;have cc:=λ(v:Ex)(h:A0)=>Wp (k:=k) (n:=an) (a:=aa) (v:=v) hp hwl h;obtain⟨ak,av,al,aco,atx,ass⟩:=a;simp only[Lz,Sx.cells]at ca r1;simp only at hF;cases z1:(ac==0)with
  |false=>
   rw[z1,AI]at hF;subst hF;rw[K5 z1]at ca;simp only[Aj]at ca;refine AE func110 ntmps110 results110 Ty.Nu ?_;refine wt (AV q3 r1 d1) ?_;refine uU (uu r1 d1) (ca _) ?_;refine wt @B2 ?_;exact⟨GM z1,AC.refl _⟩
  |true=>
   rw[z1,AB]at hF;rw[K6 z1]at ca;generalize Gw e=E at ce hF;obtain⟨ev,ec⟩:=E;obtain⟨ek,eva,el,eco,et,es⟩:=e;simp only[Sx.cells]at ce r2;simp only at hF;cases z2:(ec==0)with
   |false=>
    rw[z2,AI]at hF;subst hF;rw[K5 z2]at ce;obtain⟨eop,ena,en,ear,eki⟩:=ev;simp only[Aj,Ex.cells]at ce;refine AE func110 ntmps110 results110 Ty.Nu ?_;refine wt (AV q3 r1 d1) ?_;refine uU (uu r1 d1) (ca _) ?_;refine wt (uu r2 d2) ?_;refine uU (uu r2 d2) (ce _) ?_;refine wt @B2 ?_;exact⟨GM z2,((AC.refl h).new _).set (AD _) _⟩
   |true=>
    rw[z2,AB]at hF;rw[K6 z2]at ce;have cc:=cc ev;have efin:=λH=>jJ (n:=h.next) (H:=H) (l:=F.1) (c:=F.2) (by rw[← hF];try rfl);subst hF;generalize F5 ⟨P,W⟩ k an aa ev=C at cc efin⊢;obtain⟨eop,ena,en,ear,eki⟩:=ev;obtain⟨ck,cP,⟨gop,gna,gar,gpa,gex,gki⟩,cn,cargs,⟨vop,vna,vn,var,vki⟩⟩:=C;simp only[Di,Al,BS,B5,Fm.cells,Ex.cells,C3,Au]at ce cc efin⊢;refine AE func110 ntmps110 results110 Ty.Nu ?_;refine wt (AV q3 r1 d1) ?_;refine uU (uu r1 d1) (ca _) ?_;refine wt (uu r2 d2) ?_;refine uU (uu r2 d2) (ce _) ?_;refine wt @B2 ?_;refine uU @B2 (cc _) ?_;refine wt @B2 ?_;exact⟨efin _,((AC.refl h).new _).set (AD _) _⟩
end Go.Proofs.YtblgchkahpgdjaaGreat
