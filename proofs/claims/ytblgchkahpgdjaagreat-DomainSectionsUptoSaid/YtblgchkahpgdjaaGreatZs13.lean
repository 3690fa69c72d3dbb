/- What the claim rests on, part 13: the abstract machine, contracts of the functions, plain data. -/
import Derived.Test.YtblgchkahpgdjaaGreatZs12
set_option linter.unusedVariables false
set_option linter.unusedSimpArgs false
set_option linter.unusedSectionVars false
namespace Go.Proofs.YtblgchkahpgdjaaGreat
open Go.AM Go.Proofs.Tryz
set_option maxHeartbeats 8000000
set_option maxRecDepth 20000
structure LG(h:A1)(id:Nat)(b:Bool)(l:List Sx)(h':A1):Prop where
 grow:CQ h id (wO b) h'
 ex: ∃ j,h.next+1+1<h'.next/\j≠h.next+1+1/\h.next<j/\j<h'.next/\
  h'.obj h.next=some (.arr 6 [Bj])/\
  h'.obj (h.next+1+1)=some (.arr 6 [[.sc (.int .i64 3),.sc (.int .i64 0),.sc (.int .i64 0),.sc (.int .i64 0),.sc (.string ⟨#[]⟩),.own j 0 l.length]])/\
  h'.obj j=some (.arr 6 (Sx.rows l))
theorem LG.pJ{h h':A1}{id:Nat}{b:Bool}{l:List Sx}{o o2:An}(i:LG h id b l h')(hid:id<h.next):LG h id b l ((h'.new o).set h'.next o2):=by
 obtain⟨hg,j,h1,h2,h3,h4,p1,p2,p3⟩:=i;refine⟨(hg.new hid).set hid hg.le,j,by simp only[A1.new,A1.set];omega,h2,h3,by simp only[A1.new,A1.set];omega,?_,?_,?_⟩
 ·simp only[A1.set,A1.new];rw[A8 (by omega),A8 (by omega)];exact p1
 ·simp only[A1.set,A1.new];rw[A8 (by omega),A8 (by omega)];exact p2
 ·simp only[A1.set,A1.new];rw[A8 (by omega),A8 (by omega)];exact p3
theorem LG.push{h h':A1}{id j:Nat}{b:Bool}{l:List Sx}{x:Sx}(hg:CQ h id (wO b) h')(hid:id<h.next)(h1:h.next+1+1<h'.next)(h2:j≠h.next+1+1)(h3:h.next<j)(h4:j<h'.next)(o1:h'.obj h.next=some (.arr 6 [Bj])):
  LG h id b (l++[x]) (((h'.kill j).new (.arr 6 (Sx.rows l++[x.cells]))).set (h.next+1+1) (.arr 6 [[.sc (.int .i64 3),.sc (.int .i64 0),.sc (.int .i64 0),.sc (.int .i64 0),.sc (.string ⟨#[]⟩),.own h'.next 0 (l.length+1)]])):=by
 have e:Sx.rows (l++[x])=Sx.rows l++[x.cells]:=by rw[Sx.rows_map,Sx.rows_map];simp
 refine⟨((hg.kill hid (by omega)).new hid).set hid (by omega),h'.next,?_,?_,?_,?_,?_,?_,?_⟩
 ·simp only[A1.set,A1.new,A1.kill];omega
 ·omega
 ·omega
 ·simp only[A1.set,A1.new,A1.kill];omega
 ·have a1:¬ h.next=h.next+1+1:=by omega
  have a2:¬ h.next=h'.next:=by omega
  have a3:¬ h.next=j:=by omega
  simp only[A1.set,A1.new,A1.kill,a1,a2,a3,AQ];exact o1
 ·simp only[A1.set,AO,List.length_append,List.length_cons,List.length_nil]
 ·have a1:¬ h'.next=h.next+1+1:=by omega
  simp only[A1.set,A1.new,A1.kill,a1,AQ,AO,e]
theorem QF{h:A1}{id:Nat}{b:Bool}{l:List Ch}(hl:l.length<=1048576)(hok: ∀ c∈l,c.ok)(hsm: ∀ c∈l,FV c)(hid:id<h.next)(ho:h.obj id=some (wO b)):
  A6 prog 51 [.ptr id 0 0,.A2 15 (Ae l)] h λr h'=>r= .agg (CS l).cells/\h'=h.set id (wO (b||!(l.all CA))):=by
 refine A6.LS Ty.RX ho (LC _ _) ?_;have hll:=Ko l;have hw: ∀ (s:ByteArray)(h:A1),A6 prog 40 [A4 s] h λr h'=>r= .agg (A7 s).cells/\h'=h:=λs h=>KB;simp only[A7,Sx.cells,Sx.rows]at hw;have hE:CS l=(bif l.isEmpty then AE []else AE (A7 Bo::l.map F3)):=rfl;cases q0:((l.length:Int)==0)with
 |true=>
  have e0:l=[]:=by have:=eq_of_beq q0;exact List.length_eq_zero_iff.1 (by omega)
  rw[hE,e0];simp only[List.isEmpty_nil,AC,List.all_nil,Av,Gq];subst e0;have hl0:=λh:A1=>KC (h:=h) (p:= .sc (.slice none 0 0)) rfl (λ_=>by simp only[AJ]);refine AF func51 ntmps51 results51 Ty.RX ?_;repeat'(first|refine Af λK hK=>?_|refine uR (uu hll q0) ?_|(refine uN hK ?_;clear hK)|apply zI)
  refine uU A5 (hl0 _) ?_;repeat'(first|refine uT A5 ?_|(refine uN hK ?_;clear hK)|apply zI)
  refine⟨?_,((CQ.refl ho).new hid).set hid (AG _)⟩;simp only[AE,Sx.cells,Sx.rows,AJ,AP];exact⟨_,rfl,rfl,rfl,rfl,rfl,rfl,.inr (.inl ⟨rfl,.inr rfl⟩),trivial⟩
 |false=>
  have e0:l.isEmpty=false:=by cases l with
   |nil=>simp at q0
   |cons=>rfl
  rw[hE,e0,AL]
  clear hE e0;generalize hF:(b||!(l.all CA))=F;refine uG (ow:=λt=>t==13) (wf:=λf=>f==107||f==41||f==43||f==100||f==51) func51 ntmps51 results51 Ty.RX ?_;replace zz:=uu hll q0;repeat'(first|refine Af λK hK=>?_|refine uR zz ?_|refine uK ?_|refine C2 zz ?_|(refine uN hK ?_;clear hK)|apply zI)
  refine uU A5 (hw Bo _) ?_;try apply zI
  refine uU A5 (KC (p:= .own (h.next+1) 0 1) rfl (λ_=>Kt (by simp[A1.new]))) ?_;repeat'(first|refine Af λK hK=>?_|refine Ci ?_|refine uR hll ?_|(refine uN hK ?_;clear hK)|apply zI)
  refine CG (λm S h'=>S 0= .ptr id 0 0/\S 4= .ptr h.next 0 0/\S 5= .ptr (h.next+1+1) 0 0/\S 15= .A2 15 (Ae l)/\S 16= .sc (.int .i64 l.length)/\ ∃ (k:Nat)(b':Bool),S 17= .sc (.int .i64 k)/\k<=l.length/\m=l.length-k/\LG h id b' (A7 Bo::(l.take k).map F3) h'/\F=(b'||!((l.drop k).all CA))) l.length ?_ ?_
  ·simp only[Ty.w,simprocAttr];refine⟨0,b,rfl,by omega,rfl,⟨?_,h.next+1,by simp[A1.new,A1.set],by omega,by omega,by simp[A1.new,A1.set],?_,?_,?_⟩,by rw[List.drop_zero];exact hF.symm⟩
   ·exact ((((CQ.refl ho).new hid).new hid).new hid).set hid (by omega)
   ·simp only[A1.new,A1.set];repeat(first|rw[A8 (by omega)]|rw[AK A5])
   ·simp only[A1.new,A1.set];(repeat(first|rw[A8 (by omega)]|rw[AK A5]));try rfl
   ·simp only[A1.new,A1.set];(repeat(first|rw[A8 (by omega)]|rw[AK A5]));simp[A7,Sx.rows,Sx.cells]
  ·clear hF;rintro m S h' ⟨g0,g4,g5,g15,g16,k,b',g17,hk,rfl,hI,hinv⟩;by_cases hlt:k<l.length
   ·have hd:decide ((k:Int)<(l.length:Int))=true:=(by simp;omega);have w7:IntKind.i64.wrap ((k:Int)+1)=k+1:=(by rw[BZ (by omega) (by omega)]);obtain⟨c,hx⟩: ∃ c,l[k]? =some c:=⟨_,List.getElem?_eq_getElem hlt⟩;have hr:=No hx;have hcc:=λ(H:A1)(b':Bool)(hid':id<H.next)(ho':H.obj id=some (wO b'))=>km (h:=H) (b:=b') (hok c (List.mem_of_getElem? hx)) (hsm c (List.mem_of_getElem? hx)) hid' ho';rw[Cd hx,List.all_cons]at hinv;have htk:(l.take (k+1)).map F3=(l.take k).map F3++[F3 c]:=(by rw[List.take_add_one,hx];simp);generalize CA c=q at hcc hinv;generalize F3 c=X at hcc htk;have hlen:(A7 Bo::(l.take k).map F3).length=k+1:=(by simp;omega);have hcon:A7 Bo::(l.take (k+1)).map F3=(A7 Bo::(l.take k).map F3)++[X]:=(by rw[htk];try rfl);generalize(A7 Bo::(l.take k).map F3)=L at hI hlen hcon;clear htk;obtain⟨kind,params,⟨gop,gna,gar,gpa,gex,gki⟩,name,args,⟨eop,ena,en,ear,eki⟩⟩:=c;simp only[CZ,Fm.cells,Ex.cells,List.cons_append,List.nil_append]at hr hcc;obtain⟨xk,xv,xl,xc,xt,xs⟩:=X;simp only[Sx.cells]at hcc;replace zz:=BT g0 g4 g5 g15 g16 g17 hd hr;(repeat'(first|with_reducible refine Px 7 ?_|refine Af λK hK=>?_|refine uR zz ?_|refine uK ?_|refine C2 zz ?_|(refine uN hK ?_;clear hK)|apply zI));refine⟨?_⟩;refine Cq (λS H=>S 0= .ptr id 0 0/\S 4= .ptr h.next 0 0/\S 5= .ptr (h.next+1+1) 0 0/\S 15= .A2 15 (Ae l)/\S 16= .sc (.int .i64 l.length)/\S 17= .sc (.int .i64 k)/\ ∃ j7,S 7= .ptr j7 0 0/\h.next+1+1<j7/\H.obj j7=some (.arr 15 [[.sc (.int .i64 kind),.A2 2 (A9 params),A4 gop,A4 gna,.A2 1 (AN gar),.A2 2 (A9 gpa),.A2 5 (Ex.rows gex),.A2 6 (Fm.rows gki),A4 name,.A2 1 (AN args),A4 eop,A4 ena,.sc (.int .i64 en),.A2 1 (AN ear),.A2 5 (Ex.rows eki)]])/\LG h id b' L H) ?_ ?_
    ·obtain ⟨_,hlt2,_⟩:=hI.ex;exact⟨sq g0,sq g4,sq g5,sq g15,sq g16,sq g17,h'.next,sq A5,hlt2,by simp only[A1.set,AO],hI.pJ hid⟩
    ·clear g0 g4 g5 g15 g16 g17 hI hd hr;rintro S H ⟨g0,g4,g5,g15,g16,g17,j7,g7,hj7,ho7,hI⟩;have Fs:(b'||!q)=(b'||!q)/\F=((b'||!q)||!((l.drop (k+1)).all CA)):=⟨rfl,by rw[hinv];cases b'<;>cases q<;>simp⟩;have hno:=hI.grow.at_;have hle:=hI.grow.le;obtain⟨hg,j,h1,h2,h3,h4,o1,o2,o3⟩:=hI;have d1:(h.next+1+1=id)=False:=BB (by omega);have d2:(j=id)=False:=BB (by omega);have d3:(h.next+1+1=j)=False:=BB (by omega);have d4:(h.next+1+1=H.next)=False:=BB (by omega);have hrl:(Sx.rows L).length=k+1:=(by rw[Sx.B4];exact hlen);have htk:List.take (k+1) (Sx.rows L)=Sx.rows L:=List.take_of_length_le (by omega);have hb:(k+1+1)*72<=140737488355328:=(by omega);rw[hlen]at o2;generalize hRe:Sx.rows L=R at o3 hrl htk;replace zz:=BO g0 g4 g5 g15 g16 g17 g7 ho7 o2;(repeat'(first|refine uE zz λK hK=>?_|apply zI));refine Lk (hcc H b' (by omega) hno) (sr (BT g0 g4 g5 g15 g16 g17 g7 ho7)) (by
      try simp only[Ty.w,simprocAttr,Ty.AW,Df,List.map_cons,List.map_nil,List.forall_mem_cons,g0,g4,g5,g7,ho7,o2,d1]
      (repeat' apply And.intro)<;>first
       |trivial
       |exact .inl (by decide+kernel)
       |exact .inr A5) ?_
     simp only[Ty.w,simprocAttr,Ty.AW,B8,g0,g4,g5,g15,g16,g17,g7,ho7,o2,o3,d1,d2];replace zz:=Ab g0 g4 g5 g15 g16 g17 g7 o2 o3 d1 d2 (Al d3 d4 hrl htk hb w7);(repeat'(first|refine uR zz ?_|(refine uN hK ?_;clear hK)|refine uB zz ?_|(rw[AK];rotate_left 1;omega;simp only[Ty.w,simprocAttr,g0,g4,g5,g15,g16,g17,g7,o2,o3,d1,d2,d3,d4,hrl,htk,hb,w7])|apply zI));have hp:=LG.push (x:= .mk xk xv xl xc xt xs) (l:=L) ((hg.put (o2:=wO (b'||!q)))) hid h1 h2 h3 h4 (by simp only[A1.set];rw[A8 (by omega)];exact o1);rw[← hcon,hRe,hlen]at hp;exact⟨l.length-(k+1),by omega,k+1,b'||!q,by simp,by omega,rfl,hp,Fs.2⟩
   ·have hd:decide ((k:Int)<(l.length:Int))=false:=(by simp;omega);have hke:k=l.length:=(by omega);subst hke;obtain⟨hg,j,hn2,hne,hlo,hhi,o1,o2,o3⟩:=hI;rw[List.take_length]at o2 o3;rw[List.drop_length,List.all_nil,Av,Gq]at hinv;subst hinv;have n1:(h.next+1+1=h.next)=False:=(by simp;omega);generalize hLe:A7 Bo::l.map F3=L at o2 o3;replace zz:=EI g0 g4 g5 g15 g16 g17 hd o1 o2 o3 n1;(repeat'(first|refine Af λK hK=>?_|refine uR zz ?_|refine uT zz ?_|refine uX ?_|refine C2 zz ?_|(refine uN hK ?_;clear hK)|(clear hK;refine uN hK ?_;clear hK)|apply zI));refine⟨?_,hg.set hid (AG _)⟩;rw[hLe];simp only[AE,Sx.cells,AJ,AP];refine⟨_,rfl,rfl,rfl,rfl,rfl,rfl,.inr (.inr ⟨j,0,L.length,Sx.rows L,rfl,by omega,?_,?_,?_⟩),trivial⟩
    ·simp only[A1.set];rw[A8 (by omega)];exact o3
    ·rw [Sx.B4];omega
    ·rw [List.drop_zero,List.take_of_length_le (by rw[Sx.B4];omega)];exact IK _ _ _
theorem QG{n:Nat}{h:A1}:AJ n h (.agg Hj.cells) (.agg Bj):=by
 simp only[Hj,Sx.cells,Sx.rows,AJ,AP];exact⟨_,rfl,rfl,rfl,rfl,rfl,rfl,.inr (.inl ⟨rfl,.inr rfl⟩),trivial⟩
theorem ko{l:List Ch}(hl:l.length<=1048576)(hok: ∀ c∈l,c.ok)(hsm: ∀ c∈l,FV c)(hX:(CS l).ok)(h:A1):
  A6 prog 17 [.A2 15 (Ae l)] h λr h'=>r=(if GX l then .Am [.agg (CS l).cells,.sc .nilIface]else .Am [.agg Hj.cells,Ao 2])/\h'=h:=by
 refine A6.CF Ty.Pb ?_;have hc:=λ(H:A1)(hid:h.next+1<H.next)(ho:H.obj (h.next+1)=some (wO false))=>QF (h:=H) (b:=false) hl hok hsm hid ho;have hV:=λh:A1=>JO (x:=CS l) hX h;have hW:GX l=(l.all CA&&(CM (CS l) 0 0).1):=rfl;rw[hW];generalize(CM (CS l) 0 0).1=v at hV⊢;generalize l.all CA=a at hc⊢;generalize CS l=X at hc hV⊢;generalize Ae l=R at hc⊢;obtain⟨xk,xv,xl,xc,xt,xs⟩:=X;simp only[Sx.cells]at hc hV⊢;have n1:(h.next=h.next+1)=False:=BB (by omega);have n2:(h.next=h.next+1+1)=False:=BB (by omega);have n3:(h.next+1=h.next+1+1)=False:=BB (by omega);have n4:(h.next+1+1=h.next+1)=False:=BB (by omega);have n5:(h.next+1+1=h.next)=False:=BB (by omega);have n6:(h.next+1=h.next)=False:=BB (by omega);cases a with
 |false=>
  refine uG (ow:=λt=>t==7) (wf:=λ_=>false) func17 ntmps17 results17 Ty.Pb ?_;repeat'(first|refine Af λK hK=>?_|refine uR A5 ?_|(refine uN hK ?_;clear hK)|apply zI)
  refine DK (hc _ (by simp[A1.new]) (by simp[A1.new])) (sr A5) ?_;simp only[Ty.w,simprocAttr];repeat'(first|refine Af λK hK=>?_|((first|refine Bn ?_|refine Ej ?_);simp only[Ty.w,simprocAttr,n1,n2,n3,n4,n5,n6,CB,HZ])|(refine hK _ _ ?_;clear hK;(try simp only[Au,simprocAttr])))
  refine⟨?_,((((((AH.refl h).new _).new _).set (by omega) _).new _).set (by omega) _).set (AG _) _⟩;simp only[BF,BR,AQ,Ao,AJ,AP,Dh];exact⟨_,rfl,QG,rfl,trivial⟩
 |true=>
  cases v with
  |false=>
   refine uG (ow:=λt=>t==7) (wf:=λ_=>false) func17 ntmps17 results17 Ty.Pb ?_;(repeat'(first|refine Af λK hK=>?_|refine uR A5 ?_|(refine uN hK ?_;clear hK)|apply zI));refine DK (hc _ (by simp[A1.new]) (by simp[A1.new])) (sr A5) ?_;simp only[Ty.w,simprocAttr];(repeat'(first|refine Af λK hK=>?_|(refine Bn ?_;simp only[Ty.w,simprocAttr,n1,n2,n3,n4,n5,n6,Av,HZ])|(refine hK _ _ ?_;clear hK;(try simp only[Au,simprocAttr]))));replace zz:=Al n1 n2 n3 n4 n5 n6;refine uU zz (hV _) ?_;replace zz:=Ah n1 n2 n3 n4 n5 n6 yF;(repeat'(first|refine Af λK hK=>?_|refine uR zz ?_|refine uT zz ?_|(refine uN hK ?_;clear hK)|apply zI));refine⟨?_,((((((AH.refl h).new _).new _).set (by omega) _).new _).set (by omega) _).set (AG _) _⟩;simp only[BH,BR,AQ,Ao,AJ,AP,Dh];exact⟨_,rfl,QG,rfl,trivial⟩
  |true=>
   refine uG (ow:=λt=>t==7) (wf:=λ_=>false) func17 ntmps17 results17 Ty.Pb ?_;(repeat'(first|refine Af λK hK=>?_|refine uR A5 ?_|(refine uN hK ?_;clear hK)|apply zI));refine DK (hc _ (by simp[A1.new]) (by simp[A1.new])) (sr A5) ?_;simp only[Ty.w,simprocAttr];(repeat'(first|refine Af λK hK=>?_|(refine Bn ?_;simp only[Ty.w,simprocAttr,n1,n2,n3,n4,n5,n6,Av,HZ])|(refine hK _ _ ?_;clear hK;(try simp only[Au,simprocAttr]))));replace zz:=Al n1 n2 n3 n4 n5 n6;refine uU zz (hV _) ?_;replace zz:=Ah n1 n2 n3 n4 n5 n6 yT;(repeat'(first|refine Af λK hK=>?_|refine uR zz ?_|refine uT zz ?_|refine uK ?_|refine C2 zz ?_|(refine uN hK ?_;clear hK)|apply zI));refine⟨?_,((((((AH.refl h).new _).new _).set (by omega) _).new _).set (by omega) _).set (AG _) _⟩;simp only[LP,AO,AJ];exact⟨_,rfl,by simp only[AP,AJ,Dh];exact⟨_,rfl,FC _ _ (.mk xk xv xl xc xt xs)⟩⟩
def IY(l:List Ch):Sx:=bif l.isEmpty then AE []else AE (A7 Bo::l.map N6)
def LH(l:List Ch):Bool:=l.all Jc&&(CM (IY l) 0 0).1
def KE(n:Int):Bool:=decide (n>= -1099511627776)&&decide (n<=1099511627776)
def Sh(p:Pr):Bool:=As p.name&&p.params.all (IN true)
def QH(f:Fu):Bool:=As f.name&&(f.params.all (IN true)&&(KE f.lo&&KE f.hi))
def N7(a:Ac):Bool:=As a.name&&(a.params.all (IN true)&&(!(decide (a.cost<0))&&(KE a.cost&&(DH a.pre&&a.changes.all Jc))))
def N8(a:Du):Bool:=As a.name&&(a.params.all (IN true)&&(KE a.Dp&&(a.Bp.all Jc&&(a.Bq.all Jc&&(DH a.start&&(DH a.over&&DH a.stop))))))
def OO(d:Dm):Bool:=As d.name&&(d.types.all (IN false)&&(d.constants.all (IN false)&&(d.B5.all Sh&&(d.Ay.all QH&&(d.At.all N7&&d.duratives.all N8)))))
theorem Si{h:A1}{n:Int}:A6 prog 44 [.sc (.int .i64 n)] h λr h'=>r= .agg (DO n).cells/\h'=h:=by
 refine A6.CF Ty.UW ?_;refine AF func44 ntmps44 results44 Ty.UW ?_;refine wt A5 ?_;refine⟨?_,((AH.refl h).new _).set (AG _) _⟩;simp only[DO,Sx.cells,Sx.rows,AJ,AP];exact⟨_,rfl,rfl,rfl,rfl,rfl,rfl,.inr (.inl ⟨rfl,.inr rfl⟩),trivial⟩
abbrev xO(j k:Nat):An:= .arr 6 [[.sc (.int .i64 3),.sc (.int .i64 0),.sc (.int .i64 0),.sc (.int .i64 0),.sc (.string ⟨#[]⟩),.own j 0 k]]
def Hy(h:A1)(xi j:Nat)(L:List Sx):A1:=⟨h.next+18+1,λi=>if i=xi then some (xO (h.next+18) L.length)else if i=h.next+18 then some (.arr 6 (Sx.rows L))else if i=j then none else if i<h.next then h.obj i else none⟩
theorem J8{h:A1}{xi j:Nat}{L:List Sx}{kw:ByteArray}{v:Sx}{m:Bool}(hx:h.obj xi=some (xO j L.length))(hj:h.obj j=some (.arr 6 (Sx.rows L)))(hne:xi≠j)(hxl:xi<h.next)(hjl:j<h.next)(hL:L.length<=1048576):
  A6 prog 97 [.ptr xi 0 0,.sc (.bool m),A4 kw,.agg v.cells] h λr h'=>r=Gt []/\h'=(if m=true then h else Hy h xi j (L++[A7 kw,v])):=by
 have hw: ∀ (s:ByteArray)(h:A1),A6 prog 40 [A4 s] h λr h'=>r= .agg (A7 s).cells/\h'=h:=λs h=>KB;simp only[A7,Sx.cells,Sx.rows]at hw;obtain⟨vk,vv,vl,vc,vt,vs⟩:=v;simp only[Sx.cells];cases m with
 |true=>
  refine AF func97 ntmps97 results97 Ty.Ue ?_;refine wt A5 ?_;simp only[Io,HE];exact⟨trivial,trivial⟩
 |false=>
  have hrl:(Sx.rows L).length=L.length:=Sx.B4 L;have hb2:(L.length+2)*72<=140737488355328:=by omega
  have htk:List.take L.length (Sx.rows L)=Sx.rows L:=List.take_of_length_le (by omega);refine A6.drop ?_;refine AF func97 ntmps97 results97 Ty.Ue ?_;refine xB 2 A5 ?_;refine⟨?_⟩;refine Q3 10 (by decide+kernel) λK hK=>?_;simp only[List.take_succ_cons,List.take_zero,List.drop_succ_cons,List.drop_zero];have c1:(Value.int IntKind.i64 0).oneCell'=true:=rfl;have c2:(Value.string ⟨#[]⟩).oneCell'=true:=rfl;have c3:(Value.slice none 0 0).oneCell'=true:=rfl;simp only[xO]at hx;simp(maxSteps:=4000000) only[Ty.w,simprocAttr,Ty.AW,c1,c2,c3,hx,hj,hrl,htk,hb2,AG];replace zz:=BO c1 c2 c3 hx hj hrl htk hb2 @AG;first|refine uV zz (hw kw _) ?_|refine uA zz (hw kw _) ?_
  refine⟨by simp only[List.forall_mem_cons];(repeat' apply And.intro)<;>first|exact .inl (by decide+kernel)|exact(λ_ hx=>by cases hx),?_⟩;have hset1: ∀ x:List PV,(Sx.rows L++[Bj,Bj]).set L.length x=Sx.rows L++[x,Bj]:=λx=>by rw[List.set_append_right _ _ (by omega),hrl,KV];try rfl
  have hset2: ∀ x y:List PV,(Sx.rows L++[x,Bj]).set (L.length+1) y=Sx.rows L++[x,y]:=λx y=>by rw[List.set_append_right _ _ (by omega),hrl,oV];try rfl
  have hget1:(Sx.rows L++[Bj,Bj])[L.length]? =some Bj:=by rw[List.getElem?_append_right (by omega),hrl,KV];try rfl
  have hget2: ∀ x:List PV,(Sx.rows L++[x,Bj])[L.length+1]? =some Bj:=λx=>by rw[List.getElem?_append_right (by omega),hrl,oV];try rfl
  have w1:IntKind.i64.wrap ((L.length:Int)+1)=((L.length+1:Nat):Int):=by rw[BZ (by omega) (by omega)];omega
  have hN1:((A1.kill ⟨h.next+18,h.obj⟩ j).new (.arr 6 (Sx.rows L++[Bj,Bj]))).obj (h.next+18)=some (.arr 6 (Sx.rows L++[Bj,Bj])):=by simp only[A1.new,A1.kill,AO]
  have hX1:((A1.kill ⟨h.next+18,h.obj⟩ j).new (.arr 6 (Sx.rows L++[Bj,Bj]))).obj xi=some (xO j L.length):=by
   simp only[A1.new,A1.kill];rw[A8 (by omega),A8 hne];exact hx
  have hO1: ∀ i,i<h.next->i≠j->((A1.kill ⟨h.next+18,h.obj⟩ j).new (.arr 6 (Sx.rows L++[Bj,Bj]))).obj i=h.obj i:=λi hi hij=>by
   simp only[A1.new,A1.kill];rw[A8 (by omega),A8 hij]
  have hn1:((A1.kill ⟨h.next+18,h.obj⟩ j).new (.arr 6 (Sx.rows L++[Bj,Bj]))).next=h.next+18+1:=rfl
  generalize((A1.kill ⟨h.next+18,h.obj⟩ j).new (.arr 6 (Sx.rows L++[Bj,Bj])))=H1 at hN1 hX1 hO1 hn1⊢;have hkc:List.length [PV.sc (.int .i64 1),.sc (.int .i64 0),.sc (.int .i64 0),.sc (.int .i64 0),A4 kw,.A2 6 []]=6:=rfl;refine IR (.ptr (h.next+18) L.length 0) [h.next+18] (.inr (by decide+kernel)) (by decide) rfl rfl (λH hH=>by
   have hH:=(hH _ (List.mem_singleton.2 rfl)).trans hN1;have q1:(L.length<L.length+2)=True:=DU (by omega);simp only[Ty.w,simprocAttr,Ty.AW,hH,q1,c1,c2,c3,hrl,hb2,AG,w1]) dL ?_
  refine K8 (ob:= .arr 6 (Sx.rows L++[[.sc (.int .i64 1),.sc (.int .i64 0),.sc (.int .i64 0),.sc (.int .i64 0),A4 kw,.A2 6 []],Bj])) rfl (by decide) rfl (by simp only[Ty.w,simprocAttr,Ty.AW];try rfl) (by
   simp only[Ty.w,simprocAttr,Ty.AW,hN1,hget1,hset1,c1,c2,c3,hrl,hb2,AG,w1];try rfl) (λf q hf hq ha=>by rcases(show f=12\/f=13\/f=14\/f=15\/f=16\/f=17 from by have hfl:=(List.getElem?_eq_some_iff.1 hq).1;simp only[List.length_cons,List.length_nil]at hfl;omega)with rfl|rfl|rfl|rfl|rfl|rfl<;>(simp only[List.getElem?_cons_succ,List.getElem?_cons_zero,BD]at hq;subst hq;revert ha;decide+kernel)) dL dL ?_
  have hN2:(H1.set (h.next+18) (.arr 6 (Sx.rows L++[[.sc (.int .i64 1),.sc (.int .i64 0),.sc (.int .i64 0),.sc (.int .i64 0),A4 kw,.A2 6 []],Bj]))).obj (h.next+18)=some (.arr 6 (Sx.rows L++[[.sc (.int .i64 1),.sc (.int .i64 0),.sc (.int .i64 0),.sc (.int .i64 0),A4 kw,.A2 6 []],Bj])):=DC;have hX2:(H1.set (h.next+18) (.arr 6 (Sx.rows L++[[.sc (.int .i64 1),.sc (.int .i64 0),.sc (.int .i64 0),.sc (.int .i64 0),A4 kw,.A2 6 []],Bj]))).obj xi=some (xO j L.length):=(Az (by omega)).trans hX1;have hO2: ∀ i,i<h.next->i≠j->(H1.set (h.next+18) (.arr 6 (Sx.rows L++[[.sc (.int .i64 1),.sc (.int .i64 0),.sc (.int .i64 0),.sc (.int .i64 0),A4 kw,.A2 6 []],Bj]))).obj i=h.obj i:=λi hi hij=>(Az (by omega)).trans (hO1 i hi hij)
  have hn2:(H1.set (h.next+18) (.arr 6 (Sx.rows L++[[.sc (.int .i64 1),.sc (.int .i64 0),.sc (.int .i64 0),.sc (.int .i64 0),A4 kw,.A2 6 []],Bj]))).next=h.next+18+1:=hn1
  generalize H1.set (h.next+18) (.arr 6 (Sx.rows L++[[.sc (.int .i64 1),.sc (.int .i64 0),.sc (.int .i64 0),.sc (.int .i64 0),A4 kw,.A2 6 []],Bj]))=H2 at hN2 hX2 hO2 hn2⊢;refine IR (.sc (.int .i64 ((L.length+1:Nat):Int))) [] (.inl rfl) (by decide) rfl rfl (λH _=>by(try simp only[Ty.w,simprocAttr,Ty.AW,c1,c2,c3,hrl,hb2,AG,w1]);try rfl) dL ?_;refine IR (.ptr (h.next+18) (L.length+1) 0) [h.next+18] (.inr (by decide+kernel)) (by decide) rfl rfl (λH hH=>by
   have hH:=(hH _ (List.mem_singleton.2 rfl)).trans hN2;have q1:(L.length+1<L.length+2)=True:=DU (by omega);simp only[Ty.w,simprocAttr,Ty.AW,hH,q1,c1,c2,c3,hrl,hb2,AG,w1]) dL ?_
  refine K8 (ob:= .arr 6 (Sx.rows L++[[.sc (.int .i64 1),.sc (.int .i64 0),.sc (.int .i64 0),.sc (.int .i64 0),A4 kw,.A2 6 []],[.sc (.int .i64 vk),.sc (.int .i64 vv),.sc (.int .i64 vl),.sc (.int .i64 vc),A4 vt,.A2 6 (Sx.rows vs)]])) rfl (by decide) rfl (by simp only[Ty.w,simprocAttr,Ty.AW];try rfl) (by
   simp only[Ty.w,simprocAttr,Ty.AW,hN2,hget2,hset2,c1,c2,c3,hrl,hb2,AG,w1];try rfl) (λf q hf hq ha=>by rcases(show f=15\/f=16\/f=17 from by have hfl:=(List.getElem?_eq_some_iff.1 hq).1;simp only[List.length_cons,List.length_nil]at hfl;omega)with rfl|rfl|rfl<;>(simp only[List.getElem?_cons_succ,List.getElem?_cons_zero,BD]at hq;subst hq;revert ha;decide+kernel)) dL dL ?_
  refine IR (.ptr xi 0 0) [] (.inl rfl) (by decide) rfl rfl (λH _=>by(try simp only[Ty.w,simprocAttr,Ty.AW,c1,c2,c3,hrl,hb2,AG,w1]);try rfl) dL ?_;refine IR (.ptr xi 0 5) [] (.inl rfl) (by decide) rfl rfl (λH _=>by(try simp only[Ty.w,simprocAttr,Ty.AW,c1,c2,c3,hrl,hb2,AG,w1]);try rfl) dL ?_;have hX3:=hX2;have nX:(xi=h.next+18)=False:=BB (by omega);simp only[xO]at hX3;refine K8 (ob:=xO (h.next+18) (L.length+2)) rfl (by decide) rfl (by simp only[Ty.w,simprocAttr,Ty.AW];try rfl) (by
   simp only[Ty.w,simprocAttr,Ty.AW,hX3,nX,c1,c2,c3,hrl,hb2,AG,w1];try rfl) (λf q hf hq ha=>by have hfl:=(List.getElem?_eq_some_iff.1 hq).1;simp only[List.length_cons,List.length_nil]at hfl;omega) dL dL ?_
  refine Q4 (hK _ _ ?_);simp only[Io,HE];have hRL:Sx.rows (L++[A7 kw,.mk vk vv vl vc vt vs])=Sx.rows L++[[.sc (.int .i64 1),.sc (.int .i64 0),.sc (.int .i64 0),.sc (.int .i64 0),A4 kw,.A2 6 []],[.sc (.int .i64 vk),.sc (.int .i64 vv),.sc (.int .i64 vl),.sc (.int .i64 vc),A4 vt,.A2 6 (Sx.rows vs)]]:=by simp[Sx.rows_map,A7,Sx.cells,Sx.rows]
  rw[← hRL];have hlen:(L++[A7 kw,.mk vk vv vl vc vt vs]).length=L.length+2:=by simp
  rw[← hlen];generalize L++[A7 kw,.mk vk vv vl vc vt vs]=L2;refine⟨Gt [],Hy h xi j L2,⟨rfl,by simp⟩,by simp[Gt,AJ,AP],by simp only[Hy];omega,λi o hio=>?_⟩;simp only[Hy]at hio⊢;by_cases h1:i=xi
  ·subst h1;rw[AK rfl]at hio;obtain rfl:=JE hio;exact⟨DC,by omega,.inr (by simp[xO,Eu,BC,Br,Be])⟩
  ·rw [A8 h1]at hio;by_cases h2:i=h.next+18
   ·subst h2;rw[AK rfl]at hio;obtain rfl:=JE hio;exact⟨(Az h1).trans DC,by omega,.inr (by simp only[Eu];exact HK _ _)⟩
   ·rw [A8 h2]at hio;by_cases h3:i=j
    ·rw [AK h3]at hio;cases hio
    ·rw [A8 h3]at hio;by_cases h4:i<h.next
     ·rw [AK h4]at hio;exact⟨((Az h1).trans ((Az h2).trans (hO2 i h4 h3))).trans hio,by omega,.inl hio⟩
     ·rw [A8 h4]at hio;cases hio
theorem Sj{P:Program}{ow:Nat->Bool}{wf:FuncId->Bool}{n:Nat}{s:AD}{h:A1}{f:FuncId}{d:Nat}{args:List Operand}{ts:Array TypeId}{ty:TypeId}{pos:String}{af:Array Edge}{gd:Option (Nat × Bool)}{aS:List PV}{v:PV}{h1:A1}{ops rest:List Oper}{base k:Nat}{past:Gi}{hist:List (Nat × A1)}{K:AD->A1->Prop}{A:A1->Prop}(al:List Nat)(ha:M4 ops=al)
  (hc:A6 P f aS h λr h'=>r=v/\h'=h1)(hs:args.map (AB s)=aS)(hA:A h1)
  (hk:EL P ow wf n ops al base k rest past hist K (Cf s d v) h1):
  ∃ v h',Ar P ow {dst:=some d,op:= .call {callee:= .value (.func f),args:=args.toArray,argTypes:=ts},type:=ty,pos:=pos,after:=af,guard:=gd} (AB s) h v h'/\A h'/\
   GB P ow wf n ops base k rest (Df P ow past) hist K (Cf s d v) h':=
 ⟨v,h1,CW hc hs,hA,L4 ha _ _ _ _ _ _ hk⟩
def D0:ByteArray:=⟨#[58,97,99,116,105,111,110]⟩
def Cj:ByteArray:=⟨#[58,112,97,114,97,109,101,116,101,114,115]⟩
def G6:ByteArray:=⟨#[58,99,111,115,116]⟩
def GY:ByteArray:=⟨#[58,112,114,101,99,111,110,100,105,116,105,111,110]⟩
def FH:ByteArray:=⟨#[58,101,102,102,101,99,116]⟩
def BQ(L:List Sx)(m:Bool)(kw:ByteArray)(v:Sx):List Sx:=bif m then L else L++[A7 kw,v]
def Wx(a:Ac):List Sx:=BQ (BQ (BQ (BQ [A7 D0,A7 a.name] ((a.params.length:Int)==0) Cj (AE (AZ a.params))) (a.cost==1) G6 (DO a.cost)) (C3 a.pre) GY (Bb a.pre)) ((a.changes.length:Int)==0) FH (CS a.changes)
def EM(a:Ac):Sx:=AE (Wx a)
def Fj(a:Ac):Bool:=As a.name&&!(decide (a.cost<0))&&a.params.all (BN true)&&Bh a.pre&&a.changes.all CA
structure OP(a:Ac):Prop where
 params:a.params.length<=1048576
 pre:a.pre.small
 Z4:a.changes.length<=1048576
 ch: ∀ c∈a.changes,FV c
theorem IZ(L:List Sx)(m:Bool)(kw:ByteArray)(v:Sx):(BQ L m kw v).length<=L.length+2:=by cases m<;>simp[BQ]
structure Dg(h:A1)(id:Nat)(b:Bool)(xi j:Nat)(L:List Sx)(H:A1):Prop where
 grow:CQ h id (wO b) H
 ids:h.next<xi/\xi<H.next/\h.next<j/\j<H.next/\xi≠j
 TR:H.obj h.next=some (.arr 6 [Bj])
 ox:H.obj xi=some (xO j L.length)
 oj:H.obj j=some (.arr 6 (Sx.rows L))
structure HS(h:A1)(id xi:Nat)(row:List PV)(S:AD):Prop where
 s0:S 0= .ptr id 0 0
 s3:S 3= .Ag row
 s4:S 4= .ptr h.next 0 0
 s5:S 5= .ptr xi 0 0
theorem Dg.put{h H:A1}{id xi j:Nat}{b b2:Bool}{L:List Sx}(i:Dg h id b xi j L H)(hid:id<h.next):Dg h id b2 xi j L (H.set id (wO b2)):=by
 obtain⟨g,⟨i1,i2,i3,i4,i5⟩,o1,o2,o3⟩:=i;exact⟨g.put,⟨i1,i2,i3,i4,i5⟩,(Az (by omega)).trans o1,(Az (by omega)).trans o2,(Az (by omega)).trans o3⟩
theorem Dg.part{h H:A1}{id xi j:Nat}{b:Bool}{L L2:List Sx}(i:Dg h id b xi j L H)(hid:id<h.next):Dg h id b xi (H.next+18) L2 (Hy H xi j L2):=by
 obtain⟨g,⟨i1,i2,i3,i4,i5⟩,o1,o2,o3⟩:=i;have hle:=g.le;refine⟨⟨by simp only[Hy];omega,λk hk hne=>?_,?_⟩,⟨i1,by simp only[Hy];omega,by omega,by simp only[Hy];omega,by omega⟩,?_,?_,?_⟩
 ·simp only[Hy];rw[A8 (by omega),A8 (by omega),A8 (by omega),AK (by omega)];exact g.B6 k hk hne
 ·simp only[Hy];rw[A8 (by omega),A8 (by omega),A8 (by omega),AK (by omega)];exact g.at_
 ·simp only[Hy];rw[A8 (by omega),A8 (by omega),A8 (by omega),AK (by omega)];exact o1
 ·simp only[Hy,AO]
 ·simp only[Hy];rw[A8 (by omega),AK A5]
theorem kp{h:A1}{id:Nat}{b:Bool}{a:Ac}(hok:a.ok)(hsm:OP a)(hid:id<h.next)(ho:h.obj id=some (wO b)):
  A6 prog 45 [.ptr id 0 0,.agg (DE a)] h λr h'=>r= .agg (EM a).cells/\h'=h.set id (wO (b||!Fj a)):=by
 refine JL Ty.RV λhwf=>?_;refine A6.LS Ty.RV ho (LC _ _) ?_;have hno: ∀ i,h.next<=i->h.obj i=none:=λi hi=>by
  cases q:h.obj i with
  |none=>rfl
  |some o=>have:=hwf i (by rw[q];try rfl);omega
 obtain⟨name,params,cost,⟨gop,gna,gar,gpa,gex,gki⟩,changes⟩:=a;have hw: ∀ (s:ByteArray)(h:A1),A6 prog 40 [A4 s] h λr h'=>r= .agg (A7 s).cells/\h'=h:=λs h=>KB;have hns:name.size<=9223372036854775807:=by have:=hok.name;unfold AI at this;simp only at this;omega
 have cN:=λ(H:A1)(hid:id<H.next)(ho:H.obj id=some (wO b))=>N3 (h:=H) (b:=b) hns hid ho;simp only[A7,Sx.cells,Sx.rows]at hw cN;simp only[DE,Fm.cells,List.cons_append,List.nil_append];have n1:(id=h.next)=False:=BB (by omega);have n2:(h.next=id)=False:=BB (by omega);refine PT (ow:=λt=>t==11) (wf:=λf=>f==41||f==43||f==100||f==51||f==97) Ty.Pa func45 rfl Ty.RV (by rw[ntmps45];simp) ?_;rw[ntmps45,results45];refine Af (λK hK=>?_);repeat'(first|refine Af λK hK=>?_|refine uR A5 ?_|(refine uN hK ?_;clear hK)|apply zI)
 refine SM [7] (by decide+kernel) (by decide+kernel) ?_;have n3:(h.next+1+7=h.next)=False:=BB (by omega);have n4:(h.next+1+7=id)=False:=BB (by omega);have n5:(h.next+1+9=id)=False:=BB (by omega);have n6:(h.next+1+7=h.next+1+9)=False:=BB (by omega);have n7:(h.next+1+9=h.next+1+7)=False:=BB (by omega);have n8:(id=h.next+1+7)=False:=BB (by omega);have hN8:h.obj (h.next+1+7)=none:=hno _ (by omega);simp(maxSteps:=4000000) only[EL,Ty.w,simprocAttr,Ty.AW,List.forall_mem_cons,ho,n1,n2,n3,n4,n5,n6,n7,n8,hN8];first
  |refine Q5 [7] (by decide+kernel) (hw D0 _) (sr (B9 ho n1 n2 n3 n4 n5 n6 n7 n8 hN8)) ?_
  |refine L5 [7] (by decide+kernel) (hw D0 _) (sr (B9 ho n1 n2 n3 n4 n5 n6 n7 n8 hN8)) (by simp only[Ty.w,simprocAttr,Ty.AW,ho,n1,n2,n3,n4,n5,n6,n7,n8,hN8];try trivial) ?_
 simp(maxSteps:=4000000) only[EL,Ty.w,simprocAttr,Ty.AW,List.forall_mem_cons,List.nil_append,ho,n1,n2,n3,n4,n5,n6,n7,n8,hN8];refine Sj [7] (by decide+kernel) (cN _ (by simp only[A1.new];omega) (sq (B9 ho n1 n2 n3 n4 n5 n6 n7 n8 hN8))) (sr (B9 ho n1 n2 n3 n4 n5 n6 n7 n8 hN8)) ?_ ?_
 ·exact ⟨sq (B9 ho n1 n2 n3 n4 n5 n6 n7 n8 hN8),by simp only[Df,List.map_cons,List.map_nil,List.forall_mem_cons];(repeat' apply And.intro)<;>first|exact .inl (by decide+kernel)|exact(λ_ hx=>by cases hx)⟩
 simp(maxSteps:=4000000) only[EL,Ty.w,simprocAttr,Ty.AW,List.forall_mem_cons,List.nil_append,ho,n1,n2,n3,n4,n5,n6,n7,n8,hN8];refine⟨by(repeat' apply And.intro)<;>first|exact .inl (by decide+kernel)|exact(λ_ hx=>by cases hx)|trivial,?_⟩;have hl3: ∀ H:A1,h.next+1+9<H.next->A6 prog 39 [.own (h.next+1+9) 0 2] H λr h'=>r= .agg [.sc (.int .i64 3),.sc (.int .i64 0),.sc (.int .i64 0),.sc (.int .i64 0),.sc (.string ⟨#[]⟩),.own (h.next+1+9) 0 2]/\h'=H:=λH hh=>KC rfl (λ_=>Kt hh)
 refine L5 [7] (by decide+kernel) (hl3 _ (by simp[A1.new,A1.set])) (sr (B9 ho n1 n2 n3 n4 n5 n6 n7 n8 hN8)) (by(repeat' apply And.intro)<;>first|exact .inl (by decide+kernel)|exact(λ_ hx=>by cases hx)|trivial) ?_;simp(maxSteps:=4000000) only[EL,Ty.w,simprocAttr,Ty.AW,List.forall_mem_cons,List.nil_append,ho,n1,n2,n3,n4,n5,n6,n7,n8,hN8];refine⟨?_,?_⟩
 ·(repeat' apply And.intro)<;>first
    |exact .inl (by decide+kernel)
    |exact .inr (CW (hw D0 _) (sr (B9 ho n1 n2 n3 n4 n5 n6 n7 n8 hN8)))
    |exact .inr (CW (hl3 _ (by simp[A1.new,A1.set])) (sr (B9 ho n1 n2 n3 n4 n5 n6 n7 n8 hN8)))
    |exact .inr (by simp only[Ty.w,simprocAttr,Ty.AW,ho,n1,n2,n3,n4,n5,n6,n7,n8,hN8])
    |exact(λ_ hx=>by cases hx)
    |trivial
 refine⟨?_,?_⟩
 ·(repeat' apply And.intro)<;>first
    |exact .inl (by decide+kernel)
    |exact .inr (CW (hw D0 _) (sr (B9 ho n1 n2 n3 n4 n5 n6 n7 n8 hN8)))
    |exact .inr (CW (hl3 _ (by simp[A1.new,A1.set])) (sr (B9 ho n1 n2 n3 n4 n5 n6 n7 n8 hN8)))
    |exact .inr (by simp only[Ty.w,simprocAttr,Ty.AW,ho,n1,n2,n3,n4,n5,n6,n7,n8,hN8])
    |exact(λ_ hx=>by cases hx)
    |trivial
 first|refine hK _ _ ?_|refine cK ?_
 try clear hK
 generalize hxi:h.next+1+7=xi
 refine Cq (λS H=> ∃ j,HS h id xi [A4 name,.A2 2 (A9 params),.sc (.int .i64 cost),A4 gop,A4 gna,.A2 1 (AN gar),.A2 2 (A9 gpa),.A2 5 (Ex.rows gex),.A2 6 (Fm.rows gki),.A2 15 (Ae changes)] S/\Dg h id (b||!As name) xi j [A7 D0,A7 name] H) ?_ ?_
 ·subst hxi;refine⟨h.next+1+9,⟨sq A5,sq A5,sq A5,sq A5⟩,⟨?_,⟨by omega,by simp only[A1.set,A1.new];omega,by omega,by simp only[A1.set,A1.new];omega,by omega⟩,?_,?_,?_⟩⟩
  ·refine ⟨by simp only[A1.set,A1.new];omega,λk hk hne=>?_,?_⟩
   ·simp only[A1.set,A1.new];(repeat(first|rw[A8 (by omega)]|rw[AK A5]));try exact A8 (by omega)
   ·simp only[A1.set,A1.new];repeat(first|rw[A8 (by omega)]|rw[AK A5])
  ·simp only[A1.set,A1.new];repeat(first|rw[A8 (by omega)]|rw[AK A5])
  ·simp only[A1.set,A1.new];(repeat(first|rw[A8 (by omega)]|rw[AK A5]));rfl
  ·simp only[A1.set,A1.new];(repeat(first|rw[A8 (by omega)]|rw[AK A5]));simp[A7,Sx.rows,Sx.cells]
 clear n1 n2 n3 n4 n5 n6 n7 n8 hN8 hno hwf hl3 cN;rintro S H ⟨j,⟨s0,s3,s4,s5⟩,hI⟩;generalize hb1:(b||!As name)=b1 at hI;refine DB (λS H=> ∃ j,HS h id xi [A4 name,.A2 2 (A9 params),.sc (.int .i64 cost),A4 gop,A4 gna,.A2 1 (AN gar),.A2 2 (A9 gpa),.A2 5 (Ex.rows gex),.A2 6 (Fm.rows gki),.A2 15 (Ae changes)] S/\Dg h id (b1||decide (cost<0)) xi j [A7 D0,A7 name] H) ?_ ?_
 ·have hat:=hI.grow.at_;cases b1 with
  |true=>
   replace zz:=Ak s0 s3 s4 s5 hat;refine wt zz ?_;exact⟨j,⟨sq s0,sq s3,sq s4,sq s5⟩,hI.put hid⟩
  |false=>
   replace zz:=Ak s0 s3 s4 s5 hat;refine wt zz ?_;exact⟨j,⟨sq s0,sq s3,sq s4,sq s5⟩,hI.put hid⟩
 clear s0 s3 s4 s5 hI;rintro S H ⟨j,⟨s0,s3,s4,s5⟩,hI⟩;generalize hb2:(b1||decide (cost<0))=b2 at hI;refine DB (λS H=> ∃ j,HS h id xi [A4 name,.A2 2 (A9 params),.sc (.int .i64 cost),A4 gop,A4 gna,.A2 1 (AN gar),.A2 2 (A9 gpa),.A2 5 (Ex.rows gex),.A2 6 (Fm.rows gki),.A2 15 (Ae changes)] S/\Dg h id (b2||!(params.all (BN true))) xi j (BQ [A7 D0,A7 name] ((params.length:Int)==0) Cj (AE (AZ params))) H) ?_ ?_
 ·have hpl:=Gw params;have hat:=hI.grow.at_;obtain⟨hg,⟨i1,i2,i3,i4,i5⟩,o1,o2,o3⟩:=(show Dg _ _ _ _ _ _ _ from hI);have cP:=M5 (h:=H) (b:=b2) (vars:=true) hsm.params hok.params.2 (by omega) hat;have cL:=λh:A1=>Jd (AZ params) h;have cp:=λ(m:Bool)(hx:(H.set id (wO (b2||!(params.all (BN true))))).obj xi=some (xO j 2))(hj:(H.set id (wO (b2||!(params.all (BN true))))).obj j=some (.arr 6 (Sx.rows [A7 D0,A7 name])))=>J8 (h:=H.set id (wO (b2||!(params.all (BN true))))) (xi:=xi) (j:=j) (L:=[A7 D0,A7 name]) (kw:=Cj) (v:=AE (AZ params)) (m:=m) hx hj i5 i2 i4 (by simp);generalize hm:((params.length:Int)==0)=m;simp only[AE,Sx.cells,Cj]at cL cp;replace zz:=Ak s0 s3 s5 hpl hm;refine wy zz ?_;replace zz:=Ak s0 s3 s5 hpl hm;refine uZ zz (cP) ?_;refine wy zz ?_;replace zz:=Ak s0 s3 s5 hpl hm;first|refine uV zz (cL _) ?_|refine uJ zz cL ?_
  refine wy zz ?_;have o1':(H.set id (wO (b2||!(params.all (BN true))))).obj xi=some (xO j 2):=(Az (by omega)).trans o2;have o2':(H.set id (wO (b2||!(params.all (BN true))))).obj j=some (.arr 6 (Sx.rows [A7 D0,A7 name])):=(Az (by omega)).trans o3;replace zz:=Ak s0 s3 s5 hpl hm;refine uZ zz (cp m o1' o2') ?_;refine wy zz ?_;cases m with
  |true=>exact⟨j,⟨sq s0,sq s3,sq s4,sq s5⟩,hI.put hid⟩
  |false=>exact⟨_,⟨sq s0,sq s3,sq s4,sq s5⟩,(hI.put hid).part hid⟩
 ·have hL1:(BQ [A7 D0,A7 name] ((params.length:Int)==0) Cj (AE (AZ params))).length<=4:=IZ _ _ _ _;generalize hLe1:BQ [A7 D0,A7 name] ((params.length:Int)==0) Cj (AE (AZ params))=LL1 at hL1⊢;generalize hb3:(b2||!(params.all (BN true)))=b3
  clear s0 s3 s4 s5 hI;rintro S H ⟨j,⟨s0,s3,s4,s5⟩,hI⟩;refine DB (λS H=> ∃ j,HS h id xi [A4 name,.A2 2 (A9 params),.sc (.int .i64 cost),A4 gop,A4 gna,.A2 1 (AN gar),.A2 2 (A9 gpa),.A2 5 (Ex.rows gex),.A2 6 (Fm.rows gki),.A2 15 (Ae changes)] S/\Dg h id b3 xi j (BQ LL1 (cost==1) G6 (DO cost)) H) ?_ ?_
  ·have hat:=hI.grow.at_;obtain⟨hg,⟨i1,i2,i3,i4,i5⟩,o1,o2,o3⟩:=(show Dg _ _ _ _ _ _ _ from hI);have cD:=λh:A1=>Si (h:=h) (n:=cost);have cp:=λ(m:Bool)(hx:H.obj xi=some (xO j LL1.length))(hj:H.obj j=some (.arr 6 (Sx.rows LL1)))=>J8 (h:=H) (xi:=xi) (j:=j) (L:=LL1) (kw:=G6) (v:=(DO cost)) (m:=m) hx hj i5 i2 i4 (by omega);generalize hm:(cost==1)=m;simp only[DO,Sx.cells,Sx.rows,G6]at cD cp;replace zz:=Aa s0 s3 s5 hm;refine wy zz ?_;replace zz:=Aa s0 s3 s5 hm;(first|refine uV zz (cD _) ?_|refine uJ zz cD ?_);refine wy zz ?_;have o1':H.obj xi=some (xO j LL1.length):=o2;have o2':H.obj j=some (.arr 6 (Sx.rows LL1)):=o3;replace zz:=Aa s0 s3 s5 hm;refine uZ zz (cp m o1' o2') ?_;refine wy zz ?_;cases m with
   |true=>exact⟨j,⟨sq s0,sq s3,sq s4,sq s5⟩,hI⟩
   |false=>exact⟨_,⟨sq s0,sq s3,sq s4,sq s5⟩,hI.part hid⟩
  ·have hL2:(BQ LL1 (cost==1) G6 (DO cost)).length<=6:=(by have:=IZ LL1 (cost==1) G6 (DO cost);omega);generalize hLe2:BQ LL1 (cost==1) G6 (DO cost)=LL2 at hL2⊢;clear s0 s3 s4 s5 hI;rintro S H ⟨j,⟨s0,s3,s4,s5⟩,hI⟩;refine DB (λS H=> ∃ j,HS h id xi [A4 name,.A2 2 (A9 params),.sc (.int .i64 cost),A4 gop,A4 gna,.A2 1 (AN gar),.A2 2 (A9 gpa),.A2 5 (Ex.rows gex),.A2 6 (Fm.rows gki),.A2 15 (Ae changes)] S/\Dg h id (b3||!(Bh (.mk gop gna gar gpa gex gki))) xi j (BQ LL2 (C3 (.mk gop gna gar gpa gex gki)) GY (Bb (.mk gop gna gar gpa gex gki))) H) ?_ ?_
   ·have hat:=hI.grow.at_;obtain⟨hg,⟨i1,i2,i3,i4,i5⟩,o1,o2,o3⟩:=(show Dg _ _ _ _ _ _ _ from hI);have cA:=λh:A1=>LD (h:=h);have cS:=λh:A1=>Iz (.mk gop gna gar gpa gex gki) hok.pre Bw ON h;have hAl:(.mk gop gna gar gpa gex gki:Fm).same Bw=C3 (.mk gop gna gar gpa gex gki):=rfl;rw[hAl]at cS;have cW:=OK (h:=H) (b:=b3) hok.pre hsm.pre (by omega) hat;generalize Bb (.mk gop gna gar gpa gex gki)=X at cW⊢;obtain⟨yk,yv,yl,yc,yt,ys⟩:=X;have cp:=λ(m:Bool)(hx:(H.set id (wO (b3||!(Bh (.mk gop gna gar gpa gex gki))))).obj xi=some (xO j LL2.length))(hj:(H.set id (wO (b3||!(Bh (.mk gop gna gar gpa gex gki))))).obj j=some (.arr 6 (Sx.rows LL2)))=>J8 (h:=(H.set id (wO (b3||!(Bh (.mk gop gna gar gpa gex gki)))))) (xi:=xi) (j:=j) (L:=LL2) (kw:=GY) (v:=(.mk yk yv yl yc yt ys)) (m:=m) hx hj i5 i2 i4 (by omega);generalize hm:(C3 (.mk gop gna gar gpa gex gki))=m at cS⊢;simp only[Bw,Fm.cells,Sx.cells,Sx.rows,GY]at cA cS cW cp;replace zz:=Aa s0 s3 s5 hm;refine wy zz ?_;replace zz:=Aa s0 s3 s5 hm;(first|refine uV zz (cA _) ?_|refine uJ zz cA ?_);refine wy zz ?_;replace zz:=Aa s0 s3 s5 hm;(first|refine uV zz (cS _) ?_|refine uJ zz cS ?_);refine wy zz ?_;replace zz:=Aa s0 s3 s5 hm;refine uZ zz (cW) ?_;refine wy zz ?_;have o1':(H.set id (wO (b3||!(Bh (.mk gop gna gar gpa gex gki))))).obj xi=some (xO j LL2.length):=(Az (by omega)).trans o2;have o2':(H.set id (wO (b3||!(Bh (.mk gop gna gar gpa gex gki))))).obj j=some (.arr 6 (Sx.rows LL2)):=(Az (by omega)).trans o3;replace zz:=Aa s0 s3 s5 hm;refine uZ zz (cp m o1' o2') ?_;refine wy zz ?_;cases m with
    |true=>exact⟨j,⟨sq s0,sq s3,sq s4,sq s5⟩,hI.put hid⟩
    |false=>exact⟨_,⟨sq s0,sq s3,sq s4,sq s5⟩,(hI.put hid).part hid⟩
   ·have hL3:(BQ LL2 (C3 (.mk gop gna gar gpa gex gki)) GY (Bb (.mk gop gna gar gpa gex gki))).length<=8:=(by have:=IZ LL2 (C3 (.mk gop gna gar gpa gex gki)) GY (Bb (.mk gop gna gar gpa gex gki));omega);generalize hLe3:BQ LL2 (C3 (.mk gop gna gar gpa gex gki)) GY (Bb (.mk gop gna gar gpa gex gki))=LL3 at hL3⊢;generalize hb4:(b3||!(Bh (.mk gop gna gar gpa gex gki)))=b4;clear s0 s3 s4 s5 hI;rintro S H ⟨j,⟨s0,s3,s4,s5⟩,hI⟩;refine DB (λS H=> ∃ j,HS h id xi [A4 name,.A2 2 (A9 params),.sc (.int .i64 cost),A4 gop,A4 gna,.A2 1 (AN gar),.A2 2 (A9 gpa),.A2 5 (Ex.rows gex),.A2 6 (Fm.rows gki),.A2 15 (Ae changes)] S/\Dg h id (b4||!(changes.all CA)) xi j (BQ LL3 ((changes.length:Int)==0) FH (CS changes)) H) ?_ ?_
    ·have hat:=hI.grow.at_;obtain⟨hg,⟨i1,i2,i3,i4,i5⟩,o1,o2,o3⟩:=(show Dg _ _ _ _ _ _ _ from hI);have hpl:=Ko changes;have cE:=QF (h:=H) (b:=b4) hsm.Z4 hok.changes.2 hsm.ch (by omega) hat;generalize CS changes=X at cE⊢;obtain⟨yk,yv,yl,yc,yt,ys⟩:=X;have cp:=λ(m:Bool)(hx:(H.set id (wO (b4||!(changes.all CA)))).obj xi=some (xO j LL3.length))(hj:(H.set id (wO (b4||!(changes.all CA)))).obj j=some (.arr 6 (Sx.rows LL3)))=>J8 (h:=(H.set id (wO (b4||!(changes.all CA))))) (xi:=xi) (j:=j) (L:=LL3) (kw:=FH) (v:=(.mk yk yv yl yc yt ys)) (m:=m) hx hj i5 i2 i4 (by omega);generalize hm:((changes.length:Int)==0)=m;simp only[AE,Sx.cells,Sx.rows,FH]at cE cp;replace zz:=Ak s0 s3 s5 hm hpl;refine wy zz ?_;replace zz:=Ak s0 s3 s5 hm hpl;refine uZ zz (cE) ?_;refine wy zz ?_;have o1':(H.set id (wO (b4||!(changes.all CA)))).obj xi=some (xO j LL3.length):=(Az (by omega)).trans o2;have o2':(H.set id (wO (b4||!(changes.all CA)))).obj j=some (.arr 6 (Sx.rows LL3)):=(Az (by omega)).trans o3;replace zz:=Ak s0 s3 s5 hm hpl;refine uZ zz (cp m o1' o2') ?_;refine wy zz ?_;cases m with
     |true=>exact⟨j,⟨sq s0,sq s3,sq s4,sq s5⟩,hI.put hid⟩
     |false=>exact⟨_,⟨sq s0,sq s3,sq s4,sq s5⟩,(hI.put hid).part hid⟩
    ·have hL4:(BQ LL3 ((changes.length:Int)==0) FH (CS changes)).length<=10:=(by have:=IZ LL3 ((changes.length:Int)==0) FH (CS changes);omega);have hLL:EM ⟨name,params,cost,.mk gop gna gar gpa gex gki,changes⟩=AE (BQ LL3 ((changes.length:Int)==0) FH (CS changes)):=(by rw[← hLe3, ← hLe2, ← hLe1];try rfl);have hBB:(b||!Fj ⟨name,params,cost,.mk gop gna gar gpa gex gki,changes⟩)=(b4||!(changes.all CA)):=by
      rw[← hb4, ← hb3, ← hb2, ← hb1];unfold Fj;simp only;cases b<;>cases As name<;>cases decide (cost<0)<;>cases params.all (BN true)<;>cases Bh (.mk gop gna gar gpa gex gki)<;>cases changes.all CA<;>rfl
     rw[hLL,hBB];generalize BQ LL3 ((changes.length:Int)==0) FH (CS changes)=L at hL4⊢;generalize(b4||!(changes.all CA))=bb;clear s0 s3 s4 s5 hI;rintro S H ⟨j,⟨s0,s3,s4,s5⟩,⟨hg,⟨i1,i2,i3,i4,i5⟩,o1,o2,o3⟩⟩;simp only[xO]at o2;have n1:(h.next=xi)=False:=BB (by omega);replace zz:=Ak s4 s5 o1 o2 n1;refine wt zz ?_;refine⟨?_,hg.set hid (AG _)⟩;simp only[AE,Sx.cells,AJ,AP];refine⟨_,rfl,rfl,rfl,rfl,rfl,rfl,.inr (.inr ⟨j,0,L.length,Sx.rows L,rfl,by omega,?_,?_,?_⟩),trivial⟩
     ·simp only[A1.set];rw[A8 (by omega)];exact o3
     ·rw [Sx.B4];omega
     ·rw [List.drop_zero,List.take_of_length_le (by rw[Sx.B4];omega)];exact IK _ _ _
def EN:ByteArray:=⟨#[58,100,117,114,97,116,105,118,101,45,97,99,116,105,111,110]⟩
def Eo:ByteArray:=⟨#[58,100,117,114,97,116,105,111,110]⟩
def F5:ByteArray:=⟨#[58,115,116,97,114,116]⟩
def FI:ByteArray:=⟨#[58,111,118,101,114]⟩
def FW:ByteArray:=⟨#[58,101,110,100]⟩
def Fk:ByteArray:=⟨#[58,97,116,45,115,116,97,114,116]⟩
def Gk:ByteArray:=⟨#[58,97,116,45,101,110,100]⟩
def Wy(a:Du):List Sx:=BQ (BQ (BQ (BQ (BQ (BQ (BQ [A7 EN,A7 a.name] ((a.params.length:Int)==0) Cj (AE (AZ a.params))) (a.Dp==1) Eo (DO a.Dp)) (C3 a.start) F5 (Bb a.start)) (C3 a.over) FI (Bb a.over)) (C3 a.stop) FW (Bb a.stop)) ((a.Bp.length:Int)==0) Fk (CS a.Bp)) ((a.Bq.length:Int)==0) Gk (CS a.Bq)
def EO(a:Du):Sx:=AE (Wy a)
def FJ(a:Du):Bool:=As a.name&&a.params.all (BN true)&&Bh a.start&&Bh a.over&&Bh a.stop&&a.Bp.all CA&&a.Bq.all CA
structure OQ(a:Du):Prop where
 params:a.params.length<=1048576
 start:a.start.small
 over:a.over.small
 stop:a.stop.small
 Qm:a.Bp.length<=1048576/\ ∀ c∈a.Bp,FV c
 Qn:a.Bq.length<=1048576/\ ∀ c∈a.Bq,FV c
theorem kq{h:A1}{id:Nat}{b:Bool}{a:Du}(hok:a.ok)(hsm:OQ a)(hid:id<h.next)(ho:h.obj id=some (wO b)):
  A6 prog 46 [.ptr id 0 0,.agg (DF a)] h λr h'=>r= .agg (EO a).cells/\h'=h.set id (wO (b||!FJ a)):=by
 refine JL Ty.RW λhwf=>?_;refine A6.LS Ty.RW ho (LC _ _) ?_;have hno: ∀ i,h.next<=i->h.obj i=none:=λi hi=>by
  cases q:h.obj i with
  |none=>rfl
  |some o=>have:=hwf i (by rw[q];try rfl);omega
 obtain⟨name,params,dur,⟨sop,sna,sar,spa,sex,ski⟩,⟨vop,vna,var_,vpa,vex,vki⟩,⟨eop,ena,ear,epa,eex,eki⟩,ats,ate⟩:=a;have hw: ∀ (s:ByteArray)(h:A1),A6 prog 40 [A4 s] h λr h'=>r= .agg (A7 s).cells/\h'=h:=λs h=>KB;have hns:name.size<=9223372036854775807:=by have:=hok.name;unfold AI at this;simp only at this;omega
 have cN:=λ(H:A1)(hid:id<H.next)(ho:H.obj id=some (wO b))=>N3 (h:=H) (b:=b) hns hid ho;simp only[A7,Sx.cells,Sx.rows]at hw cN;simp only[DF,Fm.cells,List.cons_append,List.nil_append];have n1:(id=h.next)=False:=BB (by omega);have n2:(h.next=id)=False:=BB (by omega);refine PT (ow:=λt=>t==11) (wf:=λf=>f==41||f==43||f==100||f==51||f==97) Ty.Pa func46 rfl Ty.RW (by rw[ntmps46];simp) ?_;rw[ntmps46,results46];refine Af (λK hK=>?_);repeat'(first|refine Af λK hK=>?_|refine uR A5 ?_|(refine uN hK ?_;clear hK)|apply zI)
 refine SM [7] (by decide+kernel) (by decide+kernel) ?_;have n3:(h.next+1+7=h.next)=False:=BB (by omega);have n4:(h.next+1+7=id)=False:=BB (by omega);have n5:(h.next+1+9=id)=False:=BB (by omega);have n6:(h.next+1+7=h.next+1+9)=False:=BB (by omega);have n7:(h.next+1+9=h.next+1+7)=False:=BB (by omega);have n8:(id=h.next+1+7)=False:=BB (by omega);have hN8:h.obj (h.next+1+7)=none:=hno _ (by omega);simp(maxSteps:=4000000) only[EL,Ty.w,simprocAttr,Ty.AW,List.forall_mem_cons,ho,n1,n2,n3,n4,n5,n6,n7,n8,hN8];first
  |refine Q5 [7] (by decide+kernel) (hw EN _) (sr (B9 ho n1 n2 n3 n4 n5 n6 n7 n8 hN8)) ?_
  |refine L5 [7] (by decide+kernel) (hw EN _) (sr (B9 ho n1 n2 n3 n4 n5 n6 n7 n8 hN8)) (by simp only[Ty.w,simprocAttr,Ty.AW,ho,n1,n2,n3,n4,n5,n6,n7,n8,hN8];try trivial) ?_
 simp(maxSteps:=4000000) only[EL,Ty.w,simprocAttr,Ty.AW,List.forall_mem_cons,List.nil_append,ho,n1,n2,n3,n4,n5,n6,n7,n8,hN8];refine Sj [7] (by decide+kernel) (cN _ (by simp only[A1.new];omega) (sq (B9 ho n1 n2 n3 n4 n5 n6 n7 n8 hN8))) (sr (B9 ho n1 n2 n3 n4 n5 n6 n7 n8 hN8)) ?_ ?_
 ·exact ⟨sq (B9 ho n1 n2 n3 n4 n5 n6 n7 n8 hN8),by simp only[Df,List.map_cons,List.map_nil,List.forall_mem_cons];(repeat' apply And.intro)<;>first|exact .inl (by decide+kernel)|exact(λ_ hx=>by cases hx)⟩
 simp(maxSteps:=4000000) only[EL,Ty.w,simprocAttr,Ty.AW,List.forall_mem_cons,List.nil_append,ho,n1,n2,n3,n4,n5,n6,n7,n8,hN8];refine⟨by(repeat' apply And.intro)<;>first|exact .inl (by decide+kernel)|exact(λ_ hx=>by cases hx)|trivial,?_⟩;have hl3: ∀ H:A1,h.next+1+9<H.next->A6 prog 39 [.own (h.next+1+9) 0 2] H λr h'=>r= .agg [.sc (.int .i64 3),.sc (.int .i64 0),.sc (.int .i64 0),.sc (.int .i64 0),.sc (.string ⟨#[]⟩),.own (h.next+1+9) 0 2]/\h'=H:=λH hh=>KC rfl (λ_=>Kt hh)
 refine L5 [7] (by decide+kernel) (hl3 _ (by simp[A1.new,A1.set])) (sr (B9 ho n1 n2 n3 n4 n5 n6 n7 n8 hN8)) (by(repeat' apply And.intro)<;>first|exact .inl (by decide+kernel)|exact(λ_ hx=>by cases hx)|trivial) ?_;simp(maxSteps:=4000000) only[EL,Ty.w,simprocAttr,Ty.AW,List.forall_mem_cons,List.nil_append,ho,n1,n2,n3,n4,n5,n6,n7,n8,hN8];refine⟨?_,?_⟩
 ·(repeat' apply And.intro)<;>first
    |exact .inl (by decide+kernel)
    |exact .inr (CW (hw EN _) (sr (B9 ho n1 n2 n3 n4 n5 n6 n7 n8 hN8)))
    |exact .inr (CW (hl3 _ (by simp[A1.new,A1.set])) (sr (B9 ho n1 n2 n3 n4 n5 n6 n7 n8 hN8)))
    |exact .inr (by simp only[Ty.w,simprocAttr,Ty.AW,ho,n1,n2,n3,n4,n5,n6,n7,n8,hN8])
    |exact(λ_ hx=>by cases hx)
    |trivial
 refine⟨?_,?_⟩
 ·(repeat' apply And.intro)<;>first
    |exact .inl (by decide+kernel)
    |exact .inr (CW (hw EN _) (sr (B9 ho n1 n2 n3 n4 n5 n6 n7 n8 hN8)))
    |exact .inr (CW (hl3 _ (by simp[A1.new,A1.set])) (sr (B9 ho n1 n2 n3 n4 n5 n6 n7 n8 hN8)))
    |exact .inr (by simp only[Ty.w,simprocAttr,Ty.AW,ho,n1,n2,n3,n4,n5,n6,n7,n8,hN8])
    |exact(λ_ hx=>by cases hx)
    |trivial
 first|refine hK _ _ ?_|refine cK ?_
 try clear hK
 generalize hxi:h.next+1+7=xi
 refine Cq (λS H=> ∃ j,HS h id xi [A4 name,.A2 2 (A9 params),.sc (.int .i64 dur),A4 sop,A4 sna,.A2 1 (AN sar),.A2 2 (A9 spa),.A2 5 (Ex.rows sex),.A2 6 (Fm.rows ski),A4 vop,A4 vna,.A2 1 (AN var_),.A2 2 (A9 vpa),.A2 5 (Ex.rows vex),.A2 6 (Fm.rows vki),A4 eop,A4 ena,.A2 1 (AN ear),.A2 2 (A9 epa),.A2 5 (Ex.rows eex),.A2 6 (Fm.rows eki),.A2 15 (Ae ats),.A2 15 (Ae ate)] S/\Dg h id (b||!As name) xi j [A7 EN,A7 name] H) ?_ ?_
 ·subst hxi;refine⟨h.next+1+9,⟨sq A5,sq A5,sq A5,sq A5⟩,⟨?_,⟨by omega,by simp only[A1.set,A1.new];omega,by omega,by simp only[A1.set,A1.new];omega,by omega⟩,?_,?_,?_⟩⟩
  ·refine ⟨by simp only[A1.set,A1.new];omega,λk hk hne=>?_,?_⟩
   ·simp only[A1.set,A1.new];(repeat(first|rw[A8 (by omega)]|rw[AK A5]));try exact A8 (by omega)
   ·simp only[A1.set,A1.new];repeat(first|rw[A8 (by omega)]|rw[AK A5])
  ·simp only[A1.set,A1.new];repeat(first|rw[A8 (by omega)]|rw[AK A5])
  ·simp only[A1.set,A1.new];(repeat(first|rw[A8 (by omega)]|rw[AK A5]));rfl
  ·simp only[A1.set,A1.new];(repeat(first|rw[A8 (by omega)]|rw[AK A5]));simp[A7,Sx.rows,Sx.cells]
 clear n1 n2 n3 n4 n5 n6 n7 n8 hN8 hno hwf hl3 cN;rintro S H ⟨j,⟨s0,s3,s4,s5⟩,hI⟩;generalize hb1:(b||!As name)=b1 at hI;have hL0:[A7 EN,A7 name].length<=2:=by simp
 generalize hLe0:[A7 EN,A7 name]=LL0 at hL0 hI;refine DB (λS H=> ∃ j,HS h id xi [A4 name,.A2 2 (A9 params),.sc (.int .i64 dur),A4 sop,A4 sna,.A2 1 (AN sar),.A2 2 (A9 spa),.A2 5 (Ex.rows sex),.A2 6 (Fm.rows ski),A4 vop,A4 vna,.A2 1 (AN var_),.A2 2 (A9 vpa),.A2 5 (Ex.rows vex),.A2 6 (Fm.rows vki),A4 eop,A4 ena,.A2 1 (AN ear),.A2 2 (A9 epa),.A2 5 (Ex.rows eex),.A2 6 (Fm.rows eki),.A2 15 (Ae ats),.A2 15 (Ae ate)] S/\Dg h id (b1||!(params.all (BN true))) xi j (BQ LL0 ((params.length:Int)==0) Cj (AE (AZ params))) H) ?_ ?_
 ·have hat:=hI.grow.at_;obtain⟨hg,⟨i1,i2,i3,i4,i5⟩,o1,o2,o3⟩:=(show Dg _ _ _ _ _ _ _ from hI);have hpl:=Gw params;have cP:=M5 (h:=H) (b:=b1) (vars:=true) hsm.params hok.params.2 (by omega) hat;have cL:=λh:A1=>Jd (AZ params) h;have cp:=λ(m:Bool)(hx:(H.set id (wO (b1||!(params.all (BN true))))).obj xi=some (xO j LL0.length))(hj:(H.set id (wO (b1||!(params.all (BN true))))).obj j=some (.arr 6 (Sx.rows LL0)))=>J8 (h:=(H.set id (wO (b1||!(params.all (BN true)))))) (xi:=xi) (j:=j) (L:=LL0) (kw:=Cj) (v:=(AE (AZ params))) (m:=m) hx hj i5 i2 i4 (by omega);generalize hm:((params.length:Int)==0)=m;simp only[AE,Sx.cells,Sx.rows,Cj]at cP cL cp;replace zz:=Ak s0 s3 s5 hm hpl;refine wy zz ?_;replace zz:=Ak s0 s3 s5 hm hpl;refine uZ zz (cP) ?_;refine wy zz ?_;replace zz:=Ak s0 s3 s5 hm hpl;first|refine uV zz (cL _) ?_|refine uJ zz cL ?_
  refine wy zz ?_;have o1':(H.set id (wO (b1||!(params.all (BN true))))).obj xi=some (xO j LL0.length):=(Az (by omega)).trans o2;have o2':(H.set id (wO (b1||!(params.all (BN true))))).obj j=some (.arr 6 (Sx.rows LL0)):=(Az (by omega)).trans o3;replace zz:=Ak s0 s3 s5 hm hpl;refine uZ zz (cp m o1' o2') ?_;refine wy zz ?_;cases m with
  |true=>exact⟨j,⟨sq s0,sq s3,sq s4,sq s5⟩,hI.put hid⟩
  |false=>exact⟨_,⟨sq s0,sq s3,sq s4,sq s5⟩,(hI.put hid).part hid⟩
 ·have hL1:(BQ LL0 ((params.length:Int)==0) Cj (AE (AZ params))).length<=4:=by have:=IZ LL0 ((params.length:Int)==0) Cj (AE (AZ params));omega
  generalize hLe1:BQ LL0 ((params.length:Int)==0) Cj (AE (AZ params))=LL1 at hL1⊢;generalize hb2:(b1||!(params.all (BN true)))=b2
  clear s0 s3 s4 s5 hI;rintro S H ⟨j,⟨s0,s3,s4,s5⟩,hI⟩;refine DB (λS H=> ∃ j,HS h id xi [A4 name,.A2 2 (A9 params),.sc (.int .i64 dur),A4 sop,A4 sna,.A2 1 (AN sar),.A2 2 (A9 spa),.A2 5 (Ex.rows sex),.A2 6 (Fm.rows ski),A4 vop,A4 vna,.A2 1 (AN var_),.A2 2 (A9 vpa),.A2 5 (Ex.rows vex),.A2 6 (Fm.rows vki),A4 eop,A4 ena,.A2 1 (AN ear),.A2 2 (A9 epa),.A2 5 (Ex.rows eex),.A2 6 (Fm.rows eki),.A2 15 (Ae ats),.A2 15 (Ae ate)] S/\Dg h id b2 xi j (BQ LL1 (dur==1) Eo (DO dur)) H) ?_ ?_
  ·have hat:=hI.grow.at_;obtain⟨hg,⟨i1,i2,i3,i4,i5⟩,o1,o2,o3⟩:=(show Dg _ _ _ _ _ _ _ from hI);have cD:=λh:A1=>Si (h:=h) (n:=dur);have cp:=λ(m:Bool)(hx:H.obj xi=some (xO j LL1.length))(hj:H.obj j=some (.arr 6 (Sx.rows LL1)))=>J8 (h:=H) (xi:=xi) (j:=j) (L:=LL1) (kw:=Eo) (v:=(DO dur)) (m:=m) hx hj i5 i2 i4 (by omega);generalize hm:(dur==1)=m;simp only[DO,Sx.cells,Sx.rows,Eo]at cD cp;replace zz:=Aa s0 s3 s5 hm;refine wy zz ?_;replace zz:=Aa s0 s3 s5 hm;(first|refine uV zz (cD _) ?_|refine uJ zz cD ?_);refine wy zz ?_;have o1':H.obj xi=some (xO j LL1.length):=o2;have o2':H.obj j=some (.arr 6 (Sx.rows LL1)):=o3;replace zz:=Aa s0 s3 s5 hm;refine uZ zz (cp m o1' o2') ?_;refine wy zz ?_;cases m with
   |true=>exact⟨j,⟨sq s0,sq s3,sq s4,sq s5⟩,hI⟩
   |false=>exact⟨_,⟨sq s0,sq s3,sq s4,sq s5⟩,hI.part hid⟩
  ·have hL2:(BQ LL1 (dur==1) Eo (DO dur)).length<=6:=(by have:=IZ LL1 (dur==1) Eo (DO dur);omega);generalize hLe2:BQ LL1 (dur==1) Eo (DO dur)=LL2 at hL2⊢;clear s0 s3 s4 s5 hI;rintro S H ⟨j,⟨s0,s3,s4,s5⟩,hI⟩;refine DB (λS H=> ∃ j,HS h id xi [A4 name,.A2 2 (A9 params),.sc (.int .i64 dur),A4 sop,A4 sna,.A2 1 (AN sar),.A2 2 (A9 spa),.A2 5 (Ex.rows sex),.A2 6 (Fm.rows ski),A4 vop,A4 vna,.A2 1 (AN var_),.A2 2 (A9 vpa),.A2 5 (Ex.rows vex),.A2 6 (Fm.rows vki),A4 eop,A4 ena,.A2 1 (AN ear),.A2 2 (A9 epa),.A2 5 (Ex.rows eex),.A2 6 (Fm.rows eki),.A2 15 (Ae ats),.A2 15 (Ae ate)] S/\Dg h id (b2||!(Bh (.mk sop sna sar spa sex ski))) xi j (BQ LL2 (C3 (.mk sop sna sar spa sex ski)) F5 (Bb (.mk sop sna sar spa sex ski))) H) ?_ ?_
   ·have hat:=hI.grow.at_;obtain⟨hg,⟨i1,i2,i3,i4,i5⟩,o1,o2,o3⟩:=(show Dg _ _ _ _ _ _ _ from hI);have cA:=λh:A1=>LD (h:=h);have cS:=λh:A1=>Iz (.mk sop sna sar spa sex ski) hok.start Bw ON h;have hAl:(.mk sop sna sar spa sex ski:Fm).same Bw=C3 (.mk sop sna sar spa sex ski):=rfl;rw[hAl]at cS;have cW:=OK (h:=H) (b:=b2) hok.start hsm.start (by omega) hat;generalize Bb (.mk sop sna sar spa sex ski)=X at cW⊢;obtain⟨yk,yv,yl,yc,yt,ys⟩:=X;have cp:=λ(m:Bool)(hx:(H.set id (wO (b2||!(Bh (.mk sop sna sar spa sex ski))))).obj xi=some (xO j LL2.length))(hj:(H.set id (wO (b2||!(Bh (.mk sop sna sar spa sex ski))))).obj j=some (.arr 6 (Sx.rows LL2)))=>J8 (h:=(H.set id (wO (b2||!(Bh (.mk sop sna sar spa sex ski)))))) (xi:=xi) (j:=j) (L:=LL2) (kw:=F5) (v:=(.mk yk yv yl yc yt ys)) (m:=m) hx hj i5 i2 i4 (by omega);generalize hm:(C3 (.mk sop sna sar spa sex ski))=m at cS⊢;simp only[Bw,Fm.cells,Sx.cells,Sx.rows,F5]at cA cS cW cp;replace zz:=Aa s0 s3 s5 hm;refine wy zz ?_;replace zz:=Aa s0 s3 s5 hm;(first|refine uV zz (cA _) ?_|refine uJ zz cA ?_);refine wy zz ?_;replace zz:=Aa s0 s3 s5 hm;(first|refine uV zz (cS _) ?_|refine uJ zz cS ?_);refine wy zz ?_;replace zz:=Aa s0 s3 s5 hm;refine uZ zz (cW) ?_;refine wy zz ?_;have o1':(H.set id (wO (b2||!(Bh (.mk sop sna sar spa sex ski))))).obj xi=some (xO j LL2.length):=(Az (by omega)).trans o2;have o2':(H.set id (wO (b2||!(Bh (.mk sop sna sar spa sex ski))))).obj j=some (.arr 6 (Sx.rows LL2)):=(Az (by omega)).trans o3;replace zz:=Aa s0 s3 s5 hm;refine uZ zz (cp m o1' o2') ?_;refine wy zz ?_;cases m with
    |true=>exact⟨j,⟨sq s0,sq s3,sq s4,sq s5⟩,hI.put hid⟩
    |false=>exact⟨_,⟨sq s0,sq s3,sq s4,sq s5⟩,(hI.put hid).part hid⟩
   ·have hL3:(BQ LL2 (C3 (.mk sop sna sar spa sex ski)) F5 (Bb (.mk sop sna sar spa sex ski))).length<=8:=(by have:=IZ LL2 (C3 (.mk sop sna sar spa sex ski)) F5 (Bb (.mk sop sna sar spa sex ski));omega);generalize hLe3:BQ LL2 (C3 (.mk sop sna sar spa sex ski)) F5 (Bb (.mk sop sna sar spa sex ski))=LL3 at hL3⊢;generalize hb3:(b2||!(Bh (.mk sop sna sar spa sex ski)))=b3;clear s0 s3 s4 s5 hI;rintro S H ⟨j,⟨s0,s3,s4,s5⟩,hI⟩;refine DB (λS H=> ∃ j,HS h id xi [A4 name,.A2 2 (A9 params),.sc (.int .i64 dur),A4 sop,A4 sna,.A2 1 (AN sar),.A2 2 (A9 spa),.A2 5 (Ex.rows sex),.A2 6 (Fm.rows ski),A4 vop,A4 vna,.A2 1 (AN var_),.A2 2 (A9 vpa),.A2 5 (Ex.rows vex),.A2 6 (Fm.rows vki),A4 eop,A4 ena,.A2 1 (AN ear),.A2 2 (A9 epa),.A2 5 (Ex.rows eex),.A2 6 (Fm.rows eki),.A2 15 (Ae ats),.A2 15 (Ae ate)] S/\Dg h id (b3||!(Bh (.mk vop vna var_ vpa vex vki))) xi j (BQ LL3 (C3 (.mk vop vna var_ vpa vex vki)) FI (Bb (.mk vop vna var_ vpa vex vki))) H) ?_ ?_
    ·have hat:=hI.grow.at_;obtain⟨hg,⟨i1,i2,i3,i4,i5⟩,o1,o2,o3⟩:=(show Dg _ _ _ _ _ _ _ from hI);have cA:=λh:A1=>LD (h:=h);have cS:=λh:A1=>Iz (.mk vop vna var_ vpa vex vki) hok.over Bw ON h;have hAl:(.mk vop vna var_ vpa vex vki:Fm).same Bw=C3 (.mk vop vna var_ vpa vex vki):=rfl;rw[hAl]at cS;have cW:=OK (h:=H) (b:=b3) hok.over hsm.over (by omega) hat;generalize Bb (.mk vop vna var_ vpa vex vki)=X at cW⊢;obtain⟨yk,yv,yl,yc,yt,ys⟩:=X;have cp:=λ(m:Bool)(hx:(H.set id (wO (b3||!(Bh (.mk vop vna var_ vpa vex vki))))).obj xi=some (xO j LL3.length))(hj:(H.set id (wO (b3||!(Bh (.mk vop vna var_ vpa vex vki))))).obj j=some (.arr 6 (Sx.rows LL3)))=>J8 (h:=(H.set id (wO (b3||!(Bh (.mk vop vna var_ vpa vex vki)))))) (xi:=xi) (j:=j) (L:=LL3) (kw:=FI) (v:=(.mk yk yv yl yc yt ys)) (m:=m) hx hj i5 i2 i4 (by omega);generalize hm:(C3 (.mk vop vna var_ vpa vex vki))=m at cS⊢;simp only[Bw,Fm.cells,Sx.cells,Sx.rows,FI]at cA cS cW cp;replace zz:=Aa s0 s3 s5 hm;refine wy zz ?_;replace zz:=Aa s0 s3 s5 hm;(first|refine uV zz (cA _) ?_|refine uJ zz cA ?_);refine wy zz ?_;replace zz:=Aa s0 s3 s5 hm;(first|refine uV zz (cS _) ?_|refine uJ zz cS ?_);refine wy zz ?_;replace zz:=Aa s0 s3 s5 hm;refine uZ zz (cW) ?_;refine wy zz ?_;have o1':(H.set id (wO (b3||!(Bh (.mk vop vna var_ vpa vex vki))))).obj xi=some (xO j LL3.length):=(Az (by omega)).trans o2;have o2':(H.set id (wO (b3||!(Bh (.mk vop vna var_ vpa vex vki))))).obj j=some (.arr 6 (Sx.rows LL3)):=(Az (by omega)).trans o3;replace zz:=Aa s0 s3 s5 hm;refine uZ zz (cp m o1' o2') ?_;refine wy zz ?_;cases m with
     |true=>exact⟨j,⟨sq s0,sq s3,sq s4,sq s5⟩,hI.put hid⟩
     |false=>exact⟨_,⟨sq s0,sq s3,sq s4,sq s5⟩,(hI.put hid).part hid⟩
    ·have hL4:(BQ LL3 (C3 (.mk vop vna var_ vpa vex vki)) FI (Bb (.mk vop vna var_ vpa vex vki))).length<=10:=(by have:=IZ LL3 (C3 (.mk vop vna var_ vpa vex vki)) FI (Bb (.mk vop vna var_ vpa vex vki));omega);generalize hLe4:BQ LL3 (C3 (.mk vop vna var_ vpa vex vki)) FI (Bb (.mk vop vna var_ vpa vex vki))=LL4 at hL4⊢;generalize hb4:(b3||!(Bh (.mk vop vna var_ vpa vex vki)))=b4;clear s0 s3 s4 s5 hI;rintro S H ⟨j,⟨s0,s3,s4,s5⟩,hI⟩;refine DB (λS H=> ∃ j,HS h id xi [A4 name,.A2 2 (A9 params),.sc (.int .i64 dur),A4 sop,A4 sna,.A2 1 (AN sar),.A2 2 (A9 spa),.A2 5 (Ex.rows sex),.A2 6 (Fm.rows ski),A4 vop,A4 vna,.A2 1 (AN var_),.A2 2 (A9 vpa),.A2 5 (Ex.rows vex),.A2 6 (Fm.rows vki),A4 eop,A4 ena,.A2 1 (AN ear),.A2 2 (A9 epa),.A2 5 (Ex.rows eex),.A2 6 (Fm.rows eki),.A2 15 (Ae ats),.A2 15 (Ae ate)] S/\Dg h id (b4||!(Bh (.mk eop ena ear epa eex eki))) xi j (BQ LL4 (C3 (.mk eop ena ear epa eex eki)) FW (Bb (.mk eop ena ear epa eex eki))) H) ?_ ?_
     ·have hat:=hI.grow.at_;obtain⟨hg,⟨i1,i2,i3,i4,i5⟩,o1,o2,o3⟩:=(show Dg _ _ _ _ _ _ _ from hI);have cA:=λh:A1=>LD (h:=h);have cS:=λh:A1=>Iz (.mk eop ena ear epa eex eki) hok.stop Bw ON h;have hAl:(.mk eop ena ear epa eex eki:Fm).same Bw=C3 (.mk eop ena ear epa eex eki):=rfl;rw[hAl]at cS;have cW:=OK (h:=H) (b:=b4) hok.stop hsm.stop (by omega) hat;generalize Bb (.mk eop ena ear epa eex eki)=X at cW⊢;obtain⟨yk,yv,yl,yc,yt,ys⟩:=X;have cp:=λ(m:Bool)(hx:(H.set id (wO (b4||!(Bh (.mk eop ena ear epa eex eki))))).obj xi=some (xO j LL4.length))(hj:(H.set id (wO (b4||!(Bh (.mk eop ena ear epa eex eki))))).obj j=some (.arr 6 (Sx.rows LL4)))=>J8 (h:=(H.set id (wO (b4||!(Bh (.mk eop ena ear epa eex eki)))))) (xi:=xi) (j:=j) (L:=LL4) (kw:=FW) (v:=(.mk yk yv yl yc yt ys)) (m:=m) hx hj i5 i2 i4 (by omega);generalize hm:(C3 (.mk eop ena ear epa eex eki))=m at cS⊢;simp only[Bw,Fm.cells,Sx.cells,Sx.rows,FW]at cA cS cW cp;replace zz:=Aa s0 s3 s5 hm;refine wy zz ?_;replace zz:=Aa s0 s3 s5 hm;(first|refine uV zz (cA _) ?_|refine uJ zz cA ?_);refine wy zz ?_;replace zz:=Aa s0 s3 s5 hm;(first|refine uV zz (cS _) ?_|refine uJ zz cS ?_);refine wy zz ?_;replace zz:=Aa s0 s3 s5 hm;refine uZ zz (cW) ?_;refine wy zz ?_;have o1':(H.set id (wO (b4||!(Bh (.mk eop ena ear epa eex eki))))).obj xi=some (xO j LL4.length):=(Az (by omega)).trans o2;have o2':(H.set id (wO (b4||!(Bh (.mk eop ena ear epa eex eki))))).obj j=some (.arr 6 (Sx.rows LL4)):=(Az (by omega)).trans o3;replace zz:=Aa s0 s3 s5 hm;refine uZ zz (cp m o1' o2') ?_;refine wy zz ?_;cases m with
      |true=>exact⟨j,⟨sq s0,sq s3,sq s4,sq s5⟩,hI.put hid⟩
      |false=>exact⟨_,⟨sq s0,sq s3,sq s4,sq s5⟩,(hI.put hid).part hid⟩
     ·have hL5:(BQ LL4 (C3 (.mk eop ena ear epa eex eki)) FW (Bb (.mk eop ena ear epa eex eki))).length<=12:=(by have:=IZ LL4 (C3 (.mk eop ena ear epa eex eki)) FW (Bb (.mk eop ena ear epa eex eki));omega);generalize hLe5:BQ LL4 (C3 (.mk eop ena ear epa eex eki)) FW (Bb (.mk eop ena ear epa eex eki))=LL5 at hL5⊢;generalize hb5:(b4||!(Bh (.mk eop ena ear epa eex eki)))=b5;clear s0 s3 s4 s5 hI;rintro S H ⟨j,⟨s0,s3,s4,s5⟩,hI⟩;refine DB (λS H=> ∃ j,HS h id xi [A4 name,.A2 2 (A9 params),.sc (.int .i64 dur),A4 sop,A4 sna,.A2 1 (AN sar),.A2 2 (A9 spa),.A2 5 (Ex.rows sex),.A2 6 (Fm.rows ski),A4 vop,A4 vna,.A2 1 (AN var_),.A2 2 (A9 vpa),.A2 5 (Ex.rows vex),.A2 6 (Fm.rows vki),A4 eop,A4 ena,.A2 1 (AN ear),.A2 2 (A9 epa),.A2 5 (Ex.rows eex),.A2 6 (Fm.rows eki),.A2 15 (Ae ats),.A2 15 (Ae ate)] S/\Dg h id (b5||!(ats.all CA)) xi j (BQ LL5 ((ats.length:Int)==0) Fk (CS ats)) H) ?_ ?_
      ·have hat:=hI.grow.at_;obtain⟨hg,⟨i1,i2,i3,i4,i5⟩,o1,o2,o3⟩:=(show Dg _ _ _ _ _ _ _ from hI);have hpl:=Ko ats;have cE:=QF (h:=H) (b:=b5) hsm.Qm.1 hok.Bp.2 hsm.Qm.2 (by omega) hat;generalize CS ats=X at cE⊢;obtain⟨yk,yv,yl,yc,yt,ys⟩:=X;have cp:=λ(m:Bool)(hx:(H.set id (wO (b5||!(ats.all CA)))).obj xi=some (xO j LL5.length))(hj:(H.set id (wO (b5||!(ats.all CA)))).obj j=some (.arr 6 (Sx.rows LL5)))=>J8 (h:=(H.set id (wO (b5||!(ats.all CA))))) (xi:=xi) (j:=j) (L:=LL5) (kw:=Fk) (v:=(.mk yk yv yl yc yt ys)) (m:=m) hx hj i5 i2 i4 (by omega);generalize hm:((ats.length:Int)==0)=m;simp only[AE,Sx.cells,Sx.rows,Fk]at cE cp;replace zz:=Ak s0 s3 s5 hm hpl;refine wy zz ?_;replace zz:=Ak s0 s3 s5 hm hpl;refine uZ zz (cE) ?_;refine wy zz ?_;have o1':(H.set id (wO (b5||!(ats.all CA)))).obj xi=some (xO j LL5.length):=(Az (by omega)).trans o2;have o2':(H.set id (wO (b5||!(ats.all CA)))).obj j=some (.arr 6 (Sx.rows LL5)):=(Az (by omega)).trans o3;replace zz:=Ak s0 s3 s5 hm hpl;refine uZ zz (cp m o1' o2') ?_;refine wy zz ?_;cases m with
       |true=>exact⟨j,⟨sq s0,sq s3,sq s4,sq s5⟩,hI.put hid⟩
       |false=>exact⟨_,⟨sq s0,sq s3,sq s4,sq s5⟩,(hI.put hid).part hid⟩
      ·have hL6:(BQ LL5 ((ats.length:Int)==0) Fk (CS ats)).length<=14:=(by have:=IZ LL5 ((ats.length:Int)==0) Fk (CS ats);omega);generalize hLe6:BQ LL5 ((ats.length:Int)==0) Fk (CS ats)=LL6 at hL6⊢;generalize hb6:(b5||!(ats.all CA))=b6;clear s0 s3 s4 s5 hI;rintro S H ⟨j,⟨s0,s3,s4,s5⟩,hI⟩;refine DB (λS H=> ∃ j,HS h id xi [A4 name,.A2 2 (A9 params),.sc (.int .i64 dur),A4 sop,A4 sna,.A2 1 (AN sar),.A2 2 (A9 spa),.A2 5 (Ex.rows sex),.A2 6 (Fm.rows ski),A4 vop,A4 vna,.A2 1 (AN var_),.A2 2 (A9 vpa),.A2 5 (Ex.rows vex),.A2 6 (Fm.rows vki),A4 eop,A4 ena,.A2 1 (AN ear),.A2 2 (A9 epa),.A2 5 (Ex.rows eex),.A2 6 (Fm.rows eki),.A2 15 (Ae ats),.A2 15 (Ae ate)] S/\Dg h id (b6||!(ate.all CA)) xi j (BQ LL6 ((ate.length:Int)==0) Gk (CS ate)) H) ?_ ?_
       ·have hat:=hI.grow.at_;obtain⟨hg,⟨i1,i2,i3,i4,i5⟩,o1,o2,o3⟩:=(show Dg _ _ _ _ _ _ _ from hI);have hpl:=Ko ate;have cE:=QF (h:=H) (b:=b6) hsm.Qn.1 hok.Bq.2 hsm.Qn.2 (by omega) hat;generalize CS ate=X at cE⊢;obtain⟨yk,yv,yl,yc,yt,ys⟩:=X;have cp:=λ(m:Bool)(hx:(H.set id (wO (b6||!(ate.all CA)))).obj xi=some (xO j LL6.length))(hj:(H.set id (wO (b6||!(ate.all CA)))).obj j=some (.arr 6 (Sx.rows LL6)))=>J8 (h:=(H.set id (wO (b6||!(ate.all CA))))) (xi:=xi) (j:=j) (L:=LL6) (kw:=Gk) (v:=(.mk yk yv yl yc yt ys)) (m:=m) hx hj i5 i2 i4 (by omega);generalize hm:((ate.length:Int)==0)=m;simp only[AE,Sx.cells,Sx.rows,Gk]at cE cp;replace zz:=Ak s0 s3 s5 hm hpl;refine wy zz ?_;replace zz:=Ak s0 s3 s5 hm hpl;refine uZ zz (cE) ?_;refine wy zz ?_;have o1':(H.set id (wO (b6||!(ate.all CA)))).obj xi=some (xO j LL6.length):=(Az (by omega)).trans o2;have o2':(H.set id (wO (b6||!(ate.all CA)))).obj j=some (.arr 6 (Sx.rows LL6)):=(Az (by omega)).trans o3;replace zz:=Ak s0 s3 s5 hm hpl;refine uZ zz (cp m o1' o2') ?_;refine wy zz ?_;cases m with
        |true=>exact⟨j,⟨sq s0,sq s3,sq s4,sq s5⟩,hI.put hid⟩
        |false=>exact⟨_,⟨sq s0,sq s3,sq s4,sq s5⟩,(hI.put hid).part hid⟩
       ·have hL7:(BQ LL6 ((ate.length:Int)==0) Gk (CS ate)).length<=16:=(by have:=IZ LL6 ((ate.length:Int)==0) Gk (CS ate);omega);generalize hLe7:BQ LL6 ((ate.length:Int)==0) Gk (CS ate)=LL7 at hL7⊢;generalize hb7:(b6||!(ate.all CA))=b7;clear s0 s3 s4 s5 hI;rintro S H ⟨j,⟨s0,s3,s4,s5⟩,hI⟩;have hLL:EO ⟨name,params,dur,.mk sop sna sar spa sex ski,.mk vop vna var_ vpa vex vki,.mk eop ena ear epa eex eki,ats,ate⟩=AE LL7:=(by rw[← hLe7, ← hLe6, ← hLe5, ← hLe4, ← hLe3, ← hLe2, ← hLe1, ← hLe0];try rfl);have hBB:(b||!FJ ⟨name,params,dur,.mk sop sna sar spa sex ski,.mk vop vna var_ vpa vex vki,.mk eop ena ear epa eex eki,ats,ate⟩)=b7:=by
         rw[← hb7, ← hb6, ← hb5, ← hb4, ← hb3, ← hb2, ← hb1];unfold FJ;simp only;cases b<;>cases As name<;>cases params.all (BN true)<;>cases Bh (.mk sop sna sar spa sex ski)<;>cases Bh (.mk vop vna var_ vpa vex vki)<;>cases Bh (.mk eop ena ear epa eex eki)<;>cases ats.all CA<;>cases ate.all CA<;>rfl
        rw[hLL,hBB];obtain⟨hg,⟨i1,i2,i3,i4,i5⟩,o1,o2,o3⟩:=hI;simp only[xO]at o2;have n1:(h.next=xi)=False:=BB (by omega);replace zz:=Ak s4 s5 o1 o2 n1;refine wt zz ?_;refine⟨?_,hg.set hid (AG _)⟩;simp only[AE,Sx.cells,AJ,AP];refine⟨_,rfl,rfl,rfl,rfl,rfl,rfl,.inr (.inr ⟨j,0,LL7.length,Sx.rows LL7,rfl,by omega,?_,?_,?_⟩),trivial⟩
        ·simp only[A1.set];rw[A8 (by omega)];exact o3
        ·rw [Sx.B4];omega
        ·rw [List.drop_zero,List.take_of_length_le (by rw[Sx.B4];omega)];exact IK _ _ _
theorem A6.pK{P:Program}{f:FuncId}{args:List PV}{h:A1}{K:PV->A1->Prop}(hc:A6 P f args h λr' h'=> ∃ r h2,K r h2/\Wk (λ_=>r') h' (λ_=>r) h2):A6 P f args h K:=by
 intro β w vals sm hr;refine(hc β w vals sm hr).mono ?_;rintro e w' ⟨r',h',β',v,rfl,⟨r,h2,hK,hw⟩,sm',hrep,ex⟩;obtain⟨k1,k2,k3⟩:=hw β' w' sm';exact⟨r,h2,β',v,rfl,hK,k1,k3 0 _ hrep,ex.trans k2⟩
def FX(h:A1)(xi j:Nat)(L:List Sx):A1:=⟨h.next+18+1+1+1,λi=>if i=xi then some (xO (h.next+18+1+1) L.length)else if i=h.next+18+1+1 then some (.arr 6 (Sx.rows L))else if i=j then none else if i<h.next then h.obj i else none⟩
theorem QI{h:A1}{xi j:Nat}{L ks:List Sx}{kw:ByteArray}(hx:h.obj xi=some (xO j L.length))(hj:h.obj j=some (.arr 6 (Sx.rows L)))(hne:xi≠j)(hxl:xi<h.next)(hjl:j<h.next)(hL:L.length<=1048580)(hks:ks.length<=4194304):
  A6 prog 42 [.ptr xi 0 0,A4 kw,.A2 6 (Sx.rows ks)] h λr h'=>r=Gt []/\h'=(if ks.isEmpty=true then h else FX h xi j (L++[AE (A7 kw::ks)])):=by
 have hw: ∀ (s:ByteArray)(h:A1),A6 prog 40 [A4 s] h λr h'=>r= .agg (A7 s).cells/\h'=h:=λs h=>KB;simp only[A7,Sx.cells,Sx.rows]at hw;have hkl:=Sx.B4 ks;cases q0:ks.isEmpty with
 |true=>
  have d0:decide ((ks.length:Int)>0)=false:=by rw[List.isEmpty_iff.1 q0];try rfl
  have d1:((0:Int)<(ks.length:Int))=False:=BB (by rw[List.isEmpty_iff.1 q0];simp);refine AF func42 ntmps42 results42 Ty.UV ?_;refine wt (AY hkl d0 d1) ?_;simp only[Io,HE];exact⟨trivial,trivial⟩
 |false=>
  have hpos:0<ks.length:=by
   cases ks with
   |nil=>cases q0
   |cons a l=>simp
  have d0:decide ((ks.length:Int)>0)=true:=by simp;omega
  have d1:((0:Int)<(ks.length:Int))=True:=DU (by omega);have hrl:(Sx.rows L).length=L.length:=Sx.B4 L;have hb1:(1+ks.length)*72<=140737488355328:=by omega
  have hb2:(L.length+1)*72<=140737488355328:=by omega
  have htk:List.take L.length (Sx.rows L)=Sx.rows L:=List.take_of_length_le (by omega);have c1:(Value.int IntKind.i64 0).oneCell'=true:=rfl;have c2:(Value.string ⟨#[]⟩).oneCell'=true:=rfl;have c3:(Value.slice none 0 0).oneCell'=true:=rfl;have n1:(xi=h.next+18)=False:=BB (by omega);have n2:(xi=h.next+18+1)=False:=BB (by omega);have n3:(j=h.next+18)=False:=BB (by omega);have n4:(j=h.next+18+1)=False:=BB (by omega);simp only[xO]at hx;have hl3: ∀ H:A1,h.next+18+1<H.next->A6 prog 39 [.own (h.next+18+1) 0 (1+ks.length)] H λr h'=>r= .agg [.sc (.int .i64 3),.sc (.int .i64 0),.sc (.int .i64 0),.sc (.int .i64 0),.sc (.string ⟨#[]⟩),.own (h.next+18+1) 0 (1+ks.length)]/\h'=H:=λH hh=>KC rfl (λ_=>Kt hh)
  refine A6.drop (A6.pK ?_);refine uG (ow:=λt=>t==15) (wf:=λ_=>false) func42 ntmps42 results42 Ty.UV ?_;refine xB 1 (AY hkl d0 d1) ?_;refine⟨?_⟩;refine Q3 13 (by decide+kernel) λK hK=>?_;simp only[List.take_succ_cons,List.take_zero,List.drop_succ_cons,List.drop_zero];simp(maxSteps:=4000000) only[Ty.w,simprocAttr,Ty.AW,c1,c2,c3,hx,hj,hrl,hkl,htk,hb1,hb2,n1,n2,n3,n4,d0,d1,AG];replace zz:=Ab c1 c2 c3 hx hj hrl hkl htk hb1 hb2 n1 (Al n2 n3 n4 d0 d1 @AG);first|refine uV zz (hw kw _) ?_|refine V8 zz (hw kw _) ?_
  refine⟨by(try simp(maxSteps:=4000000) only[List.forall_mem_cons,Ty.w,simprocAttr,Ty.AW,c1,c2,c3,hx,hj,hrl,hkl,htk,hb1,hb2,n1,n2,n3,n4,d0,d1,AG])<;>((repeat' apply And.intro)<;>first|trivial|exact .inl (by decide+kernel)|exact .inr A5|exact .inr (CW (hw kw _) (sr (Ab c1 c2 c3 hx hj hrl hkl htk hb1 hb2 n1 (Al n2 n3 n4 d0 d1 @AG))))|exact(λ_ hx=>by cases hx)),?_⟩;try simp(maxSteps:=4000000) only[Ty.w,simprocAttr,Ty.AW,c1,c2,c3,hx,hj,hrl,hkl,htk,hb1,hb2,n1,n2,n3,n4,d0,d1,AG]
  refine⟨by(try simp(maxSteps:=4000000) only[List.forall_mem_cons,Ty.w,simprocAttr,Ty.AW,c1,c2,c3,hx,hj,hrl,hkl,htk,hb1,hb2,n1,n2,n3,n4,d0,d1,AG])<;>((repeat' apply And.intro)<;>first|trivial|exact .inl (by decide+kernel)|exact .inr A5|exact .inr (CW (hw kw _) (sr (Ab c1 c2 c3 hx hj hrl hkl htk hb1 hb2 n1 (Al n2 n3 n4 d0 d1 @AG))))|exact(λ_ hx=>by cases hx)),?_⟩;try simp(maxSteps:=4000000) only[Ty.w,simprocAttr,Ty.AW,c1,c2,c3,hx,hj,hrl,hkl,htk,hb1,hb2,n1,n2,n3,n4,d0,d1,AG]
  replace zz:=Ab c1 c2 c3 hx hj hrl hkl htk hb1 hb2 n1 (Al n2 n3 n4 d0 d1 @AG);first|refine uV zz (hl3 _ (by simp[A1.new,A1.kill])) ?_|refine V8 zz (hl3 _ (by simp[A1.new,A1.kill])) ?_
  refine⟨by simp only[List.forall_mem_cons];(repeat' apply And.intro)<;>first|exact .inl (by decide+kernel)|exact(λ_ hx=>by cases hx),?_⟩;have hset1: ∀ x:List PV,(Sx.rows L++[Bj]).set L.length x=Sx.rows L++[x]:=λx=>by rw[List.set_append_right _ _ (by omega),hrl,KV];try rfl
  have hget1:(Sx.rows L++[Bj])[L.length]? =some Bj:=by rw[List.getElem?_append_right (by omega),hrl,KV];try rfl
  have hN1:(((((A1.new ⟨h.next+18,h.obj⟩ (.arr 6 [[.sc (.int .i64 1),.sc (.int .i64 0),.sc (.int .i64 0),.sc (.int .i64 0),A4 kw,.A2 6 []]])).kill (h.next+18)).new (.arr 6 ([.sc (.int .i64 1),.sc (.int .i64 0),.sc (.int .i64 0),.sc (.int .i64 0),A4 kw,.A2 6 []]::Sx.rows ks))).kill j).new (.arr 6 (Sx.rows L++[Bj]))).obj (h.next+18+1+1)=some (.arr 6 (Sx.rows L++[Bj])):=by simp only[A1.new,A1.kill,AO]
  have hX1:(((((A1.new ⟨h.next+18,h.obj⟩ (.arr 6 [[.sc (.int .i64 1),.sc (.int .i64 0),.sc (.int .i64 0),.sc (.int .i64 0),A4 kw,.A2 6 []]])).kill (h.next+18)).new (.arr 6 ([.sc (.int .i64 1),.sc (.int .i64 0),.sc (.int .i64 0),.sc (.int .i64 0),A4 kw,.A2 6 []]::Sx.rows ks))).kill j).new (.arr 6 (Sx.rows L++[Bj]))).obj xi=some (xO j L.length):=by
   simp only[A1.new,A1.kill];rw[A8 (by omega),A8 hne,A8 (by omega),A8 (by omega),A8 (by omega)];exact hx
  have hM1:(((((A1.new ⟨h.next+18,h.obj⟩ (.arr 6 [[.sc (.int .i64 1),.sc (.int .i64 0),.sc (.int .i64 0),.sc (.int .i64 0),A4 kw,.A2 6 []]])).kill (h.next+18)).new (.arr 6 ([.sc (.int .i64 1),.sc (.int .i64 0),.sc (.int .i64 0),.sc (.int .i64 0),A4 kw,.A2 6 []]::Sx.rows ks))).kill j).new (.arr 6 (Sx.rows L++[Bj]))).obj (h.next+18+1)=some (.arr 6 ([.sc (.int .i64 1),.sc (.int .i64 0),.sc (.int .i64 0),.sc (.int .i64 0),A4 kw,.A2 6 []]::Sx.rows ks)):=by
   simp only[A1.new,A1.kill];rw[A8 (by omega),A8 (by omega),AK A5]
  have hO1: ∀ i,i<h.next->i≠j->(((((A1.new ⟨h.next+18,h.obj⟩ (.arr 6 [[.sc (.int .i64 1),.sc (.int .i64 0),.sc (.int .i64 0),.sc (.int .i64 0),A4 kw,.A2 6 []]])).kill (h.next+18)).new (.arr 6 ([.sc (.int .i64 1),.sc (.int .i64 0),.sc (.int .i64 0),.sc (.int .i64 0),A4 kw,.A2 6 []]::Sx.rows ks))).kill j).new (.arr 6 (Sx.rows L++[Bj]))).obj i=h.obj i:=λi hi hij=>by
   simp only[A1.new,A1.kill];rw[A8 (by omega),A8 hij,A8 (by omega),A8 (by omega),A8 (by omega)]
  have hn1:(((((A1.new ⟨h.next+18,h.obj⟩ (.arr 6 [[.sc (.int .i64 1),.sc (.int .i64 0),.sc (.int .i64 0),.sc (.int .i64 0),A4 kw,.A2 6 []]])).kill (h.next+18)).new (.arr 6 ([.sc (.int .i64 1),.sc (.int .i64 0),.sc (.int .i64 0),.sc (.int .i64 0),A4 kw,.A2 6 []]::Sx.rows ks))).kill j).new (.arr 6 (Sx.rows L++[Bj]))).next=h.next+18+1+1+1:=rfl
  generalize((((A1.new ⟨h.next+18,h.obj⟩ (.arr 6 [[.sc (.int .i64 1),.sc (.int .i64 0),.sc (.int .i64 0),.sc (.int .i64 0),A4 kw,.A2 6 []]])).kill (h.next+18)).new (.arr 6 ([.sc (.int .i64 1),.sc (.int .i64 0),.sc (.int .i64 0),.sc (.int .i64 0),A4 kw,.A2 6 []]::Sx.rows ks))).kill j).new (.arr 6 (Sx.rows L++[Bj]))=H1 at hN1 hX1 hM1 hO1 hn1⊢;refine IR (.ptr (h.next+18+1+1) L.length 0) [h.next+18+1+1] (.inr (by decide+kernel)) (by decide) rfl rfl (λH hH=>by
   have hH:=(hH _ (List.mem_singleton.2 rfl)).trans hN1;have q1:(L.length<L.length+1)=True:=DU (by omega);simp only[Ty.w,simprocAttr,Ty.AW,hH,q1,c1,c2,c3,hrl,hkl,hb2,AG]) dL ?_
  refine K8 (ob:= .arr 6 (Sx.rows L++[[.sc (.int .i64 3),.sc (.int .i64 0),.sc (.int .i64 0),.sc (.int .i64 0),.sc (.string ⟨#[]⟩),.own (h.next+18+1) 0 (1+ks.length)]])) rfl (by decide) rfl (by simp only[Ty.w,simprocAttr,Ty.AW];try rfl) (by
   simp only[Ty.w,simprocAttr,Ty.AW,hN1,hget1,hset1,c1,c2,c3,hrl,hkl,hb2,AG];try rfl) (λf q hf hq ha=>by rcases(show f=15\/f=16\/f=17 from by have hfl:=(List.getElem?_eq_some_iff.1 hq).1;simp only[List.length_cons,List.length_nil]at hfl;omega)with rfl|rfl|rfl<;>(simp only[List.getElem?_cons_succ,List.getElem?_cons_zero,BD]at hq;subst hq;revert ha;decide+kernel)) dL dL ?_
  refine IR (.ptr xi 0 0) [] (.inl rfl) (by decide) rfl rfl (λH _=>by(try simp only[Ty.w,simprocAttr,Ty.AW,c1,c2,c3,hrl,hkl,hb2,AG]);try rfl) dL ?_;refine IR (.ptr xi 0 5) [] (.inl rfl) (by decide) rfl rfl (λH _=>by(try simp only[Ty.w,simprocAttr,Ty.AW,c1,c2,c3,hrl,hkl,hb2,AG]);try rfl) dL ?_;have nX:(xi=h.next+18+1+1)=False:=BB (by omega);have hX2:=hX1;simp only[xO]at hX2;refine K8 (ob:=xO (h.next+18+1+1) (L.length+1)) rfl (by decide) rfl (by simp only[Ty.w,simprocAttr,Ty.AW];try rfl) (by
   simp only[Ty.w,simprocAttr,Ty.AW,hX2,nX,c1,c2,c3,hrl,hkl,hb2,AG];try rfl) (λf q hf hq ha=>by have hfl:=(List.getElem?_eq_some_iff.1 hq).1;simp only[List.length_cons,List.length_nil]at hfl;omega) dL dL ?_
  refine Q4 (hK _ _ ?_);simp only[Io,HE];have hlen:(L++[AE (A7 kw::ks)]).length=L.length+1:=by simp
  have hRL:Sx.rows (L++[AE (A7 kw::ks)])=Sx.rows L++[[.sc (.int .i64 3),.sc (.int .i64 0),.sc (.int .i64 0),.sc (.int .i64 0),.sc (.string ⟨#[]⟩),.A2 6 ([.sc (.int .i64 1),.sc (.int .i64 0),.sc (.int .i64 0),.sc (.int .i64 0),A4 kw,.A2 6 []]::Sx.rows ks)]]:=by simp[Sx.rows_map,AE,A7,Sx.cells,Sx.rows,A4]
  have oM:((H1.set (h.next+18+1+1) (.arr 6 (Sx.rows L++[[.sc (.int .i64 3),.sc (.int .i64 0),.sc (.int .i64 0),.sc (.int .i64 0),.sc (.string ⟨#[]⟩),.own (h.next+18+1) 0 (1+ks.length)]]))).set xi (xO (h.next+18+1+1) (L.length+1))).obj (h.next+18+1)=some (.arr 6 ([.sc (.int .i64 1),.sc (.int .i64 0),.sc (.int .i64 0),.sc (.int .i64 0),A4 kw,.A2 6 []]::Sx.rows ks)):=(Az (by omega)).trans ((Az (by omega)).trans hM1);have oN:((H1.set (h.next+18+1+1) (.arr 6 (Sx.rows L++[[.sc (.int .i64 3),.sc (.int .i64 0),.sc (.int .i64 0),.sc (.int .i64 0),.sc (.string ⟨#[]⟩),.own (h.next+18+1) 0 (1+ks.length)]]))).set xi (xO (h.next+18+1+1) (L.length+1))).obj (h.next+18+1+1)=some (.arr 6 (Sx.rows L++[[.sc (.int .i64 3),.sc (.int .i64 0),.sc (.int .i64 0),.sc (.int .i64 0),.sc (.string ⟨#[]⟩),.own (h.next+18+1) 0 (1+ks.length)]])):=(Az (by omega)).trans DC;have hgv:GH (h.next+18+1) 6 ([.sc (.int .i64 1),.sc (.int .i64 0),.sc (.int .i64 0),.sc (.int .i64 0),A4 kw,.A2 6 []]::Sx.rows ks) (Sx.rows L++[[.sc (.int .i64 3),.sc (.int .i64 0),.sc (.int .i64 0),.sc (.int .i64 0),.sc (.string ⟨#[]⟩),.own (h.next+18+1) 0 (1+ks.length)]]) (Sx.rows (L++[AE (A7 kw::ks)])):=by
   rw[hRL];refine GH.snoc ?_ _;simp only[Fy,Gv];exact⟨.inl A5,.inl A5,.inl A5,.inl A5,.inl A5,.inr ⟨by rw[List.length_cons,hkl,TN ks.length 1],trivial⟩,trivial⟩
  refine⟨_,_,?_,Wk.Z2 oM oN (by omega) hgv⟩;rw[← hlen];generalize L++[AE (A7 kw::ks)]=L2;refine⟨Gt [],FX h xi j L2,⟨rfl,by simp⟩,by simp[Gt,AJ,AP],by simp only[FX];omega,λi o hio=>?_⟩;simp only[FX]at hio⊢;simp only[JR];by_cases h1:i=xi
  ·subst h1;rw[AK rfl]at hio;obtain rfl:=JE hio;exact⟨(Az (by omega)).trans ((FU (by omega)).trans DC),by omega,.inr (by simp[xO,Eu,BC,Br,Be])⟩
  ·rw [A8 h1]at hio;by_cases h2:i=h.next+18+1+1
   ·subst h2;rw[AK rfl]at hio;obtain rfl:=JE hio;exact⟨DC,by omega,.inr (by simp only[Eu];exact HK _ _)⟩
   ·rw [A8 h2]at hio;by_cases h3:i=j
    ·rw [AK h3]at hio;cases hio
    ·rw [A8 h3]at hio;by_cases h4:i<h.next
     ·rw [AK h4]at hio;exact⟨((Az h2).trans ((FU (by omega)).trans ((Az h1).trans ((Az h2).trans (hO1 i h4 h3))))).trans hio,by omega,.inl hio⟩
     ·rw [A8 h4]at hio;cases hio
set_option maxHeartbeats 4000000
theorem LI{x:Sx}(hok:x.ok)(hsm:x.small){w:ByteArray}{l:List Sx}(h:Bt x=some (w,l)):w.size<=AI/\l.length<=1048576/\ ∀ y∈l,y.ok:=by
 obtain⟨kind,value,line,col,text,kids⟩:=x;simp only[Sx.ok]at hok;simp only[Sx.small]at hsm;obtain⟨_,_,_,hk,hks⟩:=hok;simp only[Bt]at h;split at h
 ·cases kids with
  |nil=>simp at h
  |cons y rest=>
   simp only at h;rw[Sx.Bz]at hks;cases hh:Ax y==1 with
   |false=>rw[hh]at h;simp at h
   |true=>
    rw[hh]at h;simp only[AC,BD,C4]at h;obtain⟨rfl,rfl⟩:=h;have hy:=hks y (by simp);have hl1:=hsm.1;refine⟨?_,by simp only[List.length_cons]at hl1;omega,λz hz=>hks z (by simp[hz])⟩;obtain⟨ki,va,li,co,te,ks⟩:=y;simp only[Sx.ok]at hy;exact hy.2.2.1
 ·simp at h
theorem N9{kind value line col:Int}{text w:ByteArray}{kids l:List Sx}(h:Bt (.mk kind value line col text kids)=some (w,l)): ∃ y,kids=y::l/\(Ax y==1)=true/\Aj y=w:=by
 simp only[Bt]at h;split at h
 ·cases kids with
  |nil=>simp at h
  |cons y rest=>
   simp only at h;cases hh:Ax y==1 with
   |false=>rw[hh]at h;simp at h
   |true=>
    rw[hh]at h;simp only[AC,BD,C4]at h;obtain⟨rfl,rfl⟩:=h;exact⟨y,rfl,hh,rfl⟩
 ·simp at h
theorem OR{x:Sx}(h:A1):A6 prog 116 [.agg x.cells] h λr h'=>r= .sc (.bool (Ax x==1))/\h'=h:=by
 obtain⟨kind,value,line,col,text,kids⟩:=x;simp only[Sx.cells,Ax];refine AF func116 ntmps116 results116 Ty.fh ?_;exact wz A5
theorem M7{x:Sx}(hok:x.ok)(h:A1):A6 prog 58 [.agg x.cells] h λr h'=>r= .sc (.bool (Bt x).isSome)/\h'=h:=by
 obtain⟨kind,value,line,col,text,kids⟩:=x;simp only[Sx.ok]at hok;obtain⟨_,_,_,hk,_⟩:=hok;generalize hF:(Bt (.mk kind value line col text kids)).isSome=F;simp only[Bt]at hF;simp only[Sx.cells];have hlen:=Sx.B4 kids;cases k3:(kind==3)with
 |false=>
  rw[A8 (by simpa using k3)]at hF;subst hF;refine AF func58 ntmps58 results58 Ty.RZ ?_;refine wm k3 ?_;try exact zI
  all_goals rfl
 |true=>
  rw[AK (by simpa using k3)]at hF;cases kids with
  |nil=>
   simp only at hF;subst hF;have q:decide (((Sx.rows []).length:Int)>0)=false:=rfl;generalize Sx.rows []=R at q hlen;refine AF func58 ntmps58 results58 Ty.RZ ?_;refine wm (uu k3 q) ?_;try exact zI
   all_goals rfl
  |cons y rest=>
   simp only at hF;have q:decide (((Sx.rows (y::rest)).length:Int)>0)=true:=(by rw[hlen];simp<;>omega);have q1:((0:Int)<((Sx.rows (y::rest)).length:Int))=True:=DU (by rw[hlen];simp<;>omega);have r0:=Sx.CL (l:=y::rest) (i:=0) rfl;have hc:=λh:A1=>OR (x:=y) h;generalize Sx.rows (y::rest)=R at q q1 r0 hlen⊢;obtain⟨ki,va,li,co,te,ks⟩:=y;simp only[Sx.cells,Ax,Aj]at r0 hF hc;have e:F=(ki==1):=(by rw[← hF];cases ki==1<;>rfl);subst e;clear hF;refine AF func58 ntmps58 results58 Ty.RZ ?_;replace zz:=Aa k3 q q1 r0;refine wt zz ?_;refine uU r0 (hc _) ?_;refine wm (uu k3 q) ?_;try exact zI
   all_goals rfl
theorem kr{w:ByteArray}(h:A1):A6 prog 109 [A4 w] h λr h'=>r= .sc (.int .i64 (Fi w))/\h'=h:=by
 unfold Fi A3 JY JZ Ja;cases e1:(w.data.toList==[97,115,115,105,103,110])with
 |true=>
  refine AF func109 ntmps109 results109 Ty.Pe ?_;refine wm e1 ?_;try exact zI
  all_goals rfl
 |false=>
  cases e2:(w.data.toList==[105,110,99,114,101,97,115,101])with
  |true=>
   refine AF func109 ntmps109 results109 Ty.Pe ?_;refine wm (uu e1 e2) ?_;try exact zI
   all_goals rfl
  |false=>
   cases e3:(w.data.toList==[100,101,99,114,101,97,115,101])with
   |true=>
    refine AF func109 ntmps109 results109 Ty.Pe ?_;refine wm (AY e1 e2 e3) ?_;try exact zI
    all_goals rfl
   |false=>
    refine AF func109 ntmps109 results109 Ty.Pe ?_;refine wm (AY e1 e2 e3) ?_;try exact zI
    all_goals rfl
abbrev M8(a:ByteArray × List ByteArray × Int):PV:= .Am [A4 a.1,.A2 1 (AN a.2.1),AS a.2.2]
theorem Sk{x:Sx}(hok:x.ok)(hsm:x.small)(h:A1):A6 prog 113 [.agg x.cells] h λr h'=>r=M8 (Em x)/\h'=h:=by
 refine A6.CF Ty.Pg ?_;have hb:=M7 hok;generalize hF:Em x=F;unfold Em at hF;have bad: ∀ (c:Int)(h':A1),c=2\/c=8->F=(⟨#[]⟩,[],c)->AJ h.next h' (M8 F) (.Am [A4 ⟨#[]⟩,.sc (.slice none 0 0),Ao c]):=by
  intro c h' hc hf;subst hf;have e:AS c=Ao c:=by rcases hc with rfl|rfl<;>rfl
  simp only[M8,e,Ao,AN,List.map_nil,AJ,AP];exact⟨_,rfl,rfl,.inr (.inl ⟨rfl,.inr rfl⟩),rfl,trivial⟩
 simp only[Ao]at bad;have hO:=λw l=>LI hok hsm (w:=w) (l:=l);obtain⟨kind,value,line,col,text,kids⟩:=x;generalize hD:Bt (.mk kind value line col text kids)=D at hF hb hO;cases D with
 |none=>
  simp only at hF;simp only[Sx.cells,MP]at hb⊢;refine AF func113 ntmps113 results113 Ty.Pg ?_;refine wt A5 ?_;refine uU A5 (hb _) ?_;refine wt yF ?_;exact⟨bad 2 _ (.inl rfl) hF.symm,AH.refl _⟩
 |some wl=>
  obtain⟨w,l⟩:=wl;obtain⟨hw,hl,hlo⟩:=hO w l rfl;simp only at hF;simp only[Sx.cells,NK]at hb⊢;obtain⟨y,rfl,hy1,hy2⟩:=N9 hD;have hlen:=Sx.B4 (y::l);have r0:=Sx.CL (l:=y::l) (i:=0) rfl;have q1:(1:Int)<=((Sx.rows (y::l)).length:Int):=by rw[hlen];simp<;>omega
  have q0:((0:Int)<((Sx.rows (y::l)).length:Int))=True:=DU (by rw[hlen];simp<;>omega);have ht:List.take (((Sx.rows (y::l)).length:Int)-1).toNat (List.drop 1 (Sx.rows (y::l)))=Sx.rows l:=by
   simp only[Sx.rows,List.drop_succ_cons,List.drop_zero,List.length_cons];rw[List.take_of_length_le (by omega)]
  have hll:=Sx.B4 l;have hwn:w.size<=9223372036854775807:=by unfold AI at hw;omega
  have hn:=λh:A1=>FP (h:=h) hwn
  clear hD hO hlen;generalize Sx.rows (y::l)=R at r0 q1 q0 ht hb⊢;obtain⟨yk,yv,yl,yc,yt,ys⟩:=y;simp only[Ax,Aj]at hy1 hy2;subst hy2;simp only[Sx.cells]at r0;cases q2:As yt with
  |false=>
   rw[q2]at hF hn;simp only[AL]at hF;refine AF func113 ntmps113 results113 Ty.Pg ?_;refine wt A5 ?_;refine uU A5 (hb _) ?_;refine wt (AY yT r0 q0) ?_;refine uU (uu r0 q0) (hn _) ?_;refine wt yF ?_;exact⟨bad 8 _ (.inr rfl) hF.symm,AH.refl _⟩
  |true=>
   rw[q2]at hF hn;simp only[AC]at hF;refine AF func113 ntmps113 results113 Ty.Pg ?_;refine wt A5 ?_;refine uU A5 (hb _) ?_;refine wt (AY yT r0 q0) ?_;refine uU (uu r0 q0) (hn _) ?_;replace zz:=Al yT q1 ht hll @CT @Ce;refine wt zz ?_;refine CG (λm S h'=>S 1= .Ag [.sc (.int .i64 kind),.sc (.int .i64 value),.sc (.int .i64 line),.sc (.int .i64 col),A4 text,.A2 6 R]/\S 22= .A2 6 (Sx.rows l)/\S 23= .sc (.int .i64 l.length)/\ ∃ (k:Nat)(p:PV)(pre:List ByteArray),S 24= .sc (.int .i64 k)/\S 5=p/\k<=l.length/\m=l.length-k/\AH h h'/\pre.length=k/\Tl h' h.next 1 p (AN pre)/\
    F=(match CN (l.drop k)with|(t,c)=>bif c==0 then(yt,pre++t,0)else(⟨#[]⟩,[],c))) l.length ?_ ?_
   ·simp only[Ty.w,simprocAttr];refine⟨0,_,[],rfl,rfl,by omega,rfl,AH.refl _,rfl,Tl.nil,?_⟩;rw[List.drop_zero, ← hF];try rfl
   ·clear hF hb hn;rintro m S h' ⟨g1,g22,g23,k,p,pre,g24,g5,hk,rfl,hg,hpl,tl,hinv⟩;by_cases hlt:k<l.length
    ·have hd:decide ((k:Int)<(l.length:Int))=true:=(by simp;omega);have w7:IntKind.i64.wrap ((k:Int)+1)=k+1:=(by rw[BZ (by omega) (by omega)]);obtain⟨x,hx⟩: ∃ x,l[k]? =some x:=⟨_,List.getElem?_eq_getElem hlt⟩;have hr:=Sx.CL hx;have hxk:=hlo x (List.mem_of_getElem? hx);have hcw:=λh:A1=>OR (x:=x) h;rw[Cd hx]at hinv;simp only[CN]at hinv;obtain⟨ki,va,li,co,te,ks⟩:=x;simp only[Sx.ok]at hxk;have hte:te.size<=9223372036854775807:=(by have:=hxk.2.2.1;unfold AI at this;omega);simp only[Sx.cells,Ax]at hr hcw;simp only[Ax,Aj]at hinv;have tl2:=tl.up (h':=(h'.new (.arr 6 [[.sc (.int .i64 0),.sc (.int .i64 0),.sc (.int .i64 0),.sc (.int .i64 0),.sc (.string ⟨#[]⟩),.sc (.slice none 0 0)]])).set h'.next (.arr 6 [[.sc (.int .i64 ki),.sc (.int .i64 va),.sc (.int .i64 li),.sc (.int .i64 co),A4 te,.A2 6 (Sx.rows ks)]])) (by simp[A1.new,A1.set]) λj hj _=>by
      simp only[A1.set,A1.new];rw[A8 (by omega),A8 (by omega)]
     have hg2:AH h ((h'.new (.arr 6 [[.sc (.int .i64 0),.sc (.int .i64 0),.sc (.int .i64 0),.sc (.int .i64 0),.sc (.string ⟨#[]⟩),.sc (.slice none 0 0)]])).set h'.next (.arr 6 [[.sc (.int .i64 ki),.sc (.int .i64 va),.sc (.int .i64 li),.sc (.int .i64 co),A4 te,.A2 6 (Sx.rows ks)]])):=(hg.new _).set hg.le _;cases q3:(ki==1)with
     |false=>
      rw[q3]at hinv hcw;simp only[AL]at hinv;replace zz:=Ah g1 g22 g23 g24 g5 hd hr;refine wt zz ?_;replace zz:=Al g1 g22 g23 g24 g5 hr;refine uU zz (hcw _) ?_;replace zz:=Al g1 g22 g23 g24 g5 yF;refine wt zz ?_;exact⟨bad 2 _ (.inl rfl) hinv,hg2⟩
     |true=>
      rw[q3]at hinv hcw;simp only[AC]at hinv;have hc:=λh:A1=>Wr (h:=h) hte;generalize CH te=b at hc hinv;cases b with
      |false=>
       simp only[AL]at hinv;replace zz:=Ah g1 g22 g23 g24 g5 hd hr;refine wt zz ?_;replace zz:=Al g1 g22 g23 g24 g5 hr;refine uU zz (hcw _) ?_;replace zz:=Al g1 g22 g23 g24 g5 yT;refine wt zz ?_;replace zz:=Ak g1 g22 g23 g24 g5;refine uU zz (hc _) ?_;replace zz:=Al g1 g22 g23 g24 g5 yF;refine wt zz ?_;exact⟨bad 8 _ (.inr rfl) hinv,hg2⟩
      |true=>
       simp only[AC]at hinv;obtain⟨H,t1,t2,t3,t4,t5⟩:=tl2.tail;have hpr:(AN pre).length=k:=(by rw[GP];exact hpl);have hb:(k+1)*16<=140737488355328:=(by omega);replace zz:=Ah g1 g22 g23 g24 g5 hd hr;refine wt zz ?_;replace zz:=Al g1 g22 g23 g24 g5 hr;refine uU zz (hcw _) ?_;replace zz:=Al g1 g22 g23 g24 g5 yT;refine wt zz ?_;replace zz:=Ak g1 g22 g23 g24 g5;refine uU zz (hc _) ?_;replace zz:=EI g1 g22 g23 g24 g5 w7 yT t1 t2 hpr hb;(repeat'(first|refine cK ?_|refine nK ?_|refine uR zz ?_|refine uQ zz λK hK=>?_|refine uK ?_|refine C2 zz ?_|(refine uN hK ?_;clear hK)|(rw[AK];rotate_left 1;omega;simp only[Ty.w,simprocAttr,g1,g22,g23,g24,g5,w7,Av,t1,t2,hpr,hb])|apply zI));have t3':H.next=h'.next+1:=by rw[t3];simp[A1.new,A1.set]
       have hkp:=t5 h ⟨hg2.le,hg2.B6⟩ (AG _);have hgH:AH h H:=⟨hkp.1,hkp.2⟩;have hap:AN pre++[[PV.sc (.string te)]]=AN (pre++[te]):=(by simp[AN]);rw[hap];refine⟨l.length-(k+1),by omega,k+1,.own H.next 0 (k+1),pre++[te],by simp,by rw[t3'],by omega,rfl,hgH.new _,by simp[hpl],Tl.grow hkp.1 (by rw[GP];simp[hpl]),?_⟩;rw[hinv];generalize CN (List.drop (k+1) l)=W;obtain⟨t,c⟩:=W;cases hq:c==0 with
       |false=>simp only[hq,AL]
       |true=>simp only[hq,AC,D8,List.append_assoc,List.cons_append,List.nil_append]
    ·have hd:decide ((k:Int)<(l.length:Int))=false:=(by simp;omega);rw[List.drop_eq_nil_of_le (by omega)]at hinv;simp only[CN,D8,AC,List.append_nil]at hinv;replace zz:=BT g1 g22 g23 g24 g5 hd r0 q0;refine wt zz ?_;subst hinv;refine⟨?_,hg⟩;have h1:=VT tl;have e2:AS 0= .sc .nilIface:=rfl;simp only[M8,e2];unfold AJ;refine⟨_,rfl,?_⟩;unfold AP;refine⟨by simp only[AJ],?_⟩;unfold AP;refine⟨h1,?_⟩;unfold AP;exact⟨by simp only[AJ],by simp only[AP]⟩
set_option maxHeartbeats 8000000
theorem ku(n:Nat)(c:Ch):Br n (CZ c):=by
 obtain⟨k,P,⟨gop,gna,gar,gpa,gex,gki⟩,nm,a,⟨eop,ena,en,ear,eki⟩⟩:=c;simp only[CZ,Fm.cells,Ex.cells,List.cons_append,List.nil_append,Br,Be,Fb,Dh];exact⟨C6 _ _,Dc _ _,C6 _ _,E0 _ _,Ed _ _,Dc _ _,Dc _ _,E0 _ _⟩
theorem Wz(n:Nat)(h:A1)(c:Ch):AP n h (CZ c) (CZ c):=by
 obtain⟨k,P,⟨gop,gna,gar,gpa,gex,gki⟩,nm,a,⟨eop,ena,en,ear,eki⟩⟩:=c;simp only[CZ,Fm.cells,Ex.cells,List.cons_append,List.nil_append,AP,AJ,Fb,Dh];exact⟨.inl (C6 _ _),.inl (Dc _ _),.inl (C6 _ _),.inl (E0 _ _),.inl (Ed _ _),.inl (Dc _ _),.inl (Dc _ _),.inl (E0 _ _)⟩
theorem Sm(n:Nat): ∀ l:List Ch,BC n (Ae l)
 |[]=>by simp only[Ae,List.map_nil,BC]
 |c::l=>by
  have:=Sm n l;simp only[Ae,List.map_cons,BC]at this⊢;exact⟨ku n c,this⟩
theorem X1(n:Nat)(h:A1): ∀ l:List Ch,DA n h (Ae l) (Ae l)
 |[]=>by simp only[Ae,List.map_nil,DA]
 |c::l=>by
  have:=X1 n h l;simp only[Ae,List.map_cons,DA]at this⊢;exact⟨Wz n h c,this⟩
theorem X2{P:List Pm}{W:List Fm}{k:Int}{n:ByteArray}{a:List ByteArray}{v:Ex}(hp:P.length<=1099511627776)(hwl:W.length<=1099511627776)(h:A1):
  A6 prog 114 [.agg [.A2 2 (A9 P),.A2 6 (Fm.rows W)],.sc (.int .i64 k),A4 n,.A2 1 (AN a),.agg v.cells] h λr h'=>r= .agg (CZ (FG ⟨P,W⟩ k n a v))/\h'=h:=by
 refine A6.CF Ty.Ph ?_;have hcP:=λh:A1=>jN (l:=P) hp h;have hcF:=λh:A1=>jP (l:=W) hwl h;have hda:=λh:A1=>LD (h:=h);simp only[Bw,Fm.cells,AN,A9,Ex.rows,Fm.rows,List.map_nil]at hda;have hwl2:=Fm.B4 W;have D9: ∀ (H:A1)(c:Ch)(z:An),AH h H->c=FG ⟨P,W⟩ k n a v->AJ h.next (H.set h.next (.arr 15 [CZ c])) (.agg (CZ (FG ⟨P,W⟩ k n a v))) (.agg (CZ c))/\AH h (H.set h.next (.arr 15 [CZ c])):=λH c z g e=>⟨by
  rw[← e];simp only[AJ];exact⟨_,rfl,Wz _ _ _⟩,g.set (AG _) _⟩
 obtain⟨eop,ena,en,ear,eki⟩:=v;simp only[Ex.cells]at D9⊢;cases W with
 |nil=>
  have q0:(((Fm.rows []).length:Int)==0)=true:=rfl;have fin0:=λH g=>D9 H ⟨k,P,Bw,n,a,.mk eop ena en ear eki⟩ (.arr 0 []) g rfl;generalize FG ⟨P,[]⟩ k n a (.mk eop ena en ear eki)=C at fin0⊢;simp only[CZ,Bw,Fm.cells,Ex.cells,List.cons_append,List.nil_append,AN,A9,Ex.rows,Fm.rows,List.map_nil]at fin0;generalize Fm.rows []=R at q0⊢;refine AF func114 ntmps114 results114 Ty.Ph ?_;refine wy A5 ?_;first|refine uV A5 (hcP _) ?_|refine uA A5 (hcP _) ?_
  refine wy A5 ?_;first|refine uV A5 (hda _) ?_|refine uA A5 (hda _) ?_
  refine⟨?_,?_⟩
  ·simp only[List.forall_mem_cons,Ty.w,simprocAttr,Ty.AW]
   (repeat' apply And.intro)<;>first
    |exact .inl (by decide+kernel)
    |exact .inr (CW (hcP _) (sr A5))
    |exact .inr (CW (hda _) (sr A5))
    |exact .inr A5
    |exact λ_ hx=>nomatch hx
  refine wy (uu q0 @B1) ?_;exact fin0 _ (((((AH.refl h).new _).new _).set (by omega) _))
 |cons f W2=>
  cases W2 with
  |nil=>
   have q0:(((Fm.rows [f]).length:Int)==0)=false:=rfl;have q1:(((Fm.rows [f]).length:Int)==1)=true:=rfl;have q2:((0:Int)<((Fm.rows [f]).length:Int))=True:=DU (by rw[hwl2];simp);have r0:(Fm.rows [f])[0]? =some f.cells:=rfl;have fin0:=λH g=>D9 H ⟨k,P,f,n,a,.mk eop ena en ear eki⟩ (.arr 0 []) g rfl;generalize FG ⟨P,[f]⟩ k n a (.mk eop ena en ear eki)=C at fin0⊢;obtain⟨gop,gna,gar,gpa,gex,gki⟩:=f;simp only[CZ,Fm.cells,Ex.cells,List.cons_append,List.nil_append]at fin0 r0;generalize Fm.rows [_]=R at q0 q1 q2 r0⊢;refine AF func114 ntmps114 results114 Ty.Ph ?_;refine wy A5 ?_;(first|refine uV A5 (hcP _) ?_|refine uA A5 (hcP _) ?_);refine wy A5 ?_;(first|refine uV A5 (hda _) ?_|refine uA A5 (hda _) ?_);refine⟨?_,?_⟩
   ·simp only[List.forall_mem_cons,Ty.w,simprocAttr,Ty.AW]
    (repeat' apply And.intro)<;>first
     |exact .inl (by decide+kernel)
     |exact .inr (CW (hcP _) (sr A5))
     |exact .inr (CW (hda _) (sr A5))
     |exact .inr A5
     |exact λ_ hx=>nomatch hx
   replace zz:=Ak q0 q1 q2 r0 @B1;refine wy zz ?_;exact fin0 _ ((((((AH.refl h).new _).new _).set (by omega) _).set (by omega) _))
  |cons g W3=>
   have q0:(((Fm.rows (f::g::W3)).length:Int)==0)=false:=(by rw[hwl2];simp;omega);have q1:(((Fm.rows (f::g::W3)).length:Int)==1)=false:=(by rw[hwl2];simp;omega);have fin0:=λH g'=>D9 H ⟨k,P,.mk Bo ⟨#[]⟩ [] [] [] (f::g::W3),n,a,.mk eop ena en ear eki⟩ (.arr 0 []) g' rfl;generalize FG ⟨P,f::g::W3⟩ k n a (.mk eop ena en ear eki)=C at fin0⊢;simp only[CZ,Fm.cells,Ex.cells,List.cons_append,List.nil_append,AN,A9,Ex.rows,List.map_nil]at fin0;simp only[AN,A9]at hcP hcF hda⊢;generalize Fm.rows (f::g::W3)=R at q0 q1 fin0 hcF⊢;refine AF func114 ntmps114 results114 Ty.Ph ?_;refine wy A5 ?_;(first|refine uV A5 (hcP _) ?_|refine uA A5 (hcP _) ?_);refine wy A5 ?_;(first|refine uV A5 (hda _) ?_|refine uA A5 (hda _) ?_);refine⟨?_,?_⟩
   ·simp only[List.forall_mem_cons,Ty.w,simprocAttr,Ty.AW]
    (repeat' apply And.intro)<;>first
     |exact .inl (by decide+kernel)
     |exact .inr (CW (hcP _) (sr A5))
     |exact .inr (CW (hda _) (sr A5))
     |exact .inr A5
     |exact λ_ hx=>nomatch hx
   refine wy (AY q0 q1 @B1) ?_;refine uU @B1 (hcF _) ?_;(repeat'(first|refine cK ?_|(refine nK ?_;try exact zI)|refine Af λK hK=>?_|((first|refine Bn ?_|refine Ej ?_);simp only[Ty.w,simprocAttr,B1,Jo])|(refine hK _ _ ?_;clear hK;(try simp only[Au,simprocAttr]))));exact fin0 _ ((((((AH.refl h).new _).new _).set (by omega) _).set (by omega) _))
theorem KF{c:Int}(h:(c==0)=false):AS c=Ao c:=by simp only[AS,h,AL]
theorem KG{c:Int}(h:(c==0)=true):AS c= .sc .nilIface:=by simp only[AS,h,AC]
theorem GZ{n:Nat}{H:A1}{c:Int}(hc:(c==0)=false):AJ n H (.Am [.A2 15 (Ae []),AS c]) (.Am [.sc (.slice none 0 0),Ao c]):=by
 rw[KF hc];simp only[Ao,Ae,List.map_nil,AJ,AP];exact⟨_,rfl,.inr (.inl ⟨rfl,.inr rfl⟩),rfl,trivial⟩
theorem l7{n:Nat}{H:A1}{l:List Ch}{c:Int}(hc:(c==0)=true):AJ n H (.Am [.A2 15 (Ae l),AS c]) (.Am [.A2 15 (Ae l),.sc .nilIface]):=by
 rw[KG hc];simp only[AJ,AP];exact⟨_,rfl,.inl ⟨rfl,Sm _ _⟩,rfl,trivial⟩
theorem l8{P:List Pm}{W:List Fm}{k:Int}(hp:P.length<=1099511627776)(hwl:W.length<=1099511627776){kind value line col:Int}{text:ByteArray}{y:Sx}{rest:List Sx}
  (hok: ∀ z∈rest,z.ok)(hsm: ∀ z∈rest,z.small)(hl:rest.length<=1048576)(h:A1):
  A6 prog 110 [.agg [.A2 2 (A9 P),.A2 6 (Fm.rows W)],.sc (.int .i64 k),.agg [.sc (.int .i64 kind),.sc (.int .i64 value),.sc (.int .i64 line),.sc (.int .i64 col),A4 text,.A2 6 (Sx.rows (y::rest))]] h λr h'=>
   r= .Am [.A2 15 (Ae (GW ⟨P,W⟩ k rest).1),AS (GW ⟨P,W⟩ k rest).2]/\h'=h:=by
 refine A6.CF Ty.Ns ?_;have hlen:=Sx.B4 (y::rest);generalize hF:GW ⟨P,W⟩ k rest=F;cases q3:(((Sx.rows (y::rest)).length:Int) !=3)with
 |true=>
  have e:F=([],2):=by
   rw[← hF]
   match rest,q3,hlen with
   |[],_,_=>rfl
   |[_],_,_=>rfl
   |[_,_],q,hlen=>rw[hlen]at q;simp at q
   |_::_::_::_,_,_=>rfl
  subst e;generalize Sx.rows (y::rest)=R at q3⊢;refine AF func110 ntmps110 results110 Ty.Ns ?_;refine wt q3 ?_;exact⟨GZ (c:=2) rfl,AH.refl _⟩
 |false=>
  obtain⟨a,e,rfl⟩: ∃ a e,rest=[a,e]:=by
   match rest,q3,hlen with
   |[],q,hlen=>rw[hlen]at q;simp at q
   |[_],q,hlen=>rw[hlen]at q;simp at q
   |[a,e],_,_=>exact⟨a,e,rfl⟩
   |_::_::_::l,q,hlen=>rw[hlen]at q;simp at q;omega
  have ca:=λh:A1=>Sk (hok a (by simp)) (hsm a (by simp)) h;have ce:=λh:A1=>iT (x:=e) (hok e (by simp)) h;have r1:=Sx.CL (l:=[y,a,e]) (i:=1) rfl;have r2:=Sx.CL (l:=[y,a,e]) (i:=2) rfl;have d1:((1:Int)<((Sx.rows [y,a,e]).length:Int))=True:=DU (by rw[hlen];simp);have d2:((2:Int)<((Sx.rows [y,a,e]).length:Int))=True:=DU (by rw[hlen];simp);simp only[GW]at hF;generalize Sx.rows [y,a,e]=R at q3 r1 r2 d1 d2⊢;generalize Em a=A at ca hF;obtain⟨an,aa,ac⟩:=A;have cc:=λ(v:Ex)(h:A1)=>X2 (k:=k) (n:=an) (a:=aa) (v:=v) hp hwl h;obtain⟨ak,av,al,aco,atx,ass⟩:=a;simp only[M8,Sx.cells]at ca r1;simp only at hF;cases z1:(ac==0)with
  |false=>
   rw[z1,AL]at hF;subst hF;rw[KF z1]at ca;simp only[Ao]at ca;refine AF func110 ntmps110 results110 Ty.Ns ?_;refine wt (AY q3 r1 d1) ?_;refine uU (uu r1 d1) (ca _) ?_;refine wt @B1 ?_;exact⟨GZ z1,AH.refl _⟩
  |true=>
   rw[z1,AC]at hF;rw[KG z1]at ca;generalize Gz e=E at ce hF;obtain⟨ev,ec⟩:=E;obtain⟨ek,eva,el,eco,et,es⟩:=e;simp only[Sx.cells]at ce r2;simp only at hF;cases z2:(ec==0)with
   |false=>
    rw[z2,AL]at hF;subst hF;rw[KF z2]at ce;obtain⟨eop,ena,en,ear,eki⟩:=ev;simp only[Ao,Ex.cells]at ce;refine AF func110 ntmps110 results110 Ty.Ns ?_;refine wt (AY q3 r1 d1) ?_;refine uU (uu r1 d1) (ca _) ?_;refine wt (uu r2 d2) ?_;refine uU (uu r2 d2) (ce _) ?_;refine wt @B1 ?_;exact⟨GZ z2,((AH.refl h).new _).set (AG _) _⟩
   |true=>
    rw[z2,AC]at hF;rw[KG z2]at ce;have cc:=cc ev;have efin:=λH=>l7 (n:=h.next) (H:=H) (l:=F.1) (c:=F.2) (by rw[← hF];try rfl);subst hF;generalize FG ⟨P,W⟩ k an aa ev=C at cc efin⊢;obtain⟨eop,ena,en,ear,eki⟩:=ev;obtain⟨ck,cP,⟨gop,gna,gar,gpa,gex,gki⟩,cn,cargs,⟨vop,vna,vn,var,vki⟩⟩:=C;simp only[CZ,Ae,List.map_cons,List.map_nil,Fm.cells,Ex.cells,List.cons_append,List.nil_append]at ce cc efin⊢;refine AF func110 ntmps110 results110 Ty.Ns ?_;refine wt (AY q3 r1 d1) ?_;refine uU (uu r1 d1) (ca _) ?_;refine wt (uu r2 d2) ?_;refine uU (uu r2 d2) (ce _) ?_;refine wt @B1 ?_;refine uU @B1 (cc _) ?_;refine wt @B1 ?_;exact⟨efin _,((AH.refl h).new _).set (AG _) _⟩
end Go.Proofs.YtblgchkahpgdjaaGreat
