/- What the claim rests on, part 13: the abstract machine, contracts of the functions, plain data. -/
import Derived.Test.YtblgchkahpgdjaaGreatZm12
set_option linter.unusedVariables false
set_option linter.unusedSimpArgs false
set_option linter.unusedSectionVars false
namespace Go.Proofs.YtblgchkahpgdjaaGreat
open Go.AM Go.Proofs.Tryz
set_option maxHeartbeats 8000000
set_option maxRecDepth 20000
variable {h H:A0}{id j n xi:Nat}{b:Bool}{l L:List Sx}{x:Sx}{c:Int}
structure LF(h:A0)(id:Nat)(b:Bool)(l:List Sx)(h':A0):Prop where
 grow:CP h id (wO b) h'
 ex: ∃ j,h.next+1+1<h'.next/\j≠h.next+1+1/\h.next<j/\j<h'.next/\
  h'.obj h.next=some (.arr 6 [Bh])/\
  h'.obj (h.next+1+1)=some (.arr 6 [[qK 3,qK 0,qK 0,qK 0,.sc (.string ⟨#[]⟩),.own j 0 l.length]])/\
  h'.obj j=some (.arr 6 (Sx.rows l))
theorem LF.qD{h':A0}{o o2:Am}(i:LF h id b l h')(hid:id<h.next):LF h id b l ((h'.new o).set h'.next o2):=by
 obtain⟨hg,j,h1,h2,h3,h4,p1,p2,p3⟩:=i;refine⟨(hg.new hid).set hid hg.le,j,by simp only[A0.new,A0.set];omega,h2,h3,by simp only[A0.new,A0.set];omega,?_,?_,?_⟩
 ·simp only[A0.set,A0.new];rw[A7 (by omega),A7 (by omega)];exact p1
 ·simp only[A0.set,A0.new];rw[A7 (by omega),A7 (by omega)];exact p2
 ·simp only[A0.set,A0.new];rw[A7 (by omega),A7 (by omega)];exact p3
theorem LF.push{h':A0}(hg:CP h id (wO b) h')(hid:id<h.next)(h1:h.next+1+1<h'.next)(h2:j≠h.next+1+1)(h3:h.next<j)(h4:j<h'.next)(o1:h'.obj h.next=some (.arr 6 [Bh])):
  LF h id b (l++[x]) (((h'.kill j).new (.arr 6 (Sx.rows l++[x.cells]))).set (h.next+1+1) (.arr 6 [[qK 3,qK 0,qK 0,qK 0,.sc (.string ⟨#[]⟩),.own h'.next 0 (l.length+1)]])):=by
 have e:Sx.rows (l++[x])=Sx.rows l++[x.cells]:=by rw[Sx.rows_map,Sx.rows_map];simp
 refine⟨((hg.kill hid (by omega)).new hid).set hid (by omega),h'.next,?_,?_,?_,?_,?_,?_,?_⟩
 ·simp only[A0.set,A0.new,A0.kill];omega
 ·omega
 ·omega
 ·simp only[A0.set,A0.new,A0.kill];omega
 ·have a1:¬ h.next=h.next+1+1:=by omega
  have a2:¬ h.next=h'.next:=by omega
  have a3:¬ h.next=j:=by omega
  simp only[A0.set,A0.new,A0.kill,a1,a2,a3,AP];exact o1
 ·simp only[A0.set,AO,List.length_append,List.length_cons,List.length_nil]
 ·have a1:¬ h'.next=h.next+1+1:=by omega
  simp only[A0.set,A0.new,A0.kill,a1,AP,AO,e]
theorem QK{l:List Ch}(hl:l.length<=1048576)(hok: ∀ c∈l,c.ok)(hsm: ∀ c∈l,Fe c)(hid:id<h.next)(ho:h.obj id=some (wO b)):
  A6 prog 51 [.ptr id 0 0,.A1 15 (Ag l)] h λr h'=>r= .agg (Bx l).cells/\h'=h.set id (wO (b||!(l.all CA))):=by
 refine A6.LW Ty.Re ho (LB _ _) ?_;have hll:=Kp l;have hw: ∀ (s:ByteArray)(h:A0),A6 prog 40 [A3 s] h λr h'=>r= .agg (A5 s).cells/\h'=h:=λs h=>KE;simp only[A5,Sx.cells,Sx.rows]at hw;have hE:Bx l=(bif l.isEmpty then AC []else AC (A5 Bl::l.map FC)):=rfl;cases q0:((l.length:Int)==0)with
 |true=>
  have e0:l=[]:=by have:=eq_of_beq q0;exact List.length_eq_zero_iff.1 (by omega)
  rw[hE,e0];simp only[List.isEmpty_nil,AB,List.all_nil,Ax,GD];subst e0;have hl0:=λh:A0=>KF (h:=h) (p:= .sc (.slice none 0 0)) rfl (λ_=>by simp only[AI]);refine AD func51 ntmps51 results51 Ty.Re ?_;repeat'(first|refine Ai λK hK=>?_|refine uR (uu hll q0) ?_|(refine uN hK ?_;clear hK)|apply zI)
  refine uU A4 (hl0 _) ?_;repeat'(first|refine uT A4 ?_|(refine uN hK ?_;clear hK)|apply zI)
  refine⟨?_,((CP.refl ho).new hid).set hid (AG _)⟩;simp only[AC,Sx.cells,Sx.rows,AI,AN];exact⟨_,rfl,rfl,rfl,rfl,rfl,rfl,.inr (.inl ⟨rfl,.inr rfl⟩),trivial⟩
 |false=>
  have e0:l.isEmpty=false:=by cases l with
   |nil=>simp at q0
   |cons=>rfl
  rw[hE,e0,AJ]
  clear hE e0;generalize hF:(b||!(l.all CA))=F;refine uG (ow:=λt=>t==13) (wf:=λf=>f==107||f==41||f==43||f==100||f==51) func51 ntmps51 results51 Ty.Re ?_;replace zz:=uu hll q0;repeat'(first|refine Ai λK hK=>?_|refine uR zz ?_|refine uK ?_|refine C3 zz ?_|(refine uN hK ?_;clear hK)|apply zI)
  refine uU A4 (hw Bl _) ?_;try apply zI
  refine uU A4 (KF (p:= .own (h.next+1) 0 1) rfl (λ_=>Ks (by simp[A0.new]))) ?_;repeat'(first|refine Ai λK hK=>?_|refine Ck ?_|refine uR hll ?_|(refine uN hK ?_;clear hK)|apply zI)
  refine By (λm S h'=>S 0= .ptr id 0 0/\S 4= .ptr h.next 0 0/\S 5= .ptr (h.next+1+1) 0 0/\S 15= .A1 15 (Ag l)/\S 16= qK l.length/\ ∃ (k:Nat)(b':Bool),S 17= qK k/\k<=l.length/\m=l.length-k/\LF h id b' (A5 Bl::(l.take k).map FC) h'/\F=(b'||!((l.drop k).all CA))) l.length ?_ ?_
  ·simp only[Ty.w,simprocAttr];refine⟨0,b,rfl,by omega,rfl,⟨?_,h.next+1,by simp[A0.new,A0.set],by omega,by omega,by simp[A0.new,A0.set],?_,?_,?_⟩,by rw[List.drop_zero];exact hF.symm⟩
   ·exact ((((CP.refl ho).new hid).new hid).new hid).set hid (by omega)
   ·simp only[A0.new,A0.set];repeat(first|rw[A7 (by omega)]|rw[AK A4])
   ·simp only[A0.new,A0.set];(repeat(first|rw[A7 (by omega)]|rw[AK A4]));try rfl
   ·simp only[A0.new,A0.set];(repeat(first|rw[A7 (by omega)]|rw[AK A4]));simp[A5,Sx.rows,Sx.cells]
  ·clear hF;rintro m S h' ⟨g0,g4,g5,g15,g16,k,b',g17,hk,rfl,hI,hinv⟩;by_cases hlt:k<l.length
   ·have hd:decide ((k:Int)<(l.length:Int))=true:=(by simp;omega);have w7:IntKind.i64.wrap ((k:Int)+1)=k+1:=(by rw[BM (by omega) (by omega)]);obtain⟨c,hx⟩: ∃ c,l[k]? =some c:=⟨_,List.getElem?_eq_getElem hlt⟩;have hr:=Ns hx;have hcc:=λ(H:A0)(b':Bool)(hid':id<H.next)(ho':H.obj id=some (wO b'))=>lQ (h:=H) (b:=b') (hok c (List.mem_of_getElem? hx)) (hsm c (List.mem_of_getElem? hx)) hid' ho';rw[Ca hx,List.all_cons]at hinv;have htk:(l.take (k+1)).map FC=(l.take k).map FC++[FC c]:=(by rw[List.take_add_one,hx];simp);generalize CA c=q at hcc hinv;generalize FC c=X at hcc htk;have hlen:(A5 Bl::(l.take k).map FC).length=k+1:=(by simp;omega);have hcon:A5 Bl::(l.take (k+1)).map FC=(A5 Bl::(l.take k).map FC)++[X]:=(by rw[htk];try rfl);generalize(A5 Bl::(l.take k).map FC)=L at hI hlen hcon;clear htk;obtain⟨kind,params,⟨gop,gna,gar,gpa,gex,gki⟩,name,args,⟨eop,ena,en,ear,eki⟩⟩:=c;simp only[CZ,Fm.cells,Ex.cells,List.cons_append,List.nil_append]at hr hcc;obtain⟨xk,xv,xl,xc,xt,xs⟩:=X;simp only[Sx.cells]at hcc;replace zz:=BJ g0 g4 g5 g15 g16 g17 hd hr;(repeat'(first|with_reducible refine Q4 7 ?_|refine Ai λK hK=>?_|refine uR zz ?_|refine uK ?_|refine C3 zz ?_|(refine uN hK ?_;clear hK)|apply zI));refine⟨?_⟩;refine Cf (λS H=>S 0= .ptr id 0 0/\S 4= .ptr h.next 0 0/\S 5= .ptr (h.next+1+1) 0 0/\S 15= .A1 15 (Ag l)/\S 16= qK l.length/\S 17= qK k/\ ∃ j7,S 7= .ptr j7 0 0/\h.next+1+1<j7/\H.obj j7=some (.arr 15 [[qK kind,.A1 2 (A8 params),A3 gop,A3 gna,.A1 1 (AL gar),.A1 2 (A8 gpa),.A1 5 (Ex.rows gex),.A1 6 (Fm.rows gki),A3 name,.A1 1 (AL args),A3 eop,A3 ena,qK en,.A1 1 (AL ear),.A1 5 (Ex.rows eki)]])/\LF h id b' L H) ?_ ?_
    ·obtain ⟨_,hlt2,_⟩:=hI.ex;exact⟨sq g0,sq g4,sq g5,sq g15,sq g16,sq g17,h'.next,sq A4,hlt2,by simp only[A0.set,AO],hI.qD hid⟩
    ·clear g0 g4 g5 g15 g16 g17 hI hd hr;rintro S H ⟨g0,g4,g5,g15,g16,g17,j7,g7,hj7,ho7,hI⟩;have Fx:(b'||!q)=(b'||!q)/\F=((b'||!q)||!((l.drop (k+1)).all CA)):=⟨rfl,by rw[hinv];cases b'<;>cases q<;>simp⟩;have hno:=hI.grow.at_;have hle:=hI.grow.le;obtain⟨hg,j,h1,h2,h3,h4,o1,o2,o3⟩:=hI;have d1:(h.next+1+1=id)=False:=BB (by omega);have d2:(j=id)=False:=BB (by omega);have d3:(h.next+1+1=j)=False:=BB (by omega);have d4:(h.next+1+1=H.next)=False:=BB (by omega);have hrl:(Sx.rows L).length=k+1:=(by rw[Sx.B3];exact hlen);have htk:List.take (k+1) (Sx.rows L)=Sx.rows L:=List.take_of_length_le (by omega);have hb:(k+1+1)*72<=140737488355328:=(by omega);rw[hlen]at o2;generalize hRe:Sx.rows L=R at o3 hrl htk;replace zz:=BF g0 g4 g5 g15 g16 g17 g7 ho7 o2;(repeat'(first|refine uE zz λK hK=>?_|apply zI));refine Lm (hcc H b' (by omega) hno) (sr (BJ g0 g4 g5 g15 g16 g17 g7 ho7)) (by
      try simp only[Ty.w,simprocAttr,Ty.AX,Dj,List.map_cons,List.map_nil,List.forall_mem_cons,g0,g4,g5,g7,ho7,o2,d1]
      (repeat' apply And.intro)<;>first
       |trivial
       |exact .inl (by decide+kernel)
       |exact .inr A4) ?_
     simp only[Ty.w,simprocAttr,Ty.AX,BD,g0,g4,g5,g15,g16,g17,g7,ho7,o2,o3,d1,d2];replace zz:=AY g0 g4 g5 g15 g16 g17 g7 o2 o3 d1 d2 (Ah d3 d4 hrl htk hb w7);(repeat'(first|refine uR zz ?_|(refine uN hK ?_;clear hK)|refine uB zz ?_|(rw[AK];rotate_left 1;omega;simp only[Ty.w,simprocAttr,g0,g4,g5,g15,g16,g17,g7,o2,o3,d1,d2,d3,d4,hrl,htk,hb,w7])|apply zI));have hp:=LF.push (x:= .mk xk xv xl xc xt xs) (l:=L) ((hg.put (o2:=wO (b'||!q)))) hid h1 h2 h3 h4 (by simp only[A0.set];rw[A7 (by omega)];exact o1);rw[← hcon,hRe,hlen]at hp;exact⟨l.length-(k+1),by omega,k+1,b'||!q,by simp,by omega,rfl,hp,Fx.2⟩
   ·have hd:decide ((k:Int)<(l.length:Int))=false:=(by simp;omega);have hke:k=l.length:=(by omega);subst hke;obtain⟨hg,j,hn2,hne,hlo,hhi,o1,o2,o3⟩:=hI;rw[List.take_length]at o2 o3;rw[List.drop_length,List.all_nil,Ax,GD]at hinv;subst hinv;have n1:(h.next+1+1=h.next)=False:=(by simp;omega);generalize hLe:A5 Bl::l.map FC=L at o2 o3;replace zz:=DX g0 g4 g5 g15 g16 g17 hd o1 o2 o3 n1;(repeat'(first|refine Ai λK hK=>?_|refine uR zz ?_|refine uT zz ?_|refine uX ?_|refine C3 zz ?_|(refine uN hK ?_;clear hK)|(clear hK;refine uN hK ?_;clear hK)|apply zI));refine⟨?_,hg.set hid (AG _)⟩;rw[hLe];simp only[AC,Sx.cells,AI,AN];refine⟨_,rfl,rfl,rfl,rfl,rfl,rfl,.inr (.inr ⟨j,0,L.length,Sx.rows L,rfl,by omega,?_,?_,?_⟩),trivial⟩
    ·simp only[A0.set];rw[A7 (by omega)];exact o3
    ·rw [Sx.B3];omega
    ·rw [List.drop_zero,List.take_of_length_le (by rw[Sx.B3];omega)];exact IM _ _ _
theorem QL:AI n h (.agg Ho.cells) (.agg Bh):=by
 simp only[Ho,Sx.cells,Sx.rows,AI,AN];exact⟨_,rfl,rfl,rfl,rfl,rfl,rfl,.inr (.inl ⟨rfl,.inr rfl⟩),trivial⟩
theorem lR{l:List Ch}(hl:l.length<=1048576)(hok: ∀ c∈l,c.ok)(hsm: ∀ c∈l,Fe c)(hX:(Bx l).ok)(h:A0):
  A6 prog 17 [.A1 15 (Ag l)] h λr h'=>r=(if Gb l then .Al [.agg (Bx l).cells,.sc .nilIface]else .Al [.agg Ho.cells,An 2])/\h'=h:=by
 refine A6.CD Ty.Pi ?_;have hc:=λ(H:A0)(hid:h.next+1<H.next)(ho:H.obj (h.next+1)=some (wO false))=>QK (h:=H) (b:=false) hl hok hsm hid ho;have hV:=λh:A0=>JM (x:=Bx l) hX h;have hW:Gb l=(l.all CA&&(CJ (Bx l) 0 0).1):=rfl;rw[hW];generalize(CJ (Bx l) 0 0).1=v at hV⊢;generalize l.all CA=a at hc⊢;generalize Bx l=X at hc hV⊢;generalize Ag l=R at hc⊢;obtain⟨xk,xv,xl,xc,xt,xs⟩:=X;simp only[Sx.cells]at hc hV⊢;have n1:(h.next=h.next+1)=False:=BB (by omega);have n2:(h.next=h.next+1+1)=False:=BB (by omega);have n3:(h.next+1=h.next+1+1)=False:=BB (by omega);have n4:(h.next+1+1=h.next+1)=False:=BB (by omega);have n5:(h.next+1+1=h.next)=False:=BB (by omega);have n6:(h.next+1=h.next)=False:=BB (by omega);cases a with
 |false=>
  refine uG (ow:=λt=>t==7) (wf:=λ_=>false) func17 ntmps17 results17 Ty.Pi ?_;repeat'(first|refine Ai λK hK=>?_|refine uR A4 ?_|(refine uN hK ?_;clear hK)|apply zI)
  refine DM (hc _ (by simp[A0.new]) (by simp[A0.new])) (sr A4) ?_;simp only[Ty.w,simprocAttr];repeat'(first|refine Ai λK hK=>?_|((first|refine Bp ?_|refine Eu ?_);simp only[Ty.w,simprocAttr,n1,n2,n3,n4,n5,n6,CB,Cx])|(refine hK _ _ ?_;clear hK;(try simp only[At,simprocAttr])))
  refine⟨?_,((((((AH.refl h).new _).new _).set (by omega) _).new _).set (by omega) _).set (AG _) _⟩;simp only[B5,BQ,AP,An,AI,AN,Do];exact⟨_,rfl,QL,rfl,trivial⟩
 |true=>
  cases v with
  |false=>
   refine uG (ow:=λt=>t==7) (wf:=λ_=>false) func17 ntmps17 results17 Ty.Pi ?_;(repeat'(first|refine Ai λK hK=>?_|refine uR A4 ?_|(refine uN hK ?_;clear hK)|apply zI));refine DM (hc _ (by simp[A0.new]) (by simp[A0.new])) (sr A4) ?_;simp only[Ty.w,simprocAttr];(repeat'(first|refine Ai λK hK=>?_|(refine Bp ?_;simp only[Ty.w,simprocAttr,n1,n2,n3,n4,n5,n6,Ax,Cx])|(refine hK _ _ ?_;clear hK;(try simp only[At,simprocAttr]))));replace zz:=Ah n1 n2 n3 n4 n5 n6;refine uU zz (hV _) ?_;replace zz:=Ad n1 n2 n3 n4 n5 n6 yF;(repeat'(first|refine Ai λK hK=>?_|refine uR zz ?_|refine uT zz ?_|(refine uN hK ?_;clear hK)|apply zI));refine⟨?_,((((((AH.refl h).new _).new _).set (by omega) _).new _).set (by omega) _).set (AG _) _⟩;simp only[BA,BQ,AP,An,AI,AN,Do];exact⟨_,rfl,QL,rfl,trivial⟩
  |true=>
   refine uG (ow:=λt=>t==7) (wf:=λ_=>false) func17 ntmps17 results17 Ty.Pi ?_;(repeat'(first|refine Ai λK hK=>?_|refine uR A4 ?_|(refine uN hK ?_;clear hK)|apply zI));refine DM (hc _ (by simp[A0.new]) (by simp[A0.new])) (sr A4) ?_;simp only[Ty.w,simprocAttr];(repeat'(first|refine Ai λK hK=>?_|(refine Bp ?_;simp only[Ty.w,simprocAttr,n1,n2,n3,n4,n5,n6,Ax,Cx])|(refine hK _ _ ?_;clear hK;(try simp only[At,simprocAttr]))));replace zz:=Ah n1 n2 n3 n4 n5 n6;refine uU zz (hV _) ?_;replace zz:=Ad n1 n2 n3 n4 n5 n6 yT;(repeat'(first|refine Ai λK hK=>?_|refine uR zz ?_|refine uT zz ?_|refine uK ?_|refine C3 zz ?_|(refine uN hK ?_;clear hK)|apply zI));refine⟨?_,((((((AH.refl h).new _).new _).set (by omega) _).new _).set (by omega) _).set (AG _) _⟩;simp only[LS,AO,AI];exact⟨_,rfl,by simp only[AN,AI,Do];exact⟨_,rfl,FZ _ _ (.mk xk xv xl xc xt xs)⟩⟩
def IZ(l:List Ch):Sx:=bif l.isEmpty then AC []else AC (A5 Bl::l.map N8)
def LG(l:List Ch):Bool:=l.all Jb&&(CJ (IZ l) 0 0).1
def KH(n:Int):Bool:=decide (n>= -1099511627776)&&decide (n<=1099511627776)
def Sm(p:Pr):Bool:=As p.name&&p.params.all (IP true)
def QM(f:Fu):Bool:=As f.name&&(f.params.all (IP true)&&(KH f.lo&&KH f.hi))
def NA(a:Ac):Bool:=As a.name&&(a.params.all (IP true)&&(!(decide (a.cost<0))&&(KH a.cost&&(DI a.pre&&a.changes.all Jb))))
def NB(a:Du):Bool:=As a.name&&(a.params.all (IP true)&&(KH a.Dw&&(a.Bm.all Jb&&(a.Bn.all Jb&&(DI a.start&&(DI a.over&&DI a.stop))))))
def OT(d:Dm):Bool:=As d.name&&(d.types.all (IP false)&&(d.constants.all (IP false)&&(d.Ay.all Sm&&(d.Au.all QM&&(d.Av.all NA&&d.B0.all NB)))))
theorem Sn{n:Int}:A6 prog 44 [qK n] h λr h'=>r= .agg (D1 n).cells/\h'=h:=by
 refine A6.CD Ty.Uf ?_;refine AD func44 ntmps44 results44 Ty.Uf ?_;refine wt A4 ?_;refine⟨?_,((AH.refl h).new _).set (AG _) _⟩;simp only[D1,Sx.cells,Sx.rows,AI,AN];exact⟨_,rfl,rfl,rfl,rfl,rfl,rfl,.inr (.inl ⟨rfl,.inr rfl⟩),trivial⟩
abbrev xO(j k:Nat):Am:= .arr 6 [[qK 3,qK 0,qK 0,qK 0,.sc (.string ⟨#[]⟩),.own j 0 k]]
def I2(h:A0)(xi j:Nat)(L:List Sx):A0:=⟨h.next+18+1,λi=>if i=xi then some (xO (h.next+18) L.length)else if i=h.next+18 then some (.arr 6 (Sx.rows L))else if i=j then none else if i<h.next then h.obj i else none⟩
theorem J8{kw:ByteArray}{v:Sx}{m:Bool}(hx:h.obj xi=some (xO j L.length))(hj:h.obj j=some (.arr 6 (Sx.rows L)))(hne:xi≠j)(hxl:xi<h.next)(hjl:j<h.next)(hL:L.length<=1048576):
  A6 prog 97 [.ptr xi 0 0,.sc (.bool m),A3 kw,.agg v.cells] h λr h'=>r=Gx []/\h'=(if m=true then h else I2 h xi j (L++[A5 kw,v])):=by
 have hw: ∀ (s:ByteArray)(h:A0),A6 prog 40 [A3 s] h λr h'=>r= .agg (A5 s).cells/\h'=h:=λs h=>KE;simp only[A5,Sx.cells,Sx.rows]at hw;obtain⟨vk,vv,vl,vc,vt,vs⟩:=v;simp only[Sx.cells];cases m with
 |true=>
  refine AD func97 ntmps97 results97 Ty.Uo ?_;refine wt A4 ?_;simp only[Ip,HH];exact⟨trivial,trivial⟩
 |false=>
  have hrl:(Sx.rows L).length=L.length:=Sx.B3 L;have hb2:(L.length+2)*72<=140737488355328:=by omega
  have htk:List.take L.length (Sx.rows L)=Sx.rows L:=List.take_of_length_le (by omega);refine A6.drop ?_;refine AD func97 ntmps97 results97 Ty.Uo ?_;refine xB 2 A4 ?_;refine⟨?_⟩;refine Q8 10 (by decide+kernel) λK hK=>?_;simp only[List.take_succ_cons,List.take_zero,List.drop_succ_cons,List.drop_zero];have c1:(Value.int IntKind.i64 0).oneCell'=true:=rfl;have c2:(Value.string ⟨#[]⟩).oneCell'=true:=rfl;have c3:(Value.slice none 0 0).oneCell'=true:=rfl;simp only[xO]at hx;simp(maxSteps:=4000000) only[Ty.w,simprocAttr,Ty.AX,c1,c2,c3,hx,hj,hrl,htk,hb2,AG];replace zz:=BF c1 c2 c3 hx hj hrl htk hb2 @AG;first|refine uV zz (hw kw _) ?_|refine uA zz (hw kw _) ?_
  refine⟨by simp only[List.forall_mem_cons];(repeat' apply And.intro)<;>first|exact .inl (by decide+kernel)|exact(λ_ hx=>by cases hx),?_⟩;have hset1: ∀ x:List PV,(Sx.rows L++[Bh,Bh]).set L.length x=Sx.rows L++[x,Bh]:=λx=>by rw[List.set_append_right _ _ (by omega),hrl,LU];try rfl
  have hset2: ∀ x y:List PV,(Sx.rows L++[x,Bh]).set (L.length+1) y=Sx.rows L++[x,y]:=λx y=>by rw[List.set_append_right _ _ (by omega),hrl,pR];try rfl
  have hget1:(Sx.rows L++[Bh,Bh])[L.length]? =some Bh:=by rw[List.getElem?_append_right (by omega),hrl,LU];try rfl
  have hget2: ∀ x:List PV,(Sx.rows L++[x,Bh])[L.length+1]? =some Bh:=λx=>by rw[List.getElem?_append_right (by omega),hrl,pR];try rfl
  have w1:IntKind.i64.wrap ((L.length:Int)+1)=((L.length+1:Nat):Int):=by rw[BM (by omega) (by omega)];omega
  have hN1:((A0.kill ⟨h.next+18,h.obj⟩ j).new (.arr 6 (Sx.rows L++[Bh,Bh]))).obj (h.next+18)=some (.arr 6 (Sx.rows L++[Bh,Bh])):=by simp only[A0.new,A0.kill,AO]
  have hX1:((A0.kill ⟨h.next+18,h.obj⟩ j).new (.arr 6 (Sx.rows L++[Bh,Bh]))).obj xi=some (xO j L.length):=by
   simp only[A0.new,A0.kill];rw[A7 (by omega),A7 hne];exact hx
  have hO1: ∀ i,i<h.next->i≠j->((A0.kill ⟨h.next+18,h.obj⟩ j).new (.arr 6 (Sx.rows L++[Bh,Bh]))).obj i=h.obj i:=λi hi hij=>by
   simp only[A0.new,A0.kill];rw[A7 (by omega),A7 hij]
  have hn1:((A0.kill ⟨h.next+18,h.obj⟩ j).new (.arr 6 (Sx.rows L++[Bh,Bh]))).next=h.next+18+1:=rfl
  generalize((A0.kill ⟨h.next+18,h.obj⟩ j).new (.arr 6 (Sx.rows L++[Bh,Bh])))=H1 at hN1 hX1 hO1 hn1⊢;have hkc:List.length [qK 1,qK 0,qK 0,qK 0,A3 kw,.A1 6 []]=6:=rfl;refine IS (.ptr (h.next+18) L.length 0) [h.next+18] (.inr (by decide+kernel)) (by decide) rfl rfl (λH hH=>by
   have hH:=(hH _ (List.mem_singleton.2 rfl)).trans hN1;have q1:(L.length<L.length+2)=True:=Di (by omega);simp only[Ty.w,simprocAttr,Ty.AX,hH,q1,c1,c2,c3,hrl,hb2,AG,w1]) dL ?_
  refine KB (ob:= .arr 6 (Sx.rows L++[[qK 1,qK 0,qK 0,qK 0,A3 kw,.A1 6 []],Bh])) rfl (by decide) rfl (by simp only[Ty.w,simprocAttr,Ty.AX];try rfl) (by
   simp only[Ty.w,simprocAttr,Ty.AX,hN1,hget1,hset1,c1,c2,c3,hrl,hb2,AG,w1];try rfl) (λf q hf hq ha=>by rcases(show f=12\/f=13\/f=14\/f=15\/f=16\/f=17 from by have hfl:=(List.getElem?_eq_some_iff.1 hq).1;simp only[List.length_cons,List.length_nil]at hfl;omega)with rfl|rfl|rfl|rfl|rfl|rfl<;>(simp only[List.getElem?_cons_succ,List.getElem?_cons_zero,BC]at hq;subst hq;revert ha;decide+kernel)) dL dL ?_
  have hN2:(H1.set (h.next+18) (.arr 6 (Sx.rows L++[[qK 1,qK 0,qK 0,qK 0,A3 kw,.A1 6 []],Bh]))).obj (h.next+18)=some (.arr 6 (Sx.rows L++[[qK 1,qK 0,qK 0,qK 0,A3 kw,.A1 6 []],Bh])):=D7;have hX2:(H1.set (h.next+18) (.arr 6 (Sx.rows L++[[qK 1,qK 0,qK 0,qK 0,A3 kw,.A1 6 []],Bh]))).obj xi=some (xO j L.length):=(Aw (by omega)).trans hX1;have hO2: ∀ i,i<h.next->i≠j->(H1.set (h.next+18) (.arr 6 (Sx.rows L++[[qK 1,qK 0,qK 0,qK 0,A3 kw,.A1 6 []],Bh]))).obj i=h.obj i:=λi hi hij=>(Aw (by omega)).trans (hO1 i hi hij)
  have hn2:(H1.set (h.next+18) (.arr 6 (Sx.rows L++[[qK 1,qK 0,qK 0,qK 0,A3 kw,.A1 6 []],Bh]))).next=h.next+18+1:=hn1
  generalize H1.set (h.next+18) (.arr 6 (Sx.rows L++[[qK 1,qK 0,qK 0,qK 0,A3 kw,.A1 6 []],Bh]))=H2 at hN2 hX2 hO2 hn2⊢;refine IS (qK ((L.length+1:Nat):Int)) [] (.inl rfl) (by decide) rfl rfl (λH _=>by(try simp only[Ty.w,simprocAttr,Ty.AX,c1,c2,c3,hrl,hb2,AG,w1]);try rfl) dL ?_;refine IS (.ptr (h.next+18) (L.length+1) 0) [h.next+18] (.inr (by decide+kernel)) (by decide) rfl rfl (λH hH=>by
   have hH:=(hH _ (List.mem_singleton.2 rfl)).trans hN2;have q1:(L.length+1<L.length+2)=True:=Di (by omega);simp only[Ty.w,simprocAttr,Ty.AX,hH,q1,c1,c2,c3,hrl,hb2,AG,w1]) dL ?_
  refine KB (ob:= .arr 6 (Sx.rows L++[[qK 1,qK 0,qK 0,qK 0,A3 kw,.A1 6 []],[qK vk,qK vv,qK vl,qK vc,A3 vt,.A1 6 (Sx.rows vs)]])) rfl (by decide) rfl (by simp only[Ty.w,simprocAttr,Ty.AX];try rfl) (by
   simp only[Ty.w,simprocAttr,Ty.AX,hN2,hget2,hset2,c1,c2,c3,hrl,hb2,AG,w1];try rfl) (λf q hf hq ha=>by rcases(show f=15\/f=16\/f=17 from by have hfl:=(List.getElem?_eq_some_iff.1 hq).1;simp only[List.length_cons,List.length_nil]at hfl;omega)with rfl|rfl|rfl<;>(simp only[List.getElem?_cons_succ,List.getElem?_cons_zero,BC]at hq;subst hq;revert ha;decide+kernel)) dL dL ?_
  refine IS (.ptr xi 0 0) [] (.inl rfl) (by decide) rfl rfl (λH _=>by(try simp only[Ty.w,simprocAttr,Ty.AX,c1,c2,c3,hrl,hb2,AG,w1]);try rfl) dL ?_;refine IS (.ptr xi 0 5) [] (.inl rfl) (by decide) rfl rfl (λH _=>by(try simp only[Ty.w,simprocAttr,Ty.AX,c1,c2,c3,hrl,hb2,AG,w1]);try rfl) dL ?_;have hX3:=hX2;have nX:(xi=h.next+18)=False:=BB (by omega);simp only[xO]at hX3;refine KB (ob:=xO (h.next+18) (L.length+2)) rfl (by decide) rfl (by simp only[Ty.w,simprocAttr,Ty.AX];try rfl) (by
   simp only[Ty.w,simprocAttr,Ty.AX,hX3,nX,c1,c2,c3,hrl,hb2,AG,w1];try rfl) (λf q hf hq ha=>by have hfl:=(List.getElem?_eq_some_iff.1 hq).1;simp only[List.length_cons,List.length_nil]at hfl;omega) dL dL ?_
  refine Q9 (hK _ _ ?_);simp only[Ip,HH];have hRL:Sx.rows (L++[A5 kw,.mk vk vv vl vc vt vs])=Sx.rows L++[[qK 1,qK 0,qK 0,qK 0,A3 kw,.A1 6 []],[qK vk,qK vv,qK vl,qK vc,A3 vt,.A1 6 (Sx.rows vs)]]:=by simp[Sx.rows_map,A5,Sx.cells,Sx.rows]
  rw[← hRL];have hlen:(L++[A5 kw,.mk vk vv vl vc vt vs]).length=L.length+2:=by simp
  rw[← hlen];generalize L++[A5 kw,.mk vk vv vl vc vt vs]=L2;refine⟨Gx [],I2 h xi j L2,⟨rfl,by simp⟩,by simp[Gx,AI,AN],by simp only[I2];omega,λi o hio=>?_⟩;simp only[I2]at hio⊢;by_cases h1:i=xi
  ·subst h1;rw[AK rfl]at hio;obtain rfl:=JC hio;exact⟨D7,by omega,.inr (by simp[xO,F7,B9,Bo,Bc])⟩
  ·rw [A7 h1]at hio;by_cases h2:i=h.next+18
   ·subst h2;rw[AK rfl]at hio;obtain rfl:=JC hio;exact⟨(Aw h1).trans D7,by omega,.inr (by simp only[F7];exact HL _ _)⟩
   ·rw [A7 h2]at hio;by_cases h3:i=j
    ·rw [AK h3]at hio;cases hio
    ·rw [A7 h3]at hio;by_cases h4:i<h.next
     ·rw [AK h4]at hio;exact⟨((Aw h1).trans ((Aw h2).trans (hO2 i h4 h3))).trans hio,by omega,.inl hio⟩
     ·rw [A7 h4]at hio;cases hio
theorem So{P:Program}{ow:Nat->Bool}{wf:FuncId->Bool}{s:AE}{f:FuncId}{d:Nat}{args:List Operand}{ts:Array TypeId}{ty:TypeId}{pos:String}{af:Array Edge}{gd:Option (Nat × Bool)}{aS:List PV}{v:PV}{h1:A0}{ops rest:List Oper}{base k:Nat}{past:Gl}{hist:List (Nat × A0)}{K:AE->A0->Prop}{A:A0->Prop}(al:List Nat)(ha:M8 ops=al)
  (hc:A6 P f aS h λr h'=>r=v/\h'=h1)(hs:args.map (A9 s)=aS)(hA:A h1)
  (hk:EY P ow wf n ops al base k rest past hist K (Ci s d v) h1):
  ∃ v h',Ap P ow {dst:=some d,op:= .call {callee:= .value (.func f),args:=args.toArray,argTypes:=ts},type:=ty,pos:=pos,after:=af,guard:=gd} (A9 s) h v h'/\A h'/\
   GG P ow wf n ops base k rest (Dj P ow past) hist K (Ci s d v) h':=
 ⟨v,h1,CT hc hs,hA,L3 ha _ _ _ _ _ _ hk⟩
def Cg:ByteArray:=⟨#[58,97,99,116,105,111,110]⟩
def Cc:ByteArray:=⟨#[58,112,97,114,97,109,101,116,101,114,115]⟩
def EZ:ByteArray:=⟨#[58,99,111,115,116]⟩
def Ff:ByteArray:=⟨#[58,112,114,101,99,111,110,100,105,116,105,111,110]⟩
def Ea:ByteArray:=⟨#[58,101,102,102,101,99,116]⟩
def BP(L:List Sx)(m:Bool)(kw:ByteArray)(v:Sx):List Sx:=bif m then L else L++[A5 kw,v]
def XC(a:Ac):List Sx:=BP (BP (BP (BP [A5 Cg,A5 a.name] ((a.params.length:Int)==0) Cc (AC (Aa a.params))) (a.cost==1) EZ (D1 a.cost)) (BX a.pre) Ff (BH a.pre)) ((a.changes.length:Int)==0) Ea (Bx a.changes)
def Eo(a:Ac):Sx:=AC (XC a)
def Fs(a:Ac):Bool:=As a.name&&!(decide (a.cost<0))&&a.params.all (BO true)&&Bf a.pre&&a.changes.all CA
structure OU(a:Ac):Prop where
 params:a.params.length<=1048576
 pre:a.pre.small
 ZK:a.changes.length<=1048576
 ch: ∀ c∈a.changes,Fe c
theorem Ia(L:List Sx)(m:Bool)(kw:ByteArray)(v:Sx):(BP L m kw v).length<=L.length+2:=by cases m<;>simp[BP]
structure Dl(h:A0)(id:Nat)(b:Bool)(xi j:Nat)(L:List Sx)(H:A0):Prop where
 grow:CP h id (wO b) H
 ids:h.next<xi/\xi<H.next/\h.next<j/\j<H.next/\xi≠j
 TX:H.obj h.next=some (.arr 6 [Bh])
 ox:H.obj xi=some (xO j L.length)
 oj:H.obj j=some (.arr 6 (Sx.rows L))
structure HT(h:A0)(id xi:Nat)(row:List PV)(S:AE):Prop where
 s0:S 0= .ptr id 0 0
 s3:S 3= .Aj row
 s4:S 4= .ptr h.next 0 0
 s5:S 5= .ptr xi 0 0
theorem Dl.put{b2:Bool}(i:Dl h id b xi j L H)(hid:id<h.next):Dl h id b2 xi j L (H.set id (wO b2)):=by
 obtain⟨g,⟨i1,i2,i3,i4,i5⟩,o1,o2,o3⟩:=i;exact⟨g.put,⟨i1,i2,i3,i4,i5⟩,(Aw (by omega)).trans o1,(Aw (by omega)).trans o2,(Aw (by omega)).trans o3⟩
theorem Dl.part{L2:List Sx}(i:Dl h id b xi j L H)(hid:id<h.next):Dl h id b xi (H.next+18) L2 (I2 H xi j L2):=by
 obtain⟨g,⟨i1,i2,i3,i4,i5⟩,o1,o2,o3⟩:=i;have hle:=g.le;refine⟨⟨by simp only[I2];omega,λk hk hne=>?_,?_⟩,⟨i1,by simp only[I2];omega,by omega,by simp only[I2];omega,by omega⟩,?_,?_,?_⟩
 ·simp only[I2];rw[A7 (by omega),A7 (by omega),A7 (by omega),AK (by omega)];exact g.B1 k hk hne
 ·simp only[I2];rw[A7 (by omega),A7 (by omega),A7 (by omega),AK (by omega)];exact g.at_
 ·simp only[I2];rw[A7 (by omega),A7 (by omega),A7 (by omega),AK (by omega)];exact o1
 ·simp only[I2,AO]
 ·simp only[I2];rw[A7 (by omega),AK A4]
theorem lS{a:Ac}(hok:a.ok)(hsm:OU a)(hid:id<h.next)(ho:h.obj id=some (wO b)):
  A6 prog 45 [.ptr id 0 0,.agg (DF a)] h λr h'=>r= .agg (Eo a).cells/\h'=h.set id (wO (b||!Fs a)):=by
 refine JJ Ty.Rc λhwf=>?_;refine A6.LW Ty.Rc ho (LB _ _) ?_;have hno: ∀ i,h.next<=i->h.obj i=none:=λi hi=>by
  cases q:h.obj i with
  |none=>rfl
  |some o=>have:=hwf i (by rw[q];try rfl);omega
 obtain⟨name,params,cost,⟨gop,gna,gar,gpa,gex,gki⟩,changes⟩:=a;have hw: ∀ (s:ByteArray)(h:A0),A6 prog 40 [A3 s] h λr h'=>r= .agg (A5 s).cells/\h'=h:=λs h=>KE;have hns:name.size<=9223372036854775807:=by have:=hok.name;unfold AF at this;simp only at this;omega
 have cN:=λ(H:A0)(hid:id<H.next)(ho:H.obj id=some (wO b))=>N5 (h:=H) (b:=b) hns hid ho;simp only[A5,Sx.cells,Sx.rows]at hw cN;simp only[DF,Fm.cells,List.cons_append,List.nil_append];have n1:(id=h.next)=False:=BB (by omega);have n2:(h.next=id)=False:=BB (by omega);refine Pc (ow:=λt=>t==11) (wf:=λf=>f==41||f==43||f==100||f==51||f==97) Ty.Ph func45 rfl Ty.Rc (by rw[ntmps45];simp) ?_;rw[ntmps45,results45];refine Ai (λK hK=>?_);repeat'(first|refine Ai λK hK=>?_|refine uR A4 ?_|(refine uN hK ?_;clear hK)|apply zI)
 refine SR [7] (by decide+kernel) (by decide+kernel) ?_;have n3:(h.next+1+7=h.next)=False:=BB (by omega);have n4:(h.next+1+7=id)=False:=BB (by omega);have n5:(h.next+1+9=id)=False:=BB (by omega);have n6:(h.next+1+7=h.next+1+9)=False:=BB (by omega);have n7:(h.next+1+9=h.next+1+7)=False:=BB (by omega);have n8:(id=h.next+1+7)=False:=BB (by omega);have hN8:h.obj (h.next+1+7)=none:=hno _ (by omega);simp(maxSteps:=4000000) only[EY,Ty.w,simprocAttr,Ty.AX,List.forall_mem_cons,ho,n1,n2,n3,n4,n5,n6,n7,n8,hN8];first
  |refine QA [7] (by decide+kernel) (hw Cg _) (sr (B6 ho n1 n2 n3 n4 n5 n6 n7 n8 hN8)) ?_
  |refine L4 [7] (by decide+kernel) (hw Cg _) (sr (B6 ho n1 n2 n3 n4 n5 n6 n7 n8 hN8)) (by simp only[Ty.w,simprocAttr,Ty.AX,ho,n1,n2,n3,n4,n5,n6,n7,n8,hN8];try trivial) ?_
 simp(maxSteps:=4000000) only[EY,Ty.w,simprocAttr,Ty.AX,List.forall_mem_cons,List.nil_append,ho,n1,n2,n3,n4,n5,n6,n7,n8,hN8];refine So [7] (by decide+kernel) (cN _ (by simp only[A0.new];omega) (sq (B6 ho n1 n2 n3 n4 n5 n6 n7 n8 hN8))) (sr (B6 ho n1 n2 n3 n4 n5 n6 n7 n8 hN8)) ?_ ?_
 ·exact ⟨sq (B6 ho n1 n2 n3 n4 n5 n6 n7 n8 hN8),by simp only[Dj,List.map_cons,List.map_nil,List.forall_mem_cons];(repeat' apply And.intro)<;>first|exact .inl (by decide+kernel)|exact(λ_ hx=>by cases hx)⟩
 simp(maxSteps:=4000000) only[EY,Ty.w,simprocAttr,Ty.AX,List.forall_mem_cons,List.nil_append,ho,n1,n2,n3,n4,n5,n6,n7,n8,hN8];refine⟨by(repeat' apply And.intro)<;>first|exact .inl (by decide+kernel)|exact(λ_ hx=>by cases hx)|trivial,?_⟩;have hl3: ∀ H:A0,h.next+1+9<H.next->A6 prog 39 [.own (h.next+1+9) 0 2] H λr h'=>r= .agg [qK 3,qK 0,qK 0,qK 0,.sc (.string ⟨#[]⟩),.own (h.next+1+9) 0 2]/\h'=H:=λH hh=>KF rfl (λ_=>Ks hh)
 refine L4 [7] (by decide+kernel) (hl3 _ (by simp[A0.new,A0.set])) (sr (B6 ho n1 n2 n3 n4 n5 n6 n7 n8 hN8)) (by(repeat' apply And.intro)<;>first|exact .inl (by decide+kernel)|exact(λ_ hx=>by cases hx)|trivial) ?_;simp(maxSteps:=4000000) only[EY,Ty.w,simprocAttr,Ty.AX,List.forall_mem_cons,List.nil_append,ho,n1,n2,n3,n4,n5,n6,n7,n8,hN8];refine⟨?_,?_⟩
 ·(repeat' apply And.intro)<;>first
    |exact .inl (by decide+kernel)
    |exact .inr (CT (hw Cg _) (sr (B6 ho n1 n2 n3 n4 n5 n6 n7 n8 hN8)))
    |exact .inr (CT (hl3 _ (by simp[A0.new,A0.set])) (sr (B6 ho n1 n2 n3 n4 n5 n6 n7 n8 hN8)))
    |exact .inr (by simp only[Ty.w,simprocAttr,Ty.AX,ho,n1,n2,n3,n4,n5,n6,n7,n8,hN8])
    |exact(λ_ hx=>by cases hx)
    |trivial
 refine⟨?_,?_⟩
 ·(repeat' apply And.intro)<;>first
    |exact .inl (by decide+kernel)
    |exact .inr (CT (hw Cg _) (sr (B6 ho n1 n2 n3 n4 n5 n6 n7 n8 hN8)))
    |exact .inr (CT (hl3 _ (by simp[A0.new,A0.set])) (sr (B6 ho n1 n2 n3 n4 n5 n6 n7 n8 hN8)))
    |exact .inr (by simp only[Ty.w,simprocAttr,Ty.AX,ho,n1,n2,n3,n4,n5,n6,n7,n8,hN8])
    |exact(λ_ hx=>by cases hx)
    |trivial
 first|refine hK _ _ ?_|refine cK ?_
 try clear hK
 generalize hxi:h.next+1+7=xi
 refine Cf (λS H=> ∃ j,HT h id xi [A3 name,.A1 2 (A8 params),qK cost,A3 gop,A3 gna,.A1 1 (AL gar),.A1 2 (A8 gpa),.A1 5 (Ex.rows gex),.A1 6 (Fm.rows gki),.A1 15 (Ag changes)] S/\Dl h id (b||!As name) xi j [A5 Cg,A5 name] H) ?_ ?_
 ·subst hxi;refine⟨h.next+1+9,⟨sq A4,sq A4,sq A4,sq A4⟩,⟨?_,⟨by omega,by simp only[A0.set,A0.new];omega,by omega,by simp only[A0.set,A0.new];omega,by omega⟩,?_,?_,?_⟩⟩
  ·refine ⟨by simp only[A0.set,A0.new];omega,λk hk hne=>?_,?_⟩
   ·simp only[A0.set,A0.new];(repeat(first|rw[A7 (by omega)]|rw[AK A4]));try exact A7 (by omega)
   ·simp only[A0.set,A0.new];repeat(first|rw[A7 (by omega)]|rw[AK A4])
  ·simp only[A0.set,A0.new];repeat(first|rw[A7 (by omega)]|rw[AK A4])
  ·simp only[A0.set,A0.new];(repeat(first|rw[A7 (by omega)]|rw[AK A4]));rfl
  ·simp only[A0.set,A0.new];(repeat(first|rw[A7 (by omega)]|rw[AK A4]));simp[A5,Sx.rows,Sx.cells]
 clear n1 n2 n3 n4 n5 n6 n7 n8 hN8 hno hwf hl3 cN;rintro S H ⟨j,⟨s0,s3,s4,s5⟩,hI⟩;generalize hb1:(b||!As name)=b1 at hI;refine D0 (λS H=> ∃ j,HT h id xi [A3 name,.A1 2 (A8 params),qK cost,A3 gop,A3 gna,.A1 1 (AL gar),.A1 2 (A8 gpa),.A1 5 (Ex.rows gex),.A1 6 (Fm.rows gki),.A1 15 (Ag changes)] S/\Dl h id (b1||decide (cost<0)) xi j [A5 Cg,A5 name] H) ?_ ?_
 ·have hat:=hI.grow.at_;cases b1 with
  |true=>
   replace zz:=Ae s0 s3 s4 s5 hat;refine wt zz ?_;exact⟨j,⟨sq s0,sq s3,sq s4,sq s5⟩,hI.put hid⟩
  |false=>
   replace zz:=Ae s0 s3 s4 s5 hat;refine wt zz ?_;exact⟨j,⟨sq s0,sq s3,sq s4,sq s5⟩,hI.put hid⟩
 clear s0 s3 s4 s5 hI;rintro S H ⟨j,⟨s0,s3,s4,s5⟩,hI⟩;generalize hb2:(b1||decide (cost<0))=b2 at hI;refine D0 (λS H=> ∃ j,HT h id xi [A3 name,.A1 2 (A8 params),qK cost,A3 gop,A3 gna,.A1 1 (AL gar),.A1 2 (A8 gpa),.A1 5 (Ex.rows gex),.A1 6 (Fm.rows gki),.A1 15 (Ag changes)] S/\Dl h id (b2||!(params.all (BO true))) xi j (BP [A5 Cg,A5 name] ((params.length:Int)==0) Cc (AC (Aa params))) H) ?_ ?_
 ·have hpl:=Gz params;have hat:=hI.grow.at_;obtain⟨hg,⟨i1,i2,i3,i4,i5⟩,o1,o2,o3⟩:=(show Dl _ _ _ _ _ _ _ from hI);have cP:=M9 (h:=H) (b:=b2) (vars:=true) hsm.params hok.params.2 (by omega) hat;have cL:=λh:A0=>Jc (Aa params) h;have cp:=λ(m:Bool)(hx:(H.set id (wO (b2||!(params.all (BO true))))).obj xi=some (xO j 2))(hj:(H.set id (wO (b2||!(params.all (BO true))))).obj j=some (.arr 6 (Sx.rows [A5 Cg,A5 name])))=>J8 (h:=H.set id (wO (b2||!(params.all (BO true))))) (xi:=xi) (j:=j) (L:=[A5 Cg,A5 name]) (kw:=Cc) (v:=AC (Aa params)) (m:=m) hx hj i5 i2 i4 (by simp);generalize hm:((params.length:Int)==0)=m;simp only[AC,Sx.cells,Cc]at cL cp;replace zz:=Ae s0 s3 s5 hpl hm;refine wy zz ?_;replace zz:=Ae s0 s3 s5 hpl hm;refine uZ zz (cP) ?_;refine wy zz ?_;replace zz:=Ae s0 s3 s5 hpl hm;first|refine uV zz (cL _) ?_|refine uJ zz cL ?_
  refine wy zz ?_;have o1':(H.set id (wO (b2||!(params.all (BO true))))).obj xi=some (xO j 2):=(Aw (by omega)).trans o2;have o2':(H.set id (wO (b2||!(params.all (BO true))))).obj j=some (.arr 6 (Sx.rows [A5 Cg,A5 name])):=(Aw (by omega)).trans o3;replace zz:=Ae s0 s3 s5 hpl hm;refine uZ zz (cp m o1' o2') ?_;refine wy zz ?_;cases m with
  |true=>exact⟨j,⟨sq s0,sq s3,sq s4,sq s5⟩,hI.put hid⟩
  |false=>exact⟨_,⟨sq s0,sq s3,sq s4,sq s5⟩,(hI.put hid).part hid⟩
 ·have hL1:(BP [A5 Cg,A5 name] ((params.length:Int)==0) Cc (AC (Aa params))).length<=4:=Ia _ _ _ _;generalize hLe1:BP [A5 Cg,A5 name] ((params.length:Int)==0) Cc (AC (Aa params))=LL1 at hL1⊢;generalize hb3:(b2||!(params.all (BO true)))=b3
  clear s0 s3 s4 s5 hI;rintro S H ⟨j,⟨s0,s3,s4,s5⟩,hI⟩;refine D0 (λS H=> ∃ j,HT h id xi [A3 name,.A1 2 (A8 params),qK cost,A3 gop,A3 gna,.A1 1 (AL gar),.A1 2 (A8 gpa),.A1 5 (Ex.rows gex),.A1 6 (Fm.rows gki),.A1 15 (Ag changes)] S/\Dl h id b3 xi j (BP LL1 (cost==1) EZ (D1 cost)) H) ?_ ?_
  ·have hat:=hI.grow.at_;obtain⟨hg,⟨i1,i2,i3,i4,i5⟩,o1,o2,o3⟩:=(show Dl _ _ _ _ _ _ _ from hI);have cD:=λh:A0=>Sn (h:=h) (n:=cost);have cp:=λ(m:Bool)(hx:H.obj xi=some (xO j LL1.length))(hj:H.obj j=some (.arr 6 (Sx.rows LL1)))=>J8 (h:=H) (xi:=xi) (j:=j) (L:=LL1) (kw:=EZ) (v:=(D1 cost)) (m:=m) hx hj i5 i2 i4 (by omega);generalize hm:(cost==1)=m;simp only[D1,Sx.cells,Sx.rows,EZ]at cD cp;replace zz:=AW s0 s3 s5 hm;refine wy zz ?_;replace zz:=AW s0 s3 s5 hm;(first|refine uV zz (cD _) ?_|refine uJ zz cD ?_);refine wy zz ?_;have o1':H.obj xi=some (xO j LL1.length):=o2;have o2':H.obj j=some (.arr 6 (Sx.rows LL1)):=o3;replace zz:=AW s0 s3 s5 hm;refine uZ zz (cp m o1' o2') ?_;refine wy zz ?_;cases m with
   |true=>exact⟨j,⟨sq s0,sq s3,sq s4,sq s5⟩,hI⟩
   |false=>exact⟨_,⟨sq s0,sq s3,sq s4,sq s5⟩,hI.part hid⟩
  ·have hL2:(BP LL1 (cost==1) EZ (D1 cost)).length<=6:=(by have:=Ia LL1 (cost==1) EZ (D1 cost);omega);generalize hLe2:BP LL1 (cost==1) EZ (D1 cost)=LL2 at hL2⊢;clear s0 s3 s4 s5 hI;rintro S H ⟨j,⟨s0,s3,s4,s5⟩,hI⟩;refine D0 (λS H=> ∃ j,HT h id xi [A3 name,.A1 2 (A8 params),qK cost,A3 gop,A3 gna,.A1 1 (AL gar),.A1 2 (A8 gpa),.A1 5 (Ex.rows gex),.A1 6 (Fm.rows gki),.A1 15 (Ag changes)] S/\Dl h id (b3||!(Bf (.mk gop gna gar gpa gex gki))) xi j (BP LL2 (BX (.mk gop gna gar gpa gex gki)) Ff (BH (.mk gop gna gar gpa gex gki))) H) ?_ ?_
   ·have hat:=hI.grow.at_;obtain⟨hg,⟨i1,i2,i3,i4,i5⟩,o1,o2,o3⟩:=(show Dl _ _ _ _ _ _ _ from hI);have cA:=λh:A0=>LC (h:=h);have cS:=λh:A0=>Iz (.mk gop gna gar gpa gex gki) hok.pre Bu OS h;have hAl:(.mk gop gna gar gpa gex gki:Fm).same Bu=BX (.mk gop gna gar gpa gex gki):=rfl;rw[hAl]at cS;have cW:=OP (h:=H) (b:=b3) hok.pre hsm.pre (by omega) hat;generalize BH (.mk gop gna gar gpa gex gki)=X at cW⊢;obtain⟨yk,yv,yl,yc,yt,ys⟩:=X;have cp:=λ(m:Bool)(hx:(H.set id (wO (b3||!(Bf (.mk gop gna gar gpa gex gki))))).obj xi=some (xO j LL2.length))(hj:(H.set id (wO (b3||!(Bf (.mk gop gna gar gpa gex gki))))).obj j=some (.arr 6 (Sx.rows LL2)))=>J8 (h:=(H.set id (wO (b3||!(Bf (.mk gop gna gar gpa gex gki)))))) (xi:=xi) (j:=j) (L:=LL2) (kw:=Ff) (v:=(.mk yk yv yl yc yt ys)) (m:=m) hx hj i5 i2 i4 (by omega);generalize hm:(BX (.mk gop gna gar gpa gex gki))=m at cS⊢;simp only[Bu,Fm.cells,Sx.cells,Sx.rows,Ff]at cA cS cW cp;replace zz:=AW s0 s3 s5 hm;refine wy zz ?_;replace zz:=AW s0 s3 s5 hm;(first|refine uV zz (cA _) ?_|refine uJ zz cA ?_);refine wy zz ?_;replace zz:=AW s0 s3 s5 hm;(first|refine uV zz (cS _) ?_|refine uJ zz cS ?_);refine wy zz ?_;replace zz:=AW s0 s3 s5 hm;refine uZ zz (cW) ?_;refine wy zz ?_;have o1':(H.set id (wO (b3||!(Bf (.mk gop gna gar gpa gex gki))))).obj xi=some (xO j LL2.length):=(Aw (by omega)).trans o2;have o2':(H.set id (wO (b3||!(Bf (.mk gop gna gar gpa gex gki))))).obj j=some (.arr 6 (Sx.rows LL2)):=(Aw (by omega)).trans o3;replace zz:=AW s0 s3 s5 hm;refine uZ zz (cp m o1' o2') ?_;refine wy zz ?_;cases m with
    |true=>exact⟨j,⟨sq s0,sq s3,sq s4,sq s5⟩,hI.put hid⟩
    |false=>exact⟨_,⟨sq s0,sq s3,sq s4,sq s5⟩,(hI.put hid).part hid⟩
   ·have hL3:(BP LL2 (BX (.mk gop gna gar gpa gex gki)) Ff (BH (.mk gop gna gar gpa gex gki))).length<=8:=(by have:=Ia LL2 (BX (.mk gop gna gar gpa gex gki)) Ff (BH (.mk gop gna gar gpa gex gki));omega);generalize hLe3:BP LL2 (BX (.mk gop gna gar gpa gex gki)) Ff (BH (.mk gop gna gar gpa gex gki))=LL3 at hL3⊢;generalize hb4:(b3||!(Bf (.mk gop gna gar gpa gex gki)))=b4;clear s0 s3 s4 s5 hI;rintro S H ⟨j,⟨s0,s3,s4,s5⟩,hI⟩;refine D0 (λS H=> ∃ j,HT h id xi [A3 name,.A1 2 (A8 params),qK cost,A3 gop,A3 gna,.A1 1 (AL gar),.A1 2 (A8 gpa),.A1 5 (Ex.rows gex),.A1 6 (Fm.rows gki),.A1 15 (Ag changes)] S/\Dl h id (b4||!(changes.all CA)) xi j (BP LL3 ((changes.length:Int)==0) Ea (Bx changes)) H) ?_ ?_
    ·have hat:=hI.grow.at_;obtain⟨hg,⟨i1,i2,i3,i4,i5⟩,o1,o2,o3⟩:=(show Dl _ _ _ _ _ _ _ from hI);have hpl:=Kp changes;have cE:=QK (h:=H) (b:=b4) hsm.ZK hok.changes.2 hsm.ch (by omega) hat;generalize Bx changes=X at cE⊢;obtain⟨yk,yv,yl,yc,yt,ys⟩:=X;have cp:=λ(m:Bool)(hx:(H.set id (wO (b4||!(changes.all CA)))).obj xi=some (xO j LL3.length))(hj:(H.set id (wO (b4||!(changes.all CA)))).obj j=some (.arr 6 (Sx.rows LL3)))=>J8 (h:=(H.set id (wO (b4||!(changes.all CA))))) (xi:=xi) (j:=j) (L:=LL3) (kw:=Ea) (v:=(.mk yk yv yl yc yt ys)) (m:=m) hx hj i5 i2 i4 (by omega);generalize hm:((changes.length:Int)==0)=m;simp only[AC,Sx.cells,Sx.rows,Ea]at cE cp;replace zz:=Ae s0 s3 s5 hm hpl;refine wy zz ?_;replace zz:=Ae s0 s3 s5 hm hpl;refine uZ zz (cE) ?_;refine wy zz ?_;have o1':(H.set id (wO (b4||!(changes.all CA)))).obj xi=some (xO j LL3.length):=(Aw (by omega)).trans o2;have o2':(H.set id (wO (b4||!(changes.all CA)))).obj j=some (.arr 6 (Sx.rows LL3)):=(Aw (by omega)).trans o3;replace zz:=Ae s0 s3 s5 hm hpl;refine uZ zz (cp m o1' o2') ?_;refine wy zz ?_;cases m with
     |true=>exact⟨j,⟨sq s0,sq s3,sq s4,sq s5⟩,hI.put hid⟩
     |false=>exact⟨_,⟨sq s0,sq s3,sq s4,sq s5⟩,(hI.put hid).part hid⟩
    ·have hL4:(BP LL3 ((changes.length:Int)==0) Ea (Bx changes)).length<=10:=(by have:=Ia LL3 ((changes.length:Int)==0) Ea (Bx changes);omega);have hLL:Eo ⟨name,params,cost,.mk gop gna gar gpa gex gki,changes⟩=AC (BP LL3 ((changes.length:Int)==0) Ea (Bx changes)):=(by rw[← hLe3, ← hLe2, ← hLe1];try rfl);have hBB:(b||!Fs ⟨name,params,cost,.mk gop gna gar gpa gex gki,changes⟩)=(b4||!(changes.all CA)):=by
      rw[← hb4, ← hb3, ← hb2, ← hb1];unfold Fs;simp only;cases b<;>cases As name<;>cases decide (cost<0)<;>cases params.all (BO true)<;>cases Bf (.mk gop gna gar gpa gex gki)<;>cases changes.all CA<;>rfl
     rw[hLL,hBB];generalize BP LL3 ((changes.length:Int)==0) Ea (Bx changes)=L at hL4⊢;generalize(b4||!(changes.all CA))=bb;clear s0 s3 s4 s5 hI;rintro S H ⟨j,⟨s0,s3,s4,s5⟩,⟨hg,⟨i1,i2,i3,i4,i5⟩,o1,o2,o3⟩⟩;simp only[xO]at o2;have n1:(h.next=xi)=False:=BB (by omega);replace zz:=Ae s4 s5 o1 o2 n1;refine wt zz ?_;refine⟨?_,hg.set hid (AG _)⟩;simp only[AC,Sx.cells,AI,AN];refine⟨_,rfl,rfl,rfl,rfl,rfl,rfl,.inr (.inr ⟨j,0,L.length,Sx.rows L,rfl,by omega,?_,?_,?_⟩),trivial⟩
     ·simp only[A0.set];rw[A7 (by omega)];exact o3
     ·rw [Sx.B3];omega
     ·rw [List.drop_zero,List.take_of_length_le (by rw[Sx.B3];omega)];exact IM _ _ _
def D8:ByteArray:=⟨#[58,100,117,114,97,116,105,118,101,45,97,99,116,105,111,110]⟩
def E6:ByteArray:=⟨#[58,100,117,114,97,116,105,111,110]⟩
def Ez:ByteArray:=⟨#[58,115,116,97,114,116]⟩
def FE:ByteArray:=⟨#[58,111,118,101,114]⟩
def FO:ByteArray:=⟨#[58,101,110,100]⟩
def Fg:ByteArray:=⟨#[58,97,116,45,115,116,97,114,116]⟩
def Gc:ByteArray:=⟨#[58,97,116,45,101,110,100]⟩
def XD(a:Du):List Sx:=BP (BP (BP (BP (BP (BP (BP [A5 D8,A5 a.name] ((a.params.length:Int)==0) Cc (AC (Aa a.params))) (a.Dw==1) E6 (D1 a.Dw)) (BX a.start) Ez (BH a.start)) (BX a.over) FE (BH a.over)) (BX a.stop) FO (BH a.stop)) ((a.Bm.length:Int)==0) Fg (Bx a.Bm)) ((a.Bn.length:Int)==0) Gc (Bx a.Bn)
def Ep(a:Du):Sx:=AC (XD a)
def FP(a:Du):Bool:=As a.name&&a.params.all (BO true)&&Bf a.start&&Bf a.over&&Bf a.stop&&a.Bm.all CA&&a.Bn.all CA
structure OV(a:Du):Prop where
 params:a.params.length<=1048576
 start:a.start.small
 over:a.over.small
 stop:a.stop.small
 Qp:a.Bm.length<=1048576/\ ∀ c∈a.Bm,Fe c
 Qq:a.Bn.length<=1048576/\ ∀ c∈a.Bn,Fe c
theorem lT{a:Du}(hok:a.ok)(hsm:OV a)(hid:id<h.next)(ho:h.obj id=some (wO b)):
  A6 prog 46 [.ptr id 0 0,.agg (DG a)] h λr h'=>r= .agg (Ep a).cells/\h'=h.set id (wO (b||!FP a)):=by
 refine JJ Ty.Rd λhwf=>?_;refine A6.LW Ty.Rd ho (LB _ _) ?_;have hno: ∀ i,h.next<=i->h.obj i=none:=λi hi=>by
  cases q:h.obj i with
  |none=>rfl
  |some o=>have:=hwf i (by rw[q];try rfl);omega
 obtain⟨name,params,dur,⟨sop,sna,sar,spa,sex,ski⟩,⟨vop,vna,var_,vpa,vex,vki⟩,⟨eop,ena,ear,epa,eex,eki⟩,ats,ate⟩:=a;have hw: ∀ (s:ByteArray)(h:A0),A6 prog 40 [A3 s] h λr h'=>r= .agg (A5 s).cells/\h'=h:=λs h=>KE;have hns:name.size<=9223372036854775807:=by have:=hok.name;unfold AF at this;simp only at this;omega
 have cN:=λ(H:A0)(hid:id<H.next)(ho:H.obj id=some (wO b))=>N5 (h:=H) (b:=b) hns hid ho;simp only[A5,Sx.cells,Sx.rows]at hw cN;simp only[DG,Fm.cells,List.cons_append,List.nil_append];have n1:(id=h.next)=False:=BB (by omega);have n2:(h.next=id)=False:=BB (by omega);refine Pc (ow:=λt=>t==11) (wf:=λf=>f==41||f==43||f==100||f==51||f==97) Ty.Ph func46 rfl Ty.Rd (by rw[ntmps46];simp) ?_;rw[ntmps46,results46];refine Ai (λK hK=>?_);repeat'(first|refine Ai λK hK=>?_|refine uR A4 ?_|(refine uN hK ?_;clear hK)|apply zI)
 refine SR [7] (by decide+kernel) (by decide+kernel) ?_;have n3:(h.next+1+7=h.next)=False:=BB (by omega);have n4:(h.next+1+7=id)=False:=BB (by omega);have n5:(h.next+1+9=id)=False:=BB (by omega);have n6:(h.next+1+7=h.next+1+9)=False:=BB (by omega);have n7:(h.next+1+9=h.next+1+7)=False:=BB (by omega);have n8:(id=h.next+1+7)=False:=BB (by omega);have hN8:h.obj (h.next+1+7)=none:=hno _ (by omega);simp(maxSteps:=4000000) only[EY,Ty.w,simprocAttr,Ty.AX,List.forall_mem_cons,ho,n1,n2,n3,n4,n5,n6,n7,n8,hN8];first
  |refine QA [7] (by decide+kernel) (hw D8 _) (sr (B6 ho n1 n2 n3 n4 n5 n6 n7 n8 hN8)) ?_
  |refine L4 [7] (by decide+kernel) (hw D8 _) (sr (B6 ho n1 n2 n3 n4 n5 n6 n7 n8 hN8)) (by simp only[Ty.w,simprocAttr,Ty.AX,ho,n1,n2,n3,n4,n5,n6,n7,n8,hN8];try trivial) ?_
 simp(maxSteps:=4000000) only[EY,Ty.w,simprocAttr,Ty.AX,List.forall_mem_cons,List.nil_append,ho,n1,n2,n3,n4,n5,n6,n7,n8,hN8];refine So [7] (by decide+kernel) (cN _ (by simp only[A0.new];omega) (sq (B6 ho n1 n2 n3 n4 n5 n6 n7 n8 hN8))) (sr (B6 ho n1 n2 n3 n4 n5 n6 n7 n8 hN8)) ?_ ?_
 ·exact ⟨sq (B6 ho n1 n2 n3 n4 n5 n6 n7 n8 hN8),by simp only[Dj,List.map_cons,List.map_nil,List.forall_mem_cons];(repeat' apply And.intro)<;>first|exact .inl (by decide+kernel)|exact(λ_ hx=>by cases hx)⟩
 simp(maxSteps:=4000000) only[EY,Ty.w,simprocAttr,Ty.AX,List.forall_mem_cons,List.nil_append,ho,n1,n2,n3,n4,n5,n6,n7,n8,hN8];refine⟨by(repeat' apply And.intro)<;>first|exact .inl (by decide+kernel)|exact(λ_ hx=>by cases hx)|trivial,?_⟩;have hl3: ∀ H:A0,h.next+1+9<H.next->A6 prog 39 [.own (h.next+1+9) 0 2] H λr h'=>r= .agg [qK 3,qK 0,qK 0,qK 0,.sc (.string ⟨#[]⟩),.own (h.next+1+9) 0 2]/\h'=H:=λH hh=>KF rfl (λ_=>Ks hh)
 refine L4 [7] (by decide+kernel) (hl3 _ (by simp[A0.new,A0.set])) (sr (B6 ho n1 n2 n3 n4 n5 n6 n7 n8 hN8)) (by(repeat' apply And.intro)<;>first|exact .inl (by decide+kernel)|exact(λ_ hx=>by cases hx)|trivial) ?_;simp(maxSteps:=4000000) only[EY,Ty.w,simprocAttr,Ty.AX,List.forall_mem_cons,List.nil_append,ho,n1,n2,n3,n4,n5,n6,n7,n8,hN8];refine⟨?_,?_⟩
 ·(repeat' apply And.intro)<;>first
    |exact .inl (by decide+kernel)
    |exact .inr (CT (hw D8 _) (sr (B6 ho n1 n2 n3 n4 n5 n6 n7 n8 hN8)))
    |exact .inr (CT (hl3 _ (by simp[A0.new,A0.set])) (sr (B6 ho n1 n2 n3 n4 n5 n6 n7 n8 hN8)))
    |exact .inr (by simp only[Ty.w,simprocAttr,Ty.AX,ho,n1,n2,n3,n4,n5,n6,n7,n8,hN8])
    |exact(λ_ hx=>by cases hx)
    |trivial
 refine⟨?_,?_⟩
 ·(repeat' apply And.intro)<;>first
    |exact .inl (by decide+kernel)
    |exact .inr (CT (hw D8 _) (sr (B6 ho n1 n2 n3 n4 n5 n6 n7 n8 hN8)))
    |exact .inr (CT (hl3 _ (by simp[A0.new,A0.set])) (sr (B6 ho n1 n2 n3 n4 n5 n6 n7 n8 hN8)))
    |exact .inr (by simp only[Ty.w,simprocAttr,Ty.AX,ho,n1,n2,n3,n4,n5,n6,n7,n8,hN8])
    |exact(λ_ hx=>by cases hx)
    |trivial
 first|refine hK _ _ ?_|refine cK ?_
 try clear hK
 generalize hxi:h.next+1+7=xi
 refine Cf (λS H=> ∃ j,HT h id xi [A3 name,.A1 2 (A8 params),qK dur,A3 sop,A3 sna,.A1 1 (AL sar),.A1 2 (A8 spa),.A1 5 (Ex.rows sex),.A1 6 (Fm.rows ski),A3 vop,A3 vna,.A1 1 (AL var_),.A1 2 (A8 vpa),.A1 5 (Ex.rows vex),.A1 6 (Fm.rows vki),A3 eop,A3 ena,.A1 1 (AL ear),.A1 2 (A8 epa),.A1 5 (Ex.rows eex),.A1 6 (Fm.rows eki),.A1 15 (Ag ats),.A1 15 (Ag ate)] S/\Dl h id (b||!As name) xi j [A5 D8,A5 name] H) ?_ ?_
 ·subst hxi;refine⟨h.next+1+9,⟨sq A4,sq A4,sq A4,sq A4⟩,⟨?_,⟨by omega,by simp only[A0.set,A0.new];omega,by omega,by simp only[A0.set,A0.new];omega,by omega⟩,?_,?_,?_⟩⟩
  ·refine ⟨by simp only[A0.set,A0.new];omega,λk hk hne=>?_,?_⟩
   ·simp only[A0.set,A0.new];(repeat(first|rw[A7 (by omega)]|rw[AK A4]));try exact A7 (by omega)
   ·simp only[A0.set,A0.new];repeat(first|rw[A7 (by omega)]|rw[AK A4])
  ·simp only[A0.set,A0.new];repeat(first|rw[A7 (by omega)]|rw[AK A4])
  ·simp only[A0.set,A0.new];(repeat(first|rw[A7 (by omega)]|rw[AK A4]));rfl
  ·simp only[A0.set,A0.new];(repeat(first|rw[A7 (by omega)]|rw[AK A4]));simp[A5,Sx.rows,Sx.cells]
 clear n1 n2 n3 n4 n5 n6 n7 n8 hN8 hno hwf hl3 cN;rintro S H ⟨j,⟨s0,s3,s4,s5⟩,hI⟩;generalize hb1:(b||!As name)=b1 at hI;have hL0:[A5 D8,A5 name].length<=2:=by simp
 generalize hLe0:[A5 D8,A5 name]=LL0 at hL0 hI;refine D0 (λS H=> ∃ j,HT h id xi [A3 name,.A1 2 (A8 params),qK dur,A3 sop,A3 sna,.A1 1 (AL sar),.A1 2 (A8 spa),.A1 5 (Ex.rows sex),.A1 6 (Fm.rows ski),A3 vop,A3 vna,.A1 1 (AL var_),.A1 2 (A8 vpa),.A1 5 (Ex.rows vex),.A1 6 (Fm.rows vki),A3 eop,A3 ena,.A1 1 (AL ear),.A1 2 (A8 epa),.A1 5 (Ex.rows eex),.A1 6 (Fm.rows eki),.A1 15 (Ag ats),.A1 15 (Ag ate)] S/\Dl h id (b1||!(params.all (BO true))) xi j (BP LL0 ((params.length:Int)==0) Cc (AC (Aa params))) H) ?_ ?_
 ·have hat:=hI.grow.at_;obtain⟨hg,⟨i1,i2,i3,i4,i5⟩,o1,o2,o3⟩:=(show Dl _ _ _ _ _ _ _ from hI);have hpl:=Gz params;have cP:=M9 (h:=H) (b:=b1) (vars:=true) hsm.params hok.params.2 (by omega) hat;have cL:=λh:A0=>Jc (Aa params) h;have cp:=λ(m:Bool)(hx:(H.set id (wO (b1||!(params.all (BO true))))).obj xi=some (xO j LL0.length))(hj:(H.set id (wO (b1||!(params.all (BO true))))).obj j=some (.arr 6 (Sx.rows LL0)))=>J8 (h:=(H.set id (wO (b1||!(params.all (BO true)))))) (xi:=xi) (j:=j) (L:=LL0) (kw:=Cc) (v:=(AC (Aa params))) (m:=m) hx hj i5 i2 i4 (by omega);generalize hm:((params.length:Int)==0)=m;simp only[AC,Sx.cells,Sx.rows,Cc]at cP cL cp;replace zz:=Ae s0 s3 s5 hm hpl;refine wy zz ?_;replace zz:=Ae s0 s3 s5 hm hpl;refine uZ zz (cP) ?_;refine wy zz ?_;replace zz:=Ae s0 s3 s5 hm hpl;first|refine uV zz (cL _) ?_|refine uJ zz cL ?_
  refine wy zz ?_;have o1':(H.set id (wO (b1||!(params.all (BO true))))).obj xi=some (xO j LL0.length):=(Aw (by omega)).trans o2;have o2':(H.set id (wO (b1||!(params.all (BO true))))).obj j=some (.arr 6 (Sx.rows LL0)):=(Aw (by omega)).trans o3;replace zz:=Ae s0 s3 s5 hm hpl;refine uZ zz (cp m o1' o2') ?_;refine wy zz ?_;cases m with
  |true=>exact⟨j,⟨sq s0,sq s3,sq s4,sq s5⟩,hI.put hid⟩
  |false=>exact⟨_,⟨sq s0,sq s3,sq s4,sq s5⟩,(hI.put hid).part hid⟩
 ·have hL1:(BP LL0 ((params.length:Int)==0) Cc (AC (Aa params))).length<=4:=by have:=Ia LL0 ((params.length:Int)==0) Cc (AC (Aa params));omega
  generalize hLe1:BP LL0 ((params.length:Int)==0) Cc (AC (Aa params))=LL1 at hL1⊢;generalize hb2:(b1||!(params.all (BO true)))=b2
  clear s0 s3 s4 s5 hI;rintro S H ⟨j,⟨s0,s3,s4,s5⟩,hI⟩;refine D0 (λS H=> ∃ j,HT h id xi [A3 name,.A1 2 (A8 params),qK dur,A3 sop,A3 sna,.A1 1 (AL sar),.A1 2 (A8 spa),.A1 5 (Ex.rows sex),.A1 6 (Fm.rows ski),A3 vop,A3 vna,.A1 1 (AL var_),.A1 2 (A8 vpa),.A1 5 (Ex.rows vex),.A1 6 (Fm.rows vki),A3 eop,A3 ena,.A1 1 (AL ear),.A1 2 (A8 epa),.A1 5 (Ex.rows eex),.A1 6 (Fm.rows eki),.A1 15 (Ag ats),.A1 15 (Ag ate)] S/\Dl h id b2 xi j (BP LL1 (dur==1) E6 (D1 dur)) H) ?_ ?_
  ·have hat:=hI.grow.at_;obtain⟨hg,⟨i1,i2,i3,i4,i5⟩,o1,o2,o3⟩:=(show Dl _ _ _ _ _ _ _ from hI);have cD:=λh:A0=>Sn (h:=h) (n:=dur);have cp:=λ(m:Bool)(hx:H.obj xi=some (xO j LL1.length))(hj:H.obj j=some (.arr 6 (Sx.rows LL1)))=>J8 (h:=H) (xi:=xi) (j:=j) (L:=LL1) (kw:=E6) (v:=(D1 dur)) (m:=m) hx hj i5 i2 i4 (by omega);generalize hm:(dur==1)=m;simp only[D1,Sx.cells,Sx.rows,E6]at cD cp;replace zz:=AW s0 s3 s5 hm;refine wy zz ?_;replace zz:=AW s0 s3 s5 hm;(first|refine uV zz (cD _) ?_|refine uJ zz cD ?_);refine wy zz ?_;have o1':H.obj xi=some (xO j LL1.length):=o2;have o2':H.obj j=some (.arr 6 (Sx.rows LL1)):=o3;replace zz:=AW s0 s3 s5 hm;refine uZ zz (cp m o1' o2') ?_;refine wy zz ?_;cases m with
   |true=>exact⟨j,⟨sq s0,sq s3,sq s4,sq s5⟩,hI⟩
   |false=>exact⟨_,⟨sq s0,sq s3,sq s4,sq s5⟩,hI.part hid⟩
  ·have hL2:(BP LL1 (dur==1) E6 (D1 dur)).length<=6:=(by have:=Ia LL1 (dur==1) E6 (D1 dur);omega);generalize hLe2:BP LL1 (dur==1) E6 (D1 dur)=LL2 at hL2⊢;clear s0 s3 s4 s5 hI;rintro S H ⟨j,⟨s0,s3,s4,s5⟩,hI⟩;refine D0 (λS H=> ∃ j,HT h id xi [A3 name,.A1 2 (A8 params),qK dur,A3 sop,A3 sna,.A1 1 (AL sar),.A1 2 (A8 spa),.A1 5 (Ex.rows sex),.A1 6 (Fm.rows ski),A3 vop,A3 vna,.A1 1 (AL var_),.A1 2 (A8 vpa),.A1 5 (Ex.rows vex),.A1 6 (Fm.rows vki),A3 eop,A3 ena,.A1 1 (AL ear),.A1 2 (A8 epa),.A1 5 (Ex.rows eex),.A1 6 (Fm.rows eki),.A1 15 (Ag ats),.A1 15 (Ag ate)] S/\Dl h id (b2||!(Bf (.mk sop sna sar spa sex ski))) xi j (BP LL2 (BX (.mk sop sna sar spa sex ski)) Ez (BH (.mk sop sna sar spa sex ski))) H) ?_ ?_
   ·have hat:=hI.grow.at_;obtain⟨hg,⟨i1,i2,i3,i4,i5⟩,o1,o2,o3⟩:=(show Dl _ _ _ _ _ _ _ from hI);have cA:=λh:A0=>LC (h:=h);have cS:=λh:A0=>Iz (.mk sop sna sar spa sex ski) hok.start Bu OS h;have hAl:(.mk sop sna sar spa sex ski:Fm).same Bu=BX (.mk sop sna sar spa sex ski):=rfl;rw[hAl]at cS;have cW:=OP (h:=H) (b:=b2) hok.start hsm.start (by omega) hat;generalize BH (.mk sop sna sar spa sex ski)=X at cW⊢;obtain⟨yk,yv,yl,yc,yt,ys⟩:=X;have cp:=λ(m:Bool)(hx:(H.set id (wO (b2||!(Bf (.mk sop sna sar spa sex ski))))).obj xi=some (xO j LL2.length))(hj:(H.set id (wO (b2||!(Bf (.mk sop sna sar spa sex ski))))).obj j=some (.arr 6 (Sx.rows LL2)))=>J8 (h:=(H.set id (wO (b2||!(Bf (.mk sop sna sar spa sex ski)))))) (xi:=xi) (j:=j) (L:=LL2) (kw:=Ez) (v:=(.mk yk yv yl yc yt ys)) (m:=m) hx hj i5 i2 i4 (by omega);generalize hm:(BX (.mk sop sna sar spa sex ski))=m at cS⊢;simp only[Bu,Fm.cells,Sx.cells,Sx.rows,Ez]at cA cS cW cp;replace zz:=AW s0 s3 s5 hm;refine wy zz ?_;replace zz:=AW s0 s3 s5 hm;(first|refine uV zz (cA _) ?_|refine uJ zz cA ?_);refine wy zz ?_;replace zz:=AW s0 s3 s5 hm;(first|refine uV zz (cS _) ?_|refine uJ zz cS ?_);refine wy zz ?_;replace zz:=AW s0 s3 s5 hm;refine uZ zz (cW) ?_;refine wy zz ?_;have o1':(H.set id (wO (b2||!(Bf (.mk sop sna sar spa sex ski))))).obj xi=some (xO j LL2.length):=(Aw (by omega)).trans o2;have o2':(H.set id (wO (b2||!(Bf (.mk sop sna sar spa sex ski))))).obj j=some (.arr 6 (Sx.rows LL2)):=(Aw (by omega)).trans o3;replace zz:=AW s0 s3 s5 hm;refine uZ zz (cp m o1' o2') ?_;refine wy zz ?_;cases m with
    |true=>exact⟨j,⟨sq s0,sq s3,sq s4,sq s5⟩,hI.put hid⟩
    |false=>exact⟨_,⟨sq s0,sq s3,sq s4,sq s5⟩,(hI.put hid).part hid⟩
   ·have hL3:(BP LL2 (BX (.mk sop sna sar spa sex ski)) Ez (BH (.mk sop sna sar spa sex ski))).length<=8:=(by have:=Ia LL2 (BX (.mk sop sna sar spa sex ski)) Ez (BH (.mk sop sna sar spa sex ski));omega);generalize hLe3:BP LL2 (BX (.mk sop sna sar spa sex ski)) Ez (BH (.mk sop sna sar spa sex ski))=LL3 at hL3⊢;generalize hb3:(b2||!(Bf (.mk sop sna sar spa sex ski)))=b3;clear s0 s3 s4 s5 hI;rintro S H ⟨j,⟨s0,s3,s4,s5⟩,hI⟩;refine D0 (λS H=> ∃ j,HT h id xi [A3 name,.A1 2 (A8 params),qK dur,A3 sop,A3 sna,.A1 1 (AL sar),.A1 2 (A8 spa),.A1 5 (Ex.rows sex),.A1 6 (Fm.rows ski),A3 vop,A3 vna,.A1 1 (AL var_),.A1 2 (A8 vpa),.A1 5 (Ex.rows vex),.A1 6 (Fm.rows vki),A3 eop,A3 ena,.A1 1 (AL ear),.A1 2 (A8 epa),.A1 5 (Ex.rows eex),.A1 6 (Fm.rows eki),.A1 15 (Ag ats),.A1 15 (Ag ate)] S/\Dl h id (b3||!(Bf (.mk vop vna var_ vpa vex vki))) xi j (BP LL3 (BX (.mk vop vna var_ vpa vex vki)) FE (BH (.mk vop vna var_ vpa vex vki))) H) ?_ ?_
    ·have hat:=hI.grow.at_;obtain⟨hg,⟨i1,i2,i3,i4,i5⟩,o1,o2,o3⟩:=(show Dl _ _ _ _ _ _ _ from hI);have cA:=λh:A0=>LC (h:=h);have cS:=λh:A0=>Iz (.mk vop vna var_ vpa vex vki) hok.over Bu OS h;have hAl:(.mk vop vna var_ vpa vex vki:Fm).same Bu=BX (.mk vop vna var_ vpa vex vki):=rfl;rw[hAl]at cS;have cW:=OP (h:=H) (b:=b3) hok.over hsm.over (by omega) hat;generalize BH (.mk vop vna var_ vpa vex vki)=X at cW⊢;obtain⟨yk,yv,yl,yc,yt,ys⟩:=X;have cp:=λ(m:Bool)(hx:(H.set id (wO (b3||!(Bf (.mk vop vna var_ vpa vex vki))))).obj xi=some (xO j LL3.length))(hj:(H.set id (wO (b3||!(Bf (.mk vop vna var_ vpa vex vki))))).obj j=some (.arr 6 (Sx.rows LL3)))=>J8 (h:=(H.set id (wO (b3||!(Bf (.mk vop vna var_ vpa vex vki)))))) (xi:=xi) (j:=j) (L:=LL3) (kw:=FE) (v:=(.mk yk yv yl yc yt ys)) (m:=m) hx hj i5 i2 i4 (by omega);generalize hm:(BX (.mk vop vna var_ vpa vex vki))=m at cS⊢;simp only[Bu,Fm.cells,Sx.cells,Sx.rows,FE]at cA cS cW cp;replace zz:=AW s0 s3 s5 hm;refine wy zz ?_;replace zz:=AW s0 s3 s5 hm;(first|refine uV zz (cA _) ?_|refine uJ zz cA ?_);refine wy zz ?_;replace zz:=AW s0 s3 s5 hm;(first|refine uV zz (cS _) ?_|refine uJ zz cS ?_);refine wy zz ?_;replace zz:=AW s0 s3 s5 hm;refine uZ zz (cW) ?_;refine wy zz ?_;have o1':(H.set id (wO (b3||!(Bf (.mk vop vna var_ vpa vex vki))))).obj xi=some (xO j LL3.length):=(Aw (by omega)).trans o2;have o2':(H.set id (wO (b3||!(Bf (.mk vop vna var_ vpa vex vki))))).obj j=some (.arr 6 (Sx.rows LL3)):=(Aw (by omega)).trans o3;replace zz:=AW s0 s3 s5 hm;refine uZ zz (cp m o1' o2') ?_;refine wy zz ?_;cases m with
     |true=>exact⟨j,⟨sq s0,sq s3,sq s4,sq s5⟩,hI.put hid⟩
     |false=>exact⟨_,⟨sq s0,sq s3,sq s4,sq s5⟩,(hI.put hid).part hid⟩
    ·have hL4:(BP LL3 (BX (.mk vop vna var_ vpa vex vki)) FE (BH (.mk vop vna var_ vpa vex vki))).length<=10:=(by have:=Ia LL3 (BX (.mk vop vna var_ vpa vex vki)) FE (BH (.mk vop vna var_ vpa vex vki));omega);generalize hLe4:BP LL3 (BX (.mk vop vna var_ vpa vex vki)) FE (BH (.mk vop vna var_ vpa vex vki))=LL4 at hL4⊢;generalize hb4:(b3||!(Bf (.mk vop vna var_ vpa vex vki)))=b4;clear s0 s3 s4 s5 hI;rintro S H ⟨j,⟨s0,s3,s4,s5⟩,hI⟩;refine D0 (λS H=> ∃ j,HT h id xi [A3 name,.A1 2 (A8 params),qK dur,A3 sop,A3 sna,.A1 1 (AL sar),.A1 2 (A8 spa),.A1 5 (Ex.rows sex),.A1 6 (Fm.rows ski),A3 vop,A3 vna,.A1 1 (AL var_),.A1 2 (A8 vpa),.A1 5 (Ex.rows vex),.A1 6 (Fm.rows vki),A3 eop,A3 ena,.A1 1 (AL ear),.A1 2 (A8 epa),.A1 5 (Ex.rows eex),.A1 6 (Fm.rows eki),.A1 15 (Ag ats),.A1 15 (Ag ate)] S/\Dl h id (b4||!(Bf (.mk eop ena ear epa eex eki))) xi j (BP LL4 (BX (.mk eop ena ear epa eex eki)) FO (BH (.mk eop ena ear epa eex eki))) H) ?_ ?_
     ·have hat:=hI.grow.at_;obtain⟨hg,⟨i1,i2,i3,i4,i5⟩,o1,o2,o3⟩:=(show Dl _ _ _ _ _ _ _ from hI);have cA:=λh:A0=>LC (h:=h);have cS:=λh:A0=>Iz (.mk eop ena ear epa eex eki) hok.stop Bu OS h;have hAl:(.mk eop ena ear epa eex eki:Fm).same Bu=BX (.mk eop ena ear epa eex eki):=rfl;rw[hAl]at cS;have cW:=OP (h:=H) (b:=b4) hok.stop hsm.stop (by omega) hat;generalize BH (.mk eop ena ear epa eex eki)=X at cW⊢;obtain⟨yk,yv,yl,yc,yt,ys⟩:=X;have cp:=λ(m:Bool)(hx:(H.set id (wO (b4||!(Bf (.mk eop ena ear epa eex eki))))).obj xi=some (xO j LL4.length))(hj:(H.set id (wO (b4||!(Bf (.mk eop ena ear epa eex eki))))).obj j=some (.arr 6 (Sx.rows LL4)))=>J8 (h:=(H.set id (wO (b4||!(Bf (.mk eop ena ear epa eex eki)))))) (xi:=xi) (j:=j) (L:=LL4) (kw:=FO) (v:=(.mk yk yv yl yc yt ys)) (m:=m) hx hj i5 i2 i4 (by omega);generalize hm:(BX (.mk eop ena ear epa eex eki))=m at cS⊢;simp only[Bu,Fm.cells,Sx.cells,Sx.rows,FO]at cA cS cW cp;replace zz:=AW s0 s3 s5 hm;refine wy zz ?_;replace zz:=AW s0 s3 s5 hm;(first|refine uV zz (cA _) ?_|refine uJ zz cA ?_);refine wy zz ?_;replace zz:=AW s0 s3 s5 hm;(first|refine uV zz (cS _) ?_|refine uJ zz cS ?_);refine wy zz ?_;replace zz:=AW s0 s3 s5 hm;refine uZ zz (cW) ?_;refine wy zz ?_;have o1':(H.set id (wO (b4||!(Bf (.mk eop ena ear epa eex eki))))).obj xi=some (xO j LL4.length):=(Aw (by omega)).trans o2;have o2':(H.set id (wO (b4||!(Bf (.mk eop ena ear epa eex eki))))).obj j=some (.arr 6 (Sx.rows LL4)):=(Aw (by omega)).trans o3;replace zz:=AW s0 s3 s5 hm;refine uZ zz (cp m o1' o2') ?_;refine wy zz ?_;cases m with
      |true=>exact⟨j,⟨sq s0,sq s3,sq s4,sq s5⟩,hI.put hid⟩
      |false=>exact⟨_,⟨sq s0,sq s3,sq s4,sq s5⟩,(hI.put hid).part hid⟩
     ·have hL5:(BP LL4 (BX (.mk eop ena ear epa eex eki)) FO (BH (.mk eop ena ear epa eex eki))).length<=12:=(by have:=Ia LL4 (BX (.mk eop ena ear epa eex eki)) FO (BH (.mk eop ena ear epa eex eki));omega);generalize hLe5:BP LL4 (BX (.mk eop ena ear epa eex eki)) FO (BH (.mk eop ena ear epa eex eki))=LL5 at hL5⊢;generalize hb5:(b4||!(Bf (.mk eop ena ear epa eex eki)))=b5;clear s0 s3 s4 s5 hI;rintro S H ⟨j,⟨s0,s3,s4,s5⟩,hI⟩;refine D0 (λS H=> ∃ j,HT h id xi [A3 name,.A1 2 (A8 params),qK dur,A3 sop,A3 sna,.A1 1 (AL sar),.A1 2 (A8 spa),.A1 5 (Ex.rows sex),.A1 6 (Fm.rows ski),A3 vop,A3 vna,.A1 1 (AL var_),.A1 2 (A8 vpa),.A1 5 (Ex.rows vex),.A1 6 (Fm.rows vki),A3 eop,A3 ena,.A1 1 (AL ear),.A1 2 (A8 epa),.A1 5 (Ex.rows eex),.A1 6 (Fm.rows eki),.A1 15 (Ag ats),.A1 15 (Ag ate)] S/\Dl h id (b5||!(ats.all CA)) xi j (BP LL5 ((ats.length:Int)==0) Fg (Bx ats)) H) ?_ ?_
      ·have hat:=hI.grow.at_;obtain⟨hg,⟨i1,i2,i3,i4,i5⟩,o1,o2,o3⟩:=(show Dl _ _ _ _ _ _ _ from hI);have hpl:=Kp ats;have cE:=QK (h:=H) (b:=b5) hsm.Qp.1 hok.Bm.2 hsm.Qp.2 (by omega) hat;generalize Bx ats=X at cE⊢;obtain⟨yk,yv,yl,yc,yt,ys⟩:=X;have cp:=λ(m:Bool)(hx:(H.set id (wO (b5||!(ats.all CA)))).obj xi=some (xO j LL5.length))(hj:(H.set id (wO (b5||!(ats.all CA)))).obj j=some (.arr 6 (Sx.rows LL5)))=>J8 (h:=(H.set id (wO (b5||!(ats.all CA))))) (xi:=xi) (j:=j) (L:=LL5) (kw:=Fg) (v:=(.mk yk yv yl yc yt ys)) (m:=m) hx hj i5 i2 i4 (by omega);generalize hm:((ats.length:Int)==0)=m;simp only[AC,Sx.cells,Sx.rows,Fg]at cE cp;replace zz:=Ae s0 s3 s5 hm hpl;refine wy zz ?_;replace zz:=Ae s0 s3 s5 hm hpl;refine uZ zz (cE) ?_;refine wy zz ?_;have o1':(H.set id (wO (b5||!(ats.all CA)))).obj xi=some (xO j LL5.length):=(Aw (by omega)).trans o2;have o2':(H.set id (wO (b5||!(ats.all CA)))).obj j=some (.arr 6 (Sx.rows LL5)):=(Aw (by omega)).trans o3;replace zz:=Ae s0 s3 s5 hm hpl;refine uZ zz (cp m o1' o2') ?_;refine wy zz ?_;cases m with
       |true=>exact⟨j,⟨sq s0,sq s3,sq s4,sq s5⟩,hI.put hid⟩
       |false=>exact⟨_,⟨sq s0,sq s3,sq s4,sq s5⟩,(hI.put hid).part hid⟩
      ·have hL6:(BP LL5 ((ats.length:Int)==0) Fg (Bx ats)).length<=14:=(by have:=Ia LL5 ((ats.length:Int)==0) Fg (Bx ats);omega);generalize hLe6:BP LL5 ((ats.length:Int)==0) Fg (Bx ats)=LL6 at hL6⊢;generalize hb6:(b5||!(ats.all CA))=b6;clear s0 s3 s4 s5 hI;rintro S H ⟨j,⟨s0,s3,s4,s5⟩,hI⟩;refine D0 (λS H=> ∃ j,HT h id xi [A3 name,.A1 2 (A8 params),qK dur,A3 sop,A3 sna,.A1 1 (AL sar),.A1 2 (A8 spa),.A1 5 (Ex.rows sex),.A1 6 (Fm.rows ski),A3 vop,A3 vna,.A1 1 (AL var_),.A1 2 (A8 vpa),.A1 5 (Ex.rows vex),.A1 6 (Fm.rows vki),A3 eop,A3 ena,.A1 1 (AL ear),.A1 2 (A8 epa),.A1 5 (Ex.rows eex),.A1 6 (Fm.rows eki),.A1 15 (Ag ats),.A1 15 (Ag ate)] S/\Dl h id (b6||!(ate.all CA)) xi j (BP LL6 ((ate.length:Int)==0) Gc (Bx ate)) H) ?_ ?_
       ·have hat:=hI.grow.at_;obtain⟨hg,⟨i1,i2,i3,i4,i5⟩,o1,o2,o3⟩:=(show Dl _ _ _ _ _ _ _ from hI);have hpl:=Kp ate;have cE:=QK (h:=H) (b:=b6) hsm.Qq.1 hok.Bn.2 hsm.Qq.2 (by omega) hat;generalize Bx ate=X at cE⊢;obtain⟨yk,yv,yl,yc,yt,ys⟩:=X;have cp:=λ(m:Bool)(hx:(H.set id (wO (b6||!(ate.all CA)))).obj xi=some (xO j LL6.length))(hj:(H.set id (wO (b6||!(ate.all CA)))).obj j=some (.arr 6 (Sx.rows LL6)))=>J8 (h:=(H.set id (wO (b6||!(ate.all CA))))) (xi:=xi) (j:=j) (L:=LL6) (kw:=Gc) (v:=(.mk yk yv yl yc yt ys)) (m:=m) hx hj i5 i2 i4 (by omega);generalize hm:((ate.length:Int)==0)=m;simp only[AC,Sx.cells,Sx.rows,Gc]at cE cp;replace zz:=Ae s0 s3 s5 hm hpl;refine wy zz ?_;replace zz:=Ae s0 s3 s5 hm hpl;refine uZ zz (cE) ?_;refine wy zz ?_;have o1':(H.set id (wO (b6||!(ate.all CA)))).obj xi=some (xO j LL6.length):=(Aw (by omega)).trans o2;have o2':(H.set id (wO (b6||!(ate.all CA)))).obj j=some (.arr 6 (Sx.rows LL6)):=(Aw (by omega)).trans o3;replace zz:=Ae s0 s3 s5 hm hpl;refine uZ zz (cp m o1' o2') ?_;refine wy zz ?_;cases m with
        |true=>exact⟨j,⟨sq s0,sq s3,sq s4,sq s5⟩,hI.put hid⟩
        |false=>exact⟨_,⟨sq s0,sq s3,sq s4,sq s5⟩,(hI.put hid).part hid⟩
       ·have hL7:(BP LL6 ((ate.length:Int)==0) Gc (Bx ate)).length<=16:=(by have:=Ia LL6 ((ate.length:Int)==0) Gc (Bx ate);omega);generalize hLe7:BP LL6 ((ate.length:Int)==0) Gc (Bx ate)=LL7 at hL7⊢;generalize hb7:(b6||!(ate.all CA))=b7;clear s0 s3 s4 s5 hI;rintro S H ⟨j,⟨s0,s3,s4,s5⟩,hI⟩;have hLL:Ep ⟨name,params,dur,.mk sop sna sar spa sex ski,.mk vop vna var_ vpa vex vki,.mk eop ena ear epa eex eki,ats,ate⟩=AC LL7:=(by rw[← hLe7, ← hLe6, ← hLe5, ← hLe4, ← hLe3, ← hLe2, ← hLe1, ← hLe0];try rfl);have hBB:(b||!FP ⟨name,params,dur,.mk sop sna sar spa sex ski,.mk vop vna var_ vpa vex vki,.mk eop ena ear epa eex eki,ats,ate⟩)=b7:=by
         rw[← hb7, ← hb6, ← hb5, ← hb4, ← hb3, ← hb2, ← hb1];unfold FP;simp only;cases b<;>cases As name<;>cases params.all (BO true)<;>cases Bf (.mk sop sna sar spa sex ski)<;>cases Bf (.mk vop vna var_ vpa vex vki)<;>cases Bf (.mk eop ena ear epa eex eki)<;>cases ats.all CA<;>cases ate.all CA<;>rfl
        rw[hLL,hBB];obtain⟨hg,⟨i1,i2,i3,i4,i5⟩,o1,o2,o3⟩:=hI;simp only[xO]at o2;have n1:(h.next=xi)=False:=BB (by omega);replace zz:=Ae s4 s5 o1 o2 n1;refine wt zz ?_;refine⟨?_,hg.set hid (AG _)⟩;simp only[AC,Sx.cells,AI,AN];refine⟨_,rfl,rfl,rfl,rfl,rfl,rfl,.inr (.inr ⟨j,0,LL7.length,Sx.rows LL7,rfl,by omega,?_,?_,?_⟩),trivial⟩
        ·simp only[A0.set];rw[A7 (by omega)];exact o3
        ·rw [Sx.B3];omega
        ·rw [List.drop_zero,List.take_of_length_le (by rw[Sx.B3];omega)];exact IM _ _ _
theorem A6.qE{P:Program}{f:FuncId}{args:List PV}{K:PV->A0->Prop}(hc:A6 P f args h λr' h'=> ∃ r h2,K r h2/\Wk (λ_=>r') h' (λ_=>r) h2):A6 P f args h K:=by
 intro β w vals sm hr;refine(hc β w vals sm hr).mono ?_;rintro e w' ⟨r',h',β',v,rfl,⟨r,h2,hK,hw⟩,sm',hrep,ex⟩;obtain⟨k1,k2,k3⟩:=hw β' w' sm';exact⟨r,h2,β',v,rfl,hK,k1,k3 0 _ hrep,ex.trans k2⟩
def Fh(h:A0)(xi j:Nat)(L:List Sx):A0:=⟨h.next+18+1+1+1,λi=>if i=xi then some (xO (h.next+18+1+1) L.length)else if i=h.next+18+1+1 then some (.arr 6 (Sx.rows L))else if i=j then none else if i<h.next then h.obj i else none⟩
theorem QN{ks:List Sx}{kw:ByteArray}(hx:h.obj xi=some (xO j L.length))(hj:h.obj j=some (.arr 6 (Sx.rows L)))(hne:xi≠j)(hxl:xi<h.next)(hjl:j<h.next)(hL:L.length<=1048580)(hks:ks.length<=4194304):
  A6 prog 42 [.ptr xi 0 0,A3 kw,.A1 6 (Sx.rows ks)] h λr h'=>r=Gx []/\h'=(if ks.isEmpty=true then h else Fh h xi j (L++[AC (A5 kw::ks)])):=by
 have hw: ∀ (s:ByteArray)(h:A0),A6 prog 40 [A3 s] h λr h'=>r= .agg (A5 s).cells/\h'=h:=λs h=>KE;simp only[A5,Sx.cells,Sx.rows]at hw;have hkl:=Sx.B3 ks;cases q0:ks.isEmpty with
 |true=>
  have d0:decide ((ks.length:Int)>0)=false:=by rw[List.isEmpty_iff.1 q0];try rfl
  have d1:((0:Int)<(ks.length:Int))=False:=BB (by rw[List.isEmpty_iff.1 q0];simp);refine AD func42 ntmps42 results42 Ty.Ue ?_;refine wt (AU hkl d0 d1) ?_;simp only[Ip,HH];exact⟨trivial,trivial⟩
 |false=>
  have hpos:0<ks.length:=by
   cases ks with
   |nil=>cases q0
   |cons a l=>simp
  have d0:decide ((ks.length:Int)>0)=true:=by simp;omega
  have d1:((0:Int)<(ks.length:Int))=True:=Di (by omega);have hrl:(Sx.rows L).length=L.length:=Sx.B3 L;have hb1:(1+ks.length)*72<=140737488355328:=by omega
  have hb2:(L.length+1)*72<=140737488355328:=by omega
  have htk:List.take L.length (Sx.rows L)=Sx.rows L:=List.take_of_length_le (by omega);have c1:(Value.int IntKind.i64 0).oneCell'=true:=rfl;have c2:(Value.string ⟨#[]⟩).oneCell'=true:=rfl;have c3:(Value.slice none 0 0).oneCell'=true:=rfl;have n1:(xi=h.next+18)=False:=BB (by omega);have n2:(xi=h.next+18+1)=False:=BB (by omega);have n3:(j=h.next+18)=False:=BB (by omega);have n4:(j=h.next+18+1)=False:=BB (by omega);simp only[xO]at hx;have hl3: ∀ H:A0,h.next+18+1<H.next->A6 prog 39 [.own (h.next+18+1) 0 (1+ks.length)] H λr h'=>r= .agg [qK 3,qK 0,qK 0,qK 0,.sc (.string ⟨#[]⟩),.own (h.next+18+1) 0 (1+ks.length)]/\h'=H:=λH hh=>KF rfl (λ_=>Ks hh)
  refine A6.drop (A6.qE ?_);refine uG (ow:=λt=>t==15) (wf:=λ_=>false) func42 ntmps42 results42 Ty.Ue ?_;refine xB 1 (AU hkl d0 d1) ?_;refine⟨?_⟩;refine Q8 13 (by decide+kernel) λK hK=>?_;simp only[List.take_succ_cons,List.take_zero,List.drop_succ_cons,List.drop_zero];simp(maxSteps:=4000000) only[Ty.w,simprocAttr,Ty.AX,c1,c2,c3,hx,hj,hrl,hkl,htk,hb1,hb2,n1,n2,n3,n4,d0,d1,AG];replace zz:=AY c1 c2 c3 hx hj hrl hkl htk hb1 hb2 n1 (Ah n2 n3 n4 d0 d1 @AG);first|refine uV zz (hw kw _) ?_|refine VH zz (hw kw _) ?_
  refine⟨by(try simp(maxSteps:=4000000) only[List.forall_mem_cons,Ty.w,simprocAttr,Ty.AX,c1,c2,c3,hx,hj,hrl,hkl,htk,hb1,hb2,n1,n2,n3,n4,d0,d1,AG])<;>((repeat' apply And.intro)<;>first|trivial|exact .inl (by decide+kernel)|exact .inr A4|exact .inr (CT (hw kw _) (sr (AY c1 c2 c3 hx hj hrl hkl htk hb1 hb2 n1 (Ah n2 n3 n4 d0 d1 @AG))))|exact(λ_ hx=>by cases hx)),?_⟩;try simp(maxSteps:=4000000) only[Ty.w,simprocAttr,Ty.AX,c1,c2,c3,hx,hj,hrl,hkl,htk,hb1,hb2,n1,n2,n3,n4,d0,d1,AG]
  refine⟨by(try simp(maxSteps:=4000000) only[List.forall_mem_cons,Ty.w,simprocAttr,Ty.AX,c1,c2,c3,hx,hj,hrl,hkl,htk,hb1,hb2,n1,n2,n3,n4,d0,d1,AG])<;>((repeat' apply And.intro)<;>first|trivial|exact .inl (by decide+kernel)|exact .inr A4|exact .inr (CT (hw kw _) (sr (AY c1 c2 c3 hx hj hrl hkl htk hb1 hb2 n1 (Ah n2 n3 n4 d0 d1 @AG))))|exact(λ_ hx=>by cases hx)),?_⟩;try simp(maxSteps:=4000000) only[Ty.w,simprocAttr,Ty.AX,c1,c2,c3,hx,hj,hrl,hkl,htk,hb1,hb2,n1,n2,n3,n4,d0,d1,AG]
  replace zz:=AY c1 c2 c3 hx hj hrl hkl htk hb1 hb2 n1 (Ah n2 n3 n4 d0 d1 @AG);first|refine uV zz (hl3 _ (by simp[A0.new,A0.kill])) ?_|refine VH zz (hl3 _ (by simp[A0.new,A0.kill])) ?_
  refine⟨by simp only[List.forall_mem_cons];(repeat' apply And.intro)<;>first|exact .inl (by decide+kernel)|exact(λ_ hx=>by cases hx),?_⟩;have hset1: ∀ x:List PV,(Sx.rows L++[Bh]).set L.length x=Sx.rows L++[x]:=λx=>by rw[List.set_append_right _ _ (by omega),hrl,LU];try rfl
  have hget1:(Sx.rows L++[Bh])[L.length]? =some Bh:=by rw[List.getElem?_append_right (by omega),hrl,LU];try rfl
  have hN1:(((((A0.new ⟨h.next+18,h.obj⟩ (.arr 6 [[qK 1,qK 0,qK 0,qK 0,A3 kw,.A1 6 []]])).kill (h.next+18)).new (.arr 6 ([qK 1,qK 0,qK 0,qK 0,A3 kw,.A1 6 []]::Sx.rows ks))).kill j).new (.arr 6 (Sx.rows L++[Bh]))).obj (h.next+18+1+1)=some (.arr 6 (Sx.rows L++[Bh])):=by simp only[A0.new,A0.kill,AO]
  have hX1:(((((A0.new ⟨h.next+18,h.obj⟩ (.arr 6 [[qK 1,qK 0,qK 0,qK 0,A3 kw,.A1 6 []]])).kill (h.next+18)).new (.arr 6 ([qK 1,qK 0,qK 0,qK 0,A3 kw,.A1 6 []]::Sx.rows ks))).kill j).new (.arr 6 (Sx.rows L++[Bh]))).obj xi=some (xO j L.length):=by
   simp only[A0.new,A0.kill];rw[A7 (by omega),A7 hne,A7 (by omega),A7 (by omega),A7 (by omega)];exact hx
  have hM1:(((((A0.new ⟨h.next+18,h.obj⟩ (.arr 6 [[qK 1,qK 0,qK 0,qK 0,A3 kw,.A1 6 []]])).kill (h.next+18)).new (.arr 6 ([qK 1,qK 0,qK 0,qK 0,A3 kw,.A1 6 []]::Sx.rows ks))).kill j).new (.arr 6 (Sx.rows L++[Bh]))).obj (h.next+18+1)=some (.arr 6 ([qK 1,qK 0,qK 0,qK 0,A3 kw,.A1 6 []]::Sx.rows ks)):=by
   simp only[A0.new,A0.kill];rw[A7 (by omega),A7 (by omega),AK A4]
  have hO1: ∀ i,i<h.next->i≠j->(((((A0.new ⟨h.next+18,h.obj⟩ (.arr 6 [[qK 1,qK 0,qK 0,qK 0,A3 kw,.A1 6 []]])).kill (h.next+18)).new (.arr 6 ([qK 1,qK 0,qK 0,qK 0,A3 kw,.A1 6 []]::Sx.rows ks))).kill j).new (.arr 6 (Sx.rows L++[Bh]))).obj i=h.obj i:=λi hi hij=>by
   simp only[A0.new,A0.kill];rw[A7 (by omega),A7 hij,A7 (by omega),A7 (by omega),A7 (by omega)]
  have hn1:(((((A0.new ⟨h.next+18,h.obj⟩ (.arr 6 [[qK 1,qK 0,qK 0,qK 0,A3 kw,.A1 6 []]])).kill (h.next+18)).new (.arr 6 ([qK 1,qK 0,qK 0,qK 0,A3 kw,.A1 6 []]::Sx.rows ks))).kill j).new (.arr 6 (Sx.rows L++[Bh]))).next=h.next+18+1+1+1:=rfl
  generalize((((A0.new ⟨h.next+18,h.obj⟩ (.arr 6 [[qK 1,qK 0,qK 0,qK 0,A3 kw,.A1 6 []]])).kill (h.next+18)).new (.arr 6 ([qK 1,qK 0,qK 0,qK 0,A3 kw,.A1 6 []]::Sx.rows ks))).kill j).new (.arr 6 (Sx.rows L++[Bh]))=H1 at hN1 hX1 hM1 hO1 hn1⊢;refine IS (.ptr (h.next+18+1+1) L.length 0) [h.next+18+1+1] (.inr (by decide+kernel)) (by decide) rfl rfl (λH hH=>by
   have hH:=(hH _ (List.mem_singleton.2 rfl)).trans hN1;have q1:(L.length<L.length+1)=True:=Di (by omega);simp only[Ty.w,simprocAttr,Ty.AX,hH,q1,c1,c2,c3,hrl,hkl,hb2,AG]) dL ?_
  refine KB (ob:= .arr 6 (Sx.rows L++[[qK 3,qK 0,qK 0,qK 0,.sc (.string ⟨#[]⟩),.own (h.next+18+1) 0 (1+ks.length)]])) rfl (by decide) rfl (by simp only[Ty.w,simprocAttr,Ty.AX];try rfl) (by
   simp only[Ty.w,simprocAttr,Ty.AX,hN1,hget1,hset1,c1,c2,c3,hrl,hkl,hb2,AG];try rfl) (λf q hf hq ha=>by rcases(show f=15\/f=16\/f=17 from by have hfl:=(List.getElem?_eq_some_iff.1 hq).1;simp only[List.length_cons,List.length_nil]at hfl;omega)with rfl|rfl|rfl<;>(simp only[List.getElem?_cons_succ,List.getElem?_cons_zero,BC]at hq;subst hq;revert ha;decide+kernel)) dL dL ?_
  refine IS (.ptr xi 0 0) [] (.inl rfl) (by decide) rfl rfl (λH _=>by(try simp only[Ty.w,simprocAttr,Ty.AX,c1,c2,c3,hrl,hkl,hb2,AG]);try rfl) dL ?_;refine IS (.ptr xi 0 5) [] (.inl rfl) (by decide) rfl rfl (λH _=>by(try simp only[Ty.w,simprocAttr,Ty.AX,c1,c2,c3,hrl,hkl,hb2,AG]);try rfl) dL ?_;have nX:(xi=h.next+18+1+1)=False:=BB (by omega);have hX2:=hX1;simp only[xO]at hX2;refine KB (ob:=xO (h.next+18+1+1) (L.length+1)) rfl (by decide) rfl (by simp only[Ty.w,simprocAttr,Ty.AX];try rfl) (by
   simp only[Ty.w,simprocAttr,Ty.AX,hX2,nX,c1,c2,c3,hrl,hkl,hb2,AG];try rfl) (λf q hf hq ha=>by have hfl:=(List.getElem?_eq_some_iff.1 hq).1;simp only[List.length_cons,List.length_nil]at hfl;omega) dL dL ?_
  refine Q9 (hK _ _ ?_);simp only[Ip,HH];have hlen:(L++[AC (A5 kw::ks)]).length=L.length+1:=by simp
  have hRL:Sx.rows (L++[AC (A5 kw::ks)])=Sx.rows L++[[qK 3,qK 0,qK 0,qK 0,.sc (.string ⟨#[]⟩),.A1 6 ([qK 1,qK 0,qK 0,qK 0,A3 kw,.A1 6 []]::Sx.rows ks)]]:=by simp[Sx.rows_map,AC,A5,Sx.cells,Sx.rows,A3]
  have oM:((H1.set (h.next+18+1+1) (.arr 6 (Sx.rows L++[[qK 3,qK 0,qK 0,qK 0,.sc (.string ⟨#[]⟩),.own (h.next+18+1) 0 (1+ks.length)]]))).set xi (xO (h.next+18+1+1) (L.length+1))).obj (h.next+18+1)=some (.arr 6 ([qK 1,qK 0,qK 0,qK 0,A3 kw,.A1 6 []]::Sx.rows ks)):=(Aw (by omega)).trans ((Aw (by omega)).trans hM1);have oN:((H1.set (h.next+18+1+1) (.arr 6 (Sx.rows L++[[qK 3,qK 0,qK 0,qK 0,.sc (.string ⟨#[]⟩),.own (h.next+18+1) 0 (1+ks.length)]]))).set xi (xO (h.next+18+1+1) (L.length+1))).obj (h.next+18+1+1)=some (.arr 6 (Sx.rows L++[[qK 3,qK 0,qK 0,qK 0,.sc (.string ⟨#[]⟩),.own (h.next+18+1) 0 (1+ks.length)]])):=(Aw (by omega)).trans D7;have hgv:GN (h.next+18+1) 6 ([qK 1,qK 0,qK 0,qK 0,A3 kw,.A1 6 []]::Sx.rows ks) (Sx.rows L++[[qK 3,qK 0,qK 0,qK 0,.sc (.string ⟨#[]⟩),.own (h.next+18+1) 0 (1+ks.length)]]) (Sx.rows (L++[AC (A5 kw::ks)])):=by
   rw[hRL];refine GN.snoc ?_ _;simp only[G9,Gv];exact⟨.inl A4,.inl A4,.inl A4,.inl A4,.inl A4,.inr ⟨by rw[List.length_cons,hkl,TU ks.length 1],trivial⟩,trivial⟩
  refine⟨_,_,?_,Wk.ZG oM oN (by omega) hgv⟩;rw[← hlen];generalize L++[AC (A5 kw::ks)]=L2;refine⟨Gx [],Fh h xi j L2,⟨rfl,by simp⟩,by simp[Gx,AI,AN],by simp only[Fh];omega,λi o hio=>?_⟩;simp only[Fh]at hio⊢;simp only[JP];by_cases h1:i=xi
  ·subst h1;rw[AK rfl]at hio;obtain rfl:=JC hio;exact⟨(Aw (by omega)).trans ((Fc (by omega)).trans D7),by omega,.inr (by simp[xO,F7,B9,Bo,Bc])⟩
  ·rw [A7 h1]at hio;by_cases h2:i=h.next+18+1+1
   ·subst h2;rw[AK rfl]at hio;obtain rfl:=JC hio;exact⟨D7,by omega,.inr (by simp only[F7];exact HL _ _)⟩
   ·rw [A7 h2]at hio;by_cases h3:i=j
    ·rw [AK h3]at hio;cases hio
    ·rw [A7 h3]at hio;by_cases h4:i<h.next
     ·rw [AK h4]at hio;exact⟨((Aw h2).trans ((Fc (by omega)).trans ((Aw h1).trans ((Aw h2).trans (hO1 i h4 h3))))).trans hio,by omega,.inl hio⟩
     ·rw [A7 h4]at hio;cases hio
set_option maxHeartbeats 4000000
theorem LH(hok:x.ok)(hsm:x.small){w:ByteArray}{l:List Sx}(h:Br x=some (w,l)):w.size<=AF/\l.length<=1048576/\ ∀ y∈l,y.ok:=by
 obtain⟨kind,value,line,col,text,kids⟩:=x;simp only[Sx.ok]at hok;simp only[Sx.small]at hsm;obtain⟨_,_,_,hk,hks⟩:=hok;simp only[Br]at h;split at h
 ·cases kids with
  |nil=>simp at h
  |cons y rest=>
   simp only at h;rw[Sx.Bs]at hks;cases hh:Az y==1 with
   |false=>rw[hh]at h;simp at h
   |true=>
    rw[hh]at h;simp only[AB,BC,C4]at h;obtain⟨rfl,rfl⟩:=h;have hy:=hks y (by simp);have hl1:=hsm.1;refine⟨?_,by simp only[List.length_cons]at hl1;omega,λz hz=>hks z (by simp[hz])⟩;obtain⟨ki,va,li,co,te,ks⟩:=y;simp only[Sx.ok]at hy;exact hy.2.2.1
 ·simp at h
theorem NC{kind value line col:Int}{text w:ByteArray}{kids:List Sx}(h:Br (.mk kind value line col text kids)=some (w,l)): ∃ y,kids=y::l/\(Az y==1)=true/\Af y=w:=by
 simp only[Br]at h;split at h
 ·cases kids with
  |nil=>simp at h
  |cons y rest=>
   simp only at h;cases hh:Az y==1 with
   |false=>rw[hh]at h;simp at h
   |true=>
    rw[hh]at h;simp only[AB,BC,C4]at h;obtain⟨rfl,rfl⟩:=h;exact⟨y,rfl,hh,rfl⟩
 ·simp at h
theorem OW(h:A0):A6 prog 116 [.agg x.cells] h λr h'=>r= .sc (.bool (Az x==1))/\h'=h:=by
 obtain⟨kind,value,line,col,text,kids⟩:=x;simp only[Sx.cells,Az];refine AD func116 ntmps116 results116 Ty.gI ?_;exact wz A4
theorem MA(hok:x.ok)(h:A0):A6 prog 58 [.agg x.cells] h λr h'=>r= .sc (.bool (Br x).isSome)/\h'=h:=by
 obtain⟨kind,value,line,col,text,kids⟩:=x;simp only[Sx.ok]at hok;obtain⟨_,_,_,hk,_⟩:=hok;generalize hF:(Br (.mk kind value line col text kids)).isSome=F;simp only[Br]at hF;simp only[Sx.cells];have hlen:=Sx.B3 kids;cases k3:(kind==3)with
 |false=>
  rw[A7 (by simpa using k3)]at hF;subst hF;refine AD func58 ntmps58 results58 Ty.Rf ?_;refine wm k3 ?_;try exact zI
  all_goals rfl
 |true=>
  rw[AK (by simpa using k3)]at hF;cases kids with
  |nil=>
   simp only at hF;subst hF;have q:decide (((Sx.rows []).length:Int)>0)=false:=rfl;generalize Sx.rows []=R at q hlen;refine AD func58 ntmps58 results58 Ty.Rf ?_;refine wm (uu k3 q) ?_;try exact zI
   all_goals rfl
  |cons y rest=>
   simp only at hF;have q:decide (((Sx.rows (y::rest)).length:Int)>0)=true:=(by rw[hlen];simp<;>omega);have q1:((0:Int)<((Sx.rows (y::rest)).length:Int))=True:=Di (by rw[hlen];simp<;>omega);have r0:=Sx.CG (l:=y::rest) (i:=0) rfl;have hc:=λh:A0=>OW (x:=y) h;generalize Sx.rows (y::rest)=R at q q1 r0 hlen⊢;obtain⟨ki,va,li,co,te,ks⟩:=y;simp only[Sx.cells,Az,Af]at r0 hF hc;have e:F=(ki==1):=(by rw[← hF];cases ki==1<;>rfl);subst e;clear hF;refine AD func58 ntmps58 results58 Ty.Rf ?_;replace zz:=AW k3 q q1 r0;refine wt zz ?_;refine uU r0 (hc _) ?_;refine wm (uu k3 q) ?_;try exact zI
   all_goals rfl
theorem lU{w:ByteArray}(h:A0):A6 prog 109 [A3 w] h λr h'=>r= qK (Fq w)/\h'=h:=by
 unfold Fq A2 JX JY JZ;cases e1:(w.data.toList==[97,115,115,105,103,110])with
 |true=>
  refine AD func109 ntmps109 results109 Ty.Pl ?_;refine wm e1 ?_;try exact zI
  all_goals rfl
 |false=>
  cases e2:(w.data.toList==[105,110,99,114,101,97,115,101])with
  |true=>
   refine AD func109 ntmps109 results109 Ty.Pl ?_;refine wm (uu e1 e2) ?_;try exact zI
   all_goals rfl
  |false=>
   cases e3:(w.data.toList==[100,101,99,114,101,97,115,101])with
   |true=>
    refine AD func109 ntmps109 results109 Ty.Pl ?_;refine wm (AU e1 e2 e3) ?_;try exact zI
    all_goals rfl
   |false=>
    refine AD func109 ntmps109 results109 Ty.Pl ?_;refine wm (AU e1 e2 e3) ?_;try exact zI
    all_goals rfl
abbrev MC(a:ByteArray × List ByteArray × Int):PV:= .Al [A3 a.1,.A1 1 (AL a.2.1),AQ a.2.2]
theorem Sp(hok:x.ok)(hsm:x.small)(h:A0):A6 prog 113 [.agg x.cells] h λr h'=>r=MC (Ey x)/\h'=h:=by
 refine A6.CD Ty.Po ?_;have hb:=MA hok;generalize hF:Ey x=F;unfold Ey at hF;have bad: ∀ (c:Int)(h':A0),c=2\/c=8->F=(⟨#[]⟩,[],c)->AI h.next h' (MC F) (.Al [A3 ⟨#[]⟩,.sc (.slice none 0 0),An c]):=by
  intro c h' hc hf;subst hf;have e:AQ c=An c:=by rcases hc with rfl|rfl<;>rfl
  simp only[MC,e,An,AL,List.map_nil,AI,AN];exact⟨_,rfl,rfl,.inr (.inl ⟨rfl,.inr rfl⟩),rfl,trivial⟩
 simp only[An]at bad;have hO:=λw l=>LH hok hsm (w:=w) (l:=l);obtain⟨kind,value,line,col,text,kids⟩:=x;generalize hD:Br (.mk kind value line col text kids)=D at hF hb hO;cases D with
 |none=>
  simp only at hF;simp only[Sx.cells,MU]at hb⊢;refine AD func113 ntmps113 results113 Ty.Po ?_;refine wt A4 ?_;refine uU A4 (hb _) ?_;refine wt yF ?_;exact⟨bad 2 _ (.inl rfl) hF.symm,AH.refl _⟩
 |some wl=>
  obtain⟨w,l⟩:=wl;obtain⟨hw,hl,hlo⟩:=hO w l rfl;simp only at hF;simp only[Sx.cells,NO]at hb⊢;obtain⟨y,rfl,hy1,hy2⟩:=NC hD;have hlen:=Sx.B3 (y::l);have r0:=Sx.CG (l:=y::l) (i:=0) rfl;have q1:(1:Int)<=((Sx.rows (y::l)).length:Int):=by rw[hlen];simp<;>omega
  have q0:((0:Int)<((Sx.rows (y::l)).length:Int))=True:=Di (by rw[hlen];simp<;>omega);have ht:List.take (((Sx.rows (y::l)).length:Int)-1).toNat (List.drop 1 (Sx.rows (y::l)))=Sx.rows l:=by
   simp only[Sx.rows,List.drop_succ_cons,List.drop_zero,List.length_cons];rw[List.take_of_length_le (by omega)]
  have hll:=Sx.B3 l;have hwn:w.size<=9223372036854775807:=by unfold AF at hw;omega
  have hn:=λh:A0=>FY (h:=h) hwn
  clear hD hO hlen;generalize Sx.rows (y::l)=R at r0 q1 q0 ht hb⊢;obtain⟨yk,yv,yl,yc,yt,ys⟩:=y;simp only[Az,Af]at hy1 hy2;subst hy2;simp only[Sx.cells]at r0;cases q2:As yt with
  |false=>
   rw[q2]at hF hn;simp only[AJ]at hF;refine AD func113 ntmps113 results113 Ty.Po ?_;refine wt A4 ?_;refine uU A4 (hb _) ?_;refine wt (AU yT r0 q0) ?_;refine uU (uu r0 q0) (hn _) ?_;refine wt yF ?_;exact⟨bad 8 _ (.inr rfl) hF.symm,AH.refl _⟩
  |true=>
   rw[q2]at hF hn;simp only[AB]at hF;refine AD func113 ntmps113 results113 Ty.Po ?_;refine wt A4 ?_;refine uU A4 (hb _) ?_;refine wt (AU yT r0 q0) ?_;refine uU (uu r0 q0) (hn _) ?_;replace zz:=Ah yT q1 ht hll @CW @CX;refine wt zz ?_;refine By (λm S h'=>S 1= .Aj [qK kind,qK value,qK line,qK col,A3 text,.A1 6 R]/\S 22= .A1 6 (Sx.rows l)/\S 23= qK l.length/\ ∃ (k:Nat)(p:PV)(pre:List ByteArray),S 24= qK k/\S 5=p/\k<=l.length/\m=l.length-k/\AH h h'/\pre.length=k/\Tl h' h.next 1 p (AL pre)/\
    F=(match CM (l.drop k)with|(t,c)=>bif c==0 then(yt,pre++t,0)else(⟨#[]⟩,[],c))) l.length ?_ ?_
   ·simp only[Ty.w,simprocAttr];refine⟨0,_,[],rfl,rfl,by omega,rfl,AH.refl _,rfl,Tl.nil,?_⟩;rw[List.drop_zero, ← hF];try rfl
   ·clear hF hb hn;rintro m S h' ⟨g1,g22,g23,k,p,pre,g24,g5,hk,rfl,hg,hpl,tl,hinv⟩;by_cases hlt:k<l.length
    ·have hd:decide ((k:Int)<(l.length:Int))=true:=(by simp;omega);have w7:IntKind.i64.wrap ((k:Int)+1)=k+1:=(by rw[BM (by omega) (by omega)]);obtain⟨x,hx⟩: ∃ x,l[k]? =some x:=⟨_,List.getElem?_eq_getElem hlt⟩;have hr:=Sx.CG hx;have hxk:=hlo x (List.mem_of_getElem? hx);have hcw:=λh:A0=>OW (x:=x) h;rw[Ca hx]at hinv;simp only[CM]at hinv;obtain⟨ki,va,li,co,te,ks⟩:=x;simp only[Sx.ok]at hxk;have hte:te.size<=9223372036854775807:=(by have:=hxk.2.2.1;unfold AF at this;omega);simp only[Sx.cells,Az]at hr hcw;simp only[Az,Af]at hinv;have tl2:=tl.up (h':=(h'.new (.arr 6 [[qK 0,qK 0,qK 0,qK 0,.sc (.string ⟨#[]⟩),.sc (.slice none 0 0)]])).set h'.next (.arr 6 [[qK ki,qK va,qK li,qK co,A3 te,.A1 6 (Sx.rows ks)]])) (by simp[A0.new,A0.set]) λj hj _=>by
      simp only[A0.set,A0.new];rw[A7 (by omega),A7 (by omega)]
     have hg2:AH h ((h'.new (.arr 6 [[qK 0,qK 0,qK 0,qK 0,.sc (.string ⟨#[]⟩),.sc (.slice none 0 0)]])).set h'.next (.arr 6 [[qK ki,qK va,qK li,qK co,A3 te,.A1 6 (Sx.rows ks)]])):=(hg.new _).set hg.le _;cases q3:(ki==1)with
     |false=>
      rw[q3]at hinv hcw;simp only[AJ]at hinv;replace zz:=Ad g1 g22 g23 g24 g5 hd hr;refine wt zz ?_;replace zz:=Ah g1 g22 g23 g24 g5 hr;refine uU zz (hcw _) ?_;replace zz:=Ah g1 g22 g23 g24 g5 yF;refine wt zz ?_;exact⟨bad 2 _ (.inl rfl) hinv,hg2⟩
     |true=>
      rw[q3]at hinv hcw;simp only[AB]at hinv;have hc:=λh:A0=>X4 (h:=h) hte;generalize CH te=b at hc hinv;cases b with
      |false=>
       simp only[AJ]at hinv;replace zz:=Ad g1 g22 g23 g24 g5 hd hr;refine wt zz ?_;replace zz:=Ah g1 g22 g23 g24 g5 hr;refine uU zz (hcw _) ?_;replace zz:=Ah g1 g22 g23 g24 g5 yT;refine wt zz ?_;replace zz:=Ae g1 g22 g23 g24 g5;refine uU zz (hc _) ?_;replace zz:=Ah g1 g22 g23 g24 g5 yF;refine wt zz ?_;exact⟨bad 8 _ (.inr rfl) hinv,hg2⟩
      |true=>
       simp only[AB]at hinv;obtain⟨H,t1,t2,t3,t4,t5⟩:=tl2.tail;have hpr:(AL pre).length=k:=(by rw[GI];exact hpl);have hb:(k+1)*16<=140737488355328:=(by omega);replace zz:=Ad g1 g22 g23 g24 g5 hd hr;refine wt zz ?_;replace zz:=Ah g1 g22 g23 g24 g5 hr;refine uU zz (hcw _) ?_;replace zz:=Ah g1 g22 g23 g24 g5 yT;refine wt zz ?_;replace zz:=Ae g1 g22 g23 g24 g5;refine uU zz (hc _) ?_;replace zz:=DX g1 g22 g23 g24 g5 w7 yT t1 t2 hpr hb;(repeat'(first|refine cK ?_|refine nK ?_|refine uR zz ?_|refine uQ zz λK hK=>?_|refine uK ?_|refine C3 zz ?_|(refine uN hK ?_;clear hK)|(rw[AK];rotate_left 1;omega;simp only[Ty.w,simprocAttr,g1,g22,g23,g24,g5,w7,Ax,t1,t2,hpr,hb])|apply zI));have t3':H.next=h'.next+1:=by rw[t3];simp[A0.new,A0.set]
       have hkp:=t5 h ⟨hg2.le,hg2.B1⟩ (AG _);have hgH:AH h H:=⟨hkp.1,hkp.2⟩;have hap:AL pre++[[PV.sc (.string te)]]=AL (pre++[te]):=(by simp[AL]);rw[hap];refine⟨l.length-(k+1),by omega,k+1,.own H.next 0 (k+1),pre++[te],by simp,by rw[t3'],by omega,rfl,hgH.new _,by simp[hpl],Tl.grow hkp.1 (by rw[GI];simp[hpl]),?_⟩;rw[hinv];generalize CM (List.drop (k+1) l)=W;obtain⟨t,c⟩:=W;cases hq:c==0 with
       |false=>simp only[hq,AJ]
       |true=>simp only[hq,AB,DC,List.append_assoc,List.cons_append,List.nil_append]
    ·have hd:decide ((k:Int)<(l.length:Int))=false:=(by simp;omega);rw[List.drop_eq_nil_of_le (by omega)]at hinv;simp only[CM,DC,AB,List.append_nil]at hinv;replace zz:=BJ g1 g22 g23 g24 g5 hd r0 q0;refine wt zz ?_;subst hinv;refine⟨?_,hg⟩;have h1:=Vd tl;have e2:AQ 0= .sc .nilIface:=rfl;simp only[MC,e2];unfold AI;refine⟨_,rfl,?_⟩;unfold AN;refine⟨by simp only[AI],?_⟩;unfold AN;refine⟨h1,?_⟩;unfold AN;exact⟨by simp only[AI],by simp only[AN]⟩
set_option maxHeartbeats 8000000
theorem lV(n:Nat)(c:Ch):Bo n (CZ c):=by
 obtain⟨k,P,⟨gop,gna,gar,gpa,gex,gki⟩,nm,a,⟨eop,ena,en,ear,eki⟩⟩:=c;simp only[CZ,Fm.cells,Ex.cells,List.cons_append,List.nil_append,Bo,Bc,Fk,Do];exact⟨C6 _ _,Df _ _,C6 _ _,EE _ _,El _ _,Df _ _,Df _ _,EE _ _⟩
theorem XE(n:Nat)(h:A0)(c:Ch):AN n h (CZ c) (CZ c):=by
 obtain⟨k,P,⟨gop,gna,gar,gpa,gex,gki⟩,nm,a,⟨eop,ena,en,ear,eki⟩⟩:=c;simp only[CZ,Fm.cells,Ex.cells,List.cons_append,List.nil_append,AN,AI,Fk,Do];exact⟨.inl (C6 _ _),.inl (Df _ _),.inl (C6 _ _),.inl (EE _ _),.inl (El _ _),.inl (Df _ _),.inl (Df _ _),.inl (EE _ _)⟩
theorem Sq(n:Nat): ∀ l:List Ch,B9 n (Ag l)
 |[]=>by simp only[Ag,List.map_nil,B9]
 |c::l=>by
  have:=Sq n l;simp only[Ag,List.map_cons,B9]at this⊢;exact⟨lV n c,this⟩
theorem XF(n:Nat)(h:A0): ∀ l:List Ch,DE n h (Ag l) (Ag l)
 |[]=>by simp only[Ag,List.map_nil,DE]
 |c::l=>by
  have:=XF n h l;simp only[Ag,List.map_cons,DE]at this⊢;exact⟨XE n h c,this⟩
theorem XG{P:List Pm}{W:List Fm}{k:Int}{n:ByteArray}{a:List ByteArray}{v:Ex}(hp:P.length<=1099511627776)(hwl:W.length<=1099511627776)(h:A0):
  A6 prog 114 [.agg [.A1 2 (A8 P),.A1 6 (Fm.rows W)],qK k,A3 n,.A1 1 (AL a),.agg v.cells] h λr h'=>r= .agg (CZ (FN ⟨P,W⟩ k n a v))/\h'=h:=by
 refine A6.CD Ty.Pp ?_;have hcP:=λh:A0=>jn (l:=P) hp h;have hcF:=λh:A0=>jq (l:=W) hwl h;have hda:=λh:A0=>LC (h:=h);simp only[Bu,Fm.cells,AL,A8,Ex.rows,Fm.rows,List.map_nil]at hda;have hwl2:=Fm.B3 W;have DA: ∀ (H:A0)(c:Ch)(z:Am),AH h H->c=FN ⟨P,W⟩ k n a v->AI h.next (H.set h.next (.arr 15 [CZ c])) (.agg (CZ (FN ⟨P,W⟩ k n a v))) (.agg (CZ c))/\AH h (H.set h.next (.arr 15 [CZ c])):=λH c z g e=>⟨by
  rw[← e];simp only[AI];exact⟨_,rfl,XE _ _ _⟩,g.set (AG _) _⟩
 obtain⟨eop,ena,en,ear,eki⟩:=v;simp only[Ex.cells]at DA⊢;cases W with
 |nil=>
  have q0:(((Fm.rows []).length:Int)==0)=true:=rfl;have fin0:=λH g=>DA H ⟨k,P,Bu,n,a,.mk eop ena en ear eki⟩ (.arr 0 []) g rfl;generalize FN ⟨P,[]⟩ k n a (.mk eop ena en ear eki)=C at fin0⊢;simp only[CZ,Bu,Fm.cells,Ex.cells,List.cons_append,List.nil_append,AL,A8,Ex.rows,Fm.rows,List.map_nil]at fin0;generalize Fm.rows []=R at q0⊢;refine AD func114 ntmps114 results114 Ty.Pp ?_;refine wy A4 ?_;first|refine uV A4 (hcP _) ?_|refine uA A4 (hcP _) ?_
  refine wy A4 ?_;first|refine uV A4 (hda _) ?_|refine uA A4 (hda _) ?_
  refine⟨?_,?_⟩
  ·simp only[List.forall_mem_cons,Ty.w,simprocAttr,Ty.AX]
   (repeat' apply And.intro)<;>first
    |exact .inl (by decide+kernel)
    |exact .inr (CT (hcP _) (sr A4))
    |exact .inr (CT (hda _) (sr A4))
    |exact .inr A4
    |exact λ_ hx=>nomatch hx
  refine wy (uu q0 @B4) ?_;exact fin0 _ (((((AH.refl h).new _).new _).set (by omega) _))
 |cons f W2=>
  cases W2 with
  |nil=>
   have q0:(((Fm.rows [f]).length:Int)==0)=false:=rfl;have q1:(((Fm.rows [f]).length:Int)==1)=true:=rfl;have q2:((0:Int)<((Fm.rows [f]).length:Int))=True:=Di (by rw[hwl2];simp);have r0:(Fm.rows [f])[0]? =some f.cells:=rfl;have fin0:=λH g=>DA H ⟨k,P,f,n,a,.mk eop ena en ear eki⟩ (.arr 0 []) g rfl;generalize FN ⟨P,[f]⟩ k n a (.mk eop ena en ear eki)=C at fin0⊢;obtain⟨gop,gna,gar,gpa,gex,gki⟩:=f;simp only[CZ,Fm.cells,Ex.cells,List.cons_append,List.nil_append]at fin0 r0;generalize Fm.rows [_]=R at q0 q1 q2 r0⊢;refine AD func114 ntmps114 results114 Ty.Pp ?_;refine wy A4 ?_;(first|refine uV A4 (hcP _) ?_|refine uA A4 (hcP _) ?_);refine wy A4 ?_;(first|refine uV A4 (hda _) ?_|refine uA A4 (hda _) ?_);refine⟨?_,?_⟩
   ·simp only[List.forall_mem_cons,Ty.w,simprocAttr,Ty.AX]
    (repeat' apply And.intro)<;>first
     |exact .inl (by decide+kernel)
     |exact .inr (CT (hcP _) (sr A4))
     |exact .inr (CT (hda _) (sr A4))
     |exact .inr A4
     |exact λ_ hx=>nomatch hx
   replace zz:=Ae q0 q1 q2 r0 @B4;refine wy zz ?_;exact fin0 _ ((((((AH.refl h).new _).new _).set (by omega) _).set (by omega) _))
  |cons g W3=>
   have q0:(((Fm.rows (f::g::W3)).length:Int)==0)=false:=(by rw[hwl2];simp;omega);have q1:(((Fm.rows (f::g::W3)).length:Int)==1)=false:=(by rw[hwl2];simp;omega);have fin0:=λH g'=>DA H ⟨k,P,.mk Bl ⟨#[]⟩ [] [] [] (f::g::W3),n,a,.mk eop ena en ear eki⟩ (.arr 0 []) g' rfl;generalize FN ⟨P,f::g::W3⟩ k n a (.mk eop ena en ear eki)=C at fin0⊢;simp only[CZ,Fm.cells,Ex.cells,List.cons_append,List.nil_append,AL,A8,Ex.rows,List.map_nil]at fin0;simp only[AL,A8]at hcP hcF hda⊢;generalize Fm.rows (f::g::W3)=R at q0 q1 fin0 hcF⊢;refine AD func114 ntmps114 results114 Ty.Pp ?_;refine wy A4 ?_;(first|refine uV A4 (hcP _) ?_|refine uA A4 (hcP _) ?_);refine wy A4 ?_;(first|refine uV A4 (hda _) ?_|refine uA A4 (hda _) ?_);refine⟨?_,?_⟩
   ·simp only[List.forall_mem_cons,Ty.w,simprocAttr,Ty.AX]
    (repeat' apply And.intro)<;>first
     |exact .inl (by decide+kernel)
     |exact .inr (CT (hcP _) (sr A4))
     |exact .inr (CT (hda _) (sr A4))
     |exact .inr A4
     |exact λ_ hx=>nomatch hx
   refine wy (AU q0 q1 @B4) ?_;refine uU @B4 (hcF _) ?_;(repeat'(first|refine cK ?_|(refine nK ?_;try exact zI)|refine Ai λK hK=>?_|((first|refine Bp ?_|refine Eu ?_);simp only[Ty.w,simprocAttr,B4,Jo])|(refine hK _ _ ?_;clear hK;(try simp only[At,simprocAttr]))));exact fin0 _ ((((((AH.refl h).new _).new _).set (by omega) _).set (by omega) _))
theorem KI(h:(c==0)=false):AQ c=An c:=by simp only[AQ,h,AJ]
theorem KJ(h:(c==0)=true):AQ c= .sc .nilIface:=by simp only[AQ,h,AB]
theorem Gd(hc:(c==0)=false):AI n H (.Al [.A1 15 (Ag []),AQ c]) (.Al [.sc (.slice none 0 0),An c]):=by
 rw[KI hc];simp only[An,Ag,List.map_nil,AI,AN];exact⟨_,rfl,.inr (.inl ⟨rfl,.inr rfl⟩),rfl,trivial⟩
theorem lW{l:List Ch}(hc:(c==0)=true):AI n H (.Al [.A1 15 (Ag l),AQ c]) (.Al [.A1 15 (Ag l),.sc .nilIface]):=by
 rw[KJ hc];simp only[AI,AN];exact⟨_,rfl,.inl ⟨rfl,Sq _ _⟩,rfl,trivial⟩
theorem lX{P:List Pm}{W:List Fm}{k:Int}(hp:P.length<=1099511627776)(hwl:W.length<=1099511627776){kind value line col:Int}{text:ByteArray}{y:Sx}{rest:List Sx}
  (hok: ∀ z∈rest,z.ok)(hsm: ∀ z∈rest,z.small)(hl:rest.length<=1048576)(h:A0):
  A6 prog 110 [.agg [.A1 2 (A8 P),.A1 6 (Fm.rows W)],qK k,.agg [qK kind,qK value,qK line,qK col,A3 text,.A1 6 (Sx.rows (y::rest))]] h λr h'=>
   r= .Al [.A1 15 (Ag (Ga ⟨P,W⟩ k rest).1),AQ (Ga ⟨P,W⟩ k rest).2]/\h'=h:=by
 refine A6.CD Ty.Nw ?_;have hlen:=Sx.B3 (y::rest);generalize hF:Ga ⟨P,W⟩ k rest=F;cases q3:(((Sx.rows (y::rest)).length:Int) !=3)with
 |true=>
  have e:F=([],2):=by
   rw[← hF]
   match rest,q3,hlen with
   |[],_,_=>rfl
   |[_],_,_=>rfl
   |[_,_],q,hlen=>rw[hlen]at q;simp at q
   |_::_::_::_,_,_=>rfl
  subst e;generalize Sx.rows (y::rest)=R at q3⊢;refine AD func110 ntmps110 results110 Ty.Nw ?_;refine wt q3 ?_;exact⟨Gd (c:=2) rfl,AH.refl _⟩
 |false=>
  obtain⟨a,e,rfl⟩: ∃ a e,rest=[a,e]:=by
   match rest,q3,hlen with
   |[],q,hlen=>rw[hlen]at q;simp at q
   |[_],q,hlen=>rw[hlen]at q;simp at q
   |[a,e],_,_=>exact⟨a,e,rfl⟩
   |_::_::_::l,q,hlen=>rw[hlen]at q;simp at q;omega
  have ca:=λh:A0=>Sp (hok a (by simp)) (hsm a (by simp)) h;have ce:=λh:A0=>j9 (x:=e) (hok e (by simp)) h;have r1:=Sx.CG (l:=[y,a,e]) (i:=1) rfl;have r2:=Sx.CG (l:=[y,a,e]) (i:=2) rfl;have d1:((1:Int)<((Sx.rows [y,a,e]).length:Int))=True:=Di (by rw[hlen];simp);have d2:((2:Int)<((Sx.rows [y,a,e]).length:Int))=True:=Di (by rw[hlen];simp);simp only[Ga]at hF;generalize Sx.rows [y,a,e]=R at q3 r1 r2 d1 d2⊢;generalize Ey a=A at ca hF;obtain⟨an,aa,ac⟩:=A;have cc:=λ(v:Ex)(h:A0)=>XG (k:=k) (n:=an) (a:=aa) (v:=v) hp hwl h;obtain⟨ak,av,al,aco,atx,ass⟩:=a;simp only[MC,Sx.cells]at ca r1;simp only at hF;cases z1:(ac==0)with
  |false=>
   rw[z1,AJ]at hF;subst hF;rw[KI z1]at ca;simp only[An]at ca;refine AD func110 ntmps110 results110 Ty.Nw ?_;refine wt (AU q3 r1 d1) ?_;refine uU (uu r1 d1) (ca _) ?_;refine wt @B4 ?_;exact⟨Gd z1,AH.refl _⟩
  |true=>
   rw[z1,AB]at hF;rw[KJ z1]at ca;generalize H6 e=E at ce hF;obtain⟨ev,ec⟩:=E;obtain⟨ek,eva,el,eco,et,es⟩:=e;simp only[Sx.cells]at ce r2;simp only at hF;cases z2:(ec==0)with
   |false=>
    rw[z2,AJ]at hF;subst hF;rw[KI z2]at ce;obtain⟨eop,ena,en,ear,eki⟩:=ev;simp only[An,Ex.cells]at ce;refine AD func110 ntmps110 results110 Ty.Nw ?_;refine wt (AU q3 r1 d1) ?_;refine uU (uu r1 d1) (ca _) ?_;refine wt (uu r2 d2) ?_;refine uU (uu r2 d2) (ce _) ?_;refine wt @B4 ?_;exact⟨Gd z2,((AH.refl h).new _).set (AG _) _⟩
   |true=>
    rw[z2,AB]at hF;rw[KJ z2]at ce;have cc:=cc ev;have efin:=λH=>lW (n:=h.next) (H:=H) (l:=F.1) (c:=F.2) (by rw[← hF];try rfl);subst hF;generalize FN ⟨P,W⟩ k an aa ev=C at cc efin⊢;obtain⟨eop,ena,en,ear,eki⟩:=ev;obtain⟨ck,cP,⟨gop,gna,gar,gpa,gex,gki⟩,cn,cargs,⟨vop,vna,vn,var,vki⟩⟩:=C;simp only[CZ,Ag,List.map_cons,List.map_nil,Fm.cells,Ex.cells,List.cons_append,List.nil_append]at ce cc efin⊢;refine AD func110 ntmps110 results110 Ty.Nw ?_;refine wt (AU q3 r1 d1) ?_;refine uU (uu r1 d1) (ca _) ?_;refine wt (uu r2 d2) ?_;refine uU (uu r2 d2) (ce _) ?_;refine wt @B4 ?_;refine uU @B4 (cc _) ?_;refine wt @B4 ?_;exact⟨efin _,((AH.refl h).new _).set (AG _) _⟩
end Go.Proofs.YtblgchkahpgdjaaGreat
