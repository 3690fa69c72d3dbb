/- What the claim rests on, part 12: the abstract machine, contracts of the functions, plain data. -/
import Derived.Test.YtblgchkahpgdjaaGreatZw11
set_option linter.unusedVariables false
set_option linter.unusedSimpArgs false
set_option linter.unusedSectionVars false
namespace Go.Proofs.YtblgchkahpgdjaaGreat
open Go.AM Go.Proofs.Tryz
set_option maxHeartbeats 8000000
set_option maxRecDepth 20000
structure Gs(h:A0)(id:Nat)(b:Bool)(l:List Sx)(h':A0):Prop where
 grow:Bq h id (wO b) h'
 ex: ∃ j,h.next+1+1<h'.next/\j≠h.next+1+1/\h.next<j/\j<h'.next/\
  h'.obj h.next=some (.arr 6 [BJ])/\
  h'.obj (h.next+1+1)=some (.arr 6 [[.sc (.int .i64 3),.sc (.int .i64 0),.sc (.int .i64 0),.sc (.int .i64 0),.sc (.string ⟨#[]⟩),.own j 0 l.length]])/\
  h'.obj j=some (.arr 6 (Sx.rows l))
theorem Gs.put{h h':A0}{id:Nat}{b b2:Bool}{l:List Sx}(i:Gs h id b l h')(hid:id<h.next):Gs h id b2 l (h'.set id (wO b2)):=by
 obtain⟨hg,j,h1,h2,h3,h4,o1,o2,o3⟩:=i;refine⟨hg.put,j,h1,h2,h3,h4,?_,?_,?_⟩
 ·simp only[A0.set];rw[A4 (by omega)];exact o1
 ·simp only[A0.set];rw[A4 (by omega)];exact o2
 ·simp only[A0.set];rw[A4 (by omega)];exact o3
theorem Gs.newset{h h':A0}{id:Nat}{b:Bool}{l:List Sx}{o o2:Ae}(i:Gs h id b l h')(hid:id<h.next):Gs h id b l ((h'.new o).set h'.next o2):=by
 obtain⟨hg,j,h1,h2,h3,h4,p1,p2,p3⟩:=i;refine⟨(hg.new hid).set hid hg.le,j,by simp only[A0.new,A0.set];omega,h2,h3,by simp only[A0.new,A0.set];omega,?_,?_,?_⟩
 ·simp only[A0.set,A0.new];rw[A4 (by omega),A4 (by omega)];exact p1
 ·simp only[A0.set,A0.new];rw[A4 (by omega),A4 (by omega)];exact p2
 ·simp only[A0.set,A0.new];rw[A4 (by omega),A4 (by omega)];exact p3
theorem Gs.push{h h':A0}{id j:Nat}{b:Bool}{l:List Sx}{x:Sx}(hg:Bq h id (wO b) h')(hid:id<h.next)(h1:h.next+1+1<h'.next)(h2:j≠h.next+1+1)(h3:h.next<j)(h4:j<h'.next)(o1:h'.obj h.next=some (.arr 6 [BJ])):
  Gs h id b (l++[x]) (((h'.kill j).new (.arr 6 (Sx.rows l++[x.cells]))).set (h.next+1+1) (.arr 6 [[.sc (.int .i64 3),.sc (.int .i64 0),.sc (.int .i64 0),.sc (.int .i64 0),.sc (.string ⟨#[]⟩),.own h'.next 0 (l.length+1)]])):=by
 have e:Sx.rows (l++[x])=Sx.rows l++[x.cells]:=by rw[Sx.rows_map,Sx.rows_map];simp
 refine⟨((hg.kill hid (by omega)).new hid).set hid (by omega),h'.next,?_,?_,?_,?_,?_,?_,?_⟩
 ·simp only[A0.set,A0.new,A0.kill];omega
 ·omega
 ·omega
 ·simp only[A0.set,A0.new,A0.kill];omega
 ·have a1:¬ h.next=h.next+1+1:=by omega
  have a2:¬ h.next=h'.next:=by omega
  have a3:¬ h.next=j:=by omega
  simp only[A0.set,A0.new,A0.kill,a1,a2,a3,AD];exact o1
 ·simp only[A0.set,AC,List.length_append,List.length_cons,List.length_nil]
 ·have a1:¬ h'.next=h.next+1+1:=by omega
  simp only[A0.set,A0.new,A0.kill,a1,AD,AC,e]
theorem PH{h:A0}{id:Nat}{b:Bool}{l:List Ch}(hl:l.length<=1048576)(hok: ∀ c∈l,c.ok)(hsm: ∀ c∈l,FE c)(hid:id<h.next)(ho:h.obj id=some (wO b)):
  AA prog 51 [.ptr id 0 0,.imm 15 (Ay l)] h λr h'=>r= .agg (Cx l).cells/\h'=h.set id (wO (b||!(l.all C0))):=by
 refine AA.frzX Ty.OG ho (Is _ _) ?_;have hll:=HG l;have hw: ∀ (s:ByteArray)(h:A0),AA prog 40 [A1 s] h λr h'=>r= .agg (A5 s).cells/\h'=h:=λs h=>IB;simp only[A5,Sx.cells,Sx.rows]at hw;have hE:Cx l=(bif l.isEmpty then AB []else AB (A5 C5::l.map EP)):=rfl;cases q0:((l.length:Int)==0)with
 |true=>
  have e0:l=[]:=by have:=eq_of_beq q0;exact List.length_eq_zero_iff.1 (by omega)
  rw[hE,e0];simp only[List.isEmpty_nil,D2,List.all_nil,Ab,E1];subst e0;have hl0:=λh:A0=>IC (h:=h) (p:= .sc (.slice none 0 0)) rfl (λ_=>by simp only[AZ]);refine AN func51 ntmps51 results51 Ty.OG ?_;repeat'(first|refine AI λK hK=>?_|refine uR (uu hll q0) ?_|(refine uN hK ?_;clear hK)|apply zI)
  refine uU A2 (hl0 _) ?_;repeat'(first|refine uT A2 ?_|(refine uN hK ?_;clear hK)|apply zI)
  refine⟨?_,((Bq.refl ho).new hid).set hid (AF _)⟩;simp only[AB,Sx.cells,Sx.rows,AZ,B4];exact⟨_,rfl,rfl,rfl,rfl,rfl,rfl,.inr (.inl ⟨rfl,.inr rfl⟩),trivial⟩
 |false=>
  have e0:l.isEmpty=false:=by cases l with
   |nil=>simp at q0
   |cons=>rfl
  rw[hE,e0,CH]
  clear hE e0;generalize hF:(b||!(l.all C0))=F;refine uG (ow:=λt=>t==13) (wf:=λf=>f==107||f==41||f==43||f==100||f==51) func51 ntmps51 results51 Ty.OG ?_;replace zz:=uu hll q0;repeat'(first|refine AI λK hK=>?_|refine uR zz ?_|refine uK ?_|refine Aw zz ?_|(refine uN hK ?_;clear hK)|apply zI)
  refine uU A2 (hw C5 _) ?_;try apply zI
  refine uU A2 (IC (p:= .own (h.next+1) 0 1) rfl (λ_=>IY (by simp[A0.new]))) ?_;repeat'(first|refine AI λK hK=>?_|refine Bl ?_|refine uR hll ?_|(refine uN hK ?_;clear hK)|apply zI)
  refine BV (λm S h'=>S 0= .ptr id 0 0/\S 4= .ptr h.next 0 0/\S 5= .ptr (h.next+1+1) 0 0/\S 15= .imm 15 (Ay l)/\S 16= .sc (.int .i64 l.length)/\ ∃ (k:Nat)(b':Bool),S 17= .sc (.int .i64 k)/\k<=l.length/\m=l.length-k/\Gs h id b' (A5 C5::(l.take k).map EP) h'/\F=(b'||!((l.drop k).all C0))) l.length ?_ ?_
  ·simp only[Ty.w,simprocAttr];refine⟨0,b,rfl,by omega,rfl,⟨?_,h.next+1,by simp[A0.new,A0.set],by omega,by omega,by simp[A0.new,A0.set],?_,?_,?_⟩,by rw[List.drop_zero];exact hF.symm⟩
   ·exact ((((Bq.refl ho).new hid).new hid).new hid).set hid (by omega)
   ·simp only[A0.new,A0.set];repeat(first|rw[A4 (by omega)]|rw[AH A2])
   ·simp only[A0.new,A0.set];(repeat(first|rw[A4 (by omega)]|rw[AH A2]));try rfl
   ·simp only[A0.new,A0.set];(repeat(first|rw[A4 (by omega)]|rw[AH A2]));simp[A5,Sx.rows,Sx.cells]
  ·clear hF;rintro m S h' ⟨g0,g4,g5,g15,g16,k,b',g17,hk,rfl,hI,hinv⟩;by_cases hlt:k<l.length
   ·have hd:decide ((k:Int)<(l.length:Int))=true:=(by simp;omega);have w7:IntKind.i64.wrap ((k:Int)+1)=k+1:=(by rw[B9 (by omega) (by omega)]);obtain⟨c,hx⟩: ∃ c,l[k]? =some c:=⟨_,List.getElem?_eq_getElem hlt⟩;have hr:=MX hx;have hcc:=λ(H:A0)(b':Bool)(hid':id<H.next)(ho':H.obj id=some (wO b'))=>bj (h:=H) (b:=b') (hok c (List.mem_of_getElem? hx)) (hsm c (List.mem_of_getElem? hx)) hid' ho';rw[CR hx,List.all_cons]at hinv;have htk:(l.take (k+1)).map EP=(l.take k).map EP++[EP c]:=(by rw[List.take_add_one,hx];simp);generalize C0 c=q at hcc hinv;generalize EP c=X at hcc htk;have hlen:(A5 C5::(l.take k).map EP).length=k+1:=(by simp;omega);have hcon:A5 C5::(l.take (k+1)).map EP=(A5 C5::(l.take k).map EP)++[X]:=(by rw[htk];try rfl);generalize(A5 C5::(l.take k).map EP)=L at hI hlen hcon;clear htk;obtain⟨kind,params,⟨gop,gna,gar,gpa,gex,gki⟩,name,args,⟨eop,ena,en,ear,eki⟩⟩:=c;simp only[Df,Fm.cells,Ex.cells,List.cons_append,List.nil_append]at hr hcc;obtain⟨xk,xv,xl,xc,xt,xs⟩:=X;simp only[Sx.cells]at hcc;replace zz:=B6 g0 g4 g5 g15 g16 g17 hd hr;(repeat'(first|with_reducible refine Zc 7 ?_|refine AI λK hK=>?_|refine uR zz ?_|refine uK ?_|refine Aw zz ?_|(refine uN hK ?_;clear hK)|apply zI));refine⟨?_⟩;refine C6 (λS H=>S 0= .ptr id 0 0/\S 4= .ptr h.next 0 0/\S 5= .ptr (h.next+1+1) 0 0/\S 15= .imm 15 (Ay l)/\S 16= .sc (.int .i64 l.length)/\S 17= .sc (.int .i64 k)/\ ∃ j7,S 7= .ptr j7 0 0/\h.next+1+1<j7/\H.obj j7=some (.arr 15 [[.sc (.int .i64 kind),.imm 2 (A7 params),A1 gop,A1 gna,.imm 1 (AP gar),.imm 2 (A7 gpa),.imm 5 (Ex.rows gex),.imm 6 (Fm.rows gki),A1 name,.imm 1 (AP args),A1 eop,A1 ena,.sc (.int .i64 en),.imm 1 (AP ear),.imm 5 (Ex.rows eki)]])/\Gs h id b' L H) ?_ ?_
    ·obtain ⟨_,hlt2,_⟩:=hI.ex;exact⟨sq g0,sq g4,sq g5,sq g15,sq g16,sq g17,h'.next,sq A2,hlt2,by simp only[A0.set,AC],hI.newset hid⟩
    ·clear g0 g4 g5 g15 g16 g17 hI hd hr;rintro S H ⟨g0,g4,g5,g15,g16,g17,j7,g7,hj7,ho7,hI⟩;have stepF:(b'||!q)=(b'||!q)/\F=((b'||!q)||!((l.drop (k+1)).all C0)):=⟨rfl,by rw[hinv];cases b'<;>cases q<;>simp⟩;have hno:=hI.grow.at_;have hle:=hI.grow.le;obtain⟨hg,j,h1,h2,h3,h4,o1,o2,o3⟩:=hI;have d1:(h.next+1+1=id)=False:=BF (by omega);have d2:(j=id)=False:=BF (by omega);have d3:(h.next+1+1=j)=False:=BF (by omega);have d4:(h.next+1+1=H.next)=False:=BF (by omega);have hrl:(Sx.rows L).length=k+1:=(by rw[Sx.rows_len];exact hlen);have htk:List.take (k+1) (Sx.rows L)=Sx.rows L:=List.take_of_length_le (by omega);have hb:(k+1+1)*72<=140737488355328:=(by omega);rw[hlen]at o2;generalize hRe:Sx.rows L=R at o3 hrl htk;replace zz:=BR g0 g4 g5 g15 g16 g17 g7 ho7 o2;(repeat'(first|refine uE zz λK hK=>?_|apply zI));refine JJ (hcc H b' (by omega) hno) (sr (B6 g0 g4 g5 g15 g16 g17 g7 ho7)) (by
      try simp only[Ty.w,simprocAttr,Ty.AU,CX,List.map_cons,List.map_nil,List.forall_mem_cons,g0,g4,g5,g7,ho7,o2,d1]
      (repeat' apply And.intro)<;>first
       |trivial
       |exact .inl (by decide+kernel)
       |exact .inr A2) ?_
     simp only[Ty.w,simprocAttr,Ty.AU,Bm,g0,g4,g5,g15,g16,g17,g7,ho7,o2,o3,d1,d2];replace zz:=AJ g0 g4 g5 g15 g16 g17 g7 o2 o3 d1 d2 (AK d3 d4 hrl htk hb w7);(repeat'(first|refine uR zz ?_|(refine uN hK ?_;clear hK)|refine uB zz ?_|(rw[AH];rotate_left 1;omega;simp only[Ty.w,simprocAttr,g0,g4,g5,g15,g16,g17,g7,o2,o3,d1,d2,d3,d4,hrl,htk,hb,w7])|apply zI));have hp:=Gs.push (x:= .mk xk xv xl xc xt xs) (l:=L) ((hg.put (o2:=wO (b'||!q)))) hid h1 h2 h3 h4 (by simp only[A0.set];rw[A4 (by omega)];exact o1);rw[← hcon,hRe,hlen]at hp;exact⟨l.length-(k+1),by omega,k+1,b'||!q,by simp,by omega,rfl,hp,stepF.2⟩
   ·have hd:decide ((k:Int)<(l.length:Int))=false:=(by simp;omega);have hke:k=l.length:=(by omega);subst hke;obtain⟨hg,j,hn2,hne,hlo,hhi,o1,o2,o3⟩:=hI;rw[List.take_length]at o2 o3;rw[List.drop_length,List.all_nil,Ab,E1]at hinv;subst hinv;have n1:(h.next+1+1=h.next)=False:=(by simp;omega);generalize hLe:A5 C5::l.map EP=L at o2 o3;replace zz:=Cv g0 g4 g5 g15 g16 g17 hd o1 o2 o3 n1;(repeat'(first|refine AI λK hK=>?_|refine uR zz ?_|refine uT zz ?_|refine uX ?_|refine Aw zz ?_|(refine uN hK ?_;clear hK)|(clear hK;refine uN hK ?_;clear hK)|apply zI));refine⟨?_,hg.set hid (AF _)⟩;rw[hLe];simp only[AB,Sx.cells,AZ,B4];refine⟨_,rfl,rfl,rfl,rfl,rfl,rfl,.inr (.inr ⟨j,0,L.length,Sx.rows L,rfl,by omega,?_,?_,?_⟩),trivial⟩
    ·simp only[A0.set];rw[A4 (by omega)];exact o3
    ·rw [Sx.rows_len];omega
    ·rw [List.drop_zero,List.take_of_length_le (by rw[Sx.rows_len];omega)];exact Ff _ _ _
theorem NK{n:Nat}{h:A0}:AZ n h (.agg Fg.cells) (.agg BJ):=by
 simp only[Fg,Sx.cells,Sx.rows,AZ,B4];exact⟨_,rfl,rfl,rfl,rfl,rfl,rfl,.inr (.inl ⟨rfl,.inr rfl⟩),trivial⟩
theorem PK{h:A0}{n:Int}:AA prog 44 [.sc (.int .i64 n)] h λr h'=>r= .agg (BN n).cells/\h'=h:=by
 refine AA.frz Ty.R8 ?_;refine AN func44 ntmps44 results44 Ty.R8 ?_;refine wt A2 ?_;refine⟨?_,((AL.refl h).new _).set (AF _) _⟩;simp only[BN,Sx.cells,Sx.rows,AZ,B4];exact⟨_,rfl,rfl,rfl,rfl,rfl,rfl,.inr (.inl ⟨rfl,.inr rfl⟩),trivial⟩
abbrev xO(j k:Nat):Ae:= .arr 6 [[.sc (.int .i64 3),.sc (.int .i64 0),.sc (.int .i64 0),.sc (.int .i64 0),.sc (.string ⟨#[]⟩),.own j 0 k]]
def Ft(h:A0)(xi j:Nat)(L:List Sx):A0:=⟨h.next+18+1,λi=>if i=xi then some (xO (h.next+18) L.length)else if i=h.next+18 then some (.arr 6 (Sx.rows L))else if i=j then none else if i<h.next then h.obj i else none⟩
theorem Gt{h:A0}{xi j:Nat}{L:List Sx}{kw:ByteArray}{v:Sx}{m:Bool}(hx:h.obj xi=some (xO j L.length))(hj:h.obj j=some (.arr 6 (Sx.rows L)))(hne:xi≠j)(hxl:xi<h.next)(hjl:j<h.next)(hL:L.length<=1048576):
  AA prog 97 [.ptr xi 0 0,.sc (.bool m),A1 kw,.agg v.cells] h λr h'=>r=EV []/\h'=(if m=true then h else Ft h xi j (L++[A5 kw,v])):=by
 have hw: ∀ (s:ByteArray)(h:A0),AA prog 40 [A1 s] h λr h'=>r= .agg (A5 s).cells/\h'=h:=λs h=>IB;simp only[A5,Sx.cells,Sx.rows]at hw;obtain⟨vk,vv,vl,vc,vt,vs⟩:=v;simp only[Sx.cells];cases m with
 |true=>
  refine AN func97 ntmps97 results97 Ty.RH ?_;refine wt A2 ?_;simp only[GH,F6];exact⟨trivial,trivial⟩
 |false=>
  have hrl:(Sx.rows L).length=L.length:=Sx.rows_len L;have hb2:(L.length+2)*72<=140737488355328:=by omega
  have htk:List.take L.length (Sx.rows L)=Sx.rows L:=List.take_of_length_le (by omega);refine AA.drop ?_;refine AN func97 ntmps97 results97 Ty.RH ?_;refine xB 2 A2 ?_;refine⟨?_⟩;refine N6 10 (by decide+kernel) λK hK=>?_;simp only[List.take_succ_cons,List.take_zero,List.drop_succ_cons,List.drop_zero];have c1:(Value.int IntKind.i64 0).oneCell'=true:=rfl;have c2:(Value.string ⟨#[]⟩).oneCell'=true:=rfl;have c3:(Value.slice none 0 0).oneCell'=true:=rfl;simp only[xO]at hx;simp(maxSteps:=4000000) only[Ty.w,simprocAttr,Ty.AU,c1,c2,c3,hx,hj,hrl,htk,hb2,AF];replace zz:=BR c1 c2 c3 hx hj hrl htk hb2 @AF;first|refine uV zz (hw kw _) ?_|refine uA zz (hw kw _) ?_
  refine⟨by simp only[List.forall_mem_cons];(repeat' apply And.intro)<;>first|exact .inl (by decide+kernel)|exact(λ_ hx=>by cases hx),?_⟩;have hset1: ∀ x:List PV,(Sx.rows L++[BJ,BJ]).set L.length x=Sx.rows L++[x,BJ]:=λx=>by rw[List.set_append_right _ _ (by omega),hrl,J1];try rfl
  have hset2: ∀ x y:List PV,(Sx.rows L++[x,BJ]).set (L.length+1) y=Sx.rows L++[x,y]:=λx y=>by rw[List.set_append_right _ _ (by omega),hrl,di];try rfl
  have hget1:(Sx.rows L++[BJ,BJ])[L.length]? =some BJ:=by rw[List.getElem?_append_right (by omega),hrl,J1];try rfl
  have hget2: ∀ x:List PV,(Sx.rows L++[x,BJ])[L.length+1]? =some BJ:=λx=>by rw[List.getElem?_append_right (by omega),hrl,di];try rfl
  have w1:IntKind.i64.wrap ((L.length:Int)+1)=((L.length+1:Nat):Int):=by rw[B9 (by omega) (by omega)];omega
  have hN1:((A0.kill ⟨h.next+18,h.obj⟩ j).new (.arr 6 (Sx.rows L++[BJ,BJ]))).obj (h.next+18)=some (.arr 6 (Sx.rows L++[BJ,BJ])):=by simp only[A0.new,A0.kill,AC]
  have hX1:((A0.kill ⟨h.next+18,h.obj⟩ j).new (.arr 6 (Sx.rows L++[BJ,BJ]))).obj xi=some (xO j L.length):=by
   simp only[A0.new,A0.kill];rw[A4 (by omega),A4 hne];exact hx
  have hO1: ∀ i,i<h.next->i≠j->((A0.kill ⟨h.next+18,h.obj⟩ j).new (.arr 6 (Sx.rows L++[BJ,BJ]))).obj i=h.obj i:=λi hi hij=>by
   simp only[A0.new,A0.kill];rw[A4 (by omega),A4 hij]
  have hn1:((A0.kill ⟨h.next+18,h.obj⟩ j).new (.arr 6 (Sx.rows L++[BJ,BJ]))).next=h.next+18+1:=rfl
  generalize((A0.kill ⟨h.next+18,h.obj⟩ j).new (.arr 6 (Sx.rows L++[BJ,BJ])))=H1 at hN1 hX1 hO1 hn1⊢;have hkc:List.length [PV.sc (.int .i64 1),.sc (.int .i64 0),.sc (.int .i64 0),.sc (.int .i64 0),A1 kw,.imm 6 []]=6:=rfl;refine GS (.ptr (h.next+18) L.length 0) [h.next+18] (.inr (by decide+kernel)) (by decide) rfl rfl (λH hH=>by
   have hH:=(hH _ (List.mem_singleton.2 rfl)).trans hN1;have q1:(L.length<L.length+2)=True:=IK (by omega);simp only[Ty.w,simprocAttr,Ty.AU,hH,q1,c1,c2,c3,hrl,hb2,AF,w1]) dL ?_
  refine I4 (ob:= .arr 6 (Sx.rows L++[[.sc (.int .i64 1),.sc (.int .i64 0),.sc (.int .i64 0),.sc (.int .i64 0),A1 kw,.imm 6 []],BJ])) rfl (by decide) rfl (by simp only[Ty.w,simprocAttr,Ty.AU];try rfl) (by
   simp only[Ty.w,simprocAttr,Ty.AU,hN1,hget1,hset1,c1,c2,c3,hrl,hb2,AF,w1];try rfl) (λf q hf hq ha=>by rcases(show f=12\/f=13\/f=14\/f=15\/f=16\/f=17 from by have hfl:=(List.getElem?_eq_some_iff.1 hq).1;simp only[List.length_cons,List.length_nil]at hfl;omega)with rfl|rfl|rfl|rfl|rfl|rfl<;>(simp only[List.getElem?_cons_succ,List.getElem?_cons_zero,Ag]at hq;subst hq;revert ha;decide+kernel)) dL dL ?_
  have hN2:(H1.set (h.next+18) (.arr 6 (Sx.rows L++[[.sc (.int .i64 1),.sc (.int .i64 0),.sc (.int .i64 0),.sc (.int .i64 0),A1 kw,.imm 6 []],BJ]))).obj (h.next+18)=some (.arr 6 (Sx.rows L++[[.sc (.int .i64 1),.sc (.int .i64 0),.sc (.int .i64 0),.sc (.int .i64 0),A1 kw,.imm 6 []],BJ])):=DU;have hX2:(H1.set (h.next+18) (.arr 6 (Sx.rows L++[[.sc (.int .i64 1),.sc (.int .i64 0),.sc (.int .i64 0),.sc (.int .i64 0),A1 kw,.imm 6 []],BJ]))).obj xi=some (xO j L.length):=(Ar (by omega)).trans hX1;have hO2: ∀ i,i<h.next->i≠j->(H1.set (h.next+18) (.arr 6 (Sx.rows L++[[.sc (.int .i64 1),.sc (.int .i64 0),.sc (.int .i64 0),.sc (.int .i64 0),A1 kw,.imm 6 []],BJ]))).obj i=h.obj i:=λi hi hij=>(Ar (by omega)).trans (hO1 i hi hij)
  have hn2:(H1.set (h.next+18) (.arr 6 (Sx.rows L++[[.sc (.int .i64 1),.sc (.int .i64 0),.sc (.int .i64 0),.sc (.int .i64 0),A1 kw,.imm 6 []],BJ]))).next=h.next+18+1:=hn1
  generalize H1.set (h.next+18) (.arr 6 (Sx.rows L++[[.sc (.int .i64 1),.sc (.int .i64 0),.sc (.int .i64 0),.sc (.int .i64 0),A1 kw,.imm 6 []],BJ]))=H2 at hN2 hX2 hO2 hn2⊢;refine GS (.sc (.int .i64 ((L.length+1:Nat):Int))) [] (.inl rfl) (by decide) rfl rfl (λH _=>by(try simp only[Ty.w,simprocAttr,Ty.AU,c1,c2,c3,hrl,hb2,AF,w1]);try rfl) dL ?_;refine GS (.ptr (h.next+18) (L.length+1) 0) [h.next+18] (.inr (by decide+kernel)) (by decide) rfl rfl (λH hH=>by
   have hH:=(hH _ (List.mem_singleton.2 rfl)).trans hN2;have q1:(L.length+1<L.length+2)=True:=IK (by omega);simp only[Ty.w,simprocAttr,Ty.AU,hH,q1,c1,c2,c3,hrl,hb2,AF,w1]) dL ?_
  refine I4 (ob:= .arr 6 (Sx.rows L++[[.sc (.int .i64 1),.sc (.int .i64 0),.sc (.int .i64 0),.sc (.int .i64 0),A1 kw,.imm 6 []],[.sc (.int .i64 vk),.sc (.int .i64 vv),.sc (.int .i64 vl),.sc (.int .i64 vc),A1 vt,.imm 6 (Sx.rows vs)]])) rfl (by decide) rfl (by simp only[Ty.w,simprocAttr,Ty.AU];try rfl) (by
   simp only[Ty.w,simprocAttr,Ty.AU,hN2,hget2,hset2,c1,c2,c3,hrl,hb2,AF,w1];try rfl) (λf q hf hq ha=>by rcases(show f=15\/f=16\/f=17 from by have hfl:=(List.getElem?_eq_some_iff.1 hq).1;simp only[List.length_cons,List.length_nil]at hfl;omega)with rfl|rfl|rfl<;>(simp only[List.getElem?_cons_succ,List.getElem?_cons_zero,Ag]at hq;subst hq;revert ha;decide+kernel)) dL dL ?_
  refine GS (.ptr xi 0 0) [] (.inl rfl) (by decide) rfl rfl (λH _=>by(try simp only[Ty.w,simprocAttr,Ty.AU,c1,c2,c3,hrl,hb2,AF,w1]);try rfl) dL ?_;refine GS (.ptr xi 0 5) [] (.inl rfl) (by decide) rfl rfl (λH _=>by(try simp only[Ty.w,simprocAttr,Ty.AU,c1,c2,c3,hrl,hb2,AF,w1]);try rfl) dL ?_;have hX3:=hX2;have nX:(xi=h.next+18)=False:=BF (by omega);simp only[xO]at hX3;refine I4 (ob:=xO (h.next+18) (L.length+2)) rfl (by decide) rfl (by simp only[Ty.w,simprocAttr,Ty.AU];try rfl) (by
   simp only[Ty.w,simprocAttr,Ty.AU,hX3,nX,c1,c2,c3,hrl,hb2,AF,w1];try rfl) (λf q hf hq ha=>by have hfl:=(List.getElem?_eq_some_iff.1 hq).1;simp only[List.length_cons,List.length_nil]at hfl;omega) dL dL ?_
  refine N7 (hK _ _ ?_);simp only[GH,F6];have hRL:Sx.rows (L++[A5 kw,.mk vk vv vl vc vt vs])=Sx.rows L++[[.sc (.int .i64 1),.sc (.int .i64 0),.sc (.int .i64 0),.sc (.int .i64 0),A1 kw,.imm 6 []],[.sc (.int .i64 vk),.sc (.int .i64 vv),.sc (.int .i64 vl),.sc (.int .i64 vc),A1 vt,.imm 6 (Sx.rows vs)]]:=by simp[Sx.rows_map,A5,Sx.cells,Sx.rows]
  rw[← hRL];have hlen:(L++[A5 kw,.mk vk vv vl vc vt vs]).length=L.length+2:=by simp
  rw[← hlen];generalize L++[A5 kw,.mk vk vv vl vc vt vs]=L2;refine⟨EV [],Ft h xi j L2,⟨rfl,by simp⟩,by simp[EV,AZ,B4],by simp only[Ft];omega,λi o hio=>?_⟩;simp only[Ft]at hio⊢;by_cases h1:i=xi
  ·subst h1;rw[AH rfl]at hio;obtain rfl:=H7 hio;exact⟨DU,by omega,.inr (by simp[xO,De,BG,BZ,BD])⟩
  ·rw [A4 h1]at hio;by_cases h2:i=h.next+18
   ·subst h2;rw[AH rfl]at hio;obtain rfl:=H7 hio;exact⟨(Ar h1).trans DU,by omega,.inr (by simp only[De];exact Fe _ _)⟩
   ·rw [A4 h2]at hio;by_cases h3:i=j
    ·rw [AH h3]at hio;cases hio
    ·rw [A4 h3]at hio;by_cases h4:i<h.next
     ·rw [AH h4]at hio;exact⟨((Ar h1).trans ((Ar h2).trans (hO2 i h4 h3))).trans hio,by omega,.inl hio⟩
     ·rw [A4 h4]at hio;cases hio
theorem PL{P:Program}{ow:Nat->Bool}{wf:FuncId->Bool}{n:Nat}{s:A8}{h:A0}{f:FuncId}{d:Nat}{args:List Operand}{ts:Array TypeId}{ty:TypeId}{pos:String}{af:Array Edge}{gd:Option (Nat × Bool)}{aS:List PV}{v:PV}{h1:A0}{ops rest:List Oper}{base k:Nat}{past:Ev}{hist:List (Nat × A0)}{K:A8->A0->Prop}{A:A0->Prop}(al:List Nat)(ha:JY ops=al)
  (hc:AA P f aS h λr h'=>r=v/\h'=h1)(hs:args.map (A6 s)=aS)(hA:A h1)
  (hk:DB P ow wf n ops al base k rest past hist K (C2 s d v) h1):
  ∃ v h',Ad P ow {dst:=some d,op:= .call {callee:= .value (.func f),args:=args.toArray,argTypes:=ts},type:=ty,pos:=pos,after:=af,guard:=gd} (A6 s) h v h'/\A h'/\
   EE P ow wf n ops base k rest (CX P ow past) hist K (C2 s d v) h':=
 ⟨v,h1,C9 hc hs,hA,Ij ha _ _ _ _ _ _ hk⟩
def Ee:ByteArray:=⟨#[58,97,99,116,105,111,110]⟩
def Cr:ByteArray:=⟨#[58,112,97,114,97,109,101,116,101,114,115]⟩
def FF:ByteArray:=⟨#[58,99,111,115,116]⟩
def FP:ByteArray:=⟨#[58,112,114,101,99,111,110,100,105,116,105,111,110]⟩
def FQ:ByteArray:=⟨#[58,101,102,102,101,99,116]⟩
def An(L:List Sx)(m:Bool)(kw:ByteArray)(v:Sx):List Sx:=bif m then L else L++[A5 kw,v]
def TM(a:Ac):List Sx:=An (An (An (An [A5 Ee,A5 a.name] ((a.params.length:Int)==0) Cr (AB (AG a.params))) (a.cost==1) FF (BN a.cost)) (Bx a.pre) FP (By a.pre)) ((a.changes.length:Int)==0) FQ (Cx a.changes)
def En(a:Ac):Sx:=AB (TM a)
def F1(a:Ac):Bool:=Ak a.name&&!(decide (a.cost<0))&&a.params.all (BE true)&&BW a.pre&&a.changes.all C0
structure Lf(a:Ac):Prop where
 params:a.params.length<=1048576
 pre:a.pre.small
 chs:a.changes.length<=1048576
 ch: ∀ c∈a.changes,FE c
theorem GW(L:List Sx)(m:Bool)(kw:ByteArray)(v:Sx):(An L m kw v).length<=L.length+2:=by cases m<;>simp[An]
structure CZ(h:A0)(id:Nat)(b:Bool)(xi j:Nat)(L:List Sx)(H:A0):Prop where
 grow:Bq h id (wO b) H
 ids:h.next<xi/\xi<H.next/\h.next<j/\j<H.next/\xi≠j
 ores:H.obj h.next=some (.arr 6 [BJ])
 ox:H.obj xi=some (xO j L.length)
 oj:H.obj j=some (.arr 6 (Sx.rows L))
structure FR(h:A0)(id xi:Nat)(row:List PV)(S:A8):Prop where
 s0:S 0= .ptr id 0 0
 s3:S 3= .cptr row
 s4:S 4= .ptr h.next 0 0
 s5:S 5= .ptr xi 0 0
theorem CZ.put{h H:A0}{id xi j:Nat}{b b2:Bool}{L:List Sx}(i:CZ h id b xi j L H)(hid:id<h.next):CZ h id b2 xi j L (H.set id (wO b2)):=by
 obtain⟨g,⟨i1,i2,i3,i4,i5⟩,o1,o2,o3⟩:=i;exact⟨g.put,⟨i1,i2,i3,i4,i5⟩,(Ar (by omega)).trans o1,(Ar (by omega)).trans o2,(Ar (by omega)).trans o3⟩
theorem CZ.part{h H:A0}{id xi j:Nat}{b:Bool}{L L2:List Sx}(i:CZ h id b xi j L H)(hid:id<h.next):CZ h id b xi (H.next+18) L2 (Ft H xi j L2):=by
 obtain⟨g,⟨i1,i2,i3,i4,i5⟩,o1,o2,o3⟩:=i;have hle:=g.le;refine⟨⟨by simp only[Ft];omega,λk hk hne=>?_,?_⟩,⟨i1,by simp only[Ft];omega,by omega,by simp only[Ft];omega,by omega⟩,?_,?_,?_⟩
 ·simp only[Ft];rw[A4 (by omega),A4 (by omega),A4 (by omega),AH (by omega)];exact g.old k hk hne
 ·simp only[Ft];rw[A4 (by omega),A4 (by omega),A4 (by omega),AH (by omega)];exact g.at_
 ·simp only[Ft];rw[A4 (by omega),A4 (by omega),A4 (by omega),AH (by omega)];exact o1
 ·simp only[Ft,AC]
 ·simp only[Ft];rw[A4 (by omega),AH A2]
theorem bk{h:A0}{id:Nat}{b:Bool}{a:Ac}(hok:a.ok)(hsm:Lf a)(hid:id<h.next)(ho:h.obj id=some (wO b)):
  AA prog 45 [.ptr id 0 0,.agg (EJ a)] h λr h'=>r= .agg (En a).cells/\h'=h.set id (wO (b||!F1 a)):=by
 refine GN Ty.OD λhwf=>?_;refine AA.frzX Ty.OD ho (Is _ _) ?_;have hno: ∀ i,h.next<=i->h.obj i=none:=λi hi=>by
  cases q:h.obj i with
  |none=>rfl
  |some o=>have:=hwf i (by rw[q];try rfl);omega
 obtain⟨name,params,cost,⟨gop,gna,gar,gpa,gex,gki⟩,changes⟩:=a;have hw: ∀ (s:ByteArray)(h:A0),AA prog 40 [A1 s] h λr h'=>r= .agg (A5 s).cells/\h'=h:=λs h=>IB;have hns:name.size<=9223372036854775807:=by have:=hok.name;unfold AE at this;simp only at this;omega
 have cN:=λ(H:A0)(hid:id<H.next)(ho:H.obj id=some (wO b))=>KS (h:=H) (b:=b) hns hid ho;simp only[A5,Sx.cells,Sx.rows]at hw cN;simp only[EJ,Fm.cells,List.cons_append,List.nil_append];have n1:(id=h.next)=False:=BF (by omega);have n2:(h.next=id)=False:=BF (by omega);refine K6 (ow:=λt=>t==11) (wf:=λf=>f==41||f==43||f==100||f==51||f==97) Ty.K7 func45 rfl Ty.OD (by rw[ntmps45];simp) ?_;rw[ntmps45,results45];refine AI (λK hK=>?_);repeat'(first|refine AI λK hK=>?_|refine uR A2 ?_|(refine uN hK ?_;clear hK)|apply zI)
 refine Oo [7] (by decide+kernel) (by decide+kernel) ?_;have n3:(h.next+1+7=h.next)=False:=BF (by omega);have n4:(h.next+1+7=id)=False:=BF (by omega);have n5:(h.next+1+9=id)=False:=BF (by omega);have n6:(h.next+1+7=h.next+1+9)=False:=BF (by omega);have n7:(h.next+1+9=h.next+1+7)=False:=BF (by omega);have n8:(id=h.next+1+7)=False:=BF (by omega);have hN8:h.obj (h.next+1+7)=none:=hno _ (by omega);simp(maxSteps:=4000000) only[DB,Ty.w,simprocAttr,Ty.AU,List.forall_mem_cons,ho,n1,n2,n3,n4,n5,n6,n7,n8,hN8];first
  |refine N8 [7] (by decide+kernel) (hw Ee _) (sr (Aq ho n1 n2 n3 n4 n5 n6 n7 n8 hN8)) ?_
  |refine Ik [7] (by decide+kernel) (hw Ee _) (sr (Aq ho n1 n2 n3 n4 n5 n6 n7 n8 hN8)) (by simp only[Ty.w,simprocAttr,Ty.AU,ho,n1,n2,n3,n4,n5,n6,n7,n8,hN8];try trivial) ?_
 simp(maxSteps:=4000000) only[DB,Ty.w,simprocAttr,Ty.AU,List.forall_mem_cons,List.nil_append,ho,n1,n2,n3,n4,n5,n6,n7,n8,hN8];refine PL [7] (by decide+kernel) (cN _ (by simp only[A0.new];omega) (sq (Aq ho n1 n2 n3 n4 n5 n6 n7 n8 hN8))) (sr (Aq ho n1 n2 n3 n4 n5 n6 n7 n8 hN8)) ?_ ?_
 ·exact ⟨sq (Aq ho n1 n2 n3 n4 n5 n6 n7 n8 hN8),by simp only[CX,List.map_cons,List.map_nil,List.forall_mem_cons];(repeat' apply And.intro)<;>first|exact .inl (by decide+kernel)|exact(λ_ hx=>by cases hx)⟩
 simp(maxSteps:=4000000) only[DB,Ty.w,simprocAttr,Ty.AU,List.forall_mem_cons,List.nil_append,ho,n1,n2,n3,n4,n5,n6,n7,n8,hN8];refine⟨by(repeat' apply And.intro)<;>first|exact .inl (by decide+kernel)|exact(λ_ hx=>by cases hx)|trivial,?_⟩;have hl3: ∀ H:A0,h.next+1+9<H.next->AA prog 39 [.own (h.next+1+9) 0 2] H λr h'=>r= .agg [.sc (.int .i64 3),.sc (.int .i64 0),.sc (.int .i64 0),.sc (.int .i64 0),.sc (.string ⟨#[]⟩),.own (h.next+1+9) 0 2]/\h'=H:=λH hh=>IC rfl (λ_=>IY hh)
 refine Ik [7] (by decide+kernel) (hl3 _ (by simp[A0.new,A0.set])) (sr (Aq ho n1 n2 n3 n4 n5 n6 n7 n8 hN8)) (by(repeat' apply And.intro)<;>first|exact .inl (by decide+kernel)|exact(λ_ hx=>by cases hx)|trivial) ?_;simp(maxSteps:=4000000) only[DB,Ty.w,simprocAttr,Ty.AU,List.forall_mem_cons,List.nil_append,ho,n1,n2,n3,n4,n5,n6,n7,n8,hN8];refine⟨?_,?_⟩
 ·(repeat' apply And.intro)<;>first
    |exact .inl (by decide+kernel)
    |exact .inr (C9 (hw Ee _) (sr (Aq ho n1 n2 n3 n4 n5 n6 n7 n8 hN8)))
    |exact .inr (C9 (hl3 _ (by simp[A0.new,A0.set])) (sr (Aq ho n1 n2 n3 n4 n5 n6 n7 n8 hN8)))
    |exact .inr (by simp only[Ty.w,simprocAttr,Ty.AU,ho,n1,n2,n3,n4,n5,n6,n7,n8,hN8])
    |exact(λ_ hx=>by cases hx)
    |trivial
 refine⟨?_,?_⟩
 ·(repeat' apply And.intro)<;>first
    |exact .inl (by decide+kernel)
    |exact .inr (C9 (hw Ee _) (sr (Aq ho n1 n2 n3 n4 n5 n6 n7 n8 hN8)))
    |exact .inr (C9 (hl3 _ (by simp[A0.new,A0.set])) (sr (Aq ho n1 n2 n3 n4 n5 n6 n7 n8 hN8)))
    |exact .inr (by simp only[Ty.w,simprocAttr,Ty.AU,ho,n1,n2,n3,n4,n5,n6,n7,n8,hN8])
    |exact(λ_ hx=>by cases hx)
    |trivial
 first|refine hK _ _ ?_|refine cK ?_
 try clear hK
 generalize hxi:h.next+1+7=xi
 refine C6 (λS H=> ∃ j,FR h id xi [A1 name,.imm 2 (A7 params),.sc (.int .i64 cost),A1 gop,A1 gna,.imm 1 (AP gar),.imm 2 (A7 gpa),.imm 5 (Ex.rows gex),.imm 6 (Fm.rows gki),.imm 15 (Ay changes)] S/\CZ h id (b||!Ak name) xi j [A5 Ee,A5 name] H) ?_ ?_
 ·subst hxi;refine⟨h.next+1+9,⟨sq A2,sq A2,sq A2,sq A2⟩,⟨?_,⟨by omega,by simp only[A0.set,A0.new];omega,by omega,by simp only[A0.set,A0.new];omega,by omega⟩,?_,?_,?_⟩⟩
  ·refine ⟨by simp only[A0.set,A0.new];omega,λk hk hne=>?_,?_⟩
   ·simp only[A0.set,A0.new];(repeat(first|rw[A4 (by omega)]|rw[AH A2]));try exact A4 (by omega)
   ·simp only[A0.set,A0.new];repeat(first|rw[A4 (by omega)]|rw[AH A2])
  ·simp only[A0.set,A0.new];repeat(first|rw[A4 (by omega)]|rw[AH A2])
  ·simp only[A0.set,A0.new];(repeat(first|rw[A4 (by omega)]|rw[AH A2]));rfl
  ·simp only[A0.set,A0.new];(repeat(first|rw[A4 (by omega)]|rw[AH A2]));simp[A5,Sx.rows,Sx.cells]
 clear n1 n2 n3 n4 n5 n6 n7 n8 hN8 hno hwf hl3 cN;rintro S H ⟨j,⟨s0,s3,s4,s5⟩,hI⟩;generalize hb1:(b||!Ak name)=b1 at hI;refine CF (λS H=> ∃ j,FR h id xi [A1 name,.imm 2 (A7 params),.sc (.int .i64 cost),A1 gop,A1 gna,.imm 1 (AP gar),.imm 2 (A7 gpa),.imm 5 (Ex.rows gex),.imm 6 (Fm.rows gki),.imm 15 (Ay changes)] S/\CZ h id (b1||decide (cost<0)) xi j [A5 Ee,A5 name] H) ?_ ?_
 ·have hat:=hI.grow.at_;cases b1 with
  |true=>
   replace zz:=AV s0 s3 s4 s5 hat;refine wt zz ?_;exact⟨j,⟨sq s0,sq s3,sq s4,sq s5⟩,hI.put hid⟩
  |false=>
   replace zz:=AV s0 s3 s4 s5 hat;refine wt zz ?_;exact⟨j,⟨sq s0,sq s3,sq s4,sq s5⟩,hI.put hid⟩
 clear s0 s3 s4 s5 hI;rintro S H ⟨j,⟨s0,s3,s4,s5⟩,hI⟩;generalize hb2:(b1||decide (cost<0))=b2 at hI;refine CF (λS H=> ∃ j,FR h id xi [A1 name,.imm 2 (A7 params),.sc (.int .i64 cost),A1 gop,A1 gna,.imm 1 (AP gar),.imm 2 (A7 gpa),.imm 5 (Ex.rows gex),.imm 6 (Fm.rows gki),.imm 15 (Ay changes)] S/\CZ h id (b2||!(params.all (BE true))) xi j (An [A5 Ee,A5 name] ((params.length:Int)==0) Cr (AB (AG params))) H) ?_ ?_
 ·have hpl:=EX params;have hat:=hI.grow.at_;obtain⟨hg,⟨i1,i2,i3,i4,i5⟩,o1,o2,o3⟩:=(show CZ _ _ _ _ _ _ _ from hI);have cP:=Jk (h:=H) (b:=b2) (vars:=true) hsm.params hok.params.2 (by omega) hat;have cL:=λh:A0=>HZ (AG params) h;have cp:=λ(m:Bool)(hx:(H.set id (wO (b2||!(params.all (BE true))))).obj xi=some (xO j 2))(hj:(H.set id (wO (b2||!(params.all (BE true))))).obj j=some (.arr 6 (Sx.rows [A5 Ee,A5 name])))=>Gt (h:=H.set id (wO (b2||!(params.all (BE true))))) (xi:=xi) (j:=j) (L:=[A5 Ee,A5 name]) (kw:=Cr) (v:=AB (AG params)) (m:=m) hx hj i5 i2 i4 (by simp);generalize hm:((params.length:Int)==0)=m;simp only[AB,Sx.cells,Cr]at cL cp;replace zz:=AV s0 s3 s5 hpl hm;refine wy zz ?_;replace zz:=AV s0 s3 s5 hpl hm;refine uZ zz (cP) ?_;refine wy zz ?_;replace zz:=AV s0 s3 s5 hpl hm;first|refine uV zz (cL _) ?_|refine uJ zz cL ?_
  refine wy zz ?_;have o1':(H.set id (wO (b2||!(params.all (BE true))))).obj xi=some (xO j 2):=(Ar (by omega)).trans o2;have o2':(H.set id (wO (b2||!(params.all (BE true))))).obj j=some (.arr 6 (Sx.rows [A5 Ee,A5 name])):=(Ar (by omega)).trans o3;replace zz:=AV s0 s3 s5 hpl hm;refine uZ zz (cp m o1' o2') ?_;refine wy zz ?_;cases m with
  |true=>exact⟨j,⟨sq s0,sq s3,sq s4,sq s5⟩,hI.put hid⟩
  |false=>exact⟨_,⟨sq s0,sq s3,sq s4,sq s5⟩,(hI.put hid).part hid⟩
 ·have hL1:(An [A5 Ee,A5 name] ((params.length:Int)==0) Cr (AB (AG params))).length<=4:=GW _ _ _ _;generalize hLe1:An [A5 Ee,A5 name] ((params.length:Int)==0) Cr (AB (AG params))=LL1 at hL1⊢;generalize hb3:(b2||!(params.all (BE true)))=b3
  clear s0 s3 s4 s5 hI;rintro S H ⟨j,⟨s0,s3,s4,s5⟩,hI⟩;refine CF (λS H=> ∃ j,FR h id xi [A1 name,.imm 2 (A7 params),.sc (.int .i64 cost),A1 gop,A1 gna,.imm 1 (AP gar),.imm 2 (A7 gpa),.imm 5 (Ex.rows gex),.imm 6 (Fm.rows gki),.imm 15 (Ay changes)] S/\CZ h id b3 xi j (An LL1 (cost==1) FF (BN cost)) H) ?_ ?_
  ·have hat:=hI.grow.at_;obtain⟨hg,⟨i1,i2,i3,i4,i5⟩,o1,o2,o3⟩:=(show CZ _ _ _ _ _ _ _ from hI);have cD:=λh:A0=>PK (h:=h) (n:=cost);have cp:=λ(m:Bool)(hx:H.obj xi=some (xO j LL1.length))(hj:H.obj j=some (.arr 6 (Sx.rows LL1)))=>Gt (h:=H) (xi:=xi) (j:=j) (L:=LL1) (kw:=FF) (v:=(BN cost)) (m:=m) hx hj i5 i2 i4 (by omega);generalize hm:(cost==1)=m;simp only[BN,Sx.cells,Sx.rows,FF]at cD cp;replace zz:=AS s0 s3 s5 hm;refine wy zz ?_;replace zz:=AS s0 s3 s5 hm;(first|refine uV zz (cD _) ?_|refine uJ zz cD ?_);refine wy zz ?_;have o1':H.obj xi=some (xO j LL1.length):=o2;have o2':H.obj j=some (.arr 6 (Sx.rows LL1)):=o3;replace zz:=AS s0 s3 s5 hm;refine uZ zz (cp m o1' o2') ?_;refine wy zz ?_;cases m with
   |true=>exact⟨j,⟨sq s0,sq s3,sq s4,sq s5⟩,hI⟩
   |false=>exact⟨_,⟨sq s0,sq s3,sq s4,sq s5⟩,hI.part hid⟩
  ·have hL2:(An LL1 (cost==1) FF (BN cost)).length<=6:=(by have:=GW LL1 (cost==1) FF (BN cost);omega);generalize hLe2:An LL1 (cost==1) FF (BN cost)=LL2 at hL2⊢;clear s0 s3 s4 s5 hI;rintro S H ⟨j,⟨s0,s3,s4,s5⟩,hI⟩;refine CF (λS H=> ∃ j,FR h id xi [A1 name,.imm 2 (A7 params),.sc (.int .i64 cost),A1 gop,A1 gna,.imm 1 (AP gar),.imm 2 (A7 gpa),.imm 5 (Ex.rows gex),.imm 6 (Fm.rows gki),.imm 15 (Ay changes)] S/\CZ h id (b3||!(BW (.mk gop gna gar gpa gex gki))) xi j (An LL2 (Bx (.mk gop gna gar gpa gex gki)) FP (By (.mk gop gna gar gpa gex gki))) H) ?_ ?_
   ·have hat:=hI.grow.at_;obtain⟨hg,⟨i1,i2,i3,i4,i5⟩,o1,o2,o3⟩:=(show CZ _ _ _ _ _ _ _ from hI);have cA:=λh:A0=>Lb (h:=h);have cS:=λh:A0=>KF (.mk gop gna gar gpa gex gki) hok.pre DC Le h;have hAl:(.mk gop gna gar gpa gex gki:Fm).same DC=Bx (.mk gop gna gar gpa gex gki):=rfl;rw[hAl]at cS;have cW:=Lc (h:=H) (b:=b3) hok.pre hsm.pre (by omega) hat;generalize By (.mk gop gna gar gpa gex gki)=X at cW⊢;obtain⟨yk,yv,yl,yc,yt,ys⟩:=X;have cp:=λ(m:Bool)(hx:(H.set id (wO (b3||!(BW (.mk gop gna gar gpa gex gki))))).obj xi=some (xO j LL2.length))(hj:(H.set id (wO (b3||!(BW (.mk gop gna gar gpa gex gki))))).obj j=some (.arr 6 (Sx.rows LL2)))=>Gt (h:=(H.set id (wO (b3||!(BW (.mk gop gna gar gpa gex gki)))))) (xi:=xi) (j:=j) (L:=LL2) (kw:=FP) (v:=(.mk yk yv yl yc yt ys)) (m:=m) hx hj i5 i2 i4 (by omega);generalize hm:(Bx (.mk gop gna gar gpa gex gki))=m at cS⊢;simp only[DC,Fm.cells,Sx.cells,Sx.rows,FP]at cA cS cW cp;replace zz:=AS s0 s3 s5 hm;refine wy zz ?_;replace zz:=AS s0 s3 s5 hm;(first|refine uV zz (cA _) ?_|refine uJ zz cA ?_);refine wy zz ?_;replace zz:=AS s0 s3 s5 hm;(first|refine uV zz (cS _) ?_|refine uJ zz cS ?_);refine wy zz ?_;replace zz:=AS s0 s3 s5 hm;refine uZ zz (cW) ?_;refine wy zz ?_;have o1':(H.set id (wO (b3||!(BW (.mk gop gna gar gpa gex gki))))).obj xi=some (xO j LL2.length):=(Ar (by omega)).trans o2;have o2':(H.set id (wO (b3||!(BW (.mk gop gna gar gpa gex gki))))).obj j=some (.arr 6 (Sx.rows LL2)):=(Ar (by omega)).trans o3;replace zz:=AS s0 s3 s5 hm;refine uZ zz (cp m o1' o2') ?_;refine wy zz ?_;cases m with
    |true=>exact⟨j,⟨sq s0,sq s3,sq s4,sq s5⟩,hI.put hid⟩
    |false=>exact⟨_,⟨sq s0,sq s3,sq s4,sq s5⟩,(hI.put hid).part hid⟩
   ·have hL3:(An LL2 (Bx (.mk gop gna gar gpa gex gki)) FP (By (.mk gop gna gar gpa gex gki))).length<=8:=(by have:=GW LL2 (Bx (.mk gop gna gar gpa gex gki)) FP (By (.mk gop gna gar gpa gex gki));omega);generalize hLe3:An LL2 (Bx (.mk gop gna gar gpa gex gki)) FP (By (.mk gop gna gar gpa gex gki))=LL3 at hL3⊢;generalize hb4:(b3||!(BW (.mk gop gna gar gpa gex gki)))=b4;clear s0 s3 s4 s5 hI;rintro S H ⟨j,⟨s0,s3,s4,s5⟩,hI⟩;refine CF (λS H=> ∃ j,FR h id xi [A1 name,.imm 2 (A7 params),.sc (.int .i64 cost),A1 gop,A1 gna,.imm 1 (AP gar),.imm 2 (A7 gpa),.imm 5 (Ex.rows gex),.imm 6 (Fm.rows gki),.imm 15 (Ay changes)] S/\CZ h id (b4||!(changes.all C0)) xi j (An LL3 ((changes.length:Int)==0) FQ (Cx changes)) H) ?_ ?_
    ·have hat:=hI.grow.at_;obtain⟨hg,⟨i1,i2,i3,i4,i5⟩,o1,o2,o3⟩:=(show CZ _ _ _ _ _ _ _ from hI);have hpl:=HG changes;have cE:=PH (h:=H) (b:=b4) hsm.chs hok.changes.2 hsm.ch (by omega) hat;generalize Cx changes=X at cE⊢;obtain⟨yk,yv,yl,yc,yt,ys⟩:=X;have cp:=λ(m:Bool)(hx:(H.set id (wO (b4||!(changes.all C0)))).obj xi=some (xO j LL3.length))(hj:(H.set id (wO (b4||!(changes.all C0)))).obj j=some (.arr 6 (Sx.rows LL3)))=>Gt (h:=(H.set id (wO (b4||!(changes.all C0))))) (xi:=xi) (j:=j) (L:=LL3) (kw:=FQ) (v:=(.mk yk yv yl yc yt ys)) (m:=m) hx hj i5 i2 i4 (by omega);generalize hm:((changes.length:Int)==0)=m;simp only[AB,Sx.cells,Sx.rows,FQ]at cE cp;replace zz:=AV s0 s3 s5 hm hpl;refine wy zz ?_;replace zz:=AV s0 s3 s5 hm hpl;refine uZ zz (cE) ?_;refine wy zz ?_;have o1':(H.set id (wO (b4||!(changes.all C0)))).obj xi=some (xO j LL3.length):=(Ar (by omega)).trans o2;have o2':(H.set id (wO (b4||!(changes.all C0)))).obj j=some (.arr 6 (Sx.rows LL3)):=(Ar (by omega)).trans o3;replace zz:=AV s0 s3 s5 hm hpl;refine uZ zz (cp m o1' o2') ?_;refine wy zz ?_;cases m with
     |true=>exact⟨j,⟨sq s0,sq s3,sq s4,sq s5⟩,hI.put hid⟩
     |false=>exact⟨_,⟨sq s0,sq s3,sq s4,sq s5⟩,(hI.put hid).part hid⟩
    ·have hL4:(An LL3 ((changes.length:Int)==0) FQ (Cx changes)).length<=10:=(by have:=GW LL3 ((changes.length:Int)==0) FQ (Cx changes);omega);have hLL:En ⟨name,params,cost,.mk gop gna gar gpa gex gki,changes⟩=AB (An LL3 ((changes.length:Int)==0) FQ (Cx changes)):=(by rw[← hLe3, ← hLe2, ← hLe1];try rfl);have hBB:(b||!F1 ⟨name,params,cost,.mk gop gna gar gpa gex gki,changes⟩)=(b4||!(changes.all C0)):=by
      rw[← hb4, ← hb3, ← hb2, ← hb1];unfold F1;simp only;cases b<;>cases Ak name<;>cases decide (cost<0)<;>cases params.all (BE true)<;>cases BW (.mk gop gna gar gpa gex gki)<;>cases changes.all C0<;>rfl
     rw[hLL,hBB];generalize An LL3 ((changes.length:Int)==0) FQ (Cx changes)=L at hL4⊢;generalize(b4||!(changes.all C0))=bb;clear s0 s3 s4 s5 hI;rintro S H ⟨j,⟨s0,s3,s4,s5⟩,⟨hg,⟨i1,i2,i3,i4,i5⟩,o1,o2,o3⟩⟩;simp only[xO]at o2;have n1:(h.next=xi)=False:=BF (by omega);replace zz:=AV s4 s5 o1 o2 n1;refine wt zz ?_;refine⟨?_,hg.set hid (AF _)⟩;simp only[AB,Sx.cells,AZ,B4];refine⟨_,rfl,rfl,rfl,rfl,rfl,rfl,.inr (.inr ⟨j,0,L.length,Sx.rows L,rfl,by omega,?_,?_,?_⟩),trivial⟩
     ·simp only[A0.set];rw[A4 (by omega)];exact o3
     ·rw [Sx.rows_len];omega
     ·rw [List.drop_zero,List.take_of_length_le (by rw[Sx.rows_len];omega)];exact Ff _ _ _
def Fv:ByteArray:=⟨#[58,100,117,114,97,116,105,118,101,45,97,99,116,105,111,110]⟩
def Fw:ByteArray:=⟨#[58,100,117,114,97,116,105,111,110]⟩
def Fx:ByteArray:=⟨#[58,115,116,97,114,116]⟩
def Fy:ByteArray:=⟨#[58,111,118,101,114]⟩
def G6:ByteArray:=⟨#[58,101,110,100]⟩
def G7:ByteArray:=⟨#[58,97,116,45,115,116,97,114,116]⟩
def G8:ByteArray:=⟨#[58,97,116,45,101,110,100]⟩
def TN(a:Du):List Sx:=An (An (An (An (An (An (An [A5 Fv,A5 a.name] ((a.params.length:Int)==0) Cr (AB (AG a.params))) (a.duration==1) Fw (BN a.duration)) (Bx a.start) Fx (By a.start)) (Bx a.over) Fy (By a.over)) (Bx a.stop) G6 (By a.stop)) ((a.atStart.length:Int)==0) G7 (Cx a.atStart)) ((a.atStop.length:Int)==0) G8 (Cx a.atStop)
def Eo(a:Du):Sx:=AB (TN a)
def Ep(a:Du):Bool:=Ak a.name&&a.params.all (BE true)&&BW a.start&&BW a.over&&BW a.stop&&a.atStart.all C0&&a.atStop.all C0
structure Lg(a:Du):Prop where
 params:a.params.length<=1048576
 start:a.start.small
 over:a.over.small
 stop:a.stop.small
 atS:a.atStart.length<=1048576/\ ∀ c∈a.atStart,FE c
 atE:a.atStop.length<=1048576/\ ∀ c∈a.atStop,FE c
theorem bm{h:A0}{id:Nat}{b:Bool}{a:Du}(hok:a.ok)(hsm:Lg a)(hid:id<h.next)(ho:h.obj id=some (wO b)):
  AA prog 46 [.ptr id 0 0,.agg (EK a)] h λr h'=>r= .agg (Eo a).cells/\h'=h.set id (wO (b||!Ep a)):=by
 refine GN Ty.OE λhwf=>?_;refine AA.frzX Ty.OE ho (Is _ _) ?_;have hno: ∀ i,h.next<=i->h.obj i=none:=λi hi=>by
  cases q:h.obj i with
  |none=>rfl
  |some o=>have:=hwf i (by rw[q];try rfl);omega
 obtain⟨name,params,dur,⟨sop,sna,sar,spa,sex,ski⟩,⟨vop,vna,var_,vpa,vex,vki⟩,⟨eop,ena,ear,epa,eex,eki⟩,ats,ate⟩:=a;have hw: ∀ (s:ByteArray)(h:A0),AA prog 40 [A1 s] h λr h'=>r= .agg (A5 s).cells/\h'=h:=λs h=>IB;have hns:name.size<=9223372036854775807:=by have:=hok.name;unfold AE at this;simp only at this;omega
 have cN:=λ(H:A0)(hid:id<H.next)(ho:H.obj id=some (wO b))=>KS (h:=H) (b:=b) hns hid ho;simp only[A5,Sx.cells,Sx.rows]at hw cN;simp only[EK,Fm.cells,List.cons_append,List.nil_append];have n1:(id=h.next)=False:=BF (by omega);have n2:(h.next=id)=False:=BF (by omega);refine K6 (ow:=λt=>t==11) (wf:=λf=>f==41||f==43||f==100||f==51||f==97) Ty.K7 func46 rfl Ty.OE (by rw[ntmps46];simp) ?_;rw[ntmps46,results46];refine AI (λK hK=>?_);repeat'(first|refine AI λK hK=>?_|refine uR A2 ?_|(refine uN hK ?_;clear hK)|apply zI)
 refine Oo [7] (by decide+kernel) (by decide+kernel) ?_;have n3:(h.next+1+7=h.next)=False:=BF (by omega);have n4:(h.next+1+7=id)=False:=BF (by omega);have n5:(h.next+1+9=id)=False:=BF (by omega);have n6:(h.next+1+7=h.next+1+9)=False:=BF (by omega);have n7:(h.next+1+9=h.next+1+7)=False:=BF (by omega);have n8:(id=h.next+1+7)=False:=BF (by omega);have hN8:h.obj (h.next+1+7)=none:=hno _ (by omega);simp(maxSteps:=4000000) only[DB,Ty.w,simprocAttr,Ty.AU,List.forall_mem_cons,ho,n1,n2,n3,n4,n5,n6,n7,n8,hN8];first
  |refine N8 [7] (by decide+kernel) (hw Fv _) (sr (Aq ho n1 n2 n3 n4 n5 n6 n7 n8 hN8)) ?_
  |refine Ik [7] (by decide+kernel) (hw Fv _) (sr (Aq ho n1 n2 n3 n4 n5 n6 n7 n8 hN8)) (by simp only[Ty.w,simprocAttr,Ty.AU,ho,n1,n2,n3,n4,n5,n6,n7,n8,hN8];try trivial) ?_
 simp(maxSteps:=4000000) only[DB,Ty.w,simprocAttr,Ty.AU,List.forall_mem_cons,List.nil_append,ho,n1,n2,n3,n4,n5,n6,n7,n8,hN8];refine PL [7] (by decide+kernel) (cN _ (by simp only[A0.new];omega) (sq (Aq ho n1 n2 n3 n4 n5 n6 n7 n8 hN8))) (sr (Aq ho n1 n2 n3 n4 n5 n6 n7 n8 hN8)) ?_ ?_
 ·exact ⟨sq (Aq ho n1 n2 n3 n4 n5 n6 n7 n8 hN8),by simp only[CX,List.map_cons,List.map_nil,List.forall_mem_cons];(repeat' apply And.intro)<;>first|exact .inl (by decide+kernel)|exact(λ_ hx=>by cases hx)⟩
 simp(maxSteps:=4000000) only[DB,Ty.w,simprocAttr,Ty.AU,List.forall_mem_cons,List.nil_append,ho,n1,n2,n3,n4,n5,n6,n7,n8,hN8];refine⟨by(repeat' apply And.intro)<;>first|exact .inl (by decide+kernel)|exact(λ_ hx=>by cases hx)|trivial,?_⟩;have hl3: ∀ H:A0,h.next+1+9<H.next->AA prog 39 [.own (h.next+1+9) 0 2] H λr h'=>r= .agg [.sc (.int .i64 3),.sc (.int .i64 0),.sc (.int .i64 0),.sc (.int .i64 0),.sc (.string ⟨#[]⟩),.own (h.next+1+9) 0 2]/\h'=H:=λH hh=>IC rfl (λ_=>IY hh)
 refine Ik [7] (by decide+kernel) (hl3 _ (by simp[A0.new,A0.set])) (sr (Aq ho n1 n2 n3 n4 n5 n6 n7 n8 hN8)) (by(repeat' apply And.intro)<;>first|exact .inl (by decide+kernel)|exact(λ_ hx=>by cases hx)|trivial) ?_;simp(maxSteps:=4000000) only[DB,Ty.w,simprocAttr,Ty.AU,List.forall_mem_cons,List.nil_append,ho,n1,n2,n3,n4,n5,n6,n7,n8,hN8];refine⟨?_,?_⟩
 ·(repeat' apply And.intro)<;>first
    |exact .inl (by decide+kernel)
    |exact .inr (C9 (hw Fv _) (sr (Aq ho n1 n2 n3 n4 n5 n6 n7 n8 hN8)))
    |exact .inr (C9 (hl3 _ (by simp[A0.new,A0.set])) (sr (Aq ho n1 n2 n3 n4 n5 n6 n7 n8 hN8)))
    |exact .inr (by simp only[Ty.w,simprocAttr,Ty.AU,ho,n1,n2,n3,n4,n5,n6,n7,n8,hN8])
    |exact(λ_ hx=>by cases hx)
    |trivial
 refine⟨?_,?_⟩
 ·(repeat' apply And.intro)<;>first
    |exact .inl (by decide+kernel)
    |exact .inr (C9 (hw Fv _) (sr (Aq ho n1 n2 n3 n4 n5 n6 n7 n8 hN8)))
    |exact .inr (C9 (hl3 _ (by simp[A0.new,A0.set])) (sr (Aq ho n1 n2 n3 n4 n5 n6 n7 n8 hN8)))
    |exact .inr (by simp only[Ty.w,simprocAttr,Ty.AU,ho,n1,n2,n3,n4,n5,n6,n7,n8,hN8])
    |exact(λ_ hx=>by cases hx)
    |trivial
 first|refine hK _ _ ?_|refine cK ?_
 try clear hK
 generalize hxi:h.next+1+7=xi
 refine C6 (λS H=> ∃ j,FR h id xi [A1 name,.imm 2 (A7 params),.sc (.int .i64 dur),A1 sop,A1 sna,.imm 1 (AP sar),.imm 2 (A7 spa),.imm 5 (Ex.rows sex),.imm 6 (Fm.rows ski),A1 vop,A1 vna,.imm 1 (AP var_),.imm 2 (A7 vpa),.imm 5 (Ex.rows vex),.imm 6 (Fm.rows vki),A1 eop,A1 ena,.imm 1 (AP ear),.imm 2 (A7 epa),.imm 5 (Ex.rows eex),.imm 6 (Fm.rows eki),.imm 15 (Ay ats),.imm 15 (Ay ate)] S/\CZ h id (b||!Ak name) xi j [A5 Fv,A5 name] H) ?_ ?_
 ·subst hxi;refine⟨h.next+1+9,⟨sq A2,sq A2,sq A2,sq A2⟩,⟨?_,⟨by omega,by simp only[A0.set,A0.new];omega,by omega,by simp only[A0.set,A0.new];omega,by omega⟩,?_,?_,?_⟩⟩
  ·refine ⟨by simp only[A0.set,A0.new];omega,λk hk hne=>?_,?_⟩
   ·simp only[A0.set,A0.new];(repeat(first|rw[A4 (by omega)]|rw[AH A2]));try exact A4 (by omega)
   ·simp only[A0.set,A0.new];repeat(first|rw[A4 (by omega)]|rw[AH A2])
  ·simp only[A0.set,A0.new];repeat(first|rw[A4 (by omega)]|rw[AH A2])
  ·simp only[A0.set,A0.new];(repeat(first|rw[A4 (by omega)]|rw[AH A2]));rfl
  ·simp only[A0.set,A0.new];(repeat(first|rw[A4 (by omega)]|rw[AH A2]));simp[A5,Sx.rows,Sx.cells]
 clear n1 n2 n3 n4 n5 n6 n7 n8 hN8 hno hwf hl3 cN;rintro S H ⟨j,⟨s0,s3,s4,s5⟩,hI⟩;generalize hb1:(b||!Ak name)=b1 at hI;have hL0:[A5 Fv,A5 name].length<=2:=by simp
 generalize hLe0:[A5 Fv,A5 name]=LL0 at hL0 hI;refine CF (λS H=> ∃ j,FR h id xi [A1 name,.imm 2 (A7 params),.sc (.int .i64 dur),A1 sop,A1 sna,.imm 1 (AP sar),.imm 2 (A7 spa),.imm 5 (Ex.rows sex),.imm 6 (Fm.rows ski),A1 vop,A1 vna,.imm 1 (AP var_),.imm 2 (A7 vpa),.imm 5 (Ex.rows vex),.imm 6 (Fm.rows vki),A1 eop,A1 ena,.imm 1 (AP ear),.imm 2 (A7 epa),.imm 5 (Ex.rows eex),.imm 6 (Fm.rows eki),.imm 15 (Ay ats),.imm 15 (Ay ate)] S/\CZ h id (b1||!(params.all (BE true))) xi j (An LL0 ((params.length:Int)==0) Cr (AB (AG params))) H) ?_ ?_
 ·have hat:=hI.grow.at_;obtain⟨hg,⟨i1,i2,i3,i4,i5⟩,o1,o2,o3⟩:=(show CZ _ _ _ _ _ _ _ from hI);have hpl:=EX params;have cP:=Jk (h:=H) (b:=b1) (vars:=true) hsm.params hok.params.2 (by omega) hat;have cL:=λh:A0=>HZ (AG params) h;have cp:=λ(m:Bool)(hx:(H.set id (wO (b1||!(params.all (BE true))))).obj xi=some (xO j LL0.length))(hj:(H.set id (wO (b1||!(params.all (BE true))))).obj j=some (.arr 6 (Sx.rows LL0)))=>Gt (h:=(H.set id (wO (b1||!(params.all (BE true)))))) (xi:=xi) (j:=j) (L:=LL0) (kw:=Cr) (v:=(AB (AG params))) (m:=m) hx hj i5 i2 i4 (by omega);generalize hm:((params.length:Int)==0)=m;simp only[AB,Sx.cells,Sx.rows,Cr]at cP cL cp;replace zz:=AV s0 s3 s5 hm hpl;refine wy zz ?_;replace zz:=AV s0 s3 s5 hm hpl;refine uZ zz (cP) ?_;refine wy zz ?_;replace zz:=AV s0 s3 s5 hm hpl;first|refine uV zz (cL _) ?_|refine uJ zz cL ?_
  refine wy zz ?_;have o1':(H.set id (wO (b1||!(params.all (BE true))))).obj xi=some (xO j LL0.length):=(Ar (by omega)).trans o2;have o2':(H.set id (wO (b1||!(params.all (BE true))))).obj j=some (.arr 6 (Sx.rows LL0)):=(Ar (by omega)).trans o3;replace zz:=AV s0 s3 s5 hm hpl;refine uZ zz (cp m o1' o2') ?_;refine wy zz ?_;cases m with
  |true=>exact⟨j,⟨sq s0,sq s3,sq s4,sq s5⟩,hI.put hid⟩
  |false=>exact⟨_,⟨sq s0,sq s3,sq s4,sq s5⟩,(hI.put hid).part hid⟩
 ·have hL1:(An LL0 ((params.length:Int)==0) Cr (AB (AG params))).length<=4:=by have:=GW LL0 ((params.length:Int)==0) Cr (AB (AG params));omega
  generalize hLe1:An LL0 ((params.length:Int)==0) Cr (AB (AG params))=LL1 at hL1⊢;generalize hb2:(b1||!(params.all (BE true)))=b2
  clear s0 s3 s4 s5 hI;rintro S H ⟨j,⟨s0,s3,s4,s5⟩,hI⟩;refine CF (λS H=> ∃ j,FR h id xi [A1 name,.imm 2 (A7 params),.sc (.int .i64 dur),A1 sop,A1 sna,.imm 1 (AP sar),.imm 2 (A7 spa),.imm 5 (Ex.rows sex),.imm 6 (Fm.rows ski),A1 vop,A1 vna,.imm 1 (AP var_),.imm 2 (A7 vpa),.imm 5 (Ex.rows vex),.imm 6 (Fm.rows vki),A1 eop,A1 ena,.imm 1 (AP ear),.imm 2 (A7 epa),.imm 5 (Ex.rows eex),.imm 6 (Fm.rows eki),.imm 15 (Ay ats),.imm 15 (Ay ate)] S/\CZ h id b2 xi j (An LL1 (dur==1) Fw (BN dur)) H) ?_ ?_
  ·have hat:=hI.grow.at_;obtain⟨hg,⟨i1,i2,i3,i4,i5⟩,o1,o2,o3⟩:=(show CZ _ _ _ _ _ _ _ from hI);have cD:=λh:A0=>PK (h:=h) (n:=dur);have cp:=λ(m:Bool)(hx:H.obj xi=some (xO j LL1.length))(hj:H.obj j=some (.arr 6 (Sx.rows LL1)))=>Gt (h:=H) (xi:=xi) (j:=j) (L:=LL1) (kw:=Fw) (v:=(BN dur)) (m:=m) hx hj i5 i2 i4 (by omega);generalize hm:(dur==1)=m;simp only[BN,Sx.cells,Sx.rows,Fw]at cD cp;replace zz:=AS s0 s3 s5 hm;refine wy zz ?_;replace zz:=AS s0 s3 s5 hm;(first|refine uV zz (cD _) ?_|refine uJ zz cD ?_);refine wy zz ?_;have o1':H.obj xi=some (xO j LL1.length):=o2;have o2':H.obj j=some (.arr 6 (Sx.rows LL1)):=o3;replace zz:=AS s0 s3 s5 hm;refine uZ zz (cp m o1' o2') ?_;refine wy zz ?_;cases m with
   |true=>exact⟨j,⟨sq s0,sq s3,sq s4,sq s5⟩,hI⟩
   |false=>exact⟨_,⟨sq s0,sq s3,sq s4,sq s5⟩,hI.part hid⟩
  ·have hL2:(An LL1 (dur==1) Fw (BN dur)).length<=6:=(by have:=GW LL1 (dur==1) Fw (BN dur);omega);generalize hLe2:An LL1 (dur==1) Fw (BN dur)=LL2 at hL2⊢;clear s0 s3 s4 s5 hI;rintro S H ⟨j,⟨s0,s3,s4,s5⟩,hI⟩;refine CF (λS H=> ∃ j,FR h id xi [A1 name,.imm 2 (A7 params),.sc (.int .i64 dur),A1 sop,A1 sna,.imm 1 (AP sar),.imm 2 (A7 spa),.imm 5 (Ex.rows sex),.imm 6 (Fm.rows ski),A1 vop,A1 vna,.imm 1 (AP var_),.imm 2 (A7 vpa),.imm 5 (Ex.rows vex),.imm 6 (Fm.rows vki),A1 eop,A1 ena,.imm 1 (AP ear),.imm 2 (A7 epa),.imm 5 (Ex.rows eex),.imm 6 (Fm.rows eki),.imm 15 (Ay ats),.imm 15 (Ay ate)] S/\CZ h id (b2||!(BW (.mk sop sna sar spa sex ski))) xi j (An LL2 (Bx (.mk sop sna sar spa sex ski)) Fx (By (.mk sop sna sar spa sex ski))) H) ?_ ?_
   ·have hat:=hI.grow.at_;obtain⟨hg,⟨i1,i2,i3,i4,i5⟩,o1,o2,o3⟩:=(show CZ _ _ _ _ _ _ _ from hI);have cA:=λh:A0=>Lb (h:=h);have cS:=λh:A0=>KF (.mk sop sna sar spa sex ski) hok.start DC Le h;have hAl:(.mk sop sna sar spa sex ski:Fm).same DC=Bx (.mk sop sna sar spa sex ski):=rfl;rw[hAl]at cS;have cW:=Lc (h:=H) (b:=b2) hok.start hsm.start (by omega) hat;generalize By (.mk sop sna sar spa sex ski)=X at cW⊢;obtain⟨yk,yv,yl,yc,yt,ys⟩:=X;have cp:=λ(m:Bool)(hx:(H.set id (wO (b2||!(BW (.mk sop sna sar spa sex ski))))).obj xi=some (xO j LL2.length))(hj:(H.set id (wO (b2||!(BW (.mk sop sna sar spa sex ski))))).obj j=some (.arr 6 (Sx.rows LL2)))=>Gt (h:=(H.set id (wO (b2||!(BW (.mk sop sna sar spa sex ski)))))) (xi:=xi) (j:=j) (L:=LL2) (kw:=Fx) (v:=(.mk yk yv yl yc yt ys)) (m:=m) hx hj i5 i2 i4 (by omega);generalize hm:(Bx (.mk sop sna sar spa sex ski))=m at cS⊢;simp only[DC,Fm.cells,Sx.cells,Sx.rows,Fx]at cA cS cW cp;replace zz:=AS s0 s3 s5 hm;refine wy zz ?_;replace zz:=AS s0 s3 s5 hm;(first|refine uV zz (cA _) ?_|refine uJ zz cA ?_);refine wy zz ?_;replace zz:=AS s0 s3 s5 hm;(first|refine uV zz (cS _) ?_|refine uJ zz cS ?_);refine wy zz ?_;replace zz:=AS s0 s3 s5 hm;refine uZ zz (cW) ?_;refine wy zz ?_;have o1':(H.set id (wO (b2||!(BW (.mk sop sna sar spa sex ski))))).obj xi=some (xO j LL2.length):=(Ar (by omega)).trans o2;have o2':(H.set id (wO (b2||!(BW (.mk sop sna sar spa sex ski))))).obj j=some (.arr 6 (Sx.rows LL2)):=(Ar (by omega)).trans o3;replace zz:=AS s0 s3 s5 hm;refine uZ zz (cp m o1' o2') ?_;refine wy zz ?_;cases m with
    |true=>exact⟨j,⟨sq s0,sq s3,sq s4,sq s5⟩,hI.put hid⟩
    |false=>exact⟨_,⟨sq s0,sq s3,sq s4,sq s5⟩,(hI.put hid).part hid⟩
   ·have hL3:(An LL2 (Bx (.mk sop sna sar spa sex ski)) Fx (By (.mk sop sna sar spa sex ski))).length<=8:=(by have:=GW LL2 (Bx (.mk sop sna sar spa sex ski)) Fx (By (.mk sop sna sar spa sex ski));omega);generalize hLe3:An LL2 (Bx (.mk sop sna sar spa sex ski)) Fx (By (.mk sop sna sar spa sex ski))=LL3 at hL3⊢;generalize hb3:(b2||!(BW (.mk sop sna sar spa sex ski)))=b3;clear s0 s3 s4 s5 hI;rintro S H ⟨j,⟨s0,s3,s4,s5⟩,hI⟩;refine CF (λS H=> ∃ j,FR h id xi [A1 name,.imm 2 (A7 params),.sc (.int .i64 dur),A1 sop,A1 sna,.imm 1 (AP sar),.imm 2 (A7 spa),.imm 5 (Ex.rows sex),.imm 6 (Fm.rows ski),A1 vop,A1 vna,.imm 1 (AP var_),.imm 2 (A7 vpa),.imm 5 (Ex.rows vex),.imm 6 (Fm.rows vki),A1 eop,A1 ena,.imm 1 (AP ear),.imm 2 (A7 epa),.imm 5 (Ex.rows eex),.imm 6 (Fm.rows eki),.imm 15 (Ay ats),.imm 15 (Ay ate)] S/\CZ h id (b3||!(BW (.mk vop vna var_ vpa vex vki))) xi j (An LL3 (Bx (.mk vop vna var_ vpa vex vki)) Fy (By (.mk vop vna var_ vpa vex vki))) H) ?_ ?_
    ·have hat:=hI.grow.at_;obtain⟨hg,⟨i1,i2,i3,i4,i5⟩,o1,o2,o3⟩:=(show CZ _ _ _ _ _ _ _ from hI);have cA:=λh:A0=>Lb (h:=h);have cS:=λh:A0=>KF (.mk vop vna var_ vpa vex vki) hok.over DC Le h;have hAl:(.mk vop vna var_ vpa vex vki:Fm).same DC=Bx (.mk vop vna var_ vpa vex vki):=rfl;rw[hAl]at cS;have cW:=Lc (h:=H) (b:=b3) hok.over hsm.over (by omega) hat;generalize By (.mk vop vna var_ vpa vex vki)=X at cW⊢;obtain⟨yk,yv,yl,yc,yt,ys⟩:=X;have cp:=λ(m:Bool)(hx:(H.set id (wO (b3||!(BW (.mk vop vna var_ vpa vex vki))))).obj xi=some (xO j LL3.length))(hj:(H.set id (wO (b3||!(BW (.mk vop vna var_ vpa vex vki))))).obj j=some (.arr 6 (Sx.rows LL3)))=>Gt (h:=(H.set id (wO (b3||!(BW (.mk vop vna var_ vpa vex vki)))))) (xi:=xi) (j:=j) (L:=LL3) (kw:=Fy) (v:=(.mk yk yv yl yc yt ys)) (m:=m) hx hj i5 i2 i4 (by omega);generalize hm:(Bx (.mk vop vna var_ vpa vex vki))=m at cS⊢;simp only[DC,Fm.cells,Sx.cells,Sx.rows,Fy]at cA cS cW cp;replace zz:=AS s0 s3 s5 hm;refine wy zz ?_;replace zz:=AS s0 s3 s5 hm;(first|refine uV zz (cA _) ?_|refine uJ zz cA ?_);refine wy zz ?_;replace zz:=AS s0 s3 s5 hm;(first|refine uV zz (cS _) ?_|refine uJ zz cS ?_);refine wy zz ?_;replace zz:=AS s0 s3 s5 hm;refine uZ zz (cW) ?_;refine wy zz ?_;have o1':(H.set id (wO (b3||!(BW (.mk vop vna var_ vpa vex vki))))).obj xi=some (xO j LL3.length):=(Ar (by omega)).trans o2;have o2':(H.set id (wO (b3||!(BW (.mk vop vna var_ vpa vex vki))))).obj j=some (.arr 6 (Sx.rows LL3)):=(Ar (by omega)).trans o3;replace zz:=AS s0 s3 s5 hm;refine uZ zz (cp m o1' o2') ?_;refine wy zz ?_;cases m with
     |true=>exact⟨j,⟨sq s0,sq s3,sq s4,sq s5⟩,hI.put hid⟩
     |false=>exact⟨_,⟨sq s0,sq s3,sq s4,sq s5⟩,(hI.put hid).part hid⟩
    ·have hL4:(An LL3 (Bx (.mk vop vna var_ vpa vex vki)) Fy (By (.mk vop vna var_ vpa vex vki))).length<=10:=(by have:=GW LL3 (Bx (.mk vop vna var_ vpa vex vki)) Fy (By (.mk vop vna var_ vpa vex vki));omega);generalize hLe4:An LL3 (Bx (.mk vop vna var_ vpa vex vki)) Fy (By (.mk vop vna var_ vpa vex vki))=LL4 at hL4⊢;generalize hb4:(b3||!(BW (.mk vop vna var_ vpa vex vki)))=b4;clear s0 s3 s4 s5 hI;rintro S H ⟨j,⟨s0,s3,s4,s5⟩,hI⟩;refine CF (λS H=> ∃ j,FR h id xi [A1 name,.imm 2 (A7 params),.sc (.int .i64 dur),A1 sop,A1 sna,.imm 1 (AP sar),.imm 2 (A7 spa),.imm 5 (Ex.rows sex),.imm 6 (Fm.rows ski),A1 vop,A1 vna,.imm 1 (AP var_),.imm 2 (A7 vpa),.imm 5 (Ex.rows vex),.imm 6 (Fm.rows vki),A1 eop,A1 ena,.imm 1 (AP ear),.imm 2 (A7 epa),.imm 5 (Ex.rows eex),.imm 6 (Fm.rows eki),.imm 15 (Ay ats),.imm 15 (Ay ate)] S/\CZ h id (b4||!(BW (.mk eop ena ear epa eex eki))) xi j (An LL4 (Bx (.mk eop ena ear epa eex eki)) G6 (By (.mk eop ena ear epa eex eki))) H) ?_ ?_
     ·have hat:=hI.grow.at_;obtain⟨hg,⟨i1,i2,i3,i4,i5⟩,o1,o2,o3⟩:=(show CZ _ _ _ _ _ _ _ from hI);have cA:=λh:A0=>Lb (h:=h);have cS:=λh:A0=>KF (.mk eop ena ear epa eex eki) hok.stop DC Le h;have hAl:(.mk eop ena ear epa eex eki:Fm).same DC=Bx (.mk eop ena ear epa eex eki):=rfl;rw[hAl]at cS;have cW:=Lc (h:=H) (b:=b4) hok.stop hsm.stop (by omega) hat;generalize By (.mk eop ena ear epa eex eki)=X at cW⊢;obtain⟨yk,yv,yl,yc,yt,ys⟩:=X;have cp:=λ(m:Bool)(hx:(H.set id (wO (b4||!(BW (.mk eop ena ear epa eex eki))))).obj xi=some (xO j LL4.length))(hj:(H.set id (wO (b4||!(BW (.mk eop ena ear epa eex eki))))).obj j=some (.arr 6 (Sx.rows LL4)))=>Gt (h:=(H.set id (wO (b4||!(BW (.mk eop ena ear epa eex eki)))))) (xi:=xi) (j:=j) (L:=LL4) (kw:=G6) (v:=(.mk yk yv yl yc yt ys)) (m:=m) hx hj i5 i2 i4 (by omega);generalize hm:(Bx (.mk eop ena ear epa eex eki))=m at cS⊢;simp only[DC,Fm.cells,Sx.cells,Sx.rows,G6]at cA cS cW cp;replace zz:=AS s0 s3 s5 hm;refine wy zz ?_;replace zz:=AS s0 s3 s5 hm;(first|refine uV zz (cA _) ?_|refine uJ zz cA ?_);refine wy zz ?_;replace zz:=AS s0 s3 s5 hm;(first|refine uV zz (cS _) ?_|refine uJ zz cS ?_);refine wy zz ?_;replace zz:=AS s0 s3 s5 hm;refine uZ zz (cW) ?_;refine wy zz ?_;have o1':(H.set id (wO (b4||!(BW (.mk eop ena ear epa eex eki))))).obj xi=some (xO j LL4.length):=(Ar (by omega)).trans o2;have o2':(H.set id (wO (b4||!(BW (.mk eop ena ear epa eex eki))))).obj j=some (.arr 6 (Sx.rows LL4)):=(Ar (by omega)).trans o3;replace zz:=AS s0 s3 s5 hm;refine uZ zz (cp m o1' o2') ?_;refine wy zz ?_;cases m with
      |true=>exact⟨j,⟨sq s0,sq s3,sq s4,sq s5⟩,hI.put hid⟩
      |false=>exact⟨_,⟨sq s0,sq s3,sq s4,sq s5⟩,(hI.put hid).part hid⟩
     ·have hL5:(An LL4 (Bx (.mk eop ena ear epa eex eki)) G6 (By (.mk eop ena ear epa eex eki))).length<=12:=(by have:=GW LL4 (Bx (.mk eop ena ear epa eex eki)) G6 (By (.mk eop ena ear epa eex eki));omega);generalize hLe5:An LL4 (Bx (.mk eop ena ear epa eex eki)) G6 (By (.mk eop ena ear epa eex eki))=LL5 at hL5⊢;generalize hb5:(b4||!(BW (.mk eop ena ear epa eex eki)))=b5;clear s0 s3 s4 s5 hI;rintro S H ⟨j,⟨s0,s3,s4,s5⟩,hI⟩;refine CF (λS H=> ∃ j,FR h id xi [A1 name,.imm 2 (A7 params),.sc (.int .i64 dur),A1 sop,A1 sna,.imm 1 (AP sar),.imm 2 (A7 spa),.imm 5 (Ex.rows sex),.imm 6 (Fm.rows ski),A1 vop,A1 vna,.imm 1 (AP var_),.imm 2 (A7 vpa),.imm 5 (Ex.rows vex),.imm 6 (Fm.rows vki),A1 eop,A1 ena,.imm 1 (AP ear),.imm 2 (A7 epa),.imm 5 (Ex.rows eex),.imm 6 (Fm.rows eki),.imm 15 (Ay ats),.imm 15 (Ay ate)] S/\CZ h id (b5||!(ats.all C0)) xi j (An LL5 ((ats.length:Int)==0) G7 (Cx ats)) H) ?_ ?_
      ·have hat:=hI.grow.at_;obtain⟨hg,⟨i1,i2,i3,i4,i5⟩,o1,o2,o3⟩:=(show CZ _ _ _ _ _ _ _ from hI);have hpl:=HG ats;have cE:=PH (h:=H) (b:=b5) hsm.atS.1 hok.atStart.2 hsm.atS.2 (by omega) hat;generalize Cx ats=X at cE⊢;obtain⟨yk,yv,yl,yc,yt,ys⟩:=X;have cp:=λ(m:Bool)(hx:(H.set id (wO (b5||!(ats.all C0)))).obj xi=some (xO j LL5.length))(hj:(H.set id (wO (b5||!(ats.all C0)))).obj j=some (.arr 6 (Sx.rows LL5)))=>Gt (h:=(H.set id (wO (b5||!(ats.all C0))))) (xi:=xi) (j:=j) (L:=LL5) (kw:=G7) (v:=(.mk yk yv yl yc yt ys)) (m:=m) hx hj i5 i2 i4 (by omega);generalize hm:((ats.length:Int)==0)=m;simp only[AB,Sx.cells,Sx.rows,G7]at cE cp;replace zz:=AV s0 s3 s5 hm hpl;refine wy zz ?_;replace zz:=AV s0 s3 s5 hm hpl;refine uZ zz (cE) ?_;refine wy zz ?_;have o1':(H.set id (wO (b5||!(ats.all C0)))).obj xi=some (xO j LL5.length):=(Ar (by omega)).trans o2;have o2':(H.set id (wO (b5||!(ats.all C0)))).obj j=some (.arr 6 (Sx.rows LL5)):=(Ar (by omega)).trans o3;replace zz:=AV s0 s3 s5 hm hpl;refine uZ zz (cp m o1' o2') ?_;refine wy zz ?_;cases m with
       |true=>exact⟨j,⟨sq s0,sq s3,sq s4,sq s5⟩,hI.put hid⟩
       |false=>exact⟨_,⟨sq s0,sq s3,sq s4,sq s5⟩,(hI.put hid).part hid⟩
      ·have hL6:(An LL5 ((ats.length:Int)==0) G7 (Cx ats)).length<=14:=(by have:=GW LL5 ((ats.length:Int)==0) G7 (Cx ats);omega);generalize hLe6:An LL5 ((ats.length:Int)==0) G7 (Cx ats)=LL6 at hL6⊢;generalize hb6:(b5||!(ats.all C0))=b6;clear s0 s3 s4 s5 hI;rintro S H ⟨j,⟨s0,s3,s4,s5⟩,hI⟩;refine CF (λS H=> ∃ j,FR h id xi [A1 name,.imm 2 (A7 params),.sc (.int .i64 dur),A1 sop,A1 sna,.imm 1 (AP sar),.imm 2 (A7 spa),.imm 5 (Ex.rows sex),.imm 6 (Fm.rows ski),A1 vop,A1 vna,.imm 1 (AP var_),.imm 2 (A7 vpa),.imm 5 (Ex.rows vex),.imm 6 (Fm.rows vki),A1 eop,A1 ena,.imm 1 (AP ear),.imm 2 (A7 epa),.imm 5 (Ex.rows eex),.imm 6 (Fm.rows eki),.imm 15 (Ay ats),.imm 15 (Ay ate)] S/\CZ h id (b6||!(ate.all C0)) xi j (An LL6 ((ate.length:Int)==0) G8 (Cx ate)) H) ?_ ?_
       ·have hat:=hI.grow.at_;obtain⟨hg,⟨i1,i2,i3,i4,i5⟩,o1,o2,o3⟩:=(show CZ _ _ _ _ _ _ _ from hI);have hpl:=HG ate;have cE:=PH (h:=H) (b:=b6) hsm.atE.1 hok.atStop.2 hsm.atE.2 (by omega) hat;generalize Cx ate=X at cE⊢;obtain⟨yk,yv,yl,yc,yt,ys⟩:=X;have cp:=λ(m:Bool)(hx:(H.set id (wO (b6||!(ate.all C0)))).obj xi=some (xO j LL6.length))(hj:(H.set id (wO (b6||!(ate.all C0)))).obj j=some (.arr 6 (Sx.rows LL6)))=>Gt (h:=(H.set id (wO (b6||!(ate.all C0))))) (xi:=xi) (j:=j) (L:=LL6) (kw:=G8) (v:=(.mk yk yv yl yc yt ys)) (m:=m) hx hj i5 i2 i4 (by omega);generalize hm:((ate.length:Int)==0)=m;simp only[AB,Sx.cells,Sx.rows,G8]at cE cp;replace zz:=AV s0 s3 s5 hm hpl;refine wy zz ?_;replace zz:=AV s0 s3 s5 hm hpl;refine uZ zz (cE) ?_;refine wy zz ?_;have o1':(H.set id (wO (b6||!(ate.all C0)))).obj xi=some (xO j LL6.length):=(Ar (by omega)).trans o2;have o2':(H.set id (wO (b6||!(ate.all C0)))).obj j=some (.arr 6 (Sx.rows LL6)):=(Ar (by omega)).trans o3;replace zz:=AV s0 s3 s5 hm hpl;refine uZ zz (cp m o1' o2') ?_;refine wy zz ?_;cases m with
        |true=>exact⟨j,⟨sq s0,sq s3,sq s4,sq s5⟩,hI.put hid⟩
        |false=>exact⟨_,⟨sq s0,sq s3,sq s4,sq s5⟩,(hI.put hid).part hid⟩
       ·have hL7:(An LL6 ((ate.length:Int)==0) G8 (Cx ate)).length<=16:=(by have:=GW LL6 ((ate.length:Int)==0) G8 (Cx ate);omega);generalize hLe7:An LL6 ((ate.length:Int)==0) G8 (Cx ate)=LL7 at hL7⊢;generalize hb7:(b6||!(ate.all C0))=b7;clear s0 s3 s4 s5 hI;rintro S H ⟨j,⟨s0,s3,s4,s5⟩,hI⟩;have hLL:Eo ⟨name,params,dur,.mk sop sna sar spa sex ski,.mk vop vna var_ vpa vex vki,.mk eop ena ear epa eex eki,ats,ate⟩=AB LL7:=(by rw[← hLe7, ← hLe6, ← hLe5, ← hLe4, ← hLe3, ← hLe2, ← hLe1, ← hLe0];try rfl);have hBB:(b||!Ep ⟨name,params,dur,.mk sop sna sar spa sex ski,.mk vop vna var_ vpa vex vki,.mk eop ena ear epa eex eki,ats,ate⟩)=b7:=by
         rw[← hb7, ← hb6, ← hb5, ← hb4, ← hb3, ← hb2, ← hb1];unfold Ep;simp only;cases b<;>cases Ak name<;>cases params.all (BE true)<;>cases BW (.mk sop sna sar spa sex ski)<;>cases BW (.mk vop vna var_ vpa vex vki)<;>cases BW (.mk eop ena ear epa eex eki)<;>cases ats.all C0<;>cases ate.all C0<;>rfl
        rw[hLL,hBB];obtain⟨hg,⟨i1,i2,i3,i4,i5⟩,o1,o2,o3⟩:=hI;simp only[xO]at o2;have n1:(h.next=xi)=False:=BF (by omega);replace zz:=AV s4 s5 o1 o2 n1;refine wt zz ?_;refine⟨?_,hg.set hid (AF _)⟩;simp only[AB,Sx.cells,AZ,B4];refine⟨_,rfl,rfl,rfl,rfl,rfl,rfl,.inr (.inr ⟨j,0,LL7.length,Sx.rows LL7,rfl,by omega,?_,?_,?_⟩),trivial⟩
        ·simp only[A0.set];rw[A4 (by omega)];exact o3
        ·rw [Sx.rows_len];omega
        ·rw [List.drop_zero,List.take_of_length_le (by rw[Sx.rows_len];omega)];exact Ff _ _ _
theorem AA.weak{P:Program}{f:FuncId}{args:List PV}{h:A0}{K:PV->A0->Prop}(hc:AA P f args h λr' h'=> ∃ r h2,K r h2/\Wk (λ_=>r') h' (λ_=>r) h2):AA P f args h K:=by
 intro β w vals sm hr;refine(hc β w vals sm hr).mono ?_;rintro e w' ⟨r',h',β',v,rfl,⟨r,h2,hK,hw⟩,sm',hrep,ex⟩;obtain⟨k1,k2,k3⟩:=hw β' w' sm';exact⟨r,h2,β',v,rfl,hK,k1,k3 0 _ hrep,ex.trans k2⟩
def E9(h:A0)(xi j:Nat)(L:List Sx):A0:=⟨h.next+18+1+1+1,λi=>if i=xi then some (xO (h.next+18+1+1) L.length)else if i=h.next+18+1+1 then some (.arr 6 (Sx.rows L))else if i=j then none else if i<h.next then h.obj i else none⟩
theorem NL{h:A0}{xi j:Nat}{L ks:List Sx}{kw:ByteArray}(hx:h.obj xi=some (xO j L.length))(hj:h.obj j=some (.arr 6 (Sx.rows L)))(hne:xi≠j)(hxl:xi<h.next)(hjl:j<h.next)(hL:L.length<=1048580)(hks:ks.length<=4194304):
  AA prog 42 [.ptr xi 0 0,A1 kw,.imm 6 (Sx.rows ks)] h λr h'=>r=EV []/\h'=(if ks.isEmpty=true then h else E9 h xi j (L++[AB (A5 kw::ks)])):=by
 have hw: ∀ (s:ByteArray)(h:A0),AA prog 40 [A1 s] h λr h'=>r= .agg (A5 s).cells/\h'=h:=λs h=>IB;simp only[A5,Sx.cells,Sx.rows]at hw;have hkl:=Sx.rows_len ks;cases q0:ks.isEmpty with
 |true=>
  have d0:decide ((ks.length:Int)>0)=false:=by rw[List.isEmpty_iff.1 q0];try rfl
  have d1:((0:Int)<(ks.length:Int))=False:=BF (by rw[List.isEmpty_iff.1 q0];simp);refine AN func42 ntmps42 results42 Ty.R7 ?_;refine wt (Aj hkl d0 d1) ?_;simp only[GH,F6];exact⟨trivial,trivial⟩
 |false=>
  have hpos:0<ks.length:=by
   cases ks with
   |nil=>cases q0
   |cons a l=>simp
  have d0:decide ((ks.length:Int)>0)=true:=by simp;omega
  have d1:((0:Int)<(ks.length:Int))=True:=IK (by omega);have hrl:(Sx.rows L).length=L.length:=Sx.rows_len L;have hb1:(1+ks.length)*72<=140737488355328:=by omega
  have hb2:(L.length+1)*72<=140737488355328:=by omega
  have htk:List.take L.length (Sx.rows L)=Sx.rows L:=List.take_of_length_le (by omega);have c1:(Value.int IntKind.i64 0).oneCell'=true:=rfl;have c2:(Value.string ⟨#[]⟩).oneCell'=true:=rfl;have c3:(Value.slice none 0 0).oneCell'=true:=rfl;have n1:(xi=h.next+18)=False:=BF (by omega);have n2:(xi=h.next+18+1)=False:=BF (by omega);have n3:(j=h.next+18)=False:=BF (by omega);have n4:(j=h.next+18+1)=False:=BF (by omega);simp only[xO]at hx;have hl3: ∀ H:A0,h.next+18+1<H.next->AA prog 39 [.own (h.next+18+1) 0 (1+ks.length)] H λr h'=>r= .agg [.sc (.int .i64 3),.sc (.int .i64 0),.sc (.int .i64 0),.sc (.int .i64 0),.sc (.string ⟨#[]⟩),.own (h.next+18+1) 0 (1+ks.length)]/\h'=H:=λH hh=>IC rfl (λ_=>IY hh)
  refine AA.drop (AA.weak ?_);refine uG (ow:=λt=>t==15) (wf:=λ_=>false) func42 ntmps42 results42 Ty.R7 ?_;refine xB 1 (Aj hkl d0 d1) ?_;refine⟨?_⟩;refine N6 13 (by decide+kernel) λK hK=>?_;simp only[List.take_succ_cons,List.take_zero,List.drop_succ_cons,List.drop_zero];simp(maxSteps:=4000000) only[Ty.w,simprocAttr,Ty.AU,c1,c2,c3,hx,hj,hrl,hkl,htk,hb1,hb2,n1,n2,n3,n4,d0,d1,AF];replace zz:=AJ c1 c2 c3 hx hj hrl hkl htk hb1 hb2 n1 (AK n2 n3 n4 d0 d1 @AF);first|refine uV zz (hw kw _) ?_|refine Mn zz (hw kw _) ?_
  refine⟨by(try simp(maxSteps:=4000000) only[List.forall_mem_cons,Ty.w,simprocAttr,Ty.AU,c1,c2,c3,hx,hj,hrl,hkl,htk,hb1,hb2,n1,n2,n3,n4,d0,d1,AF])<;>((repeat' apply And.intro)<;>first|trivial|exact .inl (by decide+kernel)|exact .inr A2|exact .inr (C9 (hw kw _) (sr (AJ c1 c2 c3 hx hj hrl hkl htk hb1 hb2 n1 (AK n2 n3 n4 d0 d1 @AF))))|exact(λ_ hx=>by cases hx)),?_⟩;try simp(maxSteps:=4000000) only[Ty.w,simprocAttr,Ty.AU,c1,c2,c3,hx,hj,hrl,hkl,htk,hb1,hb2,n1,n2,n3,n4,d0,d1,AF]
  refine⟨by(try simp(maxSteps:=4000000) only[List.forall_mem_cons,Ty.w,simprocAttr,Ty.AU,c1,c2,c3,hx,hj,hrl,hkl,htk,hb1,hb2,n1,n2,n3,n4,d0,d1,AF])<;>((repeat' apply And.intro)<;>first|trivial|exact .inl (by decide+kernel)|exact .inr A2|exact .inr (C9 (hw kw _) (sr (AJ c1 c2 c3 hx hj hrl hkl htk hb1 hb2 n1 (AK n2 n3 n4 d0 d1 @AF))))|exact(λ_ hx=>by cases hx)),?_⟩;try simp(maxSteps:=4000000) only[Ty.w,simprocAttr,Ty.AU,c1,c2,c3,hx,hj,hrl,hkl,htk,hb1,hb2,n1,n2,n3,n4,d0,d1,AF]
  replace zz:=AJ c1 c2 c3 hx hj hrl hkl htk hb1 hb2 n1 (AK n2 n3 n4 d0 d1 @AF);first|refine uV zz (hl3 _ (by simp[A0.new,A0.kill])) ?_|refine Mn zz (hl3 _ (by simp[A0.new,A0.kill])) ?_
  refine⟨by simp only[List.forall_mem_cons];(repeat' apply And.intro)<;>first|exact .inl (by decide+kernel)|exact(λ_ hx=>by cases hx),?_⟩;have hset1: ∀ x:List PV,(Sx.rows L++[BJ]).set L.length x=Sx.rows L++[x]:=λx=>by rw[List.set_append_right _ _ (by omega),hrl,J1];try rfl
  have hget1:(Sx.rows L++[BJ])[L.length]? =some BJ:=by rw[List.getElem?_append_right (by omega),hrl,J1];try rfl
  have hN1:(((((A0.new ⟨h.next+18,h.obj⟩ (.arr 6 [[.sc (.int .i64 1),.sc (.int .i64 0),.sc (.int .i64 0),.sc (.int .i64 0),A1 kw,.imm 6 []]])).kill (h.next+18)).new (.arr 6 ([.sc (.int .i64 1),.sc (.int .i64 0),.sc (.int .i64 0),.sc (.int .i64 0),A1 kw,.imm 6 []]::Sx.rows ks))).kill j).new (.arr 6 (Sx.rows L++[BJ]))).obj (h.next+18+1+1)=some (.arr 6 (Sx.rows L++[BJ])):=by simp only[A0.new,A0.kill,AC]
  have hX1:(((((A0.new ⟨h.next+18,h.obj⟩ (.arr 6 [[.sc (.int .i64 1),.sc (.int .i64 0),.sc (.int .i64 0),.sc (.int .i64 0),A1 kw,.imm 6 []]])).kill (h.next+18)).new (.arr 6 ([.sc (.int .i64 1),.sc (.int .i64 0),.sc (.int .i64 0),.sc (.int .i64 0),A1 kw,.imm 6 []]::Sx.rows ks))).kill j).new (.arr 6 (Sx.rows L++[BJ]))).obj xi=some (xO j L.length):=by
   simp only[A0.new,A0.kill];rw[A4 (by omega),A4 hne,A4 (by omega),A4 (by omega),A4 (by omega)];exact hx
  have hM1:(((((A0.new ⟨h.next+18,h.obj⟩ (.arr 6 [[.sc (.int .i64 1),.sc (.int .i64 0),.sc (.int .i64 0),.sc (.int .i64 0),A1 kw,.imm 6 []]])).kill (h.next+18)).new (.arr 6 ([.sc (.int .i64 1),.sc (.int .i64 0),.sc (.int .i64 0),.sc (.int .i64 0),A1 kw,.imm 6 []]::Sx.rows ks))).kill j).new (.arr 6 (Sx.rows L++[BJ]))).obj (h.next+18+1)=some (.arr 6 ([.sc (.int .i64 1),.sc (.int .i64 0),.sc (.int .i64 0),.sc (.int .i64 0),A1 kw,.imm 6 []]::Sx.rows ks)):=by
   simp only[A0.new,A0.kill];rw[A4 (by omega),A4 (by omega),AH A2]
  have hO1: ∀ i,i<h.next->i≠j->(((((A0.new ⟨h.next+18,h.obj⟩ (.arr 6 [[.sc (.int .i64 1),.sc (.int .i64 0),.sc (.int .i64 0),.sc (.int .i64 0),A1 kw,.imm 6 []]])).kill (h.next+18)).new (.arr 6 ([.sc (.int .i64 1),.sc (.int .i64 0),.sc (.int .i64 0),.sc (.int .i64 0),A1 kw,.imm 6 []]::Sx.rows ks))).kill j).new (.arr 6 (Sx.rows L++[BJ]))).obj i=h.obj i:=λi hi hij=>by
   simp only[A0.new,A0.kill];rw[A4 (by omega),A4 hij,A4 (by omega),A4 (by omega),A4 (by omega)]
  have hn1:(((((A0.new ⟨h.next+18,h.obj⟩ (.arr 6 [[.sc (.int .i64 1),.sc (.int .i64 0),.sc (.int .i64 0),.sc (.int .i64 0),A1 kw,.imm 6 []]])).kill (h.next+18)).new (.arr 6 ([.sc (.int .i64 1),.sc (.int .i64 0),.sc (.int .i64 0),.sc (.int .i64 0),A1 kw,.imm 6 []]::Sx.rows ks))).kill j).new (.arr 6 (Sx.rows L++[BJ]))).next=h.next+18+1+1+1:=rfl
  generalize((((A0.new ⟨h.next+18,h.obj⟩ (.arr 6 [[.sc (.int .i64 1),.sc (.int .i64 0),.sc (.int .i64 0),.sc (.int .i64 0),A1 kw,.imm 6 []]])).kill (h.next+18)).new (.arr 6 ([.sc (.int .i64 1),.sc (.int .i64 0),.sc (.int .i64 0),.sc (.int .i64 0),A1 kw,.imm 6 []]::Sx.rows ks))).kill j).new (.arr 6 (Sx.rows L++[BJ]))=H1 at hN1 hX1 hM1 hO1 hn1⊢;refine GS (.ptr (h.next+18+1+1) L.length 0) [h.next+18+1+1] (.inr (by decide+kernel)) (by decide) rfl rfl (λH hH=>by
   have hH:=(hH _ (List.mem_singleton.2 rfl)).trans hN1;have q1:(L.length<L.length+1)=True:=IK (by omega);simp only[Ty.w,simprocAttr,Ty.AU,hH,q1,c1,c2,c3,hrl,hkl,hb2,AF]) dL ?_
  refine I4 (ob:= .arr 6 (Sx.rows L++[[.sc (.int .i64 3),.sc (.int .i64 0),.sc (.int .i64 0),.sc (.int .i64 0),.sc (.string ⟨#[]⟩),.own (h.next+18+1) 0 (1+ks.length)]])) rfl (by decide) rfl (by simp only[Ty.w,simprocAttr,Ty.AU];try rfl) (by
   simp only[Ty.w,simprocAttr,Ty.AU,hN1,hget1,hset1,c1,c2,c3,hrl,hkl,hb2,AF];try rfl) (λf q hf hq ha=>by rcases(show f=15\/f=16\/f=17 from by have hfl:=(List.getElem?_eq_some_iff.1 hq).1;simp only[List.length_cons,List.length_nil]at hfl;omega)with rfl|rfl|rfl<;>(simp only[List.getElem?_cons_succ,List.getElem?_cons_zero,Ag]at hq;subst hq;revert ha;decide+kernel)) dL dL ?_
  refine GS (.ptr xi 0 0) [] (.inl rfl) (by decide) rfl rfl (λH _=>by(try simp only[Ty.w,simprocAttr,Ty.AU,c1,c2,c3,hrl,hkl,hb2,AF]);try rfl) dL ?_;refine GS (.ptr xi 0 5) [] (.inl rfl) (by decide) rfl rfl (λH _=>by(try simp only[Ty.w,simprocAttr,Ty.AU,c1,c2,c3,hrl,hkl,hb2,AF]);try rfl) dL ?_;have nX:(xi=h.next+18+1+1)=False:=BF (by omega);have hX2:=hX1;simp only[xO]at hX2;refine I4 (ob:=xO (h.next+18+1+1) (L.length+1)) rfl (by decide) rfl (by simp only[Ty.w,simprocAttr,Ty.AU];try rfl) (by
   simp only[Ty.w,simprocAttr,Ty.AU,hX2,nX,c1,c2,c3,hrl,hkl,hb2,AF];try rfl) (λf q hf hq ha=>by have hfl:=(List.getElem?_eq_some_iff.1 hq).1;simp only[List.length_cons,List.length_nil]at hfl;omega) dL dL ?_
  refine N7 (hK _ _ ?_);simp only[GH,F6];have hlen:(L++[AB (A5 kw::ks)]).length=L.length+1:=by simp
  have hRL:Sx.rows (L++[AB (A5 kw::ks)])=Sx.rows L++[[.sc (.int .i64 3),.sc (.int .i64 0),.sc (.int .i64 0),.sc (.int .i64 0),.sc (.string ⟨#[]⟩),.imm 6 ([.sc (.int .i64 1),.sc (.int .i64 0),.sc (.int .i64 0),.sc (.int .i64 0),A1 kw,.imm 6 []]::Sx.rows ks)]]:=by simp[Sx.rows_map,AB,A5,Sx.cells,Sx.rows,A1]
  have oM:((H1.set (h.next+18+1+1) (.arr 6 (Sx.rows L++[[.sc (.int .i64 3),.sc (.int .i64 0),.sc (.int .i64 0),.sc (.int .i64 0),.sc (.string ⟨#[]⟩),.own (h.next+18+1) 0 (1+ks.length)]]))).set xi (xO (h.next+18+1+1) (L.length+1))).obj (h.next+18+1)=some (.arr 6 ([.sc (.int .i64 1),.sc (.int .i64 0),.sc (.int .i64 0),.sc (.int .i64 0),A1 kw,.imm 6 []]::Sx.rows ks)):=(Ar (by omega)).trans ((Ar (by omega)).trans hM1);have oN:((H1.set (h.next+18+1+1) (.arr 6 (Sx.rows L++[[.sc (.int .i64 3),.sc (.int .i64 0),.sc (.int .i64 0),.sc (.int .i64 0),.sc (.string ⟨#[]⟩),.own (h.next+18+1) 0 (1+ks.length)]]))).set xi (xO (h.next+18+1+1) (L.length+1))).obj (h.next+18+1+1)=some (.arr 6 (Sx.rows L++[[.sc (.int .i64 3),.sc (.int .i64 0),.sc (.int .i64 0),.sc (.int .i64 0),.sc (.string ⟨#[]⟩),.own (h.next+18+1) 0 (1+ks.length)]])):=(Ar (by omega)).trans DU;have hgv:EO (h.next+18+1) 6 ([.sc (.int .i64 1),.sc (.int .i64 0),.sc (.int .i64 0),.sc (.int .i64 0),A1 kw,.imm 6 []]::Sx.rows ks) (Sx.rows L++[[.sc (.int .i64 3),.sc (.int .i64 0),.sc (.int .i64 0),.sc (.int .i64 0),.sc (.string ⟨#[]⟩),.own (h.next+18+1) 0 (1+ks.length)]]) (Sx.rows (L++[AB (A5 kw::ks)])):=by
   rw[hRL];refine EO.snoc ?_ _;simp only[EN,Gv];exact⟨.inl A2,.inl A2,.inl A2,.inl A2,.inl A2,.inr ⟨by rw[List.length_cons,hkl,Nat.add_comm ks.length 1],trivial⟩,trivial⟩
  refine⟨_,_,?_,Wk.give oM oN (by omega) hgv⟩;rw[← hlen];generalize L++[AB (A5 kw::ks)]=L2;refine⟨EV [],E9 h xi j L2,⟨rfl,by simp⟩,by simp[EV,AZ,B4],by simp only[E9];omega,λi o hio=>?_⟩;simp only[E9]at hio⊢;simp only[HN];by_cases h1:i=xi
  ·subst h1;rw[AH rfl]at hio;obtain rfl:=H7 hio;exact⟨(Ar (by omega)).trans ((Dv (by omega)).trans DU),by omega,.inr (by simp[xO,De,BG,BZ,BD])⟩
  ·rw [A4 h1]at hio;by_cases h2:i=h.next+18+1+1
   ·subst h2;rw[AH rfl]at hio;obtain rfl:=H7 hio;exact⟨DU,by omega,.inr (by simp only[De];exact Fe _ _)⟩
   ·rw [A4 h2]at hio;by_cases h3:i=j
    ·rw [AH h3]at hio;cases hio
    ·rw [A4 h3]at hio;by_cases h4:i<h.next
     ·rw [AH h4]at hio;exact⟨((Ar h2).trans ((Dv (by omega)).trans ((Ar h1).trans ((Ar h2).trans (hO1 i h4 h3))))).trans hio,by omega,.inl hio⟩
     ·rw [A4 h4]at hio;cases hio
def TO(z:Nat)(rows:List (List PV))(q:PV):Prop:=(∃ a cap,q= .sc (.slice a 0 cap)/\rows=[])\/(q= .imm z rows/\rows≠[])
theorem TO.pc{z:Nat}{rows:List (List PV)}{q:PV}(h:TO z rows q):q.cells=[q]/\C8 q=true:=by
 rcases h with⟨_,_,rfl,_⟩|⟨rfl,_⟩<;>exact⟨rfl,rfl⟩
theorem Sx.nodes_le{x:Sx}: ∀ {l:List Sx},x∈l->x.nodes<=Sx.nodess l
 |y::l,h=>by
  simp only[Sx.nodess];rcases List.mem_cons.1 h with rfl|h
  ·omega
  ·have:=Sx.nodes_le h;omega
set_option maxHeartbeats 2000000
structure NH.okN(S:NH)(n:Nat):Prop where
 params: ∀ p∈S.params,p.ok
 plen:S.params.length+n<=1048576
 whens: ∀ f∈S.whens,f.ok/\f.small
 wlen:S.whens.length+n<=1048576
theorem NH.okN.mono{S:NH}{n m:Nat}(h:S.okN n)(hm:m<=n):S.okN m:=⟨h.params,by have:=h.plen;omega,h.whens,by have:=h.wlen;omega⟩
theorem PM:(Sx.mk 0 0 0 0 ⟨#[]⟩ []).ok:=⟨⟨by decide,by decide⟩,⟨by decide,by decide⟩,by decide,by simp,trivial⟩
theorem Lh{f:Fm}(h:f.ok)(hs:f.small):(By f).ok:=by
 unfold By;cases hv:BW f with
 |false=>exact PM
 |true=>exact Ji f h hs (HV hv)
theorem bo{e:Ex}(h:e.ok)(hs:e.small):(IA e).ok:=by
 unfold IA;cases EM e with
 |false=>exact PM
 |true=>exact My e h hs
theorem PN{a b:Sx}(ha:a.ok)(hb:b.ok):(AB [a,b]).ok:=E7 (by simp[AE]) ⟨ha,hb,trivial⟩
theorem Iu{a b c:Sx}(ha:a.ok)(hb:b.ok)(hc:c.ok):(AB [a,b,c]).ok:=E7 (by simp[AE]) ⟨ha,hb,hc,trivial⟩
theorem bp(k:Int):(A5 (Jj k)).ok:=by
 unfold Jj;cases k==3<;>cases k==4<;>exact CJ (by decide)
theorem bq{c:Ch}(h:c.ok)(hs:FE c):(HX c).ok:=by
 have hw:(Bv c.name c.args).ok:=LL h.name hs.args h.args.2;unfold HX;cases c.kind==1 with
 |true=>exact hw
 |false=>
  simp only[CH];cases c.kind==2 with
  |true=>exact PN (CJ (by decide)) hw
  |false=>
   simp only[CH];cases c.kind==3||c.kind==4||c.kind==5 with
   |true=>exact Iu (bp _) hw (bo h.value hs.value)
   |false=>exact hw
theorem bs{c:Ch}(h:c.ok)(hs:FE c):(HY c).ok:=by
 have h1:=bq h hs;unfold HY;cases Bx c.cond with
 |true=>exact h1
 |false=>exact Iu (CJ (by decide)) (Lh h.cond hs.cond) h1
theorem bt{c:Ch}(h:c.ok)(hs:FE c):(EP c).ok:=by
 have h2:=bs h hs;unfold EP;cases c.params.isEmpty with
 |true=>exact h2
 |false=>exact Iu (CJ (by decide)) (E7 (by rw[D9];have:=hs.params;unfold AE;omega) (I8 _ h.params.2)) h2
theorem PO{l:List Ch}(hl:l.length<=1048576)(h: ∀ c∈l,c.ok/\FE c):(Cx l).ok:=by
 unfold Cx;cases l.isEmpty with
 |true=>exact E7 (by simp) trivial
 |false=>
  refine E7 (by simp only[List.length_cons,List.length_map,AE];omega) ⟨CJ (by decide),?_⟩;rw[Sx.oks_iff];intro k hk;rw[List.mem_map]at hk;obtain⟨c,hc,rfl⟩:=hk;exact bt (h c hc).1 (h c hc).2
theorem PP{f:Fm}(h:Bx f=true):f=DC:=by
 obtain⟨op,na,a,p,e,k⟩:=f;simp only[Bx,DC,Fm.same,AT]at h;obtain⟨⟨⟨⟨⟨h1,h2⟩,h3⟩,h4⟩,h5⟩,h6⟩:=h;have e1:=Ec h1;have e2:=Ec h2;have e3:a=[]:=by cases a<;>simp_all [DR]
 have e4:p=[]:=by cases p<;>simp_all [E5]
 have e5:e=[]:=by cases e<;>simp_all [Ex.sames]
 have e6:k=[]:=by cases k<;>simp_all [Fm.sames]
 rw[e1,e2,e3,e4,e5,e6];try rfl
theorem bu{e:Ex}(h:EM e=true):Br e=true:=by
 unfold EM at h;simp only[AT]at h;exact LK e 0 0 h.1
end Go.Proofs.YtblgchkahpgdjaaGreat
