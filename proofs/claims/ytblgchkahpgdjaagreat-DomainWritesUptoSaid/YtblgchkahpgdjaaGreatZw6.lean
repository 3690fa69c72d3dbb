/- What the claim rests on, part 6: the abstract machine, contracts of the functions, plain data. -/
import Derived.Test.YtblgchkahpgdjaaGreatZw5
set_option linter.unusedVariables false
set_option linter.unusedSimpArgs false
set_option linter.unusedSectionVars false
namespace Go.Proofs.YtblgchkahpgdjaaGreat
open Go.AM Go.Proofs.Tryz
set_option maxHeartbeats 2000000
set_option maxRecDepth 20000
theorem Z0(n:Nat): ∀ x:Sx,BZ n x.cells:=by
 refine Sx.ind ?_;intro kind value line col text kids ih;have:BG n (Sx.rows kids):=by
  clear kind value line col text
  induction kids with
  |nil=>simp only[Sx.rows,BG]
  |cons k ks ih2=>
   simp only[Sx.rows,BG];exact⟨ih k (by simp),ih2 λq hq=>ih q (by simp[hq])⟩
 simp only[Sx.cells,BZ,BD,FK,He];exact this
theorem Fe(n:Nat): ∀ l:List Sx,BG n (Sx.rows l)
 |[]=>by simp only[Sx.rows,BG]
 |k::ks=>by simp only[Sx.rows,BG];exact⟨Z0 n k,Fe n ks⟩
theorem Do(n:Nat)(h:A0)(x:Sx):B4 n h x.cells x.cells:=by
 obtain⟨kind,value,line,col,text,kids⟩:=x;simp only[Sx.cells,B4,AZ,FK,He];exact .inl (Fe n kids)
theorem Ff(n:Nat)(h:A0): ∀ l:List Sx,D5 n h (Sx.rows l) (Sx.rows l)
 |[]=>by simp only[Sx.rows,D5]
 |k::ks=>by simp only[Sx.rows,D5];exact⟨Do n h k,Ff n h ks⟩
theorem AA.frz{P:Program}{f:FuncId}{args:List PV}{h:A0}{v:PV}(hb:Af P f=true)(hc:AA P f args h λr' h'=>AZ h.next h' v r'/\AL h h'):AA P f args h λr h'=>r=v/\h'=h:=by
 refine GN hb λhw=>AA.drop (hc.mono ?_);rintro r' h' ⟨hf,g⟩;refine⟨v,h,⟨rfl,rfl⟩,hf,AF _,λid o ho=>?_⟩;have hid:=hw id (by rw[ho];try rfl);exact⟨by rw[g.old id hid];exact ho,hid,.inl ho⟩
theorem IY{n id off len:Nat}{h':A0}(hid:id<n):AZ n h' (.own id off len) (.own id off len):=by simp only[AZ];exact⟨trivial,hid⟩
def A5(s:ByteArray):Sx:= .mk 1 0 0 0 s []
def AB(l:List Sx):Sx:= .mk 3 0 0 0 ⟨#[]⟩ l
def Bv(first:ByteArray)(l:List ByteArray):Sx:=AB ((first::l).map A5)
theorem IZ{h:A0}{s:ByteArray}:AA prog 136 [A1 s] h λr h'=>r= .agg (A5 s).cells/\h'=h:=by
 refine AA.frz Ty.RO ?_;refine AN func136 ntmps136 results136 Ty.RO ?_;refine wt A2 ?_;refine⟨?_,((AL.refl h).new _).set (AF _) _⟩;simp only[A5,Sx.cells,Sx.rows,AZ,B4];exact⟨_,rfl,rfl,rfl,rfl,rfl,rfl,.inr (.inl ⟨rfl,.inr rfl⟩),trivial⟩
theorem Ia{h:A0}{p:PV}(h1:C8 p=true)(hf: ∀ h',AZ h.next h' p p):AA prog 175 [p] h λr h'=>r= .agg [.sc (.int .i64 3),.sc (.int .i64 0),.sc (.int .i64 0),.sc (.int .i64 0),.sc (.string ⟨#[]⟩),p]/\h'=h:=by
 refine AA.frz Ty.Rb ?_;have hc:p.cells=[p]:=by cases p<;>simp[C8]at h1<;>rfl
 refine AN func175 ntmps175 results175 Ty.Rb ?_;refine wt (uu hc h1) ?_;refine⟨?_,((AL.refl h).new _).set (AF _) _⟩;simp only[AZ,B4];exact⟨_,rfl,rfl,rfl,rfl,rfl,rfl,hf _,trivial⟩
structure Z1(h:A0)(first:ByteArray)(l:List ByteArray)(k:Nat)(h':A0):Prop where
 grow:AL h h'
 ex: ∃ id,h.next+1+1<h'.next/\id≠h.next+1+1/\h.next<id/\id<h'.next/\
  h'.obj h.next=some (.arr 6 [[.sc (.int .i64 0),.sc (.int .i64 0),.sc (.int .i64 0),.sc (.int .i64 0),.sc (.string ⟨#[]⟩),.sc (.slice none 0 0)]])/\
  h'.obj (h.next+1+1)=some (.arr 6 [[.sc (.int .i64 3),.sc (.int .i64 0),.sc (.int .i64 0),.sc (.int .i64 0),.sc (.string ⟨#[]⟩),.own id 0 (k+1)]])/\
  h'.obj id=some (.arr 6 (Sx.rows ((first::l.take k).map A5)))
theorem OW{h:A0}{first:ByteArray}{l:List ByteArray}(hl:l.length<=1048576):AA prog 174 [A1 first,.imm 1 (AP l)] h λr h'=>r= .agg (Bv first l).cells/\h'=h:=by
 refine AA.frz Ty.Ra ?_;have hll:=FA l;have hw: ∀ (s:ByteArray)(h:A0),AA prog 136 [A1 s] h λr h'=>r= .agg (A5 s).cells/\h'=h:=λs h=>IZ;simp only[A5,Sx.cells,Sx.rows]at hw;refine uG (ow:=λt=>t==10) (wf:=λ_=>false) func174 ntmps174 results174 Ty.Ra ?_;refine wt A2 ?_;refine uU A2 (hw first _) ?_;refine wt A2 ?_;refine uU A2 (Ia (p:= .own (h.next+1) 0 1) rfl (λ_=>IY (by simp[A0.new]))) ?_;refine wt hll ?_;refine BV (λm S h'=>S 4= .ptr h.next 0 0/\S 5= .ptr (h.next+1+1) 0 0/\S 12= .imm 1 (AP l)/\S 13= .sc (.int .i64 l.length)/\ ∃ k:Nat,S 14= .sc (.int .i64 k)/\k<=l.length/\m=l.length-k/\Z1 h first l k h') l.length ?_ ?_
 ·simp only[Ty.w,simprocAttr];refine⟨0,rfl,by omega,rfl,?_⟩;have e1:¬ h.next=h.next+1+1:=by omega
  refine⟨(((((AL.refl h).new _).new _).new _).set (show h.next<=h.next+1+1 by omega) _),h.next+1,by simp[A0.new,A0.set],by omega,by omega,by simp[A0.new,A0.set],?_,?_,?_⟩
  ·simp [A0.new,A0.set,e1]
  ·simp [A0.new,A0.set]
  ·simp [A0.new,A0.set,A5,Sx.rows,Sx.cells]
 ·rintro m S h' ⟨g4,g5,g12,g13,k,g14,hk,rfl,hI⟩;obtain⟨hg,id,hn2,hne,hlo,hhi,o1,o2,o3⟩:=hI;by_cases hlt:k<l.length
  ·have hd:decide ((k:Int)<(l.length:Int))=true:=(by simp;omega);have w7:IntKind.i64.wrap ((k:Int)+1)=k+1:=(by rw[B9 (by omega) (by omega)]);obtain⟨s,hx⟩: ∃ s,l[k]? =some s:=⟨_,List.getElem?_eq_getElem hlt⟩;have hr:=Gh hx;have hrl:(Sx.rows ((first::l.take k).map A5)).length=k+1:=(by rw[Sx.rows_len];simp;omega);generalize hR:Sx.rows ((first::l.take k).map A5)=R at o3 hrl;have n1:(h.next+1+1=id)=False:=(by simp;omega);have n2:(h.next+1+1=h'.next)=False:=(by simp;omega);have htk:List.take (k+1) R=R:=List.take_of_length_le (by omega);have hb:(k+1+1)*72<=140737488355328:=(by omega);replace zz:=Aq g4 g5 g12 g13 g14 hd hr w7 o2 o3;refine wy zz ?_;replace zz:=AY g4 g5 g12 g13 g14 o2 o3;(first|refine uV zz (hw s _) ?_|refine uA zz (hw s _) ?_);replace zz:=AJ g4 g5 g12 g13 g14 w7 o2 o3 n1 n2 hrl (uu htk hb);(repeat'(first|refine cK ?_|refine nK ?_|refine uR zz ?_|(refine uN hK ?_;clear hK)|refine uB zz ?_|(rw[AH];rotate_left 1;omega;simp only[Ty.w,simprocAttr,g4,g5,g12,g13,g14,w7,o2,o3,n1,n2,hrl,htk,hb])|apply zI));refine⟨l.length-(k+1),by omega,k+1,by simp,by omega,rfl,((hg.kill (by omega)).new _).set (by omega) _,h'.next,?_,?_,?_,?_,?_,?_,?_⟩
   ·simp only[A0.set,A0.new,A0.kill];omega
   ·omega
   ·omega
   ·simp only[A0.set,A0.new,A0.kill];omega
   ·have a1:¬ h.next=h.next+1+1:=by omega
    have a2:¬ h.next=h'.next:=by omega
    have a3:¬ h.next=id:=by omega
    simp only[A0.set,A0.new,A0.kill,a1,a2,a3,AD];exact o1
   ·simp only[A0.set,AC]
   ·have a1:¬ h'.next=h.next+1+1:=by omega
    simp only[A0.set,A0.new,A0.kill,a1,AD,AC];rw[List.take_add_one,hx, ← hR];simp only[Sx.rows_map,List.map_cons,List.map_append,List.map_nil,Js,List.cons_append,A5,Sx.cells]
  ·have hd:decide ((k:Int)<(l.length:Int))=false:=(by simp;omega);have hke:k=l.length:=(by omega);subst hke;rw[List.take_length]at o3;have n1:(h.next+1+1=h.next)=False:=(by simp;omega);replace zz:=BR g4 g5 g12 g13 g14 hd o1 o2 o3;refine wt zz ?_;refine⟨?_,hg.set (AF _) _⟩;simp only[Bv,AB,Sx.cells,AZ,B4];refine⟨_,rfl,rfl,rfl,rfl,rfl,rfl,.inr (.inr ⟨id,0,l.length+1,Sx.rows ((first::l).map A5),rfl,by omega,?_,?_,?_⟩),trivial⟩
   ·simp only[A0.set];rw[A4 (by omega)];exact o3
   ·rw [Sx.rows_len];simp
   ·rw [List.drop_zero,List.take_of_length_le (by rw[Sx.rows_len];simp)];exact Ff _ _ _
end Go.Proofs.YtblgchkahpgdjaaGreat
namespace Go.AM
mutual
def Ex.small:Ex->Prop
 | .mk _ _ _ args kids=>args.length<=1048576/\Ex.smalls kids
def Ex.smalls:List Ex->Prop
 |[]=>True
 |k::ks=>k.small/\Ex.smalls ks
end
theorem Ex.smalls_iff:{l:List Ex}->(Ex.smalls l↔ ∀ k∈l,k.small)
 |[]=>by simp[Ex.smalls]
 |k::ks=>by simp[Ex.smalls,Ex.smalls_iff (l:=ks)]
end Go.AM
namespace Go.Proofs.YtblgchkahpgdjaaGreat
open Go.AM Go.Proofs.Tryz
set_option maxHeartbeats 2000000
set_option maxRecDepth 20000
def Hw:ByteArray:=⟨#[110,117,109,98,101,114]⟩
def Hx:ByteArray:=⟨#[102,108,117,101,110,116]⟩
def LF:ByteArray:=⟨#[43]⟩
def LG:ByteArray:=⟨#[45]⟩
def LH:ByteArray:=⟨#[42]⟩
def Ey(s:ByteArray):Bool:=A3 s ⟨#[]⟩
def BS(s:ByteArray):Bool:=Ak s||D7 s
def Mu(n:Int):Bool:=decide (-1099511627776<=n)&&decide (n<=1099511627776)
def Br:Ex->Bool
 | .mk op name n args kids=>
  if A3 op Hw then Ey name&&args.isEmpty&&kids.isEmpty&&Mu n
  else if A3 op Hx then decide (n=0)&&kids.isEmpty&&Ak name&&args.all BS
  else if A3 op LF||A3 op LG||A3 op LH then decide (n=0)&&Ey name&&args.isEmpty&&(match kids with
   |[a,b]=>Br a&&Br b
   |_=>false)
  else false
termination_by e=>SizeOf.sizeOf e
decreasing_by all_goals(simp_wf;omega)
def D8:Ex->Nat->Nat->Bool × Nat
 | .mk op name n args kids,d,c=>
  if c+1<=4096/\d<=32 then
   if A3 op Hw then(Ey name&&args.isEmpty&&kids.isEmpty&&Mu n,c+1)
   else if A3 op Hx then(decide (n=0)&&kids.isEmpty&&Ak name&&args.all BS,c+1)
   else if A3 op LF||A3 op LG||A3 op LH then
    (if (decide (n = 0) && Ey name && args.isEmpty) = true then (match kids with
     |[a,b]=>(match D8 a (d+1) (c+1)with
      |(true,c')=>D8 b (d+1) c'
      |(false,c')=>(false,c'))
     |_=>(false,c+1))else(false,c+1))
   else(false,c+1)
  else(false,c+1)
termination_by e=>SizeOf.sizeOf e
decreasing_by all_goals(simp_wf;omega)
def Am:Ex->Sx
 | .mk op name n args kids=>
  if A3 op Hw then .mk 2 n 0 0 ⟨#[]⟩ []
  else if A3 op Hx then Bv name args
  else match kids with
   |[a,b]=>AB [A5 op,Am a,Am b]
   |_=>AB [A5 op]
termination_by e=>SizeOf.sizeOf e
decreasing_by all_goals(simp_wf;omega)
theorem Ib{n z:Nat}{h':A0}{rows:List (List PV)}(h:BG n rows):AZ n h' (.imm z rows) (.imm z rows):=by simp only[AZ];exact .inl ⟨trivial,h⟩
theorem Ic: ∀ e:Ex,e.small->Br e=true-> ∀ h:A0,AA prog 167 [.agg e.cells] h λr h'=>r= .agg (Am e).cells/\h'=h:=by
 refine Ex.ind ?_;intro op name n args kids ih hsm hsh h;simp only[Ex.small]at hsm;obtain⟨hal,hks⟩:=hsm;rw[Ex.smalls_iff]at hks;unfold Br at hsh;unfold Am;refine AA.frz Ty.Mk ?_;cases c1:A3 op Hw with
 |true=>
  have c1':(op.data.toList==(#[110,117,109,98,101,114]:Array UInt8).toList)=true:=c1;simp only[AC,Ex.cells];refine AN func167 ntmps167 results167 Ty.Mk ?_;refine wt c1' ?_;refine⟨?_,((AL.refl h).new _).set (AF _) _⟩;simp only[Sx.cells,Sx.rows,AZ,B4];exact⟨_,rfl,rfl,rfl,rfl,rfl,rfl,.inr (.inl ⟨rfl,.inr rfl⟩),trivial⟩
 |false=>
  have c1':(op.data.toList==(#[110,117,109,98,101,114]:Array UInt8).toList)=false:=c1;rw[c1]at hsh;simp only[Ap,AD]at hsh⊢;cases c2:A3 op Hx with
  |true=>
   have c2':(op.data.toList==(#[102,108,117,101,110,116]:Array UInt8).toList)=true:=c2;have hw:=λh:A0=>OW (h:=h) (first:=name) hal;have hfz:=λ(n:Nat)(h:A0)=>Do n h (Bv name args);simp only[AC,Ex.cells];generalize Bv name args=X at hw hfz;obtain⟨ki,va,li,co,te,ks⟩:=X;simp only[Sx.cells]at hw hfz⊢;refine AN func167 ntmps167 results167 Ty.Mk ?_;refine wt (uu c1' c2') ?_;refine uU (uu c1' c2') (hw _) ?_;refine wt A2 ?_;refine⟨?_,((AL.refl h).new _).set (AF _) _⟩;simp only[AZ];exact⟨_,rfl,hfz _ _⟩
  |false=>
   have c2':(op.data.toList==(#[102,108,117,101,110,116]:Array UInt8).toList)=false:=c2;rw[c2]at hsh;simp only[Ap,AD]at hsh⊢;split at hsh
   case isFalse=>simp at hsh
   simp only[AT]at hsh;obtain⟨⟨⟨_,_⟩,_⟩,hsh⟩:=hsh;split at hsh
   case h_2=>simp at hsh
   rename_i a b;simp only[AT]at hsh;have ca:=ih a (by simp) (hks a (by simp)) hsh.1;have cb:=ih b (by simp) (hks b (by simp)) hsh.2;have hw:=λh:A0=>IZ (h:=h) (s:=op);have hfz:=λ(n:Nat)(h:A0)=>Do n h (AB [A5 op,Am a,Am b]);have hl:=λh:A0=>Ia (h:=h) (p:= .imm 6 (Sx.rows [A5 op,Am a,Am b])) rfl (λ_=>Ib (Fe _ _));generalize Am a=xa at ca hfz hl⊢;generalize Am b=xb at cb hfz hl⊢;clear ih hks hsh;obtain⟨DP,aname,an,aargs,akids⟩:=a;obtain⟨bop,bname,bn,bargs,bkids⟩:=b;obtain⟨ki,va,li,co,te,ks⟩:=xa;obtain⟨ki2,va2,li2,co2,te2,ks2⟩:=xb;simp only[Ex.cells,Ex.rows,AB,Sx.cells,Sx.rows,A5]at ca cb hw hfz hl⊢;refine AN func167 ntmps167 results167 Ty.Mk ?_;refine wy (uu c1' c2') ?_;(first|refine uV A2 (hw _) ?_|refine uA A2 (hw _) ?_);refine wy A2 ?_;(first|refine uV A2 (ca _) ?_|refine uA A2 (ca _) ?_);refine wy A2 ?_;(first|refine uV A2 (cb _) ?_|refine uA A2 (cb _) ?_);refine wy A2 ?_;(first|refine uV A2 (hl _) ?_|refine uA A2 (hl _) ?_);refine wy A2 ?_;refine⟨?_,((AL.refl h).new _).set (AF _) _⟩;simp only[AZ];exact⟨_,rfl,hfz _ _⟩
end Go.Proofs.YtblgchkahpgdjaaGreat
namespace Go.Proofs.YtblgchkahpgdjaaGreat
open Go.AM Go.Proofs.Tryz
set_option maxHeartbeats 2000000
set_option maxRecDepth 20000
structure OX(p:Prop):Prop where
 out:p
theorem KB{P:Program}{ow:Nat->Bool}{wf:FuncId->Bool}{n:Nat}{Q:Au}{s:A8}{h:A0}(id:Nat){ops:Array Oper}{d:Bool}{x y:Code}(hh:OX (AX P ow wf n (.seq (.seq (.region id ops d) x) y) Q s h)):AX P ow wf n (.seq (.seq (.region id ops d) x) y) Q s h:=hh.out
theorem CF{P:Program}{ow:Nat->Bool}{wf:FuncId->Bool}{n:Nat}{Q:Au}{s:A8}{h:A0}{a b:Code}(I:A8->A0->Prop)(h1:AX P ow wf n a (Au.seq I Q) s h)(h2: ∀ s h,I s h->AX P ow wf n b Q s h):AX P ow wf n (.seq a b) Q s h:=by
 simp only[AX];refine HE a (λe s h hh=>?_) h1;cases e<;>simp only[Au.seq]at hh⊢
 ·exact h2 _ _ hh
 all_goals exact hh
theorem JR{P:Program}{ow:Nat->Bool}{wf:FuncId->Bool}{n:Nat}{Q:Au}{K:A8->A0->Prop}{s:A8}{h:A0}{a:Code}(I:A8->A0->Prop)(h1:AX P ow wf n a (Au.seq I Q) s h)(h2: ∀ s h,I s h->K s h):AX P ow wf n a (Au.seq K Q) s h:=by
 refine HE a (λe s h hh=>?_) h1;cases e<;>simp only[Au.seq]at hh⊢
 ·exact h2 _ _ hh
 all_goals exact hh
theorem Rz(h:A0)(id:Nat)(a b:Ae):(h.set id a).set id b=h.set id b:=by
 unfold A0.set;congr 1;funext i;simp only;by_cases hi:i=id
 ·simp [hi]
 ·simp [hi]
theorem Mw{α:Type}(l:List α):((l.length:Int)==0)=l.isEmpty:=by cases l<;>simp;omega
theorem Z2(n:Nat):CD (n+1)= .arr 1 [[.sc (.int .i64 ((n:Int)+1))]]:=by simp only[CD,JQ]
theorem S0{h:A0}{s:ByteArray}(hs:s.size<=AE):AA prog 189 [A1 s] h λr h'=>r= .sc (.bool (BS s))/\h'=h:=by
 have hs':s.size<=9223372036854775807:=by unfold AE at hs;omega
 cases c1:Ak s with
 |true=>
  have:BS s=true:=by simp[BS,c1]
  refine AN func189 ntmps189 results189 Ty.Rg ?_;refine wt A2 ?_;refine uU c1 (Fb (s:=s) hs') ?_;refine wt c1 ?_;rw[this]
 |false=>
  have:BS s=D7 s:=by simp[BS,c1]
  refine AN func189 ntmps189 results189 Ty.Rg ?_;refine wt A2 ?_;refine uU c1 (Fb (s:=s) hs') ?_;refine wt c1 ?_;refine uU c1 (K8 (s:=s) hs') ?_;refine wt c1 ?_;rw[this]
theorem Z3{h:A0}{s:ByteArray}(hs:s.size<=AE):AA prog 192 [A1 s] h λr h'=>r= .sc (.bool (!BS s))/\h'=h:=by
 refine AN func192 ntmps192 results192 Ty.Yh ?_;refine wt A2 ?_;refine uU A2 (S0 (s:=s) hs) ?_;exact wz A2
theorem Z4{h:A0}{s:ByteArray}(hs:s.size<=AE):AA prog 188 [A1 s] h λr h'=>r= .sc (.bool (!BS s))/\h'=h:=by
 refine AN func188 ntmps188 results188 Ty.Yg ?_;refine wt A2 ?_;refine uU A2 (S0 (s:=s) hs) ?_;exact wz A2
def LI(l:List ByteArray):Int:=match l.findIdx? (λs=>!BS s)with
 |some i=>i
 |none=> -1
theorem Z5(l:List ByteArray):decide (LI l>=0)=!l.all BS:=by
 unfold LI;cases h:l.findIdx? (λs=>!BS s)with
 |none=>
  rw[List.findIdx?_eq_none_iff]at h;have:l.all BS=true:=by
   rw[List.all_eq_true];intro s hs;simpa using h s hs
  rw[this];try rfl
 |some i=>
  rw[List.findIdx?_eq_some_iff_getElem]at h;obtain⟨hi,h1,_⟩:=h;have:l.all BS=false:=by
   rw[List.all_eq_false];exact⟨l[i],List.getElem_mem hi,by simpa using h1⟩
  rw[this];simp
theorem Z6{h:A0}{g:FuncId}{l:List ByteArray}(hl:l.length<=AE)(hf: ∀ s∈l, ∀ h:A0,AA prog g [A1 s] h λr h'=>r= .sc (.bool (!BS s))/\h'=h):
  AA prog 201 [.imm 1 (AP l),.sc (.func (.func g) #[] #[])] h λr h'=>r= .sc (.int .i64 (LI l))/\h'=h:=by
 unfold AE at hl;have hlen:=FA l;refine AN func201 ntmps201 results201 Ty.Ye ?_;refine wt hlen ?_;refine BV (λm S h'=>h'=h/\S 0= .imm 1 (AP l)/\S 1= .sc (.func (.func g) #[] #[])/\S 7= .sc (.int .i64 l.length)/\ ∃ k:Nat,S 8= .sc (.int .i64 k)/\k<=l.length/\m=l.length-k/\ ∀ (i:Nat)(w:ByteArray),i<k->l[i]? =some w->BS w=true) l.length ?_ ?_
 ·simp only[Ty.w,simprocAttr];exact⟨0,rfl,by omega,rfl,by omega⟩
 ·rintro m S h' ⟨rfl,g0,g1,g7,k,g8,hk,rfl,hall⟩;by_cases hlt:k<l.length
  ·have hd:decide ((k:Int)<(l.length:Int))=true:=(by simp;omega);have w7:IntKind.i64.wrap ((k:Int)+1)=k+1:=(by rw[B9 (by omega) (by omega)]);obtain⟨w,hx⟩: ∃ w,l[k]? =some w:=⟨l[k],List.getElem?_eq_getElem hlt⟩;have hr:=Gh hx;have hc:=hf w (List.mem_of_getElem? hx);cases he:BS w with
   |false=>
    rw[he]at hc;replace zz:=AK g0 g1 g7 g8 hd hr;refine wt zz ?_;refine MW (sq g1) (hc _) (by simp only[Ty.w,simprocAttr,g0,g1,g7,g8];try rfl) ?_;simp only[Ty.w,simprocAttr,Ty.AU];replace zz:=AV g0 g1 g7 g8 yF;refine wt zz ?_;have:l.findIdx? (λs=>!BS s)=some k:=by
     rw[List.findIdx?_eq_some_iff_getElem];refine⟨hlt,?_,λj hj=>?_⟩
     ·rw [List.getElem?_eq_getElem hlt]at hx;simp only[Ag]at hx;rw[hx,he];try rfl
     ·rw [hall j l[j] hj (List.getElem?_eq_getElem (by omega))];simp
    simp only[LI,this]
   |true=>
    rw[he]at hc;replace zz:=AK g0 g1 g7 g8 hd hr;refine wt zz ?_;refine MW (sq g1) (hc _) (by simp only[Ty.w,simprocAttr,g0,g1,g7,g8];try rfl) ?_;simp only[Ty.w,simprocAttr,Ty.AU];replace zz:=AK g0 g1 g7 g8 w7 yT;refine wt zz ?_;refine⟨l.length-(k+1),by omega,k+1,by simp,by omega,rfl,λi w2 hi hw=>?_⟩;by_cases hik:i=k
    ·subst hik;rw[hx]at hw;simp at hw;rw[← hw];exact he
    ·exact hall i w2 (by omega) hw
  ·have hd:decide ((k:Int)<(l.length:Int))=false:=(by simp;omega);replace zz:=AV g0 g1 g7 g8 hd;refine wt zz ?_;have:l.findIdx? (λs=>!BS s)=none:=by
    rw[List.findIdx?_eq_none_iff];intro w hw;obtain⟨i,hi⟩:=List.getElem?_of_mem hw;have:i<l.length:=(List.getElem?_eq_some_iff.1 hi).1;rw[hall i w (by omega) hi];try rfl
   simp only[LI,this]
theorem LJ{h:A0}{g:FuncId}{l:List ByteArray}(hl:l.length<=AE)(hf: ∀ s∈l, ∀ h:A0,AA prog g [A1 s] h λr h'=>r= .sc (.bool (!BS s))/\h'=h):
  AA prog 187 [.imm 1 (AP l),.sc (.func (.func g) #[] #[])] h λr h'=>r= .sc (.bool (!l.all BS))/\h'=h:=by
 refine AN func187 ntmps187 results187 Ty.Yd ?_;refine wt A2 ?_;refine uU A2 (Z6 (l:=l) (g:=g) hl hf) ?_;refine wt A2 ?_;rw[← Z5]
theorem Mx{h:A0}{id d n:Nat}{b:Bool}(hd:d<=100)(hn:n<=4096)(ho:h.obj id=some (CD n))(hb:decide (n+1<=4096/\d<=32)=b):AA prog 186 [.ptr id 0 0,.sc (.int .i64 d)] h λr h'=>r= .sc (.bool b)/\h'=h.set id (CD (n+1)):=by
 have ho':=ho;simp only[CD]at ho';rw[Z2];have wn:IntKind.i64.wrap ((n:Int)+1)=(n:Int)+1:=by rw[B9 (by omega) (by omega)]
 cases b0:decide ((n:Int)+1<=4096)with
 |false=>
  have:b=false:=by rw[← hb];simp only[CE]at b0⊢;omega
  subst this
  clear hb;refine AN func186 ntmps186 results186 Ty.Re ?_;exact wz (Aj ho' wn b0)
 |true=>
  have:b=decide ((d:Int)<=32):=by rw[← hb];simp only[BQ]at b0;exact Ls.2 (by omega)
  subst this
  clear hb;refine AN func186 ntmps186 results186 Ty.Re ?_;exact wz (Aj ho' wn b0)
theorem OY: ∀ (e:Ex)(d n:Nat),(D8 e d n).1=true->(D8 e d n).2<=4096:=by
 refine Ex.ind ?_;intro op name nn args kids ih d n;unfold D8;split
 ·rename_i hc;split
  ·intro _;simp only;omega
  ·split
   ·intro _;simp only;omega
   ·split
    ·split
     ·split
      ·rename_i a b;have ha:=ih a (by simp) (d+1) (n+1);split
       ·rename_i c' he;exact ih b (by simp) (d+1) c'
       ·simp
      ·simp
     ·simp
    ·simp
 ·simp
theorem S1: ∀ e:Ex,e.ok-> ∀ (d n:Nat),d<=33->n<=4096-> ∀ (id:Nat)(h:A0),h.obj id=some (CD n)->
  AA prog 178 [.agg e.cells,.sc (.int .i64 d),.ptr id 0 0] h λr h'=>r= .sc (.bool (D8 e d n).1)/\h'=h.set id (CD (D8 e d n).2):=by
 refine Ex.ind ?_;intro op name v args kids ih hok d n hd hn id h ho;simp only[Ex.ok]at hok;obtain⟨_,hnm,_,⟨hal,hargs⟩,hkl,hks⟩:=hok;rw[Ex.oks_iff]at hks;have hnm':name.size<=9223372036854775807:=by unfold AE at hnm;omega
 have hlA:=FA args;have hlK:=Ex.rows_len kids;have e1:=Mw args;have e2:=Mw kids;generalize hF:D8 (.mk op name v args kids) d n=F;unfold D8 at hF;by_cases hc:n+1<=4096/\d<=32;rotate_left
 ·rw [A4 hc]at hF;subst hF;have hT:=Mx (by omega) hn ho (U8 hc);simp only[Ex.cells];refine AN func178 ntmps178 results178 Ty.Gg ?_;refine wt A2 ?_;refine CV (hT) (sr yF) ?_;simp only[Ty.w,simprocAttr,Al];exact wz yF
 ·rw [AH hc]at hF;have hT:=Mx (by omega) hn ho (Ke hc);have wd:IntKind.i64.wrap ((d:Int)+1)=(d:Int)+1:=by rw[B9 (by omega) (by omega)]
  simp only[Ex.cells];have n1:A3 op Hw=(op.data.toList==(#[110,117,109,98,101,114]:Array UInt8).toList):=rfl;have n2:A3 op Hx=(op.data.toList==(#[102,108,117,101,110,116]:Array UInt8).toList):=rfl;have n3:A3 op LF=(op.data.toList==(#[43]:Array UInt8).toList):=rfl;have n4:A3 op LG=(op.data.toList==(#[45]:Array UInt8).toList):=rfl;have n5:A3 op LH=(op.data.toList==(#[42]:Array UInt8).toList):=rfl;have n6:Ey name=(name.data.toList==(#[]:Array UInt8).toList):=rfl;have n7:decide (v=0)=(v==0):=by by_cases h0:v=0<;>simp[h0]
  have n8:Mu v=(decide (v>= -1099511627776)&&decide (v<=1099511627776)):=rfl;rw[n1,n2,n3,n4,n5,n6,n7,n8, ← e1, ← e2]at hF
  clear n1 n2 n3 n4 n5 n6 n7 n8 e1 e2;cases k1:(op.data.toList==(#[110,117,109,98,101,114]:Array UInt8).toList)with
  |true=>
   rw[k1]at hF;simp only[AC]at hF;cases q1:(name.data.toList==(#[]:Array UInt8).toList)with
   |false=>
    rw[q1]at hF;simp only[Ai,B5]at hF;subst hF;refine AN func178 ntmps178 results178 Ty.Gg ?_;refine wt (uu k1 q1) ?_;refine CV (hT) (sr (Aj k1 q1 yT)) ?_;simp only[Ty.w,simprocAttr,k1,q1,Ab];replace zz:=AV k1 q1 hlA hlK yT;exact wz zz
   |true=>
    rw[q1]at hF;cases q2:((args.length:Int)==0)with
    |false=>
     rw[q2]at hF;simp only[Ai,B5]at hF;subst hF;refine AN func178 ntmps178 results178 Ty.Gg ?_;refine wt (Aj k1 q1 q2) ?_;refine CV (hT) (sr (AS k1 q1 q2 yT)) ?_;simp only[Ty.w,simprocAttr,k1,q1,q2,Ab];replace zz:=AK k1 q1 q2 hlA hlK yT;exact wz zz
    |true=>
     rw[q2]at hF;cases q3:((kids.length:Int)==0)with
     |false=>
      rw[q3]at hF;simp only[Ai,B5]at hF;subst hF;refine AN func178 ntmps178 results178 Ty.Gg ?_;replace zz:=AS k1 q1 q2 q3;refine wt zz ?_;refine CV (hT) (sr (AV k1 q1 q2 q3 yT)) ?_;simp only[Ty.w,simprocAttr,k1,q1,q2,q3,Ab];replace zz:=AY k1 q1 q2 q3 hlA hlK yT;exact wz zz
     |true=>
      rw[q3]at hF;cases q4:decide (v>= -1099511627776)with
      |false=>
       rw[q4]at hF;simp only[Ai,B5]at hF;subst hF;refine AN func178 ntmps178 results178 Ty.Gg ?_;replace zz:=AV k1 q1 q2 q3 q4;refine wt zz ?_;refine CV (hT) (sr (AK k1 q1 q2 q3 q4 yT)) ?_;simp only[Ty.w,simprocAttr,k1,q1,q2,q3,q4,Ab];replace zz:=B6 k1 q1 q2 q3 q4 hlA hlK yT;exact wz zz
      |true=>
       rw[q4]at hF;simp only[Ah]at hF;subst hF;refine AN func178 ntmps178 results178 Ty.Gg ?_;replace zz:=AV k1 q1 q2 q3 q4;refine wt zz ?_;refine CV (hT) (sr (AK k1 q1 q2 q3 q4 yT)) ?_;simp only[Ty.w,simprocAttr,k1,q1,q2,q3,q4,Ab];replace zz:=B6 k1 q1 q2 q3 q4 hlA hlK yT;exact wz zz
  |false=>
   rw[k1]at hF;simp only[Ap,AD]at hF;cases k2:(op.data.toList==(#[102,108,117,101,110,116]:Array UInt8).toList)with
   |true=>
    rw[k2]at hF;simp only[AC]at hF;have hfc: ∀ s∈args, ∀ h:A0,AA prog 192 [A1 s] h λr h'=>r= .sc (.bool (!BS s))/\h'=h:=λs hs h=>Z3 (hargs s hs);cases q1:(v==0)with
    |false=>
     rw[q1]at hF;simp only[Ai,B5]at hF;subst hF;refine AN func178 ntmps178 results178 Ty.Gg ?_;refine wt (Aj k1 k2 q1) ?_;refine CV (hT) (sr (AS k1 k2 q1 yT)) ?_;simp only[Ty.w,simprocAttr,k1,k2,q1,Ab];replace zz:=AK k1 k2 q1 hlA hlK yT;exact wz zz
    |true=>
     rw[q1]at hF;cases q2:((kids.length:Int)==0)with
     |false=>
      rw[q2]at hF;simp only[Ai,B5]at hF;subst hF;refine AN func178 ntmps178 results178 Ty.Gg ?_;replace zz:=AS k1 k2 q1 q2;refine wt zz ?_;refine CV (hT) (sr (AV k1 k2 q1 q2 yT)) ?_;simp only[Ty.w,simprocAttr,k1,k2,q1,q2,Ab];replace zz:=AY k1 k2 q1 q2 hlA hlK yT;exact wz zz
     |true=>
      rw[q2]at hF;cases q3:Ak name with
      |false=>
       rw[q3]at hF;simp only[Ai,B5]at hF;subst hF;refine AN func178 ntmps178 results178 Ty.Gg ?_;replace zz:=AS k1 k2 q1 q2;refine wt zz ?_;refine CV (hT) (sr (AV k1 k2 q1 q2 yT)) ?_;simp only[Ty.w,simprocAttr,k1,k2,q1,q2,Ab];replace zz:=AY k1 k2 q1 q2 hlA hlK yT;refine wt zz ?_;replace zz:=AK k1 k2 q1 q2 q3 hlK;refine uU zz (Fb (s:=name) hnm') ?_;exact wz zz
      |true=>
       rw[q3]at hF;simp only[Ah]at hF;subst hF;refine AN func178 ntmps178 results178 Ty.Gg ?_;replace zz:=AS k1 k2 q1 q2;refine wt zz ?_;refine CV (hT) (sr (AV k1 k2 q1 q2 yT)) ?_;simp only[Ty.w,simprocAttr,k1,k2,q1,q2,Ab];replace zz:=AY k1 k2 q1 q2 hlA hlK yT;refine wt zz ?_;replace zz:=AK k1 k2 q1 q2 q3 hlK;refine uU zz (Fb (s:=name) hnm') ?_;refine wt zz ?_;replace zz:=AK k1 k2 q1 q2 q3 hlK;refine uU zz (LJ hal hfc) ?_;repeat'(first|refine cK ?_|(refine nK ?_;try exact zI)|(refine Ea ?_;simp only[Ty.w,simprocAttr,k1,k2,q1,q2,q3,hlK,Bool.not_not])|(refine hK _ _ ?_;clear hK;(try simp only[B2,simprocAttr])))
   |false=>
    rw[k2]at hF;simp only[Ap,AD]at hF;generalize hk3:(op.data.toList==(#[43]:Array UInt8).toList)=b3 at hF;generalize hk4:(op.data.toList==(#[45]:Array UInt8).toList)=b4 at hF;generalize hk5:(op.data.toList==(#[42]:Array UInt8).toList)=b5 at hF;refine AN func178 ntmps178 results178 Ty.Gg ?_;refine wt (uu k1 k2) ?_;refine CV (hT) (sr (Aj k1 k2 yT)) ?_;simp only[Ty.w,simprocAttr,k1,k2,Ab];iterate 15 (first|(with_reducible refine cK ?_)|(with_reducible refine nK ?_)|refine AI λK hK=>?_|refine uR (Aj k1 k2 yT) ?_|refine uK ?_|refine Aw (Aj k1 k2 yT) ?_|(refine uN hK ?_;clear hK)|apply zI)
    refine JR (λS h'=>h'=h.set id (CD (n+1))/\S 1= .sc (.int .i64 d)/\S 2= .ptr id 0 0/\S 3= .cptr (Ex.mk op name v args kids).cells/\S 62= .sc (.bool (b3||b4||b5))) ?_ ?_
    ·clear hF;cases b3 with
     |true=>
      refine wm hk3 ?_;try exact zI
      all_goals(simp only[Ty.w,simprocAttr,Ex.cells,Bd,BL,Kd])
     |false=>
      cases b4 with
      |true=>
       refine wm (uu hk3 hk4) ?_;try exact zI
       all_goals(simp only[Ty.w,simprocAttr,Ex.cells,Bd,BL,Kd])
      |false=>
       refine wm (Aj hk3 hk4 hk5) ?_;try exact zI
       all_goals(simp only[Ty.w,simprocAttr,Ex.cells,Bd,BL,Kd])
    ·generalize (b3||b4||b5)=bb at hF⊢;rintro S h' ⟨rfl,g1,g2,g3,g62⟩;(first|refine hK _ _ ?_|refine cK ?_);(try clear hK);simp only[Ex.cells]at g3;clear hT;cases bb with
     |false=>
      simp only[Ap,AD]at hF;subst hF;replace zz:=AS g1 g2 g3 g62;exact wz zz
     |true=>
      simp only[AC]at hF;cases q1:(v==0)with
      |false=>
       rw[q1]at hF;simp only[Ai,B5,Ap,AD]at hF;subst hF;replace zz:=AK g1 g2 g3 g62 q1 hlA;exact wz zz
      |true=>
       rw[q1]at hF;cases q2:(name.data.toList==(#[]:Array UInt8).toList)with
       |false=>
        rw[q2]at hF;simp only[Ai,B5,Ap,AD]at hF;subst hF;replace zz:=AY g1 g2 g3 g62 q1 q2 hlA;exact wz zz
       |true=>
        rw[q2]at hF;cases q3:((args.length:Int)==0)with
        |false=>
         rw[q3]at hF;simp only[Ai,B5,Ap,AD]at hF;subst hF;replace zz:=B6 g1 g2 g3 g62 q1 q2 q3 hlA;exact wz zz
        |true=>
         rw[q3]at hF;simp only[Ah,AC]at hF;cases q4:((kids.length:Int)==2)with
         |false=>
          have hF2:F=(false,n+1):=by
           rw[← hF];split
           ·simp at q4
           ·rfl
          clear hF;subst hF2;replace zz:=Aq g1 g2 g3 g62 q1 q2 q3 q4 hlA hlK;exact wz zz
         |true=>
          obtain⟨a,b,rfl⟩: ∃ a b,kids=[a,b]:=by
           match kids,q4 with
           |[],q=>simp at q
           |[a],q=>simp at q
           |[a,b],_=>exact⟨a,b,rfl⟩
           |_::_::_::_,q=>simp at q;omega
          have ca:=ih a (by simp) (hks a (by simp)) (d+1) (n+1) (by omega) (by omega) id (h.set id (CD (n+1))) (by simp[A0.set]);have cb0:=ih b (by simp) (hks b (by simp)) (d+1);have hle:=OY a (d+1) (n+1);have hF3:F=(match D8 a (d+1) (n+1)with|(true,c')=>D8 b (d+1) c'|(false,c')=>(false,c')):=hF.symm;clear hF;have r0:=Ex.rows_get (l:=[a,b]) (i:=0) rfl;have r1:=Ex.rows_get (l:=[a,b]) (i:=1) rfl;have q5:(((Ex.rows [a,b]).length:Int)==2)=true:=(by rw[Ex.rows_len];exact q4);generalize Ex.rows [a,b]=RR at r0 r1 q5 g3;clear q4;generalize D8 a (d+1) (n+1)=W at ca hle hF3;obtain⟨b1,c1⟩:=W;simp only[Rz,JQ]at ca hle hF3;clear ih hks hlK;cases b1 with
          |false=>
           simp only at hF3;subst hF3;clear cb0;obtain⟨DP,aname,an,aargs,akids⟩:=a;obtain⟨bop,bname,bn,bargs,bkids⟩:=b;simp only[Ex.cells]at ca r0 r1;replace zz:=AJ g1 g2 g3 g62 q1 q2 q3 q5 r0 r1 hlA wd;refine wt zz ?_;refine CV (ca) (sr (AJ g1 g2 g3 g62 q1 q2 q3 q5 r0 r1 hlA wd)) ?_;simp only[Ty.w,simprocAttr,g1,g2,g3,g62,q1,q2,q3,q5,r0,r1,hlA,wd];replace zz:=AJ g1 g2 g3 g62 q1 q2 q3 q5 r0 r1 hlA wd;exact wz zz
          |true=>
           have cb:=cb0 c1 (by omega) (hle rfl) id (h.set id (CD c1)) (by simp[A0.set]);simp only at hF3;rw[← hF3]at cb;obtain⟨b2,c2⟩:=F;simp only[Rz,JQ]at cb⊢;clear cb0 hF3;obtain⟨DP,aname,an,aargs,akids⟩:=a;obtain⟨bop,bname,bn,bargs,bkids⟩:=b;simp only[Ex.cells]at ca cb r0 r1;replace zz:=AJ g1 g2 g3 g62 q1 q2 q3 q5 r0 r1 hlA wd;refine wt zz ?_;refine CV (ca) (sr (AJ g1 g2 g3 g62 q1 q2 q3 q5 r0 r1 hlA wd)) ?_;simp only[Ty.w,simprocAttr,g1,g2,g3,g62,q1,q2,q3,q5,r0,r1,hlA,wd];replace zz:=AJ g1 g2 g3 g62 q1 q2 q3 q5 r0 r1 hlA wd;refine wt zz ?_;refine CV (cb) (sr (AJ g1 g2 g3 g62 q1 q2 q3 q5 r0 r1 hlA wd)) ?_;simp only[Ty.w,simprocAttr,g1,g2,g3,g62,q1,q2,q3,q5,r0,r1,hlA,wd];replace zz:=AJ g1 g2 g3 g62 q1 q2 q3 q5 r0 r1 hlA wd;exact wz zz
def EM(e:Ex):Bool:=(D8 e 0 0).1&&(Ci (Am e) 0 0).1
theorem LK: ∀ (e:Ex)(d n:Nat),(D8 e d n).1=true->Br e=true:=by
 refine Ex.ind ?_;intro op name v args kids ih d n;unfold D8 Br;split
 ·split
  ·exact id
  ·split
   ·exact id
   ·split
    ·split
     ·rename_i h0;rw[h0];split
      ·rename_i a b;have ha:=ih a (by simp) (d+1) (n+1);split
       ·rename_i c' he;rw[he]at ha;intro hb;have:=ih b (by simp) (d+1) c' hb;simp[ha rfl,this]
       ·simp
      ·simp
     ·simp
    ·simp
 ·simp
end Go.Proofs.YtblgchkahpgdjaaGreat
namespace Go.Proofs.YtblgchkahpgdjaaGreat
open Go.AM Go.Proofs.Tryz
set_option maxHeartbeats 2000000
set_option maxRecDepth 20000
theorem CJ{s:ByteArray}(h:s.size<=AE):(A5 s).ok:=by
 simp only[A5,Sx.ok,Sx.oks,List.length_nil];exact⟨by omega,by omega,h,BX _,trivial⟩
theorem E7{l:List Sx}(hl:l.length<=AE)(h:Sx.oks l):(AB l).ok:=by
 simp only[AB,Sx.ok];refine⟨by omega,by omega,by simp[AE,ByteArray.size],hl,h⟩
theorem LL{first:ByteArray}{l:List ByteArray}(h0:first.size<=AE)(hl:l.length<=1048576)(h: ∀ s∈l,s.size<=AE):(Bv first l).ok:=by
 refine E7 (by simp[AE];omega) (Sx.oks_iff.2 ?_);intro k hk;simp only[List.map_cons,List.mem_cons,List.mem_map]at hk;rcases hk with rfl|⟨s,hs,rfl⟩
 ·exact CJ h0
 ·exact CJ (h s hs)
theorem My: ∀ e:Ex,e.ok->e.small->(Am e).ok:=by
 refine Ex.ind ?_;intro op name n args kids ih hok hsm;simp only[Ex.ok]at hok;simp only[Ex.small]at hsm;obtain⟨hop,hname,hn,hargs,hkl,hks⟩:=hok;rw[Ex.oks_iff]at hks;have hsk:=Ex.smalls_iff.1 hsm.2;unfold Am;split
 ·simp only[Sx.ok,Sx.oks,List.length_nil];refine⟨by omega,hn,by simp[AE,ByteArray.size],by simp,trivial⟩
 ·split
  ·exact LL hname hsm.1 hargs.2
  ·split
   ·rename_i a b;refine E7 (by simp[AE]) ?_;simp only[Sx.oks];exact⟨CJ hop,ih a (by simp) (hks a (by simp)) (hsk a (by simp)),ih b (by simp) (hks b (by simp)) (hsk b (by simp)),trivial⟩
   ·refine E7 (by simp[AE]) ?_;simp only[Sx.oks];exact⟨CJ hop,trivial⟩
theorem Z7{e:Ex}(hok:e.ok)(hsm:e.small)(h:A0):AA prog 166 [.agg e.cells] h λr h'=>r= .sc (.bool (EM e))/\h'=h:=by
 have hf:=S1 e hok 0 0 (by omega) (by omega) h.next (h.new (.arr 1 [[.sc (.int .i64 0)]])) (by simp[A0.new,CD])
 have hsh:=LK e 0 0;have hx:=My e hok hsm;have hv:EM e=((D8 e 0 0).1&&(Ci (Am e) 0 0).1):=rfl;rw[hv];refine AA.quiet Ty.ON ?_;generalize D8 e 0 0=W at hf hsh⊢;obtain⟨b,c⟩:=W;cases b with
 |false=>
  obtain⟨op,name,n,args,kids⟩:=e;simp only[Ex.cells,Nc]at hf⊢;refine uG (ow:=λt=>t==5) (wf:=λ_=>false) func166 ntmps166 results166 Ty.ON ?_;refine wt A2 ?_;refine CV (hf) (sr A2) ?_;simp only[Ty.w,simprocAttr];refine wt A2 ?_;exact((AL.refl h).new _).set (AF _) _
 |true=>
  have hw:=Ic e hsm (hsh rfl);have hvv:=OV hx;generalize Am e=X at hw hvv⊢;obtain⟨op,name,n,args,kids⟩:=e;obtain⟨ki,va,li,co,te,ks⟩:=X;simp only[Ex.cells,Sx.cells,Nc]at hf hw hvv⊢;refine uG (ow:=λt=>t==5) (wf:=λ_=>false) func166 ntmps166 results166 Ty.ON ?_;refine wt A2 ?_;refine CV (hf) (sr A2) ?_;simp only[Ty.w,simprocAttr];refine wt A2 ?_;refine uU A2 (hw _) ?_;refine wt A2 ?_;refine uU A2 (hvv _) ?_;refine wt A2 ?_;exact((AL.refl h).new _).set (AF _) _
def Dp(n:Int):PV:= .sc (.iface 42 (.int .i64 n))
def Fg:Sx:= .mk 0 0 0 0 ⟨#[]⟩ []
theorem Z8{e:Ex}(hok:e.ok)(hsm:e.small)(h:A0):AA prog 146 [.agg e.cells] h λr h'=>r=(if EM e then .tup [.agg (Am e).cells,.sc .nilIface]else .tup [.agg Fg.cells,Dp 2])/\h'=h:=by
 have hv:=Z7 hok hsm;refine AA.frz Ty.OK ?_;cases hb:EM e with
 |false=>
  rw[hb]at hv;obtain⟨op,name,n,args,kids⟩:=e;simp only[Ex.cells,Ap,AD]at hv⊢;refine AN func146 ntmps146 results146 Ty.OK ?_;refine wt A2 ?_;refine uU yF (hv _) ?_;refine wt yF ?_;refine⟨?_,((AL.refl h).new _).set (AF _) _⟩;simp only[Fg,Dp,Sx.cells,Sx.rows,AZ,B4];exact⟨_,rfl,⟨_,rfl,rfl,rfl,rfl,rfl,rfl,.inr (.inl ⟨rfl,.inr rfl⟩),trivial⟩,rfl,trivial⟩
 |true=>
  rw[hb]at hv;have hsh:=LK e 0 0 (by unfold EM at hb;simp only[AT]at hb;exact hb.1);have hw:=Ic e hsm hsh;have hfz:=λ(n:Nat)(h:A0)=>Do n h (Am e);generalize Am e=X at hw hfz⊢;obtain⟨op,name,n,args,kids⟩:=e;obtain⟨ki,va,li,co,te,ks⟩:=X;simp only[Ex.cells,Sx.cells,AC]at hv hw hfz⊢;refine AN func146 ntmps146 results146 Ty.OK ?_;refine wt A2 ?_;refine uU yT (hv _) ?_;refine wt yT ?_;refine uU A2 (hw _) ?_;refine wt A2 ?_;refine⟨?_,((AL.refl h).new _).set (AF _) _⟩;simp only[AZ,B4];exact⟨_,rfl,⟨_,rfl,hfz _ _⟩,rfl,trivial⟩
end Go.Proofs.YtblgchkahpgdjaaGreat
namespace Go.Proofs.YtblgchkahpgdjaaGreat
open Go.AM Go.Proofs.Tryz
set_option maxHeartbeats 2000000
set_option maxRecDepth 20000
def KC:ByteArray:=⟨#[111,98,106,101,99,116]⟩
def JS(s:ByteArray):Bool:=Ak s||A3 s KC
theorem S2{h:A0}{s:ByteArray}(hs:s.size<=AE):AA prog 152 [A1 s] h λr h'=>r= .sc (.bool (JS s))/\h'=h:=by
 have hs':s.size<=9223372036854775807:=by unfold AE at hs;omega
 have hc:=λh:A0=>Fb (h:=h) hs';have hT:JS s=(Ak s||(s.data.toList==(#[111,98,106,101,99,116]:Array UInt8).toList)):=rfl;rw[hT];generalize Ak s=b at hc⊢;cases b with
 |true=>
  refine AN func152 ntmps152 results152 Ty.RU ?_;refine wt A2 ?_;refine uU A2 (hc _) ?_;refine wm A2 ?_;try exact zI
  all_goals rfl
 |false=>
  refine AN func152 ntmps152 results152 Ty.RU ?_;refine wt A2 ?_;refine uU A2 (hc _) ?_;refine wm A2 ?_;try exact zI
  all_goals rfl
def AG:List Pm->List Sx
 |[]=>[]
 |p::l=>A5 p.name::A5 ⟨#[45]⟩::A5 p.type::AG l
theorem Mz: ∀ l m:List Pm,AG (l++m)=AG l++AG m
 |[],m=>rfl
 |p::l,m=>by simp only[List.cons_append,AG,Mz l m]
theorem D9: ∀ l:List Pm,(AG l).length=3*l.length
 |[]=>rfl
 |p::l=>by simp only[AG,List.length_cons,D9 l];omega
theorem JT{h:A0}{id0:Nat}{p:PV}{l:List Sx}(t:Tl h id0 6 p (Sx.rows l)):AZ id0 h (.imm 6 (Sx.rows l)) p:=by
 simp only[AZ];rcases t with⟨h1,h2⟩|⟨id,h1,h2,rfl,ho⟩
 ·exact .inr (.inl ⟨h1,h2.symm⟩)
 ·refine .inr (.inr ⟨id,0,_,_,rfl,h1,ho,by omega,?_⟩);rw[List.drop_zero,List.take_of_length_le (by omega)];exact Ff _ _ _
theorem OZ{l:List Pm}(hl:l.length<=1048576)(h:A0):AA prog 96 [.imm 2 (A7 l)] h λr h'=>r= .imm 6 (Sx.rows (AG l))/\h'=h:=by
 refine AA.frz Ty.RG ?_;have hll:=EX l;have hw: ∀ (s:ByteArray)(h:A0),AA prog 136 [A1 s] h λr h'=>r= .agg (A5 s).cells/\h'=h:=λs h=>IZ;simp only[A5,Sx.cells,Sx.rows]at hw;refine AN func96 ntmps96 results96 Ty.RG ?_;refine wt hll ?_;refine BV (λm S h'=>S 6= .imm 2 (A7 l)/\S 7= .sc (.int .i64 l.length)/\ ∃ (k:Nat)(o:PV),S 8= .sc (.int .i64 k)/\S 3=o/\k<=l.length/\m=l.length-k/\AL h h'/\Tl h' h.next 6 o (Sx.rows (AG (l.take k)))) l.length ?_ ?_
 ·simp only[Ty.w,simprocAttr];exact⟨0,_,rfl,rfl,by omega,rfl,AL.refl _,Tl.nil⟩
 ·rintro m S h' ⟨g6,g7,k,o,g8,g3,hk,rfl,hg,tl⟩;by_cases hlt:k<l.length
  ·have hd:decide ((k:Int)<(l.length:Int))=true:=(by simp;omega);have w7:IntKind.i64.wrap ((k:Int)+1)=k+1:=(by rw[B9 (by omega) (by omega)]);obtain⟨p,hx⟩: ∃ p,l[k]? =some p:=⟨_,List.getElem?_eq_getElem hlt⟩;have hr:=Hu hx;have tl2:=tl.up (h':=(h'.new (.arr 2 [[.sc (.string ⟨#[]⟩),.sc (.string ⟨#[]⟩)]])).set h'.next (.arr 2 [[A1 p.name,A1 p.type]])) (by simp[A0.new,A0.set]) (λj _ hj=>by simp only[A0.new,A0.set];rw[A4 (by omega),A4 (by omega)]);have hg2:AL h ((h'.new (.arr 2 [[.sc (.string ⟨#[]⟩),.sc (.string ⟨#[]⟩)]])).set h'.next (.arr 2 [[A1 p.name,A1 p.type]])):=(hg.new _).set hg.le _;obtain⟨H,t1,t2,t3,t4,t5⟩:=tl2.tail;have hpr:(Sx.rows (AG (l.take k))).length=3*k:=(by rw[Sx.rows_len,D9,List.length_take];omega);have hb:(3*k+3)*72<=140737488355328:=(by omega);have hR:Sx.rows (AG (l.take (k+1)))=Sx.rows (AG (l.take k))++[[.sc (.int .i64 1),.sc (.int .i64 0),.sc (.int .i64 0),.sc (.int .i64 0),A1 p.name,.imm 6 []],[.sc (.int .i64 1),.sc (.int .i64 0),.sc (.int .i64 0),.sc (.int .i64 0),A1 ⟨#[45]⟩,.imm 6 []],[.sc (.int .i64 1),.sc (.int .i64 0),.sc (.int .i64 0),.sc (.int .i64 0),A1 p.type,.imm 6 []]]:=by
    rw[List.take_add_one,hx,Mz];simp only[Sx.rows_map,List.map_append,Js,AG,List.map_cons,List.map_nil,A5,Sx.cells]
   generalize Sx.rows (AG (l.take k))=R at tl tl2 t1 t2 hpr hR;replace zz:=AY g6 g7 g8 g3 hd hr hll;refine wy zz ?_;replace zz:=AS g6 g7 g8 g3;(first|refine uV zz (hw p.name _) ?_|refine uA zz (hw p.name _) ?_);refine wy zz ?_;replace zz:=AS g6 g7 g8 g3;(first|refine uV zz (hw ⟨#[45]⟩ _) ?_|refine uA zz (hw ⟨#[45]⟩ _) ?_);refine wy zz ?_;replace zz:=AS g6 g7 g8 g3;(first|refine uV zz (hw p.type _) ?_|refine uA zz (hw p.type _) ?_);replace zz:=BR g6 g7 g8 g3 w7 t1 t2 hpr hb;(repeat'(first|refine cK ?_|refine nK ?_|refine uR zz ?_|(refine uN hK ?_;clear hK)|refine uB zz ?_|(rw[AH];rotate_left 1;omega;simp only[Ty.w,simprocAttr,g6,g7,g8,g3,w7,t1,t2,hpr,hb])|apply zI));have t3':H.next=h'.next+1:=by rw[t3];simp[A0.new,A0.set]
   have hkp:=t5 h ⟨hg2.le,hg2.old⟩ (AF _);have hgH:AL h H:=⟨hkp.1,hkp.2⟩;rw[← hR];have hRl:3*k+3=(Sx.rows (AG (l.take (k+1)))).length:=(by rw[Sx.rows_len,D9,List.length_take];omega);exact⟨l.length-(k+1),by omega,k+1,.own H.next 0 (3*k+3),by simp,by rw[t3'],by omega,rfl,hgH.new _,Tl.grow hkp.1 hRl⟩
  ·have hd:decide ((k:Int)<(l.length:Int))=false:=(by simp;omega);have hke:k=l.length:=(by omega);subst hke;rw[List.take_length]at tl;replace zz:=AV g6 g7 g8 g3 hd;refine wt zz ?_;exact⟨JT tl,hg⟩
end Go.Proofs.YtblgchkahpgdjaaGreat
namespace Go.Proofs.YtblgchkahpgdjaaGreat
open Go.AM Go.Proofs.Tryz
def BH:ByteArray:=⟨#[97,116,111,109]⟩
def Ba:ByteArray:=⟨#[115,97,109,101]⟩
def C5:ByteArray:=⟨#[97,110,100]⟩
def Fh:ByteArray:=⟨#[111,114]⟩
def E8:ByteArray:=⟨#[110,111,116]⟩
def GO:ByteArray:=⟨#[105,109,112,108,121]⟩
def DJ:ByteArray:=⟨#[102,111,114,97,108,108]⟩
def Fi:ByteArray:=⟨#[101,120,105,115,116,115]⟩
def CS:ByteArray:=⟨#[61]⟩
def CK:ByteArray:=⟨#[60]⟩
def Ce:ByteArray:=⟨#[60,61]⟩
def Fj(op:ByteArray):Bool:=A3 op CK||A3 op Ce||A3 op CS
def Ez(op:ByteArray):Bool:=A3 op DJ||A3 op Fi
def Oa:Fm:= .mk ⟨#[]⟩ ⟨#[]⟩ [] [] [] []
def CW(op:ByteArray)(nk:Nat):Option (Nat × Nat × Bool):=
 if A3 op BH then some (0,0,false)
 else if A3 op Ba then some (0,0,false)
 else if A3 op CK then some (2,0,false)
 else if A3 op Ce then some (2,0,false)
 else if A3 op CS then some (2,0,false)
 else if A3 op C5 then some (0,nk,false)
 else if A3 op Fh then some (0,nk,false)
 else if A3 op E8 then some (0,1,false)
 else if A3 op GO then some (0,2,false)
 else if A3 op DJ then some (0,1,true)
 else if A3 op Fi then some (0,1,true)
 else none
def DT(op name:ByteArray)(args:List ByteArray):Bool:=
 if A3 op BH then Ak name&&args.all BS
 else if A3 op Ba then Ey name&&decide (args.length=2)&&args.all BS
 else Ey name&&args.isEmpty
def FC(p:Pm):Bool:=D7 p.name&&JS p.type
def DA(op name:ByteArray)(args:List ByteArray)(params:List Pm)(ne nk:Nat):Bool:=
 match CW op nk with
 |none=>false
 |some (e,m,q)=>DT op name args&&decide (ne=e)&&decide (nk=m)&&(params.isEmpty||q)&&params.all FC
def El:List Ex->Nat->Nat->Bool × Nat
 |[],_,c=>(true,c)
 |e::l,d,c=>match D8 e d c with
  |(true,c')=>El l d c'
  |(false,c')=>(false,c')
mutual
def Dq:Fm->Nat->Nat->Bool × Nat
 | .mk op name args params exprs kids,d,c=>
  if c+1<=4096/\d<=32 then
   (if DA op name args params exprs.length kids.length = true then (match El exprs (d + 1) (c + 1) with
    |(true,c')=>Eb kids (d+1) c'
    |(false,c')=>(false,c'))else(false,c+1))
  else(false,c+1)
def Eb:List Fm->Nat->Nat->Bool × Nat
 |[],_,c=>(true,c)
 |k::l,d,c=>match Dq k d c with
  |(true,c')=>Eb l d c'
  |(false,c')=>(false,c')
end
mutual
def BP:Fm->Bool
 | .mk op name args params exprs kids=>DA op name args params exprs.length kids.length&&exprs.all Br&&HL kids
def HL:List Fm->Bool
 |[]=>true
 |k::l=>BP k&&HL l
end
theorem Ie: ∀ {l:List Fm},(HL l=true↔ ∀ k∈l,BP k=true)
 |[]=>by simp[HL]
 |k::l=>by simp[HL,Ie (l:=l)]
mutual
def Aa:Fm->Sx
 | .mk op name args params exprs kids=>
  if A3 op BH then Bv name args
  else if A3 op Ba then Bv CS args
  else if Fj op=true then AB (A5 op::exprs.map Am)
  else AB ((if(A3 op C5&&kids.isEmpty)=true then[]else[A5 op])++(if Ez op=true then[AB (AG params)]else[])++HM kids)
def HM:List Fm->List Sx
 |[]=>[]
 |k::l=>Aa k::HM l
end
theorem KD: ∀ l:List Fm,HM l=l.map Aa
 |[]=>rfl
 |k::l=>by simp[HM,KD l]
def BW(f:Fm):Bool:=(Dq f 0 0).1&&(Ci (Aa f) 0 0).1
end Go.Proofs.YtblgchkahpgdjaaGreat
namespace Go.AM
section
variable {P:Program}{ow:Nat->Bool}{n:Nat}{ops:List Oper}{I K:A8->A0->Prop}
theorem Ob: ∀ (l:List Oper)(k:Nat){s:A8}{h:A0},DH P ow n ops (l.take k) I s h->(∀ s h,I s h->DH P ow n ops (l.drop k) K s h)->DH P ow n ops l K s h
 |[],k,s,h,h1,hk=>by
  rw[List.take_nil]at h1;have:=hk s h (by simpa only[DH]using h1)
  rwa [List.drop_nil]at this
 |o::rest,0,s,h,h1,hk=>hk s h (by simpa only[DH,List.take_zero]using h1)
 |o::rest,k+1,s,h,h1,hk=>by
  rw[List.take_succ_cons]at h1;simp only[DH]at h1⊢;refine⟨h1.1,?_⟩;have h3:=h1.2
  clear h1;cases hw:Bt ops s o with
  |none=>rw[hw]at h3;exact h3
  |some b=>
   rw[hw]at h3;simp only at h3⊢;split at h3
   ·rename_i hb;rw[AH hb];exact O1 (λs h hh=>Ob rest k hh hk) h3
   ·rename_i hb;rw[A4 hb];exact Ob rest k h3 hk
theorem Oc: ∀ (l:List Oper)(k:Nat){s:A8}{h:A0},D4 P ow n ops (l.take k) I s h->(∀ s h,I s h->D4 P ow n ops (l.drop k) K s h)->D4 P ow n ops l K s h
 |[],k,s,h,h1,hk=>by
  rw[List.take_nil]at h1;have:=hk s h (by simpa only[D4]using h1)
  rwa [List.drop_nil]at this
 |o::rest,0,s,h,h1,hk=>hk s h (by simpa only[D4,List.take_zero]using h1)
 |o::rest,k+1,s,h,h1,hk=>by
  rw[List.take_succ_cons]at h1;simp only[D4]at h1⊢;refine⟨h1.1,?_⟩;have h3:=h1.2
  clear h1;cases hw:Bt ops s o with
  |none=>rw[hw]at h3;exact h3
  |some b=>
   rw[hw]at h3;simp only at h3⊢;split at h3
   ·rename_i hb;rw[AH hb];cases hc:callee (A6 s) o.op with
    |none=>
     rw[hc]at h3;simp only at h3⊢;cases he:AQ P (o.dst.any ow) o.op (A6 s) h with
     |none=>rw[he]at h3;exact h3
     |some r=>
      rw[he]at h3;exact Oc rest k h3 hk
    |some f=>
     rw[hc]at h3;simp only at h3⊢;exact O1 (λs h hh=>Ob rest k hh λs h hi=>IS _ _ _ (hk s h hi)) h3
   ·rename_i hb;rw[A4 hb];exact Oc rest k h3 hk
theorem ZA{l:List Oper}{s:A8}{h:A0}(k:Nat)(I:A8->A0->Prop)(h1:D4 P ow n ops (l.take k) I s h)(h2: ∀ s h,I s h->D4 P ow n ops (l.drop k) K s h):D4 P ow n ops l K s h:=Oc l k h1 h2
end
end Go.AM
namespace Go.AM
structure At where
 name:ByteArray
 args:List ByteArray
structure Vl where
 at_:At
 n:Int
structure Pb where
 name:ByteArray
 domain:ByteArray
 objects:List Pm
 init:List At
 values:List Vl
 goal:Fm
def ZB(a:At):List PV:=[A1 a.name,.imm 1 (AP a.args)]
def ZC(l:List At):List (List PV):=l.map ZB
def ZD(v:Vl):List PV:=[A1 v.at_.name,.imm 1 (AP v.at_.args),.sc (.int .i64 v.n)]
def ZE(l:List Vl):List (List PV):=l.map ZD
def Pb.cells(p:Pb):List PV:=[A1 p.name,A1 p.domain,.imm 2 (A7 p.objects),.imm 2 (ZC p.init),.imm 3 (ZE p.values)]++p.goal.cells
def At.ok(a:At):Prop:=a.name.size<=AE/\a.args.length<=AE/\ ∀ s∈a.args,s.size<=AE
end Go.AM
namespace Go.Proofs.YtblgchkahpgdjaaGreat
open Go.AM Go.Proofs.Tryz
set_option maxHeartbeats 2000000
set_option maxRecDepth 20000
def S3:Sx->Int
 | .mk k _ _ _ _ _=>k
def KE:Sx->ByteArray
 | .mk _ _ _ _ t _=>t
def S5:List Sx->List ByteArray × Int
 |[]=>([],0)
 |x::l=>bif S3 x==1 then(bif BS (KE x)then(match S5 l with
  |(t,c)=>bif c==0 then(KE x::t,0)else([],c))else([],8))else([],2)
def S6(c:Int):PV:=bif c==0 then .sc .nilIface else Dp c
end Go.Proofs.YtblgchkahpgdjaaGreat
namespace Go.Proofs.YtblgchkahpgdjaaGreat
open Go.AM Go.Proofs.Tryz
def ZF(w:ByteArray):Bool:=A3 w LF||A3 w LG||A3 w LH
def Dr:Ex:= .mk ⟨#[]⟩ ⟨#[]⟩ 0 [] []
def N0:Sx->Ex × Int
 | .mk kind value _ _ _ kids=>
  if kind=2 then(.mk Hw ⟨#[]⟩ value [] [],0)
  else if kind=3 then(match kids with
   | x :: rest => bif S3 x == 1 then
     (bif ZF (KE x) then (match rest with
      |[a,b]=>(match N0 a with
       | (ea, ca) => bif ca == 0 then (match N0 b with
        |(eb,cb)=>bif cb==0 then(.mk (KE x) ⟨#[]⟩ 0 [] [ea,eb],0)else(Dr,cb))else(Dr,ca))
      |_=>(Dr,2))
     else bif Ak (KE x)then(match S5 rest with
      |(t,c)=>bif c==0 then(.mk Hx (KE x) 0 t [],0)else(Dr,c))else(Dr,8))
    else(Dr,2)
   |[]=>(Dr,2))else(Dr,2)
termination_by x=>SizeOf.sizeOf x
decreasing_by all_goals(simp_wf;omega)
theorem Ec{a b:ByteArray}(h:A3 a b=true):a=b:=Mr (by simpa[A3]using h)
end Go.Proofs.YtblgchkahpgdjaaGreat
namespace Go.Proofs.YtblgchkahpgdjaaGreat
open Go.AM Go.Proofs.Tryz
set_option maxHeartbeats 4000000
set_option maxRecDepth 20000
theorem ZG(n:Nat): ∀ e:Ex,BZ n e.cells:=by
 have hs: ∀ l:List ByteArray,BG n (AP l):=by
  intro l
  induction l with
  |nil=>simp only[AP,List.map_nil,BG]
  |cons a l ih=>simp only[AP,List.map_cons,BG,BZ,BD,FK,He]at ih⊢;exact ih
 refine Ex.ind ?_;intro op name v args kids ih;have:BG n (Ex.rows kids):=by
  clear op name v args
  induction kids with
  |nil=>simp only[Ex.rows,BG]
  |cons k ks ih2=>
   simp only[Ex.rows,BG];exact⟨ih k (by simp),ih2 λq hq=>ih q (by simp[hq])⟩
 simp only[Ex.cells,BZ,BD,FK,He];exact⟨hs args,this⟩
theorem GP(n:Nat)(l:List ByteArray):BG n (AP l):=by
 induction l with
 |nil=>simp only[AP,List.map_nil,BG]
 |cons a l ih=>simp only[AP,List.map_cons,BG,BZ,BD,FK,He]at ih⊢;exact ih
end Go.Proofs.YtblgchkahpgdjaaGreat
namespace Go.Proofs.YtblgchkahpgdjaaGreat
open Go.AM Go.Proofs.Tryz
set_option maxHeartbeats 4000000
set_option maxRecDepth 20000
theorem Ds(n:Nat):(n=n+1)=False:=by simp
theorem Od{g:FuncId}{l m:List Ex}(hl:l.length<=AE)(hf: ∀ a∈l, ∀ b∈m, ∀ h:A0,AA prog g [.agg a.cells,.agg b.cells] h λr h'=>r= .sc (.bool (a.same b))/\h'=h)(h:A0):
  AA prog 138 [.imm 5 (Ex.rows l),.imm 5 (Ex.rows m),.sc (.func (.func g) #[] #[])] h λr h'=>r= .sc (.bool (Ex.sames l m))/\h'=h:=by
 unfold AE at hl;have hll:=Ex.rows_len l;have hlm:=Ex.rows_len m;refine AA.quiet Ty.RP ?_;refine AN func138 ntmps138 results138 Ty.RP ?_;cases hne:((l.length:Int) !=m.length)with
 |true=>
  have:Ex.sames l m=false:=Ex.sames_len (by simp at hne;omega);refine wt (Aj hll hlm hne) ?_;rw[this];exact⟨rfl,AL.refl _⟩
 |false=>
  have hlen:l.length=m.length:=by simp at hne;omega
  refine wt (Aj hll hlm hne) ?_;refine BV (λc S h'=>AL h h'/\S 1= .imm 5 (Ex.rows m)/\S 2= .sc (.func (.func g) #[] #[])/\S 15= .imm 5 (Ex.rows l)/\S 16= .sc (.int .i64 l.length)/\ ∃ k:Nat,S 17= .sc (.int .i64 k)/\k<=l.length/\c=l.length-k/\Ex.sames l m=Ex.sames (l.drop k) (m.drop k)) l.length ?_ ?_
  ·simp only[Ty.w,simprocAttr];exact⟨AL.refl _,0,rfl,by omega,rfl,by simp⟩
  ·rintro c S h' ⟨hg,g1,g2,g15,g16,k,gk,hkl,rfl,hinv⟩;by_cases hlt:k<l.length
   ·have hd:decide ((k:Int)<(l.length:Int))=true:=(by simp;omega);have w7:IntKind.i64.wrap ((k:Int)+1)=k+1:=(by rw[B9 (by omega) (by omega)]);obtain⟨a,hx⟩: ∃ a,l[k]? =some a:=⟨_,List.getElem?_eq_getElem hlt⟩;obtain⟨b,hy⟩: ∃ b,m[k]? =some b:=⟨_,List.getElem?_eq_getElem (by omega)⟩;have hc:=hf a (List.mem_of_getElem? hx) b (List.mem_of_getElem? hy);rw[CR hx,CR hy]at hinv;simp only[Ex.sames]at hinv;have hr:=Ex.rows_get hx;have hr2:=Ex.rows_get hy;generalize he:a.same b=e at hc hinv;clear he hf;obtain⟨op2,name2,n2,args2,kids2⟩:=a;obtain⟨op3,name3,n3,args3,kids3⟩:=b;simp only[Ex.cells]at hr hr2 hc;replace zz:=AJ g1 g2 g15 g16 gk hll hlm hd hr hr2 w7 @Ds;refine wy zz ?_;refine MW (sq g2) (hc _) (by simp only[Ty.w,simprocAttr,g1,g2,g15,g16,gk];try rfl) ?_;simp only[Ty.w,simprocAttr,Ty.AU];cases e with
    |false=>
     replace zz:=AY g1 g2 g15 g16 gk w7 yF;refine wy zz ?_;rw[hinv];exact⟨rfl,(((hg.new _).set hg.le _).new _).set (Pw hg.le) _⟩
    |true=>
     replace zz:=AY g1 g2 g15 g16 gk w7 yT;refine wy zz ?_;rw[Ah]at hinv;exact⟨l.length-(k+1),by omega,(((hg.new _).set hg.le _).new _).set (Pw hg.le) _,k+1,by simp,by omega,rfl,hinv⟩
   ·have hd:decide ((k:Int)<(l.length:Int))=false:=(by simp;omega);rw[List.drop_eq_nil_of_le (by omega),List.drop_eq_nil_of_le (by omega)]at hinv;simp only[Ex.sames]at hinv;replace zz:=AY g1 g2 g15 g16 gk hll hd;refine wt zz ?_;rw[hinv];exact⟨rfl,hg⟩
theorem ZH: ∀ a:Ex,a.ok-> ∀ b:Ex,b.ok-> ∀ h:A0,AA prog 139 [.agg a.cells,.agg b.cells] h λr h'=>r= .sc (.bool (a.same b))/\h'=h:=by
 refine Ex.ind ?_;intro op name n args kids ih hok;rintro⟨op3,name3,n3,args3,kids3⟩ hok3 h;simp only[Ex.ok]at hok hok3;obtain⟨_,_,_,⟨ha,_⟩,hk,hks⟩:=hok;obtain⟨_,_,_,⟨ha3,_⟩,hk3,hks3⟩:=hok3;rw[Ex.oks_iff]at hks hks3;have hfk: ∀ a∈kids, ∀ b∈kids3, ∀ h:A0,AA prog 139 [.agg a.cells,.agg b.cells] h λr h'=>r= .sc (.bool (a.same b))/\h'=h:=λa ha b hb=>ih a ha (hks a ha) b (hks3 b hb)
 clear ih;simp only[Ex.cells];refine AN func139 ntmps139 results139 Ty.Yf ?_;cases e0:(op.data.toList==op3.data.toList)with
 |false=>
  have hs:(Ex.mk op name n args kids).same (.mk op3 name3 n3 args3 kids3)=false:=by simp only[Ex.same,A3,e0,Ai,B5]
  refine wt e0 ?_;rw[hs]
 |true=>
  cases e1:(name.data.toList==name3.data.toList)with
  |false=>
   have hs:(Ex.mk op name n args kids).same (.mk op3 name3 n3 args3 kids3)=false:=(by simp only[Ex.same,A3,e0,e1,Ai,B5]);refine wt (uu e0 e1) ?_;rw[hs]
  |true=>
   cases e2:(n==n3)with
   |false=>
    have hs:(Ex.mk op name n args kids).same (.mk op3 name3 n3 args3 kids3)=false:=(by simp only[Ex.same,A3,e0,e1,e2,Ai,B5]);refine wt (Aj e0 e1 e2) ?_;rw[hs]
   |true=>
    refine wt (Aj e0 e1 e2) ?_;cases e3:DR args args3 with
    |false=>
     have hs:(Ex.mk op name n args kids).same (.mk op3 name3 n3 args3 kids3)=false:=(by simp only[Ex.same,A3,e0,e1,e2,e3,Ai,B5]);replace zz:=AS e0 e1 e2 e3;refine uU zz (Mt (l:=args) (m:=args3) ha ha3) ?_;refine wt zz ?_;rw[hs]
    |true=>
     replace zz:=AS e0 e1 e2 e3;refine uU zz (Mt (l:=args) (m:=args3) ha ha3) ?_;refine wt zz ?_;have hs:(Ex.mk op name n args kids).same (.mk op3 name3 n3 args3 kids3)=Ex.sames kids kids3:=(by simp only[Ex.same,A3,e0,e1,e2,e3,Ah]);replace zz:=AS e0 e1 e2 e3;refine uU zz (Od hk hfk _) ?_;refine wt zz ?_;rw[hs]
theorem ZI{g:FuncId}{l m:List Fm}(hl:l.length<=AE)(hf: ∀ a∈l, ∀ b∈m, ∀ h:A0,AA prog g [.agg a.cells,.agg b.cells] h λr h'=>r= .sc (.bool (a.same b))/\h'=h)(h:A0):
  AA prog 140 [.imm 6 (Fm.rows l),.imm 6 (Fm.rows m),.sc (.func (.func g) #[] #[])] h λr h'=>r= .sc (.bool (Fm.sames l m))/\h'=h:=by
 unfold AE at hl;have hll:=Fm.rows_len l;have hlm:=Fm.rows_len m;refine AA.quiet Ty.RQ ?_;refine AN func140 ntmps140 results140 Ty.RQ ?_;cases hne:((l.length:Int) !=m.length)with
 |true=>
  have:Fm.sames l m=false:=Fm.sames_len (by simp at hne;omega);refine wt (Aj hll hlm hne) ?_;rw[this];exact⟨rfl,AL.refl _⟩
 |false=>
  have hlen:l.length=m.length:=by simp at hne;omega
  refine wt (Aj hll hlm hne) ?_;refine BV (λc S h'=>AL h h'/\S 1= .imm 6 (Fm.rows m)/\S 2= .sc (.func (.func g) #[] #[])/\S 15= .imm 6 (Fm.rows l)/\S 16= .sc (.int .i64 l.length)/\ ∃ k:Nat,S 17= .sc (.int .i64 k)/\k<=l.length/\c=l.length-k/\Fm.sames l m=Fm.sames (l.drop k) (m.drop k)) l.length ?_ ?_
  ·simp only[Ty.w,simprocAttr];exact⟨AL.refl _,0,rfl,by omega,rfl,by simp⟩
  ·rintro c S h' ⟨hg,g1,g2,g15,g16,k,gk,hkl,rfl,hinv⟩;by_cases hlt:k<l.length
   ·have hd:decide ((k:Int)<(l.length:Int))=true:=(by simp;omega);have w7:IntKind.i64.wrap ((k:Int)+1)=k+1:=(by rw[B9 (by omega) (by omega)]);obtain⟨a,hx⟩: ∃ a,l[k]? =some a:=⟨_,List.getElem?_eq_getElem hlt⟩;obtain⟨b,hy⟩: ∃ b,m[k]? =some b:=⟨_,List.getElem?_eq_getElem (by omega)⟩;have hc:=hf a (List.mem_of_getElem? hx) b (List.mem_of_getElem? hy);rw[CR hx,CR hy]at hinv;simp only[Fm.sames]at hinv;have hr:=Fm.rows_get hx;have hr2:=Fm.rows_get hy;generalize he:a.same b=e at hc hinv;clear he hf;obtain⟨op2,name2,args2,params2,S7,kids2⟩:=a;obtain⟨op3,name3,args3,params3,exprs3,kids3⟩:=b;simp only[Fm.cells]at hr hr2 hc;replace zz:=AJ g1 g2 g15 g16 gk hll hlm hd hr hr2 w7 @Ds;refine wy zz ?_;refine MW (sq g2) (hc _) (by simp only[Ty.w,simprocAttr,g1,g2,g15,g16,gk];try rfl) ?_;simp only[Ty.w,simprocAttr,Ty.AU];cases e with
    |false=>
     replace zz:=AY g1 g2 g15 g16 gk w7 yF;refine wy zz ?_;rw[hinv];exact⟨rfl,(((hg.new _).set hg.le _).new _).set (Pw hg.le) _⟩
    |true=>
     replace zz:=AY g1 g2 g15 g16 gk w7 yT;refine wy zz ?_;rw[Ah]at hinv;exact⟨l.length-(k+1),by omega,(((hg.new _).set hg.le _).new _).set (Pw hg.le) _,k+1,by simp,by omega,rfl,hinv⟩
   ·have hd:decide ((k:Int)<(l.length:Int))=false:=(by simp;omega);rw[List.drop_eq_nil_of_le (by omega),List.drop_eq_nil_of_le (by omega)]at hinv;simp only[Fm.sames]at hinv;replace zz:=AY g1 g2 g15 g16 gk hll hd;refine wt zz ?_;rw[hinv];exact⟨rfl,hg⟩
theorem KF: ∀ a:Fm,a.ok-> ∀ b:Fm,b.ok-> ∀ h:A0,AA prog 98 [.agg a.cells,.agg b.cells] h λr h'=>r= .sc (.bool (a.same b))/\h'=h:=by
 refine Fm.ind ?_;intro op name args params exprs kids ih hok;rintro⟨op3,name3,args3,params3,exprs3,kids3⟩ hok3 h;simp only[Fm.ok]at hok hok3;obtain⟨_,_,⟨ha,_⟩,⟨hp,_⟩,⟨he,hes⟩,hk,hks⟩:=hok;obtain⟨_,_,⟨ha3,_⟩,⟨hp3,_⟩,⟨he3,hes3⟩,hk3,hks3⟩:=hok3;rw[Fm.oks_iff]at hks hks3;have hfk: ∀ a∈kids, ∀ b∈kids3, ∀ h:A0,AA prog 98 [.agg a.cells,.agg b.cells] h λr h'=>r= .sc (.bool (a.same b))/\h'=h:=λa ha b hb=>ih a ha (hks a ha) b (hks3 b hb);rw[Ex.oks_iff]at hes hes3;have hfe: ∀ a∈exprs, ∀ b∈exprs3, ∀ h:A0,AA prog 139 [.agg a.cells,.agg b.cells] h λr h'=>r= .sc (.bool (a.same b))/\h'=h:=λa ha b hb=>ZH a (hes a ha) b (hes3 b hb)
 clear ih;simp only[Fm.cells];refine AN func98 ntmps98 results98 Ty.YN ?_;cases e0:(op.data.toList==op3.data.toList)with
 |false=>
  have hs:(Fm.mk op name args params exprs kids).same (.mk op3 name3 args3 params3 exprs3 kids3)=false:=by simp only[Fm.same,A3,e0,Ai,B5]
  refine wt e0 ?_;rw[hs]
 |true=>
  cases e1:(name.data.toList==name3.data.toList)with
  |false=>
   have hs:(Fm.mk op name args params exprs kids).same (.mk op3 name3 args3 params3 exprs3 kids3)=false:=(by simp only[Fm.same,A3,e0,e1,Ai,B5]);refine wt (uu e0 e1) ?_;rw[hs]
  |true=>
   refine wt (uu e0 e1) ?_;cases e2:DR args args3 with
   |false=>
    have hs:(Fm.mk op name args params exprs kids).same (.mk op3 name3 args3 params3 exprs3 kids3)=false:=(by simp only[Fm.same,A3,e0,e1,e2,Ai,B5]);refine uU (Aj e0 e1 e2) (Mt (l:=args) (m:=args3) ha ha3) ?_;refine wt (Aj e0 e1 e2) ?_;rw[hs]
   |true=>
    refine uU (Aj e0 e1 e2) (Mt (l:=args) (m:=args3) ha ha3) ?_;refine wt (Aj e0 e1 e2) ?_;cases e3:E5 params params3 with
    |false=>
     have hs:(Fm.mk op name args params exprs kids).same (.mk op3 name3 args3 params3 exprs3 kids3)=false:=(by simp only[Fm.same,A3,e0,e1,e2,e3,Ai,B5]);replace zz:=AS e0 e1 e2 e3;refine uU zz (Ru (l:=params) (m:=params3) hp hp3) ?_;refine wt zz ?_;rw[hs]
    |true=>
     replace zz:=AS e0 e1 e2 e3;refine uU zz (Ru (l:=params) (m:=params3) hp hp3) ?_;refine wt zz ?_;cases e4:Ex.sames exprs exprs3 with
     |false=>
      have hs:(Fm.mk op name args params exprs kids).same (.mk op3 name3 args3 params3 exprs3 kids3)=false:=(by simp only[Fm.same,A3,e0,e1,e2,e3,e4,Ai,B5]);replace zz:=AV e0 e1 e2 e3 e4;refine uU zz (Od he hfe _) ?_;refine wt zz ?_;rw[hs]
     |true=>
      replace zz:=AV e0 e1 e2 e3 e4;refine uU zz (Od he hfe _) ?_;refine wt zz ?_;have hs:(Fm.mk op name args params exprs kids).same (.mk op3 name3 args3 params3 exprs3 kids3)=Fm.sames kids kids3:=(by simp only[Fm.same,A3,e0,e1,e2,e3,e4,Ah]);replace zz:=AV e0 e1 e2 e3 e4;refine uU zz (ZI hk hfk _) ?_;refine wt zz ?_;rw[hs]
end Go.Proofs.YtblgchkahpgdjaaGreat
namespace Go.AM
mutual
def Sx.small:Sx->Prop
 | .mk _ _ _ _ _ kids=>kids.length<=1048576/\Sx.smalls kids
def Sx.smalls:List Sx->Prop
 |[]=>True
 |k::ks=>k.small/\Sx.smalls ks
end
theorem Sx.smalls_iff:{l:List Sx}->(Sx.smalls l↔ ∀ k∈l,k.small)
 |[]=>by simp[Sx.smalls]
 |k::ks=>by simp[Sx.smalls,Sx.smalls_iff (l:=ks)]
end Go.AM
namespace Go.Proofs.YtblgchkahpgdjaaGreat
open Go.AM Go.Proofs.Tryz
set_option maxHeartbeats 4000000
set_option maxRecDepth 20000
end Go.Proofs.YtblgchkahpgdjaaGreat
namespace Go.Proofs.YtblgchkahpgdjaaGreat
open Go.AM Go.Proofs.Tryz
set_option maxHeartbeats 2000000
set_option maxRecDepth 20000
theorem ZJ(c:UInt8):(CQ c=true/\decide ((c.toNat:Int)<48)=false/\decide ((c.toNat:Int)>57)=false)\/(CQ c=false/\decide ((c.toNat:Int)<48)=true)\/(CQ c=false/\decide ((c.toNat:Int)<48)=false/\decide ((c.toNat:Int)>57)=true):=by
 simp only[CQ,AT,Ps,BQ,CE];omega
theorem Oe{h:A0}{s:ByteArray}(hs:s.size<=AE):AA prog 172 [A1 s] h λr h'=>r= .sc (.bool (s.data.toList.all CQ&&decide (0<s.size)))/\h'=h:=by
 unfold AE at hs;have htl:s.data.toList.length=s.size:=by rw[DE];try rfl
 refine AN func172 ntmps172 results172 Ty.Yb ?_;refine wt A2 ?_;refine BV (λm S h'=>h'=h/\S 0=A1 s/\ ∃ k:Nat,S 3= .sc (.int .i64 k)/\k<=s.size/\m=s.size-k/\ ∀ (i:Nat)(c:UInt8),i<k->s.data.toList[i]? =some c->CQ c=true) s.size ?_ ?_
 ·simp only[Ty.w,simprocAttr];exact⟨0,rfl,by omega,rfl,by omega⟩
 ·rintro m S h' ⟨rfl,g0,k,g3,hk,rfl,hall⟩;by_cases hlt:k<s.size
  ·have hd:decide ((k:Int)<(s.size:Int))=true:=(by simp;omega);have w7:IntKind.i64.wrap ((k:Int)+1)=k+1:=(by rw[B9 (by omega) (by omega)]);obtain⟨c,hx⟩: ∃ c,s.data.toList[k]? =some c:=⟨_,List.getElem?_eq_getElem (by omega)⟩;have hr:s[k]? =some c:=(by rw[HI];exact hx);have bad:CQ c=false->s.data.toList.all CQ=false:=λhg=>(by rw[List.all_eq_false];exact⟨c,List.mem_of_getElem? hx,by simp[hg]⟩);rcases ZJ c with⟨hg,c1,c2⟩|⟨hg,c1⟩|⟨hg,c1,c2⟩
   ·replace zz:=AY g0 g3 hd hr c1 c2 w7;refine wt zz ?_;refine⟨s.size-(k+1),by omega,k+1,by simp,by omega,rfl,λi c2 hi hw=>?_⟩;by_cases hik:i=k
    ·subst hik;rw[hx]at hw;simp at hw;rw[← hw];exact hg
    ·exact hall i c2 (by omega) hw
   ·replace zz:=AV g0 g3 hd hr c1;refine wt zz ?_;rw[bad hg];try rfl
   ·replace zz:=AK g0 g3 hd hr c1 c2;refine wt zz ?_;rw[bad hg];try rfl
  ·have hd:decide ((k:Int)<(s.size:Int))=false:=(by simp;omega);have hok:s.data.toList.all CQ=true:=by
    rw[List.all_eq_true];intro c hc;obtain⟨i,hi⟩:=List.getElem?_of_mem hc;exact hall i c (by have:=(List.getElem?_eq_some_iff.1 hi).1;omega) hi
   have e1:decide ((s.size:Int)>0)=decide (0<s.size):=Ls.2 (by omega);clear hall;refine wt (Aj g0 g3 hd) ?_;rw[hok,e1];try rfl
theorem ZK{h:A0}{s:ByteArray}(hs:s.size<=AE):AA prog 160 [A1 s] h λr h'=>r= .sc (.bool (Gi s))/\h'=h:=by
 have htl:s.data.toList.length=s.size:=by rw[DE];try rfl
 cases b1:decide ((s.size:Int)>0)with
 |false=>
  have ht:Cp s=s:=by
   have:s.data.toList=[]:=List.eq_nil_of_length_eq_zero (by have:=Px b1;omega);unfold Cp;rw[this]
  have hd:=Oe (h:=h) hs;refine AN func160 ntmps160 results160 Ty.OL ?_;refine wt b1 ?_;refine uU b1 (hd) ?_;refine wt A2 ?_;rw[show Gi s=((Cp s).data.toList.all CQ&&decide (0<(Cp s).size))from rfl,ht]
 |true=>
  have hpos:0<s.size:=by simp at b1;omega
  obtain⟨c,hx⟩: ∃ c,s.data.toList[0]? =some c:=⟨_,List.getElem?_eq_getElem (by omega)⟩;have hr:s[0]? =some c:=by rw[HI];exact hx
  cases b2:((c.toNat:Int)==45)with
  |false=>
   have ht:Cp s=s:=by
    unfold Cp;split
    ·rename_i l heq;rw[heq]at hx;simp at hx;subst hx;simp at b2
    ·rfl
   have hd:=Oe (h:=h) hs;refine AN func160 ntmps160 results160 Ty.OL ?_;refine wt (Aj b1 hr b2) ?_;refine uU (uu b1 b2) (hd) ?_;refine wt A2 ?_;rw[show Gi s=((Cp s).data.toList.all CQ&&decide (0<(Cp s).size))from rfl,ht]
  |true=>
   have hc:c=45:=by
    have:c.toNat=45:=(by simp at b2;omega);exact UInt8.toNat_inj.1 this
   have q1:(1:Int)<=(s.size:Int):=(by omega);have ht:Cp s=s.extract 1 s.size:=by
    cases hl:s.data.toList with
    |nil=>rw[hl]at hx;simp at hx
    |cons d l=>
     rw[hl]at hx;simp at hx;subst hx;subst hc;unfold Cp;rw[hl];refine Mr ?_;have hl2:=htl;rw[hl]at hl2;simp at hl2;simp only[dg,dh,List.extract_eq_take_drop,hl];rw[List.drop_succ_cons,List.drop_zero,List.take_of_length_le (by omega)]
   have hsz:(s.extract 1 s.size).size<=AE:=(by simp only[ByteArray.size_extract];omega);have hd:=Oe (h:=h) hsz;refine AN func160 ntmps160 results160 Ty.OL ?_;replace zz:=AK b1 hr b2 q1 @Jr @Pu;refine wt zz ?_;replace zz:=AV b1 b2 q1 @Jr @Pu;refine uU zz (hd) ?_;refine wt A2 ?_;rw[show Gi s=((Cp s).data.toList.all CQ&&decide (0<(Cp s).size))from rfl,ht]
theorem ZL(c:UInt8):(wB c=true/\decide ((c.toNat:Int)>=97)=true/\decide ((c.toNat:Int)<=122)=true)\/
  (CM c=false/\decide ((c.toNat:Int)>=97)=true/\decide ((c.toNat:Int)<=122)=false/\decide ((c.toNat:Int)>=48)=true/\decide ((c.toNat:Int)<=57)=false/\CQ c=false)\/
  (CM c=false/\decide ((c.toNat:Int)>=97)=false/\decide ((c.toNat:Int)>=48)=false/\CQ c=false)\/
  (wB c=true/\decide ((c.toNat:Int)>=97)=false/\decide ((c.toNat:Int)>=48)=true/\decide ((c.toNat:Int)<=57)=true)\/
  (CM c=false/\decide ((c.toNat:Int)>=97)=false/\decide ((c.toNat:Int)>=48)=true/\decide ((c.toNat:Int)<=57)=false/\CQ c=false):=by
 simp only[wB,CM,CQ,AT,Cc,Ps,BQ,CE];omega
theorem CY(c:UInt8):JN.contains c=(((c.toNat:Int)==45)||((c.toNat:Int)==95)||((c.toNat:Int)==63)||((c.toNat:Int)==58)||((c.toNat:Int)==60)||((c.toNat:Int)==62)||((c.toNat:Int)==61)||((c.toNat:Int)==43)||((c.toNat:Int)==42)):=by
 have hh: ∀ d:UInt8,(c==d)=((c.toNat:Int)==(d.toNat:Int)):=by
  intro d;by_cases h:c=d
  ·subst h;simp
  ·have:¬ c.toNat=d.toNat:=λe=>h (UInt8.toNat_inj.1 e);have:¬ (c.toNat:Int)=(d.toNat:Int):=(by omega);rw[Kb.2 h,Kb.2 this]
 have e:JN.contains c=(c==45||(c==95||(c==63||(c==58||(c==60||(c==62||(c==61||(c==43||(c==42||false))))))))):=rfl;rw[e,hh,hh,hh,hh,hh,hh,hh,hh,hh];simp only[E1,Bool.or_assoc];rfl
theorem S8{h:A0}{c:UInt8}:AA prog 159 [.sc (.int .u8 c.toNat)] h λr h'=>r= .sc (.bool (wB c))/\h'=h:=by
 refine AN func159 ntmps159 results159 Ty.YY ?_;rcases ZL c with⟨hw,c1,c2⟩|⟨hlet,c1,c2,c3,c4,hdig⟩|⟨hlet,c1,c3,hdig⟩|⟨hw,c1,c3,c4⟩|⟨hlet,c1,c3,c4,hdig⟩
 ·refine wm (uu c1 c2) ?_;try exact zI
  all_goals(rw[hw])
 ·cases s0:((c.toNat:Int)==45)with
  |true=>
   have hw:wB c=true:=(by simp only[wB,hlet,hdig,CY,s0,Bh,Bd,BL]);replace zz:=AV c1 c2 c3 c4 s0;refine wm zz ?_;try exact zI
   all_goals(rw[hw])
  |false=>
   cases s1:((c.toNat:Int)==95)with
   |true=>
    have hw:wB c=true:=(by simp only[wB,hlet,hdig,CY,s0,s1,Bh,Bd,BL]);replace zz:=AK c1 c2 c3 c4 s0 s1;refine wm zz ?_;try exact zI
    all_goals(rw[hw])
   |false=>
    cases s2:((c.toNat:Int)==63)with
    |true=>
     have hw:wB c=true:=(by simp only[wB,hlet,hdig,CY,s0,s1,s2,Bh,Bd,BL]);replace zz:=AY c1 c2 c3 c4 s0 s1 s2;refine wm zz ?_;try exact zI
     all_goals(rw[hw])
    |false=>
     cases s3:((c.toNat:Int)==58)with
     |true=>
      have hw:wB c=true:=(by simp only[wB,hlet,hdig,CY,s0,s1,s2,s3,Bh,Bd,BL]);replace zz:=B6 c1 c2 c3 c4 s0 s1 s2 s3;refine wm zz ?_;try exact zI
      all_goals(rw[hw])
     |false=>
      cases s4:((c.toNat:Int)==60)with
      |true=>
       have hw:wB c=true:=(by simp only[wB,hlet,hdig,CY,s0,s1,s2,s3,s4,Bh,Bd,BL]);replace zz:=BR c1 c2 c3 c4 s0 s1 s2 s3 s4;refine wm zz ?_;try exact zI
       all_goals(rw[hw])
      |false=>
       cases s5:((c.toNat:Int)==62)with
       |true=>
        have hw:wB c=true:=(by simp only[wB,hlet,hdig,CY,s0,s1,s2,s3,s4,s5,Bh,Bd,BL]);replace zz:=Aq c1 c2 c3 c4 s0 s1 s2 s3 s4 s5;refine wm zz ?_;try exact zI
        all_goals(rw[hw])
       |false=>
        cases s6:((c.toNat:Int)==61)with
        |true=>
         have hw:wB c=true:=(by simp only[wB,hlet,hdig,CY,s0,s1,s2,s3,s4,s5,s6,Bh,Bd,BL]);replace zz:=Cv c1 c2 c3 c4 s0 s1 s2 s3 s4 s5 s6;refine wm zz ?_;try exact zI
         all_goals(rw[hw])
        |false=>
         cases s7:((c.toNat:Int)==43)with
         |true=>
          have hw:wB c=true:=(by simp only[wB,hlet,hdig,CY,s0,s1,s2,s3,s4,s5,s6,s7,Bh,Bd,BL]);replace zz:=AJ c1 c2 c3 c4 s0 s1 s2 s3 s4 s5 s6 s7;refine wm zz ?_;try exact zI
          all_goals(rw[hw])
         |false=>
          cases s8:((c.toNat:Int)==42)with
          |true=>
           have hw:wB c=true:=(by simp only[wB,hlet,hdig,CY,s0,s1,s2,s3,s4,s5,s6,s7,s8,Bh,Bd,BL]);replace zz:=AJ c1 c2 c3 c4 s0 s1 s2 s3 s4 s5 s6 (uu s7 s8);refine wm zz ?_;try exact zI
           all_goals(rw[hw])
          |false=>
           have hw:wB c=false:=(by simp only[wB,hlet,hdig,CY,s0,s1,s2,s3,s4,s5,s6,s7,s8,E1]);replace zz:=AJ c1 c2 c3 c4 s0 s1 s2 s3 s4 s5 s6 (uu s7 s8);refine wm zz ?_;try exact zI
           all_goals(rw[hw])
 ·cases s0:((c.toNat:Int)==45)with
  |true=>
   have hw:wB c=true:=(by simp only[wB,hlet,hdig,CY,s0,Bh,Bd,BL]);refine wm (Aj c1 c3 s0) ?_;try exact zI
   all_goals(rw[hw])
  |false=>
   cases s1:((c.toNat:Int)==95)with
   |true=>
    have hw:wB c=true:=(by simp only[wB,hlet,hdig,CY,s0,s1,Bh,Bd,BL]);replace zz:=AS c1 c3 s0 s1;refine wm zz ?_;try exact zI
    all_goals(rw[hw])
   |false=>
    cases s2:((c.toNat:Int)==63)with
    |true=>
     have hw:wB c=true:=(by simp only[wB,hlet,hdig,CY,s0,s1,s2,Bh,Bd,BL]);replace zz:=AV c1 c3 s0 s1 s2;refine wm zz ?_;try exact zI
     all_goals(rw[hw])
    |false=>
     cases s3:((c.toNat:Int)==58)with
     |true=>
      have hw:wB c=true:=(by simp only[wB,hlet,hdig,CY,s0,s1,s2,s3,Bh,Bd,BL]);replace zz:=AK c1 c3 s0 s1 s2 s3;refine wm zz ?_;try exact zI
      all_goals(rw[hw])
     |false=>
      cases s4:((c.toNat:Int)==60)with
      |true=>
       have hw:wB c=true:=(by simp only[wB,hlet,hdig,CY,s0,s1,s2,s3,s4,Bh,Bd,BL]);replace zz:=AY c1 c3 s0 s1 s2 s3 s4;refine wm zz ?_;try exact zI
       all_goals(rw[hw])
      |false=>
       cases s5:((c.toNat:Int)==62)with
       |true=>
        have hw:wB c=true:=(by simp only[wB,hlet,hdig,CY,s0,s1,s2,s3,s4,s5,Bh,Bd,BL]);replace zz:=B6 c1 c3 s0 s1 s2 s3 s4 s5;refine wm zz ?_;try exact zI
        all_goals(rw[hw])
       |false=>
        cases s6:((c.toNat:Int)==61)with
        |true=>
         have hw:wB c=true:=(by simp only[wB,hlet,hdig,CY,s0,s1,s2,s3,s4,s5,s6,Bh,Bd,BL]);replace zz:=BR c1 c3 s0 s1 s2 s3 s4 s5 s6;refine wm zz ?_;try exact zI
         all_goals(rw[hw])
        |false=>
         cases s7:((c.toNat:Int)==43)with
         |true=>
          have hw:wB c=true:=(by simp only[wB,hlet,hdig,CY,s0,s1,s2,s3,s4,s5,s6,s7,Bh,Bd,BL]);replace zz:=Aq c1 c3 s0 s1 s2 s3 s4 s5 s6 s7;refine wm zz ?_;try exact zI
          all_goals(rw[hw])
         |false=>
          cases s8:((c.toNat:Int)==42)with
          |true=>
           have hw:wB c=true:=(by simp only[wB,hlet,hdig,CY,s0,s1,s2,s3,s4,s5,s6,s7,s8,Bh,Bd,BL]);replace zz:=Cv c1 c3 s0 s1 s2 s3 s4 s5 s6 s7 s8;refine wm zz ?_;try exact zI
           all_goals(rw[hw])
          |false=>
           have hw:wB c=false:=(by simp only[wB,hlet,hdig,CY,s0,s1,s2,s3,s4,s5,s6,s7,s8,E1]);replace zz:=Cv c1 c3 s0 s1 s2 s3 s4 s5 s6 s7 s8;refine wm zz ?_;try exact zI
           all_goals(rw[hw])
 ·refine wm (Aj c1 c3 c4) ?_;try exact zI
  all_goals(rw[hw])
 ·cases s0:((c.toNat:Int)==45)with
  |true=>
   have hw:wB c=true:=(by simp only[wB,hlet,hdig,CY,s0,Bh,Bd,BL]);replace zz:=AS c1 c3 c4 s0;refine wm zz ?_;try exact zI
   all_goals(rw[hw])
  |false=>
   cases s1:((c.toNat:Int)==95)with
   |true=>
    have hw:wB c=true:=(by simp only[wB,hlet,hdig,CY,s0,s1,Bh,Bd,BL]);replace zz:=AV c1 c3 c4 s0 s1;refine wm zz ?_;try exact zI
    all_goals(rw[hw])
   |false=>
    cases s2:((c.toNat:Int)==63)with
    |true=>
     have hw:wB c=true:=(by simp only[wB,hlet,hdig,CY,s0,s1,s2,Bh,Bd,BL]);replace zz:=AK c1 c3 c4 s0 s1 s2;refine wm zz ?_;try exact zI
     all_goals(rw[hw])
    |false=>
     cases s3:((c.toNat:Int)==58)with
     |true=>
      have hw:wB c=true:=(by simp only[wB,hlet,hdig,CY,s0,s1,s2,s3,Bh,Bd,BL]);replace zz:=AY c1 c3 c4 s0 s1 s2 s3;refine wm zz ?_;try exact zI
      all_goals(rw[hw])
     |false=>
      cases s4:((c.toNat:Int)==60)with
      |true=>
       have hw:wB c=true:=(by simp only[wB,hlet,hdig,CY,s0,s1,s2,s3,s4,Bh,Bd,BL]);replace zz:=B6 c1 c3 c4 s0 s1 s2 s3 s4;refine wm zz ?_;try exact zI
       all_goals(rw[hw])
      |false=>
       cases s5:((c.toNat:Int)==62)with
       |true=>
        have hw:wB c=true:=(by simp only[wB,hlet,hdig,CY,s0,s1,s2,s3,s4,s5,Bh,Bd,BL]);replace zz:=BR c1 c3 c4 s0 s1 s2 s3 s4 s5;refine wm zz ?_;try exact zI
        all_goals(rw[hw])
       |false=>
        cases s6:((c.toNat:Int)==61)with
        |true=>
         have hw:wB c=true:=(by simp only[wB,hlet,hdig,CY,s0,s1,s2,s3,s4,s5,s6,Bh,Bd,BL]);replace zz:=Aq c1 c3 c4 s0 s1 s2 s3 s4 s5 s6;refine wm zz ?_;try exact zI
         all_goals(rw[hw])
        |false=>
         cases s7:((c.toNat:Int)==43)with
         |true=>
          have hw:wB c=true:=(by simp only[wB,hlet,hdig,CY,s0,s1,s2,s3,s4,s5,s6,s7,Bh,Bd,BL]);replace zz:=Cv c1 c3 c4 s0 s1 s2 s3 s4 s5 s6 s7;refine wm zz ?_;try exact zI
          all_goals(rw[hw])
         |false=>
          cases s8:((c.toNat:Int)==42)with
          |true=>
           have hw:wB c=true:=(by simp only[wB,hlet,hdig,CY,s0,s1,s2,s3,s4,s5,s6,s7,s8,Bh,Bd,BL]);replace zz:=AJ c1 c3 c4 s0 s1 s2 s3 s4 s5 s6 s7 s8;refine wm zz ?_;try exact zI
           all_goals(rw[hw])
          |false=>
           have hw:wB c=false:=(by simp only[wB,hlet,hdig,CY,s0,s1,s2,s3,s4,s5,s6,s7,s8,E1]);replace zz:=AJ c1 c3 c4 s0 s1 s2 s3 s4 s5 s6 s7 s8;refine wm zz ?_;try exact zI
           all_goals(rw[hw])
def If(s:ByteArray):Bool:=s.data.toList.all wB&&decide (1<=s.size)&&decide (s.size<=32)&&!(Gi s)
theorem ZM{h:A0}{s:ByteArray}(hs:s.size<=AE):AA prog 131 [A1 s] h λr h'=>r= .sc (.bool (If s))/\h'=h:=by
 have hs':=hs;unfold AE at hs';have htl:s.data.toList.length=s.size:=by rw[DE];try rfl
 refine AN func131 ntmps131 results131 Ty.YT ?_;refine wt A2 ?_;refine BV (λm S h'=>h'=h/\S 0=A1 s/\ ∃ k:Nat,S 3= .sc (.int .i64 k)/\k<=s.size/\m=s.size-k/\ ∀ (i:Nat)(c:UInt8),i<k->s.data.toList[i]? =some c->wB c=true) s.size ?_ ?_
 ·simp only[Ty.w,simprocAttr];exact⟨0,rfl,by omega,rfl,by omega⟩
 ·rintro m S h' ⟨rfl,g0,k,g3,hk,rfl,hall⟩;by_cases hlt:k<s.size
  ·have hd:decide ((k:Int)<(s.size:Int))=true:=(by simp;omega);have w7:IntKind.i64.wrap ((k:Int)+1)=k+1:=(by rw[B9 (by omega) (by omega)]);obtain⟨c,hx⟩: ∃ c,s.data.toList[k]? =some c:=⟨_,List.getElem?_eq_getElem (by omega)⟩;have hr:s[k]? =some c:=(by rw[HI];exact hx);cases hg:wB c with
   |false=>
    have bad:s.data.toList.all wB=false:=(by rw[List.all_eq_false];exact⟨c,List.mem_of_getElem? hx,by simp[hg]⟩);have hw:If s=false:=(by simp only[If,bad,Ai]);replace zz:=AS g0 g3 hd hr;refine wt zz ?_;replace zz:=AK g0 g3 hd hr hg yF;refine uU zz (S8 (c:=c)) ?_;refine wm (Aj g0 g3 yF) ?_;try exact zI
    all_goals(rw[hw])
   |true=>
    replace zz:=AS g0 g3 hd hr;refine wt zz ?_;replace zz:=AK g0 g3 hd hr hg yT;refine uU zz (S8 (c:=c)) ?_;replace zz:=AS g0 g3 w7 yT;refine wt zz ?_;refine⟨s.size-(k+1),by omega,k+1,by simp,by omega,rfl,λi c2 hi hw=>?_⟩;by_cases hik:i=k
    ·subst hik;rw[hx]at hw;simp at hw;rw[← hw];exact hg
    ·exact hall i c2 (by omega) hw
  ·have hd:decide ((k:Int)<(s.size:Int))=false:=(by simp;omega);have hok:s.data.toList.all wB=true:=by
    rw[List.all_eq_true];intro c hc;obtain⟨i,hi⟩:=List.getElem?_of_mem hc;exact hall i c (by have:=(List.getElem?_eq_some_iff.1 hi).1;omega) hi
   have e1:decide ((s.size:Int)>=1)=decide (1<=s.size):=Ls.2 (by omega);have e2:decide ((s.size:Int)<=32)=decide (s.size<=32):=Ls.2 (by omega);have hW:If s=(decide ((s.size:Int)>=1)&&decide ((s.size:Int)<=32)&&!(Gi s)):=(by simp only[If,hok,e1,e2,Ah]);clear hall e1 e2;have hn:=λh:A0=>ZK (h:=h) hs;cases q1:decide ((s.size:Int)>=1)with
   |false=>
    replace zz:=AS g0 g3 hd q1;refine wm zz ?_;try exact zI
    all_goals(rw[hW,q1];try rfl)
   |true=>
    cases q2:decide ((s.size:Int)<=32)with
    |false=>
     replace zz:=AV g0 g3 hd q1 q2;refine wm zz ?_;try exact zI
     all_goals(rw[hW,q1,q2];try rfl)
    |true=>
     replace zz:=AV g0 g3 hd q1 q2;refine wt zz ?_;refine uU (uu q1 q2) (hn _) ?_;refine wm (uu q1 q2) ?_;try exact zI
     all_goals(rw[hW,q1,q2];try rfl)
end Go.Proofs.YtblgchkahpgdjaaGreat
namespace Go.AM
mutual
def Sx.count:Sx->Int
 | .mk _ _ _ _ _ kids=>Sx.counts 1 kids
def Sx.counts(n:Int):List Sx->Int
 |[]=>n
 |k::ks=>Sx.counts (IntKind.i64.wrap (n+k.count)) ks
end
theorem Sx.counts_append: ∀ (l m:List Sx)(n:Int),Sx.counts n (l++m)=Sx.counts (Sx.counts n l) m
 |[],m,n=>by simp[Sx.counts]
 |k::l,m,n=>by simp only[List.cons_append,Sx.counts];exact Sx.counts_append l m _
theorem Sx.counts_take{l:List Sx}{i:Nat}{k:Sx}(n:Int)(h:l[i]? =some k):Sx.counts n (l.take (i+1))=IntKind.i64.wrap (Sx.counts n (l.take i)+k.count):=by
 rw[List.take_add_one,h,Sx.counts_append];try rfl
mutual
def Sx.depth:Sx->Nat
 | .mk kind _ _ _ _ kids=>if kind=3 then Sx.depths 0 kids+1 else Sx.depths 0 kids
def Sx.depths(n:Nat):List Sx->Nat
 |[]=>n
 |k::ks=>Sx.depths (max n k.depth) ks
end
theorem Sx.depths_append: ∀ (l m:List Sx)(n:Nat),Sx.depths n (l++m)=Sx.depths (Sx.depths n l) m
 |[],m,n=>by simp[Sx.depths]
 |k::l,m,n=>by simp only[List.cons_append,Sx.depths];exact Sx.depths_append l m _
theorem Sx.depths_take{l:List Sx}{i:Nat}{k:Sx}(n:Nat)(h:l[i]? =some k):Sx.depths n (l.take (i+1))=max (Sx.depths n (l.take i)) k.depth:=by
 rw[List.take_add_one,h,Sx.depths_append];try rfl
theorem Sx.depths_le: ∀ (l:List Sx)(n:Nat),n<=Sx.depths n l
 |[],n=>AF _
 |k::l,n=>by simp only[Sx.depths];exact ES (Nat.le_max_left _ _) (Sx.depths_le l _)
theorem Sx.depths_mem: ∀ {l:List Sx}{k:Sx}(n:Nat),k∈l->k.depth<=Sx.depths n l
 |k'::l,k,n,h=>by
  simp only[Sx.depths];rcases List.mem_cons.1 h with rfl|h
  ·exact ES (Nat.le_max_right _ _) (Sx.depths_le l _)
  ·exact Sx.depths_mem _ h
end Go.AM
namespace Go.Proofs.YtblgchkahpgdjaaGreat
open Go.AM Go.Proofs.Tryz
set_option maxHeartbeats 2000000
set_option maxRecDepth 20000
mutual
def FO:Sx->Bool
 | .mk kind value _ _ text kids=>
  if kind=1 then(value==0)&&kids.isEmpty&&If text
  else if kind=2 then(text.data.toList==(#[]:Array UInt8).toList)&&kids.isEmpty&&decide (value>= -1099511627776)&&decide (value<=1099511627776)
  else if kind=3 then Gk kids&&((text.data.toList==(#[]:Array UInt8).toList)&&(value==0))
  else false
def Gk:List Sx->Bool
 |[]=>true
 |k::ks=>FO k&&Gk ks
end
theorem ZN(l:List Sx):((l.length:Int)==0)=l.isEmpty:=by cases l<;>simp;omega
theorem ZO: ∀ (e:Sx),e.ok-> ∀ h:A0,AA prog 21 [.agg e.cells] h λr h'=>r= .sc (.int .i64 e.count)/\h'=h:=by
 refine Sx.ind ?_;intro kind value line col text kids ih hok h;simp only[Sx.ok]at hok;obtain⟨_,_,_,hk,hks⟩:=hok;rw[Sx.oks_iff]at hks;have hlen:=Sx.rows_len kids;simp only[Sx.cells,Sx.count];refine AN func21 ntmps21 results21 Ty.YD ?_;refine wt hlen ?_;refine BV (λm S h'=>h'=h/\S 1= .cptr (Sx.mk kind value line col text kids).cells/\ ∃ k:Nat,S 4= .sc (.int .i64 k)/\k<=kids.length/\m=kids.length-k/\S 3= .sc (.int .i64 (Sx.counts 1 (kids.take k)))) kids.length ?_ ?_
 ·simp only[Ty.w,simprocAttr];exact⟨rfl,0,rfl,by omega,rfl,by simp[Sx.counts]⟩
 ·rintro m S h' ⟨rfl,g1,k,g4,hkl,rfl,g3⟩;simp only[Sx.cells]at g1;by_cases hlt:k<kids.length
  ·have hd:decide ((k:Int)<(kids.length:Int))=true:=(by simp;omega);have w7:IntKind.i64.wrap ((k:Int)+1)=k+1:=(by unfold AE at hk;rw[B9 (by omega) (by omega)]);obtain⟨e,hx⟩: ∃ e,kids[k]? =some e:=⟨_,List.getElem?_eq_getElem hlt⟩;have hmem:=List.mem_of_getElem? hx;have hc:=ih e hmem (hks e hmem);have hsz:=Sx.counts_take 1 hx;have hr:=Sx.rows_get hx;obtain⟨ki,va,li,co,te,ks⟩:=e;simp only[Sx.cells]at hr hc;replace zz:=AY g1 g3 g4 hlen hd hr w7;refine wt zz ?_;replace zz:=AK g1 g3 g4 hlen hd hr;refine uU zz (hc _) ?_;replace zz:=AS g1 g3 g4 w7;refine wt zz ?_;exact⟨kids.length-(k+1),by omega,rfl,k+1,by simp,by omega,rfl,by rw[hsz]⟩
  ·have hd:decide ((k:Int)<(kids.length:Int))=false:=(by simp;omega);have hke:k=kids.length:=(by omega);subst hke;rw[List.take_length]at g3;replace zz:=AV g1 g3 g4 hlen hd;exact wz zz
theorem ZP: ∀ (e:Sx),e.ok->e.depth<=AE-> ∀ h:A0,AA prog 84 [.agg e.cells] h λr h'=>r= .sc (.int .i64 e.depth)/\h'=h:=by
 refine Sx.ind ?_;intro kind value line col text kids ih hok hdp h;simp only[Sx.ok]at hok;obtain⟨_,_,_,hk,hks⟩:=hok;rw[Sx.oks_iff]at hks;have hlen:=Sx.rows_len kids;simp only[Sx.depth]at hdp;have hdb:Sx.depths 0 kids<=AE:=by split at hdp<;>omega
 simp only[Sx.cells,Sx.depth];refine AN func84 ntmps84 results84 Ty.YL ?_;refine wt hlen ?_;refine BV (λm S h'=>h'=h/\S 1= .cptr (Sx.mk kind value line col text kids).cells/\ ∃ k:Nat,S 4= .sc (.int .i64 k)/\k<=kids.length/\m=kids.length-k/\S 3= .sc (.int .i64 (Sx.depths 0 (kids.take k):Nat))) kids.length ?_ ?_
 ·simp only[Ty.w,simprocAttr];exact⟨rfl,0,rfl,by omega,rfl,by simp[Sx.depths]⟩
 ·rintro m S h' ⟨rfl,g1,k,g4,hkl,rfl,g3⟩;simp only[Sx.cells]at g1;by_cases hlt:k<kids.length
  ·have hd:decide ((k:Int)<(kids.length:Int))=true:=(by simp;omega);have w7:IntKind.i64.wrap ((k:Int)+1)=k+1:=(by unfold AE at hk;rw[B9 (by omega) (by omega)]);obtain⟨e,hx⟩: ∃ e,kids[k]? =some e:=⟨_,List.getElem?_eq_getElem hlt⟩;have hmem:=List.mem_of_getElem? hx;have hc:=ih e hmem (hks e hmem) (ES (Sx.depths_mem 0 hmem) hdb);have hsz:=Sx.depths_take 0 hx;have hr:=Sx.rows_get hx;generalize Sx.depths 0 (kids.take k)=D at g3 hsz;generalize e.depth=E at hc hsz;obtain⟨ki,va,li,co,te,ks⟩:=e;simp only[Sx.cells]at hr hc;cases q:decide ((E:Int)>(D:Int))with
   |true=>
    have hm:max D E=E:=(by have:=J0 q;omega);replace zz:=AY g1 g3 g4 hlen hd hr w7;refine wt zz ?_;replace zz:=AY g1 g3 g4 hlen hd hr q;refine uU zz (hc _) ?_;replace zz:=AV g1 g3 g4 w7 q;refine wt zz ?_;exact⟨kids.length-(k+1),by omega,rfl,k+1,by simp,by omega,rfl,by rw[hsz,hm]⟩
   |false=>
    have hm:max D E=D:=(by have:=Px q;omega);replace zz:=AY g1 g3 g4 hlen hd hr w7;refine wt zz ?_;replace zz:=AY g1 g3 g4 hlen hd hr q;refine uU zz (hc _) ?_;replace zz:=AV g1 g3 g4 w7 q;refine wt zz ?_;exact⟨kids.length-(k+1),by omega,rfl,k+1,by simp,by omega,rfl,by rw[hsz,hm]⟩
  ·have hd:decide ((k:Int)<(kids.length:Int))=false:=(by simp;omega);have hke:k=kids.length:=(by omega);subst hke;rw[List.take_length]at g3;generalize hD:Sx.depths 0 kids=D at g3 hdb;have wd:IntKind.i64.wrap ((D:Int)+1)=(D:Int)+1:=(by unfold AE at hdb;rw[B9 (by omega) (by omega)]);cases q:(kind==3)with
   |true=>
    have hk3:kind=3:=(by simpa using q);replace zz:=AY g1 g3 g4 hlen hd q wd;refine wt zz ?_;rw[AH hk3];first|(rw[hD];simp)|simp
   |false=>
    have hk3:¬ kind=3:=(by simpa using q);replace zz:=AY g1 g3 g4 hlen hd q wd;refine wt zz ?_;rw[A4 hk3];try rw[hD]
theorem ZQ: ∀ (e:Sx),e.ok-> ∀ h:A0,AA prog 83 [.agg e.cells] h λr h'=>r= .sc (.bool (FO e))/\h'=h:=by
 refine Sx.ind ?_;intro kind value line col text kids ih hok h;simp only[Sx.ok]at hok;obtain⟨_,_,ht,hk,hks⟩:=hok;rw[Sx.oks_iff]at hks;have hlen:=Sx.rows_len kids;have e1:=ZN kids;have hw:=λh:A0=>ZM (h:=h) ht;generalize hF:FO (.mk kind value line col text kids)=F;unfold FO at hF;rw[← e1]at hF
 clear e1;simp only[Sx.cells];cases k1:(kind==1)with
 |true=>
  rw[AH (by simpa using k1)]at hF;cases q1:(value==0)with
  |false=>
   rw[q1]at hF;simp only[Ai]at hF;subst hF;refine AN func83 ntmps83 results83 Ty.Hv ?_;exact wz (Aj k1 q1 hlen)
  |true=>
   rw[q1]at hF;cases q2:((kids.length:Int)==0)with
   |false=>
    rw[q2]at hF;simp only[Ai,B5]at hF;subst hF;refine AN func83 ntmps83 results83 Ty.Hv ?_;replace zz:=AS k1 q1 q2 hlen;exact wz zz
   |true=>
    rw[q2]at hF;simp only[Ah]at hF;subst hF;refine AN func83 ntmps83 results83 Ty.Hv ?_;replace zz:=AS k1 q1 q2 hlen;refine wt zz ?_;replace zz:=AS k1 q1 q2 hlen;refine uU zz (hw _) ?_;exact wz zz
 |false=>
  rw[A4 (by simpa using k1)]at hF;cases k2:(kind==2)with
  |true=>
   rw[AH (by simpa using k2)]at hF;cases q1:(text.data.toList==(#[]:Array UInt8).toList)with
   |false=>
    rw[q1]at hF;simp only[Ai]at hF;subst hF;refine AN func83 ntmps83 results83 Ty.Hv ?_;replace zz:=AS k1 k2 q1 hlen;exact wz zz
   |true=>
    rw[q1]at hF;cases q2:((kids.length:Int)==0)with
    |false=>
     rw[q2]at hF;simp only[Ai,B5]at hF;subst hF;refine AN func83 ntmps83 results83 Ty.Hv ?_;replace zz:=AV k1 k2 q1 q2 hlen;exact wz zz
    |true=>
     rw[q2]at hF;cases q3:decide (value>= -1099511627776)with
     |false=>
      rw[q3]at hF;simp only[Ai,B5]at hF;subst hF;refine AN func83 ntmps83 results83 Ty.Hv ?_;replace zz:=AK k1 k2 q1 q2 q3 hlen;exact wz zz
     |true=>
      rw[q3]at hF;simp only[Ah]at hF;subst hF;refine AN func83 ntmps83 results83 Ty.Hv ?_;replace zz:=AK k1 k2 q1 q2 q3 hlen;exact wz zz
  |false=>
   rw[A4 (by simpa using k2)]at hF;cases k3:(kind==3)with
   |false=>
    rw[A4 (by simpa using k3)]at hF;subst hF;refine AN func83 ntmps83 results83 Ty.Hv ?_;exact wz (Aj k1 k2 k3)
   |true=>
    rw[AH (by simpa using k3)]at hF;refine AN func83 ntmps83 results83 Ty.Hv ?_;replace zz:=AS k1 k2 k3 hlen;refine wt zz ?_;refine BV (λm S h'=>h'=h/\S 1= .cptr (Sx.mk kind value line col text kids).cells/\ ∃ k:Nat,S 3= .sc (.int .i64 k)/\k<=kids.length/\m=kids.length-k/\Gk kids=Gk (kids.drop k)) kids.length ?_ ?_
    ·simp only[Ty.w,simprocAttr];exact⟨rfl,0,rfl,by omega,rfl,by simp⟩
    ·rintro m S h' ⟨rfl,g1,k,g3,hkl,rfl,hinv⟩;simp only[Sx.cells]at g1;by_cases hlt:k<kids.length
     ·have hd:decide ((k:Int)<(kids.length:Int))=true:=(by simp;omega);have w7:IntKind.i64.wrap ((k:Int)+1)=k+1:=(by unfold AE at hk;rw[B9 (by omega) (by omega)]);obtain⟨e,hx⟩: ∃ e,kids[k]? =some e:=⟨_,List.getElem?_eq_getElem hlt⟩;have hmem:=List.mem_of_getElem? hx;have hc:=ih e hmem (hks e hmem);rw[CR hx]at hinv;simp only[Gk]at hinv;have hr:=Sx.rows_get hx;generalize FO e=b at hc hinv;obtain⟨ki,va,li,co,te,ks⟩:=e;simp only[Sx.cells]at hr hc;cases b with
      |false=>
       rw[hinv]at hF;simp only[Ai]at hF;subst hF;replace zz:=AK g1 g3 hlen hd hr w7;refine wt zz ?_;replace zz:=AK g1 g3 hlen hd hr yF;refine uU zz (hc _) ?_;replace zz:=AS g1 g3 w7 yF;exact wz zz
      |true=>
       rw[Ah]at hinv;replace zz:=AK g1 g3 hlen hd hr w7;refine wt zz ?_;replace zz:=AK g1 g3 hlen hd hr yT;refine uU zz (hc _) ?_;replace zz:=AS g1 g3 w7 yT;refine wt zz ?_;exact⟨kids.length-(k+1),by omega,rfl,k+1,by simp,by omega,rfl,hinv⟩
     ·have hd:decide ((k:Int)<(kids.length:Int))=false:=(by simp;omega);rw[List.drop_eq_nil_of_le (by omega)]at hinv;rw[hinv]at hF;simp only[Gk,Ah]at hF;cases q1:(text.data.toList==(#[]:Array UInt8).toList)with
      |false=>
       rw[q1]at hF;simp only[Ai]at hF;subst hF;replace zz:=AV g1 g3 hlen hd q1;exact wz zz
      |true=>
       rw[q1]at hF;simp only[Ah]at hF;subst hF;replace zz:=AV g1 g3 hlen hd q1;exact wz zz
theorem ZR{x:Sx}(hok:x.ok)(hd:x.depth<=AE)(h:A0):AA prog 34 [.agg x.cells] h λr h'=>r= .sc (.bool (FO x&&decide ((x.depth:Int)<=32)&&decide (x.count<=4096)))/\h'=h:=by
 have c1:=ZQ x hok;have c2:=ZP x hok hd;have c3:=ZO x hok;generalize FO x=b at c1⊢;generalize x.depth=D at c2⊢;generalize x.count=N at c3⊢;obtain⟨ki,va,li,co,te,ks⟩:=x;simp only[Sx.cells]at c1 c2 c3⊢;cases b with
 |false=>
  refine AN func34 ntmps34 results34 Ty.OA ?_;refine wt A2 ?_;refine uU A2 (c1 _) ?_;refine wm A2 ?_;try exact zI
  all_goals rfl
 |true=>
  cases q:decide ((D:Int)<=32)with
  |false=>
   refine AN func34 ntmps34 results34 Ty.OA ?_;refine wt A2 ?_;refine uU A2 (c1 _) ?_;refine wt A2 ?_;refine uU q (c2 _) ?_;refine wm q ?_;try exact zI
   all_goals rfl
  |true=>
   refine AN func34 ntmps34 results34 Ty.OA ?_;refine wt A2 ?_;refine uU A2 (c1 _) ?_;refine wt A2 ?_;refine uU q (c2 _) ?_;refine wt q ?_;refine uU q (c3 _) ?_;refine wm q ?_;try exact zI
   all_goals(simp only[Ah])
end Go.Proofs.YtblgchkahpgdjaaGreat
namespace Go.AM
mutual
def Sx.nodes:Sx->Nat
 | .mk _ _ _ _ _ kids=>Sx.nodess kids+1
def Sx.nodess:List Sx->Nat
 |[]=>0
 |k::ks=>k.nodes+Sx.nodess ks
end
mutual
theorem Sx.count_eq: ∀ (x:Sx),x.nodes<=AE->x.count=x.nodes
 | .mk _ _ _ _ _ kids,h=>by
  simp only[Sx.nodes]at h;simp only[Sx.count,Sx.nodes];have:=Sx.counts_eq kids 1 (by omega);simp only[Pt]at this;rw[this];congr 1;omega
theorem Sx.counts_eq: ∀ (l:List Sx)(n:Nat),n+Sx.nodess l<=AE->Sx.counts n l=(n+Sx.nodess l:Nat)
 |[],n,h=>by simp[Sx.counts,Sx.nodess]
 |k::ks,n,h=>by
  simp only[Sx.nodess]at h;simp only[Sx.counts,Sx.nodess];rw[Sx.count_eq k (by omega)];have hw:IntKind.i64.wrap ((n:Int)+(k.nodes:Int))=((n+k.nodes:Nat):Int):=by unfold AE at h;rw[B9 (by omega) (by omega)];omega
  rw[hw,Sx.counts_eq ks (n+k.nodes) (by omega)];congr 1;omega
end
end Go.AM
namespace Go.Proofs.YtblgchkahpgdjaaGreat
open Go.AM Go.Proofs.Tryz
theorem ZS(c:UInt8):Dn c=some c↔wB c=true:=by
 unfold Dn;cases hu:HJ c with
 |true=>
  have h1:65<=c.toNat/\c.toNat<=90:=by simpa[HJ]using hu
  have hw:wB c=false:=by
   have h2:CM c=false:=(by simp[CM];omega);have h3:CQ c=false:=(by simp[CQ];omega);have h4:JN.contains c=false:=by
    rw[CY];have: ∀ v:Int,v=45\/v=95\/v=63\/v=58\/v=60\/v=62\/v=61\/v=43\/v=42->((c.toNat:Int)==v)=false:=by
     intro v hv;rw[Kb];omega
    simp[this]
   simp only[wB,h2,h3,h4,E1]
  rw[hw];simp only[AC,Ag,Ap,iff_false];intro e;have:=Iz UInt8.toNat e;rw[UInt8.toNat_add]at this;simp at this;omega
 |false=>
  simp only[Ap,AD];cases wB c<;>simp
theorem S9: ∀ l:List UInt8,E6 l=some l↔l.all wB=true
 |[]=>by simp[E6]
 |c::l=>by
  have h1:=ZS c;have h2:=S9 l;simp only[E6,List.all_cons,AT];cases hc:Dn c with
  |none=>rw[hc]at h1;simp at h1⊢;intro hw;rw[h1]at hw;simp at hw
  |some d=>
   rw[hc]at h1;cases hl:E6 l with
   |none=>rw[hl]at h2;simp at h2⊢;intro _;simpa using h2
   |some p=>
    rw[hl]at h2;simp only[BT,Ag,List.cons.injEq];rw[← h1, ← h2];simp
theorem ZT(s:ByteArray):Mp s=If s:=by
 have hsl:s.data.toList.length=s.size:=by rw[DE];try rfl
 have hself:=S9 s.data.toList;unfold Mp If EL;by_cases hc:0<s.size/\s.size<=32
 ·rw [AH hc];have d1:decide (1<=s.size)=true:=by simp;omega
  have d2:decide (s.size<=32)=true:=by simp;omega
  rw[d1,d2];cases hl:E6 s.data.toList with
  |none=>
   rw[hl]at hself;have:s.data.toList.all wB=false:=by
    cases h:s.data.toList.all wB with
    |false=>rfl
    |true=>rw[h]at hself;simp at hself
   simp only[this,Ai]
  |some p=>
   rw[hl]at hself;cases h:s.data.toList.all wB with
   |true=>
    rw[h]at hself;have hp:p=s.data.toList:=(by simpa using hself);subst hp;have:(⟨s.data.toList.toArray⟩:ByteArray)=s:=Mr rfl;simp only[this,A3,beq_self_eq_true,Ah]
   |false=>
    rw[h]at hself;have hp:¬ p=s.data.toList:=(by simpa using hself);have:A3 (⟨p.toArray⟩:ByteArray) s=false:=(by simp only[A3,Kb];exact hp);simp only[this,B5,Ai]
 ·rw [A4 hc];have:(decide (1<=s.size)&&decide (s.size<=32))=false:=by
   cases h:(decide (1<=s.size)&&decide (s.size<=32))with
   |false=>rfl
   |true=>
    simp only[AT,BQ]at h;exact absurd ⟨by omega,h.2⟩ hc
  simp only[Ai];rw[U9 (s.data.toList.all wB),this];simp
mutual
theorem LM: ∀ (x:Sx)(d n:Nat),d<=32->n<=4096->((Ci x d n).1=true↔FO x=true/\d+x.depth<=32/\n+x.nodes<=4096)/\((Ci x d n).1=true->(Ci x d n).2=n+x.nodes)
 | .mk kind value line col text kids,d,n,hd,hn=>by
  have e1:(kids.isEmpty=true)↔kids=[]:=List.isEmpty_iff;unfold Ci FO;simp only[Sx.depth,Sx.nodes];by_cases h0:n+1>4096
  ·rw [AH h0];refine⟨⟨by simp,λ⟨_,_,h⟩=>by omega⟩,by simp⟩
  ·rw [A4 h0];by_cases k1:kind=1
   ·rw [AH k1,AH k1,ZT];have k3:¬ kind=3:=(by omega);rw[A4 k3];simp only[AT,e1,BQ,DZ];constructor
    ·constructor
     ·rintro ⟨⟨h1,h2⟩,rfl⟩;exact⟨⟨⟨h2,rfl⟩,h1⟩,by simp only[Sx.depths];omega,by simp only[Sx.nodess];omega⟩
     ·rintro ⟨⟨⟨h1,h2⟩,h3⟩,_⟩;exact⟨⟨h3,h1⟩,h2⟩
    ·rintro ⟨_,rfl⟩;simp[Sx.nodess]
   ·rw [A4 k1,A4 k1];by_cases k2:kind=2
    ·rw [AH k2,AH k2];have k3:¬ kind=3:=(by omega);rw[A4 k3];simp only[AT,e1,BQ,A3,ge_iff_le];constructor
     ·constructor
      ·rintro ⟨⟨⟨h1,rfl⟩,h3⟩,h4⟩;exact⟨⟨⟨⟨h1,rfl⟩,h3⟩,h4⟩,by simp only[Sx.depths];omega,by simp only[Sx.nodess];omega⟩
      ·rintro ⟨⟨⟨⟨h1,h2⟩,h3⟩,h4⟩,_⟩;exact⟨⟨⟨h1,h2⟩,h3⟩,h4⟩
     ·rintro ⟨⟨⟨_,rfl⟩,_⟩,_⟩;simp[Sx.nodess]
    ·rw [A4 k2,A4 k2];by_cases k3:kind=3
     ·rw [AH k3,AH k3,AH k3];simp only[AT,DZ];by_cases hc:A3 text ⟨#[]⟩=true/\value=0/\d≠32
      ·rw [AH hc];obtain⟨g1,g2⟩:=SA kids (d+1) (n+1) (by omega) (by omega);rw[g1];refine⟨⟨λ⟨h1,h2,h3⟩=>⟨⟨h1,by simpa[A3]using hc.1,hc.2.1⟩,by omega,by omega⟩,λ⟨⟨h1,_,_⟩,h2,h3⟩=>⟨h1,by omega,by omega⟩⟩,λh=>?_⟩;rw[g2 (g1.2 h)];omega
      ·rw [A4 hc];refine⟨⟨by simp,λ⟨⟨h1,h4,h5⟩,h2,h3⟩=>?_⟩,by simp⟩;exact absurd ⟨by simp only[A3,DZ];exact h4,h5,by omega⟩ hc
     ·rw [A4 k3,A4 k3];simp
theorem SA: ∀ (l:List Sx)(d n:Nat),d<=32->n<=4096->((FB l d n).1=true↔Gk l=true/\d+Sx.depths 0 l<=32/\n+Sx.nodess l<=4096)/\((FB l d n).1=true->(FB l d n).2=n+Sx.nodess l)
 |[],d,n,hd,hn=>by simp[FB,Gk,Sx.depths,Sx.nodess,hd,hn]
 |k::ks,d,n,hd,hn=>by
  obtain⟨g1,g2⟩:=LM k d n hd hn;have hdm: ∀ (m:Nat)(l:List Sx),Sx.depths m l=max m (Sx.depths 0 l):=by
   intro m l
   induction l generalizing m with
   |nil=>simp[Sx.depths]
   |cons k l ih=>simp only[Sx.depths];rw[ih (max m k.depth),ih (max 0 k.depth)];omega
  simp only[FB,Gk,Sx.depths,Sx.nodess,AT];rw[hdm];cases hb:Ci k d n with
  |mk b n'=>
   rw[hb]at g1 g2;cases b with
   |false=>
    simp only at g1⊢;refine⟨⟨by simp,λ⟨⟨h1,_⟩,h2,h3⟩=>?_⟩,by simp⟩;exact absurd (g1.2 ⟨h1,by omega,by omega⟩) (by simp)
   |true=>
    simp only at g1 g2⊢;obtain⟨a1,a2,a3⟩:=g1.1 A2;have e:=g2 A2;obtain⟨f1,f2⟩:=SA ks d n' hd (by omega);rw[f1];refine⟨⟨λ⟨h1,h2,h3⟩=>⟨⟨a1,h1⟩,by omega,by omega⟩,λ⟨⟨_,h1⟩,h2,h3⟩=>⟨h1,by omega,by omega⟩⟩,λh=>?_⟩;rw[f2 (f1.2 h)];omega
end
def KG(x:Sx):Bool:=FO x&&decide ((x.depth:Int)<=32)&&decide (x.count<=4096)
theorem JU{x:Sx}(h:x.nodes<=AE):(Ci x 0 0).1=KG x:=by
 have h1:=(LM x 0 0 (by omega) (by omega)).1;unfold KG;rw[Sx.count_eq x h];rw[GZ,h1];simp only[AT,BQ];constructor
 ·rintro ⟨a,b,c⟩;exact⟨⟨a,by omega⟩,by omega⟩
 ·rintro ⟨⟨a,b⟩,c⟩;exact⟨a,by omega,by omega⟩
end Go.Proofs.YtblgchkahpgdjaaGreat
namespace Go.AM
end Go.AM
namespace Go.Proofs.YtblgchkahpgdjaaGreat
open Go.AM Go.Proofs.Tryz
theorem SB:Dr.ok/\Dr.small:=by
 simp only[Dr,Ex.ok,Ex.oks,Ex.small,Ex.smalls,List.length_nil];refine⟨⟨by simp[AE,ByteArray.size],by simp[AE,ByteArray.size],by omega,⟨by simp,by simp⟩,by simp,trivial⟩,by omega,trivial⟩
end Go.Proofs.YtblgchkahpgdjaaGreat
namespace Go.Proofs.YtblgchkahpgdjaaGreat
open Go.AM Go.Proofs.Tryz
def Cs(r:Fm × Int):Fm × Int:=bif r.2==0 then r else(Oa,r.2)
end Go.Proofs.YtblgchkahpgdjaaGreat
namespace Go.Proofs.YtblgchkahpgdjaaGreat
open Go.AM Go.Proofs.Tryz
theorem ZU{op name:ByteArray}{args:List ByteArray}{params:List Pm}{ne nk:Nat}(h:DA op name args params ne nk=true):
  (op=BH/\Ak name=true/\args.all BS=true/\params=[]/\ne=0/\nk=0)\/
  (op=Ba/\name=⟨#[]⟩/\args.length=2/\args.all BS=true/\params=[]/\ne=0/\nk=0)\/
  ((op=CK\/op=Ce\/op=CS)/\name=⟨#[]⟩/\args=[]/\params=[]/\ne=2/\nk=0)\/
  ((op=C5\/op=Fh\/(op=E8/\nk=1)\/(op=GO/\nk=2))/\name=⟨#[]⟩/\args=[]/\params=[]/\ne=0)\/
  ((op=DJ\/op=Fi)/\name=⟨#[]⟩/\args=[]/\ne=0/\nk=1/\params.all FC=true):=by
 unfold DA CW at h;have t1: ∀ o:ByteArray,A3 o BH=false->A3 o Ba=false->DT o name args=true->name=⟨#[]⟩/\args=[]:=by
  intro o h1 h2 h3;unfold DT at h3;rw[h1,h2]at h3;simp only[Ap,AD,AT,List.isEmpty_iff]at h3;exact⟨Ec h3.1,h3.2⟩
 cases c1:A3 op BH with
 |true=>
  have:=Ec c1;subst this;left;simp[c1,DT,II]at h;exact⟨rfl,h.1,by simpa using h.2.1,h.2.2.2.2.1,h.2.2.1,h.2.2.2.1⟩
 |false=>
 cases c2:A3 op Ba with
 |true=>
  have:=Ec c2;subst this;right;left;simp[c1,c2,DT,II]at h;obtain⟨h1,h2,h3,h4,h5,h6,_⟩:=h;exact⟨rfl,Ec h1,h2,by simpa using h3,h6,h4,h5⟩
 |false=>
  have t2:=t1 op c1 c2;rw[c1,c2]at h;simp only[Ap,AD]at h;right;right;by_cases c3:A3 op CK=true\/A3 op Ce=true\/A3 op CS=true
  ·left;have h':DT op name args=true/\ne=2/\nk=0/\params=[]:=by
    split at h
    ·simp at h
    ·rename_i e m q he;have:(e,m,q)=(2,0,false):=by
      rcases c3 with c|c|c
      ·simp [c]at he;simp[he]
      ·by_cases c0:A3 op CK=true
       ·simp [c0]at he;simp[he]
       ·simp [c0,c]at he;simp[he]
      ·by_cases c0:A3 op CK=true
       ·simp [c0]at he;simp[he]
       ·by_cases c00:A3 op Ce=true
        ·simp [c0,c00]at he;simp[he]
        ·simp [c0,c00,c]at he;simp[he]
     simp at this;obtain⟨rfl,rfl,rfl⟩:=this;simp[II]at h;exact⟨h.1,h.2.1,h.2.2.1,h.2.2.2.1⟩
   obtain⟨g1,g2,g3,g4⟩:=h';obtain⟨g5,g6⟩:=t2 g1;exact⟨c3.imp Ec (λc=>c.imp Ec Ec),g5,g6,g4,g2,g3⟩
  ·simp only[not_or,U7]at c3;rw[c3.1,c3.2.1,c3.2.2]at h;simp only[Ap,AD]at h;right;cases c4:A3 op C5 with
   |true=>
    left;simp[c4,II]at h;exact⟨.inl (Ec c4),(t2 h.1).1,(t2 h.1).2,h.2.2.1,h.2.1⟩
   |false=>
   cases c5:A3 op Fh with
   |true=>
    left;simp[c4,c5,II]at h;exact⟨.inr (.inl (Ec c5)),(t2 h.1).1,(t2 h.1).2,h.2.2.1,h.2.1⟩
   |false=>
   cases c6:A3 op E8 with
   |true=>
    left;simp[c4,c5,c6,II]at h;exact⟨.inr (.inr (.inl ⟨Ec c6,h.2.2.1⟩)),(t2 h.1).1,(t2 h.1).2,h.2.2.2.1,h.2.1⟩
   |false=>
   cases c7:A3 op GO with
   |true=>
    left;simp[c4,c5,c6,c7,II]at h;exact⟨.inr (.inr (.inr ⟨Ec c7,h.2.2.1⟩)),(t2 h.1).1,(t2 h.1).2,h.2.2.2.1,h.2.1⟩
   |false=>
   cases c8:A3 op DJ with
   |true=>
    right;simp[c4,c5,c6,c7,c8,II]at h;exact⟨.inl (Ec c8),(t2 h.1).1,(t2 h.1).2,h.2.1,h.2.2.1,by simpa using h.2.2.2⟩
   |false=>
   cases c9:A3 op Fi with
   |true=>
    right;simp[c4,c5,c6,c7,c8,c9,II]at h;exact⟨.inr (Ec c9),(t2 h.1).1,(t2 h.1).2,h.2.1,h.2.2.1,by simpa using h.2.2.2⟩
   |false=>simp[c4,c5,c6,c7,c8,c9]at h
end Go.Proofs.YtblgchkahpgdjaaGreat
namespace Go.Proofs.YtblgchkahpgdjaaGreat
open Go.AM Go.Proofs.Tryz
set_option maxHeartbeats 2000000
set_option maxRecDepth 20000
theorem ZV{h:A0}{s:ByteArray}(hs:s.size<=AE):AA prog 158 [A1 s] h λr h'=>r= .sc (.bool (BS s))/\h'=h:=by
 have hs':s.size<=9223372036854775807:=by unfold AE at hs;omega
 cases c1:Ak s with
 |true=>
  have:BS s=true:=by simp[BS,c1]
  refine AN func158 ntmps158 results158 Ty.RV ?_;repeat'(first|refine AI λK hK=>?_|refine uR A2 ?_|(refine uN hK ?_;clear hK)|apply zI)
  refine uU c1 (Fc (s:=s) hs') ?_;repeat'(first|refine uT c1 ?_|(refine uN hK ?_;clear hK)|apply zI)
  rw[this]
 |false=>
  have:BS s=D7 s:=by simp[BS,c1]
  refine AN func158 ntmps158 results158 Ty.RV ?_;repeat'(first|refine AI λK hK=>?_|refine uR A2 ?_|(refine uN hK ?_;clear hK)|apply zI)
  refine uU c1 (Fc (s:=s) hs') ?_;try apply zI
  refine uU c1 (Rl (s:=s) hs') ?_;repeat'(first|refine uT c1 ?_|(refine uN hK ?_;clear hK)|apply zI)
  rw[this]
theorem SC{h:A0}{l:List ByteArray}(hl:l.length<=AE)(hs: ∀ s∈l,s.size<=AE):AA prog 130 [.imm 1 (AP l)] h λr h'=>r= .sc (.bool (l.all BS))/\h'=h:=by
 unfold AE at hl;have hlen:=FA l;refine AN func130 ntmps130 results130 Ty.YS ?_;repeat'(first|refine AI λK hK=>?_|refine Bl ?_|refine uR hlen ?_|(refine uN hK ?_;clear hK)|apply zI)
 refine BV (λm S h'=>h'=h/\S 0= .imm 1 (AP l)/\ ∃ k:Nat,S 3= .sc (.int .i64 k)/\k<=l.length/\m=l.length-k/\l.all BS=(l.drop k).all BS) l.length ?_ ?_
 ·simp only[Ty.w,simprocAttr];exact⟨0,rfl,by omega,rfl,by simp⟩
 ·rintro m S h' ⟨rfl,g0,k,g3,hk,rfl,hinv⟩;by_cases hlt:k<l.length
  ·have hd:decide ((k:Int)<(l.length:Int))=true:=(by simp;omega);have w7:IntKind.i64.wrap ((k:Int)+1)=k+1:=(by rw[B9 (by omega) (by omega)]);obtain⟨w,hx⟩: ∃ w,l[k]? =some w:=⟨l[k],List.getElem?_eq_getElem hlt⟩;have hr:=Gh hx;have hc:=λh:A0=>ZV (h:=h) (hs w (List.mem_of_getElem? hx));rw[CR hx,List.all_cons]at hinv;generalize BS w=b at hc hinv;cases b with
   |false=>
    rw[Ai]at hinv;replace zz:=AS g0 g3 hd hr;(repeat'(first|refine AI λK hK=>?_|refine uR zz ?_|refine uK ?_|(refine uC zz (λhb=>?_) (λhb=>?_)<;>(try simp only[BI,simprocAttr]at hb)<;>(try(exfalso;omega)))|(refine uN hK ?_;clear hK)|apply zI));replace zz:=AV g0 g3 hd hr yF;refine uU zz (hc _) ?_;replace zz:=Aj g0 g3 yF;(repeat'(first|refine AI λK hK=>?_|refine uR zz ?_|refine uT zz ?_|(refine uN hK ?_;clear hK)|apply zI));rw[hinv]
   |true=>
    rw[Ah]at hinv;replace zz:=AS g0 g3 hd hr;(repeat'(first|refine AI λK hK=>?_|refine uR zz ?_|refine uK ?_|(refine uC zz (λhb=>?_) (λhb=>?_)<;>(try simp only[BI,simprocAttr]at hb)<;>(try(exfalso;omega)))|(refine uN hK ?_;clear hK)|apply zI));replace zz:=AV g0 g3 hd hr yT;refine uU zz (hc _) ?_;replace zz:=AS g0 g3 w7 yT;(repeat'(first|refine Bl ?_|refine uR zz ?_|refine uK ?_|(refine uN hK ?_;clear hK)|apply zI));exact⟨l.length-(k+1),by omega,k+1,by simp,by omega,rfl,hinv⟩
  ·have hd:decide ((k:Int)<(l.length:Int))=false:=(by simp;omega);rw[List.drop_eq_nil_of_le (by omega)]at hinv;replace zz:=AS g0 g3 hlen hd;(repeat'(first|refine AI λK hK=>?_|refine uR zz ?_|refine uT zz ?_|refine uX ?_|(refine uC zz (λhb=>?_) (λhb=>?_)<;>(try simp only[BI,simprocAttr]at hb)<;>(try(exfalso;omega)))|(refine uN hK ?_;clear hK)|(clear hK;refine uN hK ?_;clear hK)|apply zI));rw[hinv];try rfl
theorem Ig{h:A0}{s:ByteArray}:AA prog 79 [A1 s] h λr h'=>r= .agg (A5 s).cells/\h'=h:=by
 refine AA.frz Ty.RD ?_;refine AN func79 ntmps79 results79 Ty.RD ?_;repeat'(first|refine AI λK hK=>?_|refine uR A2 ?_|refine uT A2 ?_|(refine uN hK ?_;clear hK)|apply zI)
 refine⟨?_,((AL.refl h).new _).set (AF _) _⟩;simp only[A5,Sx.cells,Sx.rows,AZ,B4];exact⟨_,rfl,rfl,rfl,rfl,rfl,rfl,.inr (.inl ⟨rfl,.inr rfl⟩),trivial⟩
theorem Of{h:A0}{first:ByteArray}{l:List ByteArray}(hl:l.length<=1048576):AA prog 81 [A1 first,.imm 1 (AP l)] h λr h'=>r= .agg (Bv first l).cells/\h'=h:=by
 refine AA.frz Ty.RE ?_;have hll:=FA l;have hw: ∀ (s:ByteArray)(h:A0),AA prog 79 [A1 s] h λr h'=>r= .agg (A5 s).cells/\h'=h:=λs h=>Ig;simp only[A5,Sx.cells,Sx.rows]at hw;refine uG (ow:=λt=>t==9) (wf:=λ_=>false) func81 ntmps81 results81 Ty.RE ?_;repeat'(first|refine AI λK hK=>?_|refine uR A2 ?_|(refine uN hK ?_;clear hK)|apply zI)
 refine uU A2 (hw first _) ?_;repeat'(first|refine AI λK hK=>?_|refine Bl ?_|refine uR hll ?_|(refine uN hK ?_;clear hK)|apply zI)
 refine BV (λm S h'=>S 1= .imm 1 (AP l)/\S 4= .ptr h.next 0 0/\ ∃ k id:Nat,S 6= .sc (.int .i64 k)/\S 5= .own id 0 (k+1)/\k<=l.length/\m=l.length-k/\AL h h'/\h.next<id/\id<h'.next/\
  h'.obj h.next=some (.arr 6 [[.sc (.int .i64 0),.sc (.int .i64 0),.sc (.int .i64 0),.sc (.int .i64 0),.sc (.string ⟨#[]⟩),.sc (.slice none 0 0)]])/\h'.obj id=some (.arr 6 (Sx.rows ((first::l.take k).map A5)))) l.length ?_ ?_
 ·simp only[Ty.w,simprocAttr];have e1:¬ h.next=h.next+1:=by omega
  refine⟨0,h.next+1,rfl,rfl,by omega,rfl,((AL.refl h).new _).new _,by omega,by simp[A0.new],?_,?_⟩
  ·simp [A0.new]
  ·simp [A0.new,A5,Sx.rows,Sx.cells]
 ·rintro m S h' ⟨g1,g4,k,id,g6,g5,hk,rfl,hg,hlo,hhi,o1,o3⟩;by_cases hlt:k<l.length
  ·have hd:decide ((k:Int)<(l.length:Int))=true:=(by simp;omega);have w7:IntKind.i64.wrap ((k:Int)+1)=k+1:=(by rw[B9 (by omega) (by omega)]);obtain⟨s,hx⟩: ∃ s,l[k]? =some s:=⟨_,List.getElem?_eq_getElem hlt⟩;have hr:=Gh hx;have hrl:(Sx.rows ((first::l.take k).map A5)).length=k+1:=(by rw[Sx.rows_len];simp;omega);generalize hR:Sx.rows ((first::l.take k).map A5)=R at o3 hrl;have htk:List.take (k+1) R=R:=List.take_of_length_le (by omega);have hb:(k+1+1)*72<=140737488355328:=(by omega);replace zz:=BR g1 g4 g5 g6 hll hd hr w7 o3;(repeat'(first|refine AI λK hK=>?_|refine Bl ?_|refine uR zz ?_|refine uQ zz λK hK=>?_|refine uK ?_|(refine uC zz (λhb=>?_) (λhb=>?_)<;>(try simp only[BI,simprocAttr]at hb)<;>(try(exfalso;omega)))|(refine uN hK ?_;clear hK)|apply zI));replace zz:=AJ g1 g4 g5 g6 hll hd hr w7 o3 hrl htk hb;refine uU zz (hw s _) ?_;replace zz:=BR g1 g4 g5 g6 w7 o3 hrl htk hb;(repeat'(first|refine uR zz ?_|(refine uN hK ?_;clear hK)|(rw[AH];rotate_left 1;omega;simp only[Ty.w,simprocAttr,g1,g4,g5,g6,w7,o3,hrl,htk,hb])|apply zI));refine⟨l.length-(k+1),by omega,k+1,h'.next,by simp,rfl,by omega,rfl,(hg.kill (by omega)).new _,by omega,by simp[A0.new,A0.kill],?_,?_⟩
   ·have a2:¬ h.next=h'.next:=by omega
    have a3:¬ h.next=id:=by omega
    simp only[A0.new,A0.kill,a2,a3,AD];exact o1
   ·simp only[A0.new,A0.kill,AC];rw[List.take_add_one,hx, ← hR];simp only[Sx.rows_map,List.map_cons,List.map_append,List.map_nil,Js,List.cons_append,A5,Sx.cells]
  ·have hd:decide ((k:Int)<(l.length:Int))=false:=(by simp;omega);have hke:k=l.length:=(by omega);subst hke;rw[List.take_length]at o3;replace zz:=B6 g1 g4 g5 g6 hll hd o1 o3;(repeat'(first|refine AI λK hK=>?_|refine uR zz ?_|refine uT zz ?_|refine uX ?_|(refine uC zz (λhb=>?_) (λhb=>?_)<;>(try simp only[BI,simprocAttr]at hb)<;>(try(exfalso;omega)))|(refine uN hK ?_;clear hK)|(clear hK;refine uN hK ?_;clear hK)|apply zI));refine⟨?_,hg.set (AF _) _⟩;simp only[Bv,AB,Sx.cells,AZ,B4];refine⟨_,rfl,rfl,rfl,rfl,rfl,rfl,.inr (.inr ⟨id,0,l.length+1,Sx.rows ((first::l).map A5),rfl,by omega,?_,?_,?_⟩),trivial⟩
   ·simp only[A0.set];rw[A4 (by omega)];exact o3
   ·rw [Sx.rows_len];simp
   ·rw [List.drop_zero,List.take_of_length_le (by rw[Sx.rows_len];simp)];exact Ff _ _ _
theorem JV: ∀ e:Ex,e.small->Br e=true-> ∀ h:A0,AA prog 82 [.agg e.cells] h λr h'=>r= .agg (Am e).cells/\h'=h:=by
 refine Ex.ind ?_;intro op name n args kids ih hsm hsh h;simp only[Ex.small]at hsm;obtain⟨hal,hks⟩:=hsm;rw[Ex.smalls_iff]at hks;unfold Br at hsh;unfold Am;refine AA.frz Ty.Mg ?_;cases c1:A3 op Hw with
 |true=>
  have c1':(op.data.toList==(#[110,117,109,98,101,114]:Array UInt8).toList)=true:=c1;simp only[AC,Ex.cells];refine AN func82 ntmps82 results82 Ty.Mg ?_;repeat'(first|refine AI λK hK=>?_|refine uR c1' ?_|refine uT c1' ?_|(refine uN hK ?_;clear hK)|apply zI)
  refine⟨?_,((AL.refl h).new _).set (AF _) _⟩;simp only[Sx.cells,Sx.rows,AZ,B4];exact⟨_,rfl,rfl,rfl,rfl,rfl,rfl,.inr (.inl ⟨rfl,.inr rfl⟩),trivial⟩
 |false=>
  have c1':(op.data.toList==(#[110,117,109,98,101,114]:Array UInt8).toList)=false:=c1;rw[c1]at hsh;simp only[Ap,AD]at hsh⊢;cases c2:A3 op Hx with
  |true=>
   have c2':(op.data.toList==(#[102,108,117,101,110,116]:Array UInt8).toList)=true:=c2;have hw:=λh:A0=>Of (h:=h) (first:=name) hal;have hfz:=λ(n:Nat)(h:A0)=>Do n h (Bv name args);simp only[AC,Ex.cells];generalize Bv name args=X at hw hfz;obtain⟨ki,va,li,co,te,ks⟩:=X;simp only[Sx.cells]at hw hfz⊢;refine AN func82 ntmps82 results82 Ty.Mg ?_;(repeat'(first|refine AI λK hK=>?_|refine uR (uu c1' c2') ?_|(refine uN hK ?_;clear hK)|apply zI));refine uU (uu c1' c2') (hw _) ?_;(repeat'(first|refine uT A2 ?_|(refine uN hK ?_;clear hK)|apply zI));refine⟨?_,((AL.refl h).new _).set (AF _) _⟩;simp only[AZ];exact⟨_,rfl,hfz _ _⟩
  |false=>
   have c2':(op.data.toList==(#[102,108,117,101,110,116]:Array UInt8).toList)=false:=c2;rw[c2]at hsh;simp only[Ap,AD]at hsh⊢;split at hsh
   case isFalse=>simp at hsh
   simp only[AT]at hsh;obtain⟨⟨⟨_,_⟩,_⟩,hsh⟩:=hsh;split at hsh
   case h_2=>simp at hsh
   rename_i a b;simp only[AT]at hsh;have ca:=ih a (by simp) (hks a (by simp)) hsh.1;have cb:=ih b (by simp) (hks b (by simp)) hsh.2;have hw:=λh:A0=>Ig (h:=h) (s:=op);have hfz:=λ(n:Nat)(h:A0)=>Do n h (AB [A5 op,Am a,Am b]);generalize Am a=xa at ca hfz⊢;generalize Am b=xb at cb hfz⊢;clear ih hks hsh;obtain⟨DP,aname,an,aargs,akids⟩:=a;obtain⟨bop,bname,bn,bargs,bkids⟩:=b;obtain⟨ki,va,li,co,te,ks⟩:=xa;obtain⟨ki2,va2,li2,co2,te2,ks2⟩:=xb;simp only[Ex.cells,Ex.rows,AB,Sx.cells,Sx.rows,A5]at ca cb hw hfz⊢;refine AN func82 ntmps82 results82 Ty.Mg ?_;replace zz:=uu c1' c2';(repeat'(first|refine AI λK hK=>?_|refine Bl ?_|refine uR zz ?_|refine uD zz ?_|refine uK ?_|(refine uN hK ?_;clear hK)|apply zI));(first|refine uV A2 (hw _) ?_|refine uA A2 (hw _) ?_);(try apply zI);(first|refine uV A2 (ca _) ?_|refine uA A2 (ca _) ?_);(try apply zI);(first|refine uV A2 (cb _) ?_|refine uA A2 (cb _) ?_);(repeat'(first|refine uT A2 ?_|(refine uN hK ?_;clear hK)|refine uB A2 ?_|apply zI));refine⟨?_,((AL.refl h).new _).set (AF _) _⟩;simp only[AZ];exact⟨_,rfl,hfz _ _⟩
end Go.Proofs.YtblgchkahpgdjaaGreat
