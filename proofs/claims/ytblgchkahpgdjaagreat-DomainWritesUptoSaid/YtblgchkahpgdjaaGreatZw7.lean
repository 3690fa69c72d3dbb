/- What the claim rests on, part 7: the abstract machine, contracts of the functions, plain data. -/
import Derived.OpenShut
import Derived.ChangeShapes
import Derived.SizedLaws
import Derived.Test.YtblgchkahpgdjaaGreatZw6
set_option linter.unusedVariables false
set_option linter.unusedSimpArgs false
set_option linter.unusedSectionVars false
namespace Go.Proofs.YtblgchkahpgdjaaGreat
open Go.AM Go.Proofs.Tryz
set_option maxHeartbeats 8000000
set_option maxRecDepth 20000
def N1(op name:ByteArray)(v:Int)(args:List ByteArray)(kids:List Ex):Bool:=
 if(op.data.toList==(#[110,117,109,98,101,114]:Array UInt8).toList)then decide (v>= -1099511627776)&&(decide (v<=1099511627776)&&((name.data.toList==(#[]:Array UInt8).toList)&&(((args.length:Int)==0)&&((kids.length:Int)==0))))
 else if(op.data.toList==(#[102,108,117,101,110,116]:Array UInt8).toList)then(v==0)&&(Ak name&&(args.all BS&&((kids.length:Int)==0)))
 else if((op.data.toList==(#[43]:Array UInt8).toList)||((op.data.toList==(#[45]:Array UInt8).toList)||(op.data.toList==(#[42]:Array UInt8).toList)))then(v==0)&&((name.data.toList==(#[]:Array UInt8).toList)&&(((args.length:Int)==0)&&((kids.length:Int)==2)))
 else false
theorem ZW{op name:ByteArray}{v:Int}{args:List ByteArray}{kids:List Ex}(h:Br (.mk op name v args kids)=true): ∀ k∈kids,Br k=true:=by
 unfold Br at h;intro k hk;split at h
 ·simp only[AT,List.isEmpty_iff]at h;rw[h.1.2]at hk;simp at hk
 ·split at h
  ·simp only[AT,List.isEmpty_iff]at h;rw[h.1.1.2]at hk;simp at hk
  ·split at h
   ·simp only[AT]at h;obtain⟨_,h⟩:=h;split at h
    ·simp only[AT]at h;simp only[List.mem_cons,List.not_mem_nil,DO]at hk;rcases hk with rfl|rfl
     ·exact h.1
     ·exact h.2
    ·simp at h
   ·simp at h
theorem ZX{op name:ByteArray}{v:Int}{args:List ByteArray}{kids:List Ex}(h: ∀ k∈kids,Br k=true):Br (.mk op name v args kids)=N1 op name v args kids:=by
 have n1:A3 op Hw=(op.data.toList==(#[110,117,109,98,101,114]:Array UInt8).toList):=rfl;have n2:A3 op Hx=(op.data.toList==(#[102,108,117,101,110,116]:Array UInt8).toList):=rfl;have n3:A3 op LF=(op.data.toList==(#[43]:Array UInt8).toList):=rfl;have n4:A3 op LG=(op.data.toList==(#[45]:Array UInt8).toList):=rfl;have n5:A3 op LH=(op.data.toList==(#[42]:Array UInt8).toList):=rfl;have n6:Ey name=(name.data.toList==(#[]:Array UInt8).toList):=rfl;have n7:decide (v=0)=(v==0):=by by_cases h0:v=0<;>simp[h0]
 have n8:Mu v=(decide (v>= -1099511627776)&&decide (v<=1099511627776)):=rfl;unfold Br N1;rw[n1,n2,n3,n4,n5,n6,n7,n8, ← Mw args, ← Mw kids];split
 ·generalize decide (v>= -1099511627776)=a;generalize decide (v<=1099511627776)=b;generalize(name.data.toList==(#[]:Array UInt8).toList)=c;generalize((args.length:Int)==0)=d;generalize((kids.length:Int)==0)=e;cases a<;>cases b<;>cases c<;>cases d<;>cases e<;>rfl
 ·split
  ·generalize (v==0)=a;generalize Ak name=b;generalize args.all BS=c;generalize((kids.length:Int)==0)=e;cases a<;>cases b<;>cases c<;>cases e<;>rfl
  ·rw [Bool.or_assoc];split
   ·rw [U9,U9];congr 1;congr 1;congr 1
    match kids,h with
    |[],_=>rfl
    |[_],_=>rfl
    |[a,b],h=>simp only[h a (by simp),h b (by simp)];rfl
    |_::_::_::l,_=>simp;omega
   ·rfl
theorem SD: ∀ e:Ex,e.ok-> ∀ h:A0,AA prog 108 [.agg e.cells] h λr h'=>r= .sc (.bool (Br e))/\h'=h:=by
 refine Ex.ind ?_;intro op name v args kids ih hok h;simp only[Ex.ok]at hok;obtain⟨_,hnm,_,⟨hal,hargs⟩,hkl,hks⟩:=hok;rw[Ex.oks_iff]at hks;have hnm':name.size<=9223372036854775807:=by unfold AE at hnm;omega
 have hlA:=FA args;have hlK:=Ex.rows_len kids;have hkid: ∀ k∈kids,Br k=false->Br (.mk op name v args kids)=false:=λk hk hf=>by
  cases hh:Br (.mk op name v args kids)with
  |false=>rfl
  |true=>rw[ZW hh k hk]at hf;simp at hf
 have hop:(∀ k∈kids,Br k=true)->Br (.mk op name v args kids)=N1 op name v args kids:=ZX;generalize Br (.mk op name v args kids)=F at hkid hop;simp only[Ex.cells];refine AN func108 ntmps108 results108 Ty.YO ?_;refine wt hlK ?_;refine BV (λm S h'=>h'=h/\S 1= .cptr (Ex.mk op name v args kids).cells/\ ∃ k:Nat,S 3= .sc (.int .i64 k)/\k<=kids.length/\m=kids.length-k/\ ∀ (i:Nat)(e:Ex),i<k->kids[i]? =some e->Br e=true) kids.length ?_ ?_
 ·simp only[Ty.w,simprocAttr];exact⟨rfl,0,rfl,by omega,rfl,by omega⟩
 ·rintro m S h' ⟨rfl,g1,k,g3,hkk,rfl,hall⟩;simp only[Ex.cells]at g1;by_cases hlt:k<kids.length
  ·clear hop;have hd:decide ((k:Int)<(kids.length:Int))=true:=(by simp;omega);have w7:IntKind.i64.wrap ((k:Int)+1)=k+1:=(by unfold AE at hkl;rw[B9 (by omega) (by omega)]);obtain⟨e,hx⟩: ∃ e,kids[k]? =some e:=⟨_,List.getElem?_eq_getElem hlt⟩;have hmem:=List.mem_of_getElem? hx;have hc:=ih e hmem (hks e hmem);have hr:=Ex.rows_get hx;have hbad:=hkid e hmem;have hgood:Br e=true-> ∀ (i:Nat)(e:Ex),i<k+1->kids[i]? =some e->Br e=true:=λh1 i e2 hi hw=>by
    by_cases hik:i=k
    ·subst hik;rw[hx]at hw;simp at hw;rw[← hw];exact h1
    ·exact hall i e2 (by omega) hw
   generalize Br e=b at hc hbad hgood;clear hkid hall;obtain⟨op2,name2,n2,args2,kids2⟩:=e;simp only[Ex.cells]at hr hc;cases b with
   |false=>
    have:=hbad rfl;subst this;replace zz:=AK g1 g3 hlK hd hr w7;refine wt zz ?_;replace zz:=AK g1 g3 hlK hd hr yF;refine uU zz (hc _) ?_;replace zz:=AS g1 g3 w7 yF;exact wz zz
   |true=>
    replace zz:=AK g1 g3 hlK hd hr w7;refine wt zz ?_;replace zz:=AK g1 g3 hlK hd hr yT;refine uU zz (hc _) ?_;replace zz:=AS g1 g3 w7 yT;refine wt zz ?_;exact⟨kids.length-(k+1),by omega,rfl,k+1,by simp,by omega,rfl,hgood rfl⟩
  ·have hd:decide ((k:Int)<(kids.length:Int))=false:=(by simp;omega);have hF:=hop λe he=>by
    obtain⟨i,hi⟩:=List.getElem?_of_mem he;exact hall i e (by have:=(List.getElem?_eq_some_iff.1 hi).1;omega) hi
   clear hop hall hkid ih;have hn:=λh:A0=>Fc (h:=h) (s:=name) hnm';have hA:=λh:A0=>SC (h:=h) hal hargs;unfold N1 at hF;cases k1:(op.data.toList==(#[110,117,109,98,101,114]:Array UInt8).toList)with
   |true=>
    rw[k1]at hF;simp only[AC]at hF;cases q1:decide (v>= -1099511627776)with
    |false=>
     rw[q1]at hF;simp only[Ai]at hF;subst hF;replace zz:=AY g1 g3 hd hlA hlK k1 q1;exact wz zz
    |true=>
     rw[q1,Ah]at hF;cases q2:decide (v<=1099511627776)with
     |false=>
      rw[q2]at hF;simp only[Ai]at hF;subst hF;replace zz:=B6 g1 g3 hd hlA hlK k1 q1 q2;exact wz zz
     |true=>
      rw[q2,Ah]at hF;cases q3:(name.data.toList==(#[]:Array UInt8).toList)with
      |false=>
       rw[q3]at hF;simp only[Ai]at hF;subst hF;replace zz:=BR g1 g3 hd hlA hlK k1 q1 q2 q3;exact wz zz
      |true=>
       rw[q3,Ah]at hF;cases q4:((args.length:Int)==0)with
       |false=>
        rw[q4]at hF;simp only[Ai]at hF;subst hF;replace zz:=Aq g1 g3 hd hlA hlK k1 q1 q2 q3 q4;exact wz zz
       |true=>
        rw[q4,Ah]at hF;subst hF;replace zz:=Aq g1 g3 hd hlA hlK k1 q1 q2 q3 q4;exact wz zz
   |false=>
    rw[k1]at hF;simp only[Ap,AD]at hF;cases k2:(op.data.toList==(#[102,108,117,101,110,116]:Array UInt8).toList)with
    |true=>
     rw[k2]at hF;simp only[AC]at hF;cases q1:(v==0)with
     |false=>
      rw[q1]at hF;simp only[Ai]at hF;subst hF;replace zz:=B6 g1 g3 hd hlA hlK k1 k2 q1;exact wz zz
     |true=>
      rw[q1,Ah]at hF;generalize Ak name=bn at hn hF;cases bn with
      |false=>
       simp only[Ai]at hF;subst hF;replace zz:=B6 g1 g3 hd hlA hlK k1 k2 q1;refine wt zz ?_;replace zz:=B6 g1 g3 hd hlA hlK k1 k2 q1;refine uU zz (hn _) ?_;exact wz zz
      |true=>
       rw[Ah]at hF;generalize args.all BS=ba at hA hF;cases ba with
       |false=>
        simp only[Ai]at hF;subst hF;replace zz:=B6 g1 g3 hd hlA hlK k1 k2 q1;refine wt zz ?_;replace zz:=B6 g1 g3 hd hlA hlK k1 k2 q1;refine uU zz (hn _) ?_;refine wt zz ?_;replace zz:=B6 g1 g3 hd hlA hlK k1 k2 q1;refine uU zz (hA _) ?_;exact wz zz
       |true=>
        rw[Ah]at hF;subst hF;replace zz:=B6 g1 g3 hd hlA hlK k1 k2 q1;refine wt zz ?_;replace zz:=B6 g1 g3 hd hlA hlK k1 k2 q1;refine uU zz (hn _) ?_;refine wt zz ?_;replace zz:=B6 g1 g3 hd hlA hlK k1 k2 q1;refine uU zz (hA _) ?_;exact wz zz
    |false=>
     rw[k2]at hF;simp only[Ap,AD]at hF;clear hn hA;cases k3:(op.data.toList==(#[43]:Array UInt8).toList)with
     |true=>
      rw[k3]at hF;simp only[Bd,AC]at hF;cases q1:(v==0)with
      |false=>
       rw[q1]at hF;simp only[Ai]at hF;subst hF;replace zz:=BR g1 g3 hd hlA hlK k1 k2 k3 q1;exact wz zz
      |true=>
       rw[q1,Ah]at hF;cases q2:(name.data.toList==(#[]:Array UInt8).toList)with
       |false=>
        rw[q2]at hF;simp only[Ai]at hF;subst hF;replace zz:=Aq g1 g3 hd hlA hlK k1 k2 k3 q1 q2;exact wz zz
       |true=>
        rw[q2,Ah]at hF;cases q3:((args.length:Int)==0)with
        |false=>
         rw[q3]at hF;simp only[Ai]at hF;subst hF;replace zz:=Cv g1 g3 hd hlA hlK k1 k2 k3 q1 q2 q3;exact wz zz
        |true=>
         rw[q3,Ah]at hF;subst hF;replace zz:=Cv g1 g3 hd hlA hlK k1 k2 k3 q1 q2 q3;exact wz zz
     |false=>
      rw[k3]at hF;simp only[BL]at hF;cases k4:(op.data.toList==(#[45]:Array UInt8).toList)with
      |true=>
       rw[k4]at hF;simp only[Bd,AC]at hF;cases q1:(v==0)with
       |false=>
        rw[q1]at hF;simp only[Ai]at hF;subst hF;replace zz:=Aq g1 g3 hd hlA hlK k1 k2 k3 k4 q1;exact wz zz
       |true=>
        rw[q1,Ah]at hF;cases q2:(name.data.toList==(#[]:Array UInt8).toList)with
        |false=>
         rw[q2]at hF;simp only[Ai]at hF;subst hF;replace zz:=Cv g1 g3 hd hlA hlK k1 k2 k3 k4 q1 q2;exact wz zz
        |true=>
         rw[q2,Ah]at hF;cases q3:((args.length:Int)==0)with
         |false=>
          rw[q3]at hF;simp only[Ai]at hF;subst hF;replace zz:=AJ g1 g3 hd hlA hlK k1 k2 k3 k4 q1 q2 q3;exact wz zz
         |true=>
          rw[q3,Ah]at hF;subst hF;replace zz:=AJ g1 g3 hd hlA hlK k1 k2 k3 k4 q1 q2 q3;exact wz zz
      |false=>
       rw[k4]at hF;simp only[BL]at hF;cases k5:(op.data.toList==(#[42]:Array UInt8).toList)with
       |true=>
        rw[k5]at hF;simp only[AC]at hF;cases q1:(v==0)with
        |false=>
         rw[q1]at hF;simp only[Ai]at hF;subst hF;replace zz:=Cv g1 g3 hd hlA hlK k1 k2 k3 k4 k5 q1;exact wz zz
        |true=>
         rw[q1,Ah]at hF;cases q2:(name.data.toList==(#[]:Array UInt8).toList)with
         |false=>
          rw[q2]at hF;simp only[Ai]at hF;subst hF;replace zz:=AJ g1 g3 hd hlA hlK k1 k2 k3 k4 k5 q1 q2;exact wz zz
         |true=>
          rw[q2,Ah]at hF;cases q3:((args.length:Int)==0)with
          |false=>
           rw[q3]at hF;simp only[Ai]at hF;subst hF;replace zz:=AJ g1 g3 hd hlA hlK k1 k2 k3 k4 k5 q1 (uu q2 q3);exact wz zz
          |true=>
           rw[q3,Ah]at hF;subst hF;replace zz:=AJ g1 g3 hd hlA hlK k1 k2 k3 k4 k5 q1 (uu q2 q3);exact wz zz
       |false=>
        rw[k5]at hF;simp only[Ap,AD]at hF;subst hF;replace zz:=Aq g1 g3 hd hlA hlK k1 k2 k3 k4 k5;exact wz zz
def LN(op name:ByteArray)(args:List ByteArray)(params:List Pm)(ne nk:Nat):Bool:=
 if A3 op BH then Ak name&&(args.all BS&&((((params.length:Int)+ne)+nk)==0))
 else if A3 op Ba then A3 name ⟨#[]⟩&&(((args.length:Int)==2)&&(args.all BS&&((((params.length:Int)+ne)+nk)==0)))
 else if(A3 op CK||(A3 op Ce||A3 op CS))then A3 name ⟨#[]⟩&&(((((args.length:Int)+params.length)+nk)==0)&&((ne:Int)==2))
 else if(A3 op C5||A3 op Fh)then A3 name ⟨#[]⟩&&((((args.length:Int)+params.length)+ne)==0)
 else if A3 op E8 then A3 name ⟨#[]⟩&&(((((args.length:Int)+params.length)+ne)==0)&&((nk:Int)==1))
 else if A3 op GO then A3 name ⟨#[]⟩&&(((((args.length:Int)+params.length)+ne)==0)&&((nk:Int)==2))
 else if(A3 op DJ||A3 op Fi)then A3 name ⟨#[]⟩&&((((args.length:Int)+ne)==0)&&(((nk:Int)==1)&&params.all FC))
 else false
theorem ZY(op name:ByteArray)(args:List ByteArray)(params:List Pm)(ne nk:Nat):DA op name args params ne nk=LN op name args params ne nk:=by
 have ea:args.isEmpty=decide (args.length=0):=by cases args<;>simp
 have ep:params.isEmpty=decide (params.length=0):=by cases params<;>simp
 have ep2:params.length=0->params.all FC=true:=λh=>by rw[List.length_eq_zero_iff.1 h];try rfl
 have en:Ey name=A3 name ⟨#[]⟩:=rfl;unfold DA CW DT LN;rw[ea,en,ep];generalize args.all BS=ta;generalize params.all FC=pa at ep2;generalize A3 name ⟨#[]⟩=nm;generalize Ak name=nn;generalize args.length=la;generalize params.length=lp at ep2;cases k1:A3 op BH
 ·cases k2:A3 op Ba
  ·cases k3:A3 op CK
   ·cases k4:A3 op Ce
    ·cases k5:A3 op CS
     ·cases k6:A3 op C5
      ·cases k7:A3 op Fh
       ·cases k8:A3 op E8
        ·cases k9:A3 op GO
         ·cases k10:A3 op DJ
          ·cases k11:A3 op Fi
           ·simp
           ·rw [GZ];simp;cases nm<;>cases pa<;>simp<;>omega
          ·rw [GZ];simp;cases nm<;>cases pa<;>simp<;>omega
         ·rw [GZ];simp;cases nm<;>cases pa<;>simp at ep2⊢ <;>omega
        ·rw [GZ];simp;cases nm<;>cases pa<;>simp at ep2⊢ <;>omega
       ·rw [GZ];simp;cases nm<;>cases pa<;>simp at ep2⊢ <;>omega
      ·rw [GZ];simp;cases nm<;>cases pa<;>simp at ep2⊢ <;>omega
     ·rw [GZ];simp;cases nm<;>cases pa<;>simp at ep2⊢ <;>omega
    ·rw [GZ];simp;cases nm<;>cases pa<;>simp at ep2⊢ <;>omega
   ·rw [GZ];simp;cases nm<;>cases pa<;>simp at ep2⊢ <;>omega
  ·rw [GZ];simp;cases nm<;>cases pa<;>cases ta<;>simp at ep2⊢ <;>omega
 ·rw [GZ];simp;cases nn<;>cases pa<;>cases ta<;>simp at ep2⊢ <;>omega
theorem ZZ{op name:ByteArray}{args:List ByteArray}{params:List Pm}{exprs:List Ex}{kids:List Fm}(hE: ∀ e∈exprs,Br e=true)(hK: ∀ k∈kids,BP k=true):
  BP (.mk op name args params exprs kids)=LN op name args params exprs.length kids.length:=by
 have h1:exprs.all Br=true:=List.all_eq_true.2 hE;have h2:HL kids=true:=Ie.2 hK;simp only[BP,h1,h2,C7,ZY]
theorem SE{op name:ByteArray}{args:List ByteArray}{params:List Pm}{exprs:List Ex}{kids:List Fm}(h:BP (.mk op name args params exprs kids)=true):(∀ e∈exprs,Br e=true)/\ ∀ k∈kids,BP k=true:=by
 simp only[BP,AT]at h;exact⟨List.all_eq_true.1 h.1.2,Ie.1 h.2⟩
set_option maxHeartbeats 4000000
theorem Za: ∀ a:Ex,a.ok-> ∀ b:Ex,b.ok-> ∀ h:A0,AA prog 57 [.agg a.cells,.agg b.cells] h λr h'=>r= .sc (.bool (a.same b))/\h'=h:=by
 refine Ex.ind ?_;intro op name n args kids ih hok;rintro⟨op3,name3,n3,args3,kids3⟩ hok3 h;simp only[Ex.ok]at hok hok3;obtain⟨_,_,_,⟨ha,_⟩,hk,hks⟩:=hok;obtain⟨_,_,_,⟨ha3,_⟩,hk3,hks3⟩:=hok3;rw[Ex.oks_iff]at hks hks3;have hfk: ∀ a∈kids, ∀ b∈kids3, ∀ h:A0,AA prog 57 [.agg a.cells,.agg b.cells] h λr h'=>r= .sc (.bool (a.same b))/\h'=h:=λa ha b hb=>ih a ha (hks a ha) b (hks3 b hb)
 clear ih;have hl_kids:=Ex.rows_len kids;have hl_kids3:=Ex.rows_len kids3;have cellsA:(Ex.mk op name n args kids).cells=(Ex.mk op name n args kids).cells:=rfl;have cellsB:(Ex.mk op3 name3 n3 args3 kids3).cells=(Ex.mk op3 name3 n3 args3 kids3).cells:=rfl
 conv at cellsA=>rhs;simp only[Ex.cells]
 conv at cellsB=>rhs;simp only[Ex.cells]
 rw[cellsA,cellsB];refine AN func57 ntmps57 results57 Ty.YH ?_;cases e0:(op.data.toList==op3.data.toList)with
 |false=>
  have hs:(Ex.mk op name n args kids).same (.mk op3 name3 n3 args3 kids3)=false:=by simp only[Ex.same,A3,e0,Ai,B5]
  refine wt (Aj yT yF e0) ?_;rw[hs]
 |true=>
  cases e1:(name.data.toList==name3.data.toList)with
  |false=>
   have hs:(Ex.mk op name n args kids).same (.mk op3 name3 n3 args3 kids3)=false:=(by simp only[Ex.same,A3,e0,e1,Ai,B5]);replace zz:=AS yT yF e0 e1;refine wt zz ?_;rw[hs]
  |true=>
   cases e2:(n !=n3)with
   |true=>
    have en:(n==n3)=false:=(by simpa using e2);have hs:(Ex.mk op name n args kids).same (.mk op3 name3 n3 args3 kids3)=false:=(by simp only[Ex.same,A3,e0,e1,en,Ai,B5]);replace zz:=AV yT yF e0 e1 e2;refine wt zz ?_;rw[hs]
   |false=>
    have en:(n==n3)=true:=(by simpa using e2);replace zz:=AV yT yF e0 e1 e2;refine wt zz ?_;cases e3:DR args args3 with
    |false=>
     have hs:(Ex.mk op name n args kids).same (.mk op3 name3 n3 args3 kids3)=false:=(by simp only[Ex.same,A3,e0,e1,en,e3,Ai,B5]);replace zz:=AK yT yF e0 e1 e2 e3;refine uU zz (OU (l:=args) (m:=args3) ha ha3) ?_;refine wt zz ?_;rw[hs]
    |true=>
     cases l_kids:((kids.length:Int) !=kids3.length)with
     |true=>
      have hlen:Ex.sames kids kids3=false:=Ex.sames_len (by simp at l_kids;omega);have hs:(Ex.mk op name n args kids).same (.mk op3 name3 n3 args3 kids3)=false:=(by simp only[Ex.same,A3,e0,e1,en,e3,hlen,Ai,B5]);replace zz:=BR yT yF e0 e1 e2 e3 l_kids hl_kids hl_kids3;refine uU zz (OU (l:=args) (m:=args3) ha ha3) ?_;refine wt zz ?_;rw[hs]
     |false=>
      have hn_kids:kids.length=kids3.length:=(by simp at l_kids;omega);replace zz:=BR yT yF e0 e1 e2 e3 l_kids hl_kids hl_kids3;refine uU zz (OU (l:=args) (m:=args3) ha ha3) ?_;refine wt zz ?_;refine BV (λc S h7=>h7=h/\S 2= .cptr (Ex.mk op name n args kids).cells/\S 3= .cptr (Ex.mk op3 name3 n3 args3 kids3).cells/\ ∃ k:Nat,S 5= .sc (.int .i64 k)/\k<=kids.length/\c=kids.length-k/\Ex.sames kids kids3=Ex.sames (kids.drop k) (kids3.drop k)) kids.length ?_ ?_
      ·simp only[Ty.w,simprocAttr,cellsA,cellsB];exact⟨0,rfl,by omega,rfl,by simp⟩
      ·rintro c S h7 ⟨rfl,g2,g3,k,gk,hkl,rfl,hinv⟩;rw[cellsA]at g2;rw[cellsB]at g3;by_cases hlt:k<kids.length
       ·have hd:decide ((k:Int)<(kids.length:Int))=true:=(by simp;omega);have w7:IntKind.i64.wrap ((k:Int)+1)=k+1:=(by unfold AE at hk;rw[B9 (by omega) (by omega)]);obtain⟨a,hx⟩: ∃ a,kids[k]? =some a:=⟨_,List.getElem?_eq_getElem hlt⟩;obtain⟨b,hy⟩: ∃ b,kids3[k]? =some b:=⟨_,List.getElem?_eq_getElem (by omega)⟩;have hc:=hfk a (List.mem_of_getElem? hx) b (List.mem_of_getElem? hy);rw[CR hx,CR hy]at hinv;simp only[Ex.sames]at hinv;have hr:=Ex.rows_get hx;have hr2:=Ex.rows_get hy;generalize he:a.same b=e at hc hinv;clear he;obtain⟨op2,name2,n2,args2,kids2⟩:=a;obtain⟨op4,name4,n4,args4,kids4⟩:=b;simp only[Ex.cells]at hr hr2 hc;cases e with
        |false=>
         have hs:(Ex.mk op name n args kids).same (.mk op3 name3 n3 args3 kids3)=false:=(by simp only[Ex.same,A3,hinv,e0,e1,en,e3,Ai,B5]);replace zz:=Aq g2 g3 gk hl_kids hl_kids3 hd hr hr2 w7 yF;refine wy zz ?_;replace zz:=B6 g2 g3 gk hl_kids hl_kids3 hd hr hr2;(first|refine uV zz (hc _) ?_|refine uA zz (hc _) ?_);replace zz:=AV g2 g3 gk w7 yF;refine wy zz ?_;rw[hs]
        |true=>
         rw[Ah]at hinv;replace zz:=Aq g2 g3 gk hl_kids hl_kids3 hd hr hr2 w7 yT;refine wy zz ?_;replace zz:=B6 g2 g3 gk hl_kids hl_kids3 hd hr hr2;(first|refine uV zz (hc _) ?_|refine uA zz (hc _) ?_);replace zz:=AV g2 g3 gk w7 yT;refine wy zz ?_;exact⟨kids.length-(k+1),by omega,by rw[cellsA],by rw[cellsB],k+1,by simp,by omega,rfl,hinv⟩
       ·have hd:decide ((k:Int)<(kids.length:Int))=false:=(by simp;omega);rw[List.drop_eq_nil_of_le (by omega),List.drop_eq_nil_of_le (by omega)]at hinv;have hq0:=hinv;simp only[Ex.sames]at hq0;clear hinv;have hs:(Ex.mk op name n args kids).same (.mk op3 name3 n3 args3 kids3)=true:=(by simp only[Ex.same,A3,e0,e1,en,e3,hq0,Ah]);replace zz:=AK g2 g3 gk hl_kids hl_kids3 hd;refine wt zz ?_;rw[hs]
end Go.Proofs.YtblgchkahpgdjaaGreat
namespace Go.AM
mutual
def Nz:PV->PV->Prop
 | .imm z rows,p=>(∃ rows',p= .imm z rows'/\Dt rows rows')\/(rows=[]/\(p= .emp\/p= .sc (.slice none 0 0)))
 | .agg l,p=> ∃ l',p= .agg l'/\CA l l'
 |q,p=>p=q
def CA:List PV->List PV->Prop
 |[],[]=>True
 |p::ps,q::qs=>Nz p q/\CA ps qs
 |_,_=>False
def Dt:List (List PV)->List (List PV)->Prop
 |[],[]=>True
 |p::ps,q::qs=>CA p q/\Dt ps qs
 |_,_=>False
end
theorem CA.len:(l l':List PV)->CA l l'->l.length=l'.length
 |[],[],_=>rfl
 |[],_::_,h=>by simp[CA]at h
 |_::_,[],h=>by simp[CA]at h
 |p::l,q::l',h=>by
  unfold CA at h;simp only[List.length_cons,CA.len l l' h.2]
theorem Dt.len:(l l':List (List PV))->Dt l l'->l.length=l'.length
 |[],[],_=>rfl
 |[],_::_,h=>by simp[Dt]at h
 |_::_,[],h=>by simp[Dt]at h
 |p::l,q::l',h=>by
  unfold Dt at h;simp only[List.length_cons,Dt.len l l' h.2]
mutual
theorem Nz.refl:(p:PV)->Nz p p
 | .imm z rows=>by unfold Nz;exact .inl ⟨rows,rfl,Dt.refl rows⟩
 | .agg l=>by unfold Nz;exact⟨l,rfl,CA.refl l⟩
 | .sc v=>by unfold Nz;rfl
 | .ptr _ _ _=>by unfold Nz;rfl
 | .cptr _=>by unfold Nz;rfl
 | .own _ _ _=>by unfold Nz;rfl
 | .emp=>by unfold Nz;rfl
 | .mp _=>by unfold Nz;rfl
 | .tup _=>by unfold Nz;rfl
 | .fn _ _ _=>by unfold Nz;rfl
 | .ab _ _ _ _ _=>by unfold Nz;rfl
theorem CA.refl:(l:List PV)->CA l l
 |[]=>by unfold CA;trivial
 |p::l=>by unfold CA;exact⟨Nz.refl p,CA.refl l⟩
theorem Dt.refl:(l:List (List PV))->Dt l l
 |[]=>by unfold Dt;trivial
 |p::l=>by unfold Dt;exact⟨CA.refl p,Dt.refl l⟩
end
section
variable {β:B8}{n:Nat}{F:Nat->Prop}{w:World}
mutual
theorem Nz.rep:(q p:PV)->(x:Value)->Nz q p->A9 β n F w p x->A9 β n F w q x
 | .imm z rows,p,x,h,hr=>by
  unfold Nz at h;rcases h with⟨rows',rfl,hR⟩|⟨rfl,rfl|rfl⟩
  ·simp only[A9]at hr⊢;have hl:=Dt.len rows rows' hR;obtain⟨a,cap,rfl,g1,g2,g3⟩:=hr;refine⟨a,cap,by rw[hl],by omega,g2,?_⟩;rcases g3 with g3|⟨b,o,hF,ha,hRR⟩
   ·left;rw[g3]at hl;exact List.length_eq_zero_iff.1 hl
   ·exact .inr ⟨b,o,hF,ha,Dt.rep z rows rows' b o hR hRR⟩
  ·simp only[A9]at hr⊢;obtain⟨a,rfl⟩:=hr;exact⟨a,0,rfl,AF _,BX _,.inl A2⟩
  ·simp only[A9]at hr⊢;exact⟨none,0,hr,AF _,BX _,.inl A2⟩
 | .agg l,p,x,h,hr=>by
  unfold Nz at h;obtain⟨l',rfl,hl⟩:=h;simp only[A9]at hr⊢;obtain⟨xs,rfl,h1,h2⟩:=hr;exact⟨xs,rfl,h1,CA.rep l l' xs hl h2⟩
 | .sc _,p,x,h,hr=>by unfold Nz at h;subst h;exact hr
 | .ptr _ _ _,p,x,h,hr=>by unfold Nz at h;subst h;exact hr
 | .cptr _,p,x,h,hr=>by unfold Nz at h;subst h;exact hr
 | .own _ _ _,p,x,h,hr=>by unfold Nz at h;subst h;exact hr
 | .emp,p,x,h,hr=>by unfold Nz at h;subst h;exact hr
 | .mp _,p,x,h,hr=>by unfold Nz at h;subst h;exact hr
 | .tup _,p,x,h,hr=>by unfold Nz at h;subst h;exact hr
 | .fn _ _ _,p,x,h,hr=>by unfold Nz at h;subst h;exact hr
 | .ab _ _ _ _ _,p,x,h,hr=>by unfold Nz at h;subst h;exact hr
theorem CA.rep:(l l':List PV)->(xs:List Value)->CA l l'->AR β n F w l' xs->AR β n F w l xs
 |[],[],xs,_,hr=>hr
 |[],_::_,_,h,_=>by simp[CA]at h
 |_::_,[],_,h,_=>by simp[CA]at h
 |p::l,q::l',[],_,hr=>by simp[AR]at hr
 |p::l,q::l',v::xs,h,hr=>by
  unfold CA at h;unfold AR at hr⊢;exact⟨Nz.rep p q v h.1 hr.1,CA.rep l l' xs h.2 hr.2⟩
theorem NzS.rep:(l l':List PV)->(b o:Nat)->CA l l'->BO β n F w l' b o->BO β n F w l b o
 |[],[],_,_,_,_=>by unfold BO;trivial
 |[],_::_,_,_,h,_=>by simp[CA]at h
 |_::_,[],_,_,h,_=>by simp[CA]at h
 |p::l,q::l',b,o,h,hr=>by
  unfold CA at h;unfold BO at hr⊢;obtain⟨⟨v,h1,h2,h3⟩,h4⟩:=hr;exact⟨⟨v,h1,h2,Nz.rep p q v h.1 h3⟩,NzS.rep l l' b (o+1) h.2 h4⟩
theorem Dt.rep(z:Nat):(l l':List (List PV))->(b o:Nat)->Dt l l'->B7 β n F w z l' b o->B7 β n F w z l b o
 |[],[],_,_,_,_=>by unfold B7;trivial
 |[],_::_,_,_,h,_=>by simp[Dt]at h
 |_::_,[],_,_,h,_=>by simp[Dt]at h
 |p::l,q::l',b,o,h,hr=>by
  unfold Dt at h;unfold B7 at hr⊢;exact⟨⟨by rw[CA.len p q h.1];exact hr.1.1,NzS.rep p q b o h.1 hr.1.2⟩,Dt.rep z l l' b (o+z) h.2 hr.2⟩
end
end
theorem AA.nz{P:Program}{f:FuncId}{ys xs:List PV}{h:A0}{K:PV->A0->Prop}(hc:AA P f ys h K)(hz:CA ys xs):AA P f xs h K:=
 λβ w vals sm hr=>hc β w vals sm (CA.rep ys xs vals hz hr)
theorem Hy{z:Nat}:Nz (.imm z []) (.sc (.slice none 0 0)):=by unfold Nz;exact .inr ⟨rfl,.inr rfl⟩
theorem N2{r r':List PV}(h:CA r r'):Nz (.agg r) (.agg r'):=by unfold Nz;exact⟨_,rfl,h⟩
theorem Cj{p q:PV}{l m:List PV}(h:Nz p q)(h2:CA l m):CA (p::l) (q::m):=by unfold CA;exact⟨h,h2⟩
end Go.AM
namespace Go.AM
theorem Fk{h:A0}{o:Ae}{j:Nat}(hj:j<h.next):(h.new o).obj j=h.obj j:=by
 simp only[A0.new];rw[A4 (by omega)]
theorem Dv{h:A0}{id j:Nat}(hj:j≠id):(h.kill id).obj j=h.obj j:=by
 simp only[A0.kill];rw[A4 hj]
theorem Ar{h:A0}{o:Ae}{id j:Nat}(hj:j≠id):(h.set id o).obj j=h.obj j:=by
 simp only[A0.set];rw[A4 hj]
theorem DU{h:A0}{o:Ae}{id:Nat}:(h.set id o).obj id=some o:=by simp only[A0.set,AC]
def GQ(h:A0)(o o':Ae):A0:=DI h.next ((h.new o).set h.next o')
theorem Gl{h:A0}{o o':Ae}:(GQ h o o').next=h.next+1:=rfl
theorem Hz{h:A0}{o o':Ae}{j:Nat}(hj:j<h.next):(GQ h o o').obj j=h.obj j:=by
 simp only[GQ,DI,A0.set,A0.new];rw[AH hj,A4 (by omega),A4 (by omega)]
theorem JW{P:Program}{ow:Nat->Bool}{wf:FuncId->Bool}{m z:Nat}{c:Code}{Q:Au}{s:A8}{h:A0}{o:Ae}{cells:List PV}(t:Nat)(hc:IR c=true)(hs:s t= .ptr h.next 0 0)(hf: ∀ n H,B4 n H cells cells)
  (hw:AX P ow wf m c Q (C2 s t (.cptr cells)) (GQ h o (.arr z [cells]))):AX P ow wf m c Q s ((h.new o).set h.next (.arr z [cells])):=by
 refine JK h.next [(t,.cptr cells)] hc (by simp[A0.new,A0.set]) ?_ hw
 intro x hx;simp only[List.mem_cons,List.not_mem_nil,DO]at hx;subst hx;simp only[hs,AZ];exact .inr ⟨h.next,0,0,z,[cells],cells,rfl,AF _,by simp[A0.set],rfl,hf _ _⟩
theorem AL.tmp{h h':A0}(g:AL h h')(o o':Ae):AL h (GQ h' o o'):=
 ⟨by rw[Gl];have:=g.le;omega,λid hid=>by rw[Hz (by have:=g.le;omega)];exact g.old id hid⟩
theorem Tl.tmp{h:A0}{lo z:Nat}{p:PV}{R:List (List PV)}(t:Tl h lo z p R)(o o':Ae):Tl (GQ h o o') lo z p R:=t.up (by rw[Gl];omega) λj _ hj=>Hz hj
theorem Tl.cell{h:A0}{lo z:Nat}{p:PV}{R:List (List PV)}(t:Tl h lo z p R):p.cells=[p]/\C8 p=true:=by
 rcases t with⟨_,rfl|rfl⟩|⟨_,_,_,rfl,_⟩<;>exact⟨rfl,rfl⟩
theorem Tl.frzR{h:A0}{id0 z:Nat}{p:PV}{rows:List (List PV)}(t:Tl h id0 z p rows){n:Nat}(hn:n<=id0)(hr:D5 n h rows rows):AZ n h (.imm z rows) p:=by
 simp only[AZ];rcases t with⟨h1,h2⟩|⟨id,h1,h2,rfl,ho⟩
 ·exact .inr (.inl ⟨h1,h2.symm⟩)
 ·refine .inr (.inr ⟨id,0,_,_,rfl,by omega,ho,by omega,?_⟩);rw[List.drop_zero,List.take_of_length_le (by omega)];exact hr
theorem SF{h0 h H:A0}{lo z j:Nat}{p:PV}{R R2:List (List PV)}(t:Tl h0 lo z p R)(t1:Db h p=some (H,R2))(hj:h0.next<=j):H.obj j=h.obj j:=by
 rcases t with⟨_,rfl|rfl⟩|⟨id,b1,b2,rfl,b3⟩
 ·simp only[Db,Ag,B3]at t1;rw[← t1.1]
 ·simp only[Db,Ag,B3]at t1;rw[← t1.1]
 ·unfold Db at t1;simp only at t1;split at t1
  ·split at t1
   ·simp only[Ag,B3]at t1;rw[← t1.1];exact Dv (by omega)
   ·cases t1
  ·cases t1
structure Gm(h:A0)(ir io lo zr zo zl:Nat)(Z pre post:List PV)(R:List (List PV))(h':A0):Prop where
 grow:AL h h'
 ids:h.next<=ir/\h.next<=io/\ir<lo/\io<lo/\lo<=h'.next/\ir≠io
 ores:h'.obj ir=some (.arr zr [Z])
 ex: ∃ p H,h'.obj io=some (.arr zo [pre++p::post])/\Tl h' lo zl p R/\Db h' p=some (H,R)/\CP h' zl p=true/\H.next=h'.next/\(∀ j,j<lo->H.obj j=h'.obj j)/\AL h H/\p.cells=[p]/\C8 p=true
theorem Gm.mk2{h h':A0}{ir io lo zr zo zl:Nat}{Z pre post:List PV}{R:List (List PV)}{p:PV}(g:AL h h')(ids:h.next<=ir/\h.next<=io/\ir<lo/\io<lo/\lo<=h'.next/\ir≠io)(o1:h'.obj ir=some (.arr zr [Z]))(o2:h'.obj io=some (.arr zo [pre++p::post]))(tl:Tl h' lo zl p R):
  Gm h ir io lo zr zo zl Z pre post R h':=by
 obtain⟨H,t1,t2,t3,t4,t5⟩:=tl.tail;have hk:=t5 h ⟨g.le,g.old⟩ (by omega);exact⟨g,ids,o1,p,H,o2,tl,t1,t2,t3,t4,⟨hk.1,hk.2⟩,tl.cell.1,tl.cell.2⟩
theorem Gm.tmp{h h':A0}{ir io lo zr zo zl:Nat}{Z pre post:List PV}{R:List (List PV)}(i:Gm h ir io lo zr zo zl Z pre post R h')(o o':Ae):Gm h ir io lo zr zo zl Z pre post R (GQ h' o o'):=by
 obtain⟨g,ids,o1,p,H,o2,tl,_⟩:=i;exact .mk2 (g.tmp o o') ⟨ids.1,ids.2.1,ids.2.2.1,ids.2.2.2.1,by rw[Gl];omega,ids.2.2.2.2.2⟩ (by rw[Hz (by omega)];exact o1) (by rw[Hz (by omega)];exact o2) (tl.tmp o o')
theorem Gm.push{h h' H:A0}{ir io lo zr zo zl m:Nat}{Z pre post:List PV}{R:List (List PV)}(X:List PV)(g:AL h H)(ids:h.next<=ir/\h.next<=io/\ir<lo/\io<lo/\lo<=h'.next/\ir≠io)(o1:h'.obj ir=some (.arr zr [Z]))(t3:H.next=h'.next)(t4: ∀ j,j<lo->H.obj j=h'.obj j)(hm:m=R.length+1):
  Gm h ir io lo zr zo zl Z pre post (R++[X]) ((H.new (.arr zl (R++[X]))).set io (.arr zo [pre++ .own h'.next 0 m::post])):=by
 obtain⟨i1,i2,i3,i4,i5,i6⟩:=ids;refine Gm.mk2 (p:= .own h'.next 0 m) ((g.new _).set i2 _) ⟨i1,i2,i3,i4,by simp only[A0.set,A0.new];omega,i6⟩ ?_ ?_ ?_
 ·simp only[A0.set,A0.new];rw[A4 i6,A4 (by omega),t4 _ i3];exact o1
 ·simp only[A0.set,AC]
 ·rw [← t3];have:Tl (H.new (.arr zl (R++[X]))) lo zl (.own H.next 0 m) (R++[X]):=Tl.grow (by omega) (by rw[hm];simp);exact this.up (AF _) (λj hj _=>by simp only[A0.set];rw[A4 (by omega)])
def Gv(X z:Nat)(R:List (List PV))(p q:PV):Prop:=p=q\/(p= .own X 0 R.length/\q= .imm z R)
def EN(X z:Nat)(R:List (List PV)):List PV->List PV->Prop
 |[],[]=>True
 |p::ps,q::qs=>Gv X z R p q/\EN X z R ps qs
 |_,_=>False
def EO(X z:Nat)(R:List (List PV)):List (List PV)->List (List PV)->Prop
 |[],[]=>True
 |p::ps,q::qs=>EN X z R p q/\EO X z R ps qs
 |_,_=>False
theorem EN.refl{X z:Nat}{R:List (List PV)}: ∀ l:List PV,EN X z R l l
 |[]=>trivial
 |_::l=>⟨.inl rfl,EN.refl l⟩
theorem EO.snoc{X z:Nat}{R:List (List PV)}{r r':List PV}(h:EN X z R r r'): ∀ l:List (List PV),EO X z R (l++[r]) (l++[r'])
 |[]=>⟨h,trivial⟩
 |a::l=>⟨EN.refl a,EO.snoc h l⟩
theorem EN.len{X z:Nat}{R:List (List PV)}: ∀ l l':List PV,EN X z R l l'->l.length=l'.length
 |[],[],_=>rfl
 |[],_::_,h=>h.elim
 |_::_,[],h=>h.elim
 |_::l,_::l',h=>by simp only[List.length_cons,EN.len l l' h.2]
theorem EO.len{X z:Nat}{R:List (List PV)}: ∀ l l':List (List PV),EO X z R l l'->l.length=l'.length
 |[],[],_=>rfl
 |[],_::_,h=>h.elim
 |_::_,[],h=>h.elim
 |_::l,_::l',h=>by simp only[List.length_cons,EO.len l l' h.2]
section
variable {β:B8}{h:A0}{w:World}{X z:Nat}{R:List (List PV)}{F':Nat->Prop}
theorem Gv.rep(sm:Ao β h w)(hX:h.obj X=some (.arr z R))(mv:Mv β h.next (Fz β h w) w β h.next F' w)(hB: ∀ b,(β X).b=some b->F' b){p q:PV}{x:Value}(hg:Gv X z R p q)(hr:A9 β h.next (Fz β h w) w p x):A9 β h.next F' w q x:=by
 rcases hg with rfl|⟨rfl,rfl⟩
 ·exact A9.mv mv _ _ hr
 ·simp only[A9]at hr⊢;obtain⟨_,a,cap,rfl,h1,h2,h3⟩:=hr;refine⟨a,cap,rfl,h1,h2,?_⟩;rcases h3 with h3|⟨b,g1,g2,g3⟩
  ·exact .inl (List.eq_nil_of_length_eq_zero (by omega))
  ·have hok:=sm.ok X _ hX;simp only[BA]at hok;obtain⟨hz,hok⟩:=hok;rcases hok with⟨k1,_⟩|⟨b',c,e,fr,k1,k2,k3,k4,k5,k6⟩
   ·rw [k1]at g1;cases g1
   ·rw [k1]at g1;simp only[Ag]at g1;subst g1;exact .inr ⟨b',_,hB b' k1,g2,by simpa using B7.mvb mv rfl z R _ k6⟩
theorem EN.rep(sm:Ao β h w)(hX:h.obj X=some (.arr z R))(mv:Mv β h.next (Fz β h w) w β h.next F' w)(hB: ∀ b,(β X).b=some b->F' b): ∀ (l l':List PV)(b o:Nat),EN X z R l l'->BO β h.next (Fz β h w) w l b o->BO β h.next F' w l' b o
 |[],[],_,_,_,_=>by simp only[BO]
 |[],_::_,_,_,h,_=>h.elim
 |_::_,[],_,_,h,_=>h.elim
 |p::l,q::l',b,o,hg,hr=>by
  simp only[BO]at hr⊢;obtain⟨⟨v,h1,h2,h3⟩,h4⟩:=hr;exact⟨⟨v,h1,h2,Gv.rep sm hX mv hB hg.1 h3⟩,EN.rep sm hX mv hB l l' b (o+1) hg.2 h4⟩
theorem EO.rep(sm:Ao β h w)(hX:h.obj X=some (.arr z R))(mv:Mv β h.next (Fz β h w) w β h.next F' w)(hB: ∀ b,(β X).b=some b->F' b)(zY:Nat): ∀ (l l':List (List PV))(b o:Nat),EO X z R l l'->B7 β h.next (Fz β h w) w zY l b o->B7 β h.next F' w zY l' b o
 |[],[],_,_,_,_=>by simp only[B7]
 |[],_::_,_,_,h,_=>h.elim
 |_::_,[],_,_,h,_=>h.elim
 |p::l,q::l',b,o,hg,hr=>by
  simp only[B7]at hr⊢;obtain⟨⟨h1,h2⟩,h3⟩:=hr;exact⟨⟨by rw[← EN.len _ _ hg.1];exact h1,EN.rep sm hX mv hB p q b o hg.1 h2⟩,EO.rep sm hX mv hB zY l l' b (o+zY) hg.2 h3⟩
end
def HN(h:A0)(X Y zY:Nat)(R':List (List PV)):A0:=(h.kill X).set Y (.arr zY R')
theorem Wk.give{s:A8}{h:A0}{X Y z zY:Nat}{R RY RY':List (List PV)}(hX:h.obj X=some (.arr z R))(hY:h.obj Y=some (.arr zY RY))(hne:X≠Y)(hg:EO X z R RY RY'):Wk s h s (HN h X Y zY RY'):=by
 intro β w sm;have ho: ∀ j,(HN h X Y zY RY').obj j=if j=Y then some (.arr zY RY')else if j=X then none else h.obj j:=λj=>rfl
 have hsome: ∀ id,((HN h X Y zY RY').obj id).isSome=true->id≠X/\(h.obj id).isSome=true:=λid hid=>by
  rw[ho]at hid;split at hid
  ·rename_i e;subst e;exact⟨λe=>hne e.symm,by rw[hY];try rfl⟩
  ·split at hid
   ·simp at hid
   ·exact ⟨by assumption,hid⟩
 have hF: ∀ b,Fz β h w b->Fz β (HN h X Y zY RY') w b:=λb hb=>⟨hb.1,λid hid=>hb.2.1 id (hsome id hid).2,hb.2.2⟩;have hsX:(h.obj X).isSome=true:=by rw[hX];try rfl
 have hB: ∀ b,(β X).b=some b->Fz β (HN h X Y zY RY') w b:=λb hb=>
  ⟨sm.blk_lt hX hb,λj hj hjb=>(hsome j hj).1 (sm.inj j X (hsome j hj).2 hsX b hjb hb),sm.nx X hsX b hb⟩
 have mv:Mv β h.next (Fz β h w) w β h.next (Fz β (HN h X Y zY RY') w) w:=⟨AF _,λ_ _ _=>rfl,λb hb=>⟨hF b hb,rfl⟩⟩
 refine⟨⟨λid hid=>sm.lt id (hsome id hid).2,λid o hoo=>?_,λi j hi hj=>sm.inj i j (hsome i hi).2 (hsome j hj).2,sm.xs,λid hid=>sm.nx id (hsome id hid).2⟩,
  ⟨rfl,rfl,rfl,AF _,AF _,λ_ _=>rfl,rfl,λ_ _ _=>rfl,λb hb=>⟨hF b hb,rfl⟩⟩,λt x hr=>A9.mv mv _ _ hr⟩
 rw[ho]at hoo;split at hoo
 ·rename_i e;subst e;simp only[Ag]at hoo;subst hoo;have hok:=sm.ok id _ hY;simp only[BA]at hok⊢;refine⟨hok.1,?_⟩;rcases hok.2 with⟨k1,k2⟩|⟨b,c,e,fr,k1,k2,k3,k4,k5,k6⟩
  ·left;refine⟨k1,?_⟩;have:=hg.len;rw[k2]at this;exact List.eq_nil_of_length_eq_zero this.symm
  ·exact .inr ⟨b,c,e,fr,k1,k2,k3,by rw[← hg.len];exact k4,k5,EO.rep sm hX mv hB zY RY RY' b _ hg k6⟩
 ·split at hoo
  ·cases hoo
  ·exact BA.mv mv (λ_ _=>rfl) (sm.ok id o hoo)
theorem Og{P:Program}{ow:Nat->Bool}{wf:FuncId->Bool}{m:Nat}{c:Code}{Q:Au}{s:A8}{h:A0}{X Y z zY:Nat}{R RY:List (List PV)}(RY':List (List PV))(hc:IR c=true)(hX:h.obj X=some (.arr z R))(hY:h.obj Y=some (.arr zY RY))(hne:X≠Y)(hg:EO X z R RY RY')
  (hw:AX P ow wf m c Q s (HN h X Y zY RY')):AX P ow wf m c Q s h:=Qs hc (Wk.give hX hY hne hg) hw
def SG(h:A0)(ir io lo zr zo zl:Nat)(Z pre post:List PV)(R':List (List PV))(H:A0):Prop:=
 ∃ X Y z RX R,AL h H/\(h.next<=ir/\h.next<=io/\ir<lo/\io<lo/\lo<=H.next/\ir≠io)/\H.obj ir=some (.arr zr [Z])/\H.obj io=some (.arr zo [pre++ .own Y 0 R.length::post])/\
  H.obj Y=some (.arr zl R)/\H.obj X=some (.arr z RX)/\X≠Y/\lo<=X/\lo<=Y/\Y<H.next/\EO X z RX R R'
theorem SG.push{h H3:A0}{ir io lo zr zo zl X Y z m:Nat}{Z pre post r r':List PV}{RX R R':List (List PV)}(g:AL h H3)(ids:h.next<=ir/\h.next<=io/\ir<lo/\io<lo/\lo<=H3.next/\ir≠io)(o1:H3.obj ir=some (.arr zr [Z]))(oX:H3.obj X=some (.arr z RX))(hx:lo<=X)(hxn:X<H3.next)
  (hY:H3.next=Y)(hm:m=R.length+1)(hr:R'=R++[r'])(hg:EN X z RX r r'):SG h ir io lo zr zo zl Z pre post R' ((H3.new (.arr zl (R++[r]))).set io (.arr zo [pre++ .own Y 0 m::post])):=by
 subst hY;subst hr;obtain⟨i1,i2,i3,i4,i5,i6⟩:=ids;refine⟨X,H3.next,z,RX,R++[r],(g.new _).set i2 _,⟨i1,i2,i3,i4,show lo<=H3.next+1 by omega,i6⟩,?_,?_,?_,?_,by omega,hx,i5,show H3.next<H3.next+1 by omega,EO.snoc hg R⟩
 ·rw [Ar i6,Fk (by omega)];exact o1
 ·rw [DU,hm];simp
 ·rw [Ar (by omega)];simp only[A0.new,AC]
 ·rw [Ar (by omega),Fk hxn];exact oX
theorem Tl.old{h H:A0}{lo z:Nat}{p:PV}{R:List (List PV)}(t:Tl h lo z p R)(g:AL h H):Tl H lo z p R:=t.up g.le λj _ hj=>g.old j hj
theorem Gm.up{h H H':A0}{ir io lo zr zo zl:Nat}{Z pre post:List PV}{R:List (List PV)}(i:Gm h ir io lo zr zo zl Z pre post R H)(g:AL H H'):Gm h ir io lo zr zo zl Z pre post R H':=by
 obtain⟨g0,ids,o1,p,Hk,o2,tl,_⟩:=i;exact .mk2 (g0.trans g) ⟨ids.1,ids.2.1,ids.2.2.1,ids.2.2.2.1,ES ids.2.2.2.2.1 g.le,ids.2.2.2.2.2⟩ (by rw[g.old _ (by omega)];exact o1) (by rw[g.old _ (by omega)];exact o2) (tl.old g)
structure Ih(h:A0)(io lo zo zl:Nat)(pre post:List PV)(R:List (List PV))(H:A0):Prop where
 grow:AL h H
 ids:h.next<=io/\h.next<=lo/\io<H.next
 ex: ∃ p Hk,H.obj io=some (.arr zo [pre++p::post])/\Tl H lo zl p R/\Db H p=some (Hk,R)/\CP H zl p=true/\Hk.next=H.next/\Hk.obj io=H.obj io/\AL h Hk/\p.cells=[p]/\C8 p=true
theorem Ih.mk2{h H:A0}{io lo zo zl:Nat}{pre post:List PV}{R:List (List PV)}{p:PV}(g:AL h H)(ids:h.next<=io/\h.next<=lo/\io<H.next)(o2:H.obj io=some (.arr zo [pre++p::post]))(tl:Tl H lo zl p R)(sep: ∀ id,p= .own id 0 R.length->id≠io):
  Ih h io lo zo zl pre post R H:=by
 obtain⟨Hk,t1,t2,t3,t4,t5⟩:=tl.tail;have hk:=t5 h ⟨g.le,g.old⟩ ids.2.1;refine⟨g,ids,p,Hk,o2,tl,t1,t2,t3,?_,⟨hk.1,hk.2⟩,tl.cell.1,tl.cell.2⟩;rcases tl with⟨_,rfl|rfl⟩|⟨id,b1,b2,rfl,b3⟩
 ·simp only[Db,Ag,B3]at t1;rw[← t1.1]
 ·simp only[Db,Ag,B3]at t1;rw[← t1.1]
 ·have:=sep id rfl;simp only[Db,b3]at t1;split at t1
  ·simp only[Ag,B3]at t1;rw[← t1.1];exact Dv (by omega)
  ·cases t1
theorem Ih.tmp{h H:A0}{io lo zo zl:Nat}{pre post:List PV}{R:List (List PV)}(i:Ih h io lo zo zl pre post R H)(o o':Ae):Ih h io lo zo zl pre post R (GQ H o o'):=by
 obtain⟨g,ids,p,Hk,o2,tl,t1,t2,t3,t4,t5,t6,t7⟩:=i;refine .mk2 (p:=p) (g.tmp o o') ⟨ids.1,ids.2.1,by rw[Gl];omega⟩ (by rw[Hz ids.2.2];exact o2) (tl.tmp o o') ?_;rintro id rfl;rintro rfl;rcases tl with⟨_,h1|h1⟩|⟨id,b1,b2,h1,b3⟩
 ·cases h1
 ·cases h1
 ·simp only[PV.own.injEq]at h1;obtain⟨rfl,_⟩:=h1;simp only[Db,b3]at t1;split at t1
  ·simp only[Ag,B3]at t1;rw[← t1.1]at t4;simp only[A0.kill,AC]at t4;rw[o2]at t4;cases t4
  ·cases t1
theorem Ih.push{h H Hk:A0}{io lo zo zl m:Nat}{pre post:List PV}{R:List (List PV)}(X:List PV)(g:AL h Hk)(ids:h.next<=io/\h.next<=lo/\io<H.next)(hlo:lo<=H.next)(t3:Hk.next=H.next)(hm:m=R.length+1):
  Ih h io lo zo zl pre post (R++[X]) ((Hk.new (.arr zl (R++[X]))).set io (.arr zo [pre++ .own H.next 0 m::post])):=by
 refine Ih.mk2 (p:= .own H.next 0 m) ((g.new _).set ids.1 _) ⟨ids.1,ids.2.1,show io<Hk.next+1 by omega⟩ DU ?_ ?_
 ·rw [← t3];exact .inr ⟨Hk.next,by omega,Pv _,by rw[hm];simp,by rw[Ar (by omega)];simp only[A0.new,AC]⟩
 ·intro id he;simp only[PV.own.injEq]at he;omega
theorem SH{h H:A0}(g:AL h H):AL h (DI h.next H):=⟨g.le,λj hj=>by simp only[DI];rw[AH hj];exact g.old j hj⟩
end Go.AM
namespace Go.Proofs.YtblgchkahpgdjaaGreat
open Go.AM Go.Proofs.Tryz
theorem Zb{P:Program}{ow:Nat->Bool}{wf:FuncId->Bool}{n:Nat}{Q:Au}{s:A8}{h:A0}(id:Nat){ops:Array Oper}{d:Bool}{y:Code}(hh:OX (AX P ow wf n (.seq (.region id ops d) y) Q s h)):AX P ow wf n (.seq (.region id ops d) y) Q s h:=hh.out
theorem Zc{P:Program}{ow:Nat->Bool}{wf:FuncId->Bool}{n:Nat}{Q:Au}{s:A8}{h:A0}(id:Nat){ops:Array Oper}{d:Bool}(hh:OX (AX P ow wf n (.region id ops d) Q s h)):AX P ow wf n (.region id ops d) Q s h:=hh.out
end Go.Proofs.YtblgchkahpgdjaaGreat
namespace Go.AM
open Go.ChangeShapes Go.WideShapes
def Dw(P:Program)(t:TypeId):List (Nat × TypeId):=match P.underlying t with
 |some (.struct fs)=>fs.toList.map λf=>(f.offset,f.type)
 |some (.array n e)=>(List.range n).map λi=>(i*P.cellsOf e,e)
 |_=>[]
def I0(P:Program)(e:Nat):Nat->List (Nat × TypeId)->Bool
 |o,[]=>o==e
 |o,p::l=>p.1==o&&I0 P e (o+P.cellsOf p.2) l
def BM(P:Program):Nat->TypeId->List PV->Prop
 |0,_,_=>False
 |f+1,t,ps=>match P.underlying t with
  |some .bool=> ∃ b,ps=[.sc (.bool b)]
  |some (.int k)=> ∃ n,(Lit.int k n).wf=true/\ps=[.sc (.int k n)]
  |some .string=> ∃ s:ByteArray,s.size<=reachBytes/\ps=[.sc (.string s)]
  |some (.slice e)=> ∃ rows,ps=[.imm (P.cellsOf e) rows]/\rows.length*P.bytesOf e<=reachBytes/\rows.length<=maxLen/\ ∀ r∈rows,r.length=P.cellsOf e/\BM P f e r
  |some (.struct _)=>ps.length=P.cellsOf t/\ ∀ p∈Dw P t,BM P f p.2 ((ps.drop p.1).take (P.cellsOf p.2))
  |some (.array _ _)=>ps.length=P.cellsOf t/\ ∀ p∈Dw P t,BM P f p.2 ((ps.drop p.1).take (P.cellsOf p.2))
  |_=>False
section
variable {H:Type}{enc:TypeId × Value->H}{P:Program}{w:World}{sp:Nat->Bool}{held:Bool}
def RA(w:World)(ps:List PV)(cs:List Value):Prop:=(∀ v∈cs,v.oneCell'=true)/\ ∀ β n,AR β n (λb=>b<w.heap.size) w ps cs
theorem RA.len{ps:List PV}{cs:List Value}(h:RA w ps cs):ps.length=cs.length:=(h.2 ⟨λ_=>⟨none,0,0,0⟩,λ_=>False⟩ 0).len
theorem RA.append{ps ps':List PV}{cs cs':List Value}(h:RA w ps cs)(k:RA w ps' cs'):RA w (ps++ps') (cs++cs'):=
 ⟨λv hv=>by exact(List.mem_append.1 hv).elim (h.1 v) (k.1 v),λβ n=>(h.2 β n).append (k.2 β n)⟩
theorem Oh{e:Nat}:(l:List (Nat × TypeId))->(o:Nat)->I0 P e o l=true->o<=e/\ ∀ p∈l,o<=p.1/\p.1+P.cellsOf p.2<=e
 |[],o,h=>by simp[I0]at h;simp[h]
 |p::l,o,h=>by
  simp only[I0,AT,DZ]at h;obtain⟨h1,h2⟩:=Oh l _ h.2;refine⟨by omega,λq hq=>?_⟩;rcases List.mem_cons.1 hq with rfl|hq
  ·omega
  ·have:=h2 q hq;omega
theorem SI{α:Type}{R:Nat->α->Prop}:(n:Nat)->(∀ i,i<n-> ∃ x,R i x)-> ∃ l:List α,l.length=n/\ ∀ i x,l[i]? =some x->R i x
 |0,_=>⟨[],rfl,by simp⟩
 |n+1,h=>by
  obtain⟨l,h1,h2⟩:=SI n (λi hi=>h i (by omega));obtain⟨x,hx⟩:=h n (by omega);refine⟨l++[x],by simp[h1],λi y hy=>?_⟩;rw[List.getElem?_append]at hy;split at hy
  ·exact h2 i y hy
  ·rename_i hi;have:i=n:=by
    have:=(List.getElem?_eq_some_iff.1 hy).1;simp at this;omega
   subst this;rw[h1]at hy;simp at hy;subst hy;exact hx
theorem Oi{e:TypeId}{n:Nat}:{ds:List (DataW H)}->{i:Nat}->{d:DataW H}->ds[i]? =some d->n∈d.weights P e->n∈DataW.weightsAll P e ds
 |[],_,_,h,_=>by simp at h
 |d0::ds,0,d,h,hn=>by
  simp at h;subst h;simp only[DataW.weightsAll,List.mem_append];exact .inl hn
 |d0::ds,i+1,d,h,hn=>by
  simp at h;simp only[DataW.weightsAll,List.mem_append];exact .inr (Oi h hn)
theorem Oj{v:Value}(h:v.oneCell'=true):RA w [.sc v] [v]:=
 ⟨λu hu=>by simp at hu;subst hu;exact h,λβ n=>by simp only[AR,A9];exact⟨trivial,trivial⟩⟩
end
end Go.AM
namespace Go.AM
open Go.ChangeShapes Go.WideShapes
section
variable {H:Type}{enc:TypeId × Value->H}{P:Program}{w:World}{sp:Nat->Bool}{held:Bool}
def SJ(P:Program)(Ts:List TypeId):Bool:=Ts.all λt=>match P.underlying t with
 |some .bool=>true
 |some (.int _)=>true
 |some .string=>true
 |some (.slice e)=>decide (0<P.cellsOf e)&&Ts.contains e
 |some (.struct _)=>I0 P (P.cellsOf t) 0 (Dw P t)&&(Dw P t).all λp=>Ts.contains p.2
 |some (.array _ _)=>I0 P (P.cellsOf t) 0 (Dw P t)&&(Dw P t).all λp=>Ts.contains p.2
 |_=>false
end
end Go.AM
namespace Go.AM
open Go.ChangeShapes Go.WideShapes
section
variable {P:Program}{c:Nat}{t e:TypeId}{ps:List PV}{a:PV}
theorem Zd{k:IntKind}(hu:P.underlying t=some (.int k))(h:BM P (c+1) t ps): ∃ n,(Lit.int k n).wf=true/\ps=[.sc (.int k n)]:=by
 unfold BM at h;rw[hu]at h;exact h
theorem HO(hu:P.underlying t=some (.slice e))(h:BM P (c+1) t ps): ∃ rows,ps=[.imm (P.cellsOf e) rows]/\rows.length*P.bytesOf e<=reachBytes/\rows.length<=maxLen/\ ∀ r∈rows,r.length=P.cellsOf e/\BM P c e r:=by
 unfold BM at h;rw[hu]at h;exact h
theorem I1{fs:Array Field}(hu:P.underlying t=some (.struct fs))(h:BM P (c+1) t ps):ps.length=P.cellsOf t/\ ∀ p∈Dw P t,BM P c p.2 ((ps.drop p.1).take (P.cellsOf p.2)):=by
 unfold BM at h;rw[hu]at h;exact h
theorem Gn{α:Type}{Q:α->Prop}{f:α->List PV}:(rows:List (List PV))->(∀ r∈rows, ∃ x,Q x/\r=f x)-> ∃ xs:List α,rows=xs.map f/\ ∀ x∈xs,Q x
 |[],_=>⟨[],rfl,by simp⟩
 |r::rows,h=>by
  obtain⟨xs,h1,h2⟩:=Gn rows (λq hq=>h q (by simp[hq]));obtain⟨x,h3,h4⟩:=h r (by simp);refine⟨x::xs,by simp[h1,h4],λy hy=>?_⟩;rcases List.mem_cons.1 hy with rfl|hy
  ·exact h3
  ·exact h2 y hy
theorem Ze{n:Int}(h:(Lit.int .i64 n).wf=true): -9223372036854775808<=n/\n<=9223372036854775807:=by
 simp[Lit.wf,IntKind.min,IntKind.max,IntKind.bits,IntKind.signed]at h;omega
end
end Go.AM
namespace Go.Proofs.YtblgchkahpgdjaaGreat
open Go.AM Go.Proofs.Tryz
set_option maxHeartbeats 1000000
set_option maxRecDepth 20000
def Zf:List TypeId:=[67,75,123,9,3,64,22,65,63]
theorem Zg:Dw prog 75=[(0,9),(1,9),(2,3),(3,64),(4,65)]:=by kernel_rfl
theorem Zh:Dw prog 67=[(0,9),(1,9),(2,64),(3,22),(4,65),(5,63)]:=by kernel_rfl
theorem Zi:Dw prog 123=[(0,9),(1,9)]:=by kernel_rfl
theorem HP:Tryz.prog.cellsOf 9=1:=by kernel_rfl
theorem LO:Tryz.prog.cellsOf 3=1:=by kernel_rfl
theorem Ok:Tryz.prog.cellsOf 64=1:=by kernel_rfl
theorem JX:Tryz.prog.cellsOf 22=1:=by kernel_rfl
theorem SK:Tryz.prog.cellsOf 65=1:=by kernel_rfl
theorem Zj:Tryz.prog.cellsOf 63=1:=by kernel_rfl
theorem N3:Tryz.prog.cellsOf 75=5:=by kernel_rfl
theorem LP:Tryz.prog.cellsOf 67=6:=by kernel_rfl
theorem SL:Tryz.prog.cellsOf 123=2:=by kernel_rfl
theorem Zk:0<Tryz.prog.bytesOf 9:=by rw[show Tryz.prog.bytesOf 9=16 by kernel_rfl];omega
theorem Zl:0<Tryz.prog.bytesOf 123:=by rw[show Tryz.prog.bytesOf 123=32 by kernel_rfl];omega
theorem SM:0<Tryz.prog.bytesOf 75:=by rw[show Tryz.prog.bytesOf 75=88 by kernel_rfl];omega
theorem Zm:0<Tryz.prog.bytesOf 67:=by rw[show Tryz.prog.bytesOf 67=128 by kernel_rfl];omega
theorem HQ{n b:Nat}(h:n*b<=reachBytes)(hb:0<b):n<=AE:=by
 have:=dX n hb;unfold reachBytes at h;unfold AE;omega
theorem Fl{c:Nat}{ps:List PV}(h:BM prog c 9 ps): ∃ s:ByteArray,s.size<=AE/\ps=[A1 s]:=by
 cases c with
 |zero=>simp[BM]at h
 |succ c=>
  unfold BM at h;rw[Tryz.underlying9]at h;obtain⟨s,h1,h2⟩:=h;exact⟨s,by unfold reachBytes at h1;unfold AE;omega,h2⟩
theorem KH{c:Nat}{ps:List PV}(h:BM prog c 3 ps): ∃ n:Int,(-9223372036854775808<=n/\n<=9223372036854775807)/\ps=[.sc (.int .i64 n)]:=by
 cases c with
 |zero=>simp[BM]at h
 |succ c=>
  obtain⟨n,h1,h2⟩:=Zd Tryz.underlying3 h;exact⟨n,Ze h1,h2⟩
theorem Ol{c:Nat}{ps:List PV}(h:BM prog c 64 ps): ∃ l:List ByteArray,(l.length<=AE/\ ∀ a∈l,a.size<=AE)/\ps=[.imm 1 (AP l)]:=by
 cases c with
 |zero=>simp[BM]at h
 |succ c=>
  obtain⟨rows,rfl,h1,_,h2⟩:=HO Tryz.underlying64 h;obtain⟨xs,rfl,h3⟩:=Gn (Q:=λs:ByteArray=>s.size<=AE) (f:=λs=>[A1 s]) rows (λr hr=>Fl (h2 r hr).2);refine⟨xs,⟨HQ (by simpa using h1) Zk,h3⟩,?_⟩;rw[HP];try rfl
theorem Zn{c:Nat}{ps:List PV}(h:BM prog c 123 ps): ∃ p:Pm,p.ok/\ps=JL p:=by
 cases c with
 |zero=>simp[BM]at h
 |succ c=>
  obtain⟨h1,h2⟩:=I1 Tryz.underlying123 h;rw[SL]at h1;rw[Zi]at h2
  match ps,h1,h2 with
  |[p0,p1],_,h2=>
   have a0:=h2 (0,9) (by simp);have a1:=h2 (1,9) (by simp);simp only[HP,List.drop_zero,List.drop_succ_cons,List.take_succ_cons,List.take_zero]at a0 a1;obtain⟨s,hs,e1⟩:=Fl a0;obtain⟨t,ht,e2⟩:=Fl a1;simp at e1 e2;exact⟨⟨s,t⟩,⟨hs,ht⟩,by simp[JL,e1,e2]⟩
theorem Ii{c:Nat}{ps:List PV}(h:BM prog c 22 ps): ∃ l:List Pm,(l.length<=AE/\ ∀ a∈l,a.ok)/\ps=[.imm 2 (A7 l)]:=by
 cases c with
 |zero=>simp[BM]at h
 |succ c=>
  obtain⟨rows,rfl,h1,_,h2⟩:=HO Tryz.underlying22 h;obtain⟨xs,rfl,h3⟩:=Gn (Q:=Pm.ok) (f:=JL) rows (λr hr=>Zn (h2 r hr).2);refine⟨xs,⟨HQ (by simpa using h1) Zl,h3⟩,?_⟩;rw[SL];try rfl
theorem SN: ∀ (c:Nat){ps:List PV},BM prog c 75 ps-> ∃ e:Ex,e.ok/\ps=e.cells:=by
 intro c
 induction c using Nat.strongRecOn with
 |_ c ih=>
  intro ps h;cases c with
  |zero=>simp[BM]at h
  |succ c=>
   obtain⟨h1,h2⟩:=I1 Tryz.underlying75 h;rw[N3]at h1;rw[Zg]at h2
   match ps,h1,h2 with
   |[p0,p1,p2,p3,p4],_,h2=>
    have a0:=h2 (0,9) (by simp);have a1:=h2 (1,9) (by simp);have a2:=h2 (2,3) (by simp);have a3:=h2 (3,64) (by simp);have a4:=h2 (4,65) (by simp);simp only[HP,LO,Ok,SK,List.drop_zero,List.drop_succ_cons,List.take_succ_cons,List.take_zero]at a0 a1 a2 a3 a4;obtain⟨op,hop,e0⟩:=Fl a0;obtain⟨name,hname,e1⟩:=Fl a1;obtain⟨n,hn,e2⟩:=KH a2;obtain⟨args,hargs,e3⟩:=Ol a3;cases c with
    |zero=>simp[BM]at a4
    |succ c=>
     obtain⟨rows,e4,h3,_,h4⟩:=HO Tryz.underlying65 a4;obtain⟨xs,rfl,h5⟩:=Gn (Q:=Ex.ok) (f:=Ex.cells) rows (λr hr=>ih c (by omega) (h4 r hr).2);rw[N3]at e4;simp at e0 e1 e2 e3 e4;refine⟨.mk op name n args xs,?_,?_⟩
     ·simp only[Ex.ok];exact⟨hop,hname,hn,hargs,HQ (by simpa using h3) SM,Ex.oks_iff.2 h5⟩
     ·simp only[Ex.cells,e0,e1,e2,e3,e4,Ex.rows_map]
theorem Zo{c:Nat}{ps:List PV}(h:BM prog c 65 ps): ∃ l:List Ex,(l.length<=AE/\Ex.oks l)/\ps=[.imm 5 (Ex.rows l)]:=by
 cases c with
 |zero=>simp[BM]at h
 |succ c=>
  obtain⟨rows,rfl,h1,_,h2⟩:=HO Tryz.underlying65 h;obtain⟨xs,rfl,h3⟩:=Gn (Q:=Ex.ok) (f:=Ex.cells) rows (λr hr=>SN c (h2 r hr).2);refine⟨xs,⟨HQ (by simpa using h1) SM,Ex.oks_iff.2 h3⟩,?_⟩;rw[N3,Ex.rows_map]
theorem LQ: ∀ (c:Nat){ps:List PV},BM prog c 67 ps-> ∃ f:Fm,f.ok/\ps=f.cells:=by
 intro c
 induction c using Nat.strongRecOn with
 |_ c ih=>
  intro ps h;cases c with
  |zero=>simp[BM]at h
  |succ c=>
   obtain⟨h1,h2⟩:=I1 Tryz.underlying67 h;rw[LP]at h1;rw[Zh]at h2
   match ps,h1,h2 with
   |[p0,p1,p2,p3,p4,p5],_,h2=>
    have a0:=h2 (0,9) (by simp);have a1:=h2 (1,9) (by simp);have a2:=h2 (2,64) (by simp);have a3:=h2 (3,22) (by simp);have a4:=h2 (4,65) (by simp);have a5:=h2 (5,63) (by simp);simp only[HP,Ok,JX,SK,Zj,List.drop_zero,List.drop_succ_cons,List.take_succ_cons,List.take_zero]at a0 a1 a2 a3 a4 a5;obtain⟨op,hop,e0⟩:=Fl a0;obtain⟨name,hname,e1⟩:=Fl a1;obtain⟨args,hargs,e2⟩:=Ol a2;obtain⟨params,hparams,e3⟩:=Ii a3;obtain⟨exprs,hexprs,e4⟩:=Zo a4;cases c with
    |zero=>simp[BM]at a5
    |succ c=>
     obtain⟨rows,e5,h3,_,h4⟩:=HO Tryz.underlying63 a5;obtain⟨xs,rfl,h5⟩:=Gn (Q:=Fm.ok) (f:=Fm.cells) rows (λr hr=>ih c (by omega) (h4 r hr).2);rw[LP]at e5;simp at e0 e1 e2 e3 e4 e5;refine⟨.mk op name args params exprs xs,?_,?_⟩
     ·simp only[Fm.ok];exact⟨hop,hname,hargs,hparams,hexprs,HQ (by simpa using h3) Zm,Fm.oks_iff.2 h5⟩
     ·simp only[Fm.cells,e0,e1,e2,e3,e4,e5,Fm.rows_map]
end Go.Proofs.YtblgchkahpgdjaaGreat
namespace Go.Proofs.YtblgchkahpgdjaaGreat
open Go.AM Go.Proofs.Tryz
set_option maxHeartbeats 2000000
set_option maxRecDepth 20000
theorem SO: ∀ (e:Ex),e.ok-> ∀ h:A0,AA prog 50 [.agg e.cells] h λr h'=>r= .sc (.int .i64 e.size)/\h'=h:=by
 refine Ex.ind ?_;intro op name n args kids ih hok h;simp only[Ex.ok]at hok;obtain⟨_,_,_,_,hk,hks⟩:=hok;rw[Ex.oks_iff]at hks;have hlen:=Ex.rows_len kids;simp only[Ex.cells,Ex.size];refine AN func50 ntmps50 results50 Ty.YG ?_;refine wt hlen ?_;refine BV (λm S h'=>h'=h/\S 1= .cptr (Ex.mk op name n args kids).cells/\ ∃ k:Nat,S 4= .sc (.int .i64 k)/\k<=kids.length/\m=kids.length-k/\S 3= .sc (.int .i64 (Ex.sizes 1 (kids.take k)))) kids.length ?_ ?_
 ·simp only[Ty.w,simprocAttr];exact⟨rfl,0,rfl,by omega,rfl,by simp[Ex.sizes]⟩
 ·rintro m S h' ⟨rfl,g1,k,g4,hkl,rfl,g3⟩;simp only[Ex.cells]at g1;by_cases hlt:k<kids.length
  ·have hd:decide ((k:Int)<(kids.length:Int))=true:=(by simp;omega);have w7:IntKind.i64.wrap ((k:Int)+1)=k+1:=(by unfold AE at hk;rw[B9 (by omega) (by omega)]);obtain⟨e,hx⟩: ∃ e,kids[k]? =some e:=⟨_,List.getElem?_eq_getElem hlt⟩;have hmem:=List.mem_of_getElem? hx;have hc:=ih e hmem (hks e hmem);have hsz:=Ex.sizes_take 1 hx;have hr:=Ex.rows_get hx;obtain⟨op2,name2,n2,args2,kids2⟩:=e;simp only[Ex.cells]at hr hc;replace zz:=AY g1 g3 g4 hlen hd hr w7;refine wt zz ?_;replace zz:=AK g1 g3 g4 hlen hd hr;refine uU zz (hc _) ?_;replace zz:=AS g1 g3 g4 w7;refine wt zz ?_;exact⟨kids.length-(k+1),by omega,rfl,k+1,by simp,by omega,rfl,by rw[hsz]⟩
  ·have hd:decide ((k:Int)<(kids.length:Int))=false:=(by simp;omega);have hke:k=kids.length:=(by omega);subst hke;rw[List.take_length]at g3;replace zz:=AV g1 g3 g4 hlen hd;exact wz zz
theorem LR: ∀ (f:Fm),f.ok-> ∀ h:A0,AA prog 31 [.agg f.cells] h λr h'=>r= .sc (.int .i64 f.size)/\h'=h:=by
 refine Fm.ind ?_;intro op name args params exprs kids ih hok h;simp only[Fm.ok]at hok;obtain⟨_,_,_,_,⟨he,hes⟩,hk,hks⟩:=hok;rw[Ex.oks_iff]at hes;rw[Fm.oks_iff]at hks;have hlen:=Fm.rows_len kids;have hlene:=Ex.rows_len exprs;simp only[Fm.cells,Fm.size];refine AN func31 ntmps31 results31 Ty.YF ?_;refine wt hlen ?_;refine BV (λm S h'=>h'=h/\S 1= .cptr (Fm.mk op name args params exprs kids).cells/\ ∃ k:Nat,S 4= .sc (.int .i64 k)/\k<=exprs.length/\m=exprs.length-k/\S 3= .sc (.int .i64 (Ex.sizes 1 (exprs.take k)))) exprs.length ?_ ?_
 ·simp only[Ty.w,simprocAttr];exact⟨rfl,0,rfl,by omega,rfl,by simp[Ex.sizes]⟩
 ·rintro m S h' ⟨rfl,g1,k,g4,hkl,rfl,g3⟩;simp only[Fm.cells]at g1;by_cases hlt:k<exprs.length
  ·have hd:decide ((k:Int)<(exprs.length:Int))=true:=(by simp;omega);have w7:IntKind.i64.wrap ((k:Int)+1)=k+1:=(by unfold AE at he;rw[B9 (by omega) (by omega)]);obtain⟨e,hx⟩: ∃ e,exprs[k]? =some e:=⟨_,List.getElem?_eq_getElem hlt⟩;have hmem:=List.mem_of_getElem? hx;have hc:=SO e (hes e hmem);have hsz:=Ex.sizes_take 1 hx;have hr:=Ex.rows_get hx;obtain⟨op2,name2,n2,args2,kids2⟩:=e;simp only[Ex.cells]at hr hc;replace zz:=AY g1 g3 g4 hlene hd hr w7;refine wt zz ?_;replace zz:=AK g1 g3 g4 hlene hd hr;refine uU zz (hc _) ?_;replace zz:=AS g1 g3 g4 w7;refine wt zz ?_;exact⟨exprs.length-(k+1),by omega,by simp only[Fm.cells],k+1,by simp,by omega,rfl,by rw[hsz]⟩
  ·have hd:decide ((k:Int)<(exprs.length:Int))=false:=(by simp;omega);have hke:k=exprs.length:=(by omega);subst hke;rw[List.take_length]at g3;replace zz:=AV g1 g3 g4 hlene hd;refine wt zz ?_;refine BV (λm S h2=>h2=h'/\S 1= .cptr (Fm.mk op name args params exprs kids).cells/\ ∃ k:Nat,S 5= .sc (.int .i64 k)/\k<=kids.length/\m=kids.length-k/\S 3= .sc (.int .i64 (Fm.sizes (Ex.sizes 1 exprs) (kids.take k)))) kids.length ?_ ?_
   ·simp only[Ty.w,simprocAttr,g1,g3];exact⟨by simp only[Fm.cells],0,rfl,by omega,rfl,by simp[Fm.sizes]⟩
   ·clear g1 g3 g4;rintro m S h' ⟨rfl,g1,k,g5,hkl,rfl,g3⟩;simp only[Fm.cells]at g1;by_cases hlt:k<kids.length
    ·have hd:decide ((k:Int)<(kids.length:Int))=true:=(by simp;omega);have w7:IntKind.i64.wrap ((k:Int)+1)=k+1:=(by unfold AE at hk;rw[B9 (by omega) (by omega)]);obtain⟨e,hx⟩: ∃ e,kids[k]? =some e:=⟨_,List.getElem?_eq_getElem hlt⟩;have hmem:=List.mem_of_getElem? hx;have hc:=ih e hmem (hks e hmem);have hsz:=Fm.sizes_take (Ex.sizes 1 exprs) hx;have hr:=Fm.rows_get hx;obtain⟨op2,name2,args2,params2,S7,kids2⟩:=e;simp only[Fm.cells]at hr hc;replace zz:=AY g1 g3 g5 hlen hd hr w7;refine wt zz ?_;replace zz:=AK g1 g3 g5 hlen hd hr;refine uU zz (hc _) ?_;replace zz:=AS g1 g3 g5 w7;refine wt zz ?_;exact⟨kids.length-(k+1),by omega,by simp only[Fm.cells],k+1,by simp,by omega,rfl,by rw[hsz]⟩
    ·have hd:decide ((k:Int)<(kids.length:Int))=false:=(by simp;omega);have hke:k=kids.length:=(by omega);subst hke;rw[List.take_length]at g3;replace zz:=AV g1 g3 g5 hlen hd;exact wz zz
end Go.Proofs.YtblgchkahpgdjaaGreat
namespace Go.Proofs.YtblgchkahpgdjaaGreat
open Go.AM Go.Proofs.Tryz
set_option maxHeartbeats 2000000
set_option maxRecDepth 20000
theorem Om(a:ByteArray):A3 a a=true:=by simp[A3]
end Go.Proofs.YtblgchkahpgdjaaGreat
namespace Go.AM
def Ch.same(a b:Ch):Bool:=(a.kind==b.kind)&&(E5 a.params b.params&&(a.cond.same b.cond&&(A3 a.name b.name&&(DR a.args b.args&&a.value.same b.value))))
def Pr.same(a b:Pr):Bool:=A3 a.name b.name&&E5 a.params b.params
def Fu.same(a b:Fu):Bool:=A3 a.name b.name&&(E5 a.params b.params&&((a.lo==b.lo)&&(a.hi==b.hi)))
def N4:List Ch->List Ch->Bool
 |[],[]=>true
 |a::l,b::m=>a.same b&&N4 l m
 |_,_=>false
def SP:List Pr->List Pr->Bool
 |[],[]=>true
 |a::l,b::m=>a.same b&&SP l m
 |_,_=>false
def SQ:List Fu->List Fu->Bool
 |[],[]=>true
 |a::l,b::m=>a.same b&&SQ l m
 |_,_=>false
def Ac.same(a b:Ac):Bool:=A3 a.name b.name&&(E5 a.params b.params&&((a.cost==b.cost)&&(a.pre.same b.pre&&N4 a.changes b.changes)))
def Du.same(a b:Du):Bool:=A3 a.name b.name&&(E5 a.params b.params&&((a.duration==b.duration)&&(a.start.same b.start&&(a.over.same b.over&&(a.stop.same b.stop&&(N4 a.atStart b.atStart&&N4 a.atStop b.atStop))))))
def SR:List Ac->List Ac->Bool
 |[],[]=>true
 |a::l,b::m=>a.same b&&SR l m
 |_,_=>false
def SS:List Du->List Du->Bool
 |[],[]=>true
 |a::l,b::m=>a.same b&&SS l m
 |_,_=>false
def Dm.same(a b:Dm):Bool:=A3 a.name b.name&&(E5 a.types b.types&&(E5 a.constants b.constants&&(SP a.predicates b.predicates&&(SQ a.functions b.functions&&(SR a.actions b.actions&&SS a.duratives b.duratives)))))
end Go.AM
namespace Go.Proofs.YtblgchkahpgdjaaGreat
open Go.AM Go.Proofs.Tryz
end Go.Proofs.YtblgchkahpgdjaaGreat
namespace Go.AM
def SU(q p:PV):Prop:=q=p\/(q= .sc (.slice none 0 0)/\ ∃ z,p= .imm z [])
def Fo:List PV->List PV->Prop
 |[],[]=>True
 |q::qs,p::ps=>SU q p/\Fo qs ps
 |_,_=>False
theorem A9.nil1{β:B8}{n:Nat}{F:Nat->Prop}{w:World}{q p:PV}{x:Value}(hq:SU q p)(h:A9 β n F w q x):A9 β n F w p x:=by
 rcases hq with rfl|⟨rfl,z,rfl⟩
 ·exact h
 ·simp only[A9]at h⊢;exact⟨none,0,h,AF _,BX _,.inl (by trivial)⟩
theorem AR.nilL{β:B8}{n:Nat}{F:Nat->Prop}{w:World}: ∀ {qs ps:List PV}{xs:List Value},Fo qs ps->AR β n F w qs xs->AR β n F w ps xs
 |[],[],[],_,_=>by simp only[AR]
 |[],[],_::_,_,h=>by simp[AR]at h
 |q::qs,p::ps,[],_,h=>by simp[AR]at h
 |q::qs,p::ps,x::xs,hq,h=>by
  simp only[Go.AM.Fo]at hq;simp only[AR]at h⊢;exact⟨A9.nil1 hq.1 h.1,AR.nilL hq.2 h.2⟩
 |[],_::_,_,hq,_=>by simp[Go.AM.Fo]at hq
 |_::_,[],_,hq,_=>by simp[Go.AM.Fo]at hq
theorem AA.nil2{P:Program}{f:FuncId}{a a' b b':List PV}{h:A0}{K:PV->A0->Prop}(ha:Fo a' a)(hb:Fo b' b)(hc:AA P f [.agg a,.agg b] h K):AA P f [.agg a',.agg b'] h K:=by
 intro β w vals sm hr;refine hc β w vals sm ?_
 match vals,hr with
 |[x,y],hr=>
  simp only[AR,A9]at hr⊢;obtain⟨⟨xs,h1,h2,h3⟩,⟨ys,k1,k2,k3⟩,_⟩:=hr;exact⟨⟨xs,h1,h2,AR.nilL ha h3⟩,⟨ys,k1,k2,AR.nilL hb k3⟩,trivial⟩
end Go.AM
namespace Go.Proofs.YtblgchkahpgdjaaGreat
open Go.AM Go.Proofs.Tryz
set_option maxHeartbeats 4000000
set_option maxRecDepth 20000
theorem Zp{a b:Ex}(ha:a.ok)(hb:b.ok)(h:A0):AA prog 145 [.agg a.cells,.agg b.cells] h λr h'=>r= .sc (.bool (a.same b))/\h'=h:=by
 have ok1: ∀ e:Ex,e.ok->(Fm.mk ⟨#[]⟩ ⟨#[]⟩ [] [] [e] []).ok:=λe he=>by
  simp only[Fm.ok,Fm.oks,Ex.oks,List.length_nil,List.length_cons];exact⟨by simp[AE,ByteArray.size],by simp[AE,ByteArray.size],⟨by simp,by simp⟩,⟨by simp,by simp⟩,⟨by simp[AE],he,trivial⟩,by simp,trivial⟩
 have hc:=λh:A0=>KF _ (ok1 a ha) _ (ok1 b hb) h;have hs:(Fm.mk ⟨#[]⟩ ⟨#[]⟩ [] [] [a] []).same (.mk ⟨#[]⟩ ⟨#[]⟩ [] [] [b] [])=a.same b:=by simp[Fm.same,Fm.sames,Ex.sames,A3,DR,E5]
 rw[hs]at hc;generalize a.same b=e at hc⊢;have hc2:=λh:A0=>AA.nil2 (a':=[.sc (.string ⟨#[]⟩),.sc (.string ⟨#[]⟩),.sc (.slice none 0 0),.sc (.slice none 0 0),.imm 5 [a.cells],.sc (.slice none 0 0)]) (b':=[.sc (.string ⟨#[]⟩),.sc (.string ⟨#[]⟩),.sc (.slice none 0 0),.sc (.slice none 0 0),.imm 5 [b.cells],.sc (.slice none 0 0)]) (by
  simp only[Fm.cells,Ex.rows,Fm.rows,AP,A7,List.map_nil,Fo];exact⟨.inl rfl,.inl rfl,.inr ⟨rfl,_,rfl⟩,.inr ⟨rfl,_,rfl⟩,.inl rfl,.inr ⟨rfl,_,rfl⟩,trivial⟩) (by
  simp only[Fm.cells,Ex.rows,Fm.rows,AP,A7,List.map_nil,Fo];exact⟨.inl rfl,.inl rfl,.inr ⟨rfl,_,rfl⟩,.inr ⟨rfl,_,rfl⟩,.inl rfl,.inr ⟨rfl,_,rfl⟩,trivial⟩) (hc h)
 clear ok1 ha hb hc hs;obtain⟨op,name,n,args,kids⟩:=a;obtain⟨op2,name2,n2,args2,kids2⟩:=b;simp only[Ex.cells]at hc2⊢;refine AN func145 ntmps145 results145 Ty.YX ?_;refine wt A2 ?_;refine uU A2 (hc2 _) ?_;exact wz A2
end Go.Proofs.YtblgchkahpgdjaaGreat
namespace Go.Proofs.YtblgchkahpgdjaaGreat
open Go.AM Go.Proofs.Tryz
set_option maxHeartbeats 4000000
set_option maxRecDepth 20000
def S7:List Sx->List Ex × Int
 |[a,b]=>(match N0 a with
  | (ea, ca) => bif ca == 0 then (match N0 b with
   |(eb,cb)=>bif cb==0 then([ea,eb],0)else([],cb))else([],ca))
 |_=>([],2)
end Go.Proofs.YtblgchkahpgdjaaGreat
namespace Go.Proofs.YtblgchkahpgdjaaGreat
open Go.AM Go.Proofs.Tryz
set_option maxHeartbeats 4000000
set_option maxRecDepth 20000
theorem Ed(n:Nat)(l:List Pm):BG n (A7 l):=by
 induction l with
 |nil=>simp only[A7,List.map_nil,BG]
 |cons a l ih=>simp only[A7,List.map_cons,BG,JL,BZ,BD,FK,He]at ih⊢;exact ih
theorem GR(n:Nat): ∀ l:List Ex,BG n (Ex.rows l)
 |[]=>by simp only[Ex.rows,BG]
 |k::ks=>by simp only[Ex.rows,BG];exact⟨ZG n k,GR n ks⟩
theorem Zq(n:Nat): ∀ f:Fm,BZ n f.cells:=by
 refine Fm.ind ?_;intro op name args params exprs kids ih;have:BG n (Fm.rows kids):=by
  clear op name args params exprs
  induction kids with
  |nil=>simp only[Fm.rows,BG]
  |cons k ks ih2=>
   simp only[Fm.rows,BG];exact⟨ih k (by simp),ih2 λq hq=>ih q (by simp[hq])⟩
 simp only[Fm.cells,BZ,BD,FK,He];exact⟨GP n args,Ed n params,GR n exprs,this⟩
theorem HR(n:Nat): ∀ l:List Fm,BG n (Fm.rows l)
 |[]=>by simp only[Fm.rows,BG]
 |k::ks=>by simp only[Fm.rows,BG];exact⟨Zq n k,HR n ks⟩
end Go.Proofs.YtblgchkahpgdjaaGreat
namespace Go.Proofs.YtblgchkahpgdjaaGreat
open Go.AM Go.Proofs.Tryz
set_option maxHeartbeats 4000000
set_option maxRecDepth 20000
theorem Zr{x:Sx}(hok:x.ok)(hn:x.nodes<=AE)(hd:x.depth<=AE)(h:A0):AA prog 34 [.agg x.cells] h λr h'=>r= .sc (.bool (Ci x 0 0).1)/\h'=h:=by
 rw[JU hn];exact ZR hok hd h
end Go.Proofs.YtblgchkahpgdjaaGreat
namespace Go.AM
section
variable {P:Program}{ow:Nat->Bool}{wf:FuncId->Bool}{n:Nat}
def Fp(ow:Nat->Bool)(wf:FuncId->Bool)(ops:List Oper)(i:Nat):Bool:=(ops[i]?).any (Ax ow wf)
def I2(ow:Nat->Bool)(ops:List Oper)(i:Nat):Bool:=(ops[i]?).any (BY ow)
def On(ow:Nat->Bool)(wf:FuncId->Bool)(ops:List Oper)(c:Nat):Bool:=
 J8 ops&&decide (c<=ops.length)&&((List.range c).all λi=>(List.range ops.length).all λf=>
  (!(decide (i<f)&&decide (f<c))||((!(Fp ow wf ops i&&Fp ow wf ops f)||pre ops i f)&&!(Fp ow wf ops i&&I2 ow ops f)))&&
  (!(decide (c<=f)&&Fp ow wf ops f)||(pre ops i f&&!(pre ops f i))))&&
 ((List.range ops.length).all λf=>!(decide (c<=f))||!(I2 ow ops f))
def Zs(P:Program)(ow:Nat->Bool)(wf:FuncId->Bool)(n:Nat)(ops:List Oper)(lo hi j:Nat)(o:Oper)(sk:Nat->A8)(hk:Nat->A0)(vk:Nat->PV)(br:Nat->Bool):Prop:=
 o.dst.all (λd=>decide (d<n))=true/\ ∃ b,Bt ops (sk j) o=some b/\
  (b=false->sk (j+1)=AW (sk j) o.dst (.sc undef)/\hk (j+1)=hk j/\br j=false)/\
  (b = true -> sk (j + 1) = AW (sk j) o.dst (vk j) /\
   (Ax ow wf o = false -> hk (j + 1) = hk j /\ br j = false /\ Ad P ow o (A6 (sk j)) (hk j) (vk j) (hk j) /\
    (∀ i,lo<=i->i<j->br i=true->pre ops i j=true\/Ad P ow o (A6 (sk j)) (hk i) (vk j) (hk i))/\
    (∀ i,j<i->i<hi->br i=true->pre ops j i=true\/Ad P ow o (A6 (sk j)) (hk (i+1)) (vk j) (hk (i+1))))/\
   (Ax ow wf o=true->br j=true/\Ad P ow o (A6 (sk j)) (hk j) (vk j) (hk (j+1))))
theorem N5{ops:List Oper}{K:A8->A0->Prop}: ∀ (rest:List Oper)(k:Nat)(past:List (Nat × (A0->Prop)))(hist:List (Nat × A0))(s:A8)(h:A0),(∀ i o,rest[i]? =some o->ops[k+i]? =some o)->Cn P ow wf n ops k rest past hist K s h->
  ∃ (sk:Nat->A8)(hk:Nat->A0)(vk:Nat->PV)(br:Nat->Bool),sk k=s/\hk k=h/\K (sk (k+rest.length)) (hk (k+rest.length))/\
   (∀ j o,k<=j->j<k+rest.length->ops[j]? =some o->Zs P ow wf n ops k (k+rest.length) j o sk hk vk br)/\
   (∀ j o,k<=j->j<k+rest.length->ops[j]? =some o->Ax ow wf o=false->Bt ops (sk j) o=some true-> ∀ x∈hist,pre ops x.1 j=true\/Ad P ow o (A6 (sk j)) x.2 (vk j) x.2)/\
   (∀ j,k<=j->j<k+rest.length->br j=true-> ∀ x∈past,pre ops x.1 j=true\/x.2 (hk (j+1)))
 |[],k,past,hist,s,h,_,hr=>⟨λ_=>s,λ_=>h,λ_=> .emp,λ_=>false,rfl,rfl,hr,λj o h1 h2=>by simp at h2;omega,λj o h1 h2=>by simp at h2;omega,λj h1 h2=>by simp at h2;omega⟩
 |o::rest,k,past,hist,s,h,hops,hr=>by
  have ho:ops[k]? =some o:=hops 0 o rfl;have hops2: ∀ i q,rest[i]? =some q->ops[k+1+i]? =some q:=λi q hq=>by
   have:=hops (i+1) q (by simpa using hq);rw[show k+1+i=k+(i+1) by omega];exact this
  have hlen:k+1+rest.length=k+(o::rest).length:=by simp only[List.length_cons];omega
  unfold Cn at hr;obtain⟨hdst,hr⟩:=hr;cases hw:Bt ops s o with
  |none=>rw[hw]at hr;exact hr.elim
  |some b=>
   rw[hw]at hr;simp only at hr;cases b with
   |false=>
    simp only[Ap,AD]at hr;obtain⟨sk,hk,vk,br,e1,e2,e3,e4,e5,e6⟩:=N5 rest (k+1) _ _ _ _ hops2 hr;rw[hlen]at e3 e4 e5 e6;have hs: ∀ j,¬ j=k->(λj=>if j=k then s else sk j) j=sk j:=λj hj=>A4 hj;refine⟨λj=>if j=k then s else sk j,λj=>if j=k then h else hk j,vk,λj=>if j=k then false else br j,AH rfl,AH rfl,?_,λj q hj hj2 hq=>?_,λj q hj hj2 hq hW hwt x hx=>?_,λj hj hj2 hb x hx=>?_⟩
    ·simp only[List.length_cons];rw[A4 (by omega),A4 (by omega)];simpa only[List.length_cons]using e3
    ·by_cases hjk:j=k
     ·subst hjk;rw[ho]at hq;obtain rfl:=H7 hq;refine⟨hdst,false,?_,λ_=>⟨?_,?_,?_⟩,λhb=>by cases hb⟩
      ·simp only[AC];exact hw
      ·simp only[AC];rw[A4 (by omega)];exact e1
      ·simp only[AC];rw[A4 (by omega)];exact e2
      ·simp only[AC]
     ·obtain ⟨g1,b,g2,g3,g4⟩:=e4 j q (by omega) hj2 hq;refine⟨g1,b,?_,λhb=>?_,λhb=>?_⟩
      ·simp only[hjk,AD];exact g2
      ·obtain ⟨q1,q2,q3⟩:=g3 hb;refine⟨?_,?_,?_⟩
       ·simp only[hjk,AD];rw[A4 (by omega)];exact q1
       ·simp only[hjk,AD];rw[A4 (by omega)];exact q2
       ·simp only[hjk,AD];exact q3
      ·obtain ⟨q1,q2,q3⟩:=g4 hb;refine⟨?_,λhW=>?_,λhW=>?_⟩
       ·simp only[hjk,AD];rw[A4 (by omega)];exact q1
       ·obtain ⟨p1,p2,p3,p4,p5⟩:=q2 hW;refine⟨?_,?_,?_,λi hi hij hbi=>?_,λi hi hij hbi=>?_⟩
        ·simp only[hjk,AD];rw[A4 (by omega)];exact p1
        ·simp only[hjk,AD];exact p2
        ·simp only[hjk,AD];exact p3
        ·by_cases hik:i=k
         ·subst hik;simp only[AC]at hbi;cases hbi
         ·simp only[hik,hjk,AD]at hbi⊢;exact p4 i (by omega) hij hbi
        ·have hik:¬ i=k:=(by omega);have hik1:¬ i+1=k:=(by omega);simp only[hik,hik1,hjk,AD]at hbi⊢;exact p5 i hi hij hbi
       ·obtain ⟨p1,p2⟩:=q3 hW;refine⟨?_,?_⟩
        ·simp only[hjk,AD];exact p1
        ·simp only[hjk,AD];rw[A4 (by omega)];exact p2
    ·by_cases hjk:j=k
     ·subst hjk;rw[ho]at hq;obtain rfl:=H7 hq;simp only[AC]at hwt;rw[hw]at hwt;cases hwt
     ·simp only[hjk,AD]at hwt⊢;exact e5 j q (by omega) hj2 hq hW hwt x hx
    ·by_cases hjk:j=k
     ·subst hjk;simp only[AC]at hb;cases hb
     ·simp only[hjk,AD]at hb⊢;rw[A4 (by omega)];exact e6 j (by omega) hj2 hb x hx
   |true=>
    simp only[AC]at hr;by_cases hW0:Ax ow wf o=true
    ·rw [AH hW0]at hr;obtain⟨v,h',hdo,hpast,hrec⟩:=hr;obtain⟨sk,hk,vk,br,e1,e2,e3,e4,e5,e6⟩:=N5 rest (k+1) _ _ _ _ hops2 hrec;rw[hlen]at e3 e4 e5 e6;refine⟨λj=>if j=k then s else sk j,λj=>if j=k then h else hk j,λj=>if j=k then v else vk j,λj=>if j=k then true else br j,AH rfl,AH rfl,?_,λj q hj hj2 hq=>?_,λj q hj hj2 hq hW hwt x hx=>?_,λj hj hj2 hb x hx=>?_⟩
     ·simp only[List.length_cons];rw[A4 (by omega),A4 (by omega)];simpa only[List.length_cons]using e3
     ·by_cases hjk:j=k
      ·subst hjk;rw[ho]at hq;obtain rfl:=H7 hq;refine⟨hdst,true,?_,λhb=>(by cases hb),λ_=>⟨?_,λhW=>?_,λhW=>⟨?_,?_⟩⟩⟩
       ·simp only[AC];exact hw
       ·simp only[AC];rw[A4 (by omega)];exact e1
       ·rw [hW0]at hW;cases hW
       ·simp only[AC]
       ·simp only[AC];rw[A4 (by omega),e2];exact hdo
      ·obtain ⟨g1,b,g2,g3,g4⟩:=e4 j q (by omega) hj2 hq;refine⟨g1,b,?_,λhb=>?_,λhb=>?_⟩
       ·simp only[hjk,AD];exact g2
       ·obtain ⟨q1,q2,q3⟩:=g3 hb;refine⟨?_,?_,?_⟩
        ·simp only[hjk,AD];rw[A4 (by omega)];exact q1
        ·simp only[hjk,AD];rw[A4 (by omega)];exact q2
        ·simp only[hjk,AD];exact q3
       ·subst hb;obtain⟨q1,q2,q3⟩:=g4 rfl;refine⟨?_,λhW=>?_,λhW=>?_⟩
        ·simp only[hjk,AD];rw[A4 (by omega)];exact q1
        ·obtain ⟨p1,p2,p3,p4,p5⟩:=q2 hW;refine⟨?_,?_,?_,λi hi hij hbi=>?_,λi hi hij hbi=>?_⟩
         ·simp only[hjk,AD];rw[A4 (by omega)];exact p1
         ·simp only[hjk,AD];exact p2
         ·simp only[hjk,AD];exact p3
         ·by_cases hik:i=k
          ·subst hik;simp only[hjk,AD,AC];exact e5 j q (by omega) hj2 hq hW g2 (i,h) (List.mem_cons_self ..)
          ·simp only[hik,hjk,AD]at hbi⊢;exact p4 i (by omega) hij hbi
         ·have hik:¬ i=k:=(by omega);have hik1:¬ i+1=k:=(by omega);simp only[hik,hik1,hjk,AD]at hbi⊢;exact p5 i hi hij hbi
        ·obtain ⟨p1,p2⟩:=q3 hW;refine⟨?_,?_⟩
         ·simp only[hjk,AD];exact p1
         ·simp only[hjk,AD];rw[A4 (by omega)];exact p2
     ·by_cases hjk:j=k
      ·subst hjk;rw[ho]at hq;obtain rfl:=H7 hq;rw[hW0]at hW;cases hW
      ·simp only[hjk,AD]at hwt⊢;exact e5 j q (by omega) hj2 hq hW hwt x (List.mem_cons_of_mem _ hx)
     ·by_cases hjk:j=k
      ·subst hjk;simp only[AD];rw[A4 (by omega),e2];exact hpast x hx
      ·simp only[hjk,AD]at hb⊢;rw[A4 (by omega)];exact e6 j (by omega) hj2 hb x hx
    ·rw [A4 hW0]at hr;have hW1:Ax ow wf o=false:=(by simpa using hW0);obtain⟨v,hdo,hhist,hrec⟩:=hr;obtain⟨sk,hk,vk,br,e1,e2,e3,e4,e5,e6⟩:=N5 rest (k+1) _ _ _ _ hops2 hrec;rw[hlen]at e3 e4 e5 e6;refine⟨λj=>if j=k then s else sk j,λj=>if j=k then h else hk j,λj=>if j=k then v else vk j,λj=>if j=k then false else br j,AH rfl,AH rfl,?_,λj q hj hj2 hq=>?_,λj q hj hj2 hq hW hwt x hx=>?_,λj hj hj2 hb x hx=>?_⟩
     ·simp only[List.length_cons];rw[A4 (by omega),A4 (by omega)];simpa only[List.length_cons]using e3
     ·by_cases hjk:j=k
      ·subst hjk;rw[ho]at hq;obtain rfl:=H7 hq;refine⟨hdst,true,?_,λhb=>(by cases hb),λ_=>⟨?_,λhW=>⟨?_,?_,?_,λi hi hij=>by omega,λi hi hij hbi=>?_⟩,λhW=>?_⟩⟩
       ·simp only[AC];exact hw
       ·simp only[AC];rw[A4 (by omega)];exact e1
       ·simp only[AC];rw[A4 (by omega)];exact e2
       ·simp only[AC]
       ·simp only[AC];exact hdo
       ·have hik:¬ i=j:=(by omega);have hik1:¬ i+1=j:=(by omega);simp only[hik,hik1,AD,AC]at hbi⊢;exact e6 i (by omega) hij hbi (j,λh'=>Ad P ow o (A6 s) h' v h') (List.mem_cons_self ..)
       ·rw [hW1]at hW;cases hW
      ·obtain ⟨g1,b,g2,g3,g4⟩:=e4 j q (by omega) hj2 hq;refine⟨g1,b,?_,λhb=>?_,λhb=>?_⟩
       ·simp only[hjk,AD];exact g2
       ·obtain ⟨q1,q2,q3⟩:=g3 hb;refine⟨?_,?_,?_⟩
        ·simp only[hjk,AD];rw[A4 (by omega)];exact q1
        ·simp only[hjk,AD];rw[A4 (by omega)];exact q2
        ·simp only[hjk,AD];exact q3
       ·obtain ⟨q1,q2,q3⟩:=g4 hb;refine⟨?_,λhW=>?_,λhW=>?_⟩
        ·simp only[hjk,AD];rw[A4 (by omega)];exact q1
        ·obtain ⟨p1,p2,p3,p4,p5⟩:=q2 hW;refine⟨?_,?_,?_,λi hi hij hbi=>?_,λi hi hij hbi=>?_⟩
         ·simp only[hjk,AD];rw[A4 (by omega)];exact p1
         ·simp only[hjk,AD];exact p2
         ·simp only[hjk,AD];exact p3
         ·by_cases hik:i=k
          ·subst hik;simp only[AC]at hbi;cases hbi
          ·simp only[hik,hjk,AD]at hbi⊢;exact p4 i (by omega) hij hbi
         ·have hik:¬ i=k:=(by omega);have hik1:¬ i+1=k:=(by omega);simp only[hik,hik1,hjk,AD]at hbi⊢;exact p5 i hi hij hbi
        ·obtain ⟨p1,p2⟩:=q3 hW;refine⟨?_,?_⟩
         ·simp only[hjk,AD];exact p1
         ·simp only[hjk,AD];rw[A4 (by omega)];exact p2
     ·by_cases hjk:j=k
      ·subst hjk;rw[ho]at hq;obtain rfl:=H7 hq;simp only[AC];exact hhist x hx
      ·simp only[hjk,AD]at hwt⊢;exact e5 j q (by omega) hj2 hq hW hwt x hx
     ·by_cases hjk:j=k
      ·subst hjk;simp only[AC]at hb;cases hb
      ·simp only[hjk,AD]at hb⊢;rw[A4 (by omega)];exact e6 j (by omega) hj2 hb x (List.mem_cons_of_mem _ hx)
def SV(ow:Nat->Bool)(wf:FuncId->Bool)(ops:List Oper)(c k:Nat):Bool:=(List.range c).all λi=>!(Fp ow wf ops i)||pre ops i k
def SW(P:Program)(ow:Nat->Bool)(wf:FuncId->Bool)(n:Nat)(ops:List Oper)(c j:Nat)(o:Oper)(s s':A8)(h h':A0)(v:PV)(l:Option (Nat × Ae))(U:List Nat):Prop:=
 (U=[]\/SV ow wf ops c j=true)/\o.dst.all (λd=>decide (d<n))=true/\ ∃ b,Bt ops s o=some b/\
  (b=false->s'=AW s o.dst (.sc undef)/\h'=h/\l=none)/\
  (b = true -> s' = AW s o.dst v /\
   (Ax ow wf o=false->h'=h/\l=none/\ ∀ H:A0,(∀ u∈U,H.obj u=h.obj u)->Ad P ow o (A6 s) H v H)/\
   (Ax ow wf o=true-> ∃ t x y id r f ob,o.op= .store t x y/\A6 s x= .ptr id r f/\l=some (id,ob)/\h'=h.set id ob/\(∀ f q,j<f->ops[f]? =some q->BY ow q=true->False)/\AQ P (o.dst.any ow) o.op (A6 s) h=some (v,h')))
def SX(k:Nat)(ls:List (Nat × Nat)):Option (Nat × Ae)->List (Nat × Nat)
 |some p=>(k,p.1)::ls
 |none=>ls
def I3(P:Program)(ow:Nat->Bool)(wf:FuncId->Bool)(n:Nat)(ops:List Oper)(c:Nat):Nat->List Oper->List (Nat × Nat)->List (Nat × List Nat)->(A8->A0->Prop)->A8->A0->Prop
 |_,[],_,_,K,s,h=>K s h
 | k, o :: rest, ls, qs, K, s, h => ∃ s' h' v l U, SW P ow wf n ops c k o s s' h h' v l U /\
   (∀ p,l=some p->(∀ x∈ls,pre ops x.1 k=true\/x.2≠p.1)/\(∀ x∈qs,pre ops x.1 k=true\/p.1 ∉ x.2))/\(∀ x∈ls,pre ops x.1 k=true\/x.2 ∉ U)/\
   I3 P ow wf n ops c (k+1) rest (SX k ls l) ((k,U)::qs) K s' h'
theorem SY{ops:List Oper}{c:Nat}{K:A8->A0->Prop}: ∀ (rest:List Oper)(k:Nat)(ls:List (Nat × Nat))(qs:List (Nat × List Nat))(s:A8)(h:A0),ops.drop k=rest->k<=ops.length->I3 P ow wf n ops c k rest ls qs K s h->
  ∃ (sk:Nat->A8)(hk:Nat->A0)(vk:Nat->PV)(lt:Nat->Option (Nat × Ae))(Uk:Nat->List Nat),sk k=s/\hk k=h/\K (sk ops.length) (hk ops.length)/\
   (∀ j o,k<=j->ops[j]? =some o->SW P ow wf n ops c j o (sk j) (sk (j+1)) (hk j) (hk (j+1)) (vk j) (lt j) (Uk j))/\
   (∀ j p,k<=j->j<ops.length->lt j=some p->(∀ x∈ls,pre ops x.1 j=true\/x.2≠p.1)/\(∀ x∈qs,pre ops x.1 j=true\/p.1 ∉ x.2))/\
   (∀ j,k<=j->j<ops.length-> ∀ x∈ls,pre ops x.1 j=true\/x.2 ∉ Uk j)/\
   (∀ i j p q,k<=i->i<j->j<ops.length->lt i=some p->lt j=some q->pre ops i j=true\/p.1≠q.1)/\
   (∀ i j p,k<=i->i<j->j<ops.length->lt i=some p->pre ops i j=true\/p.1 ∉ Uk j)/\
   (∀ i j p,k<=i->i<j->j<ops.length->lt j=some p->pre ops i j=true\/p.1 ∉ Uk i)
 |[],k,ls,qs,s,h,hd,hk,hr=>by
  have hl:ops.length<=k:=by simpa using hd
  have hke:k=ops.length:=by omega
  refine⟨λ_=>s,λ_=>h,λ_=> .emp,λ_=>none,λ_=>[],rfl,rfl,hr,λj o hj ho=>?_,λj p _ _ hp=>by simp at hp,λj h1 h2=>by omega,λi j p q _ _ _ hp=>by simp at hp,λi j p _ _ _ hp=>by simp at hp,λi j p _ _ _ hp=>by simp at hp⟩;have:=(List.getElem?_eq_some_iff.1 ho).1;omega
 |o::rest,k,ls,qs,s,h,hd,hk,hr=>by
  have ho:ops[k]? =some o:=by
   have:(ops.drop k)[0]? =some o:=(by rw[hd];try rfl);simpa using this
  have hkl:k<ops.length:=(List.getElem?_eq_some_iff.1 ho).1;have hd2:ops.drop (k+1)=rest:=by
   have:=List.drop_eq_getElem_cons hkl;rw[hd]at this;simp only[List.cons.injEq]at this;exact this.2.symm
  obtain⟨s',h',v,l,U,hloc,hls,hU,hrec⟩:=hr;obtain⟨sk,hk',vk,lt,Uk,e1,e2,e3,e4,e5,e6,e7,e8,e9⟩:=SY rest (k+1) _ _ s' h' hd2 (by omega) hrec;have hls2: ∀ x∈ls,x∈SX k ls l:=λx hx=>by
   cases l with
   |none=>exact hx
   |some y=>exact List.mem_cons_of_mem _ hx
  refine⟨λj=>if j=k then s else sk j,λj=>if j=k then h else hk' j,λj=>if j=k then v else vk j,λj=>if j=k then l else lt j,λj=>if j=k then U else Uk j,by simp,by simp,?_,λj q hj hq=>?_,λj p hj hjl hp=>?_,λj hj hjl x hx=>?_,λi j p q hi hij hjl hp hq=>?_,λi j p hi hij hjl hp=>?_,λi j p hi hij hjl hp=>?_⟩
  ·simp only;rw[A4 (by omega),A4 (by omega)];exact e3
  ·by_cases hjk:j=k
   ·subst hjk;rw[ho]at hq;simp only[Ag]at hq;subst hq;simp only[AC];rw[A4 (by omega),A4 (by omega),e1,e2];exact hloc
   ·simp only[hjk,AD];rw[A4 (by omega),A4 (by omega)];exact e4 j q (by omega) hq
  ·by_cases hjk:j=k
   ·subst hjk;simp only[AC]at hp;exact hls p hp
   ·simp only[hjk,AD]at hp;exact⟨λx hx=>(e5 j p (by omega) hjl hp).1 x (hls2 x hx),λx hx=>(e5 j p (by omega) hjl hp).2 x (List.mem_cons_of_mem _ hx)⟩
  ·by_cases hjk:j=k
   ·subst hjk;simp only[AC];exact hU x hx
   ·simp only[hjk,AD];exact e6 j (by omega) hjl x (hls2 x hx)
  ·have hjk:¬ j=k:=(by omega);simp only[hjk,AD]at hq;by_cases hik:i=k
   ·subst hik;simp only[AC]at hp;subst hp;exact(e5 j q (by omega) hjl hq).1 (i,p.1) (List.mem_cons_self ..)
   ·simp only[hik,AD]at hp;exact e7 i j p q (by omega) hij hjl hp hq
  ·have hjk:¬ j=k:=(by omega);simp only[hjk,AD];by_cases hik:i=k
   ·subst hik;simp only[AC]at hp;subst hp;exact e6 j (by omega) hjl (i,p.1) (List.mem_cons_self ..)
   ·simp only[hik,AD]at hp;exact e8 i j p (by omega) hij hjl hp
  ·have hjk:¬ j=k:=(by omega);simp only[hjk,AD]at hp;by_cases hik:i=k
   ·subst hik;simp only[AC];exact(e5 j p (by omega) hjl hp).2 (i,U) (List.mem_cons_self ..)
   ·simp only[hik,AD];exact e9 i j p (by omega) hij hjl hp
theorem SZ(H:A0):As H []=H:=by
 unfold As;cases H;simp
theorem Zt(h' H:A0):Bk h' H []=h':=by
 unfold Bk;cases h';simp
theorem Sa{lt:Nat->Option (Nat × Ae)}{p:Nat->Bool}{H:A0}: ∀ m,(∀ f,f<m->(lt f).isSome=true->p f=false)->C4 lt p H m=H
 |0,_=>rfl
 |m+1,h=>by
  have ih:=Sa (lt:=lt) (p:=p) (H:=H) m λf hf=>h f (by omega);unfold C4;cases q:lt m with
  |none=>exact ih
  |some x=>
   simp only;rw[A4 (by rw[h m (by omega) (by rw[q];try rfl)];simp)];exact ih
theorem Zu{ops:List Oper}{c:Nat}{K:A8->A0->Prop}{s:A8}{h:A0}(hd:On ow wf ops c=true)
  (hr:Cn P ow wf n ops 0 (ops.take c) [] [] (λs' h'=>I3 P ow wf n ops c c (ops.drop c) [] [] K s' h') s ⟨h.next+ops.length,h.obj⟩):Lw P ow wf n ops K s h:=by
 unfold On at hd;simp only[AT,BQ]at hd;obtain⟨⟨⟨hd3,hc⟩,hp⟩,hA⟩:=hd;have htl:(ops.take c).length=c:=by rw[List.length_take];omega
 have P1: ∀ i f,i<c->f<ops.length->i<f->f<c->((Fp ow wf ops i&&Fp ow wf ops f)=false\/pre ops i f=true)/\(Fp ow wf ops i&&I2 ow ops f)=false:=λi f hi hf hif hfc=>by
  have:=(AT _ _ ▸ (List.all_eq_true.1 (List.all_eq_true.1 hp i (List.mem_range.2 hi)) f (List.mem_range.2 hf))).1;rw[Ke hif,Ke hfc]at this;revert this;cases Fp ow wf ops i<;>cases Fp ow wf ops f<;>cases I2 ow ops f<;>cases pre ops i f<;>simp
 have P2: ∀ i f,i<c->f<ops.length->c<=f->Fp ow wf ops f=true->pre ops i f=true/\pre ops f i=false:=λi f hi hf hcf hw=>by
  have:=(AT _ _ ▸ (List.all_eq_true.1 (List.all_eq_true.1 hp i (List.mem_range.2 hi)) f (List.mem_range.2 hf))).2;rw[Ke hcf,hw]at this;simpa using this
 have P3: ∀ f,f<ops.length->c<=f->I2 ow ops f=false:=λf hf hcf=>by
  have:=List.all_eq_true.1 hA f (List.mem_range.2 hf);rw[Ke hcf]at this;simpa using this
 obtain⟨ska,hka,vka,br,a1,a2,a3,a4,_,_⟩:=N5 (ops.take c) 0 [] [] s _ (λi o ho=>by
  rw[Bb];rw[List.getElem?_take]at ho;split at ho
  ·exact ho
  ·cases ho) hr
 rw[htl,Bb]at a3 a4;obtain⟨skb,hkb,vkb,lt,Uk,b1,b2,b3,b4,_,_,b6,b7,b8⟩:=SY (ops.drop c) c [] [] _ _ rfl hc a3;have hltn: ∀ f,(if f<c then none else lt f:Option (Nat × Ae)).isSome=true->c<=f:=λf hf=>by
  by_cases hfc:f<c
  ·rw [AH hfc]at hf;cases hf
  ·omega
 have hltw: ∀ f o,c<=f->ops[f]? =some o->(lt f).isSome=true->Ax ow wf o=true:=λf o hcf ho hl=>by
  obtain⟨_,_,b,_,g3,g4⟩:=b4 f o hcf ho;cases b with
  |false=>rw[(g3 rfl).2.2]at hl;cases hl
  |true=>
   cases hw:Ax ow wf o with
   |true=>rfl
   |false=>rw[((g4 rfl).2.1 hw).2.1]at hl;cases hl
 have hwAt: ∀ f o,ops[f]? =some o->Fp ow wf ops f=Ax ow wf o:=λf o ho=>by unfold Fp;rw[ho];try rfl
 have haAt: ∀ f o,ops[f]? =some o->I2 ow ops f=BY ow o:=λf o ho=>by unfold I2;rw[ho];try rfl
 have hltp: ∀ j f,j<c->f<ops.length->(if f<c then none else lt f:Option (Nat × Ae)).isSome=true->pre ops j f=true/\pre ops f j=false:=λj f hj hf hs=>by
  have hcf:=hltn f hs;rw[A4 (by omega)]at hs;exact P2 j f hj hf hcf (by rw[hwAt f _ (List.getElem?_eq_getElem hf)];exact hltw f _ hcf (List.getElem?_eq_getElem hf) hs)
 have hkx: ∀ j,j<c->kx ow ops (λf=>if f<c then none else lt f) j=[]:=λj hj=>by
  unfold kx;rw[List.filterMap_eq_nil_iff];intro f hf;have hf:=List.mem_range.1 hf;split
  ·rename_i hcond;show Option.map _ (if f<c then none else lt f:Option (Nat × Ae))=none;cases q:(if f<c then none else lt f:Option (Nat × Ae))with
   |none=>rfl
   |some x=>
    exfalso;have hsm:(if f<c then none else lt f:Option (Nat × Ae)).isSome=true:=(by rw[q];try rfl);have h1:=hltp j f hj hf hsm;have h2:=P3 f hf (hltn f hsm);unfold I2 at h2;rw[h1.1,h1.2,h2]at hcond;simp at hcond
  ·rfl
 -- what does not change the heap, at another cut
 have down: ∀ j o,j<c->ops[j]? =some o->Ax ow wf o=false->Bt ops (ska j) o=some true-> ∀ d M,M+d=j->(∀ b,M<=b->b<j->br b=true->pre ops b j=false)->Ad P ow o (A6 (ska j)) (hka M) (vka j) (hka M):=λj o hj ho hW hw d=>by
  obtain⟨_,b,g2,_,g4⟩:=a4 j o (BX _) hj ho;rw[hw]at g2;obtain rfl:=H7 g2;obtain⟨_,_,p3,p4,_⟩:=(g4 rfl).2.1 hW
  induction d with
  |zero=>intro M hM _;rw[Eg]at hM;rw[hM];exact p3
  |succ d ih=>
   intro M hM hcut;cases hb:br M with
   |true=>
    rcases p4 M (BX _) (by omega) hb with h1|h1
    ·rw [hcut M (AF _) (by omega) hb]at h1;cases h1
    ·exact h1
   |false=>
    have hMl:M<ops.length:=(by omega);obtain⟨_,b2,_,q3,q4⟩:=a4 M _ (BX _) (by omega) (List.getElem?_eq_getElem hMl);have e:hka (M+1)=hka M:=by
     cases b2 with
     |false=>exact(q3 rfl).2.1
     |true=>
      cases hw2:Ax ow wf ops[M]with
      |false=>exact((q4 rfl).2.1 hw2).1
      |true=>rw[((q4 rfl).2.2 hw2).1]at hb;cases hb
    rw[← e];exact ih (M+1) (by omega) λb hb1 hb2 hb3=>hcut b (by omega) hb2 hb3
 have up: ∀ j o,j<c->ops[j]? =some o->Ax ow wf o=false->Bt ops (ska j) o=some true-> ∀ d,j+1+d<=c->(∀ b,b<j+1+d->br b=true->pre ops j b=false)->Ad P ow o (A6 (ska j)) (hka (j+1+d)) (vka j) (hka (j+1+d)):=λj o hj ho hW hw d=>by
  obtain⟨_,b,g2,_,g4⟩:=a4 j o (BX _) hj ho;rw[hw]at g2;obtain rfl:=H7 g2;obtain⟨p1,_,p3,_,p5⟩:=(g4 rfl).2.1 hW
  induction d with
  |zero=>intro _ _;rw[Eg,p1];exact p3
  |succ d ih=>
   intro hdc hcut;cases hb:br (j+1+d)with
   |true=>
    rcases p5 (j+1+d) (by omega) (by omega) hb with h1|h1
    ·rw [hcut _ (by omega) hb]at h1;cases h1
    ·exact h1
   |false=>
    have hMl:j+1+d<ops.length:=(by omega);obtain⟨_,b2,_,q3,q4⟩:=a4 (j+1+d) _ (BX _) (by omega) (List.getElem?_eq_getElem hMl);have e:hka (j+1+d+1)=hka (j+1+d):=by
     cases b2 with
     |false=>exact(q3 rfl).2.1
     |true=>
      cases hw2:Ax ow wf ops[j+1+d]with
      |false=>exact((q4 rfl).2.1 hw2).1
      |true=>rw[((q4 rfl).2.2 hw2).1]at hb;cases hb
    rw[show j+1+(d+1)=j+1+d+1 by omega,e];exact ih (by omega) λb hb1 hb3=>hcut b (by omega) hb3
 have hbrw: ∀ j o,j<c->ops[j]? =some o->br j=true->Ax ow wf o=true:=λj o hj ho hb=>by
  obtain⟨_,b,_,g3,g4⟩:=a4 j o (BX _) hj ho;cases b with
  |false=>rw[(g3 rfl).2.2]at hb;cases hb
  |true=>
   cases hw:Ax ow wf o with
   |true=>rfl
   |false=>rw[((g4 rfl).2.1 hw).2.1]at hb;cases hb
 refine⟨hd3,λj=>if j<c then ska j else skb j,λj=>if j<c then hka j else hkb j,λj=>if j<c then vka j else vkb j,λf=>if f<c then none else lt f,λj=>if j<c then br j else false,?_,?_,?_,⟨λj o ho=>?_,λi j hij hj hi hj2=>?_⟩⟩
 ·by_cases h0:0<c
  ·simp only[h0,AC];exact a1
  ·have:c=0:=(by omega);subst this;simp only[U6,AD];rw[b1];exact a1
 ·by_cases h0:0<c
  ·simp only[h0,AC];exact a2
  ·have:c=0:=(by omega);subst this;simp only[U6,AD];rw[b2];exact a2
 ·have:¬ ops.length<c:=by omega
  simp only[this,AD];exact b3
 ·have hjl:j<ops.length:=(List.getElem?_eq_some_iff.1 ho).1;have es: ∀ j,j<c->(if j+1<c then ska (j+1)else skb (j+1))=ska (j+1):=λj hj=>by
   by_cases h1:j+1<c
   ·rw [AH h1]
   ·rw [A4 h1];have:j+1=c:=(by omega);rw[this,b1]
  have eh: ∀ j,j<c->(if j+1<c then hka (j+1)else hkb (j+1))=hka (j+1):=λj hj=>by
   by_cases h1:j+1<c
   ·rw [AH h1]
   ·rw [A4 h1];have:j+1=c:=(by omega);rw[this,b2]
  have ehM: ∀ M,M<=c->(if M<c then hka M else hkb M)=hka M:=λM hM=>by
   by_cases h1:M<c
   ·rw [AH h1]
   ·rw [A4 h1];have:M=c:=(by omega);rw[this,b2]
  by_cases hjc:j<c
  ·obtain ⟨g1,b,g2,g3,g4⟩:=a4 j o (BX _) hjc ho;refine⟨g1,b,?_,λhb=>?_,λhb=>?_⟩
   ·simp only[hjc,AC];exact g2
   ·obtain ⟨q1,q2,q3⟩:=g3 hb;simp only[hjc,AC];rw[es j hjc,eh j hjc];exact⟨q1,q2,trivial,q3⟩
   ·subst hb;obtain⟨q1,q2,q3⟩:=g4 rfl;refine⟨?_,λhW=>?_,λhW=> .inl ?_⟩
    ·simp only[hjc,AC];rw[es j hjc];exact q1
    ·obtain ⟨p1,p2,p3,p4,p5⟩:=q2 hW;refine⟨?_,?_,?_,λM hM=>⟨[],λid hid=>?_,?_⟩⟩
     ·simp only[hjc,AC];rw[eh j hjc];exact p1
     ·simp only[hjc,AC]
     ·simp only[hjc,AC];exact p2
     ·rw [hkx j hjc]at hid;exact hid
     ·obtain ⟨m1,m2,m3,m4⟩:=hM;have hMc:M<=c:=by
       rcases m4 with h0|h0
       ·omega
       ·by_cases h1:M-1<c
        ·omega
        ·simp only[h1,AD]at h0;cases h0
      have hg:gx ops (λf=>if f<c then none else lt f) (λj=>if j<c then hka j else hkb j) j M []=hka M:=by
       unfold gx;rw[SZ,Sa ops.length (λf hf hs=>by rw[(hltp j f hjc hf hs).2,B5])];exact ehM M hMc
      rw[hg];simp only[hjc,AC];have hcd: ∀ b,M<=b->b<j->br b=true->pre ops b j=false:=λb hb1 hb2 hb3=>by
       refine m3 b hb1 ?_;have:b<c:=(by omega);simp only[this,AC];exact hb3
      have hcu: ∀ b,b<M->br b=true->pre ops j b=false:=λb hb1 hb3=>by
       refine m2 b hb1 ?_;have:b<c:=(by omega);simp only[this,AC];exact hb3
      by_cases hMj:M<=j
      ·exact down j o hjc ho hW g2 (j-M) M (by omega) hcd
      ·obtain ⟨d,rfl⟩: ∃ d,M=j+1+d:=⟨M-(j+1),by omega⟩;exact up j o hjc ho hW g2 d hMc hcu
    ·obtain ⟨p1,p2⟩:=q3 hW;simp only[hjc,AC];rw[eh j hjc,hkx j hjc,SZ];refine⟨p1,trivial,⟨hka (j+1),p2,λid hid=>(by cases hid),(by rw[Zt])⟩,λf q hf hq ha=>?_⟩;exfalso;have hfl:=(List.getElem?_eq_some_iff.1 hq).1;have ha2:=haAt f q hq;rw[ha]at ha2;by_cases hfc:f<c
     ·have:=(P1 j f hjc hfl hf hfc).2;rw[ha2,hwAt j o ho,hW]at this;cases this
     ·rw [P3 f hfl (by omega)]at ha2;cases ha2
  ·obtain ⟨g0,g1,b,g2,g3,g4⟩:=b4 j o (by omega) ho;have hj1:¬ j+1<c:=(by omega);refine⟨g1,b,?_,λhb=>?_,λhb=>?_⟩
   ·simp only[hjc,AD];exact g2
   ·obtain ⟨q1,q2,q3⟩:=g3 hb;simp only[hjc,hj1,AD];exact⟨q1,q2,q3,trivial⟩
   ·obtain ⟨q1,q2,q3⟩:=g4 hb;refine⟨?_,λhW=>?_,λhW=>?_⟩
    ·simp only[hjc,hj1,AD];exact q1
    ·obtain ⟨m1,m2,m3⟩:=q2 hW;simp only[hjc,hj1,AD];refine⟨m1,m2,trivial,λM hM=>⟨_,λ_ hx=>hx,m3 _ λu hu=>?_⟩⟩;rcases g0 with g0|g0
     ·rw [g0]at hu;cases hu
     obtain⟨n1,n2,n3,n4⟩:=hM;have hMc:M<=c:=by
      rcases n4 with h0|h0
      ·omega
      ·by_cases h1:M-1<c
       ·omega
       ·simp only[h1,AD]at h0;cases h0
     have hnb: ∀ b,M<=b->b<c->br b=false:=λb hb1 hb2=>by
      cases hb:br b with
      |false=>rfl
      |true=>
       have h1:=n3 b hb1 (by simp only[hb2,AC];exact hb);have hbl:b<ops.length:=(by omega);have h2:=List.all_eq_true.1 g0 b (List.mem_range.2 hb2);rw[hwAt b _ (List.getElem?_eq_getElem hbl),hbrw b _ hb2 (List.getElem?_eq_getElem hbl) hb,h1]at h2;cases h2
     have hMe: ∀ d,M+d<=c->hka (M+d)=hka M:=by
      intro d
      induction d with
      |zero=>intro _;rfl
      |succ d ih=>
       intro hdc;have hMl:M+d<ops.length:=(by omega);obtain⟨_,b2,_,q3,q4⟩:=a4 (M+d) _ (BX _) (by omega) (List.getElem?_eq_getElem hMl);have e:hka (M+d+1)=hka (M+d):=by
        cases b2 with
        |false=>exact(q3 rfl).2.1
        |true=>
         cases hw2:Ax ow wf ops[M+d]with
         |false=>exact((q4 rfl).2.1 hw2).1
         |true=>have:=hnb (M+d) (by omega) (by omega);rw[((q4 rfl).2.2 hw2).1]at this;cases this
       rw[show M+(d+1)=M+d+1 by omega,e];exact ih (by omega)
     have hMh:hka M=hkb c:=by
      rw[b2, ← hMe (c-M) (by omega),show M+(c-M)=c by omega]
     have hlob: ∀ m,m<=ops.length->(C4 (λf=>if f<c then none else lt f) (λf=>decide (M<=f)&&pre ops f j) (hka M) m).obj u=(hkb (if m<c then c else if m<j then m else j)).obj u:=by
      intro m
      induction m with
      |zero=>
       intro _;have hz:(C4 (λf=>if f<c then none else lt f) (λf=>decide (M<=f)&&pre ops f j) (hka M) 0)=hka M:=rfl;rw[hz,hMh];by_cases h0:0<c
       ·rw [AH h0]
       ·have:c=0:=(by omega);subst this;rw[A4 (by omega)];by_cases h1:0<j
        ·rw [AH h1]
        ·have:j=0:=(by omega);rw[A4 h1,this]
      |succ m ih=>
       intro hml;have ih:=ih (by omega);unfold C4;by_cases hmc:m<c
       ·rw [AH hmc]at ih;simp only[hmc,AC];rw[ih];by_cases h1:m+1<c
        ·rw [AH h1]
        ·have:m+1=c:=(by omega);rw[A4 h1];by_cases h2:m+1<j
         ·rw [AH h2,this]
         ·rw [A4 h2];have:j=c:=(by omega);rw[this]
       ·rw [A4 hmc]at ih;simp only[hmc,AD];rw[A4 (by omega:¬ m+1<c)];have hmo:m<ops.length:=(by omega);obtain⟨_,_,b2,_,r3,r4⟩:=b4 m _ (by omega) (List.getElem?_eq_getElem hmo);by_cases hmj:m<j
        ·rw [AH hmj]at ih;have hnx:(if m+1<j then m+1 else j)=m+1:=by
          by_cases h1:m+1<j
          ·rw [AH h1]
          ·rw [A4 h1];omega
         rw[hnx];cases hlm:lt m with
         |none=>
          simp only;rw[ih];have e:hkb (m+1)=hkb m:=by
           cases b2 with
           |false=>exact(r3 rfl).2.1
           |true=>
            cases hw2:Ax ow wf ops[m]with
            |false=>exact((r4 rfl).2.1 hw2).1
            |true=>obtain⟨_,_,_,_,_,_,_,_,_,z,_⟩:=(r4 rfl).2.2 hw2;rw[hlm]at z;cases z
          rw[e]
         |some q=>
          simp only;have e:hkb (m+1)=(hkb m).set q.1 q.2:=by
           cases b2 with
           |false=>have:=(r3 rfl).2.2;rw[hlm]at this;cases this
           |true=>
            cases hw2:Ax ow wf ops[m]with
            |false=>have:=((r4 rfl).2.1 hw2).2.1;rw[hlm]at this;cases this
            |true=>
             obtain⟨_,_,_,_,_,_,_,_,_,z,z2,_⟩:=(r4 rfl).2.2 hw2;rw[hlm]at z;simp only[Ag]at z;rw[z2,z]
          rw[e];by_cases hqu:u=q.1
          ·rcases b7 m j q (by omega) hmj hjl hlm with h1|h1
           ·rw [Ke (by omega:M<=m),h1,hqu];simp[A0.set]
           ·exact absurd (hqu ▸ hu) h1
          ·split
           ·simp only[A0.set];rw[A4 hqu,A4 hqu];exact ih
           ·simp only[A0.set];rw[A4 hqu];exact ih
        ·rw [A4 hmj]at ih;rw[A4 (by omega:¬ m+1<j)];cases hlm:lt m with
         |none=>exact ih
         |some q=>
          simp only;by_cases hqu:u=q.1
          ·have hpf:pre ops m j=false:=by
            by_cases hmj2:m=j
            ·exfalso;subst hmj2;rw[m2]at hlm;cases hlm
            ·rcases b8 j m q (by omega) (by omega) hmo hlm with h1|h1
             ·cases h2:pre ops m j with
              |false=>rfl
              |true=>have:=Hq (FM.of hd3) j m hjl h2;omega
             ·exact absurd (hqu ▸ hu) h1
           rw[hpf,B5];simp only[Ap,AD];exact ih
          ·split
           ·simp only[A0.set];rw[A4 hqu];exact ih
           ·exact ih
     have hkn:(kx ow ops (λf=>if f<c then none else lt f) j).contains u=false:=by
      cases hct:(kx ow ops (λf=>if f<c then none else lt f) j).contains u with
      |false=>rfl
      |true=>
       exfalso;have hmem:u∈kx ow ops (λf=>if f<c then none else lt f) j:=(by simpa using hct);unfold kx at hmem;obtain⟨f,hf,he⟩:=List.mem_filterMap.1 hmem;have hfl:=List.mem_range.1 hf;split at he
       ·rename_i hcond;by_cases hfc:f<c
        ·simp only[hfc,AC,Lq]at he;cases he
        ·simp only[hfc,AD]at he;obtain⟨q,hq,hq2⟩:=Ck.1 he;simp only[AT,DF,Cc,Kb]at hcond;have hA2:=P3 f hfl (by omega);unfold I2 at hA2;rw[hA2]at hcond;obtain⟨⟨hne,hp1⟩,hp2⟩:=hcond;have hp2:pre ops j f=false:=(by rcases hp2 with h|h;exact h;cases h);by_cases hfj:f<j
         ·rcases b7 f j q (by omega) hfj hjl hq with h1|h1
          ·rw [h1]at hp1;cases hp1
          ·exact h1 (hq2 ▸ hu)
         ·rcases b8 j f q (by omega) (by omega) hfl hq with h1|h1
          ·rw [h1]at hp2;cases hp2
          ·exact h1 (hq2 ▸ hu)
       ·cases he
     have hcut:(if M<c then hka M else hkb M)=hka M:=ehM M hMc;show(gx ops (λf=>if f<c then none else lt f) (λj=>if j<c then hka j else hkb j) j M _).obj u=_;unfold gx As;simp only[hkn,Ap,AD];rw[hcut,hlob ops.length (AF _),A4 (by omega),A4 (by omega)]
    ·simp only[hjc,hj1,AD];obtain⟨t,x,y,id,r,f,ob,m1,m2,m3,m4,m5,m6⟩:=q3 hW;exact .inr (.inr ⟨trivial,t,x,y,id,r,f,ob,m1,m2,m3,m4,λf q hf hq ha=>(m5 f q hf hq ha).elim,m6⟩)
 ·have hil:i<ops.length:=by omega
  by_cases hjc:j<c
  ·have hic:i<c:=(by omega);simp only[hjc,hic,AC]at hi hj2;have hi':br i=true:=hi.resolve_right (by simp);have hj':br j=true:=hj2.resolve_right (by simp);rcases(P1 i j hic hj hij hjc).1 with h1|h1
   ·rw [hwAt i _ (List.getElem?_eq_getElem hil),hwAt j _ (List.getElem?_eq_getElem hj),hbrw i _ hic (List.getElem?_eq_getElem hil) hi',hbrw j _ hjc (List.getElem?_eq_getElem hj) hj']at h1;cases h1
   ·exact .inl h1
  ·simp only[hjc,AD]at hj2;have hj':(lt j).isSome=true:=hj2.resolve_left (by simp);by_cases hic:i<c
   ·exact .inl (P2 i j hic hj (by omega) (by rw[hwAt j _ (List.getElem?_eq_getElem hj)];exact hltw j _ (by omega) (List.getElem?_eq_getElem hj) hj')).1
   ·simp only[hic,AD]at hi;have hi':(lt i).isSome=true:=hi.resolve_left (by simp);obtain⟨p,hp⟩:=Hf.1 hi';obtain⟨q,hq⟩:=Hf.1 hj';rcases b6 i j p q (by omega) hij hj hp hq with h1|h1
    ·exact .inl h1
    ·refine .inr (.inl ⟨p,q,?_,?_,h1⟩)
     ·simp only[hic,AD];exact hp
     ·simp only[hjc,AD];exact hq
theorem N6{Q:Au}{s:A8}{h:A0}{id:Nat}{ops:List Oper}(c:Nat)(hd:On ow wf ops c=true)
  (hk: ∀ K:A8->A0->Prop,(∀ s h,Q .normal s h->K s h)->Dl P ow wf n ops 0 (ops.take c) [] [] (λs' h'=>I3 P ow wf n ops c c (ops.drop c) [] [] K s' h') s ⟨h.next+ops.length,h.obj⟩):AX P ow wf n (.region id ops.toArray true) Q s h:=by
 simp only[AX,AC];exact⟨_,_,.refl,.inr (.inr (Zu hd (HF _ _ _ _ _ _ (hk _ λ_ _ hq=>hq))))⟩
variable {ops rest:List Oper}{c k:Nat}{o:Oper}{ls:List (Nat × Nat)}{qs:List (Nat × List Nat)}{K:A8->A0->Prop}{s:A8}{h:A0}
theorem N7(hK:K s h):I3 P ow wf n ops c k [] ls qs K s h:=hK
theorem GS(v:PV)(U:List Nat)(hU:U=[]\/SV ow wf ops c k=true)(hd:o.dst.all (λd=>decide (d<n))=true)(hw:Bt ops s o=some true)(hW:Ax ow wf o=false)(he: ∀ H:A0,(∀ u∈U,H.obj u=h.obj u)->Ad P ow o (A6 s) H v H)(hl: ∀ x∈ls,pre ops x.1 k=true\/x.2 ∉ U)
  (hk:I3 P ow wf n ops c (k+1) rest ls ((k,U)::qs) K (AW s o.dst v) h):I3 P ow wf n ops c k (o::rest) ls qs K s h:=
 ⟨_,_,v,none,U,⟨hU,hd,true,hw,λhb=>(by cases hb),λ_=>⟨rfl,λ_=>⟨rfl,rfl,he⟩,λhw2=>(by rw[hW]at hw2;cases hw2)⟩⟩,λp hp=>(by cases hp),hl,hk⟩
theorem I4{t:TypeId}{x y:Operand}{id r f:Nat}{ob:Ae}{v:PV}(hop:o.op= .store t x y)(hd:o.dst.all (λd=>decide (d<n))=true)(hw:Bt ops s o=some true)(hx:A6 s x= .ptr id r f)(he:AQ P (o.dst.any ow) (.store t x y) (A6 s) h=some (v,h.set id ob))
  (hlate: ∀ f q,k<f->ops[f]? =some q->BY ow q=true->False)(hls: ∀ x∈ls,pre ops x.1 k=true\/x.2≠id)(hqs: ∀ x∈qs,pre ops x.1 k=true\/id ∉ x.2)
  (hk:I3 P ow wf n ops c (k+1) rest ((k,id)::ls) ((k,[])::qs) K (AW s o.dst v) (h.set id ob)):I3 P ow wf n ops c k (o::rest) ls qs K s h:=by
 refine⟨_,_,v,some (id,ob),[],⟨.inl rfl,hd,true,hw,λhb=>(by cases hb),λ_=>⟨rfl,λhw2=>?_,λ_=>⟨t,x,y,id,r,f,ob,hop,hx,rfl,rfl,hlate,by rw[hop];exact he⟩⟩⟩,λp hp=>?_,λx _=> .inr (by simp),hk⟩
 ·unfold Ax at hw2;rw[hop]at hw2;simp at hw2
 ·simp only[Ag]at hp;subst hp;exact⟨hls,hqs⟩
end
end Go.AM
namespace Go.AM
section
variable {P:Program}{ow:Nat->Bool}{wf:FuncId->Bool}{n:Nat}{Q:Au}{s:A8}{h:A0}
def JY(ops:List Oper):List Nat:=(List.range ops.length).filter (E3 ops)
def DB(P:Program)(ow:Nat->Bool)(wf:FuncId->Bool)(n:Nat)(ops:List Oper)(al:List Nat)(base:Nat):Nat->List Oper->Ev->List (Nat × A0)->(A8->A0->Prop)->A8->A0->Prop
 |_,[],_,_,K,s,h=>K s h
 |k,o::rest,past,hist,K,s,h=>(o.dst.all (λd=>decide (d<n))=true)/\match Bt ops s o with
  |none=>False
  | some b => if b = true then
    (match o.op with
    | .alloc t=>(match CI P t with
     | some zs => 0 < zs.length /\ (∀ f ∈ al, k < f -> (h.set (base + k) (.arr zs.length [zs.map .sc])).obj (base + f) = none) /\ (∀ x ∈ past, pre ops x.1 k = true \/ Ad P ow x.2.1 (A6 x.2.2.1) (h.set (base + k) (.arr zs.length [zs.map .sc])) x.2.2.2 (h.set (base + k) (.arr zs.length [zs.map .sc]))) /\
       DB P ow wf n ops al base (k+1) rest past ((k,h)::hist) K (AW s o.dst (.ptr (base+k) 0 0)) (h.set (base+k) (.arr zs.length [zs.map .sc]))
     |none=>False)
    |_=>(match callee (A6 s) o.op with
     |none=>(match AQ P (o.dst.any ow) o.op (A6 s) h with
      |some (v,h1)=>if Ax ow wf o=true then(∀ f∈al,k<f->h1.obj (base+f)=none)/\(∀ x∈past,pre ops x.1 k=true\/Ad P ow x.2.1 (A6 x.2.2.1) h1 x.2.2.2 h1)/\DB P ow wf n ops al base (k+1) rest past ((k,h)::hist) K (AW s o.dst v) h1
       else h1=h/\(∀ x∈hist,pre ops x.1 k=true\/Ad P ow o (A6 s) x.2 v x.2)/\DB P ow wf n ops al base (k+1) rest ((k,o,s,v)::past) hist K (AW s o.dst v) h
      |none=>False)
     |some _=>(if Ax ow wf o=true then ∃ v h',Ad P ow o (A6 s) h v h'/\((∀ f∈al,k<f->h'.obj (base+f)=none)/\ ∀ x∈CX P ow past,pre ops x.1 k=true\/x.2 h')/\EE P ow wf n ops base (k+1) rest (CX P ow past) ((k,h)::hist) K (AW s o.dst v) h'
      else ∃ v,Ad P ow o (A6 s) h v h/\(∀ x∈hist,pre ops x.1 k=true\/Ad P ow o (A6 s) x.2 v x.2)/\EE P ow wf n ops base (k+1) rest (CX P ow ((k,o,s,v)::past)) hist K (AW s o.dst v) h)))
   else DB P ow wf n ops al base (k+1) rest past hist K (AW s o.dst (.sc undef)) h
theorem Zv{ops:List Oper}{f:Nat}(h:E3 ops f=true):f∈JY ops:=by
 simp only[JY,List.mem_filter,List.mem_range];refine⟨?_,h⟩;unfold E3 at h;split at h
 ·rename_i o ho;exact(List.getElem?_eq_some_iff.1 ho).1
 ·simp at h
theorem Ij{ops:List Oper}{al:List Nat}(hal:JY ops=al){base:Nat}{K:A8->A0->Prop}:(rest:List Oper)->(k:Nat)->(past:Ev)->(hist:List (Nat × A0))->(s:A8)->(h:A0)->DB P ow wf n ops al base k rest past hist K s h->EE P ow wf n ops base k rest (CX P ow past) hist K s h
 |[],_,_,_,_,_,hh=>by simpa only[DB,EE]using hh
 |o::rest,k,past,hist,s,h,hh=>by
  simp only[DB]at hh;simp only[EE];refine⟨hh.1,?_⟩;have h2:=hh.2
  clear hh;have pc: ∀ h1,(∀ x∈past,pre ops x.1 k=true\/Ad P ow x.2.1 (A6 x.2.2.1) h1 x.2.2.2 h1)-> ∀ x∈CX P ow past,pre ops x.1 k=true\/x.2 h1:=by
   intro h1 hp x hx;obtain⟨y,hy,rfl⟩:=List.mem_map.1 hx;exact hp y hy
  have alc: ∀ h1:A0,(∀ f∈al,k<f->h1.obj (base+f)=none)-> ∀ f,k<f->E3 ops f=true->h1.obj (base+f)=none:=λh1 hp f hf ha=>hp f (by rw[← hal];exact Zv ha) hf;cases hw:Bt ops s o with
  |none=>rw[hw]at h2;exact h2
  |some b=>
   rw[hw]at h2;simp only at h2⊢;split at h2
   ·rename_i hb;rw[AH hb];split at h2
    ·rename_i t hop;split at h2
     ·rename_i zs hz;obtain⟨a1,a2,a3,a4⟩:=h2;have hi:Ax ow wf o=true:=(by unfold Ax;rw[hop]);rw[AH hi];exact⟨_,_,by unfold FX;rw[hop];exact⟨zs,hz,a1,rfl,rfl⟩,alc _ a2,pc _ a3,Ij hal rest (k+1) _ _ _ _ a4⟩
     ·exact h2.elim
    ·rename_i hne;cases hc:callee (A6 s) o.op with
     |none=>
      rw[hc]at h2;simp only at h2;cases he:AQ P (o.dst.any ow) o.op (A6 s) h with
      |none=>rw[he]at h2;exact h2.elim
      |some r=>
       obtain⟨v,h1⟩:=r;rw[he]at h2;simp only at h2;have hd:Ad P ow o (A6 s) h v h1:=(by unfold Ad;rw[hc];exact he);split at h2
       ·rename_i hi;rw[AH hi];have hdr:FX P ow (base+k) o (A6 s) h v h1:=by
         unfold FX;split
         ·rename_i t hop;exact absurd hop (hne t)
         ·exact hd
        exact⟨v,h1,hdr,alc h1 h2.1,pc h1 h2.2.1,Ij hal rest (k+1) _ _ _ _ h2.2.2⟩
       ·rename_i hi;rw[A4 hi];obtain⟨rfl,h3,h4⟩:=h2;exact⟨v,hd,h3,Ij hal rest (k+1) _ _ _ _ h4⟩
     |some f=>
      rw[hc]at h2;simp only at h2;have dr: ∀ {v:PV}{h1:A0},Ad P ow o (A6 s) h v h1->FX P ow (base+k) o (A6 s) h v h1:=λhd=>by
       unfold FX;split
       ·rename_i t hop;exact absurd hop (hne t)
       ·exact hd
      split at h2
      ·rename_i hi;rw[AH hi];obtain⟨v,h1,hd,h3,h4⟩:=h2;exact⟨v,h1,dr hd,alc h1 h3.1,h3.2,h4⟩
      ·rename_i hi;rw[A4 hi];obtain⟨v,hd,h3,h4⟩:=h2;exact⟨v,hd,h3,h4⟩
   ·rename_i hb;rw[A4 hb];exact Ij hal rest (k+1) _ _ _ _ h2
theorem Oo{id:Nat}{ops:List Oper}{K:A8->A0->Prop}(al:List Nat)(hd:Kl ow wf ops=true)(ha:JY ops=al)(hk:DB P ow wf n ops al h.next 0 ops [] [] K s ⟨h.next+ops.length,h.obj⟩):AX P ow wf n (.region id ops.toArray true) (Au.seq K Q) s h:=by
 simp only[AX,AC];exact⟨_,_,.refl,.inr (.inl ⟨hd,Ij ha ops 0 _ _ _ _ hk⟩)⟩
theorem N8{f:FuncId}{d:Nat}{args:List Operand}{ts:Array TypeId}{ty:TypeId}{pos:String}{af:Array Edge}{gd:Option (Nat × Bool)}{aS:List PV}{v:PV}{ops rest:List Oper}{base k k':Nat}{past:Ev}{hist:List (Nat × A0)}{K:A8->A0->Prop}(al:List Nat)(ha:JY ops=al)
  (hc:AA P f aS h λr h'=>r=v/\h'=h)(hs:args.map (A6 s)=aS)
  (hk:DB P ow wf n ops al base k rest ((k',{dst:=some d,op:= .call {callee:= .value (.func f),args:=args.toArray,argTypes:=ts},type:=ty,pos:=pos,after:=af,guard:=gd},s,v)::past) hist K (C2 s d v) h):
  ∃ v,Ad P ow {dst:=some d,op:= .call {callee:= .value (.func f),args:=args.toArray,argTypes:=ts},type:=ty,pos:=pos,after:=af,guard:=gd} (A6 s) h v h/\
   EE P ow wf n ops base k rest (CX P ow ((k',{dst:=some d,op:= .call {callee:= .value (.func f),args:=args.toArray,argTypes:=ts},type:=ty,pos:=pos,after:=af,guard:=gd},s,v)::past)) hist K (C2 s d v) h:=
 ⟨v,C9 hc hs,Ij ha _ _ _ _ _ _ hk⟩
theorem Ik{f:FuncId}{d:Nat}{args:List Operand}{ts:Array TypeId}{ty:TypeId}{pos:String}{af:Array Edge}{gd:Option (Nat × Bool)}{aS:List PV}{v:PV}{ops rest:List Oper}{base k k':Nat}{past:Ev}{hist:List (Nat × A0)}{K:A8->A0->Prop}{A:PV->Prop}(al:List Nat)(ha:JY ops=al)
  (hc:AA P f aS h λr h'=>r=v/\h'=h)(hs:args.map (A6 s)=aS)(hA:A v)
  (hk:DB P ow wf n ops al base k rest ((k',{dst:=some d,op:= .call {callee:= .value (.func f),args:=args.toArray,argTypes:=ts},type:=ty,pos:=pos,after:=af,guard:=gd},s,v)::past) hist K (C2 s d v) h):
  ∃ v,Ad P ow {dst:=some d,op:= .call {callee:= .value (.func f),args:=args.toArray,argTypes:=ts},type:=ty,pos:=pos,after:=af,guard:=gd} (A6 s) h v h/\A v/\
   EE P ow wf n ops base k rest (CX P ow ((k',{dst:=some d,op:= .call {callee:= .value (.func f),args:=args.toArray,argTypes:=ts},type:=ty,pos:=pos,after:=af,guard:=gd},s,v)::past)) hist K (C2 s d v) h:=
 ⟨v,C9 hc hs,hA,Ij ha _ _ _ _ _ _ hk⟩
end
end Go.AM
