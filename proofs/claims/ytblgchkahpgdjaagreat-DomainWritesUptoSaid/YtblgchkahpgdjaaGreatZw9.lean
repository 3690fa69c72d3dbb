/- What the claim rests on, part 9: the abstract machine, contracts of the functions, plain data. -/
import Derived.Test.YtblgchkahpgdjaaGreatZw6
set_option linter.unusedVariables false
set_option linter.unusedSimpArgs false
set_option linter.unusedSectionVars false
namespace Go.Proofs.YtblgchkahpgdjaaGreat
open Go.AM Go.Proofs.Tryz
set_option maxHeartbeats 16000000
set_option maxRecDepth 20000
theorem bT{a x y:List UInt8}(h:(a==x)=true)(h2:(x==y)=false):(a==y)=false:=by rw[eq_of_beq h];exact h2
def KQ(op name:ByteArray)(args:List ByteArray)(np ne nk:Nat):Bool:=
 match CW op nk with
 |none=>false
 |some (e,m,q)=>DT op name args&&decide (ne=e)&&decide (nk=m)&&(decide (np=0)||q)
theorem PE(op name:ByteArray)(args:List ByteArray)(params:List Pm)(ne nk:Nat):DA op name args params ne nk=(KQ op name args params.length ne nk&&params.all FC):=by
 unfold DA KQ;have e1:params.isEmpty=decide (params.length=0):=by cases params<;>simp
 cases CW op nk with
 |none=>rfl
 |some p=>obtain⟨e,m,q⟩:=p;simp only[e1]
theorem PF{α:Type}{l:List α}{k:Nat}{x:α}(h:l[k]? =some x):l.drop k=x::l.drop (k+1):=by
 obtain⟨h1,h2⟩:=List.getElem?_eq_some_iff.1 h;rw[List.drop_eq_getElem_cons h1,h2]
theorem T9: ∀ (l:List Ex)(d n:Nat),n<=4096->(El l d n).1=true->(El l d n).2<=4096
 |[],d,n,hn=>by simp[El,hn]
 |e::l,d,n,hn=>by
  unfold El;have h1:=OY e d n;split
  ·rename_i c he;rw[he]at h1;exact T9 l d c (h1 rfl)
  ·simp
mutual
theorem TA: ∀ (f:Fm)(d n:Nat),(Dq f d n).1=true->(Dq f d n).2<=4096
 | .mk op name args params exprs kids,d,n=>by
  unfold Dq;split
  ·rename_i hc;split
   ·have h1:=T9 exprs (d+1) (n+1) hc.1;split
    ·rename_i c he;rw[he]at h1;exact TB kids (d+1) c (h1 rfl)
    ·simp
   ·simp
  ·simp
theorem TB: ∀ (l:List Fm)(d n:Nat),n<=4096->(Eb l d n).1=true->(Eb l d n).2<=4096
 |[],d,n,hn=>by simp[Eb,hn]
 |k::l,d,n,hn=>by
  unfold Eb;have h1:=TA k d n;split
  ·rename_i c he;rw[he]at h1;exact TB l d c (h1 rfl)
  ·simp
end
theorem bU: ∀ f:Fm,f.ok-> ∀ (d n:Nat),d<=33->n<=4096-> ∀ (id:Nat)(h:A0),h.obj id=some (CD n)->
  AA prog 173 [.agg f.cells,.sc (.int .i64 d),.ptr id 0 0] h λr h'=>r= .sc (.bool (Dq f d n).1)/\h'=h.set id (CD (Dq f d n).2):=by
 refine Fm.ind ?_;intro op name args params exprs kids ih hok d n hd hn id h ho;simp only[Fm.ok]at hok;obtain⟨_,hnm,⟨hal,hargs⟩,⟨hpl,hps⟩,⟨hel,hes⟩,hkl,hks⟩:=hok;rw[Ex.oks_iff]at hes;rw[Fm.oks_iff]at hks;have hnm':name.size<=9223372036854775807:=by unfold AE at hnm;omega
 unfold AE at hpl hel hkl;have hlA:=FA args;have hlP:=EX params;have hlE:=Ex.rows_len exprs;have hlK:=Fm.rows_len kids;refine GN Ty.Ml λhwf=>?_;have hid:id<h.next:=hwf id (by rw[ho];try rfl)
 refine AA.quietX Ty.Ml ho (by simp[CD,De,BG,BZ,BD]) ?_;generalize hF:Dq (.mk op name args params exprs kids) d n=F;unfold Dq at hF;by_cases hc:n+1<=4096/\d<=32;rotate_left
 ·rw [A4 hc]at hF;subst hF;have hT:=Mx (by omega) hn ho (U8 hc);simp only[Fm.cells];refine AN func173 ntmps173 results173 Ty.Ml ?_;repeat'(first|refine AI λK hK=>?_|refine uR A2 ?_|(refine uN hK ?_;clear hK)|apply zI)
  refine CV (hT) (sr yF) ?_;simp only[Ty.w,simprocAttr,Al];repeat'(first|refine AI λK hK=>?_|refine uR yF ?_|refine uT yF ?_|(refine uN hK ?_;clear hK)|apply zI)
  exact(Bq.refl ho).put
 rw[AH hc]at hF;have hT:=Mx (by omega) hn ho (Ke hc);have wd:IntKind.i64.wrap ((d:Int)+1)=(d:Int)+1:=by rw[B9 (by omega) (by omega)]
 have G1:Bq h id (CD (n+1)) (h.set id (CD (n+1))):=(Bq.refl ho).put;have hO1:(h.set id (CD (n+1))).obj id=some (CD (n+1)):=by simp[A0.set]
 have hN1:(h.set id (CD (n+1))).next=h.next:=rfl
 have hFf:DA op name args params exprs.length kids.length=false->F=(false,n+1):=λhp=>by rw[← hF,A4 (by rw[hp];simp)]
 have hFt:DA op name args params exprs.length kids.length=true->F=(match El exprs (d+1) (n+1)with
  |(true,c')=>Eb kids (d+1) c'
  |(false,c')=>(false,c')):=λhp=>by rw[← hF,AH hp];try rfl
 clear hF;simp only[Fm.cells];refine AN func173 ntmps173 results173 Ty.Ml ?_;repeat'(first|refine AI λK hK=>?_|refine uR A2 ?_|(refine uN hK ?_;clear hK)|apply zI)
 refine CV (hT) (sr yT) ?_;simp only[Ty.w,simprocAttr,Ab]
 clear hT;generalize h.set id (CD (n+1))=H1 at G1 hO1 hN1⊢;repeat'(first|with_reducible refine KB 4 ?_|refine AI λK hK=>?_|refine uR yT ?_|refine uK ?_|refine Aw yT ?_|(refine uN hK ?_;clear hK)|apply zI)
 refine⟨?_⟩;refine CF (λS h'=>h'=H1/\S 1= .sc (.int .i64 d)/\S 2= .ptr id 0 0/\S 3= .cptr (Fm.mk op name args params exprs kids).cells/\ ∃ (e m:Nat)(q:Bool),CW op kids.length=some (e,m,q)/\((A3 op BH||A3 op Ba)=true->DT op name args=true)/\S 7= .sc (.int .i64 e)/\S 8= .sc (.bool q)/\S 9= .sc (.int .i64 m)) ?_ ?_
 ·have hfc: ∀ s∈args, ∀ h:A0,AA prog 188 [A1 s] h λr h'=>r= .sc (.bool (!BS s))/\h'=h:=λs hs h=>Z4 (hargs s hs);cases k1:(op.data.toList==(#[97,116,111,109]:Array UInt8).toList)with
  |true=>
   have k2:(op.data.toList==(#[115,97,109,101]:Array UInt8).toList)=false:=bT k1 rfl;cases q1:Ak name with
   |false=>
    have hp:=hFf (by simp[DA,CW,DT,(show A3 op BH=true from k1),q1]);subst hp;replace zz:=uu k1 k2;(repeat'(first|refine AI λK hK=>?_|refine uR zz ?_|refine uK ?_|refine Aw zz ?_|(refine uN hK ?_;clear hK)|apply zI));refine uU (Aj k1 k2 q1) (Fb (s:=name) hnm') ?_;replace zz:=AS k1 k2 q1 yF;(repeat'(first|refine AI λK hK=>?_|refine uR zz ?_|refine uT zz ?_|(refine uN hK ?_;clear hK)|apply zI));all_goals first|exact G1|exact⟨rfl,G1⟩
   |true=>
    cases q2:args.all BS with
    |false=>
     have hp:=hFf (by simp[DA,CW,DT,(show A3 op BH=true from k1),q1,q2]);subst hp;replace zz:=uu k1 k2;(repeat'(first|refine AI λK hK=>?_|refine uR zz ?_|refine uK ?_|refine Aw zz ?_|(refine uN hK ?_;clear hK)|apply zI));refine uU (Aj k1 k2 q1) (Fb (s:=name) hnm') ?_;(try apply zI);replace zz:=AS k1 k2 q1 q2;refine uU zz (LJ hal hfc) ?_;replace zz:=AK k1 k2 q1 q2 yF yT;(repeat'(first|refine AI λK hK=>?_|refine uR zz ?_|refine uT zz ?_|(refine uN hK ?_;clear hK)|apply zI));all_goals first|exact G1|exact⟨rfl,G1⟩
    |true=>
     replace zz:=uu k1 k2;(repeat'(first|refine AI λK hK=>?_|refine uR zz ?_|refine uK ?_|refine Aw zz ?_|(refine uN hK ?_;clear hK)|apply zI));refine uU (Aj k1 k2 q1) (Fb (s:=name) hnm') ?_;(try apply zI);replace zz:=AS k1 k2 q1 q2;refine uU zz (LJ hal hfc) ?_;replace zz:=AK k1 k2 q1 q2 yF yT;(repeat'(first|refine Bl ?_|refine uK ?_|(refine uN hK ?_;clear hK)|apply zI));simp only[Ty.w,simprocAttr,Ty.AU,Fm.cells];exact⟨0,0,false,by simp[CW,(show A3 op BH=true from k1)],λ_=>by simp[DT,(show A3 op BH=true from k1),q1,q2],rfl,rfl,rfl⟩
  |false=>
   cases k2:(op.data.toList==(#[115,97,109,101]:Array UInt8).toList)with
   |true=>
    cases q1:(name.data.toList==(#[]:Array UInt8).toList)with
    |false=>
     have hp:=hFf (by simp[DA,CW,DT,(show A3 op BH=false from k1),(show A3 op Ba=true from k2),(show Ey name=false from q1)]);subst hp;replace zz:=AS k1 k2 q1 yF;(repeat'(first|refine AI λK hK=>?_|refine uR zz ?_|refine uT zz ?_|refine Aw zz ?_|(refine uN hK ?_;clear hK)|apply zI));all_goals first|exact G1|exact⟨rfl,G1⟩
    |true=>
     cases q2:((args.length:Int)==2)with
     |false=>
      have hp:=hFf (by simp[DA,CW,DT,(show A3 op BH=false from k1),(show A3 op Ba=true from k2),(show Ey name=true from q1),(show ¬ args.length=2 by simp at q2;omega)]);subst hp;have q2p:=BF (Lt q2);have q2i:¬ args.length=2:=(by have:=Lt q2;omega);(repeat'(first|refine AI λK hK=>?_|((first|refine Bp ?_|refine Ea ?_);simp only[Ty.w,simprocAttr,k1,k2,q1,q2,q2p,hlA,Ab,Al,Cd,Cb,AC,AD])|(refine DQ _ (by(try simp only[Ty.w,simprocAttr,k1,k2,q1,q2,q2p,hlA,Ab,Al,Cd,Cb,AC,AD]);rfl) (λhb=>?_) (λhb=>?_)<;>(try simp only[BI,BQ,CE,simprocAttr]at hb)<;>(try(exfalso;omega)))|(with_reducible refine GM (λhb=>?_) (λhb=>?_)<;>(try simp only[GD]at hb)<;>(try simp only[hb,AC,AD,Cd,Cb, ↓reduceIte])<;>(try simp only[BI,BQ,CE,simprocAttr]at hb)<;>(try(exfalso;omega)))|(refine hK _ _ ?_;clear hK;(try simp only[B2,simprocAttr]))));all_goals first|exact G1|exact⟨rfl,G1⟩
     |true=>
      cases q3:args.all BS with
      |false=>
       have hp:=hFf (by simp[DA,CW,DT,(show A3 op BH=false from k1),(show A3 op Ba=true from k2),(show Ey name=true from q1),(show args.length=2 by simp at q2;omega),q3]);subst hp;have q2p:=IK (eq_of_beq q2);have q2i:args.length=2:=(by have:=eq_of_beq q2;omega);(repeat'(first|refine AI λK hK=>?_|(refine Bp ?_;simp only[Ty.w,simprocAttr,k1,k2,q1,q2,q2p,hlA,Ab,Cd,Cb,AC,AD])|(refine DQ _ (by(try simp only[Ty.w,simprocAttr,k1,k2,q1,q2,q2p,hlA,Ab,Cd,Cb,AC,AD]);rfl) (λhb=>?_) (λhb=>?_)<;>(try simp only[BI,BQ,CE,simprocAttr]at hb)<;>(try(exfalso;omega)))|(with_reducible refine GM (λhb=>?_) (λhb=>?_)<;>(try simp only[GD]at hb)<;>(try simp only[hb,AC,AD,Cd,Cb, ↓reduceIte])<;>(try simp only[BI,BQ,CE,simprocAttr]at hb)<;>(try(exfalso;omega)))|(refine hK _ _ ?_;clear hK;(try simp only[B2,simprocAttr]))));replace zz:=AV k1 k2 q1 q2 q3;refine uU zz (LJ hal hfc) ?_;(repeat'(first|refine AI λK hK=>?_|((first|refine Bp ?_|refine Ea ?_);simp only[Ty.w,simprocAttr,k1,k2,q1,q2,q2p,q3,Al,Ab,Cd,Cb,AC,AD])|(refine hK _ _ ?_;clear hK;(try simp only[B2,simprocAttr]))));all_goals first|exact G1|exact⟨rfl,G1⟩
      |true=>
       have q2p:=IK (eq_of_beq q2);have q2i:args.length=2:=(by have:=eq_of_beq q2;omega);(repeat'(first|refine AI λK hK=>?_|(refine Bp ?_;simp only[Ty.w,simprocAttr,k1,k2,q1,q2,q2p,hlA,Ab,Cd,Cb,AC,AD])|(refine DQ _ (by(try simp only[Ty.w,simprocAttr,k1,k2,q1,q2,q2p,hlA,Ab,Cd,Cb,AC,AD]);rfl) (λhb=>?_) (λhb=>?_)<;>(try simp only[BI,BQ,CE,simprocAttr]at hb)<;>(try(exfalso;omega)))|(with_reducible refine GM (λhb=>?_) (λhb=>?_)<;>(try simp only[GD]at hb)<;>(try simp only[hb,AC,AD,Cd,Cb, ↓reduceIte])<;>(try simp only[BI,BQ,CE,simprocAttr]at hb)<;>(try(exfalso;omega)))|(refine hK _ _ ?_;clear hK;(try simp only[B2,simprocAttr]))));replace zz:=AV k1 k2 q1 q2 q3;refine uU zz (LJ hal hfc) ?_;(repeat'(first|(refine Bl ?_)|(refine EH ?_;(try simp only[B2,simprocAttr]))|(refine hK _ _ ?_;clear hK;(try simp only[B2,simprocAttr]))));simp only[Ty.w,simprocAttr,Ty.AU,Fm.cells];exact⟨0,0,false,by simp[CW,(show A3 op BH=false from k1),(show A3 op Ba=true from k2)],λ_=>by simp[DT,(show A3 op BH=false from k1),(show A3 op Ba=true from k2),(show Ey name=true from q1),(show args.length=2 by simp at q2;omega),q3],rfl,rfl,rfl⟩
   |false=>
    cases k3:(op.data.toList==(#[60]:Array UInt8).toList)with
    |true=>
     replace zz:=AS k1 k2 k3 hlK;(repeat'(first|refine AI λK hK=>?_|refine Bl ?_|refine uR zz ?_|refine uQ zz λK hK=>?_|refine uK ?_|refine Aw zz ?_|(refine uN hK ?_;clear hK)|apply zI));simp only[Ty.w,simprocAttr,Ty.AU,Fm.cells];exact⟨2,0,false,by simp[CW,(show A3 op BH=false from k1),(show A3 op Ba=false from k2),(show A3 op CK=true from k3)],λhh=>by simp[(show A3 op BH=false from k1),(show A3 op Ba=false from k2)]at hh,rfl,rfl,rfl⟩
    |false=>
     cases k4:(op.data.toList==(#[60,61]:Array UInt8).toList)with
     |true=>
      replace zz:=AV k1 k2 k3 k4 hlK;(repeat'(first|refine AI λK hK=>?_|refine Bl ?_|refine uR zz ?_|refine uQ zz λK hK=>?_|refine uK ?_|refine Aw zz ?_|(refine uN hK ?_;clear hK)|apply zI));simp only[Ty.w,simprocAttr,Ty.AU,Fm.cells];exact⟨2,0,false,by simp[CW,(show A3 op BH=false from k1),(show A3 op Ba=false from k2),(show A3 op CK=false from k3),(show A3 op Ce=true from k4)],λhh=>by simp[(show A3 op BH=false from k1),(show A3 op Ba=false from k2)]at hh,rfl,rfl,rfl⟩
     |false=>
      cases k5:(op.data.toList==(#[61]:Array UInt8).toList)with
      |true=>
       replace zz:=AK k1 k2 k3 k4 k5 hlK;(repeat'(first|refine AI λK hK=>?_|refine Bl ?_|refine uR zz ?_|refine uQ zz λK hK=>?_|refine Aw zz ?_|(refine uN hK ?_;clear hK)|apply zI));simp only[Ty.w,simprocAttr,Ty.AU,Fm.cells];exact⟨2,0,false,by simp[CW,(show A3 op BH=false from k1),(show A3 op Ba=false from k2),(show A3 op CK=false from k3),(show A3 op Ce=false from k4),(show A3 op CS=true from k5)],λhh=>by simp[(show A3 op BH=false from k1),(show A3 op Ba=false from k2)]at hh,rfl,rfl,rfl⟩
      |false=>
       cases k6:(op.data.toList==(#[97,110,100]:Array UInt8).toList)with
       |true=>
        replace zz:=AY k1 k2 k3 k4 k5 k6 hlK;(repeat'(first|refine AI λK hK=>?_|refine Bl ?_|refine uR zz ?_|refine uQ zz λK hK=>?_|refine uK ?_|refine Aw zz ?_|(refine uN hK ?_;clear hK)|apply zI));simp only[Ty.w,simprocAttr,Ty.AU,Fm.cells];exact⟨0,kids.length,false,by simp[CW,(show A3 op BH=false from k1),(show A3 op Ba=false from k2),(show A3 op CK=false from k3),(show A3 op Ce=false from k4),(show A3 op CS=false from k5),(show A3 op C5=true from k6)],λhh=>by simp[(show A3 op BH=false from k1),(show A3 op Ba=false from k2)]at hh,rfl,rfl,rfl⟩
       |false=>
        cases k7:(op.data.toList==(#[111,114]:Array UInt8).toList)with
        |true=>
         replace zz:=B6 k1 k2 k3 k4 k5 k6 k7 hlK;(repeat'(first|refine AI λK hK=>?_|refine Bl ?_|refine uR zz ?_|refine uQ zz λK hK=>?_|refine Aw zz ?_|(refine uN hK ?_;clear hK)|apply zI));simp only[Ty.w,simprocAttr,Ty.AU,Fm.cells];exact⟨0,kids.length,false,by simp[CW,(show A3 op BH=false from k1),(show A3 op Ba=false from k2),(show A3 op CK=false from k3),(show A3 op Ce=false from k4),(show A3 op CS=false from k5),(show A3 op C5=false from k6),(show A3 op Fh=true from k7)],λhh=>by simp[(show A3 op BH=false from k1),(show A3 op Ba=false from k2)]at hh,rfl,rfl,rfl⟩
        |false=>
         cases k8:(op.data.toList==(#[110,111,116]:Array UInt8).toList)with
         |true=>
          replace zz:=BR k1 k2 k3 k4 k5 k6 k7 k8 hlK;(repeat'(first|refine AI λK hK=>?_|refine Bl ?_|refine uR zz ?_|refine uQ zz λK hK=>?_|refine Aw zz ?_|(refine uN hK ?_;clear hK)|apply zI));simp only[Ty.w,simprocAttr,Ty.AU,Fm.cells];exact⟨0,1,false,by simp[CW,(show A3 op BH=false from k1),(show A3 op Ba=false from k2),(show A3 op CK=false from k3),(show A3 op Ce=false from k4),(show A3 op CS=false from k5),(show A3 op C5=false from k6),(show A3 op Fh=false from k7),(show A3 op E8=true from k8)],λhh=>by simp[(show A3 op BH=false from k1),(show A3 op Ba=false from k2)]at hh,rfl,rfl,rfl⟩
         |false=>
          cases k9:(op.data.toList==(#[105,109,112,108,121]:Array UInt8).toList)with
          |true=>
           replace zz:=Aq k1 k2 k3 k4 k5 k6 k7 k8 k9 hlK;(repeat'(first|refine AI λK hK=>?_|refine Bl ?_|refine uR zz ?_|refine uQ zz λK hK=>?_|refine Aw zz ?_|(refine uN hK ?_;clear hK)|apply zI));simp only[Ty.w,simprocAttr,Ty.AU,Fm.cells];exact⟨0,2,false,by simp[CW,(show A3 op BH=false from k1),(show A3 op Ba=false from k2),(show A3 op CK=false from k3),(show A3 op Ce=false from k4),(show A3 op CS=false from k5),(show A3 op C5=false from k6),(show A3 op Fh=false from k7),(show A3 op E8=false from k8),(show A3 op GO=true from k9)],λhh=>by simp[(show A3 op BH=false from k1),(show A3 op Ba=false from k2)]at hh,rfl,rfl,rfl⟩
          |false=>
           cases k10:(op.data.toList==(#[102,111,114,97,108,108]:Array UInt8).toList)with
           |true=>
            replace zz:=Cv k1 k2 k3 k4 k5 k6 k7 k8 k9 k10 hlK;(repeat'(first|refine AI λK hK=>?_|refine Bl ?_|refine uR zz ?_|refine uQ zz λK hK=>?_|refine uK ?_|refine Aw zz ?_|(refine uN hK ?_;clear hK)|apply zI));simp only[Ty.w,simprocAttr,Ty.AU,Fm.cells];exact⟨0,1,true,by simp[CW,(show A3 op BH=false from k1),(show A3 op Ba=false from k2),(show A3 op CK=false from k3),(show A3 op Ce=false from k4),(show A3 op CS=false from k5),(show A3 op C5=false from k6),(show A3 op Fh=false from k7),(show A3 op E8=false from k8),(show A3 op GO=false from k9),(show A3 op DJ=true from k10)],λhh=>by simp[(show A3 op BH=false from k1),(show A3 op Ba=false from k2)]at hh,rfl,rfl,rfl⟩
           |false=>
            cases k11:(op.data.toList==(#[101,120,105,115,116,115]:Array UInt8).toList)with
            |true=>
             replace zz:=AJ k1 k2 k3 k4 k5 k6 k7 k8 k9 k10 k11 hlK;(repeat'(first|refine AI λK hK=>?_|refine Bl ?_|refine uR zz ?_|refine uQ zz λK hK=>?_|refine Aw zz ?_|(refine uN hK ?_;clear hK)|apply zI));simp only[Ty.w,simprocAttr,Ty.AU,Fm.cells];exact⟨0,1,true,by simp[CW,(show A3 op BH=false from k1),(show A3 op Ba=false from k2),(show A3 op CK=false from k3),(show A3 op Ce=false from k4),(show A3 op CS=false from k5),(show A3 op C5=false from k6),(show A3 op Fh=false from k7),(show A3 op E8=false from k8),(show A3 op GO=false from k9),(show A3 op DJ=false from k10),(show A3 op Fi=true from k11)],λhh=>by simp[(show A3 op BH=false from k1),(show A3 op Ba=false from k2)]at hh,rfl,rfl,rfl⟩
            |false=>
             have hp:=hFf (by simp[DA,CW,DT,(show A3 op BH=false from k1),(show A3 op Ba=false from k2),(show A3 op CK=false from k3),(show A3 op Ce=false from k4),(show A3 op CS=false from k5),(show A3 op C5=false from k6),(show A3 op Fh=false from k7),(show A3 op E8=false from k8),(show A3 op GO=false from k9),(show A3 op DJ=false from k10),(show A3 op Fi=false from k11)]);subst hp;replace zz:=Cv k1 k2 k3 k4 k5 k6 k7 k8 k9 k10 k11;(repeat'(first|refine AI λK hK=>?_|refine uR zz ?_|refine uT zz ?_|refine Aw zz ?_|(refine uN hK ?_;clear hK)|apply zI));all_goals first|exact G1|exact⟨rfl,G1⟩
 ·rintro S h' ⟨rfl,g1,g2,g3,e,m,q,hs,ht,g7,g8,g9⟩;simp only[Fm.cells]at g3;have hO:KQ op name args params.length exprs.length kids.length=(DT op name args&&decide (exprs.length=e)&&decide (kids.length=m)&&(decide (params.length=0)||q)):=by unfold KQ;rw[hs]
  repeat'(first|with_reducible refine KB 24 ?_|apply zI)
  refine⟨?_⟩;refine CF (λS h2=>h2=h'/\S 1= .sc (.int .i64 d)/\S 2= .ptr id 0 0/\S 3= .cptr (Fm.mk op name args params exprs kids).cells/\KQ op name args params.length exprs.length kids.length=true) ?_ ?_
  ·have hFh:KQ op name args params.length exprs.length kids.length=false->F=(false,n+1):=λhh=>hFf (by rw[PE,hh];try rfl);have tA:A3 op BH=(op.data.toList==(#[97,116,111,109]:Array UInt8).toList):=rfl;have tS:A3 op Ba=(op.data.toList==(#[115,97,109,101]:Array UInt8).toList):=rfl;clear hFf hFt ih hs;refine AI (λK hK=>?_);refine Bp (ZA 20 (λS h2=>h2=h'/\S 1= .sc (.int .i64 d)/\S 2= .ptr id 0 0/\S 3= .cptr (Fm.mk op name args params exprs kids).cells/\S 7= .sc (.int .i64 e)/\S 8= .sc (.bool q)/\S 9= .sc (.int .i64 m)/\ ∃ b,S 91= .sc (.bool b)/\(b=true->F=(false,n+1))/\(b=false->DT op name args=true)) ?_ ?_)
   ·cases k1:(op.data.toList==(#[97,116,111,109]:Array UInt8).toList)with
    |true=>
     simp only[Ty.w,simprocAttr,Ty.AU,g1,g2,g3,g7,g8,g9,hlA,k1,Ab,Al,Fm.cells];exact⟨false,rfl,λhh=>absurd hh (by simp),λ_=>ht (by rw[tA,k1];try rfl)⟩
    |false=>
     cases k2:(op.data.toList==(#[115,97,109,101]:Array UInt8).toList)with
     |true=>
      simp only[Ty.w,simprocAttr,Ty.AU,g1,g2,g3,g7,g8,g9,hlA,k1,k2,Ab,Al,Fm.cells];exact⟨false,rfl,λhh=>absurd hh (by simp),λ_=>ht (by rw[tS,k2];simp)⟩
     |false=>
      cases q1:(name.data.toList==(#[]:Array UInt8).toList)with
      |false=>
       simp only[Ty.w,simprocAttr,Ty.AU,g1,g2,g3,g7,g8,g9,hlA,k1,k2,q1,Ab,Al,Fm.cells];exact⟨true,rfl,λ_=>hFh (by rw[hO];simp[DT,tA,tS,k1,k2,(show Ey name=false from q1)]),λhh=>absurd hh (by simp)⟩
      |true=>
       cases q2:decide ((args.length:Int)>0)with
       |true=>
        simp only[Ty.w,simprocAttr,Ty.AU,g1,g2,g3,g7,g8,g9,hlA,k1,k2,q1,q2,Ab,Al,Fm.cells];exact⟨true,rfl,λ_=>hFh (by rw[hO];cases args with|nil=>simp at q2|cons a l=>simp[DT,tA,tS,k1,k2]),λhh=>absurd hh (by simp)⟩
       |false=>
        simp only[Ty.w,simprocAttr,Ty.AU,g1,g2,g3,g7,g8,g9,hlA,k1,k2,q1,q2,Ab,Al,Fm.cells];exact⟨false,rfl,λhh=>absurd hh (by simp),λ_=>by cases args with|nil=>simp[DT,tA,tS,k1,k2,(show Ey name=true from q1)]|cons a l=>simp at q2⟩
   ·clear g1 g2 g3 g7 g8 g9;rintro S h2 ⟨rfl,g1,g2,g3,g7,g8,g9,b,g91,hbt,hbf⟩;simp only[Fm.cells]at g3;clear ht tA tS;cases b with
    |true=>
     have hp:=hbt rfl;subst hp;simp only[Ty.w,simprocAttr,Ty.AU,g1,g2,g3,g91,Ab,Al];replace zz:=AS g1 g2 g3 g91;(repeat'(first|refine AI λK hK=>?_|refine uR zz ?_|refine uT zz ?_|(refine uN hK ?_;clear hK)|apply zI));all_goals first|exact G1|exact⟨rfl,G1⟩
    |false=>
     have hts:=hbf rfl;clear hbt hbf;cases c1:((exprs.length:Int)==(e:Int))with
     |false=>
      have hp:=hFh (by rw[hO];simp[(show ¬ exprs.length=e by simp at c1;omega)]);subst hp;have c1p:=BF (Lt c1);have c1i:¬ exprs.length=e:=(by have:=Lt c1;omega);simp(maxSteps:=2000000) only[Ty.w,simprocAttr,Ty.AU,g1,g2,g3,g7,g8,g9,hlA,hlP,hlE,hlK,g91,c1,c1p,Ab,Al,Cd,Cb,AC,AD];(repeat'(first|refine AI λK hK=>?_|((first|refine Bp ?_|refine Ea ?_);simp(maxSteps:=2000000) only[Ty.w,simprocAttr,g1,g2,g3,g7,g8,g9,hlA,hlP,hlE,hlK,g91,c1,c1p,Ab,Al,Cd,Cb,AC,AD])|(with_reducible refine GM (λhb=>?_) (λhb=>?_)<;>(try simp only[GD]at hb)<;>(try simp only[hb,AC,AD,Cd,Cb, ↓reduceIte])<;>(try simp only[BI,BQ,CE,simprocAttr]at hb)<;>(try(exfalso;omega)))|(refine hK _ _ ?_;clear hK;(try simp only[B2,simprocAttr]))));all_goals first|exact G1|exact⟨rfl,G1⟩
     |true=>
      have c1p:=IK (eq_of_beq c1);have c1i:exprs.length=e:=(by have:=eq_of_beq c1;omega);cases c2:((kids.length:Int)==(m:Int))with
      |false=>
       have c2p:=BF (Lt c2);have c2i:¬ kids.length=m:=(by have:=Lt c2;omega);have hp:=hFh (by rw[hO];simp[(show ¬ kids.length=m by simp at c2;omega)]);subst hp;simp(maxSteps:=2000000) only[Ty.w,simprocAttr,Ty.AU,g1,g2,g3,g7,g8,g9,hlA,hlP,hlE,hlK,g91,c1,c2,c1p,c2p,Ab,Al,Cd,Cb,AC,AD];(repeat'(first|refine AI λK hK=>?_|((first|refine Bp ?_|refine Ea ?_);simp(maxSteps:=2000000) only[Ty.w,simprocAttr,g1,g2,g3,g7,g8,g9,hlA,hlP,hlE,hlK,g91,c1,c2,c1p,c2p,Ab,Al,Cd,Cb,AC,AD])|(with_reducible refine GM (λhb=>?_) (λhb=>?_)<;>(try simp only[GD]at hb)<;>(try simp only[hb,AC,AD,Cd,Cb, ↓reduceIte])<;>(try simp only[BI,BQ,CE,simprocAttr]at hb)<;>(try(exfalso;omega)))|(refine hK _ _ ?_;clear hK;(try simp only[B2,simprocAttr]))));all_goals first|exact G1|exact⟨rfl,G1⟩
      |true=>
       have c2p:=IK (eq_of_beq c2);have c2i:kids.length=m:=(by have:=eq_of_beq c2;omega);cases c3:decide ((params.length:Int)>0)with
       |false=>
        have c3e:params=[]:=List.eq_nil_of_length_eq_zero (by have:=Px c3;omega);simp(maxSteps:=2000000) only[Ty.w,simprocAttr,Ty.AU,g1,g2,g3,g7,g8,g9,hlA,hlP,hlE,hlK,g91,c1,c2,c3,c1p,c2p,Ab,Al,Cd,Cb,AC,AD];(repeat'(first|(refine EH ?_;(try simp only[B2,simprocAttr]))|(refine DQ _ (by(try simp(maxSteps:=2000000) only[Ty.w,simprocAttr,g1,g2,g3,g7,g8,g9,hlA,hlP,hlE,hlK,g91,c1,c2,c3,c1p,c2p,Ab,Al,Cd,Cb,AC,AD]);rfl) (λhb=>?_) (λhb=>?_)<;>(try simp only[BI,BQ,CE,simprocAttr]at hb)<;>(try(exfalso;omega)))|(with_reducible refine GM (λhb=>?_) (λhb=>?_)<;>(try simp only[GD]at hb)<;>(try simp only[hb,AC,AD,Cd,Cb, ↓reduceIte])<;>(try simp only[BI,BQ,CE,simprocAttr]at hb)<;>(try(exfalso;omega)))|(refine hK _ _ ?_;clear hK;(try simp only[B2,simprocAttr]))));simp only[Ty.w,simprocAttr,Ty.AU,g1,g2,g3,Fm.cells];rw[hO,hts];simp[(show exprs.length=e by simp at c1;omega),(show kids.length=m by simp at c2;omega),c3e]
       |true=>
        cases q with
        |false=>
         have hp:=hFh (by rw[hO];simp[(show ¬ params.length=0 by have:=J0 c3;omega)]);subst hp;simp(maxSteps:=2000000) only[Ty.w,simprocAttr,Ty.AU,g1,g2,g3,g7,g8,g9,hlA,hlP,hlE,hlK,g91,c1,c2,c3,c1p,c2p,Ab,Al,Cd,Cb,AC,AD];(repeat'(first|refine AI λK hK=>?_|((first|refine Bp ?_|refine Ea ?_);simp(maxSteps:=2000000) only[Ty.w,simprocAttr,g1,g2,g3,g7,g8,g9,hlA,hlP,hlE,hlK,g91,c1,c2,c3,c1p,c2p,Ab,Al,Cd,Cb,AC,AD])|(with_reducible refine GM (λhb=>?_) (λhb=>?_)<;>(try simp only[GD]at hb)<;>(try simp only[hb,AC,AD,Cd,Cb, ↓reduceIte])<;>(try simp only[BI,BQ,CE,simprocAttr]at hb)<;>(try(exfalso;omega)))|(refine hK _ _ ?_;clear hK;(try simp only[B2,simprocAttr]))));all_goals first|exact G1|exact⟨rfl,G1⟩
        |true=>
         simp(maxSteps:=2000000) only[Ty.w,simprocAttr,Ty.AU,g1,g2,g3,g7,g8,g9,hlA,hlP,hlE,hlK,g91,c1,c2,c3,c1p,c2p,Ab,Al,Cd,Cb,AC,AD];(repeat'(first|(refine EH ?_;(try simp only[B2,simprocAttr]))|(refine DQ _ (by(try simp(maxSteps:=2000000) only[Ty.w,simprocAttr,g1,g2,g3,g7,g8,g9,hlA,hlP,hlE,hlK,g91,c1,c2,c3,c1p,c2p,Ab,Al,Cd,Cb,AC,AD]);rfl) (λhb=>?_) (λhb=>?_)<;>(try simp only[BI,BQ,CE,simprocAttr]at hb)<;>(try(exfalso;omega)))|(with_reducible refine GM (λhb=>?_) (λhb=>?_)<;>(try simp only[GD]at hb)<;>(try simp only[hb,AC,AD,Cd,Cb, ↓reduceIte])<;>(try simp only[BI,BQ,CE,simprocAttr]at hb)<;>(try(exfalso;omega)))|(refine hK _ _ ?_;clear hK;(try simp only[B2,simprocAttr]))));simp only[Ty.w,simprocAttr,Ty.AU,g1,g2,g3,Fm.cells];rw[hO,hts];simp[(show exprs.length=e by simp at c1;omega),(show kids.length=m by simp at c2;omega)]
  ·clear g1 g2 g3 g7 g8 g9 ht hO hs;rintro S h2 ⟨rfl,g1,g2,g3,hH⟩;simp only[Fm.cells]at g3;(repeat'(first|with_reducible refine KB 26 ?_|apply zI));refine⟨?_⟩;refine CF (λS h'=>S 1= .sc (.int .i64 d)/\S 2= .ptr id 0 0/\S 3= .cptr (Fm.mk op name args params exprs kids).cells/\Bq h id (CD (n+1)) h'/\params.all FC=true) ?_ ?_
   ·have hFp:params.all FC=false->F=(false,n+1):=λhh=>hFf (by rw[PE,hh];simp);clear hFf hFt ih;replace zz:=AS g1 g2 g3 hlP;(repeat'(first|refine AI λK hK=>?_|refine Bl ?_|refine uR zz ?_|(refine uN hK ?_;clear hK)|apply zI));refine BV (λc S h'=>S 1= .sc (.int .i64 d)/\S 2= .ptr id 0 0/\S 3= .cptr (Fm.mk op name args params exprs kids).cells/\S 116= .imm 2 (A7 params)/\S 117= .sc (.int .i64 params.length)/\ ∃ k:Nat,S 118= .sc (.int .i64 k)/\k<=params.length/\c=params.length-k/\Bq h id (CD (n+1)) h'/\params.all FC=(params.drop k).all FC) params.length ?_ ?_
    ·simp only[Ty.w,simprocAttr,g1,g2,g3,Fm.cells];exact⟨0,rfl,by omega,rfl,G1,rfl⟩
    ·clear G1 hO1 g1 g2 g3;rintro c S h' ⟨g1,g2,g3,g116,g117,k,g118,hk,rfl,hG,hall⟩;simp only[Fm.cells]at g3;by_cases hlt:k<params.length
     ·have hdk:decide ((k:Int)<(params.length:Int))=true:=(by simp;omega);have w7:IntKind.i64.wrap ((k:Int)+1)=k+1:=(by rw[B9 (by omega) (by omega)]);obtain⟨p,hx⟩: ∃ p,params[k]? =some p:=⟨_,List.getElem?_eq_getElem hlt⟩;have hr:=Hu hx;have hpk:=hps p (List.mem_of_getElem? hx);obtain⟨hp1,hp2⟩:=hpk;have hp1':p.name.size<=9223372036854775807:=(by unfold AE at hp1;omega);have hG2:Bq h id (CD (n+1)) ((h'.new (.arr 2 [[.sc (.string ⟨#[]⟩),.sc (.string ⟨#[]⟩)]])).set h'.next (.arr 2 [[A1 p.name,A1 p.type]])):=(hG.new hid).set hid hG.le;rw[PF hx]at hall;simp only[List.all_cons,FC]at hall;cases v1:D7 p.name with
      |false=>
       have hp:=hFp (by rw[hall,v1];try rfl);subst hp;replace zz:=B6 g1 g2 g3 g116 g117 g118 hdk hr;(repeat'(first|refine AI λK hK=>?_|refine uR zz ?_|refine uK ?_|refine Aw zz ?_|(refine uN hK ?_;clear hK)|apply zI));replace zz:=AY g1 g2 g3 g116 g117 g118 v1;refine uU zz (K8 (s:=p.name) hp1') ?_;replace zz:=B6 g1 g2 g3 g116 g117 g118 v1 yF;(repeat'(first|refine AI λK hK=>?_|refine uR zz ?_|refine uT zz ?_|(refine uN hK ?_;clear hK)|apply zI));first|exact hG2|exact⟨rfl,hG2⟩
      |true=>
       cases v2:JS p.type with
       |false=>
        have hp:=hFp (by rw[hall,v1,v2];try rfl);subst hp;replace zz:=B6 g1 g2 g3 g116 g117 g118 hdk hr;(repeat'(first|refine AI λK hK=>?_|refine uR zz ?_|refine uK ?_|refine Aw zz ?_|(refine uN hK ?_;clear hK)|apply zI));replace zz:=AY g1 g2 g3 g116 g117 g118 v1;refine uU zz (K8 (s:=p.name) hp1') ?_;(try apply zI);replace zz:=B6 g1 g2 g3 g116 g117 g118 v1 v2;refine uU zz (S2 (s:=p.type) hp2) ?_;replace zz:=Aq g1 g2 g3 g116 g117 g118 v1 v2 yF yT;(repeat'(first|refine AI λK hK=>?_|refine uR zz ?_|refine uT zz ?_|(refine uN hK ?_;clear hK)|apply zI));first|exact hG2|exact⟨rfl,hG2⟩
       |true=>
        rw[v1,v2]at hall;replace zz:=B6 g1 g2 g3 g116 g117 g118 hdk hr;(repeat'(first|refine AI λK hK=>?_|refine uR zz ?_|refine uK ?_|refine Aw zz ?_|(refine uN hK ?_;clear hK)|apply zI));replace zz:=AY g1 g2 g3 g116 g117 g118 v1;refine uU zz (K8 (s:=p.name) hp1') ?_;(try apply zI);replace zz:=B6 g1 g2 g3 g116 g117 g118 v1 v2;refine uU zz (S2 (s:=p.type) hp2) ?_;replace zz:=Aq g1 g2 g3 g116 g117 g118 v1 v2 w7 yT;(repeat'(first|refine Bl ?_|refine uR zz ?_|refine uK ?_|(refine uN hK ?_;clear hK)|apply zI));exact⟨params.length-(k+1),by omega,by simp only[Fm.cells],k+1,by simp,by omega,rfl,hG2,by simpa using hall⟩
     ·have hdk:decide ((k:Int)<(params.length:Int))=false:=(by simp;omega);rw[List.drop_eq_nil_of_le (by omega)]at hall;replace zz:=AY g1 g2 g3 g116 g117 g118 hdk;(repeat'(first|refine AI λK hK=>?_|refine uR zz ?_|refine uX ?_|refine Aw zz ?_|(refine uN hK ?_;clear hK)|apply zI));simp only[Ty.w,simprocAttr,Ty.AU,g1,g2,g3,Fm.cells];exact⟨hG,hall⟩
   ·clear g1 g2 g3 G1 hO1;rintro S h' ⟨g1,g2,g3,hG,hall⟩;simp only[Fm.cells]at g3;have hFe:=hFt (by rw[PE,hH,hall];try rfl);clear hFt hFf hH hall;(repeat'(first|with_reducible refine KB 32 ?_|apply zI));refine⟨?_⟩;refine CF (λS h'=>S 1= .sc (.int .i64 d)/\S 2= .ptr id 0 0/\S 3= .cptr (Fm.mk op name args params exprs kids).cells/\ ∃ n':Nat,n'<=4096/\Bq h id (CD n') h'/\F=Eb kids (d+1) n') ?_ ?_
    ·clear ih;replace zz:=AS g1 g2 g3 hlE;(repeat'(first|refine AI λK hK=>?_|refine Bl ?_|refine uR zz ?_|(refine uN hK ?_;clear hK)|apply zI));refine BV (λc S h'=>S 1= .sc (.int .i64 d)/\S 2= .ptr id 0 0/\S 3= .cptr (Fm.mk op name args params exprs kids).cells/\S 134= .imm 5 (Ex.rows exprs)/\S 135= .sc (.int .i64 exprs.length)/\ ∃ k n':Nat,S 136= .sc (.int .i64 k)/\k<=exprs.length/\c=exprs.length-k/\n'<=4096/\Bq h id (CD n') h'/\F=(match El (exprs.drop k) (d+1) n' with
      |(true,c')=>Eb kids (d+1) c'
      |(false,c')=>(false,c'))) exprs.length ?_ ?_
     ·simp only[Ty.w,simprocAttr,g1,g2,g3,Fm.cells];exact⟨0,n+1,rfl,by omega,rfl,by omega,hG,hFe⟩
     ·clear g1 g2 g3 hG hFe;rintro c S h' ⟨g1,g2,g3,g134,g135,k,n',g136,hk,rfl,hn',hG,hFe⟩;simp only[Fm.cells]at g3;by_cases hlt:k<exprs.length
      ·have hdk:decide ((k:Int)<(exprs.length:Int))=true:=(by simp;omega);have w7:IntKind.i64.wrap ((k:Int)+1)=k+1:=(by rw[B9 (by omega) (by omega)]);obtain⟨x,hx⟩: ∃ x,exprs[k]? =some x:=⟨_,List.getElem?_eq_getElem hlt⟩;have hmem:=List.mem_of_getElem? hx;have hr:=Ex.rows_get hx;have hne:id≠h'.next:=by have:=hG.le;omega
       have hcx:=S1 x (hes x hmem) (d+1) n' (by omega) hn' id ((h'.new (.arr 5 [[.sc (.string ⟨#[]⟩),.sc (.string ⟨#[]⟩),.sc (.int .i64 0),.sc (.slice none 0 0),.sc (.slice none 0 0)]])).set h'.next (.arr 5 [x.cells])) (by simp only[A0.set,A0.new];rw[A4 hne,A4 hne];exact hG.at_);have hG2:Bq h id (CD n') ((h'.new (.arr 5 [[.sc (.string ⟨#[]⟩),.sc (.string ⟨#[]⟩),.sc (.int .i64 0),.sc (.slice none 0 0),.sc (.slice none 0 0)]])).set h'.next (.arr 5 [x.cells])):=(hG.new hid).set hid hG.le;have hle:=OY x (d+1) n';rw[PF hx]at hFe;simp only[El]at hFe;generalize D8 x (d+1) n'=V at hcx hle hFe;obtain⟨b,n''⟩:=V;simp only[JQ]at hcx hle hFe;obtain⟨xo,xn,xv,xa,xk⟩:=x;simp only[Ex.cells]at hr hcx hG2;replace zz:=BR g1 g2 g3 g134 g135 g136 hdk hr wd;(repeat'(first|refine AI λK hK=>?_|refine uR zz ?_|refine uK ?_|refine Aw zz ?_|(refine uN hK ?_;clear hK)|apply zI));refine CV (hcx) (sr (B6 g1 g2 g3 g134 g135 g136 hr wd)) ?_;simp only[Ty.w,simprocAttr,g1,g2,g3,g134,g135,g136,hr,wd];cases b with
       |false=>
        simp only at hFe;subst hFe;replace zz:=AY g1 g2 g3 g134 g135 g136 yF;(repeat'(first|refine AI λK hK=>?_|refine uR zz ?_|refine uT zz ?_|(refine uN hK ?_;clear hK)|apply zI));first|exact hG2.put|exact⟨rfl,hG2.put⟩
       |true=>
        simp only at hFe;replace zz:=B6 g1 g2 g3 g134 g135 g136 w7 yT;(repeat'(first|refine Bl ?_|refine uR zz ?_|refine uK ?_|(refine uN hK ?_;clear hK)|apply zI));exact⟨exprs.length-(k+1),by omega,by simp only[Fm.cells],k+1,n'',by simp,by omega,rfl,hle rfl,hG2.put,hFe⟩
      ·have hdk:decide ((k:Int)<(exprs.length:Int))=false:=(by simp;omega);rw[List.drop_eq_nil_of_le (by omega)]at hFe;simp only[El]at hFe;replace zz:=AY g1 g2 g3 g134 g135 g136 hdk;(repeat'(first|refine AI λK hK=>?_|refine uR zz ?_|refine uX ?_|refine Aw zz ?_|(refine uN hK ?_;clear hK)|apply zI));simp only[Ty.w,simprocAttr,Ty.AU,g1,g2,g3,Fm.cells];exact⟨n',hn',hG,hFe⟩
    ·clear g1 g2 g3 hG hFe;rintro S h' ⟨g1,g2,g3,n0,hn0,hG,hFe⟩;simp only[Fm.cells]at g3;replace zz:=AS g1 g2 g3 hlK;(repeat'(first|refine AI λK hK=>?_|refine Bl ?_|refine uR zz ?_|(refine uN hK ?_;clear hK)|apply zI));refine BV (λc S h'=>S 1= .sc (.int .i64 d)/\S 2= .ptr id 0 0/\S 148= .imm 6 (Fm.rows kids)/\S 149= .sc (.int .i64 kids.length)/\ ∃ k n':Nat,S 150= .sc (.int .i64 k)/\k<=kids.length/\c=kids.length-k/\n'<=4096/\Bq h id (CD n') h'/\F=Eb (kids.drop k) (d+1) n') kids.length ?_ ?_
     ·simp only[Ty.w,simprocAttr,g1,g2];exact⟨0,n0,rfl,by omega,rfl,hn0,hG,hFe⟩
     ·clear g1 g2 g3 hG hFe;rintro c S h' ⟨g1,g2,g148,g149,k,n',g150,hk,rfl,hn',hG,hFe⟩;by_cases hlt:k<kids.length
      ·have hdk:decide ((k:Int)<(kids.length:Int))=true:=(by simp;omega);have w7:IntKind.i64.wrap ((k:Int)+1)=k+1:=(by rw[B9 (by omega) (by omega)]);obtain⟨x,hx⟩: ∃ x,kids[k]? =some x:=⟨_,List.getElem?_eq_getElem hlt⟩;have hmem:=List.mem_of_getElem? hx;have hr:=Fm.rows_get hx;have hne:id≠h'.next:=by have:=hG.le;omega
       have hcx:=ih x hmem (hks x hmem) (d+1) n' (by omega) hn' id ((h'.new (.arr 6 [[.sc (.string ⟨#[]⟩),.sc (.string ⟨#[]⟩),.sc (.slice none 0 0),.sc (.slice none 0 0),.sc (.slice none 0 0),.sc (.slice none 0 0)]])).set h'.next (.arr 6 [x.cells])) (by simp only[A0.set,A0.new];rw[A4 hne,A4 hne];exact hG.at_);have hG2:Bq h id (CD n') ((h'.new (.arr 6 [[.sc (.string ⟨#[]⟩),.sc (.string ⟨#[]⟩),.sc (.slice none 0 0),.sc (.slice none 0 0),.sc (.slice none 0 0),.sc (.slice none 0 0)]])).set h'.next (.arr 6 [x.cells])):=(hG.new hid).set hid hG.le;have hle:=TA x (d+1) n';rw[PF hx]at hFe;simp only[Eb]at hFe;generalize Dq x (d+1) n'=V at hcx hle hFe;obtain⟨b,n''⟩:=V;simp only[JQ]at hcx hle hFe;obtain⟨xo,xn,xa,xp,xe,xk⟩:=x;simp only[Fm.cells]at hr hcx hG2;replace zz:=B6 g1 g2 g148 g149 g150 hdk hr wd;(repeat'(first|refine AI λK hK=>?_|refine uR zz ?_|refine uK ?_|refine Aw zz ?_|(refine uN hK ?_;clear hK)|apply zI));refine CV (hcx) (sr (AY g1 g2 g148 g149 g150 hr wd)) ?_;simp only[Ty.w,simprocAttr,g1,g2,g148,g149,g150,hr,wd];cases b with
       |false=>
        simp only at hFe;subst hFe;replace zz:=AK g1 g2 g148 g149 g150 yF;(repeat'(first|refine AI λK hK=>?_|refine uR zz ?_|refine uT zz ?_|(refine uN hK ?_;clear hK)|apply zI));first|exact hG2.put|exact⟨rfl,hG2.put⟩
       |true=>
        simp only at hFe;replace zz:=AY g1 g2 g148 g149 g150 w7 yT;(repeat'(first|refine Bl ?_|refine uR zz ?_|refine uK ?_|(refine uN hK ?_;clear hK)|apply zI));exact⟨kids.length-(k+1),by omega,k+1,n'',by simp,by omega,rfl,hle rfl,hG2.put,hFe⟩
      ·have hdk:decide ((k:Int)<(kids.length:Int))=false:=(by simp;omega);rw[List.drop_eq_nil_of_le (by omega)]at hFe;simp only[Eb]at hFe;subst hFe;replace zz:=AK g1 g2 g148 g149 g150 hdk;(repeat'(first|refine AI λK hK=>?_|refine uR zz ?_|refine uT zz ?_|refine uX ?_|refine Aw zz ?_|(refine uN hK ?_;clear hK)|(clear hK;refine uN hK ?_;clear hK)|apply zI));first|exact hG|exact⟨rfl,hG⟩
end Go.Proofs.YtblgchkahpgdjaaGreat
