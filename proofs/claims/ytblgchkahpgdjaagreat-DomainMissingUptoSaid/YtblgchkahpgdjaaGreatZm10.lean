/- What the claim rests on, part 10: the abstract machine, contracts of the functions, plain data. -/
import Derived.Test.YtblgchkahpgdjaaGreatZm6
set_option linter.unusedVariables false
set_option linter.unusedSimpArgs false
set_option linter.unusedSectionVars false
namespace Go.Proofs.YtblgchkahpgdjaaGreat
open Go.AM Go.Proofs.Tryz
set_option maxHeartbeats 16000000
set_option maxRecDepth 20000
theorem lC{a x y:List UInt8}(h:(a==x)=true)(h2:(x==y)=false):(a==y)=false:=by rw[eq_of_beq h];exact h2
def N2(op name:ByteArray)(args:List ByteArray)(np ne nk:Nat):Bool:=
 match EC op nk with
 |none=>false
 |some (e,m,q)=>FA op name args&&decide (ne=e)&&decide (nk=m)&&(decide (np=0)||q)
theorem Sf(op name:ByteArray)(args:List ByteArray)(params:List Pm)(ne nk:Nat):Fb op name args params ne nk=(N2 op name args params.length ne nk&&params.all Hp):=by
 unfold Fb N2;have e1:params.isEmpty=decide (params.length=0):=by cases params<;>simp
 cases EC op nk with
 |none=>rfl
 |some p=>obtain⟨e,m,q⟩:=p;simp only[e1]
theorem N3{α:Type}{l:List α}{k:Nat}{x:α}(h:l[k]? =some x):l.drop k=x::l.drop (k+1):=by
 obtain⟨h1,h2⟩:=List.getElem?_eq_some_iff.1 h;rw[List.drop_eq_getElem_cons h1,h2]
theorem Wq: ∀ (l:List Ex)(d n:Nat),n<=4096->(GW l d n).1=true->(GW l d n).2<=4096
 |[],d,n,hn=>by simp[GW,hn]
 |e::l,d,n,hn=>by
  unfold GW;have h1:=Ru e d n;split
  ·rename_i c he;rw[he]at h1;exact Wq l d c (h1 rfl)
  ·simp
mutual
theorem Wr: ∀ (f:Fm)(d n:Nat),(FK f d n).1=true->(FK f d n).2<=4096
 | .mk op name args params exprs kids,d,n=>by
  unfold FK;split
  ·rename_i hc;split
   ·have h1:=Wq exprs (d+1) (n+1) hc.1;split
    ·rename_i c he;rw[he]at h1;exact Ws kids (d+1) c (h1 rfl)
    ·simp
   ·simp
  ·simp
theorem Ws: ∀ (l:List Fm)(d n:Nat),n<=4096->(GM l d n).1=true->(GM l d n).2<=4096
 |[],d,n,hn=>by simp[GM,hn]
 |k::l,d,n,hn=>by
  unfold GM;have h1:=Wr k d n;split
  ·rename_i c he;rw[he]at h1;exact Ws l d c (h1 rfl)
  ·simp
end
theorem lD: ∀ f:Fm,f.ok-> ∀ (d n:Nat),d<=33->n<=4096-> ∀ (id:Nat)(h:A0),h.obj id=some (D5 n)->
  A6 prog 173 [.agg f.cells,qK d,.ptr id 0 0] h λr h'=>r= .sc (.bool (FK f d n).1)/\h'=h.set id (D5 (FK f d n).2):=by
 refine Fm.ind ?_;intro op name args params exprs kids ih hok d n hd hn id h ho;simp only[Fm.ok]at hok;obtain⟨_,hnm,⟨hal,hargs⟩,⟨hpl,hps⟩,⟨hel,hes⟩,hkl,hks⟩:=hok;rw[Ex.Bs]at hes;rw[Fm.Bs]at hks;have hnm':name.size<=9223372036854775807:=by unfold AF at hnm;omega
 unfold AF at hpl hel hkl;have hlA:=GI args;have hlP:=Gz params;have hlE:=Ex.B3 exprs;have hlK:=Fm.B3 kids;refine JJ Ty.Pu λhwf=>?_;have hid:id<h.next:=hwf id (by rw[ho];try rfl)
 refine A6.ZA Ty.Pu ho (by simp[D5,F7,B9,Bo,Bc]) ?_;generalize hF:FK (.mk op name args params exprs kids) d n=F;unfold FK at hF;by_cases hc:n+1<=4096/\d<=32;rotate_left
 ·rw [A7 hc]at hF;subst hF;have hT:=Pz (by omega) hn ho (NN hc);simp only[Fm.cells];refine AD func173 ntmps173 results173 Ty.Pu ?_;repeat'(first|refine Ai λK hK=>?_|refine uR A4 ?_|(refine uN hK ?_;clear hK)|apply zI)
  refine DM (hT) (sr yF) ?_;simp only[Ty.w,simprocAttr,CB];repeat'(first|refine Ai λK hK=>?_|refine uR yF ?_|refine uT yF ?_|(refine uN hK ?_;clear hK)|apply zI)
  exact(CP.refl ho).put
 rw[AK hc]at hF;have hT:=Pz (by omega) hn ho (Ha hc);have wd:IntKind.i64.wrap ((d:Int)+1)=(d:Int)+1:=by rw[BM (by omega) (by omega)]
 have G1:CP h id (D5 (n+1)) (h.set id (D5 (n+1))):=(CP.refl ho).put;have hO1:(h.set id (D5 (n+1))).obj id=some (D5 (n+1)):=by simp[A0.set]
 have hN1:(h.set id (D5 (n+1))).next=h.next:=rfl
 have hFf:Fb op name args params exprs.length kids.length=false->F=(false,n+1):=λhp=>by rw[← hF,A7 (by rw[hp];simp)]
 have hFt:Fb op name args params exprs.length kids.length=true->F=(match GW exprs (d+1) (n+1)with
  |(true,c')=>GM kids (d+1) c'
  |(false,c')=>(false,c')):=λhp=>by rw[← hF,AK hp];try rfl
 clear hF;simp only[Fm.cells];refine AD func173 ntmps173 results173 Ty.Pu ?_;repeat'(first|refine Ai λK hK=>?_|refine uR A4 ?_|(refine uN hK ?_;clear hK)|apply zI)
 refine DM (hT) (sr yT) ?_;simp only[Ty.w,simprocAttr,Ax]
 clear hT;generalize h.set id (D5 (n+1))=H1 at G1 hO1 hN1⊢;repeat'(first|with_reducible refine M4 4 ?_|refine Ai λK hK=>?_|refine uR yT ?_|refine uK ?_|refine C3 yT ?_|(refine uN hK ?_;clear hK)|apply zI)
 refine⟨?_⟩;refine D0 (λS h'=>h'=H1/\S 1= qK d/\S 2= .ptr id 0 0/\S 3= .Aj (Fm.mk op name args params exprs kids).cells/\ ∃ (e m:Nat)(q:Bool),EC op kids.length=some (e,m,q)/\((A2 op Bz||A2 op CI)=true->FA op name args=true)/\S 7= qK e/\S 8= .sc (.bool q)/\S 9= qK m) ?_ ?_
 ·have hfc: ∀ s∈args, ∀ h:A0,A6 prog 188 [A3 s] h λr h'=>r= .sc (.bool (!CH s))/\h'=h:=λs hs h=>iR (hargs s hs);cases k1:(op.data.toList==(#[97,116,111,109]:Array UInt8).toList)with
  |true=>
   have k2:(op.data.toList==(#[115,97,109,101]:Array UInt8).toList)=false:=lC k1 rfl;cases q1:As name with
   |false=>
    have hp:=hFf (by simp[Fb,EC,FA,(show A2 op Bz=true from k1),q1]);subst hp;replace zz:=uu k1 k2;(repeat'(first|refine Ai λK hK=>?_|refine uR zz ?_|refine uK ?_|refine C3 zz ?_|(refine uN hK ?_;clear hK)|apply zI));refine uU (AU k1 k2 q1) (FY (s:=name) hnm') ?_;replace zz:=AW k1 k2 q1 yF;(repeat'(first|refine Ai λK hK=>?_|refine uR zz ?_|refine uT zz ?_|(refine uN hK ?_;clear hK)|apply zI));all_goals first|exact G1|exact⟨rfl,G1⟩
   |true=>
    cases q2:args.all CH with
    |false=>
     have hp:=hFf (by simp[Fb,EC,FA,(show A2 op Bz=true from k1),q1,q2]);subst hp;replace zz:=uu k1 k2;(repeat'(first|refine Ai λK hK=>?_|refine uR zz ?_|refine uK ?_|refine C3 zz ?_|(refine uN hK ?_;clear hK)|apply zI));refine uU (AU k1 k2 q1) (FY (s:=name) hnm') ?_;(try apply zI);replace zz:=AW k1 k2 q1 q2;refine uU zz (O8 hal hfc) ?_;replace zz:=Ah k1 k2 q1 q2 yF yT;(repeat'(first|refine Ai λK hK=>?_|refine uR zz ?_|refine uT zz ?_|(refine uN hK ?_;clear hK)|apply zI));all_goals first|exact G1|exact⟨rfl,G1⟩
    |true=>
     replace zz:=uu k1 k2;(repeat'(first|refine Ai λK hK=>?_|refine uR zz ?_|refine uK ?_|refine C3 zz ?_|(refine uN hK ?_;clear hK)|apply zI));refine uU (AU k1 k2 q1) (FY (s:=name) hnm') ?_;(try apply zI);replace zz:=AW k1 k2 q1 q2;refine uU zz (O8 hal hfc) ?_;replace zz:=Ah k1 k2 q1 q2 yF yT;(repeat'(first|refine Ck ?_|refine uK ?_|(refine uN hK ?_;clear hK)|apply zI));simp only[Ty.w,simprocAttr,Ty.AX,Fm.cells];exact⟨0,0,false,by simp[EC,(show A2 op Bz=true from k1)],λ_=>by simp[FA,(show A2 op Bz=true from k1),q1,q2],rfl,rfl,rfl⟩
  |false=>
   cases k2:(op.data.toList==(#[115,97,109,101]:Array UInt8).toList)with
   |true=>
    cases q1:(name.data.toList==(#[]:Array UInt8).toList)with
    |false=>
     have hp:=hFf (by simp[Fb,EC,FA,(show A2 op Bz=false from k1),(show A2 op CI=true from k2),(show HM name=false from q1)]);subst hp;replace zz:=AW k1 k2 q1 yF;(repeat'(first|refine Ai λK hK=>?_|refine uR zz ?_|refine uT zz ?_|refine C3 zz ?_|(refine uN hK ?_;clear hK)|apply zI));all_goals first|exact G1|exact⟨rfl,G1⟩
    |true=>
     cases q2:((args.length:Int)==2)with
     |false=>
      have hp:=hFf (by simp[Fb,EC,FA,(show A2 op Bz=false from k1),(show A2 op CI=true from k2),(show HM name=true from q1),(show ¬ args.length=2 by simp at q2;omega)]);subst hp;have q2p:=BB (P0 q2);have q2i:¬ args.length=2:=(by have:=P0 q2;omega);(repeat'(first|refine Ai λK hK=>?_|((first|refine Bp ?_|refine Eu ?_);simp only[Ty.w,simprocAttr,k1,k2,q1,q2,q2p,hlA,Ax,CB,ET,ES,AO,AP])|(refine Eg _ (by(try simp only[Ty.w,simprocAttr,k1,k2,q1,q2,q2p,hlA,Ax,CB,ET,ES,AO,AP]);rfl) (λhb=>?_) (λhb=>?_)<;>(try simp only[DD,Ba,Cw,simprocAttr]at hb)<;>(try(exfalso;omega)))|(with_reducible refine Ko (λhb=>?_) (λhb=>?_)<;>(try simp only[KW]at hb)<;>(try simp only[hb,AO,AP,ET,ES, ↓reduceIte])<;>(try simp only[DD,Ba,Cw,simprocAttr]at hb)<;>(try(exfalso;omega)))|(refine hK _ _ ?_;clear hK;(try simp only[At,simprocAttr]))));all_goals first|exact G1|exact⟨rfl,G1⟩
     |true=>
      cases q3:args.all CH with
      |false=>
       have hp:=hFf (by simp[Fb,EC,FA,(show A2 op Bz=false from k1),(show A2 op CI=true from k2),(show HM name=true from q1),(show args.length=2 by simp at q2;omega),q3]);subst hp;have q2p:=Di (eq_of_beq q2);have q2i:args.length=2:=(by have:=eq_of_beq q2;omega);(repeat'(first|refine Ai λK hK=>?_|(refine Bp ?_;simp only[Ty.w,simprocAttr,k1,k2,q1,q2,q2p,hlA,Ax,ET,ES,AO,AP])|(refine Eg _ (by(try simp only[Ty.w,simprocAttr,k1,k2,q1,q2,q2p,hlA,Ax,ET,ES,AO,AP]);rfl) (λhb=>?_) (λhb=>?_)<;>(try simp only[DD,Ba,Cw,simprocAttr]at hb)<;>(try(exfalso;omega)))|(with_reducible refine Ko (λhb=>?_) (λhb=>?_)<;>(try simp only[KW]at hb)<;>(try simp only[hb,AO,AP,ET,ES, ↓reduceIte])<;>(try simp only[DD,Ba,Cw,simprocAttr]at hb)<;>(try(exfalso;omega)))|(refine hK _ _ ?_;clear hK;(try simp only[At,simprocAttr]))));replace zz:=Ae k1 k2 q1 q2 q3;refine uU zz (O8 hal hfc) ?_;(repeat'(first|refine Ai λK hK=>?_|((first|refine Bp ?_|refine Eu ?_);simp only[Ty.w,simprocAttr,k1,k2,q1,q2,q2p,q3,CB,Ax,ET,ES,AO,AP])|(refine hK _ _ ?_;clear hK;(try simp only[At,simprocAttr]))));all_goals first|exact G1|exact⟨rfl,G1⟩
      |true=>
       have q2p:=Di (eq_of_beq q2);have q2i:args.length=2:=(by have:=eq_of_beq q2;omega);(repeat'(first|refine Ai λK hK=>?_|(refine Bp ?_;simp only[Ty.w,simprocAttr,k1,k2,q1,q2,q2p,hlA,Ax,ET,ES,AO,AP])|(refine Eg _ (by(try simp only[Ty.w,simprocAttr,k1,k2,q1,q2,q2p,hlA,Ax,ET,ES,AO,AP]);rfl) (λhb=>?_) (λhb=>?_)<;>(try simp only[DD,Ba,Cw,simprocAttr]at hb)<;>(try(exfalso;omega)))|(with_reducible refine Ko (λhb=>?_) (λhb=>?_)<;>(try simp only[KW]at hb)<;>(try simp only[hb,AO,AP,ET,ES, ↓reduceIte])<;>(try simp only[DD,Ba,Cw,simprocAttr]at hb)<;>(try(exfalso;omega)))|(refine hK _ _ ?_;clear hK;(try simp only[At,simprocAttr]))));replace zz:=Ae k1 k2 q1 q2 q3;refine uU zz (O8 hal hfc) ?_;(repeat'(first|(refine Ck ?_)|(refine Gk ?_;(try simp only[At,simprocAttr]))|(refine hK _ _ ?_;clear hK;(try simp only[At,simprocAttr]))));simp only[Ty.w,simprocAttr,Ty.AX,Fm.cells];exact⟨0,0,false,by simp[EC,(show A2 op Bz=false from k1),(show A2 op CI=true from k2)],λ_=>by simp[FA,(show A2 op Bz=false from k1),(show A2 op CI=true from k2),(show HM name=true from q1),(show args.length=2 by simp at q2;omega),q3],rfl,rfl,rfl⟩
   |false=>
    cases k3:(op.data.toList==(#[60]:Array UInt8).toList)with
    |true=>
     replace zz:=AW k1 k2 k3 hlK;(repeat'(first|refine Ai λK hK=>?_|refine Ck ?_|refine uR zz ?_|refine uQ zz λK hK=>?_|refine uK ?_|refine C3 zz ?_|(refine uN hK ?_;clear hK)|apply zI));simp only[Ty.w,simprocAttr,Ty.AX,Fm.cells];exact⟨2,0,false,by simp[EC,(show A2 op Bz=false from k1),(show A2 op CI=false from k2),(show A2 op DH=true from k3)],λhh=>by simp[(show A2 op Bz=false from k1),(show A2 op CI=false from k2)]at hh,rfl,rfl,rfl⟩
    |false=>
     cases k4:(op.data.toList==(#[60,61]:Array UInt8).toList)with
     |true=>
      replace zz:=Ae k1 k2 k3 k4 hlK;(repeat'(first|refine Ai λK hK=>?_|refine Ck ?_|refine uR zz ?_|refine uQ zz λK hK=>?_|refine uK ?_|refine C3 zz ?_|(refine uN hK ?_;clear hK)|apply zI));simp only[Ty.w,simprocAttr,Ty.AX,Fm.cells];exact⟨2,0,false,by simp[EC,(show A2 op Bz=false from k1),(show A2 op CI=false from k2),(show A2 op DH=false from k3),(show A2 op De=true from k4)],λhh=>by simp[(show A2 op Bz=false from k1),(show A2 op CI=false from k2)]at hh,rfl,rfl,rfl⟩
     |false=>
      cases k5:(op.data.toList==(#[61]:Array UInt8).toList)with
      |true=>
       replace zz:=Ah k1 k2 k3 k4 k5 hlK;(repeat'(first|refine Ai λK hK=>?_|refine Ck ?_|refine uR zz ?_|refine uQ zz λK hK=>?_|refine C3 zz ?_|(refine uN hK ?_;clear hK)|apply zI));simp only[Ty.w,simprocAttr,Ty.AX,Fm.cells];exact⟨2,0,false,by simp[EC,(show A2 op Bz=false from k1),(show A2 op CI=false from k2),(show A2 op DH=false from k3),(show A2 op De=false from k4),(show A2 op Cb=true from k5)],λhh=>by simp[(show A2 op Bz=false from k1),(show A2 op CI=false from k2)]at hh,rfl,rfl,rfl⟩
      |false=>
       cases k6:(op.data.toList==(#[97,110,100]:Array UInt8).toList)with
       |true=>
        replace zz:=Ad k1 k2 k3 k4 k5 k6 hlK;(repeat'(first|refine Ai λK hK=>?_|refine Ck ?_|refine uR zz ?_|refine uQ zz λK hK=>?_|refine uK ?_|refine C3 zz ?_|(refine uN hK ?_;clear hK)|apply zI));simp only[Ty.w,simprocAttr,Ty.AX,Fm.cells];exact⟨0,kids.length,false,by simp[EC,(show A2 op Bz=false from k1),(show A2 op CI=false from k2),(show A2 op DH=false from k3),(show A2 op De=false from k4),(show A2 op Cb=false from k5),(show A2 op Bl=true from k6)],λhh=>by simp[(show A2 op Bz=false from k1),(show A2 op CI=false from k2)]at hh,rfl,rfl,rfl⟩
       |false=>
        cases k7:(op.data.toList==(#[111,114]:Array UInt8).toList)with
        |true=>
         replace zz:=BJ k1 k2 k3 k4 k5 k6 k7 hlK;(repeat'(first|refine Ai λK hK=>?_|refine Ck ?_|refine uR zz ?_|refine uQ zz λK hK=>?_|refine C3 zz ?_|(refine uN hK ?_;clear hK)|apply zI));simp only[Ty.w,simprocAttr,Ty.AX,Fm.cells];exact⟨0,kids.length,false,by simp[EC,(show A2 op Bz=false from k1),(show A2 op CI=false from k2),(show A2 op DH=false from k3),(show A2 op De=false from k4),(show A2 op Cb=false from k5),(show A2 op Bl=false from k6),(show A2 op GV=true from k7)],λhh=>by simp[(show A2 op Bz=false from k1),(show A2 op CI=false from k2)]at hh,rfl,rfl,rfl⟩
        |false=>
         cases k8:(op.data.toList==(#[110,111,116]:Array UInt8).toList)with
         |true=>
          replace zz:=BF k1 k2 k3 k4 k5 k6 k7 k8 hlK;(repeat'(first|refine Ai λK hK=>?_|refine Ck ?_|refine uR zz ?_|refine uQ zz λK hK=>?_|refine C3 zz ?_|(refine uN hK ?_;clear hK)|apply zI));simp only[Ty.w,simprocAttr,Ty.AX,Fm.cells];exact⟨0,1,false,by simp[EC,(show A2 op Bz=false from k1),(show A2 op CI=false from k2),(show A2 op DH=false from k3),(show A2 op De=false from k4),(show A2 op Cb=false from k5),(show A2 op Bl=false from k6),(show A2 op GV=false from k7),(show A2 op DU=true from k8)],λhh=>by simp[(show A2 op Bz=false from k1),(show A2 op CI=false from k2)]at hh,rfl,rfl,rfl⟩
         |false=>
          cases k9:(op.data.toList==(#[105,109,112,108,121]:Array UInt8).toList)with
          |true=>
           replace zz:=B6 k1 k2 k3 k4 k5 k6 k7 k8 k9 hlK;(repeat'(first|refine Ai λK hK=>?_|refine Ck ?_|refine uR zz ?_|refine uQ zz λK hK=>?_|refine C3 zz ?_|(refine uN hK ?_;clear hK)|apply zI));simp only[Ty.w,simprocAttr,Ty.AX,Fm.cells];exact⟨0,2,false,by simp[EC,(show A2 op Bz=false from k1),(show A2 op CI=false from k2),(show A2 op DH=false from k3),(show A2 op De=false from k4),(show A2 op Cb=false from k5),(show A2 op Bl=false from k6),(show A2 op GV=false from k7),(show A2 op DU=false from k8),(show A2 op GL=true from k9)],λhh=>by simp[(show A2 op Bz=false from k1),(show A2 op CI=false from k2)]at hh,rfl,rfl,rfl⟩
          |false=>
           cases k10:(op.data.toList==(#[102,111,114,97,108,108]:Array UInt8).toList)with
           |true=>
            replace zz:=DX k1 k2 k3 k4 k5 k6 k7 k8 k9 k10 hlK;(repeat'(first|refine Ai λK hK=>?_|refine Ck ?_|refine uR zz ?_|refine uQ zz λK hK=>?_|refine uK ?_|refine C3 zz ?_|(refine uN hK ?_;clear hK)|apply zI));simp only[Ty.w,simprocAttr,Ty.AX,Fm.cells];exact⟨0,1,true,by simp[EC,(show A2 op Bz=false from k1),(show A2 op CI=false from k2),(show A2 op DH=false from k3),(show A2 op De=false from k4),(show A2 op Cb=false from k5),(show A2 op Bl=false from k6),(show A2 op GV=false from k7),(show A2 op DU=false from k8),(show A2 op GL=false from k9),(show A2 op DY=true from k10)],λhh=>by simp[(show A2 op Bz=false from k1),(show A2 op CI=false from k2)]at hh,rfl,rfl,rfl⟩
           |false=>
            cases k11:(op.data.toList==(#[101,120,105,115,116,115]:Array UInt8).toList)with
            |true=>
             replace zz:=AY k1 k2 k3 k4 k5 k6 k7 k8 k9 k10 k11 hlK;(repeat'(first|refine Ai λK hK=>?_|refine Ck ?_|refine uR zz ?_|refine uQ zz λK hK=>?_|refine C3 zz ?_|(refine uN hK ?_;clear hK)|apply zI));simp only[Ty.w,simprocAttr,Ty.AX,Fm.cells];exact⟨0,1,true,by simp[EC,(show A2 op Bz=false from k1),(show A2 op CI=false from k2),(show A2 op DH=false from k3),(show A2 op De=false from k4),(show A2 op Cb=false from k5),(show A2 op Bl=false from k6),(show A2 op GV=false from k7),(show A2 op DU=false from k8),(show A2 op GL=false from k9),(show A2 op DY=false from k10),(show A2 op HN=true from k11)],λhh=>by simp[(show A2 op Bz=false from k1),(show A2 op CI=false from k2)]at hh,rfl,rfl,rfl⟩
            |false=>
             have hp:=hFf (by simp[Fb,EC,FA,(show A2 op Bz=false from k1),(show A2 op CI=false from k2),(show A2 op DH=false from k3),(show A2 op De=false from k4),(show A2 op Cb=false from k5),(show A2 op Bl=false from k6),(show A2 op GV=false from k7),(show A2 op DU=false from k8),(show A2 op GL=false from k9),(show A2 op DY=false from k10),(show A2 op HN=false from k11)]);subst hp;replace zz:=DX k1 k2 k3 k4 k5 k6 k7 k8 k9 k10 k11;(repeat'(first|refine Ai λK hK=>?_|refine uR zz ?_|refine uT zz ?_|refine C3 zz ?_|(refine uN hK ?_;clear hK)|apply zI));all_goals first|exact G1|exact⟨rfl,G1⟩
 ·rintro S h' ⟨rfl,g1,g2,g3,e,m,q,hs,ht,g7,g8,g9⟩;simp only[Fm.cells]at g3;have hO:N2 op name args params.length exprs.length kids.length=(FA op name args&&decide (exprs.length=e)&&decide (kids.length=m)&&(decide (params.length=0)||q)):=by unfold N2;rw[hs]
  repeat'(first|with_reducible refine M4 24 ?_|apply zI)
  refine⟨?_⟩;refine D0 (λS h2=>h2=h'/\S 1= qK d/\S 2= .ptr id 0 0/\S 3= .Aj (Fm.mk op name args params exprs kids).cells/\N2 op name args params.length exprs.length kids.length=true) ?_ ?_
  ·have hFh:N2 op name args params.length exprs.length kids.length=false->F=(false,n+1):=λhh=>hFf (by rw[Sf,hh];try rfl);have tA:A2 op Bz=(op.data.toList==(#[97,116,111,109]:Array UInt8).toList):=rfl;have tS:A2 op CI=(op.data.toList==(#[115,97,109,101]:Array UInt8).toList):=rfl;clear hFf hFt ih hs;refine Ai (λK hK=>?_);refine Bp (iV 20 (λS h2=>h2=h'/\S 1= qK d/\S 2= .ptr id 0 0/\S 3= .Aj (Fm.mk op name args params exprs kids).cells/\S 7= qK e/\S 8= .sc (.bool q)/\S 9= qK m/\ ∃ b,S 91= .sc (.bool b)/\(b=true->F=(false,n+1))/\(b=false->FA op name args=true)) ?_ ?_)
   ·cases k1:(op.data.toList==(#[97,116,111,109]:Array UInt8).toList)with
    |true=>
     simp only[Ty.w,simprocAttr,Ty.AX,g1,g2,g3,g7,g8,g9,hlA,k1,Ax,CB,Fm.cells];exact⟨false,rfl,λhh=>absurd hh (by simp),λ_=>ht (by rw[tA,k1];try rfl)⟩
    |false=>
     cases k2:(op.data.toList==(#[115,97,109,101]:Array UInt8).toList)with
     |true=>
      simp only[Ty.w,simprocAttr,Ty.AX,g1,g2,g3,g7,g8,g9,hlA,k1,k2,Ax,CB,Fm.cells];exact⟨false,rfl,λhh=>absurd hh (by simp),λ_=>ht (by rw[tS,k2];simp)⟩
     |false=>
      cases q1:(name.data.toList==(#[]:Array UInt8).toList)with
      |false=>
       simp only[Ty.w,simprocAttr,Ty.AX,g1,g2,g3,g7,g8,g9,hlA,k1,k2,q1,Ax,CB,Fm.cells];exact⟨true,rfl,λ_=>hFh (by rw[hO];simp[FA,tA,tS,k1,k2,(show HM name=false from q1)]),λhh=>absurd hh (by simp)⟩
      |true=>
       cases q2:decide ((args.length:Int)>0)with
       |true=>
        simp only[Ty.w,simprocAttr,Ty.AX,g1,g2,g3,g7,g8,g9,hlA,k1,k2,q1,q2,Ax,CB,Fm.cells];exact⟨true,rfl,λ_=>hFh (by rw[hO];cases args with|nil=>simp at q2|cons a l=>simp[FA,tA,tS,k1,k2]),λhh=>absurd hh (by simp)⟩
       |false=>
        simp only[Ty.w,simprocAttr,Ty.AX,g1,g2,g3,g7,g8,g9,hlA,k1,k2,q1,q2,Ax,CB,Fm.cells];exact⟨false,rfl,λhh=>absurd hh (by simp),λ_=>by cases args with|nil=>simp[FA,tA,tS,k1,k2,(show HM name=true from q1)]|cons a l=>simp at q2⟩
   ·clear g1 g2 g3 g7 g8 g9;rintro S h2 ⟨rfl,g1,g2,g3,g7,g8,g9,b,g91,hbt,hbf⟩;simp only[Fm.cells]at g3;clear ht tA tS;cases b with
    |true=>
     have hp:=hbt rfl;subst hp;simp only[Ty.w,simprocAttr,Ty.AX,g1,g2,g3,g91,Ax,CB];replace zz:=AW g1 g2 g3 g91;(repeat'(first|refine Ai λK hK=>?_|refine uR zz ?_|refine uT zz ?_|(refine uN hK ?_;clear hK)|apply zI));all_goals first|exact G1|exact⟨rfl,G1⟩
    |false=>
     have hts:=hbf rfl;clear hbt hbf;cases c1:((exprs.length:Int)==(e:Int))with
     |false=>
      have hp:=hFh (by rw[hO];simp[(show ¬ exprs.length=e by simp at c1;omega)]);subst hp;have c1p:=BB (P0 c1);have c1i:¬ exprs.length=e:=(by have:=P0 c1;omega);simp(maxSteps:=2000000) only[Ty.w,simprocAttr,Ty.AX,g1,g2,g3,g7,g8,g9,hlA,hlP,hlE,hlK,g91,c1,c1p,Ax,CB,ET,ES,AO,AP];(repeat'(first|refine Ai λK hK=>?_|((first|refine Bp ?_|refine Eu ?_);simp(maxSteps:=2000000) only[Ty.w,simprocAttr,g1,g2,g3,g7,g8,g9,hlA,hlP,hlE,hlK,g91,c1,c1p,Ax,CB,ET,ES,AO,AP])|(with_reducible refine Ko (λhb=>?_) (λhb=>?_)<;>(try simp only[KW]at hb)<;>(try simp only[hb,AO,AP,ET,ES, ↓reduceIte])<;>(try simp only[DD,Ba,Cw,simprocAttr]at hb)<;>(try(exfalso;omega)))|(refine hK _ _ ?_;clear hK;(try simp only[At,simprocAttr]))));all_goals first|exact G1|exact⟨rfl,G1⟩
     |true=>
      have c1p:=Di (eq_of_beq c1);have c1i:exprs.length=e:=(by have:=eq_of_beq c1;omega);cases c2:((kids.length:Int)==(m:Int))with
      |false=>
       have c2p:=BB (P0 c2);have c2i:¬ kids.length=m:=(by have:=P0 c2;omega);have hp:=hFh (by rw[hO];simp[(show ¬ kids.length=m by simp at c2;omega)]);subst hp;simp(maxSteps:=2000000) only[Ty.w,simprocAttr,Ty.AX,g1,g2,g3,g7,g8,g9,hlA,hlP,hlE,hlK,g91,c1,c2,c1p,c2p,Ax,CB,ET,ES,AO,AP];(repeat'(first|refine Ai λK hK=>?_|((first|refine Bp ?_|refine Eu ?_);simp(maxSteps:=2000000) only[Ty.w,simprocAttr,g1,g2,g3,g7,g8,g9,hlA,hlP,hlE,hlK,g91,c1,c2,c1p,c2p,Ax,CB,ET,ES,AO,AP])|(with_reducible refine Ko (λhb=>?_) (λhb=>?_)<;>(try simp only[KW]at hb)<;>(try simp only[hb,AO,AP,ET,ES, ↓reduceIte])<;>(try simp only[DD,Ba,Cw,simprocAttr]at hb)<;>(try(exfalso;omega)))|(refine hK _ _ ?_;clear hK;(try simp only[At,simprocAttr]))));all_goals first|exact G1|exact⟨rfl,G1⟩
      |true=>
       have c2p:=Di (eq_of_beq c2);have c2i:kids.length=m:=(by have:=eq_of_beq c2;omega);cases c3:decide ((params.length:Int)>0)with
       |false=>
        have c3e:params=[]:=List.eq_nil_of_length_eq_zero (by have:=TT c3;omega);simp(maxSteps:=2000000) only[Ty.w,simprocAttr,Ty.AX,g1,g2,g3,g7,g8,g9,hlA,hlP,hlE,hlK,g91,c1,c2,c3,c1p,c2p,Ax,CB,ET,ES,AO,AP];(repeat'(first|(refine Gk ?_;(try simp only[At,simprocAttr]))|(refine Eg _ (by(try simp(maxSteps:=2000000) only[Ty.w,simprocAttr,g1,g2,g3,g7,g8,g9,hlA,hlP,hlE,hlK,g91,c1,c2,c3,c1p,c2p,Ax,CB,ET,ES,AO,AP]);rfl) (λhb=>?_) (λhb=>?_)<;>(try simp only[DD,Ba,Cw,simprocAttr]at hb)<;>(try(exfalso;omega)))|(with_reducible refine Ko (λhb=>?_) (λhb=>?_)<;>(try simp only[KW]at hb)<;>(try simp only[hb,AO,AP,ET,ES, ↓reduceIte])<;>(try simp only[DD,Ba,Cw,simprocAttr]at hb)<;>(try(exfalso;omega)))|(refine hK _ _ ?_;clear hK;(try simp only[At,simprocAttr]))));simp only[Ty.w,simprocAttr,Ty.AX,g1,g2,g3,Fm.cells];rw[hO,hts];simp[(show exprs.length=e by simp at c1;omega),(show kids.length=m by simp at c2;omega),c3e]
       |true=>
        cases q with
        |false=>
         have hp:=hFh (by rw[hO];simp[(show ¬ params.length=0 by have:=LR c3;omega)]);subst hp;simp(maxSteps:=2000000) only[Ty.w,simprocAttr,Ty.AX,g1,g2,g3,g7,g8,g9,hlA,hlP,hlE,hlK,g91,c1,c2,c3,c1p,c2p,Ax,CB,ET,ES,AO,AP];(repeat'(first|refine Ai λK hK=>?_|((first|refine Bp ?_|refine Eu ?_);simp(maxSteps:=2000000) only[Ty.w,simprocAttr,g1,g2,g3,g7,g8,g9,hlA,hlP,hlE,hlK,g91,c1,c2,c3,c1p,c2p,Ax,CB,ET,ES,AO,AP])|(with_reducible refine Ko (λhb=>?_) (λhb=>?_)<;>(try simp only[KW]at hb)<;>(try simp only[hb,AO,AP,ET,ES, ↓reduceIte])<;>(try simp only[DD,Ba,Cw,simprocAttr]at hb)<;>(try(exfalso;omega)))|(refine hK _ _ ?_;clear hK;(try simp only[At,simprocAttr]))));all_goals first|exact G1|exact⟨rfl,G1⟩
        |true=>
         simp(maxSteps:=2000000) only[Ty.w,simprocAttr,Ty.AX,g1,g2,g3,g7,g8,g9,hlA,hlP,hlE,hlK,g91,c1,c2,c3,c1p,c2p,Ax,CB,ET,ES,AO,AP];(repeat'(first|(refine Gk ?_;(try simp only[At,simprocAttr]))|(refine Eg _ (by(try simp(maxSteps:=2000000) only[Ty.w,simprocAttr,g1,g2,g3,g7,g8,g9,hlA,hlP,hlE,hlK,g91,c1,c2,c3,c1p,c2p,Ax,CB,ET,ES,AO,AP]);rfl) (λhb=>?_) (λhb=>?_)<;>(try simp only[DD,Ba,Cw,simprocAttr]at hb)<;>(try(exfalso;omega)))|(with_reducible refine Ko (λhb=>?_) (λhb=>?_)<;>(try simp only[KW]at hb)<;>(try simp only[hb,AO,AP,ET,ES, ↓reduceIte])<;>(try simp only[DD,Ba,Cw,simprocAttr]at hb)<;>(try(exfalso;omega)))|(refine hK _ _ ?_;clear hK;(try simp only[At,simprocAttr]))));simp only[Ty.w,simprocAttr,Ty.AX,g1,g2,g3,Fm.cells];rw[hO,hts];simp[(show exprs.length=e by simp at c1;omega),(show kids.length=m by simp at c2;omega)]
  ·clear g1 g2 g3 g7 g8 g9 ht hO hs;rintro S h2 ⟨rfl,g1,g2,g3,hH⟩;simp only[Fm.cells]at g3;(repeat'(first|with_reducible refine M4 26 ?_|apply zI));refine⟨?_⟩;refine D0 (λS h'=>S 1= qK d/\S 2= .ptr id 0 0/\S 3= .Aj (Fm.mk op name args params exprs kids).cells/\CP h id (D5 (n+1)) h'/\params.all Hp=true) ?_ ?_
   ·have hFp:params.all Hp=false->F=(false,n+1):=λhh=>hFf (by rw[Sf,hh];simp);clear hFf hFt ih;replace zz:=AW g1 g2 g3 hlP;(repeat'(first|refine Ai λK hK=>?_|refine Ck ?_|refine uR zz ?_|(refine uN hK ?_;clear hK)|apply zI));refine By (λc S h'=>S 1= qK d/\S 2= .ptr id 0 0/\S 3= .Aj (Fm.mk op name args params exprs kids).cells/\S 116= .A1 2 (A8 params)/\S 117= qK params.length/\ ∃ k:Nat,S 118= qK k/\k<=params.length/\c=params.length-k/\CP h id (D5 (n+1)) h'/\params.all Hp=(params.drop k).all Hp) params.length ?_ ?_
    ·simp only[Ty.w,simprocAttr,g1,g2,g3,Fm.cells];exact⟨0,rfl,by omega,rfl,G1,rfl⟩
    ·clear G1 hO1 g1 g2 g3;rintro c S h' ⟨g1,g2,g3,g116,g117,k,g118,hk,rfl,hG,hall⟩;simp only[Fm.cells]at g3;by_cases hlt:k<params.length
     ·have hdk:decide ((k:Int)<(params.length:Int))=true:=(by simp;omega);have w7:IntKind.i64.wrap ((k:Int)+1)=k+1:=(by rw[BM (by omega) (by omega)]);obtain⟨p,hx⟩: ∃ p,params[k]? =some p:=⟨_,List.getElem?_eq_getElem hlt⟩;have hr:=Nr hx;have hpk:=hps p (List.mem_of_getElem? hx);obtain⟨hp1,hp2⟩:=hpk;have hp1':p.name.size<=9223372036854775807:=(by unfold AF at hp1;omega);have hG2:CP h id (D5 (n+1)) ((h'.new (.arr 2 [[.sc (.string ⟨#[]⟩),.sc (.string ⟨#[]⟩)]])).set h'.next (.arr 2 [[A3 p.name,A3 p.type]])):=(hG.new hid).set hid hG.le;rw[N3 hx]at hall;simp only[List.all_cons,Hp]at hall;cases v1:F9 p.name with
      |false=>
       have hp:=hFp (by rw[hall,v1];try rfl);subst hp;replace zz:=BJ g1 g2 g3 g116 g117 g118 hdk hr;(repeat'(first|refine Ai λK hK=>?_|refine uR zz ?_|refine uK ?_|refine C3 zz ?_|(refine uN hK ?_;clear hK)|apply zI));replace zz:=Ad g1 g2 g3 g116 g117 g118 v1;refine uU zz (Lw (s:=p.name) hp1') ?_;replace zz:=BJ g1 g2 g3 g116 g117 g118 v1 yF;(repeat'(first|refine Ai λK hK=>?_|refine uR zz ?_|refine uT zz ?_|(refine uN hK ?_;clear hK)|apply zI));first|exact hG2|exact⟨rfl,hG2⟩
      |true=>
       cases v2:Gm p.type with
       |false=>
        have hp:=hFp (by rw[hall,v1,v2];try rfl);subst hp;replace zz:=BJ g1 g2 g3 g116 g117 g118 hdk hr;(repeat'(first|refine Ai λK hK=>?_|refine uR zz ?_|refine uK ?_|refine C3 zz ?_|(refine uN hK ?_;clear hK)|apply zI));replace zz:=Ad g1 g2 g3 g116 g117 g118 v1;refine uU zz (Lw (s:=p.name) hp1') ?_;(try apply zI);replace zz:=BJ g1 g2 g3 g116 g117 g118 v1 v2;refine uU zz (Rw (s:=p.type) hp2) ?_;replace zz:=B6 g1 g2 g3 g116 g117 g118 v1 v2 yF yT;(repeat'(first|refine Ai λK hK=>?_|refine uR zz ?_|refine uT zz ?_|(refine uN hK ?_;clear hK)|apply zI));first|exact hG2|exact⟨rfl,hG2⟩
       |true=>
        rw[v1,v2]at hall;replace zz:=BJ g1 g2 g3 g116 g117 g118 hdk hr;(repeat'(first|refine Ai λK hK=>?_|refine uR zz ?_|refine uK ?_|refine C3 zz ?_|(refine uN hK ?_;clear hK)|apply zI));replace zz:=Ad g1 g2 g3 g116 g117 g118 v1;refine uU zz (Lw (s:=p.name) hp1') ?_;(try apply zI);replace zz:=BJ g1 g2 g3 g116 g117 g118 v1 v2;refine uU zz (Rw (s:=p.type) hp2) ?_;replace zz:=B6 g1 g2 g3 g116 g117 g118 v1 v2 w7 yT;(repeat'(first|refine Ck ?_|refine uR zz ?_|refine uK ?_|(refine uN hK ?_;clear hK)|apply zI));exact⟨params.length-(k+1),by omega,by simp only[Fm.cells],k+1,by simp,by omega,rfl,hG2,by simpa using hall⟩
     ·have hdk:decide ((k:Int)<(params.length:Int))=false:=(by simp;omega);rw[List.drop_eq_nil_of_le (by omega)]at hall;replace zz:=Ad g1 g2 g3 g116 g117 g118 hdk;(repeat'(first|refine Ai λK hK=>?_|refine uR zz ?_|refine uX ?_|refine C3 zz ?_|(refine uN hK ?_;clear hK)|apply zI));simp only[Ty.w,simprocAttr,Ty.AX,g1,g2,g3,Fm.cells];exact⟨hG,hall⟩
   ·clear g1 g2 g3 G1 hO1;rintro S h' ⟨g1,g2,g3,hG,hall⟩;simp only[Fm.cells]at g3;have hFe:=hFt (by rw[Sf,hH,hall];try rfl);clear hFt hFf hH hall;(repeat'(first|with_reducible refine M4 32 ?_|apply zI));refine⟨?_⟩;refine D0 (λS h'=>S 1= qK d/\S 2= .ptr id 0 0/\S 3= .Aj (Fm.mk op name args params exprs kids).cells/\ ∃ n':Nat,n'<=4096/\CP h id (D5 n') h'/\F=GM kids (d+1) n') ?_ ?_
    ·clear ih;replace zz:=AW g1 g2 g3 hlE;(repeat'(first|refine Ai λK hK=>?_|refine Ck ?_|refine uR zz ?_|(refine uN hK ?_;clear hK)|apply zI));refine By (λc S h'=>S 1= qK d/\S 2= .ptr id 0 0/\S 3= .Aj (Fm.mk op name args params exprs kids).cells/\S 134= .A1 5 (Ex.rows exprs)/\S 135= qK exprs.length/\ ∃ k n':Nat,S 136= qK k/\k<=exprs.length/\c=exprs.length-k/\n'<=4096/\CP h id (D5 n') h'/\F=(match GW (exprs.drop k) (d+1) n' with
      |(true,c')=>GM kids (d+1) c'
      |(false,c')=>(false,c'))) exprs.length ?_ ?_
     ·simp only[Ty.w,simprocAttr,g1,g2,g3,Fm.cells];exact⟨0,n+1,rfl,by omega,rfl,by omega,hG,hFe⟩
     ·clear g1 g2 g3 hG hFe;rintro c S h' ⟨g1,g2,g3,g134,g135,k,n',g136,hk,rfl,hn',hG,hFe⟩;simp only[Fm.cells]at g3;by_cases hlt:k<exprs.length
      ·have hdk:decide ((k:Int)<(exprs.length:Int))=true:=(by simp;omega);have w7:IntKind.i64.wrap ((k:Int)+1)=k+1:=(by rw[BM (by omega) (by omega)]);obtain⟨x,hx⟩: ∃ x,exprs[k]? =some x:=⟨_,List.getElem?_eq_getElem hlt⟩;have hmem:=List.mem_of_getElem? hx;have hr:=Ex.CG hx;have hne:id≠h'.next:=by have:=hG.le;omega
       have hcx:=VZ x (hes x hmem) (d+1) n' (by omega) hn' id ((h'.new (.arr 5 [[.sc (.string ⟨#[]⟩),.sc (.string ⟨#[]⟩),qK 0,.sc (.slice none 0 0),.sc (.slice none 0 0)]])).set h'.next (.arr 5 [x.cells])) (by simp only[A0.set,A0.new];rw[A7 hne,A7 hne];exact hG.at_);have hG2:CP h id (D5 n') ((h'.new (.arr 5 [[.sc (.string ⟨#[]⟩),.sc (.string ⟨#[]⟩),qK 0,.sc (.slice none 0 0),.sc (.slice none 0 0)]])).set h'.next (.arr 5 [x.cells])):=(hG.new hid).set hid hG.le;have hle:=Ru x (d+1) n';rw[N3 hx]at hFe;simp only[GW]at hFe;generalize EW x (d+1) n'=V at hcx hle hFe;obtain⟨b,n''⟩:=V;simp only[M0]at hcx hle hFe;obtain⟨xo,xn,xv,xa,xk⟩:=x;simp only[Ex.cells]at hr hcx hG2;replace zz:=BF g1 g2 g3 g134 g135 g136 hdk hr wd;(repeat'(first|refine Ai λK hK=>?_|refine uR zz ?_|refine uK ?_|refine C3 zz ?_|(refine uN hK ?_;clear hK)|apply zI));refine DM (hcx) (sr (BJ g1 g2 g3 g134 g135 g136 hr wd)) ?_;simp only[Ty.w,simprocAttr,g1,g2,g3,g134,g135,g136,hr,wd];cases b with
       |false=>
        simp only at hFe;subst hFe;replace zz:=Ad g1 g2 g3 g134 g135 g136 yF;(repeat'(first|refine Ai λK hK=>?_|refine uR zz ?_|refine uT zz ?_|(refine uN hK ?_;clear hK)|apply zI));first|exact hG2.put|exact⟨rfl,hG2.put⟩
       |true=>
        simp only at hFe;replace zz:=BJ g1 g2 g3 g134 g135 g136 w7 yT;(repeat'(first|refine Ck ?_|refine uR zz ?_|refine uK ?_|(refine uN hK ?_;clear hK)|apply zI));exact⟨exprs.length-(k+1),by omega,by simp only[Fm.cells],k+1,n'',by simp,by omega,rfl,hle rfl,hG2.put,hFe⟩
      ·have hdk:decide ((k:Int)<(exprs.length:Int))=false:=(by simp;omega);rw[List.drop_eq_nil_of_le (by omega)]at hFe;simp only[GW]at hFe;replace zz:=Ad g1 g2 g3 g134 g135 g136 hdk;(repeat'(first|refine Ai λK hK=>?_|refine uR zz ?_|refine uX ?_|refine C3 zz ?_|(refine uN hK ?_;clear hK)|apply zI));simp only[Ty.w,simprocAttr,Ty.AX,g1,g2,g3,Fm.cells];exact⟨n',hn',hG,hFe⟩
    ·clear g1 g2 g3 hG hFe;rintro S h' ⟨g1,g2,g3,n0,hn0,hG,hFe⟩;simp only[Fm.cells]at g3;replace zz:=AW g1 g2 g3 hlK;(repeat'(first|refine Ai λK hK=>?_|refine Ck ?_|refine uR zz ?_|(refine uN hK ?_;clear hK)|apply zI));refine By (λc S h'=>S 1= qK d/\S 2= .ptr id 0 0/\S 148= .A1 6 (Fm.rows kids)/\S 149= qK kids.length/\ ∃ k n':Nat,S 150= qK k/\k<=kids.length/\c=kids.length-k/\n'<=4096/\CP h id (D5 n') h'/\F=GM (kids.drop k) (d+1) n') kids.length ?_ ?_
     ·simp only[Ty.w,simprocAttr,g1,g2];exact⟨0,n0,rfl,by omega,rfl,hn0,hG,hFe⟩
     ·clear g1 g2 g3 hG hFe;rintro c S h' ⟨g1,g2,g148,g149,k,n',g150,hk,rfl,hn',hG,hFe⟩;by_cases hlt:k<kids.length
      ·have hdk:decide ((k:Int)<(kids.length:Int))=true:=(by simp;omega);have w7:IntKind.i64.wrap ((k:Int)+1)=k+1:=(by rw[BM (by omega) (by omega)]);obtain⟨x,hx⟩: ∃ x,kids[k]? =some x:=⟨_,List.getElem?_eq_getElem hlt⟩;have hmem:=List.mem_of_getElem? hx;have hr:=Fm.CG hx;have hne:id≠h'.next:=by have:=hG.le;omega
       have hcx:=ih x hmem (hks x hmem) (d+1) n' (by omega) hn' id ((h'.new (.arr 6 [[.sc (.string ⟨#[]⟩),.sc (.string ⟨#[]⟩),.sc (.slice none 0 0),.sc (.slice none 0 0),.sc (.slice none 0 0),.sc (.slice none 0 0)]])).set h'.next (.arr 6 [x.cells])) (by simp only[A0.set,A0.new];rw[A7 hne,A7 hne];exact hG.at_);have hG2:CP h id (D5 n') ((h'.new (.arr 6 [[.sc (.string ⟨#[]⟩),.sc (.string ⟨#[]⟩),.sc (.slice none 0 0),.sc (.slice none 0 0),.sc (.slice none 0 0),.sc (.slice none 0 0)]])).set h'.next (.arr 6 [x.cells])):=(hG.new hid).set hid hG.le;have hle:=Wr x (d+1) n';rw[N3 hx]at hFe;simp only[GM]at hFe;generalize FK x (d+1) n'=V at hcx hle hFe;obtain⟨b,n''⟩:=V;simp only[M0]at hcx hle hFe;obtain⟨xo,xn,xa,xp,xe,xk⟩:=x;simp only[Fm.cells]at hr hcx hG2;replace zz:=BJ g1 g2 g148 g149 g150 hdk hr wd;(repeat'(first|refine Ai λK hK=>?_|refine uR zz ?_|refine uK ?_|refine C3 zz ?_|(refine uN hK ?_;clear hK)|apply zI));refine DM (hcx) (sr (Ad g1 g2 g148 g149 g150 hr wd)) ?_;simp only[Ty.w,simprocAttr,g1,g2,g148,g149,g150,hr,wd];cases b with
       |false=>
        simp only at hFe;subst hFe;replace zz:=Ah g1 g2 g148 g149 g150 yF;(repeat'(first|refine Ai λK hK=>?_|refine uR zz ?_|refine uT zz ?_|(refine uN hK ?_;clear hK)|apply zI));first|exact hG2.put|exact⟨rfl,hG2.put⟩
       |true=>
        simp only at hFe;replace zz:=Ad g1 g2 g148 g149 g150 w7 yT;(repeat'(first|refine Ck ?_|refine uR zz ?_|refine uK ?_|(refine uN hK ?_;clear hK)|apply zI));exact⟨kids.length-(k+1),by omega,k+1,n'',by simp,by omega,rfl,hle rfl,hG2.put,hFe⟩
      ·have hdk:decide ((k:Int)<(kids.length:Int))=false:=(by simp;omega);rw[List.drop_eq_nil_of_le (by omega)]at hFe;simp only[GM]at hFe;subst hFe;replace zz:=Ah g1 g2 g148 g149 g150 hdk;(repeat'(first|refine Ai λK hK=>?_|refine uR zz ?_|refine uT zz ?_|refine uX ?_|refine C3 zz ?_|(refine uN hK ?_;clear hK)|(clear hK;refine uN hK ?_;clear hK)|apply zI));first|exact hG|exact⟨rfl,hG⟩
end Go.Proofs.YtblgchkahpgdjaaGreat
