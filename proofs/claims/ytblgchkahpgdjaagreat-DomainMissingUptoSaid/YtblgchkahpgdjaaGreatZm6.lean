/- What the claim rests on, part 6: the abstract machine, contracts of the functions, plain data. -/
import Derived.Test.YtblgchkahpgdjaaGreatZm5
set_option linter.unusedVariables false
set_option linter.unusedSimpArgs false
set_option linter.unusedSectionVars false
namespace Go.Proofs.YtblgchkahpgdjaaGreat
open Go.AM Go.Proofs.Tryz
set_option maxHeartbeats 2000000
set_option maxRecDepth 20000
variable {ow:Nat->Bool}{P:Program}{h:A0}{n:Nat}{wf:FuncId->Bool}{Q:BU}{s:ByteArray}{l:List ByteArray}
structure VX(p:Prop):Prop where
 out:p
theorem M4{s:AE}(id:Nat){ops:Array Oper}{d:Bool}{x y:Code}(hh:VX (Ar P ow wf n (.seq (.seq (.region id ops d) x) y) Q s h)):Ar P ow wf n (.seq (.seq (.region id ops d) x) y) Q s h:=hh.out
theorem D0{s:AE}{a b:Code}(I:AE->A0->Prop)(h1:Ar P ow wf n a (BU.seq I Q) s h)(h2: ∀ s h,I s h->Ar P ow wf n b Q s h):Ar P ow wf n (.seq a b) Q s h:=by
 simp only[Ar];refine JH a (λe s h hh=>?_) h1;cases e<;>simp only[BU.seq]at hh⊢
 ·exact h2 _ _ hh
 all_goals exact hh
theorem Mq{K:AE->A0->Prop}{s:AE}{a:Code}(I:AE->A0->Prop)(h1:Ar P ow wf n a (BU.seq I Q) s h)(h2: ∀ s h,I s h->K s h):Ar P ow wf n a (BU.seq K Q) s h:=by
 refine JH a (λe s h hh=>?_) h1;cases e<;>simp only[BU.seq]at hh⊢
 ·exact h2 _ _ hh
 all_goals exact hh
theorem Dd(h:A0)(id:Nat)(a b:Am):(h.set id a).set id b=h.set id b:=by
 unfold A0.set;congr 1;funext i;simp only;by_cases hi:i=id
 ·simp [hi]
 ·simp [hi]
theorem VY{α:Type}(l:List α):((l.length:Int)==0)=l.isEmpty:=by cases l<;>simp;omega
theorem iP(n:Nat):D5 (n+1)= .arr 1 [[qK ((n:Int)+1)]]:=by simp only[D5,M0]
theorem Rt(hs:s.size<=AF):A6 prog 189 [A3 s] h λr h'=>r= .sc (.bool (CH s))/\h'=h:=by
 have hs':s.size<=9223372036854775807:=by unfold AF at hs;omega
 cases c1:As s with
 |true=>
  have:CH s=true:=by simp[CH,c1]
  refine AD func189 ntmps189 results189 Ty.VF ?_;refine wt A4 ?_;refine uU c1 (FY (s:=s) hs') ?_;refine wt c1 ?_;rw[this]
 |false=>
  have:CH s=F9 s:=by simp[CH,c1]
  refine AD func189 ntmps189 results189 Ty.VF ?_;refine wt A4 ?_;refine uU c1 (FY (s:=s) hs') ?_;refine wt c1 ?_;refine uU c1 (Lw (s:=s) hs') ?_;refine wt c1 ?_;rw[this]
theorem iQ(hs:s.size<=AF):A6 prog 192 [A3 s] h λr h'=>r= .sc (.bool (!CH s))/\h'=h:=by
 refine AD func192 ntmps192 results192 Ty.gu ?_;refine wt A4 ?_;refine uU A4 (Rt (s:=s) hs) ?_;exact wz A4
theorem iR(hs:s.size<=AF):A6 prog 188 [A3 s] h λr h'=>r= .sc (.bool (!CH s))/\h'=h:=by
 refine AD func188 ntmps188 results188 Ty.gr ?_;refine wt A4 ?_;refine uU A4 (Rt (s:=s) hs) ?_;exact wz A4
def O7(l:List ByteArray):Int:=match l.findIdx? (λs=>!CH s)with
 |some i=>i
 |none=> -1
theorem iS(l:List ByteArray):decide (O7 l>=0)=!l.all CH:=by
 unfold O7;cases h:l.findIdx? (λs=>!CH s)with
 |none=>
  rw[List.findIdx?_eq_none_iff]at h;have:l.all CH=true:=by
   rw[List.all_eq_true];intro s hs;simpa using h s hs
  rw[this];try rfl
 |some i=>
  rw[List.findIdx?_eq_some_iff_getElem]at h;obtain⟨hi,h1,_⟩:=h;have:l.all CH=false:=by
   rw[List.all_eq_false];exact⟨l[i],List.getElem_mem hi,by simpa using h1⟩
  rw[this];simp
theorem iT{g:FuncId}(hl:l.length<=AF)(hf: ∀ s∈l, ∀ h:A0,A6 prog g [A3 s] h λr h'=>r= .sc (.bool (!CH s))/\h'=h):
  A6 prog 201 [.A1 1 (AL l),.sc (.func (.func g) #[] #[])] h λr h'=>r= qK (O7 l)/\h'=h:=by
 unfold AF at hl;have hlen:=GI l;refine AD func201 ntmps201 results201 Ty.ga ?_;refine wt hlen ?_;refine By (λm S h'=>h'=h/\S 0= .A1 1 (AL l)/\S 1= .sc (.func (.func g) #[] #[])/\S 7= qK l.length/\ ∃ k:Nat,S 8= qK k/\k<=l.length/\m=l.length-k/\ ∀ (i:Nat)(w:ByteArray),i<k->l[i]? =some w->CH w=true) l.length ?_ ?_
 ·simp only[Ty.w,simprocAttr];exact⟨0,rfl,by omega,rfl,by omega⟩
 ·rintro m S h' ⟨rfl,g0,g1,g7,k,g8,hk,rfl,hall⟩;by_cases hlt:k<l.length
  ·have hd:decide ((k:Int)<(l.length:Int))=true:=(by simp;omega);have w7:IntKind.i64.wrap ((k:Int)+1)=k+1:=(by rw[BM (by omega) (by omega)]);obtain⟨w,hx⟩: ∃ w,l[k]? =some w:=⟨l[k],List.getElem?_eq_getElem hlt⟩;have hr:=K3 hx;have hc:=hf w (List.mem_of_getElem? hx);cases he:CH w with
   |false=>
    rw[he]at hc;replace zz:=Ah g0 g1 g7 g8 hd hr;refine wt zz ?_;refine K0 (sq g1) (hc _) (by simp only[Ty.w,simprocAttr,g0,g1,g7,g8];try rfl) ?_;simp only[Ty.w,simprocAttr,Ty.AX];replace zz:=Ae g0 g1 g7 g8 yF;refine wt zz ?_;have:l.findIdx? (λs=>!CH s)=some k:=by
     rw[List.findIdx?_eq_some_iff_getElem];refine⟨hlt,?_,λj hj=>?_⟩
     ·rw [List.getElem?_eq_getElem hlt]at hx;simp only[BC]at hx;rw[hx,he];try rfl
     ·rw [hall j l[j] hj (List.getElem?_eq_getElem (by omega))];simp
    simp only[O7,this]
   |true=>
    rw[he]at hc;replace zz:=Ah g0 g1 g7 g8 hd hr;refine wt zz ?_;refine K0 (sq g1) (hc _) (by simp only[Ty.w,simprocAttr,g0,g1,g7,g8];try rfl) ?_;simp only[Ty.w,simprocAttr,Ty.AX];replace zz:=Ah g0 g1 g7 g8 w7 yT;refine wt zz ?_;refine⟨l.length-(k+1),by omega,k+1,by simp,by omega,rfl,λi w2 hi hw=>?_⟩;by_cases hik:i=k
    ·subst hik;rw[hx]at hw;simp at hw;rw[← hw];exact he
    ·exact hall i w2 (by omega) hw
  ·have hd:decide ((k:Int)<(l.length:Int))=false:=(by simp;omega);replace zz:=Ae g0 g1 g7 g8 hd;refine wt zz ?_;have:l.findIdx? (λs=>!CH s)=none:=by
    rw[List.findIdx?_eq_none_iff];intro w hw;obtain⟨i,hi⟩:=List.getElem?_of_mem hw;have:i<l.length:=(List.getElem?_eq_some_iff.1 hi).1;rw[hall i w (by omega) hi];try rfl
   simp only[O7,this]
theorem O8{g:FuncId}(hl:l.length<=AF)(hf: ∀ s∈l, ∀ h:A0,A6 prog g [A3 s] h λr h'=>r= .sc (.bool (!CH s))/\h'=h):
  A6 prog 187 [.A1 1 (AL l),.sc (.func (.func g) #[] #[])] h λr h'=>r= .sc (.bool (!l.all CH))/\h'=h:=by
 refine AD func187 ntmps187 results187 Ty.gZ ?_;refine wt A4 ?_;refine uU A4 (iT (l:=l) (g:=g) hl hf) ?_;refine wt A4 ?_;rw[← iS]
theorem Pz{id d:Nat}{b:Bool}(hd:d<=100)(hn:n<=4096)(ho:h.obj id=some (D5 n))(hb:decide (n+1<=4096/\d<=32)=b):A6 prog 186 [.ptr id 0 0,qK d] h λr h'=>r= .sc (.bool b)/\h'=h.set id (D5 (n+1)):=by
 have ho':=ho;simp only[D5]at ho';rw[iP];have wn:IntKind.i64.wrap ((n:Int)+1)=(n:Int)+1:=by rw[BM (by omega) (by omega)]
 cases b0:decide ((n:Int)+1<=4096)with
 |false=>
  have:b=false:=by rw[← hb];simp only[Cw]at b0⊢;omega
  subst this
  clear hb;refine AD func186 ntmps186 results186 Ty.VD ?_;exact wz (AU ho' wn b0)
 |true=>
  have:b=decide ((d:Int)<=32):=by rw[← hb];simp only[Ba]at b0;exact Oy.2 (by omega)
  subst this
  clear hb;refine AD func186 ntmps186 results186 Ty.VD ?_;exact wz (AU ho' wn b0)
theorem Ru: ∀ (e:Ex)(d n:Nat),(EW e d n).1=true->(EW e d n).2<=4096:=by
 refine Ex.ind ?_;intro op name nn args kids ih d n;unfold EW;split
 ·rename_i hc;split
  ·intro _;simp only;omega
  ·split
   ·intro _;simp only;omega
   ·split
    ·split
     ·split
      ·rename_i a b;have ha:=ih a (by simp) (d+1) (n+1);split
       ·rename_i c' he;exact ih b (by simp) (d+1) c'
       ·simp
      ·simp
     ·simp
    ·simp
 ·simp
theorem VZ: ∀ e:Ex,e.ok-> ∀ (d n:Nat),d<=33->n<=4096-> ∀ (id:Nat)(h:A0),h.obj id=some (D5 n)->
  A6 prog 178 [.agg e.cells,qK d,.ptr id 0 0] h λr h'=>r= .sc (.bool (EW e d n).1)/\h'=h.set id (D5 (EW e d n).2):=by
 refine Ex.ind ?_;intro op name v args kids ih hok d n hd hn id h ho;simp only[Ex.ok]at hok;obtain⟨_,hnm,_,⟨hal,hargs⟩,hkl,hks⟩:=hok;rw[Ex.Bs]at hks;have hnm':name.size<=9223372036854775807:=by unfold AF at hnm;omega
 have hlA:=GI args;have hlK:=Ex.B3 kids;have e1:=VY args;have e2:=VY kids;generalize hF:EW (.mk op name v args kids) d n=F;unfold EW at hF;by_cases hc:n+1<=4096/\d<=32;rotate_left
 ·rw [A7 hc]at hF;subst hF;have hT:=Pz (by omega) hn ho (NN hc);simp only[Ex.cells];refine AD func178 ntmps178 results178 Ty.Is ?_;refine wt A4 ?_;refine DM (hT) (sr yF) ?_;simp only[Ty.w,simprocAttr,CB];exact wz yF
 ·rw [AK hc]at hF;have hT:=Pz (by omega) hn ho (Ha hc);have wd:IntKind.i64.wrap ((d:Int)+1)=(d:Int)+1:=by rw[BM (by omega) (by omega)]
  simp only[Ex.cells];have n1:A2 op Iv=(op.data.toList==(#[110,117,109,98,101,114]:Array UInt8).toList):=rfl;have n2:A2 op Iw=(op.data.toList==(#[102,108,117,101,110,116]:Array UInt8).toList):=rfl;have n3:A2 op M1=(op.data.toList==(#[43]:Array UInt8).toList):=rfl;have n4:A2 op GJ=(op.data.toList==(#[45]:Array UInt8).toList):=rfl;have n5:A2 op M3=(op.data.toList==(#[42]:Array UInt8).toList):=rfl;have n6:HM name=(name.data.toList==(#[]:Array UInt8).toList):=rfl;have n7:decide (v=0)=(v==0):=by by_cases h0:v=0<;>simp[h0]
  have n8:Rs v=(decide (v>= -1099511627776)&&decide (v<=1099511627776)):=rfl;rw[n1,n2,n3,n4,n5,n6,n7,n8, ← e1, ← e2]at hF
  clear n1 n2 n3 n4 n5 n6 n7 n8 e1 e2;cases k1:(op.data.toList==(#[110,117,109,98,101,114]:Array UInt8).toList)with
  |true=>
   rw[k1]at hF;simp only[AO]at hF;cases q1:(name.data.toList==(#[]:Array UInt8).toList)with
   |false=>
    rw[q1]at hF;simp only[B5,BA]at hF;subst hF;refine AD func178 ntmps178 results178 Ty.Is ?_;refine wt (uu k1 q1) ?_;refine DM (hT) (sr (AU k1 q1 yT)) ?_;simp only[Ty.w,simprocAttr,k1,q1,Ax];replace zz:=Ae k1 q1 hlA hlK yT;exact wz zz
   |true=>
    rw[q1]at hF;cases q2:((args.length:Int)==0)with
    |false=>
     rw[q2]at hF;simp only[B5,BA]at hF;subst hF;refine AD func178 ntmps178 results178 Ty.Is ?_;refine wt (AU k1 q1 q2) ?_;refine DM (hT) (sr (AW k1 q1 q2 yT)) ?_;simp only[Ty.w,simprocAttr,k1,q1,q2,Ax];replace zz:=Ah k1 q1 q2 hlA hlK yT;exact wz zz
    |true=>
     rw[q2]at hF;cases q3:((kids.length:Int)==0)with
     |false=>
      rw[q3]at hF;simp only[B5,BA]at hF;subst hF;refine AD func178 ntmps178 results178 Ty.Is ?_;replace zz:=AW k1 q1 q2 q3;refine wt zz ?_;refine DM (hT) (sr (Ae k1 q1 q2 q3 yT)) ?_;simp only[Ty.w,simprocAttr,k1,q1,q2,q3,Ax];replace zz:=Ad k1 q1 q2 q3 hlA hlK yT;exact wz zz
     |true=>
      rw[q3]at hF;cases q4:decide (v>= -1099511627776)with
      |false=>
       rw[q4]at hF;simp only[B5,BA]at hF;subst hF;refine AD func178 ntmps178 results178 Ty.Is ?_;replace zz:=Ae k1 q1 q2 q3 q4;refine wt zz ?_;refine DM (hT) (sr (Ah k1 q1 q2 q3 q4 yT)) ?_;simp only[Ty.w,simprocAttr,k1,q1,q2,q3,q4,Ax];replace zz:=BJ k1 q1 q2 q3 q4 hlA hlK yT;exact wz zz
      |true=>
       rw[q4]at hF;simp only[B7]at hF;subst hF;refine AD func178 ntmps178 results178 Ty.Is ?_;replace zz:=Ae k1 q1 q2 q3 q4;refine wt zz ?_;refine DM (hT) (sr (Ah k1 q1 q2 q3 q4 yT)) ?_;simp only[Ty.w,simprocAttr,k1,q1,q2,q3,q4,Ax];replace zz:=BJ k1 q1 q2 q3 q4 hlA hlK yT;exact wz zz
  |false=>
   rw[k1]at hF;simp only[BQ,AP]at hF;cases k2:(op.data.toList==(#[102,108,117,101,110,116]:Array UInt8).toList)with
   |true=>
    rw[k2]at hF;simp only[AO]at hF;have hfc: ∀ s∈args, ∀ h:A0,A6 prog 192 [A3 s] h λr h'=>r= .sc (.bool (!CH s))/\h'=h:=λs hs h=>iQ (hargs s hs);cases q1:(v==0)with
    |false=>
     rw[q1]at hF;simp only[B5,BA]at hF;subst hF;refine AD func178 ntmps178 results178 Ty.Is ?_;refine wt (AU k1 k2 q1) ?_;refine DM (hT) (sr (AW k1 k2 q1 yT)) ?_;simp only[Ty.w,simprocAttr,k1,k2,q1,Ax];replace zz:=Ah k1 k2 q1 hlA hlK yT;exact wz zz
    |true=>
     rw[q1]at hF;cases q2:((kids.length:Int)==0)with
     |false=>
      rw[q2]at hF;simp only[B5,BA]at hF;subst hF;refine AD func178 ntmps178 results178 Ty.Is ?_;replace zz:=AW k1 k2 q1 q2;refine wt zz ?_;refine DM (hT) (sr (Ae k1 k2 q1 q2 yT)) ?_;simp only[Ty.w,simprocAttr,k1,k2,q1,q2,Ax];replace zz:=Ad k1 k2 q1 q2 hlA hlK yT;exact wz zz
     |true=>
      rw[q2]at hF;cases q3:As name with
      |false=>
       rw[q3]at hF;simp only[B5,BA]at hF;subst hF;refine AD func178 ntmps178 results178 Ty.Is ?_;replace zz:=AW k1 k2 q1 q2;refine wt zz ?_;refine DM (hT) (sr (Ae k1 k2 q1 q2 yT)) ?_;simp only[Ty.w,simprocAttr,k1,k2,q1,q2,Ax];replace zz:=Ad k1 k2 q1 q2 hlA hlK yT;refine wt zz ?_;replace zz:=Ah k1 k2 q1 q2 q3 hlK;refine uU zz (FY (s:=name) hnm') ?_;exact wz zz
      |true=>
       rw[q3]at hF;simp only[B7]at hF;subst hF;refine AD func178 ntmps178 results178 Ty.Is ?_;replace zz:=AW k1 k2 q1 q2;refine wt zz ?_;refine DM (hT) (sr (Ae k1 k2 q1 q2 yT)) ?_;simp only[Ty.w,simprocAttr,k1,k2,q1,q2,Ax];replace zz:=Ad k1 k2 q1 q2 hlA hlK yT;refine wt zz ?_;replace zz:=Ah k1 k2 q1 q2 q3 hlK;refine uU zz (FY (s:=name) hnm') ?_;refine wt zz ?_;replace zz:=Ah k1 k2 q1 q2 q3 hlK;refine uU zz (O8 hal hfc) ?_;repeat'(first|refine cK ?_|(refine nK ?_;try exact zI)|(refine Eu ?_;simp only[Ty.w,simprocAttr,k1,k2,q1,q2,q3,hlK,Bool.not_not])|(refine hK _ _ ?_;clear hK;(try simp only[At,simprocAttr])))
   |false=>
    rw[k2]at hF;simp only[BQ,AP]at hF;generalize hk3:(op.data.toList==(#[43]:Array UInt8).toList)=b3 at hF;generalize hk4:(op.data.toList==(#[45]:Array UInt8).toList)=b4 at hF;generalize hk5:(op.data.toList==(#[42]:Array UInt8).toList)=b5 at hF;refine AD func178 ntmps178 results178 Ty.Is ?_;refine wt (uu k1 k2) ?_;refine DM (hT) (sr (AU k1 k2 yT)) ?_;simp only[Ty.w,simprocAttr,k1,k2,Ax];iterate 15 (first|(with_reducible refine cK ?_)|(with_reducible refine nK ?_)|refine Ai λK hK=>?_|refine uR (AU k1 k2 yT) ?_|refine uK ?_|refine C3 (AU k1 k2 yT) ?_|(refine uN hK ?_;clear hK)|apply zI)
    refine Mq (λS h'=>h'=h.set id (D5 (n+1))/\S 1= qK d/\S 2= .ptr id 0 0/\S 3= .Aj (Ex.mk op name v args kids).cells/\S 62= .sc (.bool (b3||b4||b5))) ?_ ?_
    ·clear hF;cases b3 with
     |true=>
      refine wm hk3 ?_;try exact zI
      all_goals(simp only[Ty.w,simprocAttr,Ex.cells,Dh,Cx,KV])
     |false=>
      cases b4 with
      |true=>
       refine wm (uu hk3 hk4) ?_;try exact zI
       all_goals(simp only[Ty.w,simprocAttr,Ex.cells,Dh,Cx,KV])
      |false=>
       refine wm (AU hk3 hk4 hk5) ?_;try exact zI
       all_goals(simp only[Ty.w,simprocAttr,Ex.cells,Dh,Cx,KV])
    ·generalize (b3||b4||b5)=bb at hF⊢;rintro S h' ⟨rfl,g1,g2,g3,g62⟩;(first|refine hK _ _ ?_|refine cK ?_);(try clear hK);simp only[Ex.cells]at g3;clear hT;cases bb with
     |false=>
      simp only[BQ,AP]at hF;subst hF;replace zz:=AW g1 g2 g3 g62;exact wz zz
     |true=>
      simp only[AO]at hF;cases q1:(v==0)with
      |false=>
       rw[q1]at hF;simp only[B5,BA,BQ,AP]at hF;subst hF;replace zz:=Ah g1 g2 g3 g62 q1 hlA;exact wz zz
      |true=>
       rw[q1]at hF;cases q2:(name.data.toList==(#[]:Array UInt8).toList)with
       |false=>
        rw[q2]at hF;simp only[B5,BA,BQ,AP]at hF;subst hF;replace zz:=Ad g1 g2 g3 g62 q1 q2 hlA;exact wz zz
       |true=>
        rw[q2]at hF;cases q3:((args.length:Int)==0)with
        |false=>
         rw[q3]at hF;simp only[B5,BA,BQ,AP]at hF;subst hF;replace zz:=BJ g1 g2 g3 g62 q1 q2 q3 hlA;exact wz zz
        |true=>
         rw[q3]at hF;simp only[B7,AO]at hF;cases q4:((kids.length:Int)==2)with
         |false=>
          have hF2:F=(false,n+1):=by
           rw[← hF];split
           ·simp at q4
           ·rfl
          clear hF;subst hF2;replace zz:=B6 g1 g2 g3 g62 q1 q2 q3 q4 hlA hlK;exact wz zz
         |true=>
          obtain⟨a,b,rfl⟩: ∃ a b,kids=[a,b]:=by
           match kids,q4 with
           |[],q=>simp at q
           |[a],q=>simp at q
           |[a,b],_=>exact⟨a,b,rfl⟩
           |_::_::_::_,q=>simp at q;omega
          have ca:=ih a (by simp) (hks a (by simp)) (d+1) (n+1) (by omega) (by omega) id (h.set id (D5 (n+1))) (by simp[A0.set]);have cb0:=ih b (by simp) (hks b (by simp)) (d+1);have hle:=Ru a (d+1) (n+1);have hF3:F=(match EW a (d+1) (n+1)with|(true,c')=>EW b (d+1) c'|(false,c')=>(false,c')):=hF.symm;clear hF;have r0:=Ex.CG (l:=[a,b]) (i:=0) rfl;have r1:=Ex.CG (l:=[a,b]) (i:=1) rfl;have q5:(((Ex.rows [a,b]).length:Int)==2)=true:=(by rw[Ex.B3];exact q4);generalize Ex.rows [a,b]=RR at r0 r1 q5 g3;clear q4;generalize EW a (d+1) (n+1)=W at ca hle hF3;obtain⟨b1,c1⟩:=W;simp only[Dd,M0]at ca hle hF3;clear ih hks hlK;cases b1 with
          |false=>
           simp only at hF3;subst hF3;clear cb0;obtain⟨F5,aname,an,aargs,akids⟩:=a;obtain⟨bop,bname,bn,bargs,bkids⟩:=b;simp only[Ex.cells]at ca r0 r1;replace zz:=AY g1 g2 g3 g62 q1 q2 q3 q5 r0 r1 hlA wd;refine wt zz ?_;refine DM (ca) (sr (AY g1 g2 g3 g62 q1 q2 q3 q5 r0 r1 hlA wd)) ?_;simp only[Ty.w,simprocAttr,g1,g2,g3,g62,q1,q2,q3,q5,r0,r1,hlA,wd];replace zz:=AY g1 g2 g3 g62 q1 q2 q3 q5 r0 r1 hlA wd;exact wz zz
          |true=>
           have cb:=cb0 c1 (by omega) (hle rfl) id (h.set id (D5 c1)) (by simp[A0.set]);simp only at hF3;rw[← hF3]at cb;obtain⟨b2,c2⟩:=F;simp only[Dd,M0]at cb⊢;clear cb0 hF3;obtain⟨F5,aname,an,aargs,akids⟩:=a;obtain⟨bop,bname,bn,bargs,bkids⟩:=b;simp only[Ex.cells]at ca cb r0 r1;replace zz:=AY g1 g2 g3 g62 q1 q2 q3 q5 r0 r1 hlA wd;refine wt zz ?_;refine DM (ca) (sr (AY g1 g2 g3 g62 q1 q2 q3 q5 r0 r1 hlA wd)) ?_;simp only[Ty.w,simprocAttr,g1,g2,g3,g62,q1,q2,q3,q5,r0,r1,hlA,wd];replace zz:=AY g1 g2 g3 g62 q1 q2 q3 q5 r0 r1 hlA wd;refine wt zz ?_;refine DM (cb) (sr (AY g1 g2 g3 g62 q1 q2 q3 q5 r0 r1 hlA wd)) ?_;simp only[Ty.w,simprocAttr,g1,g2,g3,g62,q1,q2,q3,q5,r0,r1,hlA,wd];replace zz:=AY g1 g2 g3 g62 q1 q2 q3 q5 r0 r1 hlA wd;exact wz zz
def Ei(e:Ex):Bool:=(EW e 0 0).1&&(CJ (BG e) 0 0).1
theorem O9: ∀ (e:Ex)(d n:Nat),(EW e d n).1=true->FJ e=true:=by
 refine Ex.ind ?_;intro op name v args kids ih d n;unfold EW FJ;split
 ·split
  ·exact id
  ·split
   ·exact id
   ·split
    ·split
     ·rename_i h0;rw[h0];split
      ·rename_i a b;have ha:=ih a (by simp) (d+1) (n+1);split
       ·rename_i c' he;rw[he]at ha;intro hb;have:=ih b (by simp) (d+1) c' hb;simp[ha rfl,this]
       ·simp
      ·simp
     ·simp
    ·simp
 ·simp
theorem DB(h:s.size<=AF):(A5 s).ok:=by
 simp only[A5,Sx.ok,Sx.DK,List.length_nil];exact⟨by omega,by omega,h,Bj _,trivial⟩
theorem GK{l:List Sx}(hl:l.length<=AF)(h:Sx.DK l):(AC l).ok:=by
 simp only[AC,Sx.ok];refine⟨by omega,by omega,by simp[AF,ByteArray.size],hl,h⟩
theorem Q0{first:ByteArray}(h0:first.size<=AF)(hl:l.length<=1048576)(h: ∀ s∈l,s.size<=AF):(Cu first l).ok:=by
 refine GK (by simp[AF];omega) (Sx.Bs.2 ?_);intro k hk;simp only[List.map_cons,List.mem_cons,List.mem_map]at hk;rcases hk with rfl|⟨s,hs,rfl⟩
 ·exact DB h0
 ·exact DB (h s hs)
theorem Rv: ∀ e:Ex,e.ok->e.small->(BG e).ok:=by
 refine Ex.ind ?_;intro op name n args kids ih hok hsm;simp only[Ex.ok]at hok;simp only[Ex.small]at hsm;obtain⟨hop,hname,hn,hargs,hkl,hks⟩:=hok;rw[Ex.Bs]at hks;have hsk:=Ex.Es.1 hsm.2;unfold BG;split
 ·simp only[Sx.ok,Sx.DK,List.length_nil];refine⟨by omega,hn,by simp[AF,ByteArray.size],by simp,trivial⟩
 ·split
  ·exact Q0 hname hsm.1 hargs.2
  ·split
   ·rename_i a b;refine GK (by simp[AF]) ?_;simp only[Sx.DK];exact⟨DB hop,ih a (by simp) (hks a (by simp)) (hsk a (by simp)),ih b (by simp) (hks b (by simp)) (hsk b (by simp)),trivial⟩
   ·refine GK (by simp[AF]) ?_;simp only[Sx.DK];exact⟨DB hop,trivial⟩
theorem Va{e:Ex}(hok:e.ok)(hsm:e.small)(h:A0):A6 prog 166 [.agg e.cells] h λr h'=>r= .sc (.bool (Ei e))/\h'=h:=by
 have hf:=VZ e hok 0 0 (by omega) (by omega) h.next (h.new (.arr 1 [[qK 0]])) (by simp[A0.new,D5])
 have hsh:=O9 e 0 0;have hx:=Rv e hok hsm;have hv:Ei e=((EW e 0 0).1&&(CJ (BG e) 0 0).1):=rfl;rw[hv];refine A6.quiet Ty.Rl ?_;generalize EW e 0 0=W at hf hsh⊢;obtain⟨b,c⟩:=W;cases b with
 |false=>
  obtain⟨op,name,n,args,kids⟩:=e;simp only[Ex.cells,Qj]at hf⊢;refine uG (ow:=λt=>t==5) (wf:=λ_=>false) func166 ntmps166 results166 Ty.Rl ?_;refine wt A4 ?_;refine DM (hf) (sr A4) ?_;simp only[Ty.w,simprocAttr];refine wt A4 ?_;exact((AH.refl h).new _).set (AG _) _
 |true=>
  have hw:=Kv e hsm (hsh rfl);have hvv:=JM hx;generalize BG e=X at hw hvv⊢;obtain⟨op,name,n,args,kids⟩:=e;obtain⟨ki,va,li,co,te,ks⟩:=X;simp only[Ex.cells,Sx.cells,Qj]at hf hw hvv⊢;refine uG (ow:=λt=>t==5) (wf:=λ_=>false) func166 ntmps166 results166 Ty.Rl ?_;refine wt A4 ?_;refine DM (hf) (sr A4) ?_;simp only[Ty.w,simprocAttr];refine wt A4 ?_;refine uU A4 (hw _) ?_;refine wt A4 ?_;refine uU A4 (hvv _) ?_;refine wt A4 ?_;exact((AH.refl h).new _).set (AG _) _
def An(n:Int):PV:= .sc (.iface 42 (.int .i64 n))
def Ho:Sx:= .mk 0 0 0 0 ⟨#[]⟩ []
theorem iU{e:Ex}(hok:e.ok)(hsm:e.small)(h:A0):A6 prog 146 [.agg e.cells] h λr h'=>r=(if Ei e then .Al [.agg (BG e).cells,.sc .nilIface]else .Al [.agg Ho.cells,An 2])/\h'=h:=by
 have hv:=Va hok hsm;refine A6.CD Ty.Rh ?_;cases hb:Ei e with
 |false=>
  rw[hb]at hv;obtain⟨op,name,n,args,kids⟩:=e;simp only[Ex.cells,BQ,AP]at hv⊢;refine AD func146 ntmps146 results146 Ty.Rh ?_;refine wt A4 ?_;refine uU yF (hv _) ?_;refine wt yF ?_;refine⟨?_,((AH.refl h).new _).set (AG _) _⟩;simp only[Ho,An,Sx.cells,Sx.rows,AI,AN];exact⟨_,rfl,⟨_,rfl,rfl,rfl,rfl,rfl,rfl,.inr (.inl ⟨rfl,.inr rfl⟩),trivial⟩,rfl,trivial⟩
 |true=>
  rw[hb]at hv;have hsh:=O9 e 0 0 (by unfold Ei at hb;simp only[AV]at hb;exact hb.1);have hw:=Kv e hsm hsh;have hfz:=λ(n:Nat)(h:A0)=>FZ n h (BG e);generalize BG e=X at hw hfz⊢;obtain⟨op,name,n,args,kids⟩:=e;obtain⟨ki,va,li,co,te,ks⟩:=X;simp only[Ex.cells,Sx.cells,AO]at hv hw hfz⊢;refine AD func146 ntmps146 results146 Ty.Rh ?_;refine wt A4 ?_;refine uU yT (hv _) ?_;refine wt yT ?_;refine uU A4 (hw _) ?_;refine wt A4 ?_;refine⟨?_,((AH.refl h).new _).set (AG _) _⟩;simp only[AI,AN];exact⟨_,rfl,⟨_,rfl,hfz _ _⟩,rfl,trivial⟩
def Dr:ByteArray:=⟨#[111,98,106,101,99,116]⟩
def Gm(s:ByteArray):Bool:=As s||A2 s Dr
theorem Rw(hs:s.size<=AF):A6 prog 152 [A3 s] h λr h'=>r= .sc (.bool (Gm s))/\h'=h:=by
 have hs':s.size<=9223372036854775807:=by unfold AF at hs;omega
 have hc:=λh:A0=>FY (h:=h) hs';have hT:Gm s=(As s||(s.data.toList==(#[111,98,106,101,99,116]:Array UInt8).toList)):=rfl;rw[hT];generalize As s=b at hc⊢;cases b with
 |true=>
  refine AD func152 ntmps152 results152 Ty.V1 ?_;refine wt A4 ?_;refine uU A4 (hc _) ?_;refine wm A4 ?_;try exact zI
  all_goals rfl
 |false=>
  refine AD func152 ntmps152 results152 Ty.V1 ?_;refine wt A4 ?_;refine uU A4 (hc _) ?_;refine wm A4 ?_;try exact zI
  all_goals rfl
def Aa:List Pm->List Sx
 |[]=>[]
 |p::l=>A5 p.name::A5 ⟨#[45]⟩::A5 p.type::Aa l
theorem Vb: ∀ l m:List Pm,Aa (l++m)=Aa l++Aa m
 |[],m=>rfl
 |p::l,m=>by simp only[List.cons_append,Aa,Vb l m]
theorem H5: ∀ l:List Pm,(Aa l).length=3*l.length
 |[]=>rfl
 |p::l=>by simp only[Aa,List.length_cons,H5 l];omega
theorem Rx{id0:Nat}{p:PV}{l:List Sx}(t:Tl h id0 6 p (Sx.rows l)):AI id0 h (.A1 6 (Sx.rows l)) p:=by
 simp only[AI];rcases t with⟨h1,h2⟩|⟨id,h1,h2,rfl,ho⟩
 ·exact .inr (.inl ⟨h1,h2.symm⟩)
 ·refine .inr (.inr ⟨id,0,_,_,rfl,h1,ho,by omega,?_⟩);rw[List.drop_zero,List.take_of_length_le (by omega)];exact IM _ _ _
theorem Ry{l:List Pm}(hl:l.length<=1048576)(h:A0):A6 prog 96 [.A1 2 (A8 l)] h λr h'=>r= .A1 6 (Sx.rows (Aa l))/\h'=h:=by
 refine A6.CD Ty.Un ?_;have hll:=Gz l;have hw: ∀ (s:ByteArray)(h:A0),A6 prog 136 [A3 s] h λr h'=>r= .agg (A5 s).cells/\h'=h:=λs h=>Kt;simp only[A5,Sx.cells,Sx.rows]at hw;refine AD func96 ntmps96 results96 Ty.Un ?_;refine wt hll ?_;refine By (λm S h'=>S 6= .A1 2 (A8 l)/\S 7= qK l.length/\ ∃ (k:Nat)(o:PV),S 8= qK k/\S 3=o/\k<=l.length/\m=l.length-k/\AH h h'/\Tl h' h.next 6 o (Sx.rows (Aa (l.take k)))) l.length ?_ ?_
 ·simp only[Ty.w,simprocAttr];exact⟨0,_,rfl,rfl,by omega,rfl,AH.refl _,Tl.nil⟩
 ·rintro m S h' ⟨g6,g7,k,o,g8,g3,hk,rfl,hg,tl⟩;by_cases hlt:k<l.length
  ·have hd:decide ((k:Int)<(l.length:Int))=true:=(by simp;omega);have w7:IntKind.i64.wrap ((k:Int)+1)=k+1:=(by rw[BM (by omega) (by omega)]);obtain⟨p,hx⟩: ∃ p,l[k]? =some p:=⟨_,List.getElem?_eq_getElem hlt⟩;have hr:=Nr hx;have tl2:=tl.up (h':=(h'.new (.arr 2 [[.sc (.string ⟨#[]⟩),.sc (.string ⟨#[]⟩)]])).set h'.next (.arr 2 [[A3 p.name,A3 p.type]])) (by simp[A0.new,A0.set]) (λj _ hj=>by simp only[A0.new,A0.set];rw[A7 (by omega),A7 (by omega)]);have hg2:AH h ((h'.new (.arr 2 [[.sc (.string ⟨#[]⟩),.sc (.string ⟨#[]⟩)]])).set h'.next (.arr 2 [[A3 p.name,A3 p.type]])):=(hg.new _).set hg.le _;obtain⟨H,t1,t2,t3,t4,t5⟩:=tl2.tail;have hpr:(Sx.rows (Aa (l.take k))).length=3*k:=(by rw[Sx.B3,H5,List.length_take];omega);have hb:(3*k+3)*72<=140737488355328:=(by omega);have hR:Sx.rows (Aa (l.take (k+1)))=Sx.rows (Aa (l.take k))++[[qK 1,qK 0,qK 0,qK 0,A3 p.name,.A1 6 []],[qK 1,qK 0,qK 0,qK 0,A3 ⟨#[45]⟩,.A1 6 []],[qK 1,qK 0,qK 0,qK 0,A3 p.type,.A1 6 []]]:=by
    rw[List.take_add_one,hx,Vb];simp only[Sx.rows_map,List.map_append,Yy,Aa,List.map_cons,List.map_nil,A5,Sx.cells]
   generalize Sx.rows (Aa (l.take k))=R at tl tl2 t1 t2 hpr hR;replace zz:=Ad g6 g7 g8 g3 hd hr hll;refine wy zz ?_;replace zz:=AW g6 g7 g8 g3;(first|refine uV zz (hw p.name _) ?_|refine uA zz (hw p.name _) ?_);refine wy zz ?_;replace zz:=AW g6 g7 g8 g3;(first|refine uV zz (hw ⟨#[45]⟩ _) ?_|refine uA zz (hw ⟨#[45]⟩ _) ?_);refine wy zz ?_;replace zz:=AW g6 g7 g8 g3;(first|refine uV zz (hw p.type _) ?_|refine uA zz (hw p.type _) ?_);replace zz:=BF g6 g7 g8 g3 w7 t1 t2 hpr hb;(repeat'(first|refine cK ?_|refine nK ?_|refine uR zz ?_|(refine uN hK ?_;clear hK)|refine uB zz ?_|(rw[AK];rotate_left 1;omega;simp only[Ty.w,simprocAttr,g6,g7,g8,g3,w7,t1,t2,hpr,hb])|apply zI));have t3':H.next=h'.next+1:=by rw[t3];simp[A0.new,A0.set]
   have hkp:=t5 h ⟨hg2.le,hg2.B1⟩ (AG _);have hgH:AH h H:=⟨hkp.1,hkp.2⟩;rw[← hR];have hRl:3*k+3=(Sx.rows (Aa (l.take (k+1)))).length:=(by rw[Sx.B3,H5,List.length_take];omega);exact⟨l.length-(k+1),by omega,k+1,.own H.next 0 (3*k+3),by simp,by rw[t3'],by omega,rfl,hgH.new _,Tl.grow hkp.1 hRl⟩
  ·have hd:decide ((k:Int)<(l.length:Int))=false:=(by simp;omega);have hke:k=l.length:=(by omega);subst hke;rw[List.take_length]at tl;replace zz:=Ae g6 g7 g8 g3 hd;refine wt zz ?_;exact⟨Rx tl,hg⟩
def Bz:ByteArray:=⟨#[97,116,111,109]⟩
def CI:ByteArray:=⟨#[115,97,109,101]⟩
def Bl:ByteArray:=⟨#[97,110,100]⟩
def GV:ByteArray:=⟨#[111,114]⟩
def DU:ByteArray:=⟨#[110,111,116]⟩
def GL:ByteArray:=⟨#[105,109,112,108,121]⟩
def DY:ByteArray:=⟨#[102,111,114,97,108,108]⟩
def HN:ByteArray:=⟨#[101,120,105,115,116,115]⟩
def Cb:ByteArray:=⟨#[61]⟩
def DH:ByteArray:=⟨#[60]⟩
def De:ByteArray:=⟨#[60,61]⟩
def Ix:ByteArray:=⟨#[62]⟩
def JN:ByteArray:=⟨#[62,61]⟩
def Fa(op:ByteArray):Bool:=A2 op DH||A2 op De||A2 op Cb
def EO(op:ByteArray):Bool:=A2 op DY||A2 op HN
def Cn:Fm:= .mk ⟨#[]⟩ ⟨#[]⟩ [] [] [] []
def EC(op:ByteArray)(nk:Nat):Option (Nat × Nat × Bool):=
 if A2 op Bz then some (0,0,false)
 else if A2 op CI then some (0,0,false)
 else if A2 op DH then some (2,0,false)
 else if A2 op De then some (2,0,false)
 else if A2 op Cb then some (2,0,false)
 else if A2 op Bl then some (0,nk,false)
 else if A2 op GV then some (0,nk,false)
 else if A2 op DU then some (0,1,false)
 else if A2 op GL then some (0,2,false)
 else if A2 op DY then some (0,1,true)
 else if A2 op HN then some (0,1,true)
 else none
def FA(op name:ByteArray)(args:List ByteArray):Bool:=
 if A2 op Bz then As name&&args.all CH
 else if A2 op CI then HM name&&decide (args.length=2)&&args.all CH
 else HM name&&args.isEmpty
def Hp(p:Pm):Bool:=F9 p.name&&Gm p.type
def Fb(op name:ByteArray)(args:List ByteArray)(params:List Pm)(ne nk:Nat):Bool:=
 match EC op nk with
 |none=>false
 |some (e,m,q)=>FA op name args&&decide (ne=e)&&decide (nk=m)&&(params.isEmpty||q)&&params.all Hp
def GW:List Ex->Nat->Nat->Bool × Nat
 |[],_,c=>(true,c)
 |e::l,d,c=>match EW e d c with
  |(true,c')=>GW l d c'
  |(false,c')=>(false,c')
mutual
def FK:Fm->Nat->Nat->Bool × Nat
 | .mk op name args params exprs kids,d,c=>
  if c+1<=4096/\d<=32 then
   (if Fb op name args params exprs.length kids.length = true then (match GW exprs (d + 1) (c + 1) with
    |(true,c')=>GM kids (d+1) c'
    |(false,c')=>(false,c'))else(false,c+1))
  else(false,c+1)
def GM:List Fm->Nat->Nat->Bool × Nat
 |[],_,c=>(true,c)
 |k::l,d,c=>match FK k d c with
  |(true,c')=>GM l d c'
  |(false,c')=>(false,c')
end
mutual
def DI:Fm->Bool
 | .mk op name args params exprs kids=>Fb op name args params exprs.length kids.length&&exprs.all FJ&&K6 kids
def K6:List Fm->Bool
 |[]=>true
 |k::l=>DI k&&K6 l
end
theorem Mr: ∀ {l:List Fm},(K6 l=true↔ ∀ k∈l,DI k=true)
 |[]=>by simp[K6]
 |k::l=>by simp[K6,Mr (l:=l)]
mutual
def Ao:Fm->Sx
 | .mk op name args params exprs kids=>
  if A2 op Bz then Cu name args
  else if A2 op CI then Cu Cb args
  else if Fa op=true then AC (A5 op::exprs.map BG)
  else AC ((if(A2 op Bl&&kids.isEmpty)=true then[]else[A5 op])++(if EO op=true then[AC (Aa params)]else[])++OA kids)
def OA:List Fm->List Sx
 |[]=>[]
 |k::l=>Ao k::OA l
end
theorem Ms: ∀ l:List Fm,OA l=l.map Ao
 |[]=>rfl
 |k::l=>by simp[OA,Ms l]
def Bf(f:Fm):Bool:=(FK f 0 0).1&&(CJ (Ao f) 0 0).1
end Go.Proofs.YtblgchkahpgdjaaGreat
namespace Go.AM
section
variable {P:Program}{ow:Nat->Bool}{n:Nat}{ops:List Oper}{I K:AE->A0->Prop}
theorem Rz: ∀ (l:List Oper)(k:Nat){s:AE}{h:A0},Et P ow n ops (l.take k) I s h->(∀ s h,I s h->Et P ow n ops (l.drop k) K s h)->Et P ow n ops l K s h
 |[],k,s,h,h1,hk=>by
  rw[List.take_nil]at h1;have:=hk s h (by simpa only[Et]using h1)
  rwa [List.drop_nil]at this
 |o::rest,0,s,h,h1,hk=>hk s h (by simpa only[Et,List.take_zero]using h1)
 |o::rest,k+1,s,h,h1,hk=>by
  rw[List.take_succ_cons]at h1;simp only[Et]at h1⊢;refine⟨h1.1,?_⟩;have h3:=h1.2
  clear h1;cases hw:D4 ops s o with
  |none=>rw[hw]at h3;exact h3
  |some b=>
   rw[hw]at h3;simp only at h3⊢;split at h3
   ·rename_i hb;rw[AK hb];exact RO (λs h hh=>Rz rest k hh hk) h3
   ·rename_i hb;rw[A7 hb];exact Rz rest k h3 hk
theorem S0: ∀ (l:List Oper)(k:Nat){s:AE}{h:A0},EN P ow n ops (l.take k) I s h->(∀ s h,I s h->EN P ow n ops (l.drop k) K s h)->EN P ow n ops l K s h
 |[],k,s,h,h1,hk=>by
  rw[List.take_nil]at h1;have:=hk s h (by simpa only[EN]using h1)
  rwa [List.drop_nil]at this
 |o::rest,0,s,h,h1,hk=>hk s h (by simpa only[EN,List.take_zero]using h1)
 |o::rest,k+1,s,h,h1,hk=>by
  rw[List.take_succ_cons]at h1;simp only[EN]at h1⊢;refine⟨h1.1,?_⟩;have h3:=h1.2
  clear h1;cases hw:D4 ops s o with
  |none=>rw[hw]at h3;exact h3
  |some b=>
   rw[hw]at h3;simp only at h3⊢;split at h3
   ·rename_i hb;rw[AK hb];cases hc:callee (A9 s) o.op with
    |none=>
     rw[hc]at h3;simp only at h3⊢;cases he:AZ P (o.dst.any ow) o.op (A9 s) h with
     |none=>rw[he]at h3;exact h3
     |some r=>
      rw[he]at h3;exact S0 rest k h3 hk
    |some f=>
     rw[hc]at h3;simp only at h3⊢;exact RO (λs h hh=>Rz rest k hh λs h hi=>Jy _ _ _ (hk s h hi)) h3
   ·rename_i hb;rw[A7 hb];exact S0 rest k h3 hk
theorem iV{l:List Oper}{s:AE}{h:A0}(k:Nat)(I:AE->A0->Prop)(h1:EN P ow n ops (l.take k) I s h)(h2: ∀ s h,I s h->EN P ow n ops (l.drop k) K s h):EN P ow n ops l K s h:=S0 l k h1 h2
end
end Go.AM
namespace Go.Proofs.YtblgchkahpgdjaaGreat
open Go.AM Go.Proofs.Tryz
set_option maxHeartbeats 2000000
set_option maxRecDepth 20000
def Az:Sx->Int
 | .mk k _ _ _ _ _=>k
def Af:Sx->ByteArray
 | .mk _ _ _ _ t _=>t
def Br:Sx->Option (ByteArray × List Sx)
 | .mk kind _ _ _ _ kids=>if kind=3 then(match kids with
  |x::rest=>bif Az x==1 then some (Af x,rest)else none
  |[]=>none)else none
def Mt:Option (ByteArray × List Sx)->PV
 |some (t,l)=> .Al [A3 t,.A1 6 (Sx.rows l),.sc (.bool true)]
 |none=> .Al [A3 ⟨#[]⟩,.sc (.slice none 0 0),.sc (.bool false)]
theorem S1{x:Sx}(hok:x.ok)(h:A0):A6 prog 179 [.agg x.cells] h λr h'=>r=Mt (Br x)/\h'=h:=by
 obtain⟨kind,value,line,col,text,kids⟩:=x;simp only[Sx.ok]at hok;obtain⟨_,_,_,hk,_⟩:=hok;generalize hF:Br (.mk kind value line col text kids)=F;simp only[Br]at hF;simp only[Sx.cells];have hlen:=Sx.B3 kids;cases k3:(kind !=3)with
 |true=>
  rw[A7 (by simpa using k3)]at hF;subst hF;refine AD func179 ntmps179 results179 Ty.Pv ?_;refine wm k3 ?_;try exact zI
  all_goals rfl
 |false=>
  rw[AK (by simpa using k3)]at hF;cases kids with
  |nil=>
   simp only at hF;subst hF;have q:(((Sx.rows []).length:Int)==0)=true:=rfl;generalize Sx.rows []=R at q hlen;refine AD func179 ntmps179 results179 Ty.Pv ?_;refine wm (uu k3 q) ?_;try exact zI
   all_goals rfl
  |cons y rest=>
   simp only at hF;have q:(((Sx.rows (y::rest)).length:Int)==0)=false:=(by rw[hlen];simp;omega);have r0:=Sx.CG (l:=y::rest) (i:=0) rfl;have q1:(1:Int)<=((Sx.rows (y::rest)).length:Int):=(by rw[hlen];simp;omega);have ht:List.take (((Sx.rows (y::rest)).length:Int)-1).toNat (List.drop 1 (Sx.rows (y::rest)))=Sx.rows rest:=by
    simp only[Sx.rows,List.drop_succ_cons,List.drop_zero,List.length_cons];rw[List.take_of_length_le (by omega)]
   generalize Sx.rows (y::rest)=R at q r0 q1 ht hlen⊢;obtain⟨ki,va,li,co,te,ks⟩:=y;simp only[Sx.cells,Az,Af]at r0 hF;cases k1:(ki !=1)with
   |true=>
    rw[show(ki==1)=false by simpa using k1]at hF;simp only[AJ]at hF;subst hF;refine AD func179 ntmps179 results179 Ty.Pv ?_;replace zz:=AW k3 q r0 k1;refine wm zz ?_;try exact zI
    all_goals rfl
   |false=>
    rw[show(ki==1)=true by simpa using k1]at hF;simp only[AB]at hF;subst hF;refine AD func179 ntmps179 results179 Ty.Pv ?_;replace zz:=BJ k3 q r0 k1 q1 ht @CW @CX;refine wo zz ?_;try exact zI
    all_goals rfl
def CM:List Sx->List ByteArray × Int
 |[]=>([],0)
 |x::l=>bif Az x==1 then(bif CH (Af x)then(match CM l with
  |(t,c)=>bif c==0 then(Af x::t,0)else([],c))else([],8))else([],2)
def AQ(c:Int):PV:=bif c==0 then .sc .nilIface else An c
theorem Vc: ∀ l:List Sx,(CM l).2=0\/((CM l).1=[]/\((CM l).2=2\/(CM l).2=8))
 |[]=> .inl rfl
 |x::l=>by
  have:=Vc l;simp only[CM];cases Az x==1 with
  |false=>simp
  |true=>
   cases CH (Af x)with
   |false=>simp
   |true=>
    simp only[AB];cases hq:(CM l).2==0 with
    |false=>
     rcases this with h|h
     ·rw [h]at hq;simp at hq
     ·simp only[AJ,Fk];exact .inr h.2
    |true=>simp
theorem Vd{h:A0}{id0:Nat}{p:PV}{l:List ByteArray}(t:Tl h id0 1 p (AL l)):AI id0 h (.A1 1 (AL l)) p:=t.CD λr hr p hp=>by
 simp only[AL,List.mem_map]at hr;obtain⟨s,_,rfl⟩:=hr;simp only[List.mem_singleton]at hp;exact⟨_,hp⟩
theorem S2{l:List Sx}(hl:l.length<=1048576)(hok: ∀ x∈l,x.ok)(h:A0):A6 prog 180 [.A1 6 (Sx.rows l)] h λr h'=>r= .Al [.A1 1 (AL (CM l).1),AQ (CM l).2]/\h'=h:=by
 refine A6.CD Ty.VA ?_;have hll:=Sx.B3 l;refine AD func180 ntmps180 results180 Ty.VA ?_;refine wt hll ?_;refine By (λm S h'=>S 7= .A1 6 (Sx.rows l)/\S 8= qK l.length/\ ∃ (k:Nat)(o:PV)(pre:List ByteArray),S 9= qK k/\S 4=o/\k<=l.length/\m=l.length-k/\AH h h'/\pre.length=k/\Tl h' h.next 1 o (AL pre)/\
  CM l=(match CM (l.drop k)with|(t,c)=>bif c==0 then(pre++t,0)else([],c))) l.length ?_ ?_
 ·simp only[Ty.w,simprocAttr];refine⟨0,_,[],rfl,rfl,by omega,rfl,AH.refl _,rfl,Tl.nil,?_⟩;have:=Vc l;rw[List.drop_zero];cases hq:(CM l).2==0
  ·rcases this with h|h
   ·rw [h]at hq;simp at hq
   ·simp only[hq,AJ];rw[← h.1]
  ·have h0:(CM l).2=0:=(by simpa using hq);simp only[hq,AB,List.nil_append];rw[← h0]
 ·rintro m S h' ⟨g7,g8,k,o,pre,g9,g4,hk,rfl,hg,hpl,tl,hinv⟩;by_cases hlt:k<l.length
  ·have hd:decide ((k:Int)<(l.length:Int))=true:=(by simp;omega);have w7:IntKind.i64.wrap ((k:Int)+1)=k+1:=(by rw[BM (by omega) (by omega)]);obtain⟨x,hx⟩: ∃ x,l[k]? =some x:=⟨_,List.getElem?_eq_getElem hlt⟩;have hr:=Sx.CG hx;have hxk:=hok x (List.mem_of_getElem? hx);rw[Ca hx]at hinv;simp only[CM]at hinv;obtain⟨ki,va,li,co,te,ks⟩:=x;simp only[Sx.ok]at hxk;obtain⟨_,_,hte,_⟩:=hxk;simp only[Sx.cells]at hr;simp only[Az,Af]at hinv;have nz: ∀ id,id<h'.next->(id=h'.next)=False:=λid hi=>by simp;omega
   have tl2:=tl.up (h':=(h'.new (.arr 6 [[qK 0,qK 0,qK 0,qK 0,.sc (.string ⟨#[]⟩),.sc (.slice none 0 0)]])).set h'.next (.arr 6 [[qK ki,qK va,qK li,qK co,A3 te,.A1 6 (Sx.rows ks)]])) (by simp[A0.new,A0.set]) (λj _ hj=>by simp only[A0.new,A0.set];rw[A7 (by omega),A7 (by omega)]);have hg2:AH h ((h'.new (.arr 6 [[qK 0,qK 0,qK 0,qK 0,.sc (.string ⟨#[]⟩),.sc (.slice none 0 0)]])).set h'.next (.arr 6 [[qK ki,qK va,qK li,qK co,A3 te,.A1 6 (Sx.rows ks)]])):=(hg.new _).set hg.le _;cases q1:(ki !=1)with
   |true=>
    rw[show(ki==1)=false by simpa using q1]at hinv;simp only[AJ]at hinv;replace zz:=Ad g7 g8 g9 g4 hd hr q1;refine wt zz ?_;have e:CM l=([],2):=hinv;have e2:AQ 2=An 2:=rfl;rw[e,e2];refine⟨?_,hg2⟩;simp only[An,AI,AN];exact⟨_,rfl,.inr (.inl ⟨rfl,.inr rfl⟩),rfl,trivial⟩
   |false=>
    rw[show(ki==1)=true by simpa using q1]at hinv;simp only[AB]at hinv;have hc:=λh:A0=>Rt (h:=h) hte;generalize CH te=b at hc hinv;cases b with
    |false=>
     simp only[AJ]at hinv;replace zz:=Ad g7 g8 g9 g4 hd hr q1;refine wt zz ?_;replace zz:=BJ g7 g8 g9 g4 hd hr q1 yF;refine uU zz (hc _) ?_;replace zz:=Ae g7 g8 g9 g4 yF;refine wt zz ?_;have e:CM l=([],8):=hinv;have e2:AQ 8=An 8:=rfl;rw[e,e2];refine⟨?_,hg2⟩;simp only[An,AI,AN];exact⟨_,rfl,.inr (.inl ⟨rfl,.inr rfl⟩),rfl,trivial⟩
    |true=>
     simp only[AB]at hinv;obtain⟨H,t1,t2,t3,t4,t5⟩:=tl2.tail;have hpr:(AL pre).length=k:=(by rw[GI];exact hpl);have hb:(k+1)*16<=140737488355328:=(by omega);replace zz:=Ad g7 g8 g9 g4 hd hr q1;refine wt zz ?_;replace zz:=BJ g7 g8 g9 g4 hd hr q1 yT;refine uU zz (hc _) ?_;replace zz:=B6 g7 g8 g9 g4 w7 yT t1 t2 hpr hb;(repeat'(first|refine cK ?_|refine nK ?_|refine uR zz ?_|refine uQ zz λK hK=>?_|refine uK ?_|refine C3 zz ?_|(refine uN hK ?_;clear hK)|(rw[AK];rotate_left 1;omega;simp only[Ty.w,simprocAttr,g7,g8,g9,g4,w7,Ax,t1,t2,hpr,hb])|apply zI));have t3':H.next=h'.next+1:=by rw[t3];simp[A0.new,A0.set]
     have hkp:=t5 h ⟨hg2.le,hg2.B1⟩ (AG _);have hgH:AH h H:=⟨hkp.1,hkp.2⟩;have hap:AL pre++[[PV.sc (.string te)]]=AL (pre++[te]):=(by simp[AL]);rw[hap];refine⟨l.length-(k+1),by omega,k+1,.own H.next 0 (k+1),pre++[te],by simp,by rw[t3'],by omega,rfl,hgH.new _,by simp[hpl],Tl.grow hkp.1 (by rw[GI];simp[hpl]),?_⟩;rw[hinv];generalize CM (List.drop (k+1) l)=W;obtain⟨t,c⟩:=W;cases hq:c==0 with
     |false=>simp only[hq,AJ]
     |true=>simp only[hq,AB,DC,List.append_assoc,List.cons_append,List.nil_append]
  ·have hd:decide ((k:Int)<(l.length:Int))=false:=(by simp;omega);rw[List.drop_eq_nil_of_le (by omega)]at hinv;simp only[CM,DC,AB,List.append_nil]at hinv;replace zz:=Ae g7 g8 g9 g4 hd;refine wt zz ?_;have e:CM l=(pre,0):=hinv;have e2:AQ 0= .sc .nilIface:=rfl;rw[e,e2];refine⟨?_,hg⟩;have h1:=Vd tl;unfold AI;refine⟨_,rfl,?_⟩;unfold AN;refine⟨h1,?_⟩;unfold AN;exact⟨by simp only[AI],by simp only[AN]⟩
end Go.Proofs.YtblgchkahpgdjaaGreat
namespace Go.Proofs.YtblgchkahpgdjaaGreat
open Go.AM Go.Proofs.Tryz
set_option maxHeartbeats 2000000
set_option maxRecDepth 20000
def EX(op:ByteArray):Int:=
 if(op.data.toList==(#[110,111,116]:Array UInt8).toList)then 1
 else if(op.data.toList==(#[105,109,112,108,121]:Array UInt8).toList)then 2
 else if(op.data.toList==(#[102,111,114,97,108,108]:Array UInt8).toList)then 2
 else if(op.data.toList==(#[101,120,105,115,116,115]:Array UInt8).toList)then 2
 else if(op.data.toList==(#[61]:Array UInt8).toList)then 2
 else if(op.data.toList==(#[60]:Array UInt8).toList)then 2
 else if(op.data.toList==(#[60,61]:Array UInt8).toList)then 2
 else if(op.data.toList==(#[62]:Array UInt8).toList)then 2
 else if(op.data.toList==(#[62,61]:Array UInt8).toList)then 2
 else-1
theorem iW{h:A0}{op:ByteArray}:A6 prog 181 [A3 op] h λr h'=>r= qK (EX op)/\h'=h:=by
 generalize hF:EX op=F;unfold EX at hF;cases c0:(op.data.toList==(#[110,111,116]:Array UInt8).toList)with
 |true=>
  rw[c0]at hF;simp only[AO]at hF;subst hF;refine AD func181 ntmps181 results181 Ty.JK ?_;exact wz c0
 |false=>
  rw[c0]at hF;simp only[BQ,AP]at hF;cases c1:(op.data.toList==(#[105,109,112,108,121]:Array UInt8).toList)with
  |true=>
   rw[c1]at hF;simp only[AO]at hF;subst hF;refine AD func181 ntmps181 results181 Ty.JK ?_;exact wz (uu c0 c1)
  |false=>
   rw[c1]at hF;simp only[BQ,AP]at hF;cases c2:(op.data.toList==(#[102,111,114,97,108,108]:Array UInt8).toList)with
   |true=>
    rw[c2]at hF;simp only[AO]at hF;subst hF;refine AD func181 ntmps181 results181 Ty.JK ?_;exact wz (AU c0 c1 c2)
   |false=>
    rw[c2]at hF;simp only[BQ,AP]at hF;cases c3:(op.data.toList==(#[101,120,105,115,116,115]:Array UInt8).toList)with
    |true=>
     rw[c3]at hF;simp only[AO]at hF;subst hF;refine AD func181 ntmps181 results181 Ty.JK ?_;replace zz:=AW c0 c1 c2 c3;exact wz zz
    |false=>
     rw[c3]at hF;simp only[BQ,AP]at hF;cases c4:(op.data.toList==(#[61]:Array UInt8).toList)with
     |true=>
      rw[c4]at hF;simp only[AO]at hF;subst hF;refine AD func181 ntmps181 results181 Ty.JK ?_;replace zz:=Ae c0 c1 c2 c3 c4;exact wz zz
     |false=>
      rw[c4]at hF;simp only[BQ,AP]at hF;cases c5:(op.data.toList==(#[60]:Array UInt8).toList)with
      |true=>
       rw[c5]at hF;simp only[AO]at hF;subst hF;refine AD func181 ntmps181 results181 Ty.JK ?_;replace zz:=Ah c0 c1 c2 c3 c4 c5;exact wz zz
      |false=>
       rw[c5]at hF;simp only[BQ,AP]at hF;cases c6:(op.data.toList==(#[60,61]:Array UInt8).toList)with
       |true=>
        rw[c6]at hF;simp only[AO]at hF;subst hF;refine AD func181 ntmps181 results181 Ty.JK ?_;replace zz:=Ad c0 c1 c2 c3 c4 c5 c6;exact wz zz
       |false=>
        rw[c6]at hF;simp only[BQ,AP]at hF;cases c7:(op.data.toList==(#[62]:Array UInt8).toList)with
        |true=>
         rw[c7]at hF;simp only[AO]at hF;subst hF;refine AD func181 ntmps181 results181 Ty.JK ?_;replace zz:=BJ c0 c1 c2 c3 c4 c5 c6 c7;exact wz zz
        |false=>
         rw[c7]at hF;simp only[BQ,AP]at hF;cases c8:(op.data.toList==(#[62,61]:Array UInt8).toList)with
         |true=>
          rw[c8]at hF;simp only[AO]at hF;subst hF;refine AD func181 ntmps181 results181 Ty.JK ?_;replace zz:=BF c0 c1 c2 c3 c4 c5 c6 c7 c8;exact wz zz
         |false=>
          rw[c8]at hF;simp only[BQ,AP]at hF;subst hF;refine AD func181 ntmps181 results181 Ty.JK ?_;replace zz:=BF c0 c1 c2 c3 c4 c5 c6 c7 c8;exact wz zz
end Go.Proofs.YtblgchkahpgdjaaGreat
namespace Go.Proofs.YtblgchkahpgdjaaGreat
open Go.AM Go.Proofs.Tryz
def Iy(w:ByteArray):Bool:=A2 w M1||A2 w GJ||A2 w M3
def C2:Ex:= .mk ⟨#[]⟩ ⟨#[]⟩ 0 [] []
def Bg:Sx->Ex × Int
 | .mk kind value _ _ _ kids=>
  if kind=2 then(.mk Iv ⟨#[]⟩ value [] [],0)
  else if kind=3 then(match kids with
   | x :: rest => bif Az x == 1 then
     (bif Iy (Af x) then (match rest with
      |[a,b]=>(match Bg a with
       | (ea, ca) => bif ca == 0 then (match Bg b with
        |(eb,cb)=>bif cb==0 then(.mk (Af x) ⟨#[]⟩ 0 [] [ea,eb],0)else(C2,cb))else(C2,ca))
      |_=>(C2,2))
     else bif As (Af x)then(match CM rest with
      |(t,c)=>bif c==0 then(.mk Iw (Af x) 0 t [],0)else(C2,c))else(C2,8))
    else(C2,2)
   |[]=>(C2,2))else(C2,2)
termination_by x=>SizeOf.sizeOf x
decreasing_by all_goals(simp_wf;omega)
theorem ED{a b:ByteArray}(h:A2 a b=true):a=b:=Px (by simpa[A2]using h)
theorem OB: ∀ l:List ByteArray,l.all CH=true->CM (l.map A5)=(l,0)
 |[],_=>rfl
 |s::l,h=>by
  simp only[List.all_cons,AV]at h;have h1:Az (A5 s)=1:=rfl;have h2:Af (A5 s)=s:=rfl;simp only[List.map_cons,CM,h1,h2,h.1,OB l h.2,DC,AB]
theorem iX{s:ByteArray}(h:As s=true):Iy s=false:=by
 have hb:IK s.data.toList=true:=by
  unfold As at h;simp only[AV]at h;exact h.1.1.1
 have hn: ∀ c:UInt8,E2 c=false->A2 s ⟨#[c]⟩=false:=by
  intro c hc;cases he:A2 s ⟨#[c]⟩with
  |false=>rfl
  |true=>
   have:=ED he;subst this;simp[IK,hc]at hb
 unfold Iy M1 GJ M3;rw[hn 43 (by decide),hn 45 (by decide),hn 42 (by decide)];try rfl
theorem S3: ∀ e:Ex,FJ e=true->Bg (BG e)=(e,0):=by
 refine Ex.ind ?_;intro op name v args kids ih hs;unfold FJ at hs;unfold BG;cases c1:A2 op Iv with
 |true=>
  rw[c1]at hs;simp only[AO,AV,List.isEmpty_iff]at hs⊢;obtain⟨⟨⟨h1,rfl⟩,rfl⟩,_⟩:=hs;have h2:=ED c1;have h3:name=⟨#[]⟩:=ED h1;subst h2;subst h3;unfold Bg;simp
 |false=>
  rw[c1]at hs;simp only[BQ,AP]at hs⊢;cases c2:A2 op Iw with
  |true=>
   rw[c2]at hs;simp only[AO,AV,List.isEmpty_iff,Ba]at hs⊢;obtain⟨⟨⟨rfl,rfl⟩,h1⟩,h2⟩:=hs;have h3:=ED c2;subst h3;unfold Bg Cu AC;have k1:Az (A5 name)=1:=rfl;have k2:Af (A5 name)=name:=rfl;simp only[List.map_cons,k1,k2,iX h1,h1,OB args h2,DC,AB,AJ];simp
  |false=>
   rw[c2]at hs;simp only[BQ,AP]at hs⊢;split at hs
   case isFalse=>simp at hs
   rename_i hop;simp only[AV,List.isEmpty_iff,Ba]at hs;obtain⟨⟨⟨rfl,h1⟩,rfl⟩,h2⟩:=hs;split at h2
   case h_2=>simp at h2
   rename_i a b;simp only[AV]at h2;have h3:name=⟨#[]⟩:=ED h1;subst h3;unfold Bg AC;have k1:Az (A5 op)=1:=rfl;have k2:Af (A5 op)=op:=rfl;have k3:Iy op=true:=hop;simp only[k1,k2,k3,ih a (by simp) h2.1,ih b (by simp) h2.2,DC,AB];simp
end Go.Proofs.YtblgchkahpgdjaaGreat
namespace Go.Proofs.YtblgchkahpgdjaaGreat
open Go.AM Go.Proofs.Tryz
set_option maxHeartbeats 4000000
set_option maxRecDepth 20000
theorem S4(x:Sx):Bg x=(bif Az x==2 then(match x with| .mk _ v _ _ _ _=>(.mk Iv ⟨#[]⟩ v [] [],0))else(match Br x with
  |none=>(C2,2)
  |some (w,rest)=>bif Iy w then(match rest with
    |[a,b]=>(match Bg a with
     | (ea, ca) => bif ca == 0 then (match Bg b with
      |(eb,cb)=>bif cb==0 then(.mk w ⟨#[]⟩ 0 [] [ea,eb],0)else(C2,cb))else(C2,ca))
    |_=>(C2,2))
   else bif As w then(match CM rest with
    |(t,c)=>bif c==0 then(.mk Iw w 0 t [],0)else(C2,c))else(C2,8))):=by
 obtain⟨kind,value,line,col,text,kids⟩:=x
 conv=>lhs;unfold Bg
 have kk:Az (.mk kind value line col text kids)=kind:=rfl;rw[kk];simp only[Br];cases h2:kind==2 with
 |true=>
  rw[AK (by simpa using h2)];try rfl
 |false=>
  rw[A7 (by simpa using h2)];simp only[AJ];by_cases h3:kind=3
  ·rw [AK h3,AK h3];cases kids with
   |nil=>rfl
   |cons y rest=>cases hk:Az y==1<;>simp only[hk,AB,AJ]<;>rfl
  ·rw [A7 h3,A7 h3]
theorem S5{x:Sx}{w:ByteArray}{rest:List Sx}(hok:x.ok)(h:Br x=some (w,rest)):w.size<=AF/\ ∀ y∈rest,y.ok:=by
 obtain⟨kind,value,line,col,text,kids⟩:=x;simp only[Sx.ok]at hok;obtain⟨_,_,_,_,hks⟩:=hok;simp only[Br]at h;split at h
 ·cases kids with
  |nil=>simp at h
  |cons y r=>
   simp only[Sx.DK]at hks;simp only at h;cases hk:Az y==1 with
   |false=>rw[hk]at h;simp at h
   |true=>
    rw[hk]at h;simp only[AB,BC,C4]at h;obtain⟨rfl,rfl⟩:=h;refine⟨?_,Sx.Bs.1 hks.2⟩;obtain⟨_,_,_,_,t,_⟩:=y;simp only[Sx.ok]at hks;exact hks.1.2.2.1
 ·simp at h
theorem Q1(n:Nat): ∀ e:Ex,Bo n e.cells:=by
 have hs: ∀ l:List ByteArray,B9 n (AL l):=by
  intro l
  induction l with
  |nil=>simp only[AL,List.map_nil,B9]
  |cons a l ih=>simp only[AL,List.map_cons,B9,Bo,Bc,Do,Fk]at ih⊢;exact ih
 refine Ex.ind ?_;intro op name v args kids ih;have:B9 n (Ex.rows kids):=by
  clear op name v args
  induction kids with
  |nil=>simp only[Ex.rows,B9]
  |cons k ks ih2=>
   simp only[Ex.rows,B9];exact⟨ih k (by simp),ih2 λq hq=>ih q (by simp[hq])⟩
 simp only[Ex.cells,Bo,Bc,Do,Fk];exact⟨hs args,this⟩
theorem Df(n:Nat)(l:List ByteArray):B9 n (AL l):=by
 induction l with
 |nil=>simp only[AL,List.map_nil,B9]
 |cons a l ih=>simp only[AL,List.map_cons,B9,Bo,Bc,Do,Fk]at ih⊢;exact ih
theorem S6{x:Sx}(hok:x.ok)(hsm: ∀ w rest,Br x=some (w,rest)->rest.length<=1048576)(hpm:Az x=2\/ ∀ w rest,Br x=some (w,rest)->Iy w=false)(h:A0):
  A6 prog 168 [.agg x.cells] h λr h'=>r= .Al [.agg (Bg x).1.cells,AQ (Bg x).2]/\h'=h:=by
 refine A6.CD Ty.Kr ?_;have hh:=S1 hok;have hX:=S4 x;generalize Bg x=F at hX;have hho:=λw rest e=>S5 (w:=w) (rest:=rest) hok e;generalize Br x=M at hh hX hsm hpm hho;obtain⟨kind,value,line,col,text,kids⟩:=x;have kk:Az (.mk kind value line col text kids)=kind:=rfl;rw[kk]at hX hpm;simp only[Sx.cells]at hh⊢;cases k2:(kind==2)with
 |true=>
  simp only[k2,AB]at hX;subst hX;refine AD func168 ntmps168 results168 Ty.Kr ?_;refine wt k2 ?_;refine⟨?_,((AH.refl h).new _).set (AG _) _⟩;simp only[AQ,DC,AB,Iv,Ex.cells,Ex.rows,AL,List.map_nil,AI,AN];exact⟨_,rfl,⟨_,rfl,rfl,rfl,rfl,.inr (.inl ⟨rfl,.inr rfl⟩),.inr (.inl ⟨rfl,.inr rfl⟩),trivial⟩,rfl,trivial⟩
 |false=>
  have hk2:¬ kind=2:=by simpa using k2
  simp only[k2,AJ]at hX;have hpm:=hpm.resolve_left hk2;cases M with
  |none=>
   simp only at hX;subst hX;simp only[Mt]at hh;refine AD func168 ntmps168 results168 Ty.Kr ?_;refine wt k2 ?_;refine uU (uu k2 yF) (hh _) ?_;refine wt (uu k2 yF) ?_;refine⟨?_,((AH.refl h).new _).set (AG _) _⟩;have e2:AQ 2=An 2:=rfl;simp only[e2,An,C2,Ex.cells,Ex.rows,AL,List.map_nil,AI,AN];exact⟨_,rfl,⟨_,rfl,rfl,rfl,rfl,.inr (.inl ⟨rfl,.inr rfl⟩),.inr (.inl ⟨rfl,.inr rfl⟩),trivial⟩,rfl,trivial⟩
  |some wr=>
   obtain⟨w,rest⟩:=wr;have hp:=hpm w rest rfl;obtain⟨hw,hr⟩:=hho w rest rfl;have hl:=hsm w rest rfl;have hw':w.size<=9223372036854775807:=(by unfold AF at hw;omega);simp only[hp,AJ]at hX;simp only[Mt]at hh;have hp':=hp;unfold Iy M1 GJ M3 A2 at hp';rw[TQ,TQ]at hp';obtain⟨⟨p1,p2⟩,p3⟩:=hp';have hn:=λh:A0=>FY (h:=h) hw';generalize As w=b at hn hX;cases b with
   |false=>
    simp only[AJ]at hX;subst hX;refine AD func168 ntmps168 results168 Ty.Kr ?_;refine wt k2 ?_;refine uU (uu k2 yT) (hh _) ?_;replace zz:=Ah k2 p1 p2 p3 yT yF;refine wt zz ?_;refine uU (uu k2 yF) (hn _) ?_;refine wt (uu k2 yF) ?_;refine⟨?_,((AH.refl h).new _).set (AG _) _⟩;have e2:AQ 8=An 8:=rfl;simp only[e2,An,C2,Ex.cells,Ex.rows,AL,List.map_nil,AI,AN];exact⟨_,rfl,⟨_,rfl,rfl,rfl,rfl,.inr (.inl ⟨rfl,.inr rfl⟩),.inr (.inl ⟨rfl,.inr rfl⟩),trivial⟩,rfl,trivial⟩
   |true=>
    simp only[AB]at hX;have ht:=S2 hl hr;generalize CM rest=T at ht hX;obtain⟨t,c⟩:=T;simp only at ht hX;cases hc:c==0 with
    |true=>
     rw[hc,AB]at hX;subst hX;have e0:AQ c= .sc .nilIface:=(by simp only[AQ,hc,AB]);rw[e0]at ht;refine AD func168 ntmps168 results168 Ty.Kr ?_;refine wt k2 ?_;refine uU (uu k2 yT) (hh _) ?_;replace zz:=Ah k2 p1 p2 p3 yT yF;refine wt zz ?_;refine uU (uu k2 yT) (hn _) ?_;refine wt (uu k2 yT) ?_;refine uU k2 (ht _) ?_;refine wt (uu k2 yT) ?_;refine⟨?_,((AH.refl h).new _).set (AG _) _⟩;have e2:AQ 0= .sc .nilIface:=rfl;rw[e2];simp only[Iw,Ex.cells,Ex.rows,AI,AN];exact⟨_,rfl,⟨_,rfl,rfl,rfl,rfl,.inl ⟨rfl,Df _ _⟩,.inr (.inl ⟨rfl,.inr rfl⟩),trivial⟩,rfl,trivial⟩
    |false=>
     rw[hc,AJ]at hX;subst hX;have e0:AQ c=An c:=(by simp only[AQ,hc,AJ]);rw[e0]at ht⊢;simp only[An]at ht⊢;refine AD func168 ntmps168 results168 Ty.Kr ?_;refine wt k2 ?_;refine uU (uu k2 yT) (hh _) ?_;replace zz:=Ah k2 p1 p2 p3 yT yF;refine wt zz ?_;refine uU (uu k2 yT) (hn _) ?_;refine wt (uu k2 yT) ?_;refine uU k2 (ht _) ?_;refine wt (uu k2 yF) ?_;refine⟨?_,((AH.refl h).new _).set (AG _) _⟩;simp only[C2,Ex.cells,Ex.rows,AL,List.map_nil,AI,AN];exact⟨_,rfl,⟨_,rfl,rfl,rfl,rfl,.inr (.inl ⟨rfl,.inr rfl⟩),.inr (.inl ⟨rfl,.inr rfl⟩),trivial⟩,rfl,trivial⟩
end Go.Proofs.YtblgchkahpgdjaaGreat
namespace Go.Proofs.YtblgchkahpgdjaaGreat
open Go.AM Go.Proofs.Tryz
set_option maxHeartbeats 4000000
set_option maxRecDepth 20000
theorem B4(n:Nat):(n=n+1)=False:=by simp
theorem S7{g:FuncId}{l m:List Ex}(hl:l.length<=AF)(hf: ∀ a∈l, ∀ b∈m, ∀ h:A0,A6 prog g [.agg a.cells,.agg b.cells] h λr h'=>r= .sc (.bool (a.same b))/\h'=h)(h:A0):
  A6 prog 138 [.A1 5 (Ex.rows l),.A1 5 (Ex.rows m),.sc (.func (.func g) #[] #[])] h λr h'=>r= .sc (.bool (Ex.DO l m))/\h'=h:=by
 unfold AF at hl;have hll:=Ex.B3 l;have hlm:=Ex.B3 m;refine A6.quiet Ty.Ux ?_;refine AD func138 ntmps138 results138 Ty.Ux ?_;cases hne:((l.length:Int) !=m.length)with
 |true=>
  have:Ex.DO l m=false:=Ex.P6 (by simp at hne;omega);refine wt (AU hll hlm hne) ?_;rw[this];exact⟨rfl,AH.refl _⟩
 |false=>
  have hlen:l.length=m.length:=by simp at hne;omega
  refine wt (AU hll hlm hne) ?_;refine By (λc S h'=>AH h h'/\S 1= .A1 5 (Ex.rows m)/\S 2= .sc (.func (.func g) #[] #[])/\S 15= .A1 5 (Ex.rows l)/\S 16= qK l.length/\ ∃ k:Nat,S 17= qK k/\k<=l.length/\c=l.length-k/\Ex.DO l m=Ex.DO (l.drop k) (m.drop k)) l.length ?_ ?_
  ·simp only[Ty.w,simprocAttr];exact⟨AH.refl _,0,rfl,by omega,rfl,by simp⟩
  ·rintro c S h' ⟨hg,g1,g2,g15,g16,k,gk,hkl,rfl,hinv⟩;by_cases hlt:k<l.length
   ·have hd:decide ((k:Int)<(l.length:Int))=true:=(by simp;omega);have w7:IntKind.i64.wrap ((k:Int)+1)=k+1:=(by rw[BM (by omega) (by omega)]);obtain⟨a,hx⟩: ∃ a,l[k]? =some a:=⟨_,List.getElem?_eq_getElem hlt⟩;obtain⟨b,hy⟩: ∃ b,m[k]? =some b:=⟨_,List.getElem?_eq_getElem (by omega)⟩;have hc:=hf a (List.mem_of_getElem? hx) b (List.mem_of_getElem? hy);rw[Ca hx,Ca hy]at hinv;simp only[Ex.DO]at hinv;have hr:=Ex.CG hx;have hr2:=Ex.CG hy;generalize he:a.same b=e at hc hinv;clear he hf;obtain⟨op2,name2,n2,args2,kids2⟩:=a;obtain⟨op3,name3,n3,args3,kids3⟩:=b;simp only[Ex.cells]at hr hr2 hc;replace zz:=AY g1 g2 g15 g16 gk hll hlm hd hr hr2 w7 @B4;refine wy zz ?_;refine K0 (sq g2) (hc _) (by simp only[Ty.w,simprocAttr,g1,g2,g15,g16,gk];try rfl) ?_;simp only[Ty.w,simprocAttr,Ty.AX];cases e with
    |false=>
     replace zz:=Ad g1 g2 g15 g16 gk w7 yF;refine wy zz ?_;rw[hinv];exact⟨rfl,(((hg.new _).set hg.le _).new _).set (IA hg.le) _⟩
    |true=>
     replace zz:=Ad g1 g2 g15 g16 gk w7 yT;refine wy zz ?_;rw[B7]at hinv;exact⟨l.length-(k+1),by omega,(((hg.new _).set hg.le _).new _).set (IA hg.le) _,k+1,by simp,by omega,rfl,hinv⟩
   ·have hd:decide ((k:Int)<(l.length:Int))=false:=(by simp;omega);rw[List.drop_eq_nil_of_le (by omega),List.drop_eq_nil_of_le (by omega)]at hinv;simp only[Ex.DO]at hinv;replace zz:=Ad g1 g2 g15 g16 gk hll hd;refine wt zz ?_;rw[hinv];exact⟨rfl,hg⟩
theorem iY: ∀ a:Ex,a.ok-> ∀ b:Ex,b.ok-> ∀ h:A0,A6 prog 139 [.agg a.cells,.agg b.cells] h λr h'=>r= .sc (.bool (a.same b))/\h'=h:=by
 refine Ex.ind ?_;intro op name n args kids ih hok;rintro⟨op3,name3,n3,args3,kids3⟩ hok3 h;simp only[Ex.ok]at hok hok3;obtain⟨_,_,_,⟨ha,_⟩,hk,hks⟩:=hok;obtain⟨_,_,_,⟨ha3,_⟩,hk3,hks3⟩:=hok3;rw[Ex.Bs]at hks hks3;have hfk: ∀ a∈kids, ∀ b∈kids3, ∀ h:A0,A6 prog 139 [.agg a.cells,.agg b.cells] h λr h'=>r= .sc (.bool (a.same b))/\h'=h:=λa ha b hb=>ih a ha (hks a ha) b (hks3 b hb)
 clear ih;simp only[Ex.cells];refine AD func139 ntmps139 results139 Ty.gq ?_;cases e0:(op.data.toList==op3.data.toList)with
 |false=>
  have hs:(Ex.mk op name n args kids).same (.mk op3 name3 n3 args3 kids3)=false:=by simp only[Ex.same,A2,e0,B5,BA]
  refine wt e0 ?_;rw[hs]
 |true=>
  cases e1:(name.data.toList==name3.data.toList)with
  |false=>
   have hs:(Ex.mk op name n args kids).same (.mk op3 name3 n3 args3 kids3)=false:=(by simp only[Ex.same,A2,e0,e1,B5,BA]);refine wt (uu e0 e1) ?_;rw[hs]
  |true=>
   cases e2:(n==n3)with
   |false=>
    have hs:(Ex.mk op name n args kids).same (.mk op3 name3 n3 args3 kids3)=false:=(by simp only[Ex.same,A2,e0,e1,e2,B5,BA]);refine wt (AU e0 e1 e2) ?_;rw[hs]
   |true=>
    refine wt (AU e0 e1 e2) ?_;cases e3:FX args args3 with
    |false=>
     have hs:(Ex.mk op name n args kids).same (.mk op3 name3 n3 args3 kids3)=false:=(by simp only[Ex.same,A2,e0,e1,e2,e3,B5,BA]);replace zz:=AW e0 e1 e2 e3;refine uU zz (O6 (l:=args) (m:=args3) ha ha3) ?_;refine wt zz ?_;rw[hs]
    |true=>
     replace zz:=AW e0 e1 e2 e3;refine uU zz (O6 (l:=args) (m:=args3) ha ha3) ?_;refine wt zz ?_;have hs:(Ex.mk op name n args kids).same (.mk op3 name3 n3 args3 kids3)=Ex.DO kids kids3:=(by simp only[Ex.same,A2,e0,e1,e2,e3,B7]);replace zz:=AW e0 e1 e2 e3;refine uU zz (S7 hk hfk _) ?_;refine wt zz ?_;rw[hs]
theorem iZ{g:FuncId}{l m:List Fm}(hl:l.length<=AF)(hf: ∀ a∈l, ∀ b∈m, ∀ h:A0,A6 prog g [.agg a.cells,.agg b.cells] h λr h'=>r= .sc (.bool (a.same b))/\h'=h)(h:A0):
  A6 prog 140 [.A1 6 (Fm.rows l),.A1 6 (Fm.rows m),.sc (.func (.func g) #[] #[])] h λr h'=>r= .sc (.bool (Fm.DO l m))/\h'=h:=by
 unfold AF at hl;have hll:=Fm.B3 l;have hlm:=Fm.B3 m;refine A6.quiet Ty.Uy ?_;refine AD func140 ntmps140 results140 Ty.Uy ?_;cases hne:((l.length:Int) !=m.length)with
 |true=>
  have:Fm.DO l m=false:=Fm.P6 (by simp at hne;omega);refine wt (AU hll hlm hne) ?_;rw[this];exact⟨rfl,AH.refl _⟩
 |false=>
  have hlen:l.length=m.length:=by simp at hne;omega
  refine wt (AU hll hlm hne) ?_;refine By (λc S h'=>AH h h'/\S 1= .A1 6 (Fm.rows m)/\S 2= .sc (.func (.func g) #[] #[])/\S 15= .A1 6 (Fm.rows l)/\S 16= qK l.length/\ ∃ k:Nat,S 17= qK k/\k<=l.length/\c=l.length-k/\Fm.DO l m=Fm.DO (l.drop k) (m.drop k)) l.length ?_ ?_
  ·simp only[Ty.w,simprocAttr];exact⟨AH.refl _,0,rfl,by omega,rfl,by simp⟩
  ·rintro c S h' ⟨hg,g1,g2,g15,g16,k,gk,hkl,rfl,hinv⟩;by_cases hlt:k<l.length
   ·have hd:decide ((k:Int)<(l.length:Int))=true:=(by simp;omega);have w7:IntKind.i64.wrap ((k:Int)+1)=k+1:=(by rw[BM (by omega) (by omega)]);obtain⟨a,hx⟩: ∃ a,l[k]? =some a:=⟨_,List.getElem?_eq_getElem hlt⟩;obtain⟨b,hy⟩: ∃ b,m[k]? =some b:=⟨_,List.getElem?_eq_getElem (by omega)⟩;have hc:=hf a (List.mem_of_getElem? hx) b (List.mem_of_getElem? hy);rw[Ca hx,Ca hy]at hinv;simp only[Fm.DO]at hinv;have hr:=Fm.CG hx;have hr2:=Fm.CG hy;generalize he:a.same b=e at hc hinv;clear he hf;obtain⟨op2,name2,args2,params2,Ve,kids2⟩:=a;obtain⟨op3,name3,args3,params3,exprs3,kids3⟩:=b;simp only[Fm.cells]at hr hr2 hc;replace zz:=AY g1 g2 g15 g16 gk hll hlm hd hr hr2 w7 @B4;refine wy zz ?_;refine K0 (sq g2) (hc _) (by simp only[Ty.w,simprocAttr,g1,g2,g15,g16,gk];try rfl) ?_;simp only[Ty.w,simprocAttr,Ty.AX];cases e with
    |false=>
     replace zz:=Ad g1 g2 g15 g16 gk w7 yF;refine wy zz ?_;rw[hinv];exact⟨rfl,(((hg.new _).set hg.le _).new _).set (IA hg.le) _⟩
    |true=>
     replace zz:=Ad g1 g2 g15 g16 gk w7 yT;refine wy zz ?_;rw[B7]at hinv;exact⟨l.length-(k+1),by omega,(((hg.new _).set hg.le _).new _).set (IA hg.le) _,k+1,by simp,by omega,rfl,hinv⟩
   ·have hd:decide ((k:Int)<(l.length:Int))=false:=(by simp;omega);rw[List.drop_eq_nil_of_le (by omega),List.drop_eq_nil_of_le (by omega)]at hinv;simp only[Fm.DO]at hinv;replace zz:=Ad g1 g2 g15 g16 gk hll hd;refine wt zz ?_;rw[hinv];exact⟨rfl,hg⟩
theorem Iz: ∀ a:Fm,a.ok-> ∀ b:Fm,b.ok-> ∀ h:A0,A6 prog 98 [.agg a.cells,.agg b.cells] h λr h'=>r= .sc (.bool (a.same b))/\h'=h:=by
 refine Fm.ind ?_;intro op name args params exprs kids ih hok;rintro⟨op3,name3,args3,params3,exprs3,kids3⟩ hok3 h;simp only[Fm.ok]at hok hok3;obtain⟨_,_,⟨ha,_⟩,⟨hp,_⟩,⟨he,hes⟩,hk,hks⟩:=hok;obtain⟨_,_,⟨ha3,_⟩,⟨hp3,_⟩,⟨he3,hes3⟩,hk3,hks3⟩:=hok3;rw[Fm.Bs]at hks hks3;have hfk: ∀ a∈kids, ∀ b∈kids3, ∀ h:A0,A6 prog 98 [.agg a.cells,.agg b.cells] h λr h'=>r= .sc (.bool (a.same b))/\h'=h:=λa ha b hb=>ih a ha (hks a ha) b (hks3 b hb);rw[Ex.Bs]at hes hes3;have hfe: ∀ a∈exprs, ∀ b∈exprs3, ∀ h:A0,A6 prog 139 [.agg a.cells,.agg b.cells] h λr h'=>r= .sc (.bool (a.same b))/\h'=h:=λa ha b hb=>iY a (hes a ha) b (hes3 b hb)
 clear ih;simp only[Fm.cells];refine AD func98 ntmps98 results98 Ty.gH ?_;cases e0:(op.data.toList==op3.data.toList)with
 |false=>
  have hs:(Fm.mk op name args params exprs kids).same (.mk op3 name3 args3 params3 exprs3 kids3)=false:=by simp only[Fm.same,A2,e0,B5,BA]
  refine wt e0 ?_;rw[hs]
 |true=>
  cases e1:(name.data.toList==name3.data.toList)with
  |false=>
   have hs:(Fm.mk op name args params exprs kids).same (.mk op3 name3 args3 params3 exprs3 kids3)=false:=(by simp only[Fm.same,A2,e0,e1,B5,BA]);refine wt (uu e0 e1) ?_;rw[hs]
  |true=>
   refine wt (uu e0 e1) ?_;cases e2:FX args args3 with
   |false=>
    have hs:(Fm.mk op name args params exprs kids).same (.mk op3 name3 args3 params3 exprs3 kids3)=false:=(by simp only[Fm.same,A2,e0,e1,e2,B5,BA]);refine uU (AU e0 e1 e2) (O6 (l:=args) (m:=args3) ha ha3) ?_;refine wt (AU e0 e1 e2) ?_;rw[hs]
   |true=>
    refine uU (AU e0 e1 e2) (O6 (l:=args) (m:=args3) ha ha3) ?_;refine wt (AU e0 e1 e2) ?_;cases e3:Dq params params3 with
    |false=>
     have hs:(Fm.mk op name args params exprs kids).same (.mk op3 name3 args3 params3 exprs3 kids3)=false:=(by simp only[Fm.same,A2,e0,e1,e2,e3,B5,BA]);replace zz:=AW e0 e1 e2 e3;refine uU zz (K4 (l:=params) (m:=params3) hp hp3) ?_;refine wt zz ?_;rw[hs]
    |true=>
     replace zz:=AW e0 e1 e2 e3;refine uU zz (K4 (l:=params) (m:=params3) hp hp3) ?_;refine wt zz ?_;cases e4:Ex.DO exprs exprs3 with
     |false=>
      have hs:(Fm.mk op name args params exprs kids).same (.mk op3 name3 args3 params3 exprs3 kids3)=false:=(by simp only[Fm.same,A2,e0,e1,e2,e3,e4,B5,BA]);replace zz:=Ae e0 e1 e2 e3 e4;refine uU zz (S7 he hfe _) ?_;refine wt zz ?_;rw[hs]
     |true=>
      replace zz:=Ae e0 e1 e2 e3 e4;refine uU zz (S7 he hfe _) ?_;refine wt zz ?_;have hs:(Fm.mk op name args params exprs kids).same (.mk op3 name3 args3 params3 exprs3 kids3)=Fm.DO kids kids3:=(by simp only[Fm.same,A2,e0,e1,e2,e3,e4,B7]);replace zz:=Ae e0 e1 e2 e3 e4;refine uU zz (iZ hk hfk _) ?_;refine wt zz ?_;rw[hs]
end Go.Proofs.YtblgchkahpgdjaaGreat
namespace Go.AM
mutual
def Sx.small:Sx->Prop
 | .mk _ _ _ _ _ kids=>kids.length<=1048576/\Sx.Db kids
def Sx.Db:List Sx->Prop
 |[]=>True
 |k::ks=>k.small/\Sx.Db ks
end
theorem Sx.Es:{l:List Sx}->(Sx.Db l↔ ∀ k∈l,k.small)
 |[]=>by simp[Sx.Db]
 |k::ks=>by simp[Sx.Db,Sx.Es (l:=ks)]
end Go.AM
namespace Go.Proofs.YtblgchkahpgdjaaGreat
open Go.AM Go.Proofs.Tryz
set_option maxHeartbeats 4000000
set_option maxRecDepth 20000
def Ej:List Sx->List Ex × Int
 |[]=>([],0)
 |x::l=>bif (Bg x).2==0 then(match Ej l with
  |(es,c)=>bif c==0 then((Bg x).1::es,0)else([],c))else([],(Bg x).2)
theorem ia: ∀ l:List Sx,((Ej l).2==0)=true->(Ej l).2=0:=λl h=>by simpa using h
theorem ib: ∀ l:List Sx,((Ej l).2==0)=false->(Ej l).1=[]
 |[],h=>by simp[Ej]at h
 |x::l,h=>by
  simp only[Ej]at h⊢;cases hq:(Bg x).2==0 with
  |false=>rfl
  |true=>
   rw[hq]at h;simp only[AB]at h⊢;cases hr:(Ej l).2==0 with
   |false=>rfl
   |true=>rw[hr]at h;simp at h
theorem ig(w:ByteArray)(rest:List Sx):rest.length=2->(match rest with
    |[a,b]=>(match Bg a with
     | (ea, ca) => bif ca == 0 then (match Bg b with
      |(eb,cb)=>bif cb==0 then((.mk w ⟨#[]⟩ 0 [] [ea,eb],0):Ex × Int)else(C2,cb))else(C2,ca))
    |_=>(C2,2))=(bif (Ej rest).2==0 then(.mk w ⟨#[]⟩ 0 [] (Ej rest).1,0)else(C2,(Ej rest).2)):=by
 intro hl
 match rest,hl with
 |[a,b],_=>
  simp only[Ej];cases ha:(Bg a).2==0
  ·simp only[ha,AJ]
  ·cases hb:(Bg b).2==0
   ·simp only[ha,hb,AB,AJ]
   ·simp [ha,hb]
theorem S8{h:A0}{id0 z:Nat}{p:PV}{rows:List (List PV)}(t:Tl h id0 z p rows):Cs p=true/\p.cells=[p]:=by
 rcases t with⟨_,rfl|rfl⟩|⟨id,_,_,rfl,_⟩
 ·exact ⟨rfl,rfl⟩
 ·exact ⟨rfl,rfl⟩
 ·exact ⟨rfl,rfl⟩
theorem Vf(n:Nat)(h:A0)(e:Ex):AN n h e.cells e.cells:=by
 have hi:=Q1 n e;obtain⟨op,name,v,args,kids⟩:=e;simp only[Ex.cells,Bo,Bc,Do,Fk]at hi;simp only[Ex.cells,AN,AI,Do,Fk];exact⟨.inl hi.1,.inl hi.2⟩
theorem Vg(n:Nat)(h:A0): ∀ l:List Ex,DE n h (Ex.rows l) (Ex.rows l)
 |[]=>by simp only[Ex.rows,DE]
 |k::ks=>by simp only[Ex.rows,DE];exact⟨Vf n h k,Vg n h ks⟩
theorem ij{h:A0}{id0 n:Nat}{p:PV}{l:List Ex}(hn:n<=id0)(t:Tl h id0 5 p (Ex.rows l)):AI n h (.A1 5 (Ex.rows l)) p:=by
 simp only[AI];rcases t with⟨h1,h2⟩|⟨id,h1,h2,rfl,ho⟩
 ·exact .inr (.inl ⟨h1,h2.symm⟩)
 ·refine .inr (.inr ⟨id,0,_,_,rfl,by omega,ho,by omega,?_⟩);rw[List.drop_zero,List.take_of_length_le (by omega)];exact Vg _ _ _
theorem im{kind value line col:Int}{text:ByteArray}{kids:List Sx}{w:ByteArray}{rest:List Sx}(hok:(Sx.mk kind value line col text kids).ok)(hk2:¬ kind=2)(hM:Br (.mk kind value line col text kids)=some (w,rest))(hp:Iy w=true)
  (hf: ∀ x∈rest, ∀ h:A0,A6 prog 168 [.agg x.cells] h λr h'=>r= .Al [.agg (Bg x).1.cells,AQ (Bg x).2]/\h'=h)(hl:rest.length<=1048576)(h:A0):
  A6 prog 168 [.agg (Sx.mk kind value line col text kids).cells] h λr h'=>r= .Al [.agg (Bg (.mk kind value line col text kids)).1.cells,AQ (Bg (.mk kind value line col text kids)).2]/\h'=h:=by
 refine A6.CD Ty.Kr ?_;have hh:=S1 hok;have hX:=S4 (.mk kind value line col text kids);generalize Bg (.mk kind value line col text kids)=F at hX;have kk:Az (.mk kind value line col text kids)=kind:=rfl;have k2:(kind==2)=false:=by simpa using hk2
 rw[kk,k2,hM]at hX;simp only[AJ,hp,AB]at hX;rw[hM]at hh;simp only[Mt]at hh;simp only[Sx.cells]at hh⊢;have hlr:=Sx.B3 rest;refine AD func168 ntmps168 results168 Ty.Kr ?_;refine wt k2 ?_;refine uU (uu k2 yT) (hh _) ?_;iterate 9 (first|(with_reducible refine cK ?_)|(with_reducible refine nK ?_)|refine Ai λK hK=>?_|refine uR (uu k2 yT) ?_|refine uK ?_|refine C3 (uu k2 yT) ?_|(refine uN hK ?_;clear hK)|apply zI)
 refine Mq (λS h'=>h'=h.new (.arr 5 [[.sc (.string ⟨#[]⟩),.sc (.string ⟨#[]⟩),qK 0,.sc (.slice none 0 0),.sc (.slice none 0 0)]])/\S 2= .ptr h.next 0 0/\S 4=A3 w/\S 5= .A1 6 (Sx.rows rest)) ?_ ?_
 ·have hp':=hp;unfold Iy M1 GJ M3 A2 at hp'
  clear hX hf;cases p1:(w.data.toList==(#[43]:Array UInt8).toList)with
  |true=>
   refine wm (AU k2 p1 yT) ?_;try exact zI
   all_goals(simp only[Ty.w,simprocAttr])
  |false=>
   cases p2:(w.data.toList==(#[45]:Array UInt8).toList)with
   |true=>
    replace zz:=Ae k2 p1 p2 yT yF;refine wm zz ?_;try exact zI
    all_goals(simp only[Ty.w,simprocAttr])
   |false=>
    have p3:(w.data.toList==(#[42]:Array UInt8).toList)=true:=by
     rw[p1,p2]at hp';simpa using hp'
    replace zz:=Ah k2 p1 p2 p3 yT yF;refine wm zz ?_;try exact zI
    all_goals(simp only[Ty.w,simprocAttr])
 ·rintro S h' ⟨rfl,g2,g4,g5⟩;first|refine hK _ _ ?_|refine cK ?_
  try clear hK
  clear hh;cases q:(((Sx.rows rest).length:Int) !=2)with
  |true=>
   have hF:F=(C2,2):=by
    rw[hX];split
    ·rw [hlr]at q;simp at q
    ·rfl
   subst hF;replace zz:=AW g2 g4 g5 q;refine wt zz ?_;refine⟨?_,((AH.refl h).new _).set (AG _) _⟩;have e2:AQ 2=An 2:=rfl;simp only[e2,An,C2,Ex.cells,Ex.rows,AL,List.map_nil,AI,AN];exact⟨_,rfl,⟨_,rfl,rfl,rfl,rfl,.inr (.inl ⟨rfl,.inr rfl⟩),.inr (.inl ⟨rfl,.inr rfl⟩),trivial⟩,rfl,trivial⟩
  |false=>
   have q':(((Sx.rows rest).length:Int)=2):=(by simpa using q);have hF:F=(bif (Ej rest).2==0 then(.mk w ⟨#[]⟩ 0 [] (Ej rest).1,0)else(C2,(Ej rest).2)):=by
    rw[hX];exact ig w rest (by rw[hlr]at q';omega)
   clear hX;replace zz:=AW g2 g4 g5 q;refine wt zz ?_;refine By (λm S h'=>S 2= .ptr h.next 0 0/\S 9= .ptr (h.next+1) 0 0/\S 64= .A1 6 (Sx.rows rest)/\S 65= qK (Sx.rows rest).length/\ ∃ (k:Nat)(o:PV)(pre:List Ex),S 66= qK k/\k<=rest.length/\m=rest.length-k/\AH h h'/\h.next+1<h'.next/\pre.length=k/\
    h'.obj h.next=some (.arr 5 [[.sc (.string ⟨#[]⟩),.sc (.string ⟨#[]⟩),qK 0,.sc (.slice none 0 0),.sc (.slice none 0 0)]])/\h'.obj (h.next+1)=some (.arr 5 [[A3 w,.sc (.string ⟨#[]⟩),qK 0,.sc (.slice none 0 0),o]])/\Tl h' (h.next+2) 5 o (Ex.rows pre)/\
    Ej rest=(bif (Ej (rest.drop k)).2==0 then(pre++(Ej (rest.drop k)).1,0)else([],(Ej (rest.drop k)).2))) rest.length ?_ ?_
   ·simp only[Ty.w,simprocAttr,g2];refine⟨0,_,[],rfl,by omega,rfl,?_,?_,rfl,?_,?_,Tl.nil,?_⟩
    ·exact ((AH.refl h).new _).new _|>.set (show h.next<=h.next+1 by omega) _
    ·simp [A0.new,A0.set]
    ·have e1:¬ h.next=h.next+1:=by omega
     simp[A0.new,A0.set,e1]
    ·simp [A0.new,A0.set]
    ·rw [List.drop_zero];cases hq:(Ej rest).2==0
     ·simp only[AJ];rw[← ib rest hq]
     ·simp only[AB,List.nil_append];rw[← ia rest hq]
   ·clear g2 g4 g5;rintro m S h' ⟨g2,g9,g64,g65,k,o,pre,g66,hk,rfl,hg,hnx,hpl,o1,o2,tl,hinv⟩;rw[hlr]at g65;by_cases hlt:k<rest.length
    ·have hd:decide ((k:Int)<(rest.length:Int))=true:=(by simp;omega);have w7:IntKind.i64.wrap ((k:Int)+1)=k+1:=(by rw[BM (by omega) (by omega)]);obtain⟨x,hx⟩: ∃ x,rest[k]? =some x:=⟨_,List.getElem?_eq_getElem hlt⟩;have hr:=Sx.CG hx;have hc:=hf x (List.mem_of_getElem? hx);rw[Ca hx]at hinv;simp only[Ej]at hinv;have hin:=Q1;generalize hE:Bg x=E at hc hinv;obtain⟨e,c⟩:=E;simp only at hc hinv;clear hE hf;obtain⟨ki,va,li,co,te,ks⟩:=x;simp only[Sx.cells]at hr hc;have her:=λl=>Ex.rows_map (l++[e]);have n1:(h.next=h'.next)=False:=(by simp;omega);have n2:(h.next+1=h'.next)=False:=(by simp;omega);have n3:(h.next=h'.next+1)=False:=(by simp;omega);have n4:(h.next=h'.next)=False:=(by simp;omega);have n5:(h.next+1=h'.next+1)=False:=(by simp;omega);cases hcc:c==0 with
     |false=>
      rw[hcc]at hinv;simp only[AJ]at hinv;have e0:AQ c=An c:=(by simp only[AQ,hcc,AJ]);rw[e0]at hc;simp only[An]at hc;have hq:Ej rest=([],c):=(by rw[hinv];simp only[hcc,AJ]);rw[hq]at hF;simp only[hcc,AJ]at hF;subst hF;obtain⟨eop,ena,en,ear,eki⟩:=e;simp only[Ex.cells]at hc;replace zz:=AY g2 g9 g64 g65 g66 hd hr o1 o2 n1 n2 (AU n3 n5 @B4);refine wt zz ?_;replace zz:=AY g2 g9 g64 g65 g66 hd hr o1 o2 n1 n2 (AU n3 n5 @B4);refine uU zz (hc _) ?_;replace zz:=AY g2 g9 g64 g65 g66 o1 o2 n1 n2 n3 n5 @B4;refine wt zz ?_;have e2:AQ c= .sc (.iface 42 (.int .i64 c)):=(by rw[e0];try rfl);rw[e2];refine⟨?_,(((((hg.new _).set hg.le _).new _).set (show h.next<=h'.next+1 by have:=hg.le;omega) _).set (AG _) _)⟩;simp only[C2,Ex.cells,Ex.rows,AL,List.map_nil,AI,AN];exact⟨_,rfl,⟨_,rfl,rfl,rfl,rfl,.inr (.inl ⟨rfl,.inr rfl⟩),.inr (.inl ⟨rfl,.inr rfl⟩),trivial⟩,rfl,trivial⟩
     |true=>
      have e0:AQ c= .sc .nilIface:=(by simp only[AQ,hcc,AB]);rw[e0]at hc;have hto:=S8 tl;have hrows:Ex.rows (pre++[e])=Ex.rows pre++[e.cells]:=(by simp only[Ex.rows_map,List.map_append,List.map_cons,List.map_nil]);obtain⟨eop,ena,en,ear,eki⟩:=e;simp only[Ex.cells]at hc hrows;have hold: ∀ j,j<h'.next->(((((h'.new (.arr 6 [[qK 0,qK 0,qK 0,qK 0,.sc (.string ⟨#[]⟩),.sc (.slice none 0 0)]])).set h'.next (.arr 6 [[qK ki,qK va,qK li,qK co,A3 te,.A1 6 (Sx.rows ks)]])).new (.arr 5 [[.sc (.string ⟨#[]⟩),.sc (.string ⟨#[]⟩),qK 0,.sc (.slice none 0 0),.sc (.slice none 0 0)]])).set (h'.next+1) (.arr 5 [[A3 eop,A3 ena,qK en,.A1 1 (AL ear),.A1 5 (Ex.rows eki)]])):A0).obj j=h'.obj j:=λj hj=>by
       have a1:¬ j=h'.next:=by omega
       have a2:¬ j=h'.next+1:=by omega
       simp only[A0.new,A0.set,a1,a2,AP]
      have tl2:=tl.up (h':=((((h'.new (.arr 6 [[qK 0,qK 0,qK 0,qK 0,.sc (.string ⟨#[]⟩),.sc (.slice none 0 0)]])).set h'.next (.arr 6 [[qK ki,qK va,qK li,qK co,A3 te,.A1 6 (Sx.rows ks)]])).new (.arr 5 [[.sc (.string ⟨#[]⟩),.sc (.string ⟨#[]⟩),qK 0,.sc (.slice none 0 0),.sc (.slice none 0 0)]])).set (h'.next+1) (.arr 5 [[A3 eop,A3 ena,qK en,.A1 1 (AL ear),.A1 5 (Ex.rows eki)]]))) (by simp[A0.new,A0.set];omega) (λj _ hj=>hold j hj);have hg2:AH h ((((h'.new (.arr 6 [[qK 0,qK 0,qK 0,qK 0,.sc (.string ⟨#[]⟩),.sc (.slice none 0 0)]])).set h'.next (.arr 6 [[qK ki,qK va,qK li,qK co,A3 te,.A1 6 (Sx.rows ks)]])).new (.arr 5 [[.sc (.string ⟨#[]⟩),.sc (.string ⟨#[]⟩),qK 0,.sc (.slice none 0 0),.sc (.slice none 0 0)]])).set (h'.next+1) (.arr 5 [[A3 eop,A3 ena,qK en,.A1 1 (AL ear),.A1 5 (Ex.rows eki)]])):=(((hg.new _).set hg.le _).new _).set (show h.next<=h'.next+1 by have:=hg.le;omega) _;have hnn:(((((h'.new (.arr 6 [[qK 0,qK 0,qK 0,qK 0,.sc (.string ⟨#[]⟩),.sc (.slice none 0 0)]])).set h'.next (.arr 6 [[qK ki,qK va,qK li,qK co,A3 te,.A1 6 (Sx.rows ks)]])).new (.arr 5 [[.sc (.string ⟨#[]⟩),.sc (.string ⟨#[]⟩),qK 0,.sc (.slice none 0 0),.sc (.slice none 0 0)]])).set (h'.next+1) (.arr 5 [[A3 eop,A3 ena,qK en,.A1 1 (AL ear),.A1 5 (Ex.rows eki)]])):A0).next=h'.next+1+1:=by simp[A0.new,A0.set]
      obtain⟨H,t1,t2,t3,t4,t5⟩:=tl2.tail;have u9:=t4 (h.next+1) (by omega);rw[hold _ hnx,o2]at u9;have u0:=t4 h.next (by omega)
      rw[hold _ (by omega),o1]at u0;rw[hnn]at t3;have hkp:=t5 h ⟨hg2.le,hg2.B1⟩ (by omega);have hgH:AH h H:=⟨hkp.1,hkp.2⟩;have hpr:(Ex.rows pre).length=k:=(by rw[Ex.B3];exact hpl);have hb:(k+1)*88<=140737488355328:=(by omega);have n6:(h.next+1=H.next)=False:=(by simp;omega);have n7:(h.next+1=h'.next+1+1)=False:=(by simp;omega);replace zz:=AY g2 g9 g64 g65 g66 hd hr o1 o2 n1 n2 (AU n3 n5 @B4);refine wt zz ?_;replace zz:=AY g2 g9 g64 g65 g66 hd hr o1 o2 n1 n2 (AU n3 n5 @B4);refine uU zz (hc _) ?_;replace zz:=AY g2 g9 g64 g65 g66 o1 o2 n1 n2 n3 n5 (BF n6 n7 @B4 t1 t2 u9 hpr hb w7);(repeat'(first|refine cK ?_|refine nK ?_|refine Ai λK hK=>?_|refine uR zz ?_|refine uQ zz λK hK=>?_|refine uK ?_|refine C3 zz ?_|(refine uN hK ?_;clear hK)|(rw[AK];rotate_left 1;omega;simp only[Ty.w,simprocAttr,g2,g9,g64,g65,g66,o1,o2,n1,n2,n3,n5,n6,n7,B4,t1,t2,u9,hpr,hb,w7])|apply zI));rw[← hrows];have hgr:=Tl.grow (H:=H) (id0:=h.next+2) (z:=5) (len:=k+1) (rows:=Ex.rows (pre++[Ex.mk eop ena en ear eki])) (by omega) (by rw[Ex.B3];simp[hpl]);refine⟨rest.length-(k+1),by omega,by rw[hlr],k+1,.own H.next 0 (k+1),pre++[Ex.mk eop ena en ear eki],by simp,by omega,rfl,(hgH.new _).set (show h.next<=h.next+1 by omega) _,by omega,by simp[hpl],?_,by rw[t3],?_,?_⟩
      ·rw [A7 (by omega)];exact u0
      ·exact hgr.up (AG _) (λj hj _=>by simp only[A0.set];rw[A7 (by omega)])
      ·rw [hinv,hcc];simp only[AB];cases hq:(Ej (List.drop (k+1) rest)).2==0 with
       |false=>simp only[hq,AJ]
       |true=>simp only[AB,DC,List.append_assoc,List.cons_append,List.nil_append]
    ·have hd:decide ((k:Int)<(rest.length:Int))=false:=(by simp;omega);rw[List.drop_eq_nil_of_le (by omega)]at hinv;have hq:Ej rest=(pre,0):=(by rw[hinv];simp[Ej]);rw[hq]at hF;have hF2:F=(.mk w ⟨#[]⟩ 0 [] pre,0):=hF;clear hF;subst hF2;have ho:=(S8 tl).1;have n1:(h.next+1=h.next)=False:=(by simp);replace zz:=B6 g2 g9 g64 g65 g66 hd o1 o2 ho n1;refine wt zz ?_;refine⟨?_,hg.set (AG _) _⟩;have e2:AQ 0= .sc .nilIface:=rfl;rw[e2];have h1:AI h.next (h'.set h.next (.arr 5 [[A3 w,.sc (.string ⟨#[]⟩),qK 0,.sc (.slice none 0 0),o]])) (.A1 5 (Ex.rows pre)) o:=ij (by omega) (tl.up (AG _) (λj hj _=>by simp only[A0.set];rw[A7 (by omega)]))
     generalize h'.set h.next (.arr 5 [[A3 w,.sc (.string ⟨#[]⟩),qK 0,.sc (.slice none 0 0),o]])=H at h1⊢
     simp only[Ex.cells,AL,List.map_nil];unfold AI;refine⟨_,rfl,?_⟩;unfold AN;refine⟨?_,by unfold AN;exact⟨by simp only[AI],by simp only[AN]⟩⟩;unfold AI;refine⟨_,rfl,?_⟩;unfold AN;refine⟨by simp only[AI],?_⟩;unfold AN;refine⟨by simp only[AI],?_⟩;unfold AN;refine⟨by simp only[AI],?_⟩;unfold AN;refine⟨by simp[AI],?_⟩;unfold AN;exact⟨h1,by simp only[AN]⟩
theorem Q2{kind value line col:Int}{text:ByteArray}{kids:List Sx}{w:ByteArray}{rest:List Sx}(h:Br (.mk kind value line col text kids)=some (w,rest)): ∃ y,kids=y::rest:=by
 simp only[Br]at h;split at h
 ·cases kids with
  |nil=>simp at h
  |cons y r=>
   simp only at h;cases hk:Az y==1 with
   |false=>rw[hk]at h;simp at h
   |true=>
    rw[hk]at h;simp only[AB,BC,C4]at h;exact⟨y,by rw[h.2]⟩
 ·simp at h
theorem S9: ∀ x:Sx,x.ok->x.small-> ∀ h:A0,A6 prog 168 [.agg x.cells] h λr h'=>r= .Al [.agg (Bg x).1.cells,AQ (Bg x).2]/\h'=h:=by
 refine Sx.ind ?_;intro kind value line col text kids ih hok hsm h;have hok':=hok;simp only[Sx.ok]at hok';obtain⟨_,_,_,_,hks⟩:=hok';rw[Sx.Bs]at hks;simp only[Sx.small]at hsm;obtain⟨hl,hss⟩:=hsm;rw[Sx.Es]at hss;have hrl: ∀ w rest,Br (.mk kind value line col text kids)=some (w,rest)->rest.length<=1048576:=λw rest e=>by
  obtain⟨y,rfl⟩:=Q2 e;simp at hl;omega
 by_cases hk2:kind=2
 ·exact S6 hok hrl (.inl hk2) h
 ·cases hM:Br (.mk kind value line col text kids)with
  |none=>exact S6 hok hrl (.inr λw rest e=>by rw[hM]at e;simp at e) h
  |some wr=>
   obtain⟨w,rest⟩:=wr;cases hp:Iy w with
   |false=>exact S6 hok hrl (.inr λw2 rest2 e=>by rw[hM]at e;simp at e;rw[← e.1];exact hp) h
   |true=>
    obtain⟨y,hy⟩:=Q2 hM;exact im hok hk2 hM hp (λx hx=>ih x (by rw[hy];simp[hx]) (hks x (by rw[hy];simp[hx])) (hss x (by rw[hy];simp[hx]))) (hrl w rest hM) h
end Go.Proofs.YtblgchkahpgdjaaGreat
namespace Go.Proofs.YtblgchkahpgdjaaGreat
open Go.AM Go.Proofs.Tryz
set_option maxHeartbeats 2000000
set_option maxRecDepth 20000
variable {s:ByteArray}{h:A0}
theorem iq(c:UInt8):(DL c=true/\decide ((c.toNat:Int)<48)=false/\decide ((c.toNat:Int)>57)=false)\/(DL c=false/\decide ((c.toNat:Int)<48)=true)\/(DL c=false/\decide ((c.toNat:Int)<48)=false/\decide ((c.toNat:Int)>57)=true):=by
 simp only[DL,AV,TR,Ba,Cw];omega
theorem SA(hs:s.size<=AF):A6 prog 172 [A3 s] h λr h'=>r= .sc (.bool (s.data.toList.all DL&&decide (0<s.size)))/\h'=h:=by
 unfold AF at hs;have htl:s.data.toList.length=s.size:=by rw[Ed];try rfl
 refine AD func172 ntmps172 results172 Ty.gX ?_;refine wt A4 ?_;refine By (λm S h'=>h'=h/\S 0=A3 s/\ ∃ k:Nat,S 3= qK k/\k<=s.size/\m=s.size-k/\ ∀ (i:Nat)(c:UInt8),i<k->s.data.toList[i]? =some c->DL c=true) s.size ?_ ?_
 ·simp only[Ty.w,simprocAttr];exact⟨0,rfl,by omega,rfl,by omega⟩
 ·rintro m S h' ⟨rfl,g0,k,g3,hk,rfl,hall⟩;by_cases hlt:k<s.size
  ·have hd:decide ((k:Int)<(s.size:Int))=true:=(by simp;omega);have w7:IntKind.i64.wrap ((k:Int)+1)=k+1:=(by rw[BM (by omega) (by omega)]);obtain⟨c,hx⟩: ∃ c,s.data.toList[k]? =some c:=⟨_,List.getElem?_eq_getElem (by omega)⟩;have hr:s[k]? =some c:=(by rw[Lv];exact hx);have bad:DL c=false->s.data.toList.all DL=false:=λhg=>(by rw[List.all_eq_false];exact⟨c,List.mem_of_getElem? hx,by simp[hg]⟩);rcases iq c with⟨hg,c1,c2⟩|⟨hg,c1⟩|⟨hg,c1,c2⟩
   ·replace zz:=Ad g0 g3 hd hr c1 c2 w7;refine wt zz ?_;refine⟨s.size-(k+1),by omega,k+1,by simp,by omega,rfl,λi c2 hi hw=>?_⟩;by_cases hik:i=k
    ·subst hik;rw[hx]at hw;simp at hw;rw[← hw];exact hg
    ·exact hall i c2 (by omega) hw
   ·replace zz:=Ae g0 g3 hd hr c1;refine wt zz ?_;rw[bad hg];try rfl
   ·replace zz:=Ah g0 g3 hd hr c1 c2;refine wt zz ?_;rw[bad hg];try rfl
  ·have hd:decide ((k:Int)<(s.size:Int))=false:=(by simp;omega);have hok:s.data.toList.all DL=true:=by
    rw[List.all_eq_true];intro c hc;obtain⟨i,hi⟩:=List.getElem?_of_mem hc;exact hall i c (by have:=(List.getElem?_eq_some_iff.1 hi).1;omega) hi
   have e1:decide ((s.size:Int)>0)=decide (0<s.size):=Oy.2 (by omega);clear hall;refine wt (AU g0 g3 hd) ?_;rw[hok,e1];try rfl
theorem ir(hs:s.size<=AF):A6 prog 160 [A3 s] h λr h'=>r= .sc (.bool (Hn s))/\h'=h:=by
 have htl:s.data.toList.length=s.size:=by rw[Ed];try rfl
 cases b1:decide ((s.size:Int)>0)with
 |false=>
  have ht:E3 s=s:=by
   have:s.data.toList=[]:=List.eq_nil_of_length_eq_zero (by have:=TT b1;omega);unfold E3;rw[this]
  have hd:=SA (h:=h) hs;refine AD func160 ntmps160 results160 Ty.Rj ?_;refine wt b1 ?_;refine uU b1 (hd) ?_;refine wt A4 ?_;rw[show Hn s=((E3 s).data.toList.all DL&&decide (0<(E3 s).size))from rfl,ht]
 |true=>
  have hpos:0<s.size:=by simp at b1;omega
  obtain⟨c,hx⟩: ∃ c,s.data.toList[0]? =some c:=⟨_,List.getElem?_eq_getElem (by omega)⟩;have hr:s[0]? =some c:=by rw[Lv];exact hx
  cases b2:((c.toNat:Int)==45)with
  |false=>
   have ht:E3 s=s:=by
    unfold E3;split
    ·rename_i l heq;rw[heq]at hx;simp at hx;subst hx;simp at b2
    ·rfl
   have hd:=SA (h:=h) hs;refine AD func160 ntmps160 results160 Ty.Rj ?_;refine wt (AU b1 hr b2) ?_;refine uU (uu b1 b2) (hd) ?_;refine wt A4 ?_;rw[show Hn s=((E3 s).data.toList.all DL&&decide (0<(E3 s).size))from rfl,ht]
  |true=>
   have hc:c=45:=by
    have:c.toNat=45:=(by simp at b2;omega);exact Qk.1 this
   have q1:(1:Int)<=(s.size:Int):=(by omega);have ht:E3 s=s.extract 1 s.size:=by
    cases hl:s.data.toList with
    |nil=>rw[hl]at hx;simp at hx
    |cons d l=>
     rw[hl]at hx;simp at hx;subst hx;subst hc;unfold E3;rw[hl];refine Px ?_;have hl2:=htl;rw[hl]at hl2;simp at hl2;simp only[Yx,pQ,List.extract_eq_take_drop,hl];rw[List.drop_succ_cons,List.drop_zero,List.take_of_length_le (by omega)]
   have hsz:(s.extract 1 s.size).size<=AF:=(by simp only[ByteArray.size_extract];omega);have hd:=SA (h:=h) hsz;refine AD func160 ntmps160 results160 Ty.Rj ?_;replace zz:=Ah b1 hr b2 q1 @CW @CX;refine wt zz ?_;replace zz:=Ae b1 b2 q1 @CW @CX;refine uU zz (hd) ?_;refine wt A4 ?_;rw[show Hn s=((E3 s).data.toList.all DL&&decide (0<(E3 s).size))from rfl,ht]
theorem iu(c:UInt8):(wB c=true/\decide ((c.toNat:Int)>=97)=true/\decide ((c.toNat:Int)<=122)=true)\/
  (E2 c=false/\decide ((c.toNat:Int)>=97)=true/\decide ((c.toNat:Int)<=122)=false/\decide ((c.toNat:Int)>=48)=true/\decide ((c.toNat:Int)<=57)=false/\DL c=false)\/
  (E2 c=false/\decide ((c.toNat:Int)>=97)=false/\decide ((c.toNat:Int)>=48)=false/\DL c=false)\/
  (wB c=true/\decide ((c.toNat:Int)>=97)=false/\decide ((c.toNat:Int)>=48)=true/\decide ((c.toNat:Int)<=57)=true)\/
  (E2 c=false/\decide ((c.toNat:Int)>=97)=false/\decide ((c.toNat:Int)>=48)=true/\decide ((c.toNat:Int)<=57)=false/\DL c=false):=by
 simp only[wB,E2,DL,AV,EH,TR,Ba,Cw];omega
theorem Dk(c:UInt8):Lx.contains c=(((c.toNat:Int)==45)||((c.toNat:Int)==95)||((c.toNat:Int)==63)||((c.toNat:Int)==58)||((c.toNat:Int)==60)||((c.toNat:Int)==62)||((c.toNat:Int)==61)||((c.toNat:Int)==43)||((c.toNat:Int)==42)):=by
 have hh: ∀ d:UInt8,(c==d)=((c.toNat:Int)==(d.toNat:Int)):=by
  intro d;by_cases h:c=d
  ·subst h;simp
  ·have:¬ c.toNat=d.toNat:=λe=>h (Qk.1 e);have:¬ (c.toNat:Int)=(d.toNat:Int):=(by omega);rw[NM.2 h,NM.2 this]
 have e:Lx.contains c=(c==45||(c==95||(c==63||(c==58||(c==60||(c==62||(c==61||(c==43||(c==42||false))))))))):=rfl;rw[e,hh,hh,hh,hh,hh,hh,hh,hh,hh];simp only[GD,Bool.or_assoc];rfl
theorem Vh{c:UInt8}:A6 prog 159 [.sc (.int .u8 c.toNat)] h λr h'=>r= .sc (.bool (wB c))/\h'=h:=by
 refine AD func159 ntmps159 results159 Ty.gU ?_;rcases iu c with⟨hw,c1,c2⟩|⟨hlet,c1,c2,c3,c4,hdig⟩|⟨hlet,c1,c3,hdig⟩|⟨hw,c1,c3,c4⟩|⟨hlet,c1,c3,c4,hdig⟩
 ·refine wm (uu c1 c2) ?_;try exact zI
  all_goals(rw[hw])
 ·cases s0:((c.toNat:Int)==45)with
  |true=>
   have hw:wB c=true:=(by simp only[wB,hlet,hdig,Dk,s0,Dp,Dh,Cx]);replace zz:=Ae c1 c2 c3 c4 s0;refine wm zz ?_;try exact zI
   all_goals(rw[hw])
  |false=>
   cases s1:((c.toNat:Int)==95)with
   |true=>
    have hw:wB c=true:=(by simp only[wB,hlet,hdig,Dk,s0,s1,Dp,Dh,Cx]);replace zz:=Ah c1 c2 c3 c4 s0 s1;refine wm zz ?_;try exact zI
    all_goals(rw[hw])
   |false=>
    cases s2:((c.toNat:Int)==63)with
    |true=>
     have hw:wB c=true:=(by simp only[wB,hlet,hdig,Dk,s0,s1,s2,Dp,Dh,Cx]);replace zz:=Ad c1 c2 c3 c4 s0 s1 s2;refine wm zz ?_;try exact zI
     all_goals(rw[hw])
    |false=>
     cases s3:((c.toNat:Int)==58)with
     |true=>
      have hw:wB c=true:=(by simp only[wB,hlet,hdig,Dk,s0,s1,s2,s3,Dp,Dh,Cx]);replace zz:=BJ c1 c2 c3 c4 s0 s1 s2 s3;refine wm zz ?_;try exact zI
      all_goals(rw[hw])
     |false=>
      cases s4:((c.toNat:Int)==60)with
      |true=>
       have hw:wB c=true:=(by simp only[wB,hlet,hdig,Dk,s0,s1,s2,s3,s4,Dp,Dh,Cx]);replace zz:=BF c1 c2 c3 c4 s0 s1 s2 s3 s4;refine wm zz ?_;try exact zI
       all_goals(rw[hw])
      |false=>
       cases s5:((c.toNat:Int)==62)with
       |true=>
        have hw:wB c=true:=(by simp only[wB,hlet,hdig,Dk,s0,s1,s2,s3,s4,s5,Dp,Dh,Cx]);replace zz:=B6 c1 c2 c3 c4 s0 s1 s2 s3 s4 s5;refine wm zz ?_;try exact zI
        all_goals(rw[hw])
       |false=>
        cases s6:((c.toNat:Int)==61)with
        |true=>
         have hw:wB c=true:=(by simp only[wB,hlet,hdig,Dk,s0,s1,s2,s3,s4,s5,s6,Dp,Dh,Cx]);replace zz:=DX c1 c2 c3 c4 s0 s1 s2 s3 s4 s5 s6;refine wm zz ?_;try exact zI
         all_goals(rw[hw])
        |false=>
         cases s7:((c.toNat:Int)==43)with
         |true=>
          have hw:wB c=true:=(by simp only[wB,hlet,hdig,Dk,s0,s1,s2,s3,s4,s5,s6,s7,Dp,Dh,Cx]);replace zz:=AY c1 c2 c3 c4 s0 s1 s2 s3 s4 s5 s6 s7;refine wm zz ?_;try exact zI
          all_goals(rw[hw])
         |false=>
          cases s8:((c.toNat:Int)==42)with
          |true=>
           have hw:wB c=true:=(by simp only[wB,hlet,hdig,Dk,s0,s1,s2,s3,s4,s5,s6,s7,s8,Dp,Dh,Cx]);replace zz:=AY c1 c2 c3 c4 s0 s1 s2 s3 s4 s5 s6 (uu s7 s8);refine wm zz ?_;try exact zI
           all_goals(rw[hw])
          |false=>
           have hw:wB c=false:=(by simp only[wB,hlet,hdig,Dk,s0,s1,s2,s3,s4,s5,s6,s7,s8,GD]);replace zz:=AY c1 c2 c3 c4 s0 s1 s2 s3 s4 s5 s6 (uu s7 s8);refine wm zz ?_;try exact zI
           all_goals(rw[hw])
 ·cases s0:((c.toNat:Int)==45)with
  |true=>
   have hw:wB c=true:=(by simp only[wB,hlet,hdig,Dk,s0,Dp,Dh,Cx]);refine wm (AU c1 c3 s0) ?_;try exact zI
   all_goals(rw[hw])
  |false=>
   cases s1:((c.toNat:Int)==95)with
   |true=>
    have hw:wB c=true:=(by simp only[wB,hlet,hdig,Dk,s0,s1,Dp,Dh,Cx]);replace zz:=AW c1 c3 s0 s1;refine wm zz ?_;try exact zI
    all_goals(rw[hw])
   |false=>
    cases s2:((c.toNat:Int)==63)with
    |true=>
     have hw:wB c=true:=(by simp only[wB,hlet,hdig,Dk,s0,s1,s2,Dp,Dh,Cx]);replace zz:=Ae c1 c3 s0 s1 s2;refine wm zz ?_;try exact zI
     all_goals(rw[hw])
    |false=>
     cases s3:((c.toNat:Int)==58)with
     |true=>
      have hw:wB c=true:=(by simp only[wB,hlet,hdig,Dk,s0,s1,s2,s3,Dp,Dh,Cx]);replace zz:=Ah c1 c3 s0 s1 s2 s3;refine wm zz ?_;try exact zI
      all_goals(rw[hw])
     |false=>
      cases s4:((c.toNat:Int)==60)with
      |true=>
       have hw:wB c=true:=(by simp only[wB,hlet,hdig,Dk,s0,s1,s2,s3,s4,Dp,Dh,Cx]);replace zz:=Ad c1 c3 s0 s1 s2 s3 s4;refine wm zz ?_;try exact zI
       all_goals(rw[hw])
      |false=>
       cases s5:((c.toNat:Int)==62)with
       |true=>
        have hw:wB c=true:=(by simp only[wB,hlet,hdig,Dk,s0,s1,s2,s3,s4,s5,Dp,Dh,Cx]);replace zz:=BJ c1 c3 s0 s1 s2 s3 s4 s5;refine wm zz ?_;try exact zI
        all_goals(rw[hw])
       |false=>
        cases s6:((c.toNat:Int)==61)with
        |true=>
         have hw:wB c=true:=(by simp only[wB,hlet,hdig,Dk,s0,s1,s2,s3,s4,s5,s6,Dp,Dh,Cx]);replace zz:=BF c1 c3 s0 s1 s2 s3 s4 s5 s6;refine wm zz ?_;try exact zI
         all_goals(rw[hw])
        |false=>
         cases s7:((c.toNat:Int)==43)with
         |true=>
          have hw:wB c=true:=(by simp only[wB,hlet,hdig,Dk,s0,s1,s2,s3,s4,s5,s6,s7,Dp,Dh,Cx]);replace zz:=B6 c1 c3 s0 s1 s2 s3 s4 s5 s6 s7;refine wm zz ?_;try exact zI
          all_goals(rw[hw])
         |false=>
          cases s8:((c.toNat:Int)==42)with
          |true=>
           have hw:wB c=true:=(by simp only[wB,hlet,hdig,Dk,s0,s1,s2,s3,s4,s5,s6,s7,s8,Dp,Dh,Cx]);replace zz:=DX c1 c3 s0 s1 s2 s3 s4 s5 s6 s7 s8;refine wm zz ?_;try exact zI
           all_goals(rw[hw])
          |false=>
           have hw:wB c=false:=(by simp only[wB,hlet,hdig,Dk,s0,s1,s2,s3,s4,s5,s6,s7,s8,GD]);replace zz:=DX c1 c3 s0 s1 s2 s3 s4 s5 s6 s7 s8;refine wm zz ?_;try exact zI
           all_goals(rw[hw])
 ·refine wm (AU c1 c3 c4) ?_;try exact zI
  all_goals(rw[hw])
 ·cases s0:((c.toNat:Int)==45)with
  |true=>
   have hw:wB c=true:=(by simp only[wB,hlet,hdig,Dk,s0,Dp,Dh,Cx]);replace zz:=AW c1 c3 c4 s0;refine wm zz ?_;try exact zI
   all_goals(rw[hw])
  |false=>
   cases s1:((c.toNat:Int)==95)with
   |true=>
    have hw:wB c=true:=(by simp only[wB,hlet,hdig,Dk,s0,s1,Dp,Dh,Cx]);replace zz:=Ae c1 c3 c4 s0 s1;refine wm zz ?_;try exact zI
    all_goals(rw[hw])
   |false=>
    cases s2:((c.toNat:Int)==63)with
    |true=>
     have hw:wB c=true:=(by simp only[wB,hlet,hdig,Dk,s0,s1,s2,Dp,Dh,Cx]);replace zz:=Ah c1 c3 c4 s0 s1 s2;refine wm zz ?_;try exact zI
     all_goals(rw[hw])
    |false=>
     cases s3:((c.toNat:Int)==58)with
     |true=>
      have hw:wB c=true:=(by simp only[wB,hlet,hdig,Dk,s0,s1,s2,s3,Dp,Dh,Cx]);replace zz:=Ad c1 c3 c4 s0 s1 s2 s3;refine wm zz ?_;try exact zI
      all_goals(rw[hw])
     |false=>
      cases s4:((c.toNat:Int)==60)with
      |true=>
       have hw:wB c=true:=(by simp only[wB,hlet,hdig,Dk,s0,s1,s2,s3,s4,Dp,Dh,Cx]);replace zz:=BJ c1 c3 c4 s0 s1 s2 s3 s4;refine wm zz ?_;try exact zI
       all_goals(rw[hw])
      |false=>
       cases s5:((c.toNat:Int)==62)with
       |true=>
        have hw:wB c=true:=(by simp only[wB,hlet,hdig,Dk,s0,s1,s2,s3,s4,s5,Dp,Dh,Cx]);replace zz:=BF c1 c3 c4 s0 s1 s2 s3 s4 s5;refine wm zz ?_;try exact zI
        all_goals(rw[hw])
       |false=>
        cases s6:((c.toNat:Int)==61)with
        |true=>
         have hw:wB c=true:=(by simp only[wB,hlet,hdig,Dk,s0,s1,s2,s3,s4,s5,s6,Dp,Dh,Cx]);replace zz:=B6 c1 c3 c4 s0 s1 s2 s3 s4 s5 s6;refine wm zz ?_;try exact zI
         all_goals(rw[hw])
        |false=>
         cases s7:((c.toNat:Int)==43)with
         |true=>
          have hw:wB c=true:=(by simp only[wB,hlet,hdig,Dk,s0,s1,s2,s3,s4,s5,s6,s7,Dp,Dh,Cx]);replace zz:=DX c1 c3 c4 s0 s1 s2 s3 s4 s5 s6 s7;refine wm zz ?_;try exact zI
          all_goals(rw[hw])
         |false=>
          cases s8:((c.toNat:Int)==42)with
          |true=>
           have hw:wB c=true:=(by simp only[wB,hlet,hdig,Dk,s0,s1,s2,s3,s4,s5,s6,s7,s8,Dp,Dh,Cx]);replace zz:=AY c1 c3 c4 s0 s1 s2 s3 s4 s5 s6 s7 s8;refine wm zz ?_;try exact zI
           all_goals(rw[hw])
          |false=>
           have hw:wB c=false:=(by simp only[wB,hlet,hdig,Dk,s0,s1,s2,s3,s4,s5,s6,s7,s8,GD]);replace zz:=AY c1 c3 c4 s0 s1 s2 s3 s4 s5 s6 s7 s8;refine wm zz ?_;try exact zI
           all_goals(rw[hw])
def Kw(s:ByteArray):Bool:=s.data.toList.all wB&&decide (1<=s.size)&&decide (s.size<=32)&&!(Hn s)
theorem iw(hs:s.size<=AF):A6 prog 131 [A3 s] h λr h'=>r= .sc (.bool (Kw s))/\h'=h:=by
 have hs':=hs;unfold AF at hs';have htl:s.data.toList.length=s.size:=by rw[Ed];try rfl
 refine AD func131 ntmps131 results131 Ty.gK ?_;refine wt A4 ?_;refine By (λm S h'=>h'=h/\S 0=A3 s/\ ∃ k:Nat,S 3= qK k/\k<=s.size/\m=s.size-k/\ ∀ (i:Nat)(c:UInt8),i<k->s.data.toList[i]? =some c->wB c=true) s.size ?_ ?_
 ·simp only[Ty.w,simprocAttr];exact⟨0,rfl,by omega,rfl,by omega⟩
 ·rintro m S h' ⟨rfl,g0,k,g3,hk,rfl,hall⟩;by_cases hlt:k<s.size
  ·have hd:decide ((k:Int)<(s.size:Int))=true:=(by simp;omega);have w7:IntKind.i64.wrap ((k:Int)+1)=k+1:=(by rw[BM (by omega) (by omega)]);obtain⟨c,hx⟩: ∃ c,s.data.toList[k]? =some c:=⟨_,List.getElem?_eq_getElem (by omega)⟩;have hr:s[k]? =some c:=(by rw[Lv];exact hx);cases hg:wB c with
   |false=>
    have bad:s.data.toList.all wB=false:=(by rw[List.all_eq_false];exact⟨c,List.mem_of_getElem? hx,by simp[hg]⟩);have hw:Kw s=false:=(by simp only[Kw,bad,B5]);replace zz:=AW g0 g3 hd hr;refine wt zz ?_;replace zz:=Ah g0 g3 hd hr hg yF;refine uU zz (Vh (c:=c)) ?_;refine wm (AU g0 g3 yF) ?_;try exact zI
    all_goals(rw[hw])
   |true=>
    replace zz:=AW g0 g3 hd hr;refine wt zz ?_;replace zz:=Ah g0 g3 hd hr hg yT;refine uU zz (Vh (c:=c)) ?_;replace zz:=AW g0 g3 w7 yT;refine wt zz ?_;refine⟨s.size-(k+1),by omega,k+1,by simp,by omega,rfl,λi c2 hi hw=>?_⟩;by_cases hik:i=k
    ·subst hik;rw[hx]at hw;simp at hw;rw[← hw];exact hg
    ·exact hall i c2 (by omega) hw
  ·have hd:decide ((k:Int)<(s.size:Int))=false:=(by simp;omega);have hok:s.data.toList.all wB=true:=by
    rw[List.all_eq_true];intro c hc;obtain⟨i,hi⟩:=List.getElem?_of_mem hc;exact hall i c (by have:=(List.getElem?_eq_some_iff.1 hi).1;omega) hi
   have e1:decide ((s.size:Int)>=1)=decide (1<=s.size):=Oy.2 (by omega);have e2:decide ((s.size:Int)<=32)=decide (s.size<=32):=Oy.2 (by omega);have hW:Kw s=(decide ((s.size:Int)>=1)&&decide ((s.size:Int)<=32)&&!(Hn s)):=(by simp only[Kw,hok,e1,e2,B7]);clear hall e1 e2;have hn:=λh:A0=>ir (h:=h) hs;cases q1:decide ((s.size:Int)>=1)with
   |false=>
    replace zz:=AW g0 g3 hd q1;refine wm zz ?_;try exact zI
    all_goals(rw[hW,q1];try rfl)
   |true=>
    cases q2:decide ((s.size:Int)<=32)with
    |false=>
     replace zz:=Ae g0 g3 hd q1 q2;refine wm zz ?_;try exact zI
     all_goals(rw[hW,q1,q2];try rfl)
    |true=>
     replace zz:=Ae g0 g3 hd q1 q2;refine wt zz ?_;refine uU (uu q1 q2) (hn _) ?_;refine wm (uu q1 q2) ?_;try exact zI
     all_goals(rw[hW,q1,q2];try rfl)
end Go.Proofs.YtblgchkahpgdjaaGreat
namespace Go.AM
mutual
def Sx.count:Sx->Int
 | .mk _ _ _ _ _ kids=>Sx.counts 1 kids
def Sx.counts(n:Int):List Sx->Int
 |[]=>n
 |k::ks=>Sx.counts (IntKind.i64.wrap (n+k.count)) ks
end
theorem Sx.ZB: ∀ (l m:List Sx)(n:Int),Sx.counts n (l++m)=Sx.counts (Sx.counts n l) m
 |[],m,n=>by simp[Sx.counts]
 |k::l,m,n=>by simp only[List.cons_append,Sx.counts];exact Sx.ZB l m _
theorem Sx.q9{l:List Sx}{i:Nat}{k:Sx}(n:Int)(h:l[i]? =some k):Sx.counts n (l.take (i+1))=IntKind.i64.wrap (Sx.counts n (l.take i)+k.count):=by
 rw[List.take_add_one,h,Sx.ZB];try rfl
mutual
def Sx.depth:Sx->Nat
 | .mk kind _ _ _ _ kids=>if kind=3 then Sx.DW 0 kids+1 else Sx.DW 0 kids
def Sx.DW(n:Nat):List Sx->Nat
 |[]=>n
 |k::ks=>Sx.DW (max n k.depth) ks
end
theorem Sx.ZC: ∀ (l m:List Sx)(n:Nat),Sx.DW n (l++m)=Sx.DW (Sx.DW n l) m
 |[],m,n=>by simp[Sx.DW]
 |k::l,m,n=>by simp only[List.cons_append,Sx.DW];exact Sx.ZC l m _
theorem Sx.qA{l:List Sx}{i:Nat}{k:Sx}(n:Nat)(h:l[i]? =some k):Sx.DW n (l.take (i+1))=max (Sx.DW n (l.take i)) k.depth:=by
 rw[List.take_add_one,h,Sx.ZC];try rfl
theorem Sx.TW: ∀ (l:List Sx)(n:Nat),n<=Sx.DW n l
 |[],n=>AG _
 |k::l,n=>by simp only[Sx.DW];exact ER (Nat.le_max_left _ _) (Sx.TW l _)
theorem Sx.depths_mem: ∀ {l:List Sx}{k:Sx}(n:Nat),k∈l->k.depth<=Sx.DW n l
 |k'::l,k,n,h=>by
  simp only[Sx.DW];rcases List.mem_cons.1 h with rfl|h
  ·exact ER (Nat.le_max_right _ _) (Sx.TW l _)
  ·exact Sx.depths_mem _ h
end Go.AM
namespace Go.Proofs.YtblgchkahpgdjaaGreat
open Go.AM Go.Proofs.Tryz
set_option maxHeartbeats 2000000
set_option maxRecDepth 20000
mutual
def HO:Sx->Bool
 | .mk kind value _ _ text kids=>
  if kind=1 then(value==0)&&kids.isEmpty&&Kw text
  else if kind=2 then(text.data.toList==(#[]:Array UInt8).toList)&&kids.isEmpty&&decide (value>= -1099511627776)&&decide (value<=1099511627776)
  else if kind=3 then J0 kids&&((text.data.toList==(#[]:Array UInt8).toList)&&(value==0))
  else false
def J0:List Sx->Bool
 |[]=>true
 |k::ks=>HO k&&J0 ks
end
theorem ix(l:List Sx):((l.length:Int)==0)=l.isEmpty:=by cases l<;>simp;omega
theorem Vi: ∀ (e:Sx),e.ok-> ∀ h:A0,A6 prog 21 [.agg e.cells] h λr h'=>r= qK e.count/\h'=h:=by
 refine Sx.ind ?_;intro kind value line col text kids ih hok h;simp only[Sx.ok]at hok;obtain⟨_,_,_,hk,hks⟩:=hok;rw[Sx.Bs]at hks;have hlen:=Sx.B3 kids;simp only[Sx.cells,Sx.count];refine AD func21 ntmps21 results21 Ty.fx ?_;refine wt hlen ?_;refine By (λm S h'=>h'=h/\S 1= .Aj (Sx.mk kind value line col text kids).cells/\ ∃ k:Nat,S 4= qK k/\k<=kids.length/\m=kids.length-k/\S 3= qK (Sx.counts 1 (kids.take k))) kids.length ?_ ?_
 ·simp only[Ty.w,simprocAttr];exact⟨rfl,0,rfl,by omega,rfl,by simp[Sx.counts]⟩
 ·rintro m S h' ⟨rfl,g1,k,g4,hkl,rfl,g3⟩;simp only[Sx.cells]at g1;by_cases hlt:k<kids.length
  ·have hd:decide ((k:Int)<(kids.length:Int))=true:=(by simp;omega);have w7:IntKind.i64.wrap ((k:Int)+1)=k+1:=(by unfold AF at hk;rw[BM (by omega) (by omega)]);obtain⟨e,hx⟩: ∃ e,kids[k]? =some e:=⟨_,List.getElem?_eq_getElem hlt⟩;have hmem:=List.mem_of_getElem? hx;have hc:=ih e hmem (hks e hmem);have hsz:=Sx.q9 1 hx;have hr:=Sx.CG hx;obtain⟨ki,va,li,co,te,ks⟩:=e;simp only[Sx.cells]at hr hc;replace zz:=Ad g1 g3 g4 hlen hd hr w7;refine wt zz ?_;replace zz:=Ah g1 g3 g4 hlen hd hr;refine uU zz (hc _) ?_;replace zz:=AW g1 g3 g4 w7;refine wt zz ?_;exact⟨kids.length-(k+1),by omega,rfl,k+1,by simp,by omega,rfl,by rw[hsz]⟩
  ·have hd:decide ((k:Int)<(kids.length:Int))=false:=(by simp;omega);have hke:k=kids.length:=(by omega);subst hke;rw[List.take_length]at g3;replace zz:=Ae g1 g3 g4 hlen hd;exact wz zz
theorem iy: ∀ (e:Sx),e.ok->e.depth<=AF-> ∀ h:A0,A6 prog 84 [.agg e.cells] h λr h'=>r= qK e.depth/\h'=h:=by
 refine Sx.ind ?_;intro kind value line col text kids ih hok hdp h;simp only[Sx.ok]at hok;obtain⟨_,_,_,hk,hks⟩:=hok;rw[Sx.Bs]at hks;have hlen:=Sx.B3 kids;simp only[Sx.depth]at hdp;have hdb:Sx.DW 0 kids<=AF:=by split at hdp<;>omega
 simp only[Sx.cells,Sx.depth];refine AD func84 ntmps84 results84 Ty.gD ?_;refine wt hlen ?_;refine By (λm S h'=>h'=h/\S 1= .Aj (Sx.mk kind value line col text kids).cells/\ ∃ k:Nat,S 4= qK k/\k<=kids.length/\m=kids.length-k/\S 3= qK (Sx.DW 0 (kids.take k):Nat)) kids.length ?_ ?_
 ·simp only[Ty.w,simprocAttr];exact⟨rfl,0,rfl,by omega,rfl,by simp[Sx.DW]⟩
 ·rintro m S h' ⟨rfl,g1,k,g4,hkl,rfl,g3⟩;simp only[Sx.cells]at g1;by_cases hlt:k<kids.length
  ·have hd:decide ((k:Int)<(kids.length:Int))=true:=(by simp;omega);have w7:IntKind.i64.wrap ((k:Int)+1)=k+1:=(by unfold AF at hk;rw[BM (by omega) (by omega)]);obtain⟨e,hx⟩: ∃ e,kids[k]? =some e:=⟨_,List.getElem?_eq_getElem hlt⟩;have hmem:=List.mem_of_getElem? hx;have hc:=ih e hmem (hks e hmem) (ER (Sx.depths_mem 0 hmem) hdb);have hsz:=Sx.qA 0 hx;have hr:=Sx.CG hx;generalize Sx.DW 0 (kids.take k)=D at g3 hsz;generalize e.depth=E at hc hsz;obtain⟨ki,va,li,co,te,ks⟩:=e;simp only[Sx.cells]at hr hc;cases q:decide ((E:Int)>(D:Int))with
   |true=>
    have hm:max D E=E:=(by have:=LR q;omega);replace zz:=Ad g1 g3 g4 hlen hd hr w7;refine wt zz ?_;replace zz:=Ad g1 g3 g4 hlen hd hr q;refine uU zz (hc _) ?_;replace zz:=Ae g1 g3 g4 w7 q;refine wt zz ?_;exact⟨kids.length-(k+1),by omega,rfl,k+1,by simp,by omega,rfl,by rw[hsz,hm]⟩
   |false=>
    have hm:max D E=D:=(by have:=TT q;omega);replace zz:=Ad g1 g3 g4 hlen hd hr w7;refine wt zz ?_;replace zz:=Ad g1 g3 g4 hlen hd hr q;refine uU zz (hc _) ?_;replace zz:=Ae g1 g3 g4 w7 q;refine wt zz ?_;exact⟨kids.length-(k+1),by omega,rfl,k+1,by simp,by omega,rfl,by rw[hsz,hm]⟩
  ·have hd:decide ((k:Int)<(kids.length:Int))=false:=(by simp;omega);have hke:k=kids.length:=(by omega);subst hke;rw[List.take_length]at g3;generalize hD:Sx.DW 0 kids=D at g3 hdb;have wd:IntKind.i64.wrap ((D:Int)+1)=(D:Int)+1:=(by unfold AF at hdb;rw[BM (by omega) (by omega)]);cases q:(kind==3)with
   |true=>
    have hk3:kind=3:=(by simpa using q);replace zz:=Ad g1 g3 g4 hlen hd q wd;refine wt zz ?_;rw[AK hk3];first|(rw[hD];simp)|simp
   |false=>
    have hk3:¬ kind=3:=(by simpa using q);replace zz:=Ad g1 g3 g4 hlen hd q wd;refine wt zz ?_;rw[A7 hk3];try rw[hD]
theorem iz: ∀ (e:Sx),e.ok-> ∀ h:A0,A6 prog 83 [.agg e.cells] h λr h'=>r= .sc (.bool (HO e))/\h'=h:=by
 refine Sx.ind ?_;intro kind value line col text kids ih hok h;simp only[Sx.ok]at hok;obtain⟨_,_,ht,hk,hks⟩:=hok;rw[Sx.Bs]at hks;have hlen:=Sx.B3 kids;have e1:=ix kids;have hw:=λh:A0=>iw (h:=h) ht;generalize hF:HO (.mk kind value line col text kids)=F;unfold HO at hF;rw[← e1]at hF
 clear e1;simp only[Sx.cells];cases k1:(kind==1)with
 |true=>
  rw[AK (by simpa using k1)]at hF;cases q1:(value==0)with
  |false=>
   rw[q1]at hF;simp only[B5]at hF;subst hF;refine AD func83 ntmps83 results83 Ty.K1 ?_;exact wz (AU k1 q1 hlen)
  |true=>
   rw[q1]at hF;cases q2:((kids.length:Int)==0)with
   |false=>
    rw[q2]at hF;simp only[B5,BA]at hF;subst hF;refine AD func83 ntmps83 results83 Ty.K1 ?_;replace zz:=AW k1 q1 q2 hlen;exact wz zz
   |true=>
    rw[q2]at hF;simp only[B7]at hF;subst hF;refine AD func83 ntmps83 results83 Ty.K1 ?_;replace zz:=AW k1 q1 q2 hlen;refine wt zz ?_;replace zz:=AW k1 q1 q2 hlen;refine uU zz (hw _) ?_;exact wz zz
 |false=>
  rw[A7 (by simpa using k1)]at hF;cases k2:(kind==2)with
  |true=>
   rw[AK (by simpa using k2)]at hF;cases q1:(text.data.toList==(#[]:Array UInt8).toList)with
   |false=>
    rw[q1]at hF;simp only[B5]at hF;subst hF;refine AD func83 ntmps83 results83 Ty.K1 ?_;replace zz:=AW k1 k2 q1 hlen;exact wz zz
   |true=>
    rw[q1]at hF;cases q2:((kids.length:Int)==0)with
    |false=>
     rw[q2]at hF;simp only[B5,BA]at hF;subst hF;refine AD func83 ntmps83 results83 Ty.K1 ?_;replace zz:=Ae k1 k2 q1 q2 hlen;exact wz zz
    |true=>
     rw[q2]at hF;cases q3:decide (value>= -1099511627776)with
     |false=>
      rw[q3]at hF;simp only[B5,BA]at hF;subst hF;refine AD func83 ntmps83 results83 Ty.K1 ?_;replace zz:=Ah k1 k2 q1 q2 q3 hlen;exact wz zz
     |true=>
      rw[q3]at hF;simp only[B7]at hF;subst hF;refine AD func83 ntmps83 results83 Ty.K1 ?_;replace zz:=Ah k1 k2 q1 q2 q3 hlen;exact wz zz
  |false=>
   rw[A7 (by simpa using k2)]at hF;cases k3:(kind==3)with
   |false=>
    rw[A7 (by simpa using k3)]at hF;subst hF;refine AD func83 ntmps83 results83 Ty.K1 ?_;exact wz (AU k1 k2 k3)
   |true=>
    rw[AK (by simpa using k3)]at hF;refine AD func83 ntmps83 results83 Ty.K1 ?_;replace zz:=AW k1 k2 k3 hlen;refine wt zz ?_;refine By (λm S h'=>h'=h/\S 1= .Aj (Sx.mk kind value line col text kids).cells/\ ∃ k:Nat,S 3= qK k/\k<=kids.length/\m=kids.length-k/\J0 kids=J0 (kids.drop k)) kids.length ?_ ?_
    ·simp only[Ty.w,simprocAttr];exact⟨rfl,0,rfl,by omega,rfl,by simp⟩
    ·rintro m S h' ⟨rfl,g1,k,g3,hkl,rfl,hinv⟩;simp only[Sx.cells]at g1;by_cases hlt:k<kids.length
     ·have hd:decide ((k:Int)<(kids.length:Int))=true:=(by simp;omega);have w7:IntKind.i64.wrap ((k:Int)+1)=k+1:=(by unfold AF at hk;rw[BM (by omega) (by omega)]);obtain⟨e,hx⟩: ∃ e,kids[k]? =some e:=⟨_,List.getElem?_eq_getElem hlt⟩;have hmem:=List.mem_of_getElem? hx;have hc:=ih e hmem (hks e hmem);rw[Ca hx]at hinv;simp only[J0]at hinv;have hr:=Sx.CG hx;generalize HO e=b at hc hinv;obtain⟨ki,va,li,co,te,ks⟩:=e;simp only[Sx.cells]at hr hc;cases b with
      |false=>
       rw[hinv]at hF;simp only[B5]at hF;subst hF;replace zz:=Ah g1 g3 hlen hd hr w7;refine wt zz ?_;replace zz:=Ah g1 g3 hlen hd hr yF;refine uU zz (hc _) ?_;replace zz:=AW g1 g3 w7 yF;exact wz zz
      |true=>
       rw[B7]at hinv;replace zz:=Ah g1 g3 hlen hd hr w7;refine wt zz ?_;replace zz:=Ah g1 g3 hlen hd hr yT;refine uU zz (hc _) ?_;replace zz:=AW g1 g3 w7 yT;refine wt zz ?_;exact⟨kids.length-(k+1),by omega,rfl,k+1,by simp,by omega,rfl,hinv⟩
     ·have hd:decide ((k:Int)<(kids.length:Int))=false:=(by simp;omega);rw[List.drop_eq_nil_of_le (by omega)]at hinv;rw[hinv]at hF;simp only[J0,B7]at hF;cases q1:(text.data.toList==(#[]:Array UInt8).toList)with
      |false=>
       rw[q1]at hF;simp only[B5]at hF;subst hF;replace zz:=Ae g1 g3 hlen hd q1;exact wz zz
      |true=>
       rw[q1]at hF;simp only[B7]at hF;subst hF;replace zz:=Ae g1 g3 hlen hd q1;exact wz zz
theorem j0{x:Sx}(hok:x.ok)(hd:x.depth<=AF)(h:A0):A6 prog 34 [.agg x.cells] h λr h'=>r= .sc (.bool (HO x&&decide ((x.depth:Int)<=32)&&decide (x.count<=4096)))/\h'=h:=by
 have c1:=iz x hok;have c2:=iy x hok hd;have c3:=Vi x hok;generalize HO x=b at c1⊢;generalize x.depth=D at c2⊢;generalize x.count=N at c3⊢;obtain⟨ki,va,li,co,te,ks⟩:=x;simp only[Sx.cells]at c1 c2 c3⊢;cases b with
 |false=>
  refine AD func34 ntmps34 results34 Ty.RZ ?_;refine wt A4 ?_;refine uU A4 (c1 _) ?_;refine wm A4 ?_;try exact zI
  all_goals rfl
 |true=>
  cases q:decide ((D:Int)<=32)with
  |false=>
   refine AD func34 ntmps34 results34 Ty.RZ ?_;refine wt A4 ?_;refine uU A4 (c1 _) ?_;refine wt A4 ?_;refine uU q (c2 _) ?_;refine wm q ?_;try exact zI
   all_goals rfl
  |true=>
   refine AD func34 ntmps34 results34 Ty.RZ ?_;refine wt A4 ?_;refine uU A4 (c1 _) ?_;refine wt A4 ?_;refine uU q (c2 _) ?_;refine wt q ?_;refine uU q (c3 _) ?_;refine wm q ?_;try exact zI
   all_goals(simp only[B7])
end Go.Proofs.YtblgchkahpgdjaaGreat
