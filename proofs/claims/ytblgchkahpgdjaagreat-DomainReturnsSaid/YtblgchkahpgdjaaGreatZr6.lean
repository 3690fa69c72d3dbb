/- What the claim rests on, part 6: the abstract machine, contracts of the functions, plain data. -/
import Derived.Test.YtblgchkahpgdjaaGreatZr5
set_option linter.unusedVariables false
set_option linter.unusedSimpArgs false
set_option linter.unusedSectionVars false
namespace Go.Proofs.YtblgchkahpgdjaaGreat
open Go.AM Go.Proofs.Tryz
set_option maxHeartbeats 2000000
set_option maxRecDepth 20000
structure VC(p:Prop):Prop where
 out:p
theorem Ln{P:Program}{ow:Nat->Bool}{wf:FuncId->Bool}{n:Nat}{Q:BA}{s:A9}{h:A0}(id:Nat){ops:Array Oper}{d:Bool}{x y:Code}(hh:VC (Ad P ow wf n (.seq (.seq (.region id ops d) x) y) Q s h)):Ad P ow wf n (.seq (.seq (.region id ops d) x) y) Q s h:=hh.out
theorem DA{P:Program}{ow:Nat->Bool}{wf:FuncId->Bool}{n:Nat}{Q:BA}{s:A9}{h:A0}{a b:Code}(I:A9->A0->Prop)(h1:Ad P ow wf n a (BA.seq I Q) s h)(h2: ∀ s h,I s h->Ad P ow wf n b Q s h):Ad P ow wf n (.seq a b) Q s h:=by
 simp only[Ad];refine JD a (λe s h hh=>?_) h1;cases e<;>simp only[BA.seq]at hh⊢
 ·exact h2 _ _ hh
 all_goals exact hh
theorem Mg{P:Program}{ow:Nat->Bool}{wf:FuncId->Bool}{n:Nat}{Q:BA}{K:A9->A0->Prop}{s:A9}{h:A0}{a:Code}(I:A9->A0->Prop)(h1:Ad P ow wf n a (BA.seq I Q) s h)(h2: ∀ s h,I s h->K s h):Ad P ow wf n a (BA.seq K Q) s h:=by
 refine JD a (λe s h hh=>?_) h1;cases e<;>simp only[BA.seq]at hh⊢
 ·exact h2 _ _ hh
 all_goals exact hh
theorem DM(h:A0)(id:Nat)(a b:Ab):(h.set id a).set id b=h.set id b:=by
 unfold A0.set;congr 1;funext i;simp only;by_cases hi:i=id
 ·simp [hi]
 ·simp [hi]
theorem VD{α:Type}(l:List α):((l.length:Int)==0)=l.isEmpty:=by cases l<;>simp;omega
theorem fM(n:Nat):Ct (n+1)= .arr 1 [[.sc (.int .i64 ((n:Int)+1))]]:=by simp only[Ct,Lk]
theorem Rb{h:A0}{s:ByteArray}(hs:s.size<=AJ):A6 prog 189 [A2 s] h λr h'=>r= .sc (.bool (C8 s))/\h'=h:=by
 have hs':s.size<=9223372036854775807:=by unfold AJ at hs;omega
 cases c1:An s with
 |true=>
  have:C8 s=true:=by simp[C8,c1]
  refine AE func189 ntmps189 results189 Ty.Uv ?_;refine wt A3 ?_;refine uU c1 (FI (s:=s) hs') ?_;refine wt c1 ?_;rw[this]
 |false=>
  have:C8 s=Eg s:=by simp[C8,c1]
  refine AE func189 ntmps189 results189 Ty.Uv ?_;refine wt A3 ?_;refine uU c1 (FI (s:=s) hs') ?_;refine wt c1 ?_;refine uU c1 (Lg (s:=s) hs') ?_;refine wt c1 ?_;rw[this]
theorem fN{h:A0}{s:ByteArray}(hs:s.size<=AJ):A6 prog 192 [A2 s] h λr h'=>r= .sc (.bool (!C8 s))/\h'=h:=by
 refine AE func192 ntmps192 results192 Ty.eV ?_;refine wt A3 ?_;refine uU A3 (Rb (s:=s) hs) ?_;exact wz A3
theorem fO{h:A0}{s:ByteArray}(hs:s.size<=AJ):A6 prog 188 [A2 s] h λr h'=>r= .sc (.bool (!C8 s))/\h'=h:=by
 refine AE func188 ntmps188 results188 Ty.eU ?_;refine wt A3 ?_;refine uU A3 (Rb (s:=s) hs) ?_;exact wz A3
def O3(l:List ByteArray):Int:=match l.findIdx? (λs=>!C8 s)with
 |some i=>i
 |none=> -1
theorem fP(l:List ByteArray):decide (O3 l>=0)=!l.all C8:=by
 unfold O3;cases h:l.findIdx? (λs=>!C8 s)with
 |none=>
  rw[Qc]at h;have:l.all C8=true:=by
   rw[Bq];intro s hs;simpa using h s hs
  rw[this];try rfl
 |some i=>
  rw[TD]at h;obtain⟨hi,h1,_⟩:=h;have:l.all C8=false:=by
   rw[YK];exact⟨l[i],QV hi,by simpa using h1⟩
  rw[this];simp
theorem fQ{h:A0}{g:FuncId}{l:List ByteArray}(hl:l.length<=AJ)(hf: ∀ s∈l, ∀ h:A0,A6 prog g [A2 s] h λr h'=>r= .sc (.bool (!C8 s))/\h'=h):
  A6 prog 201 [.imm 1 (AN l),.sc (.func (.func g) #[] #[])] h λr h'=>r= .sc (.int .i64 (O3 l))/\h'=h:=by
 unfold AJ at hl;have hlen:=Gb l;refine AE func201 ntmps201 results201 Ty.eL ?_;refine wt hlen ?_;refine Cd (λm S h'=>h'=h/\S 0= .imm 1 (AN l)/\S 1= .sc (.func (.func g) #[] #[])/\S 7= .sc (.int .i64 l.length)/\ ∃ k:Nat,S 8= .sc (.int .i64 k)/\k<=l.length/\m=l.length-k/\ ∀ (i:Nat)(w:ByteArray),i<k->l[i]? =some w->C8 w=true) l.length ?_ ?_
 ·simp only[Ty.w,simprocAttr];exact⟨0,rfl,by omega,rfl,by omega⟩
 ·rintro m S h' ⟨rfl,g0,g1,g7,k,g8,hk,rfl,hall⟩;by_cases hlt:k<l.length
  ·have hd:decide ((k:Int)<(l.length:Int))=true:=(by simp;omega);have w7:IntKind.i64.wrap ((k:Int)+1)=k+1:=(by rw[Br (by omega) (by omega)]);obtain⟨w,hx⟩: ∃ w,l[k]? =some w:=⟨l[k],AU hlt⟩;have hr:=KW hx;have hc:=hf w (C7 hx);cases he:C8 w with
   |false=>
    rw[he]at hc;replace zz:=Aq g0 g1 g7 g8 hd hr;refine wt zz ?_;refine Jp (sq g1) (hc _) (by simp only[Ty.w,simprocAttr,g0,g1,g7,g8];try rfl) ?_;simp only[Ty.w,simprocAttr,Ty.AW];replace zz:=As g0 g1 g7 g8 yF;refine wt zz ?_;have:l.findIdx? (λs=>!C8 s)=some k:=by
     rw[TD];refine⟨hlt,?_,λj hj=>?_⟩
     ·rw [AU hlt]at hx;simp only[Ak]at hx;rw[hx,he];try rfl
     ·rw [hall j l[j] hj (AU (by omega))];simp
    simp only[O3,this]
   |true=>
    rw[he]at hc;replace zz:=Aq g0 g1 g7 g8 hd hr;refine wt zz ?_;refine Jp (sq g1) (hc _) (by simp only[Ty.w,simprocAttr,g0,g1,g7,g8];try rfl) ?_;simp only[Ty.w,simprocAttr,Ty.AW];replace zz:=Aq g0 g1 g7 g8 w7 yT;refine wt zz ?_;refine⟨l.length-(k+1),by omega,k+1,by simp,by omega,rfl,λi w2 hi hw=>?_⟩;by_cases hik:i=k
    ·subst hik;rw[hx]at hw;simp at hw;rw[← hw];exact he
    ·exact hall i w2 (by omega) hw
  ·have hd:decide ((k:Int)<(l.length:Int))=false:=(by simp;omega);replace zz:=As g0 g1 g7 g8 hd;refine wt zz ?_;have:l.findIdx? (λs=>!C8 s)=none:=by
    rw[Qc];intro w hw;obtain⟨i,hi⟩:=MF hw;have:i<l.length:=(BC.1 hi).1;rw[hall i w (by omega) hi];try rfl
   simp only[O3,this]
theorem O4{h:A0}{g:FuncId}{l:List ByteArray}(hl:l.length<=AJ)(hf: ∀ s∈l, ∀ h:A0,A6 prog g [A2 s] h λr h'=>r= .sc (.bool (!C8 s))/\h'=h):
  A6 prog 187 [.imm 1 (AN l),.sc (.func (.func g) #[] #[])] h λr h'=>r= .sc (.bool (!l.all C8))/\h'=h:=by
 refine AE func187 ntmps187 results187 Ty.eJ ?_;refine wt A3 ?_;refine uU A3 (fQ (l:=l) (g:=g) hl hf) ?_;refine wt A3 ?_;rw[← fP]
theorem Pg{h:A0}{id d n:Nat}{b:Bool}(hd:d<=100)(hn:n<=4096)(ho:h.obj id=some (Ct n))(hb:decide (n+1<=4096/\d<=32)=b):A6 prog 186 [.ptr id 0 0,.sc (.int .i64 d)] h λr h'=>r= .sc (.bool b)/\h'=h.set id (Ct (n+1)):=by
 have ho':=ho;simp only[Ct]at ho';rw[fM];have wn:IntKind.i64.wrap ((n:Int)+1)=(n:Int)+1:=by rw[Br (by omega) (by omega)]
 cases b0:decide ((n:Int)+1<=4096)with
 |false=>
  have:b=false:=by rw[← hb];simp only[Cv]at b0⊢;omega
  subst this
  clear hb;refine AE func186 ntmps186 results186 Ty.Ut ?_;exact wz (AV ho' wn b0)
 |true=>
  have:b=decide ((d:Int)<=32):=by rw[← hb];simp only[BP]at b0;exact YL.2 (by omega)
  subst this
  clear hb;refine AE func186 ntmps186 results186 Ty.Ut ?_;exact wz (AV ho' wn b0)
theorem Rd: ∀ (e:Ex)(d n:Nat),(E9 e d n).1=true->(E9 e d n).2<=4096:=by
 refine Ex.ind ?_;intro op name nn args kids ih d n;unfold E9;split
 ·rename_i hc;split
  ·intro _;simp only;omega
  ·split
   ·intro _;simp only;omega
   ·split
    ·split
     ·split
      ·rename_i a b;have ha:=ih a (by simp) (d+1) (n+1);split
       ·rename_i c' he;exact ih b (by simp) (d+1) c'
       ·simp
      ·simp
     ·simp
    ·simp
 ·simp
theorem VE: ∀ e:Ex,e.ok-> ∀ (d n:Nat),d<=33->n<=4096-> ∀ (id:Nat)(h:A0),h.obj id=some (Ct n)->
  A6 prog 178 [.agg e.cells,.sc (.int .i64 d),.ptr id 0 0] h λr h'=>r= .sc (.bool (E9 e d n).1)/\h'=h.set id (Ct (E9 e d n).2):=by
 refine Ex.ind ?_;intro op name v args kids ih hok d n hd hn id h ho;simp only[Ex.ok]at hok;obtain⟨_,hnm,_,⟨hal,hargs⟩,hkl,hks⟩:=hok;rw[Ex.oks_iff]at hks;have hnm':name.size<=9223372036854775807:=by unfold AJ at hnm;omega
 have hlA:=Gb args;have hlK:=Ex.rows_len kids;have e1:=VD args;have e2:=VD kids;generalize hF:E9 (.mk op name v args kids) d n=F;unfold E9 at hF;by_cases hc:n+1<=4096/\d<=32;rotate_left
 ·rw [A4 hc]at hF;subst hF;have hT:=Pg (by omega) hn ho (YO hc);simp only[Ex.cells];refine AE func178 ntmps178 results178 Ty.Ih ?_;refine wt A3 ?_;refine D5 (hT) (sr yF) ?_;simp only[Ty.w,simprocAttr,C4];exact wz yF
 ·rw [AG hc]at hF;have hT:=Pg (by omega) hn ho (NI hc);have wd:IntKind.i64.wrap ((d:Int)+1)=(d:Int)+1:=by rw[Br (by omega) (by omega)]
  simp only[Ex.cells];have n1:A1 op Ij=(op.data.toList==(#[110,117,109,98,101,114]:Array UInt8).toList):=rfl;have n2:A1 op Ik=(op.data.toList==(#[102,108,117,101,110,116]:Array UInt8).toList):=rfl;have n3:A1 op Ll=(op.data.toList==(#[43]:Array UInt8).toList):=rfl;have n4:A1 op Fx=(op.data.toList==(#[45]:Array UInt8).toList):=rfl;have n5:A1 op Lm=(op.data.toList==(#[42]:Array UInt8).toList):=rfl;have n6:HJ name=(name.data.toList==(#[]:Array UInt8).toList):=rfl;have n7:decide (v=0)=(v==0):=by by_cases h0:v=0<;>simp[h0]
  have n8:Ra v=(decide (v>= -1099511627776)&&decide (v<=1099511627776)):=rfl;rw[n1,n2,n3,n4,n5,n6,n7,n8, ← e1, ← e2]at hF
  clear n1 n2 n3 n4 n5 n6 n7 n8 e1 e2;cases k1:(op.data.toList==(#[110,117,109,98,101,114]:Array UInt8).toList)with
  |true=>
   rw[k1]at hF;simp only[AH]at hF;cases q1:(name.data.toList==(#[]:Array UInt8).toList)with
   |false=>
    rw[q1]at hF;simp only[B9,BD]at hF;subst hF;refine AE func178 ntmps178 results178 Ty.Ih ?_;refine wt (uu k1 q1) ?_;refine D5 (hT) (sr (AV k1 q1 yT)) ?_;simp only[Ty.w,simprocAttr,k1,q1,Ap];replace zz:=As k1 q1 hlA hlK yT;exact wz zz
   |true=>
    rw[q1]at hF;cases q2:((args.length:Int)==0)with
    |false=>
     rw[q2]at hF;simp only[B9,BD]at hF;subst hF;refine AE func178 ntmps178 results178 Ty.Ih ?_;refine wt (AV k1 q1 q2) ?_;refine D5 (hT) (sr (Aa k1 q1 q2 yT)) ?_;simp only[Ty.w,simprocAttr,k1,q1,q2,Ap];replace zz:=Aq k1 q1 q2 hlA hlK yT;exact wz zz
    |true=>
     rw[q2]at hF;cases q3:((kids.length:Int)==0)with
     |false=>
      rw[q3]at hF;simp only[B9,BD]at hF;subst hF;refine AE func178 ntmps178 results178 Ty.Ih ?_;replace zz:=Aa k1 q1 q2 q3;refine wt zz ?_;refine D5 (hT) (sr (As k1 q1 q2 q3 yT)) ?_;simp only[Ty.w,simprocAttr,k1,q1,q2,q3,Ap];replace zz:=Ag k1 q1 q2 q3 hlA hlK yT;exact wz zz
     |true=>
      rw[q3]at hF;cases q4:decide (v>= -1099511627776)with
      |false=>
       rw[q4]at hF;simp only[B9,BD]at hF;subst hF;refine AE func178 ntmps178 results178 Ty.Ih ?_;replace zz:=As k1 q1 q2 q3 q4;refine wt zz ?_;refine D5 (hT) (sr (Aq k1 q1 q2 q3 q4 yT)) ?_;simp only[Ty.w,simprocAttr,k1,q1,q2,q3,q4,Ap];replace zz:=BO k1 q1 q2 q3 q4 hlA hlK yT;exact wz zz
      |true=>
       rw[q4]at hF;simp only[B8]at hF;subst hF;refine AE func178 ntmps178 results178 Ty.Ih ?_;replace zz:=As k1 q1 q2 q3 q4;refine wt zz ?_;refine D5 (hT) (sr (Aq k1 q1 q2 q3 q4 yT)) ?_;simp only[Ty.w,simprocAttr,k1,q1,q2,q3,q4,Ap];replace zz:=BO k1 q1 q2 q3 q4 hlA hlK yT;exact wz zz
  |false=>
   rw[k1]at hF;simp only[BG,AP]at hF;cases k2:(op.data.toList==(#[102,108,117,101,110,116]:Array UInt8).toList)with
   |true=>
    rw[k2]at hF;simp only[AH]at hF;have hfc: ∀ s∈args, ∀ h:A0,A6 prog 192 [A2 s] h λr h'=>r= .sc (.bool (!C8 s))/\h'=h:=λs hs h=>fN (hargs s hs);cases q1:(v==0)with
    |false=>
     rw[q1]at hF;simp only[B9,BD]at hF;subst hF;refine AE func178 ntmps178 results178 Ty.Ih ?_;refine wt (AV k1 k2 q1) ?_;refine D5 (hT) (sr (Aa k1 k2 q1 yT)) ?_;simp only[Ty.w,simprocAttr,k1,k2,q1,Ap];replace zz:=Aq k1 k2 q1 hlA hlK yT;exact wz zz
    |true=>
     rw[q1]at hF;cases q2:((kids.length:Int)==0)with
     |false=>
      rw[q2]at hF;simp only[B9,BD]at hF;subst hF;refine AE func178 ntmps178 results178 Ty.Ih ?_;replace zz:=Aa k1 k2 q1 q2;refine wt zz ?_;refine D5 (hT) (sr (As k1 k2 q1 q2 yT)) ?_;simp only[Ty.w,simprocAttr,k1,k2,q1,q2,Ap];replace zz:=Ag k1 k2 q1 q2 hlA hlK yT;exact wz zz
     |true=>
      rw[q2]at hF;cases q3:An name with
      |false=>
       rw[q3]at hF;simp only[B9,BD]at hF;subst hF;refine AE func178 ntmps178 results178 Ty.Ih ?_;replace zz:=Aa k1 k2 q1 q2;refine wt zz ?_;refine D5 (hT) (sr (As k1 k2 q1 q2 yT)) ?_;simp only[Ty.w,simprocAttr,k1,k2,q1,q2,Ap];replace zz:=Ag k1 k2 q1 q2 hlA hlK yT;refine wt zz ?_;replace zz:=Aq k1 k2 q1 q2 q3 hlK;refine uU zz (FI (s:=name) hnm') ?_;exact wz zz
      |true=>
       rw[q3]at hF;simp only[B8]at hF;subst hF;refine AE func178 ntmps178 results178 Ty.Ih ?_;replace zz:=Aa k1 k2 q1 q2;refine wt zz ?_;refine D5 (hT) (sr (As k1 k2 q1 q2 yT)) ?_;simp only[Ty.w,simprocAttr,k1,k2,q1,q2,Ap];replace zz:=Ag k1 k2 q1 q2 hlA hlK yT;refine wt zz ?_;replace zz:=Aq k1 k2 q1 q2 q3 hlK;refine uU zz (FI (s:=name) hnm') ?_;refine wt zz ?_;replace zz:=Aq k1 k2 q1 q2 q3 hlK;refine uU zz (O4 hal hfc) ?_;repeat'(first|refine cK ?_|(refine nK ?_;try exact zI)|(refine ES ?_;simp only[Ty.w,simprocAttr,k1,k2,q1,q2,q3,hlK,Bool.not_not])|(refine hK _ _ ?_;clear hK;(try simp only[Ao,simprocAttr])))
   |false=>
    rw[k2]at hF;simp only[BG,AP]at hF;generalize hk3:(op.data.toList==(#[43]:Array UInt8).toList)=b3 at hF;generalize hk4:(op.data.toList==(#[45]:Array UInt8).toList)=b4 at hF;generalize hk5:(op.data.toList==(#[42]:Array UInt8).toList)=b5 at hF;refine AE func178 ntmps178 results178 Ty.Ih ?_;refine wt (uu k1 k2) ?_;refine D5 (hT) (sr (AV k1 k2 yT)) ?_;simp only[Ty.w,simprocAttr,k1,k2,Ap];iterate 15 (first|(with_reducible refine cK ?_)|(with_reducible refine nK ?_)|refine Ae λK hK=>?_|refine uR (AV k1 k2 yT) ?_|refine uK ?_|refine Bo (AV k1 k2 yT) ?_|(refine uN hK ?_;clear hK)|apply zI)
    refine Mg (λS h'=>h'=h.set id (Ct (n+1))/\S 1= .sc (.int .i64 d)/\S 2= .ptr id 0 0/\S 3= .cptr (Ex.mk op name v args kids).cells/\S 62= .sc (.bool (b3||b4||b5))) ?_ ?_
    ·clear hF;cases b3 with
     |true=>
      refine wm hk3 ?_;try exact zI
      all_goals(simp only[Ty.w,simprocAttr,Ex.cells,Qb,Fw,KH])
     |false=>
      cases b4 with
      |true=>
       refine wm (uu hk3 hk4) ?_;try exact zI
       all_goals(simp only[Ty.w,simprocAttr,Ex.cells,Qb,Fw,KH])
      |false=>
       refine wm (AV hk3 hk4 hk5) ?_;try exact zI
       all_goals(simp only[Ty.w,simprocAttr,Ex.cells,Qb,Fw,KH])
    ·generalize (b3||b4||b5)=bb at hF⊢;rintro S h' ⟨rfl,g1,g2,g3,g62⟩;(first|refine hK _ _ ?_|refine cK ?_);(try clear hK);simp only[Ex.cells]at g3;clear hT;cases bb with
     |false=>
      simp only[BG,AP]at hF;subst hF;replace zz:=Aa g1 g2 g3 g62;exact wz zz
     |true=>
      simp only[AH]at hF;cases q1:(v==0)with
      |false=>
       rw[q1]at hF;simp only[B9,BD,BG,AP]at hF;subst hF;replace zz:=Aq g1 g2 g3 g62 q1 hlA;exact wz zz
      |true=>
       rw[q1]at hF;cases q2:(name.data.toList==(#[]:Array UInt8).toList)with
       |false=>
        rw[q2]at hF;simp only[B9,BD,BG,AP]at hF;subst hF;replace zz:=Ag g1 g2 g3 g62 q1 q2 hlA;exact wz zz
       |true=>
        rw[q2]at hF;cases q3:((args.length:Int)==0)with
        |false=>
         rw[q3]at hF;simp only[B9,BD,BG,AP]at hF;subst hF;replace zz:=BO g1 g2 g3 g62 q1 q2 q3 hlA;exact wz zz
        |true=>
         rw[q3]at hF;simp only[B8,AH]at hF;cases q4:((kids.length:Int)==2)with
         |false=>
          have hF2:F=(false,n+1):=by
           rw[← hF];split
           ·simp at q4
           ·rfl
          clear hF;subst hF2;replace zz:=B7 g1 g2 g3 g62 q1 q2 q3 q4 hlA hlK;exact wz zz
         |true=>
          obtain⟨a,b,rfl⟩: ∃ a b,kids=[a,b]:=by
           match kids,q4 with
           |[],q=>simp at q
           |[a],q=>simp at q
           |[a,b],_=>exact⟨a,b,rfl⟩
           |_::_::_::_,q=>simp at q;omega
          have ca:=ih a (by simp) (hks a (by simp)) (d+1) (n+1) (by omega) (by omega) id (h.set id (Ct (n+1))) (by simp[A0.set]);have cb0:=ih b (by simp) (hks b (by simp)) (d+1);have hle:=Rd a (d+1) (n+1);have hF3:F=(match E9 a (d+1) (n+1)with|(true,c')=>E9 b (d+1) c'|(false,c')=>(false,c')):=hF.symm;clear hF;have r0:=Ex.rows_get (l:=[a,b]) (i:=0) rfl;have r1:=Ex.rows_get (l:=[a,b]) (i:=1) rfl;have q5:(((Ex.rows [a,b]).length:Int)==2)=true:=(by rw[Ex.rows_len];exact q4);generalize Ex.rows [a,b]=RR at r0 r1 q5 g3;clear q4;generalize E9 a (d+1) (n+1)=W at ca hle hF3;obtain⟨b1,c1⟩:=W;simp only[DM,Lk]at ca hle hF3;clear ih hks hlK;cases b1 with
          |false=>
           simp only at hF3;subst hF3;clear cb0;obtain⟨ER,aname,an,aargs,akids⟩:=a;obtain⟨bop,bname,bn,bargs,bkids⟩:=b;simp only[Ex.cells]at ca r0 r1;replace zz:=AY g1 g2 g3 g62 q1 q2 q3 q5 r0 r1 hlA wd;refine wt zz ?_;refine D5 (ca) (sr (AY g1 g2 g3 g62 q1 q2 q3 q5 r0 r1 hlA wd)) ?_;simp only[Ty.w,simprocAttr,g1,g2,g3,g62,q1,q2,q3,q5,r0,r1,hlA,wd];replace zz:=AY g1 g2 g3 g62 q1 q2 q3 q5 r0 r1 hlA wd;exact wz zz
          |true=>
           have cb:=cb0 c1 (by omega) (hle rfl) id (h.set id (Ct c1)) (by simp[A0.set]);simp only at hF3;rw[← hF3]at cb;obtain⟨b2,c2⟩:=F;simp only[DM,Lk]at cb⊢;clear cb0 hF3;obtain⟨ER,aname,an,aargs,akids⟩:=a;obtain⟨bop,bname,bn,bargs,bkids⟩:=b;simp only[Ex.cells]at ca cb r0 r1;replace zz:=AY g1 g2 g3 g62 q1 q2 q3 q5 r0 r1 hlA wd;refine wt zz ?_;refine D5 (ca) (sr (AY g1 g2 g3 g62 q1 q2 q3 q5 r0 r1 hlA wd)) ?_;simp only[Ty.w,simprocAttr,g1,g2,g3,g62,q1,q2,q3,q5,r0,r1,hlA,wd];replace zz:=AY g1 g2 g3 g62 q1 q2 q3 q5 r0 r1 hlA wd;refine wt zz ?_;refine D5 (cb) (sr (AY g1 g2 g3 g62 q1 q2 q3 q5 r0 r1 hlA wd)) ?_;simp only[Ty.w,simprocAttr,g1,g2,g3,g62,q1,q2,q3,q5,r0,r1,hlA,wd];replace zz:=AY g1 g2 g3 g62 q1 q2 q3 q5 r0 r1 hlA wd;exact wz zz
def EL(e:Ex):Bool:=(E9 e 0 0).1&&(CL (BE e) 0 0).1
theorem O5: ∀ (e:Ex)(d n:Nat),(E9 e d n).1=true->Ey e=true:=by
 refine Ex.ind ?_;intro op name v args kids ih d n;unfold E9 Ey;split
 ·split
  ·exact id
  ·split
   ·exact id
   ·split
    ·split
     ·rename_i h0;rw[h0];split
      ·rename_i a b;have ha:=ih a (by simp) (d+1) (n+1);split
       ·rename_i c' he;rw[he]at ha;intro hb;have:=ih b (by simp) (d+1) c' hb;simp[ha rfl,this]
       ·simp
      ·simp
     ·simp
    ·simp
 ·simp
theorem Dj{s:ByteArray}(h:s.size<=AJ):(AA s).ok:=by
 simp only[AA,Sx.ok,Sx.oks,Bw];exact⟨by omega,by omega,h,Bx _,trivial⟩
theorem Fy{l:List Sx}(hl:l.length<=AJ)(h:Sx.oks l):(AK l).ok:=by
 simp only[AK,Sx.ok];refine⟨by omega,by omega,by simp[AJ,ByteArray.size],hl,h⟩
theorem Ph{first:ByteArray}{l:List ByteArray}(h0:first.size<=AJ)(hl:l.length<=1048576)(h: ∀ s∈l,s.size<=AJ):(Cn first l).ok:=by
 refine Fy (by simp[AJ];omega) (Sx.oks_iff.2 ?_);intro k hk;simp only[BS,D7,Er]at hk;rcases hk with rfl|⟨s,hs,rfl⟩
 ·exact Dj h0
 ·exact Dj (h s hs)
theorem Re: ∀ e:Ex,e.ok->e.small->(BE e).ok:=by
 refine Ex.ind ?_;intro op name n args kids ih hok hsm;simp only[Ex.ok]at hok;simp only[Ex.small]at hsm;obtain⟨hop,hname,hn,hargs,hkl,hks⟩:=hok;rw[Ex.oks_iff]at hks;have hsk:=Ex.smalls_iff.1 hsm.2;unfold BE;split
 ·simp only[Sx.ok,Sx.oks,Bw];refine⟨by omega,hn,by simp[AJ,ByteArray.size],by simp,trivial⟩
 ·split
  ·exact Ph hname hsm.1 hargs.2
  ·split
   ·rename_i a b;refine Fy (by simp[AJ]) ?_;simp only[Sx.oks];exact⟨Dj hop,ih a (by simp) (hks a (by simp)) (hsk a (by simp)),ih b (by simp) (hks b (by simp)) (hsk b (by simp)),trivial⟩
   ·refine Fy (by simp[AJ]) ?_;simp only[Sx.oks];exact⟨Dj hop,trivial⟩
theorem VF{e:Ex}(hok:e.ok)(hsm:e.small)(h:A0):A6 prog 166 [.agg e.cells] h λr h'=>r= .sc (.bool (EL e))/\h'=h:=by
 have hf:=VE e hok 0 0 (by omega) (by omega) h.next (h.new (.arr 1 [[.sc (.int .i64 0)]])) (by simp[A0.new,Ct])
 have hsh:=O5 e 0 0;have hx:=Re e hok hsm;have hv:EL e=((E9 e 0 0).1&&(CL (BE e) 0 0).1):=rfl;rw[hv];refine A6.quiet Ty.RP ?_;generalize E9 e 0 0=W at hf hsh⊢;obtain⟨b,c⟩:=W;cases b with
 |false=>
  obtain⟨op,name,n,args,kids⟩:=e;simp only[Ex.cells,Qd]at hf⊢;refine uG (ow:=λt=>t==5) (wf:=λ_=>false) func166 ntmps166 results166 Ty.RP ?_;refine wt A3 ?_;refine D5 (hf) (sr A3) ?_;simp only[Ty.w,simprocAttr];refine wt A3 ?_;exact((AC.refl h).new _).set (AD _) _
 |true=>
  have hw:=Kd e hsm (hsh rfl);have hvv:=JI hx;generalize BE e=X at hw hvv⊢;obtain⟨op,name,n,args,kids⟩:=e;obtain⟨ki,va,li,co,te,ks⟩:=X;simp only[Ex.cells,Sx.cells,Qd]at hf hw hvv⊢;refine uG (ow:=λt=>t==5) (wf:=λ_=>false) func166 ntmps166 results166 Ty.RP ?_;refine wt A3 ?_;refine D5 (hf) (sr A3) ?_;simp only[Ty.w,simprocAttr];refine wt A3 ?_;refine uU A3 (hw _) ?_;refine wt A3 ?_;refine uU A3 (hvv _) ?_;refine wt A3 ?_;exact((AC.refl h).new _).set (AD _) _
def Aj(n:Int):PV:= .sc (.iface 42 (.int .i64 n))
def IE:Sx:= .mk 0 0 0 0 ⟨#[]⟩ []
theorem fR{e:Ex}(hok:e.ok)(hsm:e.small)(h:A0):A6 prog 146 [.agg e.cells] h λr h'=>r=(if EL e then .tup [.agg (BE e).cells,.sc .nilIface]else .tup [.agg IE.cells,Aj 2])/\h'=h:=by
 have hv:=VF hok hsm;refine A6.frz Ty.RM ?_;cases hb:EL e with
 |false=>
  rw[hb]at hv;obtain⟨op,name,n,args,kids⟩:=e;simp only[Ex.cells,BG,AP]at hv⊢;refine AE func146 ntmps146 results146 Ty.RM ?_;refine wt A3 ?_;refine uU yF (hv _) ?_;refine wt yF ?_;refine⟨?_,((AC.refl h).new _).set (AD _) _⟩;simp only[IE,Aj,Sx.cells,Sx.rows,AF,AL];exact⟨_,rfl,⟨_,rfl,rfl,rfl,rfl,rfl,rfl,.inr (.inl ⟨rfl,.inr rfl⟩),trivial⟩,rfl,trivial⟩
 |true=>
  rw[hb]at hv;have hsh:=O5 e 0 0 (by unfold EL at hb;simp only[AR]at hb;exact hb.1);have hw:=Kd e hsm hsh;have hfz:=λ(n:Nat)(h:A0)=>FZ n h (BE e);generalize BE e=X at hw hfz⊢;obtain⟨op,name,n,args,kids⟩:=e;obtain⟨ki,va,li,co,te,ks⟩:=X;simp only[Ex.cells,Sx.cells,AH]at hv hw hfz⊢;refine AE func146 ntmps146 results146 Ty.RM ?_;refine wt A3 ?_;refine uU yT (hv _) ?_;refine wt yT ?_;refine uU A3 (hw _) ?_;refine wt A3 ?_;refine⟨?_,((AC.refl h).new _).set (AD _) _⟩;simp only[AF,AL];exact⟨_,rfl,⟨_,rfl,hfz _ _⟩,rfl,trivial⟩
def Dd:ByteArray:=⟨#[111,98,106,101,99,116]⟩
def Gd(s:ByteArray):Bool:=An s||A1 s Dd
theorem Rf{h:A0}{s:ByteArray}(hs:s.size<=AJ):A6 prog 152 [A2 s] h λr h'=>r= .sc (.bool (Gd s))/\h'=h:=by
 have hs':s.size<=9223372036854775807:=by unfold AJ at hs;omega
 have hc:=λh:A0=>FI (h:=h) hs';have hT:Gd s=(An s||(s.data.toList==(#[111,98,106,101,99,116]:Array UInt8).toList)):=rfl;rw[hT];generalize An s=b at hc⊢;cases b with
 |true=>
  refine AE func152 ntmps152 results152 Ty.Uh ?_;refine wt A3 ?_;refine uU A3 (hc _) ?_;refine wm A3 ?_;try exact zI
  all_goals rfl
 |false=>
  refine AE func152 ntmps152 results152 Ty.Uh ?_;refine wt A3 ?_;refine uU A3 (hc _) ?_;refine wm A3 ?_;try exact zI
  all_goals rfl
def AX:List Pm->List Sx
 |[]=>[]
 |p::l=>AA p.name::AA ⟨#[45]⟩::AA p.type::AX l
theorem VG: ∀ l m:List Pm,AX (l++m)=AX l++AX m
 |[],m=>rfl
 |p::l,m=>by simp only[C3,AX,VG l m]
theorem Gu: ∀ l:List Pm,(AX l).length=3*l.length
 |[]=>rfl
 |p::l=>by simp only[AX,Aw,Gu l];omega
theorem Rg{h:A0}{id0:Nat}{p:PV}{l:List Sx}(t:Tl h id0 6 p (Sx.rows l)):AF id0 h (.imm 6 (Sx.rows l)) p:=by
 simp only[AF];rcases t with⟨h1,h2⟩|⟨id,h1,h2,rfl,ho⟩
 ·exact .inr (.inl ⟨h1,h2.symm⟩)
 ·refine .inr (.inr ⟨id,0,_,_,rfl,h1,ho,by omega,?_⟩);rw[CB,DQ (by omega)];exact Jr _ _ _
theorem Rh{l:List Pm}(hl:l.length<=1048576)(h:A0):A6 prog 96 [.imm 2 (A7 l)] h λr h'=>r= .imm 6 (Sx.rows (AX l))/\h'=h:=by
 refine A6.frz Ty.UT ?_;have hll:=IA l;have hw: ∀ (s:ByteArray)(h:A0),A6 prog 136 [A2 s] h λr h'=>r= .agg (AA s).cells/\h'=h:=λs h=>Ka;simp only[AA,Sx.cells,Sx.rows]at hw;refine AE func96 ntmps96 results96 Ty.UT ?_;refine wt hll ?_;refine Cd (λm S h'=>S 6= .imm 2 (A7 l)/\S 7= .sc (.int .i64 l.length)/\ ∃ (k:Nat)(o:PV),S 8= .sc (.int .i64 k)/\S 3=o/\k<=l.length/\m=l.length-k/\AC h h'/\Tl h' h.next 6 o (Sx.rows (AX (l.take k)))) l.length ?_ ?_
 ·simp only[Ty.w,simprocAttr];exact⟨0,_,rfl,rfl,by omega,rfl,AC.refl _,Tl.nil⟩
 ·rintro m S h' ⟨g6,g7,k,o,g8,g3,hk,rfl,hg,tl⟩;by_cases hlt:k<l.length
  ·have hd:decide ((k:Int)<(l.length:Int))=true:=(by simp;omega);have w7:IntKind.i64.wrap ((k:Int)+1)=k+1:=(by rw[Br (by omega) (by omega)]);obtain⟨p,hx⟩: ∃ p,l[k]? =some p:=⟨_,AU hlt⟩;have hr:=Nn hx;have tl2:=tl.up (h':=(h'.new (.arr 2 [[.sc (.string ⟨#[]⟩),.sc (.string ⟨#[]⟩)]])).set h'.next (.arr 2 [[A2 p.name,A2 p.type]])) (by simp[A0.new,A0.set]) (λj _ hj=>by simp only[A0.new,A0.set];rw[A4 (by omega),A4 (by omega)]);have hg2:AC h ((h'.new (.arr 2 [[.sc (.string ⟨#[]⟩),.sc (.string ⟨#[]⟩)]])).set h'.next (.arr 2 [[A2 p.name,A2 p.type]])):=(hg.new _).set hg.le _;obtain⟨H,t1,t2,t3,t4,t5⟩:=tl2.tail;have hpr:(Sx.rows (AX (l.take k))).length=3*k:=(by rw[Sx.rows_len,Gu,HX];omega);have hb:(3*k+3)*72<=140737488355328:=(by omega);have hR:Sx.rows (AX (l.take (k+1)))=Sx.rows (AX (l.take k))++[[.sc (.int .i64 1),.sc (.int .i64 0),.sc (.int .i64 0),.sc (.int .i64 0),A2 p.name,.imm 6 []],[.sc (.int .i64 1),.sc (.int .i64 0),.sc (.int .i64 0),.sc (.int .i64 0),A2 ⟨#[45]⟩,.imm 6 []],[.sc (.int .i64 1),.sc (.int .i64 0),.sc (.int .i64 0),.sc (.int .i64 0),A2 p.type,.imm 6 []]]:=by
    rw[Jc,hx,VG];simp only[Sx.rows_map,Qe,YN,AX,BS,B5,AA,Sx.cells]
   generalize Sx.rows (AX (l.take k))=R at tl tl2 t1 t2 hpr hR;replace zz:=Ag g6 g7 g8 g3 hd hr hll;refine wy zz ?_;replace zz:=Aa g6 g7 g8 g3;(first|refine uV zz (hw p.name _) ?_|refine uA zz (hw p.name _) ?_);refine wy zz ?_;replace zz:=Aa g6 g7 g8 g3;(first|refine uV zz (hw ⟨#[45]⟩ _) ?_|refine uA zz (hw ⟨#[45]⟩ _) ?_);refine wy zz ?_;replace zz:=Aa g6 g7 g8 g3;(first|refine uV zz (hw p.type _) ?_|refine uA zz (hw p.type _) ?_);replace zz:=BK g6 g7 g8 g3 w7 t1 t2 hpr hb;(repeat'(first|refine cK ?_|refine nK ?_|refine uR zz ?_|(refine uN hK ?_;clear hK)|refine uB zz ?_|(rw[AG];rotate_left 1;omega;simp only[Ty.w,simprocAttr,g6,g7,g8,g3,w7,t1,t2,hpr,hb])|apply zI));have t3':H.next=h'.next+1:=by rw[t3];simp[A0.new,A0.set]
   have hkp:=t5 h ⟨hg2.le,hg2.old⟩ (AD _);have hgH:AC h H:=⟨hkp.1,hkp.2⟩;rw[← hR];have hRl:3*k+3=(Sx.rows (AX (l.take (k+1)))).length:=(by rw[Sx.rows_len,Gu,HX];omega);exact⟨l.length-(k+1),by omega,k+1,.own H.next 0 (3*k+3),by simp,by rw[t3'],by omega,rfl,hgH.new _,Tl.grow hkp.1 hRl⟩
  ·have hd:decide ((k:Int)<(l.length:Int))=false:=(by simp;omega);have hke:k=l.length:=(by omega);subst hke;rw[J7]at tl;replace zz:=As g6 g7 g8 g3 hd;refine wt zz ?_;exact⟨Rg tl,hg⟩
def Bk:ByteArray:=⟨#[97,116,111,109]⟩
def C9:ByteArray:=⟨#[115,97,109,101]⟩
def Bc:ByteArray:=⟨#[97,110,100]⟩
def GF:ByteArray:=⟨#[111,114]⟩
def DD:ByteArray:=⟨#[110,111,116]⟩
def G6:ByteArray:=⟨#[105,109,112,108,121]⟩
def DH:ByteArray:=⟨#[102,111,114,97,108,108]⟩
def HK:ByteArray:=⟨#[101,120,105,115,116,115]⟩
def CR:ByteArray:=⟨#[61]⟩
def D0:ByteArray:=⟨#[60]⟩
def DN:ByteArray:=⟨#[60,61]⟩
def Il:ByteArray:=⟨#[62]⟩
def JJ:ByteArray:=⟨#[62,61]⟩
def FJ(op:ByteArray):Bool:=A1 op D0||A1 op DN||A1 op CR
def Dy(op:ByteArray):Bool:=A1 op DH||A1 op HK
def Ce:Fm:= .mk ⟨#[]⟩ ⟨#[]⟩ [] [] [] []
def Dp(op:ByteArray)(nk:Nat):Option (Nat × Nat × Bool):=
 if A1 op Bk then some (0,0,false)
 else if A1 op C9 then some (0,0,false)
 else if A1 op D0 then some (2,0,false)
 else if A1 op DN then some (2,0,false)
 else if A1 op CR then some (2,0,false)
 else if A1 op Bc then some (0,nk,false)
 else if A1 op GF then some (0,nk,false)
 else if A1 op DD then some (0,1,false)
 else if A1 op G6 then some (0,2,false)
 else if A1 op DH then some (0,1,true)
 else if A1 op HK then some (0,1,true)
 else none
def Eh(op name:ByteArray)(args:List ByteArray):Bool:=
 if A1 op Bk then An name&&args.all C8
 else if A1 op C9 then HJ name&&decide (args.length=2)&&args.all C8
 else HJ name&&args.isEmpty
def Hg(p:Pm):Bool:=Eg p.name&&Gd p.type
def FK(op name:ByteArray)(args:List ByteArray)(params:List Pm)(ne nk:Nat):Bool:=
 match Dp op nk with
 |none=>false
 |some (e,m,q)=>Eh op name args&&decide (ne=e)&&decide (nk=m)&&(params.isEmpty||q)&&params.all Hg
def GG:List Ex->Nat->Nat->Bool × Nat
 |[],_,c=>(true,c)
 |e::l,d,c=>match E9 e d c with
  |(true,c')=>GG l d c'
  |(false,c')=>(false,c')
mutual
def Ez:Fm->Nat->Nat->Bool × Nat
 | .mk op name args params exprs kids,d,c=>
  if c+1<=4096/\d<=32 then
   (if FK op name args params exprs.length kids.length = true then (match GG exprs (d + 1) (c + 1) with
    |(true,c')=>G7 kids (d+1) c'
    |(false,c')=>(false,c'))else(false,c+1))
  else(false,c+1)
def G7:List Fm->Nat->Nat->Bool × Nat
 |[],_,c=>(true,c)
 |k::l,d,c=>match Ez k d c with
  |(true,c')=>G7 l d c'
  |(false,c')=>(false,c')
end
mutual
def D1:Fm->Bool
 | .mk op name args params exprs kids=>FK op name args params exprs.length kids.length&&exprs.all Ey&&Jt kids
def Jt:List Fm->Bool
 |[]=>true
 |k::l=>D1 k&&Jt l
end
theorem Mh: ∀ {l:List Fm},(Jt l=true↔ ∀ k∈l,D1 k=true)
 |[]=>by simp[Jt]
 |k::l=>by simp[Jt,Mh (l:=l)]
mutual
def Am:Fm->Sx
 | .mk op name args params exprs kids=>
  if A1 op Bk then Cn name args
  else if A1 op C9 then Cn CR args
  else if FJ op=true then AK (AA op::exprs.map BE)
  else AK ((if(A1 op Bc&&kids.isEmpty)=true then[]else[AA op])++(if Dy op=true then[AK (AX params)]else[])++O6 kids)
def O6:List Fm->List Sx
 |[]=>[]
 |k::l=>Am k::O6 l
end
theorem Mi: ∀ l:List Fm,O6 l=l.map Am
 |[]=>rfl
 |k::l=>by simp[O6,Mi l]
def BU(f:Fm):Bool:=(Ez f 0 0).1&&(CL (Am f) 0 0).1
end Go.Proofs.YtblgchkahpgdjaaGreat
namespace Go.AM
section
variable {P:Program}{ow:Nat->Bool}{n:Nat}{ops:List Oper}{I K:A9->A0->Prop}
theorem Ri: ∀ (l:List Oper)(k:Nat){s:A9}{h:A0},EH P ow n ops (l.take k) I s h->(∀ s h,I s h->EH P ow n ops (l.drop k) K s h)->EH P ow n ops l K s h
 |[],k,s,h,h1,hk=>by
  rw[List.take_nil]at h1;have:=hk s h (by simpa only[EH]using h1)
  rwa [List.drop_nil]at this
 |o::rest,0,s,h,h1,hk=>hk s h (by simpa only[EH,KL]using h1)
 |o::rest,k+1,s,h,h1,hk=>by
  rw[LC]at h1;simp only[EH]at h1⊢;refine⟨h1.1,?_⟩;have h3:=h1.2
  clear h1;cases hw:CN ops s o with
  |none=>rw[hw]at h3;exact h3
  |some b=>
   rw[hw]at h3;simp only at h3⊢;split at h3
   ·rename_i hb;rw[AG hb];exact R4 (λs h hh=>Ri rest k hh hk) h3
   ·rename_i hb;rw[A4 hb];exact Ri rest k h3 hk
theorem Rj: ∀ (l:List Oper)(k:Nat){s:A9}{h:A0},E8 P ow n ops (l.take k) I s h->(∀ s h,I s h->E8 P ow n ops (l.drop k) K s h)->E8 P ow n ops l K s h
 |[],k,s,h,h1,hk=>by
  rw[List.take_nil]at h1;have:=hk s h (by simpa only[E8]using h1)
  rwa [List.drop_nil]at this
 |o::rest,0,s,h,h1,hk=>hk s h (by simpa only[E8,KL]using h1)
 |o::rest,k+1,s,h,h1,hk=>by
  rw[LC]at h1;simp only[E8]at h1⊢;refine⟨h1.1,?_⟩;have h3:=h1.2
  clear h1;cases hw:CN ops s o with
  |none=>rw[hw]at h3;exact h3
  |some b=>
   rw[hw]at h3;simp only at h3⊢;split at h3
   ·rename_i hb;rw[AG hb];cases hc:callee (A5 s) o.op with
    |none=>
     rw[hc]at h3;simp only at h3⊢;cases he:AT P (o.dst.any ow) o.op (A5 s) h with
     |none=>rw[he]at h3;exact h3
     |some r=>
      rw[he]at h3;exact Rj rest k h3 hk
    |some f=>
     rw[hc]at h3;simp only at h3⊢;exact R4 (λs h hh=>Ri rest k hh λs h hi=>KS _ _ _ (hk s h hi)) h3
   ·rename_i hb;rw[A4 hb];exact Rj rest k h3 hk
theorem fS{l:List Oper}{s:A9}{h:A0}(k:Nat)(I:A9->A0->Prop)(h1:E8 P ow n ops (l.take k) I s h)(h2: ∀ s h,I s h->E8 P ow n ops (l.drop k) K s h):E8 P ow n ops l K s h:=Rj l k h1 h2
end
end Go.AM
namespace Go.AM
structure At where
 name:ByteArray
 args:List ByteArray
structure Vl where
 at_:At
 n:Int
structure Pb where
 name:ByteArray
 domain:ByteArray
 objects:List Pm
 init:List At
 values:List Vl
 goal:Fm
def fT(a:At):List PV:=[A2 a.name,.imm 1 (AN a.args)]
def fU(l:List At):List (List PV):=l.map fT
def fV(v:Vl):List PV:=[A2 v.at_.name,.imm 1 (AN v.at_.args),.sc (.int .i64 v.n)]
def fW(l:List Vl):List (List PV):=l.map fV
def Pb.cells(p:Pb):List PV:=[A2 p.name,A2 p.domain,.imm 2 (A7 p.objects),.imm 2 (fU p.init),.imm 3 (fW p.values)]++p.goal.cells
def At.ok(a:At):Prop:=a.name.size<=AJ/\a.args.length<=AJ/\ ∀ s∈a.args,s.size<=AJ
end Go.AM
namespace Go.Proofs.YtblgchkahpgdjaaGreat
open Go.AM Go.Proofs.Tryz
set_option maxHeartbeats 2000000
set_option maxRecDepth 20000
def Ax:Sx->Int
 | .mk k _ _ _ _ _=>k
def Ah:Sx->ByteArray
 | .mk _ _ _ _ t _=>t
def Bd:Sx->Option (ByteArray × List Sx)
 | .mk kind _ _ _ _ kids=>if kind=3 then(match kids with
  |x::rest=>bif Ax x==1 then some (Ah x,rest)else none
  |[]=>none)else none
def Mj:Option (ByteArray × List Sx)->PV
 |some (t,l)=> .tup [A2 t,.imm 6 (Sx.rows l),.sc (.bool true)]
 |none=> .tup [A2 ⟨#[]⟩,.sc (.slice none 0 0),.sc (.bool false)]
theorem Rk{x:Sx}(hok:x.ok)(h:A0):A6 prog 179 [.agg x.cells] h λr h'=>r=Mj (Bd x)/\h'=h:=by
 obtain⟨kind,value,line,col,text,kids⟩:=x;simp only[Sx.ok]at hok;obtain⟨_,_,_,hk,_⟩:=hok;generalize hF:Bd (.mk kind value line col text kids)=F;simp only[Bd]at hF;simp only[Sx.cells];have hlen:=Sx.rows_len kids;cases k3:(kind !=3)with
 |true=>
  rw[A4 (by simpa using k3)]at hF;subst hF;refine AE func179 ntmps179 results179 Ty.Pa ?_;refine wm k3 ?_;try exact zI
  all_goals rfl
 |false=>
  rw[AG (by simpa using k3)]at hF;cases kids with
  |nil=>
   simp only at hF;subst hF;have q:(((Sx.rows []).length:Int)==0)=true:=rfl;generalize Sx.rows []=R at q hlen;refine AE func179 ntmps179 results179 Ty.Pa ?_;refine wm (uu k3 q) ?_;try exact zI
   all_goals rfl
  |cons y rest=>
   simp only at hF;have q:(((Sx.rows (y::rest)).length:Int)==0)=false:=(by rw[hlen];simp;omega);have r0:=Sx.rows_get (l:=y::rest) (i:=0) rfl;have q1:(1:Int)<=((Sx.rows (y::rest)).length:Int):=(by rw[hlen];simp;omega);have ht:List.take (((Sx.rows (y::rest)).length:Int)-1).toNat (List.drop 1 (Sx.rows (y::rest)))=Sx.rows rest:=by
    simp only[Sx.rows,GW,CB,Aw];rw[DQ (by omega)]
   generalize Sx.rows (y::rest)=R at q r0 q1 ht hlen⊢;obtain⟨ki,va,li,co,te,ks⟩:=y;simp only[Sx.cells,Ax,Ah]at r0 hF;cases k1:(ki !=1)with
   |true=>
    rw[show(ki==1)=false by simpa using k1]at hF;simp only[AI]at hF;subst hF;refine AE func179 ntmps179 results179 Ty.Pa ?_;replace zz:=Aa k3 q r0 k1;refine wm zz ?_;try exact zI
    all_goals rfl
   |false=>
    rw[show(ki==1)=true by simpa using k1]at hF;simp only[AB]at hF;subst hF;refine AE func179 ntmps179 results179 Ty.Pa ?_;replace zz:=BO k3 q r0 k1 q1 ht @CU @CV;refine wo zz ?_;try exact zI
    all_goals rfl
def CF:List Sx->List ByteArray × Int
 |[]=>([],0)
 |x::l=>bif Ax x==1 then(bif C8 (Ah x)then(match CF l with
  |(t,c)=>bif c==0 then(Ah x::t,0)else([],c))else([],8))else([],2)
def AO(c:Int):PV:=bif c==0 then .sc .nilIface else Aj c
theorem VH: ∀ l:List Sx,(CF l).2=0\/((CF l).1=[]/\((CF l).2=2\/(CF l).2=8))
 |[]=> .inl rfl
 |x::l=>by
  have:=VH l;simp only[CF];cases Ax x==1 with
  |false=>simp
  |true=>
   cases C8 (Ah x)with
   |false=>simp
   |true=>
    simp only[AB];cases hq:(CF l).2==0 with
    |false=>
     rcases this with h|h
     ·rw [h]at hq;simp at hq
     ·simp only[AI,FQ];exact .inr h.2
    |true=>simp
theorem VI{h:A0}{id0:Nat}{p:PV}{l:List ByteArray}(t:Tl h id0 1 p (AN l)):AF id0 h (.imm 1 (AN l)) p:=t.frz λr hr p hp=>by
 simp only[AN,Er]at hr;obtain⟨s,_,rfl⟩:=hr;simp only[GV]at hp;exact⟨_,hp⟩
theorem Rl{l:List Sx}(hl:l.length<=1048576)(hok: ∀ x∈l,x.ok)(h:A0):A6 prog 180 [.imm 6 (Sx.rows l)] h λr h'=>r= .tup [.imm 1 (AN (CF l).1),AO (CF l).2]/\h'=h:=by
 refine A6.frz Ty.Uq ?_;have hll:=Sx.rows_len l;refine AE func180 ntmps180 results180 Ty.Uq ?_;refine wt hll ?_;refine Cd (λm S h'=>S 7= .imm 6 (Sx.rows l)/\S 8= .sc (.int .i64 l.length)/\ ∃ (k:Nat)(o:PV)(pre:List ByteArray),S 9= .sc (.int .i64 k)/\S 4=o/\k<=l.length/\m=l.length-k/\AC h h'/\pre.length=k/\Tl h' h.next 1 o (AN pre)/\
  CF l=(match CF (l.drop k)with|(t,c)=>bif c==0 then(pre++t,0)else([],c))) l.length ?_ ?_
 ·simp only[Ty.w,simprocAttr];refine⟨0,_,[],rfl,rfl,by omega,rfl,AC.refl _,rfl,Tl.nil,?_⟩;have:=VH l;rw[CB];cases hq:(CF l).2==0
  ·rcases this with h|h
   ·rw [h]at hq;simp at hq
   ·simp only[hq,AI];rw[← h.1]
  ·have h0:(CF l).2=0:=(by simpa using hq);simp only[hq,AB,Au];rw[← h0]
 ·rintro m S h' ⟨g7,g8,k,o,pre,g9,g4,hk,rfl,hg,hpl,tl,hinv⟩;by_cases hlt:k<l.length
  ·have hd:decide ((k:Int)<(l.length:Int))=true:=(by simp;omega);have w7:IntKind.i64.wrap ((k:Int)+1)=k+1:=(by rw[Br (by omega) (by omega)]);obtain⟨x,hx⟩: ∃ x,l[k]? =some x:=⟨_,AU hlt⟩;have hr:=Sx.rows_get hx;have hxk:=hok x (C7 hx);rw[Cm hx]at hinv;simp only[CF]at hinv;obtain⟨ki,va,li,co,te,ks⟩:=x;simp only[Sx.ok]at hxk;obtain⟨_,_,hte,_⟩:=hxk;simp only[Sx.cells]at hr;simp only[Ax,Ah]at hinv;have nz: ∀ id,id<h'.next->(id=h'.next)=False:=λid hi=>by simp;omega
   have tl2:=tl.up (h':=(h'.new (.arr 6 [[.sc (.int .i64 0),.sc (.int .i64 0),.sc (.int .i64 0),.sc (.int .i64 0),.sc (.string ⟨#[]⟩),.sc (.slice none 0 0)]])).set h'.next (.arr 6 [[.sc (.int .i64 ki),.sc (.int .i64 va),.sc (.int .i64 li),.sc (.int .i64 co),A2 te,.imm 6 (Sx.rows ks)]])) (by simp[A0.new,A0.set]) (λj _ hj=>by simp only[A0.new,A0.set];rw[A4 (by omega),A4 (by omega)]);have hg2:AC h ((h'.new (.arr 6 [[.sc (.int .i64 0),.sc (.int .i64 0),.sc (.int .i64 0),.sc (.int .i64 0),.sc (.string ⟨#[]⟩),.sc (.slice none 0 0)]])).set h'.next (.arr 6 [[.sc (.int .i64 ki),.sc (.int .i64 va),.sc (.int .i64 li),.sc (.int .i64 co),A2 te,.imm 6 (Sx.rows ks)]])):=(hg.new _).set hg.le _;cases q1:(ki !=1)with
   |true=>
    rw[show(ki==1)=false by simpa using q1]at hinv;simp only[AI]at hinv;replace zz:=Ag g7 g8 g9 g4 hd hr q1;refine wt zz ?_;have e:CF l=([],2):=hinv;have e2:AO 2=Aj 2:=rfl;rw[e,e2];refine⟨?_,hg2⟩;simp only[Aj,AF,AL];exact⟨_,rfl,.inr (.inl ⟨rfl,.inr rfl⟩),rfl,trivial⟩
   |false=>
    rw[show(ki==1)=true by simpa using q1]at hinv;simp only[AB]at hinv;have hc:=λh:A0=>Rb (h:=h) hte;generalize C8 te=b at hc hinv;cases b with
    |false=>
     simp only[AI]at hinv;replace zz:=Ag g7 g8 g9 g4 hd hr q1;refine wt zz ?_;replace zz:=BO g7 g8 g9 g4 hd hr q1 yF;refine uU zz (hc _) ?_;replace zz:=As g7 g8 g9 g4 yF;refine wt zz ?_;have e:CF l=([],8):=hinv;have e2:AO 8=Aj 8:=rfl;rw[e,e2];refine⟨?_,hg2⟩;simp only[Aj,AF,AL];exact⟨_,rfl,.inr (.inl ⟨rfl,.inr rfl⟩),rfl,trivial⟩
    |true=>
     simp only[AB]at hinv;obtain⟨H,t1,t2,t3,t4,t5⟩:=tl2.tail;have hpr:(AN pre).length=k:=(by rw[Gb];exact hpl);have hb:(k+1)*16<=140737488355328:=(by omega);replace zz:=Ag g7 g8 g9 g4 hd hr q1;refine wt zz ?_;replace zz:=BO g7 g8 g9 g4 hd hr q1 yT;refine uU zz (hc _) ?_;replace zz:=B7 g7 g8 g9 g4 w7 yT t1 t2 hpr hb;(repeat'(first|refine cK ?_|refine nK ?_|refine uR zz ?_|refine uQ zz λK hK=>?_|refine uK ?_|refine Bo zz ?_|(refine uN hK ?_;clear hK)|(rw[AG];rotate_left 1;omega;simp only[Ty.w,simprocAttr,g7,g8,g9,g4,w7,Ap,t1,t2,hpr,hb])|apply zI));have t3':H.next=h'.next+1:=by rw[t3];simp[A0.new,A0.set]
     have hkp:=t5 h ⟨hg2.le,hg2.old⟩ (AD _);have hgH:AC h H:=⟨hkp.1,hkp.2⟩;have hap:AN pre++[[PV.sc (.string te)]]=AN (pre++[te]):=(by simp[AN]);rw[hap];refine⟨l.length-(k+1),by omega,k+1,.own H.next 0 (k+1),pre++[te],by simp,by rw[t3'],by omega,rfl,hgH.new _,by simp[hpl],Tl.grow hkp.1 (by rw[Gb];simp[hpl]),?_⟩;rw[hinv];generalize CF (List.drop (k+1) l)=W;obtain⟨t,c⟩:=W;cases hq:c==0 with
     |false=>simp only[hq,AI]
     |true=>simp only[hq,AB,D8,HW,C3,Au]
  ·have hd:decide ((k:Int)<(l.length:Int))=false:=(by simp;omega);rw[D3 (by omega)]at hinv;simp only[CF,D8,AB,J5]at hinv;replace zz:=As g7 g8 g9 g4 hd;refine wt zz ?_;have e:CF l=(pre,0):=hinv;have e2:AO 0= .sc .nilIface:=rfl;rw[e,e2];refine⟨?_,hg⟩;have h1:=VI tl;unfold AF;refine⟨_,rfl,?_⟩;unfold AL;refine⟨h1,?_⟩;unfold AL;exact⟨by simp only[AF],by simp only[AL]⟩
end Go.Proofs.YtblgchkahpgdjaaGreat
namespace Go.Proofs.YtblgchkahpgdjaaGreat
open Go.AM Go.Proofs.Tryz
set_option maxHeartbeats 2000000
set_option maxRecDepth 20000
def EA(op:ByteArray):Int:=
 if(op.data.toList==(#[110,111,116]:Array UInt8).toList)then 1
 else if(op.data.toList==(#[105,109,112,108,121]:Array UInt8).toList)then 2
 else if(op.data.toList==(#[102,111,114,97,108,108]:Array UInt8).toList)then 2
 else if(op.data.toList==(#[101,120,105,115,116,115]:Array UInt8).toList)then 2
 else if(op.data.toList==(#[61]:Array UInt8).toList)then 2
 else if(op.data.toList==(#[60]:Array UInt8).toList)then 2
 else if(op.data.toList==(#[60,61]:Array UInt8).toList)then 2
 else if(op.data.toList==(#[62]:Array UInt8).toList)then 2
 else if(op.data.toList==(#[62,61]:Array UInt8).toList)then 2
 else-1
theorem fY{h:A0}{op:ByteArray}:A6 prog 181 [A2 op] h λr h'=>r= .sc (.int .i64 (EA op))/\h'=h:=by
 generalize hF:EA op=F;unfold EA at hF;cases c0:(op.data.toList==(#[110,111,116]:Array UInt8).toList)with
 |true=>
  rw[c0]at hF;simp only[AH]at hF;subst hF;refine AE func181 ntmps181 results181 Ty.JF ?_;exact wz c0
 |false=>
  rw[c0]at hF;simp only[BG,AP]at hF;cases c1:(op.data.toList==(#[105,109,112,108,121]:Array UInt8).toList)with
  |true=>
   rw[c1]at hF;simp only[AH]at hF;subst hF;refine AE func181 ntmps181 results181 Ty.JF ?_;exact wz (uu c0 c1)
  |false=>
   rw[c1]at hF;simp only[BG,AP]at hF;cases c2:(op.data.toList==(#[102,111,114,97,108,108]:Array UInt8).toList)with
   |true=>
    rw[c2]at hF;simp only[AH]at hF;subst hF;refine AE func181 ntmps181 results181 Ty.JF ?_;exact wz (AV c0 c1 c2)
   |false=>
    rw[c2]at hF;simp only[BG,AP]at hF;cases c3:(op.data.toList==(#[101,120,105,115,116,115]:Array UInt8).toList)with
    |true=>
     rw[c3]at hF;simp only[AH]at hF;subst hF;refine AE func181 ntmps181 results181 Ty.JF ?_;replace zz:=Aa c0 c1 c2 c3;exact wz zz
    |false=>
     rw[c3]at hF;simp only[BG,AP]at hF;cases c4:(op.data.toList==(#[61]:Array UInt8).toList)with
     |true=>
      rw[c4]at hF;simp only[AH]at hF;subst hF;refine AE func181 ntmps181 results181 Ty.JF ?_;replace zz:=As c0 c1 c2 c3 c4;exact wz zz
     |false=>
      rw[c4]at hF;simp only[BG,AP]at hF;cases c5:(op.data.toList==(#[60]:Array UInt8).toList)with
      |true=>
       rw[c5]at hF;simp only[AH]at hF;subst hF;refine AE func181 ntmps181 results181 Ty.JF ?_;replace zz:=Aq c0 c1 c2 c3 c4 c5;exact wz zz
      |false=>
       rw[c5]at hF;simp only[BG,AP]at hF;cases c6:(op.data.toList==(#[60,61]:Array UInt8).toList)with
       |true=>
        rw[c6]at hF;simp only[AH]at hF;subst hF;refine AE func181 ntmps181 results181 Ty.JF ?_;replace zz:=Ag c0 c1 c2 c3 c4 c5 c6;exact wz zz
       |false=>
        rw[c6]at hF;simp only[BG,AP]at hF;cases c7:(op.data.toList==(#[62]:Array UInt8).toList)with
        |true=>
         rw[c7]at hF;simp only[AH]at hF;subst hF;refine AE func181 ntmps181 results181 Ty.JF ?_;replace zz:=BO c0 c1 c2 c3 c4 c5 c6 c7;exact wz zz
        |false=>
         rw[c7]at hF;simp only[BG,AP]at hF;cases c8:(op.data.toList==(#[62,61]:Array UInt8).toList)with
         |true=>
          rw[c8]at hF;simp only[AH]at hF;subst hF;refine AE func181 ntmps181 results181 Ty.JF ?_;replace zz:=BK c0 c1 c2 c3 c4 c5 c6 c7 c8;exact wz zz
         |false=>
          rw[c8]at hF;simp only[BG,AP]at hF;subst hF;refine AE func181 ntmps181 results181 Ty.JF ?_;replace zz:=BK c0 c1 c2 c3 c4 c5 c6 c7 c8;exact wz zz
end Go.Proofs.YtblgchkahpgdjaaGreat
namespace Go.Proofs.YtblgchkahpgdjaaGreat
open Go.AM Go.Proofs.Tryz
def Im(w:ByteArray):Bool:=A1 w Ll||A1 w Fx||A1 w Lm
def Bs:Ex:= .mk ⟨#[]⟩ ⟨#[]⟩ 0 [] []
def BV:Sx->Ex × Int
 | .mk kind value _ _ _ kids=>
  if kind=2 then(.mk Ij ⟨#[]⟩ value [] [],0)
  else if kind=3 then(match kids with
   | x :: rest => bif Ax x == 1 then
     (bif Im (Ah x) then (match rest with
      |[a,b]=>(match BV a with
       | (ea, ca) => bif ca == 0 then (match BV b with
        |(eb,cb)=>bif cb==0 then(.mk (Ah x) ⟨#[]⟩ 0 [] [ea,eb],0)else(Bs,cb))else(Bs,ca))
      |_=>(Bs,2))
     else bif An (Ah x)then(match CF rest with
      |(t,c)=>bif c==0 then(.mk Ik (Ah x) 0 t [],0)else(Bs,c))else(Bs,8))
    else(Bs,2)
   |[]=>(Bs,2))else(Bs,2)
termination_by x=>SizeOf.sizeOf x
decreasing_by all_goals(simp_wf;omega)
theorem Dz{a b:ByteArray}(h:A1 a b=true):a=b:=RU (by simpa[A1]using h)
theorem O7: ∀ l:List ByteArray,l.all C8=true->CF (l.map AA)=(l,0)
 |[],_=>rfl
 |s::l,h=>by
  simp only[GX,AR]at h;have h1:Ax (AA s)=1:=rfl;have h2:Ah (AA s)=s:=rfl;simp only[BS,CF,h1,h2,h.1,O7 l h.2,D8,AB]
theorem fZ{s:ByteArray}(h:An s=true):Im s=false:=by
 have hb:IB s.data.toList=true:=by
  unfold An at h;simp only[AR]at h;exact h.1.1.1
 have hn: ∀ c:UInt8,EJ c=false->A1 s ⟨#[c]⟩=false:=by
  intro c hc;cases he:A1 s ⟨#[c]⟩with
  |false=>rfl
  |true=>
   have:=Dz he;subst this;simp[IB,hc]at hb
 unfold Im Ll Fx Lm;rw[hn 43 (by decide),hn 45 (by decide),hn 42 (by decide)];try rfl
theorem Rm: ∀ e:Ex,Ey e=true->BV (BE e)=(e,0):=by
 refine Ex.ind ?_;intro op name v args kids ih hs;unfold Ey at hs;unfold BE;cases c1:A1 op Ij with
 |true=>
  rw[c1]at hs;simp only[AH,AR,KM]at hs⊢;obtain⟨⟨⟨h1,rfl⟩,rfl⟩,_⟩:=hs;have h2:=Dz c1;have h3:name=⟨#[]⟩:=Dz h1;subst h2;subst h3;unfold BV;simp
 |false=>
  rw[c1]at hs;simp only[BG,AP]at hs⊢;cases c2:A1 op Ik with
  |true=>
   rw[c2]at hs;simp only[AH,AR,KM,BP]at hs⊢;obtain⟨⟨⟨rfl,rfl⟩,h1⟩,h2⟩:=hs;have h3:=Dz c2;subst h3;unfold BV Cn AK;have k1:Ax (AA name)=1:=rfl;have k2:Ah (AA name)=name:=rfl;simp only[BS,k1,k2,fZ h1,h1,O7 args h2,D8,AB,AI];simp
  |false=>
   rw[c2]at hs;simp only[BG,AP]at hs⊢;split at hs
   case isFalse=>simp at hs
   rename_i hop;simp only[AR,KM,BP]at hs;obtain⟨⟨⟨rfl,h1⟩,rfl⟩,h2⟩:=hs;split at h2
   case h_2=>simp at h2
   rename_i a b;simp only[AR]at h2;have h3:name=⟨#[]⟩:=Dz h1;subst h3;unfold BV AK;have k1:Ax (AA op)=1:=rfl;have k2:Ah (AA op)=op:=rfl;have k3:Im op=true:=hop;simp only[k1,k2,k3,ih a (by simp) h2.1,ih b (by simp) h2.2,D8,AB];simp
end Go.Proofs.YtblgchkahpgdjaaGreat
namespace Go.Proofs.YtblgchkahpgdjaaGreat
open Go.AM Go.Proofs.Tryz
set_option maxHeartbeats 4000000
set_option maxRecDepth 20000
theorem Rn(x:Sx):BV x=(bif Ax x==2 then(match x with| .mk _ v _ _ _ _=>(.mk Ij ⟨#[]⟩ v [] [],0))else(match Bd x with
  |none=>(Bs,2)
  |some (w,rest)=>bif Im w then(match rest with
    |[a,b]=>(match BV a with
     | (ea, ca) => bif ca == 0 then (match BV b with
      |(eb,cb)=>bif cb==0 then(.mk w ⟨#[]⟩ 0 [] [ea,eb],0)else(Bs,cb))else(Bs,ca))
    |_=>(Bs,2))
   else bif An w then(match CF rest with
    |(t,c)=>bif c==0 then(.mk Ik w 0 t [],0)else(Bs,c))else(Bs,8))):=by
 obtain⟨kind,value,line,col,text,kids⟩:=x
 conv=>lhs;unfold BV
 have kk:Ax (.mk kind value line col text kids)=kind:=rfl;rw[kk];simp only[Bd];cases h2:kind==2 with
 |true=>
  rw[AG (by simpa using h2)];try rfl
 |false=>
  rw[A4 (by simpa using h2)];simp only[AI];by_cases h3:kind=3
  ·rw [AG h3,AG h3];cases kids with
   |nil=>rfl
   |cons y rest=>cases hk:Ax y==1<;>simp only[hk,AB,AI]<;>rfl
  ·rw [A4 h3,A4 h3]
theorem Ro{x:Sx}{w:ByteArray}{rest:List Sx}(hok:x.ok)(h:Bd x=some (w,rest)):w.size<=AJ/\ ∀ y∈rest,y.ok:=by
 obtain⟨kind,value,line,col,text,kids⟩:=x;simp only[Sx.ok]at hok;obtain⟨_,_,_,_,hks⟩:=hok;simp only[Bd]at h;split at h
 ·cases kids with
  |nil=>simp at h
  |cons y r=>
   simp only[Sx.oks]at hks;simp only at h;cases hk:Ax y==1 with
   |false=>rw[hk]at h;simp at h
   |true=>
    rw[hk]at h;simp only[AB,Ak,Ar]at h;obtain⟨rfl,rfl⟩:=h;refine⟨?_,Sx.oks_iff.1 hks.2⟩;obtain⟨_,_,_,_,t,_⟩:=y;simp only[Sx.ok]at hks;exact hks.1.2.2.1
 ·simp at h
theorem Pi(n:Nat): ∀ e:Ex,BT n e.cells:=by
 have hs: ∀ l:List ByteArray,B1 n (AN l):=by
  intro l
  induction l with
  |nil=>simp only[AN,B5,B1]
  |cons a l ih=>simp only[AN,BS,B1,BT,BB,Da,FQ]at ih⊢;exact ih
 refine Ex.ind ?_;intro op name v args kids ih;have:B1 n (Ex.rows kids):=by
  clear op name v args
  induction kids with
  |nil=>simp only[Ex.rows,B1]
  |cons k ks ih2=>
   simp only[Ex.rows,B1];exact⟨ih k (by simp),ih2 λq hq=>ih q (by simp[hq])⟩
 simp only[Ex.cells,BT,BB,Da,FQ];exact⟨hs args,this⟩
theorem DO(n:Nat)(l:List ByteArray):B1 n (AN l):=by
 induction l with
 |nil=>simp only[AN,B5,B1]
 |cons a l ih=>simp only[AN,BS,B1,BT,BB,Da,FQ]at ih⊢;exact ih
theorem Rp{x:Sx}(hok:x.ok)(hsm: ∀ w rest,Bd x=some (w,rest)->rest.length<=1048576)(hpm:Ax x=2\/ ∀ w rest,Bd x=some (w,rest)->Im w=false)(h:A0):
  A6 prog 168 [.agg x.cells] h λr h'=>r= .tup [.agg (BV x).1.cells,AO (BV x).2]/\h'=h:=by
 refine A6.frz Ty.KV ?_;have hh:=Rk hok;have hX:=Rn x;generalize BV x=F at hX;have hho:=λw rest e=>Ro (w:=w) (rest:=rest) hok e;generalize Bd x=M at hh hX hsm hpm hho;obtain⟨kind,value,line,col,text,kids⟩:=x;have kk:Ax (.mk kind value line col text kids)=kind:=rfl;rw[kk]at hX hpm;simp only[Sx.cells]at hh⊢;cases k2:(kind==2)with
 |true=>
  simp only[k2,AB]at hX;subst hX;refine AE func168 ntmps168 results168 Ty.KV ?_;refine wt k2 ?_;refine⟨?_,((AC.refl h).new _).set (AD _) _⟩;simp only[AO,D8,AB,Ij,Ex.cells,Ex.rows,AN,B5,AF,AL];exact⟨_,rfl,⟨_,rfl,rfl,rfl,rfl,.inr (.inl ⟨rfl,.inr rfl⟩),.inr (.inl ⟨rfl,.inr rfl⟩),trivial⟩,rfl,trivial⟩
 |false=>
  have hk2:¬ kind=2:=by simpa using k2
  simp only[k2,AI]at hX;have hpm:=hpm.resolve_left hk2;cases M with
  |none=>
   simp only at hX;subst hX;simp only[Mj]at hh;refine AE func168 ntmps168 results168 Ty.KV ?_;refine wt k2 ?_;refine uU (uu k2 yF) (hh _) ?_;refine wt (uu k2 yF) ?_;refine⟨?_,((AC.refl h).new _).set (AD _) _⟩;have e2:AO 2=Aj 2:=rfl;simp only[e2,Aj,Bs,Ex.cells,Ex.rows,AN,B5,AF,AL];exact⟨_,rfl,⟨_,rfl,rfl,rfl,rfl,.inr (.inl ⟨rfl,.inr rfl⟩),.inr (.inl ⟨rfl,.inr rfl⟩),trivial⟩,rfl,trivial⟩
  |some wr=>
   obtain⟨w,rest⟩:=wr;have hp:=hpm w rest rfl;obtain⟨hw,hr⟩:=hho w rest rfl;have hl:=hsm w rest rfl;have hw':w.size<=9223372036854775807:=(by unfold AJ at hw;omega);simp only[hp,AI]at hX;simp only[Mj]at hh;have hp':=hp;unfold Im Ll Fx Lm A1 at hp';rw[TC,TC]at hp';obtain⟨⟨p1,p2⟩,p3⟩:=hp';have hn:=λh:A0=>FI (h:=h) hw';generalize An w=b at hn hX;cases b with
   |false=>
    simp only[AI]at hX;subst hX;refine AE func168 ntmps168 results168 Ty.KV ?_;refine wt k2 ?_;refine uU (uu k2 yT) (hh _) ?_;replace zz:=Aq k2 p1 p2 p3 yT yF;refine wt zz ?_;refine uU (uu k2 yF) (hn _) ?_;refine wt (uu k2 yF) ?_;refine⟨?_,((AC.refl h).new _).set (AD _) _⟩;have e2:AO 8=Aj 8:=rfl;simp only[e2,Aj,Bs,Ex.cells,Ex.rows,AN,B5,AF,AL];exact⟨_,rfl,⟨_,rfl,rfl,rfl,rfl,.inr (.inl ⟨rfl,.inr rfl⟩),.inr (.inl ⟨rfl,.inr rfl⟩),trivial⟩,rfl,trivial⟩
   |true=>
    simp only[AB]at hX;have ht:=Rl hl hr;generalize CF rest=T at ht hX;obtain⟨t,c⟩:=T;simp only at ht hX;cases hc:c==0 with
    |true=>
     rw[hc,AB]at hX;subst hX;have e0:AO c= .sc .nilIface:=(by simp only[AO,hc,AB]);rw[e0]at ht;refine AE func168 ntmps168 results168 Ty.KV ?_;refine wt k2 ?_;refine uU (uu k2 yT) (hh _) ?_;replace zz:=Aq k2 p1 p2 p3 yT yF;refine wt zz ?_;refine uU (uu k2 yT) (hn _) ?_;refine wt (uu k2 yT) ?_;refine uU k2 (ht _) ?_;refine wt (uu k2 yT) ?_;refine⟨?_,((AC.refl h).new _).set (AD _) _⟩;have e2:AO 0= .sc .nilIface:=rfl;rw[e2];simp only[Ik,Ex.cells,Ex.rows,AF,AL];exact⟨_,rfl,⟨_,rfl,rfl,rfl,rfl,.inl ⟨rfl,DO _ _⟩,.inr (.inl ⟨rfl,.inr rfl⟩),trivial⟩,rfl,trivial⟩
    |false=>
     rw[hc,AI]at hX;subst hX;have e0:AO c=Aj c:=(by simp only[AO,hc,AI]);rw[e0]at ht⊢;simp only[Aj]at ht⊢;refine AE func168 ntmps168 results168 Ty.KV ?_;refine wt k2 ?_;refine uU (uu k2 yT) (hh _) ?_;replace zz:=Aq k2 p1 p2 p3 yT yF;refine wt zz ?_;refine uU (uu k2 yT) (hn _) ?_;refine wt (uu k2 yT) ?_;refine uU k2 (ht _) ?_;refine wt (uu k2 yF) ?_;refine⟨?_,((AC.refl h).new _).set (AD _) _⟩;simp only[Bs,Ex.cells,Ex.rows,AN,B5,AF,AL];exact⟨_,rfl,⟨_,rfl,rfl,rfl,rfl,.inr (.inl ⟨rfl,.inr rfl⟩),.inr (.inl ⟨rfl,.inr rfl⟩),trivial⟩,rfl,trivial⟩
end Go.Proofs.YtblgchkahpgdjaaGreat
namespace Go.Proofs.YtblgchkahpgdjaaGreat
open Go.AM Go.Proofs.Tryz
set_option maxHeartbeats 4000000
set_option maxRecDepth 20000
theorem B2(n:Nat):(n=n+1)=False:=by simp
theorem Rq{g:FuncId}{l m:List Ex}(hl:l.length<=AJ)(hf: ∀ a∈l, ∀ b∈m, ∀ h:A0,A6 prog g [.agg a.cells,.agg b.cells] h λr h'=>r= .sc (.bool (a.same b))/\h'=h)(h:A0):
  A6 prog 138 [.imm 5 (Ex.rows l),.imm 5 (Ex.rows m),.sc (.func (.func g) #[] #[])] h λr h'=>r= .sc (.bool (Ex.sames l m))/\h'=h:=by
 unfold AJ at hl;have hll:=Ex.rows_len l;have hlm:=Ex.rows_len m;refine A6.quiet Ty.Ud ?_;refine AE func138 ntmps138 results138 Ty.Ud ?_;cases hne:((l.length:Int) !=m.length)with
 |true=>
  have:Ex.sames l m=false:=Ex.sames_len (by simp at hne;omega);refine wt (AV hll hlm hne) ?_;rw[this];exact⟨rfl,AC.refl _⟩
 |false=>
  have hlen:l.length=m.length:=by simp at hne;omega
  refine wt (AV hll hlm hne) ?_;refine Cd (λc S h'=>AC h h'/\S 1= .imm 5 (Ex.rows m)/\S 2= .sc (.func (.func g) #[] #[])/\S 15= .imm 5 (Ex.rows l)/\S 16= .sc (.int .i64 l.length)/\ ∃ k:Nat,S 17= .sc (.int .i64 k)/\k<=l.length/\c=l.length-k/\Ex.sames l m=Ex.sames (l.drop k) (m.drop k)) l.length ?_ ?_
  ·simp only[Ty.w,simprocAttr];exact⟨AC.refl _,0,rfl,by omega,rfl,by simp⟩
  ·rintro c S h' ⟨hg,g1,g2,g15,g16,k,gk,hkl,rfl,hinv⟩;by_cases hlt:k<l.length
   ·have hd:decide ((k:Int)<(l.length:Int))=true:=(by simp;omega);have w7:IntKind.i64.wrap ((k:Int)+1)=k+1:=(by rw[Br (by omega) (by omega)]);obtain⟨a,hx⟩: ∃ a,l[k]? =some a:=⟨_,AU hlt⟩;obtain⟨b,hy⟩: ∃ b,m[k]? =some b:=⟨_,AU (by omega)⟩;have hc:=hf a (C7 hx) b (C7 hy);rw[Cm hx,Cm hy]at hinv;simp only[Ex.sames]at hinv;have hr:=Ex.rows_get hx;have hr2:=Ex.rows_get hy;generalize he:a.same b=e at hc hinv;clear he hf;obtain⟨op2,name2,n2,args2,kids2⟩:=a;obtain⟨op3,name3,n3,args3,kids3⟩:=b;simp only[Ex.cells]at hr hr2 hc;replace zz:=AY g1 g2 g15 g16 gk hll hlm hd hr hr2 w7 @B2;refine wy zz ?_;refine Jp (sq g2) (hc _) (by simp only[Ty.w,simprocAttr,g1,g2,g15,g16,gk];try rfl) ?_;simp only[Ty.w,simprocAttr,Ty.AW];cases e with
    |false=>
     replace zz:=Ag g1 g2 g15 g16 gk w7 yF;refine wy zz ?_;rw[hinv];exact⟨rfl,(((hg.new _).set hg.le _).new _).set (Hz hg.le) _⟩
    |true=>
     replace zz:=Ag g1 g2 g15 g16 gk w7 yT;refine wy zz ?_;rw[B8]at hinv;exact⟨l.length-(k+1),by omega,(((hg.new _).set hg.le _).new _).set (Hz hg.le) _,k+1,by simp,by omega,rfl,hinv⟩
   ·have hd:decide ((k:Int)<(l.length:Int))=false:=(by simp;omega);rw[D3 (by omega),D3 (by omega)]at hinv;simp only[Ex.sames]at hinv;replace zz:=Ag g1 g2 g15 g16 gk hll hd;refine wt zz ?_;rw[hinv];exact⟨rfl,hg⟩
theorem fb: ∀ a:Ex,a.ok-> ∀ b:Ex,b.ok-> ∀ h:A0,A6 prog 139 [.agg a.cells,.agg b.cells] h λr h'=>r= .sc (.bool (a.same b))/\h'=h:=by
 refine Ex.ind ?_;intro op name n args kids ih hok;rintro⟨op3,name3,n3,args3,kids3⟩ hok3 h;simp only[Ex.ok]at hok hok3;obtain⟨_,_,_,⟨ha,_⟩,hk,hks⟩:=hok;obtain⟨_,_,_,⟨ha3,_⟩,hk3,hks3⟩:=hok3;rw[Ex.oks_iff]at hks hks3;have hfk: ∀ a∈kids, ∀ b∈kids3, ∀ h:A0,A6 prog 139 [.agg a.cells,.agg b.cells] h λr h'=>r= .sc (.bool (a.same b))/\h'=h:=λa ha b hb=>ih a ha (hks a ha) b (hks3 b hb)
 clear ih;simp only[Ex.cells];refine AE func139 ntmps139 results139 Ty.eT ?_;cases e0:(op.data.toList==op3.data.toList)with
 |false=>
  have hs:(Ex.mk op name n args kids).same (.mk op3 name3 n3 args3 kids3)=false:=by simp only[Ex.same,A1,e0,B9,BD]
  refine wt e0 ?_;rw[hs]
 |true=>
  cases e1:(name.data.toList==name3.data.toList)with
  |false=>
   have hs:(Ex.mk op name n args kids).same (.mk op3 name3 n3 args3 kids3)=false:=(by simp only[Ex.same,A1,e0,e1,B9,BD]);refine wt (uu e0 e1) ?_;rw[hs]
  |true=>
   cases e2:(n==n3)with
   |false=>
    have hs:(Ex.mk op name n args kids).same (.mk op3 name3 n3 args3 kids3)=false:=(by simp only[Ex.same,A1,e0,e1,e2,B9,BD]);refine wt (AV e0 e1 e2) ?_;rw[hs]
   |true=>
    refine wt (AV e0 e1 e2) ?_;cases e3:Ee args args3 with
    |false=>
     have hs:(Ex.mk op name n args kids).same (.mk op3 name3 n3 args3 kids3)=false:=(by simp only[Ex.same,A1,e0,e1,e2,e3,B9,BD]);replace zz:=Aa e0 e1 e2 e3;refine uU zz (O2 (l:=args) (m:=args3) ha ha3) ?_;refine wt zz ?_;rw[hs]
    |true=>
     replace zz:=Aa e0 e1 e2 e3;refine uU zz (O2 (l:=args) (m:=args3) ha ha3) ?_;refine wt zz ?_;have hs:(Ex.mk op name n args kids).same (.mk op3 name3 n3 args3 kids3)=Ex.sames kids kids3:=(by simp only[Ex.same,A1,e0,e1,e2,e3,B8]);replace zz:=Aa e0 e1 e2 e3;refine uU zz (Rq hk hfk _) ?_;refine wt zz ?_;rw[hs]
theorem fg{g:FuncId}{l m:List Fm}(hl:l.length<=AJ)(hf: ∀ a∈l, ∀ b∈m, ∀ h:A0,A6 prog g [.agg a.cells,.agg b.cells] h λr h'=>r= .sc (.bool (a.same b))/\h'=h)(h:A0):
  A6 prog 140 [.imm 6 (Fm.rows l),.imm 6 (Fm.rows m),.sc (.func (.func g) #[] #[])] h λr h'=>r= .sc (.bool (Fm.sames l m))/\h'=h:=by
 unfold AJ at hl;have hll:=Fm.rows_len l;have hlm:=Fm.rows_len m;refine A6.quiet Ty.Ue ?_;refine AE func140 ntmps140 results140 Ty.Ue ?_;cases hne:((l.length:Int) !=m.length)with
 |true=>
  have:Fm.sames l m=false:=Fm.sames_len (by simp at hne;omega);refine wt (AV hll hlm hne) ?_;rw[this];exact⟨rfl,AC.refl _⟩
 |false=>
  have hlen:l.length=m.length:=by simp at hne;omega
  refine wt (AV hll hlm hne) ?_;refine Cd (λc S h'=>AC h h'/\S 1= .imm 6 (Fm.rows m)/\S 2= .sc (.func (.func g) #[] #[])/\S 15= .imm 6 (Fm.rows l)/\S 16= .sc (.int .i64 l.length)/\ ∃ k:Nat,S 17= .sc (.int .i64 k)/\k<=l.length/\c=l.length-k/\Fm.sames l m=Fm.sames (l.drop k) (m.drop k)) l.length ?_ ?_
  ·simp only[Ty.w,simprocAttr];exact⟨AC.refl _,0,rfl,by omega,rfl,by simp⟩
  ·rintro c S h' ⟨hg,g1,g2,g15,g16,k,gk,hkl,rfl,hinv⟩;by_cases hlt:k<l.length
   ·have hd:decide ((k:Int)<(l.length:Int))=true:=(by simp;omega);have w7:IntKind.i64.wrap ((k:Int)+1)=k+1:=(by rw[Br (by omega) (by omega)]);obtain⟨a,hx⟩: ∃ a,l[k]? =some a:=⟨_,AU hlt⟩;obtain⟨b,hy⟩: ∃ b,m[k]? =some b:=⟨_,AU (by omega)⟩;have hc:=hf a (C7 hx) b (C7 hy);rw[Cm hx,Cm hy]at hinv;simp only[Fm.sames]at hinv;have hr:=Fm.rows_get hx;have hr2:=Fm.rows_get hy;generalize he:a.same b=e at hc hinv;clear he hf;obtain⟨op2,name2,args2,params2,fh,kids2⟩:=a;obtain⟨op3,name3,args3,params3,exprs3,kids3⟩:=b;simp only[Fm.cells]at hr hr2 hc;replace zz:=AY g1 g2 g15 g16 gk hll hlm hd hr hr2 w7 @B2;refine wy zz ?_;refine Jp (sq g2) (hc _) (by simp only[Ty.w,simprocAttr,g1,g2,g15,g16,gk];try rfl) ?_;simp only[Ty.w,simprocAttr,Ty.AW];cases e with
    |false=>
     replace zz:=Ag g1 g2 g15 g16 gk w7 yF;refine wy zz ?_;rw[hinv];exact⟨rfl,(((hg.new _).set hg.le _).new _).set (Hz hg.le) _⟩
    |true=>
     replace zz:=Ag g1 g2 g15 g16 gk w7 yT;refine wy zz ?_;rw[B8]at hinv;exact⟨l.length-(k+1),by omega,(((hg.new _).set hg.le _).new _).set (Hz hg.le) _,k+1,by simp,by omega,rfl,hinv⟩
   ·have hd:decide ((k:Int)<(l.length:Int))=false:=(by simp;omega);rw[D3 (by omega),D3 (by omega)]at hinv;simp only[Fm.sames]at hinv;replace zz:=Ag g1 g2 g15 g16 gk hll hd;refine wt zz ?_;rw[hinv];exact⟨rfl,hg⟩
theorem Io: ∀ a:Fm,a.ok-> ∀ b:Fm,b.ok-> ∀ h:A0,A6 prog 98 [.agg a.cells,.agg b.cells] h λr h'=>r= .sc (.bool (a.same b))/\h'=h:=by
 refine Fm.ind ?_;intro op name args params exprs kids ih hok;rintro⟨op3,name3,args3,params3,exprs3,kids3⟩ hok3 h;simp only[Fm.ok]at hok hok3;obtain⟨_,_,⟨ha,_⟩,⟨hp,_⟩,⟨he,hes⟩,hk,hks⟩:=hok;obtain⟨_,_,⟨ha3,_⟩,⟨hp3,_⟩,⟨he3,hes3⟩,hk3,hks3⟩:=hok3;rw[Fm.oks_iff]at hks hks3;have hfk: ∀ a∈kids, ∀ b∈kids3, ∀ h:A0,A6 prog 98 [.agg a.cells,.agg b.cells] h λr h'=>r= .sc (.bool (a.same b))/\h'=h:=λa ha b hb=>ih a ha (hks a ha) b (hks3 b hb);rw[Ex.oks_iff]at hes hes3;have hfe: ∀ a∈exprs, ∀ b∈exprs3, ∀ h:A0,A6 prog 139 [.agg a.cells,.agg b.cells] h λr h'=>r= .sc (.bool (a.same b))/\h'=h:=λa ha b hb=>fb a (hes a ha) b (hes3 b hb)
 clear ih;simp only[Fm.cells];refine AE func98 ntmps98 results98 Ty.dy ?_;cases e0:(op.data.toList==op3.data.toList)with
 |false=>
  have hs:(Fm.mk op name args params exprs kids).same (.mk op3 name3 args3 params3 exprs3 kids3)=false:=by simp only[Fm.same,A1,e0,B9,BD]
  refine wt e0 ?_;rw[hs]
 |true=>
  cases e1:(name.data.toList==name3.data.toList)with
  |false=>
   have hs:(Fm.mk op name args params exprs kids).same (.mk op3 name3 args3 params3 exprs3 kids3)=false:=(by simp only[Fm.same,A1,e0,e1,B9,BD]);refine wt (uu e0 e1) ?_;rw[hs]
  |true=>
   refine wt (uu e0 e1) ?_;cases e2:Ee args args3 with
   |false=>
    have hs:(Fm.mk op name args params exprs kids).same (.mk op3 name3 args3 params3 exprs3 kids3)=false:=(by simp only[Fm.same,A1,e0,e1,e2,B9,BD]);refine uU (AV e0 e1 e2) (O2 (l:=args) (m:=args3) ha ha3) ?_;refine wt (AV e0 e1 e2) ?_;rw[hs]
   |true=>
    refine uU (AV e0 e1 e2) (O2 (l:=args) (m:=args3) ha ha3) ?_;refine wt (AV e0 e1 e2) ?_;cases e3:DL params params3 with
    |false=>
     have hs:(Fm.mk op name args params exprs kids).same (.mk op3 name3 args3 params3 exprs3 kids3)=false:=(by simp only[Fm.same,A1,e0,e1,e2,e3,B9,BD]);replace zz:=Aa e0 e1 e2 e3;refine uU zz (Jq (l:=params) (m:=params3) hp hp3) ?_;refine wt zz ?_;rw[hs]
    |true=>
     replace zz:=Aa e0 e1 e2 e3;refine uU zz (Jq (l:=params) (m:=params3) hp hp3) ?_;refine wt zz ?_;cases e4:Ex.sames exprs exprs3 with
     |false=>
      have hs:(Fm.mk op name args params exprs kids).same (.mk op3 name3 args3 params3 exprs3 kids3)=false:=(by simp only[Fm.same,A1,e0,e1,e2,e3,e4,B9,BD]);replace zz:=As e0 e1 e2 e3 e4;refine uU zz (Rq he hfe _) ?_;refine wt zz ?_;rw[hs]
     |true=>
      replace zz:=As e0 e1 e2 e3 e4;refine uU zz (Rq he hfe _) ?_;refine wt zz ?_;have hs:(Fm.mk op name args params exprs kids).same (.mk op3 name3 args3 params3 exprs3 kids3)=Fm.sames kids kids3:=(by simp only[Fm.same,A1,e0,e1,e2,e3,e4,B8]);replace zz:=As e0 e1 e2 e3 e4;refine uU zz (fg hk hfk _) ?_;refine wt zz ?_;rw[hs]
end Go.Proofs.YtblgchkahpgdjaaGreat
namespace Go.AM
mutual
def Sx.small:Sx->Prop
 | .mk _ _ _ _ _ kids=>kids.length<=1048576/\Sx.smalls kids
def Sx.smalls:List Sx->Prop
 |[]=>True
 |k::ks=>k.small/\Sx.smalls ks
end
theorem Sx.smalls_iff:{l:List Sx}->(Sx.smalls l↔ ∀ k∈l,k.small)
 |[]=>by simp[Sx.smalls]
 |k::ks=>by simp[Sx.smalls,Sx.smalls_iff (l:=ks)]
end Go.AM
namespace Go.Proofs.YtblgchkahpgdjaaGreat
open Go.AM Go.Proofs.Tryz
set_option maxHeartbeats 4000000
set_option maxRecDepth 20000
def EM:List Sx->List Ex × Int
 |[]=>([],0)
 |x::l=>bif (BV x).2==0 then(match EM l with
  |(es,c)=>bif c==0 then((BV x).1::es,0)else([],c))else([],(BV x).2)
theorem fi: ∀ l:List Sx,((EM l).2==0)=true->(EM l).2=0:=λl h=>by simpa using h
theorem fj: ∀ l:List Sx,((EM l).2==0)=false->(EM l).1=[]
 |[],h=>by simp[EM]at h
 |x::l,h=>by
  simp only[EM]at h⊢;cases hq:(BV x).2==0 with
  |false=>rfl
  |true=>
   rw[hq]at h;simp only[AB]at h⊢;cases hr:(EM l).2==0 with
   |false=>rfl
   |true=>rw[hr]at h;simp at h
theorem fm(w:ByteArray)(rest:List Sx):rest.length=2->(match rest with
    |[a,b]=>(match BV a with
     | (ea, ca) => bif ca == 0 then (match BV b with
      |(eb,cb)=>bif cb==0 then((.mk w ⟨#[]⟩ 0 [] [ea,eb],0):Ex × Int)else(Bs,cb))else(Bs,ca))
    |_=>(Bs,2))=(bif (EM rest).2==0 then(.mk w ⟨#[]⟩ 0 [] (EM rest).1,0)else(Bs,(EM rest).2)):=by
 intro hl
 match rest,hl with
 |[a,b],_=>
  simp only[EM];cases ha:(BV a).2==0
  ·simp only[ha,AI]
  ·cases hb:(BV b).2==0
   ·simp only[ha,hb,AB,AI]
   ·simp [ha,hb]
theorem Rr{h:A0}{id0 z:Nat}{p:PV}{rows:List (List PV)}(t:Tl h id0 z p rows):CW p=true/\p.cells=[p]:=by
 rcases t with⟨_,rfl|rfl⟩|⟨id,_,_,rfl,_⟩
 ·exact ⟨rfl,rfl⟩
 ·exact ⟨rfl,rfl⟩
 ·exact ⟨rfl,rfl⟩
theorem VJ(n:Nat)(h:A0)(e:Ex):AL n h e.cells e.cells:=by
 have hi:=Pi n e;obtain⟨op,name,v,args,kids⟩:=e;simp only[Ex.cells,BT,BB,Da,FQ]at hi;simp only[Ex.cells,AL,AF,Da,FQ];exact⟨.inl hi.1,.inl hi.2⟩
theorem VK(n:Nat)(h:A0): ∀ l:List Ex,Cr n h (Ex.rows l) (Ex.rows l)
 |[]=>by simp only[Ex.rows,Cr]
 |k::ks=>by simp only[Ex.rows,Cr];exact⟨VJ n h k,VK n h ks⟩
theorem fp{h:A0}{id0 n:Nat}{p:PV}{l:List Ex}(hn:n<=id0)(t:Tl h id0 5 p (Ex.rows l)):AF n h (.imm 5 (Ex.rows l)) p:=by
 simp only[AF];rcases t with⟨h1,h2⟩|⟨id,h1,h2,rfl,ho⟩
 ·exact .inr (.inl ⟨h1,h2.symm⟩)
 ·refine .inr (.inr ⟨id,0,_,_,rfl,by omega,ho,by omega,?_⟩);rw[CB,DQ (by omega)];exact VK _ _ _
theorem fq{kind value line col:Int}{text:ByteArray}{kids:List Sx}{w:ByteArray}{rest:List Sx}(hok:(Sx.mk kind value line col text kids).ok)(hk2:¬ kind=2)(hM:Bd (.mk kind value line col text kids)=some (w,rest))(hp:Im w=true)
  (hf: ∀ x∈rest, ∀ h:A0,A6 prog 168 [.agg x.cells] h λr h'=>r= .tup [.agg (BV x).1.cells,AO (BV x).2]/\h'=h)(hl:rest.length<=1048576)(h:A0):
  A6 prog 168 [.agg (Sx.mk kind value line col text kids).cells] h λr h'=>r= .tup [.agg (BV (.mk kind value line col text kids)).1.cells,AO (BV (.mk kind value line col text kids)).2]/\h'=h:=by
 refine A6.frz Ty.KV ?_;have hh:=Rk hok;have hX:=Rn (.mk kind value line col text kids);generalize BV (.mk kind value line col text kids)=F at hX;have kk:Ax (.mk kind value line col text kids)=kind:=rfl;have k2:(kind==2)=false:=by simpa using hk2
 rw[kk,k2,hM]at hX;simp only[AI,hp,AB]at hX;rw[hM]at hh;simp only[Mj]at hh;simp only[Sx.cells]at hh⊢;have hlr:=Sx.rows_len rest;refine AE func168 ntmps168 results168 Ty.KV ?_;refine wt k2 ?_;refine uU (uu k2 yT) (hh _) ?_;iterate 9 (first|(with_reducible refine cK ?_)|(with_reducible refine nK ?_)|refine Ae λK hK=>?_|refine uR (uu k2 yT) ?_|refine uK ?_|refine Bo (uu k2 yT) ?_|(refine uN hK ?_;clear hK)|apply zI)
 refine Mg (λS h'=>h'=h.new (.arr 5 [[.sc (.string ⟨#[]⟩),.sc (.string ⟨#[]⟩),.sc (.int .i64 0),.sc (.slice none 0 0),.sc (.slice none 0 0)]])/\S 2= .ptr h.next 0 0/\S 4=A2 w/\S 5= .imm 6 (Sx.rows rest)) ?_ ?_
 ·have hp':=hp;unfold Im Ll Fx Lm A1 at hp'
  clear hX hf;cases p1:(w.data.toList==(#[43]:Array UInt8).toList)with
  |true=>
   refine wm (AV k2 p1 yT) ?_;try exact zI
   all_goals(simp only[Ty.w,simprocAttr])
  |false=>
   cases p2:(w.data.toList==(#[45]:Array UInt8).toList)with
   |true=>
    replace zz:=As k2 p1 p2 yT yF;refine wm zz ?_;try exact zI
    all_goals(simp only[Ty.w,simprocAttr])
   |false=>
    have p3:(w.data.toList==(#[42]:Array UInt8).toList)=true:=by
     rw[p1,p2]at hp';simpa using hp'
    replace zz:=Aq k2 p1 p2 p3 yT yF;refine wm zz ?_;try exact zI
    all_goals(simp only[Ty.w,simprocAttr])
 ·rintro S h' ⟨rfl,g2,g4,g5⟩;first|refine hK _ _ ?_|refine cK ?_
  try clear hK
  clear hh;cases q:(((Sx.rows rest).length:Int) !=2)with
  |true=>
   have hF:F=(Bs,2):=by
    rw[hX];split
    ·rw [hlr]at q;simp at q
    ·rfl
   subst hF;replace zz:=Aa g2 g4 g5 q;refine wt zz ?_;refine⟨?_,((AC.refl h).new _).set (AD _) _⟩;have e2:AO 2=Aj 2:=rfl;simp only[e2,Aj,Bs,Ex.cells,Ex.rows,AN,B5,AF,AL];exact⟨_,rfl,⟨_,rfl,rfl,rfl,rfl,.inr (.inl ⟨rfl,.inr rfl⟩),.inr (.inl ⟨rfl,.inr rfl⟩),trivial⟩,rfl,trivial⟩
  |false=>
   have q':(((Sx.rows rest).length:Int)=2):=(by simpa using q);have hF:F=(bif (EM rest).2==0 then(.mk w ⟨#[]⟩ 0 [] (EM rest).1,0)else(Bs,(EM rest).2)):=by
    rw[hX];exact fm w rest (by rw[hlr]at q';omega)
   clear hX;replace zz:=Aa g2 g4 g5 q;refine wt zz ?_;refine Cd (λm S h'=>S 2= .ptr h.next 0 0/\S 9= .ptr (h.next+1) 0 0/\S 64= .imm 6 (Sx.rows rest)/\S 65= .sc (.int .i64 (Sx.rows rest).length)/\ ∃ (k:Nat)(o:PV)(pre:List Ex),S 66= .sc (.int .i64 k)/\k<=rest.length/\m=rest.length-k/\AC h h'/\h.next+1<h'.next/\pre.length=k/\
    h'.obj h.next=some (.arr 5 [[.sc (.string ⟨#[]⟩),.sc (.string ⟨#[]⟩),.sc (.int .i64 0),.sc (.slice none 0 0),.sc (.slice none 0 0)]])/\h'.obj (h.next+1)=some (.arr 5 [[A2 w,.sc (.string ⟨#[]⟩),.sc (.int .i64 0),.sc (.slice none 0 0),o]])/\Tl h' (h.next+2) 5 o (Ex.rows pre)/\
    EM rest=(bif (EM (rest.drop k)).2==0 then(pre++(EM (rest.drop k)).1,0)else([],(EM (rest.drop k)).2))) rest.length ?_ ?_
   ·simp only[Ty.w,simprocAttr,g2];refine⟨0,_,[],rfl,by omega,rfl,?_,?_,rfl,?_,?_,Tl.nil,?_⟩
    ·exact ((AC.refl h).new _).new _|>.set (show h.next<=h.next+1 by omega) _
    ·simp [A0.new,A0.set]
    ·have e1:¬ h.next=h.next+1:=by omega
     simp[A0.new,A0.set,e1]
    ·simp [A0.new,A0.set]
    ·rw [CB];cases hq:(EM rest).2==0
     ·simp only[AI];rw[← fj rest hq]
     ·simp only[AB,Au];rw[← fi rest hq]
   ·clear g2 g4 g5;rintro m S h' ⟨g2,g9,g64,g65,k,o,pre,g66,hk,rfl,hg,hnx,hpl,o1,o2,tl,hinv⟩;rw[hlr]at g65;by_cases hlt:k<rest.length
    ·have hd:decide ((k:Int)<(rest.length:Int))=true:=(by simp;omega);have w7:IntKind.i64.wrap ((k:Int)+1)=k+1:=(by rw[Br (by omega) (by omega)]);obtain⟨x,hx⟩: ∃ x,rest[k]? =some x:=⟨_,AU hlt⟩;have hr:=Sx.rows_get hx;have hc:=hf x (C7 hx);rw[Cm hx]at hinv;simp only[EM]at hinv;have hin:=Pi;generalize hE:BV x=E at hc hinv;obtain⟨e,c⟩:=E;simp only at hc hinv;clear hE hf;obtain⟨ki,va,li,co,te,ks⟩:=x;simp only[Sx.cells]at hr hc;have her:=λl=>Ex.rows_map (l++[e]);have n1:(h.next=h'.next)=False:=(by simp;omega);have n2:(h.next+1=h'.next)=False:=(by simp;omega);have n3:(h.next=h'.next+1)=False:=(by simp;omega);have n4:(h.next=h'.next)=False:=(by simp;omega);have n5:(h.next+1=h'.next+1)=False:=(by simp;omega);cases hcc:c==0 with
     |false=>
      rw[hcc]at hinv;simp only[AI]at hinv;have e0:AO c=Aj c:=(by simp only[AO,hcc,AI]);rw[e0]at hc;simp only[Aj]at hc;have hq:EM rest=([],c):=(by rw[hinv];simp only[hcc,AI]);rw[hq]at hF;simp only[hcc,AI]at hF;subst hF;obtain⟨eop,ena,en,ear,eki⟩:=e;simp only[Ex.cells]at hc;replace zz:=AY g2 g9 g64 g65 g66 hd hr o1 o2 n1 n2 (AV n3 n5 @B2);refine wt zz ?_;replace zz:=AY g2 g9 g64 g65 g66 hd hr o1 o2 n1 n2 (AV n3 n5 @B2);refine uU zz (hc _) ?_;replace zz:=AY g2 g9 g64 g65 g66 o1 o2 n1 n2 n3 n5 @B2;refine wt zz ?_;have e2:AO c= .sc (.iface 42 (.int .i64 c)):=(by rw[e0];try rfl);rw[e2];refine⟨?_,(((((hg.new _).set hg.le _).new _).set (show h.next<=h'.next+1 by have:=hg.le;omega) _).set (AD _) _)⟩;simp only[Bs,Ex.cells,Ex.rows,AN,B5,AF,AL];exact⟨_,rfl,⟨_,rfl,rfl,rfl,rfl,.inr (.inl ⟨rfl,.inr rfl⟩),.inr (.inl ⟨rfl,.inr rfl⟩),trivial⟩,rfl,trivial⟩
     |true=>
      have e0:AO c= .sc .nilIface:=(by simp only[AO,hcc,AB]);rw[e0]at hc;have hto:=Rr tl;have hrows:Ex.rows (pre++[e])=Ex.rows pre++[e.cells]:=(by simp only[Ex.rows_map,Qe,BS,B5]);obtain⟨eop,ena,en,ear,eki⟩:=e;simp only[Ex.cells]at hc hrows;have hold: ∀ j,j<h'.next->(((((h'.new (.arr 6 [[.sc (.int .i64 0),.sc (.int .i64 0),.sc (.int .i64 0),.sc (.int .i64 0),.sc (.string ⟨#[]⟩),.sc (.slice none 0 0)]])).set h'.next (.arr 6 [[.sc (.int .i64 ki),.sc (.int .i64 va),.sc (.int .i64 li),.sc (.int .i64 co),A2 te,.imm 6 (Sx.rows ks)]])).new (.arr 5 [[.sc (.string ⟨#[]⟩),.sc (.string ⟨#[]⟩),.sc (.int .i64 0),.sc (.slice none 0 0),.sc (.slice none 0 0)]])).set (h'.next+1) (.arr 5 [[A2 eop,A2 ena,.sc (.int .i64 en),.imm 1 (AN ear),.imm 5 (Ex.rows eki)]])):A0).obj j=h'.obj j:=λj hj=>by
       have a1:¬ j=h'.next:=by omega
       have a2:¬ j=h'.next+1:=by omega
       simp only[A0.new,A0.set,a1,a2,AP]
      have tl2:=tl.up (h':=((((h'.new (.arr 6 [[.sc (.int .i64 0),.sc (.int .i64 0),.sc (.int .i64 0),.sc (.int .i64 0),.sc (.string ⟨#[]⟩),.sc (.slice none 0 0)]])).set h'.next (.arr 6 [[.sc (.int .i64 ki),.sc (.int .i64 va),.sc (.int .i64 li),.sc (.int .i64 co),A2 te,.imm 6 (Sx.rows ks)]])).new (.arr 5 [[.sc (.string ⟨#[]⟩),.sc (.string ⟨#[]⟩),.sc (.int .i64 0),.sc (.slice none 0 0),.sc (.slice none 0 0)]])).set (h'.next+1) (.arr 5 [[A2 eop,A2 ena,.sc (.int .i64 en),.imm 1 (AN ear),.imm 5 (Ex.rows eki)]]))) (by simp[A0.new,A0.set];omega) (λj _ hj=>hold j hj);have hg2:AC h ((((h'.new (.arr 6 [[.sc (.int .i64 0),.sc (.int .i64 0),.sc (.int .i64 0),.sc (.int .i64 0),.sc (.string ⟨#[]⟩),.sc (.slice none 0 0)]])).set h'.next (.arr 6 [[.sc (.int .i64 ki),.sc (.int .i64 va),.sc (.int .i64 li),.sc (.int .i64 co),A2 te,.imm 6 (Sx.rows ks)]])).new (.arr 5 [[.sc (.string ⟨#[]⟩),.sc (.string ⟨#[]⟩),.sc (.int .i64 0),.sc (.slice none 0 0),.sc (.slice none 0 0)]])).set (h'.next+1) (.arr 5 [[A2 eop,A2 ena,.sc (.int .i64 en),.imm 1 (AN ear),.imm 5 (Ex.rows eki)]])):=(((hg.new _).set hg.le _).new _).set (show h.next<=h'.next+1 by have:=hg.le;omega) _;have hnn:(((((h'.new (.arr 6 [[.sc (.int .i64 0),.sc (.int .i64 0),.sc (.int .i64 0),.sc (.int .i64 0),.sc (.string ⟨#[]⟩),.sc (.slice none 0 0)]])).set h'.next (.arr 6 [[.sc (.int .i64 ki),.sc (.int .i64 va),.sc (.int .i64 li),.sc (.int .i64 co),A2 te,.imm 6 (Sx.rows ks)]])).new (.arr 5 [[.sc (.string ⟨#[]⟩),.sc (.string ⟨#[]⟩),.sc (.int .i64 0),.sc (.slice none 0 0),.sc (.slice none 0 0)]])).set (h'.next+1) (.arr 5 [[A2 eop,A2 ena,.sc (.int .i64 en),.imm 1 (AN ear),.imm 5 (Ex.rows eki)]])):A0).next=h'.next+1+1:=by simp[A0.new,A0.set]
      obtain⟨H,t1,t2,t3,t4,t5⟩:=tl2.tail;have u9:=t4 (h.next+1) (by omega);rw[hold _ hnx,o2]at u9;have u0:=t4 h.next (by omega)
      rw[hold _ (by omega),o1]at u0;rw[hnn]at t3;have hkp:=t5 h ⟨hg2.le,hg2.old⟩ (by omega);have hgH:AC h H:=⟨hkp.1,hkp.2⟩;have hpr:(Ex.rows pre).length=k:=(by rw[Ex.rows_len];exact hpl);have hb:(k+1)*88<=140737488355328:=(by omega);have n6:(h.next+1=H.next)=False:=(by simp;omega);have n7:(h.next+1=h'.next+1+1)=False:=(by simp;omega);replace zz:=AY g2 g9 g64 g65 g66 hd hr o1 o2 n1 n2 (AV n3 n5 @B2);refine wt zz ?_;replace zz:=AY g2 g9 g64 g65 g66 hd hr o1 o2 n1 n2 (AV n3 n5 @B2);refine uU zz (hc _) ?_;replace zz:=AY g2 g9 g64 g65 g66 o1 o2 n1 n2 n3 n5 (BK n6 n7 @B2 t1 t2 u9 hpr hb w7);(repeat'(first|refine cK ?_|refine nK ?_|refine Ae λK hK=>?_|refine uR zz ?_|refine uQ zz λK hK=>?_|refine uK ?_|refine Bo zz ?_|(refine uN hK ?_;clear hK)|(rw[AG];rotate_left 1;omega;simp only[Ty.w,simprocAttr,g2,g9,g64,g65,g66,o1,o2,n1,n2,n3,n5,n6,n7,B2,t1,t2,u9,hpr,hb,w7])|apply zI));rw[← hrows];have hgr:=Tl.grow (H:=H) (id0:=h.next+2) (z:=5) (len:=k+1) (rows:=Ex.rows (pre++[Ex.mk eop ena en ear eki])) (by omega) (by rw[Ex.rows_len];simp[hpl]);refine⟨rest.length-(k+1),by omega,by rw[hlr],k+1,.own H.next 0 (k+1),pre++[Ex.mk eop ena en ear eki],by simp,by omega,rfl,(hgH.new _).set (show h.next<=h.next+1 by omega) _,by omega,by simp[hpl],?_,by rw[t3],?_,?_⟩
      ·rw [A4 (by omega)];exact u0
      ·exact hgr.up (AD _) (λj hj _=>by simp only[A0.set];rw[A4 (by omega)])
      ·rw [hinv,hcc];simp only[AB];cases hq:(EM (List.drop (k+1) rest)).2==0 with
       |false=>simp only[hq,AI]
       |true=>simp only[AB,D8,HW,C3,Au]
    ·have hd:decide ((k:Int)<(rest.length:Int))=false:=(by simp;omega);rw[D3 (by omega)]at hinv;have hq:EM rest=(pre,0):=(by rw[hinv];simp[EM]);rw[hq]at hF;have hF2:F=(.mk w ⟨#[]⟩ 0 [] pre,0):=hF;clear hF;subst hF2;have ho:=(Rr tl).1;have n1:(h.next+1=h.next)=False:=(by simp);replace zz:=B7 g2 g9 g64 g65 g66 hd o1 o2 ho n1;refine wt zz ?_;refine⟨?_,hg.set (AD _) _⟩;have e2:AO 0= .sc .nilIface:=rfl;rw[e2];have h1:AF h.next (h'.set h.next (.arr 5 [[A2 w,.sc (.string ⟨#[]⟩),.sc (.int .i64 0),.sc (.slice none 0 0),o]])) (.imm 5 (Ex.rows pre)) o:=fp (by omega) (tl.up (AD _) (λj hj _=>by simp only[A0.set];rw[A4 (by omega)]))
     generalize h'.set h.next (.arr 5 [[A2 w,.sc (.string ⟨#[]⟩),.sc (.int .i64 0),.sc (.slice none 0 0),o]])=H at h1⊢
     simp only[Ex.cells,AN,B5];unfold AF;refine⟨_,rfl,?_⟩;unfold AL;refine⟨?_,by unfold AL;exact⟨by simp only[AF],by simp only[AL]⟩⟩;unfold AF;refine⟨_,rfl,?_⟩;unfold AL;refine⟨by simp only[AF],?_⟩;unfold AL;refine⟨by simp only[AF],?_⟩;unfold AL;refine⟨by simp only[AF],?_⟩;unfold AL;refine⟨by simp[AF],?_⟩;unfold AL;exact⟨h1,by simp only[AL]⟩
theorem Pj{kind value line col:Int}{text:ByteArray}{kids:List Sx}{w:ByteArray}{rest:List Sx}(h:Bd (.mk kind value line col text kids)=some (w,rest)): ∃ y,kids=y::rest:=by
 simp only[Bd]at h;split at h
 ·cases kids with
  |nil=>simp at h
  |cons y r=>
   simp only at h;cases hk:Ax y==1 with
   |false=>rw[hk]at h;simp at h
   |true=>
    rw[hk]at h;simp only[AB,Ak,Ar]at h;exact⟨y,by rw[h.2]⟩
 ·simp at h
theorem Rs: ∀ x:Sx,x.ok->x.small-> ∀ h:A0,A6 prog 168 [.agg x.cells] h λr h'=>r= .tup [.agg (BV x).1.cells,AO (BV x).2]/\h'=h:=by
 refine Sx.ind ?_;intro kind value line col text kids ih hok hsm h;have hok':=hok;simp only[Sx.ok]at hok';obtain⟨_,_,_,_,hks⟩:=hok';rw[Sx.oks_iff]at hks;simp only[Sx.small]at hsm;obtain⟨hl,hss⟩:=hsm;rw[Sx.smalls_iff]at hss;have hrl: ∀ w rest,Bd (.mk kind value line col text kids)=some (w,rest)->rest.length<=1048576:=λw rest e=>by
  obtain⟨y,rfl⟩:=Pj e;simp at hl;omega
 by_cases hk2:kind=2
 ·exact Rp hok hrl (.inl hk2) h
 ·cases hM:Bd (.mk kind value line col text kids)with
  |none=>exact Rp hok hrl (.inr λw rest e=>by rw[hM]at e;simp at e) h
  |some wr=>
   obtain⟨w,rest⟩:=wr;cases hp:Im w with
   |false=>exact Rp hok hrl (.inr λw2 rest2 e=>by rw[hM]at e;simp at e;rw[← e.1];exact hp) h
   |true=>
    obtain⟨y,hy⟩:=Pj hM;exact fq hok hk2 hM hp (λx hx=>ih x (by rw[hy];simp[hx]) (hks x (by rw[hy];simp[hx])) (hss x (by rw[hy];simp[hx]))) (hrl w rest hM) h
end Go.Proofs.YtblgchkahpgdjaaGreat
namespace Go.Proofs.YtblgchkahpgdjaaGreat
open Go.AM Go.Proofs.Tryz
set_option maxHeartbeats 2000000
set_option maxRecDepth 20000
theorem fu(c:UInt8):Lh.contains c=(((c.toNat:Int)==45)||((c.toNat:Int)==95)||((c.toNat:Int)==63)||((c.toNat:Int)==58)||((c.toNat:Int)==60)||((c.toNat:Int)==62)||((c.toNat:Int)==61)||((c.toNat:Int)==43)||((c.toNat:Int)==42)):=by
 have hh: ∀ d:UInt8,(c==d)=((c.toNat:Int)==(d.toNat:Int)):=by
  intro d;by_cases h:c=d
  ·subst h;simp
  ·have:¬ c.toNat=d.toNat:=λe=>h (TF.1 e);have:¬ (c.toNat:Int)=(d.toNat:Int):=(by omega);rw[NG.2 h,NG.2 this]
 have e:Lh.contains c=(c==45||(c==95||(c==63||(c==58||(c==60||(c==62||(c==61||(c==43||(c==42||false))))))))):=rfl;rw[e,hh,hh,hh,hh,hh,hh,hh,hh,hh];simp only[GU,Bool.or_assoc];rfl
def Rt(s:ByteArray):Bool:=s.data.toList.all wB&&decide (1<=s.size)&&decide (s.size<=32)&&!(KX s)
end Go.Proofs.YtblgchkahpgdjaaGreat
namespace Go.AM
mutual
def Sx.count:Sx->Int
 | .mk _ _ _ _ _ kids=>Sx.counts 1 kids
def Sx.counts(n:Int):List Sx->Int
 |[]=>n
 |k::ks=>Sx.counts (IntKind.i64.wrap (n+k.count)) ks
end
theorem Sx.counts_append: ∀ (l m:List Sx)(n:Int),Sx.counts n (l++m)=Sx.counts (Sx.counts n l) m
 |[],m,n=>by simp[Sx.counts]
 |k::l,m,n=>by simp only[C3,Sx.counts];exact Sx.counts_append l m _
theorem Sx.counts_take{l:List Sx}{i:Nat}{k:Sx}(n:Int)(h:l[i]? =some k):Sx.counts n (l.take (i+1))=IntKind.i64.wrap (Sx.counts n (l.take i)+k.count):=by
 rw[Jc,h,Sx.counts_append];try rfl
mutual
def Sx.depth:Sx->Nat
 | .mk kind _ _ _ _ kids=>if kind=3 then Sx.depths 0 kids+1 else Sx.depths 0 kids
def Sx.depths(n:Nat):List Sx->Nat
 |[]=>n
 |k::ks=>Sx.depths (max n k.depth) ks
end
theorem Sx.depths_le: ∀ (l:List Sx)(n:Nat),n<=Sx.depths n l
 |[],n=>AD _
 |k::l,n=>by simp only[Sx.depths];exact EE (Nat.le_max_left _ _) (Sx.depths_le l _)
theorem Sx.depths_mem: ∀ {l:List Sx}{k:Sx}(n:Nat),k∈l->k.depth<=Sx.depths n l
 |k'::l,k,n,h=>by
  simp only[Sx.depths];rcases D7.1 h with rfl|h
  ·exact EE (Nat.le_max_right _ _) (Sx.depths_le l _)
  ·exact Sx.depths_mem _ h
end Go.AM
namespace Go.Proofs.YtblgchkahpgdjaaGreat
open Go.AM Go.Proofs.Tryz
set_option maxHeartbeats 2000000
set_option maxRecDepth 20000
mutual
def Ke:Sx->Bool
 | .mk kind value _ _ text kids=>
  if kind=1 then(value==0)&&kids.isEmpty&&Rt text
  else if kind=2 then(text.data.toList==(#[]:Array UInt8).toList)&&kids.isEmpty&&decide (value>= -1099511627776)&&decide (value<=1099511627776)
  else if kind=3 then Lo kids&&((text.data.toList==(#[]:Array UInt8).toList)&&(value==0))
  else false
def Lo:List Sx->Bool
 |[]=>true
 |k::ks=>Ke k&&Lo ks
end
theorem fw: ∀ (e:Sx),e.ok-> ∀ h:A0,A6 prog 21 [.agg e.cells] h λr h'=>r= .sc (.int .i64 e.count)/\h'=h:=by
 refine Sx.ind ?_;intro kind value line col text kids ih hok h;simp only[Sx.ok]at hok;obtain⟨_,_,_,hk,hks⟩:=hok;rw[Sx.oks_iff]at hks;have hlen:=Sx.rows_len kids;simp only[Sx.cells,Sx.count];refine AE func21 ntmps21 results21 Ty.du ?_;refine wt hlen ?_;refine Cd (λm S h'=>h'=h/\S 1= .cptr (Sx.mk kind value line col text kids).cells/\ ∃ k:Nat,S 4= .sc (.int .i64 k)/\k<=kids.length/\m=kids.length-k/\S 3= .sc (.int .i64 (Sx.counts 1 (kids.take k)))) kids.length ?_ ?_
 ·simp only[Ty.w,simprocAttr];exact⟨rfl,0,rfl,by omega,rfl,by simp[Sx.counts]⟩
 ·rintro m S h' ⟨rfl,g1,k,g4,hkl,rfl,g3⟩;simp only[Sx.cells]at g1;by_cases hlt:k<kids.length
  ·have hd:decide ((k:Int)<(kids.length:Int))=true:=(by simp;omega);have w7:IntKind.i64.wrap ((k:Int)+1)=k+1:=(by unfold AJ at hk;rw[Br (by omega) (by omega)]);obtain⟨e,hx⟩: ∃ e,kids[k]? =some e:=⟨_,AU hlt⟩;have hmem:=C7 hx;have hc:=ih e hmem (hks e hmem);have hsz:=Sx.counts_take 1 hx;have hr:=Sx.rows_get hx;obtain⟨ki,va,li,co,te,ks⟩:=e;simp only[Sx.cells]at hr hc;replace zz:=Ag g1 g3 g4 hlen hd hr w7;refine wt zz ?_;replace zz:=Aq g1 g3 g4 hlen hd hr;refine uU zz (hc _) ?_;replace zz:=Aa g1 g3 g4 w7;refine wt zz ?_;exact⟨kids.length-(k+1),by omega,rfl,k+1,by simp,by omega,rfl,by rw[hsz]⟩
  ·have hd:decide ((k:Int)<(kids.length:Int))=false:=(by simp;omega);have hke:k=kids.length:=(by omega);subst hke;rw[J7]at g3;replace zz:=As g1 g3 g4 hlen hd;exact wz zz
end Go.Proofs.YtblgchkahpgdjaaGreat
namespace Go.AM
mutual
def Sx.nodes:Sx->Nat
 | .mk _ _ _ _ _ kids=>Sx.nodess kids+1
def Sx.nodess:List Sx->Nat
 |[]=>0
 |k::ks=>k.nodes+Sx.nodess ks
end
mutual
theorem Sx.count_eq: ∀ (x:Sx),x.nodes<=AJ->x.count=x.nodes
 | .mk _ _ _ _ _ kids,h=>by
  simp only[Sx.nodes]at h;simp only[Sx.count,Sx.nodes];have:=Sx.counts_eq kids 1 (by omega);simp only[TE]at this;rw[this];congr 1;omega
theorem Sx.counts_eq: ∀ (l:List Sx)(n:Nat),n+Sx.nodess l<=AJ->Sx.counts n l=(n+Sx.nodess l:Nat)
 |[],n,h=>by simp[Sx.counts,Sx.nodess]
 |k::ks,n,h=>by
  simp only[Sx.nodess]at h;simp only[Sx.counts,Sx.nodess];rw[Sx.count_eq k (by omega)];have hw:IntKind.i64.wrap ((n:Int)+(k.nodes:Int))=((n+k.nodes:Nat):Int):=by unfold AJ at h;rw[Br (by omega) (by omega)];omega
  rw[hw,Sx.counts_eq ks (n+k.nodes) (by omega)];congr 1;omega
end
end Go.AM
namespace Go.Proofs.YtblgchkahpgdjaaGreat
open Go.AM Go.Proofs.Tryz
theorem fx(c:UInt8):ET c=some c↔wB c=true:=by
 unfold ET;cases hu:IC c with
 |true=>
  have h1:65<=c.toNat/\c.toNat<=90:=by simpa[IC]using hu
  have hw:wB c=false:=by
   have h2:EJ c=false:=(by simp[EJ];omega);have h3:FY c=false:=(by simp[FY];omega);have h4:Lh.contains c=false:=by
    rw[fu];have: ∀ v:Int,v=45\/v=95\/v=63\/v=58\/v=60\/v=62\/v=61\/v=43\/v=42->((c.toNat:Int)==v)=false:=by
     intro v hv;rw[NG];omega
    simp[this]
   simp only[wB,h2,h3,h4,GU]
  rw[hw];simp only[AH,Ak,BG,iff_false];intro e;have:=L8 UInt8.toNat e;rw[UInt8.toNat_add]at this;simp at this;omega
 |false=>
  simp only[BG,AP];cases wB c<;>simp
theorem VL: ∀ l:List UInt8,EK l=some l↔l.all wB=true
 |[]=>by simp[EK]
 |c::l=>by
  have h1:=fx c;have h2:=VL l;simp only[EK,GX,AR];cases hc:ET c with
  |none=>rw[hc]at h1;simp at h1⊢;intro hw;rw[h1]at hw;simp at hw
  |some d=>
   rw[hc]at h1;cases hl:EK l with
   |none=>rw[hl]at h2;simp at h2⊢;intro _;simpa using h2
   |some p=>
    rw[hl]at h2;simp only[Ba,Ak,T5];rw[← h1, ← h2];simp
theorem fy(s:ByteArray):JG s=Rt s:=by
 have hsl:s.data.toList.length=s.size:=by rw[FA];try rfl
 have hself:=VL s.data.toList;unfold JG Rt Ew;by_cases hc:0<s.size/\s.size<=32
 ·rw [AG hc];have d1:decide (1<=s.size)=true:=by simp;omega
  have d2:decide (s.size<=32)=true:=by simp;omega
  rw[d1,d2];cases hl:EK s.data.toList with
  |none=>
   rw[hl]at hself;have:s.data.toList.all wB=false:=by
    cases h:s.data.toList.all wB with
    |false=>rfl
    |true=>rw[h]at hself;simp at hself
   simp only[this,B9]
  |some p=>
   rw[hl]at hself;cases h:s.data.toList.all wB with
   |true=>
    rw[h]at hself;have hp:p=s.data.toList:=(by simpa using hself);subst hp;have:(⟨s.data.toList.toArray⟩:ByteArray)=s:=RU rfl;simp only[this,A1,D8,B8]
   |false=>
    rw[h]at hself;have hp:¬ p=s.data.toList:=(by simpa using hself);have:A1 (⟨p.toArray⟩:ByteArray) s=false:=(by simp only[A1,NG];exact hp);simp only[this,BD,B9]
 ·rw [A4 hc];have:(decide (1<=s.size)&&decide (s.size<=32))=false:=by
   cases h:(decide (1<=s.size)&&decide (s.size<=32))with
   |false=>rfl
   |true=>
    simp only[AR,BP]at h;exact absurd ⟨by omega,h.2⟩ hc
  simp only[B9];rw[Bool.and_assoc (s.data.toList.all wB),this];simp
mutual
theorem JK: ∀ (x:Sx)(d n:Nat),d<=32->n<=4096->((CL x d n).1=true↔Ke x=true/\d+x.depth<=32/\n+x.nodes<=4096)/\((CL x d n).1=true->(CL x d n).2=n+x.nodes)
 | .mk kind value line col text kids,d,n,hd,hn=>by
  have e1:(kids.isEmpty=true)↔kids=[]:=KM;unfold CL Ke;simp only[Sx.depth,Sx.nodes];by_cases h0:n+1>4096
  ·rw [AG h0];refine⟨⟨by simp,λ⟨_,_,h⟩=>by omega⟩,by simp⟩
  ·rw [A4 h0];by_cases k1:kind=1
   ·rw [AG k1,AG k1,fy];have k3:¬ kind=3:=(by omega);rw[A4 k3];simp only[AR,e1,BP,Dv];constructor
    ·constructor
     ·rintro ⟨⟨h1,h2⟩,rfl⟩;exact⟨⟨⟨h2,rfl⟩,h1⟩,by simp only[Sx.depths];omega,by simp only[Sx.nodess];omega⟩
     ·rintro ⟨⟨⟨h1,h2⟩,h3⟩,_⟩;exact⟨⟨h3,h1⟩,h2⟩
    ·rintro ⟨_,rfl⟩;simp[Sx.nodess]
   ·rw [A4 k1,A4 k1];by_cases k2:kind=2
    ·rw [AG k2,AG k2];have k3:¬ kind=3:=(by omega);rw[A4 k3];simp only[AR,e1,BP,A1,ge_iff_le];constructor
     ·constructor
      ·rintro ⟨⟨⟨h1,rfl⟩,h3⟩,h4⟩;exact⟨⟨⟨⟨h1,rfl⟩,h3⟩,h4⟩,by simp only[Sx.depths];omega,by simp only[Sx.nodess];omega⟩
      ·rintro ⟨⟨⟨⟨h1,h2⟩,h3⟩,h4⟩,_⟩;exact⟨⟨⟨h1,h2⟩,h3⟩,h4⟩
     ·rintro ⟨⟨⟨_,rfl⟩,_⟩,_⟩;simp[Sx.nodess]
    ·rw [A4 k2,A4 k2];by_cases k3:kind=3
     ·rw [AG k3,AG k3,AG k3];simp only[AR,Dv];by_cases hc:A1 text ⟨#[]⟩=true/\value=0/\d≠32
      ·rw [AG hc];obtain⟨g1,g2⟩:=VM kids (d+1) (n+1) (by omega) (by omega);rw[g1];refine⟨⟨λ⟨h1,h2,h3⟩=>⟨⟨h1,by simpa[A1]using hc.1,hc.2.1⟩,by omega,by omega⟩,λ⟨⟨h1,_,_⟩,h2,h3⟩=>⟨h1,by omega,by omega⟩⟩,λh=>?_⟩;rw[g2 (g1.2 h)];omega
      ·rw [A4 hc];refine⟨⟨by simp,λ⟨⟨h1,h4,h5⟩,h2,h3⟩=>?_⟩,by simp⟩;exact absurd ⟨by simp only[A1,Dv];exact h4,h5,by omega⟩ hc
     ·rw [A4 k3,A4 k3];simp
theorem VM: ∀ (l:List Sx)(d n:Nat),d<=32->n<=4096->((Gt l d n).1=true↔Lo l=true/\d+Sx.depths 0 l<=32/\n+Sx.nodess l<=4096)/\((Gt l d n).1=true->(Gt l d n).2=n+Sx.nodess l)
 |[],d,n,hd,hn=>by simp[Gt,Lo,Sx.depths,Sx.nodess,hd,hn]
 |k::ks,d,n,hd,hn=>by
  obtain⟨g1,g2⟩:=JK k d n hd hn;have hdm: ∀ (m:Nat)(l:List Sx),Sx.depths m l=max m (Sx.depths 0 l):=by
   intro m l
   induction l generalizing m with
   |nil=>simp[Sx.depths]
   |cons k l ih=>simp only[Sx.depths];rw[ih (max m k.depth),ih (max 0 k.depth)];omega
  simp only[Gt,Lo,Sx.depths,Sx.nodess,AR];rw[hdm];cases hb:CL k d n with
  |mk b n'=>
   rw[hb]at g1 g2;cases b with
   |false=>
    simp only at g1⊢;refine⟨⟨by simp,λ⟨⟨h1,_⟩,h2,h3⟩=>?_⟩,by simp⟩;exact absurd (g1.2 ⟨h1,by omega,by omega⟩) (by simp)
   |true=>
    simp only at g1 g2⊢;obtain⟨a1,a2,a3⟩:=g1.1 A3;have e:=g2 A3;obtain⟨f1,f2⟩:=VM ks d n' hd (by omega);rw[f1];refine⟨⟨λ⟨h1,h2,h3⟩=>⟨⟨a1,h1⟩,by omega,by omega⟩,λ⟨⟨_,h1⟩,h2,h3⟩=>⟨h1,by omega,by omega⟩⟩,λh=>?_⟩;rw[f2 (f1.2 h)];omega
end
def Mk(x:Sx):Bool:=Ke x&&decide ((x.depth:Int)<=32)&&decide (x.count<=4096)
theorem Ml{x:Sx}(h:x.nodes<=AJ):(CL x 0 0).1=Mk x:=by
 have h1:=(JK x 0 0 (by omega) (by omega)).1;unfold Mk;rw[Sx.count_eq x h];rw[YG,h1];simp only[AR,BP];constructor
 ·rintro ⟨a,b,c⟩;exact⟨⟨a,by omega⟩,by omega⟩
 ·rintro ⟨⟨a,b⟩,c⟩;exact⟨a,by omega,by omega⟩
end Go.Proofs.YtblgchkahpgdjaaGreat
namespace Go.AM
mutual
theorem Sx.small_of: ∀ (x:Sx),x.nodes<=1048576->x.small
 | .mk _ _ _ _ _ kids,h=>by
  simp only[Sx.nodes]at h;simp only[Sx.small];have:=Sx.smalls_of kids (by omega);exact⟨by omega,this.2⟩
theorem Sx.smalls_of: ∀ (l:List Sx),Sx.nodess l<=1048576->l.length<=Sx.nodess l/\Sx.smalls l
 |[],_=>by simp[Sx.nodess,Sx.smalls]
 |k::ks,h=>by
  simp only[Sx.nodess]at h;have h1:=Sx.small_of k (by omega);have h2:=Sx.smalls_of ks (by omega);have h3:1<=k.nodes:=by cases k;simp only[Sx.nodes];omega
  simp only[Sx.nodess,Sx.smalls,Aw];exact⟨by omega,h1,h2.2⟩
end
end Go.AM
namespace Go.Proofs.YtblgchkahpgdjaaGreat
open Go.AM Go.Proofs.Tryz
theorem Kf{x:Sx}(h:(CL x 0 0).1=true):x.small:=by
 have:=(JK x 0 0 (by omega) (by omega)).1.1 h;exact Sx.small_of x (by omega)
theorem O8: ∀ {l:List Sx},(∀ x∈l,x.ok)->(∀ s∈(CF l).1,s.size<=AJ)/\(CF l).1.length<=l.length
 |[],_=>by simp[CF]
 |x::l,h=>by
  have h1:=O8 (l:=l) λy hy=>h y (by simp[hy]);have h2:(Ah x).size<=AJ:=by
   have:=h x (by simp);obtain⟨_,_,_,_,t,_⟩:=x;simp only[Sx.ok]at this;exact this.2.2.1
  simp only[CF];cases Ax x==1 with
  |false=>simp
  |true=>
   cases C8 (Ah x)with
   |false=>simp
   |true=>
    simp only[AB];cases hq:(CF l).2==0 with
    |false=>simp
    |true=>
     simp only[AB,D7,Aw];exact⟨λs hs=>hs.elim (λe=>by rw[e];exact h2) (h1.1 s),by omega⟩
theorem Ip:Bs.ok/\Bs.small:=by
 simp only[Bs,Ex.ok,Ex.oks,Ex.small,Ex.smalls,Bw];refine⟨⟨by simp[AJ,ByteArray.size],by simp[AJ,ByteArray.size],by omega,⟨by simp,by simp⟩,by simp,trivial⟩,by omega,trivial⟩
theorem Pk: ∀ x:Sx,x.ok->x.small->(BV x).1.ok/\(BV x).1.small:=by
 refine Sx.ind ?_;intro kind value line col text kids ih hok hsm;have hok':=hok;simp only[Sx.ok]at hok';obtain⟨hq1,hv,hq3,hq4,hks⟩:=hok';rw[Sx.oks_iff]at hks;simp only[Sx.small]at hsm;obtain⟨hl,hss⟩:=hsm;rw[Sx.smalls_iff]at hss;rw[Rn];have kk:Ax (.mk kind value line col text kids)=kind:=rfl;rw[kk];cases hk:kind==2 with
 |true=>
  simp only[AB,Ex.ok,Ex.oks,Ex.small,Ex.smalls,Bw];exact⟨⟨by simp[Ij,AJ,ByteArray.size],by simp[AJ,ByteArray.size],hv,⟨by simp,by simp⟩,by simp,trivial⟩,by omega,trivial⟩
 |false=>
  simp only[AI];cases hM:Bd (.mk kind value line col text kids)with
  |none=>exact Ip
  |some wr=>
   obtain⟨w,rest⟩:=wr;obtain⟨hw,hr⟩:=Ro hok hM;obtain⟨y,rfl⟩:=Pj hM;simp only;cases hp:Im w with
   |true=>
    simp only[AB];split
    ·rename_i a b;have ha:=ih a (by simp) (hks a (by simp)) (hss a (by simp));have hb:=ih b (by simp) (hks b (by simp)) (hss b (by simp));cases q1:(BV a).2==0 with
     |false=>exact Ip
     |true=>
      cases q2:(BV b).2==0 with
      |false=>exact Ip
      |true=>
       simp only[AB,Ex.ok,Ex.oks,Ex.small,Ex.smalls,Bw,Aw];exact⟨⟨hw,by simp[AJ,ByteArray.size],by omega,⟨by simp,by simp⟩,by simp[AJ],ha.1,hb.1,trivial⟩,by omega,ha.2,hb.2,trivial⟩
    ·exact Ip
   |false=>
    simp only[AI];cases An w with
    |false=>exact Ip
    |true=>
     have ht:=O8 hr;simp only[AB];cases q1:(CF rest).2==0 with
     |false=>exact Ip
     |true=>
      simp at hl;simp only[AB,Ex.ok,Ex.oks,Ex.small,Ex.smalls,Bw];exact⟨⟨by simp[Ik,AJ,ByteArray.size],hw,by omega,⟨by have:=ht.2;unfold AJ;omega,ht.1⟩,by simp,trivial⟩,by have:=ht.2;omega,trivial⟩
end Go.Proofs.YtblgchkahpgdjaaGreat
namespace Go.Proofs.YtblgchkahpgdjaaGreat
open Go.AM Go.Proofs.Tryz
def CA:Sx->List Sx
 | .mk _ _ _ _ _ kids=>kids
def Hh(x:Sx):Bool:=Ax x==1&&(CL x 0 0).1
def Bi(t:ByteArray)(l:List ByteArray):List Pm:=l.map (⟨·,t⟩)
def EN(vars:Bool):List Sx->List Pm->List ByteArray->List Pm × Int
 |[],don,pen=>(don++Bi Dd pen,0)
 | x :: l, don, pen => bif Hh x then
   (bif A1 (Ah x) Fx then (match l with
    |[]=>([],2)
    |t::l'=>bif !pen.isEmpty&&Hh t then(bif Gd (Ah t)then EN vars l' (don++Bi (Ah t) pen) []else([],8))else([],2))
   else bif (bif vars then Eg (Ah x)else An (Ah x))then EN vars l don (pen++[Ah x])else([],8))
  else([],2)
def Bt(vars:Bool)(l:List Sx):List Pm × Int:=EN vars l [] []
def Hi(w:ByteArray)(x y:Sx):Fm × Int:=
 bif A1 w CR&&Ax x==1&&Ax y==1 then(.mk C9 ⟨#[]⟩ (CF [x,y]).1 [] [] [],(CF [x,y]).2)
 else bif (BV x).2==0 then(bif (BV y).2==0 then
   (if A1 w Il then(.mk D0 ⟨#[]⟩ [] [] [(BV y).1,(BV x).1] [],0)
   else if A1 w JJ then(.mk DN ⟨#[]⟩ [] [] [(BV y).1,(BV x).1] [],0)
   else(.mk w ⟨#[]⟩ [] [] [(BV x).1,(BV y).1] [],0))else(Ce,(BV y).2))else(Ce,(BV x).2)
def Ck(r:Fm × Int):Fm × Int:=bif r.2==0 then r else(Ce,r.2)
def EU(w:ByteArray):Bool:=FJ w||A1 w Il||A1 w JJ
def Fa(w:ByteArray):Bool:=A1 w DD||A1 w G6||A1 w Bc||A1 w GF
mutual
def Cf:Sx->Fm × Int
 | .mk kind _ _ _ _ kids=>
  if kind=3 then(match kids with
   |[]=>(.mk Bc ⟨#[]⟩ [] [] [] [],0)
   |x::rest=>bif Ax x==1 then
    (bif decide (EA (Ah x)>=0)&&!(decide (EA (Ah x)=rest.length))then(Ce,2)
    else bif Dy (Ah x)then(match rest with
     |[]=>(Ce,2)
     |p::body=>bif Ax p==3 then(bif (Bt true (CA p)).2==0 then(match D6 body with
       |(ks,c)=>bif c==0 then(.mk (Ah x) ⟨#[]⟩ [] (Bt true (CA p)).1 [] ks,0)else(Ce,c))
      else(Ce,(Bt true (CA p)).2))else(Ce,2))
    else bif Fa (Ah x)then(match D6 rest with
     |(ks,c)=>bif c==0 then(.mk (Ah x) ⟨#[]⟩ [] [] [] ks,0)else(Ce,c))
    else bif EU (Ah x)then(match rest with
     |[a,b]=>Ck (Hi (Ah x) a b)
     |_=>(Ce,2))
    else bif An (Ah x)then(bif (CF rest).2==0 then(.mk Bk (Ah x) (CF rest).1 [] [] [],0)else(Ce,(CF rest).2))
    else(Ce,8))
   else(Ce,2))else(Ce,2)
def D6:List Sx->List Fm × Int
 |[]=>([],0)
 |x::l=>match Cf x with
  | (f, c) => bif c == 0 then (match D6 l with
   |(fs,c')=>bif c'==0 then(f::fs,0)else([],c'))else([],c)
end
end Go.Proofs.YtblgchkahpgdjaaGreat
namespace Go.Proofs.YtblgchkahpgdjaaGreat
open Go.AM Go.Proofs.Tryz
theorem IF{s w:ByteArray}(h:An s=true)(hw:An w=false):A1 s w=false:=by
 cases he:A1 s w with
 |false=>rfl
 |true=>rw[Dz he,hw]at h;simp at h
theorem VN(op:ByteArray):EA op=if A1 op DD then 1 else if A1 op G6 then 2 else if A1 op DH then 2 else if A1 op HK then 2 else if A1 op CR then 2 else if A1 op D0 then 2 else if A1 op DN then 2 else if A1 op Il then 2 else if A1 op JJ then 2 else-1:=rfl
theorem gA{s:ByteArray}(h:An s=true):EA s= -1/\Dy s=false/\Fa s=false/\EU s=false:=by
 rw[VN];unfold Dy Fa EU FJ;rw[IF h (w:=DD) (by decide),IF h (w:=G6) (by decide),IF h (w:=DH) (by decide),IF h (w:=HK) (by decide),IF h (w:=CR) (by decide),IF h (w:=D0) (by decide),IF h (w:=DN) (by decide),IF h (w:=Il) (by decide),IF h (w:=JJ) (by decide),IF h (w:=Bc) (by decide),IF h (w:=GF) (by decide)];exact⟨rfl,rfl,rfl,rfl⟩
theorem VO{op name:ByteArray}{args:List ByteArray}{params:List Pm}{ne nk:Nat}(h:FK op name args params ne nk=true):
  (op=Bk/\An name=true/\args.all C8=true/\params=[]/\ne=0/\nk=0)\/
  (op=C9/\name=⟨#[]⟩/\args.length=2/\args.all C8=true/\params=[]/\ne=0/\nk=0)\/
  ((op=D0\/op=DN\/op=CR)/\name=⟨#[]⟩/\args=[]/\params=[]/\ne=2/\nk=0)\/
  ((op=Bc\/op=GF\/(op=DD/\nk=1)\/(op=G6/\nk=2))/\name=⟨#[]⟩/\args=[]/\params=[]/\ne=0)\/
  ((op=DH\/op=HK)/\name=⟨#[]⟩/\args=[]/\ne=0/\nk=1/\params.all Hg=true):=by
 unfold FK Dp at h;have t1: ∀ o:ByteArray,A1 o Bk=false->A1 o C9=false->Eh o name args=true->name=⟨#[]⟩/\args=[]:=by
  intro o h1 h2 h3;unfold Eh at h3;rw[h1,h2]at h3;simp only[BG,AP,AR,KM]at h3;exact⟨Dz h3.1,h3.2⟩
 cases c1:A1 op Bk with
 |true=>
  have:=Dz c1;subst this;left;simp[c1,Eh,KD]at h;exact⟨rfl,h.1,by simpa using h.2.1,h.2.2.2.2.1,h.2.2.1,h.2.2.2.1⟩
 |false=>
 cases c2:A1 op C9 with
 |true=>
  have:=Dz c2;subst this;right;left;simp[c1,c2,Eh,KD]at h;obtain⟨h1,h2,h3,h4,h5,h6,_⟩:=h;exact⟨rfl,Dz h1,h2,by simpa using h3,h6,h4,h5⟩
 |false=>
  have t2:=t1 op c1 c2;rw[c1,c2]at h;simp only[BG,AP]at h;right;right;by_cases c3:A1 op D0=true\/A1 op DN=true\/A1 op CR=true
  ·left;have h':Eh op name args=true/\ne=2/\nk=0/\params=[]:=by
    split at h
    ·simp at h
    ·rename_i e m q he;have:(e,m,q)=(2,0,false):=by
      rcases c3 with c|c|c
      ·simp [c]at he;simp[he]
      ·by_cases c0:A1 op D0=true
       ·simp [c0]at he;simp[he]
       ·simp [c0,c]at he;simp[he]
      ·by_cases c0:A1 op D0=true
       ·simp [c0]at he;simp[he]
       ·by_cases c00:A1 op DN=true
        ·simp [c0,c00]at he;simp[he]
        ·simp [c0,c00,c]at he;simp[he]
     simp at this;obtain⟨rfl,rfl,rfl⟩:=this;simp[KD]at h;exact⟨h.1,h.2.1,h.2.2.1,h.2.2.2.1⟩
   obtain⟨g1,g2,g3,g4⟩:=h';obtain⟨g5,g6⟩:=t2 g1;exact⟨c3.imp Dz (λc=>c.imp Dz Dz),g5,g6,g4,g2,g3⟩
  ·simp only[not_or,YJ]at c3;rw[c3.1,c3.2.1,c3.2.2]at h;simp only[BG,AP]at h;right;cases c4:A1 op Bc with
   |true=>
    left;simp[c4,KD]at h;exact⟨.inl (Dz c4),(t2 h.1).1,(t2 h.1).2,h.2.2.1,h.2.1⟩
   |false=>
   cases c5:A1 op GF with
   |true=>
    left;simp[c4,c5,KD]at h;exact⟨.inr (.inl (Dz c5)),(t2 h.1).1,(t2 h.1).2,h.2.2.1,h.2.1⟩
   |false=>
   cases c6:A1 op DD with
   |true=>
    left;simp[c4,c5,c6,KD]at h;exact⟨.inr (.inr (.inl ⟨Dz c6,h.2.2.1⟩)),(t2 h.1).1,(t2 h.1).2,h.2.2.2.1,h.2.1⟩
   |false=>
   cases c7:A1 op G6 with
   |true=>
    left;simp[c4,c5,c6,c7,KD]at h;exact⟨.inr (.inr (.inr ⟨Dz c7,h.2.2.1⟩)),(t2 h.1).1,(t2 h.1).2,h.2.2.2.1,h.2.1⟩
   |false=>
   cases c8:A1 op DH with
   |true=>
    right;simp[c4,c5,c6,c7,c8,KD]at h;exact⟨.inl (Dz c8),(t2 h.1).1,(t2 h.1).2,h.2.1,h.2.2.1,by simpa using h.2.2.2⟩
   |false=>
   cases c9:A1 op HK with
   |true=>
    right;simp[c4,c5,c6,c7,c8,c9,KD]at h;exact⟨.inr (Dz c9),(t2 h.1).1,(t2 h.1).2,h.2.1,h.2.2.1,by simpa using h.2.2.2⟩
   |false=>simp[c4,c5,c6,c7,c8,c9]at h
theorem gC{c:UInt8}(h:Ef c=true):ET c=some c:=by
 have h45:c.toNat=45->c=45:=λe=>TF.1 (by rw[e];try rfl);have h95:c.toNat=95->c=95:=λe=>TF.1 (by rw[e];try rfl);have hu:IC c=false:=by
  unfold Ef EJ at h;unfold IC;simp at h⊢;omega
 have hw:wB c=true:=by
  unfold wB FY;unfold Ef at h;simp only[DG]at h⊢;rcases h with((h|h)|h)|h
  ·exact .inl (.inl h)
  ·exact .inl (.inr h)
  ·rw [h45 (by simpa using h)];exact .inr (by decide)
  ·rw [h95 (by simpa using h)];exact .inr (by decide)
 unfold ET;rw[hu,hw];try rfl
theorem Ru: ∀ {l:List UInt8},l.all Ef=true->EK l=some l
 |[],_=>rfl
 |c::l,h=>by
  simp only[GX,AR]at h;simp only[EK,gC h.1,Ru h.2,Ba]
theorem VP{l:List UInt8}(h:IB l=true):l.all Ef=true:=by
 cases l with
 |nil=>rfl
 |cons c l=>
  simp only[IB,AR]at h;simp only[GX,AR];exact⟨Uy h.1,h.2⟩
theorem VQ{s:ByteArray}(h1:0<s.size)(h2:s.size<=32)(h3:EK s.data.toList=some s.data.toList)(h4: ∀ c l,s.data.toList=c::l->FY c=false/\c≠45):JG s=true:=by
 have hl:Ew s=(s,true):=by
  unfold Ew;rw[AG ⟨h1,h2⟩,h3]
 unfold JG;rw[hl];have hn:KX s=false:=by
  have hsz:s.data.toList≠[]:=by
   intro e;have:s.data.toList.length=0:=(by rw[e];try rfl);rw[FA]at this;have:s.size=0:=this;omega
  unfold KX GE;cases he:s.data.toList with
  |nil=>exact(hsz he).elim
  |cons c l=>
   obtain⟨g1,g2⟩:=h4 c l he;split
   ·rename_i e;simp at e;exact(g2 e.1).elim
   ·rw [he,GX,g1];try rfl
 simp[hn,A1]
theorem VR{s:ByteArray}(h:An s=true):JG s=true:=by
 unfold An at h;simp only[AR,BP]at h;obtain⟨⟨⟨h1,h2⟩,h3⟩,_⟩:=h;refine VQ h2 h3 (Ru (VP h1)) ?_;intro c l he;rw[he]at h1;simp only[IB,AR]at h1;have h4:=h1.1;unfold EJ at h4;simp at h4;refine⟨by unfold FY;simp;omega,λe=>?_⟩;subst e;simp at h4
theorem gD{s:ByteArray}(h:Eg s=true):JG s=true/\A1 s Fx=false:=by
 unfold Eg at h;simp only[AR,BP]at h;obtain⟨⟨⟨h1,h2⟩,h3⟩,h4⟩:=h;cases he:s.data.toList with
 |nil=>rw[he]at h3;simp at h3
 |cons c l=>
  rw[he]at h3;simp at h3;have hc:c=63:=TF.1 (by rw[h3];try rfl);subst hc;have hx:(s.extract 1 s.size).data.toList=l:=by
   have:(s.extract 1 s.size).data.toList=(s.data.toList.take s.size).drop 1:=by
    simp[mI,List.drop_take]
   rw[this,DQ (by rw[FA];exact AD _),he];rfl
  unfold An at h4;simp only[AR]at h4;have h5:=VP h4.1.1.1;rw[hx]at h5;refine⟨VQ (by omega) h2 ?_ ?_,?_⟩
  ·rw [he];simp only[EK,Ru h5];rfl
  ·intro d m hd;rw[he]at hd;simp at hd;rw[← hd.1];exact⟨by decide,by decide⟩
  ·unfold A1;rw[he];simp[Fx]
theorem Mm{s:ByteArray}(h:JG s=true):Hh (AA s)=true:=by
 unfold Hh AA;simp[Ax,CL,h]
theorem VT{s:ByteArray}(h:Gd s=true):JG s=true:=by
 unfold Gd at h;simp only[DG]at h;rcases h with h|h
 ·exact VR h
 ·rw [Dz h];decide
theorem VU: ∀ (l:List Pm)(don:List Pm),l.all Hg=true->EN true (AX l) don []=(don++l,0)
 |[],don,_=>by simp[AX,EN,Bi]
 |p::l,don,h=>by
  simp only[GX,AR]at h;obtain⟨h1,h2⟩:=h;unfold Hg at h1;simp only[AR]at h1;obtain⟨g1,g2⟩:=gD h1.1;have t1: ∀ s:ByteArray,Ah (AA s)=s:=λ_=>rfl;have w1:Hh (AA ⟨#[45]⟩)=true:=Mm (by decide);have w2:A1 (⟨#[45]⟩:ByteArray) Fx=true:=by decide
  simp only[AX];rw[EN,Mm g1,t1,g2,h1.1];simp only[AB,AI,Au];rw[EN,w1,t1,w2];simp only[AB,Mm (VT h1.2),t1,h1.2];simp only[NJ,C4,B8,AB,Bi,BS,B5];rw[VU l _ h2];simp
theorem Rv{l:List Pm}(h:l.all Hg=true):Bt true (AX l)=(l,0):=by
 unfold Bt;rw[VU l [] h];rfl
theorem VV: ∀ (l:List Fm),(∀ k∈l,Cf (Am k)=(k,0))->D6 (l.map Am)=(l,0)
 |[],_=>rfl
 |k::l,h=>by
  simp only[BS,D6,h k (by simp),D8,AB,VV l (λq hq=>h q (by simp[hq]))]
theorem gE: ∀ f:Fm,D1 f=true->Cf (Am f)=(f,0):=by
 refine Fm.ind ?_;intro op name args params exprs kids ih hs;unfold D1 at hs;simp only[AR]at hs;obtain⟨⟨h1,h2⟩,h3⟩:=hs;rw[Mh]at h3;have hk:=VV kids (λk hk=>ih k hk (h3 k hk));have t1: ∀ s:ByteArray,Ah (AA s)=s:=λ_=>rfl;have t2: ∀ s:ByteArray,Ax (AA s)=1:=λ_=>rfl;rcases VO h1 with⟨rfl,hn,ha,rfl,he,hk0⟩|⟨rfl,rfl,hl,ha,rfl,he,hk0⟩|⟨ho,rfl,rfl,rfl,he,hk0⟩|⟨ho,rfl,rfl,rfl,he⟩|⟨ho,rfl,rfl,he,hk1,hp⟩
 ·obtain rfl:=J6.1 he;obtain rfl:=J6.1 hk0;obtain⟨n1,n2,n3,n4⟩:=gA hn;unfold Am;rw[AG (by decide)];unfold Cn AK;simp only[BS];unfold Cf;simp only[t1,t2,n1,n2,n3,n4,hn,O7 args ha,D8,AB,AI,AH];rfl
 ·obtain rfl:=J6.1 he;obtain rfl:=J6.1 hk0
  match args,hl with
  |[a,b],_=>
   unfold Am;rw[A4 (by decide),AG (by decide)];have e:=O7 [a,b] ha;simp only[BS,B5]at e;unfold Cn AK;simp only[BS,B5];unfold Cf;simp only[t1,t2];have c1:EA CR=2:=(by decide);have c2:Dy CR=false:=(by decide);have c3:Fa CR=false:=(by decide);have c4:EU CR=true:=(by decide);have c5:A1 CR CR=true:=(by decide);simp only[c1,c2,c3,c4,Hi,c5,t2,e,Ck,D8,AB,AI,AH,Aw,Bw,L9];rfl
 ·obtain rfl:=J6.1 hk0
  match exprs,he with
  |[a,b],_=>
   simp only[GX,AR]at h2;have ea:=Rm a h2.1;have eb:=Rm b h2.2.1;have key: ∀ w:ByteArray,A1 w Bk=false->A1 w C9=false->FJ w=true->EA w=2->Dy w=false->Fa w=false->A1 w Il=false->A1 w JJ=false->(A1 w CR&&Ax (BE a)==1&&Ax (BE b)==1)=false->
     Cf (Am (.mk w ⟨#[]⟩ [] [] [a,b] []))=(.mk w ⟨#[]⟩ [] [] [a,b] [],0):=by
    intro w k1 k2 k3 k4 k5 k6 k7 k8 k9;unfold Am;rw[k1,k2,k3];simp only[BG,AP,AH,BS,B5];unfold AK Cf;have k10:EU w=true:=(by unfold EU;rw[k3];try rfl);simp only[t1,t2,k4,k5,k6,k10,Hi,k9,ea,eb,k7,k8,Ck,D8,AB,AI,AH,Aw,Bw,BG,AP];rfl
   have hkn:Ax (BE a)≠1:=by
    obtain⟨o,n,v,ar,ks⟩:=a;unfold BE;split
    ·simp [Ax]
    ·split
     ·simp [Cn,AK,Ax]
     ·split<;>simp[AK,Ax]
   have hkb:(Ax (BE a)==1)=false:=(by simpa using hkn);rcases ho with rfl|rfl|rfl
   ·exact key D0 (by decide) (by decide) (by decide) (by decide) (by decide) (by decide) (by decide) (by decide) (by rw[hkb];simp)
   ·exact key DN (by decide) (by decide) (by decide) (by decide) (by decide) (by decide) (by decide) (by decide) (by rw[hkb];simp)
   ·exact key CR (by decide) (by decide) (by decide) (by decide) (by decide) (by decide) (by decide) (by decide) (by rw[hkb];simp)
 ·obtain rfl:=J6.1 he;have key: ∀ w:ByteArray,A1 w Bk=false->A1 w C9=false->FJ w=false->Dy w=false->(A1 w Bc&&kids.isEmpty)=false->Fa w=true->(decide (EA w>=0)&&!(decide (EA w=kids.length)))=false->
    Cf (Am (.mk w ⟨#[]⟩ [] [] [] kids))=(.mk w ⟨#[]⟩ [] [] [] kids,0):=by
   intro w k1 k2 k3 k4 k5 k6 k7;unfold Am;rw[k1,k2,k3,k4,k5,Mi];simp only[BG,AP,J5,Qf];unfold AK Cf;have k8:(decide (EA w>=0)&&!(decide (EA w=(kids.map Am).length)))=false:=(by rw[E4];exact k7);simp only[t1,t2,k8,k4,k6,hk,D8,AB,AI,AH]
  rcases ho with rfl|rfl|⟨rfl,hn⟩|⟨rfl,hn⟩
  ·cases kids with
   |nil=>rfl
   |cons k ks=>exact key Bc (by decide) (by decide) (by decide) (by decide) (by simp) (by decide) (by rw[show decide (EA Bc>=0)=false by decide];try rfl)
  ·exact key GF (by decide) (by decide) (by decide) (by decide) (by rw[show A1 GF Bc=false by decide];try rfl) (by decide) (by rw[show decide (EA GF>=0)=false by decide];try rfl)
  ·exact key DD (by decide) (by decide) (by decide) (by decide) (by rw[show A1 DD Bc=false by decide];try rfl) (by decide) (by rw[hn];decide)
  ·exact key G6 (by decide) (by decide) (by decide) (by decide) (by rw[show A1 G6 Bc=false by decide];try rfl) (by decide) (by rw[hn];decide)
 ·obtain rfl:=J6.1 he;have t3: ∀ l,Ax (AK l)=3:=λ_=>rfl;have t4: ∀ l,CA (AK l)=l:=λ_=>rfl;have key: ∀ w:ByteArray,A1 w Bk=false->A1 w C9=false->FJ w=false->Dy w=true->A1 w Bc=false->EA w=2->
    Cf (Am (.mk w ⟨#[]⟩ [] params [] kids))=(.mk w ⟨#[]⟩ [] params [] kids,0):=by
   intro w k1 k2 k3 k4 k5 k6;unfold Am;rw[k1,k2,k3,k4,k5,Mi];simp only[BG,AP,AH,B9,C3,Au];generalize hm:kids.map Am=M at hk;have hml:M.length=1:=(by rw[← hm,E4];exact hk1);unfold AK Cf;have k8:(decide ((2:Int)>=0)&&!(decide ((2:Int)=((AK (AX params)::M).length:Int))))=false:=(by rw[Aw,hml];decide);unfold AK at k8 t3 t4;simp only[t1,t2,k6,k8,k4,t3,t4,Rv hp,hk,D8,AB,AI,AH]
  rcases ho with rfl|rfl
  ·exact key DH (by decide) (by decide) (by decide) (by decide) (by decide) (by decide)
  ·exact key HK (by decide) (by decide) (by decide) (by decide) (by decide) (by decide)
end Go.Proofs.YtblgchkahpgdjaaGreat
