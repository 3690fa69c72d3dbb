/- What the claim rests on, part 6: the abstract machine, contracts of the functions, plain data. -/
import Derived.Test.YtblgchkahpgdjaaGreatZs5
set_option linter.unusedVariables false
set_option linter.unusedSimpArgs false
set_option linter.unusedSectionVars false
namespace Go.Proofs.YtblgchkahpgdjaaGreat
open Go.AM Go.Proofs.Tryz
set_option maxHeartbeats 2000000
set_option maxRecDepth 20000
structure Rn(p:Prop):Prop where
 out:p
theorem M0{P:Program}{ow:Nat->Bool}{wf:FuncId->Bool}{n:Nat}{Q:BW}{s:AD}{h:A1}(id:Nat){ops:Array Oper}{d:Bool}{x y:Code}(hh:Rn (Aq P ow wf n (.seq (.seq (.region id ops d) x) y) Q s h)):Aq P ow wf n (.seq (.seq (.region id ops d) x) y) Q s h:=hh.out
theorem DB{P:Program}{ow:Nat->Bool}{wf:FuncId->Bool}{n:Nat}{Q:BW}{s:AD}{h:A1}{a b:Code}(I:AD->A1->Prop)(h1:Aq P ow wf n a (BW.seq I Q) s h)(h2: ∀ s h,I s h->Aq P ow wf n b Q s h):Aq P ow wf n (.seq a b) Q s h:=by
 simp only[Aq];refine JJ a (λe s h hh=>?_) h1;cases e<;>simp only[BW.seq]at hh⊢
 ·exact h2 _ _ hh
 all_goals exact hh
theorem Mn{P:Program}{ow:Nat->Bool}{wf:FuncId->Bool}{n:Nat}{Q:BW}{K:AD->A1->Prop}{s:AD}{h:A1}{a:Code}(I:AD->A1->Prop)(h1:Aq P ow wf n a (BW.seq I Q) s h)(h2: ∀ s h,I s h->K s h):Aq P ow wf n a (BW.seq K Q) s h:=by
 refine JJ a (λe s h hh=>?_) h1;cases e<;>simp only[BW.seq]at hh⊢
 ·exact h2 _ _ hh
 all_goals exact hh
theorem Da(h:A1)(id:Nat)(a b:An):(h.set id a).set id b=h.set id b:=by
 unfold A1.set;congr 1;funext i;simp only;by_cases hi:i=id
 ·simp [hi]
 ·simp [hi]
theorem VN{α:Type}(l:List α):((l.length:Int)==0)=l.isEmpty:=by cases l<;>simp;omega
theorem gr(n:Nat):D4 (n+1)= .arr 1 [[.sc (.int .i64 ((n:Int)+1))]]:=by simp only[D4,Lx]
theorem Ro{h:A1}{s:ByteArray}(hs:s.size<=AI):A6 prog 189 [A4 s] h λr h'=>r= .sc (.bool (CH s))/\h'=h:=by
 have hs':s.size<=9223372036854775807:=by unfold AI at hs;omega
 cases c1:As s with
 |true=>
  have:CH s=true:=by simp[CH,c1]
  refine AF func189 ntmps189 results189 Ty.V6 ?_;refine wt A5 ?_;refine uU c1 (FP (s:=s) hs') ?_;refine wt c1 ?_;rw[this]
 |false=>
  have:CH s=Ey s:=by simp[CH,c1]
  refine AF func189 ntmps189 results189 Ty.V6 ?_;refine wt A5 ?_;refine uU c1 (FP (s:=s) hs') ?_;refine wt c1 ?_;refine uU c1 (Lt (s:=s) hs') ?_;refine wt c1 ?_;rw[this]
theorem gu{h:A1}{s:ByteArray}(hs:s.size<=AI):A6 prog 192 [A4 s] h λr h'=>r= .sc (.bool (!CH s))/\h'=h:=by
 refine AF func192 ntmps192 results192 Ty.gQ ?_;refine wt A5 ?_;refine uU A5 (Ro (s:=s) hs) ?_;exact wz A5
theorem gv{h:A1}{s:ByteArray}(hs:s.size<=AI):A6 prog 188 [A4 s] h λr h'=>r= .sc (.bool (!CH s))/\h'=h:=by
 refine AF func188 ntmps188 results188 Ty.gP ?_;refine wt A5 ?_;refine uU A5 (Ro (s:=s) hs) ?_;exact wz A5
def O0(l:List ByteArray):Int:=match l.findIdx? (λs=>!CH s)with
 |some i=>i
 |none=> -1
theorem gz(l:List ByteArray):decide (O0 l>=0)=!l.all CH:=by
 unfold O0;cases h:l.findIdx? (λs=>!CH s)with
 |none=>
  rw[List.findIdx?_eq_none_iff]at h;have:l.all CH=true:=by
   rw[List.all_eq_true];intro s hs;simpa using h s hs
  rw[this];try rfl
 |some i=>
  rw[List.findIdx?_eq_some_iff_getElem]at h;obtain⟨hi,h1,_⟩:=h;have:l.all CH=false:=by
   rw[List.all_eq_false];exact⟨l[i],List.getElem_mem hi,by simpa using h1⟩
  rw[this];simp
theorem hJ{h:A1}{g:FuncId}{l:List ByteArray}(hl:l.length<=AI)(hf: ∀ s∈l, ∀ h:A1,A6 prog g [A4 s] h λr h'=>r= .sc (.bool (!CH s))/\h'=h):
  A6 prog 201 [.A2 1 (AN l),.sc (.func (.func g) #[] #[])] h λr h'=>r= .sc (.int .i64 (O0 l))/\h'=h:=by
 unfold AI at hl;have hlen:=GP l;refine AF func201 ntmps201 results201 Ty.gE ?_;refine wt hlen ?_;refine CG (λm S h'=>h'=h/\S 0= .A2 1 (AN l)/\S 1= .sc (.func (.func g) #[] #[])/\S 7= .sc (.int .i64 l.length)/\ ∃ k:Nat,S 8= .sc (.int .i64 k)/\k<=l.length/\m=l.length-k/\ ∀ (i:Nat)(w:ByteArray),i<k->l[i]? =some w->CH w=true) l.length ?_ ?_
 ·simp only[Ty.w,simprocAttr];exact⟨0,rfl,by omega,rfl,by omega⟩
 ·rintro m S h' ⟨rfl,g0,g1,g7,k,g8,hk,rfl,hall⟩;by_cases hlt:k<l.length
  ·have hd:decide ((k:Int)<(l.length:Int))=true:=(by simp;omega);have w7:IntKind.i64.wrap ((k:Int)+1)=k+1:=(by rw[BZ (by omega) (by omega)]);obtain⟨w,hx⟩: ∃ w,l[k]? =some w:=⟨l[k],List.getElem?_eq_getElem hlt⟩;have hr:=Kr hx;have hc:=hf w (List.mem_of_getElem? hx);cases he:CH w with
   |false=>
    rw[he]at hc;replace zz:=Al g0 g1 g7 g8 hd hr;refine wt zz ?_;refine Jz (sq g1) (hc _) (by simp only[Ty.w,simprocAttr,g0,g1,g7,g8];try rfl) ?_;simp only[Ty.w,simprocAttr,Ty.AW];replace zz:=Ak g0 g1 g7 g8 yF;refine wt zz ?_;have:l.findIdx? (λs=>!CH s)=some k:=by
     rw[List.findIdx?_eq_some_iff_getElem];refine⟨hlt,?_,λj hj=>?_⟩
     ·rw [List.getElem?_eq_getElem hlt]at hx;simp only[BD]at hx;rw[hx,he];try rfl
     ·rw [hall j l[j] hj (List.getElem?_eq_getElem (by omega))];simp
    simp only[O0,this]
   |true=>
    rw[he]at hc;replace zz:=Al g0 g1 g7 g8 hd hr;refine wt zz ?_;refine Jz (sq g1) (hc _) (by simp only[Ty.w,simprocAttr,g0,g1,g7,g8];try rfl) ?_;simp only[Ty.w,simprocAttr,Ty.AW];replace zz:=Al g0 g1 g7 g8 w7 yT;refine wt zz ?_;refine⟨l.length-(k+1),by omega,k+1,by simp,by omega,rfl,λi w2 hi hw=>?_⟩;by_cases hik:i=k
    ·subst hik;rw[hx]at hw;simp at hw;rw[← hw];exact he
    ·exact hall i w2 (by omega) hw
  ·have hd:decide ((k:Int)<(l.length:Int))=false:=(by simp;omega);replace zz:=Ak g0 g1 g7 g8 hd;refine wt zz ?_;have:l.findIdx? (λs=>!CH s)=none:=by
    rw[List.findIdx?_eq_none_iff];intro w hw;obtain⟨i,hi⟩:=List.getElem?_of_mem hw;have:i<l.length:=(List.getElem?_eq_some_iff.1 hi).1;rw[hall i w (by omega) hi];try rfl
   simp only[O0,this]
theorem O1{h:A1}{g:FuncId}{l:List ByteArray}(hl:l.length<=AI)(hf: ∀ s∈l, ∀ h:A1,A6 prog g [A4 s] h λr h'=>r= .sc (.bool (!CH s))/\h'=h):
  A6 prog 187 [.A2 1 (AN l),.sc (.func (.func g) #[] #[])] h λr h'=>r= .sc (.bool (!l.all CH))/\h'=h:=by
 refine AF func187 ntmps187 results187 Ty.gD ?_;refine wt A5 ?_;refine uU A5 (hJ (l:=l) (g:=g) hl hf) ?_;refine wt A5 ?_;rw[← gz]
theorem Ps{h:A1}{id d n:Nat}{b:Bool}(hd:d<=100)(hn:n<=4096)(ho:h.obj id=some (D4 n))(hb:decide (n+1<=4096/\d<=32)=b):A6 prog 186 [.ptr id 0 0,.sc (.int .i64 d)] h λr h'=>r= .sc (.bool b)/\h'=h.set id (D4 (n+1)):=by
 have ho':=ho;simp only[D4]at ho';rw[gr];have wn:IntKind.i64.wrap ((n:Int)+1)=(n:Int)+1:=by rw[BZ (by omega) (by omega)]
 cases b0:decide ((n:Int)+1<=4096)with
 |false=>
  have:b=false:=by rw[← hb];simp only[D7]at b0⊢;omega
  subst this
  clear hb;refine AF func186 ntmps186 results186 Ty.V4 ?_;exact wz (AY ho' wn b0)
 |true=>
  have:b=decide ((d:Int)<=32):=by rw[← hb];simp only[Bg]at b0;exact Yk.2 (by omega)
  subst this
  clear hb;refine AF func186 ntmps186 results186 Ty.V4 ?_;exact wz (AY ho' wn b0)
theorem Rp: ∀ (e:Ex)(d n:Nat),(EJ e d n).1=true->(EJ e d n).2<=4096:=by
 refine Ex.ind ?_;intro op name nn args kids ih d n;unfold EJ;split
 ·rename_i hc;split
  ·intro _;simp only;omega
  ·split
   ·intro _;simp only;omega
   ·split
    ·split
     ·split
      ·rename_i a b;have ha:=ih a (by simp) (d+1) (n+1);split
       ·rename_i c' he;exact ih b (by simp) (d+1) c'
       ·simp
      ·simp
     ·simp
    ·simp
 ·simp
theorem VO: ∀ e:Ex,e.ok-> ∀ (d n:Nat),d<=33->n<=4096-> ∀ (id:Nat)(h:A1),h.obj id=some (D4 n)->
  A6 prog 178 [.agg e.cells,.sc (.int .i64 d),.ptr id 0 0] h λr h'=>r= .sc (.bool (EJ e d n).1)/\h'=h.set id (D4 (EJ e d n).2):=by
 refine Ex.ind ?_;intro op name v args kids ih hok d n hd hn id h ho;simp only[Ex.ok]at hok;obtain⟨_,hnm,_,⟨hal,hargs⟩,hkl,hks⟩:=hok;rw[Ex.Bz]at hks;have hnm':name.size<=9223372036854775807:=by unfold AI at hnm;omega
 have hlA:=GP args;have hlK:=Ex.B4 kids;have e1:=VN args;have e2:=VN kids;generalize hF:EJ (.mk op name v args kids) d n=F;unfold EJ at hF;by_cases hc:n+1<=4096/\d<=32;rotate_left
 ·rw [A8 hc]at hF;subst hF;have hT:=Ps (by omega) hn ho (Qh hc);simp only[Ex.cells];refine AF func178 ntmps178 results178 Ty.Is ?_;refine wt A5 ?_;refine DK (hT) (sr yF) ?_;simp only[Ty.w,simprocAttr,CB];exact wz yF
 ·rw [AK hc]at hF;have hT:=Ps (by omega) hn ho (LQ hc);have wd:IntKind.i64.wrap ((d:Int)+1)=(d:Int)+1:=by rw[BZ (by omega) (by omega)]
  simp only[Ex.cells];have n1:A3 op Iv=(op.data.toList==(#[110,117,109,98,101,114]:Array UInt8).toList):=rfl;have n2:A3 op Iw=(op.data.toList==(#[102,108,117,101,110,116]:Array UInt8).toList):=rfl;have n3:A3 op Ly=(op.data.toList==(#[43]:Array UInt8).toList):=rfl;have n4:A3 op GD=(op.data.toList==(#[45]:Array UInt8).toList):=rfl;have n5:A3 op Lz=(op.data.toList==(#[42]:Array UInt8).toList):=rfl;have n6:HL name=(name.data.toList==(#[]:Array UInt8).toList):=rfl;have n7:decide (v=0)=(v==0):=by by_cases h0:v=0<;>simp[h0]
  have n8:Rm v=(decide (v>= -1099511627776)&&decide (v<=1099511627776)):=rfl;rw[n1,n2,n3,n4,n5,n6,n7,n8, ← e1, ← e2]at hF
  clear n1 n2 n3 n4 n5 n6 n7 n8 e1 e2;cases k1:(op.data.toList==(#[110,117,109,98,101,114]:Array UInt8).toList)with
  |true=>
   rw[k1]at hF;simp only[AO]at hF;cases q1:(name.data.toList==(#[]:Array UInt8).toList)with
   |false=>
    rw[q1]at hF;simp only[BF,BH]at hF;subst hF;refine AF func178 ntmps178 results178 Ty.Is ?_;refine wt (uu k1 q1) ?_;refine DK (hT) (sr (AY k1 q1 yT)) ?_;simp only[Ty.w,simprocAttr,k1,q1,Av];replace zz:=Ak k1 q1 hlA hlK yT;exact wz zz
   |true=>
    rw[q1]at hF;cases q2:((args.length:Int)==0)with
    |false=>
     rw[q2]at hF;simp only[BF,BH]at hF;subst hF;refine AF func178 ntmps178 results178 Ty.Is ?_;refine wt (AY k1 q1 q2) ?_;refine DK (hT) (sr (Aa k1 q1 q2 yT)) ?_;simp only[Ty.w,simprocAttr,k1,q1,q2,Av];replace zz:=Al k1 q1 q2 hlA hlK yT;exact wz zz
    |true=>
     rw[q2]at hF;cases q3:((kids.length:Int)==0)with
     |false=>
      rw[q3]at hF;simp only[BF,BH]at hF;subst hF;refine AF func178 ntmps178 results178 Ty.Is ?_;replace zz:=Aa k1 q1 q2 q3;refine wt zz ?_;refine DK (hT) (sr (Ak k1 q1 q2 q3 yT)) ?_;simp only[Ty.w,simprocAttr,k1,q1,q2,q3,Av];replace zz:=Ah k1 q1 q2 q3 hlA hlK yT;exact wz zz
     |true=>
      rw[q3]at hF;cases q4:decide (v>= -1099511627776)with
      |false=>
       rw[q4]at hF;simp only[BF,BH]at hF;subst hF;refine AF func178 ntmps178 results178 Ty.Is ?_;replace zz:=Ak k1 q1 q2 q3 q4;refine wt zz ?_;refine DK (hT) (sr (Al k1 q1 q2 q3 q4 yT)) ?_;simp only[Ty.w,simprocAttr,k1,q1,q2,q3,q4,Av];replace zz:=BT k1 q1 q2 q3 q4 hlA hlK yT;exact wz zz
      |true=>
       rw[q4]at hF;simp only[BG]at hF;subst hF;refine AF func178 ntmps178 results178 Ty.Is ?_;replace zz:=Ak k1 q1 q2 q3 q4;refine wt zz ?_;refine DK (hT) (sr (Al k1 q1 q2 q3 q4 yT)) ?_;simp only[Ty.w,simprocAttr,k1,q1,q2,q3,q4,Av];replace zz:=BT k1 q1 q2 q3 q4 hlA hlK yT;exact wz zz
  |false=>
   rw[k1]at hF;simp only[BR,AQ]at hF;cases k2:(op.data.toList==(#[102,108,117,101,110,116]:Array UInt8).toList)with
   |true=>
    rw[k2]at hF;simp only[AO]at hF;have hfc: ∀ s∈args, ∀ h:A1,A6 prog 192 [A4 s] h λr h'=>r= .sc (.bool (!CH s))/\h'=h:=λs hs h=>gu (hargs s hs);cases q1:(v==0)with
    |false=>
     rw[q1]at hF;simp only[BF,BH]at hF;subst hF;refine AF func178 ntmps178 results178 Ty.Is ?_;refine wt (AY k1 k2 q1) ?_;refine DK (hT) (sr (Aa k1 k2 q1 yT)) ?_;simp only[Ty.w,simprocAttr,k1,k2,q1,Av];replace zz:=Al k1 k2 q1 hlA hlK yT;exact wz zz
    |true=>
     rw[q1]at hF;cases q2:((kids.length:Int)==0)with
     |false=>
      rw[q2]at hF;simp only[BF,BH]at hF;subst hF;refine AF func178 ntmps178 results178 Ty.Is ?_;replace zz:=Aa k1 k2 q1 q2;refine wt zz ?_;refine DK (hT) (sr (Ak k1 k2 q1 q2 yT)) ?_;simp only[Ty.w,simprocAttr,k1,k2,q1,q2,Av];replace zz:=Ah k1 k2 q1 q2 hlA hlK yT;exact wz zz
     |true=>
      rw[q2]at hF;cases q3:As name with
      |false=>
       rw[q3]at hF;simp only[BF,BH]at hF;subst hF;refine AF func178 ntmps178 results178 Ty.Is ?_;replace zz:=Aa k1 k2 q1 q2;refine wt zz ?_;refine DK (hT) (sr (Ak k1 k2 q1 q2 yT)) ?_;simp only[Ty.w,simprocAttr,k1,k2,q1,q2,Av];replace zz:=Ah k1 k2 q1 q2 hlA hlK yT;refine wt zz ?_;replace zz:=Al k1 k2 q1 q2 q3 hlK;refine uU zz (FP (s:=name) hnm') ?_;exact wz zz
      |true=>
       rw[q3]at hF;simp only[BG]at hF;subst hF;refine AF func178 ntmps178 results178 Ty.Is ?_;replace zz:=Aa k1 k2 q1 q2;refine wt zz ?_;refine DK (hT) (sr (Ak k1 k2 q1 q2 yT)) ?_;simp only[Ty.w,simprocAttr,k1,k2,q1,q2,Av];replace zz:=Ah k1 k2 q1 q2 hlA hlK yT;refine wt zz ?_;replace zz:=Al k1 k2 q1 q2 q3 hlK;refine uU zz (FP (s:=name) hnm') ?_;refine wt zz ?_;replace zz:=Al k1 k2 q1 q2 q3 hlK;refine uU zz (O1 hal hfc) ?_;repeat'(first|refine cK ?_|(refine nK ?_;try exact zI)|(refine Ej ?_;simp only[Ty.w,simprocAttr,k1,k2,q1,q2,q3,hlK,Bool.not_not])|(refine hK _ _ ?_;clear hK;(try simp only[Au,simprocAttr])))
   |false=>
    rw[k2]at hF;simp only[BR,AQ]at hF;generalize hk3:(op.data.toList==(#[43]:Array UInt8).toList)=b3 at hF;generalize hk4:(op.data.toList==(#[45]:Array UInt8).toList)=b4 at hF;generalize hk5:(op.data.toList==(#[42]:Array UInt8).toList)=b5 at hF;refine AF func178 ntmps178 results178 Ty.Is ?_;refine wt (uu k1 k2) ?_;refine DK (hT) (sr (AY k1 k2 yT)) ?_;simp only[Ty.w,simprocAttr,k1,k2,Av];iterate 15 (first|(with_reducible refine cK ?_)|(with_reducible refine nK ?_)|refine Af λK hK=>?_|refine uR (AY k1 k2 yT) ?_|refine uK ?_|refine C2 (AY k1 k2 yT) ?_|(refine uN hK ?_;clear hK)|apply zI)
    refine Mn (λS h'=>h'=h.set id (D4 (n+1))/\S 1= .sc (.int .i64 d)/\S 2= .ptr id 0 0/\S 3= .Ag (Ex.mk op name v args kids).cells/\S 62= .sc (.bool (b3||b4||b5))) ?_ ?_
    ·clear hF;cases b3 with
     |true=>
      refine wm hk3 ?_;try exact zI
      all_goals(simp only[Ty.w,simprocAttr,Ex.cells,On,HZ,KT])
     |false=>
      cases b4 with
      |true=>
       refine wm (uu hk3 hk4) ?_;try exact zI
       all_goals(simp only[Ty.w,simprocAttr,Ex.cells,On,HZ,KT])
      |false=>
       refine wm (AY hk3 hk4 hk5) ?_;try exact zI
       all_goals(simp only[Ty.w,simprocAttr,Ex.cells,On,HZ,KT])
    ·generalize (b3||b4||b5)=bb at hF⊢;rintro S h' ⟨rfl,g1,g2,g3,g62⟩;(first|refine hK _ _ ?_|refine cK ?_);(try clear hK);simp only[Ex.cells]at g3;clear hT;cases bb with
     |false=>
      simp only[BR,AQ]at hF;subst hF;replace zz:=Aa g1 g2 g3 g62;exact wz zz
     |true=>
      simp only[AO]at hF;cases q1:(v==0)with
      |false=>
       rw[q1]at hF;simp only[BF,BH,BR,AQ]at hF;subst hF;replace zz:=Al g1 g2 g3 g62 q1 hlA;exact wz zz
      |true=>
       rw[q1]at hF;cases q2:(name.data.toList==(#[]:Array UInt8).toList)with
       |false=>
        rw[q2]at hF;simp only[BF,BH,BR,AQ]at hF;subst hF;replace zz:=Ah g1 g2 g3 g62 q1 q2 hlA;exact wz zz
       |true=>
        rw[q2]at hF;cases q3:((args.length:Int)==0)with
        |false=>
         rw[q3]at hF;simp only[BF,BH,BR,AQ]at hF;subst hF;replace zz:=BT g1 g2 g3 g62 q1 q2 q3 hlA;exact wz zz
        |true=>
         rw[q3]at hF;simp only[BG,AO]at hF;cases q4:((kids.length:Int)==2)with
         |false=>
          have hF2:F=(false,n+1):=by
           rw[← hF];split
           ·simp at q4
           ·rfl
          clear hF;subst hF2;replace zz:=B9 g1 g2 g3 g62 q1 q2 q3 q4 hlA hlK;exact wz zz
         |true=>
          obtain⟨a,b,rfl⟩: ∃ a b,kids=[a,b]:=by
           match kids,q4 with
           |[],q=>simp at q
           |[a],q=>simp at q
           |[a,b],_=>exact⟨a,b,rfl⟩
           |_::_::_::_,q=>simp at q;omega
          have ca:=ih a (by simp) (hks a (by simp)) (d+1) (n+1) (by omega) (by omega) id (h.set id (D4 (n+1))) (by simp[A1.set]);have cb0:=ih b (by simp) (hks b (by simp)) (d+1);have hle:=Rp a (d+1) (n+1);have hF3:F=(match EJ a (d+1) (n+1)with|(true,c')=>EJ b (d+1) c'|(false,c')=>(false,c')):=hF.symm;clear hF;have r0:=Ex.CL (l:=[a,b]) (i:=0) rfl;have r1:=Ex.CL (l:=[a,b]) (i:=1) rfl;have q5:(((Ex.rows [a,b]).length:Int)==2)=true:=(by rw[Ex.B4];exact q4);generalize Ex.rows [a,b]=RR at r0 r1 q5 g3;clear q4;generalize EJ a (d+1) (n+1)=W at ca hle hF3;obtain⟨b1,c1⟩:=W;simp only[Da,Lx]at ca hle hF3;clear ih hks hlK;cases b1 with
          |false=>
           simp only at hF3;subst hF3;clear cb0;obtain⟨Es,aname,an,aargs,akids⟩:=a;obtain⟨bop,bname,bn,bargs,bkids⟩:=b;simp only[Ex.cells]at ca r0 r1;replace zz:=Ab g1 g2 g3 g62 q1 q2 q3 q5 r0 r1 hlA wd;refine wt zz ?_;refine DK (ca) (sr (Ab g1 g2 g3 g62 q1 q2 q3 q5 r0 r1 hlA wd)) ?_;simp only[Ty.w,simprocAttr,g1,g2,g3,g62,q1,q2,q3,q5,r0,r1,hlA,wd];replace zz:=Ab g1 g2 g3 g62 q1 q2 q3 q5 r0 r1 hlA wd;exact wz zz
          |true=>
           have cb:=cb0 c1 (by omega) (hle rfl) id (h.set id (D4 c1)) (by simp[A1.set]);simp only at hF3;rw[← hF3]at cb;obtain⟨b2,c2⟩:=F;simp only[Da,Lx]at cb⊢;clear cb0 hF3;obtain⟨Es,aname,an,aargs,akids⟩:=a;obtain⟨bop,bname,bn,bargs,bkids⟩:=b;simp only[Ex.cells]at ca cb r0 r1;replace zz:=Ab g1 g2 g3 g62 q1 q2 q3 q5 r0 r1 hlA wd;refine wt zz ?_;refine DK (ca) (sr (Ab g1 g2 g3 g62 q1 q2 q3 q5 r0 r1 hlA wd)) ?_;simp only[Ty.w,simprocAttr,g1,g2,g3,g62,q1,q2,q3,q5,r0,r1,hlA,wd];replace zz:=Ab g1 g2 g3 g62 q1 q2 q3 q5 r0 r1 hlA wd;refine wt zz ?_;refine DK (cb) (sr (Ab g1 g2 g3 g62 q1 q2 q3 q5 r0 r1 hlA wd)) ?_;simp only[Ty.w,simprocAttr,g1,g2,g3,g62,q1,q2,q3,q5,r0,r1,hlA,wd];replace zz:=Ab g1 g2 g3 g62 q1 q2 q3 q5 r0 r1 hlA wd;exact wz zz
def Ea(e:Ex):Bool:=(EJ e 0 0).1&&(CM (BI e) 0 0).1
theorem O2: ∀ (e:Ex)(d n:Nat),(EJ e d n).1=true->FD e=true:=by
 refine Ex.ind ?_;intro op name v args kids ih d n;unfold EJ FD;split
 ·split
  ·exact id
  ·split
   ·exact id
   ·split
    ·split
     ·rename_i h0;rw[h0];split
      ·rename_i a b;have ha:=ih a (by simp) (d+1) (n+1);split
       ·rename_i c' he;rw[he]at ha;intro hb;have:=ih b (by simp) (d+1) c' hb;simp[ha rfl,this]
       ·simp
      ·simp
     ·simp
    ·simp
 ·simp
theorem D5{s:ByteArray}(h:s.size<=AI):(A7 s).ok:=by
 simp only[A7,Sx.ok,Sx.DJ,List.length_nil];exact⟨by omega,by omega,h,BY _,trivial⟩
theorem GE{l:List Sx}(hl:l.length<=AI)(h:Sx.DJ l):(AE l).ok:=by
 simp only[AE,Sx.ok];refine⟨by omega,by omega,by simp[AI,ByteArray.size],hl,h⟩
theorem Pt{first:ByteArray}{l:List ByteArray}(h0:first.size<=AI)(hl:l.length<=1048576)(h: ∀ s∈l,s.size<=AI):(Cu first l).ok:=by
 refine GE (by simp[AI];omega) (Sx.Bz.2 ?_);intro k hk;simp only[List.map_cons,List.mem_cons,List.mem_map]at hk;rcases hk with rfl|⟨s,hs,rfl⟩
 ·exact D5 h0
 ·exact D5 (h s hs)
theorem Rq: ∀ e:Ex,e.ok->e.small->(BI e).ok:=by
 refine Ex.ind ?_;intro op name n args kids ih hok hsm;simp only[Ex.ok]at hok;simp only[Ex.small]at hsm;obtain⟨hop,hname,hn,hargs,hkl,hks⟩:=hok;rw[Ex.Bz]at hks;have hsk:=Ex.Eh.1 hsm.2;unfold BI;split
 ·simp only[Sx.ok,Sx.DJ,List.length_nil];refine⟨by omega,hn,by simp[AI,ByteArray.size],by simp,trivial⟩
 ·split
  ·exact Pt hname hsm.1 hargs.2
  ·split
   ·rename_i a b;refine GE (by simp[AI]) ?_;simp only[Sx.DJ];exact⟨D5 hop,ih a (by simp) (hks a (by simp)) (hsk a (by simp)),ih b (by simp) (hks b (by simp)) (hsk b (by simp)),trivial⟩
   ·refine GE (by simp[AI]) ?_;simp only[Sx.DJ];exact⟨D5 hop,trivial⟩
theorem VP{e:Ex}(hok:e.ok)(hsm:e.small)(h:A1):A6 prog 166 [.agg e.cells] h λr h'=>r= .sc (.bool (Ea e))/\h'=h:=by
 have hf:=VO e hok 0 0 (by omega) (by omega) h.next (h.new (.arr 1 [[.sc (.int .i64 0)]])) (by simp[A1.new,D4])
 have hsh:=O2 e 0 0;have hx:=Rq e hok hsm;have hv:Ea e=((EJ e 0 0).1&&(CM (BI e) 0 0).1):=rfl;rw[hv];refine A6.quiet Ty.Re ?_;generalize EJ e 0 0=W at hf hsh⊢;obtain⟨b,c⟩:=W;cases b with
 |false=>
  obtain⟨op,name,n,args,kids⟩:=e;simp only[Ex.cells,Qg]at hf⊢;refine uG (ow:=λt=>t==5) (wf:=λ_=>false) func166 ntmps166 results166 Ty.Re ?_;refine wt A5 ?_;refine DK (hf) (sr A5) ?_;simp only[Ty.w,simprocAttr];refine wt A5 ?_;exact((AH.refl h).new _).set (AG _) _
 |true=>
  have hw:=Kw e hsm (hsh rfl);have hvv:=JO hx;generalize BI e=X at hw hvv⊢;obtain⟨op,name,n,args,kids⟩:=e;obtain⟨ki,va,li,co,te,ks⟩:=X;simp only[Ex.cells,Sx.cells,Qg]at hf hw hvv⊢;refine uG (ow:=λt=>t==5) (wf:=λ_=>false) func166 ntmps166 results166 Ty.Re ?_;refine wt A5 ?_;refine DK (hf) (sr A5) ?_;simp only[Ty.w,simprocAttr];refine wt A5 ?_;refine uU A5 (hw _) ?_;refine wt A5 ?_;refine uU A5 (hvv _) ?_;refine wt A5 ?_;exact((AH.refl h).new _).set (AG _) _
def Ao(n:Int):PV:= .sc (.iface 42 (.int .i64 n))
def Hj:Sx:= .mk 0 0 0 0 ⟨#[]⟩ []
theorem hZ{e:Ex}(hok:e.ok)(hsm:e.small)(h:A1):A6 prog 146 [.agg e.cells] h λr h'=>r=(if Ea e then .Am [.agg (BI e).cells,.sc .nilIface]else .Am [.agg Hj.cells,Ao 2])/\h'=h:=by
 have hv:=VP hok hsm;refine A6.CF Ty.Rb ?_;cases hb:Ea e with
 |false=>
  rw[hb]at hv;obtain⟨op,name,n,args,kids⟩:=e;simp only[Ex.cells,BR,AQ]at hv⊢;refine AF func146 ntmps146 results146 Ty.Rb ?_;refine wt A5 ?_;refine uU yF (hv _) ?_;refine wt yF ?_;refine⟨?_,((AH.refl h).new _).set (AG _) _⟩;simp only[Hj,Ao,Sx.cells,Sx.rows,AJ,AP];exact⟨_,rfl,⟨_,rfl,rfl,rfl,rfl,rfl,rfl,.inr (.inl ⟨rfl,.inr rfl⟩),trivial⟩,rfl,trivial⟩
 |true=>
  rw[hb]at hv;have hsh:=O2 e 0 0 (by unfold Ea at hb;simp only[AV]at hb;exact hb.1);have hw:=Kw e hsm hsh;have hfz:=λ(n:Nat)(h:A1)=>FC n h (BI e);generalize BI e=X at hw hfz⊢;obtain⟨op,name,n,args,kids⟩:=e;obtain⟨ki,va,li,co,te,ks⟩:=X;simp only[Ex.cells,Sx.cells,AO]at hv hw hfz⊢;refine AF func146 ntmps146 results146 Ty.Rb ?_;refine wt A5 ?_;refine uU yT (hv _) ?_;refine wt yT ?_;refine uU A5 (hw _) ?_;refine wt A5 ?_;refine⟨?_,((AH.refl h).new _).set (AG _) _⟩;simp only[AJ,AP];exact⟨_,rfl,⟨_,rfl,hfz _ _⟩,rfl,trivial⟩
def Dj:ByteArray:=⟨#[111,98,106,101,99,116]⟩
def Gj(s:ByteArray):Bool:=As s||A3 s Dj
theorem Rr{h:A1}{s:ByteArray}(hs:s.size<=AI):A6 prog 152 [A4 s] h λr h'=>r= .sc (.bool (Gj s))/\h'=h:=by
 have hs':s.size<=9223372036854775807:=by unfold AI at hs;omega
 have hc:=λh:A1=>FP (h:=h) hs';have hT:Gj s=(As s||(s.data.toList==(#[111,98,106,101,99,116]:Array UInt8).toList)):=rfl;rw[hT];generalize As s=b at hc⊢;cases b with
 |true=>
  refine AF func152 ntmps152 results152 Ty.Us ?_;refine wt A5 ?_;refine uU A5 (hc _) ?_;refine wm A5 ?_;try exact zI
  all_goals rfl
 |false=>
  refine AF func152 ntmps152 results152 Ty.Us ?_;refine wt A5 ?_;refine uU A5 (hc _) ?_;refine wm A5 ?_;try exact zI
  all_goals rfl
def AZ:List Pm->List Sx
 |[]=>[]
 |p::l=>A7 p.name::A7 ⟨#[45]⟩::A7 p.type::AZ l
theorem VQ: ∀ l m:List Pm,AZ (l++m)=AZ l++AZ m
 |[],m=>rfl
 |p::l,m=>by simp only[List.cons_append,AZ,VQ l m]
theorem Gy: ∀ l:List Pm,(AZ l).length=3*l.length
 |[]=>rfl
 |p::l=>by simp only[AZ,List.length_cons,Gy l];omega
theorem Rs{h:A1}{id0:Nat}{p:PV}{l:List Sx}(t:Tl h id0 6 p (Sx.rows l)):AJ id0 h (.A2 6 (Sx.rows l)) p:=by
 simp only[AJ];rcases t with⟨h1,h2⟩|⟨id,h1,h2,rfl,ho⟩
 ·exact .inr (.inl ⟨h1,h2.symm⟩)
 ·refine .inr (.inr ⟨id,0,_,_,rfl,h1,ho,by omega,?_⟩);rw[List.drop_zero,List.take_of_length_le (by omega)];exact IK _ _ _
theorem Rt{l:List Pm}(hl:l.length<=1048576)(h:A1):A6 prog 96 [.A2 2 (A9 l)] h λr h'=>r= .A2 6 (Sx.rows (AZ l))/\h'=h:=by
 refine A6.CF Ty.Ud ?_;have hll:=Gw l;have hw: ∀ (s:ByteArray)(h:A1),A6 prog 136 [A4 s] h λr h'=>r= .agg (A7 s).cells/\h'=h:=λs h=>Ku;simp only[A7,Sx.cells,Sx.rows]at hw;refine AF func96 ntmps96 results96 Ty.Ud ?_;refine wt hll ?_;refine CG (λm S h'=>S 6= .A2 2 (A9 l)/\S 7= .sc (.int .i64 l.length)/\ ∃ (k:Nat)(o:PV),S 8= .sc (.int .i64 k)/\S 3=o/\k<=l.length/\m=l.length-k/\AH h h'/\Tl h' h.next 6 o (Sx.rows (AZ (l.take k)))) l.length ?_ ?_
 ·simp only[Ty.w,simprocAttr];exact⟨0,_,rfl,rfl,by omega,rfl,AH.refl _,Tl.nil⟩
 ·rintro m S h' ⟨g6,g7,k,o,g8,g3,hk,rfl,hg,tl⟩;by_cases hlt:k<l.length
  ·have hd:decide ((k:Int)<(l.length:Int))=true:=(by simp;omega);have w7:IntKind.i64.wrap ((k:Int)+1)=k+1:=(by rw[BZ (by omega) (by omega)]);obtain⟨p,hx⟩: ∃ p,l[k]? =some p:=⟨_,List.getElem?_eq_getElem hlt⟩;have hr:=Nn hx;have tl2:=tl.up (h':=(h'.new (.arr 2 [[.sc (.string ⟨#[]⟩),.sc (.string ⟨#[]⟩)]])).set h'.next (.arr 2 [[A4 p.name,A4 p.type]])) (by simp[A1.new,A1.set]) (λj _ hj=>by simp only[A1.new,A1.set];rw[A8 (by omega),A8 (by omega)]);have hg2:AH h ((h'.new (.arr 2 [[.sc (.string ⟨#[]⟩),.sc (.string ⟨#[]⟩)]])).set h'.next (.arr 2 [[A4 p.name,A4 p.type]])):=(hg.new _).set hg.le _;obtain⟨H,t1,t2,t3,t4,t5⟩:=tl2.tail;have hpr:(Sx.rows (AZ (l.take k))).length=3*k:=(by rw[Sx.B4,Gy,List.length_take];omega);have hb:(3*k+3)*72<=140737488355328:=(by omega);have hR:Sx.rows (AZ (l.take (k+1)))=Sx.rows (AZ (l.take k))++[[.sc (.int .i64 1),.sc (.int .i64 0),.sc (.int .i64 0),.sc (.int .i64 0),A4 p.name,.A2 6 []],[.sc (.int .i64 1),.sc (.int .i64 0),.sc (.int .i64 0),.sc (.int .i64 0),A4 ⟨#[45]⟩,.A2 6 []],[.sc (.int .i64 1),.sc (.int .i64 0),.sc (.int .i64 0),.sc (.int .i64 0),A4 p.type,.A2 6 []]]:=by
    rw[List.take_add_one,hx,VQ];simp only[Sx.rows_map,List.map_append,Yl,AZ,List.map_cons,List.map_nil,A7,Sx.cells]
   generalize Sx.rows (AZ (l.take k))=R at tl tl2 t1 t2 hpr hR;replace zz:=Ah g6 g7 g8 g3 hd hr hll;refine wy zz ?_;replace zz:=Aa g6 g7 g8 g3;(first|refine uV zz (hw p.name _) ?_|refine uA zz (hw p.name _) ?_);refine wy zz ?_;replace zz:=Aa g6 g7 g8 g3;(first|refine uV zz (hw ⟨#[45]⟩ _) ?_|refine uA zz (hw ⟨#[45]⟩ _) ?_);refine wy zz ?_;replace zz:=Aa g6 g7 g8 g3;(first|refine uV zz (hw p.type _) ?_|refine uA zz (hw p.type _) ?_);replace zz:=BO g6 g7 g8 g3 w7 t1 t2 hpr hb;(repeat'(first|refine cK ?_|refine nK ?_|refine uR zz ?_|(refine uN hK ?_;clear hK)|refine uB zz ?_|(rw[AK];rotate_left 1;omega;simp only[Ty.w,simprocAttr,g6,g7,g8,g3,w7,t1,t2,hpr,hb])|apply zI));have t3':H.next=h'.next+1:=by rw[t3];simp[A1.new,A1.set]
   have hkp:=t5 h ⟨hg2.le,hg2.B6⟩ (AG _);have hgH:AH h H:=⟨hkp.1,hkp.2⟩;rw[← hR];have hRl:3*k+3=(Sx.rows (AZ (l.take (k+1)))).length:=(by rw[Sx.B4,Gy,List.length_take];omega);exact⟨l.length-(k+1),by omega,k+1,.own H.next 0 (3*k+3),by simp,by rw[t3'],by omega,rfl,hgH.new _,Tl.grow hkp.1 hRl⟩
  ·have hd:decide ((k:Int)<(l.length:Int))=false:=(by simp;omega);have hke:k=l.length:=(by omega);subst hke;rw[List.take_length]at tl;replace zz:=Ak g6 g7 g8 g3 hd;refine wt zz ?_;exact⟨Rs tl,hg⟩
def Bx:ByteArray:=⟨#[97,116,111,109]⟩
def CI:ByteArray:=⟨#[115,97,109,101]⟩
def Bo:ByteArray:=⟨#[97,110,100]⟩
def GR:ByteArray:=⟨#[111,114]⟩
def DR:ByteArray:=⟨#[110,111,116]⟩
def GF:ByteArray:=⟨#[105,109,112,108,121]⟩
def DV:ByteArray:=⟨#[102,111,114,97,108,108]⟩
def HM:ByteArray:=⟨#[101,120,105,115,116,115]⟩
def Ca:ByteArray:=⟨#[61]⟩
def DG:ByteArray:=⟨#[60]⟩
def Db:ByteArray:=⟨#[60,61]⟩
def Ix:ByteArray:=⟨#[62]⟩
def JP:ByteArray:=⟨#[62,61]⟩
def FQ(op:ByteArray):Bool:=A3 op DG||A3 op Db||A3 op Ca
def E8(op:ByteArray):Bool:=A3 op DV||A3 op HM
def Cm:Fm:= .mk ⟨#[]⟩ ⟨#[]⟩ [] [] [] []
def Dz(op:ByteArray)(nk:Nat):Option (Nat × Nat × Bool):=
 if A3 op Bx then some (0,0,false)
 else if A3 op CI then some (0,0,false)
 else if A3 op DG then some (2,0,false)
 else if A3 op Db then some (2,0,false)
 else if A3 op Ca then some (2,0,false)
 else if A3 op Bo then some (0,nk,false)
 else if A3 op GR then some (0,nk,false)
 else if A3 op DR then some (0,1,false)
 else if A3 op GF then some (0,2,false)
 else if A3 op DV then some (0,1,true)
 else if A3 op HM then some (0,1,true)
 else none
def Ez(op name:ByteArray)(args:List ByteArray):Bool:=
 if A3 op Bx then As name&&args.all CH
 else if A3 op CI then HL name&&decide (args.length=2)&&args.all CH
 else HL name&&args.isEmpty
def Hl(p:Pm):Bool:=Ey p.name&&Gj p.type
def FT(op name:ByteArray)(args:List ByteArray)(params:List Pm)(ne nk:Nat):Bool:=
 match Dz op nk with
 |none=>false
 |some (e,m,q)=>Ez op name args&&decide (ne=e)&&decide (nk=m)&&(params.isEmpty||q)&&params.all Hl
def GS:List Ex->Nat->Nat->Bool × Nat
 |[],_,c=>(true,c)
 |e::l,d,c=>match EJ e d c with
  |(true,c')=>GS l d c'
  |(false,c')=>(false,c')
mutual
def FE:Fm->Nat->Nat->Bool × Nat
 | .mk op name args params exprs kids,d,c=>
  if c+1<=4096/\d<=32 then
   (if FT op name args params exprs.length kids.length = true then (match GS exprs (d + 1) (c + 1) with
    |(true,c')=>GG kids (d+1) c'
    |(false,c')=>(false,c'))else(false,c+1))
  else(false,c+1)
def GG:List Fm->Nat->Nat->Bool × Nat
 |[],_,c=>(true,c)
 |k::l,d,c=>match FE k d c with
  |(true,c')=>GG l d c'
  |(false,c')=>(false,c')
end
mutual
def DH:Fm->Bool
 | .mk op name args params exprs kids=>FT op name args params exprs.length kids.length&&exprs.all FD&&K3 kids
def K3:List Fm->Bool
 |[]=>true
 |k::l=>DH k&&K3 l
end
theorem Mo: ∀ {l:List Fm},(K3 l=true↔ ∀ k∈l,DH k=true)
 |[]=>by simp[K3]
 |k::l=>by simp[K3,Mo (l:=l)]
mutual
def Ap:Fm->Sx
 | .mk op name args params exprs kids=>
  if A3 op Bx then Cu name args
  else if A3 op CI then Cu Ca args
  else if FQ op=true then AE (A7 op::exprs.map BI)
  else AE ((if(A3 op Bo&&kids.isEmpty)=true then[]else[A7 op])++(if E8 op=true then[AE (AZ params)]else[])++O3 kids)
def O3:List Fm->List Sx
 |[]=>[]
 |k::l=>Ap k::O3 l
end
theorem Mp: ∀ l:List Fm,O3 l=l.map Ap
 |[]=>rfl
 |k::l=>by simp[O3,Mp l]
def Bh(f:Fm):Bool:=(FE f 0 0).1&&(CM (Ap f) 0 0).1
end Go.Proofs.YtblgchkahpgdjaaGreat
namespace Go.AM
section
variable {P:Program}{ow:Nat->Bool}{n:Nat}{ops:List Oper}{I K:AD->A1->Prop}
theorem Ru: ∀ (l:List Oper)(k:Nat){s:AD}{h:A1},Ei P ow n ops (l.take k) I s h->(∀ s h,I s h->Ei P ow n ops (l.drop k) K s h)->Ei P ow n ops l K s h
 |[],k,s,h,h1,hk=>by
  rw[List.take_nil]at h1;have:=hk s h (by simpa only[Ei]using h1)
  rwa [List.drop_nil]at this
 |o::rest,0,s,h,h1,hk=>hk s h (by simpa only[Ei,List.take_zero]using h1)
 |o::rest,k+1,s,h,h1,hk=>by
  rw[List.take_succ_cons]at h1;simp only[Ei]at h1⊢;refine⟨h1.1,?_⟩;have h3:=h1.2
  clear h1;cases hw:D3 ops s o with
  |none=>rw[hw]at h3;exact h3
  |some b=>
   rw[hw]at h3;simp only at h3⊢;split at h3
   ·rename_i hb;rw[AK hb];exact RK (λs h hh=>Ru rest k hh hk) h3
   ·rename_i hb;rw[A8 hb];exact Ru rest k h3 hk
theorem Rv: ∀ (l:List Oper)(k:Nat){s:AD}{h:A1},E7 P ow n ops (l.take k) I s h->(∀ s h,I s h->E7 P ow n ops (l.drop k) K s h)->E7 P ow n ops l K s h
 |[],k,s,h,h1,hk=>by
  rw[List.take_nil]at h1;have:=hk s h (by simpa only[E7]using h1)
  rwa [List.drop_nil]at this
 |o::rest,0,s,h,h1,hk=>hk s h (by simpa only[E7,List.take_zero]using h1)
 |o::rest,k+1,s,h,h1,hk=>by
  rw[List.take_succ_cons]at h1;simp only[E7]at h1⊢;refine⟨h1.1,?_⟩;have h3:=h1.2
  clear h1;cases hw:D3 ops s o with
  |none=>rw[hw]at h3;exact h3
  |some b=>
   rw[hw]at h3;simp only at h3⊢;split at h3
   ·rename_i hb;rw[AK hb];cases hc:callee (AB s) o.op with
    |none=>
     rw[hc]at h3;simp only at h3⊢;cases he:AX P (o.dst.any ow) o.op (AB s) h with
     |none=>rw[he]at h3;exact h3
     |some r=>
      rw[he]at h3;exact Rv rest k h3 hk
    |some f=>
     rw[hc]at h3;simp only at h3⊢;exact RK (λs h hh=>Ru rest k hh λs h hi=>Jy _ _ _ (hk s h hi)) h3
   ·rename_i hb;rw[A8 hb];exact Rv rest k h3 hk
theorem iA{l:List Oper}{s:AD}{h:A1}(k:Nat)(I:AD->A1->Prop)(h1:E7 P ow n ops (l.take k) I s h)(h2: ∀ s h,I s h->E7 P ow n ops (l.drop k) K s h):E7 P ow n ops l K s h:=Rv l k h1 h2
end
end Go.AM
namespace Go.Proofs.YtblgchkahpgdjaaGreat
open Go.AM Go.Proofs.Tryz
set_option maxHeartbeats 2000000
set_option maxRecDepth 20000
def Ax:Sx->Int
 | .mk k _ _ _ _ _=>k
def Aj:Sx->ByteArray
 | .mk _ _ _ _ t _=>t
def Bt:Sx->Option (ByteArray × List Sx)
 | .mk kind _ _ _ _ kids=>if kind=3 then(match kids with
  |x::rest=>bif Ax x==1 then some (Aj x,rest)else none
  |[]=>none)else none
def Mq:Option (ByteArray × List Sx)->PV
 |some (t,l)=> .Am [A4 t,.A2 6 (Sx.rows l),.sc (.bool true)]
 |none=> .Am [A4 ⟨#[]⟩,.sc (.slice none 0 0),.sc (.bool false)]
theorem Rw{x:Sx}(hok:x.ok)(h:A1):A6 prog 179 [.agg x.cells] h λr h'=>r=Mq (Bt x)/\h'=h:=by
 obtain⟨kind,value,line,col,text,kids⟩:=x;simp only[Sx.ok]at hok;obtain⟨_,_,_,hk,_⟩:=hok;generalize hF:Bt (.mk kind value line col text kids)=F;simp only[Bt]at hF;simp only[Sx.cells];have hlen:=Sx.B4 kids;cases k3:(kind !=3)with
 |true=>
  rw[A8 (by simpa using k3)]at hF;subst hF;refine AF func179 ntmps179 results179 Ty.Pn ?_;refine wm k3 ?_;try exact zI
  all_goals rfl
 |false=>
  rw[AK (by simpa using k3)]at hF;cases kids with
  |nil=>
   simp only at hF;subst hF;have q:(((Sx.rows []).length:Int)==0)=true:=rfl;generalize Sx.rows []=R at q hlen;refine AF func179 ntmps179 results179 Ty.Pn ?_;refine wm (uu k3 q) ?_;try exact zI
   all_goals rfl
  |cons y rest=>
   simp only at hF;have q:(((Sx.rows (y::rest)).length:Int)==0)=false:=(by rw[hlen];simp;omega);have r0:=Sx.CL (l:=y::rest) (i:=0) rfl;have q1:(1:Int)<=((Sx.rows (y::rest)).length:Int):=(by rw[hlen];simp;omega);have ht:List.take (((Sx.rows (y::rest)).length:Int)-1).toNat (List.drop 1 (Sx.rows (y::rest)))=Sx.rows rest:=by
    simp only[Sx.rows,List.drop_succ_cons,List.drop_zero,List.length_cons];rw[List.take_of_length_le (by omega)]
   generalize Sx.rows (y::rest)=R at q r0 q1 ht hlen⊢;obtain⟨ki,va,li,co,te,ks⟩:=y;simp only[Sx.cells,Ax,Aj]at r0 hF;cases k1:(ki !=1)with
   |true=>
    rw[show(ki==1)=false by simpa using k1]at hF;simp only[AL]at hF;subst hF;refine AF func179 ntmps179 results179 Ty.Pn ?_;replace zz:=Aa k3 q r0 k1;refine wm zz ?_;try exact zI
    all_goals rfl
   |false=>
    rw[show(ki==1)=true by simpa using k1]at hF;simp only[AC]at hF;subst hF;refine AF func179 ntmps179 results179 Ty.Pn ?_;replace zz:=BT k3 q r0 k1 q1 ht @CT @Ce;refine wo zz ?_;try exact zI
    all_goals rfl
def CN:List Sx->List ByteArray × Int
 |[]=>([],0)
 |x::l=>bif Ax x==1 then(bif CH (Aj x)then(match CN l with
  |(t,c)=>bif c==0 then(Aj x::t,0)else([],c))else([],8))else([],2)
def AS(c:Int):PV:=bif c==0 then .sc .nilIface else Ao c
theorem VR: ∀ l:List Sx,(CN l).2=0\/((CN l).1=[]/\((CN l).2=2\/(CN l).2=8))
 |[]=> .inl rfl
 |x::l=>by
  have:=VR l;simp only[CN];cases Ax x==1 with
  |false=>simp
  |true=>
   cases CH (Aj x)with
   |false=>simp
   |true=>
    simp only[AC];cases hq:(CN l).2==0 with
    |false=>
     rcases this with h|h
     ·rw [h]at hq;simp at hq
     ·simp only[AL,Fb];exact .inr h.2
    |true=>simp
theorem VT{h:A1}{id0:Nat}{p:PV}{l:List ByteArray}(t:Tl h id0 1 p (AN l)):AJ id0 h (.A2 1 (AN l)) p:=t.CF λr hr p hp=>by
 simp only[AN,List.mem_map]at hr;obtain⟨s,_,rfl⟩:=hr;simp only[List.mem_singleton]at hp;exact⟨_,hp⟩
theorem Rx{l:List Sx}(hl:l.length<=1048576)(hok: ∀ x∈l,x.ok)(h:A1):A6 prog 180 [.A2 6 (Sx.rows l)] h λr h'=>r= .Am [.A2 1 (AN (CN l).1),AS (CN l).2]/\h'=h:=by
 refine A6.CF Ty.V0 ?_;have hll:=Sx.B4 l;refine AF func180 ntmps180 results180 Ty.V0 ?_;refine wt hll ?_;refine CG (λm S h'=>S 7= .A2 6 (Sx.rows l)/\S 8= .sc (.int .i64 l.length)/\ ∃ (k:Nat)(o:PV)(pre:List ByteArray),S 9= .sc (.int .i64 k)/\S 4=o/\k<=l.length/\m=l.length-k/\AH h h'/\pre.length=k/\Tl h' h.next 1 o (AN pre)/\
  CN l=(match CN (l.drop k)with|(t,c)=>bif c==0 then(pre++t,0)else([],c))) l.length ?_ ?_
 ·simp only[Ty.w,simprocAttr];refine⟨0,_,[],rfl,rfl,by omega,rfl,AH.refl _,rfl,Tl.nil,?_⟩;have:=VR l;rw[List.drop_zero];cases hq:(CN l).2==0
  ·rcases this with h|h
   ·rw [h]at hq;simp at hq
   ·simp only[hq,AL];rw[← h.1]
  ·have h0:(CN l).2=0:=(by simpa using hq);simp only[hq,AC,List.nil_append];rw[← h0]
 ·rintro m S h' ⟨g7,g8,k,o,pre,g9,g4,hk,rfl,hg,hpl,tl,hinv⟩;by_cases hlt:k<l.length
  ·have hd:decide ((k:Int)<(l.length:Int))=true:=(by simp;omega);have w7:IntKind.i64.wrap ((k:Int)+1)=k+1:=(by rw[BZ (by omega) (by omega)]);obtain⟨x,hx⟩: ∃ x,l[k]? =some x:=⟨_,List.getElem?_eq_getElem hlt⟩;have hr:=Sx.CL hx;have hxk:=hok x (List.mem_of_getElem? hx);rw[Cd hx]at hinv;simp only[CN]at hinv;obtain⟨ki,va,li,co,te,ks⟩:=x;simp only[Sx.ok]at hxk;obtain⟨_,_,hte,_⟩:=hxk;simp only[Sx.cells]at hr;simp only[Ax,Aj]at hinv;have nz: ∀ id,id<h'.next->(id=h'.next)=False:=λid hi=>by simp;omega
   have tl2:=tl.up (h':=(h'.new (.arr 6 [[.sc (.int .i64 0),.sc (.int .i64 0),.sc (.int .i64 0),.sc (.int .i64 0),.sc (.string ⟨#[]⟩),.sc (.slice none 0 0)]])).set h'.next (.arr 6 [[.sc (.int .i64 ki),.sc (.int .i64 va),.sc (.int .i64 li),.sc (.int .i64 co),A4 te,.A2 6 (Sx.rows ks)]])) (by simp[A1.new,A1.set]) (λj _ hj=>by simp only[A1.new,A1.set];rw[A8 (by omega),A8 (by omega)]);have hg2:AH h ((h'.new (.arr 6 [[.sc (.int .i64 0),.sc (.int .i64 0),.sc (.int .i64 0),.sc (.int .i64 0),.sc (.string ⟨#[]⟩),.sc (.slice none 0 0)]])).set h'.next (.arr 6 [[.sc (.int .i64 ki),.sc (.int .i64 va),.sc (.int .i64 li),.sc (.int .i64 co),A4 te,.A2 6 (Sx.rows ks)]])):=(hg.new _).set hg.le _;cases q1:(ki !=1)with
   |true=>
    rw[show(ki==1)=false by simpa using q1]at hinv;simp only[AL]at hinv;replace zz:=Ah g7 g8 g9 g4 hd hr q1;refine wt zz ?_;have e:CN l=([],2):=hinv;have e2:AS 2=Ao 2:=rfl;rw[e,e2];refine⟨?_,hg2⟩;simp only[Ao,AJ,AP];exact⟨_,rfl,.inr (.inl ⟨rfl,.inr rfl⟩),rfl,trivial⟩
   |false=>
    rw[show(ki==1)=true by simpa using q1]at hinv;simp only[AC]at hinv;have hc:=λh:A1=>Ro (h:=h) hte;generalize CH te=b at hc hinv;cases b with
    |false=>
     simp only[AL]at hinv;replace zz:=Ah g7 g8 g9 g4 hd hr q1;refine wt zz ?_;replace zz:=BT g7 g8 g9 g4 hd hr q1 yF;refine uU zz (hc _) ?_;replace zz:=Ak g7 g8 g9 g4 yF;refine wt zz ?_;have e:CN l=([],8):=hinv;have e2:AS 8=Ao 8:=rfl;rw[e,e2];refine⟨?_,hg2⟩;simp only[Ao,AJ,AP];exact⟨_,rfl,.inr (.inl ⟨rfl,.inr rfl⟩),rfl,trivial⟩
    |true=>
     simp only[AC]at hinv;obtain⟨H,t1,t2,t3,t4,t5⟩:=tl2.tail;have hpr:(AN pre).length=k:=(by rw[GP];exact hpl);have hb:(k+1)*16<=140737488355328:=(by omega);replace zz:=Ah g7 g8 g9 g4 hd hr q1;refine wt zz ?_;replace zz:=BT g7 g8 g9 g4 hd hr q1 yT;refine uU zz (hc _) ?_;replace zz:=B9 g7 g8 g9 g4 w7 yT t1 t2 hpr hb;(repeat'(first|refine cK ?_|refine nK ?_|refine uR zz ?_|refine uQ zz λK hK=>?_|refine uK ?_|refine C2 zz ?_|(refine uN hK ?_;clear hK)|(rw[AK];rotate_left 1;omega;simp only[Ty.w,simprocAttr,g7,g8,g9,g4,w7,Av,t1,t2,hpr,hb])|apply zI));have t3':H.next=h'.next+1:=by rw[t3];simp[A1.new,A1.set]
     have hkp:=t5 h ⟨hg2.le,hg2.B6⟩ (AG _);have hgH:AH h H:=⟨hkp.1,hkp.2⟩;have hap:AN pre++[[PV.sc (.string te)]]=AN (pre++[te]):=(by simp[AN]);rw[hap];refine⟨l.length-(k+1),by omega,k+1,.own H.next 0 (k+1),pre++[te],by simp,by rw[t3'],by omega,rfl,hgH.new _,by simp[hpl],Tl.grow hkp.1 (by rw[GP];simp[hpl]),?_⟩;rw[hinv];generalize CN (List.drop (k+1) l)=W;obtain⟨t,c⟩:=W;cases hq:c==0 with
     |false=>simp only[hq,AL]
     |true=>simp only[hq,AC,D8,List.append_assoc,List.cons_append,List.nil_append]
  ·have hd:decide ((k:Int)<(l.length:Int))=false:=(by simp;omega);rw[List.drop_eq_nil_of_le (by omega)]at hinv;simp only[CN,D8,AC,List.append_nil]at hinv;replace zz:=Ak g7 g8 g9 g4 hd;refine wt zz ?_;have e:CN l=(pre,0):=hinv;have e2:AS 0= .sc .nilIface:=rfl;rw[e,e2];refine⟨?_,hg⟩;have h1:=VT tl;unfold AJ;refine⟨_,rfl,?_⟩;unfold AP;refine⟨h1,?_⟩;unfold AP;exact⟨by simp only[AJ],by simp only[AP]⟩
end Go.Proofs.YtblgchkahpgdjaaGreat
namespace Go.Proofs.YtblgchkahpgdjaaGreat
open Go.AM Go.Proofs.Tryz
set_option maxHeartbeats 2000000
set_option maxRecDepth 20000
def EK(op:ByteArray):Int:=
 if(op.data.toList==(#[110,111,116]:Array UInt8).toList)then 1
 else if(op.data.toList==(#[105,109,112,108,121]:Array UInt8).toList)then 2
 else if(op.data.toList==(#[102,111,114,97,108,108]:Array UInt8).toList)then 2
 else if(op.data.toList==(#[101,120,105,115,116,115]:Array UInt8).toList)then 2
 else if(op.data.toList==(#[61]:Array UInt8).toList)then 2
 else if(op.data.toList==(#[60]:Array UInt8).toList)then 2
 else if(op.data.toList==(#[60,61]:Array UInt8).toList)then 2
 else if(op.data.toList==(#[62]:Array UInt8).toList)then 2
 else if(op.data.toList==(#[62,61]:Array UInt8).toList)then 2
 else-1
theorem iB{h:A1}{op:ByteArray}:A6 prog 181 [A4 op] h λr h'=>r= .sc (.int .i64 (EK op))/\h'=h:=by
 generalize hF:EK op=F;unfold EK at hF;cases c0:(op.data.toList==(#[110,111,116]:Array UInt8).toList)with
 |true=>
  rw[c0]at hF;simp only[AO]at hF;subst hF;refine AF func181 ntmps181 results181 Ty.JM ?_;exact wz c0
 |false=>
  rw[c0]at hF;simp only[BR,AQ]at hF;cases c1:(op.data.toList==(#[105,109,112,108,121]:Array UInt8).toList)with
  |true=>
   rw[c1]at hF;simp only[AO]at hF;subst hF;refine AF func181 ntmps181 results181 Ty.JM ?_;exact wz (uu c0 c1)
  |false=>
   rw[c1]at hF;simp only[BR,AQ]at hF;cases c2:(op.data.toList==(#[102,111,114,97,108,108]:Array UInt8).toList)with
   |true=>
    rw[c2]at hF;simp only[AO]at hF;subst hF;refine AF func181 ntmps181 results181 Ty.JM ?_;exact wz (AY c0 c1 c2)
   |false=>
    rw[c2]at hF;simp only[BR,AQ]at hF;cases c3:(op.data.toList==(#[101,120,105,115,116,115]:Array UInt8).toList)with
    |true=>
     rw[c3]at hF;simp only[AO]at hF;subst hF;refine AF func181 ntmps181 results181 Ty.JM ?_;replace zz:=Aa c0 c1 c2 c3;exact wz zz
    |false=>
     rw[c3]at hF;simp only[BR,AQ]at hF;cases c4:(op.data.toList==(#[61]:Array UInt8).toList)with
     |true=>
      rw[c4]at hF;simp only[AO]at hF;subst hF;refine AF func181 ntmps181 results181 Ty.JM ?_;replace zz:=Ak c0 c1 c2 c3 c4;exact wz zz
     |false=>
      rw[c4]at hF;simp only[BR,AQ]at hF;cases c5:(op.data.toList==(#[60]:Array UInt8).toList)with
      |true=>
       rw[c5]at hF;simp only[AO]at hF;subst hF;refine AF func181 ntmps181 results181 Ty.JM ?_;replace zz:=Al c0 c1 c2 c3 c4 c5;exact wz zz
      |false=>
       rw[c5]at hF;simp only[BR,AQ]at hF;cases c6:(op.data.toList==(#[60,61]:Array UInt8).toList)with
       |true=>
        rw[c6]at hF;simp only[AO]at hF;subst hF;refine AF func181 ntmps181 results181 Ty.JM ?_;replace zz:=Ah c0 c1 c2 c3 c4 c5 c6;exact wz zz
       |false=>
        rw[c6]at hF;simp only[BR,AQ]at hF;cases c7:(op.data.toList==(#[62]:Array UInt8).toList)with
        |true=>
         rw[c7]at hF;simp only[AO]at hF;subst hF;refine AF func181 ntmps181 results181 Ty.JM ?_;replace zz:=BT c0 c1 c2 c3 c4 c5 c6 c7;exact wz zz
        |false=>
         rw[c7]at hF;simp only[BR,AQ]at hF;cases c8:(op.data.toList==(#[62,61]:Array UInt8).toList)with
         |true=>
          rw[c8]at hF;simp only[AO]at hF;subst hF;refine AF func181 ntmps181 results181 Ty.JM ?_;replace zz:=BO c0 c1 c2 c3 c4 c5 c6 c7 c8;exact wz zz
         |false=>
          rw[c8]at hF;simp only[BR,AQ]at hF;subst hF;refine AF func181 ntmps181 results181 Ty.JM ?_;replace zz:=BO c0 c1 c2 c3 c4 c5 c6 c7 c8;exact wz zz
end Go.Proofs.YtblgchkahpgdjaaGreat
namespace Go.Proofs.YtblgchkahpgdjaaGreat
open Go.AM Go.Proofs.Tryz
def Iy(w:ByteArray):Bool:=A3 w Ly||A3 w GD||A3 w Lz
def By:Ex:= .mk ⟨#[]⟩ ⟨#[]⟩ 0 [] []
def Bi:Sx->Ex × Int
 | .mk kind value _ _ _ kids=>
  if kind=2 then(.mk Iv ⟨#[]⟩ value [] [],0)
  else if kind=3 then(match kids with
   | x :: rest => bif Ax x == 1 then
     (bif Iy (Aj x) then (match rest with
      |[a,b]=>(match Bi a with
       | (ea, ca) => bif ca == 0 then (match Bi b with
        |(eb,cb)=>bif cb==0 then(.mk (Aj x) ⟨#[]⟩ 0 [] [ea,eb],0)else(By,cb))else(By,ca))
      |_=>(By,2))
     else bif As (Aj x)then(match CN rest with
      |(t,c)=>bif c==0 then(.mk Iw (Aj x) 0 t [],0)else(By,c))else(By,8))
    else(By,2)
   |[]=>(By,2))else(By,2)
termination_by x=>SizeOf.sizeOf x
decreasing_by all_goals(simp_wf;omega)
theorem E9{a b:ByteArray}(h:A3 a b=true):a=b:=Ri (by simpa[A3]using h)
theorem O4: ∀ l:List ByteArray,l.all CH=true->CN (l.map A7)=(l,0)
 |[],_=>rfl
 |s::l,h=>by
  simp only[List.all_cons,AV]at h;have h1:Ax (A7 s)=1:=rfl;have h2:Aj (A7 s)=s:=rfl;simp only[List.map_cons,CN,h1,h2,h.1,O4 l h.2,D8,AC]
theorem iC{s:ByteArray}(h:As s=true):Iy s=false:=by
 have hb:II s.data.toList=true:=by
  unfold As at h;simp only[AV]at h;exact h.1.1.1
 have hn: ∀ c:UInt8,EY c=false->A3 s ⟨#[c]⟩=false:=by
  intro c hc;cases he:A3 s ⟨#[c]⟩with
  |false=>rfl
  |true=>
   have:=E9 he;subst this;simp[II,hc]at hb
 unfold Iy Ly GD Lz;rw[hn 43 (by decide),hn 45 (by decide),hn 42 (by decide)];try rfl
theorem Ry: ∀ e:Ex,FD e=true->Bi (BI e)=(e,0):=by
 refine Ex.ind ?_;intro op name v args kids ih hs;unfold FD at hs;unfold BI;cases c1:A3 op Iv with
 |true=>
  rw[c1]at hs;simp only[AO,AV,List.isEmpty_iff]at hs⊢;obtain⟨⟨⟨h1,rfl⟩,rfl⟩,_⟩:=hs;have h2:=E9 c1;have h3:name=⟨#[]⟩:=E9 h1;subst h2;subst h3;unfold Bi;simp
 |false=>
  rw[c1]at hs;simp only[BR,AQ]at hs⊢;cases c2:A3 op Iw with
  |true=>
   rw[c2]at hs;simp only[AO,AV,List.isEmpty_iff,Bg]at hs⊢;obtain⟨⟨⟨rfl,rfl⟩,h1⟩,h2⟩:=hs;have h3:=E9 c2;subst h3;unfold Bi Cu AE;have k1:Ax (A7 name)=1:=rfl;have k2:Aj (A7 name)=name:=rfl;simp only[List.map_cons,k1,k2,iC h1,h1,O4 args h2,D8,AC,AL];simp
  |false=>
   rw[c2]at hs;simp only[BR,AQ]at hs⊢;split at hs
   case isFalse=>simp at hs
   rename_i hop;simp only[AV,List.isEmpty_iff,Bg]at hs;obtain⟨⟨⟨rfl,h1⟩,rfl⟩,h2⟩:=hs;split at h2
   case h_2=>simp at h2
   rename_i a b;simp only[AV]at h2;have h3:name=⟨#[]⟩:=E9 h1;subst h3;unfold Bi AE;have k1:Ax (A7 op)=1:=rfl;have k2:Aj (A7 op)=op:=rfl;have k3:Iy op=true:=hop;simp only[k1,k2,k3,ih a (by simp) h2.1,ih b (by simp) h2.2,D8,AC];simp
end Go.Proofs.YtblgchkahpgdjaaGreat
namespace Go.Proofs.YtblgchkahpgdjaaGreat
open Go.AM Go.Proofs.Tryz
set_option maxHeartbeats 4000000
set_option maxRecDepth 20000
theorem Rz(x:Sx):Bi x=(bif Ax x==2 then(match x with| .mk _ v _ _ _ _=>(.mk Iv ⟨#[]⟩ v [] [],0))else(match Bt x with
  |none=>(By,2)
  |some (w,rest)=>bif Iy w then(match rest with
    |[a,b]=>(match Bi a with
     | (ea, ca) => bif ca == 0 then (match Bi b with
      |(eb,cb)=>bif cb==0 then(.mk w ⟨#[]⟩ 0 [] [ea,eb],0)else(By,cb))else(By,ca))
    |_=>(By,2))
   else bif As w then(match CN rest with
    |(t,c)=>bif c==0 then(.mk Iw w 0 t [],0)else(By,c))else(By,8))):=by
 obtain⟨kind,value,line,col,text,kids⟩:=x
 conv=>lhs;unfold Bi
 have kk:Ax (.mk kind value line col text kids)=kind:=rfl;rw[kk];simp only[Bt];cases h2:kind==2 with
 |true=>
  rw[AK (by simpa using h2)];try rfl
 |false=>
  rw[A8 (by simpa using h2)];simp only[AL];by_cases h3:kind=3
  ·rw [AK h3,AK h3];cases kids with
   |nil=>rfl
   |cons y rest=>cases hk:Ax y==1<;>simp only[hk,AC,AL]<;>rfl
  ·rw [A8 h3,A8 h3]
theorem S0{x:Sx}{w:ByteArray}{rest:List Sx}(hok:x.ok)(h:Bt x=some (w,rest)):w.size<=AI/\ ∀ y∈rest,y.ok:=by
 obtain⟨kind,value,line,col,text,kids⟩:=x;simp only[Sx.ok]at hok;obtain⟨_,_,_,_,hks⟩:=hok;simp only[Bt]at h;split at h
 ·cases kids with
  |nil=>simp at h
  |cons y r=>
   simp only[Sx.DJ]at hks;simp only at h;cases hk:Ax y==1 with
   |false=>rw[hk]at h;simp at h
   |true=>
    rw[hk]at h;simp only[AC,BD,C4]at h;obtain⟨rfl,rfl⟩:=h;refine⟨?_,Sx.Bz.1 hks.2⟩;obtain⟨_,_,_,_,t,_⟩:=y;simp only[Sx.ok]at hks;exact hks.1.2.2.1
 ·simp at h
theorem Pu(n:Nat): ∀ e:Ex,Br n e.cells:=by
 have hs: ∀ l:List ByteArray,BC n (AN l):=by
  intro l
  induction l with
  |nil=>simp only[AN,List.map_nil,BC]
  |cons a l ih=>simp only[AN,List.map_cons,BC,Br,Be,Dh,Fb]at ih⊢;exact ih
 refine Ex.ind ?_;intro op name v args kids ih;have:BC n (Ex.rows kids):=by
  clear op name v args
  induction kids with
  |nil=>simp only[Ex.rows,BC]
  |cons k ks ih2=>
   simp only[Ex.rows,BC];exact⟨ih k (by simp),ih2 λq hq=>ih q (by simp[hq])⟩
 simp only[Ex.cells,Br,Be,Dh,Fb];exact⟨hs args,this⟩
theorem Dc(n:Nat)(l:List ByteArray):BC n (AN l):=by
 induction l with
 |nil=>simp only[AN,List.map_nil,BC]
 |cons a l ih=>simp only[AN,List.map_cons,BC,Br,Be,Dh,Fb]at ih⊢;exact ih
theorem S1{x:Sx}(hok:x.ok)(hsm: ∀ w rest,Bt x=some (w,rest)->rest.length<=1048576)(hpm:Ax x=2\/ ∀ w rest,Bt x=some (w,rest)->Iy w=false)(h:A1):
  A6 prog 168 [.agg x.cells] h λr h'=>r= .Am [.agg (Bi x).1.cells,AS (Bi x).2]/\h'=h:=by
 refine A6.CF Ty.Kq ?_;have hh:=Rw hok;have hX:=Rz x;generalize Bi x=F at hX;have hho:=λw rest e=>S0 (w:=w) (rest:=rest) hok e;generalize Bt x=M at hh hX hsm hpm hho;obtain⟨kind,value,line,col,text,kids⟩:=x;have kk:Ax (.mk kind value line col text kids)=kind:=rfl;rw[kk]at hX hpm;simp only[Sx.cells]at hh⊢;cases k2:(kind==2)with
 |true=>
  simp only[k2,AC]at hX;subst hX;refine AF func168 ntmps168 results168 Ty.Kq ?_;refine wt k2 ?_;refine⟨?_,((AH.refl h).new _).set (AG _) _⟩;simp only[AS,D8,AC,Iv,Ex.cells,Ex.rows,AN,List.map_nil,AJ,AP];exact⟨_,rfl,⟨_,rfl,rfl,rfl,rfl,.inr (.inl ⟨rfl,.inr rfl⟩),.inr (.inl ⟨rfl,.inr rfl⟩),trivial⟩,rfl,trivial⟩
 |false=>
  have hk2:¬ kind=2:=by simpa using k2
  simp only[k2,AL]at hX;have hpm:=hpm.resolve_left hk2;cases M with
  |none=>
   simp only at hX;subst hX;simp only[Mq]at hh;refine AF func168 ntmps168 results168 Ty.Kq ?_;refine wt k2 ?_;refine uU (uu k2 yF) (hh _) ?_;refine wt (uu k2 yF) ?_;refine⟨?_,((AH.refl h).new _).set (AG _) _⟩;have e2:AS 2=Ao 2:=rfl;simp only[e2,Ao,By,Ex.cells,Ex.rows,AN,List.map_nil,AJ,AP];exact⟨_,rfl,⟨_,rfl,rfl,rfl,rfl,.inr (.inl ⟨rfl,.inr rfl⟩),.inr (.inl ⟨rfl,.inr rfl⟩),trivial⟩,rfl,trivial⟩
  |some wr=>
   obtain⟨w,rest⟩:=wr;have hp:=hpm w rest rfl;obtain⟨hw,hr⟩:=hho w rest rfl;have hl:=hsm w rest rfl;have hw':w.size<=9223372036854775807:=(by unfold AI at hw;omega);simp only[hp,AL]at hX;simp only[Mq]at hh;have hp':=hp;unfold Iy Ly GD Lz A3 at hp';rw[TJ,TJ]at hp';obtain⟨⟨p1,p2⟩,p3⟩:=hp';have hn:=λh:A1=>FP (h:=h) hw';generalize As w=b at hn hX;cases b with
   |false=>
    simp only[AL]at hX;subst hX;refine AF func168 ntmps168 results168 Ty.Kq ?_;refine wt k2 ?_;refine uU (uu k2 yT) (hh _) ?_;replace zz:=Al k2 p1 p2 p3 yT yF;refine wt zz ?_;refine uU (uu k2 yF) (hn _) ?_;refine wt (uu k2 yF) ?_;refine⟨?_,((AH.refl h).new _).set (AG _) _⟩;have e2:AS 8=Ao 8:=rfl;simp only[e2,Ao,By,Ex.cells,Ex.rows,AN,List.map_nil,AJ,AP];exact⟨_,rfl,⟨_,rfl,rfl,rfl,rfl,.inr (.inl ⟨rfl,.inr rfl⟩),.inr (.inl ⟨rfl,.inr rfl⟩),trivial⟩,rfl,trivial⟩
   |true=>
    simp only[AC]at hX;have ht:=Rx hl hr;generalize CN rest=T at ht hX;obtain⟨t,c⟩:=T;simp only at ht hX;cases hc:c==0 with
    |true=>
     rw[hc,AC]at hX;subst hX;have e0:AS c= .sc .nilIface:=(by simp only[AS,hc,AC]);rw[e0]at ht;refine AF func168 ntmps168 results168 Ty.Kq ?_;refine wt k2 ?_;refine uU (uu k2 yT) (hh _) ?_;replace zz:=Al k2 p1 p2 p3 yT yF;refine wt zz ?_;refine uU (uu k2 yT) (hn _) ?_;refine wt (uu k2 yT) ?_;refine uU k2 (ht _) ?_;refine wt (uu k2 yT) ?_;refine⟨?_,((AH.refl h).new _).set (AG _) _⟩;have e2:AS 0= .sc .nilIface:=rfl;rw[e2];simp only[Iw,Ex.cells,Ex.rows,AJ,AP];exact⟨_,rfl,⟨_,rfl,rfl,rfl,rfl,.inl ⟨rfl,Dc _ _⟩,.inr (.inl ⟨rfl,.inr rfl⟩),trivial⟩,rfl,trivial⟩
    |false=>
     rw[hc,AL]at hX;subst hX;have e0:AS c=Ao c:=(by simp only[AS,hc,AL]);rw[e0]at ht⊢;simp only[Ao]at ht⊢;refine AF func168 ntmps168 results168 Ty.Kq ?_;refine wt k2 ?_;refine uU (uu k2 yT) (hh _) ?_;replace zz:=Al k2 p1 p2 p3 yT yF;refine wt zz ?_;refine uU (uu k2 yT) (hn _) ?_;refine wt (uu k2 yT) ?_;refine uU k2 (ht _) ?_;refine wt (uu k2 yF) ?_;refine⟨?_,((AH.refl h).new _).set (AG _) _⟩;simp only[By,Ex.cells,Ex.rows,AN,List.map_nil,AJ,AP];exact⟨_,rfl,⟨_,rfl,rfl,rfl,rfl,.inr (.inl ⟨rfl,.inr rfl⟩),.inr (.inl ⟨rfl,.inr rfl⟩),trivial⟩,rfl,trivial⟩
end Go.Proofs.YtblgchkahpgdjaaGreat
namespace Go.Proofs.YtblgchkahpgdjaaGreat
open Go.AM Go.Proofs.Tryz
set_option maxHeartbeats 4000000
set_option maxRecDepth 20000
theorem B1(n:Nat):(n=n+1)=False:=by simp
theorem S2{g:FuncId}{l m:List Ex}(hl:l.length<=AI)(hf: ∀ a∈l, ∀ b∈m, ∀ h:A1,A6 prog g [.agg a.cells,.agg b.cells] h λr h'=>r= .sc (.bool (a.same b))/\h'=h)(h:A1):
  A6 prog 138 [.A2 5 (Ex.rows l),.A2 5 (Ex.rows m),.sc (.func (.func g) #[] #[])] h λr h'=>r= .sc (.bool (Ex.DM l m))/\h'=h:=by
 unfold AI at hl;have hll:=Ex.B4 l;have hlm:=Ex.B4 m;refine A6.quiet Ty.Uo ?_;refine AF func138 ntmps138 results138 Ty.Uo ?_;cases hne:((l.length:Int) !=m.length)with
 |true=>
  have:Ex.DM l m=false:=Ex.Ov (by simp at hne;omega);refine wt (AY hll hlm hne) ?_;rw[this];exact⟨rfl,AH.refl _⟩
 |false=>
  have hlen:l.length=m.length:=by simp at hne;omega
  refine wt (AY hll hlm hne) ?_;refine CG (λc S h'=>AH h h'/\S 1= .A2 5 (Ex.rows m)/\S 2= .sc (.func (.func g) #[] #[])/\S 15= .A2 5 (Ex.rows l)/\S 16= .sc (.int .i64 l.length)/\ ∃ k:Nat,S 17= .sc (.int .i64 k)/\k<=l.length/\c=l.length-k/\Ex.DM l m=Ex.DM (l.drop k) (m.drop k)) l.length ?_ ?_
  ·simp only[Ty.w,simprocAttr];exact⟨AH.refl _,0,rfl,by omega,rfl,by simp⟩
  ·rintro c S h' ⟨hg,g1,g2,g15,g16,k,gk,hkl,rfl,hinv⟩;by_cases hlt:k<l.length
   ·have hd:decide ((k:Int)<(l.length:Int))=true:=(by simp;omega);have w7:IntKind.i64.wrap ((k:Int)+1)=k+1:=(by rw[BZ (by omega) (by omega)]);obtain⟨a,hx⟩: ∃ a,l[k]? =some a:=⟨_,List.getElem?_eq_getElem hlt⟩;obtain⟨b,hy⟩: ∃ b,m[k]? =some b:=⟨_,List.getElem?_eq_getElem (by omega)⟩;have hc:=hf a (List.mem_of_getElem? hx) b (List.mem_of_getElem? hy);rw[Cd hx,Cd hy]at hinv;simp only[Ex.DM]at hinv;have hr:=Ex.CL hx;have hr2:=Ex.CL hy;generalize he:a.same b=e at hc hinv;clear he hf;obtain⟨op2,name2,n2,args2,kids2⟩:=a;obtain⟨op3,name3,n3,args3,kids3⟩:=b;simp only[Ex.cells]at hr hr2 hc;replace zz:=Ab g1 g2 g15 g16 gk hll hlm hd hr hr2 w7 @B1;refine wy zz ?_;refine Jz (sq g2) (hc _) (by simp only[Ty.w,simprocAttr,g1,g2,g15,g16,gk];try rfl) ?_;simp only[Ty.w,simprocAttr,Ty.AW];cases e with
    |false=>
     replace zz:=Ah g1 g2 g15 g16 gk w7 yF;refine wy zz ?_;rw[hinv];exact⟨rfl,(((hg.new _).set hg.le _).new _).set (I7 hg.le) _⟩
    |true=>
     replace zz:=Ah g1 g2 g15 g16 gk w7 yT;refine wy zz ?_;rw[BG]at hinv;exact⟨l.length-(k+1),by omega,(((hg.new _).set hg.le _).new _).set (I7 hg.le) _,k+1,by simp,by omega,rfl,hinv⟩
   ·have hd:decide ((k:Int)<(l.length:Int))=false:=(by simp;omega);rw[List.drop_eq_nil_of_le (by omega),List.drop_eq_nil_of_le (by omega)]at hinv;simp only[Ex.DM]at hinv;replace zz:=Ah g1 g2 g15 g16 gk hll hd;refine wt zz ?_;rw[hinv];exact⟨rfl,hg⟩
theorem iD: ∀ a:Ex,a.ok-> ∀ b:Ex,b.ok-> ∀ h:A1,A6 prog 139 [.agg a.cells,.agg b.cells] h λr h'=>r= .sc (.bool (a.same b))/\h'=h:=by
 refine Ex.ind ?_;intro op name n args kids ih hok;rintro⟨op3,name3,n3,args3,kids3⟩ hok3 h;simp only[Ex.ok]at hok hok3;obtain⟨_,_,_,⟨ha,_⟩,hk,hks⟩:=hok;obtain⟨_,_,_,⟨ha3,_⟩,hk3,hks3⟩:=hok3;rw[Ex.Bz]at hks hks3;have hfk: ∀ a∈kids, ∀ b∈kids3, ∀ h:A1,A6 prog 139 [.agg a.cells,.agg b.cells] h λr h'=>r= .sc (.bool (a.same b))/\h'=h:=λa ha b hb=>ih a ha (hks a ha) b (hks3 b hb)
 clear ih;simp only[Ex.cells];refine AF func139 ntmps139 results139 Ty.gO ?_;cases e0:(op.data.toList==op3.data.toList)with
 |false=>
  have hs:(Ex.mk op name n args kids).same (.mk op3 name3 n3 args3 kids3)=false:=by simp only[Ex.same,A3,e0,BF,BH]
  refine wt e0 ?_;rw[hs]
 |true=>
  cases e1:(name.data.toList==name3.data.toList)with
  |false=>
   have hs:(Ex.mk op name n args kids).same (.mk op3 name3 n3 args3 kids3)=false:=(by simp only[Ex.same,A3,e0,e1,BF,BH]);refine wt (uu e0 e1) ?_;rw[hs]
  |true=>
   cases e2:(n==n3)with
   |false=>
    have hs:(Ex.mk op name n args kids).same (.mk op3 name3 n3 args3 kids3)=false:=(by simp only[Ex.same,A3,e0,e1,e2,BF,BH]);refine wt (AY e0 e1 e2) ?_;rw[hs]
   |true=>
    refine wt (AY e0 e1 e2) ?_;cases e3:FO args args3 with
    |false=>
     have hs:(Ex.mk op name n args kids).same (.mk op3 name3 n3 args3 kids3)=false:=(by simp only[Ex.same,A3,e0,e1,e2,e3,BF,BH]);replace zz:=Aa e0 e1 e2 e3;refine uU zz (Ny (l:=args) (m:=args3) ha ha3) ?_;refine wt zz ?_;rw[hs]
    |true=>
     replace zz:=Aa e0 e1 e2 e3;refine uU zz (Ny (l:=args) (m:=args3) ha ha3) ?_;refine wt zz ?_;have hs:(Ex.mk op name n args kids).same (.mk op3 name3 n3 args3 kids3)=Ex.DM kids kids3:=(by simp only[Ex.same,A3,e0,e1,e2,e3,BG]);replace zz:=Aa e0 e1 e2 e3;refine uU zz (S2 hk hfk _) ?_;refine wt zz ?_;rw[hs]
theorem iE{g:FuncId}{l m:List Fm}(hl:l.length<=AI)(hf: ∀ a∈l, ∀ b∈m, ∀ h:A1,A6 prog g [.agg a.cells,.agg b.cells] h λr h'=>r= .sc (.bool (a.same b))/\h'=h)(h:A1):
  A6 prog 140 [.A2 6 (Fm.rows l),.A2 6 (Fm.rows m),.sc (.func (.func g) #[] #[])] h λr h'=>r= .sc (.bool (Fm.DM l m))/\h'=h:=by
 unfold AI at hl;have hll:=Fm.B4 l;have hlm:=Fm.B4 m;refine A6.quiet Ty.Up ?_;refine AF func140 ntmps140 results140 Ty.Up ?_;cases hne:((l.length:Int) !=m.length)with
 |true=>
  have:Fm.DM l m=false:=Fm.Ov (by simp at hne;omega);refine wt (AY hll hlm hne) ?_;rw[this];exact⟨rfl,AH.refl _⟩
 |false=>
  have hlen:l.length=m.length:=by simp at hne;omega
  refine wt (AY hll hlm hne) ?_;refine CG (λc S h'=>AH h h'/\S 1= .A2 6 (Fm.rows m)/\S 2= .sc (.func (.func g) #[] #[])/\S 15= .A2 6 (Fm.rows l)/\S 16= .sc (.int .i64 l.length)/\ ∃ k:Nat,S 17= .sc (.int .i64 k)/\k<=l.length/\c=l.length-k/\Fm.DM l m=Fm.DM (l.drop k) (m.drop k)) l.length ?_ ?_
  ·simp only[Ty.w,simprocAttr];exact⟨AH.refl _,0,rfl,by omega,rfl,by simp⟩
  ·rintro c S h' ⟨hg,g1,g2,g15,g16,k,gk,hkl,rfl,hinv⟩;by_cases hlt:k<l.length
   ·have hd:decide ((k:Int)<(l.length:Int))=true:=(by simp;omega);have w7:IntKind.i64.wrap ((k:Int)+1)=k+1:=(by rw[BZ (by omega) (by omega)]);obtain⟨a,hx⟩: ∃ a,l[k]? =some a:=⟨_,List.getElem?_eq_getElem hlt⟩;obtain⟨b,hy⟩: ∃ b,m[k]? =some b:=⟨_,List.getElem?_eq_getElem (by omega)⟩;have hc:=hf a (List.mem_of_getElem? hx) b (List.mem_of_getElem? hy);rw[Cd hx,Cd hy]at hinv;simp only[Fm.DM]at hinv;have hr:=Fm.CL hx;have hr2:=Fm.CL hy;generalize he:a.same b=e at hc hinv;clear he hf;obtain⟨op2,name2,args2,params2,VU,kids2⟩:=a;obtain⟨op3,name3,args3,params3,exprs3,kids3⟩:=b;simp only[Fm.cells]at hr hr2 hc;replace zz:=Ab g1 g2 g15 g16 gk hll hlm hd hr hr2 w7 @B1;refine wy zz ?_;refine Jz (sq g2) (hc _) (by simp only[Ty.w,simprocAttr,g1,g2,g15,g16,gk];try rfl) ?_;simp only[Ty.w,simprocAttr,Ty.AW];cases e with
    |false=>
     replace zz:=Ah g1 g2 g15 g16 gk w7 yF;refine wy zz ?_;rw[hinv];exact⟨rfl,(((hg.new _).set hg.le _).new _).set (I7 hg.le) _⟩
    |true=>
     replace zz:=Ah g1 g2 g15 g16 gk w7 yT;refine wy zz ?_;rw[BG]at hinv;exact⟨l.length-(k+1),by omega,(((hg.new _).set hg.le _).new _).set (I7 hg.le) _,k+1,by simp,by omega,rfl,hinv⟩
   ·have hd:decide ((k:Int)<(l.length:Int))=false:=(by simp;omega);rw[List.drop_eq_nil_of_le (by omega),List.drop_eq_nil_of_le (by omega)]at hinv;simp only[Fm.DM]at hinv;replace zz:=Ah g1 g2 g15 g16 gk hll hd;refine wt zz ?_;rw[hinv];exact⟨rfl,hg⟩
theorem Iz: ∀ a:Fm,a.ok-> ∀ b:Fm,b.ok-> ∀ h:A1,A6 prog 98 [.agg a.cells,.agg b.cells] h λr h'=>r= .sc (.bool (a.same b))/\h'=h:=by
 refine Fm.ind ?_;intro op name args params exprs kids ih hok;rintro⟨op3,name3,args3,params3,exprs3,kids3⟩ hok3 h;simp only[Fm.ok]at hok hok3;obtain⟨_,_,⟨ha,_⟩,⟨hp,_⟩,⟨he,hes⟩,hk,hks⟩:=hok;obtain⟨_,_,⟨ha3,_⟩,⟨hp3,_⟩,⟨he3,hes3⟩,hk3,hks3⟩:=hok3;rw[Fm.Bz]at hks hks3;have hfk: ∀ a∈kids, ∀ b∈kids3, ∀ h:A1,A6 prog 98 [.agg a.cells,.agg b.cells] h λr h'=>r= .sc (.bool (a.same b))/\h'=h:=λa ha b hb=>ih a ha (hks a ha) b (hks3 b hb);rw[Ex.Bz]at hes hes3;have hfe: ∀ a∈exprs, ∀ b∈exprs3, ∀ h:A1,A6 prog 139 [.agg a.cells,.agg b.cells] h λr h'=>r= .sc (.bool (a.same b))/\h'=h:=λa ha b hb=>iD a (hes a ha) b (hes3 b hb)
 clear ih;simp only[Fm.cells];refine AF func98 ntmps98 results98 Ty.fg ?_;cases e0:(op.data.toList==op3.data.toList)with
 |false=>
  have hs:(Fm.mk op name args params exprs kids).same (.mk op3 name3 args3 params3 exprs3 kids3)=false:=by simp only[Fm.same,A3,e0,BF,BH]
  refine wt e0 ?_;rw[hs]
 |true=>
  cases e1:(name.data.toList==name3.data.toList)with
  |false=>
   have hs:(Fm.mk op name args params exprs kids).same (.mk op3 name3 args3 params3 exprs3 kids3)=false:=(by simp only[Fm.same,A3,e0,e1,BF,BH]);refine wt (uu e0 e1) ?_;rw[hs]
  |true=>
   refine wt (uu e0 e1) ?_;cases e2:FO args args3 with
   |false=>
    have hs:(Fm.mk op name args params exprs kids).same (.mk op3 name3 args3 params3 exprs3 kids3)=false:=(by simp only[Fm.same,A3,e0,e1,e2,BF,BH]);refine uU (AY e0 e1 e2) (Ny (l:=args) (m:=args3) ha ha3) ?_;refine wt (AY e0 e1 e2) ?_;rw[hs]
   |true=>
    refine uU (AY e0 e1 e2) (Ny (l:=args) (m:=args3) ha ha3) ?_;refine wt (AY e0 e1 e2) ?_;cases e3:Di params params3 with
    |false=>
     have hs:(Fm.mk op name args params exprs kids).same (.mk op3 name3 args3 params3 exprs3 kids3)=false:=(by simp only[Fm.same,A3,e0,e1,e2,e3,BF,BH]);replace zz:=Aa e0 e1 e2 e3;refine uU zz (K0 (l:=params) (m:=params3) hp hp3) ?_;refine wt zz ?_;rw[hs]
    |true=>
     replace zz:=Aa e0 e1 e2 e3;refine uU zz (K0 (l:=params) (m:=params3) hp hp3) ?_;refine wt zz ?_;cases e4:Ex.DM exprs exprs3 with
     |false=>
      have hs:(Fm.mk op name args params exprs kids).same (.mk op3 name3 args3 params3 exprs3 kids3)=false:=(by simp only[Fm.same,A3,e0,e1,e2,e3,e4,BF,BH]);replace zz:=Ak e0 e1 e2 e3 e4;refine uU zz (S2 he hfe _) ?_;refine wt zz ?_;rw[hs]
     |true=>
      replace zz:=Ak e0 e1 e2 e3 e4;refine uU zz (S2 he hfe _) ?_;refine wt zz ?_;have hs:(Fm.mk op name args params exprs kids).same (.mk op3 name3 args3 params3 exprs3 kids3)=Fm.DM kids kids3:=(by simp only[Fm.same,A3,e0,e1,e2,e3,e4,BG]);replace zz:=Ak e0 e1 e2 e3 e4;refine uU zz (iE hk hfk _) ?_;refine wt zz ?_;rw[hs]
end Go.Proofs.YtblgchkahpgdjaaGreat
namespace Go.AM
mutual
def Sx.small:Sx->Prop
 | .mk _ _ _ _ _ kids=>kids.length<=1048576/\Sx.DY kids
def Sx.DY:List Sx->Prop
 |[]=>True
 |k::ks=>k.small/\Sx.DY ks
end
theorem Sx.Eh:{l:List Sx}->(Sx.DY l↔ ∀ k∈l,k.small)
 |[]=>by simp[Sx.DY]
 |k::ks=>by simp[Sx.DY,Sx.Eh (l:=ks)]
end Go.AM
namespace Go.Proofs.YtblgchkahpgdjaaGreat
open Go.AM Go.Proofs.Tryz
set_option maxHeartbeats 4000000
set_option maxRecDepth 20000
def Eb:List Sx->List Ex × Int
 |[]=>([],0)
 |x::l=>bif (Bi x).2==0 then(match Eb l with
  |(es,c)=>bif c==0 then((Bi x).1::es,0)else([],c))else([],(Bi x).2)
theorem iF: ∀ l:List Sx,((Eb l).2==0)=true->(Eb l).2=0:=λl h=>by simpa using h
theorem iG: ∀ l:List Sx,((Eb l).2==0)=false->(Eb l).1=[]
 |[],h=>by simp[Eb]at h
 |x::l,h=>by
  simp only[Eb]at h⊢;cases hq:(Bi x).2==0 with
  |false=>rfl
  |true=>
   rw[hq]at h;simp only[AC]at h⊢;cases hr:(Eb l).2==0 with
   |false=>rfl
   |true=>rw[hr]at h;simp at h
theorem iH(w:ByteArray)(rest:List Sx):rest.length=2->(match rest with
    |[a,b]=>(match Bi a with
     | (ea, ca) => bif ca == 0 then (match Bi b with
      |(eb,cb)=>bif cb==0 then((.mk w ⟨#[]⟩ 0 [] [ea,eb],0):Ex × Int)else(By,cb))else(By,ca))
    |_=>(By,2))=(bif (Eb rest).2==0 then(.mk w ⟨#[]⟩ 0 [] (Eb rest).1,0)else(By,(Eb rest).2)):=by
 intro hl
 match rest,hl with
 |[a,b],_=>
  simp only[Eb];cases ha:(Bi a).2==0
  ·simp only[ha,AL]
  ·cases hb:(Bi b).2==0
   ·simp only[ha,hb,AC,AL]
   ·simp [ha,hb]
theorem S3{h:A1}{id0 z:Nat}{p:PV}{rows:List (List PV)}(t:Tl h id0 z p rows):Cx p=true/\p.cells=[p]:=by
 rcases t with⟨_,rfl|rfl⟩|⟨id,_,_,rfl,_⟩
 ·exact ⟨rfl,rfl⟩
 ·exact ⟨rfl,rfl⟩
 ·exact ⟨rfl,rfl⟩
theorem VV(n:Nat)(h:A1)(e:Ex):AP n h e.cells e.cells:=by
 have hi:=Pu n e;obtain⟨op,name,v,args,kids⟩:=e;simp only[Ex.cells,Br,Be,Dh,Fb]at hi;simp only[Ex.cells,AP,AJ,Dh,Fb];exact⟨.inl hi.1,.inl hi.2⟩
theorem VW(n:Nat)(h:A1): ∀ l:List Ex,DA n h (Ex.rows l) (Ex.rows l)
 |[]=>by simp only[Ex.rows,DA]
 |k::ks=>by simp only[Ex.rows,DA];exact⟨VV n h k,VW n h ks⟩
theorem iI{h:A1}{id0 n:Nat}{p:PV}{l:List Ex}(hn:n<=id0)(t:Tl h id0 5 p (Ex.rows l)):AJ n h (.A2 5 (Ex.rows l)) p:=by
 simp only[AJ];rcases t with⟨h1,h2⟩|⟨id,h1,h2,rfl,ho⟩
 ·exact .inr (.inl ⟨h1,h2.symm⟩)
 ·refine .inr (.inr ⟨id,0,_,_,rfl,by omega,ho,by omega,?_⟩);rw[List.drop_zero,List.take_of_length_le (by omega)];exact VW _ _ _
theorem iJ{kind value line col:Int}{text:ByteArray}{kids:List Sx}{w:ByteArray}{rest:List Sx}(hok:(Sx.mk kind value line col text kids).ok)(hk2:¬ kind=2)(hM:Bt (.mk kind value line col text kids)=some (w,rest))(hp:Iy w=true)
  (hf: ∀ x∈rest, ∀ h:A1,A6 prog 168 [.agg x.cells] h λr h'=>r= .Am [.agg (Bi x).1.cells,AS (Bi x).2]/\h'=h)(hl:rest.length<=1048576)(h:A1):
  A6 prog 168 [.agg (Sx.mk kind value line col text kids).cells] h λr h'=>r= .Am [.agg (Bi (.mk kind value line col text kids)).1.cells,AS (Bi (.mk kind value line col text kids)).2]/\h'=h:=by
 refine A6.CF Ty.Kq ?_;have hh:=Rw hok;have hX:=Rz (.mk kind value line col text kids);generalize Bi (.mk kind value line col text kids)=F at hX;have kk:Ax (.mk kind value line col text kids)=kind:=rfl;have k2:(kind==2)=false:=by simpa using hk2
 rw[kk,k2,hM]at hX;simp only[AL,hp,AC]at hX;rw[hM]at hh;simp only[Mq]at hh;simp only[Sx.cells]at hh⊢;have hlr:=Sx.B4 rest;refine AF func168 ntmps168 results168 Ty.Kq ?_;refine wt k2 ?_;refine uU (uu k2 yT) (hh _) ?_;iterate 9 (first|(with_reducible refine cK ?_)|(with_reducible refine nK ?_)|refine Af λK hK=>?_|refine uR (uu k2 yT) ?_|refine uK ?_|refine C2 (uu k2 yT) ?_|(refine uN hK ?_;clear hK)|apply zI)
 refine Mn (λS h'=>h'=h.new (.arr 5 [[.sc (.string ⟨#[]⟩),.sc (.string ⟨#[]⟩),.sc (.int .i64 0),.sc (.slice none 0 0),.sc (.slice none 0 0)]])/\S 2= .ptr h.next 0 0/\S 4=A4 w/\S 5= .A2 6 (Sx.rows rest)) ?_ ?_
 ·have hp':=hp;unfold Iy Ly GD Lz A3 at hp'
  clear hX hf;cases p1:(w.data.toList==(#[43]:Array UInt8).toList)with
  |true=>
   refine wm (AY k2 p1 yT) ?_;try exact zI
   all_goals(simp only[Ty.w,simprocAttr])
  |false=>
   cases p2:(w.data.toList==(#[45]:Array UInt8).toList)with
   |true=>
    replace zz:=Ak k2 p1 p2 yT yF;refine wm zz ?_;try exact zI
    all_goals(simp only[Ty.w,simprocAttr])
   |false=>
    have p3:(w.data.toList==(#[42]:Array UInt8).toList)=true:=by
     rw[p1,p2]at hp';simpa using hp'
    replace zz:=Al k2 p1 p2 p3 yT yF;refine wm zz ?_;try exact zI
    all_goals(simp only[Ty.w,simprocAttr])
 ·rintro S h' ⟨rfl,g2,g4,g5⟩;first|refine hK _ _ ?_|refine cK ?_
  try clear hK
  clear hh;cases q:(((Sx.rows rest).length:Int) !=2)with
  |true=>
   have hF:F=(By,2):=by
    rw[hX];split
    ·rw [hlr]at q;simp at q
    ·rfl
   subst hF;replace zz:=Aa g2 g4 g5 q;refine wt zz ?_;refine⟨?_,((AH.refl h).new _).set (AG _) _⟩;have e2:AS 2=Ao 2:=rfl;simp only[e2,Ao,By,Ex.cells,Ex.rows,AN,List.map_nil,AJ,AP];exact⟨_,rfl,⟨_,rfl,rfl,rfl,rfl,.inr (.inl ⟨rfl,.inr rfl⟩),.inr (.inl ⟨rfl,.inr rfl⟩),trivial⟩,rfl,trivial⟩
  |false=>
   have q':(((Sx.rows rest).length:Int)=2):=(by simpa using q);have hF:F=(bif (Eb rest).2==0 then(.mk w ⟨#[]⟩ 0 [] (Eb rest).1,0)else(By,(Eb rest).2)):=by
    rw[hX];exact iH w rest (by rw[hlr]at q';omega)
   clear hX;replace zz:=Aa g2 g4 g5 q;refine wt zz ?_;refine CG (λm S h'=>S 2= .ptr h.next 0 0/\S 9= .ptr (h.next+1) 0 0/\S 64= .A2 6 (Sx.rows rest)/\S 65= .sc (.int .i64 (Sx.rows rest).length)/\ ∃ (k:Nat)(o:PV)(pre:List Ex),S 66= .sc (.int .i64 k)/\k<=rest.length/\m=rest.length-k/\AH h h'/\h.next+1<h'.next/\pre.length=k/\
    h'.obj h.next=some (.arr 5 [[.sc (.string ⟨#[]⟩),.sc (.string ⟨#[]⟩),.sc (.int .i64 0),.sc (.slice none 0 0),.sc (.slice none 0 0)]])/\h'.obj (h.next+1)=some (.arr 5 [[A4 w,.sc (.string ⟨#[]⟩),.sc (.int .i64 0),.sc (.slice none 0 0),o]])/\Tl h' (h.next+2) 5 o (Ex.rows pre)/\
    Eb rest=(bif (Eb (rest.drop k)).2==0 then(pre++(Eb (rest.drop k)).1,0)else([],(Eb (rest.drop k)).2))) rest.length ?_ ?_
   ·simp only[Ty.w,simprocAttr,g2];refine⟨0,_,[],rfl,by omega,rfl,?_,?_,rfl,?_,?_,Tl.nil,?_⟩
    ·exact ((AH.refl h).new _).new _|>.set (show h.next<=h.next+1 by omega) _
    ·simp [A1.new,A1.set]
    ·have e1:¬ h.next=h.next+1:=by omega
     simp[A1.new,A1.set,e1]
    ·simp [A1.new,A1.set]
    ·rw [List.drop_zero];cases hq:(Eb rest).2==0
     ·simp only[AL];rw[← iG rest hq]
     ·simp only[AC,List.nil_append];rw[← iF rest hq]
   ·clear g2 g4 g5;rintro m S h' ⟨g2,g9,g64,g65,k,o,pre,g66,hk,rfl,hg,hnx,hpl,o1,o2,tl,hinv⟩;rw[hlr]at g65;by_cases hlt:k<rest.length
    ·have hd:decide ((k:Int)<(rest.length:Int))=true:=(by simp;omega);have w7:IntKind.i64.wrap ((k:Int)+1)=k+1:=(by rw[BZ (by omega) (by omega)]);obtain⟨x,hx⟩: ∃ x,rest[k]? =some x:=⟨_,List.getElem?_eq_getElem hlt⟩;have hr:=Sx.CL hx;have hc:=hf x (List.mem_of_getElem? hx);rw[Cd hx]at hinv;simp only[Eb]at hinv;have hin:=Pu;generalize hE:Bi x=E at hc hinv;obtain⟨e,c⟩:=E;simp only at hc hinv;clear hE hf;obtain⟨ki,va,li,co,te,ks⟩:=x;simp only[Sx.cells]at hr hc;have her:=λl=>Ex.rows_map (l++[e]);have n1:(h.next=h'.next)=False:=(by simp;omega);have n2:(h.next+1=h'.next)=False:=(by simp;omega);have n3:(h.next=h'.next+1)=False:=(by simp;omega);have n4:(h.next=h'.next)=False:=(by simp;omega);have n5:(h.next+1=h'.next+1)=False:=(by simp;omega);cases hcc:c==0 with
     |false=>
      rw[hcc]at hinv;simp only[AL]at hinv;have e0:AS c=Ao c:=(by simp only[AS,hcc,AL]);rw[e0]at hc;simp only[Ao]at hc;have hq:Eb rest=([],c):=(by rw[hinv];simp only[hcc,AL]);rw[hq]at hF;simp only[hcc,AL]at hF;subst hF;obtain⟨eop,ena,en,ear,eki⟩:=e;simp only[Ex.cells]at hc;replace zz:=Ab g2 g9 g64 g65 g66 hd hr o1 o2 n1 n2 (AY n3 n5 @B1);refine wt zz ?_;replace zz:=Ab g2 g9 g64 g65 g66 hd hr o1 o2 n1 n2 (AY n3 n5 @B1);refine uU zz (hc _) ?_;replace zz:=Ab g2 g9 g64 g65 g66 o1 o2 n1 n2 n3 n5 @B1;refine wt zz ?_;have e2:AS c= .sc (.iface 42 (.int .i64 c)):=(by rw[e0];try rfl);rw[e2];refine⟨?_,(((((hg.new _).set hg.le _).new _).set (show h.next<=h'.next+1 by have:=hg.le;omega) _).set (AG _) _)⟩;simp only[By,Ex.cells,Ex.rows,AN,List.map_nil,AJ,AP];exact⟨_,rfl,⟨_,rfl,rfl,rfl,rfl,.inr (.inl ⟨rfl,.inr rfl⟩),.inr (.inl ⟨rfl,.inr rfl⟩),trivial⟩,rfl,trivial⟩
     |true=>
      have e0:AS c= .sc .nilIface:=(by simp only[AS,hcc,AC]);rw[e0]at hc;have hto:=S3 tl;have hrows:Ex.rows (pre++[e])=Ex.rows pre++[e.cells]:=(by simp only[Ex.rows_map,List.map_append,List.map_cons,List.map_nil]);obtain⟨eop,ena,en,ear,eki⟩:=e;simp only[Ex.cells]at hc hrows;have hold: ∀ j,j<h'.next->(((((h'.new (.arr 6 [[.sc (.int .i64 0),.sc (.int .i64 0),.sc (.int .i64 0),.sc (.int .i64 0),.sc (.string ⟨#[]⟩),.sc (.slice none 0 0)]])).set h'.next (.arr 6 [[.sc (.int .i64 ki),.sc (.int .i64 va),.sc (.int .i64 li),.sc (.int .i64 co),A4 te,.A2 6 (Sx.rows ks)]])).new (.arr 5 [[.sc (.string ⟨#[]⟩),.sc (.string ⟨#[]⟩),.sc (.int .i64 0),.sc (.slice none 0 0),.sc (.slice none 0 0)]])).set (h'.next+1) (.arr 5 [[A4 eop,A4 ena,.sc (.int .i64 en),.A2 1 (AN ear),.A2 5 (Ex.rows eki)]])):A1).obj j=h'.obj j:=λj hj=>by
       have a1:¬ j=h'.next:=by omega
       have a2:¬ j=h'.next+1:=by omega
       simp only[A1.new,A1.set,a1,a2,AQ]
      have tl2:=tl.up (h':=((((h'.new (.arr 6 [[.sc (.int .i64 0),.sc (.int .i64 0),.sc (.int .i64 0),.sc (.int .i64 0),.sc (.string ⟨#[]⟩),.sc (.slice none 0 0)]])).set h'.next (.arr 6 [[.sc (.int .i64 ki),.sc (.int .i64 va),.sc (.int .i64 li),.sc (.int .i64 co),A4 te,.A2 6 (Sx.rows ks)]])).new (.arr 5 [[.sc (.string ⟨#[]⟩),.sc (.string ⟨#[]⟩),.sc (.int .i64 0),.sc (.slice none 0 0),.sc (.slice none 0 0)]])).set (h'.next+1) (.arr 5 [[A4 eop,A4 ena,.sc (.int .i64 en),.A2 1 (AN ear),.A2 5 (Ex.rows eki)]]))) (by simp[A1.new,A1.set];omega) (λj _ hj=>hold j hj);have hg2:AH h ((((h'.new (.arr 6 [[.sc (.int .i64 0),.sc (.int .i64 0),.sc (.int .i64 0),.sc (.int .i64 0),.sc (.string ⟨#[]⟩),.sc (.slice none 0 0)]])).set h'.next (.arr 6 [[.sc (.int .i64 ki),.sc (.int .i64 va),.sc (.int .i64 li),.sc (.int .i64 co),A4 te,.A2 6 (Sx.rows ks)]])).new (.arr 5 [[.sc (.string ⟨#[]⟩),.sc (.string ⟨#[]⟩),.sc (.int .i64 0),.sc (.slice none 0 0),.sc (.slice none 0 0)]])).set (h'.next+1) (.arr 5 [[A4 eop,A4 ena,.sc (.int .i64 en),.A2 1 (AN ear),.A2 5 (Ex.rows eki)]])):=(((hg.new _).set hg.le _).new _).set (show h.next<=h'.next+1 by have:=hg.le;omega) _;have hnn:(((((h'.new (.arr 6 [[.sc (.int .i64 0),.sc (.int .i64 0),.sc (.int .i64 0),.sc (.int .i64 0),.sc (.string ⟨#[]⟩),.sc (.slice none 0 0)]])).set h'.next (.arr 6 [[.sc (.int .i64 ki),.sc (.int .i64 va),.sc (.int .i64 li),.sc (.int .i64 co),A4 te,.A2 6 (Sx.rows ks)]])).new (.arr 5 [[.sc (.string ⟨#[]⟩),.sc (.string ⟨#[]⟩),.sc (.int .i64 0),.sc (.slice none 0 0),.sc (.slice none 0 0)]])).set (h'.next+1) (.arr 5 [[A4 eop,A4 ena,.sc (.int .i64 en),.A2 1 (AN ear),.A2 5 (Ex.rows eki)]])):A1).next=h'.next+1+1:=by simp[A1.new,A1.set]
      obtain⟨H,t1,t2,t3,t4,t5⟩:=tl2.tail;have u9:=t4 (h.next+1) (by omega);rw[hold _ hnx,o2]at u9;have u0:=t4 h.next (by omega)
      rw[hold _ (by omega),o1]at u0;rw[hnn]at t3;have hkp:=t5 h ⟨hg2.le,hg2.B6⟩ (by omega);have hgH:AH h H:=⟨hkp.1,hkp.2⟩;have hpr:(Ex.rows pre).length=k:=(by rw[Ex.B4];exact hpl);have hb:(k+1)*88<=140737488355328:=(by omega);have n6:(h.next+1=H.next)=False:=(by simp;omega);have n7:(h.next+1=h'.next+1+1)=False:=(by simp;omega);replace zz:=Ab g2 g9 g64 g65 g66 hd hr o1 o2 n1 n2 (AY n3 n5 @B1);refine wt zz ?_;replace zz:=Ab g2 g9 g64 g65 g66 hd hr o1 o2 n1 n2 (AY n3 n5 @B1);refine uU zz (hc _) ?_;replace zz:=Ab g2 g9 g64 g65 g66 o1 o2 n1 n2 n3 n5 (BO n6 n7 @B1 t1 t2 u9 hpr hb w7);(repeat'(first|refine cK ?_|refine nK ?_|refine Af λK hK=>?_|refine uR zz ?_|refine uQ zz λK hK=>?_|refine uK ?_|refine C2 zz ?_|(refine uN hK ?_;clear hK)|(rw[AK];rotate_left 1;omega;simp only[Ty.w,simprocAttr,g2,g9,g64,g65,g66,o1,o2,n1,n2,n3,n5,n6,n7,B1,t1,t2,u9,hpr,hb,w7])|apply zI));rw[← hrows];have hgr:=Tl.grow (H:=H) (id0:=h.next+2) (z:=5) (len:=k+1) (rows:=Ex.rows (pre++[Ex.mk eop ena en ear eki])) (by omega) (by rw[Ex.B4];simp[hpl]);refine⟨rest.length-(k+1),by omega,by rw[hlr],k+1,.own H.next 0 (k+1),pre++[Ex.mk eop ena en ear eki],by simp,by omega,rfl,(hgH.new _).set (show h.next<=h.next+1 by omega) _,by omega,by simp[hpl],?_,by rw[t3],?_,?_⟩
      ·rw [A8 (by omega)];exact u0
      ·exact hgr.up (AG _) (λj hj _=>by simp only[A1.set];rw[A8 (by omega)])
      ·rw [hinv,hcc];simp only[AC];cases hq:(Eb (List.drop (k+1) rest)).2==0 with
       |false=>simp only[hq,AL]
       |true=>simp only[AC,D8,List.append_assoc,List.cons_append,List.nil_append]
    ·have hd:decide ((k:Int)<(rest.length:Int))=false:=(by simp;omega);rw[List.drop_eq_nil_of_le (by omega)]at hinv;have hq:Eb rest=(pre,0):=(by rw[hinv];simp[Eb]);rw[hq]at hF;have hF2:F=(.mk w ⟨#[]⟩ 0 [] pre,0):=hF;clear hF;subst hF2;have ho:=(S3 tl).1;have n1:(h.next+1=h.next)=False:=(by simp);replace zz:=B9 g2 g9 g64 g65 g66 hd o1 o2 ho n1;refine wt zz ?_;refine⟨?_,hg.set (AG _) _⟩;have e2:AS 0= .sc .nilIface:=rfl;rw[e2];have h1:AJ h.next (h'.set h.next (.arr 5 [[A4 w,.sc (.string ⟨#[]⟩),.sc (.int .i64 0),.sc (.slice none 0 0),o]])) (.A2 5 (Ex.rows pre)) o:=iI (by omega) (tl.up (AG _) (λj hj _=>by simp only[A1.set];rw[A8 (by omega)]))
     generalize h'.set h.next (.arr 5 [[A4 w,.sc (.string ⟨#[]⟩),.sc (.int .i64 0),.sc (.slice none 0 0),o]])=H at h1⊢
     simp only[Ex.cells,AN,List.map_nil];unfold AJ;refine⟨_,rfl,?_⟩;unfold AP;refine⟨?_,by unfold AP;exact⟨by simp only[AJ],by simp only[AP]⟩⟩;unfold AJ;refine⟨_,rfl,?_⟩;unfold AP;refine⟨by simp only[AJ],?_⟩;unfold AP;refine⟨by simp only[AJ],?_⟩;unfold AP;refine⟨by simp only[AJ],?_⟩;unfold AP;refine⟨by simp[AJ],?_⟩;unfold AP;exact⟨h1,by simp only[AP]⟩
theorem Pv{kind value line col:Int}{text:ByteArray}{kids:List Sx}{w:ByteArray}{rest:List Sx}(h:Bt (.mk kind value line col text kids)=some (w,rest)): ∃ y,kids=y::rest:=by
 simp only[Bt]at h;split at h
 ·cases kids with
  |nil=>simp at h
  |cons y r=>
   simp only at h;cases hk:Ax y==1 with
   |false=>rw[hk]at h;simp at h
   |true=>
    rw[hk]at h;simp only[AC,BD,C4]at h;exact⟨y,by rw[h.2]⟩
 ·simp at h
theorem S4: ∀ x:Sx,x.ok->x.small-> ∀ h:A1,A6 prog 168 [.agg x.cells] h λr h'=>r= .Am [.agg (Bi x).1.cells,AS (Bi x).2]/\h'=h:=by
 refine Sx.ind ?_;intro kind value line col text kids ih hok hsm h;have hok':=hok;simp only[Sx.ok]at hok';obtain⟨_,_,_,_,hks⟩:=hok';rw[Sx.Bz]at hks;simp only[Sx.small]at hsm;obtain⟨hl,hss⟩:=hsm;rw[Sx.Eh]at hss;have hrl: ∀ w rest,Bt (.mk kind value line col text kids)=some (w,rest)->rest.length<=1048576:=λw rest e=>by
  obtain⟨y,rfl⟩:=Pv e;simp at hl;omega
 by_cases hk2:kind=2
 ·exact S1 hok hrl (.inl hk2) h
 ·cases hM:Bt (.mk kind value line col text kids)with
  |none=>exact S1 hok hrl (.inr λw rest e=>by rw[hM]at e;simp at e) h
  |some wr=>
   obtain⟨w,rest⟩:=wr;cases hp:Iy w with
   |false=>exact S1 hok hrl (.inr λw2 rest2 e=>by rw[hM]at e;simp at e;rw[← e.1];exact hp) h
   |true=>
    obtain⟨y,hy⟩:=Pv hM;exact iJ hok hk2 hM hp (λx hx=>ih x (by rw[hy];simp[hx]) (hks x (by rw[hy];simp[hx])) (hss x (by rw[hy];simp[hx]))) (hrl w rest hM) h
end Go.Proofs.YtblgchkahpgdjaaGreat
namespace Go.Proofs.YtblgchkahpgdjaaGreat
open Go.AM Go.Proofs.Tryz
set_option maxHeartbeats 2000000
set_option maxRecDepth 20000
theorem iK(c:UInt8):Lu.contains c=(((c.toNat:Int)==45)||((c.toNat:Int)==95)||((c.toNat:Int)==63)||((c.toNat:Int)==58)||((c.toNat:Int)==60)||((c.toNat:Int)==62)||((c.toNat:Int)==61)||((c.toNat:Int)==43)||((c.toNat:Int)==42)):=by
 have hh: ∀ d:UInt8,(c==d)=((c.toNat:Int)==(d.toNat:Int)):=by
  intro d;by_cases h:c=d
  ·subst h;simp
  ·have:¬ c.toNat=d.toNat:=λe=>h (TL.1 e);have:¬ (c.toNat:Int)=(d.toNat:Int):=(by omega);rw[NJ.2 h,NJ.2 this]
 have e:Lu.contains c=(c==45||(c==95||(c==63||(c==58||(c==60||(c==62||(c==61||(c==43||(c==42||false))))))))):=rfl;rw[e,hh,hh,hh,hh,hh,hh,hh,hh,hh];simp only[Gq,Bool.or_assoc];rfl
def S5(s:ByteArray):Bool:=s.data.toList.all wB&&decide (1<=s.size)&&decide (s.size<=32)&&!(Ks s)
end Go.Proofs.YtblgchkahpgdjaaGreat
namespace Go.AM
mutual
def Sx.count:Sx->Int
 | .mk _ _ _ _ _ kids=>Sx.counts 1 kids
def Sx.counts(n:Int):List Sx->Int
 |[]=>n
 |k::ks=>Sx.counts (IntKind.i64.wrap (n+k.count)) ks
end
theorem Sx.Yy: ∀ (l m:List Sx)(n:Int),Sx.counts n (l++m)=Sx.counts (Sx.counts n l) m
 |[],m,n=>by simp[Sx.counts]
 |k::l,m,n=>by simp only[List.cons_append,Sx.counts];exact Sx.Yy l m _
theorem Sx.pG{l:List Sx}{i:Nat}{k:Sx}(n:Int)(h:l[i]? =some k):Sx.counts n (l.take (i+1))=IntKind.i64.wrap (Sx.counts n (l.take i)+k.count):=by
 rw[List.take_add_one,h,Sx.Yy];try rfl
mutual
def Sx.depth:Sx->Nat
 | .mk kind _ _ _ _ kids=>if kind=3 then Sx.F8 0 kids+1 else Sx.F8 0 kids
def Sx.F8(n:Nat):List Sx->Nat
 |[]=>n
 |k::ks=>Sx.F8 (max n k.depth) ks
end
theorem Sx.TQ: ∀ (l:List Sx)(n:Nat),n<=Sx.F8 n l
 |[],n=>AG _
 |k::l,n=>by simp only[Sx.F8];exact ES (Nat.le_max_left _ _) (Sx.TQ l _)
theorem Sx.depths_mem: ∀ {l:List Sx}{k:Sx}(n:Nat),k∈l->k.depth<=Sx.F8 n l
 |k'::l,k,n,h=>by
  simp only[Sx.F8];rcases List.mem_cons.1 h with rfl|h
  ·exact ES (Nat.le_max_right _ _) (Sx.TQ l _)
  ·exact Sx.depths_mem _ h
end Go.AM
namespace Go.Proofs.YtblgchkahpgdjaaGreat
open Go.AM Go.Proofs.Tryz
set_option maxHeartbeats 2000000
set_option maxRecDepth 20000
mutual
def IL:Sx->Bool
 | .mk kind value _ _ text kids=>
  if kind=1 then(value==0)&&kids.isEmpty&&S5 text
  else if kind=2 then(text.data.toList==(#[]:Array UInt8).toList)&&kids.isEmpty&&decide (value>= -1099511627776)&&decide (value<=1099511627776)
  else if kind=3 then J0 kids&&((text.data.toList==(#[]:Array UInt8).toList)&&(value==0))
  else false
def J0:List Sx->Bool
 |[]=>true
 |k::ks=>IL k&&J0 ks
end
theorem iL: ∀ (e:Sx),e.ok-> ∀ h:A1,A6 prog 21 [.agg e.cells] h λr h'=>r= .sc (.int .i64 e.count)/\h'=h:=by
 refine Sx.ind ?_;intro kind value line col text kids ih hok h;simp only[Sx.ok]at hok;obtain⟨_,_,_,hk,hks⟩:=hok;rw[Sx.Bz]at hks;have hlen:=Sx.B4 kids;simp only[Sx.cells,Sx.count];refine AF func21 ntmps21 results21 Ty.fS ?_;refine wt hlen ?_;refine CG (λm S h'=>h'=h/\S 1= .Ag (Sx.mk kind value line col text kids).cells/\ ∃ k:Nat,S 4= .sc (.int .i64 k)/\k<=kids.length/\m=kids.length-k/\S 3= .sc (.int .i64 (Sx.counts 1 (kids.take k)))) kids.length ?_ ?_
 ·simp only[Ty.w,simprocAttr];exact⟨rfl,0,rfl,by omega,rfl,by simp[Sx.counts]⟩
 ·rintro m S h' ⟨rfl,g1,k,g4,hkl,rfl,g3⟩;simp only[Sx.cells]at g1;by_cases hlt:k<kids.length
  ·have hd:decide ((k:Int)<(kids.length:Int))=true:=(by simp;omega);have w7:IntKind.i64.wrap ((k:Int)+1)=k+1:=(by unfold AI at hk;rw[BZ (by omega) (by omega)]);obtain⟨e,hx⟩: ∃ e,kids[k]? =some e:=⟨_,List.getElem?_eq_getElem hlt⟩;have hmem:=List.mem_of_getElem? hx;have hc:=ih e hmem (hks e hmem);have hsz:=Sx.pG 1 hx;have hr:=Sx.CL hx;obtain⟨ki,va,li,co,te,ks⟩:=e;simp only[Sx.cells]at hr hc;replace zz:=Ah g1 g3 g4 hlen hd hr w7;refine wt zz ?_;replace zz:=Al g1 g3 g4 hlen hd hr;refine uU zz (hc _) ?_;replace zz:=Aa g1 g3 g4 w7;refine wt zz ?_;exact⟨kids.length-(k+1),by omega,rfl,k+1,by simp,by omega,rfl,by rw[hsz]⟩
  ·have hd:decide ((k:Int)<(kids.length:Int))=false:=(by simp;omega);have hke:k=kids.length:=(by omega);subst hke;rw[List.take_length]at g3;replace zz:=Ak g1 g3 g4 hlen hd;exact wz zz
end Go.Proofs.YtblgchkahpgdjaaGreat
namespace Go.AM
mutual
def Sx.nodes:Sx->Nat
 | .mk _ _ _ _ _ kids=>Sx.Aw kids+1
def Sx.Aw:List Sx->Nat
 |[]=>0
 |k::ks=>k.nodes+Sx.Aw ks
end
mutual
theorem Sx.count_eq: ∀ (x:Sx),x.nodes<=AI->x.count=x.nodes
 | .mk _ _ _ _ _ kids,h=>by
  simp only[Sx.nodes]at h;simp only[Sx.count,Sx.nodes];have:=Sx.Yz kids 1 (by omega);simp only[TK]at this;rw[this];congr 1;omega
theorem Sx.Yz: ∀ (l:List Sx)(n:Nat),n+Sx.Aw l<=AI->Sx.counts n l=(n+Sx.Aw l:Nat)
 |[],n,h=>by simp[Sx.counts,Sx.Aw]
 |k::ks,n,h=>by
  simp only[Sx.Aw]at h;simp only[Sx.counts,Sx.Aw];rw[Sx.count_eq k (by omega)];have hw:IntKind.i64.wrap ((n:Int)+(k.nodes:Int))=((n+k.nodes:Nat):Int):=by unfold AI at h;rw[BZ (by omega) (by omega)];omega
  rw[hw,Sx.Yz ks (n+k.nodes) (by omega)];congr 1;omega
end
end Go.AM
namespace Go.Proofs.YtblgchkahpgdjaaGreat
open Go.AM Go.Proofs.Tryz
theorem iM(c:UInt8):Ek c=some c↔wB c=true:=by
 unfold Ek;cases hu:IJ c with
 |true=>
  have h1:65<=c.toNat/\c.toNat<=90:=by simpa[IJ]using hu
  have hw:wB c=false:=by
   have h2:EY c=false:=(by simp[EY];omega);have h3:Ff c=false:=(by simp[Ff];omega);have h4:Lu.contains c=false:=by
    rw[iK];have: ∀ v:Int,v=45\/v=95\/v=63\/v=58\/v=60\/v=62\/v=61\/v=43\/v=42->((c.toNat:Int)==v)=false:=by
     intro v hv;rw[NJ];omega
    simp[this]
   simp only[wB,h2,h3,h4,Gq]
  rw[hw];simp only[AO,BD,BR,iff_false];intro e;have:=If UInt8.toNat e;rw[UInt8.toNat_add]at this;simp at this;omega
 |false=>
  simp only[BR,AQ];cases wB c<;>simp
theorem VX: ∀ l:List UInt8,EZ l=some l↔l.all wB=true
 |[]=>by simp[EZ]
 |c::l=>by
  have h1:=iM c;have h2:=VX l;simp only[EZ,List.all_cons,AV];cases hc:Ek c with
  |none=>rw[hc]at h1;simp at h1⊢;intro hw;rw[h1]at hw;simp at hw
  |some d=>
   rw[hc]at h1;cases hl:EZ l with
   |none=>rw[hl]at h2;simp at h2⊢;intro _;simpa using h2
   |some p=>
    rw[hl]at h2;simp only[Bs,BD,List.cons.injEq];rw[← h1, ← h2];simp
theorem iN(s:ByteArray):JN s=S5 s:=by
 have hsl:s.data.toList.length=s.size:=by rw[F7];try rfl
 have hself:=VX s.data.toList;unfold JN S5 FB;by_cases hc:0<s.size/\s.size<=32
 ·rw [AK hc];have d1:decide (1<=s.size)=true:=by simp;omega
  have d2:decide (s.size<=32)=true:=by simp;omega
  rw[d1,d2];cases hl:EZ s.data.toList with
  |none=>
   rw[hl]at hself;have:s.data.toList.all wB=false:=by
    cases h:s.data.toList.all wB with
    |false=>rfl
    |true=>rw[h]at hself;simp at hself
   simp only[this,BF]
  |some p=>
   rw[hl]at hself;cases h:s.data.toList.all wB with
   |true=>
    rw[h]at hself;have hp:p=s.data.toList:=(by simpa using hself);subst hp;have:(⟨s.data.toList.toArray⟩:ByteArray)=s:=Ri rfl;simp only[this,A3,D8,BG]
   |false=>
    rw[h]at hself;have hp:¬ p=s.data.toList:=(by simpa using hself);have:A3 (⟨p.toArray⟩:ByteArray) s=false:=(by simp only[A3,NJ];exact hp);simp only[this,BH,BF]
 ·rw [A8 hc];have:(decide (1<=s.size)&&decide (s.size<=32))=false:=by
   cases h:(decide (1<=s.size)&&decide (s.size<=32))with
   |false=>rfl
   |true=>
    simp only[AV,Bg]at h;exact absurd ⟨by omega,h.2⟩ hc
  simp only[BF];rw[Bool.and_assoc (s.data.toList.all wB),this];simp
mutual
theorem JQ: ∀ (x:Sx)(d n:Nat),d<=32->n<=4096->((CM x d n).1=true↔IL x=true/\d+x.depth<=32/\n+x.nodes<=4096)/\((CM x d n).1=true->(CM x d n).2=n+x.nodes)
 | .mk kind value line col text kids,d,n,hd,hn=>by
  have e1:(kids.isEmpty=true)↔kids=[]:=List.isEmpty_iff;unfold CM IL;simp only[Sx.depth,Sx.nodes];by_cases h0:n+1>4096
  ·rw [AK h0];refine⟨⟨by simp,λ⟨_,_,h⟩=>by omega⟩,by simp⟩
  ·rw [A8 h0];by_cases k1:kind=1
   ·rw [AK k1,AK k1,iN];have k3:¬ kind=3:=(by omega);rw[A8 k3];simp only[AV,e1,Bg,Eg];constructor
    ·constructor
     ·rintro ⟨⟨h1,h2⟩,rfl⟩;exact⟨⟨⟨h2,rfl⟩,h1⟩,by simp only[Sx.F8];omega,by simp only[Sx.Aw];omega⟩
     ·rintro ⟨⟨⟨h1,h2⟩,h3⟩,_⟩;exact⟨⟨h3,h1⟩,h2⟩
    ·rintro ⟨_,rfl⟩;simp[Sx.Aw]
   ·rw [A8 k1,A8 k1];by_cases k2:kind=2
    ·rw [AK k2,AK k2];have k3:¬ kind=3:=(by omega);rw[A8 k3];simp only[AV,e1,Bg,A3,ge_iff_le];constructor
     ·constructor
      ·rintro ⟨⟨⟨h1,rfl⟩,h3⟩,h4⟩;exact⟨⟨⟨⟨h1,rfl⟩,h3⟩,h4⟩,by simp only[Sx.F8];omega,by simp only[Sx.Aw];omega⟩
      ·rintro ⟨⟨⟨⟨h1,h2⟩,h3⟩,h4⟩,_⟩;exact⟨⟨⟨h1,h2⟩,h3⟩,h4⟩
     ·rintro ⟨⟨⟨_,rfl⟩,_⟩,_⟩;simp[Sx.Aw]
    ·rw [A8 k2,A8 k2];by_cases k3:kind=3
     ·rw [AK k3,AK k3,AK k3];simp only[AV,Eg];by_cases hc:A3 text ⟨#[]⟩=true/\value=0/\d≠32
      ·rw [AK hc];obtain⟨g1,g2⟩:=VY kids (d+1) (n+1) (by omega) (by omega);rw[g1];refine⟨⟨λ⟨h1,h2,h3⟩=>⟨⟨h1,by simpa[A3]using hc.1,hc.2.1⟩,by omega,by omega⟩,λ⟨⟨h1,_,_⟩,h2,h3⟩=>⟨h1,by omega,by omega⟩⟩,λh=>?_⟩;rw[g2 (g1.2 h)];omega
      ·rw [A8 hc];refine⟨⟨by simp,λ⟨⟨h1,h4,h5⟩,h2,h3⟩=>?_⟩,by simp⟩;exact absurd ⟨by simp only[A3,Eg];exact h4,h5,by omega⟩ hc
     ·rw [A8 k3,A8 k3];simp
theorem VY: ∀ (l:List Sx)(d n:Nat),d<=32->n<=4096->((Gx l d n).1=true↔J0 l=true/\d+Sx.F8 0 l<=32/\n+Sx.Aw l<=4096)/\((Gx l d n).1=true->(Gx l d n).2=n+Sx.Aw l)
 |[],d,n,hd,hn=>by simp[Gx,J0,Sx.F8,Sx.Aw,hd,hn]
 |k::ks,d,n,hd,hn=>by
  obtain⟨g1,g2⟩:=JQ k d n hd hn;have hdm: ∀ (m:Nat)(l:List Sx),Sx.F8 m l=max m (Sx.F8 0 l):=by
   intro m l
   induction l generalizing m with
   |nil=>simp[Sx.F8]
   |cons k l ih=>simp only[Sx.F8];rw[ih (max m k.depth),ih (max 0 k.depth)];omega
  simp only[Gx,J0,Sx.F8,Sx.Aw,AV];rw[hdm];cases hb:CM k d n with
  |mk b n'=>
   rw[hb]at g1 g2;cases b with
   |false=>
    simp only at g1⊢;refine⟨⟨by simp,λ⟨⟨h1,_⟩,h2,h3⟩=>?_⟩,by simp⟩;exact absurd (g1.2 ⟨h1,by omega,by omega⟩) (by simp)
   |true=>
    simp only at g1 g2⊢;obtain⟨a1,a2,a3⟩:=g1.1 A5;have e:=g2 A5;obtain⟨f1,f2⟩:=VY ks d n' hd (by omega);rw[f1];refine⟨⟨λ⟨h1,h2,h3⟩=>⟨⟨a1,h1⟩,by omega,by omega⟩,λ⟨⟨_,h1⟩,h2,h3⟩=>⟨h1,by omega,by omega⟩⟩,λh=>?_⟩;rw[f2 (f1.2 h)];omega
end
def Mr(x:Sx):Bool:=IL x&&decide ((x.depth:Int)<=32)&&decide (x.count<=4096)
theorem Ms{x:Sx}(h:x.nodes<=AI):(CM x 0 0).1=Mr x:=by
 have h1:=(JQ x 0 0 (by omega) (by omega)).1;unfold Mr;rw[Sx.count_eq x h];rw[Yh,h1];simp only[AV,Bg];constructor
 ·rintro ⟨a,b,c⟩;exact⟨⟨a,by omega⟩,by omega⟩
 ·rintro ⟨⟨a,b⟩,c⟩;exact⟨a,by omega,by omega⟩
end Go.Proofs.YtblgchkahpgdjaaGreat
namespace Go.AM
mutual
theorem Sx.Z0: ∀ (x:Sx),x.nodes<=1048576->x.small
 | .mk _ _ _ _ _ kids,h=>by
  simp only[Sx.nodes]at h;simp only[Sx.small];have:=Sx.Z1 kids (by omega);exact⟨by omega,this.2⟩
theorem Sx.Z1: ∀ (l:List Sx),Sx.Aw l<=1048576->l.length<=Sx.Aw l/\Sx.DY l
 |[],_=>by simp[Sx.Aw,Sx.DY]
 |k::ks,h=>by
  simp only[Sx.Aw]at h;have h1:=Sx.Z0 k (by omega);have h2:=Sx.Z1 ks (by omega);have h3:1<=k.nodes:=by cases k;simp only[Sx.nodes];omega
  simp only[Sx.Aw,Sx.DY,List.length_cons];exact⟨by omega,h1,h2.2⟩
end
end Go.AM
namespace Go.Proofs.YtblgchkahpgdjaaGreat
open Go.AM Go.Proofs.Tryz
theorem Kx{x:Sx}(h:(CM x 0 0).1=true):x.small:=by
 have:=(JQ x 0 0 (by omega) (by omega)).1.1 h;exact Sx.Z0 x (by omega)
theorem O5: ∀ {l:List Sx},(∀ x∈l,x.ok)->(∀ s∈(CN l).1,s.size<=AI)/\(CN l).1.length<=l.length
 |[],_=>by simp[CN]
 |x::l,h=>by
  have h1:=O5 (l:=l) λy hy=>h y (by simp[hy]);have h2:(Aj x).size<=AI:=by
   have:=h x (by simp);obtain⟨_,_,_,_,t,_⟩:=x;simp only[Sx.ok]at this;exact this.2.2.1
  simp only[CN];cases Ax x==1 with
  |false=>simp
  |true=>
   cases CH (Aj x)with
   |false=>simp
   |true=>
    simp only[AC];cases hq:(CN l).2==0 with
    |false=>simp
    |true=>
     simp only[AC,List.mem_cons,List.length_cons];exact⟨λs hs=>hs.elim (λe=>by rw[e];exact h2) (h1.1 s),by omega⟩
theorem J1:By.ok/\By.small:=by
 simp only[By,Ex.ok,Ex.DJ,Ex.small,Ex.DY,List.length_nil];refine⟨⟨by simp[AI,ByteArray.size],by simp[AI,ByteArray.size],by omega,⟨by simp,by simp⟩,by simp,trivial⟩,by omega,trivial⟩
theorem Pw: ∀ x:Sx,x.ok->x.small->(Bi x).1.ok/\(Bi x).1.small:=by
 refine Sx.ind ?_;intro kind value line col text kids ih hok hsm;have hok':=hok;simp only[Sx.ok]at hok';obtain⟨hq1,hv,hq3,hq4,hks⟩:=hok';rw[Sx.Bz]at hks;simp only[Sx.small]at hsm;obtain⟨hl,hss⟩:=hsm;rw[Sx.Eh]at hss;rw[Rz];have kk:Ax (.mk kind value line col text kids)=kind:=rfl;rw[kk];cases hk:kind==2 with
 |true=>
  simp only[AC,Ex.ok,Ex.DJ,Ex.small,Ex.DY,List.length_nil];exact⟨⟨by simp[Iv,AI,ByteArray.size],by simp[AI,ByteArray.size],hv,⟨by simp,by simp⟩,by simp,trivial⟩,by omega,trivial⟩
 |false=>
  simp only[AL];cases hM:Bt (.mk kind value line col text kids)with
  |none=>exact J1
  |some wr=>
   obtain⟨w,rest⟩:=wr;obtain⟨hw,hr⟩:=S0 hok hM;obtain⟨y,rfl⟩:=Pv hM;simp only;cases hp:Iy w with
   |true=>
    simp only[AC];split
    ·rename_i a b;have ha:=ih a (by simp) (hks a (by simp)) (hss a (by simp));have hb:=ih b (by simp) (hks b (by simp)) (hss b (by simp));cases q1:(Bi a).2==0 with
     |false=>exact J1
     |true=>
      cases q2:(Bi b).2==0 with
      |false=>exact J1
      |true=>
       simp only[AC,Ex.ok,Ex.DJ,Ex.small,Ex.DY,List.length_nil,List.length_cons];exact⟨⟨hw,by simp[AI,ByteArray.size],by omega,⟨by simp,by simp⟩,by simp[AI],ha.1,hb.1,trivial⟩,by omega,ha.2,hb.2,trivial⟩
    ·exact J1
   |false=>
    simp only[AL];cases As w with
    |false=>exact J1
    |true=>
     have ht:=O5 hr;simp only[AC];cases q1:(CN rest).2==0 with
     |false=>exact J1
     |true=>
      simp at hl;simp only[AC,Ex.ok,Ex.DJ,Ex.small,Ex.DY,List.length_nil];exact⟨⟨by simp[Iw,AI,ByteArray.size],hw,by omega,⟨by have:=ht.2;unfold AI;omega,ht.1⟩,by simp,trivial⟩,by have:=ht.2;omega,trivial⟩
end Go.Proofs.YtblgchkahpgdjaaGreat
namespace Go.Proofs.YtblgchkahpgdjaaGreat
open Go.AM Go.Proofs.Tryz
def C9:Sx->List Sx
 | .mk _ _ _ _ _ kids=>kids
def Hm(x:Sx):Bool:=Ax x==1&&(CM x 0 0).1
def Bv(t:ByteArray)(l:List ByteArray):List Pm:=l.map (⟨·,t⟩)
def Ec(vars:Bool):List Sx->List Pm->List ByteArray->List Pm × Int
 |[],don,pen=>(don++Bv Dj pen,0)
 | x :: l, don, pen => bif Hm x then
   (bif A3 (Aj x) GD then (match l with
    |[]=>([],2)
    |t::l'=>bif !pen.isEmpty&&Hm t then(bif Gj (Aj t)then Ec vars l' (don++Bv (Aj t) pen) []else([],8))else([],2))
   else bif (bif vars then Ey (Aj x)else As (Aj x))then Ec vars l don (pen++[Aj x])else([],8))
  else([],2)
def C5(vars:Bool)(l:List Sx):List Pm × Int:=Ec vars l [] []
def Hn(w:ByteArray)(x y:Sx):Fm × Int:=
 bif A3 w Ca&&Ax x==1&&Ax y==1 then(.mk CI ⟨#[]⟩ (CN [x,y]).1 [] [] [],(CN [x,y]).2)
 else bif (Bi x).2==0 then(bif (Bi y).2==0 then
   (if A3 w Ix then(.mk DG ⟨#[]⟩ [] [] [(Bi y).1,(Bi x).1] [],0)
   else if A3 w JP then(.mk Db ⟨#[]⟩ [] [] [(Bi y).1,(Bi x).1] [],0)
   else(.mk w ⟨#[]⟩ [] [] [(Bi x).1,(Bi y).1] [],0))else(Cm,(Bi y).2))else(Cm,(Bi x).2)
def D9(r:Fm × Int):Fm × Int:=bif r.2==0 then r else(Cm,r.2)
def El(w:ByteArray):Bool:=FQ w||A3 w Ix||A3 w JP
def Fg(w:ByteArray):Bool:=A3 w DR||A3 w GF||A3 w Bo||A3 w GR
mutual
def Cn:Sx->Fm × Int
 | .mk kind _ _ _ _ kids=>
  if kind=3 then(match kids with
   |[]=>(.mk Bo ⟨#[]⟩ [] [] [] [],0)
   |x::rest=>bif Ax x==1 then
    (bif decide (EK (Aj x)>=0)&&!(decide (EK (Aj x)=rest.length))then(Cm,2)
    else bif E8 (Aj x)then(match rest with
     |[]=>(Cm,2)
     |p::body=>bif Ax p==3 then(bif (C5 true (C9 p)).2==0 then(match DL body with
       |(ks,c)=>bif c==0 then(.mk (Aj x) ⟨#[]⟩ [] (C5 true (C9 p)).1 [] ks,0)else(Cm,c))
      else(Cm,(C5 true (C9 p)).2))else(Cm,2))
    else bif Fg (Aj x)then(match DL rest with
     |(ks,c)=>bif c==0 then(.mk (Aj x) ⟨#[]⟩ [] [] [] ks,0)else(Cm,c))
    else bif El (Aj x)then(match rest with
     |[a,b]=>D9 (Hn (Aj x) a b)
     |_=>(Cm,2))
    else bif As (Aj x)then(bif (CN rest).2==0 then(.mk Bx (Aj x) (CN rest).1 [] [] [],0)else(Cm,(CN rest).2))
    else(Cm,8))
   else(Cm,2))else(Cm,2)
def DL:List Sx->List Fm × Int
 |[]=>([],0)
 |x::l=>match Cn x with
  | (f, c) => bif c == 0 then (match DL l with
   |(fs,c')=>bif c'==0 then(f::fs,0)else([],c'))else([],c)
end
end Go.Proofs.YtblgchkahpgdjaaGreat
namespace Go.Proofs.YtblgchkahpgdjaaGreat
open Go.AM Go.Proofs.Tryz
theorem IM{s w:ByteArray}(h:As s=true)(hw:As w=false):A3 s w=false:=by
 cases he:A3 s w with
 |false=>rfl
 |true=>rw[E9 he,hw]at h;simp at h
theorem VZ(op:ByteArray):EK op=if A3 op DR then 1 else if A3 op GF then 2 else if A3 op DV then 2 else if A3 op HM then 2 else if A3 op Ca then 2 else if A3 op DG then 2 else if A3 op Db then 2 else if A3 op Ix then 2 else if A3 op JP then 2 else-1:=rfl
theorem iO{s:ByteArray}(h:As s=true):EK s= -1/\E8 s=false/\Fg s=false/\El s=false:=by
 rw[VZ];unfold E8 Fg El FQ;rw[IM h (w:=DR) (by decide),IM h (w:=GF) (by decide),IM h (w:=DV) (by decide),IM h (w:=HM) (by decide),IM h (w:=Ca) (by decide),IM h (w:=DG) (by decide),IM h (w:=Db) (by decide),IM h (w:=Ix) (by decide),IM h (w:=JP) (by decide),IM h (w:=Bo) (by decide),IM h (w:=GR) (by decide)];exact⟨rfl,rfl,rfl,rfl⟩
theorem Va{op name:ByteArray}{args:List ByteArray}{params:List Pm}{ne nk:Nat}(h:FT op name args params ne nk=true):
  (op=Bx/\As name=true/\args.all CH=true/\params=[]/\ne=0/\nk=0)\/
  (op=CI/\name=⟨#[]⟩/\args.length=2/\args.all CH=true/\params=[]/\ne=0/\nk=0)\/
  ((op=DG\/op=Db\/op=Ca)/\name=⟨#[]⟩/\args=[]/\params=[]/\ne=2/\nk=0)\/
  ((op=Bo\/op=GR\/(op=DR/\nk=1)\/(op=GF/\nk=2))/\name=⟨#[]⟩/\args=[]/\params=[]/\ne=0)\/
  ((op=DV\/op=HM)/\name=⟨#[]⟩/\args=[]/\ne=0/\nk=1/\params.all Hl=true):=by
 unfold FT Dz at h;have t1: ∀ o:ByteArray,A3 o Bx=false->A3 o CI=false->Ez o name args=true->name=⟨#[]⟩/\args=[]:=by
  intro o h1 h2 h3;unfold Ez at h3;rw[h1,h2]at h3;simp only[BR,AQ,AV,List.isEmpty_iff]at h3;exact⟨E9 h3.1,h3.2⟩
 cases c1:A3 op Bx with
 |true=>
  have:=E9 c1;subst this;left;simp[c1,Ez,KQ]at h;exact⟨rfl,h.1,by simpa using h.2.1,h.2.2.2.2.1,h.2.2.1,h.2.2.2.1⟩
 |false=>
 cases c2:A3 op CI with
 |true=>
  have:=E9 c2;subst this;right;left;simp[c1,c2,Ez,KQ]at h;obtain⟨h1,h2,h3,h4,h5,h6,_⟩:=h;exact⟨rfl,E9 h1,h2,by simpa using h3,h6,h4,h5⟩
 |false=>
  have t2:=t1 op c1 c2;rw[c1,c2]at h;simp only[BR,AQ]at h;right;right;by_cases c3:A3 op DG=true\/A3 op Db=true\/A3 op Ca=true
  ·left;have h':Ez op name args=true/\ne=2/\nk=0/\params=[]:=by
    split at h
    ·simp at h
    ·rename_i e m q he;have:(e,m,q)=(2,0,false):=by
      rcases c3 with c|c|c
      ·simp [c]at he;simp[he]
      ·by_cases c0:A3 op DG=true
       ·simp [c0]at he;simp[he]
       ·simp [c0,c]at he;simp[he]
      ·by_cases c0:A3 op DG=true
       ·simp [c0]at he;simp[he]
       ·by_cases c00:A3 op Db=true
        ·simp [c0,c00]at he;simp[he]
        ·simp [c0,c00,c]at he;simp[he]
     simp at this;obtain⟨rfl,rfl,rfl⟩:=this;simp[KQ]at h;exact⟨h.1,h.2.1,h.2.2.1,h.2.2.2.1⟩
   obtain⟨g1,g2,g3,g4⟩:=h';obtain⟨g5,g6⟩:=t2 g1;exact⟨c3.imp E9 (λc=>c.imp E9 E9),g5,g6,g4,g2,g3⟩
  ·simp only[not_or,Yj]at c3;rw[c3.1,c3.2.1,c3.2.2]at h;simp only[BR,AQ]at h;right;cases c4:A3 op Bo with
   |true=>
    left;simp[c4,KQ]at h;exact⟨.inl (E9 c4),(t2 h.1).1,(t2 h.1).2,h.2.2.1,h.2.1⟩
   |false=>
   cases c5:A3 op GR with
   |true=>
    left;simp[c4,c5,KQ]at h;exact⟨.inr (.inl (E9 c5)),(t2 h.1).1,(t2 h.1).2,h.2.2.1,h.2.1⟩
   |false=>
   cases c6:A3 op DR with
   |true=>
    left;simp[c4,c5,c6,KQ]at h;exact⟨.inr (.inr (.inl ⟨E9 c6,h.2.2.1⟩)),(t2 h.1).1,(t2 h.1).2,h.2.2.2.1,h.2.1⟩
   |false=>
   cases c7:A3 op GF with
   |true=>
    left;simp[c4,c5,c6,c7,KQ]at h;exact⟨.inr (.inr (.inr ⟨E9 c7,h.2.2.1⟩)),(t2 h.1).1,(t2 h.1).2,h.2.2.2.1,h.2.1⟩
   |false=>
   cases c8:A3 op DV with
   |true=>
    right;simp[c4,c5,c6,c7,c8,KQ]at h;exact⟨.inl (E9 c8),(t2 h.1).1,(t2 h.1).2,h.2.1,h.2.2.1,by simpa using h.2.2.2⟩
   |false=>
   cases c9:A3 op HM with
   |true=>
    right;simp[c4,c5,c6,c7,c8,c9,KQ]at h;exact⟨.inr (E9 c9),(t2 h.1).1,(t2 h.1).2,h.2.1,h.2.2.1,by simpa using h.2.2.2⟩
   |false=>simp[c4,c5,c6,c7,c8,c9]at h
theorem iP{c:UInt8}(h:Ew c=true):Ek c=some c:=by
 have h45:c.toNat=45->c=45:=λe=>TL.1 (by rw[e];try rfl);have h95:c.toNat=95->c=95:=λe=>TL.1 (by rw[e];try rfl);have hu:IJ c=false:=by
  unfold Ew EY at h;unfold IJ;simp at h⊢;omega
 have hw:wB c=true:=by
  unfold wB Ff;unfold Ew at h;simp only[ED]at h⊢;rcases h with((h|h)|h)|h
  ·exact .inl (.inl h)
  ·exact .inl (.inr h)
  ·rw [h45 (by simpa using h)];exact .inr (by decide)
  ·rw [h95 (by simpa using h)];exact .inr (by decide)
 unfold Ek;rw[hu,hw];try rfl
theorem S6: ∀ {l:List UInt8},l.all Ew=true->EZ l=some l
 |[],_=>rfl
 |c::l,h=>by
  simp only[List.all_cons,AV]at h;simp only[EZ,iP h.1,S6 h.2,Bs]
theorem Vb{l:List UInt8}(h:II l=true):l.all Ew=true:=by
 cases l with
 |nil=>rfl
 |cons c l=>
  simp only[II,AV]at h;simp only[List.all_cons,AV];exact⟨V9 h.1,h.2⟩
theorem Vc{s:ByteArray}(h1:0<s.size)(h2:s.size<=32)(h3:EZ s.data.toList=some s.data.toList)(h4: ∀ c l,s.data.toList=c::l->Ff c=false/\c≠45):JN s=true:=by
 have hl:FB s=(s,true):=by
  unfold FB;rw[AK ⟨h1,h2⟩,h3]
 unfold JN;rw[hl];have hn:Ks s=false:=by
  have hsz:s.data.toList≠[]:=by
   intro e;have:s.data.toList.length=0:=(by rw[e];try rfl);rw[F7]at this;have:s.size=0:=this;omega
  unfold Ks GQ;cases he:s.data.toList with
  |nil=>exact(hsz he).elim
  |cons c l=>
   obtain⟨g1,g2⟩:=h4 c l he;split
   ·rename_i e;simp at e;exact(g2 e.1).elim
   ·rw [he,List.all_cons,g1];try rfl
 simp[hn,A3]
theorem Vd{s:ByteArray}(h:As s=true):JN s=true:=by
 unfold As at h;simp only[AV,Bg]at h;obtain⟨⟨⟨h1,h2⟩,h3⟩,_⟩:=h;refine Vc h2 h3 (S6 (Vb h1)) ?_;intro c l he;rw[he]at h1;simp only[II,AV]at h1;have h4:=h1.1;unfold EY at h4;simp at h4;refine⟨by unfold Ff;simp;omega,λe=>?_⟩;subst e;simp at h4
theorem iQ{s:ByteArray}(h:Ey s=true):JN s=true/\A3 s GD=false:=by
 unfold Ey at h;simp only[AV,Bg]at h;obtain⟨⟨⟨h1,h2⟩,h3⟩,h4⟩:=h;cases he:s.data.toList with
 |nil=>rw[he]at h3;simp at h3
 |cons c l=>
  rw[he]at h3;simp at h3;have hc:c=63:=TL.1 (by rw[h3];try rfl);subst hc;have hx:(s.extract 1 s.size).data.toList=l:=by
   have:(s.extract 1 s.size).data.toList=(s.data.toList.take s.size).drop 1:=by
    simp[oT,List.drop_take]
   rw[this,List.take_of_length_le (by rw[F7];exact AG _),he];rfl
  unfold As at h4;simp only[AV]at h4;have h5:=Vb h4.1.1.1;rw[hx]at h5;refine⟨Vc (by omega) h2 ?_ ?_,?_⟩
  ·rw [he];simp only[EZ,S6 h5];rfl
  ·intro d m hd;rw[he]at hd;simp at hd;rw[← hd.1];exact⟨by decide,by decide⟩
  ·unfold A3;rw[he];simp[GD]
theorem Mt{s:ByteArray}(h:JN s=true):Hm (A7 s)=true:=by
 unfold Hm A7;simp[Ax,CM,h]
theorem Ve{s:ByteArray}(h:Gj s=true):JN s=true:=by
 unfold Gj at h;simp only[ED]at h;rcases h with h|h
 ·exact Vd h
 ·rw [E9 h];decide
theorem Vf: ∀ (l:List Pm)(don:List Pm),l.all Hl=true->Ec true (AZ l) don []=(don++l,0)
 |[],don,_=>by simp[AZ,Ec,Bv]
 |p::l,don,h=>by
  simp only[List.all_cons,AV]at h;obtain⟨h1,h2⟩:=h;unfold Hl at h1;simp only[AV]at h1;obtain⟨g1,g2⟩:=iQ h1.1;have t1: ∀ s:ByteArray,Aj (A7 s)=s:=λ_=>rfl;have w1:Hm (A7 ⟨#[45]⟩)=true:=Mt (by decide);have w2:A3 (⟨#[45]⟩:ByteArray) GD=true:=by decide
  simp only[AZ];rw[Ec,Mt g1,t1,g2,h1.1];simp only[AC,AL,List.nil_append];rw[Ec,w1,t1,w2];simp only[AC,Mt (Ve h1.2),t1,h1.2];simp only[List.isEmpty_cons,CB,BG,AC,Bv,List.map_cons,List.map_nil];rw[Vf l _ h2];simp
theorem S7{l:List Pm}(h:l.all Hl=true):C5 true (AZ l)=(l,0):=by
 unfold C5;rw[Vf l [] h];rfl
theorem Vg: ∀ (l:List Fm),(∀ k∈l,Cn (Ap k)=(k,0))->DL (l.map Ap)=(l,0)
 |[],_=>rfl
 |k::l,h=>by
  simp only[List.map_cons,DL,h k (by simp),D8,AC,Vg l (λq hq=>h q (by simp[hq]))]
theorem iR: ∀ f:Fm,DH f=true->Cn (Ap f)=(f,0):=by
 refine Fm.ind ?_;intro op name args params exprs kids ih hs;unfold DH at hs;simp only[AV]at hs;obtain⟨⟨h1,h2⟩,h3⟩:=hs;rw[Mo]at h3;have hk:=Vg kids (λk hk=>ih k hk (h3 k hk));have t1: ∀ s:ByteArray,Aj (A7 s)=s:=λ_=>rfl;have t2: ∀ s:ByteArray,Ax (A7 s)=1:=λ_=>rfl;rcases Va h1 with⟨rfl,hn,ha,rfl,he,hk0⟩|⟨rfl,rfl,hl,ha,rfl,he,hk0⟩|⟨ho,rfl,rfl,rfl,he,hk0⟩|⟨ho,rfl,rfl,rfl,he⟩|⟨ho,rfl,rfl,he,hk1,hp⟩
 ·obtain rfl:=List.length_eq_zero_iff.1 he;obtain rfl:=List.length_eq_zero_iff.1 hk0;obtain⟨n1,n2,n3,n4⟩:=iO hn;unfold Ap;rw[AK (by decide)];unfold Cu AE;simp only[List.map_cons];unfold Cn;simp only[t1,t2,n1,n2,n3,n4,hn,O4 args ha,D8,AC,AL,AO];rfl
 ·obtain rfl:=List.length_eq_zero_iff.1 he;obtain rfl:=List.length_eq_zero_iff.1 hk0
  match args,hl with
  |[a,b],_=>
   unfold Ap;rw[A8 (by decide),AK (by decide)];have e:=O4 [a,b] ha;simp only[List.map_cons,List.map_nil]at e;unfold Cu AE;simp only[List.map_cons,List.map_nil];unfold Cn;simp only[t1,t2];have c1:EK Ca=2:=(by decide);have c2:E8 Ca=false:=(by decide);have c3:Fg Ca=false:=(by decide);have c4:El Ca=true:=(by decide);have c5:A3 Ca Ca=true:=(by decide);simp only[c1,c2,c3,c4,Hn,c5,t2,e,D9,D8,AC,AL,AO,List.length_cons,List.length_nil,LP];rfl
 ·obtain rfl:=List.length_eq_zero_iff.1 hk0
  match exprs,he with
  |[a,b],_=>
   simp only[List.all_cons,AV]at h2;have ea:=Ry a h2.1;have eb:=Ry b h2.2.1;have key: ∀ w:ByteArray,A3 w Bx=false->A3 w CI=false->FQ w=true->EK w=2->E8 w=false->Fg w=false->A3 w Ix=false->A3 w JP=false->(A3 w Ca&&Ax (BI a)==1&&Ax (BI b)==1)=false->
     Cn (Ap (.mk w ⟨#[]⟩ [] [] [a,b] []))=(.mk w ⟨#[]⟩ [] [] [a,b] [],0):=by
    intro w k1 k2 k3 k4 k5 k6 k7 k8 k9;unfold Ap;rw[k1,k2,k3];simp only[BR,AQ,AO,List.map_cons,List.map_nil];unfold AE Cn;have k10:El w=true:=(by unfold El;rw[k3];try rfl);simp only[t1,t2,k4,k5,k6,k10,Hn,k9,ea,eb,k7,k8,D9,D8,AC,AL,AO,List.length_cons,List.length_nil,BR,AQ];rfl
   have hkn:Ax (BI a)≠1:=by
    obtain⟨o,n,v,ar,ks⟩:=a;unfold BI;split
    ·simp [Ax]
    ·split
     ·simp [Cu,AE,Ax]
     ·split<;>simp[AE,Ax]
   have hkb:(Ax (BI a)==1)=false:=(by simpa using hkn);rcases ho with rfl|rfl|rfl
   ·exact key DG (by decide) (by decide) (by decide) (by decide) (by decide) (by decide) (by decide) (by decide) (by rw[hkb];simp)
   ·exact key Db (by decide) (by decide) (by decide) (by decide) (by decide) (by decide) (by decide) (by decide) (by rw[hkb];simp)
   ·exact key Ca (by decide) (by decide) (by decide) (by decide) (by decide) (by decide) (by decide) (by decide) (by rw[hkb];simp)
 ·obtain rfl:=List.length_eq_zero_iff.1 he;have key: ∀ w:ByteArray,A3 w Bx=false->A3 w CI=false->FQ w=false->E8 w=false->(A3 w Bo&&kids.isEmpty)=false->Fg w=true->(decide (EK w>=0)&&!(decide (EK w=kids.length)))=false->
    Cn (Ap (.mk w ⟨#[]⟩ [] [] [] kids))=(.mk w ⟨#[]⟩ [] [] [] kids,0):=by
   intro w k1 k2 k3 k4 k5 k6 k7;unfold Ap;rw[k1,k2,k3,k4,k5,Mp];simp only[BR,AQ,List.append_nil,List.singleton_append];unfold AE Cn;have k8:(decide (EK w>=0)&&!(decide (EK w=(kids.map Ap).length)))=false:=(by rw[List.length_map];exact k7);simp only[t1,t2,k8,k4,k6,hk,D8,AC,AL,AO]
  rcases ho with rfl|rfl|⟨rfl,hn⟩|⟨rfl,hn⟩
  ·cases kids with
   |nil=>rfl
   |cons k ks=>exact key Bo (by decide) (by decide) (by decide) (by decide) (by simp) (by decide) (by rw[show decide (EK Bo>=0)=false by decide];try rfl)
  ·exact key GR (by decide) (by decide) (by decide) (by decide) (by rw[show A3 GR Bo=false by decide];try rfl) (by decide) (by rw[show decide (EK GR>=0)=false by decide];try rfl)
  ·exact key DR (by decide) (by decide) (by decide) (by decide) (by rw[show A3 DR Bo=false by decide];try rfl) (by decide) (by rw[hn];decide)
  ·exact key GF (by decide) (by decide) (by decide) (by decide) (by rw[show A3 GF Bo=false by decide];try rfl) (by decide) (by rw[hn];decide)
 ·obtain rfl:=List.length_eq_zero_iff.1 he;have t3: ∀ l,Ax (AE l)=3:=λ_=>rfl;have t4: ∀ l,C9 (AE l)=l:=λ_=>rfl;have key: ∀ w:ByteArray,A3 w Bx=false->A3 w CI=false->FQ w=false->E8 w=true->A3 w Bo=false->EK w=2->
    Cn (Ap (.mk w ⟨#[]⟩ [] params [] kids))=(.mk w ⟨#[]⟩ [] params [] kids,0):=by
   intro w k1 k2 k3 k4 k5 k6;unfold Ap;rw[k1,k2,k3,k4,k5,Mp];simp only[BR,AQ,AO,BF,List.cons_append,List.nil_append];generalize hm:kids.map Ap=M at hk;have hml:M.length=1:=(by rw[← hm,List.length_map];exact hk1);unfold AE Cn;have k8:(decide ((2:Int)>=0)&&!(decide ((2:Int)=((AE (AZ params)::M).length:Int))))=false:=(by rw[List.length_cons,hml];decide);unfold AE at k8 t3 t4;simp only[t1,t2,k6,k8,k4,t3,t4,S7 hp,hk,D8,AC,AL,AO]
  rcases ho with rfl|rfl
  ·exact key DV (by decide) (by decide) (by decide) (by decide) (by decide) (by decide)
  ·exact key HM (by decide) (by decide) (by decide) (by decide) (by decide) (by decide)
end Go.Proofs.YtblgchkahpgdjaaGreat
