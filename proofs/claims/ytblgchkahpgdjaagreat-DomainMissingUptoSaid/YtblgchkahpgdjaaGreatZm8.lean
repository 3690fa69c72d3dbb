/- What the claim rests on, part 8: the abstract machine, contracts of the functions, plain data. -/
import Derived.Test.YtblgchkahpgdjaaGreatZm7
set_option linter.unusedVariables false
set_option linter.unusedSimpArgs false
set_option linter.unusedSectionVars false
namespace Go.Proofs.YtblgchkahpgdjaaGreat
open Go.AM Go.Proofs.Tryz
set_option maxHeartbeats 4000000
set_option maxRecDepth 20000
theorem jd{don:List Pm}{pen:List ByteArray}{t s:ByteArray}{j:Nat}(hj:pen[j]? =some s):
  (A8 (don++Bw t (pen.take j)++Bw Dr (pen.drop j)))[don.length+j]? =some [A3 s,A3 Dr]/\
  (A8 (don++Bw t (pen.take j)++Bw Dr (pen.drop j))).set (don.length+j) [A3 s,A3 t]=A8 (don++Bw t (pen.take (j+1))++Bw Dr (pen.drop (j+1))):=by
 have hjl:j<pen.length:=(List.getElem?_eq_some_iff.1 hj).1;have hA:(A8 (don++Bw t (pen.take j))).length=don.length+j:=by simp[A8,Bw];omega
 have e1:A8 (don++Bw t (pen.take j)++Bw Dr (pen.drop j))=A8 (don++Bw t (pen.take j))++([A3 s,A3 Dr]::A8 (Bw Dr (pen.drop (j+1)))):=by
  rw[Ca hj];simp[A8,Bw,Ir]
 have e2:A8 (don++Bw t (pen.take (j+1))++Bw Dr (pen.drop (j+1)))=A8 (don++Bw t (pen.take j))++([A3 s,A3 t]::A8 (Bw Dr (pen.drop (j+1)))):=by
  rw[List.take_add_one,hj];simp[A8,Bw,Ir]
 rw[e1,e2];constructor
 ·rw [List.getElem?_append_right (by omega),hA];simp
 ·rw [List.set_append_right _ _ (by omega),hA];simp
theorem je(vars:Bool)(x:Sx)(l:List Sx)(don:List Pm)(pen:List ByteArray):Ek vars (x::l) don pen=(bif Hq x then
   (bif A2 (Af x) GJ then (match l with
    |[]=>([],2)
    |t::l'=>bif !pen.isEmpty&&Hq t then(bif Gm (Af t)then Ek vars l' (don++Bw (Af t) pen) []else([],8))else([],2))
   else bif (bif vars then F9 (Af x)else As (Af x))then Ek vars l don (pen++[Af x])else([],8))
  else([],2)):=by
 cases l<;>(conv=>lhs;unfold Ek)
theorem OI{P:Program}{ow:Nat->Bool}{wf:FuncId->Bool}{n:Nat}{Q:BU}{s:AE}{h:A0}{c:Code}(I:AE->A0->Prop)(hi:I s h)(hh: ∀ s h,I s h->Ar P ow wf n c Q s h):Ar P ow wf n c Q s h:=hh _ _ hi
theorem WN(l:List Pm): ∀ r∈A8 l, ∀ p∈r, ∃ v,p=PV.sc v:=by
 intro r hr p hp;simp only[A8,List.mem_map]at hr;obtain⟨x,_,rfl⟩:=hr;simp only[Ir,List.mem_cons,List.not_mem_nil,FF]at hp;rcases hp with rfl|rfl
 ·exact ⟨_,rfl⟩
 ·exact ⟨_,rfl⟩
theorem WO{h:A0}{id0:Nat}{p:PV}{l:List Pm}(t:Tl h id0 2 p (A8 l)):AI id0 h (.A1 2 (A8 l)) p:=t.CD (WN l)
theorem M7{vars:Bool}{l:List Sx}(hl:l.length<=1048576)(hok: ∀ x∈l,x.ok)(h:A0):
  A6 prog 118 [.A1 6 (Sx.rows l),.sc (.bool vars)] h λr h'=>r= .Al [.A1 2 (A8 (C5 vars l).1),AQ (C5 vars l).2]/\h'=h:=by
 refine A6.CD Ty.Us ?_;have hll:=Sx.B3 l;generalize hF:C5 vars l=F;have bad: ∀ (c:Int)(h':A0),c=2\/c=8->AH h h'->F=([],c)->AI h.next h' (.Al [.A1 2 (A8 F.1),AQ F.2]) (.Al [.sc (.slice none 0 0),An c])/\AH h h':=by
  intro c h' hc hg hf;subst hf;have:AQ c=An c:=by rcases hc with rfl|rfl<;>rfl
  simp only[this];refine⟨?_,hg⟩;simp only[An,A8,List.map_nil,AI,AN];exact⟨_,rfl,.inr (.inl ⟨rfl,.inr rfl⟩),rfl,trivial⟩
 simp only[An]at bad;refine AD func118 ntmps118 results118 Ty.Us ?_;refine wt A4 ?_;refine By (λm S h'=>S 0= .A1 6 (Sx.rows l)/\S 1= .sc (.bool vars)/\ ∃ (k:Nat)(o:PV)(don:List Pm)(pen:List ByteArray),S 8= qK k/\S 6=o/\S 7= qK don.length/\k<=l.length/\m=l.length-k/\don.length+pen.length<=k/\AH h h'/\Tl h' h.next 2 o (A8 (don++Bw Dr pen))/\F=Ek vars (l.drop k) don pen) l.length ?_ ?_
 ·simp only[Ty.w,simprocAttr];exact⟨0,_,[],[],rfl,rfl,rfl,by omega,rfl,by simp,AH.refl _,Tl.nil,by rw[← hF];try rfl⟩
 ·rintro m S h' ⟨g0,g1,k,o,don,pen,g8,g6,g7,hk,rfl,hdp,hg,tl,hinv⟩
  clear hF;by_cases hlt:k<l.length
  ·have hd:decide ((k:Int)<(l.length:Int))=true:=(by simp;omega);have w7:IntKind.i64.wrap ((k:Int)+1)=k+1:=(by rw[BM (by omega) (by omega)]);obtain⟨x,hx⟩: ∃ x,l[k]? =some x:=⟨_,List.getElem?_eq_getElem hlt⟩;have hr:=Sx.CG hx;have hxk:=hok x (List.mem_of_getElem? hx);have hv:=λh:A0=>JM hxk h;have hte:=WJ hxk;rw[Ca hx]at hinv;simp only[je,Hq]at hinv;generalize CJ x 0 0=V at hv hinv;obtain⟨vb,vn⟩:=V;obtain⟨ki,va,li,co,te,ks⟩:=x;simp only[Az,Af]at hinv hte;simp only[Sx.cells]at hr hv;have hte':te.size<=9223372036854775807:=(by unfold AF at hte;omega);cases q1:(ki !=1)with
   |true=>
    rw[show(ki==1)=false by simpa using q1]at hinv;simp only[B5,AJ]at hinv;replace zz:=BF g0 g1 g6 g7 g8 hll hd hr q1;refine wt zz ?_;exact bad 2 _ (.inl rfl) hg hinv
   |false=>
    rw[show(ki==1)=true by simpa using q1]at hinv;cases vb with
    |false=>
     simp only[BA,AJ]at hinv;replace zz:=BF g0 g1 g6 g7 g8 hll hd hr q1;refine wt zz ?_;replace zz:=B6 g0 g1 g6 g7 g8 hll hd hr q1 yF;refine uU zz (hv _) ?_;replace zz:=Ah g0 g1 g6 g7 g8 yF;refine wt zz ?_;exact bad 2 _ (.inl rfl) hg hinv
    |true=>
     simp only[LS,AB]at hinv;replace zz:=BF g0 g1 g6 g7 g8 hll hd hr q1;refine xH 9 zz ?_;replace zz:=B6 g0 g1 g6 g7 g8 hll hd hr q1 yT;refine uU zz (hv _) ?_;replace zz:=Ad g0 g1 g6 g7 g8 hr yT;refine xH 9 zz ?_;refine⟨?_⟩;refine OI (λS h2=>S 0= .A1 6 (Sx.rows l)/\S 1= .sc (.bool vars)/\S 6=o/\S 7= qK don.length/\S 8= qK k/\S 9=A3 te/\h2=h') ?_ ?_
     ·simp only[Ty.w,simprocAttr,g0,g1,g6,g7,g8]
     clear g0 g1 g6 g7 g8 hv hr q1;rintro S h' ⟨g0,g1,g6,g7,g8,g9,rfl⟩;have hrl:(A8 (don++Bw Dr pen)).length=don.length+pen.length:=(by rw[Gz];simp[Bw]);obtain⟨n,hn⟩: ∃ n,n=don.length+pen.length:=⟨_,rfl⟩;rw[← hn]at hrl;cases q2:(te.data.toList==(#[45]:Array UInt8).toList)with
     |false=>
      rw[show A2 te GJ=false from q2]at hinv;simp only[AJ]at hinv;have hap:A8 (don++Bw Dr pen)++[[.sc (.string te),.sc (.string ⟨#[111,98,106,101,99,116]⟩)]]=A8 (don++Bw Dr (pen++[te])):=(by simp[A8,Bw,Ir,Dr]);have hb:(n+1)*32<=140737488355328:=(by omega);obtain⟨H,t1,t2,t3,t4,t5⟩:=tl.tail;have hkp:=t5 h ⟨hg.le,hg.B1⟩ (AG _);have hgH:AH h H:=⟨hkp.1,hkp.2⟩;have fin2:AH h (H.new (.arr 2 (A8 (don++Bw Dr (pen++[te])))))/\Tl (H.new (.arr 2 (A8 (don++Bw Dr (pen++[te]))))) h.next 2 (.own H.next 0 (n+1)) (A8 (don++Bw Dr (pen++[te]))):=
       ⟨hgH.new _,Tl.grow hkp.1 (by rw[Gz];simp[Bw];omega)⟩
      rw[t3]at fin2;cases vars with
      |true=>
       simp only[AB]at hinv;have hc:=λh:A0=>Lw (h:=h) hte';cases v1:F9 te with
       |false=>
        rw[v1]at hinv hc;simp only[AJ]at hinv;replace zz:=BF g0 g1 g6 g7 g8 g9 q2 yT yF;refine wt zz ?_;replace zz:=Ad g0 g1 g6 g7 g8 g9 yF;refine uU zz (hc _) ?_;refine wt zz ?_;exact bad 8 _ (.inr rfl) hg hinv
       |true=>
        rw[v1]at hinv hc;simp only[AB]at hinv;replace zz:=BF g0 g1 g6 g7 g8 g9 q2 yT yF;refine wt zz ?_;replace zz:=Ad g0 g1 g6 g7 g8 g9 yT;refine uU zz (hc _) ?_;replace zz:=AY g0 g1 g6 g7 g8 g9 yT t1 t2 hrl hb (uu hap w7);(repeat'(first|refine cK ?_|refine nK ?_|refine Ai λK hK=>?_|refine uR zz ?_|refine uK ?_|refine uX ?_|refine C3 zz ?_|(refine uN hK ?_;clear hK)|(clear hK;refine uN hK ?_;clear hK)|(rw[AK];rotate_left 1;omega;simp only[Ty.w,simprocAttr,g0,g1,g6,g7,g8,g9,Ax,t1,t2,hrl,hb,hap,w7])|apply zI));exact⟨l.length-(k+1),by omega,k+1,_,don,pen++[te],by simp,rfl,rfl,by omega,rfl,by simp;omega,fin2.1,fin2.2,hinv⟩
      |false=>
       simp only[AJ]at hinv;have hc:=λh:A0=>FY (h:=h) hte';cases v1:As te with
       |false=>
        rw[v1]at hinv hc;simp only[AJ]at hinv;replace zz:=BF g0 g1 g6 g7 g8 g9 q2 yT yF;refine wt zz ?_;replace zz:=Ad g0 g1 g6 g7 g8 g9 yF;refine uU zz (hc _) ?_;refine wt zz ?_;exact bad 8 _ (.inr rfl) hg hinv
       |true=>
        rw[v1]at hinv hc;simp only[AB]at hinv;replace zz:=BF g0 g1 g6 g7 g8 g9 q2 yT yF;refine wt zz ?_;replace zz:=Ad g0 g1 g6 g7 g8 g9 yT;refine uU zz (hc _) ?_;replace zz:=AY g0 g1 g6 g7 g8 g9 yT t1 t2 hrl hb (uu hap w7);(repeat'(first|refine cK ?_|refine nK ?_|refine Ai λK hK=>?_|refine uR zz ?_|refine uK ?_|refine uX ?_|refine C3 zz ?_|(refine uN hK ?_;clear hK)|(clear hK;refine uN hK ?_;clear hK)|(rw[AK];rotate_left 1;omega;simp only[Ty.w,simprocAttr,g0,g1,g6,g7,g8,g9,Ax,t1,t2,hrl,hb,hap,w7])|apply zI));exact⟨l.length-(k+1),by omega,k+1,_,don,pen++[te],by simp,rfl,rfl,by omega,rfl,by simp;omega,fin2.1,fin2.2,hinv⟩
     |true=>
      rw[show A2 te GJ=true from q2]at hinv;simp only[AB]at hinv;have hsl:=tl.sl;have hlo:=hsl.len;rw[hrl]at hlo;have hlk:=hsl.lk;replace zz:=BF g0 g1 g6 g7 g8 g9 q2 w7 yT;refine xH 14 zz ?_;refine⟨?_⟩;refine OI (λS h2=>S 0= .A1 6 (Sx.rows l)/\S 1= .sc (.bool vars)/\S 6=o/\S 7= qK don.length/\S 8= qK ((k:Int)+1)/\h2=h') ?_ ?_
      ·simp only[Ty.w,simprocAttr,g0,g1,g6,g7,g8]
      clear g0 g1 g6 g7 g8 g9 w7;rintro S h' ⟨g0,g1,g6,g7,g8,rfl⟩;obtain⟨k1,hk1⟩: ∃ k1:Int,k1=(k:Int)+1:=⟨_,rfl⟩;rw[← hk1]at g8;cases hpe:pen.isEmpty with
      |true=>
       have hpe':pen=[]:=List.isEmpty_iff.1 hpe;have hF2:F=([],2):=by
        rw[hinv,hpe];split
        ·rfl
        ·rfl
       have hdd:((don.length:Int)==(n:Int))=true:=(by rw[hn,hpe'];simp);replace zz:=BJ g0 g1 g6 g7 g8 hlo hlk hdd;refine wt zz ?_;exact bad 2 _ (.inl rfl) hg hF2
      |false=>
       rw[hpe]at hinv;simp only[CB,B7]at hinv;have hp0:0<pen.length:=by
        cases pen with
        |nil=>simp at hpe
        |cons _ _=>simp
       have hdd:((don.length:Int)==(n:Int))=false:=(by rw[hn];simp;omega);by_cases hl2:k+1<l.length
       ·have hd2:(k1==(l.length:Int))=false:=(by rw[hk1];simp;omega);obtain⟨y,hy⟩: ∃ y,l[k+1]? =some y:=⟨_,List.getElem?_eq_getElem hl2⟩;have hyk:=hok y (List.mem_of_getElem? hy);have hvy:=λh:A0=>JM hyk h;have htey:=WJ hyk;rw[Ca hy]at hinv;simp only at hinv;have hry:(Sx.rows l)[k1.toNat]? =some y.cells:=(by rw[hk1];exact Sx.CG hy);generalize CJ y 0 0=V2 at hvy hinv;obtain⟨vb2,vn2⟩:=V2;obtain⟨ki2,va2,li2,co2,te2,ks2⟩:=y;simp only[Az,Af]at hinv htey;simp only[Sx.cells]at hry hvy;have hcy:=λh:A0=>Rw (h:=h) htey;have hk0:(0:Int)<=k1:=(by omega);cases q3:(ki2 !=1)with
        |true=>
         rw[show(ki2==1)=false by simpa using q3]at hinv;simp only[B5,AJ]at hinv;replace zz:=AY g0 g1 g6 g7 g8 hlo hlk hdd hll hd2 hry (uu hk0 q3);refine wt zz ?_;exact bad 2 _ (.inl rfl) hg hinv
        |false=>
         rw[show(ki2==1)=true by simpa using q3]at hinv;simp only[B7]at hinv;cases vb2 with
         |false=>
          simp only[AJ]at hinv;replace zz:=AY g0 g1 g6 g7 g8 hlo hlk hdd hll hd2 hry (uu hk0 q3);refine wt zz ?_;replace zz:=BJ g0 g1 g6 g7 g8 hry hk0 yF;refine uU zz (hvy _) ?_;replace zz:=Ah g0 g1 g6 g7 g8 yF;refine wt zz ?_;exact bad 2 _ (.inl rfl) hg hinv
         |true=>
          simp only[AB]at hinv;cases v3:Gm te2 with
          |false=>
           rw[v3]at hinv hcy;simp only[AJ]at hinv;replace zz:=AY g0 g1 g6 g7 g8 hlo hlk hdd hll hd2 hry (uu hk0 q3);refine wt zz ?_;replace zz:=BJ g0 g1 g6 g7 g8 hry hk0 yT;refine uU zz (hvy _) ?_;refine wt zz ?_;replace zz:=BJ g0 g1 g6 g7 g8 hry hk0 yF;refine uU zz (hcy _) ?_;replace zz:=Ah g0 g1 g6 g7 g8 yF;refine wt zz ?_;exact bad 8 _ (.inr rfl) hg hinv
          |true=>
           rw[v3]at hinv hcy;simp only[AB]at hinv;obtain⟨id,i1,i2,ho,i4⟩: ∃ id,h.next<=id/\id<h'.next/\o= .own id 0 n/\h'.obj id=some (.arr 2 (A8 (don++Bw Dr pen))):=by
            rcases tl with⟨hn0,_⟩|⟨id,i1,i2,i3,i4⟩
            ·rw [hn0]at hrl;simp at hrl;omega
            ·rw [hrl]at i3;exact⟨id,i1,i2,i3,i4⟩
           subst ho;clear tl hsl;replace zz:=AY g0 g1 g6 g7 g8 hlo hlk hdd hll hd2 hry (uu hk0 q3);refine wt zz ?_;replace zz:=BJ g0 g1 g6 g7 g8 hry hk0 yT;refine uU zz (hvy _) ?_;refine wt zz ?_;replace zz:=BJ g0 g1 g6 g7 g8 hry hk0 yT;refine uU zz (hcy _) ?_;refine wt zz ?_;refine By (λm S h2=>S 0= .A1 6 (Sx.rows l)/\S 1= .sc (.bool vars)/\S 8= qK k1/\S 6= .own id 0 n/\ ∃ j:Nat,S 7= qK ((don.length+j:Nat):Int)/\j<=pen.length/\m=pen.length-j/\AH h h2/\h2.next=h'.next/\h2.obj id=some (.arr 2 (A8 (don++Bw te2 (pen.take j)++Bw Dr (pen.drop j))))) pen.length ?_ ?_
           ·simp only[Ty.w,simprocAttr,g0,g1,g6,g7,g8];exact⟨0,by simp,by omega,rfl,hg,by simpa[Bw]using i4⟩
           ·clear g0 g1 g6 g7 g8 i4;rintro m S h2 ⟨g0,g1,g8,g6,j,g7,hj,rfl,hg2,hn2,ob⟩;by_cases hjl:j<pen.length
            ·obtain ⟨q,hqn⟩: ∃ q,q=don.length+j:=⟨_,rfl⟩;obtain⟨s,hs⟩: ∃ s,pen[j]? =some s:=⟨_,List.getElem?_eq_getElem hjl⟩;obtain⟨hp1,hp2⟩:=jd (don:=don) (t:=te2) hs;rw[← hqn]at g7 hp1 hp2;have hdj:decide ((q:Int)<(n:Int))=true:=(by simp;omega);have wj:IntKind.i64.wrap ((q:Int)+1)=((q+1:Nat):Int):=(by rw[BM (by omega) (by omega)];try rfl);have hjl2:q<n:=(by omega);generalize hR:A8 (don++Bw te2 (pen.take j)++Bw Dr (pen.drop j))=R at ob hp1 hp2;replace zz:=AY g0 g1 g6 g7 g8 hdj wj hry hk0 ob hp1 (uu hp2 hjl2);refine wt zz ?_;refine⟨pen.length-(j+1),by omega,j+1,by rw[hqn];try rfl,by omega,rfl,hg2.set i1 _,hn2,?_⟩;try simp[A0.set]
            ·have hje:j=pen.length:=(by omega);subst hje;rw[← hn]at g7;have hdj:decide ((n:Int)<(n:Int))=false:=(by simp);have w8:IntKind.i64.wrap (k1+1)=((k+2:Nat):Int):=(by rw[hk1,BM (by omega) (by omega)];omega);rw[List.take_length,List.drop_length]at ob;have hz:A8 (don++Bw te2 pen++Bw Dr [])=A8 (don++Bw te2 pen):=(by simp[Bw]);rw[hz]at ob;replace zz:=Ad g0 g1 g6 g7 g8 hdj w8;refine wt zz ?_;refine⟨l.length-(k+2),by omega,k+2,_,don++Bw te2 pen,[],rfl,rfl,by rw[hn];simp[Bw],by omega,rfl,by simp[Bw];omega,hg2,?_,hinv⟩;refine .inr ⟨id,i1,by omega,?_,?_⟩
             ·rw [Gz,hn];simp[Bw]
             ·rw [ob];simp[Bw]
       ·have hke:k+1=l.length:=(by omega);have hd2:(k1==(l.length:Int))=true:=(by rw[hk1];simp;omega);rw[List.drop_eq_nil_of_le (by omega)]at hinv;simp only at hinv;replace zz:=B6 g0 g1 g6 g7 g8 hlo hlk hdd hll hd2;refine wt zz ?_;exact bad 2 _ (.inl rfl) hg hinv
  ·have hd:decide ((k:Int)<(l.length:Int))=false:=(by simp;omega);rw[List.drop_eq_nil_of_le (by omega)]at hinv;simp only[Ek]at hinv;subst hinv;replace zz:=Ad g0 g1 g6 g7 g8 hll hd;refine wt zz ?_;have e2:AQ 0= .sc .nilIface:=rfl;simp only[e2];refine⟨?_,hg⟩;have h1:=WO tl;unfold AI;refine⟨_,rfl,?_⟩;unfold AN;refine⟨h1,?_⟩;unfold AN;exact⟨by simp only[AI],by simp only[AN]⟩
theorem jf{x:Sx}(hok:x.ok)(hn:x.nodes<=AF)(hd:x.depth<=AF)(h:A0):A6 prog 34 [.agg x.cells] h λr h'=>r= .sc (.bool (CJ x 0 0).1)/\h'=h:=by
 rw[M5 hn];exact j0 hok hd h
end Go.Proofs.YtblgchkahpgdjaaGreat
namespace Go.AM
section
variable {P:Program}{ow:Nat->Bool}{wf:FuncId->Bool}{n:Nat}
def I0(ow:Nat->Bool)(wf:FuncId->Bool)(ops:List Oper)(i:Nat):Bool:=(ops[i]?).any (BL ow wf)
def K9(ow:Nat->Bool)(ops:List Oper)(i:Nat):Bool:=(ops[i]?).any (Ce ow)
def SQ(ow:Nat->Bool)(wf:FuncId->Bool)(ops:List Oper)(c:Nat):Bool:=
 Me ops&&decide (c<=ops.length)&&((List.range c).all λi=>(List.range ops.length).all λf=>
  (!(decide (i<f)&&decide (f<c))||((!(I0 ow wf ops i&&I0 ow wf ops f)||pre ops i f)&&!(I0 ow wf ops i&&K9 ow ops f)))&&
  (!(decide (c<=f)&&I0 ow wf ops f)||(pre ops i f&&!(pre ops f i))))&&
 ((List.range ops.length).all λf=>!(decide (c<=f))||!(K9 ow ops f))
def jg(P:Program)(ow:Nat->Bool)(wf:FuncId->Bool)(n:Nat)(ops:List Oper)(lo hi j:Nat)(o:Oper)(sk:Nat->AE)(hk:Nat->A0)(vk:Nat->PV)(br:Nat->Bool):Prop:=
 o.dst.all (λd=>decide (d<n))=true/\ ∃ b,D4 ops (sk j) o=some b/\
  (b=false->sk (j+1)=Ak (sk j) o.dst (.sc undef)/\hk (j+1)=hk j/\br j=false)/\
  (b = true -> sk (j + 1) = Ak (sk j) o.dst (vk j) /\
   (BL ow wf o = false -> hk (j + 1) = hk j /\ br j = false /\ Ap P ow o (A9 (sk j)) (hk j) (vk j) (hk j) /\
    (∀ i,lo<=i->i<j->br i=true->pre ops i j=true\/Ap P ow o (A9 (sk j)) (hk i) (vk j) (hk i))/\
    (∀ i,j<i->i<hi->br i=true->pre ops j i=true\/Ap P ow o (A9 (sk j)) (hk (i+1)) (vk j) (hk (i+1))))/\
   (BL ow wf o=true->br j=true/\Ap P ow o (A9 (sk j)) (hk j) (vk j) (hk (j+1))))
theorem Q7{ops:List Oper}{K:AE->A0->Prop}: ∀ (rest:List Oper)(k:Nat)(past:List (Nat × (A0->Prop)))(hist:List (Nat × A0))(s:AE)(h:A0),(∀ i o,rest[i]? =some o->ops[k+i]? =some o)->EU P ow wf n ops k rest past hist K s h->
  ∃ (sk:Nat->AE)(hk:Nat->A0)(vk:Nat->PV)(br:Nat->Bool),sk k=s/\hk k=h/\K (sk (k+rest.length)) (hk (k+rest.length))/\
   (∀ j o,k<=j->j<k+rest.length->ops[j]? =some o->jg P ow wf n ops k (k+rest.length) j o sk hk vk br)/\
   (∀ j o,k<=j->j<k+rest.length->ops[j]? =some o->BL ow wf o=false->D4 ops (sk j) o=some true-> ∀ x∈hist,pre ops x.1 j=true\/Ap P ow o (A9 (sk j)) x.2 (vk j) x.2)/\
   (∀ j,k<=j->j<k+rest.length->br j=true-> ∀ x∈past,pre ops x.1 j=true\/x.2 (hk (j+1)))
 |[],k,past,hist,s,h,_,hr=>⟨λ_=>s,λ_=>h,λ_=> .emp,λ_=>false,rfl,rfl,hr,λj o h1 h2=>by simp at h2;omega,λj o h1 h2=>by simp at h2;omega,λj h1 h2=>by simp at h2;omega⟩
 |o::rest,k,past,hist,s,h,hops,hr=>by
  have ho:ops[k]? =some o:=hops 0 o rfl;have hops2: ∀ i q,rest[i]? =some q->ops[k+1+i]? =some q:=λi q hq=>by
   have:=hops (i+1) q (by simpa using hq);rw[show k+1+i=k+(i+1) by omega];exact this
  have hlen:k+1+rest.length=k+(o::rest).length:=by simp only[List.length_cons];omega
  unfold EU at hr;obtain⟨hdst,hr⟩:=hr;cases hw:D4 ops s o with
  |none=>rw[hw]at hr;exact hr.elim
  |some b=>
   rw[hw]at hr;simp only at hr;cases b with
   |false=>
    simp only[BQ,AP]at hr;obtain⟨sk,hk,vk,br,e1,e2,e3,e4,e5,e6⟩:=Q7 rest (k+1) _ _ _ _ hops2 hr;rw[hlen]at e3 e4 e5 e6;have hs: ∀ j,¬ j=k->(λj=>if j=k then s else sk j) j=sk j:=λj hj=>A7 hj;refine⟨λj=>if j=k then s else sk j,λj=>if j=k then h else hk j,vk,λj=>if j=k then false else br j,AK rfl,AK rfl,?_,λj q hj hj2 hq=>?_,λj q hj hj2 hq hW hwt x hx=>?_,λj hj hj2 hb x hx=>?_⟩
    ·simp only[List.length_cons];rw[A7 (by omega),A7 (by omega)];simpa only[List.length_cons]using e3
    ·by_cases hjk:j=k
     ·subst hjk;rw[ho]at hq;obtain rfl:=JC hq;refine⟨hdst,false,?_,λ_=>⟨?_,?_,?_⟩,λhb=>by cases hb⟩
      ·simp only[AO];exact hw
      ·simp only[AO];rw[A7 (by omega)];exact e1
      ·simp only[AO];rw[A7 (by omega)];exact e2
      ·simp only[AO]
     ·obtain ⟨g1,b,g2,g3,g4⟩:=e4 j q (by omega) hj2 hq;refine⟨g1,b,?_,λhb=>?_,λhb=>?_⟩
      ·simp only[hjk,AP];exact g2
      ·obtain ⟨q1,q2,q3⟩:=g3 hb;refine⟨?_,?_,?_⟩
       ·simp only[hjk,AP];rw[A7 (by omega)];exact q1
       ·simp only[hjk,AP];rw[A7 (by omega)];exact q2
       ·simp only[hjk,AP];exact q3
      ·obtain ⟨q1,q2,q3⟩:=g4 hb;refine⟨?_,λhW=>?_,λhW=>?_⟩
       ·simp only[hjk,AP];rw[A7 (by omega)];exact q1
       ·obtain ⟨p1,p2,p3,p4,p5⟩:=q2 hW;refine⟨?_,?_,?_,λi hi hij hbi=>?_,λi hi hij hbi=>?_⟩
        ·simp only[hjk,AP];rw[A7 (by omega)];exact p1
        ·simp only[hjk,AP];exact p2
        ·simp only[hjk,AP];exact p3
        ·by_cases hik:i=k
         ·subst hik;simp only[AO]at hbi;cases hbi
         ·simp only[hik,hjk,AP]at hbi⊢;exact p4 i (by omega) hij hbi
        ·have hik:¬ i=k:=(by omega);have hik1:¬ i+1=k:=(by omega);simp only[hik,hik1,hjk,AP]at hbi⊢;exact p5 i hi hij hbi
       ·obtain ⟨p1,p2⟩:=q3 hW;refine⟨?_,?_⟩
        ·simp only[hjk,AP];exact p1
        ·simp only[hjk,AP];rw[A7 (by omega)];exact p2
    ·by_cases hjk:j=k
     ·subst hjk;rw[ho]at hq;obtain rfl:=JC hq;simp only[AO]at hwt;rw[hw]at hwt;cases hwt
     ·simp only[hjk,AP]at hwt⊢;exact e5 j q (by omega) hj2 hq hW hwt x hx
    ·by_cases hjk:j=k
     ·subst hjk;simp only[AO]at hb;cases hb
     ·simp only[hjk,AP]at hb⊢;rw[A7 (by omega)];exact e6 j (by omega) hj2 hb x hx
   |true=>
    simp only[AO]at hr;by_cases hW0:BL ow wf o=true
    ·rw [AK hW0]at hr;obtain⟨v,h',hdo,hpast,hrec⟩:=hr;obtain⟨sk,hk,vk,br,e1,e2,e3,e4,e5,e6⟩:=Q7 rest (k+1) _ _ _ _ hops2 hrec;rw[hlen]at e3 e4 e5 e6;refine⟨λj=>if j=k then s else sk j,λj=>if j=k then h else hk j,λj=>if j=k then v else vk j,λj=>if j=k then true else br j,AK rfl,AK rfl,?_,λj q hj hj2 hq=>?_,λj q hj hj2 hq hW hwt x hx=>?_,λj hj hj2 hb x hx=>?_⟩
     ·simp only[List.length_cons];rw[A7 (by omega),A7 (by omega)];simpa only[List.length_cons]using e3
     ·by_cases hjk:j=k
      ·subst hjk;rw[ho]at hq;obtain rfl:=JC hq;refine⟨hdst,true,?_,λhb=>(by cases hb),λ_=>⟨?_,λhW=>?_,λhW=>⟨?_,?_⟩⟩⟩
       ·simp only[AO];exact hw
       ·simp only[AO];rw[A7 (by omega)];exact e1
       ·rw [hW0]at hW;cases hW
       ·simp only[AO]
       ·simp only[AO];rw[A7 (by omega),e2];exact hdo
      ·obtain ⟨g1,b,g2,g3,g4⟩:=e4 j q (by omega) hj2 hq;refine⟨g1,b,?_,λhb=>?_,λhb=>?_⟩
       ·simp only[hjk,AP];exact g2
       ·obtain ⟨q1,q2,q3⟩:=g3 hb;refine⟨?_,?_,?_⟩
        ·simp only[hjk,AP];rw[A7 (by omega)];exact q1
        ·simp only[hjk,AP];rw[A7 (by omega)];exact q2
        ·simp only[hjk,AP];exact q3
       ·subst hb;obtain⟨q1,q2,q3⟩:=g4 rfl;refine⟨?_,λhW=>?_,λhW=>?_⟩
        ·simp only[hjk,AP];rw[A7 (by omega)];exact q1
        ·obtain ⟨p1,p2,p3,p4,p5⟩:=q2 hW;refine⟨?_,?_,?_,λi hi hij hbi=>?_,λi hi hij hbi=>?_⟩
         ·simp only[hjk,AP];rw[A7 (by omega)];exact p1
         ·simp only[hjk,AP];exact p2
         ·simp only[hjk,AP];exact p3
         ·by_cases hik:i=k
          ·subst hik;simp only[hjk,AP,AO];exact e5 j q (by omega) hj2 hq hW g2 (i,h) (List.mem_cons_self ..)
          ·simp only[hik,hjk,AP]at hbi⊢;exact p4 i (by omega) hij hbi
         ·have hik:¬ i=k:=(by omega);have hik1:¬ i+1=k:=(by omega);simp only[hik,hik1,hjk,AP]at hbi⊢;exact p5 i hi hij hbi
        ·obtain ⟨p1,p2⟩:=q3 hW;refine⟨?_,?_⟩
         ·simp only[hjk,AP];exact p1
         ·simp only[hjk,AP];rw[A7 (by omega)];exact p2
     ·by_cases hjk:j=k
      ·subst hjk;rw[ho]at hq;obtain rfl:=JC hq;rw[hW0]at hW;cases hW
      ·simp only[hjk,AP]at hwt⊢;exact e5 j q (by omega) hj2 hq hW hwt x (List.mem_cons_of_mem _ hx)
     ·by_cases hjk:j=k
      ·subst hjk;simp only[AP];rw[A7 (by omega),e2];exact hpast x hx
      ·simp only[hjk,AP]at hb⊢;rw[A7 (by omega)];exact e6 j (by omega) hj2 hb x hx
    ·rw [A7 hW0]at hr;have hW1:BL ow wf o=false:=(by simpa using hW0);obtain⟨v,hdo,hhist,hrec⟩:=hr;obtain⟨sk,hk,vk,br,e1,e2,e3,e4,e5,e6⟩:=Q7 rest (k+1) _ _ _ _ hops2 hrec;rw[hlen]at e3 e4 e5 e6;refine⟨λj=>if j=k then s else sk j,λj=>if j=k then h else hk j,λj=>if j=k then v else vk j,λj=>if j=k then false else br j,AK rfl,AK rfl,?_,λj q hj hj2 hq=>?_,λj q hj hj2 hq hW hwt x hx=>?_,λj hj hj2 hb x hx=>?_⟩
     ·simp only[List.length_cons];rw[A7 (by omega),A7 (by omega)];simpa only[List.length_cons]using e3
     ·by_cases hjk:j=k
      ·subst hjk;rw[ho]at hq;obtain rfl:=JC hq;refine⟨hdst,true,?_,λhb=>(by cases hb),λ_=>⟨?_,λhW=>⟨?_,?_,?_,λi hi hij=>by omega,λi hi hij hbi=>?_⟩,λhW=>?_⟩⟩
       ·simp only[AO];exact hw
       ·simp only[AO];rw[A7 (by omega)];exact e1
       ·simp only[AO];rw[A7 (by omega)];exact e2
       ·simp only[AO]
       ·simp only[AO];exact hdo
       ·have hik:¬ i=j:=(by omega);have hik1:¬ i+1=j:=(by omega);simp only[hik,hik1,AP,AO]at hbi⊢;exact e6 i (by omega) hij hbi (j,λh'=>Ap P ow o (A9 s) h' v h') (List.mem_cons_self ..)
       ·rw [hW1]at hW;cases hW
      ·obtain ⟨g1,b,g2,g3,g4⟩:=e4 j q (by omega) hj2 hq;refine⟨g1,b,?_,λhb=>?_,λhb=>?_⟩
       ·simp only[hjk,AP];exact g2
       ·obtain ⟨q1,q2,q3⟩:=g3 hb;refine⟨?_,?_,?_⟩
        ·simp only[hjk,AP];rw[A7 (by omega)];exact q1
        ·simp only[hjk,AP];rw[A7 (by omega)];exact q2
        ·simp only[hjk,AP];exact q3
       ·obtain ⟨q1,q2,q3⟩:=g4 hb;refine⟨?_,λhW=>?_,λhW=>?_⟩
        ·simp only[hjk,AP];rw[A7 (by omega)];exact q1
        ·obtain ⟨p1,p2,p3,p4,p5⟩:=q2 hW;refine⟨?_,?_,?_,λi hi hij hbi=>?_,λi hi hij hbi=>?_⟩
         ·simp only[hjk,AP];rw[A7 (by omega)];exact p1
         ·simp only[hjk,AP];exact p2
         ·simp only[hjk,AP];exact p3
         ·by_cases hik:i=k
          ·subst hik;simp only[AO]at hbi;cases hbi
          ·simp only[hik,hjk,AP]at hbi⊢;exact p4 i (by omega) hij hbi
         ·have hik:¬ i=k:=(by omega);have hik1:¬ i+1=k:=(by omega);simp only[hik,hik1,hjk,AP]at hbi⊢;exact p5 i hi hij hbi
        ·obtain ⟨p1,p2⟩:=q3 hW;refine⟨?_,?_⟩
         ·simp only[hjk,AP];exact p1
         ·simp only[hjk,AP];rw[A7 (by omega)];exact p2
     ·by_cases hjk:j=k
      ·subst hjk;rw[ho]at hq;obtain rfl:=JC hq;simp only[AO];exact hhist x hx
      ·simp only[hjk,AP]at hwt⊢;exact e5 j q (by omega) hj2 hq hW hwt x hx
     ·by_cases hjk:j=k
      ·subst hjk;simp only[AO]at hb;cases hb
      ·simp only[hjk,AP]at hb⊢;rw[A7 (by omega)];exact e6 j (by omega) hj2 hb x (List.mem_cons_of_mem _ hx)
def WQ(ow:Nat->Bool)(wf:FuncId->Bool)(ops:List Oper)(c k:Nat):Bool:=(List.range c).all λi=>!(I0 ow wf ops i)||pre ops i k
def WR(P:Program)(ow:Nat->Bool)(wf:FuncId->Bool)(n:Nat)(ops:List Oper)(c j:Nat)(o:Oper)(s s':AE)(h h':A0)(v:PV)(l:Option (Nat × Am))(U:List Nat):Prop:=
 (U=[]\/WQ ow wf ops c j=true)/\o.dst.all (λd=>decide (d<n))=true/\ ∃ b,D4 ops s o=some b/\
  (b=false->s'=Ak s o.dst (.sc undef)/\h'=h/\l=none)/\
  (b = true -> s' = Ak s o.dst v /\
   (BL ow wf o=false->h'=h/\l=none/\ ∀ H:A0,(∀ u∈U,H.obj u=h.obj u)->Ap P ow o (A9 s) H v H)/\
   (BL ow wf o=true-> ∃ t x y id r f ob,o.op= .store t x y/\A9 s x= .ptr id r f/\l=some (id,ob)/\h'=h.set id ob/\(∀ f q,j<f->ops[f]? =some q->Ce ow q=true->False)/\AZ P (o.dst.any ow) o.op (A9 s) h=some (v,h')))
def WS(k:Nat)(ls:List (Nat × Nat)):Option (Nat × Am)->List (Nat × Nat)
 |some p=>(k,p.1)::ls
 |none=>ls
def KA(P:Program)(ow:Nat->Bool)(wf:FuncId->Bool)(n:Nat)(ops:List Oper)(c:Nat):Nat->List Oper->List (Nat × Nat)->List (Nat × List Nat)->(AE->A0->Prop)->AE->A0->Prop
 |_,[],_,_,K,s,h=>K s h
 | k, o :: rest, ls, qs, K, s, h => ∃ s' h' v l U, WR P ow wf n ops c k o s s' h h' v l U /\
   (∀ p,l=some p->(∀ x∈ls,pre ops x.1 k=true\/x.2≠p.1)/\(∀ x∈qs,pre ops x.1 k=true\/p.1 ∉ x.2))/\(∀ x∈ls,pre ops x.1 k=true\/x.2 ∉ U)/\
   KA P ow wf n ops c (k+1) rest (WS k ls l) ((k,U)::qs) K s' h'
theorem WT{ops:List Oper}{c:Nat}{K:AE->A0->Prop}: ∀ (rest:List Oper)(k:Nat)(ls:List (Nat × Nat))(qs:List (Nat × List Nat))(s:AE)(h:A0),ops.drop k=rest->k<=ops.length->KA P ow wf n ops c k rest ls qs K s h->
  ∃ (sk:Nat->AE)(hk:Nat->A0)(vk:Nat->PV)(lt:Nat->Option (Nat × Am))(Uk:Nat->List Nat),sk k=s/\hk k=h/\K (sk ops.length) (hk ops.length)/\
   (∀ j o,k<=j->ops[j]? =some o->WR P ow wf n ops c j o (sk j) (sk (j+1)) (hk j) (hk (j+1)) (vk j) (lt j) (Uk j))/\
   (∀ j p,k<=j->j<ops.length->lt j=some p->(∀ x∈ls,pre ops x.1 j=true\/x.2≠p.1)/\(∀ x∈qs,pre ops x.1 j=true\/p.1 ∉ x.2))/\
   (∀ j,k<=j->j<ops.length-> ∀ x∈ls,pre ops x.1 j=true\/x.2 ∉ Uk j)/\
   (∀ i j p q,k<=i->i<j->j<ops.length->lt i=some p->lt j=some q->pre ops i j=true\/p.1≠q.1)/\
   (∀ i j p,k<=i->i<j->j<ops.length->lt i=some p->pre ops i j=true\/p.1 ∉ Uk j)/\
   (∀ i j p,k<=i->i<j->j<ops.length->lt j=some p->pre ops i j=true\/p.1 ∉ Uk i)
 |[],k,ls,qs,s,h,hd,hk,hr=>by
  have hl:ops.length<=k:=by simpa using hd
  have hke:k=ops.length:=by omega
  refine⟨λ_=>s,λ_=>h,λ_=> .emp,λ_=>none,λ_=>[],rfl,rfl,hr,λj o hj ho=>?_,λj p _ _ hp=>by simp at hp,λj h1 h2=>by omega,λi j p q _ _ _ hp=>by simp at hp,λi j p _ _ _ hp=>by simp at hp,λi j p _ _ _ hp=>by simp at hp⟩;have:=(List.getElem?_eq_some_iff.1 ho).1;omega
 |o::rest,k,ls,qs,s,h,hd,hk,hr=>by
  have ho:ops[k]? =some o:=by
   have:(ops.drop k)[0]? =some o:=(by rw[hd];try rfl);simpa using this
  have hkl:k<ops.length:=(List.getElem?_eq_some_iff.1 ho).1;have hd2:ops.drop (k+1)=rest:=by
   have:=List.drop_eq_getElem_cons hkl;rw[hd]at this;simp only[List.cons.injEq]at this;exact this.2.symm
  obtain⟨s',h',v,l,U,hloc,hls,hU,hrec⟩:=hr;obtain⟨sk,hk',vk,lt,Uk,e1,e2,e3,e4,e5,e6,e7,e8,e9⟩:=WT rest (k+1) _ _ s' h' hd2 (by omega) hrec;have hls2: ∀ x∈ls,x∈WS k ls l:=λx hx=>by
   cases l with
   |none=>exact hx
   |some y=>exact List.mem_cons_of_mem _ hx
  refine⟨λj=>if j=k then s else sk j,λj=>if j=k then h else hk' j,λj=>if j=k then v else vk j,λj=>if j=k then l else lt j,λj=>if j=k then U else Uk j,by simp,by simp,?_,λj q hj hq=>?_,λj p hj hjl hp=>?_,λj hj hjl x hx=>?_,λi j p q hi hij hjl hp hq=>?_,λi j p hi hij hjl hp=>?_,λi j p hi hij hjl hp=>?_⟩
  ·simp only;rw[A7 (by omega),A7 (by omega)];exact e3
  ·by_cases hjk:j=k
   ·subst hjk;rw[ho]at hq;simp only[BC]at hq;subst hq;simp only[AO];rw[A7 (by omega),A7 (by omega),e1,e2];exact hloc
   ·simp only[hjk,AP];rw[A7 (by omega),A7 (by omega)];exact e4 j q (by omega) hq
  ·by_cases hjk:j=k
   ·subst hjk;simp only[AO]at hp;exact hls p hp
   ·simp only[hjk,AP]at hp;exact⟨λx hx=>(e5 j p (by omega) hjl hp).1 x (hls2 x hx),λx hx=>(e5 j p (by omega) hjl hp).2 x (List.mem_cons_of_mem _ hx)⟩
  ·by_cases hjk:j=k
   ·subst hjk;simp only[AO];exact hU x hx
   ·simp only[hjk,AP];exact e6 j (by omega) hjl x (hls2 x hx)
  ·have hjk:¬ j=k:=(by omega);simp only[hjk,AP]at hq;by_cases hik:i=k
   ·subst hik;simp only[AO]at hp;subst hp;exact(e5 j q (by omega) hjl hq).1 (i,p.1) (List.mem_cons_self ..)
   ·simp only[hik,AP]at hp;exact e7 i j p q (by omega) hij hjl hp hq
  ·have hjk:¬ j=k:=(by omega);simp only[hjk,AP];by_cases hik:i=k
   ·subst hik;simp only[AO]at hp;subst hp;exact e6 j (by omega) hjl (i,p.1) (List.mem_cons_self ..)
   ·simp only[hik,AP]at hp;exact e8 i j p (by omega) hij hjl hp
  ·have hjk:¬ j=k:=(by omega);simp only[hjk,AP]at hp;by_cases hik:i=k
   ·subst hik;simp only[AO];exact(e5 j p (by omega) hjl hp).2 (i,U) (List.mem_cons_self ..)
   ·simp only[hik,AP];exact e9 i j p (by omega) hij hjl hp
theorem WU(H:A0):BE H []=H:=by
 unfold BE;cases H;simp
theorem jh(h' H:A0):Cd h' H []=h':=by
 unfold Cd;cases h';simp
theorem WV{lt:Nat->Option (Nat × Am)}{p:Nat->Bool}{H:A0}: ∀ m,(∀ f,f<m->(lt f).isSome=true->p f=false)->Ct lt p H m=H
 |0,_=>rfl
 |m+1,h=>by
  have ih:=WV (lt:=lt) (p:=p) (H:=H) m λf hf=>h f (by omega);unfold Ct;cases q:lt m with
  |none=>exact ih
  |some x=>
   simp only;rw[A7 (by rw[h m (by omega) (by rw[q];try rfl)];simp)];exact ih
theorem ji{ops:List Oper}{c:Nat}{K:AE->A0->Prop}{s:AE}{h:A0}(hd:SQ ow wf ops c=true)
  (hr:EU P ow wf n ops 0 (ops.take c) [] [] (λs' h'=>KA P ow wf n ops c c (ops.drop c) [] [] K s' h') s ⟨h.next+ops.length,h.obj⟩):PC P ow wf n ops K s h:=by
 unfold SQ at hd;simp only[AV,Ba]at hd;obtain⟨⟨⟨hd3,hc⟩,hp⟩,hA⟩:=hd;have htl:(ops.take c).length=c:=by rw[List.length_take];omega
 have P1: ∀ i f,i<c->f<ops.length->i<f->f<c->((I0 ow wf ops i&&I0 ow wf ops f)=false\/pre ops i f=true)/\(I0 ow wf ops i&&K9 ow ops f)=false:=λi f hi hf hif hfc=>by
  have:=(AV _ _ ▸ (List.all_eq_true.1 (List.all_eq_true.1 hp i (List.mem_range.2 hi)) f (List.mem_range.2 hf))).1;rw[Ha hif,Ha hfc]at this;revert this;cases I0 ow wf ops i<;>cases I0 ow wf ops f<;>cases K9 ow ops f<;>cases pre ops i f<;>simp
 have P2: ∀ i f,i<c->f<ops.length->c<=f->I0 ow wf ops f=true->pre ops i f=true/\pre ops f i=false:=λi f hi hf hcf hw=>by
  have:=(AV _ _ ▸ (List.all_eq_true.1 (List.all_eq_true.1 hp i (List.mem_range.2 hi)) f (List.mem_range.2 hf))).2;rw[Ha hcf,hw]at this;simpa using this
 have P3: ∀ f,f<ops.length->c<=f->K9 ow ops f=false:=λf hf hcf=>by
  have:=List.all_eq_true.1 hA f (List.mem_range.2 hf);rw[Ha hcf]at this;simpa using this
 obtain⟨ska,hka,vka,br,a1,a2,a3,a4,_,_⟩:=Q7 (ops.take c) 0 [] [] s _ (λi o ho=>by
  rw[C7];rw[List.getElem?_take]at ho;split at ho
  ·exact ho
  ·cases ho) hr
 rw[htl,C7]at a3 a4;obtain⟨skb,hkb,vkb,lt,Uk,b1,b2,b3,b4,_,_,b6,b7,b8⟩:=WT (ops.drop c) c [] [] _ _ rfl hc a3;have hltn: ∀ f,(if f<c then none else lt f:Option (Nat × Am)).isSome=true->c<=f:=λf hf=>by
  by_cases hfc:f<c
  ·rw [AK hfc]at hf;cases hf
  ·omega
 have hltw: ∀ f o,c<=f->ops[f]? =some o->(lt f).isSome=true->BL ow wf o=true:=λf o hcf ho hl=>by
  obtain⟨_,_,b,_,g3,g4⟩:=b4 f o hcf ho;cases b with
  |false=>rw[(g3 rfl).2.2]at hl;cases hl
  |true=>
   cases hw:BL ow wf o with
   |true=>rfl
   |false=>rw[((g4 rfl).2.1 hw).2.1]at hl;cases hl
 have hwAt: ∀ f o,ops[f]? =some o->I0 ow wf ops f=BL ow wf o:=λf o ho=>by unfold I0;rw[ho];try rfl
 have haAt: ∀ f o,ops[f]? =some o->K9 ow ops f=Ce ow o:=λf o ho=>by unfold K9;rw[ho];try rfl
 have hltp: ∀ j f,j<c->f<ops.length->(if f<c then none else lt f:Option (Nat × Am)).isSome=true->pre ops j f=true/\pre ops f j=false:=λj f hj hf hs=>by
  have hcf:=hltn f hs;rw[A7 (by omega)]at hs;exact P2 j f hj hf hcf (by rw[hwAt f _ (List.getElem?_eq_getElem hf)];exact hltw f _ hcf (List.getElem?_eq_getElem hf) hs)
 have hkx: ∀ j,j<c->kx ow ops (λf=>if f<c then none else lt f) j=[]:=λj hj=>by
  unfold kx;rw[List.filterMap_eq_nil_iff];intro f hf;have hf:=List.mem_range.1 hf;split
  ·rename_i hcond;show Option.map _ (if f<c then none else lt f:Option (Nat × Am))=none;cases q:(if f<c then none else lt f:Option (Nat × Am))with
   |none=>rfl
   |some x=>
    exfalso;have hsm:(if f<c then none else lt f:Option (Nat × Am)).isSome=true:=(by rw[q];try rfl);have h1:=hltp j f hj hf hsm;have h2:=P3 f hf (hltn f hsm);unfold K9 at h2;rw[h1.1,h1.2,h2]at hcond;simp at hcond
  ·rfl
 have down: ∀ j o,j<c->ops[j]? =some o->BL ow wf o=false->D4 ops (ska j) o=some true-> ∀ d M,M+d=j->(∀ b,M<=b->b<j->br b=true->pre ops b j=false)->Ap P ow o (A9 (ska j)) (hka M) (vka j) (hka M):=λj o hj ho hW hw d=>by
  obtain⟨_,b,g2,_,g4⟩:=a4 j o (Bj _) hj ho;rw[hw]at g2;obtain rfl:=JC g2;obtain⟨_,_,p3,p4,_⟩:=(g4 rfl).2.1 hW
  induction d with
  |zero=>intro M hM _;rw[GC]at hM;rw[hM];exact p3
  |succ d ih=>
   intro M hM hcut;cases hb:br M with
   |true=>
    rcases p4 M (Bj _) (by omega) hb with h1|h1
    ·rw [hcut M (AG _) (by omega) hb]at h1;cases h1
    ·exact h1
   |false=>
    have hMl:M<ops.length:=(by omega);obtain⟨_,b2,_,q3,q4⟩:=a4 M _ (Bj _) (by omega) (List.getElem?_eq_getElem hMl);have e:hka (M+1)=hka M:=by
     cases b2 with
     |false=>exact(q3 rfl).2.1
     |true=>
      cases hw2:BL ow wf ops[M]with
      |false=>exact((q4 rfl).2.1 hw2).1
      |true=>rw[((q4 rfl).2.2 hw2).1]at hb;cases hb
    rw[← e];exact ih (M+1) (by omega) λb hb1 hb2 hb3=>hcut b (by omega) hb2 hb3
 have up: ∀ j o,j<c->ops[j]? =some o->BL ow wf o=false->D4 ops (ska j) o=some true-> ∀ d,j+1+d<=c->(∀ b,b<j+1+d->br b=true->pre ops j b=false)->Ap P ow o (A9 (ska j)) (hka (j+1+d)) (vka j) (hka (j+1+d)):=λj o hj ho hW hw d=>by
  obtain⟨_,b,g2,_,g4⟩:=a4 j o (Bj _) hj ho;rw[hw]at g2;obtain rfl:=JC g2;obtain⟨p1,_,p3,_,p5⟩:=(g4 rfl).2.1 hW
  induction d with
  |zero=>intro _ _;rw[GC,p1];exact p3
  |succ d ih=>
   intro hdc hcut;cases hb:br (j+1+d)with
   |true=>
    rcases p5 (j+1+d) (by omega) (by omega) hb with h1|h1
    ·rw [hcut _ (by omega) hb]at h1;cases h1
    ·exact h1
   |false=>
    have hMl:j+1+d<ops.length:=(by omega);obtain⟨_,b2,_,q3,q4⟩:=a4 (j+1+d) _ (Bj _) (by omega) (List.getElem?_eq_getElem hMl);have e:hka (j+1+d+1)=hka (j+1+d):=by
     cases b2 with
     |false=>exact(q3 rfl).2.1
     |true=>
      cases hw2:BL ow wf ops[j+1+d]with
      |false=>exact((q4 rfl).2.1 hw2).1
      |true=>rw[((q4 rfl).2.2 hw2).1]at hb;cases hb
    rw[show j+1+(d+1)=j+1+d+1 by omega,e];exact ih (by omega) λb hb1 hb3=>hcut b (by omega) hb3
 have hbrw: ∀ j o,j<c->ops[j]? =some o->br j=true->BL ow wf o=true:=λj o hj ho hb=>by
  obtain⟨_,b,_,g3,g4⟩:=a4 j o (Bj _) hj ho;cases b with
  |false=>rw[(g3 rfl).2.2]at hb;cases hb
  |true=>
   cases hw:BL ow wf o with
   |true=>rfl
   |false=>rw[((g4 rfl).2.1 hw).2.1]at hb;cases hb
 refine⟨hd3,λj=>if j<c then ska j else skb j,λj=>if j<c then hka j else hkb j,λj=>if j<c then vka j else vkb j,λf=>if f<c then none else lt f,λj=>if j<c then br j else false,?_,?_,?_,⟨λj o ho=>?_,λi j hij hj hi hj2=>?_⟩⟩
 ·by_cases h0:0<c
  ·simp only[h0,AO];exact a1
  ·have:c=0:=(by omega);subst this;simp only[Yv,AP];rw[b1];exact a1
 ·by_cases h0:0<c
  ·simp only[h0,AO];exact a2
  ·have:c=0:=(by omega);subst this;simp only[Yv,AP];rw[b2];exact a2
 ·have:¬ ops.length<c:=by omega
  simp only[this,AP];exact b3
 ·have hjl:j<ops.length:=(List.getElem?_eq_some_iff.1 ho).1;have es: ∀ j,j<c->(if j+1<c then ska (j+1)else skb (j+1))=ska (j+1):=λj hj=>by
   by_cases h1:j+1<c
   ·rw [AK h1]
   ·rw [A7 h1];have:j+1=c:=(by omega);rw[this,b1]
  have eh: ∀ j,j<c->(if j+1<c then hka (j+1)else hkb (j+1))=hka (j+1):=λj hj=>by
   by_cases h1:j+1<c
   ·rw [AK h1]
   ·rw [A7 h1];have:j+1=c:=(by omega);rw[this,b2]
  have ehM: ∀ M,M<=c->(if M<c then hka M else hkb M)=hka M:=λM hM=>by
   by_cases h1:M<c
   ·rw [AK h1]
   ·rw [A7 h1];have:M=c:=(by omega);rw[this,b2]
  by_cases hjc:j<c
  ·obtain ⟨g1,b,g2,g3,g4⟩:=a4 j o (Bj _) hjc ho;refine⟨g1,b,?_,λhb=>?_,λhb=>?_⟩
   ·simp only[hjc,AO];exact g2
   ·obtain ⟨q1,q2,q3⟩:=g3 hb;simp only[hjc,AO];rw[es j hjc,eh j hjc];exact⟨q1,q2,trivial,q3⟩
   ·subst hb;obtain⟨q1,q2,q3⟩:=g4 rfl;refine⟨?_,λhW=>?_,λhW=> .inl ?_⟩
    ·simp only[hjc,AO];rw[es j hjc];exact q1
    ·obtain ⟨p1,p2,p3,p4,p5⟩:=q2 hW;refine⟨?_,?_,?_,λM hM=>⟨[],λid hid=>?_,?_⟩⟩
     ·simp only[hjc,AO];rw[eh j hjc];exact p1
     ·simp only[hjc,AO]
     ·simp only[hjc,AO];exact p2
     ·rw [hkx j hjc]at hid;exact hid
     ·obtain ⟨m1,m2,m3,m4⟩:=hM;have hMc:M<=c:=by
       rcases m4 with h0|h0
       ·omega
       ·by_cases h1:M-1<c
        ·omega
        ·simp only[h1,AP]at h0;cases h0
      have hg:gx ops (λf=>if f<c then none else lt f) (λj=>if j<c then hka j else hkb j) j M []=hka M:=by
       unfold gx;rw[WU,WV ops.length (λf hf hs=>by rw[(hltp j f hjc hf hs).2,BA])];exact ehM M hMc
      rw[hg];simp only[hjc,AO];have hcd: ∀ b,M<=b->b<j->br b=true->pre ops b j=false:=λb hb1 hb2 hb3=>by
       refine m3 b hb1 ?_;have:b<c:=(by omega);simp only[this,AO];exact hb3
      have hcu: ∀ b,b<M->br b=true->pre ops j b=false:=λb hb1 hb3=>by
       refine m2 b hb1 ?_;have:b<c:=(by omega);simp only[this,AO];exact hb3
      by_cases hMj:M<=j
      ·exact down j o hjc ho hW g2 (j-M) M (by omega) hcd
      ·obtain ⟨d,rfl⟩: ∃ d,M=j+1+d:=⟨M-(j+1),by omega⟩;exact up j o hjc ho hW g2 d hMc hcu
    ·obtain ⟨p1,p2⟩:=q3 hW;simp only[hjc,AO];rw[eh j hjc,hkx j hjc,WU];refine⟨p1,trivial,⟨hka (j+1),p2,λid hid=>(by cases hid),(by rw[jh])⟩,λf q hf hq ha=>?_⟩;exfalso;have hfl:=(List.getElem?_eq_some_iff.1 hq).1;have ha2:=haAt f q hq;rw[ha]at ha2;by_cases hfc:f<c
     ·have:=(P1 j f hjc hfl hf hfc).2;rw[ha2,hwAt j o ho,hW]at this;cases this
     ·rw [P3 f hfl (by omega)]at ha2;cases ha2
  ·obtain ⟨g0,g1,b,g2,g3,g4⟩:=b4 j o (by omega) ho;have hj1:¬ j+1<c:=(by omega);refine⟨g1,b,?_,λhb=>?_,λhb=>?_⟩
   ·simp only[hjc,AP];exact g2
   ·obtain ⟨q1,q2,q3⟩:=g3 hb;simp only[hjc,hj1,AP];exact⟨q1,q2,q3,trivial⟩
   ·obtain ⟨q1,q2,q3⟩:=g4 hb;refine⟨?_,λhW=>?_,λhW=>?_⟩
    ·simp only[hjc,hj1,AP];exact q1
    ·obtain ⟨m1,m2,m3⟩:=q2 hW;simp only[hjc,hj1,AP];refine⟨m1,m2,trivial,λM hM=>⟨_,λ_ hx=>hx,m3 _ λu hu=>?_⟩⟩;rcases g0 with g0|g0
     ·rw [g0]at hu;cases hu
     obtain⟨n1,n2,n3,n4⟩:=hM;have hMc:M<=c:=by
      rcases n4 with h0|h0
      ·omega
      ·by_cases h1:M-1<c
       ·omega
       ·simp only[h1,AP]at h0;cases h0
     have hnb: ∀ b,M<=b->b<c->br b=false:=λb hb1 hb2=>by
      cases hb:br b with
      |false=>rfl
      |true=>
       have h1:=n3 b hb1 (by simp only[hb2,AO];exact hb);have hbl:b<ops.length:=(by omega);have h2:=List.all_eq_true.1 g0 b (List.mem_range.2 hb2);rw[hwAt b _ (List.getElem?_eq_getElem hbl),hbrw b _ hb2 (List.getElem?_eq_getElem hbl) hb,h1]at h2;cases h2
     have hMe: ∀ d,M+d<=c->hka (M+d)=hka M:=by
      intro d
      induction d with
      |zero=>intro _;rfl
      |succ d ih=>
       intro hdc;have hMl:M+d<ops.length:=(by omega);obtain⟨_,b2,_,q3,q4⟩:=a4 (M+d) _ (Bj _) (by omega) (List.getElem?_eq_getElem hMl);have e:hka (M+d+1)=hka (M+d):=by
        cases b2 with
        |false=>exact(q3 rfl).2.1
        |true=>
         cases hw2:BL ow wf ops[M+d]with
         |false=>exact((q4 rfl).2.1 hw2).1
         |true=>have:=hnb (M+d) (by omega) (by omega);rw[((q4 rfl).2.2 hw2).1]at this;cases this
       rw[show M+(d+1)=M+d+1 by omega,e];exact ih (by omega)
     have hMh:hka M=hkb c:=by
      rw[b2, ← hMe (c-M) (by omega),show M+(c-M)=c by omega]
     have hlob: ∀ m,m<=ops.length->(Ct (λf=>if f<c then none else lt f) (λf=>decide (M<=f)&&pre ops f j) (hka M) m).obj u=(hkb (if m<c then c else if m<j then m else j)).obj u:=by
      intro m
      induction m with
      |zero=>
       intro _;have hz:(Ct (λf=>if f<c then none else lt f) (λf=>decide (M<=f)&&pre ops f j) (hka M) 0)=hka M:=rfl;rw[hz,hMh];by_cases h0:0<c
       ·rw [AK h0]
       ·have:c=0:=(by omega);subst this;rw[A7 (by omega)];by_cases h1:0<j
        ·rw [AK h1]
        ·have:j=0:=(by omega);rw[A7 h1,this]
      |succ m ih=>
       intro hml;have ih:=ih (by omega);unfold Ct;by_cases hmc:m<c
       ·rw [AK hmc]at ih;simp only[hmc,AO];rw[ih];by_cases h1:m+1<c
        ·rw [AK h1]
        ·have:m+1=c:=(by omega);rw[A7 h1];by_cases h2:m+1<j
         ·rw [AK h2,this]
         ·rw [A7 h2];have:j=c:=(by omega);rw[this]
       ·rw [A7 hmc]at ih;simp only[hmc,AP];rw[A7 (by omega:¬ m+1<c)];have hmo:m<ops.length:=(by omega);obtain⟨_,_,b2,_,r3,r4⟩:=b4 m _ (by omega) (List.getElem?_eq_getElem hmo);by_cases hmj:m<j
        ·rw [AK hmj]at ih;have hnx:(if m+1<j then m+1 else j)=m+1:=by
          by_cases h1:m+1<j
          ·rw [AK h1]
          ·rw [A7 h1];omega
         rw[hnx];cases hlm:lt m with
         |none=>
          simp only;rw[ih];have e:hkb (m+1)=hkb m:=by
           cases b2 with
           |false=>exact(r3 rfl).2.1
           |true=>
            cases hw2:BL ow wf ops[m]with
            |false=>exact((r4 rfl).2.1 hw2).1
            |true=>obtain⟨_,_,_,_,_,_,_,_,_,z,_⟩:=(r4 rfl).2.2 hw2;rw[hlm]at z;cases z
          rw[e]
         |some q=>
          simp only;have e:hkb (m+1)=(hkb m).set q.1 q.2:=by
           cases b2 with
           |false=>have:=(r3 rfl).2.2;rw[hlm]at this;cases this
           |true=>
            cases hw2:BL ow wf ops[m]with
            |false=>have:=((r4 rfl).2.1 hw2).2.1;rw[hlm]at this;cases this
            |true=>
             obtain⟨_,_,_,_,_,_,_,_,_,z,z2,_⟩:=(r4 rfl).2.2 hw2;rw[hlm]at z;simp only[BC]at z;rw[z2,z]
          rw[e];by_cases hqu:u=q.1
          ·rcases b7 m j q (by omega) hmj hjl hlm with h1|h1
           ·rw [Ha (by omega:M<=m),h1,hqu];simp[A0.set]
           ·exact absurd (hqu ▸ hu) h1
          ·split
           ·simp only[A0.set];rw[A7 hqu,A7 hqu];exact ih
           ·simp only[A0.set];rw[A7 hqu];exact ih
        ·rw [A7 hmj]at ih;rw[A7 (by omega:¬ m+1<j)];cases hlm:lt m with
         |none=>exact ih
         |some q=>
          simp only;by_cases hqu:u=q.1
          ·have hpf:pre ops m j=false:=by
            by_cases hmj2:m=j
            ·exfalso;subst hmj2;rw[m2]at hlm;cases hlm
            ·rcases b8 j m q (by omega) (by omega) hmo hlm with h1|h1
             ·cases h2:pre ops m j with
              |false=>rfl
              |true=>have:=Kl (Hl.of hd3) j m hjl h2;omega
             ·exact absurd (hqu ▸ hu) h1
           rw[hpf,BA];simp only[BQ,AP];exact ih
          ·split
           ·simp only[A0.set];rw[A7 hqu];exact ih
           ·exact ih
     have hkn:(kx ow ops (λf=>if f<c then none else lt f) j).contains u=false:=by
      cases hct:(kx ow ops (λf=>if f<c then none else lt f) j).contains u with
      |false=>rfl
      |true=>
       exfalso;have hmem:u∈kx ow ops (λf=>if f<c then none else lt f) j:=(by simpa using hct);unfold kx at hmem;obtain⟨f,hf,he⟩:=List.mem_filterMap.1 hmem;have hfl:=List.mem_range.1 hf;split at he
       ·rename_i hcond;by_cases hfc:f<c
        ·simp only[hfc,AO,Ow]at he;cases he
        ·simp only[hfc,AP]at he;obtain⟨q,hq,hq2⟩:=LP.1 he;simp only[AV,EI,EH,NM]at hcond;have hA2:=P3 f hfl (by omega);unfold K9 at hA2;rw[hA2]at hcond;obtain⟨⟨hne,hp1⟩,hp2⟩:=hcond;have hp2:pre ops j f=false:=(by rcases hp2 with h|h;exact h;cases h);by_cases hfj:f<j
         ·rcases b7 f j q (by omega) hfj hjl hq with h1|h1
          ·rw [h1]at hp1;cases hp1
          ·exact h1 (hq2 ▸ hu)
         ·rcases b8 j f q (by omega) (by omega) hfl hq with h1|h1
          ·rw [h1]at hp2;cases hp2
          ·exact h1 (hq2 ▸ hu)
       ·cases he
     have hcut:(if M<c then hka M else hkb M)=hka M:=ehM M hMc;show(gx ops (λf=>if f<c then none else lt f) (λj=>if j<c then hka j else hkb j) j M _).obj u=_;unfold gx BE;simp only[hkn,BQ,AP];rw[hcut,hlob ops.length (AG _),A7 (by omega),A7 (by omega)]
    ·simp only[hjc,hj1,AP];obtain⟨t,x,y,id,r,f,ob,m1,m2,m3,m4,m5,m6⟩:=q3 hW;exact .inr (.inr ⟨trivial,t,x,y,id,r,f,ob,m1,m2,m3,m4,λf q hf hq ha=>(m5 f q hf hq ha).elim,m6⟩)
 ·have hil:i<ops.length:=by omega
  by_cases hjc:j<c
  ·have hic:i<c:=(by omega);simp only[hjc,hic,AO]at hi hj2;have hi':br i=true:=hi.resolve_right (by simp);have hj':br j=true:=hj2.resolve_right (by simp);rcases(P1 i j hic hj hij hjc).1 with h1|h1
   ·rw [hwAt i _ (List.getElem?_eq_getElem hil),hwAt j _ (List.getElem?_eq_getElem hj),hbrw i _ hic (List.getElem?_eq_getElem hil) hi',hbrw j _ hjc (List.getElem?_eq_getElem hj) hj']at h1;cases h1
   ·exact .inl h1
  ·simp only[hjc,AP]at hj2;have hj':(lt j).isSome=true:=hj2.resolve_left (by simp);by_cases hic:i<c
   ·exact .inl (P2 i j hic hj (by omega) (by rw[hwAt j _ (List.getElem?_eq_getElem hj)];exact hltw j _ (by omega) (List.getElem?_eq_getElem hj) hj')).1
   ·simp only[hic,AP]at hi;have hi':(lt i).isSome=true:=hi.resolve_left (by simp);obtain⟨p,hp⟩:=Jl.1 hi';obtain⟨q,hq⟩:=Jl.1 hj';rcases b6 i j p q (by omega) hij hj hp hq with h1|h1
    ·exact .inl h1
    ·refine .inr (.inl ⟨p,q,?_,?_,h1⟩)
     ·simp only[hic,AP];exact hp
     ·simp only[hjc,AP];exact hq
theorem Q8{Q:BU}{s:AE}{h:A0}{id:Nat}{ops:List Oper}(c:Nat)(hd:SQ ow wf ops c=true)
  (hk: ∀ K:AE->A0->Prop,(∀ s h,Q .normal s h->K s h)->FH P ow wf n ops 0 (ops.take c) [] [] (λs' h'=>KA P ow wf n ops c c (ops.drop c) [] [] K s' h') s ⟨h.next+ops.length,h.obj⟩):Ar P ow wf n (.region id ops.toArray true) Q s h:=by
 simp only[Ar,AO];exact⟨_,_,.refl,.inr (.inr (ji hd (JI _ _ _ _ _ _ (hk _ λ_ _ hq=>hq))))⟩
variable {ops rest:List Oper}{c k:Nat}{o:Oper}{ls:List (Nat × Nat)}{qs:List (Nat × List Nat)}{K:AE->A0->Prop}{s:AE}{h:A0}
theorem Q9(hK:K s h):KA P ow wf n ops c k [] ls qs K s h:=hK
theorem IS(v:PV)(U:List Nat)(hU:U=[]\/WQ ow wf ops c k=true)(hd:o.dst.all (λd=>decide (d<n))=true)(hw:D4 ops s o=some true)(hW:BL ow wf o=false)(he: ∀ H:A0,(∀ u∈U,H.obj u=h.obj u)->Ap P ow o (A9 s) H v H)(hl: ∀ x∈ls,pre ops x.1 k=true\/x.2 ∉ U)
  (hk:KA P ow wf n ops c (k+1) rest ls ((k,U)::qs) K (Ak s o.dst v) h):KA P ow wf n ops c k (o::rest) ls qs K s h:=
 ⟨_,_,v,none,U,⟨hU,hd,true,hw,λhb=>(by cases hb),λ_=>⟨rfl,λ_=>⟨rfl,rfl,he⟩,λhw2=>(by rw[hW]at hw2;cases hw2)⟩⟩,λp hp=>(by cases hp),hl,hk⟩
theorem KB{t:TypeId}{x y:Operand}{id r f:Nat}{ob:Am}{v:PV}(hop:o.op= .store t x y)(hd:o.dst.all (λd=>decide (d<n))=true)(hw:D4 ops s o=some true)(hx:A9 s x= .ptr id r f)(he:AZ P (o.dst.any ow) (.store t x y) (A9 s) h=some (v,h.set id ob))
  (hlate: ∀ f q,k<f->ops[f]? =some q->Ce ow q=true->False)(hls: ∀ x∈ls,pre ops x.1 k=true\/x.2≠id)(hqs: ∀ x∈qs,pre ops x.1 k=true\/id ∉ x.2)
  (hk:KA P ow wf n ops c (k+1) rest ((k,id)::ls) ((k,[])::qs) K (Ak s o.dst v) (h.set id ob)):KA P ow wf n ops c k (o::rest) ls qs K s h:=by
 refine⟨_,_,v,some (id,ob),[],⟨.inl rfl,hd,true,hw,λhb=>(by cases hb),λ_=>⟨rfl,λhw2=>?_,λ_=>⟨t,x,y,id,r,f,ob,hop,hx,rfl,rfl,hlate,by rw[hop];exact he⟩⟩⟩,λp hp=>?_,λx _=> .inr (by simp),hk⟩
 ·unfold BL at hw2;rw[hop]at hw2;simp at hw2
 ·simp only[BC]at hp;subst hp;exact⟨hls,hqs⟩
end
end Go.AM
namespace Go.AM
section
variable {P:Program}{ow:Nat->Bool}{wf:FuncId->Bool}{n:Nat}{Q:BU}{s:AE}{h:A0}
def M8(ops:List Oper):List Nat:=(List.range ops.length).filter (G7 ops)
def EY(P:Program)(ow:Nat->Bool)(wf:FuncId->Bool)(n:Nat)(ops:List Oper)(al:List Nat)(base:Nat):Nat->List Oper->Gl->List (Nat × A0)->(AE->A0->Prop)->AE->A0->Prop
 |_,[],_,_,K,s,h=>K s h
 |k,o::rest,past,hist,K,s,h=>(o.dst.all (λd=>decide (d<n))=true)/\match D4 ops s o with
  |none=>False
  | some b => if b = true then
    (match o.op with
    | .alloc t=>(match DP P t with
     | some zs => 0 < zs.length /\ (∀ f ∈ al, k < f -> (h.set (base + k) (.arr zs.length [zs.map .sc])).obj (base + f) = none) /\ (∀ x ∈ past, pre ops x.1 k = true \/ Ap P ow x.2.1 (A9 x.2.2.1) (h.set (base + k) (.arr zs.length [zs.map .sc])) x.2.2.2 (h.set (base + k) (.arr zs.length [zs.map .sc]))) /\
       EY P ow wf n ops al base (k+1) rest past ((k,h)::hist) K (Ak s o.dst (.ptr (base+k) 0 0)) (h.set (base+k) (.arr zs.length [zs.map .sc]))
     |none=>False)
    |_=>(match callee (A9 s) o.op with
     |none=>(match AZ P (o.dst.any ow) o.op (A9 s) h with
      |some (v,h1)=>if BL ow wf o=true then(∀ f∈al,k<f->h1.obj (base+f)=none)/\(∀ x∈past,pre ops x.1 k=true\/Ap P ow x.2.1 (A9 x.2.2.1) h1 x.2.2.2 h1)/\EY P ow wf n ops al base (k+1) rest past ((k,h)::hist) K (Ak s o.dst v) h1
       else h1=h/\(∀ x∈hist,pre ops x.1 k=true\/Ap P ow o (A9 s) x.2 v x.2)/\EY P ow wf n ops al base (k+1) rest ((k,o,s,v)::past) hist K (Ak s o.dst v) h
      |none=>False)
     |some _=>(if BL ow wf o=true then ∃ v h',Ap P ow o (A9 s) h v h'/\((∀ f∈al,k<f->h'.obj (base+f)=none)/\ ∀ x∈Dj P ow past,pre ops x.1 k=true\/x.2 h')/\GG P ow wf n ops base (k+1) rest (Dj P ow past) ((k,h)::hist) K (Ak s o.dst v) h'
      else ∃ v,Ap P ow o (A9 s) h v h/\(∀ x∈hist,pre ops x.1 k=true\/Ap P ow o (A9 s) x.2 v x.2)/\GG P ow wf n ops base (k+1) rest (Dj P ow ((k,o,s,v)::past)) hist K (Ak s o.dst v) h)))
   else EY P ow wf n ops al base (k+1) rest past hist K (Ak s o.dst (.sc undef)) h
theorem jj{ops:List Oper}{f:Nat}(h:G7 ops f=true):f∈M8 ops:=by
 simp only[M8,List.mem_filter,List.mem_range];refine⟨?_,h⟩;unfold G7 at h;split at h
 ·rename_i o ho;exact(List.getElem?_eq_some_iff.1 ho).1
 ·simp at h
theorem L3{ops:List Oper}{al:List Nat}(hal:M8 ops=al){base:Nat}{K:AE->A0->Prop}:(rest:List Oper)->(k:Nat)->(past:Gl)->(hist:List (Nat × A0))->(s:AE)->(h:A0)->EY P ow wf n ops al base k rest past hist K s h->GG P ow wf n ops base k rest (Dj P ow past) hist K s h
 |[],_,_,_,_,_,hh=>by simpa only[EY,GG]using hh
 |o::rest,k,past,hist,s,h,hh=>by
  simp only[EY]at hh;simp only[GG];refine⟨hh.1,?_⟩;have h2:=hh.2
  clear hh;have pc: ∀ h1,(∀ x∈past,pre ops x.1 k=true\/Ap P ow x.2.1 (A9 x.2.2.1) h1 x.2.2.2 h1)-> ∀ x∈Dj P ow past,pre ops x.1 k=true\/x.2 h1:=by
   intro h1 hp x hx;obtain⟨y,hy,rfl⟩:=List.mem_map.1 hx;exact hp y hy
  have alc: ∀ h1:A0,(∀ f∈al,k<f->h1.obj (base+f)=none)-> ∀ f,k<f->G7 ops f=true->h1.obj (base+f)=none:=λh1 hp f hf ha=>hp f (by rw[← hal];exact jj ha) hf;cases hw:D4 ops s o with
  |none=>rw[hw]at h2;exact h2
  |some b=>
   rw[hw]at h2;simp only at h2⊢;split at h2
   ·rename_i hb;rw[AK hb];split at h2
    ·rename_i t hop;split at h2
     ·rename_i zs hz;obtain⟨a1,a2,a3,a4⟩:=h2;have hi:BL ow wf o=true:=(by unfold BL;rw[hop]);rw[AK hi];exact⟨_,_,by unfold Io;rw[hop];exact⟨zs,hz,a1,rfl,rfl⟩,alc _ a2,pc _ a3,L3 hal rest (k+1) _ _ _ _ a4⟩
     ·exact h2.elim
    ·rename_i hne;cases hc:callee (A9 s) o.op with
     |none=>
      rw[hc]at h2;simp only at h2;cases he:AZ P (o.dst.any ow) o.op (A9 s) h with
      |none=>rw[he]at h2;exact h2.elim
      |some r=>
       obtain⟨v,h1⟩:=r;rw[he]at h2;simp only at h2;have hd:Ap P ow o (A9 s) h v h1:=(by unfold Ap;rw[hc];exact he);split at h2
       ·rename_i hi;rw[AK hi];have hdr:Io P ow (base+k) o (A9 s) h v h1:=by
         unfold Io;split
         ·rename_i t hop;exact absurd hop (hne t)
         ·exact hd
        exact⟨v,h1,hdr,alc h1 h2.1,pc h1 h2.2.1,L3 hal rest (k+1) _ _ _ _ h2.2.2⟩
       ·rename_i hi;rw[A7 hi];obtain⟨rfl,h3,h4⟩:=h2;exact⟨v,hd,h3,L3 hal rest (k+1) _ _ _ _ h4⟩
     |some f=>
      rw[hc]at h2;simp only at h2;have dr: ∀ {v:PV}{h1:A0},Ap P ow o (A9 s) h v h1->Io P ow (base+k) o (A9 s) h v h1:=λhd=>by
       unfold Io;split
       ·rename_i t hop;exact absurd hop (hne t)
       ·exact hd
      split at h2
      ·rename_i hi;rw[AK hi];obtain⟨v,h1,hd,h3,h4⟩:=h2;exact⟨v,h1,dr hd,alc h1 h3.1,h3.2,h4⟩
      ·rename_i hi;rw[A7 hi];obtain⟨v,hd,h3,h4⟩:=h2;exact⟨v,hd,h3,h4⟩
   ·rename_i hb;rw[A7 hb];exact L3 hal rest (k+1) _ _ _ _ h2
theorem SR{id:Nat}{ops:List Oper}{K:AE->A0->Prop}(al:List Nat)(hd:PB ow wf ops=true)(ha:M8 ops=al)(hk:EY P ow wf n ops al h.next 0 ops [] [] K s ⟨h.next+ops.length,h.obj⟩):Ar P ow wf n (.region id ops.toArray true) (BU.seq K Q) s h:=by
 simp only[Ar,AO];exact⟨_,_,.refl,.inr (.inl ⟨hd,L3 ha ops 0 _ _ _ _ hk⟩)⟩
theorem QA{f:FuncId}{d:Nat}{args:List Operand}{ts:Array TypeId}{ty:TypeId}{pos:String}{af:Array Edge}{gd:Option (Nat × Bool)}{aS:List PV}{v:PV}{ops rest:List Oper}{base k k':Nat}{past:Gl}{hist:List (Nat × A0)}{K:AE->A0->Prop}(al:List Nat)(ha:M8 ops=al)
  (hc:A6 P f aS h λr h'=>r=v/\h'=h)(hs:args.map (A9 s)=aS)
  (hk:EY P ow wf n ops al base k rest ((k',{dst:=some d,op:= .call {callee:= .value (.func f),args:=args.toArray,argTypes:=ts},type:=ty,pos:=pos,after:=af,guard:=gd},s,v)::past) hist K (Ci s d v) h):
  ∃ v,Ap P ow {dst:=some d,op:= .call {callee:= .value (.func f),args:=args.toArray,argTypes:=ts},type:=ty,pos:=pos,after:=af,guard:=gd} (A9 s) h v h/\
   GG P ow wf n ops base k rest (Dj P ow ((k',{dst:=some d,op:= .call {callee:= .value (.func f),args:=args.toArray,argTypes:=ts},type:=ty,pos:=pos,after:=af,guard:=gd},s,v)::past)) hist K (Ci s d v) h:=
 ⟨v,CT hc hs,L3 ha _ _ _ _ _ _ hk⟩
theorem L4{f:FuncId}{d:Nat}{args:List Operand}{ts:Array TypeId}{ty:TypeId}{pos:String}{af:Array Edge}{gd:Option (Nat × Bool)}{aS:List PV}{v:PV}{ops rest:List Oper}{base k k':Nat}{past:Gl}{hist:List (Nat × A0)}{K:AE->A0->Prop}{A:PV->Prop}(al:List Nat)(ha:M8 ops=al)
  (hc:A6 P f aS h λr h'=>r=v/\h'=h)(hs:args.map (A9 s)=aS)(hA:A v)
  (hk:EY P ow wf n ops al base k rest ((k',{dst:=some d,op:= .call {callee:= .value (.func f),args:=args.toArray,argTypes:=ts},type:=ty,pos:=pos,after:=af,guard:=gd},s,v)::past) hist K (Ci s d v) h):
  ∃ v,Ap P ow {dst:=some d,op:= .call {callee:= .value (.func f),args:=args.toArray,argTypes:=ts},type:=ty,pos:=pos,after:=af,guard:=gd} (A9 s) h v h/\A v/\
   GG P ow wf n ops base k rest (Dj P ow ((k',{dst:=some d,op:= .call {callee:= .value (.func f),args:=args.toArray,argTypes:=ts},type:=ty,pos:=pos,after:=af,guard:=gd},s,v)::past)) hist K (Ci s d v) h:=
 ⟨v,CT hc hs,hA,L3 ha _ _ _ _ _ _ hk⟩
end
end Go.AM
namespace Go.AM
section
variable {P:Program}{ow:Nat->Bool}{wf:FuncId->Bool}{n:Nat}
def My(ow:Nat->Bool)(ops:List Oper)(L:List (Nat × Nat))(x:Nat):List Nat:=(List.range ops.length).filterMap λf=>if(!(x==f)&&!(pre ops f x)&&(!(pre ops x f)||(ops[f]?).any (Ce ow)))=true then L.lookup f else none
def OJ(ow:Nat->Bool)(ops:List Oper)(k:Nat):List Nat:=(List.range ops.length).filter λf=>decide (k<f)&&(ops[f]?).any (Ce ow)
def WW(ow:Nat->Bool)(ops:List Oper)(L:List (Nat × Nat))(B:List Nat):Bool:=(List.range ops.length).all λj=>(List.range j).all λi=>!(B.contains i||(L.lookup i).isSome)||!(B.contains j||(L.lookup j).isSome)||pre ops i j||(match L.lookup i,L.lookup j with|some p,some q=>p !=q|_,_=>false)||(B.contains i&&(L.lookup j).isSome&&(ops[j]?).any (Ce ow))||((L.lookup i).isSome&&B.contains j&&(ops[i]?).any (Ce ow))
def WX(P:Program)(ow:Nat->Bool)(wf:FuncId->Bool)(n:Nat)(ops:List Oper)(L:List (Nat × Nat))(B:List Nat)(base j:Nat)(o:Oper)(s s':AE)(h h':A0)(v:PV)(l:Option (Nat × Am)):Prop:=
 l.map (·.1)=(L.lookup j).map (base+·)/\o.dst.all (λd=>decide (d<n))=true/\ ∃ b,D4 ops s o=some b/\
  (b=false->s'=Ak s o.dst (.sc undef)/\h'=h/\l=none/\B.contains j=false)/\
  (b = true -> s' = Ak s o.dst v /\
   (BL ow wf o=false->h'=h/\l=none/\B.contains j=false/\ ∀ H,Ap P ow o (A9 s) H v H)/\
   (BL ow wf o = true ->
    (B.contains j=true/\l=none/\(∃ H',Ap P ow o (A9 s) (BE h ((My ow ops L j).map (base+·))) v H'/\(∀ q∈My ow ops L j,H'.obj (base+q)=none)/\h'=Cd H' h ((My ow ops L j).map (base+·)))/\ ∀ f∈OJ ow ops j,h'.obj (base+f)=none)\/
    (B.contains j=false/\Ce ow o=true/\ ∃ ob,l=some (base+j,ob)/\F5 P ow (base+j) o (A9 s)=some (v,ob)/\h'=h.set (base+j) ob)\/
    (B.contains j=false/\ ∃ t x y id r f ob,o.op= .store t x y/\A9 s x= .ptr id r f/\l=some (id,ob)/\h'=h.set id ob/\(∀ f∈OJ ow ops j,base+f≠id)/\AZ P (o.dst.any ow) o.op (A9 s) h=some (v,h'))))
def I1(P:Program)(ow:Nat->Bool)(wf:FuncId->Bool)(n:Nat)(ops:List Oper)(L:List (Nat × Nat))(B:List Nat)(base:Nat):Nat->List Oper->(AE->A0->Prop)->AE->A0->Prop
 |_,[],K,s,h=>K s h
 |k,o::rest,K,s,h=> ∃ s' h' v l,WX P ow wf n ops L B base k o s s' h h' v l/\I1 P ow wf n ops L B base (k+1) rest K s' h'
theorem WY{ops:List Oper}{L:List (Nat × Nat)}{B:List Nat}{base:Nat}{K:AE->A0->Prop}: ∀ (rest:List Oper)(k:Nat)(s:AE)(h:A0),ops.drop k=rest->k<=ops.length->I1 P ow wf n ops L B base k rest K s h->
  ∃ (sk:Nat->AE)(hk:Nat->A0)(vk:Nat->PV)(lt:Nat->Option (Nat × Am)),sk k=s/\hk k=h/\K (sk ops.length) (hk ops.length)/\
   ∀ j o,k<=j->ops[j]? =some o->WX P ow wf n ops L B base j o (sk j) (sk (j+1)) (hk j) (hk (j+1)) (vk j) (lt j)
 |[],k,s,h,hd,hk,hr=>by
  have hl:ops.length<=k:=by simpa using hd
  have hke:k=ops.length:=by omega
  refine⟨λ_=>s,λ_=>h,λ_=> .emp,λ_=>none,rfl,rfl,hr,λj o hj ho=>?_⟩;have:=(List.getElem?_eq_some_iff.1 ho).1;omega
 |o::rest,k,s,h,hd,hk,hr=>by
  have ho:ops[k]? =some o:=by
   have:(ops.drop k)[0]? =some o:=(by rw[hd];try rfl);simpa using this
  have hkl:k<ops.length:=(List.getElem?_eq_some_iff.1 ho).1;have hd2:ops.drop (k+1)=rest:=by
   have:=List.drop_eq_getElem_cons hkl;rw[hd]at this;simp only[List.cons.injEq]at this;exact this.2.symm
  obtain⟨s',h',v,l,hloc,hrec⟩:=hr;obtain⟨sk,hk',vk,lt,e1,e2,e3,e4⟩:=WY rest (k+1) s' h' hd2 (by omega) hrec;refine⟨λj=>if j=k then s else sk j,λj=>if j=k then h else hk' j,λj=>if j=k then v else vk j,λj=>if j=k then l else lt j,by simp,by simp,?_,λj q hj hq=>?_⟩
  ·simp only;rw[A7 (by omega),A7 (by omega)];exact e3
  ·by_cases hjk:j=k
   ·subst hjk;rw[ho]at hq;simp only[BC]at hq;subst hq;simp only[AO];rw[A7 (by omega),A7 (by omega),e1,e2];exact hloc
   ·simp only[hjk,AP];rw[A7 (by omega),A7 (by omega)];exact e4 j q (by omega) hq
theorem jk{ops:List Oper}{L:List (Nat × Nat)}{base:Nat}{lt:Nat->Option (Nat × Am)}(h: ∀ f,f<ops.length->(lt f).map (·.1)=(L.lookup f).map (base+·))(x:Nat):kx ow ops lt x=(My ow ops L x).map (base+·):=by
 unfold kx My;rw[List.map_filterMap];have: ∀ l:List Nat,(∀ f∈l,f<ops.length)->l.filterMap (λf=>if(!(x==f)&&!(pre ops f x)&&(!(pre ops x f)||(ops[f]?).any (Ce ow)))=true then(lt f).map (·.1)else none)=l.filterMap (λf=>Option.map (base+·) (if(!(x==f)&&!(pre ops f x)&&(!(pre ops x f)||(ops[f]?).any (Ce ow)))=true then L.lookup f else none)):=by
  intro l
  induction l with
  |nil=>intro _;rfl
  |cons f l ih=>
   intro hl;have e:(if(!(x==f)&&!(pre ops f x)&&(!(pre ops x f)||(ops[f]?).any (Ce ow)))=true then(lt f).map (·.1)else none)=Option.map (base+·) (if(!(x==f)&&!(pre ops f x)&&(!(pre ops x f)||(ops[f]?).any (Ce ow)))=true then L.lookup f else none):=by
    split
    ·exact h f (hl f (by simp))
    ·rfl
   rw[List.filterMap_cons,List.filterMap_cons,e,ih λy hy=>hl y (by simp[hy])]
 exact this _ λf hf=>List.mem_range.1 hf
theorem WZ{ops:List Oper}{k f:Nat}{q:Oper}(hf:k<f)(hq:ops[f]? =some q)(ha:Ce ow q=true):f∈OJ ow ops k:=by
 simp only[OJ,List.mem_filter,List.mem_range,AV,Ba];exact⟨(List.getElem?_eq_some_iff.1 hq).1,hf,by rw[hq];exact ha⟩
theorem jl{ops:List Oper}{L:List (Nat × Nat)}{B:List Nat}{K:AE->A0->Prop}{s:AE}{h:A0}(hd:Me ops=true)(hw:WW ow ops L B=true)(hr:I1 P ow wf n ops L B h.next 0 ops K s ⟨h.next+ops.length,h.obj⟩):PC P ow wf n ops K s h:=by
 obtain⟨sk,hk,vk,lt,e1,e2,e3,e4⟩:=WY ops 0 s _ rfl (Bj _) hr;have hlt: ∀ f,f<ops.length->(lt f).map (·.1)=(L.lookup f).map (h.next+·):=λf hf=>(e4 f _ (Bj _) (List.getElem?_eq_getElem hf)).1;have hkx:=λx=>jk (ow:=ow) hlt x;have hsome: ∀ f,f<ops.length->((lt f).isSome=(L.lookup f).isSome):=λf hf=>by
  have:=LQ Option.isSome (hlt f hf);simpa using this
 refine⟨hd,sk,hk,vk,lt,λj=>B.contains j,e1,e2,e3,⟨λj o ho=>?_,λi j hij hj hi hj2=>?_⟩⟩
 ·obtain ⟨_,g1,b,g2,g3,g4⟩:=e4 j o (Bj _) ho;refine⟨g1,b,g2,λhb=>g3 hb,λhb=>?_⟩;obtain⟨k1,k2,k3⟩:=g4 hb;refine⟨k1,λhw=>?_,λhw=>?_⟩
  ·obtain ⟨m1,m2,m3,m4⟩:=k2 hw;exact⟨m1,m2,m3,λM _=>⟨kx ow ops lt j,λ_ hx=>hx,m4 _⟩⟩
  ·rcases k3 hw with⟨m1,m2,⟨H',m3,m4,m6⟩,m5⟩|⟨m0,m1,ob,m2,m3,m4⟩|⟨m0,t,x,y,id,r,f,ob,m1,m2,m3,m4,m5,m6⟩
   ·refine .inl ⟨m1,m2,⟨H',?_,λid hid=>?_,?_⟩,λf q hf hq ha=>m5 f (WZ hf hq ha)⟩
    ·rw [hkx];exact m3
    ·rw [hkx]at hid;obtain⟨q,hq,rfl⟩:=List.mem_map.1 hid;exact m4 q hq
    ·rw [hkx];exact m6
   ·exact .inr (.inl ⟨m0,m1,ob,m2,m3,m4⟩)
   ·exact .inr (.inr ⟨m0,t,x,y,id,r,f,ob,m1,m2,m3,m4,λf q hf hq ha=>m5 f (WZ hf hq ha),m6⟩)
 ·have hwij:=List.all_eq_true.1 (List.all_eq_true.1 hw j (List.mem_range.2 hj)) i (List.mem_range.2 hij);have si:=hsome i (by omega);have sj:=hsome j hj;have li:=hlt i (by omega);have lj:=hlt j hj;have ei:(B.contains i||(L.lookup i).isSome)=true:=by
   rw[← si];rcases hi with h1|h1
   ·rw [h1];try rfl
   ·rw [h1];simp
  have ej:(B.contains j||(L.lookup j).isSome)=true:=by
   rw[← sj];rcases hj2 with h1|h1
   ·rw [h1];try rfl
   ·rw [h1];simp
  rw[ei,ej]at hwij;simp only[Ax,Cx,EH,AV]at hwij;rcases hwij with((h1|h1)|h1)|h1
  ·exact .inl h1
  ·refine .inr (.inl ?_);cases h2:L.lookup i with
   |none=>rw[h2]at h1;simp at h1
   |some p=>
    cases h3:L.lookup j with
    |none=>rw[h2,h3]at h1;simp at h1
    |some q=>
     rw[h2,h3]at h1;rw[h2]at li;rw[h3]at lj;obtain⟨x,hx,hx2⟩:=LP.1 li;obtain⟨y,hy,hy2⟩:=LP.1 lj;refine⟨x,y,hx,hy,?_⟩;rw[hx2,hy2];have hpq:p≠q:=(by simpa using h1);show h.next+p≠h.next+q
     omega
  ·refine .inr (.inr (.inl ⟨h1.1.1,by rw[sj];exact h1.1.2,ops[j],List.getElem?_eq_getElem hj,?_⟩));have:=h1.2;rw[List.getElem?_eq_getElem hj]at this;exact this
  ·have hil:i<ops.length:=(by omega);refine .inr (.inr (.inr ⟨by rw[si];exact h1.1.1,h1.1.2,ops[i],List.getElem?_eq_getElem hil,?_⟩));have:=h1.2;rw[List.getElem?_eq_getElem hil]at this;exact this
theorem SS{Q:BU}{s:AE}{h:A0}{id:Nat}{ops:List Oper}(L:List (Nat × Nat))(B:List Nat)(hd:Me ops=true)(hw:WW ow ops L B=true)(hk: ∀ K:AE->A0->Prop,(∀ s h,Q .normal s h->K s h)->I1 P ow wf n ops L B h.next 0 ops K s ⟨h.next+ops.length,h.obj⟩):Ar P ow wf n (.region id ops.toArray true) Q s h:=by
 simp only[Ar,AO];exact⟨_,_,.refl,.inr (.inr (jl hd hw (hk _ λ_ _ hq=>hq)))⟩
variable {ops rest:List Oper}{L:List (Nat × Nat)}{B:List Nat}{base k:Nat}{o:Oper}{K:AE->A0->Prop}{s:AE}{h:A0}
theorem SU(hK:K s h):I1 P ow wf n ops L B base k [] K s h:=hK
theorem EP(v:PV)(hl:L.lookup k=none)(hB:B.contains k=false)(hd:o.dst.all (λd=>decide (d<n))=true)(hw:D4 ops s o=some true)(hW:BL ow wf o=false)(he: ∀ H,Ap P ow o (A9 s) H v H)(hk:I1 P ow wf n ops L B base (k+1) rest K (Ak s o.dst v) h):I1 P ow wf n ops L B base k (o::rest) K s h:=
 ⟨_,_,v,none,⟨by rw[hl];try rfl,hd,true,hw,λhb=>(by cases hb),λ_=>⟨rfl,λ_=>⟨rfl,rfl,hB,he⟩,λhw2=>(by rw[hW]at hw2;cases hw2)⟩⟩,hk⟩
theorem QB{v:PV}{ob:Am}(hl:L.lookup k=some k)(hB:B.contains k=false)(hd:o.dst.all (λd=>decide (d<n))=true)(hw:D4 ops s o=some true)(hW:BL ow wf o=true)(hA:Ce ow o=true)(he:F5 P ow (base+k) o (A9 s)=some (v,ob))(hk:I1 P ow wf n ops L B base (k+1) rest K (Ak s o.dst v) (h.set (base+k) ob)):I1 P ow wf n ops L B base k (o::rest) K s h:=
 ⟨_,_,v,some (base+k,ob),⟨by rw[hl];try rfl,hd,true,hw,λhb=>(by cases hb),λ_=>⟨rfl,λhw2=>(by rw[hW]at hw2;cases hw2),λ_=> .inr (.inl ⟨hB,hA,ob,rfl,he,rfl⟩)⟩⟩,hk⟩
theorem KC{v:PV}{H':A0}{kl la:List Nat}(hl:L.lookup k=none)(hB:B.contains k=true)(hd:o.dst.all (λd=>decide (d<n))=true)(hw:D4 ops s o=some true)(hW:BL ow wf o=true)(hkl:My ow ops L k=kl)(hla:OJ ow ops k=la)(he:Ap P ow o (A9 s) (BE h (kl.map (base+·))) v H')(h1: ∀ q∈kl,H'.obj (base+q)=none)(h2: ∀ q∈la,(Cd H' h (kl.map (base+·))).obj (base+q)=none)
  (hk:I1 P ow wf n ops L B base (k+1) rest K (Ak s o.dst v) (Cd H' h (kl.map (base+·)))):I1 P ow wf n ops L B base k (o::rest) K s h:=
 ⟨_,_,v,none,⟨by rw[hl];try rfl,hd,true,hw,λhb=>(by cases hb),λ_=>⟨rfl,λhw2=>(by rw[hW]at hw2;cases hw2),λ_=> .inl ⟨hB,rfl,⟨H',by rw[hkl];exact he,by rw[hkl];exact h1,by rw[hkl]⟩,by rw[hla];exact h2⟩⟩⟩,hk⟩
end
end Go.AM
namespace Go.AM
section
variable {P:Program}{f:FuncId}{z:Nat}{h:A0}{K:PV->A0->Prop}
theorem AT.P7{β:BK}{n:Nat}{F:Nat->Prop}{w:World}{z:Nat}: ∀ {pre post:List PV}{vals:List Value},AT β n F w (pre++ .A1 z []::post) vals-> ∃ a cap,AT β n F w (pre++ .sc (.slice a 0 cap)::post) vals
 |[],post,[],h=>by simp[AT]at h
 |[],post,v::vals,h=>by
  simp only[List.nil_append,AT,AA]at h⊢;obtain⟨⟨a,cap,hv,_⟩,h2⟩:=h;exact⟨a,cap,by simpa using hv,h2⟩
 |p::pre,post,[],h=>by simp[AT]at h
 |p::pre,post,v::vals,h=>by
  simp only[List.cons_append,AT]at h⊢;obtain⟨a,cap,hx⟩:=AT.P7 h.2;exact⟨a,cap,h.1,hx⟩
theorem A6.P7{pre post:List PV}(h0: ∀ a cap,A6 P f (pre++ .sc (.slice a 0 cap)::post) h K):A6 P f (pre++ .A1 z []::post) h K:=by
 intro β w vals sm hr;obtain⟨a,cap,hx⟩:=AT.P7 hr;exact h0 a cap β w vals sm hx
theorem A6.nil1(h0: ∀ a cap,A6 P f [.sc (.slice a 0 cap)] h K):A6 P f [.A1 z []] h K:=A6.P7 (pre:=[]) (post:=[]) h0
theorem QC(c:Bool)(cap:Nat):Ee 5 c (.sc (.slice none 0 cap)) (.sc (.slice none 0 0))=some true:=rfl
theorem L5(c:Bool)(x:Addr)(cap:Nat):Ee 5 c (.sc (.slice (some x) 0 cap)) (.sc (.slice none 0 0))=some false:=rfl
theorem L6(h:A0)(x:Option Addr)(cap:Nat):Gj h (.sc (.slice x 0 cap))=some []:=by
 unfold Gj;split<;>first|rfl|(simp_all;done)|(simp_all)
theorem L7(h:A0)(z:Nat)(x:Option Addr)(cap:Nat):Dx h z (.sc (.slice x 0 cap))=true:=by
 unfold Dx;split<;>first|rfl|(simp_all;done)|(simp_all)
end
end Go.AM
namespace Go.Proofs.YtblgchkahpgdjaaGreat
open Go.AM Go.Proofs.Tryz
set_option maxHeartbeats 2000000
set_option maxRecDepth 20000
theorem jm{l:List Pm}(hl:l.length<=1099511627776)(h:A0):A6 prog 150 [.A1 2 (A8 l)] h λr h'=>AH h h'/\Tl h' h.next 2 r (A8 l):=by
 have hll:=Gz l;cases l with
 |nil=>
  have e0:A8 []=[]:=rfl;rw[e0];refine A6.nil1 λa cap=>?_;cases a with
  |none=>
   refine AD func150 ntmps150 results150 Ty.Lt ?_;(repeat'(first|refine Ai λK hK=>?_|((first|refine Bp ?_|refine Eu ?_);simp only[Ty.w,simprocAttr,QC])|(refine hK _ _ ?_;clear hK;(try simp only[At,simprocAttr]))));exact⟨AH.refl _,Tl.nil⟩
  |some x=>
   refine AD func150 ntmps150 results150 Ty.Lt ?_;(repeat'(first|refine Ai λK hK=>?_|((first|refine Bp ?_|refine Eu ?_);simp only[Ty.w,simprocAttr,L5,L6,L7])|(refine Gk ?_;(try simp only[At,simprocAttr]))|(refine Eg _ (by(try simp only[Ty.w,simprocAttr,L5,L6,L7]);rfl) (λhb=>?_) (λhb=>?_)<;>(try simp only[DD,Ba,Cw,simprocAttr]at hb)<;>(try(exfalso;omega)))|(refine hK _ _ ?_;clear hK;(try simp only[At,simprocAttr]))));exact⟨(AH.refl h).new _,Tl.grow (AG _) rfl⟩
 |cons x l=>
  have h0:(0<(A8 (x::l)).length)=True:=by rw[hll];simp
  have hb:((x::l).length)*32<=140737488355328:=by omega
  have hz:0+(A8 (x::l)).length=(x::l).length:=by omega
  generalize A8 (x::l)=R at hll h0 hz;refine AD func150 ntmps150 results150 Ty.Lt ?_;replace zz:=AU h0 hll hb;repeat'(first|refine Ai λK hK=>?_|refine uR zz ?_|refine uT zz ?_|refine uK ?_|refine C3 zz ?_|(refine uN hK ?_;clear hK)|(rw[AK];rotate_left 1;omega;simp only[Ty.w,simprocAttr,h0,hll,hb])|apply zI)
  exact⟨(AH.refl h).new _,Tl.grow (AG _) (by simp[hll])⟩
theorem jn{l:List Pm}(hl:l.length<=1099511627776)(h:A0):A6 prog 150 [.A1 2 (A8 l)] h λr h'=>r= .A1 2 (A8 l)/\h'=h:=by
 refine A6.CD Ty.Lt ((jm hl h).mono ?_);rintro r h' ⟨hg,tl⟩;exact⟨WO tl,hg⟩
theorem jo{l:List Fm}(hl:l.length<=1099511627776)(h:A0):A6 prog 149 [.A1 6 (Fm.rows l)] h λr h'=>AH h h'/\Tl h' h.next 6 r (Fm.rows l):=by
 have hll:=Fm.B3 l;cases l with
 |nil=>
  have e0:Fm.rows []=[]:=rfl;rw[e0];refine A6.nil1 λa cap=>?_;cases a with
  |none=>
   refine AD func149 ntmps149 results149 Ty.Ls ?_;(repeat'(first|refine Ai λK hK=>?_|((first|refine Bp ?_|refine Eu ?_);simp only[Ty.w,simprocAttr,QC])|(refine hK _ _ ?_;clear hK;(try simp only[At,simprocAttr]))));exact⟨AH.refl _,Tl.nil⟩
  |some x=>
   refine AD func149 ntmps149 results149 Ty.Ls ?_;(repeat'(first|refine Ai λK hK=>?_|((first|refine Bp ?_|refine Eu ?_);simp only[Ty.w,simprocAttr,L5,L6,L7])|(refine Gk ?_;(try simp only[At,simprocAttr]))|(refine Eg _ (by(try simp only[Ty.w,simprocAttr,L5,L6,L7]);rfl) (λhb=>?_) (λhb=>?_)<;>(try simp only[DD,Ba,Cw,simprocAttr]at hb)<;>(try(exfalso;omega)))|(refine hK _ _ ?_;clear hK;(try simp only[At,simprocAttr]))));exact⟨(AH.refl h).new _,Tl.grow (AG _) rfl⟩
 |cons x l=>
  have h0:(0<(Fm.rows (x::l)).length)=True:=by rw[hll];simp
  have hb:((x::l).length)*128<=140737488355328:=by omega
  have hz:0+(Fm.rows (x::l)).length=(x::l).length:=by omega
  generalize Fm.rows (x::l)=R at hll h0 hz;refine AD func149 ntmps149 results149 Ty.Ls ?_;replace zz:=AU h0 hll hb;repeat'(first|refine Ai λK hK=>?_|refine uR zz ?_|refine uT zz ?_|refine uK ?_|refine C3 zz ?_|(refine uN hK ?_;clear hK)|(rw[AK];rotate_left 1;omega;simp only[Ty.w,simprocAttr,h0,hll,hb])|apply zI)
  exact⟨(AH.refl h).new _,Tl.grow (AG _) (by simp[hll])⟩
theorem jq{l:List Fm}(hl:l.length<=1099511627776)(h:A0):A6 prog 149 [.A1 6 (Fm.rows l)] h λr h'=>r= .A1 6 (Fm.rows l)/\h'=h:=by
 refine A6.CD Ty.Ls ((jo hl h).mono ?_);rintro r h' ⟨hg,tl⟩;exact⟨WL (AG _) tl,hg⟩
set_option maxHeartbeats 8000000
def SV(w:ByteArray)(rest:List Sx):Fm × Int:=
 bif EO w then(match rest with
  |[]=>(Cn,2)
  |p::body=>bif Az p==3 then(bif (C5 true (BS p)).2==0 then(match DN body with
    |(ks,c)=>bif c==0 then(.mk w ⟨#[]⟩ [] (C5 true (BS p)).1 [] ks,0)else(Cn,c))
   else(Cn,(C5 true (BS p)).2))else(Cn,2))
 else bif Fp w then(match DN rest with
  |(ks,c)=>bif c==0 then(.mk w ⟨#[]⟩ [] [] [] ks,0)else(Cn,c))
 else bif Ew w then(match rest with
  |[a,b]=>DA (Hr w a b)
  |_=>(Cn,2))
 else bif As w then(bif (CM rest).2==0 then(.mk Bz w (CM rest).1 [] [] [],0)else(Cn,(CM rest).2))
 else(Cn,8)
theorem jr(x:Sx):Co x=(bif Az x==3&&(BS x).isEmpty then(.mk Bl ⟨#[]⟩ [] [] [] [],0)else(match Br x with
  |none=>(Cn,2)
  |some (w,rest)=>bif decide (EX w>=0)&&!(decide (EX w=rest.length))then(Cn,2)else SV w rest)):=by
 obtain⟨kind,value,line,col,text,kids⟩:=x
 conv=>lhs;unfold Co
 have kk:Az (.mk kind value line col text kids)=kind:=rfl;have k5:BS (.mk kind value line col text kids)=kids:=rfl;rw[kk,k5];simp only[Br];by_cases h3:kind=3
 ·rw [AK h3,AK h3];cases kids with
  |nil=>simp[h3]
  |cons y rest=>
   simp only[List.isEmpty_cons,BA,AJ];cases hk:Az y==1<;>simp only[hk,AB,AJ]<;>rfl
 ·rw [A7 h3,A7 h3];rw[show(kind==3)=false by simpa using h3];try rfl
theorem Wa{w:ByteArray}{n:Nat}(hw:EO w=true\/Ew w=true)(hc:(decide (EX w>=0)&&!(decide (EX w=n)))=false):n=2:=by
 have:EX w=2:=by
  rw[Vl];unfold EO Ew Fa at hw;simp only[EH]at hw;rcases hw with(h|h)|(((h|h)|h)|h)|h<;>(have h:=ED h;subst h;decide)
 rw[this]at hc;simp at hc;omega
def J3:Am:= .arr 6 [[.sc (.string ⟨#[]⟩),.sc (.string ⟨#[]⟩),.sc (.slice none 0 0),.sc (.slice none 0 0),.sc (.slice none 0 0),.sc (.slice none 0 0)]]
structure PI(h:A0)(w:ByteArray)(h':A0):Prop where
 grow:AH h h'
 qB:h'.next=h.next+2
 o1:h'.obj h.next=some J3
 o2:h'.obj (h.next+1)=some (.arr 6 [[A3 w,.sc (.string ⟨#[]⟩),.sc (.slice none 0 0),.sc (.slice none 0 0),.sc (.slice none 0 0),.sc (.slice none 0 0)]])
def PJ(h:A0)(F:Fm × Int)(S:AE)(h':A0):Prop:=S 2= .ptr h.next 0 0/\S 8= .ptr (h.next+1) 0 0/\AH h h'/\ ∃ (c:Int)(a b:ByteArray)(p2 p3 p4 p5:PV),S 9=AQ c/\h'.obj h.next=some J3/\h'.obj (h.next+1)=some (.arr 6 [[A3 a,A3 b,p2,p3,p4,p5]])/\
 (Cs p2=true/\Cs p3=true/\Cs p4=true/\Cs p5=true)/\((c==0)=false->F=(Cn,c))/\((c==0)=true->F.2=0/\ ∀ hh,AN h.next hh F.1.cells [A3 a,A3 b,p2,p3,p4,p5])
theorem PJ.Ii{h h':A0}{w:ByteArray}{F:Fm × Int}{S:AE}(hp:PI h w h')(c:Int)(a b:ByteArray)(p2 p3 p4 p5:PV)(g2:S 2= .ptr h.next 0 0)(g8:S 8= .ptr (h.next+1) 0 0)(g9:S 9=AQ c)
  (ho:Cs p2=true/\Cs p3=true/\Cs p4=true/\Cs p5=true)(hc:(c==0)=false->F=(Cn,c))(hd:(c==0)=true->F.2=0/\ ∀ hh,AN h.next hh F.1.cells [A3 a,A3 b,p2,p3,p4,p5]):
  PJ h F S (h'.set (h.next+1) (.arr 6 [[A3 a,A3 b,p2,p3,p4,p5]])):=by
 refine⟨g2,g8,hp.grow.set (Oz _) _,c,a,b,p2,p3,p4,p5,g9,?_,by simp[A0.set],ho,hc,hd⟩;simp only[A0.set];rw[A7 (by omega)];exact hp.o1
theorem QD{h h':A0}{c:Int}{F:Fm × Int}(hc:c=2\/c=8)(hg:AH h h')(hF:F=(Cn,c)):
  AI h.next h' (.Al [.agg F.1.cells,AQ F.2]) (.Al [.agg [.sc (.string ⟨#[]⟩),.sc (.string ⟨#[]⟩),.sc (.slice none 0 0),.sc (.slice none 0 0),.sc (.slice none 0 0),.sc (.slice none 0 0)],An c])/\AH h h':=by
 subst hF;have:AQ c=An c:=by rcases hc with rfl|rfl<;>rfl
 simp only[this];refine⟨?_,hg⟩;simp only[An,Cn,Fm.cells,Ex.rows,Fm.rows,A8,AL,List.map_nil,AI,AN];exact⟨_,rfl,⟨_,rfl,rfl,rfl,.inr (.inl ⟨rfl,.inr rfl⟩),.inr (.inl ⟨rfl,.inr rfl⟩),.inr (.inl ⟨rfl,.inr rfl⟩),.inr (.inl ⟨rfl,.inr rfl⟩),trivial⟩,rfl,trivial⟩
theorem js{kind value line col:Int}{text:ByteArray}{kids:List Sx}(hok:(Sx.mk kind value line col text kids).ok)(hsm:(Sx.mk kind value line col text kids).small)
  (ih: ∀ x∈kids, ∀ h:A0,A6 prog 169 [.agg x.cells] h λr h'=>r= .Al [.agg (Co x).1.cells,AQ (Co x).2]/\h'=h)(h:A0):
  A6 prog 169 [.agg (Sx.mk kind value line col text kids).cells] h λr h'=>r= .Al [.agg (Co (.mk kind value line col text kids)).1.cells,AQ (Co (.mk kind value line col text kids)).2]/\h'=h:=by
 refine A6.CD Ty.V6 ?_;have hok':=hok;simp only[Sx.ok]at hok';obtain⟨_,_,_,hkl,hks⟩:=hok';rw[Sx.Bs]at hks;simp only[Sx.small]at hsm;obtain⟨hl,hss⟩:=hsm;rw[Sx.Es]at hss;have hh:=S1 hok;have hX:=jr (.mk kind value line col text kids);generalize Co (.mk kind value line col text kids)=F at hX;have hMo:=λw rest e=>S5 (w:=w) (rest:=rest) hok e;have hMr:=λw rest e=>Q2 (kind:=kind) (value:=value) (line:=line) (col:=col) (text:=text) (kids:=kids) (w:=w) (rest:=rest) e;generalize Br (.mk kind value line col text kids)=M at hh hX hMo hMr;have kk:Az (.mk kind value line col text kids)=kind:=rfl;have k5:BS (.mk kind value line col text kids)=kids:=rfl;rw[kk,k5]at hX;have hlk:=Sx.B3 kids;have hg1: ∀ r,AH h ((h.new (.arr 6 [[.sc (.string ⟨#[]⟩),.sc (.string ⟨#[]⟩),.sc (.slice none 0 0),.sc (.slice none 0 0),.sc (.slice none 0 0),.sc (.slice none 0 0)]])).set h.next r):=λr=>((AH.refl h).new _).set (AG _) _;refine AD func169 ntmps169 results169 Ty.V6 ?_;simp only[Sx.cells]at hh⊢;refine xH 1 A4 ?_;refine⟨?_⟩;refine D0 (λS h'=>S 1= .Aj (Sx.mk kind value line col text kids).cells/\S 2= .ptr h.next 0 0/\h'=h.new J3/\(kind==3&&kids.isEmpty)=false) ?_ ?_
 ·clear hh;simp only[Sx.cells,J3];cases k3:(kind==3)with
  |false=>
   refine wm k3 ?_;try exact zI
   all_goals first|rfl|(simp only[Ty.w,simprocAttr,B5];done)
  |true=>
   cases q:(((Sx.rows kids).length:Int)==0)with
   |false=>
    have q':kids.isEmpty=false:=by
     cases kids with
     |nil=>simp[Sx.rows]at q
     |cons _ _=>rfl
    refine wm (uu k3 q) ?_;try exact zI
    all_goals first|rfl|(simp only[Ty.w,simprocAttr,q',B7];done)
   |true=>
    have q':kids.isEmpty=true:=by
     cases kids with
     |nil=>rfl
     |cons _ _=>simp[Sx.rows]at q;omega
    rw[k3,q']at hX;simp only[LS,AB]at hX;subst hX;refine wt (uu k3 q) ?_;refine⟨?_,hg1 _⟩;have e2:AQ 0= .sc .nilIface:=rfl;simp only[e2,Bl,Fm.cells,Ex.rows,Fm.rows,A8,AL,List.map_nil,AI,AN];exact⟨_,rfl,⟨_,rfl,rfl,rfl,.inr (.inl ⟨rfl,.inr rfl⟩),.inr (.inl ⟨rfl,.inr rfl⟩),.inr (.inl ⟨rfl,.inr rfl⟩),.inr (.inl ⟨rfl,.inr rfl⟩),trivial⟩,rfl,trivial⟩
 ·rintro S h' ⟨g1,g2,rfl,hq⟩;rw[hq]at hX;simp only[AJ]at hX;simp only[Sx.cells]at g1;simp only[J3]
  clear hq;cases M with
  |none=>
   simp only at hX;simp only[Mt]at hh;refine wt (uu g1 g2) ?_;refine uU (uu g1 g2) (hh _) ?_;refine wt (AU g1 g2 yF) ?_;exact QD (.inl rfl) (hg1 _) hX
  |some wr=>
   obtain⟨w,rest⟩:=wr;obtain⟨hw,hro⟩:=hMo w rest rfl;obtain⟨y0,hy0⟩:=hMr w rest rfl;have hrl:rest.length<=1048576:=(by rw[hy0]at hl;simp at hl;omega);have ihr: ∀ x∈rest, ∀ h:A0,A6 prog 169 [.agg x.cells] h λr h'=>r= .Al [.agg (Co x).1.cells,AQ (Co x).2]/\h'=h:=λx hx=>ih x (by rw[hy0];simp[hx]);have hsr: ∀ x∈rest,x.small:=λx hx=>hss x (by rw[hy0];simp[hx]);clear ih hMo hMr hks hss hl hkl hlk hy0 y0;simp only at hX;simp only[Mt]at hh;have hlr:=Sx.B3 rest;refine xH 6 (uu g1 g2) ?_;refine uU (uu g1 g2) (hh _) ?_;refine xH 6 (AU g1 g2 yT) ?_;refine⟨?_⟩;refine D0 (λS h'=>S 2= .ptr h.next 0 0/\S 4=A3 w/\S 5= .A1 6 (Sx.rows rest)/\h'=h.new J3/\(decide (EX w>=0)&&!(decide (EX w=rest.length)))=false) ?_ ?_
   ·have hcn:=λh:A0=>iW (h:=h) (op:=w);simp only[J3];generalize EX w=n at hcn hX;cases c1:decide (n>=0)with
    |false=>
     refine wt (uu g1 g2) ?_;refine uU (uu g1 g2) (hcn _) ?_;refine wm (AU g1 g2 c1) ?_;try exact zI
     all_goals first|rfl|(simp only[Ty.w,simprocAttr,g2,B5];done)
    |true=>
     cases c2:(n !=(rest.length:Int))with
     |false=>
      have c2':decide (n=(rest.length:Int))=true:=(by simpa using c2);refine wt (uu g1 g2) ?_;refine uU (uu g1 g2) (hcn _) ?_;replace zz:=Ae g1 g2 c1 hlr c2;refine wm zz ?_;try exact zI
      all_goals first|rfl|(simp only[Ty.w,simprocAttr,g2,c2',B7,Ax];done)
     |true=>
      have c2':decide (n=(rest.length:Int))=false:=(by simpa using c2);rw[c1,c2']at hX;simp only[CB,LS,AB]at hX;refine wt (uu g1 g2) ?_;refine uU (uu g1 g2) (hcn _) ?_;replace zz:=Ae g1 g2 c1 hlr c2;refine wt zz ?_;exact QD (.inl rfl) (hg1 _) hX
   ·clear g1 g2 hh;rintro S h' ⟨g2,g4,g5,rfl,hcnt⟩;rw[hcnt]at hX;simp only[AJ]at hX;simp only[J3];have n1:(h.next=h.next+1)=False:=(by simp);refine xH 11 (AU g2 g4 g5) ?_;refine⟨?_⟩;refine OI (λS h'=>S 2= .ptr h.next 0 0/\S 4=A3 w/\S 5= .A1 6 (Sx.rows rest)/\S 8= .ptr (h.next+1) 0 0/\S 9= .sc .nilIface/\PI h w h') ?_ ?_
    ·simp only[Ty.w,simprocAttr,g2,g4,g5];refine⟨(((AH.refl h).new _).new _).set (Oz _) _,rfl,?_,?_⟩
     ·simp [A0.new,A0.set,J3]
     ·simp [A0.new,A0.set]
    ·clear g2 g4 g5;rintro S h' ⟨g2,g4,g5,g8,g9,hpi⟩;refine D0 (PJ h F) ?_ ?_
     ·have o1:=hpi.o1;have o2:=hpi.o2;simp only[J3]at o1;have hN:=hpi.qB;have n1:(h.next=h.next+1)=False:=(by simp);have n2:(h.next+1=h.next)=False:=(by simp);have hz2:AQ 0= .sc .nilIface:=rfl;replace zz:=Ae g2 g4 g5 g8 g9;(repeat'(first|refine cK ?_|refine nK ?_|refine M4 16 ?_|apply zI));refine⟨?_⟩;refine D0 (λS h2=>h2=h'/\S 2= .ptr h.next 0 0/\S 4=A3 w/\S 5= .A1 6 (Sx.rows rest)/\S 8= .ptr (h.next+1) 0 0/\S 9= .sc .nilIface/\S 44=A3 w/\S 59= .sc (.bool (EO w))) ?_ ?_
      ·cases u1:(w.data.toList==(#[102,111,114,97,108,108]:Array UInt8).toList)with
       |true=>
        have hq:EO w=true:=(by unfold EO;simp[show A2 w DY=true from u1]);rw[hq];replace zz:=Ah g2 g4 g5 g8 g9 u1;refine wm zz ?_;try exact zI
        all_goals first|rfl|(simp only[Ty.w,simprocAttr,g2,g4,g5,g8,g9];done)
       |false=>
        cases u2:(w.data.toList==(#[101,120,105,115,116,115]:Array UInt8).toList)with
        |true=>
         have hq:EO w=true:=(by unfold EO;simp[show A2 w DY=false from u1,show A2 w HN=true from u2]);rw[hq];replace zz:=Ad g2 g4 g5 g8 g9 u1 u2;refine wm zz ?_;try exact zI
         all_goals first|rfl|(simp only[Ty.w,simprocAttr,g2,g4,g5,g8,g9];done)
        |false=>
         have hq:EO w=false:=(by unfold EO;simp[show A2 w DY=false from u1,show A2 w HN=false from u2]);rw[hq];replace zz:=Ad g2 g4 g5 g8 g9 u1 u2;refine wm zz ?_;try exact zI
         all_goals first|rfl|(simp only[Ty.w,simprocAttr,g2,g4,g5,g8,g9];done)
      ·clear g2 g4 g5 g8 g9;rintro S h' ⟨rfl,g2,g4,g5,g8,g9,g44,g59⟩;cases hQ:EO w with
       |true=>
        rw[hQ]at g59;simp only[SV,hQ,AB]at hX;obtain⟨p,b,rfl⟩: ∃ p b,rest=[p,b]:=by
         have h2:=Wa (.inl hQ) hcnt
         match rest,h2 with
         |[p,b],_=>exact⟨p,b,rfl⟩
        simp only at hX;have hpo:=hro p (by simp);have hps:=hsr p (by simp);have hck:=λh=>WM (l:=[b]) (by simp) (λx hx=>ihr x (by simp at hx⊢;exact .inr hx)) h;obtain⟨pk,pv,pl,pc,pt,pks⟩:=p;simp only[Az,BS]at hX;simp only[Sx.ok]at hpo;simp only[Sx.small]at hps;have hcp:=λh=>M7 (vars:=true) (l:=pks) hps.1 (Sx.Bs.1 hpo.2.2.2.2) h;have r0:=Sx.CG (l:=[.mk pk pv pl pc pt pks,b]) (i:=0) rfl;have hq1:(1:Int)<=((Sx.rows [.mk pk pv pl pc pt pks,b]).length:Int):=(by rw[hlr];simp);have ht:List.take (((Sx.rows [.mk pk pv pl pc pt pks,b]).length:Int)-1).toNat (List.drop 1 (Sx.rows [.mk pk pv pl pc pt pks,b]))=Sx.rows [b]:=(by rw[hlr];try rfl);generalize Sx.rows [.mk pk pv pl pc pt pks,b]=R at g5 r0 hq1 ht hlr;generalize Sx.rows [b]=R1 at ht hck;simp only[Sx.cells]at r0;cases q3:(pk !=3)with
        |true=>
         rw[show(pk==3)=false by simpa using q3]at hX;simp only[AJ]at hX;replace zz:=DX g2 g4 g5 g8 g9 g44 g59 r0 q3 o1 o2;refine wt zz ?_;exact QD (.inl rfl) (hpi.grow.set (AG _) _) hX
        |false=>
         rw[show(pk==3)=true by simpa using q3]at hX;simp only[AB]at hX;generalize C5 true pks=PP at hcp hX;obtain⟨pms,c⟩:=PP;simp only at hcp hX;cases hc:c==0 with
         |false=>
          rw[hc]at hX;simp only[AJ]at hX;have e0:AQ c=An c:=(by simp only[AQ,hc,AJ]);rw[e0]at hcp;simp only[An]at hcp e0;replace zz:=DX g2 g4 g5 g8 g9 g44 g59 r0 q3 o1 o2;refine wt zz ?_;refine Gy (hcp _) (by(try simp only[Ty.w,simprocAttr,g2,g4,g5,g8,g9,g44,r0,o1,o2,n1,n2,Dd]);try rfl) ?_;simp only[Ty.w,simprocAttr,g2,g4,g5,g8,g9,g44,r0,o1,o2,n1,n2,Dd];replace zz:=DX g2 g4 g5 g8 g9 g44 r0 o1 o2 n1 n2;refine wt zz ?_;refine PJ.Ii hpi c w ⟨#[]⟩ _ _ _ _ ?_ ?_ ?_ ?_ ?_ ?_
          ·simp only[Ty.w,simprocAttr,g2]
          ·simp only[Ty.w,simprocAttr,g8]
          ·simp only[Ty.w,simprocAttr];first|exact e0.symm|rfl
          ·exact ⟨rfl,rfl,rfl,rfl⟩
          ·exact λ_=>hX
          ·intro hh;rw[hc]at hh;exact absurd hh (by simp)
         |true=>
          rw[hc]at hX;simp only[AB]at hX;have e0:AQ c= .sc .nilIface:=(by simp only[AQ,hc,AB]);rw[e0]at hcp;clear e0;generalize DN [b]=KK at hck hX;obtain⟨ks,c2⟩:=KK;simp only at hck hX;cases hc2:c2==0 with
          |false=>
           rw[hc2]at hX;simp only[AJ]at hX;have e0:AQ c2=An c2:=(by simp only[AQ,hc2,AJ]);rw[e0]at hck;simp only[An]at hck e0;replace zz:=DX g2 g4 g5 g8 g9 g44 g59 r0 q3 o1 o2;refine wt zz ?_;refine Gy (hcp _) (by(try simp only[Ty.w,simprocAttr,g2,g4,g5,g8,g9,g44,r0,o1,o2,n1,n2,Dd]);try rfl) ?_;simp only[Ty.w,simprocAttr,g2,g4,g5,g8,g9,g44,r0,o1,o2,n1,n2,Dd];(repeat'(first|refine cK ?_|(refine nK ?_;try exact zI)|refine Ai λK hK=>?_|(refine Ck ?_)|((first|refine Bp ?_|refine FW (λK hK=>?_));simp only[Ty.w,simprocAttr,g2,g4,g5,g8,g9,g44,r0,o1,o2,n1,n2,hq1,ht,BD,Bv,CW,CX])|(refine hK _ _ ?_;clear hK;(try simp only[At,simprocAttr]))));refine Gy (hck _) (by(try simp only[Ty.w,simprocAttr,g2,g4,g5,g8,g9,g44,r0,o1,o2,n1,n2,hq1,ht,BD,Bv,CW,CX,Dd]);try rfl) ?_;simp only[Ty.w,simprocAttr,g2,g4,g5,g8,g9,g44,r0,o1,o2,n1,n2,hq1,ht,BD,Bv,CW,CX,Dd];(repeat'(first|refine cK ?_|(refine nK ?_;try exact zI)|(refine hK _ _ ?_;clear hK;(try simp only[At,simprocAttr]))));(try rw[Dd]);refine PJ.Ii hpi c2 w ⟨#[]⟩ _ _ _ _ ?_ ?_ ?_ ?_ ?_ ?_
           ·simp only[Ty.w,simprocAttr,g2]
           ·simp only[Ty.w,simprocAttr,g8]
           ·simp only[Ty.w,simprocAttr];first|exact e0.symm|rfl
           ·exact ⟨rfl,rfl,rfl,rfl⟩
           ·exact λ_=>hX
           ·intro hh;rw[hc2]at hh;exact absurd hh (by simp)
          |true=>
           rw[hc2]at hX;simp only[AB]at hX;have e0:AQ c2= .sc .nilIface:=(by simp only[AQ,hc2,AB]);rw[e0]at hck;replace zz:=DX g2 g4 g5 g8 g9 g44 g59 r0 q3 o1 o2;refine wt zz ?_;refine Gy (hcp _) (by(try simp only[Ty.w,simprocAttr,g2,g4,g5,g8,g9,g44,r0,o1,o2,n1,n2,Dd]);try rfl) ?_;simp only[Ty.w,simprocAttr,g2,g4,g5,g8,g9,g44,r0,o1,o2,n1,n2,Dd];(repeat'(first|refine cK ?_|(refine nK ?_;try exact zI)|refine Ai λK hK=>?_|(refine Ck ?_)|((first|refine Bp ?_|refine FW (λK hK=>?_));simp only[Ty.w,simprocAttr,g2,g4,g5,g8,g9,g44,r0,o1,o2,n1,n2,hq1,ht,BD,Bv,CW,CX])|(refine hK _ _ ?_;clear hK;(try simp only[At,simprocAttr]))));refine Gy (hck _) (by(try simp only[Ty.w,simprocAttr,g2,g4,g5,g8,g9,g44,r0,o1,o2,n1,n2,hq1,ht,BD,Bv,CW,CX,Dd]);try rfl) ?_;simp only[Ty.w,simprocAttr,g2,g4,g5,g8,g9,g44,r0,o1,o2,n1,n2,hq1,ht,BD,Bv,CW,CX,Dd];(repeat'(first|refine cK ?_|(refine nK ?_;try exact zI)|(refine hK _ _ ?_;clear hK;(try simp only[At,simprocAttr]))));(try rw[Dd]);refine PJ.Ii hpi c2 w ⟨#[]⟩ _ _ _ _ ?_ ?_ ?_ ?_ ?_ ?_
           ·simp only[Ty.w,simprocAttr,g2]
           ·simp only[Ty.w,simprocAttr,g8]
           ·simp only[Ty.w,simprocAttr];first|exact e0.symm|rfl
           ·exact ⟨rfl,rfl,rfl,rfl⟩
           ·intro hh;rw[hc2]at hh;exact absurd hh (by simp)
           ·subst hX;refine λ_=>⟨rfl,λhh=>?_⟩;simp only[Fm.cells,AN];refine⟨?_,?_,?_,?_,?_,?_,trivial⟩<;>(unfold AI;first|rfl|exact .inr (.inl ⟨rfl,.inr rfl⟩)|exact .inl ⟨rfl,Df _ _⟩|exact .inl ⟨rfl,C6 _ _⟩|exact .inl ⟨rfl,El _ _⟩)
       |false=>
        rw[hQ]at g59;simp only[SV,hQ,AJ]at hX;replace zz:=Ad g2 g4 g5 g8 g9 g44 g59;(repeat'(first|refine cK ?_|refine nK ?_|refine M4 23 ?_|refine C3 zz ?_|apply zI));refine⟨?_⟩;refine D0 (λS h2=>h2=h'/\S 2= .ptr h.next 0 0/\S 4=A3 w/\S 5= .A1 6 (Sx.rows rest)/\S 8= .ptr (h.next+1) 0 0/\S 9= .sc .nilIface/\S 44=A3 w/\S 87= .sc (.bool (Fp w))) ?_ ?_
        ·cases u1:(w.data.toList==(#[110,111,116]:Array UInt8).toList)with
         |true=>
          have hq:Fp w=true:=(by unfold Fp;simp[show A2 w DU=true from u1]);rw[hq];replace zz:=BJ g2 g4 g5 g8 g9 g44 g59 u1;refine wm zz ?_;try exact zI
          all_goals first|rfl|(simp only[Ty.w,simprocAttr,g2,g4,g5,g8,g9,g44];done)
         |false=>
          cases u2:(w.data.toList==(#[105,109,112,108,121]:Array UInt8).toList)with
          |true=>
           have hq:Fp w=true:=(by unfold Fp;simp[show A2 w DU=false from u1,show A2 w GL=true from u2]);rw[hq];replace zz:=BF g2 g4 g5 g8 g9 g44 g59 u1 u2;refine wm zz ?_;try exact zI
           all_goals first|rfl|(simp only[Ty.w,simprocAttr,g2,g4,g5,g8,g9,g44];done)
          |false=>
           cases u3:(w.data.toList==(#[97,110,100]:Array UInt8).toList)with
           |true=>
            have hq:Fp w=true:=(by unfold Fp;simp[show A2 w DU=false from u1,show A2 w GL=false from u2,show A2 w Bl=true from u3]);rw[hq];replace zz:=B6 g2 g4 g5 g8 g9 g44 g59 u1 u2 u3;refine wm zz ?_;try exact zI
            all_goals first|rfl|(simp only[Ty.w,simprocAttr,g2,g4,g5,g8,g9,g44];done)
           |false=>
            cases u4:(w.data.toList==(#[111,114]:Array UInt8).toList)with
            |true=>
             have hq:Fp w=true:=(by unfold Fp;simp[show A2 w DU=false from u1,show A2 w GL=false from u2,show A2 w Bl=false from u3,show A2 w GV=true from u4]);rw[hq];replace zz:=DX g2 g4 g5 g8 g9 g44 g59 u1 u2 u3 u4;refine wm zz ?_;try exact zI
             all_goals first|rfl|(simp only[Ty.w,simprocAttr,g2,g4,g5,g8,g9,g44];done)
            |false=>
             have hq:Fp w=false:=(by unfold Fp;simp[show A2 w DU=false from u1,show A2 w GL=false from u2,show A2 w Bl=false from u3,show A2 w GV=false from u4]);rw[hq];replace zz:=DX g2 g4 g5 g8 g9 g44 g59 u1 u2 u3 u4;refine wm zz ?_;try exact zI
             all_goals first|rfl|(simp only[Ty.w,simprocAttr,g2,g4,g5,g8,g9,g44];done)
        ·clear g2 g4 g5 g8 g9 g44 g59;rintro S h' ⟨rfl,g2,g4,g5,g8,g9,g44,g87⟩;cases hL:Fp w with
         |true=>
          rw[hL]at g87 hX;simp only[AB]at hX;have hck:=λh=>WM (l:=rest) hrl ihr h;generalize DN rest=KK at hck hX;obtain⟨ks,c2⟩:=KK;simp only at hck hX;cases hc2:c2==0 with
          |false=>
           rw[hc2]at hX;simp only[AJ]at hX;have e0:AQ c2=An c2:=(by simp only[AQ,hc2,AJ]);rw[e0]at hck;simp only[An]at hck e0;replace zz:=BF g2 g4 g5 g8 g9 g44 g87 o1 o2;refine wt zz ?_;refine Gy (hck _) (by(try simp only[Ty.w,simprocAttr,g2,g4,g5,g8,g9,g44,g87,o1,o2,n1,n2,Dd]);try rfl) ?_;simp only[Ty.w,simprocAttr,g2,g4,g5,g8,g9,g44,g87,o1,o2,n1,n2,Dd];replace zz:=DX g2 g4 g5 g8 g9 g44 g87 o1 o2 n1 n2;refine wt zz ?_;refine PJ.Ii hpi c2 w ⟨#[]⟩ _ _ _ _ ?_ ?_ ?_ ?_ ?_ ?_
           ·simp only[Ty.w,simprocAttr,g2]
           ·simp only[Ty.w,simprocAttr,g8]
           ·simp only[Ty.w,simprocAttr];first|exact e0.symm|rfl
           ·exact ⟨rfl,rfl,rfl,rfl⟩
           ·exact λ_=>hX
           ·intro hh;rw[hc2]at hh;exact absurd hh (by simp)
          |true=>
           rw[hc2]at hX;simp only[AB]at hX;have e0:AQ c2= .sc .nilIface:=(by simp only[AQ,hc2,AB]);rw[e0]at hck;replace zz:=BF g2 g4 g5 g8 g9 g44 g87 o1 o2;refine wt zz ?_;refine Gy (hck _) (by(try simp only[Ty.w,simprocAttr,g2,g4,g5,g8,g9,g44,g87,o1,o2,n1,n2,Dd]);try rfl) ?_;simp only[Ty.w,simprocAttr,g2,g4,g5,g8,g9,g44,g87,o1,o2,n1,n2,Dd];replace zz:=DX g2 g4 g5 g8 g9 g44 g87 o1 o2 n1 n2;refine wt zz ?_;refine PJ.Ii hpi c2 w ⟨#[]⟩ _ _ _ _ ?_ ?_ ?_ ?_ ?_ ?_
           ·simp only[Ty.w,simprocAttr,g2]
           ·simp only[Ty.w,simprocAttr,g8]
           ·simp only[Ty.w,simprocAttr];first|exact e0.symm|rfl
           ·exact ⟨rfl,rfl,rfl,rfl⟩
           ·intro hh;rw[hc2]at hh;exact absurd hh (by simp)
           ·subst hX;refine λ_=>⟨rfl,λhh=>?_⟩;simp only[Fm.cells,AN];refine⟨?_,?_,?_,?_,?_,?_,trivial⟩<;>(unfold AI;first|rfl|exact .inr (.inl ⟨rfl,.inr rfl⟩)|exact .inl ⟨rfl,Df _ _⟩|exact .inl ⟨rfl,C6 _ _⟩|exact .inl ⟨rfl,El _ _⟩)
         |false=>
          rw[hL]at g87 hX;simp only[AJ]at hX;replace zz:=Ad g2 g4 g5 g8 g9 g44 g87;(repeat'(first|refine cK ?_|refine nK ?_|refine M4 28 ?_|refine C3 zz ?_|apply zI));refine⟨?_⟩;refine D0 (λS h2=>h2=h'/\S 2= .ptr h.next 0 0/\S 4=A3 w/\S 5= .A1 6 (Sx.rows rest)/\S 8= .ptr (h.next+1) 0 0/\S 9= .sc .nilIface/\S 44=A3 w/\S 98= .sc (.bool (Ew w))) ?_ ?_
          ·cases u1:(w.data.toList==(#[61]:Array UInt8).toList)with
           |true=>
            have hq:Ew w=true:=(by unfold Ew Fa;simp[show A2 w Cb=true from u1]);rw[hq];replace zz:=BJ g2 g4 g5 g8 g9 g44 g87 u1;refine wm zz ?_;try exact zI
            all_goals first|rfl|(simp only[Ty.w,simprocAttr,g2,g4,g5,g8,g9,g44];done)
           |false=>
            cases u2:(w.data.toList==(#[60]:Array UInt8).toList)with
            |true=>
             have hq:Ew w=true:=(by unfold Ew Fa;simp[show A2 w Cb=false from u1,show A2 w DH=true from u2]);rw[hq];replace zz:=BF g2 g4 g5 g8 g9 g44 g87 u1 u2;refine wm zz ?_;try exact zI
             all_goals first|rfl|(simp only[Ty.w,simprocAttr,g2,g4,g5,g8,g9,g44];done)
            |false=>
             cases u3:(w.data.toList==(#[60,61]:Array UInt8).toList)with
             |true=>
              have hq:Ew w=true:=(by unfold Ew Fa;simp[show A2 w Cb=false from u1,show A2 w DH=false from u2,show A2 w De=true from u3]);rw[hq];replace zz:=B6 g2 g4 g5 g8 g9 g44 g87 u1 u2 u3;refine wm zz ?_;try exact zI
              all_goals first|rfl|(simp only[Ty.w,simprocAttr,g2,g4,g5,g8,g9,g44];done)
             |false=>
              cases u4:(w.data.toList==(#[62]:Array UInt8).toList)with
              |true=>
               have hq:Ew w=true:=(by unfold Ew Fa;simp[show A2 w Cb=false from u1,show A2 w DH=false from u2,show A2 w De=false from u3,show A2 w Ix=true from u4]);rw[hq];replace zz:=DX g2 g4 g5 g8 g9 g44 g87 u1 u2 u3 u4;refine wm zz ?_;try exact zI
               all_goals first|rfl|(simp only[Ty.w,simprocAttr,g2,g4,g5,g8,g9,g44];done)
              |false=>
               cases u5:(w.data.toList==(#[62,61]:Array UInt8).toList)with
               |true=>
                have hq:Ew w=true:=(by unfold Ew Fa;simp[show A2 w Cb=false from u1,show A2 w DH=false from u2,show A2 w De=false from u3,show A2 w Ix=false from u4,show A2 w JN=true from u5]);rw[hq];replace zz:=AY g2 g4 g5 g8 g9 g44 g87 u1 u2 u3 u4 u5;refine wm zz ?_;try exact zI
                all_goals first|rfl|(simp only[Ty.w,simprocAttr,g2,g4,g5,g8,g9,g44];done)
               |false=>
                have hq:Ew w=false:=(by unfold Ew Fa;simp[show A2 w Cb=false from u1,show A2 w DH=false from u2,show A2 w De=false from u3,show A2 w Ix=false from u4,show A2 w JN=false from u5]);rw[hq];replace zz:=AY g2 g4 g5 g8 g9 g44 g87 u1 u2 u3 u4 u5;refine wm zz ?_;try exact zI
                all_goals first|rfl|(simp only[Ty.w,simprocAttr,g2,g4,g5,g8,g9,g44];done)
          ·clear g2 g4 g5 g8 g9 g44 g87;rintro S h' ⟨rfl,g2,g4,g5,g8,g9,g44,g98⟩;cases hC:Ew w with
           |true=>
            rw[hC]at g98 hX;simp only[AB]at hX;obtain⟨x,y,rfl⟩: ∃ x y,rest=[x,y]:=by
             have h2:=Wa (.inr hC) hcnt
             match rest,h2 with
             |[p,b],_=>exact⟨p,b,rfl⟩
            simp only at hX;have hcc:=λh=>jc (w:=w) (hro x (by simp)) (hro y (by simp)) (S9 x (hro x (by simp)) (hsr x (by simp))) (S9 y (hro y (by simp)) (hsr y (by simp))) h;have hfz:=λhh=>SO h.next hh (Hr w x y).1
            generalize Hr w x y=CC at hcc hX hfz;obtain⟨f,c⟩:=CC;simp only at hcc hfz;have r0:=Sx.CG (l:=[x,y]) (i:=0) rfl;have r1:=Sx.CG (l:=[x,y]) (i:=1) rfl;generalize Sx.rows [x,y]=R at g5 r0 r1 hlr;obtain⟨xk,xv,xl,xc,xt,xks⟩:=x;obtain⟨yk,yv,yl,yc,yt,yks⟩:=y;obtain⟨fop,fna,far,fpa,fex,fki⟩:=f;simp only[Sx.cells]at r0 r1 hcc;simp only[Fm.cells]at hcc hfz;cases hc2:c==0 with
            |false=>
             simp only[DA,hc2,AJ]at hX;have e0:AQ c=An c:=(by simp only[AQ,hc2,AJ]);rw[e0]at hcc;simp only[An]at hcc e0;replace zz:=DX g2 g4 g5 g8 g9 g44 g98 r0 r1 o1 o2;refine wy zz ?_
             (first|refine Ml (hcc _) (by(try simp only[Ty.w,simprocAttr,g2,g4,g5,g8,g9,g44,g98,r0,r1,o1,o2,n1,n2,Dd]);try rfl) ?_|refine Iq (hcc _) (by(try simp only[Ty.w,simprocAttr,g2,g4,g5,g8,g9,g44,g98,r0,r1,o1,o2,n1,n2,Dd]);try rfl) (by simp only[Ty.w,simprocAttr,g2,g4,g5,g8,g9,g44,g98,r0,r1,o1,o2,n1,n2,Dd];try trivial) ?_);simp only[Ty.w,simprocAttr,BD,g2,g4,g5,g8,g9,g44,g98,r0,r1,o1,o2,n1,n2,Dd]
             replace zz:=DX g2 g4 g5 g8 g9 g44 g98 o1 o2 n1 n2;refine wy zz ?_;refine PJ.Ii hpi c fop fna _ _ _ _ ?_ ?_ ?_ ?_ ?_ ?_
             ·simp only[Ty.w,simprocAttr,g2]
             ·simp only[Ty.w,simprocAttr,g8]
             ·simp only[Ty.w,simprocAttr];first|exact e0.symm|rfl
             ·exact ⟨rfl,rfl,rfl,rfl⟩
             ·exact λ_=>hX
             ·intro hh;rw[hc2]at hh;exact absurd hh (by simp)
            |true=>
             simp only[DA,hc2,AB]at hX;have e0:AQ c= .sc .nilIface:=(by simp only[AQ,hc2,AB]);rw[e0]at hcc;replace zz:=DX g2 g4 g5 g8 g9 g44 g98 r0 r1 o1 o2;refine wy zz ?_
             (first|refine Ml (hcc _) (by(try simp only[Ty.w,simprocAttr,g2,g4,g5,g8,g9,g44,g98,r0,r1,o1,o2,n1,n2,Dd]);try rfl) ?_|refine Iq (hcc _) (by(try simp only[Ty.w,simprocAttr,g2,g4,g5,g8,g9,g44,g98,r0,r1,o1,o2,n1,n2,Dd]);try rfl) (by simp only[Ty.w,simprocAttr,g2,g4,g5,g8,g9,g44,g98,r0,r1,o1,o2,n1,n2,Dd];try trivial) ?_);simp only[Ty.w,simprocAttr,BD,g2,g4,g5,g8,g9,g44,g98,r0,r1,o1,o2,n1,n2,Dd]
             replace zz:=DX g2 g4 g5 g8 g9 g44 g98 o1 o2 n1 n2;refine wy zz ?_;refine PJ.Ii hpi c fop fna _ _ _ _ ?_ ?_ ?_ ?_ ?_ ?_
             ·simp only[Ty.w,simprocAttr,g2]
             ·simp only[Ty.w,simprocAttr,g8]
             ·simp only[Ty.w,simprocAttr];first|exact e0.symm|rfl
             ·exact ⟨rfl,rfl,rfl,rfl⟩
             ·intro hh;rw[hc2]at hh;exact absurd hh (by simp)
             ·subst hX;exact λ_=>⟨by simpa using hc2,λhh=>by simpa only[Fm.cells]using hfz hh⟩
           |false=>
            rw[hC]at g98 hX;simp only[AJ]at hX;have hw':w.size<=9223372036854775807:=(by unfold AF at hw;omega);have hn:=λh:A0=>FY (h:=h) hw';cases hN1:As w with
            |false=>
             rw[hN1]at hn hX;simp only[AJ]at hX;replace zz:=BF g2 g4 g5 g8 g9 g44 g98 o1 o2;refine wt zz ?_;replace zz:=Ad g2 g4 g5 g8 g9 g44 g98;refine uU zz (hn _) ?_;replace zz:=B6 g2 g4 g5 g8 g9 g44 g98 o1 o2 yF;refine wt zz ?_;exact QD (.inr rfl) (hpi.grow.set (AG _) _) hX
            |true=>
             rw[hN1]at hn hX;simp only[AB]at hX;have ht:=λh:A0=>S2 hrl hro h;generalize CM rest=T at ht hX;obtain⟨t,c⟩:=T;simp only at ht hX;cases hc2:c==0 with
             |false=>
              rw[hc2]at hX;simp only[AJ]at hX;have e0:AQ c=An c:=(by simp only[AQ,hc2,AJ]);rw[e0]at ht;simp only[An]at ht e0;replace zz:=BF g2 g4 g5 g8 g9 g44 g98 o1 o2;refine wt zz ?_;replace zz:=Ad g2 g4 g5 g8 g9 g44 g98;refine uU zz (hn _) ?_;replace zz:=DX g2 g4 g5 g8 g9 g44 o1 o2 n1 n2 yT;refine wt zz ?_;refine Gy (ht _) (by(try simp only[Ty.w,simprocAttr,g2,g4,g5,g8,g9,g44,o1,o2,n1,n2,Dd]);try rfl) ?_;simp only[Ty.w,simprocAttr,g2,g4,g5,g8,g9,g44,o1,o2,n1,n2,Dd];(repeat'(first|refine cK ?_|(refine nK ?_;try exact zI)|(refine hK _ _ ?_;clear hK;(try simp only[At,simprocAttr]))));(try simp only[Dd]);refine PJ.Ii hpi c ⟨#[97,116,111,109]⟩ w _ _ _ _ ?_ ?_ ?_ ?_ ?_ ?_
              ·simp only[Ty.w,simprocAttr,g2]
              ·simp only[Ty.w,simprocAttr,g8]
              ·simp only[Ty.w,simprocAttr];first|exact e0.symm|rfl
              ·exact ⟨rfl,rfl,rfl,rfl⟩
              ·exact λ_=>hX
              ·intro hh;rw[hc2]at hh;exact absurd hh (by simp)
             |true=>
              rw[hc2]at hX;simp only[AB]at hX;have e0:AQ c= .sc .nilIface:=(by simp only[AQ,hc2,AB]);rw[e0]at ht;replace zz:=BF g2 g4 g5 g8 g9 g44 g98 o1 o2;refine wt zz ?_;replace zz:=Ad g2 g4 g5 g8 g9 g44 g98;refine uU zz (hn _) ?_;replace zz:=DX g2 g4 g5 g8 g9 g44 o1 o2 n1 n2 yT;refine wt zz ?_;refine Gy (ht _) (by(try simp only[Ty.w,simprocAttr,g2,g4,g5,g8,g9,g44,o1,o2,n1,n2,Dd]);try rfl) ?_;simp only[Ty.w,simprocAttr,g2,g4,g5,g8,g9,g44,o1,o2,n1,n2,Dd];(repeat'(first|refine cK ?_|(refine nK ?_;try exact zI)|(refine hK _ _ ?_;clear hK;(try simp only[At,simprocAttr]))));(try simp only[Dd]);refine PJ.Ii hpi c ⟨#[97,116,111,109]⟩ w _ _ _ _ ?_ ?_ ?_ ?_ ?_ ?_
              ·simp only[Ty.w,simprocAttr,g2]
              ·simp only[Ty.w,simprocAttr,g8]
              ·simp only[Ty.w,simprocAttr];first|exact e0.symm|rfl
              ·exact ⟨rfl,rfl,rfl,rfl⟩
              ·intro hh;rw[hc2]at hh;exact absurd hh (by simp)
              ·subst hX;refine λ_=>⟨rfl,λhh=>?_⟩;simp only[Fm.cells,AN];refine⟨?_,?_,?_,?_,?_,?_,trivial⟩<;>(unfold AI;first|rfl|exact .inr (.inl ⟨rfl,.inr rfl⟩)|exact .inl ⟨rfl,Df _ _⟩|exact .inl ⟨rfl,C6 _ _⟩|exact .inl ⟨rfl,El _ _⟩)
     ·clear g2 g4 g5 g8 g9 hpi;rintro S h' ⟨g2,g8,hg,c,a,b,p2,p3,p4,p5,g9,o1,o2,⟨z2,z3,z4,z5⟩,hc,hd⟩;simp only[J3]at o1;cases hcc:c==0 with
      |false=>
       have hF:=hc hcc;have e0:AQ c=An c:=(by simp only[AQ,hcc,AJ]);rw[e0]at g9;simp only[An]at g9;subst hF;rw[e0];simp only[An];replace zz:=Ae g2 g8 g9 o1 o2;refine wt zz ?_;refine⟨?_,hg.set (AG _) _⟩;simp only[Cn,Fm.cells,Ex.rows,Fm.rows,A8,AL,List.map_nil,AI,AN];exact⟨_,rfl,⟨_,rfl,rfl,rfl,.inr (.inl ⟨rfl,.inr rfl⟩),.inr (.inl ⟨rfl,.inr rfl⟩),.inr (.inl ⟨rfl,.inr rfl⟩),.inr (.inl ⟨rfl,.inr rfl⟩),trivial⟩,rfl,trivial⟩
      |true=>
       have hF:=hd hcc;have e0:AQ c= .sc .nilIface:=(by simp only[AQ,hcc,AB]);rw[e0]at g9;have e2:AQ F.2= .sc .nilIface:=(by rw[hF.1];try rfl);rw[e2];replace zz:=BF g2 g8 g9 o1 o2 z2 z3 z4 z5;refine wt zz ?_;refine⟨?_,hg.set (AG _) _⟩;have h1:=hF.2 (h'.set h.next (.arr 6 [[A3 a,A3 b,p2,p3,p4,p5]]));unfold AI;refine⟨_,rfl,?_⟩;unfold AN;refine⟨?_,by unfold AN;exact⟨by simp only[AI],by simp only[AN]⟩⟩;unfold AI;exact⟨_,rfl,h1⟩
theorem Mz: ∀ l m:List Sx,Sx.Aq (l++m)=Sx.Aq l+Sx.Aq m
 |[],m=>by simp[Sx.Aq]
 |k::l,m=>by simp only[List.cons_append,Sx.Aq,Mz l m];omega
theorem JT(l:List Sx):(AC l).nodes=Sx.Aq l+1:=by simp only[AC,Sx.nodes]
theorem SW(s:ByteArray):(A5 s).nodes=1:=by simp[A5,Sx.nodes,Sx.Aq]
theorem Wb: ∀ (e:Ex),FJ e=true-> ∀ (d n:Nat),d+(BG e).depth<=32->n+(BG e).nodes<=4096->(EW e d n).1=true/\(EW e d n).2<=n+(BG e).nodes:=by
 refine Ex.ind ?_;intro op name v args kids ih hs d n hd hn;unfold FJ at hs;unfold BG at hd hn⊢;unfold EW;cases c1:A2 op Iv with
 |true=>
  rw[c1]at hs hd hn;simp only[AO]at hs hd hn⊢;simp only[Sx.nodes,Sx.Aq]at hn⊢;rw[AK ⟨by omega,by omega⟩];exact⟨hs,by simp only;omega⟩
 |false=>
  rw[c1]at hs hd hn;simp only[BQ,AP]at hs hd hn⊢;cases c2:A2 op Iw with
  |true=>
   rw[c2]at hs hd hn;simp only[AO]at hs hd hn⊢;simp only[Cu,AC,Sx.nodes]at hn⊢;rw[AK ⟨by omega,by omega⟩];exact⟨hs,by simp only;omega⟩
  |false=>
   rw[c2]at hs hd hn;simp only[BQ,AP]at hs hd hn⊢;split at hs
   case isFalse=>simp at hs
   rename_i hop;rw[AK hop];rw[AV]at hs;obtain⟨h1,h2⟩:=hs;rw[h1];simp only[AO];split at h2
   case h_2=>simp at h2
   rename_i a b;simp only[AV]at h2;simp only[AC,Sx.depth,Sx.DW,Sx.nodes,Sx.Aq,A5,AO]at hd hn⊢;have k1:¬ ((1:Int)=3):=(by omega);rw[A7 k1]at hd;rw[AK ⟨by omega,by omega⟩];obtain⟨f1,f2⟩:=ih a (by simp) h2.1 (d+1) (n+1) (by omega) (by omega);cases hw:EW a (d+1) (n+1)with
   |mk x c=>
    rw[hw]at f1 f2;simp only at f1 f2;subst f1;simp only;obtain⟨g1,g2⟩:=ih b (by simp) h2.2 (d+1) c (by omega) (by omega);exact⟨g1,by omega⟩
theorem jt{e:Ex}(hn:(BG e).nodes<=AF):Ei e=(FJ e&&Mu (BG e)):=by
 unfold Ei;rw[M5 hn];cases hs:FJ e with
 |false=>
  have:(EW e 0 0).1=false:=by
   cases h:(EW e 0 0).1 with
   |false=>rfl
   |true=>rw[O9 e 0 0 h]at hs;simp at hs
  simp only[this,B5]
 |true=>
  cases hv:Mu (BG e)with
  |false=>simp
  |true=>
   have h1:=(JO (BG e) 0 0 (by omega) (by omega)).1.1 (by rw[M5 hn];exact hv);rw[(Wb e hs 0 0 h1.2.1 h1.2.2).1]
section
variable {name:ByteArray}{args:List ByteArray}{params:List Pm}{exprs:List Ex}{kids p q:List Fm}{s:Bool}
end
theorem ju{C:Fm->Prop}(f:Fm)(hf:DI f=true)
  (h1: ∀ name args,As name=true->args.all CH=true->C (.mk Bz name args [] [] []))
  (h2: ∀ args,args.length=2->args.all CH=true->C (.mk CI ⟨#[]⟩ args [] [] []))
  (h3: ∀ op a b,(op=DH\/op=De\/op=Cb)->FJ a=true->FJ b=true->C (.mk op ⟨#[]⟩ [] [] [a,b] []))
  (h4: ∀ op kids,(op=Bl\/op=GV)->(∀ k∈kids,DI k=true)->C (.mk op ⟨#[]⟩ [] [] [] kids))
  (h5: ∀ k,DI k=true->C (.mk DU ⟨#[]⟩ [] [] [] [k]))
  (h6: ∀ a b,DI a=true->DI b=true->C (.mk GL ⟨#[]⟩ [] [] [] [a,b]))
  (h7: ∀ op params k,(op=DY\/op=HN)->params.all Hp=true->DI k=true->C (.mk op ⟨#[]⟩ [] params [] [k])):C f:=by
 obtain⟨op,name,args,params,exprs,kids⟩:=f;simp only[DI,AV,List.all_eq_true]at hf;obtain⟨⟨hp,he⟩,hk⟩:=hf;rw[Mr]at hk;rcases Vm hp with⟨rfl,a1,a2,rfl,a3,a4⟩|⟨rfl,rfl,a1,a2,rfl,a3,a4⟩|⟨a1,rfl,rfl,rfl,a3,a4⟩|⟨a1,rfl,rfl,rfl,a3⟩|⟨a1,rfl,rfl,a3,a4,a5⟩
 ·obtain rfl:=List.eq_nil_of_length_eq_zero a3;obtain rfl:=List.eq_nil_of_length_eq_zero a4;exact h1 _ _ a1 a2
 ·obtain rfl:=List.eq_nil_of_length_eq_zero a3;obtain rfl:=List.eq_nil_of_length_eq_zero a4;exact h2 _ a1 a2
 ·obtain rfl:=List.eq_nil_of_length_eq_zero a4
  match exprs,a3,he with
  |[a,b],_,he=>exact h3 _ _ _ a1 (he a (by simp)) (he b (by simp))
 ·obtain rfl:=List.eq_nil_of_length_eq_zero a3;rcases a1 with rfl|rfl|⟨rfl,a4⟩|⟨rfl,a4⟩
  ·exact h4 _ _ (.inl rfl) hk
  ·exact h4 _ _ (.inr rfl) hk
  ·match kids,a4,hk with
   |[k],_,hk=>exact h5 _ (hk k (by simp))
  ·match kids,a4,hk with
   |[a,b],_,hk=>exact h6 _ _ (hk a (by simp)) (hk b (by simp))
 ·obtain rfl:=List.eq_nil_of_length_eq_zero a3
  match kids,a4,hk with
  |[k],_,hk=>exact h7 _ _ _ a1 a5 (hk k (by simp))
end Go.Proofs.YtblgchkahpgdjaaGreat
