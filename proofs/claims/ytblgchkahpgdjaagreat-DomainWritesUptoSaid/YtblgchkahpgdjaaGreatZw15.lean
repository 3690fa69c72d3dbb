/- What the claim rests on, part 15: the abstract machine, contracts of the functions, plain data. -/
import Derived.Test.YtblgchkahpgdjaaGreatZw12
import Derived.Test.YtblgchkahpgdjaaGreatZw14
set_option linter.unusedVariables false
set_option linter.unusedSimpArgs false
set_option linter.unusedSectionVars false
namespace Go.Proofs.YtblgchkahpgdjaaGreat
open Go.AM Go.Proofs.Tryz
set_option maxHeartbeats 8000000
set_option maxRecDepth 20000
def DV(c:Ch):Fm:= .mk BH c.name c.args [] [] []
def DX(c:Ch):Bool:=!(decide (c.kind<1))&&(!(decide (5<c.kind))&&(c.params.all (Cy true)&&(BP c.cond&&(BP (DV c)&&(bif decide (c.kind<=2)then c.value.same Dr else Br c.value)))))
theorem cB{c:Ch}(h:c.ok):(DV c).ok:=⟨by decide,h.name,h.args,⟨by simp,by simp⟩,⟨by simp,trivial⟩,by simp,trivial⟩
theorem PQ{l:List Ch}(hl:l.length<=AE)(hok: ∀ c∈l,c.ok)(h:A0):AA prog 52 [.imm 15 (Ay l)] h λr h'=>r= .sc (.bool (l.all DX))/\h'=h:=by
 refine AA.quiet Ty.RC ?_;unfold AE at hl;have hlen:=HG l;refine AN func52 ntmps52 results52 Ty.RC ?_;repeat'(first|refine AI λK hK=>?_|refine Bl ?_|refine uR hlen ?_|(refine uN hK ?_;clear hK)|apply zI)
 refine BV (λm S h'=>S 0= .imm 15 (Ay l)/\ ∃ k:Nat,S 3= .sc (.int .i64 k)/\k<=l.length/\m=l.length-k/\AL h h'/\l.all DX=(l.drop k).all DX) l.length ?_ ?_
 ·simp only[Ty.w,simprocAttr];exact⟨0,rfl,by omega,rfl,AL.refl _,by simp⟩
 ·rintro m S h' ⟨g0,k,g3,hk,rfl,hg,hinv⟩;by_cases hlt:k<l.length
  ·have hd:decide ((k:Int)<(l.length:Int))=true:=(by simp;omega);have w7:IntKind.i64.wrap ((k:Int)+1)=k+1:=(by rw[B9 (by omega) (by omega)]);obtain⟨c,hx⟩: ∃ c,l[k]? =some c:=⟨_,List.getElem?_eq_getElem hlt⟩;have hr:=MX hx;have hco:=hok c (List.mem_of_getElem? hx);have hc1:=λh:A0=>Iv (v:=true) hco.params.1 hco.params.2 h;have hc2:=λh:A0=>KV c.cond hco.cond h;have hc3:=λh:A0=>AA.nz (KV (DV c) (cB hco) h) (xs:=[.agg [A1 BH,A1 c.name,.imm 1 (AP c.args),.sc (.slice none 0 0),.sc (.slice none 0 0),.sc (.slice none 0 0)]]) (Cj (N2 (Cj (Nz.refl _) (Cj (Nz.refl _) (Cj (Nz.refl _) (Cj Hy (Cj Hy (Cj Hy (CA.refl _)))))))) (CA.refl _));have hc4:=λh:A0=>AA.nz (Za c.value hco.value Dr SB.1 h) (xs:=[.agg c.value.cells,.agg [.sc (.string ⟨#[]⟩),.sc (.string ⟨#[]⟩),.sc (.int .i64 0),.sc (.slice none 0 0),.sc (.slice none 0 0)]]) (Cj (Nz.refl _) (Cj (N2 (Cj (Nz.refl _) (Cj (Nz.refl _) (Cj (Nz.refl _) (Cj Hy (Cj Hy (CA.refl _))))))) (CA.refl _)));have hc5:=λh:A0=>SD c.value hco.value h;rw[CR hx,List.all_cons]at hinv;simp only[DX]at hinv;clear hok hco hx;generalize l.all DX=F at hinv⊢;generalize hF2:(l.drop (k+1)).all DX=F2 at hinv;obtain⟨kind,P,f,nm,aa,v⟩:=c;simp only at hinv hc1 hc2 hc3 hc4 hc5;generalize P.all (Cy true)=b1 at hc1 hinv;generalize BP f=b2 at hc2 hinv;generalize BP (DV ⟨kind,P,f,nm,aa,v⟩)=b3 at hc3 hinv;generalize v.same Dr=b4 at hc4 hinv;generalize Br v=b5 at hc5 hinv;obtain⟨gop,gna,gar,gpa,gex,gki⟩:=f;obtain⟨eop,ena,en,ear,eki⟩:=v;simp only[Df,Fm.cells,Ex.cells,List.cons_append,List.nil_append]at hr hc2 hc4 hc5;simp only[A1,BH]at hc3;cases k1:decide (kind<1)with
   |true=>
    rw[k1]at hinv;have hf:F=false:=(by rw[hinv];simp);subst hf;replace zz:=AV g0 g3 hd hr k1;(repeat'(first|refine AI λK hK=>?_|refine uR zz ?_|refine uT zz ?_|refine uK ?_|(refine uC zz (λhb=>?_) (λhb=>?_)<;>(try simp only[BI,simprocAttr]at hb)<;>(try(exfalso;omega)))|(refine uN hK ?_;clear hK)|apply zI));first|exact(hg.new _).set hg.le _|exact⟨rfl,(hg.new _).set hg.le _⟩
   |false=>
    rw[k1]at hinv;cases k2:decide (5<kind)with
    |true=>
     rw[k2]at hinv;have hf:F=false:=(by rw[hinv];simp);subst hf;replace zz:=AK g0 g3 hd hr k1 k2;(repeat'(first|refine AI λK hK=>?_|refine uR zz ?_|refine uT zz ?_|refine uK ?_|(refine uC zz (λhb=>?_) (λhb=>?_)<;>(try simp only[BI,simprocAttr]at hb)<;>(try(exfalso;omega)))|(refine uN hK ?_;clear hK)|apply zI));first|exact(hg.new _).set hg.le _|exact⟨rfl,(hg.new _).set hg.le _⟩
    |false=>
     rw[k2]at hinv;cases b1 with
     |false=>
      have hf:F=false:=(by rw[hinv];simp);subst hf;clear hinv;replace zz:=AK g0 g3 hd hr k1 k2;(repeat'(first|refine AI λK hK=>?_|refine uR zz ?_|refine uK ?_|(refine uC zz (λhb=>?_) (λhb=>?_)<;>(try simp only[BI,simprocAttr]at hb)<;>(try(exfalso;omega)))|(refine uN hK ?_;clear hK)|apply zI));refine uU zz (hc1 _) ?_;replace zz:=B6 g0 g3 hd hr k1 k2 yT yF;(repeat'(first|refine AI λK hK=>?_|refine uR zz ?_|refine uT zz ?_|(refine uN hK ?_;clear hK)|apply zI));first|exact(hg.new _).set hg.le _|exact⟨rfl,(hg.new _).set hg.le _⟩
     |true=>
      cases b2 with
      |false=>
       have hf:F=false:=(by rw[hinv];simp);subst hf;clear hinv;replace zz:=AK g0 g3 hd hr k1 k2;(repeat'(first|refine AI λK hK=>?_|refine uR zz ?_|refine uK ?_|(refine uC zz (λhb=>?_) (λhb=>?_)<;>(try simp only[BI,simprocAttr]at hb)<;>(try(exfalso;omega)))|(refine uN hK ?_;clear hK)|apply zI));refine uU zz (hc1 _) ?_;(try apply zI);refine uU zz (hc2 _) ?_;replace zz:=B6 g0 g3 hd hr k1 k2 yT yF;(repeat'(first|refine AI λK hK=>?_|refine uR zz ?_|refine uT zz ?_|(refine uN hK ?_;clear hK)|apply zI));first|exact(hg.new _).set hg.le _|exact⟨rfl,(hg.new _).set hg.le _⟩
      |true=>
       cases b3 with
       |false=>
        have hf:F=false:=(by rw[hinv];simp);subst hf;clear hinv;replace zz:=AK g0 g3 hd hr k1 k2;(repeat'(first|refine AI λK hK=>?_|refine uR zz ?_|refine uK ?_|(refine uC zz (λhb=>?_) (λhb=>?_)<;>(try simp only[BI,simprocAttr]at hb)<;>(try(exfalso;omega)))|(refine uN hK ?_;clear hK)|apply zI));refine uU zz (hc1 _) ?_;(try apply zI);refine uU zz (hc2 _) ?_;replace zz:=B6 g0 g3 hd hr k1 k2 yT yF;(repeat'(first|refine AI λK hK=>?_|refine uR zz ?_|refine uK ?_|(refine uC zz (λhb=>?_) (λhb=>?_)<;>(try simp only[BI,simprocAttr]at hb)<;>(try(exfalso;omega)))|(refine uN hK ?_;clear hK)|apply zI));replace zz:=AK g0 g3 hd hr k1 k2;refine uU zz (hc3 _) ?_;replace zz:=B6 g0 g3 hd hr k1 k2 yT yF;(repeat'(first|refine AI λK hK=>?_|refine uR zz ?_|refine uT zz ?_|(refine uN hK ?_;clear hK)|apply zI));first|exact(hg.new _).set hg.le _|exact⟨rfl,(hg.new _).set hg.le _⟩
       |true=>
        cases k3:decide (kind<=2)with
        |true=>
         rw[k3]at hinv;have k4:decide (2<kind)=false:=(by simp at k3⊢;omega);cases b4 with
         |false=>
          have hf:F=false:=(by rw[hinv];simp);subst hf;clear hinv;replace zz:=AK g0 g3 hd hr k1 k2;(repeat'(first|refine AI λK hK=>?_|refine uR zz ?_|refine uK ?_|(refine uC zz (λhb=>?_) (λhb=>?_)<;>(try simp only[BI,simprocAttr]at hb)<;>(try(exfalso;omega)))|(refine uN hK ?_;clear hK)|apply zI));refine uU zz (hc1 _) ?_;(try apply zI);refine uU zz (hc2 _) ?_;replace zz:=Aq g0 g3 hd hr k1 k2 yT yF k3 k4;(repeat'(first|refine AI λK hK=>?_|refine uR zz ?_|refine uK ?_|(refine uC zz (λhb=>?_) (λhb=>?_)<;>(try simp only[BI,simprocAttr]at hb)<;>(try(exfalso;omega)))|(refine uN hK ?_;clear hK)|apply zI));replace zz:=AK g0 g3 hd hr k1 k2;refine uU zz (hc3 _) ?_;replace zz:=Aq g0 g3 hd hr k1 k2 yT yF k3 k4;(repeat'(first|refine AI λK hK=>?_|refine uR zz ?_|refine uK ?_|(refine uC zz (λhb=>?_) (λhb=>?_)<;>(try simp only[BI,simprocAttr]at hb)<;>(try(exfalso;omega)))|(refine uN hK ?_;clear hK)|apply zI));replace zz:=B6 g0 g3 hd hr k1 k2 k3 k4;refine uU zz (hc4 _) ?_;replace zz:=Aq g0 g3 hd hr k1 k2 k3 k4 yT yF;(repeat'(first|refine AI λK hK=>?_|refine uR zz ?_|refine uT zz ?_|(refine uN hK ?_;clear hK)|apply zI));first|exact(hg.new _).set hg.le _|exact⟨rfl,(hg.new _).set hg.le _⟩
         |true=>
          simp only[Al,Ah,D2,CH]at hinv;replace zz:=AK g0 g3 hd hr k1 k2;(repeat'(first|refine AI λK hK=>?_|refine uR zz ?_|refine uK ?_|(refine uC zz (λhb=>?_) (λhb=>?_)<;>(try simp only[BI,simprocAttr]at hb)<;>(try(exfalso;omega)))|(refine uN hK ?_;clear hK)|apply zI));refine uU zz (hc1 _) ?_;(try apply zI);refine uU zz (hc2 _) ?_;replace zz:=Aq g0 g3 hd hr k1 k2 yT yF k3 k4;(repeat'(first|refine AI λK hK=>?_|refine uR zz ?_|refine uK ?_|(refine uC zz (λhb=>?_) (λhb=>?_)<;>(try simp only[BI,simprocAttr]at hb)<;>(try(exfalso;omega)))|(refine uN hK ?_;clear hK)|apply zI));replace zz:=AK g0 g3 hd hr k1 k2;refine uU zz (hc3 _) ?_;replace zz:=Aq g0 g3 hd hr k1 k2 yT yF k3 k4;(repeat'(first|refine AI λK hK=>?_|refine uR zz ?_|refine uK ?_|(refine uC zz (λhb=>?_) (λhb=>?_)<;>(try simp only[BI,simprocAttr]at hb)<;>(try(exfalso;omega)))|(refine uN hK ?_;clear hK)|apply zI));replace zz:=B6 g0 g3 hd hr k1 k2 k3 k4;refine uU zz (hc4 _) ?_;replace zz:=Cv g0 g3 hd hr k1 k2 k3 k4 w7 yT yF;(repeat'(first|refine Bl ?_|refine uR zz ?_|refine uK ?_|(refine uN hK ?_;clear hK)|apply zI));exact⟨l.length-(k+1),by omega,k+1,by simp,by omega,rfl,(hg.new _).set hg.le _,hinv.trans hF2.symm⟩
        |false=>
         rw[k3]at hinv;have k4:decide (2<kind)=true:=(by simp at k3⊢;omega);cases b5 with
         |false=>
          have hf:F=false:=(by rw[hinv];simp);subst hf;clear hinv;replace zz:=AK g0 g3 hd hr k1 k2;(repeat'(first|refine AI λK hK=>?_|refine uR zz ?_|refine uK ?_|(refine uC zz (λhb=>?_) (λhb=>?_)<;>(try simp only[BI,simprocAttr]at hb)<;>(try(exfalso;omega)))|(refine uN hK ?_;clear hK)|apply zI));refine uU zz (hc1 _) ?_;(try apply zI);refine uU zz (hc2 _) ?_;replace zz:=Aq g0 g3 hd hr k1 k2 yT yF k3 k4;(repeat'(first|refine AI λK hK=>?_|refine uR zz ?_|refine uK ?_|(refine uC zz (λhb=>?_) (λhb=>?_)<;>(try simp only[BI,simprocAttr]at hb)<;>(try(exfalso;omega)))|(refine uN hK ?_;clear hK)|apply zI));replace zz:=AK g0 g3 hd hr k1 k2;refine uU zz (hc3 _) ?_;replace zz:=Aq g0 g3 hd hr k1 k2 yT yF k3 k4;(repeat'(first|refine AI λK hK=>?_|refine uR zz ?_|refine uK ?_|(refine uC zz (λhb=>?_) (λhb=>?_)<;>(try simp only[BI,simprocAttr]at hb)<;>(try(exfalso;omega)))|(refine uN hK ?_;clear hK)|apply zI));replace zz:=B6 g0 g3 hd hr k1 k2 k3 k4;refine uU zz (hc5 _) ?_;replace zz:=Aq g0 g3 hd hr k1 k2 k3 k4 yT yF;(repeat'(first|refine AI λK hK=>?_|refine uR zz ?_|refine uT zz ?_|(refine uN hK ?_;clear hK)|apply zI));first|exact(hg.new _).set hg.le _|exact⟨rfl,(hg.new _).set hg.le _⟩
         |true=>
          simp only[Al,Ah,D2,CH]at hinv;replace zz:=AK g0 g3 hd hr k1 k2;(repeat'(first|refine AI λK hK=>?_|refine uR zz ?_|refine uK ?_|(refine uC zz (λhb=>?_) (λhb=>?_)<;>(try simp only[BI,simprocAttr]at hb)<;>(try(exfalso;omega)))|(refine uN hK ?_;clear hK)|apply zI));refine uU zz (hc1 _) ?_;(try apply zI);refine uU zz (hc2 _) ?_;replace zz:=Aq g0 g3 hd hr k1 k2 yT yF k3 k4;(repeat'(first|refine AI λK hK=>?_|refine uR zz ?_|refine uK ?_|(refine uC zz (λhb=>?_) (λhb=>?_)<;>(try simp only[BI,simprocAttr]at hb)<;>(try(exfalso;omega)))|(refine uN hK ?_;clear hK)|apply zI));replace zz:=AK g0 g3 hd hr k1 k2;refine uU zz (hc3 _) ?_;replace zz:=Aq g0 g3 hd hr k1 k2 yT yF k3 k4;(repeat'(first|refine AI λK hK=>?_|refine uR zz ?_|refine uK ?_|(refine uC zz (λhb=>?_) (λhb=>?_)<;>(try simp only[BI,simprocAttr]at hb)<;>(try(exfalso;omega)))|(refine uN hK ?_;clear hK)|apply zI));replace zz:=B6 g0 g3 hd hr k1 k2 k3 k4;refine uU zz (hc5 _) ?_;replace zz:=Cv g0 g3 hd hr k1 k2 k3 k4 w7 yT yF;(repeat'(first|refine Bl ?_|refine uR zz ?_|refine uK ?_|(refine uN hK ?_;clear hK)|apply zI));exact⟨l.length-(k+1),by omega,k+1,by simp,by omega,rfl,(hg.new _).set hg.le _,hinv.trans hF2.symm⟩
  ·have hd:decide ((k:Int)<(l.length:Int))=false:=(by simp;omega);rw[List.drop_eq_nil_of_le (by omega),List.all_nil]at hinv;replace zz:=AS g0 g3 hd hlen;(repeat'(first|refine AI λK hK=>?_|refine uR zz ?_|refine uT zz ?_|refine uX ?_|(refine uC zz (λhb=>?_) (λhb=>?_)<;>(try simp only[BI,simprocAttr]at hb)<;>(try(exfalso;omega)))|(refine uN hK ?_;clear hK)|(clear hK;refine uN hK ?_;clear hK)|apply zI));exact⟨by rw[hinv],hg⟩
theorem NN{h:A0}{s:ByteArray}:AA prog 103 [A1 s] h λr h'=>r= .agg (A5 s).cells/\h'=h:=by
 refine AA.frz Ty.RK ?_;refine AN func103 ntmps103 results103 Ty.RK ?_;refine wt A2 ?_;refine⟨?_,((AL.refl h).new _).set (AF _) _⟩;simp only[A5,Sx.cells,Sx.rows,AZ,B4];exact⟨_,rfl,rfl,rfl,rfl,rfl,rfl,.inr (.inl ⟨rfl,.inr rfl⟩),trivial⟩
theorem Lj{s:ByteArray}{l:List Sx}(hl:l.length<=1099511627776)(h:A0):AA prog 86 [A1 s,.imm 6 (Sx.rows l)] h λr h'=>r= .agg (AB (A5 s::l)).cells/\h'=h:=by
 refine AA.frz Ty.Mh ?_;have hll:=Sx.rows_len l;have hwd: ∀ (h:A0),AA prog 103 [A1 s] h λr h'=>r= .agg (A5 s).cells/\h'=h:=λh=>NN;simp only[A5,Sx.cells,Sx.rows]at hwd;have hbb:(1+l.length)*72<=140737488355328:=by omega
 have n1:(h.next=h.next+1+1)=False:=BF (by omega);refine uG (ow:=λt=>t==7) (wf:=λ_=>false) func86 ntmps86 results86 Ty.Mh ?_;refine wt A2 ?_;refine uU A2 (hwd _) ?_;replace zz:=AS hll hbb n1 @Ds;repeat'(first|refine cK ?_|refine nK ?_|refine uT zz ?_|(refine uN hK ?_;clear hK)|(rw[AH];rotate_left 1;omega;simp only[Ty.w,simprocAttr,hll,hbb,n1,Ds])|apply zI)
 refine⟨?_,(((((AL.refl h).new _).new _).kill (show h.next<=h.next+1 by omega)).new _).set (AF _) _⟩;simp only[AB,Sx.cells,AZ,B4];refine⟨_,rfl,rfl,rfl,rfl,rfl,rfl,.inr (.inr ⟨h.next+1+1,0,1+l.length,Sx.rows (A5 s::l),rfl,by omega,?_,?_,?_⟩),trivial⟩
 ·rw [Ar (by omega)];simp only[A0.new,A0.kill,AC,Sx.rows,A5,Sx.cells]
 ·rw [Sx.rows_len];simp;omega
 ·rw [List.drop_zero,List.take_of_length_le (by rw[Sx.rows_len];simp;omega)];exact Ff _ _ _
def Cz(f:Fm):Bool:=match f with| .mk op _ _ _ _ kids=>A3 op C5&&(((Fm.rows kids).length:Int)==0)
theorem Lk(f:Fm)(h:A0):AA prog 106 [.agg f.cells] h λr h'=>r= .sc (.bool (Cz f))/\h'=h:=by
 refine AA.quiet Ty.OI ?_;obtain⟨gop,gna,gar,gpa,gex,gki⟩:=f;simp only[Fm.cells,Cz];have e0:A3 gop C5=(gop.data.toList==[97,110,100]):=rfl;rw[e0];cases e1:(gop.data.toList==[97,110,100])with
 |false=>
  refine AN func106 ntmps106 results106 Ty.OI ?_;refine wm e1 ?_;try exact zI
  all_goals first|exact AL.refl _|exact⟨rfl,AL.refl _⟩
 |true=>
  refine AN func106 ntmps106 results106 Ty.OI ?_;refine wm e1 ?_;try exact zI
  all_goals first|exact AL.refl _|exact⟨rfl,AL.refl _⟩
def FG(c:Ch):Sx:=bif c.kind==2 then AB [A5 E8,Aa (DV c)]else bif c.kind==3 then AB [A5 Ip,Aa (DV c),Am c.value]else bif c.kind==4 then AB [A5 Iq,Aa (DV c),Am c.value]else bif c.kind==5 then AB [A5 Ir,Aa (DV c),Am c.value]else Aa (DV c)
def G9(c:Ch):Sx:=bif Cz c.cond then FG c else AB [A5 I9,Aa c.cond,FG c]
def D0(c:Ch):Sx:=bif c.params.isEmpty then G9 c else AB [A5 DJ,AB (AG c.params),G9 c]
theorem NO(n:Nat)(H:A0)(X:Sx):AZ n H (.agg X.cells) (.agg X.cells):=by
 obtain⟨k,v,l,c,t,ks⟩:=X;simp only[Sx.cells,AZ,B4];exact⟨_,rfl,rfl,rfl,rfl,rfl,rfl,.inl ⟨rfl,Fe _ _⟩,trivial⟩
structure KW(h:A0)(X:Sx)(H:A0):Prop where
 grow:AL h H
 nx:h.next+1<H.next
 res:H.obj h.next=some (.arr 6 [[.sc (.int .i64 0),.sc (.int .i64 0),.sc (.int .i64 0),.sc (.int .i64 0),.sc (.string ⟨#[]⟩),.sc (.slice none 0 0)]])
 at_:H.obj (h.next+1)=some (.arr 6 [X.cells])
theorem KW.put{h H:A0}{X Y:Sx}(i:KW h X H):KW h Y (H.set (h.next+1) (.arr 6 [Y.cells])):=
 ⟨i.grow.set (by omega) _,i.nx,by simp only[A0.set];rw[A4 (by omega)];exact i.res,by simp only[A0.set,AC]⟩
theorem PS{c:Ch}(hR:DX c=true)(hok:c.ok)(hcs:c.cond.small)(hvs:c.value.small)(hal:c.args.length<=1048576)(hpl:c.params.length<=1048576)(h:A0):AA prog 85 [.agg (Df c)] h λr h'=>r= .agg (D0 c).cells/\h'=h:=by
 refine AA.frz Ty.RF ?_;simp only[DX,AT,DF]at hR;obtain⟨k1,k2,r3,r4,r5,r6⟩:=hR;have hat:=λh:A0=>AA.nz (KR (DV c) ⟨hal,by simp,trivial,by simp,trivial⟩ r5 h) (xs:=[.agg [A1 BH,A1 c.name,.imm 1 (AP c.args),.sc (.slice none 0 0),.sc (.slice none 0 0),.sc (.slice none 0 0)]]) (Cj (N2 (Cj (Nz.refl _) (Cj (Nz.refl _) (Cj (Nz.refl _) (Cj Hy (Cj Hy (Cj Hy (CA.refl _)))))))) (CA.refl _));have hcw:=λh:A0=>KR c.cond hcs r4 h;have htr:=λh:A0=>Lk c.cond h;have hex:decide (c.kind<=2)=false-> ∀ h:A0,AA prog 82 [.agg c.value.cells] h λr h'=>r= .agg (Am c.value).cells/\h'=h:=λhk h=>JV c.value hvs (by rw[hk]at r6;exact r6) h;have hwp:=λh:A0=>NI (l:=c.params) hpl h;have hl2:=λ(s:ByteArray)(X:Sx)(h:A0)=>Lj (s:=s) (l:=[X]) (by simp) h;have hl3:=λ(s:ByteArray)(X Y:Sx)(h:A0)=>Lj (s:=s) (l:=[X,Y]) (by simp) h;generalize hF:D0 c=F;unfold D0 at hF;unfold G9 at hF
 clear r3 r4 r5 r6 hok hcs hvs hal;generalize Aa c.cond=X2 at hcw hF;have hc1:FG c=bif c.kind==2 then AB [A5 E8,Aa (DV c)]else bif c.kind==3 then AB [A5 Ip,Aa (DV c),Am c.value]else bif c.kind==4 then AB [A5 Iq,Aa (DV c),Am c.value]else bif c.kind==5 then AB [A5 Ir,Aa (DV c),Am c.value]else Aa (DV c):=rfl
 generalize FG c=X1 at hF hc1;generalize Aa (DV c)=X0 at hat hc1;generalize Am c.value=E at hex hc1;generalize AG c.params=L at*;generalize Cz c.cond=tb at*;have hpe:decide ((0:Int)<((A7 c.params).length:Int))=!c.params.isEmpty:=by
  cases c.params<;>simp[A7]<;>omega
 generalize c.params.isEmpty=pe at hF hpe;obtain⟨kind,P,⟨gop,gna,gar,gpa,gex,gki⟩,nm,aa,⟨eop,ena,en,ear,eki⟩⟩:=c;simp only at hc1 k1 k2 hex hwp hat hpe;simp only[Fm.cells,Ex.cells,BH,A1]at hcw htr hex hat;simp only[Df,Fm.cells,Ex.cells,List.cons_append,List.nil_append];generalize A7 P=PR at*;obtain⟨ek,ev,el,ec,et,es⟩:=E;obtain⟨ck,cv,cl,cc,ct,cs⟩:=X2;obtain⟨ak,av,al,ac,at_,as_⟩:=X0;simp only[Sx.cells]at hcw hex hat;refine uG (ow:=λt=>t==3) (wf:=λ_=>false) func85 ntmps85 results85 Ty.RF ?_;refine xG 2 A2 ?_;refine uU A2 (hat _) ?_;refine xG 2 A2 ?_;refine⟨?_⟩;refine C6 (λS H=>S 1= .cptr [.sc (.int .i64 kind),.imm 2 PR,A1 gop,A1 gna,.imm 1 (AP gar),.imm 2 (A7 gpa),.imm 5 (Ex.rows gex),.imm 6 (Fm.rows gki),A1 nm,.imm 1 (AP aa),A1 eop,A1 ena,.sc (.int .i64 en),.imm 1 (AP ear),.imm 5 (Ex.rows eki)]/\S 2= .ptr h.next 0 0/\S 3= .ptr (h.next+1) 0 0/\KW h (.mk ak av al ac at_ as_) H) ⟨sq A2,sq A2,sq A2,⟨(((AL.refl h).new _).new _).set (by omega) _,by simp[A0.new,A0.set],by simp[A0.new,A0.set],by simp[A0.new,A0.set,Sx.cells]⟩⟩ ?_
 clear hat;rintro S H ⟨s1,s2,s3,hI⟩;refine JR (λS H=>S 1= .cptr [.sc (.int .i64 kind),.imm 2 PR,A1 gop,A1 gna,.imm 1 (AP gar),.imm 2 (A7 gpa),.imm 5 (Ex.rows gex),.imm 6 (Fm.rows gki),A1 nm,.imm 1 (AP aa),A1 eop,A1 ena,.sc (.int .i64 en),.imm 1 (AP ear),.imm 5 (Ex.rows eki)]/\S 2= .ptr h.next 0 0/\S 3= .ptr (h.next+1) 0 0/\KW h X1 H) ?_ ?_
 ·have hat2:=hI.at_;simp only[Sx.cells]at hat2;try clear hK
  clear hcw htr hwp hF hpe;cases q2:(kind==2)with
  |true=>
   simp only[q2,D2,CH]at hc1;subst hc1;have hq:=hl2 E8 (.mk ak av al ac at_ as_);simp only[A5,E8,AB,Sx.cells,Sx.rows]at hq;replace zz:=AV s1 s2 s3 hat2 q2;refine wy zz ?_;replace zz:=AV s1 s2 s3 hat2 q2;refine uU zz (hq _) ?_;refine wy zz ?_;first|exact hI.put|exact⟨sq s1,sq s2,sq s3,hI.put⟩
  |false=>
   simp only[q2,CH]at hc1;cases q3:(kind==3)with
   |true=>
    simp only[q3,D2,CH]at hc1;subst hc1;have hq:=hl3 Ip (.mk ak av al ac at_ as_) (.mk ek ev el ec et es);have hex:=hex (by simp at q3⊢;omega);simp only[A5,Ip,AB,Sx.cells,Sx.rows]at hq;replace zz:=AK s1 s2 s3 hat2 q2 q3;refine wy zz ?_;replace zz:=AK s1 s2 s3 hat2 q2 q3;(first|refine uV zz (hex _) ?_|refine uA zz (hex _) ?_);refine wy zz ?_;replace zz:=AK s1 s2 s3 hat2 q2 q3;(first|refine uV zz (hq _) ?_|refine uA zz (hq _) ?_);refine wy zz ?_;first|exact hI.put|exact⟨sq s1,sq s2,sq s3,hI.put⟩
   |false=>
    simp only[q3,CH]at hc1;cases q4:(kind==4)with
    |true=>
     simp only[q4,D2,CH]at hc1;subst hc1;have hq:=hl3 Iq (.mk ak av al ac at_ as_) (.mk ek ev el ec et es);have hex:=hex (by simp at q4⊢;omega);simp only[A5,Iq,AB,Sx.cells,Sx.rows]at hq;replace zz:=AY s1 s2 s3 hat2 q2 q3 q4;refine wy zz ?_;replace zz:=AY s1 s2 s3 hat2 q2 q3 q4;(first|refine uV zz (hex _) ?_|refine uA zz (hex _) ?_);refine wy zz ?_;replace zz:=AY s1 s2 s3 hat2 q2 q3 q4;(first|refine uV zz (hq _) ?_|refine uA zz (hq _) ?_);refine wy zz ?_;first|exact hI.put|exact⟨sq s1,sq s2,sq s3,hI.put⟩
    |false=>
     simp only[q4,CH]at hc1;cases q5:(kind==5)with
     |true=>
      simp only[q5,D2,CH]at hc1;subst hc1;have hq:=hl3 Ir (.mk ak av al ac at_ as_) (.mk ek ev el ec et es);have hex:=hex (by simp at q5⊢;omega);simp only[A5,Ir,AB,Sx.cells,Sx.rows]at hq;replace zz:=B6 s1 s2 s3 hat2 q2 q3 q4 q5;refine wy zz ?_;replace zz:=B6 s1 s2 s3 hat2 q2 q3 q4 q5;(first|refine uV zz (hex _) ?_|refine uA zz (hex _) ?_);refine wy zz ?_;replace zz:=B6 s1 s2 s3 hat2 q2 q3 q4 q5;(first|refine uV zz (hq _) ?_|refine uA zz (hq _) ?_);refine wy zz ?_;first|exact hI.put|exact⟨sq s1,sq s2,sq s3,hI.put⟩
     |false=>
      simp only[q5,CH]at hc1;subst hc1;replace zz:=B6 s1 s2 s3 hat2 q2 q3 q4 q5;refine wy zz ?_;first|exact hI|exact⟨sq s1,sq s2,sq s3,hI⟩
 ·clear s1 s2 s3 hI hc1 hex hl2;rintro S H ⟨s1,s2,s3,hI⟩;first|refine hK _ _ ?_|refine cK ?_
  try clear hK
  obtain⟨xk,xv,xl,xc,xt,xs⟩:=X1;refine xG 11 (Aj s1 s2 s3) ?_;refine⟨?_⟩;refine JR (λS H=>S 1= .cptr [.sc (.int .i64 kind),.imm 2 PR,A1 gop,A1 gna,.imm 1 (AP gar),.imm 2 (A7 gpa),.imm 5 (Ex.rows gex),.imm 6 (Fm.rows gki),A1 nm,.imm 1 (AP aa),A1 eop,A1 ena,.sc (.int .i64 en),.imm 1 (AP ear),.imm 5 (Ex.rows eki)]/\S 2= .ptr h.next 0 0/\S 3= .ptr (h.next+1) 0 0/\KW h (bif tb then(Sx.mk xk xv xl xc xt xs)else AB [A5 I9,(.mk ck cv cl cc ct cs),.mk xk xv xl xc xt xs]) H) ?_ ?_
  ·have hat2:=hI.at_;simp only[Sx.cells]at hat2;cases tb with
   |true=>
    simp only[D2];replace zz:=AS s1 s2 s3 hat2;refine wy zz ?_;replace zz:=AS s1 s2 s3 hat2;refine uU zz (htr _) ?_;replace zz:=AV s1 s2 s3 hat2 yT;refine wy zz ?_;first|exact hI|exact⟨sq s1,sq s2,sq s3,hI⟩
   |false=>
    simp only[CH];have hq:=hl3 I9 (.mk ck cv cl cc ct cs) (.mk xk xv xl xc xt xs);simp only[A5,I9,AB,Sx.cells,Sx.rows]at hq;replace zz:=AS s1 s2 s3 hat2;refine wy zz ?_;replace zz:=AS s1 s2 s3 hat2;refine uU zz (htr _) ?_;replace zz:=AV s1 s2 s3 hat2 yF;refine wy zz ?_;replace zz:=AS s1 s2 s3 hat2;(first|refine uV zz (hcw _) ?_|refine uA zz (hcw _) ?_);refine wy zz ?_;replace zz:=AS s1 s2 s3 hat2;(first|refine uV zz (hq _) ?_|refine uA zz (hq _) ?_);refine wy zz ?_;first|exact hI.put|exact⟨sq s1,sq s2,sq s3,hI.put⟩
  ·clear s1 s2 s3 hI;rintro S H ⟨s1,s2,s3,hI⟩;(first|refine hK _ _ ?_|refine cK ?_);(try clear hK);generalize(bif tb then Sx.mk xk xv xl xc xt xs else AB [A5 I9,(.mk ck cv cl cc ct cs),.mk xk xv xl xc xt xs])=Y at hI hF;obtain⟨yk,yv,yl,yc,yt,ys⟩:=Y;have hat2:=hI.at_;have hre:=hI.res;have hgr:=hI.grow;have hnx:=hI.nx;simp only[Sx.cells]at hat2;have n1:(h.next+1=h.next)=False:=BF (by omega);have n2:(h.next=h.next+1)=False:=BF (by omega);cases pe with
   |true=>
    simp only[D2]at hF;subst hF;replace zz:=BR s1 s2 s3 hat2 hre hpe yT n1 n2;refine wy zz ?_;exact⟨NO _ _ _,hgr.set (AF _) _⟩
   |false=>
    simp only[CH]at hF;subst hF;have hq:=hl3 DJ (AB L) (.mk yk yv yl yc yt ys);simp only[A5,DJ,AB,Sx.cells,Sx.rows]at hq;replace zz:=BR s1 s2 s3 hat2 hre hpe yF n1 n2;refine wy zz ?_;replace zz:=B6 s1 s2 s3 hat2 hre hpe n1 n2;(first|refine uV zz (hwp _) ?_|refine uA zz (hwp _) ?_);refine wy zz ?_;replace zz:=B6 s1 s2 s3 hat2 hre hpe n1 n2;(first|refine uV zz (hq _) ?_|refine uA zz (hq _) ?_);refine wy zz ?_;exact⟨NO _ _ (AB [A5 DJ,AB L,.mk yk yv yl yc yt ys]),(hgr.set (by omega) _).set (AF _) _⟩
def D1(l:List Ch):Sx:=bif l.isEmpty then AB []else AB (A5 C5::l.map D0)
theorem PT{l:List Ch}(hl:l.length<=1048576)(hs: ∀ c∈l, ∀ h:A0,AA prog 85 [.agg (Df c)] h λr h'=>r= .agg (D0 c).cells/\h'=h)(h:A0):
  AA prog 35 [.imm 15 (Ay l)] h λr h'=>r= .agg (D1 l).cells/\h'=h:=by
 refine AA.frz Ty.OB ?_;have hlen:=HG l;cases q:((l.length:Int)==0)with
 |true=>
  have e:l=[]:=by
   cases l with
   |nil=>rfl
   |cons c l=>simp only[List.length_cons,DZ]at q;omega
  subst e;simp only[List.length_nil]at hlen;have hx:D1 []=AB []:=rfl;rw[hx]
  clear hs;have q:((0:Int)==0)=true:=rfl;refine AN func35 ntmps35 results35 Ty.OB ?_;replace zz:=uu hlen q;repeat'(first|refine AI λK hK=>?_|refine uR zz ?_|refine uT zz ?_|(refine uN hK ?_;clear hK)|apply zI)
  refine⟨?_,((AL.refl h).new _).set (AF _) _⟩;simp only[AB,Sx.cells,Sx.rows,AZ,B4];exact⟨_,rfl,rfl,rfl,rfl,rfl,rfl,.inr (.inl ⟨rfl,.inr rfl⟩),trivial⟩
 |false=>
  have hne:l.isEmpty=false:=by
   cases l with
   |nil=>simp at q
   |cons c l=>rfl
  have hx:D1 l=AB (A5 C5::l.map D0):=by unfold D1;rw[hne];try rfl
  rw[hx];refine AN func35 ntmps35 results35 Ty.OB ?_;replace zz:=uu hlen q;repeat'(first|refine AI λK hK=>?_|refine Bl ?_|refine uR zz ?_|refine uK ?_|(refine uC zz (λhb=>?_) (λhb=>?_)<;>(try simp only[BI,simprocAttr]at hb)<;>(try(exfalso;omega)))|(refine uN hK ?_;clear hK)|apply zI)
  refine BV (λm S H=>S 0= .imm 15 (Ay l)/\S 2= .ptr h.next 0 0/\ ∃ (k:Nat)(p:PV),S 4= .sc (.int .i64 k)/\S 3=p/\k<=l.length/\m=l.length-k/\AL h H/\h.next+1<=H.next/\H.obj h.next=some (.arr 6 [[.sc (.int .i64 0),.sc (.int .i64 0),.sc (.int .i64 0),.sc (.int .i64 0),.sc (.string ⟨#[]⟩),.sc (.slice none 0 0)]])/\Tl H (h.next+1) 6 p (Sx.rows ((l.take k).map D0))) l.length ?_ ?_
  ·simp only[Ty.w,simprocAttr];first
    |exact⟨0,_,rfl,rfl,by omega,rfl,(AL.refl h).new _,by simp[A0.new],by simp[A0.new],Tl.nil⟩
    |exact⟨0,_,rfl,rfl,by omega,rfl,(AL.refl h).new _,by simp[A0.new],Tl.nil⟩
  ·rintro m S H ⟨g0,g2,k,p,g4,g3,hk,rfl,hg,hnx,hre,tl⟩;by_cases hlt:k<l.length
   ·have hd:decide ((k:Int)<(l.length:Int))=true:=(by simp;omega);have w7:IntKind.i64.wrap ((k:Int)+1)=k+1:=(by rw[B9 (by omega) (by omega)]);obtain⟨c,hx⟩: ∃ c,l[k]? =some c:=⟨_,List.getElem?_eq_getElem hlt⟩;have hr:=MX hx;have hc:=hs c (List.mem_of_getElem? hx);have htk:Sx.rows ((l.take (k+1)).map D0)=Sx.rows ((l.take k).map D0)++[(D0 c).cells]:=(by rw[List.take_add_one,hx];simp[Sx.rows_map]);have hpr:(Sx.rows ((l.take k).map D0)).length=k:=(by rw[Sx.rows_len,List.length_map,List.length_take];omega);generalize D0 c=X at hc htk;generalize Sx.rows ((l.take k).map D0)=R at tl htk hpr;clear hs;obtain⟨kind,P,⟨gop,gna,gar,gpa,gex,gki⟩,nm,aa,⟨eop,ena,en,ear,eki⟩⟩:=c;simp only[Df,Fm.cells,Ex.cells,List.cons_append,List.nil_append]at hr hc;obtain⟨xk,xv,xl,xc,xt,xs⟩:=X;simp only[Sx.cells]at hc htk;obtain⟨Hk,t1,t2,t3,t4,t5⟩:=tl.tail;have hb:(k+1)*72<=140737488355328:=(by omega);replace zz:=AK g0 g2 g3 g4 hd hr;(repeat'(first|refine AI λK hK=>?_|refine Bl ?_|refine uR zz ?_|refine uQ zz λK hK=>?_|refine uK ?_|(refine uC zz (λhb=>?_) (λhb=>?_)<;>(try simp only[BI,simprocAttr]at hb)<;>(try(exfalso;omega)))|(refine uN hK ?_;clear hK)|apply zI));replace zz:=AV g0 g2 g3 g4 hr;refine uU zz (hc _) ?_;replace zz:=BR g0 g2 g3 g4 w7 t1 t2 hpr hb;(repeat'(first|refine uR zz ?_|(refine uN hK ?_;clear hK)|(rw[AH];rotate_left 1;omega;simp only[Ty.w,simprocAttr,g0,g2,g3,g4,w7,t1,t2,hpr,hb])|apply zI));have hkp:=t5 h ⟨hg.le,hg.old⟩ (by omega);have hgk:AL h Hk:=⟨hkp.1,hkp.2⟩;rw[← htk];refine⟨l.length-(k+1),by omega,k+1,.own Hk.next 0 (k+1),by simp,by rw[t3],by omega,rfl,hgk.new _,by first|omega|(simp only[A0.new];omega),?_,Tl.grow (by omega) (by rw[htk];simp[hpr])⟩;(try simp only[A0.new]);rw[A4 (by omega),t4 _ (by omega)];exact hre
   ·have hd:decide ((k:Int)<(l.length:Int))=false:=(by simp;omega);have hke:k=l.length:=(by omega);rw[hke,List.take_length]at tl;have hq:=λh:A0=>Lj (s:=C5) (l:=l.map D0) (by rw[List.length_map];omega) h;clear hx;generalize hL:l.map D0=L at tl hq;simp only[AB,Sx.cells,C5,A1]at hq;generalize hLa:A5 ⟨#[97,110,100]⟩::L=L2 at hq;generalize hL2:Sx.rows L2=R2 at hq;replace zz:=AV g0 g2 g3 g4 hd;(repeat'(first|with_reducible refine Zb 8 ?_|refine AI λK hK=>?_|refine uR zz ?_|refine uX ?_|(refine uC zz (λhb=>?_) (λhb=>?_)<;>(try simp only[BI,simprocAttr]at hb)<;>(try(exfalso;omega)))|(refine uN hK ?_;clear hK)|(clear hK;refine uN hK ?_;clear hK)|apply zI));refine⟨?_⟩;refine JK (h.next+1) [(3,.imm 6 (Sx.rows L))] rfl hnx ?_ ?_
    ·intro x hx;simp only[List.mem_cons,List.not_mem_nil,DO]at hx;subst hx;have g3b:S 3=p:=g3;simp only[Ty.w,simprocAttr,g3];exact JT tl
    refine C6 (λS H=>S 2= .ptr h.next 0 0/\S 3= .imm 6 (Sx.rows L)/\AL h H/\H.obj h.next=some (.arr 6 [[.sc (.int .i64 0),.sc (.int .i64 0),.sc (.int .i64 0),.sc (.int .i64 0),.sc (.string ⟨#[]⟩),.sc (.slice none 0 0)]])) ⟨by simp only[Co,Ty.w,simprocAttr,g2],by simp only[Co,Ty.w,simprocAttr],⟨hg.le,λj hj=>by simp only[DI];rw[AH (by omega)];exact hg.old j hj⟩,by simp only[DI];rw[AH (by omega)];exact hre⟩ ?_;clear g0 g2 g3 g4 tl hg hnx hre hd hs;rintro S H ⟨g2,g3,hg,hre⟩;(repeat'(first|refine AI λK hK=>?_|refine uR (Aj g2 g3 hre) ?_|apply zI));refine uU (Aj g2 g3 hre) (hq _) ?_;(repeat'(first|refine uT (Aj g2 g3 hre) ?_|(refine uN hK ?_;clear hK)|apply zI));rw[hL];subst hL2;subst hLa;exact⟨NO _ _ (AB (A5 C5::L)),hg.set (AF _) _⟩
theorem PU{n:Nat}{H:A0}{p q:PV}(h:AZ n H p q)(b:Bool):AZ n H (.tup [p,.sc (.bool b)]) (.tup [q,.sc (.bool b)]):=by
 unfold AZ;refine⟨_,rfl,?_⟩;unfold B4;refine⟨h,?_⟩;unfold B4;exact⟨by simp only[AZ],by simp only[B4]⟩
def PW(l:List Ch):Bool:=l.all DX&&(Ci (D1 l) 0 0).1
theorem NP{h:A0}{n:Int}:AA prog 104 [.sc (.int .i64 n)] h λr h'=>r= .agg (BN n).cells/\h'=h:=by
 refine AA.frz Ty.RL ?_;refine AN func104 ntmps104 results104 Ty.RL ?_;refine wt A2 ?_;refine⟨?_,((AL.refl h).new _).set (AF _) _⟩;simp only[BN,Sx.cells,Sx.rows,AZ,B4];exact⟨_,rfl,rfl,rfl,rfl,rfl,rfl,.inr (.inl ⟨rfl,.inr rfl⟩),trivial⟩
def FH(n:Int):Bool:=decide (n>= -1099511627776)&&decide (n<=1099511627776)
theorem NQ{h:A0}{n:Int}:AA prog 102 [.sc (.int .i64 n)] h λr h'=>r= .sc (.bool (FH n))/\h'=h:=by
 unfold FH;cases q1:decide (n>= -1099511627776)with
 |false=>
  refine AN func102 ntmps102 results102 Ty.OH ?_;repeat'(first|refine AI λK hK=>?_|((first|refine Bp ?_|refine Ea ?_);simp only[Ty.w,simprocAttr,q1,Ai])|(refine hK _ _ ?_;clear hK;(try simp only[B2,simprocAttr])))
  all_goals(try simp)
 |true=>
  cases q2:decide (n<=1099511627776)with
  |false=>
   refine AN func102 ntmps102 results102 Ty.OH ?_;(repeat'(first|refine AI λK hK=>?_|((first|refine Bp ?_|refine Ea ?_);simp only[Ty.w,simprocAttr,q1,q2,Ah])|(refine hK _ _ ?_;clear hK;(try simp only[B2,simprocAttr]))));all_goals(try simp)
  |true=>
   refine AN func102 ntmps102 results102 Ty.OH ?_;(repeat'(first|refine AI λK hK=>?_|((first|refine Bp ?_|refine Ea ?_);simp only[Ty.w,simprocAttr,q1,q2,Ah])|(refine hK _ _ ?_;clear hK;(try simp only[B2,simprocAttr]))));all_goals(try simp)
theorem PX{s:ByteArray}{l:List Sx}{j:Nat}(hl:l.length<=1099511627776){h:A0}(hj:h.obj j=some (.arr 6 (Sx.rows l)))(hjl:j<h.next):AA prog 86 [A1 s,.own j 0 l.length] h λr h'=>r= .agg (AB (A5 s::l)).cells/\h'=h:=by
 refine AA.frz Ty.Mh ?_;have hll:=Sx.rows_len l;have hwd: ∀ (h:A0),AA prog 103 [A1 s] h λr h'=>r= .agg (A5 s).cells/\h'=h:=λh=>NN;simp only[A5,Sx.cells,Sx.rows]at hwd;have hbb:(1+l.length)*72<=140737488355328:=by omega
 have htk:List.take l.length (Sx.rows l)=Sx.rows l:=List.take_of_length_le (by omega);have n1:(h.next=h.next+1+1)=False:=BF (by omega);have n2:(j=h.next)=False:=BF (by omega);have n3:(j=h.next+1)=False:=BF (by omega);refine uG (ow:=λt=>t==7) (wf:=λ_=>false) func86 ntmps86 results86 Ty.Mh ?_;refine wt A2 ?_;replace zz:=BR hll hbb htk n1 n2 n3 hj @Ds @AF;refine uU zz (hwd _) ?_;refine wt zz ?_;refine⟨?_,(((((AL.refl h).new _).new _).kill (show h.next<=h.next+1 by omega)).new _).set (AF _) _⟩;simp only[AB,Sx.cells,AZ,B4];refine⟨_,rfl,rfl,rfl,rfl,rfl,rfl,.inr (.inr ⟨h.next+1+1,0,1+l.length,Sx.rows (A5 s::l),rfl,by omega,?_,?_,?_⟩),trivial⟩
 ·rw [Ar (by omega)];simp only[A0.new,A0.kill,AC,Sx.rows,A5,Sx.cells]
 ·rw [Sx.rows_len];simp;omega
 ·rw [List.drop_zero,List.take_of_length_le (by rw[Sx.rows_len];simp;omega)];exact Ff _ _ _
def EY(h:A0)(j:Nat)(L:List Sx):A0:=⟨h.next+1,λi=>if i=h.next then some (.arr 6 (Sx.rows L))else if i=j then none else h.obj i⟩
theorem Gy{h:A0}{j:Nat}{L:List Sx}{kw:ByteArray}{v:Sx}{m:Bool}(hj:h.obj j=some (.arr 6 (Sx.rows L)))(hL:L.length<=1048576):
  AA prog 105 [.own j 0 L.length,.sc (.bool m),A1 kw,.agg v.cells] h λr h'=>r=(if m=true then .own j 0 L.length else .own h.next 0 (L.length+2))/\h'=(if m=true then h else EY h j (L++[A5 kw,v])):=by
 have hw: ∀ (s:ByteArray)(h:A0),AA prog 103 [A1 s] h λr h'=>r= .agg (A5 s).cells/\h'=h:=λs h=>NN;simp only[A5,Sx.cells,Sx.rows]at hw;have hRL:Sx.rows (L++[A5 kw,v])=Sx.rows L++[[.sc (.int .i64 1),.sc (.int .i64 0),.sc (.int .i64 0),.sc (.int .i64 0),A1 kw,.imm 6 []],v.cells]:=by simp[Sx.rows_map,A5,Sx.cells,Sx.rows]
 have hH: ∀ H:A0,H=(h.kill j).new (.arr 6 (Sx.rows (L++[A5 kw,v])))->H=EY h j (L++[A5 kw,v]):=λH e=>by rw[e];try rfl
 rw[hRL]at hH;generalize EY h j (L++[A5 kw,v])=HH at hH⊢;obtain⟨vk,vv,vl,vc,vt,vs⟩:=v;simp only[Sx.cells]at hH⊢;cases m with
 |true=>
  refine AN func105 ntmps105 results105 Ty.RM ?_;refine wm A2 ?_;try exact zI
  all_goals(try simp only[AC])
  all_goals(try exact⟨trivial,trivial⟩)
 |false=>
  have hrl:(Sx.rows L).length=L.length:=Sx.rows_len L;have hb2:(L.length+2)*72<=140737488355328:=by omega
  have htk:List.take L.length (Sx.rows L)=Sx.rows L:=List.take_of_length_le (by omega);refine AN func105 ntmps105 results105 Ty.RM ?_;replace zz:=AS hj hrl htk hb2;refine wy zz ?_;replace zz:=AV hj hrl htk hb2 @AF;first|refine uV zz (hw kw _) ?_|refine Mn zz (hw kw _) ?_
  refine wo zz ?_;try exact zI
  all_goals first|exact hH _ rfl|(rw[A4 (by simp)];exact hH _ rfl)
def Hb(h:A0)(l:List Pm):A0:=bif l.isEmpty then h else⟨h.next+l.length,λi=>if i=h.next+(l.length-1)then some (.arr 6 (Sx.rows (AG l)))else h.obj i⟩
def IF(h:A0)(l:List Pm):PV:=bif l.isEmpty then .sc (.slice none 0 0)else .own (h.next+(l.length-1)) 0 (3*l.length)
theorem TR{h:A0}(hno: ∀ i,h.next<=i->h.obj i=none): ∀ l:List Pm,Db (Hb h l) (IF h l)=some (⟨h.next+l.length,h.obj⟩,Sx.rows (AG l))/\CP (Hb h l) 6 (IF h l)=true
 |[]=>by
  refine⟨?_,rfl⟩;show some (h,([]:List (List PV)))=_;cases h;rfl
 |p::l=>by
  have e1:Hb h (p::l)=⟨h.next+(p::l).length,λi=>if i=h.next+((p::l).length-1)then some (.arr 6 (Sx.rows (AG (p::l))))else h.obj i⟩:=rfl;have e2:IF h (p::l)= .own (h.next+((p::l).length-1)) 0 (3*(p::l).length):=rfl;rw[e1,e2];have hl:(Sx.rows (AG (p::l))).length=3*(p::l).length:=by rw[Sx.rows_len,D9]
  generalize Sx.rows (AG (p::l))=R at hl⊢;generalize(p::l).length=n at hl⊢;refine⟨?_,by simp[CP]⟩;simp only[Db,AC,Bb,hl,AF,List.drop_zero];rw[List.take_of_length_le (by omega)];congr 2;simp only[A0.kill];congr 1;funext i;by_cases hi:i=h.next+(n-1)
  ·subst hi;rw[AH rfl];exact(hno _ (by omega)).symm
  ·rw [A4 hi,A4 hi]
theorem TS(h:A0): ∀ l:List Pm,(Hb h l).next=h.next+l.length
 |[]=>rfl
 |_::_=>rfl
theorem cC{h:A0}{l:List Pm}{k:Nat}(hk:k<l.length):(A0.new ⟨h.next+k,h.obj⟩ (.arr 6 (Sx.rows (AG (l.take (k+1))))))=Hb h (l.take (k+1))/\PV.own (h.next+k) 0 (3*k+3)=IF h (l.take (k+1)):=by
 have hl:(l.take (k+1)).length=k+1:=by rw[List.length_take];omega
 have he:(l.take (k+1)).isEmpty=false:=by
  cases q:(l.take (k+1))with
  |nil=>rw[q]at hl;simp at hl
  |cons a l=>rfl
 unfold Hb IF;rw[he,hl];exact⟨rfl,rfl⟩
theorem cF{l:List Pm}(hl:l.length<=1048576)(h:A0)(hno: ∀ i,h.next<=i->h.obj i=none):AA prog 30 [.imm 2 (A7 l)] h λr h'=>r=IF h l/\h'=Hb h l:=by
 have hll:=EX l;have hw: ∀ (s:ByteArray)(h:A0),AA prog 79 [A1 s] h λr h'=>r= .agg (A5 s).cells/\h'=h:=λs h=>Ig;simp only[A5,Sx.cells,Sx.rows]at hw;refine AN func30 ntmps30 results30 Ty.O9 ?_;refine wt hll ?_;refine BV (λm S h'=>S 0= .imm 2 (A7 l)/\ ∃ (k:Nat),S 4= .sc (.int .i64 k)/\S 3=IF h (l.take k)/\k<=l.length/\m=l.length-k/\h'=Hb h (l.take k)) l.length ?_ ?_
 ·simp only[Ty.w,simprocAttr];refine⟨0,rfl,?_,by omega,rfl,?_⟩
  ·rw [List.take_zero];try rfl
  ·rw [List.take_zero];try rfl
 ·rintro m S h' ⟨g0,k,g4,g3,hk,rfl,hh⟩;by_cases hlt:k<l.length
  ·have hd:decide ((k:Int)<(l.length:Int))=true:=(by simp;omega);have w7:IntKind.i64.wrap ((k:Int)+1)=k+1:=(by rw[B9 (by omega) (by omega)]);obtain⟨p,hx⟩: ∃ p,l[k]? =some p:=⟨_,List.getElem?_eq_getElem hlt⟩;have hr:=Hu hx;obtain⟨t1,t2⟩:=TR hno (l.take k);rw[show(l.take k).length=k from by rw[List.length_take];omega]at t1;have hn:h'.next=h.next+k:=by rw[hh,TS,List.length_take];omega
   rw[← hh]at t1 t2;have hpr:(Sx.rows (AG (l.take k))).length=3*k:=(by rw[Sx.rows_len,D9,List.length_take];omega);have hb:(3*k+3)*72<=140737488355328:=(by omega);have hR:Sx.rows (AG (l.take (k+1)))=Sx.rows (AG (l.take k))++[[.sc (.int .i64 1),.sc (.int .i64 0),.sc (.int .i64 0),.sc (.int .i64 0),A1 p.name,.imm 6 []],[.sc (.int .i64 1),.sc (.int .i64 0),.sc (.int .i64 0),.sc (.int .i64 0),A1 ⟨#[45]⟩,.imm 6 []],[.sc (.int .i64 1),.sc (.int .i64 0),.sc (.int .i64 0),.sc (.int .i64 0),A1 p.type,.imm 6 []]]:=by
    rw[List.take_add_one,hx,Mz];simp only[Sx.rows_map,List.map_append,Js,AG,List.map_cons,List.map_nil,A5,Sx.cells]
   obtain⟨w1,w2⟩:=cC (h:=h) hlt;rw[hR]at w1;generalize Sx.rows (AG (l.take k))=R at t1 t2 hpr hR w1;generalize IF h (l.take k)=o at g3 t1 t2;clear hh;replace zz:=AK g0 g4 g3 hd hr hll;refine wy zz ?_;replace zz:=AS g0 g4 g3 hr;(first|refine uV zz (hw p.name _) ?_|refine uA zz (hw p.name _) ?_);refine wy zz ?_;replace zz:=AS g0 g4 g3 hr;(first|refine uV zz (hw ⟨#[45]⟩ _) ?_|refine uA zz (hw ⟨#[45]⟩ _) ?_);refine wy zz ?_;replace zz:=AS g0 g4 g3 hr;(first|refine uV zz (hw p.type _) ?_|refine uA zz (hw p.type _) ?_);replace zz:=BR g0 g4 g3 hr w7 t1 t2 hpr hb;(repeat'(first|refine cK ?_|refine nK ?_|refine uR zz ?_|(refine uN hK ?_;clear hK)|refine uB zz ?_|(rw[AH];rotate_left 1;omega;simp only[Ty.w,simprocAttr,g0,g4,g3,hr,w7,t1,t2,hpr,hb])|apply zI));exact⟨l.length-(k+1),by omega,k+1,by simp,by rw[hn];exact w2,by omega,rfl,w1⟩
  ·have hd:decide ((k:Int)<(l.length:Int))=false:=(by simp;omega);have hke:k=l.length:=(by omega);subst hke;rw[List.take_length]at g3 hh;replace zz:=AV g0 g4 g3 hd hll;refine wm zz ?_;try exact zI
   all_goals first|exact hh|exact⟨rfl,hh⟩
def GY(p:Pr):Bool:=Ak p.name&&p.params.all (Cy true)
def FI(f:Fu):Bool:=Ak f.name&&(f.params.all (Cy true)&&(FH f.lo&&FH f.hi))
def Dy(a:Ac):Bool:=Ak a.name&&(a.params.all (Cy true)&&(!(decide (a.cost<0))&&(FH a.cost&&(BP a.pre&&a.changes.all DX))))
def DY(a:Du):Bool:=Ak a.name&&(a.params.all (Cy true)&&(FH a.duration&&(a.atStart.all DX&&(a.atStop.all DX&&(BP a.start&&(BP a.over&&BP a.stop))))))
def GA(d:Dm):Bool:=Ak d.name&&(d.types.all (Cy false)&&(d.constants.all (Cy false)&&(d.predicates.all GY&&(d.functions.all FI&&(d.actions.all Dy&&d.duratives.all DY)))))
set_option maxHeartbeats 2000000
def VS(x:Sx):Prop:=FO x=true/\x.depth<=32/\x.nodes<=4096
theorem KX{x:Sx}:(Ci x 0 0).1=true↔VS x:=by
 have:=(LM x 0 0 (by omega) (by omega)).1;simpa[VS]using this
theorem TT{k:Sx}: ∀ {l:List Sx},Gk l=true->k∈l->FO k=true
 |x::l,h,hk=>by
  simp only[Gk,AT]at h;rcases List.mem_cons.1 hk with rfl|hk
  ·exact h.1
  ·exact TT h.2 hk
theorem TU{k:Sx}: ∀ {l:List Sx}(n:Nat),k∈l->k.depth<=Sx.depths n l
 |x::l,n,hk=>by
  simp only[Sx.depths];rcases List.mem_cons.1 hk with rfl|hk
  ·exact ES (Nat.le_max_right _ _) (Sx.depths_le l _)
  ·exact TU _ hk
theorem GB{l:List Sx}(h:VS (AB l)){k:Sx}(hk:k∈l):VS k:=by
 obtain⟨h1,h2,h3⟩:=h;simp only[AB,FO,AT]at h1;simp only[AB,Sx.depth]at h2;simp only[AB,Sx.nodes]at h3;have n1:=Sx.nodes_le hk;have d1:=TU 0 hk;refine⟨?_,?_,by omega⟩
 ·simp at h1;exact TT h1 hk
 ·simp only[AC]at h2;omega
theorem cH{e:Ex}(hs:Br e=true)(h:VS (Am e)):EM e=true:=by
 have hn:(Am e).nodes<=AE:=by have:=h.2.2;unfold AE;omega
 rw[Zy hn,hs, ← JU hn,KX.2 h];try rfl
theorem PY{f:Fm}(hs:BP f=true)(h:VS (Aa f)):BW f=true:=by
 have hn:(Aa f).nodes<=AE:=by have:=h.2.2;unfold AE;omega
 rw[bh hn,hs, ← JU hn,KX.2 h];try rfl
theorem TV(c:Ch):BP (DV c)=(Ak c.name&&c.args.all BS):=by
 simp[DV,BP,DA,CW,DT,Om,HL]
theorem PZ(c:Ch):Aa (DV c)=Bv c.name c.args:=by
 simp[DV,Aa,Om]
theorem Jo{f:Fm}(h:BP f=true):Cz f=Bx f:=by
 cases ha:Bx f with
 |true=>rw[PP ha];try rfl
 |false=>
  cases ht:Cz f with
  |false=>rfl
  |true=>
   exfalso;obtain⟨op,na,a,p,e,k⟩:=f;simp only[Cz,AT]at ht;have e1:=Ec ht.1;have e2:k=[]:=by
    have:=ht.2;simp only[Fm.rows_len,DZ]at this;cases k with
    |nil=>rfl
    |cons x k=>simp only[List.length_cons]at this;omega
   subst e1 e2;simp only[BP,DA,AT]at h;have hs:CW C5 ([]:List Fm).length=some (0,0,false):=rfl;rw[hs]at h;have ht2:DT C5 na a=(Ey na&&a.isEmpty):=rfl;simp only[ht2,AT,E1,BQ,List.isEmpty_iff]at h;obtain⟨⟨⟨⟨⟨⟨⟨h1,h2⟩,h3⟩,h4⟩,h5⟩,h6⟩,h7⟩,h8⟩:=h;have e3:e=[]:=List.length_eq_zero_iff.1 h3;have e4:na=⟨#[]⟩:=Ec h1;subst h2 e3 h5 e4;simp[Bx,DC,Fm.same,Om,DR,E5,Ex.sames,Fm.sames]at ha
theorem TW(p:Pm):BE true p=Cy true p:=by
 unfold BE Cy JS;simp only[D2,AC];rw[Bool.or_comm]
theorem cI{c:Ch}(h:C0 c=true):1<=c.kind/\c.kind<=5:=by
 unfold C0 at h;simp only[AT]at h;obtain⟨⟨⟨_,hv⟩,_⟩,_⟩:=h;cases k1:c.kind==1||c.kind==2 with
 |true=>
  simp only[Cc,DZ]at k1;omega
 |false=>
  rw[k1,CH]at hv;cases k3:c.kind==3||c.kind==4||c.kind==5 with
  |false=>rw[k3]at hv;simp at hv
  |true=>
   simp only[Cc,DZ]at k3;omega
theorem TX{c:Ch}(h:C0 c=true):DX c=true/\EP c=D0 c:=by
 have hk:=cI h;unfold C0 at h;simp only[AT]at h;obtain⟨⟨⟨⟨hn,ha⟩,hv⟩,hf⟩,hp⟩:=h;have hat:BP (DV c)=true:=by rw[TV,hn,ha];try rfl
 have hcs:BP c.cond=true:=by
  simp only[Cc]at hf;rcases hf with hf|hf
  ·rw [PP hf];try rfl
  ·exact HV hf
 have hpp:c.params.all (Cy true)=true:=by
  rw[List.all_eq_true]at hp⊢;intro x hx;rw[← TW];exact hp x hx
 have hval:(bif decide (c.kind<=2)then c.value.same Dr else Br c.value)=true/\(2<c.kind->IA c.value=Am c.value):=by
  cases k1:c.kind==1||c.kind==2 with
  |true=>
   rw[k1,D2]at hv;simp only[Cc,DZ]at k1;have:decide (c.kind<=2)=true:=(by simp;omega);rw[this];exact⟨hv,λh=>by omega⟩
  |false=>
   rw[k1,CH]at hv;cases k3:c.kind==3||c.kind==4||c.kind==5 with
   |false=>rw[k3]at hv;simp at hv
   |true=>
    rw[k3,D2]at hv;simp only[Cc,DZ]at k3;have:decide (c.kind<=2)=false:=(by simp;omega);rw[this];exact⟨bu hv,λ_=>by unfold IA;rw[hv];try rfl⟩
 refine⟨?_,?_⟩
 ·unfold DX;have q1:decide (c.kind<1)=false:=by simp;omega
  have q2:decide (5<c.kind)=false:=by simp;omega
  rw[q1,q2,hpp,hcs,hat,hval.1];try rfl
 ·have h1:HX c=FG c:=by
   unfold HX FG;rw[PZ];have hk5:c.kind=1\/c.kind=2\/c.kind=3\/c.kind=4\/c.kind=5:=(by omega);rcases hk5 with k|k|k|k|k
   ·rw [k];try rfl
   ·rw [k];try rfl
   ·rw [hval.2 (by omega),k];try rfl
   ·rw [hval.2 (by omega),k];try rfl
   ·rw [hval.2 (by omega),k];try rfl
  have h2:HY c=G9 c:=by
   unfold HY G9;rw[Jo hcs,h1];cases q:Bx c.cond with
   |true=>rfl
   |false=>
    rw[q,BL]at hf;have:By c.cond=Aa c.cond:=(by unfold By;rw[hf];try rfl);rw[this]
  unfold EP D0;rw[h2]
theorem cJ{c:Ch}(h:DX c=true)(hv:VS (D0 c)):C0 c=true:=by
 unfold DX at h;simp only[AT,DF,CE]at h;obtain⟨q1,q2,hpp,hcs,hat,hval⟩:=h;rw[TV,AT]at hat;have v2:VS (G9 c):=by
  unfold D0 at hv;cases q:c.params.isEmpty with
  |true=>rw[q]at hv;exact hv
  |false=>rw[q]at hv;exact GB hv (by simp)
 have v1:VS (FG c)/\(Bx c.cond||BW c.cond)=true:=by
  unfold G9 at v2;rw[Jo hcs]at v2;cases q:Bx c.cond with
  |true=>rw[q]at v2;exact⟨v2,rfl⟩
  |false=>
   rw[q,CH]at v2;exact⟨GB v2 (by simp),by rw[BL];exact PY hcs (GB v2 (by simp))⟩
 have vv:(bif c.kind==1||c.kind==2 then c.value.same Dr else(bif c.kind==3||c.kind==4||c.kind==5 then EM c.value else false))=true:=by
  have hk5:c.kind=1\/c.kind=2\/c.kind=3\/c.kind=4\/c.kind=5:=by omega
  have w:=v1.1;unfold FG at w;rcases hk5 with k|k|k|k|k
  ·rw [k]at hval⊢;exact hval
  ·rw [k]at hval⊢;exact hval
  all_goals
   rw[k]at hval w⊢;exact cH hval (GB (l:=[A5 _,Aa (DV c),Am c.value]) w (by simp))
 unfold C0;rw[hat.1,hat.2,vv,v1.2];simp only[Ah];rw[List.all_eq_true]at hpp⊢;intro x hx;rw[TW];exact hpp x hx
theorem KY{l:List Ch}(h:l.all C0=true):l.all DX=true/\Cx l=D1 l:=by
 rw[List.all_eq_true]at h;refine⟨List.all_eq_true.2 λc hc=>(TX (h c hc)).1,?_⟩;have:l.map EP=l.map D0:=List.map_congr_left λc hc=>(TX (h c hc)).2;unfold Cx D1;rw[this]
theorem cM{l:List Ch}(h:PW l=true):l.all C0=true:=by
 unfold PW at h;simp only[AT]at h;have hv:=KX.1 h.2;rw[List.all_eq_true];intro c hc;refine cJ (List.all_eq_true.1 h.1 c hc) ?_;unfold D1 at hv;cases l with
 |nil=>simp at hc
 |cons d l=>exact GB hv (List.mem_cons_of_mem _ (List.mem_map_of_mem hc))
set_option maxHeartbeats 4000000
theorem Pa(c:Ch):PV.bulkR (A7 c.params)+PV.bulkL c.cond.cells+PV.bulkR (AP c.args)+PV.bulkL c.value.cells+4<=PV.bulkL (Df c):=by
 obtain⟨kd,P,f,n,a,v⟩:=c;simp only[Df,List.cons_append,List.nil_append,PV.bulkL_append,PV.bulkL,PV.bulk,A1];omega
theorem cO{c:Ch}(h:PV.bulkL (Df c)<=1048576):FE c:=by
 have:=Pa c;have p1:=Em c.params;have p2:=Jh c.args;exact⟨Fm.small_bulk _ (by omega),Ex.small_bulk _ (by omega),by omega,by omega⟩
theorem TY: ∀ l:List Ch,l.length<=PV.bulkR (Ay l)
 |[]=>BX _
 |c::l=>by
  have:=TY l;have:=Pa c;have e:Ay (c::l)=Df c::Ay l:=rfl;rw[e];simp only[PV.bulkR,List.length_cons];omega
theorem TZ{c:Ch}: ∀ {l:List Ch},c∈l->PV.bulkL (Df c)<=PV.bulkR (Ay l)
 |d::l,h=>by
  have e:Ay (d::l)=Df d::Ay l:=rfl;rw[e];simp only[PV.bulkR];rcases List.mem_cons.1 h with rfl|h
  ·omega
  ·have:=TZ h;omega
theorem Gz(s:ByteArray):(A5 s).nodes=1:=rfl
theorem cQ(a b:Sx):(AB [a,b]).nodes=a.nodes+b.nodes+1:=by simp only[AB,Sx.nodes,Sx.nodess];omega
theorem Pc(a b c:Sx):(AB [a,b,c]).nodes=a.nodes+b.nodes+c.nodes+1:=by simp only[AB,Sx.nodes,Sx.nodess];omega
theorem cR(c:Ch):(FG c).nodes<=c.args.length+PV.bulkL c.value.cells+4:=by
 have e:=Sz c.value;have w:(Aa (DV c)).nodes=c.args.length+2:=by rw[PZ];exact NG _ _
 unfold FG;cases c.kind==2<;>cases c.kind==3<;>cases c.kind==4<;>cases c.kind==5<;>simp only[D2,CH,cQ,Pc,Gz,w]<;>omega
theorem cT(c:Ch):(D0 c).nodes<=4*PV.bulkL (Df c):=by
 have h1:=cR c;have hb:=Pa c;have hf:=KT c.cond;have p2:=Jh c.args;have p1:=Em c.params;have h2:(G9 c).nodes<=(FG c).nodes+2*PV.bulkL c.cond.cells+2:=by
  unfold G9;cases Cz c.cond with
  |true=>simp only[D2];omega
  |false=>simp only[CH,Pc,Gz];omega
 have h3:(AB (AG c.params)).nodes=3*c.params.length+1:=by simp only[AB,Sx.nodes,ID]
 unfold D0;cases c.params.isEmpty with
 |true=>simp only[D2];omega
 |false=>simp only[CH,Pc,Gz,h3];omega
theorem Ta: ∀ l:List Ch,Sx.nodess (l.map D0)<=4*PV.bulkR (Ay l)
 |[]=>by simp[Sx.nodess]
 |c::l=>by
  have:=Ta l;have:=cT c;have e:Ay (c::l)=Df c::Ay l:=rfl;rw[e];simp only[List.map_cons,Sx.nodess,PV.bulkR];omega
theorem cU{c:Ch}(hR:DX c=true)(h:c.ok)(hs:FE c):(D0 c).ok:=by
 simp only[DX,AT,DF]at hR;obtain⟨_,_,_,r4,_,_⟩:=hR;have hw:(Aa (DV c)).ok:=by rw[PZ];exact LL h.name hs.args h.args.2
 have hx:=My c.value h.value hs.value;have h1:(FG c).ok:=by
  unfold FG;cases c.kind==2 with
  |true=>exact PN (CJ (by decide)) hw
  |false=>
   cases c.kind==3 with
   |true=>exact Iu (CJ (by decide)) hw hx
   |false=>
    cases c.kind==4 with
    |true=>exact Iu (CJ (by decide)) hw hx
    |false=>
     cases c.kind==5 with
     |true=>exact Iu (CJ (by decide)) hw hx
     |false=>exact hw
 have h2:(G9 c).ok:=by
  unfold G9;cases Cz c.cond with
  |true=>exact h1
  |false=>exact Iu (CJ (by decide)) (Ji _ h.cond hs.cond r4) h1
 unfold D0;cases c.params.isEmpty with
 |true=>exact h2
 |false=>exact Iu (CJ (by decide)) (E7 (by rw[D9];have:=hs.params;unfold AE;omega) (I8 _ h.params.2)) h2
theorem Pd{l:List Ch}(hl:l.length<=1048576)(hR:l.all DX=true)(h: ∀ c∈l,c.ok/\FE c):(D1 l).ok:=by
 rw[List.all_eq_true]at hR;unfold D1;cases l.isEmpty with
 |true=>exact E7 (by simp) trivial
 |false=>
  refine E7 (by simp only[List.length_cons,List.length_map,AE];omega) ⟨CJ (by decide),?_⟩;rw[Sx.oks_iff];intro k hk;rw[List.mem_map]at hk;obtain⟨c,hc,rfl⟩:=hk;exact cU (hR c hc) (h c hc).1 (h c hc).2
theorem cV(c:Ch):Cq (D0 c)=true:=by
  have h1:Cq (FG c)=true:=by
    unfold FG;cases c.kind==2<;>cases c.kind==3<;>cases c.kind==4<;>cases c.kind==5<;>simp only[D2,CH]<;>first
      |exact Io _
      | (refine DL ?_
         intro k hk;simp only[List.mem_cons,List.not_mem_nil,DO]at hk;rcases hk with rfl|rfl|rfl<;>first|exact DK _|exact Io _|exact PA _)
      | (refine DL ?_
         intro k hk;simp only[List.mem_cons,List.not_mem_nil,DO]at hk;rcases hk with rfl|rfl<;>first|exact DK _|exact Io _|exact PA _)
  have h2:Cq (G9 c)=true:=by
    unfold G9;cases Cz c.cond with
    |true=>exact h1
    |false=>
      refine DL ?_;intro k hk;simp only[List.mem_cons,List.not_mem_nil,DO]at hk;rcases hk with rfl|rfl|rfl
      · exact DK _
      · exact Io _
      · exact h1
  unfold D0;cases c.params.isEmpty with
  |true=>exact h2
  |false=>
    refine DL ?_;intro k hk;simp only[List.mem_cons,List.not_mem_nil,DO]at hk;rcases hk with rfl|rfl|rfl
    · exact DK _
    · exact DL (I7 _)
    · exact h2
theorem Pe(l:List Ch):Cq (D1 l)=true:=by
 unfold D1;cases l.isEmpty with
 |true=>exact DL (by simp)
 |false=>
  refine DL ?_;intro k hk;rcases List.mem_cons.1 hk with rfl|hk
  ·exact DK _
  ·rw [List.mem_map]at hk;obtain⟨c,_,rfl⟩:=hk;exact cV c
set_option maxHeartbeats 8000000
theorem cX{dn:ByteArray}{dt dc:List Pm}{dp:List Pr}{df:List Fu}{da:List Ac}{dd:List Du}(hok:Dm.ok ⟨dn,dt,dc,dp,df,da,dd⟩){k0 k1 k2 k3 k4 k5 k6:Code}(hb:Tryz.f48.body=some (.seq k0 (.seq k1 (.seq k2 (.seq k3 (.seq k4 (.seq k5 k6))))))){Q:Au}{h:A0}
  (hQ:dp.all GY=false-> ∀ (S:A8)(H:A0),S 2= .sc (.bool false)->AL h H->Q .ret S H){S:A8}{H:A0}(s1:S 1= .cptr [A1 dn,.imm 2 (A7 dt),.imm 2 (A7 dc),.imm 2 (Az dp),.imm 4 (Av df),.imm 10 (B0 da),.imm 23 (B1 dd)])(hg:AL h H):
  AX prog (λ_=>false) (λ_=>false) Tryz.f48.ntmps k2 (Au.seq (λS H=>S 1= .cptr [A1 dn,.imm 2 (A7 dt),.imm 2 (A7 dc),.imm 2 (Az dp),.imm 4 (Av df),.imm 10 (B0 da),.imm 23 (B1 dd)]/\AL h H/\dp.all GY=true) Q) S H:=by
 simp only[Tryz.f48,Ag,Q1]at hb;obtain⟨-,-,hb⟩:=hb;obtain⟨rfl,hb⟩:=hb
 clear hb;have hns: ∀ s:ByteArray,s.size<=AE-> ∀ h:A0,AA prog 78 [A1 s] h λr h'=>r= .sc (.bool (Ak s))/\h'=h:=λs hs h=>Fc (by unfold AE at hs;omega);rw[ntmps48];have hlen:=MY dp;refine wt (uu s1 hlen) ?_;refine BV (λm S H=>S 1= .cptr [A1 dn,.imm 2 (A7 dt),.imm 2 (A7 dc),.imm 2 (Az dp),.imm 4 (Av df),.imm 10 (B0 da),.imm 23 (B1 dd)]/\ ∃ k:Nat,S 3= .sc (.int .i64 k)/\k<=dp.length/\m=dp.length-k/\AL h H/\dp.all GY=(dp.drop k).all GY) dp.length ?_ ?_
 ·simp only[Ty.w,simprocAttr,s1];first|exact⟨0,rfl,BX _,rfl,hg,rfl⟩|exact⟨trivial,0,rfl,BX _,rfl,hg,rfl⟩
 ·clear s1 hg;rintro m S H ⟨s1,k,sI,hk,rfl,hg,hinv⟩;by_cases hlt:k<dp.length
  ·have hd:decide ((k:Int)<(dp.length:Int))=true:=(by simp;omega);have hbl:dp.length<=1152921504606846976:=(by have:=hok.predicates.1;unfold AE at this;exact this);have w7:IntKind.i64.wrap ((k:Int)+1)=((k+1:Nat):Int):=(by rw[B9 (by omega) (by omega)];omega);obtain⟨a,hx⟩: ∃ a,dp[k]? =some a:=⟨_,List.getElem?_eq_getElem hlt⟩;have hr:=O5 hx;have hco:=hok.predicates.2 a (List.mem_of_getElem? hx);have c0:=hns a.name hco.name;have c1:=λh:A0=>Iv (v:=true) hco.params.1 hco.params.2 h;rw[CR hx,List.all_cons]at hinv;generalize hF2:(dp.drop (k+1)).all GY=F2 at hinv;simp only[GY]at hinv;clear hco hx;obtain⟨an,ap⟩:=a;simp only at c0 hinv;generalize Ak an=b0 at c0 hinv;simp only at c1 hinv;generalize ap.all (Cy true)=b1 at c1 hinv;simp only[F7]at hr c0 c1;replace zz:=AK s1 sI hlen hd hr yT;refine wt zz ?_;cases b0 with
   |false=>
    have hf:dp.all GY=false:=(by rw[hinv];simp);replace zz:=AK s1 sI hlen hd hr yF;refine uU zz (c0 _) ?_;replace zz:=AY s1 sI hlen hd hr yF yT;refine wt zz ?_;exact hQ hf _ _ (sq A2) (hg)
   |true=>
    replace zz:=AK s1 sI hlen hd hr yT;refine uU zz (c0 _) ?_;refine wt zz ?_;cases b1 with
    |false=>
     have hf:dp.all GY=false:=(by rw[hinv];simp);replace zz:=AK s1 sI hlen hd hr yF;refine uU zz (c1 _) ?_;replace zz:=AY s1 sI hlen hd hr yF yT;refine wt zz ?_;exact hQ hf _ _ (sq A2) (hg)
    |true=>
     replace zz:=AK s1 sI hlen hd hr yT;refine uU zz (c1 _) ?_;simp only[Al,Ah]at hinv;replace zz:=AY s1 sI hlen hd hr w7 yT;refine wt zz ?_;first
      |exact⟨dp.length-(k+1),by omega,k+1,rfl,by omega,rfl,hg,by rw[hF2];exact hinv⟩
      |exact⟨dp.length-(k+1),by omega,sq s1,k+1,sq A2,by omega,rfl,hg,by rw[hF2];exact hinv⟩
  ·have hd:decide ((k:Int)<(dp.length:Int))=false:=(by simp;omega);rw[List.drop_eq_nil_of_le (by omega)]at hinv;simp only[List.all_nil]at hinv;replace zz:=AS s1 sI hlen hd;refine wt zz ?_;first|exact⟨hg,hinv⟩|exact⟨s1,hg,hinv⟩|exact⟨sq s1,hg,hinv⟩
theorem cY{dn:ByteArray}{dt dc:List Pm}{dp:List Pr}{df:List Fu}{da:List Ac}{dd:List Du}(hok:Dm.ok ⟨dn,dt,dc,dp,df,da,dd⟩){k0 k1 k2 k3 k4 k5 k6:Code}(hb:Tryz.f48.body=some (.seq k0 (.seq k1 (.seq k2 (.seq k3 (.seq k4 (.seq k5 k6))))))){Q:Au}{h:A0}
  (hQ:df.all FI=false-> ∀ (S:A8)(H:A0),S 2= .sc (.bool false)->AL h H->Q .ret S H){S:A8}{H:A0}(s1:S 1= .cptr [A1 dn,.imm 2 (A7 dt),.imm 2 (A7 dc),.imm 2 (Az dp),.imm 4 (Av df),.imm 10 (B0 da),.imm 23 (B1 dd)])(hg:AL h H):
  AX prog (λ_=>false) (λ_=>false) Tryz.f48.ntmps k3 (Au.seq (λS H=>S 1= .cptr [A1 dn,.imm 2 (A7 dt),.imm 2 (A7 dc),.imm 2 (Az dp),.imm 4 (Av df),.imm 10 (B0 da),.imm 23 (B1 dd)]/\AL h H/\df.all FI=true) Q) S H:=by
 simp only[Tryz.f48,Ag,Q1]at hb;obtain⟨-,-,hb⟩:=hb;obtain⟨-,hb⟩:=hb;obtain⟨rfl,hb⟩:=hb
 clear hb;have hns: ∀ s:ByteArray,s.size<=AE-> ∀ h:A0,AA prog 78 [A1 s] h λr h'=>r= .sc (.bool (Ak s))/\h'=h:=λs hs h=>Fc (by unfold AE at hs;omega);rw[ntmps48];have hlen:=MZ df;refine wt (uu s1 hlen) ?_;refine BV (λm S H=>S 1= .cptr [A1 dn,.imm 2 (A7 dt),.imm 2 (A7 dc),.imm 2 (Az dp),.imm 4 (Av df),.imm 10 (B0 da),.imm 23 (B1 dd)]/\ ∃ k:Nat,S 4= .sc (.int .i64 k)/\k<=df.length/\m=df.length-k/\AL h H/\df.all FI=(df.drop k).all FI) df.length ?_ ?_
 ·simp only[Ty.w,simprocAttr,s1];first|exact⟨0,rfl,BX _,rfl,hg,rfl⟩|exact⟨trivial,0,rfl,BX _,rfl,hg,rfl⟩
 ·clear s1 hg;rintro m S H ⟨s1,k,sI,hk,rfl,hg,hinv⟩;by_cases hlt:k<df.length
  ·have hd:decide ((k:Int)<(df.length:Int))=true:=(by simp;omega);have hbl:df.length<=1152921504606846976:=(by have:=hok.functions.1;unfold AE at this;exact this);have w7:IntKind.i64.wrap ((k:Int)+1)=((k+1:Nat):Int):=(by rw[B9 (by omega) (by omega)];omega);obtain⟨a,hx⟩: ∃ a,df[k]? =some a:=⟨_,List.getElem?_eq_getElem hlt⟩;have hr:=O6 hx;have hco:=hok.functions.2 a (List.mem_of_getElem? hx);have c0:=hns a.name hco.name;have c1:=λh:A0=>Iv (v:=true) hco.params.1 hco.params.2 h;have c2:=λh:A0=>NQ (h:=h) (n:=a.lo);have c3:=λh:A0=>NQ (h:=h) (n:=a.hi);rw[CR hx,List.all_cons]at hinv;generalize hF2:(df.drop (k+1)).all FI=F2 at hinv;simp only[FI]at hinv;clear hco hx;obtain⟨an,ap,alo,ahi⟩:=a;simp only at c0 hinv;generalize Ak an=b0 at c0 hinv;simp only at c1 hinv;generalize ap.all (Cy true)=b1 at c1 hinv;simp only at c2 hinv;generalize FH alo=b2 at c2 hinv;simp only at c3 hinv;generalize FH ahi=b3 at c3 hinv;simp only[F8]at hr c0 c1 c2 c3;replace zz:=AK s1 sI hlen hd hr yT;refine wt zz ?_;cases b0 with
   |false=>
    have hf:df.all FI=false:=(by rw[hinv];simp);replace zz:=AK s1 sI hlen hd hr yF;refine uU zz (c0 _) ?_;replace zz:=AY s1 sI hlen hd hr yF yT;refine wt zz ?_;exact hQ hf _ _ (sq A2) ((hg.new _).set hg.le _)
   |true=>
    replace zz:=AK s1 sI hlen hd hr yT;refine uU zz (c0 _) ?_;refine wt zz ?_;cases b1 with
    |false=>
     have hf:df.all FI=false:=(by rw[hinv];simp);replace zz:=AK s1 sI hlen hd hr yF;refine uU zz (c1 _) ?_;replace zz:=AY s1 sI hlen hd hr yF yT;refine wt zz ?_;exact hQ hf _ _ (sq A2) ((hg.new _).set hg.le _)
    |true=>
     replace zz:=AK s1 sI hlen hd hr yT;refine uU zz (c1 _) ?_;refine wt zz ?_;cases b2 with
     |false=>
      have hf:df.all FI=false:=(by rw[hinv];simp);replace zz:=AK s1 sI hlen hd hr yF;refine uU zz (c2 _) ?_;replace zz:=AY s1 sI hlen hd hr yF yT;refine wt zz ?_;exact hQ hf _ _ (sq A2) ((hg.new _).set hg.le _)
     |true=>
      replace zz:=AK s1 sI hlen hd hr yT;refine uU zz (c2 _) ?_;refine wt zz ?_;cases b3 with
      |false=>
       have hf:df.all FI=false:=(by rw[hinv];simp);replace zz:=AK s1 sI hlen hd hr yF;refine uU zz (c3 _) ?_;replace zz:=AY s1 sI hlen hd hr yF yT;refine wt zz ?_;exact hQ hf _ _ (sq A2) ((hg.new _).set hg.le _)
      |true=>
       replace zz:=AK s1 sI hlen hd hr yT;refine uU zz (c3 _) ?_;simp only[Al,Ah]at hinv;replace zz:=AY s1 sI hlen hd hr w7 yT;refine wt zz ?_;first
        |exact⟨df.length-(k+1),by omega,k+1,rfl,by omega,rfl,(hg.new _).set hg.le _,by rw[hF2];exact hinv⟩
        |exact⟨df.length-(k+1),by omega,sq s1,k+1,sq A2,by omega,rfl,(hg.new _).set hg.le _,by rw[hF2];exact hinv⟩
  ·have hd:decide ((k:Int)<(df.length:Int))=false:=(by simp;omega);rw[List.drop_eq_nil_of_le (by omega)]at hinv;simp only[List.all_nil]at hinv;replace zz:=AS s1 sI hlen hd;refine wt zz ?_;first|exact⟨hg,hinv⟩|exact⟨s1,hg,hinv⟩|exact⟨sq s1,hg,hinv⟩
theorem cZ{dn:ByteArray}{dt dc:List Pm}{dp:List Pr}{df:List Fu}{da:List Ac}{dd:List Du}(hok:Dm.ok ⟨dn,dt,dc,dp,df,da,dd⟩){k0 k1 k2 k3 k4 k5 k6:Code}(hb:Tryz.f48.body=some (.seq k0 (.seq k1 (.seq k2 (.seq k3 (.seq k4 (.seq k5 k6))))))){Q:Au}{h:A0}
  (hQ:da.all Dy=false-> ∀ (S:A8)(H:A0),S 2= .sc (.bool false)->AL h H->Q .ret S H){S:A8}{H:A0}(s1:S 1= .cptr [A1 dn,.imm 2 (A7 dt),.imm 2 (A7 dc),.imm 2 (Az dp),.imm 4 (Av df),.imm 10 (B0 da),.imm 23 (B1 dd)])(hg:AL h H):
  AX prog (λ_=>false) (λ_=>false) Tryz.f48.ntmps k4 (Au.seq (λS H=>S 1= .cptr [A1 dn,.imm 2 (A7 dt),.imm 2 (A7 dc),.imm 2 (Az dp),.imm 4 (Av df),.imm 10 (B0 da),.imm 23 (B1 dd)]/\AL h H/\da.all Dy=true) Q) S H:=by
 simp only[Tryz.f48,Ag,Q1]at hb;obtain⟨-,-,hb⟩:=hb;obtain⟨-,hb⟩:=hb;obtain⟨-,hb⟩:=hb;obtain⟨rfl,hb⟩:=hb
 clear hb;have hns: ∀ s:ByteArray,s.size<=AE-> ∀ h:A0,AA prog 78 [A1 s] h λr h'=>r= .sc (.bool (Ak s))/\h'=h:=λs hs h=>Fc (by unfold AE at hs;omega);rw[ntmps48];have hlen:=Ma da;refine wt (uu s1 hlen) ?_;refine BV (λm S H=>S 1= .cptr [A1 dn,.imm 2 (A7 dt),.imm 2 (A7 dc),.imm 2 (Az dp),.imm 4 (Av df),.imm 10 (B0 da),.imm 23 (B1 dd)]/\ ∃ k:Nat,S 6= .sc (.int .i64 k)/\k<=da.length/\m=da.length-k/\AL h H/\da.all Dy=(da.drop k).all Dy) da.length ?_ ?_
 ·simp only[Ty.w,simprocAttr,s1];first|exact⟨0,rfl,BX _,rfl,hg,rfl⟩|exact⟨trivial,0,rfl,BX _,rfl,hg,rfl⟩
 ·clear s1 hg;rintro m S H ⟨s1,k,sI,hk,rfl,hg,hinv⟩;by_cases hlt:k<da.length
  ·have hd:decide ((k:Int)<(da.length:Int))=true:=(by simp;omega);have hbl:da.length<=1152921504606846976:=(by have:=hok.actions.1;unfold AE at this;exact this);have w7:IntKind.i64.wrap ((k:Int)+1)=((k+1:Nat):Int):=(by rw[B9 (by omega) (by omega)];omega);obtain⟨a,hx⟩: ∃ a,da[k]? =some a:=⟨_,List.getElem?_eq_getElem hlt⟩;have hr:=Mb hx;have hco:=hok.actions.2 a (List.mem_of_getElem? hx);have c0:=hns a.name hco.name;have c1:=λh:A0=>Iv (v:=true) hco.params.1 hco.params.2 h;have c3:=λh:A0=>NQ (h:=h) (n:=a.cost);have c4:=λh:A0=>KV a.pre hco.pre h;have c5:=λh:A0=>PQ (l:=a.changes) hco.changes.1 hco.changes.2 h;rw[CR hx,List.all_cons]at hinv;generalize hF2:(da.drop (k+1)).all Dy=F2 at hinv;simp only[Dy]at hinv;clear hco hx;obtain⟨an,ap,ac,pre,ach⟩:=a;simp only at c0 hinv;generalize Ak an=b0 at c0 hinv;simp only at c1 hinv;generalize ap.all (Cy true)=b1 at c1 hinv;simp only at c3 hinv;generalize FH ac=b3 at c3 hinv;simp only at c4 hinv;generalize BP pre=b4 at c4 hinv;simp only at c5 hinv;generalize ach.all DX=b5 at c5 hinv;obtain⟨gop,gna,gar,gpa,gex,gki⟩:=pre;simp only[EJ,Fm.cells,List.cons_append,List.nil_append]at hr c0 c1 c3 c4 c5;generalize q2:decide (ac<0)=b2 at hinv;cases b2 with
   |true=>
    have hf:da.all Dy=false:=(by rw[hinv];simp);replace zz:=AY s1 sI hlen hd hr q2 yT;refine wt zz ?_;cases b0 with
    |false=>
     replace zz:=AY s1 sI hlen hd hr q2 yF;refine uU zz (c0 _) ?_;replace zz:=B6 s1 sI hlen hd hr q2 yF yT;refine wt zz ?_;exact hQ hf _ _ (sq A2) ((hg.new _).set hg.le _)
    |true=>
     replace zz:=AY s1 sI hlen hd hr q2 yT;refine uU zz (c0 _) ?_;refine wt zz ?_;cases b1 with
     |false=>
      replace zz:=AY s1 sI hlen hd hr q2 yF;refine uU zz (c1 _) ?_;replace zz:=B6 s1 sI hlen hd hr q2 yF yT;refine wt zz ?_;exact hQ hf _ _ (sq A2) ((hg.new _).set hg.le _)
     |true=>
      replace zz:=AY s1 sI hlen hd hr q2 yT;refine uU zz (c1 _) ?_;replace zz:=B6 s1 sI hlen hd hr q2 yF yT;refine wt zz ?_;exact hQ hf _ _ (sq A2) ((hg.new _).set hg.le _)
   |false=>
    replace zz:=AY s1 sI hlen hd hr q2 yT;refine wt zz ?_;cases b0 with
    |false=>
     replace zz:=AY s1 sI hlen hd hr q2 yF;refine uU zz (c0 _) ?_;have hf:da.all Dy=false:=(by rw[hinv];simp);replace zz:=B6 s1 sI hlen hd hr q2 yF yT;refine wt zz ?_;exact hQ hf _ _ (sq A2) ((hg.new _).set hg.le _)
    |true=>
     replace zz:=AY s1 sI hlen hd hr q2 yT;refine uU zz (c0 _) ?_;refine wt zz ?_;cases b1 with
     |false=>
      replace zz:=AY s1 sI hlen hd hr q2 yF;refine uU zz (c1 _) ?_;have hf:da.all Dy=false:=(by rw[hinv];simp);replace zz:=B6 s1 sI hlen hd hr q2 yF yT;refine wt zz ?_;exact hQ hf _ _ (sq A2) ((hg.new _).set hg.le _)
     |true=>
      replace zz:=AY s1 sI hlen hd hr q2 yT;refine uU zz (c1 _) ?_;refine wt zz ?_;cases b3 with
      |false=>
       replace zz:=AY s1 sI hlen hd hr q2 yF;refine uU zz (c3 _) ?_;have hf:da.all Dy=false:=(by rw[hinv];simp);replace zz:=B6 s1 sI hlen hd hr q2 yF yT;refine wt zz ?_;exact hQ hf _ _ (sq A2) ((hg.new _).set hg.le _)
      |true=>
       replace zz:=AY s1 sI hlen hd hr q2 yT;refine uU zz (c3 _) ?_;refine wt zz ?_;cases b4 with
       |false=>
        replace zz:=AY s1 sI hlen hd hr q2 yF;refine uU zz (c4 _) ?_;have hf:da.all Dy=false:=(by rw[hinv];simp);replace zz:=B6 s1 sI hlen hd hr q2 yF yT;refine wt zz ?_;exact hQ hf _ _ (sq A2) ((hg.new _).set hg.le _)
       |true=>
        replace zz:=AY s1 sI hlen hd hr q2 yT;refine uU zz (c4 _) ?_;refine wt zz ?_;cases b5 with
        |false=>
         replace zz:=AY s1 sI hlen hd hr q2 yF;refine uU zz (c5 _) ?_;have hf:da.all Dy=false:=(by rw[hinv];simp);replace zz:=B6 s1 sI hlen hd hr q2 yF yT;refine wt zz ?_;exact hQ hf _ _ (sq A2) ((hg.new _).set hg.le _)
        |true=>
         replace zz:=AY s1 sI hlen hd hr q2 yT;refine uU zz (c5 _) ?_;simp only[Al,Ah]at hinv;replace zz:=B6 s1 sI hlen hd hr q2 w7 yT;refine wt zz ?_;exact⟨da.length-(k+1),by omega,k+1,rfl,by omega,rfl,(hg.new _).set hg.le _,by rw[hF2];exact hinv⟩
  ·have hd:decide ((k:Int)<(da.length:Int))=false:=(by simp;omega);rw[List.drop_eq_nil_of_le (by omega)]at hinv;simp only[List.all_nil]at hinv;replace zz:=AS s1 sI hlen hd;refine wt zz ?_;first|exact⟨hg,hinv⟩|exact⟨s1,hg,hinv⟩|exact⟨sq s1,hg,hinv⟩
theorem cd{dn:ByteArray}{dt dc:List Pm}{dp:List Pr}{df:List Fu}{da:List Ac}{dd:List Du}(hok:Dm.ok ⟨dn,dt,dc,dp,df,da,dd⟩){k0 k1 k2 k3 k4 k5 k6:Code}(hb:Tryz.f48.body=some (.seq k0 (.seq k1 (.seq k2 (.seq k3 (.seq k4 (.seq k5 k6))))))){Q:Au}{h:A0}
  (hQ:dd.all DY=false-> ∀ (S:A8)(H:A0),S 2= .sc (.bool false)->AL h H->Q .ret S H){S:A8}{H:A0}(s1:S 1= .cptr [A1 dn,.imm 2 (A7 dt),.imm 2 (A7 dc),.imm 2 (Az dp),.imm 4 (Av df),.imm 10 (B0 da),.imm 23 (B1 dd)])(hg:AL h H):
  AX prog (λ_=>false) (λ_=>false) Tryz.f48.ntmps k5 (Au.seq (λS H=>S 1= .cptr [A1 dn,.imm 2 (A7 dt),.imm 2 (A7 dc),.imm 2 (Az dp),.imm 4 (Av df),.imm 10 (B0 da),.imm 23 (B1 dd)]/\AL h H/\dd.all DY=true) Q) S H:=by
 simp only[Tryz.f48,Ag,Q1]at hb;obtain⟨-,-,hb⟩:=hb;obtain⟨-,hb⟩:=hb;obtain⟨-,hb⟩:=hb;obtain⟨-,hb⟩:=hb;obtain⟨rfl,-⟩:=hb;have hns: ∀ s:ByteArray,s.size<=AE-> ∀ h:A0,AA prog 78 [A1 s] h λr h'=>r= .sc (.bool (Ak s))/\h'=h:=λs hs h=>Fc (by unfold AE at hs;omega);rw[ntmps48];have hlen:=Mc dd;refine wt (uu s1 hlen) ?_;refine BV (λm S H=>S 1= .cptr [A1 dn,.imm 2 (A7 dt),.imm 2 (A7 dc),.imm 2 (Az dp),.imm 4 (Av df),.imm 10 (B0 da),.imm 23 (B1 dd)]/\ ∃ k:Nat,S 8= .sc (.int .i64 k)/\k<=dd.length/\m=dd.length-k/\AL h H/\dd.all DY=(dd.drop k).all DY) dd.length ?_ ?_
 ·simp only[Ty.w,simprocAttr,s1];first|exact⟨0,rfl,BX _,rfl,hg,rfl⟩|exact⟨trivial,0,rfl,BX _,rfl,hg,rfl⟩
 ·clear s1 hg;rintro m S H ⟨s1,k,sI,hk,rfl,hg,hinv⟩;by_cases hlt:k<dd.length
  ·have hd:decide ((k:Int)<(dd.length:Int))=true:=(by simp;omega);have hbl:dd.length<=1152921504606846976:=(by have:=hok.duratives.1;unfold AE at this;exact this);have w7:IntKind.i64.wrap ((k:Int)+1)=((k+1:Nat):Int):=(by rw[B9 (by omega) (by omega)];omega);obtain⟨a,hx⟩: ∃ a,dd[k]? =some a:=⟨_,List.getElem?_eq_getElem hlt⟩;have hr:=Md hx;have hco:=hok.duratives.2 a (List.mem_of_getElem? hx);have c0:=hns a.name hco.name;have c1:=λh:A0=>Iv (v:=true) hco.params.1 hco.params.2 h;have c2:=λh:A0=>NQ (h:=h) (n:=a.duration);have c3:=λh:A0=>PQ (l:=a.atStart) hco.atStart.1 hco.atStart.2 h;have c4:=λh:A0=>PQ (l:=a.atStop) hco.atStop.1 hco.atStop.2 h;have c5:=λh:A0=>KV a.start hco.start h;have c6:=λh:A0=>KV a.over hco.over h;have c7:=λh:A0=>KV a.stop hco.stop h;rw[CR hx,List.all_cons]at hinv;generalize hF2:(dd.drop (k+1)).all DY=F2 at hinv;simp only[DY]at hinv;clear hco hx;obtain⟨an,ap,ac,sta,ove,sto,ach,bch⟩:=a;simp only at c0 hinv;generalize Ak an=b0 at c0 hinv;simp only at c1 hinv;generalize ap.all (Cy true)=b1 at c1 hinv;simp only at c2 hinv;generalize FH ac=b2 at c2 hinv;simp only at c3 hinv;generalize ach.all DX=b3 at c3 hinv;simp only at c4 hinv;generalize bch.all DX=b4 at c4 hinv;simp only at c5 hinv;generalize BP sta=b5 at c5 hinv;simp only at c6 hinv;generalize BP ove=b6 at c6 hinv;simp only at c7 hinv;generalize BP sto=b7 at c7 hinv;obtain⟨gop,gna,gar,gpa,gex,gki⟩:=sta;obtain⟨kop,kna,kar,kpa,kex,kki⟩:=ove;obtain⟨lop,lna,lar,lpa,lex,lki⟩:=sto;simp only[EK,Fm.cells,List.cons_append,List.nil_append]at hr c0 c1 c2 c3 c4 c5 c6 c7;replace zz:=AK s1 sI hlen hd hr yT;refine wt zz ?_;cases b0 with
   |false=>
    have hf:dd.all DY=false:=(by rw[hinv];simp);replace zz:=AK s1 sI hlen hd hr yF;refine uU zz (c0 _) ?_;replace zz:=AY s1 sI hlen hd hr yF yT;refine wt zz ?_;exact hQ hf _ _ (sq A2) ((hg.new _).set hg.le _)
   |true=>
    replace zz:=AK s1 sI hlen hd hr yT;refine uU zz (c0 _) ?_;refine wt zz ?_;cases b1 with
    |false=>
     have hf:dd.all DY=false:=(by rw[hinv];simp);replace zz:=AK s1 sI hlen hd hr yF;refine uU zz (c1 _) ?_;replace zz:=AY s1 sI hlen hd hr yF yT;refine wt zz ?_;exact hQ hf _ _ (sq A2) ((hg.new _).set hg.le _)
    |true=>
     replace zz:=AK s1 sI hlen hd hr yT;refine uU zz (c1 _) ?_;refine wt zz ?_;cases b2 with
     |false=>
      have hf:dd.all DY=false:=(by rw[hinv];simp);replace zz:=AK s1 sI hlen hd hr yF;refine uU zz (c2 _) ?_;replace zz:=AY s1 sI hlen hd hr yF yT;refine wt zz ?_;exact hQ hf _ _ (sq A2) ((hg.new _).set hg.le _)
     |true=>
      replace zz:=AK s1 sI hlen hd hr yT;refine uU zz (c2 _) ?_;refine wt zz ?_;cases b3 with
      |false=>
       have hf:dd.all DY=false:=(by rw[hinv];simp);replace zz:=AK s1 sI hlen hd hr yF;refine uU zz (c3 _) ?_;replace zz:=AY s1 sI hlen hd hr yF yT;refine wt zz ?_;exact hQ hf _ _ (sq A2) ((hg.new _).set hg.le _)
      |true=>
       replace zz:=AK s1 sI hlen hd hr yT;refine uU zz (c3 _) ?_;refine wt zz ?_;cases b4 with
       |false=>
        have hf:dd.all DY=false:=(by rw[hinv];simp);replace zz:=AK s1 sI hlen hd hr yF;refine uU zz (c4 _) ?_;replace zz:=AY s1 sI hlen hd hr yF yT;refine wt zz ?_;exact hQ hf _ _ (sq A2) ((hg.new _).set hg.le _)
       |true=>
        replace zz:=AK s1 sI hlen hd hr yT;refine uU zz (c4 _) ?_;refine wt zz ?_;cases b5 with
        |false=>
         have hf:dd.all DY=false:=(by rw[hinv];simp);replace zz:=AK s1 sI hlen hd hr yF;refine uU zz (c5 _) ?_;replace zz:=AY s1 sI hlen hd hr yF yT;refine wt zz ?_;exact hQ hf _ _ (sq A2) ((hg.new _).set hg.le _)
        |true=>
         replace zz:=AK s1 sI hlen hd hr yT;refine uU zz (c5 _) ?_;refine wt zz ?_;cases b6 with
         |false=>
          have hf:dd.all DY=false:=(by rw[hinv];simp);replace zz:=AK s1 sI hlen hd hr yF;refine uU zz (c6 _) ?_;replace zz:=AY s1 sI hlen hd hr yF yT;refine wt zz ?_;exact hQ hf _ _ (sq A2) ((hg.new _).set hg.le _)
         |true=>
          replace zz:=AK s1 sI hlen hd hr yT;refine uU zz (c6 _) ?_;refine wt zz ?_;cases b7 with
          |false=>
           have hf:dd.all DY=false:=(by rw[hinv];simp);replace zz:=AK s1 sI hlen hd hr yF;refine uU zz (c7 _) ?_;replace zz:=AY s1 sI hlen hd hr yF yT;refine wt zz ?_;exact hQ hf _ _ (sq A2) ((hg.new _).set hg.le _)
          |true=>
           replace zz:=AK s1 sI hlen hd hr yT;refine uU zz (c7 _) ?_;simp only[Al,Ah]at hinv;replace zz:=AY s1 sI hlen hd hr w7 yT;refine wt zz ?_;first
            |exact⟨dd.length-(k+1),by omega,k+1,rfl,by omega,rfl,(hg.new _).set hg.le _,by rw[hF2];exact hinv⟩
            |exact⟨dd.length-(k+1),by omega,sq s1,k+1,sq A2,by omega,rfl,(hg.new _).set hg.le _,by rw[hF2];exact hinv⟩
  ·have hd:decide ((k:Int)<(dd.length:Int))=false:=(by simp;omega);rw[List.drop_eq_nil_of_le (by omega)]at hinv;simp only[List.all_nil]at hinv;replace zz:=AS s1 sI hlen hd;refine wt zz ?_;first|exact⟨hg,hinv⟩|exact⟨s1,hg,hinv⟩|exact⟨sq s1,hg,hinv⟩
end Go.Proofs.YtblgchkahpgdjaaGreat
