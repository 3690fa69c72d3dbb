/- What the claim rests on, part 14: the abstract machine, contracts of the functions, plain data. -/
import Derived.Test.YtblgchkahpgdjaaGreatZw7
set_option linter.unusedVariables false
set_option linter.unusedSimpArgs false
set_option linter.unusedSectionVars false
namespace Go.Proofs.YtblgchkahpgdjaaGreat
open Go.AM Go.Proofs.Tryz
set_option maxHeartbeats 8000000
set_option maxRecDepth 20000
def Cy(v:Bool)(p:Pm):Bool:=(if v=true then D7 p.name else Ak p.name)&&JS p.type
theorem bx:Cy true=FC:=rfl
theorem bz{P:Program}{ow:Nat->Bool}{wf:FuncId->Bool}{n:Nat}{Q:Au}{s:A8}{h:A0}{c:Code}(I:A8->A0->Prop)(hi:I s h)(hh: ∀ s h,I s h->AX P ow wf n c Q s h):AX P ow wf n c Q s h:=hh _ _ hi
theorem Iv{v:Bool}{l:List Pm}(hl:l.length<=AE)(hp: ∀ p∈l,p.ok)(h:A0):AA prog 29 [.imm 2 (A7 l),.sc (.bool v)] h λr h'=>r= .sc (.bool (l.all (Cy v)))/\h'=h:=by
 unfold AE at hl;have hlen:=EX l;cases v with
 |true=>
  refine AN func29 ntmps29 results29 Ty.R3 ?_;repeat'(first|refine AI λK hK=>?_|refine Bl ?_|refine uR hlen ?_|(refine uN hK ?_;clear hK)|apply zI)
  refine BV (λm S h'=>h'=h/\S 0= .imm 2 (A7 l)/\S 1= .sc (.bool true)/\ ∃ k:Nat,S 5= .sc (.int .i64 k)/\k<=l.length/\m=l.length-k/\l.all (Cy true)=(l.drop k).all (Cy true)) l.length ?_ ?_
  ·simp only[Ty.w,simprocAttr];exact⟨0,rfl,by omega,rfl,by simp⟩
  ·rintro m S h' ⟨rfl,g0,g1,k,g5,hk,rfl,hinv⟩;by_cases hlt:k<l.length
   ·have hd:decide ((k:Int)<(l.length:Int))=true:=(by simp;omega);have w7:IntKind.i64.wrap ((k:Int)+1)=k+1:=(by rw[B9 (by omega) (by omega)]);obtain⟨p,hx⟩: ∃ p,l[k]? =some p:=⟨l[k],List.getElem?_eq_getElem hlt⟩;have hr:=Hu hx;have hpo:=hp p (List.mem_of_getElem? hx);have h1:p.name.size<=9223372036854775807:=(by have:=hpo.1;unfold AE at this;omega);have h2:p.type.size<=9223372036854775807:=(by have:=hpo.2;unfold AE at this;omega);have hc:=λh:A0=>Rl (h:=h) (s:=p.name) h1;have hc2:=λh:A0=>Fc (h:=h) (s:=p.type) h2;rw[CR hx,List.all_cons]at hinv;have hq:Cy true p=(D7 p.name&&(Ak p.type||(p.type.data.toList==(#[111,98,106,101,99,116]:Array UInt8).toList))):=rfl;rw[hq]at hinv;clear hq;generalize D7 p.name=b at hc hinv;generalize Ak p.type=b2 at hc2 hinv;cases b with
    |false=>
     simp only[Ai]at hinv;(repeat'(first|refine AI λK hK=>?_|(refine Bp ?_;simp only[Ty.w,simprocAttr,g0,g1,g5,hd,hr,bne,Ab,Al])|(refine EH ?_;(try simp only[B2,simprocAttr]))|(refine DQ _ (by(try simp only[Ty.w,simprocAttr,g0,g1,g5,hd,hr,bne,Ab,Al]);rfl) (λhb=>?_) (λhb=>?_)<;>(try simp only[BI,BQ,CE,simprocAttr]at hb)<;>(try(exfalso;omega)))|(refine hK _ _ ?_;clear hK;(try simp only[B2,simprocAttr]))));refine FN (hc _) (by(try simp only[Ty.w,simprocAttr,g0,g1,g5,hd,hr,bne,Ab,Al]);try rfl) ?_;simp only[Ty.w,simprocAttr,g0,g1,g5,hd,hr,bne,Ab,Al];(repeat'(first|refine AI λK hK=>?_|((first|refine Bp ?_|refine Ea ?_);simp only[Ty.w,simprocAttr,g0,g1,g5,hd,hr,bne,Ab,Al])|(refine hK _ _ ?_;clear hK;(try simp only[B2,simprocAttr]))));rw[hinv]
    |true=>
     cases q:(p.type.data.toList==(#[111,98,106,101,99,116]:Array UInt8).toList)with
     |true=>
      simp only[q,Bh,Ah]at hinv;(repeat'(first|refine AI λK hK=>?_|(refine Bp ?_;simp only[Ty.w,simprocAttr,g0,g1,g5,hd,hr,bne,Ab,Al,q])|(refine EH ?_;(try simp only[B2,simprocAttr]))|(refine DQ _ (by(try simp only[Ty.w,simprocAttr,g0,g1,g5,hd,hr,bne,Ab,Al,q]);rfl) (λhb=>?_) (λhb=>?_)<;>(try simp only[BI,BQ,CE,simprocAttr]at hb)<;>(try(exfalso;omega)))|(refine hK _ _ ?_;clear hK;(try simp only[B2,simprocAttr]))));refine FN (hc _) (by(try simp only[Ty.w,simprocAttr,g0,g1,g5,hd,hr,bne,Ab,Al,q]);try rfl) ?_;simp only[Ty.w,simprocAttr,g0,g1,g5,hd,hr,bne,Ab,Al,q];(repeat'(first|(refine Bl ?_)|(refine Bp ?_;simp only[Ty.w,simprocAttr,g0,g1,g5,hd,hr,bne,Ab,Al,q,w7])|(refine EH ?_;(try simp only[B2,simprocAttr]))|(refine hK _ _ ?_;clear hK;(try simp only[B2,simprocAttr]))));exact⟨l.length-(k+1),by omega,k+1,by simp,by omega,rfl,hinv⟩
     |false=>
      cases b2 with
      |false=>
       simp only[q,E1,Ai,B5]at hinv;(repeat'(first|refine AI λK hK=>?_|(refine Bp ?_;simp only[Ty.w,simprocAttr,g0,g1,g5,hd,hr,bne,Ab,Al,q])|(refine EH ?_;(try simp only[B2,simprocAttr]))|(refine DQ _ (by(try simp only[Ty.w,simprocAttr,g0,g1,g5,hd,hr,bne,Ab,Al,q]);rfl) (λhb=>?_) (λhb=>?_)<;>(try simp only[BI,BQ,CE,simprocAttr]at hb)<;>(try(exfalso;omega)))|(refine hK _ _ ?_;clear hK;(try simp only[B2,simprocAttr]))));refine FN (hc _) (by(try simp only[Ty.w,simprocAttr,g0,g1,g5,hd,hr,bne,Ab,Al,q]);try rfl) ?_;simp only[Ty.w,simprocAttr,g0,g1,g5,hd,hr,bne,Ab,Al,q];skip
       refine FN (hc2 _) (by(try simp only[Ty.w,simprocAttr,g0,g1,g5,hd,hr,bne,Ab,Al,q]);try rfl) ?_;simp only[Ty.w,simprocAttr,g0,g1,g5,hd,hr,bne,Ab,Al,q];(repeat'(first|refine AI λK hK=>?_|((first|refine Bp ?_|refine Ea ?_);simp only[Ty.w,simprocAttr,g0,g1,g5,hd,hr,bne,Ab,Al,q])|(refine hK _ _ ?_;clear hK;(try simp only[B2,simprocAttr]))));rw[hinv]
      |true=>
       simp only[q,E1,Ah]at hinv;(repeat'(first|refine AI λK hK=>?_|(refine Bp ?_;simp only[Ty.w,simprocAttr,g0,g1,g5,hd,hr,bne,Ab,Al,q])|(refine EH ?_;(try simp only[B2,simprocAttr]))|(refine DQ _ (by(try simp only[Ty.w,simprocAttr,g0,g1,g5,hd,hr,bne,Ab,Al,q]);rfl) (λhb=>?_) (λhb=>?_)<;>(try simp only[BI,BQ,CE,simprocAttr]at hb)<;>(try(exfalso;omega)))|(refine hK _ _ ?_;clear hK;(try simp only[B2,simprocAttr]))));refine FN (hc _) (by(try simp only[Ty.w,simprocAttr,g0,g1,g5,hd,hr,bne,Ab,Al,q]);try rfl) ?_;simp only[Ty.w,simprocAttr,g0,g1,g5,hd,hr,bne,Ab,Al,q];skip
       refine FN (hc2 _) (by(try simp only[Ty.w,simprocAttr,g0,g1,g5,hd,hr,bne,Ab,Al,q]);try rfl) ?_;simp only[Ty.w,simprocAttr,g0,g1,g5,hd,hr,bne,Ab,Al,q];(repeat'(first|(refine Bl ?_)|(refine Bp ?_;simp only[Ty.w,simprocAttr,g0,g1,g5,hd,hr,bne,Ab,Al,q,w7])|(refine EH ?_;(try simp only[B2,simprocAttr]))|(refine hK _ _ ?_;clear hK;(try simp only[B2,simprocAttr]))));exact⟨l.length-(k+1),by omega,k+1,by simp,by omega,rfl,hinv⟩
   ·have hd:decide ((k:Int)<(l.length:Int))=false:=(by simp;omega);rw[List.drop_eq_nil_of_le (by omega)]at hinv;replace zz:=AV g0 g1 g5 hlen hd;(repeat'(first|refine AI λK hK=>?_|refine uR zz ?_|refine uT zz ?_|refine uX ?_|refine Aw zz ?_|(refine uN hK ?_;clear hK)|(clear hK;refine uN hK ?_;clear hK)|apply zI));rw[hinv];try rfl
 |false=>
  refine AN func29 ntmps29 results29 Ty.R3 ?_;repeat'(first|refine AI λK hK=>?_|refine Bl ?_|refine uR hlen ?_|(refine uN hK ?_;clear hK)|apply zI)
  refine BV (λm S h'=>h'=h/\S 0= .imm 2 (A7 l)/\S 1= .sc (.bool false)/\ ∃ k:Nat,S 5= .sc (.int .i64 k)/\k<=l.length/\m=l.length-k/\l.all (Cy false)=(l.drop k).all (Cy false)) l.length ?_ ?_
  ·simp only[Ty.w,simprocAttr];exact⟨0,rfl,by omega,rfl,by simp⟩
  ·rintro m S h' ⟨rfl,g0,g1,k,g5,hk,rfl,hinv⟩;by_cases hlt:k<l.length
   ·have hd:decide ((k:Int)<(l.length:Int))=true:=(by simp;omega);have w7:IntKind.i64.wrap ((k:Int)+1)=k+1:=(by rw[B9 (by omega) (by omega)]);obtain⟨p,hx⟩: ∃ p,l[k]? =some p:=⟨l[k],List.getElem?_eq_getElem hlt⟩;have hr:=Hu hx;have hpo:=hp p (List.mem_of_getElem? hx);have h1:p.name.size<=9223372036854775807:=(by have:=hpo.1;unfold AE at this;omega);have h2:p.type.size<=9223372036854775807:=(by have:=hpo.2;unfold AE at this;omega);have hc:=λh:A0=>Fc (h:=h) (s:=p.name) h1;have hc2:=λh:A0=>Fc (h:=h) (s:=p.type) h2;rw[CR hx,List.all_cons]at hinv;have hq:Cy false p=(Ak p.name&&(Ak p.type||(p.type.data.toList==(#[111,98,106,101,99,116]:Array UInt8).toList))):=rfl;rw[hq]at hinv;clear hq;generalize Ak p.name=b at hc hinv;generalize Ak p.type=b2 at hc2 hinv;cases b with
    |false=>
     simp only[Ai]at hinv;(repeat'(first|refine AI λK hK=>?_|(refine Bp ?_;simp only[Ty.w,simprocAttr,g0,g1,g5,hd,hr,bne,Ab,Al])|(refine EH ?_;(try simp only[B2,simprocAttr]))|(refine DQ _ (by(try simp only[Ty.w,simprocAttr,g0,g1,g5,hd,hr,bne,Ab,Al]);rfl) (λhb=>?_) (λhb=>?_)<;>(try simp only[BI,BQ,CE,simprocAttr]at hb)<;>(try(exfalso;omega)))|(refine hK _ _ ?_;clear hK;(try simp only[B2,simprocAttr]))));refine FN (hc _) (by(try simp only[Ty.w,simprocAttr,g0,g1,g5,hd,hr,bne,Ab,Al]);try rfl) ?_;simp only[Ty.w,simprocAttr,g0,g1,g5,hd,hr,bne,Ab,Al];(repeat'(first|refine AI λK hK=>?_|((first|refine Bp ?_|refine Ea ?_);simp only[Ty.w,simprocAttr,g0,g1,g5,hd,hr,bne,Ab,Al])|(refine hK _ _ ?_;clear hK;(try simp only[B2,simprocAttr]))));rw[hinv]
    |true=>
     cases q:(p.type.data.toList==(#[111,98,106,101,99,116]:Array UInt8).toList)with
     |true=>
      simp only[q,Bh,Ah]at hinv;(repeat'(first|refine AI λK hK=>?_|(refine Bp ?_;simp only[Ty.w,simprocAttr,g0,g1,g5,hd,hr,bne,Ab,Al,q])|(refine EH ?_;(try simp only[B2,simprocAttr]))|(refine DQ _ (by(try simp only[Ty.w,simprocAttr,g0,g1,g5,hd,hr,bne,Ab,Al,q]);rfl) (λhb=>?_) (λhb=>?_)<;>(try simp only[BI,BQ,CE,simprocAttr]at hb)<;>(try(exfalso;omega)))|(refine hK _ _ ?_;clear hK;(try simp only[B2,simprocAttr]))));refine FN (hc _) (by(try simp only[Ty.w,simprocAttr,g0,g1,g5,hd,hr,bne,Ab,Al,q]);try rfl) ?_;simp only[Ty.w,simprocAttr,g0,g1,g5,hd,hr,bne,Ab,Al,q];(repeat'(first|(refine Bl ?_)|(refine Bp ?_;simp only[Ty.w,simprocAttr,g0,g1,g5,hd,hr,bne,Ab,Al,q,w7])|(refine EH ?_;(try simp only[B2,simprocAttr]))|(refine hK _ _ ?_;clear hK;(try simp only[B2,simprocAttr]))));exact⟨l.length-(k+1),by omega,k+1,by simp,by omega,rfl,hinv⟩
     |false=>
      cases b2 with
      |false=>
       simp only[q,E1,Ai,B5]at hinv;(repeat'(first|refine AI λK hK=>?_|(refine Bp ?_;simp only[Ty.w,simprocAttr,g0,g1,g5,hd,hr,bne,Ab,Al,q])|(refine EH ?_;(try simp only[B2,simprocAttr]))|(refine DQ _ (by(try simp only[Ty.w,simprocAttr,g0,g1,g5,hd,hr,bne,Ab,Al,q]);rfl) (λhb=>?_) (λhb=>?_)<;>(try simp only[BI,BQ,CE,simprocAttr]at hb)<;>(try(exfalso;omega)))|(refine hK _ _ ?_;clear hK;(try simp only[B2,simprocAttr]))));refine FN (hc _) (by(try simp only[Ty.w,simprocAttr,g0,g1,g5,hd,hr,bne,Ab,Al,q]);try rfl) ?_;simp only[Ty.w,simprocAttr,g0,g1,g5,hd,hr,bne,Ab,Al,q];skip
       refine FN (hc2 _) (by(try simp only[Ty.w,simprocAttr,g0,g1,g5,hd,hr,bne,Ab,Al,q]);try rfl) ?_;simp only[Ty.w,simprocAttr,g0,g1,g5,hd,hr,bne,Ab,Al,q];(repeat'(first|refine AI λK hK=>?_|((first|refine Bp ?_|refine Ea ?_);simp only[Ty.w,simprocAttr,g0,g1,g5,hd,hr,bne,Ab,Al,q])|(refine hK _ _ ?_;clear hK;(try simp only[B2,simprocAttr]))));rw[hinv]
      |true=>
       simp only[q,E1,Ah]at hinv;(repeat'(first|refine AI λK hK=>?_|(refine Bp ?_;simp only[Ty.w,simprocAttr,g0,g1,g5,hd,hr,bne,Ab,Al,q])|(refine EH ?_;(try simp only[B2,simprocAttr]))|(refine DQ _ (by(try simp only[Ty.w,simprocAttr,g0,g1,g5,hd,hr,bne,Ab,Al,q]);rfl) (λhb=>?_) (λhb=>?_)<;>(try simp only[BI,BQ,CE,simprocAttr]at hb)<;>(try(exfalso;omega)))|(refine hK _ _ ?_;clear hK;(try simp only[B2,simprocAttr]))));refine FN (hc _) (by(try simp only[Ty.w,simprocAttr,g0,g1,g5,hd,hr,bne,Ab,Al,q]);try rfl) ?_;simp only[Ty.w,simprocAttr,g0,g1,g5,hd,hr,bne,Ab,Al,q];skip
       refine FN (hc2 _) (by(try simp only[Ty.w,simprocAttr,g0,g1,g5,hd,hr,bne,Ab,Al,q]);try rfl) ?_;simp only[Ty.w,simprocAttr,g0,g1,g5,hd,hr,bne,Ab,Al,q];(repeat'(first|(refine Bl ?_)|(refine Bp ?_;simp only[Ty.w,simprocAttr,g0,g1,g5,hd,hr,bne,Ab,Al,q,w7])|(refine EH ?_;(try simp only[B2,simprocAttr]))|(refine hK _ _ ?_;clear hK;(try simp only[B2,simprocAttr]))));exact⟨l.length-(k+1),by omega,k+1,by simp,by omega,rfl,hinv⟩
   ·have hd:decide ((k:Int)<(l.length:Int))=false:=(by simp;omega);rw[List.drop_eq_nil_of_le (by omega)]at hinv;replace zz:=AV g0 g1 g5 hlen hd;(repeat'(first|refine AI λK hK=>?_|refine uR zz ?_|refine uT zz ?_|refine uX ?_|refine Aw zz ?_|(refine uN hK ?_;clear hK)|(clear hK;refine uN hK ?_;clear hK)|apply zI));rw[hinv];try rfl
theorem KV: ∀ f:Fm,f.ok-> ∀ h:A0,AA prog 80 [.agg f.cells] h λr h'=>r= .sc (.bool (BP f))/\h'=h:=by
 refine Fm.ind ?_;intro op name args params exprs kids ih hok h;simp only[Fm.ok]at hok;obtain⟨_,hnm,⟨hal,hargs⟩,⟨hpl,hps⟩,⟨hel,hes⟩,hkl,hks⟩:=hok;rw[Ex.oks_iff]at hes;rw[Fm.oks_iff]at hks;have hnm':name.size<=9223372036854775807:=by unfold AE at hnm;omega
 have hP:=λh:A0=>Iv (v:=true) hpl hps h;rw[bx]at hP;have hA:=λh:A0=>SC (h:=h) hal hargs;have hN:=λh:A0=>Fc (h:=h) (s:=name) hnm';unfold AE at hal hpl hel hkl;have hlA:=FA args;have hlP:=EX params;have hlE:=Ex.rows_len exprs;have hlK:=Fm.rows_len kids;have hbK: ∀ k∈kids,BP k=false->BP (.mk op name args params exprs kids)=false:=λk hk hf=>by
  cases hh:BP (.mk op name args params exprs kids)with
  |false=>rfl
  |true=>rw[(SE hh).2 k hk]at hf;simp at hf
 have hbE: ∀ e∈exprs,Br e=false->BP (.mk op name args params exprs kids)=false:=λk hk hf=>by
  cases hh:BP (.mk op name args params exprs kids)with
  |false=>rfl
  |true=>rw[(SE hh).1 k hk]at hf;simp at hf
 have hop:(∀ e∈exprs,Br e=true)->(∀ k∈kids,BP k=true)->BP (.mk op name args params exprs kids)=LN op name args params exprs.length kids.length:=ZZ;generalize BP (.mk op name args params exprs kids)=F at hbK hbE hop;simp only[Fm.cells];refine AN func80 ntmps80 results80 Ty.YK ?_;repeat'(first|refine AI λK hK=>?_|refine Bl ?_|refine uR hlK ?_|(refine uN hK ?_;clear hK)|apply zI)
 refine BV (λm S h'=>h'=h/\S 1= .cptr (Fm.mk op name args params exprs kids).cells/\ ∃ k:Nat,S 3= .sc (.int .i64 k)/\k<=kids.length/\m=kids.length-k/\ ∀ (i:Nat)(e:Fm),i<k->kids[i]? =some e->BP e=true) kids.length ?_ ?_
 ·simp only[Ty.w,simprocAttr];exact⟨rfl,0,rfl,by omega,rfl,by omega⟩
 ·rintro m S h' ⟨rfl,g1,k,g3,hkk,rfl,hall⟩;simp only[Fm.cells]at g1;by_cases hlt:k<kids.length
  ·clear hop hbE;have hd:decide ((k:Int)<(kids.length:Int))=true:=(by simp;omega);have w7:IntKind.i64.wrap ((k:Int)+1)=k+1:=(by rw[B9 (by omega) (by omega)]);obtain⟨e,hx⟩: ∃ e,kids[k]? =some e:=⟨_,List.getElem?_eq_getElem hlt⟩;have hmem:=List.mem_of_getElem? hx;have hc:=ih e hmem (hks e hmem);have hr:=Fm.rows_get hx;have hbad:=hbK e hmem;have hgood:BP e=true-> ∀ (i:Nat)(e:Fm),i<k+1->kids[i]? =some e->BP e=true:=λh1 i e2 hi hw=>by
    by_cases hik:i=k
    ·subst hik;rw[hx]at hw;simp at hw;rw[← hw];exact h1
    ·exact hall i e2 (by omega) hw
   generalize BP e=b at hc hbad hgood;clear hbK hall;obtain⟨o2,n2,a2,p2,e2,k2⟩:=e;simp only[Fm.cells]at hr hc;cases b with
   |false=>
    have:=hbad rfl;subst this;replace zz:=AK g1 g3 hlK hd hr w7;(repeat'(first|refine AI λK hK=>?_|refine uR zz ?_|refine uK ?_|refine Aw zz ?_|(refine uN hK ?_;clear hK)|apply zI));replace zz:=AK g1 g3 hlK hd hr yF;refine uU zz (hc _) ?_;replace zz:=AS g1 g3 w7 yF;repeat'(first|refine AI λK hK=>?_|refine uR zz ?_|refine uT zz ?_|(refine uN hK ?_;clear hK)|apply zI)
   |true=>
    replace zz:=AK g1 g3 hlK hd hr w7;(repeat'(first|refine AI λK hK=>?_|refine uR zz ?_|refine uK ?_|refine Aw zz ?_|(refine uN hK ?_;clear hK)|apply zI));replace zz:=AK g1 g3 hlK hd hr yT;refine uU zz (hc _) ?_;replace zz:=AS g1 g3 w7 yT;(repeat'(first|refine Bl ?_|refine uR zz ?_|refine uK ?_|(refine uN hK ?_;clear hK)|apply zI));exact⟨kids.length-(k+1),by omega,rfl,k+1,by simp,by omega,rfl,hgood rfl⟩
  ·have hd:decide ((k:Int)<(kids.length:Int))=false:=(by simp;omega);have hop2:=λhE=>hop hE λe he=>by
    obtain⟨i,hi⟩:=List.getElem?_of_mem he;exact hall i e (by have:=(List.getElem?_eq_some_iff.1 hi).1;omega) hi
   clear hop hall hbK ih;replace zz:=AS g1 g3 hlK hd;(repeat'(first|refine AI λK hK=>?_|refine Bl ?_|refine uR zz ?_|refine uX ?_|refine Aw zz ?_|(refine uN hK ?_;clear hK)|(clear hK;refine uN hK ?_;clear hK)|apply zI));clear g3 hd;refine BV (λm S h2=>h2=h'/\S 1= .cptr (Fm.mk op name args params exprs kids).cells/\ ∃ k:Nat,S 4= .sc (.int .i64 k)/\k<=exprs.length/\m=exprs.length-k/\ ∀ (i:Nat)(e:Ex),i<k->exprs[i]? =some e->Br e=true) exprs.length ?_ ?_
   ·simp only[Ty.w,simprocAttr,g1];exact⟨rfl,0,rfl,by omega,rfl,by omega⟩
   ·(try clear zz);clear g1 S;rintro m S h2 ⟨rfl,g1,k,g3,hkk,rfl,hall⟩;simp only[Fm.cells]at g1;by_cases hlt:k<exprs.length
    ·clear hop2;have hd:decide ((k:Int)<(exprs.length:Int))=true:=(by simp;omega);have w7:IntKind.i64.wrap ((k:Int)+1)=k+1:=(by rw[B9 (by omega) (by omega)]);obtain⟨e,hx⟩: ∃ e,exprs[k]? =some e:=⟨_,List.getElem?_eq_getElem hlt⟩;have hmem:=List.mem_of_getElem? hx;have hc:=SD e (hes e hmem);have hr:=Ex.rows_get hx;have hbad:=hbE e hmem;have hgood:Br e=true-> ∀ (i:Nat)(e:Ex),i<k+1->exprs[i]? =some e->Br e=true:=λh1 i e2 hi hw=>by
      by_cases hik:i=k
      ·subst hik;rw[hx]at hw;simp at hw;rw[← hw];exact h1
      ·exact hall i e2 (by omega) hw
     generalize Br e=b at hc hbad hgood;clear hbE hall;obtain⟨o2,n2,v2,a2,k2⟩:=e;simp only[Ex.cells]at hr hc;cases b with
     |false=>
      have:=hbad rfl;subst this;replace zz:=AK g1 g3 hlE hd hr w7;(repeat'(first|refine AI λK hK=>?_|refine uR zz ?_|refine uK ?_|refine Aw zz ?_|(refine uN hK ?_;clear hK)|apply zI));replace zz:=AK g1 g3 hlE hd hr yF;refine uU zz (hc _) ?_;replace zz:=AS g1 g3 w7 yF;repeat'(first|refine AI λK hK=>?_|refine uR zz ?_|refine uT zz ?_|(refine uN hK ?_;clear hK)|apply zI)
     |true=>
      replace zz:=AK g1 g3 hlE hd hr w7;(repeat'(first|refine AI λK hK=>?_|refine uR zz ?_|refine uK ?_|refine Aw zz ?_|(refine uN hK ?_;clear hK)|apply zI));replace zz:=AK g1 g3 hlE hd hr yT;refine uU zz (hc _) ?_;replace zz:=AS g1 g3 w7 yT;(repeat'(first|refine Bl ?_|refine uR zz ?_|refine uK ?_|(refine uN hK ?_;clear hK)|apply zI));exact⟨exprs.length-(k+1),by omega,rfl,k+1,by simp,by omega,rfl,hgood rfl⟩
    ·have hd:decide ((k:Int)<(exprs.length:Int))=false:=(by simp;omega);have hF:=hop2 λe he=>by
      obtain⟨i,hi⟩:=List.getElem?_of_mem he;exact hall i e (by have:=(List.getElem?_eq_some_iff.1 hi).1;omega) hi
     clear hop2 hall hbE;have wa:IntKind.i64.wrap ((params.length:Int)+exprs.length)=(params.length:Int)+exprs.length:=(by rw[B9 (by omega) (by omega)]);have wb:IntKind.i64.wrap (((params.length:Int)+exprs.length)+kids.length)=((params.length:Int)+exprs.length)+kids.length:=(by rw[B9 (by omega) (by omega)]);have wc:IntKind.i64.wrap ((args.length:Int)+params.length)=(args.length:Int)+params.length:=(by rw[B9 (by omega) (by omega)]);have wd:IntKind.i64.wrap (((args.length:Int)+params.length)+kids.length)=((args.length:Int)+params.length)+kids.length:=(by rw[B9 (by omega) (by omega)]);have we:IntKind.i64.wrap (((args.length:Int)+params.length)+exprs.length)=((args.length:Int)+params.length)+exprs.length:=(by rw[B9 (by omega) (by omega)]);have wf:IntKind.i64.wrap ((args.length:Int)+exprs.length)=(args.length:Int)+exprs.length:=(by rw[B9 (by omega) (by omega)]);unfold LN at hF;simp only[BH,Ba,CK,Ce,CS,C5,Fh,E8,GO,DJ,Fi,A3]at hF;(repeat'(first|(with_reducible refine KB 12 ?_)|(first|refine AI λK hK=>?_|((first|refine Bp ?_|refine Qu (by decide+kernel) ?_);simp(maxSteps:=2000000) only[Ty.w,simprocAttr,g1,g3,hd,hlA,hlP,hlE,hlK,bne])|(refine Qt ?_;(try simp only[B2,simprocAttr]))|(refine DQ _ (by(try simp(maxSteps:=2000000) only[Ty.w,simprocAttr,g1,g3,hd,hlA,hlP,hlE,hlK,bne]);rfl) (λhb=>?_) (λhb=>?_)<;>(try simp only[BI,BQ,CE,simprocAttr]at hb)<;>(try(exfalso;omega)))|((first|refine hK _ _ ?_|(clear hK;refine hK _ _ ?_));clear hK;(try simp only[B2,simprocAttr])))));refine⟨?_⟩;refine bz (λS h3=>S 1= .cptr (Fm.mk op name args params exprs kids).cells/\S 5= .sc (.bool (!(name.data.toList==(#[]:Array UInt8).toList)))/\S 6= .sc (.int .i64 args.length)/\S 7= .sc (.int .i64 params.length)/\S 8= .sc (.int .i64 exprs.length)/\S 9= .sc (.int .i64 kids.length)/\h3=h2) ?_ ?_
     ·simp only[Ty.w,simprocAttr,g1,Fm.cells];try trivial
     (try clear zz);clear g1 g3 hd S hlA hlP hlE hlK;rintro S h2 ⟨g1,g5,g6,g7,g8,g9,rfl⟩;simp only[Fm.cells]at g1;cases k1:(op.data.toList==(#[97,116,111,109]:Array UInt8).toList)with
     |true=>
      simp only[k1,Bd,Bh,BL,AC,Ap,AD]at hF;generalize Ak name=bN at hN hF;cases bN with
      |false=>
       (try simp only[Ai,B5]at hF);subst hF;replace zz:=AJ g1 g5 g6 g7 g8 g9 yT yF wa wb wc (AS wd we wf k1);(repeat'(first|refine AI λK hK=>?_|refine uR zz ?_|(refine uN hK ?_;clear hK)|apply zI));refine uU zz (hN _) ?_;(repeat'(first|refine uT zz ?_|(refine uN hK ?_;clear hK)|apply zI));all_goals rfl
      |true=>
       (try simp only[Ah,C7]at hF);generalize args.all BS=bA at hA hF;cases bA with
       |false=>
        (try simp only[Ai,B5]at hF);subst hF;replace zz:=AJ g1 g5 g6 g7 g8 g9 yT yF wa wb wc (AS wd we wf k1);(repeat'(first|refine AI λK hK=>?_|refine uR zz ?_|(refine uN hK ?_;clear hK)|apply zI));refine uU zz (hN _) ?_;(try apply zI);refine uU zz (hA _) ?_;(repeat'(first|refine uT zz ?_|(refine uN hK ?_;clear hK)|apply zI));all_goals rfl
       |true=>
        (try simp only[Ah,C7]at hF);cases q2:((((params.length:Int)+exprs.length)+kids.length)==0)with
        |false=>
         simp only[q2,Ai,B5]at hF;subst hF;replace zz:=AJ g1 g5 g6 g7 g8 g9 yT yF wa wb wc (AV wd we wf k1 q2);(repeat'(first|refine AI λK hK=>?_|refine uR zz ?_|(refine uN hK ?_;clear hK)|apply zI));refine uU zz (hN _) ?_;(try apply zI);refine uU zz (hA _) ?_;(repeat'(first|refine uT zz ?_|(refine uN hK ?_;clear hK)|apply zI));all_goals rfl
        |true=>
         simp only[q2,Ah,C7]at hF;subst hF;replace zz:=AJ g1 g5 g6 g7 g8 g9 yT yF wa wb wc (AV wd we wf k1 q2);(repeat'(first|refine AI λK hK=>?_|refine uR zz ?_|(refine uN hK ?_;clear hK)|apply zI));refine uU zz (hN _) ?_;(try apply zI);refine uU zz (hA _) ?_;(repeat'(first|refine uT zz ?_|(refine uN hK ?_;clear hK)|apply zI));all_goals rfl
     |false=>
      simp only[k1,Bd,Bh,BL,AC,Ap,AD]at hF;cases k2:(op.data.toList==(#[115,97,109,101]:Array UInt8).toList)with
      |true=>
       simp only[k2,Bd,Bh,BL,AC,Ap,AD]at hF;cases q0:(name.data.toList==(#[]:Array UInt8).toList)with
       |false=>
        simp only[q0,Ai,B5]at hF;subst hF;replace zz:=AJ g1 g5 g6 g7 g8 g9 yT yF wa wb wc (AK wd we wf k1 k2 q0);(repeat'(first|refine AI λK hK=>?_|refine uR zz ?_|refine uT zz ?_|(refine uN hK ?_;clear hK)|apply zI));all_goals rfl
       |true=>
        simp only[q0,Ah,C7]at hF;cases q1:((args.length:Int)==2)with
        |false=>
         simp only[q1,Ai,B5]at hF;subst hF;replace zz:=AJ g1 g5 g6 g7 g8 g9 yT yF wa wb wc (AY wd we wf k1 k2 q0 q1);(repeat'(first|refine AI λK hK=>?_|refine uR zz ?_|refine uT zz ?_|(refine uN hK ?_;clear hK)|apply zI));all_goals rfl
        |true=>
         simp only[q1,Ah,C7]at hF;generalize args.all BS=bA at hA hF;cases bA with
         |false=>
          (try simp only[Ai,B5]at hF);subst hF;replace zz:=AJ g1 g5 g6 g7 g8 g9 yT yF wa wb wc (AY wd we wf k1 k2 q0 q1);(repeat'(first|refine AI λK hK=>?_|refine uR zz ?_|(refine uN hK ?_;clear hK)|apply zI));refine uU zz (hA _) ?_;(repeat'(first|refine uT zz ?_|(refine uN hK ?_;clear hK)|apply zI));all_goals rfl
         |true=>
          (try simp only[Ah,C7]at hF);cases q3:((((params.length:Int)+exprs.length)+kids.length)==0)with
          |false=>
           simp only[q3,Ai,B5]at hF;subst hF;replace zz:=AJ g1 g5 g6 g7 g8 g9 yT yF wa wb wc (B6 wd we wf k1 k2 q0 q1 q3);(repeat'(first|refine AI λK hK=>?_|refine uR zz ?_|(refine uN hK ?_;clear hK)|apply zI));refine uU zz (hA _) ?_;(repeat'(first|refine uT zz ?_|(refine uN hK ?_;clear hK)|apply zI));all_goals rfl
          |true=>
           simp only[q3,Ah,C7]at hF;subst hF;replace zz:=AJ g1 g5 g6 g7 g8 g9 yT yF wa wb wc (B6 wd we wf k1 k2 q0 q1 q3);(repeat'(first|refine AI λK hK=>?_|refine uR zz ?_|(refine uN hK ?_;clear hK)|apply zI));refine uU zz (hA _) ?_;(repeat'(first|refine uT zz ?_|(refine uN hK ?_;clear hK)|apply zI));all_goals rfl
      |false=>
       simp only[k2,Bd,Bh,BL,AC,Ap,AD]at hF;cases k3:(op.data.toList==(#[60]:Array UInt8).toList)with
       |true=>
        simp only[k3,Bd,Bh,BL,AC,Ap,AD]at hF;cases q0:(name.data.toList==(#[]:Array UInt8).toList)with
        |false=>
         simp only[q0,Ai,B5]at hF;subst hF;replace zz:=AJ g1 g5 g6 g7 g8 g9 yT yF wa wb wc (AY wd we wf k1 k2 k3 q0);(repeat'(first|refine AI λK hK=>?_|refine uR zz ?_|refine uT zz ?_|refine uK ?_|refine Aw zz ?_|(refine uN hK ?_;clear hK)|apply zI));all_goals rfl
        |true=>
         simp only[q0,Ah,C7]at hF;cases q1:((((args.length:Int)+params.length)+kids.length)==0)with
         |false=>
          simp only[q1,Ai,B5]at hF;subst hF;replace zz:=AJ g1 g5 g6 g7 g8 g9 yT yF wa wb wc (B6 wd we wf k1 k2 k3 q0 q1);(repeat'(first|refine AI λK hK=>?_|refine uR zz ?_|refine uT zz ?_|refine uK ?_|refine Aw zz ?_|(refine uN hK ?_;clear hK)|apply zI));all_goals rfl
         |true=>
          simp only[q1,Ah,C7]at hF;cases q2:((exprs.length:Int)==2)with
          |false=>
           simp only[q2,Ai,B5]at hF;subst hF;replace zz:=AJ g1 g5 g6 g7 g8 g9 yT yF wa wb wc (BR wd we wf k1 k2 k3 q0 q1 q2);(repeat'(first|refine AI λK hK=>?_|refine uR zz ?_|refine uT zz ?_|refine uK ?_|refine Aw zz ?_|(refine uN hK ?_;clear hK)|apply zI));all_goals rfl
          |true=>
           simp only[q2,Ah,C7]at hF;subst hF;replace zz:=AJ g1 g5 g6 g7 g8 g9 yT yF wa wb wc (BR wd we wf k1 k2 k3 q0 q1 q2);(repeat'(first|refine AI λK hK=>?_|refine uR zz ?_|refine uT zz ?_|refine uK ?_|refine Aw zz ?_|(refine uN hK ?_;clear hK)|apply zI));all_goals rfl
       |false=>
        simp only[k3,Bd,Bh,BL,AC,Ap,AD]at hF;cases k4:(op.data.toList==(#[60,61]:Array UInt8).toList)with
        |true=>
         simp only[k4,Bd,Bh,BL,AC,Ap,AD]at hF;cases q0:(name.data.toList==(#[]:Array UInt8).toList)with
         |false=>
          simp only[q0,Ai,B5]at hF;subst hF;replace zz:=AJ g1 g5 g6 g7 g8 g9 yT yF wa wb wc (B6 wd we wf k1 k2 k3 k4 q0);(repeat'(first|refine AI λK hK=>?_|refine uR zz ?_|refine uT zz ?_|refine uK ?_|refine Aw zz ?_|(refine uN hK ?_;clear hK)|apply zI));all_goals rfl
         |true=>
          simp only[q0,Ah,C7]at hF;cases q1:((((args.length:Int)+params.length)+kids.length)==0)with
          |false=>
           simp only[q1,Ai,B5]at hF;subst hF;replace zz:=AJ g1 g5 g6 g7 g8 g9 yT yF wa wb wc (BR wd we wf k1 k2 k3 k4 q0 q1);(repeat'(first|refine AI λK hK=>?_|refine uR zz ?_|refine uT zz ?_|refine uK ?_|refine Aw zz ?_|(refine uN hK ?_;clear hK)|apply zI));all_goals rfl
          |true=>
           simp only[q1,Ah,C7]at hF;cases q2:((exprs.length:Int)==2)with
           |false=>
            simp only[q2,Ai,B5]at hF;subst hF;replace zz:=AJ g1 g5 g6 g7 g8 g9 yT yF wa wb wc (Aq wd we wf k1 k2 k3 k4 q0 q1 q2);(repeat'(first|refine AI λK hK=>?_|refine uR zz ?_|refine uT zz ?_|refine uK ?_|refine Aw zz ?_|(refine uN hK ?_;clear hK)|apply zI));all_goals rfl
           |true=>
            simp only[q2,Ah,C7]at hF;subst hF;replace zz:=AJ g1 g5 g6 g7 g8 g9 yT yF wa wb wc (Aq wd we wf k1 k2 k3 k4 q0 q1 q2);(repeat'(first|refine AI λK hK=>?_|refine uR zz ?_|refine uT zz ?_|refine uK ?_|refine Aw zz ?_|(refine uN hK ?_;clear hK)|apply zI));all_goals rfl
        |false=>
         simp only[k4,Bd,Bh,BL,AC,Ap,AD]at hF;cases k5:(op.data.toList==(#[61]:Array UInt8).toList)with
         |true=>
          simp only[k5,Bd,Bh,BL,AC,Ap,AD]at hF;cases q0:(name.data.toList==(#[]:Array UInt8).toList)with
          |false=>
           simp only[q0,Ai,B5]at hF;subst hF;replace zz:=AJ g1 g5 g6 g7 g8 g9 yT yF wa wb wc (BR wd we wf k1 k2 k3 k4 k5 q0);(repeat'(first|refine AI λK hK=>?_|refine uR zz ?_|refine uT zz ?_|refine Aw zz ?_|(refine uN hK ?_;clear hK)|apply zI));all_goals rfl
          |true=>
           simp only[q0,Ah,C7]at hF;cases q1:((((args.length:Int)+params.length)+kids.length)==0)with
           |false=>
            simp only[q1,Ai,B5]at hF;subst hF;replace zz:=AJ g1 g5 g6 g7 g8 g9 yT yF wa wb wc (Aq wd we wf k1 k2 k3 k4 k5 q0 q1);(repeat'(first|refine AI λK hK=>?_|refine uR zz ?_|refine uT zz ?_|refine Aw zz ?_|(refine uN hK ?_;clear hK)|apply zI));all_goals rfl
           |true=>
            simp only[q1,Ah,C7]at hF;cases q2:((exprs.length:Int)==2)with
            |false=>
             simp only[q2,Ai,B5]at hF;subst hF;replace zz:=AJ g1 g5 g6 g7 g8 g9 yT yF wa wb wc (Cv wd we wf k1 k2 k3 k4 k5 q0 q1 q2);(repeat'(first|refine AI λK hK=>?_|refine uR zz ?_|refine uT zz ?_|refine Aw zz ?_|(refine uN hK ?_;clear hK)|apply zI));all_goals rfl
            |true=>
             simp only[q2,Ah,C7]at hF;subst hF;replace zz:=AJ g1 g5 g6 g7 g8 g9 yT yF wa wb wc (Cv wd we wf k1 k2 k3 k4 k5 q0 q1 q2);(repeat'(first|refine AI λK hK=>?_|refine uR zz ?_|refine uT zz ?_|refine Aw zz ?_|(refine uN hK ?_;clear hK)|apply zI));all_goals rfl
         |false=>
          simp only[k5,Bd,Bh,BL,AC,Ap,AD]at hF;cases k6:(op.data.toList==(#[97,110,100]:Array UInt8).toList)with
          |true=>
           simp only[k6,Bd,Bh,BL,AC,Ap,AD]at hF;cases q0:(name.data.toList==(#[]:Array UInt8).toList)with
           |false=>
            simp only[q0,Ai,B5]at hF;subst hF;replace zz:=AJ g1 g5 g6 g7 g8 g9 yT yF wa wb wc (Aq wd we wf k1 k2 k3 k4 k5 k6 q0);(repeat'(first|refine AI λK hK=>?_|refine uR zz ?_|refine uT zz ?_|refine uK ?_|refine Aw zz ?_|(refine uN hK ?_;clear hK)|apply zI));all_goals rfl
           |true=>
            simp only[q0,Ah,C7]at hF;cases q1:((((args.length:Int)+params.length)+exprs.length)==0)with
            |false=>
             simp only[q1,Ai,B5]at hF;subst hF;replace zz:=AJ g1 g5 g6 g7 g8 g9 yT yF wa wb wc (Cv wd we wf k1 k2 k3 k4 k5 k6 q0 q1);(repeat'(first|refine AI λK hK=>?_|refine uR zz ?_|refine uT zz ?_|refine uK ?_|refine Aw zz ?_|(refine uN hK ?_;clear hK)|apply zI));all_goals rfl
            |true=>
             simp only[q1,Ah,C7]at hF;subst hF;replace zz:=AJ g1 g5 g6 g7 g8 g9 yT yF wa wb wc (Cv wd we wf k1 k2 k3 k4 k5 k6 q0 q1);(repeat'(first|refine AI λK hK=>?_|refine uR zz ?_|refine uT zz ?_|refine uK ?_|refine Aw zz ?_|(refine uN hK ?_;clear hK)|apply zI));all_goals rfl
          |false=>
           simp only[k6,Bd,Bh,BL,AC,Ap,AD]at hF;cases k7:(op.data.toList==(#[111,114]:Array UInt8).toList)with
           |true=>
            simp only[k7,Bd,Bh,BL,AC,Ap,AD]at hF;cases q0:(name.data.toList==(#[]:Array UInt8).toList)with
            |false=>
             simp only[q0,Ai,B5]at hF;subst hF;replace zz:=AJ g1 g5 g6 g7 g8 g9 yT yF wa wb wc (Cv wd we wf k1 k2 k3 k4 k5 k6 k7 q0);(repeat'(first|refine AI λK hK=>?_|refine uR zz ?_|refine uT zz ?_|refine Aw zz ?_|(refine uN hK ?_;clear hK)|apply zI));all_goals rfl
            |true=>
             simp only[q0,Ah,C7]at hF;cases q1:((((args.length:Int)+params.length)+exprs.length)==0)with
             |false=>
              simp only[q1,Ai,B5]at hF;subst hF;replace zz:=AJ g1 g5 g6 g7 g8 g9 yT yF wa wb wc (AJ wd we wf k1 k2 k3 k4 k5 k6 k7 q0 q1);(repeat'(first|refine AI λK hK=>?_|refine uR zz ?_|refine uT zz ?_|refine Aw zz ?_|(refine uN hK ?_;clear hK)|apply zI));all_goals rfl
             |true=>
              simp only[q1,Ah,C7]at hF;subst hF;replace zz:=AJ g1 g5 g6 g7 g8 g9 yT yF wa wb wc (AJ wd we wf k1 k2 k3 k4 k5 k6 k7 q0 q1);(repeat'(first|refine AI λK hK=>?_|refine uR zz ?_|refine uT zz ?_|refine Aw zz ?_|(refine uN hK ?_;clear hK)|apply zI));all_goals rfl
           |false=>
            simp only[k7,Bd,Bh,BL,AC,Ap,AD]at hF;cases k8:(op.data.toList==(#[110,111,116]:Array UInt8).toList)with
            |true=>
             simp only[k8,Bd,Bh,BL,AC,Ap,AD]at hF;cases q0:(name.data.toList==(#[]:Array UInt8).toList)with
             |false=>
              simp only[q0,Ai,B5]at hF;subst hF;replace zz:=AJ g1 g5 g6 g7 g8 g9 yT yF wa wb wc (AJ wd we wf k1 k2 k3 k4 k5 k6 k7 k8 q0);(repeat'(first|refine AI λK hK=>?_|refine uR zz ?_|refine uT zz ?_|refine Aw zz ?_|(refine uN hK ?_;clear hK)|apply zI));all_goals rfl
             |true=>
              simp only[q0,Ah,C7]at hF;cases q1:((((args.length:Int)+params.length)+exprs.length)==0)with
              |false=>
               simp only[q1,Ai,B5]at hF;subst hF;replace zz:=AJ g1 g5 g6 g7 g8 g9 yT yF wa wb wc (AJ wd we wf k1 k2 k3 k4 k5 k6 k7 k8 (uu q0 q1));(repeat'(first|refine AI λK hK=>?_|refine uR zz ?_|refine uT zz ?_|refine Aw zz ?_|(refine uN hK ?_;clear hK)|apply zI));all_goals rfl
              |true=>
               simp only[q1,Ah,C7]at hF;cases q2:((kids.length:Int)==1)with
               |false=>
                simp only[q2,Ai,B5]at hF;subst hF;replace zz:=AJ g1 g5 g6 g7 g8 g9 yT yF wa wb wc (AJ wd we wf k1 k2 k3 k4 k5 k6 k7 k8 (Aj q0 q1 q2));(repeat'(first|refine AI λK hK=>?_|refine uR zz ?_|refine uT zz ?_|refine Aw zz ?_|(refine uN hK ?_;clear hK)|apply zI));all_goals rfl
               |true=>
                simp only[q2,Ah,C7]at hF;subst hF;replace zz:=AJ g1 g5 g6 g7 g8 g9 yT yF wa wb wc (AJ wd we wf k1 k2 k3 k4 k5 k6 k7 k8 (Aj q0 q1 q2));(repeat'(first|refine AI λK hK=>?_|refine uR zz ?_|refine uT zz ?_|refine Aw zz ?_|(refine uN hK ?_;clear hK)|apply zI));all_goals rfl
            |false=>
             simp only[k8,Bd,Bh,BL,AC,Ap,AD]at hF;cases k9:(op.data.toList==(#[105,109,112,108,121]:Array UInt8).toList)with
             |true=>
              simp only[k9,Bd,Bh,BL,AC,Ap,AD]at hF;cases q0:(name.data.toList==(#[]:Array UInt8).toList)with
              |false=>
               simp only[q0,Ai,B5]at hF;subst hF;replace zz:=AJ g1 g5 g6 g7 g8 g9 yT yF wa wb wc (AJ wd we wf k1 k2 k3 k4 k5 k6 k7 k8 (uu k9 q0));(repeat'(first|refine AI λK hK=>?_|refine uR zz ?_|refine uT zz ?_|refine Aw zz ?_|(refine uN hK ?_;clear hK)|apply zI));all_goals rfl
              |true=>
               simp only[q0,Ah,C7]at hF;cases q1:((((args.length:Int)+params.length)+exprs.length)==0)with
               |false=>
                simp only[q1,Ai,B5]at hF;subst hF;replace zz:=AJ g1 g5 g6 g7 g8 g9 yT yF wa wb wc (AJ wd we wf k1 k2 k3 k4 k5 k6 k7 k8 (Aj k9 q0 q1));(repeat'(first|refine AI λK hK=>?_|refine uR zz ?_|refine uT zz ?_|refine Aw zz ?_|(refine uN hK ?_;clear hK)|apply zI));all_goals rfl
               |true=>
                simp only[q1,Ah,C7]at hF;cases q2:((kids.length:Int)==2)with
                |false=>
                 simp only[q2,Ai,B5]at hF;subst hF;replace zz:=AJ g1 g5 g6 g7 g8 g9 yT yF wa wb wc (AJ wd we wf k1 k2 k3 k4 k5 k6 k7 k8 (AS k9 q0 q1 q2));(repeat'(first|refine AI λK hK=>?_|refine uR zz ?_|refine uT zz ?_|refine Aw zz ?_|(refine uN hK ?_;clear hK)|apply zI));all_goals rfl
                |true=>
                 simp only[q2,Ah,C7]at hF;subst hF;replace zz:=AJ g1 g5 g6 g7 g8 g9 yT yF wa wb wc (AJ wd we wf k1 k2 k3 k4 k5 k6 k7 k8 (AS k9 q0 q1 q2));(repeat'(first|refine AI λK hK=>?_|refine uR zz ?_|refine uT zz ?_|refine Aw zz ?_|(refine uN hK ?_;clear hK)|apply zI));all_goals rfl
             |false=>
              simp only[k9,Bd,Bh,BL,AC,Ap,AD]at hF;cases k10:(op.data.toList==(#[102,111,114,97,108,108]:Array UInt8).toList)with
              |true=>
               simp only[k10,Bd,Bh,BL,AC,Ap,AD]at hF;cases q0:(name.data.toList==(#[]:Array UInt8).toList)with
               |false=>
                simp only[q0,Ai,B5]at hF;subst hF;replace zz:=AJ g1 g5 g6 g7 g8 g9 yT yF wa wb wc (AJ wd we wf k1 k2 k3 k4 k5 k6 k7 k8 (Aj k9 k10 q0));(repeat'(first|refine AI λK hK=>?_|refine uR zz ?_|refine uT zz ?_|refine uK ?_|refine Aw zz ?_|(refine uN hK ?_;clear hK)|apply zI));all_goals rfl
               |true=>
                simp only[q0,Ah,C7]at hF;cases q1:(((args.length:Int)+exprs.length)==0)with
                |false=>
                 simp only[q1,Ai,B5]at hF;subst hF;replace zz:=AJ g1 g5 g6 g7 g8 g9 yT yF wa wb wc (AJ wd we wf k1 k2 k3 k4 k5 k6 k7 k8 (AS k9 k10 q0 q1));(repeat'(first|refine AI λK hK=>?_|refine uR zz ?_|refine uT zz ?_|refine uK ?_|refine Aw zz ?_|(refine uN hK ?_;clear hK)|apply zI));all_goals rfl
                |true=>
                 simp only[q1,Ah,C7]at hF;cases q2:((kids.length:Int)==1)with
                 |false=>
                  simp only[q2,Ai,B5]at hF;subst hF;replace zz:=AJ g1 g5 g6 g7 g8 g9 yT yF wa wb wc (AJ wd we wf k1 k2 k3 k4 k5 k6 k7 k8 (AV k9 k10 q0 q1 q2));(repeat'(first|refine AI λK hK=>?_|refine uR zz ?_|refine uT zz ?_|refine uK ?_|refine Aw zz ?_|(refine uN hK ?_;clear hK)|apply zI));all_goals rfl
                 |true=>
                  simp only[q2,Ah,C7]at hF;generalize params.all FC=bP at hP hF;cases bP with
                  |false=>
                   (try simp only[Ai,B5]at hF);subst hF;replace zz:=AJ g1 g5 g6 g7 g8 g9 yT yF wa wb wc (AJ wd we wf k1 k2 k3 k4 k5 k6 k7 k8 (AV k9 k10 q0 q1 q2));(repeat'(first|refine AI λK hK=>?_|refine uR zz ?_|refine uK ?_|refine Aw zz ?_|(refine uN hK ?_;clear hK)|apply zI));refine uU zz (hP _) ?_;(repeat'(first|refine uT zz ?_|(refine uN hK ?_;clear hK)|apply zI));all_goals rfl
                  |true=>
                   (try simp only[Ah,C7]at hF);subst hF;replace zz:=AJ g1 g5 g6 g7 g8 g9 yT yF wa wb wc (AJ wd we wf k1 k2 k3 k4 k5 k6 k7 k8 (AV k9 k10 q0 q1 q2));(repeat'(first|refine AI λK hK=>?_|refine uR zz ?_|refine uK ?_|refine Aw zz ?_|(refine uN hK ?_;clear hK)|apply zI));refine uU zz (hP _) ?_;(repeat'(first|refine uT zz ?_|(refine uN hK ?_;clear hK)|apply zI));all_goals rfl
              |false=>
               simp only[k10,Bd,Bh,BL,AC,Ap,AD]at hF;cases k11:(op.data.toList==(#[101,120,105,115,116,115]:Array UInt8).toList)with
               |true=>
                simp only[k11,Bd,Bh,BL,AC,Ap,AD]at hF;cases q0:(name.data.toList==(#[]:Array UInt8).toList)with
                |false=>
                 simp only[q0,Ai,B5]at hF;subst hF;replace zz:=AJ g1 g5 g6 g7 g8 g9 yT yF wa wb wc (AJ wd we wf k1 k2 k3 k4 k5 k6 k7 k8 (AS k9 k10 k11 q0));(repeat'(first|refine AI λK hK=>?_|refine uR zz ?_|refine uT zz ?_|refine Aw zz ?_|(refine uN hK ?_;clear hK)|apply zI));all_goals rfl
                |true=>
                 simp only[q0,Ah,C7]at hF;cases q1:(((args.length:Int)+exprs.length)==0)with
                 |false=>
                  simp only[q1,Ai,B5]at hF;subst hF;replace zz:=AJ g1 g5 g6 g7 g8 g9 yT yF wa wb wc (AJ wd we wf k1 k2 k3 k4 k5 k6 k7 k8 (AV k9 k10 k11 q0 q1));(repeat'(first|refine AI λK hK=>?_|refine uR zz ?_|refine uT zz ?_|refine Aw zz ?_|(refine uN hK ?_;clear hK)|apply zI));all_goals rfl
                 |true=>
                  simp only[q1,Ah,C7]at hF;cases q2:((kids.length:Int)==1)with
                  |false=>
                   simp only[q2,Ai,B5]at hF;subst hF;replace zz:=AJ g1 g5 g6 g7 g8 g9 yT yF wa wb wc (AJ wd we wf k1 k2 k3 k4 k5 k6 k7 k8 (AK k9 k10 k11 q0 q1 q2));(repeat'(first|refine AI λK hK=>?_|refine uR zz ?_|refine uT zz ?_|refine Aw zz ?_|(refine uN hK ?_;clear hK)|apply zI));all_goals rfl
                  |true=>
                   simp only[q2,Ah,C7]at hF;generalize params.all FC=bP at hP hF;cases bP with
                   |false=>
                    (try simp only[Ai,B5]at hF);subst hF;replace zz:=AJ g1 g5 g6 g7 g8 g9 yT yF wa wb wc (AJ wd we wf k1 k2 k3 k4 k5 k6 k7 k8 (AK k9 k10 k11 q0 q1 q2));(repeat'(first|refine AI λK hK=>?_|refine uR zz ?_|refine Aw zz ?_|(refine uN hK ?_;clear hK)|apply zI));refine uU zz (hP _) ?_;(repeat'(first|refine uT zz ?_|(refine uN hK ?_;clear hK)|apply zI));all_goals rfl
                   |true=>
                    (try simp only[Ah,C7]at hF);subst hF;replace zz:=AJ g1 g5 g6 g7 g8 g9 yT yF wa wb wc (AJ wd we wf k1 k2 k3 k4 k5 k6 k7 k8 (AK k9 k10 k11 q0 q1 q2));(repeat'(first|refine AI λK hK=>?_|refine uR zz ?_|refine Aw zz ?_|(refine uN hK ?_;clear hK)|apply zI));refine uU zz (hP _) ?_;(repeat'(first|refine uT zz ?_|(refine uN hK ?_;clear hK)|apply zI));all_goals rfl
               |false=>
                simp only[k11,Bd,Bh,BL,AC,Ap,AD]at hF;subst hF;replace zz:=AJ g1 g5 g6 g7 g8 g9 yT yF wa wb wc (AJ wd we wf k1 k2 k3 k4 k5 k6 k7 k8 (Aj k9 k10 k11));repeat'(first|refine AI λK hK=>?_|refine Bl ?_|refine uR zz ?_|refine uT zz ?_|refine uK ?_|refine Aw zz ?_|(refine uN hK ?_;clear hK)|apply zI)
end Go.Proofs.YtblgchkahpgdjaaGreat
