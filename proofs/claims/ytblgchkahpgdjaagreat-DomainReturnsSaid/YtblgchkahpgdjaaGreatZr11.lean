/- What the claim rests on, part 11: the abstract machine, contracts of the functions, plain data. -/
import Derived.Test.YtblgchkahpgdjaaGreatZr8
import Derived.Test.YtblgchkahpgdjaaGreatZr10
set_option linter.unusedVariables false
set_option linter.unusedSimpArgs false
set_option linter.unusedSectionVars false
namespace Go.AM
mutual
def Fm.small:Fm->Prop
 | .mk _ _ args params exprs kids=>args.length<=1048576/\params.length<=1048576/\Ex.smalls exprs/\kids.length<=1048576/\Fm.smalls kids
def Fm.smalls:List Fm->Prop
 |[]=>True
 |k::ks=>k.small/\Fm.smalls ks
end
theorem Fm.smalls_iff:{l:List Fm}->(Fm.smalls l↔ ∀ k∈l,k.small)
 |[]=>by simp[Fm.smalls]
 |k::ks=>by simp[Fm.smalls,Fm.smalls_iff (l:=ks)]
end Go.AM
namespace Go.Proofs.YtblgchkahpgdjaaGreat
open Go.AM Go.Proofs.Tryz
set_option maxHeartbeats 4000000
set_option maxRecDepth 20000
structure Gz(h:A0)(L:List Sx)(h':A0):Prop where
 grow:AC h h'
 ex: ∃ p H,h.next+1<h'.next/\h'.obj h.next=some (.arr 6 [[.sc (.int .i64 0),.sc (.int .i64 0),.sc (.int .i64 0),.sc (.int .i64 0),.sc (.string ⟨#[]⟩),.sc (.slice none 0 0)]])/\
  h'.obj (h.next+1)=some (.arr 6 [[.sc (.int .i64 3),.sc (.int .i64 0),.sc (.int .i64 0),.sc (.int .i64 0),.sc (.string ⟨#[]⟩),p]])/\Tl h' (h.next+2) 6 p (Sx.rows L)/\
  Dc h' p=some (H,Sx.rows L)/\Cw h' 6 p=true/\H.next=h'.next/\(∀ j,j<h.next+2->H.obj j=h'.obj j)/\AC h H/\p.cells=[p]/\CW p=true
theorem Gz.mk2{h h':A0}{L:List Sx}{p:PV}(g:AC h h')(hn:h.next+1<h'.next)(o1:h'.obj h.next=some (.arr 6 [[.sc (.int .i64 0),.sc (.int .i64 0),.sc (.int .i64 0),.sc (.int .i64 0),.sc (.string ⟨#[]⟩),.sc (.slice none 0 0)]]))(o2:h'.obj (h.next+1)=some (.arr 6 [[.sc (.int .i64 3),.sc (.int .i64 0),.sc (.int .i64 0),.sc (.int .i64 0),.sc (.string ⟨#[]⟩),p]]))(tl:Tl h' (h.next+2) 6 p (Sx.rows L)):Gz h L h':=by
 obtain⟨H,t1,t2,t3,t4,t5⟩:=tl.tail;have hk:=t5 h ⟨g.le,g.old⟩ (by omega);refine⟨g,p,H,hn,o1,o2,tl,t1,t2,t3,t4,⟨hk.1,hk.2⟩,?_,?_⟩
 ·rcases tl with⟨_,rfl|rfl⟩|⟨_,_,_,rfl,_⟩<;>rfl
 ·rcases tl with⟨_,rfl|rfl⟩|⟨_,_,_,rfl,_⟩<;>rfl
theorem Tl.low{h:A0}{a b z:Nat}{p:PV}{rows:List (List PV)}(t:Tl h a z p rows)(hab:b<=a):Tl h b z p rows:=by
 rcases t with ht|⟨id,h1,h2⟩
 ·exact .inl ht
 ·exact .inr ⟨id,by omega,h2⟩
theorem Gz.push{h h' H:A0}{L:List Sx}{X:Sx}{m:Nat}(hn:h.next+1<h'.next)(o1:h'.obj h.next=some (.arr 6 [[.sc (.int .i64 0),.sc (.int .i64 0),.sc (.int .i64 0),.sc (.int .i64 0),.sc (.string ⟨#[]⟩),.sc (.slice none 0 0)]]))(t3:H.next=h'.next)(t4: ∀ j,j<h.next+2->H.obj j=h'.obj j)(g:AC h H)(hm:m=L.length+1):
  Gz h (L++[X]) ((H.new (.arr 6 (Sx.rows L++[X.cells]))).set (h.next+1) (.arr 6 [[.sc (.int .i64 3),.sc (.int .i64 0),.sc (.int .i64 0),.sc (.int .i64 0),.sc (.string ⟨#[]⟩),.own h'.next 0 m]])):=by
 have e1:Sx.rows (L++[X])=Sx.rows L++[X.cells]:=by simp[Sx.rows_map]
 have n1:¬ h.next=h.next+1:=by omega
 have n2:¬ h.next=H.next:=by omega
 refine Gz.mk2 (p:= .own h'.next 0 m) ((g.new _).set (by omega) _) (by simp only[A0.set,A0.new];omega) ?_ ?_ ?_;rotate_left
 ·simp only[A0.set,AH]
 ·rw [e1, ← t3];have:Tl (H.new (.arr 6 (Sx.rows L++[X.cells]))) (h.next+2) 6 (.own H.next 0 m) (Sx.rows L++[X.cells]):=Tl.grow (by omega) (by rw[hm];simp[Sx.rows_len]);exact this.up (AD _) (λj hj _=>by simp only[A0.set];rw[A4 (by omega)])
 ·simp only[A0.set,A0.new,n1,n2,AP];rw[t4 _ (by omega)];exact o1
theorem j0{P:Program}{ow:Nat->Bool}{wf:FuncId->Bool}{n:Nat}{Q:BA}{s:A9}{h0:A0}{c:Code}(I:A0->Prop)(hi:I h0)(hh: ∀ h',I h'->Ad P ow wf n c Q s h'):Ad P ow wf n c Q s h0:=hh _ hi
theorem WT: ∀ f:Fm,f.small->D1 f=true-> ∀ h:A0,A6 prog 162 [.agg f.cells] h λr h'=>r= .agg (Am f).cells/\h'=h:=by
 refine Fm.ind ?_;intro op name args params exprs kids ih hsm hsh h;simp only[Fm.small]at hsm;obtain⟨hal,hpl,hes,hkl,hks⟩:=hsm;rw[Ex.smalls_iff]at hes;rw[Fm.smalls_iff]at hks;simp only[D1,AR]at hsh;obtain⟨⟨hpo,hse⟩,hsk⟩:=hsh;rw[Mh]at hsk;rw[Bq]at hse;have hlK:=Fm.rows_len kids;unfold Am;refine A6.frz Ty.Lf ?_;cases k1:(op.data.toList==(#[97,116,111,109]:Array UInt8).toList)with
 |true=>
  rw[AG (show A1 op Bk=true from k1)];have hw: ∀ h:A0,A6 prog 174 [A2 name,.imm 1 (AN args)] h λr h'=>r= .agg (Cn name args).cells/\h'=h:=λh=>RZ hal;have hfz:=λ(n:Nat)(h:A0)=>FZ n h (Cn name args);simp only[Fm.cells];generalize Cn name args=X at hw hfz⊢;obtain⟨ki,va,li,co,te,ks⟩:=X;simp only[Sx.cells]at hw hfz⊢;refine AE func162 ntmps162 results162 Ty.Lf ?_;refine wt k1 ?_;refine uU k1 (hw _) ?_;refine wt A3 ?_;refine⟨?_,((AC.refl h).new _).set (AD _) _⟩;simp only[AF];exact⟨_,rfl,hfz _ _⟩
 |false=>
  cases k2:(op.data.toList==(#[115,97,109,101]:Array UInt8).toList)with
  |true=>
   rw[A4 (by rw[(show A1 op Bk=false from k1)];simp)];rw[AG (show A1 op C9=true from k2)];have hw: ∀ h:A0,A6 prog 174 [A2 ⟨#[61]⟩,.imm 1 (AN args)] h λr h'=>r= .agg (Cn CR args).cells/\h'=h:=λh=>RZ hal;have hfz:=λ(n:Nat)(h:A0)=>FZ n h (Cn CR args);simp only[Fm.cells];generalize Cn CR args=X at hw hfz⊢;obtain⟨ki,va,li,co,te,ks⟩:=X;simp only[Sx.cells]at hw hfz⊢;refine AE func162 ntmps162 results162 Ty.Lf ?_;refine wt (uu k1 k2) ?_;refine uU (uu k1 k2) (hw _) ?_;refine wt A3 ?_;refine⟨?_,((AC.refl h).new _).set (AD _) _⟩;simp only[AF];exact⟨_,rfl,hfz _ _⟩
  |false=>
   rw[A4 (by rw[(show A1 op Bk=false from k1)];simp),A4 (by rw[(show A1 op C9=false from k2)];simp)];cases k3:(op.data.toList==(#[60]:Array UInt8).toList)with
   |true=>
    rw[AG (by simp[FJ,(show A1 op Bk=false from k1),(show A1 op C9=false from k2),(show A1 op D0=true from k3)])];have hx2:exprs.length=2:=(by have q:=hpo;simp[FK,Dp,(show A1 op Bk=false from k1),(show A1 op C9=false from k2),(show A1 op D0=true from k3)]at q;omega);obtain⟨a,b,rfl⟩: ∃ a b,exprs=[a,b]:=by
     match exprs,hx2 with
     |[a,b],_=>exact⟨a,b,rfl⟩
    have ca:=Kd a (hes a (by simp)) (hse a (by simp));have cb:=Kd b (hes b (by simp)) (hse b (by simp));have hw:=λh:A0=>Ka (h:=h) (s:=op);simp only[BS,B5];have hfz:=λ(n:Nat)(h:A0)=>FZ n h (AK [AA op,BE a,BE b]);have hl:=λh:A0=>Kb (h:=h) (p:= .imm 6 (Sx.rows [AA op,BE a,BE b])) rfl (λ_=>Js (ID _ _));generalize BE a=xa at ca hfz hl⊢;generalize BE b=xb at cb hfz hl⊢;clear ih hks hpo hse hsk hes;obtain⟨ER,aname,an,aargs,akids⟩:=a;obtain⟨bop,bname,bn,bargs,bkids⟩:=b;obtain⟨ki,va,li,co,te,ks⟩:=xa;obtain⟨ki2,va2,li2,co2,te2,ks2⟩:=xb;simp only[Fm.cells,Ex.cells,Ex.rows,AK,Sx.cells,Sx.rows,AA]at ca cb hw hfz hl⊢;refine AE func162 ntmps162 results162 Ty.Lf ?_;refine wy (AV k1 k2 k3) ?_;(first|refine uV A3 (hw _) ?_|refine uA A3 (hw _) ?_);refine wy A3 ?_;(first|refine uV A3 (ca _) ?_|refine uA A3 (ca _) ?_);refine wy A3 ?_;(first|refine uV A3 (cb _) ?_|refine uA A3 (cb _) ?_);refine wy A3 ?_;(first|refine uV A3 (hl _) ?_|refine uA A3 (hl _) ?_);refine wy A3 ?_;refine⟨?_,((AC.refl h).new _).set (AD _) _⟩;simp only[AF];exact⟨_,rfl,hfz _ _⟩
   |false=>
    cases k4:(op.data.toList==(#[60,61]:Array UInt8).toList)with
    |true=>
     rw[AG (by simp[FJ,(show A1 op Bk=false from k1),(show A1 op C9=false from k2),(show A1 op D0=false from k3),(show A1 op DN=true from k4)])];have hx2:exprs.length=2:=(by have q:=hpo;simp[FK,Dp,(show A1 op Bk=false from k1),(show A1 op C9=false from k2),(show A1 op D0=false from k3),(show A1 op DN=true from k4)]at q;omega);obtain⟨a,b,rfl⟩: ∃ a b,exprs=[a,b]:=by
      match exprs,hx2 with
      |[a,b],_=>exact⟨a,b,rfl⟩
     have ca:=Kd a (hes a (by simp)) (hse a (by simp));have cb:=Kd b (hes b (by simp)) (hse b (by simp));have hw:=λh:A0=>Ka (h:=h) (s:=op);simp only[BS,B5];have hfz:=λ(n:Nat)(h:A0)=>FZ n h (AK [AA op,BE a,BE b]);have hl:=λh:A0=>Kb (h:=h) (p:= .imm 6 (Sx.rows [AA op,BE a,BE b])) rfl (λ_=>Js (ID _ _));generalize BE a=xa at ca hfz hl⊢;generalize BE b=xb at cb hfz hl⊢;clear ih hks hpo hse hsk hes;obtain⟨ER,aname,an,aargs,akids⟩:=a;obtain⟨bop,bname,bn,bargs,bkids⟩:=b;obtain⟨ki,va,li,co,te,ks⟩:=xa;obtain⟨ki2,va2,li2,co2,te2,ks2⟩:=xb;simp only[Fm.cells,Ex.cells,Ex.rows,AK,Sx.cells,Sx.rows,AA]at ca cb hw hfz hl⊢;refine AE func162 ntmps162 results162 Ty.Lf ?_;replace zz:=Aa k1 k2 k3 k4;refine wy zz ?_;(first|refine uV A3 (hw _) ?_|refine uA A3 (hw _) ?_);refine wy A3 ?_;(first|refine uV A3 (ca _) ?_|refine uA A3 (ca _) ?_);refine wy A3 ?_;(first|refine uV A3 (cb _) ?_|refine uA A3 (cb _) ?_);refine wy A3 ?_;(first|refine uV A3 (hl _) ?_|refine uA A3 (hl _) ?_);refine wy A3 ?_;refine⟨?_,((AC.refl h).new _).set (AD _) _⟩;simp only[AF];exact⟨_,rfl,hfz _ _⟩
    |false=>
     cases k5:(op.data.toList==(#[61]:Array UInt8).toList)with
     |true=>
      rw[AG (by simp[FJ,(show A1 op Bk=false from k1),(show A1 op C9=false from k2),(show A1 op D0=false from k3),(show A1 op DN=false from k4),(show A1 op CR=true from k5)])];have hx2:exprs.length=2:=(by have q:=hpo;simp[FK,Dp,(show A1 op Bk=false from k1),(show A1 op C9=false from k2),(show A1 op D0=false from k3),(show A1 op DN=false from k4),(show A1 op CR=true from k5)]at q;omega);obtain⟨a,b,rfl⟩: ∃ a b,exprs=[a,b]:=by
       match exprs,hx2 with
       |[a,b],_=>exact⟨a,b,rfl⟩
      have ca:=Kd a (hes a (by simp)) (hse a (by simp));have cb:=Kd b (hes b (by simp)) (hse b (by simp));have hw:=λh:A0=>Ka (h:=h) (s:=op);simp only[BS,B5];have hfz:=λ(n:Nat)(h:A0)=>FZ n h (AK [AA op,BE a,BE b]);have hl:=λh:A0=>Kb (h:=h) (p:= .imm 6 (Sx.rows [AA op,BE a,BE b])) rfl (λ_=>Js (ID _ _));generalize BE a=xa at ca hfz hl⊢;generalize BE b=xb at cb hfz hl⊢;clear ih hks hpo hse hsk hes;obtain⟨ER,aname,an,aargs,akids⟩:=a;obtain⟨bop,bname,bn,bargs,bkids⟩:=b;obtain⟨ki,va,li,co,te,ks⟩:=xa;obtain⟨ki2,va2,li2,co2,te2,ks2⟩:=xb;simp only[Fm.cells,Ex.cells,Ex.rows,AK,Sx.cells,Sx.rows,AA]at ca cb hw hfz hl⊢;refine AE func162 ntmps162 results162 Ty.Lf ?_;replace zz:=As k1 k2 k3 k4 k5;refine wy zz ?_;(first|refine uV A3 (hw _) ?_|refine uA A3 (hw _) ?_);refine wy A3 ?_;(first|refine uV A3 (ca _) ?_|refine uA A3 (ca _) ?_);refine wy A3 ?_;(first|refine uV A3 (cb _) ?_|refine uA A3 (cb _) ?_);refine wy A3 ?_;(first|refine uV A3 (hl _) ?_|refine uA A3 (hl _) ?_);refine wy A3 ?_;refine⟨?_,((AC.refl h).new _).set (AD _) _⟩;simp only[AF];exact⟨_,rfl,hfz _ _⟩
     |false=>
      rw[A4 (by simp[FJ,(show A1 op D0=false from k3),(show A1 op DN=false from k4),(show A1 op CR=false from k5)])];clear hse hes hpo;simp only[Fm.cells];refine AE func162 ntmps162 results162 Ty.Lf ?_;replace zz:=As k1 k2 k3 k4 k5;refine wt zz ?_;refine uU k1 (Kb (p:= .sc (.slice none 0 0)) rfl (λ_=>by simp only[AF])) ?_;refine xH 11 k1 ?_;refine⟨?_⟩;refine j0 (Gz h []) ?_ (λH0 hI=>?_)
      ·refine Gz.mk2 (p:= .sc (.slice none 0 0)) ((((AC.refl h).new _).new _).set (by omega) _) (by simp[A0.new,A0.set]) (by simp[A0.new,A0.set]) (by simp[A0.new,A0.set]) Tl.nil
      refine DA (λS h'=>S 1= .cptr (Fm.mk op name args params exprs kids).cells/\S 2= .ptr h.next 0 0/\S 3= .ptr (h.next+1) 0 0/\Gz h (if(A1 op Bc&&kids.isEmpty)=true then[]else[AA op]) h') ?_ ?_
      ·have n6:A1 op Bc=(op.data.toList==(#[97,110,100]:Array UInt8).toList):=rfl;cases k6:(op.data.toList==(#[97,110,100]:Array UInt8).toList)with
       |false=>
        rw[A4 (by rw[n6,k6];simp)];obtain⟨hg,p,H,hn,o1,o2,tl,t1,t2,t3,t4,hgH,hpc,hp1⟩:=hI;have hw: ∀ (s:ByteArray)(h:A0),A6 prog 136 [A2 s] h λr h'=>r= .agg (AA s).cells/\h'=h:=λs h=>Ka;simp only[AA,Sx.cells,Sx.rows]at hw;have o2H:H.obj (h.next+1)=_:=(t4 _ (by omega)).trans o2;have n2:(h.next+1=H.next)=False:=(by simp;omega);have hpr:(Sx.rows ([]:List Sx)).length=0:=rfl;have hpush:=λX:Sx=>Gz.push (L:=[]) (X:=X) (m:=1) hn o1 t3 t4 hgH rfl;generalize Sx.rows []=R at t1 hpr hpush;replace zz:=B7 k6 yF o2 o2H n2 t1 t2 hpr hpc hp1;refine wy zz ?_;replace zz:=Aa k6 yF o2 o2H;(first|refine uV zz (hw op _) ?_|refine uA zz (hw op _) ?_);replace zz:=B7 k6 yF o2 o2H n2 t1 t2 hpr hpc hp1;repeat'(first|refine cK ?_|refine nK ?_|refine uB zz ?_|(rw[AG];rotate_left 1;omega;simp only[Ty.w,simprocAttr,k6,C4,o2,o2H,n2,t1,t2,hpr,hpc,hp1])|apply zI)
        (simp only[Ty.w,simprocAttr,Ty.AW,Fm.cells])
        exact hpush (AA op)
       |true=>
        cases q6:decide ((kids.length:Int)>0)with
        |false=>
         have hk0:kids.isEmpty=true:=(by cases kids with|nil=>rfl|cons a l=>simp at q6);rw[AG (by rw[n6,k6,hk0];try rfl)];replace zz:=Aa k6 q6 hlK yT;refine wt zz ?_
         (simp only[Ty.w,simprocAttr,Ty.AW,Fm.cells])
         exact hI
        |true=>
         have hk0:kids.isEmpty=false:=(by cases kids with|nil=>simp at q6|cons a l=>rfl);rw[A4 (by rw[hk0];simp)];obtain⟨hg,p,H,hn,o1,o2,tl,t1,t2,t3,t4,hgH,hpc,hp1⟩:=hI;have hw: ∀ (s:ByteArray)(h:A0),A6 prog 136 [A2 s] h λr h'=>r= .agg (AA s).cells/\h'=h:=λs h=>Ka;simp only[AA,Sx.cells,Sx.rows]at hw;have o2H:H.obj (h.next+1)=_:=(t4 _ (by omega)).trans o2;have n2:(h.next+1=H.next)=False:=(by simp;omega);have hpr:(Sx.rows ([]:List Sx)).length=0:=rfl;have hpush:=λX:Sx=>Gz.push (L:=[]) (X:=X) (m:=1) hn o1 t3 t4 hgH rfl;generalize Sx.rows []=R at t1 hpr hpush;replace zz:=AY k6 q6 hlK yT o2 o2H n2 t1 t2 hpr hpc hp1;refine wy zz ?_;replace zz:=Aq k6 q6 hlK yT o2 o2H;(first|refine uV zz (hw op _) ?_|refine uA zz (hw op _) ?_);replace zz:=AY k6 q6 hlK yT o2 o2H n2 t1 t2 hpr hpc hp1;repeat'(first|refine cK ?_|refine nK ?_|refine uB zz ?_|(rw[AG];rotate_left 1;omega;simp only[Ty.w,simprocAttr,k6,q6,hlK,Ap,o2,o2H,n2,t1,t2,hpr,hpc,hp1])|apply zI)
         (simp only[Ty.w,simprocAttr,Ty.AW,Fm.cells])
         exact hpush (AA op)
      ·clear hI;obtain⟨L0,hL0,hl0⟩: ∃ L0:List Sx,(if(A1 op Bc&&kids.isEmpty)=true then[]else[AA op])=L0/\L0.length<=1:=⟨_,rfl,by split<;>simp⟩;rw[hL0];rintro S h' ⟨g1,g2,g3,hI⟩;simp only[Fm.cells]at g1;refine xH 13 (AV g1 g2 g3) ?_;refine⟨?_⟩;refine DA (λS h'=>S 1= .cptr (Fm.mk op name args params exprs kids).cells/\S 2= .ptr h.next 0 0/\S 3= .ptr (h.next+1) 0 0/\Gz h (L0++(if Dy op=true then[AK (AX params)]else[])) h') ?_ ?_
       ·have n7:A1 op DH=(op.data.toList==(#[102,111,114,97,108,108]:Array UInt8).toList):=rfl;have n8:A1 op HK=(op.data.toList==(#[101,120,105,115,116,115]:Array UInt8).toList):=rfl;cases k7:(op.data.toList==(#[102,111,114,97,108,108]:Array UInt8).toList)with
        |true=>
         rw[AG (by simp[Dy,n7,n8,k7])];obtain⟨hg,p,H,hn,o1,o2,tl,t1,t2,t3,t4,hgH,hpc,hp1⟩:=hI;have hwp:=Rh (l:=params) hpl;have hli: ∀ h:A0,A6 prog 175 [.imm 6 (Sx.rows (AX params))] h λr h'=>r= .agg (AK (AX params)).cells/\h'=h:=λh=>Kb rfl (λ_=>Js (ID _ _));generalize hX:AK (AX params)=X at hli⊢;clear hX;generalize Sx.rows (AX params)=PR at hwp hli;have o2H:H.obj (h.next+1)=_:=(t4 _ (by omega)).trans o2;have n2:(h.next+1=H.next)=False:=(by simp;omega);have hpr:=Sx.rows_len L0;have hpush:=Gz.push (L:=L0) (X:=X) (m:=L0.length+1) hn o1 t3 t4 hgH rfl;generalize Sx.rows L0=R at t1 hpr hpush;have hb:(L0.length+1)*72<=140737488355328:=(by omega);obtain⟨ki,va,li,co,te,ks⟩:=X;simp only[Sx.cells]at hli hpush;replace zz:=AY g1 g2 g3 k7 o2 o2H n2 t1 t2 hpr hpc (uu hp1 hb);refine wy zz ?_;replace zz:=Aq g1 g2 g3 k7 o2 o2H;(first|refine uV zz (hwp _) ?_|refine uA zz (hwp _) ?_);replace zz:=AY g1 g2 g3 k7 o2 o2H n2 t1 t2 hpr hpc (uu hp1 hb);refine wy zz ?_;replace zz:=Aq g1 g2 g3 k7 o2 o2H;(first|refine uV zz (hli _) ?_|refine uA zz (hli _) ?_);replace zz:=AY g1 g2 g3 k7 o2 o2H n2 t1 t2 hpr hpc (uu hp1 hb);repeat'(first|refine cK ?_|refine nK ?_|refine uB zz ?_|(rw[AG];rotate_left 1;omega;simp only[Ty.w,simprocAttr,g1,g2,g3,k7,o2,o2H,n2,t1,t2,hpr,hpc,hp1,hb])|apply zI)
         (simp only[Ty.w,simprocAttr,Ty.AW,g1,g2,g3,Fm.cells])
         exact hpush
        |false=>
         cases k8:(op.data.toList==(#[101,120,105,115,116,115]:Array UInt8).toList)with
         |true=>
          rw[AG (by simp[Dy,n7,n8,k8])];obtain⟨hg,p,H,hn,o1,o2,tl,t1,t2,t3,t4,hgH,hpc,hp1⟩:=hI;have hwp:=Rh (l:=params) hpl;have hli: ∀ h:A0,A6 prog 175 [.imm 6 (Sx.rows (AX params))] h λr h'=>r= .agg (AK (AX params)).cells/\h'=h:=λh=>Kb rfl (λ_=>Js (ID _ _));generalize hX:AK (AX params)=X at hli⊢;clear hX;generalize Sx.rows (AX params)=PR at hwp hli;have o2H:H.obj (h.next+1)=_:=(t4 _ (by omega)).trans o2;have n2:(h.next+1=H.next)=False:=(by simp;omega);have hpr:=Sx.rows_len L0;have hpush:=Gz.push (L:=L0) (X:=X) (m:=L0.length+1) hn o1 t3 t4 hgH rfl;generalize Sx.rows L0=R at t1 hpr hpush;have hb:(L0.length+1)*72<=140737488355328:=(by omega);obtain⟨ki,va,li,co,te,ks⟩:=X;simp only[Sx.cells]at hli hpush;replace zz:=AY g1 g2 g3 k7 k8 o2 o2H n2 t1 t2 hpr (AV hpc hp1 hb);refine wy zz ?_;replace zz:=Ag g1 g2 g3 k7 k8 o2 o2H;(first|refine uV zz (hwp _) ?_|refine uA zz (hwp _) ?_);replace zz:=AY g1 g2 g3 k7 k8 o2 o2H n2 t1 t2 hpr (AV hpc hp1 hb);refine wy zz ?_;replace zz:=Ag g1 g2 g3 k7 k8 o2 o2H;(first|refine uV zz (hli _) ?_|refine uA zz (hli _) ?_);replace zz:=AY g1 g2 g3 k7 k8 o2 o2H n2 t1 t2 hpr (AV hpc hp1 hb);repeat'(first|refine cK ?_|refine nK ?_|refine uB zz ?_|(rw[AG];rotate_left 1;omega;simp only[Ty.w,simprocAttr,g1,g2,g3,k7,k8,o2,o2H,n2,t1,t2,hpr,hpc,hp1,hb])|apply zI)
          (simp only[Ty.w,simprocAttr,Ty.AW,g1,g2,g3,Fm.cells])
          exact hpush
         |false=>
          rw[A4 (by simp[Dy,n7,n8,k7,k8]),J5];replace zz:=As g1 g2 g3 k7 k8;refine wt zz ?_
          (simp only[Ty.w,simprocAttr,Ty.AW,g1,g2,g3,Fm.cells])
          exact hI
       ·clear hI g1 g2 g3;obtain⟨L1,hL1,hl1⟩: ∃ L1:List Sx,L0++(if Dy op=true then[AK (AX params)]else[])=L1/\L1.length<=2:=⟨_,rfl,by split<;>simp<;>omega⟩;rw[hL1];rw[Mi];clear hL1 hL0 hl0;rintro S h' ⟨g1,g2,g3,hI⟩;simp only[Fm.cells]at g1;have hrl: ∀ k,(L1++(kids.take k).map Am).length<=1048578:=λk=>(by simp;omega);replace zz:=Aa g1 g2 g3 hlK;refine wt zz ?_;refine Cd (λc S h'=>S 2= .ptr h.next 0 0/\S 3= .ptr (h.next+1) 0 0/\S 75= .imm 6 (Fm.rows kids)/\S 76= .sc (.int .i64 kids.length)/\ ∃ k:Nat,S 77= .sc (.int .i64 k)/\k<=kids.length/\c=kids.length-k/\Gz h (L1++(kids.take k).map Am) h') kids.length ?_ ?_
        ·simp only[Ty.w,simprocAttr,g2,g3];refine⟨0,rfl,by omega,rfl,?_⟩;simpa using hI
        ·clear hI g1 g2 g3;rintro c S h' ⟨g2,g3,g75,g76,k,g77,hk,rfl,hI⟩;by_cases hlt:k<kids.length
         ·have hdk:decide ((k:Int)<(kids.length:Int))=true:=(by simp;omega);have w7:IntKind.i64.wrap ((k:Int)+1)=k+1:=(by rw[Br (by omega) (by omega)]);obtain⟨x,hx⟩: ∃ x,kids[k]? =some x:=⟨_,AU hlt⟩;have hmem:=C7 hx;have hr:=Fm.rows_get hx;have hcx:=ih x hmem (hks x hmem) (hsk x hmem);have hL:L1++(kids.take (k+1)).map Am=L1++(kids.take k).map Am++[Am x]:=(by rw[Jc,hx];simp);have hrk:=hrl k;generalize L1++(kids.take k).map Am=L2 at hI hrk hL;obtain⟨hg,p,H,hn,o1,o2,tl,t1,t2,t3,t4,hgH,hpc,hp1⟩:=hI;generalize Am x=X at hcx hL;obtain⟨xo,xn,xa,xp,xe,xk⟩:=x;obtain⟨ki,va,li,co,te,ks⟩:=X;simp only[Fm.cells,Sx.cells]at hr hcx;clear t1 t2 t3 t4 hgH H;have hG2:AC h ((h'.new (.arr 6 [[.sc (.string ⟨#[]⟩),.sc (.string ⟨#[]⟩),.sc (.slice none 0 0),.sc (.slice none 0 0),.sc (.slice none 0 0),.sc (.slice none 0 0)]])).set h'.next (.arr 6 [[A2 xo,A2 xn,.imm 1 (AN xa),.imm 2 (A7 xp),.imm 5 (Ex.rows xe),.imm 6 (Fm.rows xk)]])):=(hg.new _).set hg.le _;have m1:¬ h.next=h'.next:=by omega
          have m2:¬ h.next+1=h'.next:=by omega
          have m2':(h.next+1=h'.next)=False:=B4 m2;have tl2:=tl.up (h':=((h'.new (.arr 6 [[.sc (.string ⟨#[]⟩),.sc (.string ⟨#[]⟩),.sc (.slice none 0 0),.sc (.slice none 0 0),.sc (.slice none 0 0),.sc (.slice none 0 0)]])).set h'.next (.arr 6 [[A2 xo,A2 xn,.imm 1 (AN xa),.imm 2 (A7 xp),.imm 5 (Ex.rows xe),.imm 6 (Fm.rows xk)]]))) (by simp[A0.set,A0.new]) λj _ hj=>(by simp only[A0.set,A0.new];rw[A4 (by omega),A4 (by omega)]);obtain⟨H,t1,t2,t3,t4,t5⟩:=tl2.tail;have hgH:=t5 h ⟨hG2.le,hG2.old⟩ (by omega);have o1x:((h'.new (.arr 6 [[.sc (.string ⟨#[]⟩),.sc (.string ⟨#[]⟩),.sc (.slice none 0 0),.sc (.slice none 0 0),.sc (.slice none 0 0),.sc (.slice none 0 0)]])).set h'.next (.arr 6 [[A2 xo,A2 xn,.imm 1 (AN xa),.imm 2 (A7 xp),.imm 5 (Ex.rows xe),.imm 6 (Fm.rows xk)]])).obj h.next=some (.arr 6 [[.sc (.int .i64 0),.sc (.int .i64 0),.sc (.int .i64 0),.sc (.int .i64 0),.sc (.string ⟨#[]⟩),.sc (.slice none 0 0)]]):=by simp only[A0.set,A0.new,m1,AP];exact o1
          have o2H:H.obj (h.next+1)=_:=(t4 _ (by omega)).trans (show((h'.new (.arr 6 [[.sc (.string ⟨#[]⟩),.sc (.string ⟨#[]⟩),.sc (.slice none 0 0),.sc (.slice none 0 0),.sc (.slice none 0 0),.sc (.slice none 0 0)]])).set h'.next (.arr 6 [[A2 xo,A2 xn,.imm 1 (AN xa),.imm 2 (A7 xp),.imm 5 (Ex.rows xe),.imm 6 (Fm.rows xk)]])).obj (h.next+1)=_ by simp only[A0.set,A0.new,m2,AP];exact o2);have t3':H.next=h'.next+1:=by rw[t3];simp[A0.new,A0.set]
          have n2:(h.next+1=H.next)=False:=(by simp;omega);have hpr:=Sx.rows_len L2;have hpush:=Gz.push (h':=((h'.new (.arr 6 [[.sc (.string ⟨#[]⟩),.sc (.string ⟨#[]⟩),.sc (.slice none 0 0),.sc (.slice none 0 0),.sc (.slice none 0 0),.sc (.slice none 0 0)]])).set h'.next (.arr 6 [[A2 xo,A2 xn,.imm 1 (AN xa),.imm 2 (A7 xp),.imm 5 (Ex.rows xe),.imm 6 (Fm.rows xk)]]))) (L:=L2) (X:= .mk ki va li co te ks) (m:=L2.length+1) (by simp only[A0.set,A0.new];omega) o1x t3 t4 ⟨hgH.1,hgH.2⟩ rfl;have hb:(L2.length+1)*72<=140737488355328:=(by omega);simp only[Sx.cells]at hpush;clear tl tl2 t5;generalize Sx.rows L2=R at t1 hpr hpush;replace zz:=AY g2 g3 g75 g76 g77 hdk hr m2' o2 o2H n2 (Aq t1 t2 hpr hpc hp1 hb);refine wy zz ?_;replace zz:=BO g2 g3 g75 g76 g77 m2' o2 o2H;(first|refine uV zz (hcx _) ?_|refine uA zz (hcx _) ?_);replace zz:=AY g2 g3 g75 g76 g77 w7 m2' o2 o2H n2 t1 (As t2 hpr hpc hp1 hb);(repeat'(first|refine cK ?_|refine nK ?_|refine uR zz ?_|(refine uN hK ?_;clear hK)|refine uB zz ?_|(rw[AG];rotate_left 1;omega;simp only[Ty.w,simprocAttr,g2,g3,g75,g76,g77,w7,m2',o2,o2H,n2,t1,t2,hpr,hpc,hp1,hb])|apply zI));exact⟨kids.length-(k+1),by omega,k+1,by simp,by omega,rfl,by rw[hL];exact hpush⟩
         ·have hdk:decide ((k:Int)<(kids.length:Int))=false:=(by simp;omega);have hke:k=kids.length:=(by omega);subst hke;rw[J7]at hI;obtain⟨hg,p,H,hn,o1,o2,tl,t1,t2,t3,t4,hgH,hpc,hp1⟩:=hI;replace zz:=BK g2 g3 g75 g76 g77 hdk o1 o2 hpc;(repeat'(first|refine cK ?_|refine nK ?_|refine Ae λK hK=>?_|refine uR zz ?_|refine uT zz ?_|refine uX ?_|refine Bo zz ?_|(refine uN hK ?_;clear hK)|(clear hK;refine uN hK ?_;clear hK)|(rw[AG];rotate_left 1;omega;simp only[Ty.w,simprocAttr,g2,g3,g75,g76,g77,hdk,o1,o2,hpc])|apply zI));refine⟨?_,hg.set (AD _) _⟩;have tl2:Tl (h'.set h.next (.arr 6 [[.sc (.int .i64 3),.sc (.int .i64 0),.sc (.int .i64 0),.sc (.int .i64 0),.sc (.string ⟨#[]⟩),p]])) (h.next+2) 6 p (Sx.rows (L1++kids.map Am)):=tl.up (AD _) λj hj _=>(by simp only[A0.set];rw[A4 (by omega)]);simp only[AK,Sx.cells,AF,AL];exact⟨_,rfl,rfl,rfl,rfl,rfl,rfl,by have:=Rg (Tl.low tl2 (show h.next<=h.next+2 by omega));simpa only[AF]using this,trivial⟩
theorem Kp: ∀ l:List Pm,(∀ p∈l,p.ok)->Sx.oks (AX l)
 |[],_=>by simp[AX,Sx.oks]
 |p::l,h=>by
  have hp:=h p (by simp);simp only[AX,Sx.oks];exact⟨Dj hp.1,Dj (by simp[AJ,ByteArray.size]),Dj hp.2,Kp l λq hq=>h q (by simp[hq])⟩
theorem j1{op name:ByteArray}{args:List ByteArray}{params:List Pm}{ne nk:Nat}(h1:¬ A1 op Bk=true)(h2:¬ A1 op C9=true)(h3:FJ op=true)(hp:FK op name args params ne nk=true):ne=2:=by
 unfold FK Dp at hp;rw[A4 h1,A4 h2]at hp;simp only[FJ,DG]at h3;by_cases k1:A1 op D0=true
 ·simp [k1]at hp;omega
 by_cases k2:A1 op DN=true
 ·simp [k1,k2]at hp;omega
 have k3:A1 op CR=true:=by rcases h3 with(h3|h3)|h3<;>simp_all
 simp[k1,k2,k3]at hp;omega
theorem WU: ∀ f:Fm,f.ok->f.small->D1 f=true->(Am f).ok:=by
 refine Fm.ind ?_;intro op name args params exprs kids ih hok hsm hsh;simp only[Fm.ok]at hok;simp only[Fm.small]at hsm;simp only[D1,AR]at hsh;obtain⟨⟨hpo,_⟩,hsh⟩:=hsh;rw[Mh]at hsh;obtain⟨hop,hname,hargs,⟨_,hps⟩,⟨_,hes⟩,_,hks⟩:=hok;obtain⟨hal,hpl,hse,hkl,hsk⟩:=hsm;rw[Fm.oks_iff]at hks;rw[Ex.oks_iff]at hes;have hse:=Ex.smalls_iff.1 hse;have hsk:=Fm.smalls_iff.1 hsk;unfold Am;split
 ·exact Ph hname hal hargs.2
 split
 ·exact Ph (by simp[CR,AJ,ByteArray.size]) hal hargs.2
 split
 ·rename_i c1 c2 c3;have h2:=j1 c1 c2 c3 hpo;refine Fy (by simp only[Aw,E4];unfold AJ;omega) (Sx.oks_iff.2 ?_);intro k hk;simp only[D7,Er]at hk;rcases hk with rfl|⟨e,he,rfl⟩
  ·exact Dj hop
  ·exact Re e (hes e he) (hse e he)
 ·rw [Mi];refine Fy ?_ (Sx.oks_iff.2 ?_)
  ·simp only[DZ,E4];have a1:(if(A1 op Bc&&kids.isEmpty)=true then[]else[AA op]).length<=1:=(by split<;>simp);have a2:(if Dy op=true then[AK (AX params)]else[]).length<=1:=(by split<;>simp);unfold AJ;omega
  ·intro k hk;simp only[DY,Er]at hk;rcases hk with(hk|hk)|⟨e,he,rfl⟩
   ·split at hk
    ·simp at hk
    ·simp only[GV]at hk;subst hk;exact Dj hop
   ·split at hk
    ·simp only[GV]at hk;subst hk;exact Fy (by rw[Gu];unfold AJ;omega) (Kp _ hps)
    ·simp at hk
   ·exact ih e he (hks e he) (hsk e he) (hsh e he)
theorem WV: ∀ (l:List Ex)(d n:Nat),(GG l d n).1=true-> ∀ e∈l,Ey e=true
 |[],_,_,_=>by simp
 |e::l,d,n,h=>by
  unfold GG at h;have h1:=O5 e d n;split at h
  ·rename_i c he;rw[he]at h1;intro x hx;rcases D7.1 hx with rfl|hx
   ·exact h1 rfl
   ·exact WV l d c h x hx
  ·simp at h
mutual
theorem OF: ∀ (f:Fm)(d n:Nat),(Ez f d n).1=true->D1 f=true
 | .mk op name args params exprs kids,d,n,h=>by
  unfold Ez at h;split at h
  ·split at h
   ·rename_i hp;have h1:=WV exprs (d+1) (n+1);split at h
    ·rename_i c he;rw[he]at h1;simp only[D1,AR,Bq];exact⟨⟨hp,h1 rfl⟩,WW kids (d+1) c h⟩
    ·simp at h
   ·simp at h
  ·simp at h
theorem WW: ∀ (l:List Fm)(d n:Nat),(G7 l d n).1=true->Jt l=true
 |[],_,_,_=>by simp[Jt]
 |k::l,d,n,h=>by
  unfold G7 at h;have h1:=OF k d n;split at h
  ·rename_i c he;rw[he]at h1;simp only[Jt,AR];exact⟨h1 rfl,WW l d c h⟩
  ·simp at h
end
theorem WX{f:Fm}(hok:f.ok)(hsm:f.small)(h:A0):A6 prog 161 [.agg f.cells] h λr h'=>r= .sc (.bool (BU f))/\h'=h:=by
 have hf:=iz f hok 0 0 (by omega) (by omega) h.next (h.new (.arr 1 [[.sc (.int .i64 0)]])) (by simp[A0.new,Ct])
 have hsh:=OF f 0 0;have hx:=WU f hok hsm;have hw0:=WT f hsm;have hv:BU f=((Ez f 0 0).1&&(CL (Am f) 0 0).1):=rfl;rw[hv];refine A6.quiet Ty.RO ?_;generalize Ez f 0 0=V at hf hsh⊢;obtain⟨b,c⟩:=V;cases b with
 |false=>
  obtain⟨op,name,args,params,exprs,kids⟩:=f;simp only[Fm.cells,Qd]at hf⊢;refine uG (ow:=λt=>t==5) (wf:=λ_=>false) func161 ntmps161 results161 Ty.RO ?_;refine wt A3 ?_;refine D5 (hf) (sr A3) ?_;simp only[Ty.w,simprocAttr];refine wt A3 ?_;exact((AC.refl h).new _).set (AD _) _
 |true=>
  have hw:=hw0 (hsh rfl);have hvv:=JI (hx (hsh rfl))
  clear hw0;generalize Am f=X at hw hvv⊢;obtain⟨op,name,args,params,exprs,kids⟩:=f;obtain⟨ki,va,li,co,te,ks⟩:=X;simp only[Fm.cells,Sx.cells,Qd]at hf hw hvv⊢;refine uG (ow:=λt=>t==5) (wf:=λ_=>false) func161 ntmps161 results161 Ty.RO ?_;refine wt A3 ?_;refine D5 (hf) (sr A3) ?_;simp only[Ty.w,simprocAttr];refine wt A3 ?_;refine uU A3 (hw _) ?_;refine wt A3 ?_;refine uU A3 (hvv _) ?_;refine wt A3 ?_;exact((AC.refl h).new _).set (AD _) _
theorem j2{f:Fm}(hok:f.ok)(hsm:f.small)(h:A0):A6 prog 141 [.agg f.cells] h λr h'=>r=(if BU f then .tup [.agg (Am f).cells,.sc .nilIface]else .tup [.agg IE.cells,Aj 2])/\h'=h:=by
 have hv:=WX hok hsm;refine A6.frz Ty.RL ?_;cases hb:BU f with
 |false=>
  rw[hb]at hv;obtain⟨op,name,args,params,exprs,kids⟩:=f;simp only[Fm.cells,BG,AP]at hv⊢;refine AE func141 ntmps141 results141 Ty.RL ?_;refine wt A3 ?_;refine uU yF (hv _) ?_;refine wt yF ?_;refine⟨?_,((AC.refl h).new _).set (AD _) _⟩;simp only[IE,Aj,Sx.cells,Sx.rows,AF,AL];exact⟨_,rfl,⟨_,rfl,rfl,rfl,rfl,rfl,rfl,.inr (.inl ⟨rfl,.inr rfl⟩),trivial⟩,rfl,trivial⟩
 |true=>
  rw[hb]at hv;have hsh:=OF f 0 0 (by unfold BU at hb;simp only[AR]at hb;exact hb.1);have hw:=WT f hsm hsh;have hfz:=λ(n:Nat)(h:A0)=>FZ n h (Am f);generalize Am f=X at hw hfz⊢;obtain⟨op,name,args,params,exprs,kids⟩:=f;obtain⟨ki,va,li,co,te,ks⟩:=X;simp only[Fm.cells,Sx.cells,AH]at hv hw hfz⊢;refine AE func141 ntmps141 results141 Ty.RL ?_;refine wt A3 ?_;refine uU yT (hv _) ?_;refine wt yT ?_;refine uU A3 (hw _) ?_;refine wt A3 ?_;refine⟨?_,((AC.refl h).new _).set (AD _) _⟩;simp only[AF,AL];exact⟨_,rfl,⟨_,rfl,hfz _ _⟩,rfl,trivial⟩
end Go.Proofs.YtblgchkahpgdjaaGreat
namespace Go.Proofs.YtblgchkahpgdjaaGreat
open Go.AM Go.Proofs.Tryz
set_option maxHeartbeats 2000000
set_option maxRecDepth 20000
def LJ(q:At->Bool)(l:List At):Int:=match l.findIdx? q with
 |some i=>i
 |none=> -1
end Go.Proofs.YtblgchkahpgdjaaGreat
namespace Go.AM
def Vl.ok(v:Vl):Prop:=v.at_.ok/\ -9223372036854775808<=v.n/\v.n<=9223372036854775807
def Pb.ok(p:Pb):Prop:=p.name.size<=AJ/\p.domain.size<=AJ/\(p.objects.length<=AJ/\ ∀ o∈p.objects,o.ok)/\(p.init.length<=AJ/\ ∀ a∈p.init,a.ok)/\(p.values.length<=AJ/\ ∀ v∈p.values,v.ok)/\p.goal.ok
end Go.AM
namespace Go.Proofs.YtblgchkahpgdjaaGreat
open Go.AM Go.Proofs.Tryz
set_option maxHeartbeats 4000000
set_option maxRecDepth 20000
def Q2(o:Pm):Bool:=An o.name&&Gd o.type
end Go.Proofs.YtblgchkahpgdjaaGreat
namespace Go.AM
mutual
def Ex.nodes:Ex->Nat
 | .mk _ _ _ _ kids=>Ex.nodess kids+1
def Ex.nodess:List Ex->Nat
 |[]=>0
 |k::ks=>k.nodes+Ex.nodess ks
end
mutual
def Fm.nodes:Fm->Nat
 | .mk _ _ _ _ exprs kids=>Ex.nodess exprs+Fm.nodess kids+1
def Fm.nodess:List Fm->Nat
 |[]=>0
 |k::ks=>k.nodes+Fm.nodess ks
end
theorem Mn: ∀ l:List ByteArray,Ee l l=true
 |[]=>rfl
 |a::l=>by simp[Ee,A1,Mn l]
theorem JM: ∀ l:List Pm,DL l l=true
 |[]=>rfl
 |a::l=>by simp[DL,PL,A1,JM l]
end Go.AM
namespace Go.Proofs.YtblgchkahpgdjaaGreat
open Go.AM Go.Proofs.Tryz
theorem Iw{f:Fm}(h:BU f=true):D1 f=true:=by
 unfold BU at h;simp only[AR]at h;exact OF f 0 0 h.1
theorem GI:Ce.ok/\Ce.small:=by
 simp only[Ce,Fm.ok,Fm.oks,Ex.oks,Fm.small,Fm.smalls,Ex.smalls,Bw];refine⟨⟨by simp[AJ,ByteArray.size],by simp[AJ,ByteArray.size],⟨by simp,by simp⟩,⟨by simp,by simp⟩,⟨by simp,trivial⟩,by simp,trivial⟩,by omega,by omega,trivial,by omega,trivial⟩
theorem OG{x:Sx}(h:x.ok):(Ah x).size<=AJ:=by
 obtain⟨_,_,_,_,t,_⟩:=x;simp only[Sx.ok]at h;exact h.2.2.1
theorem SR{t:ByteArray}{l:List ByteArray}(ht:t.size<=AJ)(hl: ∀ s∈l,s.size<=AJ): ∀ p∈Bi t l,p.ok:=by
 intro p hp;simp only[Bi,Er]at hp;obtain⟨s,hs,rfl⟩:=hp;exact⟨hl s hs,ht⟩
theorem SS(t:ByteArray)(l:List ByteArray):(Bi t l).length=l.length:=by simp[Bi]
theorem WY:Dd.size<=AJ:=by simp[Dd,AJ,ByteArray.size]
theorem SU(vars:Bool): ∀ (n:Nat)(l:List Sx),l.length<=n->(∀ x∈l,x.ok)-> ∀ (don:List Pm)(pen:List ByteArray),(∀ p∈don,p.ok)->(∀ s∈pen,s.size<=AJ)->
  (∀ p∈(EN vars l don pen).1,p.ok)/\(EN vars l don pen).1.length<=don.length+pen.length+l.length:=by
 intro n
 induction n with
 |zero=>
  intro l hl _ don pen hd hp
  match l,hl with
  |[],_=>
   unfold EN;simp only[DY,DZ,SS,Bw];exact⟨λp h=>h.elim (hd p) (SR WY hp p),by omega⟩
 |succ n ihn=>
  intro l hl hx don pen hd hp
  match l,hl,hx with
  |[],_,_=>
   unfold EN;simp only[DY,DZ,SS,Bw];exact⟨λp h=>h.elim (hd p) (SR WY hp p),by omega⟩
  |x::l,hl,hx=>
   have hxo:=hx x (by simp);have hlo: ∀ y∈l,y.ok:=λy hy=>hx y (by simp[hy]);unfold EN;cases Hh x with
   |false=>simp
   |true=>
    simp only[AB];cases A1 (Ah x) Fx with
    |true=>
     simp only[AB];cases l with
     |nil=>simp
     |cons t l'=>
      simp only;cases(!pen.isEmpty&&Hh t)with
      |false=>simp
      |true=>
       cases Gd (Ah t)with
       |false=>simp
       |true=>
        simp only[AB];have:=ihn l' (by simp at hl;omega) (λy hy=>hlo y (by simp[hy])) (don++Bi (Ah t) pen) [] (λp h=>(DY.1 h).elim (hd p) (SR (OG (hlo t (by simp))) hp p)) (by simp);refine⟨this.1,EE this.2 ?_⟩;simp only[DZ,SS,Bw,Aw];omega
    |false=>
     simp only[AI];cases(bif vars then Eg (Ah x)else An (Ah x))with
     |false=>simp
     |true=>
      simp only[AB];have:=ihn l (by simp at hl;omega) hlo don (pen++[Ah x]) hd (λs h=>(DY.1 h).elim (hp s) (λh=>by simp at h;rw[h];exact OG hxo));refine⟨this.1,EE this.2 ?_⟩;simp only[DZ,Bw,Aw];omega
theorem K0{op name:ByteArray}{args:List ByteArray}{params:List Pm}{exprs:List Ex}{kids:List Fm}(h1:op.size<=AJ)(h2:name.size<=AJ)(h3:args.length<=1048576)(h4: ∀ s∈args,s.size<=AJ)(h5:params.length<=1048576)(h6: ∀ p∈params,p.ok)
  (h7:exprs.length<=2)(h8: ∀ e∈exprs,e.ok/\e.small)(h9:kids.length<=1048576)(h10: ∀ k∈kids,k.ok/\k.small):(Fm.mk op name args params exprs kids).ok/\(Fm.mk op name args params exprs kids).small:=by
 simp only[Fm.ok,Fm.small];rw[Fm.oks_iff,Ex.oks_iff,Ex.smalls_iff,Fm.smalls_iff];refine⟨⟨h1,h2,⟨by unfold AJ;omega,h4⟩,⟨by unfold AJ;omega,h6⟩,⟨by unfold AJ;omega,λe he=>(h8 e he).1⟩,by unfold AJ;omega,λk hk=>(h10 k hk).1⟩,h3,h5,λe he=>(h8 e he).2,h9,λk hk=>(h10 k hk).2⟩
theorem OH:(⟨#[]⟩:ByteArray).size<=AJ:=by simp[AJ,ByteArray.size]
theorem j3{r:Fm × Int}(h:r.1.ok/\r.1.small):(Ck r).1.ok/\(Ck r).1.small:=by
 unfold Ck;cases r.2==0 with
 |true=>exact h
 |false=>exact GI
theorem j4{w:ByteArray}{x y:Sx}(hw:w.size<=AJ)(hx:x.ok)(hy:y.ok)(sx:x.small)(sy:y.small):(Hi w x y).1.ok/\(Hi w x y).1.small:=by
 have ex:=Pk x hx sx;have ey:=Pk y hy sy;unfold Hi;cases(A1 w CR&&Ax x==1&&Ax y==1)with
 |true=>
  have ht:=O8 (l:=[x,y]) (by simp[hx,hy]);simp only[Aw,Bw]at ht;exact K0 (by simp[C9,AJ,ByteArray.size]) OH (by omega) ht.1 (by simp) (by simp) (by simp) (by simp) (by simp) (by simp)
 |false=>
  simp only[AI];cases(BV x).2==0 with
  |false=>exact GI
  |true=>
   cases(BV y).2==0 with
   |false=>exact GI
   |true=>
    simp only[AB];have h2: ∀ a b:Ex,(a.ok/\a.small)->(b.ok/\b.small)-> ∀ o:ByteArray,o.size<=AJ->(Fm.mk o ⟨#[]⟩ [] [] [a,b] []).ok/\(Fm.mk o ⟨#[]⟩ [] [] [a,b] []).small:=λa b ha hb o ho=>
     K0 ho OH (by simp) (by simp) (by simp) (by simp) (by simp) (by simp only[D7,Gn,HE];rintro e (rfl|rfl);exact ha;exact hb) (by simp) (by simp)
    split
    ·exact h2 _ _ ey ex _ (by simp[D0,AJ,ByteArray.size])
    ·split
     ·exact h2 _ _ ey ex _ (by simp[DN,AJ,ByteArray.size])
     ·exact h2 _ _ ex ey _ hw
theorem WZ: ∀ (l:List Sx),(∀ k∈l,(Cf k).1.ok/\(Cf k).1.small)->(∀ f∈(D6 l).1,f.ok/\f.small)/\(D6 l).1.length<=l.length
 |[],_=>by simp[D6]
 |x::l,h=>by
  have h1:=WZ l λk hk=>h k (by simp[hk]);have h2:=h x (by simp);simp only[D6];generalize Cf x=r at h2;obtain⟨f,c⟩:=r;simp only at h2⊢;cases c==0 with
  |false=>simp
  |true=>
   simp only[AB];generalize D6 l=r at h1;obtain⟨fs,c'⟩:=r;simp only at h1⊢;cases c'==0 with
   |false=>simp
   |true=>
    simp only[AB,D7,Aw];exact⟨λg hg=>hg.elim (λe=>by rw[e];exact h2) (h1.1 g),by omega⟩
theorem Wa: ∀ x:Sx,x.ok->x.small->(Cf x).1.ok/\(Cf x).1.small:=by
 refine Sx.ind ?_;intro kind value line col text kids ih hok hsm;simp only[Sx.ok]at hok;obtain⟨_,_,_,hkl,hks⟩:=hok
 clear hkl;rw[Sx.oks_iff]at hks;simp only[Sx.small]at hsm;obtain⟨hl,hss⟩:=hsm;rw[Sx.smalls_iff]at hss;have sub: ∀ l:List Sx,(∀ k∈l,k∈kids)->(∀ f∈(D6 l).1,f.ok/\f.small)/\(D6 l).1.length<=l.length:=λl h=>WZ l λk hk=>ih k (h k hk) (hks k (h k hk)) (hss k (h k hk));unfold Cf;split
 ·cases kids with
  |nil=>exact K0 (by simp[Bc,AJ,ByteArray.size]) OH (by simp) (by simp) (by simp) (by simp) (by simp) (by simp) (by simp) (by simp)
  |cons x rest=>
   simp only;have hxt:=OG (hks x (by simp));simp only[Aw]at hl;cases Ax x==1 with
   |false=>exact GI
   |true=>
    simp only[AB];cases(decide (EA (Ah x)>=0)&&!(decide (EA (Ah x)=rest.length)))with
    |true=>exact GI
    |false=>
     simp only[AI];cases Dy (Ah x)with
     |true=>
      simp only[AB];cases rest with
      |nil=>exact GI
      |cons p body=>
       simp only;cases Ax p==3 with
       |false=>exact GI
       |true=>
        simp only[AB];have hpo:=hks p (by simp);have hps:=hss p (by simp);have hb:=sub body λk hk=>(by simp[hk]);simp only[Aw]at hl;have hpp:(∀ q∈(Bt true (CA p)).1,q.ok)/\(Bt true (CA p)).1.length<=1048576:=by
         obtain⟨_,_,_,_,_,pk⟩:=p;simp only[Sx.ok]at hpo;simp only[Sx.small]at hps;have:=SU true pk.length pk (AD _) (Sx.oks_iff.1 hpo.2.2.2.2) [] [] (by simp) (by simp);simp only[Bw]at this;exact⟨this.1,by have:=this.2;simp only[Bt,CA];omega⟩
        cases(Bt true (CA p)).2==0 with
        |false=>exact GI
        |true=>
         simp only[AB];generalize D6 body=r at hb;obtain⟨ks,c⟩:=r;simp only at hb⊢;cases c==0 with
         |false=>exact GI
         |true=>exact K0 hxt OH (by simp) (by simp) hpp.2 hpp.1 (by simp) (by simp) (by omega) hb.1
     |false=>
      simp only[AI];cases Fa (Ah x)with
      |true=>
       simp only[AB];have hb:=sub rest λk hk=>(by simp[hk]);generalize D6 rest=r at hb;obtain⟨ks,c⟩:=r;simp only at hb⊢;cases c==0 with
       |false=>exact GI
       |true=>exact K0 hxt OH (by simp) (by simp) (by simp) (by simp) (by simp) (by simp) (by omega) hb.1
      |false=>
       simp only[AI];cases EU (Ah x)with
       |true=>
        simp only[AB];split
        ·rename_i a b;exact j3 (j4 hxt (hks a (by simp)) (hks b (by simp)) (hss a (by simp)) (hss b (by simp)))
        ·exact GI
       |false=>
        simp only[AI];cases An (Ah x)with
        |false=>exact GI
        |true=>
         have ht:=O8 (l:=rest) λy hy=>hks y (by simp[hy]);simp only[AB];cases(CF rest).2==0 with
         |false=>exact GI
         |true=>exact K0 (by simp[Bk,AJ,ByteArray.size]) hxt (by omega) ht.1 (by simp) (by simp) (by simp) (by simp) (by simp) (by simp)
 ·exact GI
def Cg(x:Sx):Fm × Int:=
 if(CL x 0 0).1=true then(if(Cf x).2=0 then(if BU (Cf x).1=true then((Cf x).1,0)else(Ce,5))else(Ce,(Cf x).2))else(Ce,2)
theorem SV{x:Sx}(hok:x.ok):(Cg x).1.ok/\(Cg x).1.small:=by
 unfold Cg;split
 ·rename_i h;split
  ·split
   ·exact Wa x hok (Kf h)
   ·exact GI
  ·exact GI
 ·exact GI
theorem OI{f:Fm}(h:BU f=true):Cg (Am f)=(f,0):=by
 have hs:=Iw h;have h2:=h;unfold BU at h2;simp only[AR]at h2;unfold Cg;rw[AG h2.2,gE f hs];simp[h]
end Go.Proofs.YtblgchkahpgdjaaGreat
namespace Go.Proofs.YtblgchkahpgdjaaGreat
open Go.AM Go.Proofs.Tryz
def DB(n:Int):Sx:= .mk 2 n 0 0 ⟨#[]⟩ []
def Wb(w s:ByteArray):Sx:=AK [AA w,AA s]
def Kq:Sx->Int
 | .mk _ v _ _ _ _=>v
def HN(x:Sx)(want:ByteArray):ByteArray × Int:=match Bd x with
 |some (w,rest)=>bif A1 w want then(match rest with
  |[r]=>bif Ax r==1 then(bif An (Ah r)then(Ah r,0)else(⟨#[]⟩,8))else(⟨#[]⟩,2)
  |_=>(⟨#[]⟩,2))else(⟨#[]⟩,2)
 |none=>(⟨#[]⟩,2)
def Bv:Fm:= .mk Bc ⟨#[]⟩ [] [] [] []
def IK:List ByteArray->ByteArray->Option (List ByteArray)
 |[],_=>none
 |o::l,w=>bif A1 o w then some l else IK l w
theorem kW(s:ByteArray):Ax (AA s)=1:=rfl
theorem tW(s:ByteArray):Ah (AA s)=s:=rfl
theorem Mw{w:ByteArray}{l:List Sx}:Bd (AK (AA w::l))=some (w,l):=by
 simp[Bd,AK,kW,tW]
theorem G8(s:ByteArray):A1 s s=true:=by simp[A1]
theorem j5{w s:ByteArray}(h:An s=true):HN (Wb w s) w=(s,0):=by
 unfold HN Wb;rw[Mw];simp[G8,kW,tW,h]
theorem Wc: ∀ (l:List Pm)(don:List Pm),(∀ o∈l,Q2 o=true)->EN false (AX l) don []=(don++l,0)
 |[],don,_=>by simp[AX,EN,Bi]
 |p::l,don,h=>by
  have h1:=h p (by simp);have h2: ∀ o∈l,Q2 o=true:=λo ho=>h o (by simp[ho]);unfold Q2 at h1;simp only[AR]at h1;have g1:=VR h1.1;have g2:A1 p.name Fx=false:=IF h1.1 (by decide);have t1: ∀ s:ByteArray,Ah (AA s)=s:=λ_=>rfl;have w1:Hh (AA ⟨#[45]⟩)=true:=Mm (by decide);have w2:A1 (⟨#[45]⟩:ByteArray) Fx=true:=by decide
  simp only[AX];rw[EN,Mm g1,t1,g2,h1.1];simp only[AB,AI,Au];rw[EN,w1,t1,w2];simp only[AB,Mm (VT h1.2),t1,h1.2];simp only[NJ,C4,B8,AB,Bi,BS,B5];rw[Wc l _ h2];simp
theorem j6{l:List Pm}(h: ∀ o∈l,Q2 o=true):Bt false (AX l)=(l,0):=by
 unfold Bt;rw[Wc l [] h];rfl
end Go.Proofs.YtblgchkahpgdjaaGreat
namespace Go.Proofs.YtblgchkahpgdjaaGreat
open Go.AM Go.Proofs.Tryz
set_option maxRecDepth 4000
def HO:ByteArray:=⟨#[119,104,101,110]⟩
def JQ:ByteArray:=⟨#[97,115,115,105,103,110]⟩
def JR:ByteArray:=⟨#[105,110,99,114,101,97,115,101]⟩
def JS:ByteArray:=⟨#[100,101,99,114,101,97,115,101]⟩
structure Dk where
 params:List Pm
 whens:List Fm
def Q3:List Fm->Fm
 |[]=>Bv
 |[f]=>f
 |l=> .mk Bc ⟨#[]⟩ [] [] [] l
def F5(S:Dk)(k:Int)(n:ByteArray)(a:List ByteArray)(v:Ex):Ch:=⟨k,S.params,Q3 S.whens,n,a,v⟩
def Fe(w:ByteArray):Int:=bif A1 w JQ then 3 else bif A1 w JR then 4 else bif A1 w JS then 5 else 0
def EV(x:Sx):ByteArray × List ByteArray × Int:=match Bd x with
 |none=>(⟨#[]⟩,[],2)
 |some (w,rest)=>bif An w then(bif (CF rest).2==0 then(w,(CF rest).1,0)else(⟨#[]⟩,[],(CF rest).2))else(⟨#[]⟩,[],8)
def GJ(S:Dk)(k:Int):List Sx->List Ch × Int
 |[a,e]=>bif (EV a).2.2==0 then(bif (Gw e).2==0 then([F5 S k (EV a).1 (EV a).2.1 (Gw e).1],0)else([],(Gw e).2))else([],(EV a).2.2)
 |_=>([],2)
def Ix(S:Dk)(k:Int)(a:Sx):List Ch × Int:=bif (EV a).2.2==0 then([F5 S k (EV a).1 (EV a).2.1 Bs],0)else([],(EV a).2.2)
mutual
def Ci:Sx->Dk->List Ch × Int
 | .mk kind v l c t kids,S=>bif kind==3 then(match kids with
   |[]=>([],0)
   | x :: rest => bif Ax x == 1 then
     (bif !(Fe (Ah x)==0)then GJ S (Fe (Ah x)) rest
     else bif A1 (Ah x) HO then(match rest with
      |[f,e]=>bif (Cg f).2==0 then Ci e ⟨S.params,S.whens++[(Cg f).1]⟩else([],(Cg f).2)
      |_=>([],2))
     else bif A1 (Ah x) DH then(match rest with
      |[p,e]=>bif Ax p==3 then(bif (Bt true (CA p)).2==0 then Ci e ⟨S.params++(Bt true (CA p)).1,S.whens⟩else([],(Bt true (CA p)).2))else([],2)
      |_=>([],2))
     else bif A1 (Ah x) Bc then Ek rest S
     else bif A1 (Ah x) DD then(match rest with
      |[a]=>Ix S 2 a
      |_=>([],2))
     else Ix S 1 (.mk kind v l c t (x::rest)))
    else([],2))else([],2)
def Ek:List Sx->Dk->List Ch × Int
 |[],_=>([],0)
 |x::l,S=>match Ci x S with
  | (a, c) => bif c == 0 then (match Ek l S with
   |(b,c')=>bif c'==0 then(a++b,0)else([],c'))else([],c)
end
def Bp(f:Fm):Bool:=f.same Bv
def BQ(f:Fm):Sx:=bif BU f then Am f else .mk 0 0 0 0 ⟨#[]⟩ []
def Iy(e:Ex):Sx:=bif EL e then BE e else .mk 0 0 0 0 ⟨#[]⟩ []
def JT(k:Int):ByteArray:=bif k==3 then JQ else bif k==4 then JR else JS
def IL(c:Ch):Sx:=bif c.kind==1 then Cn c.name c.args else bif c.kind==2 then AK [AA DD,Cn c.name c.args]
 else bif c.kind==3||c.kind==4||c.kind==5 then AK [AA (JT c.kind),Cn c.name c.args,Iy c.value]else Cn c.name c.args
def IM(c:Ch):Sx:=bif Bp c.cond then IL c else AK [AA HO,BQ c.cond,IL c]
def El(c:Ch):Sx:=bif c.params.isEmpty then IM c else AK [AA DH,AK (AX c.params),IM c]
def BJ(vars:Bool)(p:Pm):Bool:=(bif vars then Eg p.name else An p.name)&&(A1 p.type Dd||An p.type)
def C2(c:Ch):Bool:=An c.name&&c.args.all C8&&(bif c.kind==1||c.kind==2 then c.value.same Bs else(bif c.kind==3||c.kind==4||c.kind==5 then EL c.value else false))&&(Bp c.cond||BU c.cond)&&c.params.all (BJ true)
def CJ(l:List Ch):Sx:=bif l.isEmpty then AK []else AK (AA Bc::l.map El)
def GK(l:List Ch):Bool:=l.all C2&&(CL (CJ l) 0 0).1
def EW(x:Sx):List Ch × Int:=
 if(CL x 0 0).1=true then(if(Ci x ⟨[],[]⟩).2=0 then(if GK (Ci x ⟨[],[]⟩).1=true then((Ci x ⟨[],[]⟩).1,0)else([],5))else([],(Ci x ⟨[],[]⟩).2))else([],2)
end Go.Proofs.YtblgchkahpgdjaaGreat
namespace Go.Proofs.YtblgchkahpgdjaaGreat
open Go.AM Go.Proofs.Tryz
set_option maxHeartbeats 8000000
set_option maxRecDepth 20000
def IN(c:Ch):Fm:= .mk Bk c.name c.args [] [] []
def JU(c:Ch):Bool:=!(decide (c.kind<1))&&(!(decide (5<c.kind))&&(c.params.all (IG true)&&(D1 c.cond&&(D1 (IN c)&&(bif decide (c.kind<=2)then c.value.same Bs else Ey c.value)))))
end Go.Proofs.YtblgchkahpgdjaaGreat
namespace Go.Proofs.YtblgchkahpgdjaaGreat
open Go.AM Go.Proofs.Tryz
set_option maxHeartbeats 4000000
set_option maxRecDepth 20000
theorem A6.frzX{P:Program}{f:FuncId}{args:List PV}{h:A0}{v:PV}{id:Nat}{o o0:Ab}(hb:Ai P f=true)(hid:h.obj id=some o0)(hfl:Ec h.next o)(hc:A6 P f args h λr h'=>AF h.next h' v r/\CI h id o h'):
  A6 P f args h λr h'=>r=v/\h'=h.set id o:=by
 refine Ig hb λhw=>A6.drop (hc.mono ?_);rintro r h' ⟨hf,g⟩;refine⟨v,h.set id o,⟨rfl,rfl⟩,hf,AD _,λi oo ho=>?_⟩;have hlt:=hw id (by rw[hid];try rfl);simp only[A0.set]at ho;split at ho
 ·rename_i hi;subst hi;simp at ho;subst ho;exact⟨g.at_,hlt,.inr hfl⟩
 ·rename_i hi;have h1:=hw i (by rw[ho];try rfl);exact⟨by rw[g.old i h1 hi];exact ho,h1,.inl ho⟩
theorem CI.kill{h h':A0}{id j:Nat}{o:Ab}(g:CI h id o h')(hid:id<h.next)(hj:h.next<=j):CI h id o (h'.kill j):=
 ⟨g.le,λi hi hne=>by simp only[A0.kill];rw[A4 (by omega)];exact g.old i hi hne,by simp only[A0.kill];rw[A4 (by omega)];exact g.at_⟩
theorem Cj{P:Program}{ow:Nat->Bool}{wf:FuncId->Bool}{n:Nat}{Q:BA}{s:A9}{h:A0}{c:Code}(I:A9->A0->Prop)(hi:I s h)(hh: ∀ s h,I s h->Ad P ow wf n c Q s h):Ad P ow wf n c Q s h:=hh _ _ hi
abbrev wO(b:Bool):Ab:= .arr 1 [[.sc (.bool b)]]
theorem Kr(n:Nat)(b:Bool):Ec n (wO b):=by simp[wO,Ec,B1,BT,BB]
theorem K1{h:A0}{s:ByteArray}:A6 prog 40 [A2 s] h λr h'=>r= .agg (AA s).cells/\h'=h:=by
 refine A6.frz Ty.UI ?_;refine AE func40 ntmps40 results40 Ty.UI ?_;refine wt A3 ?_;refine⟨?_,((AC.refl h).new _).set (AD _) _⟩;simp only[AA,Sx.cells,Sx.rows,AF,AL];exact⟨_,rfl,rfl,rfl,rfl,rfl,rfl,.inr (.inl ⟨rfl,.inr rfl⟩),trivial⟩
theorem K3{h:A0}{p:PV}(h1:CW p=true)(hf: ∀ h',AF h.next h' p p):A6 prog 39 [p] h λr h'=>r= .agg [.sc (.int .i64 3),.sc (.int .i64 0),.sc (.int .i64 0),.sc (.int .i64 0),.sc (.string ⟨#[]⟩),p]/\h'=h:=by
 refine A6.frz Ty.UJ ?_;have hc:p.cells=[p]:=by cases p<;>simp[CW]at h1<;>rfl
 refine AE func39 ntmps39 results39 Ty.UJ ?_;refine wt (uu hc h1) ?_;refine⟨?_,((AC.refl h).new _).set (AD _) _⟩;simp only[AF,AL];exact⟨_,rfl,rfl,rfl,rfl,rfl,rfl,hf _,trivial⟩
theorem JV(l:List Sx)(h:A0):A6 prog 39 [.imm 6 (Sx.rows l)] h λr h'=>r= .agg (AK l).cells/\h'=h:=K3 rfl (λ_=>Js (ID _ _))
theorem We{h:A0}{s:ByteArray}(hs:s.size<=9223372036854775807):A6 prog 151 [A2 s] h λr h'=>r= .sc (.bool (C8 s))/\h'=h:=by
 have h1:=λh:A0=>FI (h:=h) hs;have h2:=λh:A0=>Lg (h:=h) hs;unfold C8;generalize An s=a at h1⊢;generalize Eg s=b at h2⊢;cases a with
 |true=>
  refine AE func151 ntmps151 results151 Ty.Ug ?_;refine wt A3 ?_;refine uU A3 (h1 _) ?_;refine wm A3 ?_;try exact zI
  all_goals simp only[Qb]
 |false=>
  refine AE func151 ntmps151 results151 Ty.Ug ?_;refine wt A3 ?_;refine uU A3 (h1 _) ?_;refine wt A3 ?_;refine uU A3 (h2 _) ?_;refine wm A3 ?_;try exact zI
  all_goals simp only[Fw]
theorem Ks{h:A0}:A6 prog 99 [] h λr h'=>r= .agg Bv.cells/\h'=h:=by
 refine A6.frz Ty.UV ?_;refine AE func99 ntmps99 results99 Ty.UV ?_;refine wt A3 ?_;refine⟨?_,((AC.refl h).new _).set (AD _) _⟩;simp only[Bv,Bc,Fm.cells,A7,Ex.rows,Fm.rows,AN,B5,AF,AL];exact⟨_,rfl,rfl,rfl,.inr (.inl ⟨rfl,.inr rfl⟩),.inr (.inl ⟨rfl,.inr rfl⟩),.inr (.inl ⟨rfl,.inr rfl⟩),.inr (.inl ⟨rfl,.inr rfl⟩),trivial⟩
theorem Mx{h:A0}{id:Nat}{b:Bool}{s:ByteArray}(hs:s.size<=9223372036854775807)(hid:id<h.next)(ho:h.obj id=some (wO b)):
  A6 prog 41 [.ptr id 0 0,A2 s] h λr h'=>r= .agg (AA s).cells/\h'=h.set id (wO (b||!An s)):=by
 refine A6.frzX Ty.RG ho (Kr _ _) ?_;have h1:=λh:A0=>FI (h:=h) hs;have hw:=λh:A0=>K1 (h:=h) (s:=s);have n1:(id=h.next)=False:=B4 (by omega);have n2:(h.next=id)=False:=B4 (by omega);generalize An s=a at h1⊢;have Ck: ∀ (b':Bool)(o:Ab),AF h.next (((h.new o).set id (wO b')).set h.next (.arr 6 [(AA s).cells])) (.agg (AA s).cells) (.agg (AA s).cells)/\CI h id (wO b') (((h.new o).set id (wO b')).set h.next (.arr 6 [(AA s).cells])):=λb' o=>⟨by
  simp only[AF];exact⟨_,rfl,FZ _ _ _⟩,(((CI.refl ho).new hid).put).set hid (AD _)⟩
 simp only[AA,Sx.cells,Sx.rows]at hw Ck⊢;cases b with
 |true=>
  refine AE func41 ntmps41 results41 Ty.RG ?_;refine wt (AV ho n1 n2) ?_;refine uU (AV ho n1 n2) (hw _) ?_;refine wt (AV ho n1 n2) ?_;exact Ck _ _
 |false=>
  refine AE func41 ntmps41 results41 Ty.RG ?_;refine wt (AV ho n1 n2) ?_;refine uU (AV ho n1 n2) (h1 _) ?_;refine wt (AV ho n1 n2) ?_;refine uU (AV ho n1 n2) (hw _) ?_;refine wt (AV ho n1 n2) ?_;exact Ck _ _
theorem OJ{h:A0}{id:Nat}{b:Bool}{f:Fm}(hok:f.ok)(hsm:f.small)(hid:id<h.next)(ho:h.obj id=some (wO b)):
  A6 prog 100 [.ptr id 0 0,.agg f.cells] h λr h'=>r= .agg (BQ f).cells/\h'=h.set id (wO (b||!BU f)):=by
 refine A6.frzX Ty.UW ho (Kr _ _) ?_;have hW:=λh:A0=>j2 hok hsm h;have n1:(id=h.next)=False:=B4 (by omega);have n2:(h.next=id)=False:=B4 (by omega);have n3:(id=h.next+1)=False:=B4 (by omega);have n4:(h.next+1=id)=False:=B4 (by omega);have hX:(if BU f then(PV.tup [.agg (Am f).cells,.sc .nilIface])else .tup [.agg IE.cells,Aj 2])= .tup [.agg (BQ f).cells,if BU f then .sc .nilIface else Aj 2]:=by
  unfold BQ;cases BU f<;>rfl
 rw[hX]at hW;generalize BU f=v at hW⊢;generalize BQ f=X at hW⊢;obtain⟨ki,va,li,co,te,ks⟩:=X;obtain⟨gop,gna,gar,gpa,gex,gki⟩:=f;have Ck: ∀ (b':Bool)(o o1 o2:Ab),AF h.next ((((((h.new o).new o1).set (h.next+1) o2).set id (wO b')).set h.next (.arr 6 [(Sx.mk ki va li co te ks).cells]))) (.agg (Sx.mk ki va li co te ks).cells) (.agg (Sx.mk ki va li co te ks).cells)/\CI h id (wO b') ((((h.new o).new o1).set (h.next+1) o2).set id (wO b')|>.set h.next (.arr 6 [(Sx.mk ki va li co te ks).cells])):=λb' o o1 o2=>⟨by
  simp only[AF];exact⟨_,rfl,FZ _ _ _⟩,(((((CI.refl ho).new hid).new hid).set hid (by omega)).put).set hid (AD _)⟩
 simp only[Sx.cells,Fm.cells]at hW Ck⊢;cases v<;>simp only[AH,AP,BG,Aj]at hW<;>cases b;all_goals
  refine AE func100 ntmps100 results100 Ty.UW ?_;replace zz:=As ho n1 n2 n3 n4;refine wt zz ?_;replace zz:=As ho n1 n2 n3 n4;refine uU zz (hW _) ?_;replace zz:=Aq ho n1 n2 n3 n4 @B2;refine wt zz ?_;exact Ck _ _ _ _
theorem Lx{h:A0}{id:Nat}{b vars:Bool}{l:List Pm}(hl:l.length<=1048576)(hok: ∀ p∈l,p.ok)(hid:id<h.next)(ho:h.obj id=some (wO b)):
  A6 prog 43 [.ptr id 0 0,.imm 2 (A7 l),.sc (.bool vars)] h λr h'=>r= .imm 6 (Sx.rows (AX l))/\h'=h.set id (wO (b||!(l.all (BJ vars)))):=by
 refine A6.frzX Ty.UK ho (Kr _ _) ?_;have hll:=IA l;have hWP:=λh:A0=>Rh hl h;generalize hF:(b||!(l.all (BJ vars)))=F;refine AE func43 ntmps43 results43 Ty.UK ?_;refine wt hll ?_;refine Cd (λc S h'=>S 0= .ptr id 0 0/\S 1= .imm 2 (A7 l)/\S 2= .sc (.bool vars)/\S 10= .imm 2 (A7 l)/\S 11= .sc (.int .i64 l.length)/\ ∃ (k:Nat)(b':Bool),S 12= .sc (.int .i64 k)/\k<=l.length/\c=l.length-k/\CI h id (wO b') h'/\F=(b'||!((l.drop k).all (BJ vars)))) l.length ?_ ?_
 ·simp only[Ty.w,simprocAttr];exact⟨0,b,rfl,by omega,rfl,CI.refl ho,by rw[CB];exact hF.symm⟩
 ·clear hF;rintro c S h' ⟨g0,g1,g2,g10,g11,k,b',g12,hkl,rfl,hG,hinv⟩;by_cases hlt:k<l.length
  ·have hd:decide ((k:Int)<(l.length:Int))=true:=(by simp;omega);have w7:IntKind.i64.wrap ((k:Int)+1)=k+1:=(by rw[Br (by omega) (by omega)]);obtain⟨p,hx⟩: ∃ p,l[k]? =some p:=⟨_,AU hlt⟩;rw[Cm hx,GX]at hinv;have hr:=Nn hx;have hpo:=hok p (C7 hx);have hs1:p.name.size<=9223372036854775807:=(by have:=hpo.1;unfold AJ at this;omega);have hs2:p.type.size<=9223372036854775807:=(by have:=hpo.2;unfold AJ at this;omega);have c1:=λh:A0=>FI (h:=h) hs1;have c2:=λh:A0=>Lg (h:=h) hs1;have c3:=λh:A0=>FI (h:=h) hs2;have hno:=hG.at_;have hle:=hG.le;have n1:(id=h'.next)=False:=B4 (by omega);have n2:(h'.next=id)=False:=B4 (by omega);have hpar:BJ vars p=((bif vars then Eg p.name else An p.name)&&(A1 p.type Dd||An p.type)):=rfl;rw[hpar]at hinv;generalize An p.name=q1 at c1 hinv;generalize Eg p.name=q2 at c2 hinv;generalize An p.type=q3 at c3 hinv;have hne:(p.type.data.toList==Dd.data.toList)=A1 p.type Dd:=rfl;generalize A1 p.type Dd=q4 at hinv hne;have e1:(p.type.data.toList=[111,98,106,101,99,116])=(q4=true):=by
    rw[← hne];exact propext ⟨λe=>by rw[e];try rfl,λe=>eq_of_beq e⟩
   have e2:(p.type.data.toList==[111,98,106,101,99,116])=q4:=hne;clear hne;have hG2: ∀ (z o:Ab)(b2:Bool),CI h id (wO b2) (((h'.new z).set h'.next o).set id (wO b2)):=λz o b2=>((hG.new hid).set hid hle).put;have stepF: ∀ b2:Bool,b2=(b'||!((bif vars then q2 else q1)&&(q4||q3)))->F=(b2||!((l.drop (k+1)).all (BJ vars))):=by
    intro b2 e;rw[hinv,e];cases b'<;>cases(bif vars then q2 else q1)<;>cases q4<;>cases q3<;>simp
   obtain⟨pn,pt⟩:=p;simp only at hr e1 e2;clear hinv hpar hx hpo hs1 hs2;cases vars with
   |false=>
    simp only[AI]at stepF;cases b' with
    |true=>
     replace zz:=AY g0 g1 g2 g10 g11 g12 hll hd hr hno n1 n2;refine wt zz ?_;replace zz:=BK g0 g1 g2 g10 g11 g12 hno n1 n2;refine uU zz (c1 _) ?_;(repeat'(first|refine cK ?_|(refine nK ?_;try exact zI)|refine Ae λK hK=>?_|((first|refine BZ ?_|refine FD (λK hK=>?_));simp only[Ty.w,simprocAttr,g0,g1,g2,g10,g11,g12,hno,n1,n2,e1,e2,bne,w7,Ap,C4])|(refine GZ ?_;(try simp only[Ao,simprocAttr]))|(refine EI _ (by(try simp only[Ty.w,simprocAttr,g0,g1,g2,g10,g11,g12,hno,n1,n2,e1,e2,bne,w7,Ap,C4]);rfl) (λhb=>?_) (λhb=>?_)<;>(try simp only[Cz,BP,Cv,simprocAttr]at hb)<;>(try(exfalso;omega)))|(refine hK _ _ ?_;clear hK;(try simp only[Ao,simprocAttr]))));exact⟨l.length-(k+1),by omega,k+1,true,by simp,by omega,rfl,hG2 _ _ _,stepF _ (by simp)⟩
    |false=>
     cases q1 with
     |false=>
      replace zz:=AY g0 g1 g2 g10 g11 g12 hll hd hr hno n1 n2;refine wt zz ?_;replace zz:=BK g0 g1 g2 g10 g11 g12 hno n1 n2;refine uU zz (c1 _) ?_;(repeat'(first|refine cK ?_|(refine nK ?_;try exact zI)|refine Ae λK hK=>?_|((first|refine BZ ?_|refine FD (λK hK=>?_));simp only[Ty.w,simprocAttr,g0,g1,g2,g10,g11,g12,hno,n1,n2,e1,e2,bne,w7,Ap,C4])|(refine GZ ?_;(try simp only[Ao,simprocAttr]))|(refine EI _ (by(try simp only[Ty.w,simprocAttr,g0,g1,g2,g10,g11,g12,hno,n1,n2,e1,e2,bne,w7,Ap,C4]);rfl) (λhb=>?_) (λhb=>?_)<;>(try simp only[Cz,BP,Cv,simprocAttr]at hb)<;>(try(exfalso;omega)))|(refine hK _ _ ?_;clear hK;(try simp only[Ao,simprocAttr]))));exact⟨l.length-(k+1),by omega,k+1,true,by simp,by omega,rfl,hG2 _ _ _,stepF _ (by simp)⟩
     |true=>
      cases q4 with
      |true=>
       simp only[eq_self]at e1;replace zz:=AY g0 g1 g2 g10 g11 g12 hll hd hr hno n1 n2;refine wt zz ?_;replace zz:=BK g0 g1 g2 g10 g11 g12 hno n1 n2;refine uU zz (c1 _) ?_;(repeat'(first|refine cK ?_|(refine nK ?_;try exact zI)|refine Ae λK hK=>?_|((first|refine BZ ?_|refine FD (λK hK=>?_));simp only[Ty.w,simprocAttr,g0,g1,g2,g10,g11,g12,hno,n1,n2,e1,e2,bne,w7,Ap,C4])|(refine GZ ?_;(try simp only[Ao,simprocAttr]))|(refine EI _ (by(try simp only[Ty.w,simprocAttr,g0,g1,g2,g10,g11,g12,hno,n1,n2,e1,e2,bne,w7,Ap,C4]);rfl) (λhb=>?_) (λhb=>?_)<;>(try simp only[Cz,BP,Cv,simprocAttr]at hb)<;>(try(exfalso;omega)))|(refine hK _ _ ?_;clear hK;(try simp only[Ao,simprocAttr]))));exact⟨l.length-(k+1),by omega,k+1,false,by simp,by omega,rfl,hG2 _ _ _,stepF _ (by simp)⟩
      |false=>
       simp only[BG]at e1;replace zz:=AY g0 g1 g2 g10 g11 g12 hll hd hr hno n1 n2;refine wt zz ?_;replace zz:=BK g0 g1 g2 g10 g11 g12 hno n1 n2;refine uU zz (c1 _) ?_;(repeat'(first|refine cK ?_|(refine nK ?_;try exact zI)|refine Ae λK hK=>?_|((first|refine BZ ?_|refine FD (λK hK=>?_));simp only[Ty.w,simprocAttr,g0,g1,g2,g10,g11,g12,hno,n1,n2,e1,e2,bne,w7,Ap,C4])|(refine GZ ?_;(try simp only[Ao,simprocAttr]))|(refine EI _ (by(try simp only[Ty.w,simprocAttr,g0,g1,g2,g10,g11,g12,hno,n1,n2,e1,e2,bne,w7,Ap,C4]);rfl) (λhb=>?_) (λhb=>?_)<;>(try simp only[Cz,BP,Cv,simprocAttr]at hb)<;>(try(exfalso;omega)))|(refine hK _ _ ?_;clear hK;(try simp only[Ao,simprocAttr]))));refine uU zz (c3 _) ?_;(repeat'(first|refine cK ?_|(refine nK ?_;try exact zI)|(refine BZ ?_;simp only[Ty.w,simprocAttr,g0,g1,g2,g10,g11,g12,hno,n1,n2,e1,e2,bne,w7,Ap,C4])|(refine hK _ _ ?_;clear hK;(try simp only[Ao,simprocAttr]))));exact⟨l.length-(k+1),by omega,k+1,!q3,by simp,by omega,rfl,hG2 _ _ _,stepF _ (by simp)⟩
   |true=>
    simp only[AB]at stepF;cases b' with
    |true=>
     replace zz:=AY g0 g1 g2 g10 g11 g12 hll hd hr hno n1 n2;refine wt zz ?_;replace zz:=BK g0 g1 g2 g10 g11 g12 hno n1 n2;refine uU zz (c1 _) ?_;(repeat'(first|refine cK ?_|(refine nK ?_;try exact zI)|refine Ae λK hK=>?_|(refine BZ ?_;simp only[Ty.w,simprocAttr,g0,g1,g2,g10,g11,g12,hno,n1,n2,e1,e2,bne,w7,Ap,C4])|(refine EI _ (by(try simp only[Ty.w,simprocAttr,g0,g1,g2,g10,g11,g12,hno,n1,n2,e1,e2,bne,w7,Ap,C4]);rfl) (λhb=>?_) (λhb=>?_)<;>(try simp only[Cz,BP,Cv,simprocAttr]at hb)<;>(try(exfalso;omega)))|(refine hK _ _ ?_;clear hK;(try simp only[Ao,simprocAttr]))));refine uU zz (c2 _) ?_;(repeat'(first|refine cK ?_|(refine nK ?_;try exact zI)|((first|refine BZ ?_|refine FD (λK hK=>?_));simp only[Ty.w,simprocAttr,g0,g1,g2,g10,g11,g12,hno,n1,n2,e1,e2,bne,w7,Ap,C4])|(refine hK _ _ ?_;clear hK;(try simp only[Ao,simprocAttr]))));exact⟨l.length-(k+1),by omega,k+1,true,by simp,by omega,rfl,hG2 _ _ _,stepF _ (by simp)⟩
    |false=>
     cases q2 with
     |false=>
      replace zz:=AY g0 g1 g2 g10 g11 g12 hll hd hr hno n1 n2;refine wt zz ?_;replace zz:=BK g0 g1 g2 g10 g11 g12 hno n1 n2;refine uU zz (c1 _) ?_;(repeat'(first|refine cK ?_|(refine nK ?_;try exact zI)|refine Ae λK hK=>?_|(refine BZ ?_;simp only[Ty.w,simprocAttr,g0,g1,g2,g10,g11,g12,hno,n1,n2,e1,e2,bne,w7,Ap,C4])|(refine EI _ (by(try simp only[Ty.w,simprocAttr,g0,g1,g2,g10,g11,g12,hno,n1,n2,e1,e2,bne,w7,Ap,C4]);rfl) (λhb=>?_) (λhb=>?_)<;>(try simp only[Cz,BP,Cv,simprocAttr]at hb)<;>(try(exfalso;omega)))|(refine hK _ _ ?_;clear hK;(try simp only[Ao,simprocAttr]))));refine uU zz (c2 _) ?_;(repeat'(first|refine cK ?_|(refine nK ?_;try exact zI)|((first|refine BZ ?_|refine FD (λK hK=>?_));simp only[Ty.w,simprocAttr,g0,g1,g2,g10,g11,g12,hno,n1,n2,e1,e2,bne,w7,Ap,C4])|(refine hK _ _ ?_;clear hK;(try simp only[Ao,simprocAttr]))));exact⟨l.length-(k+1),by omega,k+1,true,by simp,by omega,rfl,hG2 _ _ _,stepF _ (by simp)⟩
     |true=>
      cases q4 with
      |true=>
       simp only[eq_self]at e1;replace zz:=AY g0 g1 g2 g10 g11 g12 hll hd hr hno n1 n2;refine wt zz ?_;replace zz:=BK g0 g1 g2 g10 g11 g12 hno n1 n2;refine uU zz (c1 _) ?_;(repeat'(first|refine cK ?_|(refine nK ?_;try exact zI)|refine Ae λK hK=>?_|(refine BZ ?_;simp only[Ty.w,simprocAttr,g0,g1,g2,g10,g11,g12,hno,n1,n2,e1,e2,bne,w7,Ap,C4])|(refine EI _ (by(try simp only[Ty.w,simprocAttr,g0,g1,g2,g10,g11,g12,hno,n1,n2,e1,e2,bne,w7,Ap,C4]);rfl) (λhb=>?_) (λhb=>?_)<;>(try simp only[Cz,BP,Cv,simprocAttr]at hb)<;>(try(exfalso;omega)))|(refine hK _ _ ?_;clear hK;(try simp only[Ao,simprocAttr]))));refine uU zz (c2 _) ?_;(repeat'(first|refine cK ?_|(refine nK ?_;try exact zI)|((first|refine BZ ?_|refine FD (λK hK=>?_));simp only[Ty.w,simprocAttr,g0,g1,g2,g10,g11,g12,hno,n1,n2,e1,e2,bne,w7,Ap,C4])|(refine hK _ _ ?_;clear hK;(try simp only[Ao,simprocAttr]))));exact⟨l.length-(k+1),by omega,k+1,false,by simp,by omega,rfl,hG2 _ _ _,stepF _ (by simp)⟩
      |false=>
       simp only[BG]at e1;replace zz:=AY g0 g1 g2 g10 g11 g12 hll hd hr hno n1 n2;refine wt zz ?_;replace zz:=BK g0 g1 g2 g10 g11 g12 hno n1 n2;refine uU zz (c1 _) ?_;(repeat'(first|refine cK ?_|(refine nK ?_;try exact zI)|refine Ae λK hK=>?_|(refine BZ ?_;simp only[Ty.w,simprocAttr,g0,g1,g2,g10,g11,g12,hno,n1,n2,e1,e2,bne,w7,Ap,C4])|(refine EI _ (by(try simp only[Ty.w,simprocAttr,g0,g1,g2,g10,g11,g12,hno,n1,n2,e1,e2,bne,w7,Ap,C4]);rfl) (λhb=>?_) (λhb=>?_)<;>(try simp only[Cz,BP,Cv,simprocAttr]at hb)<;>(try(exfalso;omega)))|(refine hK _ _ ?_;clear hK;(try simp only[Ao,simprocAttr]))));refine uU zz (c2 _) ?_;(repeat'(first|refine cK ?_|(refine nK ?_;try exact zI)|(refine FD (λK hK=>?_);simp only[Ty.w,simprocAttr,g0,g1,g2,g10,g11,g12,hno,n1,n2,e1,e2,bne,w7,Ap,C4])|(refine hK _ _ ?_;clear hK;(try simp only[Ao,simprocAttr]))));refine uU zz (c3 _) ?_;(repeat'(first|refine cK ?_|(refine nK ?_;try exact zI)|(refine BZ ?_;simp only[Ty.w,simprocAttr,g0,g1,g2,g10,g11,g12,hno,n1,n2,e1,e2,bne,w7,Ap,C4])|(refine hK _ _ ?_;clear hK;(try simp only[Ao,simprocAttr]))));exact⟨l.length-(k+1),by omega,k+1,!q3,by simp,by omega,rfl,hG2 _ _ _,stepF _ (by simp)⟩
  ·have hd:decide ((k:Int)<(l.length:Int))=false:=(by simp;omega);rw[D3 (by omega),MM,Ap,GU]at hinv;subst hinv;replace zz:=BO g0 g1 g2 g10 g11 g12 hll hd;refine wt zz ?_;replace zz:=Aq g0 g1 g2 g10 g11 g12;refine uU zz (hWP _) ?_;refine wt (AV g0 g1 g2) ?_;exact⟨Js (ID _ _),hG⟩
end Go.Proofs.YtblgchkahpgdjaaGreat
namespace Go.Proofs.YtblgchkahpgdjaaGreat
open Go.AM Go.Proofs.Tryz
set_option maxHeartbeats 8000000
set_option maxRecDepth 20000
def IP(f:Fm):Bool:=match f with| .mk op _ _ _ _ kids=>A1 op Bc&&(((Fm.rows kids).length:Int)==0)
def My(c:Ch):Sx:=bif c.kind==2 then AK [AA DD,Am (IN c)]else bif c.kind==3 then AK [AA JQ,Am (IN c),BE c.value]else bif c.kind==4 then AK [AA JR,Am (IN c),BE c.value]else bif c.kind==5 then AK [AA JS,Am (IN c),BE c.value]else Am (IN c)
def Mz(c:Ch):Sx:=bif IP c.cond then My c else AK [AA HO,Am c.cond,My c]
def N0(c:Ch):Sx:=bif c.params.isEmpty then Mz c else AK [AA DH,AK (AX c.params),Mz c]
structure SW(h:A0)(X:Sx)(H:A0):Prop where
 grow:AC h H
 nx:h.next+1<H.next
 res:H.obj h.next=some (.arr 6 [[.sc (.int .i64 0),.sc (.int .i64 0),.sc (.int .i64 0),.sc (.int .i64 0),.sc (.string ⟨#[]⟩),.sc (.slice none 0 0)]])
 at_:H.obj (h.next+1)=some (.arr 6 [X.cells])
theorem SW.put{h H:A0}{X Y:Sx}(i:SW h X H):SW h Y (H.set (h.next+1) (.arr 6 [Y.cells])):=
 ⟨i.grow.set (by omega) _,i.nx,by simp only[A0.set];rw[A4 (by omega)];exact i.res,by simp only[A0.set,AH]⟩
end Go.Proofs.YtblgchkahpgdjaaGreat
namespace Go.Proofs.YtblgchkahpgdjaaGreat
open Go.AM Go.Proofs.Tryz
set_option maxHeartbeats 4000000
set_option maxRecDepth 20000
structure OK(h:A0)(id:Nat)(b:Bool)(first:ByteArray)(l:List ByteArray)(k:Nat)(h':A0):Prop where
 grow:CI h id (wO b) h'
 ex: ∃ j,h.next+1+1<h'.next/\j≠h.next+1+1/\h.next<j/\j<h'.next/\
  h'.obj h.next=some (.arr 6 [[.sc (.int .i64 0),.sc (.int .i64 0),.sc (.int .i64 0),.sc (.int .i64 0),.sc (.string ⟨#[]⟩),.sc (.slice none 0 0)]])/\
  h'.obj (h.next+1+1)=some (.arr 6 [[.sc (.int .i64 3),.sc (.int .i64 0),.sc (.int .i64 0),.sc (.int .i64 0),.sc (.string ⟨#[]⟩),.own j 0 (k+1)]])/\
  h'.obj j=some (.arr 6 (Sx.rows ((first::l.take k).map AA)))
theorem OK.put{h h':A0}{id:Nat}{b b2:Bool}{first:ByteArray}{l:List ByteArray}{k:Nat}(i:OK h id b first l k h')(hid:id<h.next):OK h id b2 first l k (h'.set id (wO b2)):=by
 obtain⟨hg,j,h1,h2,h3,h4,o1,o2,o3⟩:=i;refine⟨hg.put,j,h1,h2,h3,h4,?_,?_,?_⟩
 ·simp only[A0.set];rw[A4 (by omega)];exact o1
 ·simp only[A0.set];rw[A4 (by omega)];exact o2
 ·simp only[A0.set];rw[A4 (by omega)];exact o3
theorem j8{h:A0}{id:Nat}{b:Bool}{first:ByteArray}{l:List ByteArray}(hn:first.size<=9223372036854775807)(hl:l.length<=1048576)(hok: ∀ s∈l,s.size<=AJ)(hid:id<h.next)(ho:h.obj id=some (wO b)):
  A6 prog 144 [.ptr id 0 0,A2 first,.imm 1 (AN l)] h λr h'=>r= .agg (Cn first l).cells/\h'=h.set id (wO (b||!(An first&&l.all C8))):=by
 refine A6.frzX Ty.Uf ho (Kr _ _) ?_;have hll:=Gb l;have hw: ∀ (s:ByteArray)(h:A0),A6 prog 40 [A2 s] h λr h'=>r= .agg (AA s).cells/\h'=h:=λs h=>K1;have c0:=λ(z:Ab)=>Mx (h:=h.new z) (b:=b) (s:=first) hn (show id<h.next+1 by omega) ((DS hid).trans ho);simp only[AA,Sx.cells,Sx.rows]at hw c0;generalize hF:(b||!(An first&&l.all C8))=F;refine uG (ow:=λt=>t==13) (wf:=λ_=>false) func144 ntmps144 results144 Ty.Uf ?_;refine wt A3 ?_;refine D5 (c0 _) (sr ho) ?_;simp only[Ty.w,simprocAttr,ho];refine wt ho ?_;refine uU A3 (K3 (p:= .own (h.next+1) 0 1) rfl (λ_=>KZ (by simp[A0.new,A0.set]))) ?_;refine wt hll ?_;refine Cd (λm S h'=>S 0= .ptr id 0 0/\S 6= .ptr h.next 0 0/\S 7= .ptr (h.next+1+1) 0 0/\S 15= .imm 1 (AN l)/\S 16= .sc (.int .i64 l.length)/\ ∃ (k:Nat)(b':Bool),S 17= .sc (.int .i64 k)/\k<=l.length/\m=l.length-k/\OK h id b' first l k h'/\F=(b'||!((l.drop k).all C8))) l.length ?_ ?_
 ·simp only[Ty.w,simprocAttr];refine⟨0,b||!An first,rfl,by omega,rfl,?_,?_⟩
  ·have e1:¬ h.next=h.next+1+1:=by omega
   refine⟨?_,h.next+1,by simp[A0.new,A0.set],by omega,by omega,by simp[A0.new,A0.set],?_,?_,?_⟩
   ·exact ((((((CI.refl ho).new hid).put).new hid).new hid).set hid (by omega))
   ·simp only[A0.new,A0.set];repeat(first|rw[A4 (by omega)]|rw[AG A3])
   ·simp only[A0.new,A0.set];repeat(first|rw[A4 (by omega)]|rw[AG A3])
   ·simp only[A0.new,A0.set];(repeat(first|rw[A4 (by omega)]|rw[AG A3]));simp[AA,Sx.rows,Sx.cells]
  ·rw [CB, ← hF];cases b<;>cases An first<;>simp
 ·clear hF c0;rintro m S h' ⟨g0,g6,g7,g15,g16,k,b',g17,hk,rfl,hI,hinv⟩;by_cases hlt:k<l.length
  ·have hd:decide ((k:Int)<(l.length:Int))=true:=(by simp;omega);have w7:IntKind.i64.wrap ((k:Int)+1)=k+1:=(by rw[Br (by omega) (by omega)]);obtain⟨s,hx⟩: ∃ s,l[k]? =some s:=⟨_,AU hlt⟩;have hr:=KW hx;have hts:=λh:A0=>We (h:=h) (s:=s) (by have:=hok s (C7 hx);unfold AJ at this;omega);rw[Cm hx,GX]at hinv;have hbo:=hI.grow.at_;generalize C8 s=q at hts hinv;have stepF: ∀ b2:Bool,b2=(b'||!q)->F=(b2||!((l.drop (k+1)).all C8)):=λb2 e=>by
    rw[hinv,e];cases b'<;>cases q<;>simp
   clear hinv;replace zz:=BO g0 g6 g7 g15 g16 g17 hd hr;refine xG 5 zz ?_;refine⟨?_⟩;refine DA (λS H=>S 0= .ptr id 0 0/\S 6= .ptr h.next 0 0/\S 7= .ptr (h.next+1+1) 0 0/\S 15= .imm 1 (AN l)/\S 16= .sc (.int .i64 l.length)/\S 17= .sc (.int .i64 k)/\S 9=A2 s/\ ∃ b2,OK h id b2 first l k H/\F=(b2||!((l.drop (k+1)).all C8))) ?_ ?_
   ·cases b' with
    |true=>
     replace zz:=Ag g0 g6 g7 g15 g16 g17 hbo;refine wt zz ?_;exact⟨true,hI.put hid,stepF _ (by simp)⟩
    |false=>
     replace zz:=Ag g0 g6 g7 g15 g16 g17 hbo;refine wt zz ?_;replace zz:=Ag g0 g6 g7 g15 g16 g17 hbo;refine uU zz (hts _) ?_;refine wt zz ?_;exact⟨!q,hI.put hid,stepF _ (by simp)⟩
   ·clear g0 g6 g7 g15 g16 g17 hI hbo hd hr stepF hts;rintro S H ⟨g0,g6,g7,g15,g16,g17,g9,b2,hI,hinv⟩;obtain⟨hg,j,hn2,hne,hlo,hhi,o1,o2,o3⟩:=hI;have hrl:(Sx.rows ((first::l.take k).map AA)).length=k+1:=(by rw[Sx.rows_len];simp;omega);generalize hR:Sx.rows ((first::l.take k).map AA)=R at o3 hrl;have n1:(h.next+1+1=j)=False:=(by simp;omega);have n2:(h.next+1+1=H.next)=False:=(by simp;omega);have htk:List.take (k+1) R=R:=DQ (by omega);have hb:(k+1+1)*72<=140737488355328:=(by omega);replace zz:=B7 g0 g6 g7 g15 g16 g17 g9 w7 o2 o3;refine wy zz ?_;replace zz:=BK g0 g6 g7 g15 g16 g17 g9 o2 o3;(first|refine uV zz (hw s _) ?_|refine uA zz (hw s _) ?_);replace zz:=AY g0 g6 g7 g15 g16 g17 g9 w7 o2 o3 n1 (Aa n2 hrl htk hb);(repeat'(first|refine cK ?_|refine nK ?_|refine uR zz ?_|(refine uN hK ?_;clear hK)|refine uB zz ?_|(rw[AG];rotate_left 1;omega;simp only[Ty.w,simprocAttr,g0,g6,g7,g15,g16,g17,g9,w7,o2,o3,n1,n2,hrl,htk,hb])|apply zI));refine⟨l.length-(k+1),by omega,k+1,b2,by simp,by omega,rfl,⟨((hg.kill hid (by omega)).new hid).set hid (by omega),H.next,?_,?_,?_,?_,?_,?_,?_⟩,hinv⟩
    ·simp only[A0.set,A0.new,A0.kill];omega
    ·omega
    ·omega
    ·simp only[A0.set,A0.new,A0.kill];omega
    ·have a1:¬ h.next=h.next+1+1:=by omega
     have a2:¬ h.next=H.next:=by omega
     have a3:¬ h.next=j:=by omega
     simp only[A0.set,A0.new,A0.kill,a1,a2,a3,AP];exact o1
    ·simp only[A0.set,AH]
    ·have a1:¬ H.next=h.next+1+1:=by omega
     simp only[A0.set,A0.new,A0.kill,a1,AP,AH];rw[Jc,hx, ← hR];simp only[Sx.rows_map,BS,Qe,B5,YN,C3,AA,Sx.cells]
  ·have hd:decide ((k:Int)<(l.length:Int))=false:=(by simp;omega);have hke:k=l.length:=(by omega);subst hke;obtain⟨hg,j,hn2,hne,hlo,hhi,o1,o2,o3⟩:=hI;rw[J7]at o3;rw[ML,MM,Ap,GU]at hinv;subst hinv;have n1:(h.next+1+1=h.next)=False:=(by simp;omega);replace zz:=E7 g0 g6 g7 g15 g16 g17 hd o1 o2 o3 n1;refine wt zz ?_;refine⟨?_,hg.set hid (AD _)⟩;simp only[Cn,AK,Sx.cells,AF,AL];refine⟨_,rfl,rfl,rfl,rfl,rfl,rfl,.inr (.inr ⟨j,0,l.length+1,Sx.rows ((first::l).map AA),rfl,by omega,?_,?_,?_⟩),trivial⟩
   ·simp only[A0.set];rw[A4 (by omega)];exact o3
   ·rw [Sx.rows_len];simp
   ·rw [CB,DQ (by rw[Sx.rows_len];simp)];exact Jr _ _ _
end Go.Proofs.YtblgchkahpgdjaaGreat
namespace Go.Proofs.YtblgchkahpgdjaaGreat
open Go.AM Go.Proofs.Tryz
set_option maxHeartbeats 4000000
set_option maxRecDepth 20000
theorem j9: ∀ x:Sx,x.ok->x.small-> ∀ h:A0,A6 prog 169 [.agg x.cells] h λr h'=>r= .tup [.agg (Cf x).1.cells,AO (Cf x).2]/\h'=h:=by
 refine Sx.ind ?_;intro kind value line col text kids ih hok hsm h;have hok':=hok;simp only[Sx.ok]at hok';obtain⟨_,_,_,_,hks⟩:=hok';rw[Sx.oks_iff]at hks;have hsm':=hsm;simp only[Sx.small]at hsm';have hss:=hsm'.2;rw[Sx.smalls_iff]at hss;exact iE hok hsm (λx hx=>ih x hx (hks x hx) (hss x hx)) h
theorem OL{x:Sx}(hok:x.ok)(h:A0):A6 prog 148 [.agg x.cells] h λr h'=>r= .tup [.agg (Cg x).1.cells,AO (Cg x).2]/\h'=h:=by
 refine A6.frz Ty.Nx ?_;have hv:=λh:A0=>JI hok h;have hX:Cg x=(if(CL x 0 0).1=true then(if(Cf x).2=0 then(if BU (Cf x).1=true then((Cf x).1,0)else(Ce,5))else(Ce,(Cf x).2))else(Ce,2)):=rfl;generalize Cg x=F at hX;have bad: ∀ (c:Int)(h':A0),(c==0)=false->AC h h'->F=(Ce,c)->AF h.next h' (.tup [.agg F.1.cells,AO F.2]) (.tup [.agg [.sc (.string ⟨#[]⟩),.sc (.string ⟨#[]⟩),.sc (.slice none 0 0),.sc (.slice none 0 0),.sc (.slice none 0 0),.sc (.slice none 0 0)],Aj c])/\AC h h':=by
  intro c h' hc hg hF;subst hF;have:AO c=Aj c:=by simp only[AO,hc,AI]
  simp only[this];refine⟨?_,hg⟩;simp only[Aj,Ce,Fm.cells,Ex.rows,Fm.rows,A7,AN,B5,AF,AL];exact⟨_,rfl,⟨_,rfl,rfl,rfl,.inr (.inl ⟨rfl,.inr rfl⟩),.inr (.inl ⟨rfl,.inr rfl⟩),.inr (.inl ⟨rfl,.inr rfl⟩),.inr (.inl ⟨rfl,.inr rfl⟩),trivial⟩,rfl,trivial⟩
 simp only[Aj]at bad;have hg1: ∀ r,AC h ((h.new (.arr 6 [[.sc (.string ⟨#[]⟩),.sc (.string ⟨#[]⟩),.sc (.slice none 0 0),.sc (.slice none 0 0),.sc (.slice none 0 0),.sc (.slice none 0 0)]])).set h.next r):=λr=>((AC.refl h).new _).set (AD _) _;have hg2: ∀ o1 o2 r,AC h ((((h.new (.arr 6 [[.sc (.string ⟨#[]⟩),.sc (.string ⟨#[]⟩),.sc (.slice none 0 0),.sc (.slice none 0 0),.sc (.slice none 0 0),.sc (.slice none 0 0)]])).new o1).set (h.next+1) o2).set h.next r):=λo1 o2 r=>((((AC.refl h).new _).new _).set (Oj _) _).set (AD _) _;have n1:(h.next=h.next+1)=False:=by simp
 cases v1:(CL x 0 0).1 with
 |false=>
  rw[v1]at hv;rw[A4 (by rw[v1];simp)]at hX;obtain⟨kind,value,line,col,text,kids⟩:=x;simp only[Sx.cells]at hv⊢;refine AE func148 ntmps148 results148 Ty.Nx ?_;refine wt A3 ?_;refine uU A3 (hv _) ?_;refine wt yF ?_;exact bad 2 _ rfl (hg1 _) hX
 |true=>
  have hsm:=Kf v1;have hp:=j9 x hok hsm;have hfo:=Wa x hok hsm;rw[v1]at hv;rw[AG v1]at hX;have hfz:=λn hh=>S7 n hh (Cf x).1;generalize Cf x=E at hp hfo hX hfz;obtain⟨f,c⟩:=E;simp only at hp hfo hX hfz;obtain⟨kind,value,line,col,text,kids⟩:=x;simp only[Sx.cells]at hv hp⊢;cases hc:c==0 with
  |false=>
   rw[A4 (by simpa using hc)]at hX;have e0:AO c=Aj c:=(by simp only[AO,hc,AI]);rw[e0]at hp;simp only[Aj]at hp;obtain⟨fop,fna,far,fpa,fex,fki⟩:=f;simp only[Fm.cells]at hp;refine AE func148 ntmps148 results148 Ty.Nx ?_;refine wt A3 ?_;refine uU A3 (hv _) ?_;refine wt yT ?_;refine uU A3 (hp _) ?_;refine wt (uu n1 @B2) ?_;exact bad c _ hc (hg2 _ _ _) hX
  |true=>
   rw[AG (by simpa using hc)]at hX;have e0:AO c= .sc .nilIface:=(by simp only[AO,hc,AB]);rw[e0]at hp;have hV:=λh:A0=>WX hfo.1 hfo.2 h;cases v2:BU f with
   |false=>
    rw[v2]at hV;rw[A4 (by rw[v2];simp)]at hX;obtain⟨fop,fna,far,fpa,fex,fki⟩:=f;simp only[Fm.cells]at hp hV;refine AE func148 ntmps148 results148 Ty.Nx ?_;refine wt A3 ?_;refine uU A3 (hv _) ?_;refine wt yT ?_;refine uU A3 (hp _) ?_;refine wt (uu n1 @B2) ?_;refine uU (uu n1 @B2) (hV _) ?_;refine wt (AV n1 @B2 yF) ?_;exact bad 5 _ rfl (hg2 _ _ _) hX
   |true=>
    rw[v2]at hV;rw[AG v2]at hX;subst hX;obtain⟨fop,fna,far,fpa,fex,fki⟩:=f;simp only[Fm.cells]at hp hV hfz;have e2:AO 0= .sc .nilIface:=rfl;simp only[e2,Fm.cells];refine AE func148 ntmps148 results148 Ty.Nx ?_;refine wt A3 ?_;refine uU A3 (hv _) ?_;refine wt yT ?_;refine uU A3 (hp _) ?_;refine wt (uu n1 @B2) ?_;refine uU (uu n1 @B2) (hV _) ?_;refine wt (AV n1 @B2 yT) ?_;refine⟨?_,hg2 _ _ _⟩;have h1:=λhh=>hfz h.next hh
    unfold AF;refine⟨_,rfl,?_⟩;unfold AL;refine⟨?_,by unfold AL;exact⟨by simp only[AF],by simp only[AL]⟩⟩;unfold AF;exact⟨_,rfl,h1 _⟩
end Go.Proofs.YtblgchkahpgdjaaGreat
namespace Go.Proofs.YtblgchkahpgdjaaGreat
open Go.AM Go.Proofs.Tryz
theorem Wg{l:List Sx}{k:Sx}(h:k∈l):k.depth+1<=(AK l).depth:=by
 have:=Sx.depths_mem 0 h;simp only[AK,Sx.depth,AH];omega
theorem Q4{op name:ByteArray}{args:List ByteArray}{params:List Pm}{exprs:List Ex}{kids:List Fm}(h1:A1 op Bk=false)(h2:A1 op C9=false)(h3:FJ op=false): ∃ pre,Am (.mk op name args params exprs kids)=AK (pre++kids.map Am):=by
 unfold Am;rw[h1,h2,h3,Mi];exact⟨_,rfl⟩
theorem jA: ∀ f,D1 f=true->match f with
  | .mk _ _ _ _ exprs kids=>1+Sx.nodess (exprs.map BE)+Sx.nodess (kids.map Am)<=(Am f).nodes/\1<=(Am f).depth/\(∀ e∈exprs,(BE e).depth+1<=(Am f).depth)/\(∀ k∈kids,(Am k).depth+1<=(Am f).depth):=by
 intro f hf;have d1: ∀ l:List Sx,1<=(AK l).depth:=λl=>by simp only[AK,Sx.depth,AH];omega
 have rest: ∀ {op:ByteArray}{params:List Pm}{kids:List Fm}{pre:List Sx},Am (.mk op ⟨#[]⟩ [] params [] kids)=AK (pre++kids.map Am)->
   1+Sx.nodess (([]:List Ex).map BE)+Sx.nodess (kids.map Am)<=(Am (.mk op ⟨#[]⟩ [] params [] kids)).nodes/\1<=(Am (.mk op ⟨#[]⟩ [] params [] kids)).depth/\(∀ e∈([]:List Ex),(BE e).depth+1<=(Am (.mk op ⟨#[]⟩ [] params [] kids)).depth)/\(∀ k∈kids,(Am k).depth+1<=(Am (.mk op ⟨#[]⟩ [] params [] kids)).depth):=by
  intro op params kids pre e;rw[e];refine⟨?_,d1 _,by simp,λk hk=>Wg (DY.2 (.inr (Er.2 ⟨k,hk,rfl⟩)))⟩;rw[Px,WA];simp only[B5,Sx.nodess];omega
 refine iH (C:=λf=>match f with
  | .mk _ _ _ _ exprs kids=>1+Sx.nodess (exprs.map BE)+Sx.nodess (kids.map Am)<=(Am f).nodes/\1<=(Am f).depth/\(∀ e∈exprs,(BE e).depth+1<=(Am f).depth)/\(∀ k∈kids,(Am k).depth+1<=(Am f).depth)) f hf ?_ ?_ ?_ ?_ ?_ ?_ ?_
 ·intro name args _ _;have e:Am (.mk Bk name args [] [] [])=Cn name args:=rfl;simp only[e];exact⟨by simp only[Cn,Px,B5,Sx.nodess];omega,d1 _,by simp,by simp⟩
 ·intro args _ _;have e:Am (.mk C9 ⟨#[]⟩ args [] [] [])=Cn CR args:=rfl;simp only[e];exact⟨by simp only[Cn,Px,B5,Sx.nodess];omega,d1 _,by simp,by simp⟩
 ·intro op a b ho _ _;have e:Am (.mk op ⟨#[]⟩ [] [] [a,b] [])=AK [AA op,BE a,BE b]:=by rcases ho with rfl|rfl|rfl<;>rfl
  simp only[e];refine⟨?_,d1 _,?_,by simp⟩
  ·simp only[Px,BS,B5,Sx.nodess,iF];omega
  ·intro x hx;simp only[D7,Gn,HE]at hx;rcases hx with rfl|rfl<;>exact Wg (by simp)
 ·intro op kids ho _;obtain⟨pre,e⟩: ∃ pre,Am (.mk op ⟨#[]⟩ [] [] [] kids)=AK (pre++kids.map Am):=by rcases ho with rfl|rfl<;>exact Q4 rfl rfl rfl
  exact rest e
 ·intro k _;obtain⟨pre,e⟩: ∃ pre,Am (.mk DD ⟨#[]⟩ [] [] [] [k])=AK (pre++[k].map Am):=Q4 rfl rfl rfl;exact rest e
 ·intro a b _ _;obtain⟨pre,e⟩: ∃ pre,Am (.mk G6 ⟨#[]⟩ [] [] [] [a,b])=AK (pre++[a,b].map Am):=Q4 rfl rfl rfl;exact rest e
 ·intro op params k ho _ _;obtain⟨pre,e⟩: ∃ pre,Am (.mk op ⟨#[]⟩ [] params [] [k])=AK (pre++[k].map Am):=by rcases ho with rfl|rfl<;>exact Q4 rfl rfl rfl
  exact rest e
theorem Wh: ∀ (l:List Ex),(∀ e∈l,Ey e=true)-> ∀ (d n:Nat),(∀ e∈l,d+(BE e).depth<=32)->n+Sx.nodess (l.map BE)<=4096->(GG l d n).1=true/\(GG l d n).2<=n+Sx.nodess (l.map BE)
 |[],_,d,n,_,hn=>by simp[GG,Sx.nodess]
 |e::l,hs,d,n,hd,hn=>by
  simp only[BS,Sx.nodess]at hn⊢;obtain⟨f1,f2⟩:=WB e (hs e (by simp)) d n (hd e (by simp)) (by omega);unfold GG;cases hw:E9 e d n with
  |mk x c=>
   rw[hw]at f1 f2;simp only at f1 f2;subst f1;simp only;obtain⟨g1,g2⟩:=Wh l (λq hq=>hs q (by simp[hq])) d c (λq hq=>hd q (by simp[hq])) (by omega);exact⟨g1,by omega⟩
theorem Wi: ∀ (l:List Fm)(d:Nat),(∀ k∈l, ∀ n,n+(Am k).nodes<=4096->(Ez k d n).1=true/\(Ez k d n).2<=n+(Am k).nodes)-> ∀ n,n+Sx.nodess (l.map Am)<=4096->(G7 l d n).1=true/\(G7 l d n).2<=n+Sx.nodess (l.map Am)
 |[],_,_,n,hn=>by simp[G7,Sx.nodess]
 |k::l,d,h,n,hn=>by
  simp only[BS,Sx.nodess]at hn⊢;obtain⟨f1,f2⟩:=h k (by simp) n (by omega);unfold G7;cases hw:Ez k d n with
  |mk x c=>
   rw[hw]at f1 f2;simp only at f1 f2;subst f1;simp only;obtain⟨g1,g2⟩:=Wi l d (λq hq=>h q (by simp[hq])) c (by omega);exact⟨g1,by omega⟩
theorem jB: ∀ (f:Fm),D1 f=true-> ∀ (d n:Nat),d+(Am f).depth<=32->n+(Am f).nodes<=4096->(Ez f d n).1=true/\(Ez f d n).2<=n+(Am f).nodes:=by
 refine Fm.ind ?_;intro op name args params exprs kids ih hs d n hd hn;have hp:=jA _ hs;simp only at hp;obtain⟨p1,p2,p3,p4⟩:=hp;have hs2:=hs;simp only[D1,AR,Bq]at hs2;obtain⟨⟨h1,h2⟩,h3⟩:=hs2;rw[Mh]at h3;generalize Am (.mk op name args params exprs kids)=X at*;unfold Ez;rw[AG ⟨by omega,by omega⟩,AG h1];obtain⟨f1,f2⟩:=Wh exprs h2 (d+1) (n+1) (λe he=>by have:=p3 e he;omega) (by omega);cases hw:GG exprs (d+1) (n+1)with
 |mk x c=>
  rw[hw]at f1 f2;simp only at f1 f2;subst f1;simp only;obtain⟨g1,g2⟩:=Wi kids (d+1) (λk hk m hm=>ih k hk (h3 k hk) (d+1) m (by have:=p4 k hk;omega) hm) c (by omega);exact⟨g1,by omega⟩
theorem jC{f:Fm}(hn:(Am f).nodes<=AJ):BU f=(D1 f&&Mk (Am f)):=by
 unfold BU;rw[Ml hn];cases hs:D1 f with
 |false=>
  have:(Ez f 0 0).1=false:=by
   cases h:(Ez f 0 0).1 with
   |false=>rfl
   |true=>rw[OF f 0 0 h]at hs;simp at hs
  simp only[this,B9]
 |true=>
  cases hv:Mk (Am f)with
  |false=>simp
  |true=>
   have h1:=(JK (Am f) 0 0 (by omega) (by omega)).1.1 (by rw[Ml hn];exact hv);rw[(jB f hs 0 0 h1.2.1 h1.2.2).1]
end Go.Proofs.YtblgchkahpgdjaaGreat
