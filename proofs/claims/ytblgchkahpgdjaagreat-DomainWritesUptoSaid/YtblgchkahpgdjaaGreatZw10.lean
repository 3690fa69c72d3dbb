/- What the claim rests on, part 10: the abstract machine, contracts of the functions, plain data. -/
import Derived.Test.YtblgchkahpgdjaaGreatZw8
import Derived.Test.YtblgchkahpgdjaaGreatZw9
set_option linter.unusedVariables false
set_option linter.unusedSimpArgs false
set_option linter.unusedSectionVars false
namespace Go.AM
mutual
def Fm.small:Fm->Prop
 | .mk _ _ args params exprs kids=>args.length<=1048576/\params.length<=1048576/\Ex.smalls exprs/\kids.length<=1048576/\Fm.smalls kids
def Fm.smalls:List Fm->Prop
 |[]=>True
 |k::ks=>k.small/\Fm.smalls ks
end
theorem Fm.smalls_iff:{l:List Fm}->(Fm.smalls l↔ ∀ k∈l,k.small)
 |[]=>by simp[Fm.smalls]
 |k::ks=>by simp[Fm.smalls,Fm.smalls_iff (l:=ks)]
end Go.AM
namespace Go.Proofs.YtblgchkahpgdjaaGreat
open Go.AM Go.Proofs.Tryz
set_option maxHeartbeats 4000000
set_option maxRecDepth 20000
structure FD(h:A0)(L:List Sx)(h':A0):Prop where
 grow:AL h h'
 ex: ∃ p H,h.next+1<h'.next/\h'.obj h.next=some (.arr 6 [[.sc (.int .i64 0),.sc (.int .i64 0),.sc (.int .i64 0),.sc (.int .i64 0),.sc (.string ⟨#[]⟩),.sc (.slice none 0 0)]])/\
  h'.obj (h.next+1)=some (.arr 6 [[.sc (.int .i64 3),.sc (.int .i64 0),.sc (.int .i64 0),.sc (.int .i64 0),.sc (.string ⟨#[]⟩),p]])/\Tl h' (h.next+2) 6 p (Sx.rows L)/\
  Db h' p=some (H,Sx.rows L)/\CP h' 6 p=true/\H.next=h'.next/\(∀ j,j<h.next+2->H.obj j=h'.obj j)/\AL h H/\p.cells=[p]/\C8 p=true
theorem FD.mk2{h h':A0}{L:List Sx}{p:PV}(g:AL h h')(hn:h.next+1<h'.next)(o1:h'.obj h.next=some (.arr 6 [[.sc (.int .i64 0),.sc (.int .i64 0),.sc (.int .i64 0),.sc (.int .i64 0),.sc (.string ⟨#[]⟩),.sc (.slice none 0 0)]]))(o2:h'.obj (h.next+1)=some (.arr 6 [[.sc (.int .i64 3),.sc (.int .i64 0),.sc (.int .i64 0),.sc (.int .i64 0),.sc (.string ⟨#[]⟩),p]]))(tl:Tl h' (h.next+2) 6 p (Sx.rows L)):FD h L h':=by
 obtain⟨H,t1,t2,t3,t4,t5⟩:=tl.tail;have hk:=t5 h ⟨g.le,g.old⟩ (by omega);refine⟨g,p,H,hn,o1,o2,tl,t1,t2,t3,t4,⟨hk.1,hk.2⟩,?_,?_⟩
 ·rcases tl with⟨_,rfl|rfl⟩|⟨_,_,_,rfl,_⟩<;>rfl
 ·rcases tl with⟨_,rfl|rfl⟩|⟨_,_,_,rfl,_⟩<;>rfl
theorem Tl.low{h:A0}{a b z:Nat}{p:PV}{rows:List (List PV)}(t:Tl h a z p rows)(hab:b<=a):Tl h b z p rows:=by
 rcases t with ht|⟨id,h1,h2⟩
 ·exact .inl ht
 ·exact .inr ⟨id,by omega,h2⟩
theorem FD.push{h h' H:A0}{L:List Sx}{X:Sx}{m:Nat}(hn:h.next+1<h'.next)(o1:h'.obj h.next=some (.arr 6 [[.sc (.int .i64 0),.sc (.int .i64 0),.sc (.int .i64 0),.sc (.int .i64 0),.sc (.string ⟨#[]⟩),.sc (.slice none 0 0)]]))(t3:H.next=h'.next)(t4: ∀ j,j<h.next+2->H.obj j=h'.obj j)(g:AL h H)(hm:m=L.length+1):
  FD h (L++[X]) ((H.new (.arr 6 (Sx.rows L++[X.cells]))).set (h.next+1) (.arr 6 [[.sc (.int .i64 3),.sc (.int .i64 0),.sc (.int .i64 0),.sc (.int .i64 0),.sc (.string ⟨#[]⟩),.own h'.next 0 m]])):=by
 have e1:Sx.rows (L++[X])=Sx.rows L++[X.cells]:=by simp[Sx.rows_map]
 have n1:¬ h.next=h.next+1:=by omega
 have n2:¬ h.next=H.next:=by omega
 refine FD.mk2 (p:= .own h'.next 0 m) ((g.new _).set (by omega) _) (by simp only[A0.set,A0.new];omega) ?_ ?_ ?_;rotate_left
 ·simp only[A0.set,AC]
 ·rw [e1, ← t3];have:Tl (H.new (.arr 6 (Sx.rows L++[X.cells]))) (h.next+2) 6 (.own H.next 0 m) (Sx.rows L++[X.cells]):=Tl.grow (by omega) (by rw[hm];simp[Sx.rows_len]);exact this.up (AF _) (λj hj _=>by simp only[A0.set];rw[A4 (by omega)])
 ·simp only[A0.set,A0.new,n1,n2,AD];rw[t4 _ (by omega)];exact o1
theorem bV{P:Program}{ow:Nat->Bool}{wf:FuncId->Bool}{n:Nat}{Q:Au}{s:A8}{h0:A0}{c:Code}(I:A0->Prop)(hi:I h0)(hh: ∀ h',I h'->AX P ow wf n c Q s h'):AX P ow wf n c Q s h0:=hh _ hi
theorem TC: ∀ f:Fm,f.small->BP f=true-> ∀ h:A0,AA prog 162 [.agg f.cells] h λr h'=>r= .agg (Aa f).cells/\h'=h:=by
 refine Fm.ind ?_;intro op name args params exprs kids ih hsm hsh h;simp only[Fm.small]at hsm;obtain⟨hal,hpl,hes,hkl,hks⟩:=hsm;rw[Ex.smalls_iff]at hes;rw[Fm.smalls_iff]at hks;simp only[BP,AT]at hsh;obtain⟨⟨hpo,hse⟩,hsk⟩:=hsh;rw[Ie]at hsk;rw[List.all_eq_true]at hse;have hlK:=Fm.rows_len kids;unfold Aa;refine AA.frz Ty.JM ?_;cases k1:(op.data.toList==(#[97,116,111,109]:Array UInt8).toList)with
 |true=>
  rw[AH (show A3 op BH=true from k1)];have hw: ∀ h:A0,AA prog 174 [A1 name,.imm 1 (AP args)] h λr h'=>r= .agg (Bv name args).cells/\h'=h:=λh=>OW hal;have hfz:=λ(n:Nat)(h:A0)=>Do n h (Bv name args);simp only[Fm.cells];generalize Bv name args=X at hw hfz⊢;obtain⟨ki,va,li,co,te,ks⟩:=X;simp only[Sx.cells]at hw hfz⊢;refine AN func162 ntmps162 results162 Ty.JM ?_;refine wt k1 ?_;refine uU k1 (hw _) ?_;refine wt A2 ?_;refine⟨?_,((AL.refl h).new _).set (AF _) _⟩;simp only[AZ];exact⟨_,rfl,hfz _ _⟩
 |false=>
  cases k2:(op.data.toList==(#[115,97,109,101]:Array UInt8).toList)with
  |true=>
   rw[A4 (by rw[(show A3 op BH=false from k1)];simp)];rw[AH (show A3 op Ba=true from k2)];have hw: ∀ h:A0,AA prog 174 [A1 ⟨#[61]⟩,.imm 1 (AP args)] h λr h'=>r= .agg (Bv CS args).cells/\h'=h:=λh=>OW hal;have hfz:=λ(n:Nat)(h:A0)=>Do n h (Bv CS args);simp only[Fm.cells];generalize Bv CS args=X at hw hfz⊢;obtain⟨ki,va,li,co,te,ks⟩:=X;simp only[Sx.cells]at hw hfz⊢;refine AN func162 ntmps162 results162 Ty.JM ?_;refine wt (uu k1 k2) ?_;refine uU (uu k1 k2) (hw _) ?_;refine wt A2 ?_;refine⟨?_,((AL.refl h).new _).set (AF _) _⟩;simp only[AZ];exact⟨_,rfl,hfz _ _⟩
  |false=>
   rw[A4 (by rw[(show A3 op BH=false from k1)];simp),A4 (by rw[(show A3 op Ba=false from k2)];simp)];cases k3:(op.data.toList==(#[60]:Array UInt8).toList)with
   |true=>
    rw[AH (by simp[Fj,(show A3 op BH=false from k1),(show A3 op Ba=false from k2),(show A3 op CK=true from k3)])];have hx2:exprs.length=2:=(by have q:=hpo;simp[DA,CW,(show A3 op BH=false from k1),(show A3 op Ba=false from k2),(show A3 op CK=true from k3)]at q;omega);obtain⟨a,b,rfl⟩: ∃ a b,exprs=[a,b]:=by
     match exprs,hx2 with
     |[a,b],_=>exact⟨a,b,rfl⟩
    have ca:=Ic a (hes a (by simp)) (hse a (by simp));have cb:=Ic b (hes b (by simp)) (hse b (by simp));have hw:=λh:A0=>IZ (h:=h) (s:=op);simp only[List.map_cons,List.map_nil];have hfz:=λ(n:Nat)(h:A0)=>Do n h (AB [A5 op,Am a,Am b]);have hl:=λh:A0=>Ia (h:=h) (p:= .imm 6 (Sx.rows [A5 op,Am a,Am b])) rfl (λ_=>Ib (Fe _ _));generalize Am a=xa at ca hfz hl⊢;generalize Am b=xb at cb hfz hl⊢;clear ih hks hpo hse hsk hes;obtain⟨DP,aname,an,aargs,akids⟩:=a;obtain⟨bop,bname,bn,bargs,bkids⟩:=b;obtain⟨ki,va,li,co,te,ks⟩:=xa;obtain⟨ki2,va2,li2,co2,te2,ks2⟩:=xb;simp only[Fm.cells,Ex.cells,Ex.rows,AB,Sx.cells,Sx.rows,A5]at ca cb hw hfz hl⊢;refine AN func162 ntmps162 results162 Ty.JM ?_;refine wy (Aj k1 k2 k3) ?_;(first|refine uV A2 (hw _) ?_|refine uA A2 (hw _) ?_);refine wy A2 ?_;(first|refine uV A2 (ca _) ?_|refine uA A2 (ca _) ?_);refine wy A2 ?_;(first|refine uV A2 (cb _) ?_|refine uA A2 (cb _) ?_);refine wy A2 ?_;(first|refine uV A2 (hl _) ?_|refine uA A2 (hl _) ?_);refine wy A2 ?_;refine⟨?_,((AL.refl h).new _).set (AF _) _⟩;simp only[AZ];exact⟨_,rfl,hfz _ _⟩
   |false=>
    cases k4:(op.data.toList==(#[60,61]:Array UInt8).toList)with
    |true=>
     rw[AH (by simp[Fj,(show A3 op BH=false from k1),(show A3 op Ba=false from k2),(show A3 op CK=false from k3),(show A3 op Ce=true from k4)])];have hx2:exprs.length=2:=(by have q:=hpo;simp[DA,CW,(show A3 op BH=false from k1),(show A3 op Ba=false from k2),(show A3 op CK=false from k3),(show A3 op Ce=true from k4)]at q;omega);obtain⟨a,b,rfl⟩: ∃ a b,exprs=[a,b]:=by
      match exprs,hx2 with
      |[a,b],_=>exact⟨a,b,rfl⟩
     have ca:=Ic a (hes a (by simp)) (hse a (by simp));have cb:=Ic b (hes b (by simp)) (hse b (by simp));have hw:=λh:A0=>IZ (h:=h) (s:=op);simp only[List.map_cons,List.map_nil];have hfz:=λ(n:Nat)(h:A0)=>Do n h (AB [A5 op,Am a,Am b]);have hl:=λh:A0=>Ia (h:=h) (p:= .imm 6 (Sx.rows [A5 op,Am a,Am b])) rfl (λ_=>Ib (Fe _ _));generalize Am a=xa at ca hfz hl⊢;generalize Am b=xb at cb hfz hl⊢;clear ih hks hpo hse hsk hes;obtain⟨DP,aname,an,aargs,akids⟩:=a;obtain⟨bop,bname,bn,bargs,bkids⟩:=b;obtain⟨ki,va,li,co,te,ks⟩:=xa;obtain⟨ki2,va2,li2,co2,te2,ks2⟩:=xb;simp only[Fm.cells,Ex.cells,Ex.rows,AB,Sx.cells,Sx.rows,A5]at ca cb hw hfz hl⊢;refine AN func162 ntmps162 results162 Ty.JM ?_;replace zz:=AS k1 k2 k3 k4;refine wy zz ?_;(first|refine uV A2 (hw _) ?_|refine uA A2 (hw _) ?_);refine wy A2 ?_;(first|refine uV A2 (ca _) ?_|refine uA A2 (ca _) ?_);refine wy A2 ?_;(first|refine uV A2 (cb _) ?_|refine uA A2 (cb _) ?_);refine wy A2 ?_;(first|refine uV A2 (hl _) ?_|refine uA A2 (hl _) ?_);refine wy A2 ?_;refine⟨?_,((AL.refl h).new _).set (AF _) _⟩;simp only[AZ];exact⟨_,rfl,hfz _ _⟩
    |false=>
     cases k5:(op.data.toList==(#[61]:Array UInt8).toList)with
     |true=>
      rw[AH (by simp[Fj,(show A3 op BH=false from k1),(show A3 op Ba=false from k2),(show A3 op CK=false from k3),(show A3 op Ce=false from k4),(show A3 op CS=true from k5)])];have hx2:exprs.length=2:=(by have q:=hpo;simp[DA,CW,(show A3 op BH=false from k1),(show A3 op Ba=false from k2),(show A3 op CK=false from k3),(show A3 op Ce=false from k4),(show A3 op CS=true from k5)]at q;omega);obtain⟨a,b,rfl⟩: ∃ a b,exprs=[a,b]:=by
       match exprs,hx2 with
       |[a,b],_=>exact⟨a,b,rfl⟩
      have ca:=Ic a (hes a (by simp)) (hse a (by simp));have cb:=Ic b (hes b (by simp)) (hse b (by simp));have hw:=λh:A0=>IZ (h:=h) (s:=op);simp only[List.map_cons,List.map_nil];have hfz:=λ(n:Nat)(h:A0)=>Do n h (AB [A5 op,Am a,Am b]);have hl:=λh:A0=>Ia (h:=h) (p:= .imm 6 (Sx.rows [A5 op,Am a,Am b])) rfl (λ_=>Ib (Fe _ _));generalize Am a=xa at ca hfz hl⊢;generalize Am b=xb at cb hfz hl⊢;clear ih hks hpo hse hsk hes;obtain⟨DP,aname,an,aargs,akids⟩:=a;obtain⟨bop,bname,bn,bargs,bkids⟩:=b;obtain⟨ki,va,li,co,te,ks⟩:=xa;obtain⟨ki2,va2,li2,co2,te2,ks2⟩:=xb;simp only[Fm.cells,Ex.cells,Ex.rows,AB,Sx.cells,Sx.rows,A5]at ca cb hw hfz hl⊢;refine AN func162 ntmps162 results162 Ty.JM ?_;replace zz:=AV k1 k2 k3 k4 k5;refine wy zz ?_;(first|refine uV A2 (hw _) ?_|refine uA A2 (hw _) ?_);refine wy A2 ?_;(first|refine uV A2 (ca _) ?_|refine uA A2 (ca _) ?_);refine wy A2 ?_;(first|refine uV A2 (cb _) ?_|refine uA A2 (cb _) ?_);refine wy A2 ?_;(first|refine uV A2 (hl _) ?_|refine uA A2 (hl _) ?_);refine wy A2 ?_;refine⟨?_,((AL.refl h).new _).set (AF _) _⟩;simp only[AZ];exact⟨_,rfl,hfz _ _⟩
     |false=>
      rw[A4 (by simp[Fj,(show A3 op CK=false from k3),(show A3 op Ce=false from k4),(show A3 op CS=false from k5)])];clear hse hes hpo;simp only[Fm.cells];refine AN func162 ntmps162 results162 Ty.JM ?_;replace zz:=AV k1 k2 k3 k4 k5;refine wt zz ?_;refine uU k1 (Ia (p:= .sc (.slice none 0 0)) rfl (λ_=>by simp only[AZ])) ?_;refine xH 11 k1 ?_;refine⟨?_⟩;refine bV (FD h []) ?_ (λH0 hI=>?_)
      ·refine FD.mk2 (p:= .sc (.slice none 0 0)) ((((AL.refl h).new _).new _).set (by omega) _) (by simp[A0.new,A0.set]) (by simp[A0.new,A0.set]) (by simp[A0.new,A0.set]) Tl.nil
      refine CF (λS h'=>S 1= .cptr (Fm.mk op name args params exprs kids).cells/\S 2= .ptr h.next 0 0/\S 3= .ptr (h.next+1) 0 0/\FD h (if(A3 op C5&&kids.isEmpty)=true then[]else[A5 op]) h') ?_ ?_
      ·have n6:A3 op C5=(op.data.toList==(#[97,110,100]:Array UInt8).toList):=rfl;cases k6:(op.data.toList==(#[97,110,100]:Array UInt8).toList)with
       |false=>
        rw[A4 (by rw[n6,k6];simp)];obtain⟨hg,p,H,hn,o1,o2,tl,t1,t2,t3,t4,hgH,hpc,hp1⟩:=hI;have hw: ∀ (s:ByteArray)(h:A0),AA prog 136 [A1 s] h λr h'=>r= .agg (A5 s).cells/\h'=h:=λs h=>IZ;simp only[A5,Sx.cells,Sx.rows]at hw;have o2H:H.obj (h.next+1)=_:=(t4 _ (by omega)).trans o2;have n2:(h.next+1=H.next)=False:=(by simp;omega);have hpr:(Sx.rows ([]:List Sx)).length=0:=rfl;have hpush:=λX:Sx=>FD.push (L:=[]) (X:=X) (m:=1) hn o1 t3 t4 hgH rfl;generalize Sx.rows []=R at t1 hpr hpush;replace zz:=Aq k6 yF o2 o2H n2 t1 t2 hpr hpc hp1;refine wy zz ?_;replace zz:=AS k6 yF o2 o2H;(first|refine uV zz (hw op _) ?_|refine uA zz (hw op _) ?_);replace zz:=Aq k6 yF o2 o2H n2 t1 t2 hpr hpc hp1;repeat'(first|refine cK ?_|refine nK ?_|refine uB zz ?_|(rw[AH];rotate_left 1;omega;simp only[Ty.w,simprocAttr,k6,Al,o2,o2H,n2,t1,t2,hpr,hpc,hp1])|apply zI)
        (simp only[Ty.w,simprocAttr,Ty.AU,Fm.cells])
        exact hpush (A5 op)
       |true=>
        cases q6:decide ((kids.length:Int)>0)with
        |false=>
         have hk0:kids.isEmpty=true:=(by cases kids with|nil=>rfl|cons a l=>simp at q6);rw[AH (by rw[n6,k6,hk0];try rfl)];replace zz:=AS k6 q6 hlK yT;refine wt zz ?_
         (simp only[Ty.w,simprocAttr,Ty.AU,Fm.cells])
         exact hI
        |true=>
         have hk0:kids.isEmpty=false:=(by cases kids with|nil=>simp at q6|cons a l=>rfl);rw[A4 (by rw[hk0];simp)];obtain⟨hg,p,H,hn,o1,o2,tl,t1,t2,t3,t4,hgH,hpc,hp1⟩:=hI;have hw: ∀ (s:ByteArray)(h:A0),AA prog 136 [A1 s] h λr h'=>r= .agg (A5 s).cells/\h'=h:=λs h=>IZ;simp only[A5,Sx.cells,Sx.rows]at hw;have o2H:H.obj (h.next+1)=_:=(t4 _ (by omega)).trans o2;have n2:(h.next+1=H.next)=False:=(by simp;omega);have hpr:(Sx.rows ([]:List Sx)).length=0:=rfl;have hpush:=λX:Sx=>FD.push (L:=[]) (X:=X) (m:=1) hn o1 t3 t4 hgH rfl;generalize Sx.rows []=R at t1 hpr hpush;replace zz:=AJ k6 q6 hlK yT o2 o2H n2 t1 t2 hpr hpc hp1;refine wy zz ?_;replace zz:=AK k6 q6 hlK yT o2 o2H;(first|refine uV zz (hw op _) ?_|refine uA zz (hw op _) ?_);replace zz:=AJ k6 q6 hlK yT o2 o2H n2 t1 t2 hpr hpc hp1;repeat'(first|refine cK ?_|refine nK ?_|refine uB zz ?_|(rw[AH];rotate_left 1;omega;simp only[Ty.w,simprocAttr,k6,q6,hlK,Ab,o2,o2H,n2,t1,t2,hpr,hpc,hp1])|apply zI)
         (simp only[Ty.w,simprocAttr,Ty.AU,Fm.cells])
         exact hpush (A5 op)
      ·clear hI;obtain⟨L0,hL0,hl0⟩: ∃ L0:List Sx,(if(A3 op C5&&kids.isEmpty)=true then[]else[A5 op])=L0/\L0.length<=1:=⟨_,rfl,by split<;>simp⟩;rw[hL0];rintro S h' ⟨g1,g2,g3,hI⟩;simp only[Fm.cells]at g1;refine xH 13 (Aj g1 g2 g3) ?_;refine⟨?_⟩;refine CF (λS h'=>S 1= .cptr (Fm.mk op name args params exprs kids).cells/\S 2= .ptr h.next 0 0/\S 3= .ptr (h.next+1) 0 0/\FD h (L0++(if Ez op=true then[AB (AG params)]else[])) h') ?_ ?_
       ·have n7:A3 op DJ=(op.data.toList==(#[102,111,114,97,108,108]:Array UInt8).toList):=rfl;have n8:A3 op Fi=(op.data.toList==(#[101,120,105,115,116,115]:Array UInt8).toList):=rfl;cases k7:(op.data.toList==(#[102,111,114,97,108,108]:Array UInt8).toList)with
        |true=>
         rw[AH (by simp[Ez,n7,n8,k7])];obtain⟨hg,p,H,hn,o1,o2,tl,t1,t2,t3,t4,hgH,hpc,hp1⟩:=hI;have hwp:=OZ (l:=params) hpl;have hli: ∀ h:A0,AA prog 175 [.imm 6 (Sx.rows (AG params))] h λr h'=>r= .agg (AB (AG params)).cells/\h'=h:=λh=>Ia rfl (λ_=>Ib (Fe _ _));generalize hX:AB (AG params)=X at hli⊢;clear hX;generalize Sx.rows (AG params)=PR at hwp hli;have o2H:H.obj (h.next+1)=_:=(t4 _ (by omega)).trans o2;have n2:(h.next+1=H.next)=False:=(by simp;omega);have hpr:=Sx.rows_len L0;have hpush:=FD.push (L:=L0) (X:=X) (m:=L0.length+1) hn o1 t3 t4 hgH rfl;generalize Sx.rows L0=R at t1 hpr hpush;have hb:(L0.length+1)*72<=140737488355328:=(by omega);obtain⟨ki,va,li,co,te,ks⟩:=X;simp only[Sx.cells]at hli hpush;replace zz:=AJ g1 g2 g3 k7 o2 o2H n2 t1 t2 hpr hpc (uu hp1 hb);refine wy zz ?_;replace zz:=AK g1 g2 g3 k7 o2 o2H;(first|refine uV zz (hwp _) ?_|refine uA zz (hwp _) ?_);replace zz:=AJ g1 g2 g3 k7 o2 o2H n2 t1 t2 hpr hpc (uu hp1 hb);refine wy zz ?_;replace zz:=AK g1 g2 g3 k7 o2 o2H;(first|refine uV zz (hli _) ?_|refine uA zz (hli _) ?_);replace zz:=AJ g1 g2 g3 k7 o2 o2H n2 t1 t2 hpr hpc (uu hp1 hb);repeat'(first|refine cK ?_|refine nK ?_|refine uB zz ?_|(rw[AH];rotate_left 1;omega;simp only[Ty.w,simprocAttr,g1,g2,g3,k7,o2,o2H,n2,t1,t2,hpr,hpc,hp1,hb])|apply zI)
         (simp only[Ty.w,simprocAttr,Ty.AU,g1,g2,g3,Fm.cells])
         exact hpush
        |false=>
         cases k8:(op.data.toList==(#[101,120,105,115,116,115]:Array UInt8).toList)with
         |true=>
          rw[AH (by simp[Ez,n7,n8,k8])];obtain⟨hg,p,H,hn,o1,o2,tl,t1,t2,t3,t4,hgH,hpc,hp1⟩:=hI;have hwp:=OZ (l:=params) hpl;have hli: ∀ h:A0,AA prog 175 [.imm 6 (Sx.rows (AG params))] h λr h'=>r= .agg (AB (AG params)).cells/\h'=h:=λh=>Ia rfl (λ_=>Ib (Fe _ _));generalize hX:AB (AG params)=X at hli⊢;clear hX;generalize Sx.rows (AG params)=PR at hwp hli;have o2H:H.obj (h.next+1)=_:=(t4 _ (by omega)).trans o2;have n2:(h.next+1=H.next)=False:=(by simp;omega);have hpr:=Sx.rows_len L0;have hpush:=FD.push (L:=L0) (X:=X) (m:=L0.length+1) hn o1 t3 t4 hgH rfl;generalize Sx.rows L0=R at t1 hpr hpush;have hb:(L0.length+1)*72<=140737488355328:=(by omega);obtain⟨ki,va,li,co,te,ks⟩:=X;simp only[Sx.cells]at hli hpush;replace zz:=AJ g1 g2 g3 k7 k8 o2 o2H n2 t1 t2 hpr (Aj hpc hp1 hb);refine wy zz ?_;replace zz:=AY g1 g2 g3 k7 k8 o2 o2H;(first|refine uV zz (hwp _) ?_|refine uA zz (hwp _) ?_);replace zz:=AJ g1 g2 g3 k7 k8 o2 o2H n2 t1 t2 hpr (Aj hpc hp1 hb);refine wy zz ?_;replace zz:=AY g1 g2 g3 k7 k8 o2 o2H;(first|refine uV zz (hli _) ?_|refine uA zz (hli _) ?_);replace zz:=AJ g1 g2 g3 k7 k8 o2 o2H n2 t1 t2 hpr (Aj hpc hp1 hb);repeat'(first|refine cK ?_|refine nK ?_|refine uB zz ?_|(rw[AH];rotate_left 1;omega;simp only[Ty.w,simprocAttr,g1,g2,g3,k7,k8,o2,o2H,n2,t1,t2,hpr,hpc,hp1,hb])|apply zI)
          (simp only[Ty.w,simprocAttr,Ty.AU,g1,g2,g3,Fm.cells])
          exact hpush
         |false=>
          rw[A4 (by simp[Ez,n7,n8,k7,k8]),List.append_nil];replace zz:=AV g1 g2 g3 k7 k8;refine wt zz ?_
          (simp only[Ty.w,simprocAttr,Ty.AU,g1,g2,g3,Fm.cells])
          exact hI
       ·clear hI g1 g2 g3;obtain⟨L1,hL1,hl1⟩: ∃ L1:List Sx,L0++(if Ez op=true then[AB (AG params)]else[])=L1/\L1.length<=2:=⟨_,rfl,by split<;>simp<;>omega⟩;rw[hL1];rw[KD];clear hL1 hL0 hl0;rintro S h' ⟨g1,g2,g3,hI⟩;simp only[Fm.cells]at g1;have hrl: ∀ k,(L1++(kids.take k).map Aa).length<=1048578:=λk=>(by simp;omega);replace zz:=AS g1 g2 g3 hlK;refine wt zz ?_;refine BV (λc S h'=>S 2= .ptr h.next 0 0/\S 3= .ptr (h.next+1) 0 0/\S 75= .imm 6 (Fm.rows kids)/\S 76= .sc (.int .i64 kids.length)/\ ∃ k:Nat,S 77= .sc (.int .i64 k)/\k<=kids.length/\c=kids.length-k/\FD h (L1++(kids.take k).map Aa) h') kids.length ?_ ?_
        ·simp only[Ty.w,simprocAttr,g2,g3];refine⟨0,rfl,by omega,rfl,?_⟩;simpa using hI
        ·clear hI g1 g2 g3;rintro c S h' ⟨g2,g3,g75,g76,k,g77,hk,rfl,hI⟩;by_cases hlt:k<kids.length
         ·have hdk:decide ((k:Int)<(kids.length:Int))=true:=(by simp;omega);have w7:IntKind.i64.wrap ((k:Int)+1)=k+1:=(by rw[B9 (by omega) (by omega)]);obtain⟨x,hx⟩: ∃ x,kids[k]? =some x:=⟨_,List.getElem?_eq_getElem hlt⟩;have hmem:=List.mem_of_getElem? hx;have hr:=Fm.rows_get hx;have hcx:=ih x hmem (hks x hmem) (hsk x hmem);have hL:L1++(kids.take (k+1)).map Aa=L1++(kids.take k).map Aa++[Aa x]:=(by rw[List.take_add_one,hx];simp);have hrk:=hrl k;generalize L1++(kids.take k).map Aa=L2 at hI hrk hL;obtain⟨hg,p,H,hn,o1,o2,tl,t1,t2,t3,t4,hgH,hpc,hp1⟩:=hI;generalize Aa x=X at hcx hL;obtain⟨xo,xn,xa,xp,xe,xk⟩:=x;obtain⟨ki,va,li,co,te,ks⟩:=X;simp only[Fm.cells,Sx.cells]at hr hcx;(try clear zz);clear t1 t2 t3 t4 hgH H;have hG2:AL h ((h'.new (.arr 6 [[.sc (.string ⟨#[]⟩),.sc (.string ⟨#[]⟩),.sc (.slice none 0 0),.sc (.slice none 0 0),.sc (.slice none 0 0),.sc (.slice none 0 0)]])).set h'.next (.arr 6 [[A1 xo,A1 xn,.imm 1 (AP xa),.imm 2 (A7 xp),.imm 5 (Ex.rows xe),.imm 6 (Fm.rows xk)]])):=(hg.new _).set hg.le _;have m1:¬ h.next=h'.next:=by omega
          have m2:¬ h.next+1=h'.next:=by omega
          have m2':(h.next+1=h'.next)=False:=BF m2;have tl2:=tl.up (h':=((h'.new (.arr 6 [[.sc (.string ⟨#[]⟩),.sc (.string ⟨#[]⟩),.sc (.slice none 0 0),.sc (.slice none 0 0),.sc (.slice none 0 0),.sc (.slice none 0 0)]])).set h'.next (.arr 6 [[A1 xo,A1 xn,.imm 1 (AP xa),.imm 2 (A7 xp),.imm 5 (Ex.rows xe),.imm 6 (Fm.rows xk)]]))) (by simp[A0.set,A0.new]) λj _ hj=>(by simp only[A0.set,A0.new];rw[A4 (by omega),A4 (by omega)]);obtain⟨H,t1,t2,t3,t4,t5⟩:=tl2.tail;have hgH:=t5 h ⟨hG2.le,hG2.old⟩ (by omega);have o1x:((h'.new (.arr 6 [[.sc (.string ⟨#[]⟩),.sc (.string ⟨#[]⟩),.sc (.slice none 0 0),.sc (.slice none 0 0),.sc (.slice none 0 0),.sc (.slice none 0 0)]])).set h'.next (.arr 6 [[A1 xo,A1 xn,.imm 1 (AP xa),.imm 2 (A7 xp),.imm 5 (Ex.rows xe),.imm 6 (Fm.rows xk)]])).obj h.next=some (.arr 6 [[.sc (.int .i64 0),.sc (.int .i64 0),.sc (.int .i64 0),.sc (.int .i64 0),.sc (.string ⟨#[]⟩),.sc (.slice none 0 0)]]):=by simp only[A0.set,A0.new,m1,AD];exact o1
          have o2H:H.obj (h.next+1)=_:=(t4 _ (by omega)).trans (show((h'.new (.arr 6 [[.sc (.string ⟨#[]⟩),.sc (.string ⟨#[]⟩),.sc (.slice none 0 0),.sc (.slice none 0 0),.sc (.slice none 0 0),.sc (.slice none 0 0)]])).set h'.next (.arr 6 [[A1 xo,A1 xn,.imm 1 (AP xa),.imm 2 (A7 xp),.imm 5 (Ex.rows xe),.imm 6 (Fm.rows xk)]])).obj (h.next+1)=_ by simp only[A0.set,A0.new,m2,AD];exact o2);have t3':H.next=h'.next+1:=by rw[t3];simp[A0.new,A0.set]
          have n2:(h.next+1=H.next)=False:=(by simp;omega);have hpr:=Sx.rows_len L2;have hpush:=FD.push (h':=((h'.new (.arr 6 [[.sc (.string ⟨#[]⟩),.sc (.string ⟨#[]⟩),.sc (.slice none 0 0),.sc (.slice none 0 0),.sc (.slice none 0 0),.sc (.slice none 0 0)]])).set h'.next (.arr 6 [[A1 xo,A1 xn,.imm 1 (AP xa),.imm 2 (A7 xp),.imm 5 (Ex.rows xe),.imm 6 (Fm.rows xk)]]))) (L:=L2) (X:= .mk ki va li co te ks) (m:=L2.length+1) (by simp only[A0.set,A0.new];omega) o1x t3 t4 ⟨hgH.1,hgH.2⟩ rfl;have hb:(L2.length+1)*72<=140737488355328:=(by omega);simp only[Sx.cells]at hpush;clear tl tl2 t5;generalize Sx.rows L2=R at t1 hpr hpush;replace zz:=AJ g2 g3 g75 g76 g77 hdk hr m2' o2 o2H n2 (AK t1 t2 hpr hpc hp1 hb);refine wy zz ?_;replace zz:=B6 g2 g3 g75 g76 g77 m2' o2 o2H;(first|refine uV zz (hcx _) ?_|refine uA zz (hcx _) ?_);replace zz:=AJ g2 g3 g75 g76 g77 w7 m2' o2 o2H n2 t1 (AV t2 hpr hpc hp1 hb);(repeat'(first|refine cK ?_|refine nK ?_|refine uR zz ?_|(refine uN hK ?_;clear hK)|refine uB zz ?_|(rw[AH];rotate_left 1;omega;simp only[Ty.w,simprocAttr,g2,g3,g75,g76,g77,w7,m2',o2,o2H,n2,t1,t2,hpr,hpc,hp1,hb])|apply zI));exact⟨kids.length-(k+1),by omega,k+1,by simp,by omega,rfl,by rw[hL];exact hpush⟩
         ·have hdk:decide ((k:Int)<(kids.length:Int))=false:=(by simp;omega);have hke:k=kids.length:=(by omega);subst hke;rw[List.take_length]at hI;obtain⟨hg,p,H,hn,o1,o2,tl,t1,t2,t3,t4,hgH,hpc,hp1⟩:=hI;replace zz:=BR g2 g3 g75 g76 g77 hdk o1 o2 hpc;(repeat'(first|refine cK ?_|refine nK ?_|refine AI λK hK=>?_|refine uR zz ?_|refine uT zz ?_|refine uX ?_|refine Aw zz ?_|(refine uN hK ?_;clear hK)|(clear hK;refine uN hK ?_;clear hK)|(rw[AH];rotate_left 1;omega;simp only[Ty.w,simprocAttr,g2,g3,g75,g76,g77,hdk,o1,o2,hpc])|apply zI));refine⟨?_,hg.set (AF _) _⟩;have tl2:Tl (h'.set h.next (.arr 6 [[.sc (.int .i64 3),.sc (.int .i64 0),.sc (.int .i64 0),.sc (.int .i64 0),.sc (.string ⟨#[]⟩),p]])) (h.next+2) 6 p (Sx.rows (L1++kids.map Aa)):=tl.up (AF _) λj hj _=>(by simp only[A0.set];rw[A4 (by omega)]);simp only[AB,Sx.cells,AZ,B4];exact⟨_,rfl,rfl,rfl,rfl,rfl,rfl,by have:=JT (Tl.low tl2 (show h.next<=h.next+2 by omega));simpa only[AZ]using this,trivial⟩
theorem I8: ∀ l:List Pm,(∀ p∈l,p.ok)->Sx.oks (AG l)
 |[],_=>by simp[AG,Sx.oks]
 |p::l,h=>by
  have hp:=h p (by simp);simp only[AG,Sx.oks];exact⟨CJ hp.1,CJ (by simp[AE,ByteArray.size]),CJ hp.2,I8 l λq hq=>h q (by simp[hq])⟩
theorem bW{op name:ByteArray}{args:List ByteArray}{params:List Pm}{ne nk:Nat}(h1:¬ A3 op BH=true)(h2:¬ A3 op Ba=true)(h3:Fj op=true)(hp:DA op name args params ne nk=true):ne=2:=by
 unfold DA CW at hp;rw[A4 h1,A4 h2]at hp;simp only[Fj,Cc]at h3;by_cases k1:A3 op CK=true
 ·simp [k1]at hp;omega
 by_cases k2:A3 op Ce=true
 ·simp [k1,k2]at hp;omega
 have k3:A3 op CS=true:=by rcases h3 with(h3|h3)|h3<;>simp_all
 simp[k1,k2,k3]at hp;omega
theorem Ji: ∀ f:Fm,f.ok->f.small->BP f=true->(Aa f).ok:=by
 refine Fm.ind ?_;intro op name args params exprs kids ih hok hsm hsh;simp only[Fm.ok]at hok;simp only[Fm.small]at hsm;simp only[BP,AT]at hsh;obtain⟨⟨hpo,_⟩,hsh⟩:=hsh;rw[Ie]at hsh;obtain⟨hop,hname,hargs,⟨_,hps⟩,⟨_,hes⟩,_,hks⟩:=hok;obtain⟨hal,hpl,hse,hkl,hsk⟩:=hsm;rw[Fm.oks_iff]at hks;rw[Ex.oks_iff]at hes;have hse:=Ex.smalls_iff.1 hse;have hsk:=Fm.smalls_iff.1 hsk;unfold Aa;split
 ·exact LL hname hal hargs.2
 split
 ·exact LL (by simp[CS,AE,ByteArray.size]) hal hargs.2
 split
 ·rename_i c1 c2 c3;have h2:=bW c1 c2 c3 hpo;refine E7 (by simp only[List.length_cons,List.length_map];unfold AE;omega) (Sx.oks_iff.2 ?_);intro k hk;simp only[List.mem_cons,List.mem_map]at hk;rcases hk with rfl|⟨e,he,rfl⟩
  ·exact CJ hop
  ·exact My e (hes e he) (hse e he)
 ·rw [KD];refine E7 ?_ (Sx.oks_iff.2 ?_)
  ·simp only[List.length_append,List.length_map];have a1:(if(A3 op C5&&kids.isEmpty)=true then[]else[A5 op]).length<=1:=(by split<;>simp);have a2:(if Ez op=true then[AB (AG params)]else[]).length<=1:=(by split<;>simp);unfold AE;omega
  ·intro k hk;simp only[List.mem_append,List.mem_map]at hk;rcases hk with(hk|hk)|⟨e,he,rfl⟩
   ·split at hk
    ·simp at hk
    ·simp only[List.mem_singleton]at hk;subst hk;exact CJ hop
   ·split at hk
    ·simp only[List.mem_singleton]at hk;subst hk;exact E7 (by rw[D9];unfold AE;omega) (I8 _ hps)
    ·simp at hk
   ·exact ih e he (hks e he) (hsk e he) (hsh e he)
theorem TD: ∀ (l:List Ex)(d n:Nat),(El l d n).1=true-> ∀ e∈l,Br e=true
 |[],_,_,_=>by simp
 |e::l,d,n,h=>by
  unfold El at h;have h1:=LK e d n;split at h
  ·rename_i c he;rw[he]at h1;intro x hx;rcases List.mem_cons.1 hx with rfl|hx
   ·exact h1 rfl
   ·exact TD l d c h x hx
  ·simp at h
mutual
theorem La: ∀ (f:Fm)(d n:Nat),(Dq f d n).1=true->BP f=true
 | .mk op name args params exprs kids,d,n,h=>by
  unfold Dq at h;split at h
  ·split at h
   ·rename_i hp;have h1:=TD exprs (d+1) (n+1);split at h
    ·rename_i c he;rw[he]at h1;simp only[BP,AT,List.all_eq_true];exact⟨⟨hp,h1 rfl⟩,TE kids (d+1) c h⟩
    ·simp at h
   ·simp at h
  ·simp at h
theorem TE: ∀ (l:List Fm)(d n:Nat),(Eb l d n).1=true->HL l=true
 |[],_,_,_=>by simp[HL]
 |k::l,d,n,h=>by
  unfold Eb at h;have h1:=La k d n;split at h
  ·rename_i c he;rw[he]at h1;simp only[HL,AT];exact⟨h1 rfl,TE l d c h⟩
  ·simp at h
end
theorem bX{f:Fm}(hok:f.ok)(hsm:f.small)(h:A0):AA prog 161 [.agg f.cells] h λr h'=>r= .sc (.bool (BW f))/\h'=h:=by
 have hf:=bU f hok 0 0 (by omega) (by omega) h.next (h.new (.arr 1 [[.sc (.int .i64 0)]])) (by simp[A0.new,CD])
 have hsh:=La f 0 0;have hx:=Ji f hok hsm;have hw0:=TC f hsm;have hv:BW f=((Dq f 0 0).1&&(Ci (Aa f) 0 0).1):=rfl;rw[hv];refine AA.quiet Ty.OM ?_;generalize Dq f 0 0=V at hf hsh⊢;obtain⟨b,c⟩:=V;cases b with
 |false=>
  obtain⟨op,name,args,params,exprs,kids⟩:=f;simp only[Fm.cells,Nc]at hf⊢;refine uG (ow:=λt=>t==5) (wf:=λ_=>false) func161 ntmps161 results161 Ty.OM ?_;refine wt A2 ?_;refine CV (hf) (sr A2) ?_;simp only[Ty.w,simprocAttr];refine wt A2 ?_;exact((AL.refl h).new _).set (AF _) _
 |true=>
  have hw:=hw0 (hsh rfl);have hvv:=OV (hx (hsh rfl))
  clear hw0;generalize Aa f=X at hw hvv⊢;obtain⟨op,name,args,params,exprs,kids⟩:=f;obtain⟨ki,va,li,co,te,ks⟩:=X;simp only[Fm.cells,Sx.cells,Nc]at hf hw hvv⊢;refine uG (ow:=λt=>t==5) (wf:=λ_=>false) func161 ntmps161 results161 Ty.OM ?_;refine wt A2 ?_;refine CV (hf) (sr A2) ?_;simp only[Ty.w,simprocAttr];refine wt A2 ?_;refine uU A2 (hw _) ?_;refine wt A2 ?_;refine uU A2 (hvv _) ?_;refine wt A2 ?_;exact((AL.refl h).new _).set (AF _) _
theorem bY{f:Fm}(hok:f.ok)(hsm:f.small)(h:A0):AA prog 141 [.agg f.cells] h λr h'=>r=(if BW f then .tup [.agg (Aa f).cells,.sc .nilIface]else .tup [.agg Fg.cells,Dp 2])/\h'=h:=by
 have hv:=bX hok hsm;refine AA.frz Ty.OJ ?_;cases hb:BW f with
 |false=>
  rw[hb]at hv;obtain⟨op,name,args,params,exprs,kids⟩:=f;simp only[Fm.cells,Ap,AD]at hv⊢;refine AN func141 ntmps141 results141 Ty.OJ ?_;refine wt A2 ?_;refine uU yF (hv _) ?_;refine wt yF ?_;refine⟨?_,((AL.refl h).new _).set (AF _) _⟩;simp only[Fg,Dp,Sx.cells,Sx.rows,AZ,B4];exact⟨_,rfl,⟨_,rfl,rfl,rfl,rfl,rfl,rfl,.inr (.inl ⟨rfl,.inr rfl⟩),trivial⟩,rfl,trivial⟩
 |true=>
  rw[hb]at hv;have hsh:=La f 0 0 (by unfold BW at hb;simp only[AT]at hb;exact hb.1);have hw:=TC f hsm hsh;have hfz:=λ(n:Nat)(h:A0)=>Do n h (Aa f);generalize Aa f=X at hw hfz⊢;obtain⟨op,name,args,params,exprs,kids⟩:=f;obtain⟨ki,va,li,co,te,ks⟩:=X;simp only[Fm.cells,Sx.cells,AC]at hv hw hfz⊢;refine AN func141 ntmps141 results141 Ty.OJ ?_;refine wt A2 ?_;refine uU yT (hv _) ?_;refine wt yT ?_;refine uU A2 (hw _) ?_;refine wt A2 ?_;refine⟨?_,((AL.refl h).new _).set (AF _) _⟩;simp only[AZ,B4];exact⟨_,rfl,⟨_,rfl,hfz _ _⟩,rfl,trivial⟩
end Go.Proofs.YtblgchkahpgdjaaGreat
namespace Go.Proofs.YtblgchkahpgdjaaGreat
open Go.AM Go.Proofs.Tryz
set_option maxHeartbeats 2000000
set_option maxRecDepth 20000
def J6(q:At->Bool)(l:List At):Int:=match l.findIdx? q with
 |some i=>i
 |none=> -1
end Go.Proofs.YtblgchkahpgdjaaGreat
namespace Go.AM
def Vl.ok(v:Vl):Prop:=v.at_.ok/\ -9223372036854775808<=v.n/\v.n<=9223372036854775807
def Pb.ok(p:Pb):Prop:=p.name.size<=AE/\p.domain.size<=AE/\(p.objects.length<=AE/\ ∀ o∈p.objects,o.ok)/\(p.init.length<=AE/\ ∀ a∈p.init,a.ok)/\(p.values.length<=AE/\ ∀ v∈p.values,v.ok)/\p.goal.ok
end Go.AM
namespace Go.Proofs.YtblgchkahpgdjaaGreat
open Go.AM Go.Proofs.Tryz
set_option maxHeartbeats 4000000
set_option maxRecDepth 20000
end Go.Proofs.YtblgchkahpgdjaaGreat
namespace Go.AM
mutual
def Ex.nodes:Ex->Nat
 | .mk _ _ _ _ kids=>Ex.nodess kids+1
def Ex.nodess:List Ex->Nat
 |[]=>0
 |k::ks=>k.nodes+Ex.nodess ks
end
mutual
def Fm.nodes:Fm->Nat
 | .mk _ _ _ _ exprs kids=>Ex.nodess exprs+Fm.nodess kids+1
def Fm.nodess:List Fm->Nat
 |[]=>0
 |k::ks=>k.nodes+Fm.nodess ks
end
end Go.AM
namespace Go.Proofs.YtblgchkahpgdjaaGreat
open Go.AM Go.Proofs.Tryz
theorem HV{f:Fm}(h:BW f=true):BP f=true:=by
 unfold BW at h;simp only[AT]at h;exact La f 0 0 h.1
theorem bZ{op name:ByteArray}{args:List ByteArray}{params:List Pm}{exprs:List Ex}{kids:List Fm}(h1:op.size<=AE)(h2:name.size<=AE)(h3:args.length<=1048576)(h4: ∀ s∈args,s.size<=AE)(h5:params.length<=1048576)(h6: ∀ p∈params,p.ok)
  (h7:exprs.length<=2)(h8: ∀ e∈exprs,e.ok/\e.small)(h9:kids.length<=1048576)(h10: ∀ k∈kids,k.ok/\k.small):(Fm.mk op name args params exprs kids).ok/\(Fm.mk op name args params exprs kids).small:=by
 simp only[Fm.ok,Fm.small];rw[Fm.oks_iff,Ex.oks_iff,Ex.smalls_iff,Fm.smalls_iff];refine⟨⟨h1,h2,⟨by unfold AE;omega,h4⟩,⟨by unfold AE;omega,h6⟩,⟨by unfold AE;omega,λe he=>(h8 e he).1⟩,by unfold AE;omega,λk hk=>(h10 k hk).1⟩,h3,h5,λe he=>(h8 e he).2,h9,λk hk=>(h10 k hk).2⟩
end Go.Proofs.YtblgchkahpgdjaaGreat
namespace Go.Proofs.YtblgchkahpgdjaaGreat
open Go.AM Go.Proofs.Tryz
def BN(n:Int):Sx:= .mk 2 n 0 0 ⟨#[]⟩ []
def DC:Fm:= .mk C5 ⟨#[]⟩ [] [] [] []
end Go.Proofs.YtblgchkahpgdjaaGreat
namespace Go.Proofs.YtblgchkahpgdjaaGreat
open Go.AM Go.Proofs.Tryz
set_option maxRecDepth 4000
def I9:ByteArray:=⟨#[119,104,101,110]⟩
def Ip:ByteArray:=⟨#[97,115,115,105,103,110]⟩
def Iq:ByteArray:=⟨#[105,110,99,114,101,97,115,101]⟩
def Ir:ByteArray:=⟨#[100,101,99,114,101,97,115,101]⟩
structure NH where
 params:List Pm
 whens:List Fm
def Bx(f:Fm):Bool:=f.same DC
def By(f:Fm):Sx:=bif BW f then Aa f else .mk 0 0 0 0 ⟨#[]⟩ []
def IA(e:Ex):Sx:=bif EM e then Am e else .mk 0 0 0 0 ⟨#[]⟩ []
def Jj(k:Int):ByteArray:=bif k==3 then Ip else bif k==4 then Iq else Ir
def HX(c:Ch):Sx:=bif c.kind==1 then Bv c.name c.args else bif c.kind==2 then AB [A5 E8,Bv c.name c.args]
 else bif c.kind==3||c.kind==4||c.kind==5 then AB [A5 (Jj c.kind),Bv c.name c.args,IA c.value]else Bv c.name c.args
def HY(c:Ch):Sx:=bif Bx c.cond then HX c else AB [A5 I9,By c.cond,HX c]
def EP(c:Ch):Sx:=bif c.params.isEmpty then HY c else AB [A5 DJ,AB (AG c.params),HY c]
def BE(vars:Bool)(p:Pm):Bool:=(bif vars then D7 p.name else Ak p.name)&&(A3 p.type KC||Ak p.type)
def C0(c:Ch):Bool:=Ak c.name&&c.args.all BS&&(bif c.kind==1||c.kind==2 then c.value.same Dr else(bif c.kind==3||c.kind==4||c.kind==5 then EM c.value else false))&&(Bx c.cond||BW c.cond)&&c.params.all (BE true)
def Cx(l:List Ch):Sx:=bif l.isEmpty then AB []else AB (A5 C5::l.map EP)
end Go.Proofs.YtblgchkahpgdjaaGreat
namespace Go.Proofs.YtblgchkahpgdjaaGreat
open Go.AM Go.Proofs.Tryz
set_option maxHeartbeats 4000000
set_option maxRecDepth 20000
theorem NI{l:List Pm}(hl:l.length<=1048576)(h:A0):AA prog 30 [.imm 2 (A7 l)] h λr h'=>r= .imm 6 (Sx.rows (AG l))/\h'=h:=by
 refine AA.frz Ty.O9 ?_;have hll:=EX l;have hw: ∀ (s:ByteArray)(h:A0),AA prog 79 [A1 s] h λr h'=>r= .agg (A5 s).cells/\h'=h:=λs h=>Ig;simp only[A5,Sx.cells,Sx.rows]at hw;refine AN func30 ntmps30 results30 Ty.O9 ?_;refine wt hll ?_;refine BV (λm S h'=>S 0= .imm 2 (A7 l)/\ ∃ (k:Nat)(o:PV),S 4= .sc (.int .i64 k)/\S 3=o/\k<=l.length/\m=l.length-k/\AL h h'/\Tl h' h.next 6 o (Sx.rows (AG (l.take k)))) l.length ?_ ?_
 ·simp only[Ty.w,simprocAttr];exact⟨0,_,rfl,rfl,by omega,rfl,AL.refl _,Tl.nil⟩
 ·rintro m S h' ⟨g0,k,o,g4,g3,hk,rfl,hg,tl⟩;by_cases hlt:k<l.length
  ·have hd:decide ((k:Int)<(l.length:Int))=true:=(by simp;omega);have w7:IntKind.i64.wrap ((k:Int)+1)=k+1:=(by rw[B9 (by omega) (by omega)]);obtain⟨p,hx⟩: ∃ p,l[k]? =some p:=⟨_,List.getElem?_eq_getElem hlt⟩;have hr:=Hu hx;obtain⟨H,t1,t2,t3,t4,t5⟩:=tl.tail;have hpr:(Sx.rows (AG (l.take k))).length=3*k:=(by rw[Sx.rows_len,D9,List.length_take];omega);have hb:(3*k+3)*72<=140737488355328:=(by omega);have hR:Sx.rows (AG (l.take (k+1)))=Sx.rows (AG (l.take k))++[[.sc (.int .i64 1),.sc (.int .i64 0),.sc (.int .i64 0),.sc (.int .i64 0),A1 p.name,.imm 6 []],[.sc (.int .i64 1),.sc (.int .i64 0),.sc (.int .i64 0),.sc (.int .i64 0),A1 ⟨#[45]⟩,.imm 6 []],[.sc (.int .i64 1),.sc (.int .i64 0),.sc (.int .i64 0),.sc (.int .i64 0),A1 p.type,.imm 6 []]]:=by
    rw[List.take_add_one,hx,Mz];simp only[Sx.rows_map,List.map_append,Js,AG,List.map_cons,List.map_nil,A5,Sx.cells]
   generalize Sx.rows (AG (l.take k))=R at tl t1 t2 hpr hR;replace zz:=AK g0 g4 g3 hd hr hll;refine wy zz ?_;replace zz:=AS g0 g4 g3 hr;(first|refine uV zz (hw p.name _) ?_|refine uA zz (hw p.name _) ?_);refine wy zz ?_;replace zz:=AS g0 g4 g3 hr;(first|refine uV zz (hw ⟨#[45]⟩ _) ?_|refine uA zz (hw ⟨#[45]⟩ _) ?_);refine wy zz ?_;replace zz:=AS g0 g4 g3 hr;(first|refine uV zz (hw p.type _) ?_|refine uA zz (hw p.type _) ?_);replace zz:=BR g0 g4 g3 hr w7 t1 t2 hpr hb;(repeat'(first|refine cK ?_|refine nK ?_|refine uR zz ?_|(refine uN hK ?_;clear hK)|refine uB zz ?_|(rw[AH];rotate_left 1;omega;simp only[Ty.w,simprocAttr,g0,g4,g3,hr,w7,t1,t2,hpr,hb])|apply zI));have hkp:=t5 h ⟨hg.le,hg.old⟩ (AF _);have hgH:AL h H:=⟨hkp.1,hkp.2⟩;rw[← hR];have hRl:3*k+3=(Sx.rows (AG (l.take (k+1)))).length:=(by rw[Sx.rows_len,D9,List.length_take];omega);exact⟨l.length-(k+1),by omega,k+1,.own H.next 0 (3*k+3),by simp,by first|rfl|rw[t3],by omega,rfl,hgH.new _,Tl.grow hkp.1 hRl⟩
  ·have hd:decide ((k:Int)<(l.length:Int))=false:=(by simp;omega);have hke:k=l.length:=(by omega);subst hke;rw[List.take_length]at tl;replace zz:=AV g0 g4 g3 hd hll;refine wt zz ?_;exact⟨JT tl,hg⟩
theorem KR: ∀ f:Fm,f.small->BP f=true-> ∀ h:A0,AA prog 33 [.agg f.cells] h λr h'=>r= .agg (Aa f).cells/\h'=h:=by
 refine Fm.ind ?_;intro op name args params exprs kids ih hsm hsh h;simp only[Fm.small]at hsm;obtain⟨hal,hpl,hes,hkl,hks⟩:=hsm;rw[Ex.smalls_iff]at hes;rw[Fm.smalls_iff]at hks;simp only[BP,AT]at hsh;obtain⟨⟨hpo,hse⟩,hsk⟩:=hsh;rw[Ie]at hsk;rw[List.all_eq_true]at hse;have hlK:=Fm.rows_len kids;unfold Aa;refine AA.frz Ty.IU ?_;cases k1:(op.data.toList==(#[97,116,111,109]:Array UInt8).toList)with
 |true=>
  rw[AH (show A3 op BH=true from k1)];have hw: ∀ h:A0,AA prog 81 [A1 name,.imm 1 (AP args)] h λr h'=>r= .agg (Bv name args).cells/\h'=h:=λh=>Of hal;have hfz:=λ(n:Nat)(h:A0)=>Do n h (Bv name args);simp only[Fm.cells];generalize Bv name args=X at hw hfz⊢;obtain⟨ki,va,li,co,te,ks⟩:=X;simp only[Sx.cells]at hw hfz⊢;refine AN func33 ntmps33 results33 Ty.IU ?_;refine wt k1 ?_;refine uU k1 (hw _) ?_;refine wt A2 ?_;refine⟨?_,((AL.refl h).new _).set (AF _) _⟩;simp only[AZ];exact⟨_,rfl,hfz _ _⟩
 |false=>
  cases k2:(op.data.toList==(#[115,97,109,101]:Array UInt8).toList)with
  |true=>
   rw[A4 (by rw[(show A3 op BH=false from k1)];simp)];rw[AH (show A3 op Ba=true from k2)];have hw: ∀ h:A0,AA prog 81 [A1 ⟨#[61]⟩,.imm 1 (AP args)] h λr h'=>r= .agg (Bv CS args).cells/\h'=h:=λh=>Of hal;have hfz:=λ(n:Nat)(h:A0)=>Do n h (Bv CS args);simp only[Fm.cells];generalize Bv CS args=X at hw hfz⊢;obtain⟨ki,va,li,co,te,ks⟩:=X;simp only[Sx.cells]at hw hfz⊢;refine AN func33 ntmps33 results33 Ty.IU ?_;refine wt (uu k1 k2) ?_;refine uU (uu k1 k2) (hw _) ?_;refine wt A2 ?_;refine⟨?_,((AL.refl h).new _).set (AF _) _⟩;simp only[AZ];exact⟨_,rfl,hfz _ _⟩
  |false=>
   rw[A4 (by rw[(show A3 op BH=false from k1)];simp),A4 (by rw[(show A3 op Ba=false from k2)];simp)];cases k3:(op.data.toList==(#[60]:Array UInt8).toList)with
   |true=>
    rw[AH (by simp[Fj,(show A3 op BH=false from k1),(show A3 op Ba=false from k2),(show A3 op CK=true from k3)])];have hx2:exprs.length=2:=(by have q:=hpo;simp[DA,CW,(show A3 op BH=false from k1),(show A3 op Ba=false from k2),(show A3 op CK=true from k3)]at q;omega);obtain⟨a,b,rfl⟩: ∃ a b,exprs=[a,b]:=by
     match exprs,hx2 with
     |[a,b],_=>exact⟨a,b,rfl⟩
    have ca:=JV a (hes a (by simp)) (hse a (by simp));have cb:=JV b (hes b (by simp)) (hse b (by simp));have hw:=λh:A0=>Ig (h:=h) (s:=op);simp only[List.map_cons,List.map_nil];have hfz:=λ(n:Nat)(h:A0)=>Do n h (AB [A5 op,Am a,Am b]);generalize Am a=xa at ca hfz⊢;generalize Am b=xb at cb hfz⊢;clear ih hks hpo hse hsk hes;obtain⟨DP,aname,an,aargs,akids⟩:=a;obtain⟨bop,bname,bn,bargs,bkids⟩:=b;obtain⟨ki,va,li,co,te,ks⟩:=xa;obtain⟨ki2,va2,li2,co2,te2,ks2⟩:=xb;simp only[Fm.cells,Ex.cells,Ex.rows,AB,Sx.cells,Sx.rows,A5]at ca cb hw hfz⊢;refine AN func33 ntmps33 results33 Ty.IU ?_;refine wy (Aj k1 k2 k3) ?_;(first|refine uV A2 (hw _) ?_|refine uA A2 (hw _) ?_);refine wy A2 ?_;(first|refine uV A2 (ca _) ?_|refine uA A2 (ca _) ?_);refine wy A2 ?_;(first|refine uV A2 (cb _) ?_|refine uA A2 (cb _) ?_);refine wy A2 ?_;refine⟨?_,((AL.refl h).new _).set (AF _) _⟩;simp only[AZ];exact⟨_,rfl,hfz _ _⟩
   |false=>
    cases k4:(op.data.toList==(#[60,61]:Array UInt8).toList)with
    |true=>
     rw[AH (by simp[Fj,(show A3 op BH=false from k1),(show A3 op Ba=false from k2),(show A3 op CK=false from k3),(show A3 op Ce=true from k4)])];have hx2:exprs.length=2:=(by have q:=hpo;simp[DA,CW,(show A3 op BH=false from k1),(show A3 op Ba=false from k2),(show A3 op CK=false from k3),(show A3 op Ce=true from k4)]at q;omega);obtain⟨a,b,rfl⟩: ∃ a b,exprs=[a,b]:=by
      match exprs,hx2 with
      |[a,b],_=>exact⟨a,b,rfl⟩
     have ca:=JV a (hes a (by simp)) (hse a (by simp));have cb:=JV b (hes b (by simp)) (hse b (by simp));have hw:=λh:A0=>Ig (h:=h) (s:=op);simp only[List.map_cons,List.map_nil];have hfz:=λ(n:Nat)(h:A0)=>Do n h (AB [A5 op,Am a,Am b]);generalize Am a=xa at ca hfz⊢;generalize Am b=xb at cb hfz⊢;clear ih hks hpo hse hsk hes;obtain⟨DP,aname,an,aargs,akids⟩:=a;obtain⟨bop,bname,bn,bargs,bkids⟩:=b;obtain⟨ki,va,li,co,te,ks⟩:=xa;obtain⟨ki2,va2,li2,co2,te2,ks2⟩:=xb;simp only[Fm.cells,Ex.cells,Ex.rows,AB,Sx.cells,Sx.rows,A5]at ca cb hw hfz⊢;refine AN func33 ntmps33 results33 Ty.IU ?_;replace zz:=AS k1 k2 k3 k4;refine wy zz ?_;(first|refine uV A2 (hw _) ?_|refine uA A2 (hw _) ?_);refine wy A2 ?_;(first|refine uV A2 (ca _) ?_|refine uA A2 (ca _) ?_);refine wy A2 ?_;(first|refine uV A2 (cb _) ?_|refine uA A2 (cb _) ?_);refine wy A2 ?_;refine⟨?_,((AL.refl h).new _).set (AF _) _⟩;simp only[AZ];exact⟨_,rfl,hfz _ _⟩
    |false=>
     cases k5:(op.data.toList==(#[61]:Array UInt8).toList)with
     |true=>
      rw[AH (by simp[Fj,(show A3 op BH=false from k1),(show A3 op Ba=false from k2),(show A3 op CK=false from k3),(show A3 op Ce=false from k4),(show A3 op CS=true from k5)])];have hx2:exprs.length=2:=(by have q:=hpo;simp[DA,CW,(show A3 op BH=false from k1),(show A3 op Ba=false from k2),(show A3 op CK=false from k3),(show A3 op Ce=false from k4),(show A3 op CS=true from k5)]at q;omega);obtain⟨a,b,rfl⟩: ∃ a b,exprs=[a,b]:=by
       match exprs,hx2 with
       |[a,b],_=>exact⟨a,b,rfl⟩
      have ca:=JV a (hes a (by simp)) (hse a (by simp));have cb:=JV b (hes b (by simp)) (hse b (by simp));have hw:=λh:A0=>Ig (h:=h) (s:=op);simp only[List.map_cons,List.map_nil];have hfz:=λ(n:Nat)(h:A0)=>Do n h (AB [A5 op,Am a,Am b]);generalize Am a=xa at ca hfz⊢;generalize Am b=xb at cb hfz⊢;clear ih hks hpo hse hsk hes;obtain⟨DP,aname,an,aargs,akids⟩:=a;obtain⟨bop,bname,bn,bargs,bkids⟩:=b;obtain⟨ki,va,li,co,te,ks⟩:=xa;obtain⟨ki2,va2,li2,co2,te2,ks2⟩:=xb;simp only[Fm.cells,Ex.cells,Ex.rows,AB,Sx.cells,Sx.rows,A5]at ca cb hw hfz⊢;refine AN func33 ntmps33 results33 Ty.IU ?_;replace zz:=AV k1 k2 k3 k4 k5;refine wy zz ?_;(first|refine uV A2 (hw _) ?_|refine uA A2 (hw _) ?_);refine wy A2 ?_;(first|refine uV A2 (ca _) ?_|refine uA A2 (ca _) ?_);refine wy A2 ?_;(first|refine uV A2 (cb _) ?_|refine uA A2 (cb _) ?_);refine wy A2 ?_;refine⟨?_,((AL.refl h).new _).set (AF _) _⟩;simp only[AZ];exact⟨_,rfl,hfz _ _⟩
     |false=>
      rw[A4 (by simp[Fj,(show A3 op CK=false from k3),(show A3 op Ce=false from k4),(show A3 op CS=false from k5)])];clear hse hes hpo;have n6:A3 op C5=(op.data.toList==(#[97,110,100]:Array UInt8).toList):=rfl;by_cases hz:(A3 op C5&&kids.isEmpty)=true
      ·have hz2:=hz;rw[AT]at hz2;have k6:(op.data.toList==(#[97,110,100]:Array UInt8).toList)=true:=hz2.1;have hk0:kids=[]:=List.isEmpty_iff.1 hz2.2;have hq:Ez op=false:=(by rw[Ec hz2.1];try rfl);subst hk0;rw[AH hz,hq];simp only[Ap,AD,HM,List.append_nil,Fm.cells,Fm.rows];refine AN func33 ntmps33 results33 Ty.IU ?_;replace zz:=AK k1 k2 k3 k4 k5 k6;refine wt zz ?_;refine⟨?_,((AL.refl h).new _).set (AF _) _⟩;simp only[AB,Sx.cells,Sx.rows,AZ,B4];exact⟨_,rfl,rfl,rfl,rfl,rfl,rfl,.inr (.inl ⟨rfl,.inr rfl⟩),trivial⟩
      ·rw [A4 hz];have hw: ∀ (s:ByteArray)(h:A0),AA prog 79 [A1 s] h λr h'=>r= .agg (A5 s).cells/\h'=h:=λs h=>Ig;simp only[A5,Sx.cells,Sx.rows]at hw;simp only[Fm.cells];refine uG (ow:=λt=>t==51) (wf:=λ_=>false) func33 ntmps33 results33 Ty.IU ?_;replace zz:=AV k1 k2 k3 k4 k5;refine xH 10 zz ?_;refine⟨?_⟩;refine CF (λS h'=>S 1= .cptr (Fm.mk op name args params exprs kids).cells/\S 2= .ptr h.next 0 0/\h'=h.new (.arr 6 [[.sc (.int .i64 0),.sc (.int .i64 0),.sc (.int .i64 0),.sc (.int .i64 0),.sc (.string ⟨#[]⟩),.sc (.slice none 0 0)]])) ?_ ?_
       ·cases k6:(op.data.toList==(#[97,110,100]:Array UInt8).toList)with
        |false=>
         refine wm k6 ?_;try exact zI
         all_goals first|rfl|trivial|((try refine⟨?_,?_,?_⟩)<;>first|rfl|trivial)|((try refine⟨?_,?_⟩)<;>first|rfl|trivial)
        |true=>
         have hk0:((kids.length:Int)==0)=false:=by
          cases kids with
          |nil=>exact absurd (by rw[n6,k6];try rfl) hz
          |cons a l=>simp;omega
         refine wm (Aj k6 hk0 hlK) ?_;try exact zI
         all_goals first|rfl|trivial|((try refine⟨?_,?_,?_⟩)<;>first|rfl|trivial)|((try refine⟨?_,?_⟩)<;>first|rfl|trivial)
       ·rintro S h' ⟨g1,g2,rfl⟩;simp only[Fm.cells]at g1;refine wt (uu g1 g2) ?_;refine uU (uu g1 g2) (hw op _) ?_;refine xH 13 (uu g1 g2) ?_;refine⟨?_⟩;refine CF (λS h'=>S 1= .cptr (Fm.mk op name args params exprs kids).cells/\S 2= .ptr h.next 0 0/\ ∃ id,S 3= .own id 0 (A5 op::(if Ez op=true then[AB (AG params)]else[])).length/\AL h h'/\h.next<id/\id<h'.next/\h'.obj h.next=some (.arr 6 [[.sc (.int .i64 0),.sc (.int .i64 0),.sc (.int .i64 0),.sc (.int .i64 0),.sc (.string ⟨#[]⟩),.sc (.slice none 0 0)]])/\h'.obj id=some (.arr 6 (Sx.rows (A5 op::(if Ez op=true then[AB (AG params)]else[]))))) ?_ ?_
        ·have n7:A3 op DJ=(op.data.toList==(#[102,111,114,97,108,108]:Array UInt8).toList):=rfl;have n8:A3 op Fi=(op.data.toList==(#[101,120,105,115,116,115]:Array UInt8).toList):=rfl;cases k7:(op.data.toList==(#[102,111,114,97,108,108]:Array UInt8).toList)with
         |true=>
          rw[AH (by simp[Ez,n7,n8,k7])];have hwp:=NI (l:=params) hpl;simp only[AB,A5,Sx.rows,Sx.cells,List.length_cons,List.length_nil];generalize Sx.rows (AG params)=PR at hwp⊢;replace zz:=AK g1 g2 k7 @Ds @Pz @Q0;refine wt zz ?_;refine uU (Aj g1 g2 k7) (hwp _) ?_;replace zz:=AK g1 g2 k7 @Ds @Pz @Q0;refine wt zz ?_;refine⟨rfl,h.next+1+1,?_,((((AL.refl h).new _).new _).kill (Py _)).new _,by omega,by simp[A0.new,A0.kill],?_,?_⟩;all_goals first|rfl|(simp[A0.new,A0.kill];done)|(simp[A0.new,A0.kill];omega)
         |false=>
          cases k8:(op.data.toList==(#[101,120,105,115,116,115]:Array UInt8).toList)with
          |true=>
           rw[AH (by simp[Ez,n7,n8,k7,k8])];have hwp:=NI (l:=params) hpl;simp only[AB,A5,Sx.rows,Sx.cells,List.length_cons,List.length_nil];generalize Sx.rows (AG params)=PR at hwp⊢;replace zz:=AY g1 g2 k7 k8 @Ds @Pz @Q0;refine wt zz ?_;replace zz:=AS g1 g2 k7 k8;refine uU zz (hwp _) ?_;replace zz:=AY g1 g2 k7 k8 @Ds @Pz @Q0;refine wt zz ?_;refine⟨rfl,h.next+1+1,?_,((((AL.refl h).new _).new _).kill (Py _)).new _,by omega,by simp[A0.new,A0.kill],?_,?_⟩;all_goals first|rfl|(simp[A0.new,A0.kill];done)|(simp[A0.new,A0.kill];omega)
          |false=>
           rw[A4 (by simp[Ez,n7,n8,k7,k8])];simp only[A5,Sx.rows,Sx.cells,List.length_cons,List.length_nil];replace zz:=AS g1 g2 k7 k8;refine wt zz ?_
           (try simp only[Ty.w,simprocAttr,Ty.AU,g1,g2])
           refine⟨rfl,h.next+1,?_,((AL.refl h).new _).new _,by omega,by simp[A0.new],?_,?_⟩;all_goals first|rfl|simp[A0.new]
        ·(try clear zz);clear g1 g2 S;obtain⟨L1,hL1,hl1⟩: ∃ L1:List Sx,(A5 op::(if Ez op=true then[AB (AG params)]else[]))=L1/\L1.length<=2:=⟨_,rfl,by split<;>simp⟩;have hfin:[A5 op]++(if Ez op=true then[AB (AG params)]else[])++HM kids=L1++kids.map Aa:=(by rw[← hL1,KD];try rfl);rw[hfin,hL1];clear hL1 hfin;rintro S h' ⟨g1,g2,id,g3,hg,hlo,hhi,o1,o2⟩;simp only[Fm.cells]at g1;have hrl: ∀ k,(L1++(kids.take k).map Aa).length<=1048578:=λk=>(by simp;omega);replace zz:=AS g1 g2 g3 hlK;refine wt zz ?_;refine BV (λc S h'=>S 1= .cptr (Fm.mk op name args params exprs kids).cells/\S 2= .ptr h.next 0 0/\ ∃ k id:Nat,S 4= .sc (.int .i64 k)/\S 3= .own id 0 (L1++(kids.take k).map Aa).length/\k<=kids.length/\c=kids.length-k/\AL h h'/\h.next<id/\id<h'.next/\h'.obj h.next=some (.arr 6 [[.sc (.int .i64 0),.sc (.int .i64 0),.sc (.int .i64 0),.sc (.int .i64 0),.sc (.string ⟨#[]⟩),.sc (.slice none 0 0)]])/\h'.obj id=some (.arr 6 (Sx.rows (L1++(kids.take k).map Aa)))) kids.length ?_ ?_
         ·simp only[Ty.w,simprocAttr,g1,g2,g3];exact⟨rfl,0,id,rfl,by simp,by omega,rfl,hg,hlo,hhi,o1,by simpa using o2⟩
         ·(try clear zz);clear g1 g2 g3 o1 o2 hg hlo hhi S;rintro c S h' ⟨g1,g2,k,id,g4,g3,hk,rfl,hg,hlo,hhi,o1,o2⟩;simp only[Fm.cells]at g1;by_cases hlt:k<kids.length
          ·have hdk:decide ((k:Int)<(kids.length:Int))=true:=(by simp;omega);have w7:IntKind.i64.wrap ((k:Int)+1)=k+1:=(by rw[B9 (by omega) (by omega)]);obtain⟨x,hx⟩: ∃ x,kids[k]? =some x:=⟨_,List.getElem?_eq_getElem hlt⟩;have hmem:=List.mem_of_getElem? hx;have hr:=Fm.rows_get hx;have hcx:=ih x hmem (hks x hmem) (hsk x hmem);have hL:L1++(kids.take (k+1)).map Aa=L1++(kids.take k).map Aa++[Aa x]:=(by rw[List.take_add_one,hx];simp);have hrk:=hrl k;generalize L1++(kids.take k).map Aa=L2 at g3 o2 hrk hL;generalize Aa x=X at hcx hL;obtain⟨xo,xn,xa,xp,xe,xk⟩:=x;obtain⟨ki,va,li,co,te,ks⟩:=X;simp only[Fm.cells,Sx.cells]at hr hcx;have hR:Sx.rows (L2++[.mk ki va li co te ks])=Sx.rows L2++[[.sc (.int .i64 ki),.sc (.int .i64 va),.sc (.int .i64 li),.sc (.int .i64 co),A1 te,.imm 6 (Sx.rows ks)]]:=(by simp[Sx.rows_map,Sx.cells]);have hpr:=Sx.rows_len L2;generalize Sx.rows L2=R at o2 hpr hR;have htk:List.take L2.length R=R:=List.take_of_length_le (by omega);have hb:(L2.length+1)*72<=140737488355328:=(by omega);replace zz:=B6 g1 g2 g3 g4 hlK hdk hr o2;refine wt zz ?_;replace zz:=B6 g1 g2 g3 g4 o2 hpr htk hb;refine uU zz (hcx _) ?_;replace zz:=BR g1 g2 g3 g4 w7 o2 hpr htk hb;(repeat'(first|refine cK ?_|refine nK ?_|refine uR zz ?_|(refine uN hK ?_;clear hK)|(rw[AH];rotate_left 1;omega;simp only[Ty.w,simprocAttr,g1,g2,g3,g4,w7,o2,hpr,htk,hb])|apply zI));refine⟨kids.length-(k+1),by omega,rfl,k+1,h'.next,by simp,?_,by omega,rfl,(hg.kill (by omega)).new _,by omega,by simp[A0.new,A0.kill],?_,?_⟩
           ·rw [hL];simp
           ·rw [A4 (by omega),A4 (by omega)];exact o1
           ·rw [hL,hR];simp[A0.new,A0.kill]
          ·have hdk:decide ((k:Int)<(kids.length:Int))=false:=(by simp;omega);have hke:k=kids.length:=(by omega);subst hke;rw[List.take_length]at o2 g3;replace zz:=B6 g1 g2 g3 g4 hlK hdk o1 o2;refine wt zz ?_;refine⟨?_,hg.set (AF _) _⟩;simp only[AB,Sx.cells,AZ,B4];refine⟨_,rfl,rfl,rfl,rfl,rfl,rfl,.inr (.inr ⟨id,0,_,Sx.rows (L1++kids.map Aa),rfl,by omega,?_,?_,?_⟩),trivial⟩
           ·simp only[A0.set];rw[A4 (by omega)];exact o2
           ·rw [Sx.rows_len];omega
           ·rw [List.drop_zero,List.take_of_length_le (by rw[Sx.rows_len];omega)];exact Ff _ _ _
end Go.Proofs.YtblgchkahpgdjaaGreat
namespace Go.Proofs.YtblgchkahpgdjaaGreat
open Go.AM Go.Proofs.Tryz
set_option maxHeartbeats 4000000
set_option maxRecDepth 20000
theorem AA.frzX{P:Program}{f:FuncId}{args:List PV}{h:A0}{v:PV}{id:Nat}{o o0:Ae}(hb:Af P f=true)(hid:h.obj id=some o0)(hfl:De h.next o)(hc:AA P f args h λr h'=>AZ h.next h' v r/\Bq h id o h'):
  AA P f args h λr h'=>r=v/\h'=h.set id o:=by
 refine GN hb λhw=>AA.drop (hc.mono ?_);rintro r h' ⟨hf,g⟩;refine⟨v,h.set id o,⟨rfl,rfl⟩,hf,AF _,λi oo ho=>?_⟩;have hlt:=hw id (by rw[hid];try rfl);simp only[A0.set]at ho;split at ho
 ·rename_i hi;subst hi;simp at ho;subst ho;exact⟨g.at_,hlt,.inr hfl⟩
 ·rename_i hi;have h1:=hw i (by rw[ho];try rfl);exact⟨by rw[g.old i h1 hi];exact ho,h1,.inl ho⟩
theorem Bq.kill{h h':A0}{id j:Nat}{o:Ae}(g:Bq h id o h')(hid:id<h.next)(hj:h.next<=j):Bq h id o (h'.kill j):=
 ⟨g.le,λi hi hne=>by simp only[A0.kill];rw[A4 (by omega)];exact g.old i hi hne,by simp only[A0.kill];rw[A4 (by omega)];exact g.at_⟩
theorem C6{P:Program}{ow:Nat->Bool}{wf:FuncId->Bool}{n:Nat}{Q:Au}{s:A8}{h:A0}{c:Code}(I:A8->A0->Prop)(hi:I s h)(hh: ∀ s h,I s h->AX P ow wf n c Q s h):AX P ow wf n c Q s h:=hh _ _ hi
abbrev wO(b:Bool):Ae:= .arr 1 [[.sc (.bool b)]]
theorem Is(n:Nat)(b:Bool):De n (wO b):=by simp[wO,De,BG,BZ,BD]
theorem IB{h:A0}{s:ByteArray}:AA prog 40 [A1 s] h λr h'=>r= .agg (A5 s).cells/\h'=h:=by
 refine AA.frz Ty.R4 ?_;refine AN func40 ntmps40 results40 Ty.R4 ?_;refine wt A2 ?_;refine⟨?_,((AL.refl h).new _).set (AF _) _⟩;simp only[A5,Sx.cells,Sx.rows,AZ,B4];exact⟨_,rfl,rfl,rfl,rfl,rfl,rfl,.inr (.inl ⟨rfl,.inr rfl⟩),trivial⟩
theorem IC{h:A0}{p:PV}(h1:C8 p=true)(hf: ∀ h',AZ h.next h' p p):AA prog 39 [p] h λr h'=>r= .agg [.sc (.int .i64 3),.sc (.int .i64 0),.sc (.int .i64 0),.sc (.int .i64 0),.sc (.string ⟨#[]⟩),p]/\h'=h:=by
 refine AA.frz Ty.R5 ?_;have hc:p.cells=[p]:=by cases p<;>simp[C8]at h1<;>rfl
 refine AN func39 ntmps39 results39 Ty.R5 ?_;refine wt (uu hc h1) ?_;refine⟨?_,((AL.refl h).new _).set (AF _) _⟩;simp only[AZ,B4];exact⟨_,rfl,rfl,rfl,rfl,rfl,rfl,hf _,trivial⟩
theorem HZ(l:List Sx)(h:A0):AA prog 39 [.imm 6 (Sx.rows l)] h λr h'=>r= .agg (AB l).cells/\h'=h:=IC rfl (λ_=>Ib (Fe _ _))
theorem bc{h:A0}{s:ByteArray}(hs:s.size<=9223372036854775807):AA prog 151 [A1 s] h λr h'=>r= .sc (.bool (BS s))/\h'=h:=by
 have h1:=λh:A0=>Fb (h:=h) hs;have h2:=λh:A0=>K8 (h:=h) hs;unfold BS;generalize Ak s=a at h1⊢;generalize D7 s=b at h2⊢;cases a with
 |true=>
  refine AN func151 ntmps151 results151 Ty.RT ?_;refine wt A2 ?_;refine uU A2 (h1 _) ?_;refine wm A2 ?_;try exact zI
  all_goals simp only[Bd]
 |false=>
  refine AN func151 ntmps151 results151 Ty.RT ?_;refine wt A2 ?_;refine uU A2 (h1 _) ?_;refine wt A2 ?_;refine uU A2 (h2 _) ?_;refine wm A2 ?_;try exact zI
  all_goals simp only[BL]
theorem Lb{h:A0}:AA prog 99 [] h λr h'=>r= .agg DC.cells/\h'=h:=by
 refine AA.frz Ty.RI ?_;refine AN func99 ntmps99 results99 Ty.RI ?_;refine wt A2 ?_;refine⟨?_,((AL.refl h).new _).set (AF _) _⟩;simp only[DC,C5,Fm.cells,A7,Ex.rows,Fm.rows,AP,List.map_nil,AZ,B4];exact⟨_,rfl,rfl,rfl,.inr (.inl ⟨rfl,.inr rfl⟩),.inr (.inl ⟨rfl,.inr rfl⟩),.inr (.inl ⟨rfl,.inr rfl⟩),.inr (.inl ⟨rfl,.inr rfl⟩),trivial⟩
theorem KS{h:A0}{id:Nat}{b:Bool}{s:ByteArray}(hs:s.size<=9223372036854775807)(hid:id<h.next)(ho:h.obj id=some (wO b)):
  AA prog 41 [.ptr id 0 0,A1 s] h λr h'=>r= .agg (A5 s).cells/\h'=h.set id (wO (b||!Ak s)):=by
 refine AA.frzX Ty.OC ho (Is _ _) ?_;have h1:=λh:A0=>Fb (h:=h) hs;have hw:=λh:A0=>IB (h:=h) (s:=s);have n1:(id=h.next)=False:=BF (by omega);have n2:(h.next=id)=False:=BF (by omega);generalize Ak s=a at h1⊢;have Cs: ∀ (b':Bool)(o:Ae),AZ h.next (((h.new o).set id (wO b')).set h.next (.arr 6 [(A5 s).cells])) (.agg (A5 s).cells) (.agg (A5 s).cells)/\Bq h id (wO b') (((h.new o).set id (wO b')).set h.next (.arr 6 [(A5 s).cells])):=λb' o=>⟨by
  simp only[AZ];exact⟨_,rfl,Do _ _ _⟩,(((Bq.refl ho).new hid).put).set hid (AF _)⟩
 simp only[A5,Sx.cells,Sx.rows]at hw Cs⊢;cases b with
 |true=>
  refine AN func41 ntmps41 results41 Ty.OC ?_;refine wt (Aj ho n1 n2) ?_;refine uU (Aj ho n1 n2) (hw _) ?_;refine wt (Aj ho n1 n2) ?_;exact Cs _ _
 |false=>
  refine AN func41 ntmps41 results41 Ty.OC ?_;refine wt (Aj ho n1 n2) ?_;refine uU (Aj ho n1 n2) (h1 _) ?_;refine wt (Aj ho n1 n2) ?_;refine uU (Aj ho n1 n2) (hw _) ?_;refine wt (Aj ho n1 n2) ?_;exact Cs _ _
theorem Lc{h:A0}{id:Nat}{b:Bool}{f:Fm}(hok:f.ok)(hsm:f.small)(hid:id<h.next)(ho:h.obj id=some (wO b)):
  AA prog 100 [.ptr id 0 0,.agg f.cells] h λr h'=>r= .agg (By f).cells/\h'=h.set id (wO (b||!BW f)):=by
 refine AA.frzX Ty.RJ ho (Is _ _) ?_;have hW:=λh:A0=>bY hok hsm h;have n1:(id=h.next)=False:=BF (by omega);have n2:(h.next=id)=False:=BF (by omega);have n3:(id=h.next+1)=False:=BF (by omega);have n4:(h.next+1=id)=False:=BF (by omega);have hX:(if BW f then(PV.tup [.agg (Aa f).cells,.sc .nilIface])else .tup [.agg Fg.cells,Dp 2])= .tup [.agg (By f).cells,if BW f then .sc .nilIface else Dp 2]:=by
  unfold By;cases BW f<;>rfl
 rw[hX]at hW;generalize BW f=v at hW⊢;generalize By f=X at hW⊢;obtain⟨ki,va,li,co,te,ks⟩:=X;obtain⟨gop,gna,gar,gpa,gex,gki⟩:=f;have Cs: ∀ (b':Bool)(o o1 o2:Ae),AZ h.next ((((((h.new o).new o1).set (h.next+1) o2).set id (wO b')).set h.next (.arr 6 [(Sx.mk ki va li co te ks).cells]))) (.agg (Sx.mk ki va li co te ks).cells) (.agg (Sx.mk ki va li co te ks).cells)/\Bq h id (wO b') ((((h.new o).new o1).set (h.next+1) o2).set id (wO b')|>.set h.next (.arr 6 [(Sx.mk ki va li co te ks).cells])):=λb' o o1 o2=>⟨by
  simp only[AZ];exact⟨_,rfl,Do _ _ _⟩,(((((Bq.refl ho).new hid).new hid).set hid (by omega)).put).set hid (AF _)⟩
 simp only[Sx.cells,Fm.cells]at hW Cs⊢;cases v<;>simp only[AC,AD,Ap,Dp]at hW<;>cases b;all_goals
  refine AN func100 ntmps100 results100 Ty.RJ ?_;replace zz:=AV ho n1 n2 n3 n4;refine wt zz ?_;replace zz:=AV ho n1 n2 n3 n4;refine uU zz (hW _) ?_;replace zz:=AK ho n1 n2 n3 n4 @Ds;refine wt zz ?_;exact Cs _ _ _ _
theorem Jk{h:A0}{id:Nat}{b vars:Bool}{l:List Pm}(hl:l.length<=1048576)(hok: ∀ p∈l,p.ok)(hid:id<h.next)(ho:h.obj id=some (wO b)):
  AA prog 43 [.ptr id 0 0,.imm 2 (A7 l),.sc (.bool vars)] h λr h'=>r= .imm 6 (Sx.rows (AG l))/\h'=h.set id (wO (b||!(l.all (BE vars)))):=by
 refine AA.frzX Ty.R6 ho (Is _ _) ?_;have hll:=EX l;have hWP:=λh:A0=>OZ hl h;generalize hF:(b||!(l.all (BE vars)))=F;refine AN func43 ntmps43 results43 Ty.R6 ?_;refine wt hll ?_;refine BV (λc S h'=>S 0= .ptr id 0 0/\S 1= .imm 2 (A7 l)/\S 2= .sc (.bool vars)/\S 10= .imm 2 (A7 l)/\S 11= .sc (.int .i64 l.length)/\ ∃ (k:Nat)(b':Bool),S 12= .sc (.int .i64 k)/\k<=l.length/\c=l.length-k/\Bq h id (wO b') h'/\F=(b'||!((l.drop k).all (BE vars)))) l.length ?_ ?_
 ·simp only[Ty.w,simprocAttr];exact⟨0,b,rfl,by omega,rfl,Bq.refl ho,by rw[List.drop_zero];exact hF.symm⟩
 ·clear hF;rintro c S h' ⟨g0,g1,g2,g10,g11,k,b',g12,hkl,rfl,hG,hinv⟩;by_cases hlt:k<l.length
  ·have hd:decide ((k:Int)<(l.length:Int))=true:=(by simp;omega);have w7:IntKind.i64.wrap ((k:Int)+1)=k+1:=(by rw[B9 (by omega) (by omega)]);obtain⟨p,hx⟩: ∃ p,l[k]? =some p:=⟨_,List.getElem?_eq_getElem hlt⟩;rw[CR hx,List.all_cons]at hinv;have hr:=Hu hx;have hpo:=hok p (List.mem_of_getElem? hx);have hs1:p.name.size<=9223372036854775807:=(by have:=hpo.1;unfold AE at this;omega);have hs2:p.type.size<=9223372036854775807:=(by have:=hpo.2;unfold AE at this;omega);have c1:=λh:A0=>Fb (h:=h) hs1;have c2:=λh:A0=>K8 (h:=h) hs1;have c3:=λh:A0=>Fb (h:=h) hs2;have hno:=hG.at_;have hle:=hG.le;have n1:(id=h'.next)=False:=BF (by omega);have n2:(h'.next=id)=False:=BF (by omega);have hpar:BE vars p=((bif vars then D7 p.name else Ak p.name)&&(A3 p.type KC||Ak p.type)):=rfl;rw[hpar]at hinv;generalize Ak p.name=q1 at c1 hinv;generalize D7 p.name=q2 at c2 hinv;generalize Ak p.type=q3 at c3 hinv;have hne:(p.type.data.toList==KC.data.toList)=A3 p.type KC:=rfl;generalize A3 p.type KC=q4 at hinv hne;have e1:(p.type.data.toList=[111,98,106,101,99,116])=(q4=true):=by
    rw[← hne];exact propext ⟨λe=>by rw[e];try rfl,λe=>eq_of_beq e⟩
   have e2:(p.type.data.toList==[111,98,106,101,99,116])=q4:=hne;clear hne;have hG2: ∀ (z o:Ae)(b2:Bool),Bq h id (wO b2) (((h'.new z).set h'.next o).set id (wO b2)):=λz o b2=>((hG.new hid).set hid hle).put;have stepF: ∀ b2:Bool,b2=(b'||!((bif vars then q2 else q1)&&(q4||q3)))->F=(b2||!((l.drop (k+1)).all (BE vars))):=by
    intro b2 e;rw[hinv,e];cases b'<;>cases(bif vars then q2 else q1)<;>cases q4<;>cases q3<;>simp
   obtain⟨pn,pt⟩:=p;simp only at hr e1 e2;clear hinv hpar hx hpo hs1 hs2;cases vars with
   |false=>
    simp only[CH]at stepF;cases b' with
    |true=>
     replace zz:=AJ g0 g1 g2 g10 g11 g12 hll hd hr hno n1 n2;refine wt zz ?_;replace zz:=BR g0 g1 g2 g10 g11 g12 hno n1 n2;refine uU zz (c1 _) ?_;(repeat'(first|refine cK ?_|(refine nK ?_;try exact zI)|refine AI λK hK=>?_|((first|refine Bp ?_|refine Ht (λK hK=>?_));simp only[Ty.w,simprocAttr,g0,g1,g2,g10,g11,g12,hno,n1,n2,e1,e2,bne,w7,Ab,Al])|(refine EH ?_;(try simp only[B2,simprocAttr]))|(refine DQ _ (by(try simp only[Ty.w,simprocAttr,g0,g1,g2,g10,g11,g12,hno,n1,n2,e1,e2,bne,w7,Ab,Al]);rfl) (λhb=>?_) (λhb=>?_)<;>(try simp only[BI,BQ,CE,simprocAttr]at hb)<;>(try(exfalso;omega)))|(refine hK _ _ ?_;clear hK;(try simp only[B2,simprocAttr]))));exact⟨l.length-(k+1),by omega,k+1,true,by simp,by omega,rfl,hG2 _ _ _,stepF _ (by simp)⟩
    |false=>
     cases q1 with
     |false=>
      replace zz:=AJ g0 g1 g2 g10 g11 g12 hll hd hr hno n1 n2;refine wt zz ?_;replace zz:=BR g0 g1 g2 g10 g11 g12 hno n1 n2;refine uU zz (c1 _) ?_;(repeat'(first|refine cK ?_|(refine nK ?_;try exact zI)|refine AI λK hK=>?_|((first|refine Bp ?_|refine Ht (λK hK=>?_));simp only[Ty.w,simprocAttr,g0,g1,g2,g10,g11,g12,hno,n1,n2,e1,e2,bne,w7,Ab,Al])|(refine EH ?_;(try simp only[B2,simprocAttr]))|(refine DQ _ (by(try simp only[Ty.w,simprocAttr,g0,g1,g2,g10,g11,g12,hno,n1,n2,e1,e2,bne,w7,Ab,Al]);rfl) (λhb=>?_) (λhb=>?_)<;>(try simp only[BI,BQ,CE,simprocAttr]at hb)<;>(try(exfalso;omega)))|(refine hK _ _ ?_;clear hK;(try simp only[B2,simprocAttr]))));exact⟨l.length-(k+1),by omega,k+1,true,by simp,by omega,rfl,hG2 _ _ _,stepF _ (by simp)⟩
     |true=>
      cases q4 with
      |true=>
       simp only[eq_self]at e1;replace zz:=AJ g0 g1 g2 g10 g11 g12 hll hd hr hno n1 n2;refine wt zz ?_;replace zz:=BR g0 g1 g2 g10 g11 g12 hno n1 n2;refine uU zz (c1 _) ?_;(repeat'(first|refine cK ?_|(refine nK ?_;try exact zI)|refine AI λK hK=>?_|((first|refine Bp ?_|refine Ht (λK hK=>?_));simp only[Ty.w,simprocAttr,g0,g1,g2,g10,g11,g12,hno,n1,n2,e1,e2,bne,w7,Ab,Al])|(refine EH ?_;(try simp only[B2,simprocAttr]))|(refine DQ _ (by(try simp only[Ty.w,simprocAttr,g0,g1,g2,g10,g11,g12,hno,n1,n2,e1,e2,bne,w7,Ab,Al]);rfl) (λhb=>?_) (λhb=>?_)<;>(try simp only[BI,BQ,CE,simprocAttr]at hb)<;>(try(exfalso;omega)))|(refine hK _ _ ?_;clear hK;(try simp only[B2,simprocAttr]))));exact⟨l.length-(k+1),by omega,k+1,false,by simp,by omega,rfl,hG2 _ _ _,stepF _ (by simp)⟩
      |false=>
       simp only[Ap]at e1;replace zz:=AJ g0 g1 g2 g10 g11 g12 hll hd hr hno n1 n2;refine wt zz ?_;replace zz:=BR g0 g1 g2 g10 g11 g12 hno n1 n2;refine uU zz (c1 _) ?_;(repeat'(first|refine cK ?_|(refine nK ?_;try exact zI)|refine AI λK hK=>?_|((first|refine Bp ?_|refine Ht (λK hK=>?_));simp only[Ty.w,simprocAttr,g0,g1,g2,g10,g11,g12,hno,n1,n2,e1,e2,bne,w7,Ab,Al])|(refine EH ?_;(try simp only[B2,simprocAttr]))|(refine DQ _ (by(try simp only[Ty.w,simprocAttr,g0,g1,g2,g10,g11,g12,hno,n1,n2,e1,e2,bne,w7,Ab,Al]);rfl) (λhb=>?_) (λhb=>?_)<;>(try simp only[BI,BQ,CE,simprocAttr]at hb)<;>(try(exfalso;omega)))|(refine hK _ _ ?_;clear hK;(try simp only[B2,simprocAttr]))));refine uU zz (c3 _) ?_;(repeat'(first|refine cK ?_|(refine nK ?_;try exact zI)|(refine Bp ?_;simp only[Ty.w,simprocAttr,g0,g1,g2,g10,g11,g12,hno,n1,n2,e1,e2,bne,w7,Ab,Al])|(refine hK _ _ ?_;clear hK;(try simp only[B2,simprocAttr]))));exact⟨l.length-(k+1),by omega,k+1,!q3,by simp,by omega,rfl,hG2 _ _ _,stepF _ (by simp)⟩
   |true=>
    simp only[D2]at stepF;cases b' with
    |true=>
     replace zz:=AJ g0 g1 g2 g10 g11 g12 hll hd hr hno n1 n2;refine wt zz ?_;replace zz:=BR g0 g1 g2 g10 g11 g12 hno n1 n2;refine uU zz (c1 _) ?_;(repeat'(first|refine cK ?_|(refine nK ?_;try exact zI)|refine AI λK hK=>?_|(refine Bp ?_;simp only[Ty.w,simprocAttr,g0,g1,g2,g10,g11,g12,hno,n1,n2,e1,e2,bne,w7,Ab,Al])|(refine DQ _ (by(try simp only[Ty.w,simprocAttr,g0,g1,g2,g10,g11,g12,hno,n1,n2,e1,e2,bne,w7,Ab,Al]);rfl) (λhb=>?_) (λhb=>?_)<;>(try simp only[BI,BQ,CE,simprocAttr]at hb)<;>(try(exfalso;omega)))|(refine hK _ _ ?_;clear hK;(try simp only[B2,simprocAttr]))));refine uU zz (c2 _) ?_;(repeat'(first|refine cK ?_|(refine nK ?_;try exact zI)|((first|refine Bp ?_|refine Ht (λK hK=>?_));simp only[Ty.w,simprocAttr,g0,g1,g2,g10,g11,g12,hno,n1,n2,e1,e2,bne,w7,Ab,Al])|(refine hK _ _ ?_;clear hK;(try simp only[B2,simprocAttr]))));exact⟨l.length-(k+1),by omega,k+1,true,by simp,by omega,rfl,hG2 _ _ _,stepF _ (by simp)⟩
    |false=>
     cases q2 with
     |false=>
      replace zz:=AJ g0 g1 g2 g10 g11 g12 hll hd hr hno n1 n2;refine wt zz ?_;replace zz:=BR g0 g1 g2 g10 g11 g12 hno n1 n2;refine uU zz (c1 _) ?_;(repeat'(first|refine cK ?_|(refine nK ?_;try exact zI)|refine AI λK hK=>?_|(refine Bp ?_;simp only[Ty.w,simprocAttr,g0,g1,g2,g10,g11,g12,hno,n1,n2,e1,e2,bne,w7,Ab,Al])|(refine DQ _ (by(try simp only[Ty.w,simprocAttr,g0,g1,g2,g10,g11,g12,hno,n1,n2,e1,e2,bne,w7,Ab,Al]);rfl) (λhb=>?_) (λhb=>?_)<;>(try simp only[BI,BQ,CE,simprocAttr]at hb)<;>(try(exfalso;omega)))|(refine hK _ _ ?_;clear hK;(try simp only[B2,simprocAttr]))));refine uU zz (c2 _) ?_;(repeat'(first|refine cK ?_|(refine nK ?_;try exact zI)|((first|refine Bp ?_|refine Ht (λK hK=>?_));simp only[Ty.w,simprocAttr,g0,g1,g2,g10,g11,g12,hno,n1,n2,e1,e2,bne,w7,Ab,Al])|(refine hK _ _ ?_;clear hK;(try simp only[B2,simprocAttr]))));exact⟨l.length-(k+1),by omega,k+1,true,by simp,by omega,rfl,hG2 _ _ _,stepF _ (by simp)⟩
     |true=>
      cases q4 with
      |true=>
       simp only[eq_self]at e1;replace zz:=AJ g0 g1 g2 g10 g11 g12 hll hd hr hno n1 n2;refine wt zz ?_;replace zz:=BR g0 g1 g2 g10 g11 g12 hno n1 n2;refine uU zz (c1 _) ?_;(repeat'(first|refine cK ?_|(refine nK ?_;try exact zI)|refine AI λK hK=>?_|(refine Bp ?_;simp only[Ty.w,simprocAttr,g0,g1,g2,g10,g11,g12,hno,n1,n2,e1,e2,bne,w7,Ab,Al])|(refine DQ _ (by(try simp only[Ty.w,simprocAttr,g0,g1,g2,g10,g11,g12,hno,n1,n2,e1,e2,bne,w7,Ab,Al]);rfl) (λhb=>?_) (λhb=>?_)<;>(try simp only[BI,BQ,CE,simprocAttr]at hb)<;>(try(exfalso;omega)))|(refine hK _ _ ?_;clear hK;(try simp only[B2,simprocAttr]))));refine uU zz (c2 _) ?_;(repeat'(first|refine cK ?_|(refine nK ?_;try exact zI)|((first|refine Bp ?_|refine Ht (λK hK=>?_));simp only[Ty.w,simprocAttr,g0,g1,g2,g10,g11,g12,hno,n1,n2,e1,e2,bne,w7,Ab,Al])|(refine hK _ _ ?_;clear hK;(try simp only[B2,simprocAttr]))));exact⟨l.length-(k+1),by omega,k+1,false,by simp,by omega,rfl,hG2 _ _ _,stepF _ (by simp)⟩
      |false=>
       simp only[Ap]at e1;replace zz:=AJ g0 g1 g2 g10 g11 g12 hll hd hr hno n1 n2;refine wt zz ?_;replace zz:=BR g0 g1 g2 g10 g11 g12 hno n1 n2;refine uU zz (c1 _) ?_;(repeat'(first|refine cK ?_|(refine nK ?_;try exact zI)|refine AI λK hK=>?_|(refine Bp ?_;simp only[Ty.w,simprocAttr,g0,g1,g2,g10,g11,g12,hno,n1,n2,e1,e2,bne,w7,Ab,Al])|(refine DQ _ (by(try simp only[Ty.w,simprocAttr,g0,g1,g2,g10,g11,g12,hno,n1,n2,e1,e2,bne,w7,Ab,Al]);rfl) (λhb=>?_) (λhb=>?_)<;>(try simp only[BI,BQ,CE,simprocAttr]at hb)<;>(try(exfalso;omega)))|(refine hK _ _ ?_;clear hK;(try simp only[B2,simprocAttr]))));refine uU zz (c2 _) ?_;(repeat'(first|refine cK ?_|(refine nK ?_;try exact zI)|(refine Ht (λK hK=>?_);simp only[Ty.w,simprocAttr,g0,g1,g2,g10,g11,g12,hno,n1,n2,e1,e2,bne,w7,Ab,Al])|(refine hK _ _ ?_;clear hK;(try simp only[B2,simprocAttr]))));refine uU zz (c3 _) ?_;(repeat'(first|refine cK ?_|(refine nK ?_;try exact zI)|(refine Bp ?_;simp only[Ty.w,simprocAttr,g0,g1,g2,g10,g11,g12,hno,n1,n2,e1,e2,bne,w7,Ab,Al])|(refine hK _ _ ?_;clear hK;(try simp only[B2,simprocAttr]))));exact⟨l.length-(k+1),by omega,k+1,!q3,by simp,by omega,rfl,hG2 _ _ _,stepF _ (by simp)⟩
  ·have hd:decide ((k:Int)<(l.length:Int))=false:=(by simp;omega);rw[List.drop_eq_nil_of_le (by omega),List.all_nil,Ab,E1]at hinv;subst hinv;replace zz:=B6 g0 g1 g2 g10 g11 g12 hll hd;refine wt zz ?_;replace zz:=AK g0 g1 g2 g10 g11 g12;refine uU zz (hWP _) ?_;refine wt (Aj g0 g1 g2) ?_;exact⟨Ib (Fe _ _),hG⟩
end Go.Proofs.YtblgchkahpgdjaaGreat
namespace Go.Proofs.YtblgchkahpgdjaaGreat
open Go.AM Go.Proofs.Tryz
set_option maxHeartbeats 4000000
set_option maxRecDepth 20000
structure Ld(h:A0)(id:Nat)(b:Bool)(first:ByteArray)(l:List ByteArray)(k:Nat)(h':A0):Prop where
 grow:Bq h id (wO b) h'
 ex: ∃ j,h.next+1+1<h'.next/\j≠h.next+1+1/\h.next<j/\j<h'.next/\
  h'.obj h.next=some (.arr 6 [[.sc (.int .i64 0),.sc (.int .i64 0),.sc (.int .i64 0),.sc (.int .i64 0),.sc (.string ⟨#[]⟩),.sc (.slice none 0 0)]])/\
  h'.obj (h.next+1+1)=some (.arr 6 [[.sc (.int .i64 3),.sc (.int .i64 0),.sc (.int .i64 0),.sc (.int .i64 0),.sc (.string ⟨#[]⟩),.own j 0 (k+1)]])/\
  h'.obj j=some (.arr 6 (Sx.rows ((first::l.take k).map A5)))
theorem Ld.put{h h':A0}{id:Nat}{b b2:Bool}{first:ByteArray}{l:List ByteArray}{k:Nat}(i:Ld h id b first l k h')(hid:id<h.next):Ld h id b2 first l k (h'.set id (wO b2)):=by
 obtain⟨hg,j,h1,h2,h3,h4,o1,o2,o3⟩:=i;refine⟨hg.put,j,h1,h2,h3,h4,?_,?_,?_⟩
 ·simp only[A0.set];rw[A4 (by omega)];exact o1
 ·simp only[A0.set];rw[A4 (by omega)];exact o2
 ·simp only[A0.set];rw[A4 (by omega)];exact o3
theorem bd{h:A0}{id:Nat}{b:Bool}{first:ByteArray}{l:List ByteArray}(hn:first.size<=9223372036854775807)(hl:l.length<=1048576)(hok: ∀ s∈l,s.size<=AE)(hid:id<h.next)(ho:h.obj id=some (wO b)):
  AA prog 144 [.ptr id 0 0,A1 first,.imm 1 (AP l)] h λr h'=>r= .agg (Bv first l).cells/\h'=h.set id (wO (b||!(Ak first&&l.all BS))):=by
 refine AA.frzX Ty.RS ho (Is _ _) ?_;have hll:=FA l;have hw: ∀ (s:ByteArray)(h:A0),AA prog 40 [A1 s] h λr h'=>r= .agg (A5 s).cells/\h'=h:=λs h=>IB;have c0:=λ(z:Ae)=>KS (h:=h.new z) (b:=b) (s:=first) hn (show id<h.next+1 by omega) ((Fk hid).trans ho);simp only[A5,Sx.cells,Sx.rows]at hw c0;generalize hF:(b||!(Ak first&&l.all BS))=F;refine uG (ow:=λt=>t==13) (wf:=λ_=>false) func144 ntmps144 results144 Ty.RS ?_;refine wt A2 ?_;refine CV (c0 _) (sr ho) ?_;simp only[Ty.w,simprocAttr,ho];refine wt ho ?_;refine uU A2 (IC (p:= .own (h.next+1) 0 1) rfl (λ_=>IY (by simp[A0.new,A0.set]))) ?_;refine wt hll ?_;refine BV (λm S h'=>S 0= .ptr id 0 0/\S 6= .ptr h.next 0 0/\S 7= .ptr (h.next+1+1) 0 0/\S 15= .imm 1 (AP l)/\S 16= .sc (.int .i64 l.length)/\ ∃ (k:Nat)(b':Bool),S 17= .sc (.int .i64 k)/\k<=l.length/\m=l.length-k/\Ld h id b' first l k h'/\F=(b'||!((l.drop k).all BS))) l.length ?_ ?_
 ·simp only[Ty.w,simprocAttr];refine⟨0,b||!Ak first,rfl,by omega,rfl,?_,?_⟩
  ·have e1:¬ h.next=h.next+1+1:=by omega
   refine⟨?_,h.next+1,by simp[A0.new,A0.set],by omega,by omega,by simp[A0.new,A0.set],?_,?_,?_⟩
   ·exact ((((((Bq.refl ho).new hid).put).new hid).new hid).set hid (by omega))
   ·simp only[A0.new,A0.set];repeat(first|rw[A4 (by omega)]|rw[AH A2])
   ·simp only[A0.new,A0.set];repeat(first|rw[A4 (by omega)]|rw[AH A2])
   ·simp only[A0.new,A0.set];(repeat(first|rw[A4 (by omega)]|rw[AH A2]));simp[A5,Sx.rows,Sx.cells]
  ·rw [List.drop_zero, ← hF];cases b<;>cases Ak first<;>simp
 ·clear hF c0;rintro m S h' ⟨g0,g6,g7,g15,g16,k,b',g17,hk,rfl,hI,hinv⟩;by_cases hlt:k<l.length
  ·have hd:decide ((k:Int)<(l.length:Int))=true:=(by simp;omega);have w7:IntKind.i64.wrap ((k:Int)+1)=k+1:=(by rw[B9 (by omega) (by omega)]);obtain⟨s,hx⟩: ∃ s,l[k]? =some s:=⟨_,List.getElem?_eq_getElem hlt⟩;have hr:=Gh hx;have hts:=λh:A0=>bc (h:=h) (s:=s) (by have:=hok s (List.mem_of_getElem? hx);unfold AE at this;omega);rw[CR hx,List.all_cons]at hinv;have hbo:=hI.grow.at_;generalize BS s=q at hts hinv;have stepF: ∀ b2:Bool,b2=(b'||!q)->F=(b2||!((l.drop (k+1)).all BS)):=λb2 e=>by
    rw[hinv,e];cases b'<;>cases q<;>simp
   clear hinv;replace zz:=B6 g0 g6 g7 g15 g16 g17 hd hr;refine xG 5 zz ?_;refine⟨?_⟩;refine CF (λS H=>S 0= .ptr id 0 0/\S 6= .ptr h.next 0 0/\S 7= .ptr (h.next+1+1) 0 0/\S 15= .imm 1 (AP l)/\S 16= .sc (.int .i64 l.length)/\S 17= .sc (.int .i64 k)/\S 9=A1 s/\ ∃ b2,Ld h id b2 first l k H/\F=(b2||!((l.drop (k+1)).all BS))) ?_ ?_
   ·cases b' with
    |true=>
     replace zz:=AY g0 g6 g7 g15 g16 g17 hbo;refine wt zz ?_;exact⟨true,hI.put hid,stepF _ (by simp)⟩
    |false=>
     replace zz:=AY g0 g6 g7 g15 g16 g17 hbo;refine wt zz ?_;replace zz:=AY g0 g6 g7 g15 g16 g17 hbo;refine uU zz (hts _) ?_;refine wt zz ?_;exact⟨!q,hI.put hid,stepF _ (by simp)⟩
   ·clear g0 g6 g7 g15 g16 g17 hI hbo hd hr stepF hts;rintro S H ⟨g0,g6,g7,g15,g16,g17,g9,b2,hI,hinv⟩;obtain⟨hg,j,hn2,hne,hlo,hhi,o1,o2,o3⟩:=hI;have hrl:(Sx.rows ((first::l.take k).map A5)).length=k+1:=(by rw[Sx.rows_len];simp;omega);generalize hR:Sx.rows ((first::l.take k).map A5)=R at o3 hrl;have n1:(h.next+1+1=j)=False:=(by simp;omega);have n2:(h.next+1+1=H.next)=False:=(by simp;omega);have htk:List.take (k+1) R=R:=List.take_of_length_le (by omega);have hb:(k+1+1)*72<=140737488355328:=(by omega);replace zz:=Aq g0 g6 g7 g15 g16 g17 g9 w7 o2 o3;refine wy zz ?_;replace zz:=BR g0 g6 g7 g15 g16 g17 g9 o2 o3;(first|refine uV zz (hw s _) ?_|refine uA zz (hw s _) ?_);replace zz:=AJ g0 g6 g7 g15 g16 g17 g9 w7 o2 o3 n1 (AS n2 hrl htk hb);(repeat'(first|refine cK ?_|refine nK ?_|refine uR zz ?_|(refine uN hK ?_;clear hK)|refine uB zz ?_|(rw[AH];rotate_left 1;omega;simp only[Ty.w,simprocAttr,g0,g6,g7,g15,g16,g17,g9,w7,o2,o3,n1,n2,hrl,htk,hb])|apply zI));refine⟨l.length-(k+1),by omega,k+1,b2,by simp,by omega,rfl,⟨((hg.kill hid (by omega)).new hid).set hid (by omega),H.next,?_,?_,?_,?_,?_,?_,?_⟩,hinv⟩
    ·simp only[A0.set,A0.new,A0.kill];omega
    ·omega
    ·omega
    ·simp only[A0.set,A0.new,A0.kill];omega
    ·have a1:¬ h.next=h.next+1+1:=by omega
     have a2:¬ h.next=H.next:=by omega
     have a3:¬ h.next=j:=by omega
     simp only[A0.set,A0.new,A0.kill,a1,a2,a3,AD];exact o1
    ·simp only[A0.set,AC]
    ·have a1:¬ H.next=h.next+1+1:=by omega
     simp only[A0.set,A0.new,A0.kill,a1,AD,AC];rw[List.take_add_one,hx, ← hR];simp only[Sx.rows_map,List.map_cons,List.map_append,List.map_nil,Js,List.cons_append,A5,Sx.cells]
  ·have hd:decide ((k:Int)<(l.length:Int))=false:=(by simp;omega);have hke:k=l.length:=(by omega);subst hke;obtain⟨hg,j,hn2,hne,hlo,hhi,o1,o2,o3⟩:=hI;rw[List.take_length]at o3;rw[List.drop_length,List.all_nil,Ab,E1]at hinv;subst hinv;have n1:(h.next+1+1=h.next)=False:=(by simp;omega);replace zz:=Cv g0 g6 g7 g15 g16 g17 hd o1 o2 o3 n1;refine wt zz ?_;refine⟨?_,hg.set hid (AF _)⟩;simp only[Bv,AB,Sx.cells,AZ,B4];refine⟨_,rfl,rfl,rfl,rfl,rfl,rfl,.inr (.inr ⟨j,0,l.length+1,Sx.rows ((first::l).map A5),rfl,by omega,?_,?_,?_⟩),trivial⟩
   ·simp only[A0.set];rw[A4 (by omega)];exact o3
   ·rw [Sx.rows_len];simp
   ·rw [List.drop_zero,List.take_of_length_le (by rw[Sx.rows_len];simp)];exact Ff _ _ _
end Go.Proofs.YtblgchkahpgdjaaGreat
namespace Go.Proofs.YtblgchkahpgdjaaGreat
open Go.AM Go.Proofs.Tryz
theorem TF{l:List Sx}{k:Sx}(h:k∈l):k.depth+1<=(AB l).depth:=by
 have:=Sx.depths_mem 0 h;simp only[AB,Sx.depth,AC];omega
theorem NJ{op name:ByteArray}{args:List ByteArray}{params:List Pm}{exprs:List Ex}{kids:List Fm}(h1:A3 op BH=false)(h2:A3 op Ba=false)(h3:Fj op=false): ∃ pre,Aa (.mk op name args params exprs kids)=AB (pre++kids.map Aa):=by
 unfold Aa;rw[h1,h2,h3,KD];exact⟨_,rfl⟩
theorem bf: ∀ f,BP f=true->match f with
  | .mk _ _ _ _ exprs kids=>1+Sx.nodess (exprs.map Am)+Sx.nodess (kids.map Aa)<=(Aa f).nodes/\1<=(Aa f).depth/\(∀ e∈exprs,(Am e).depth+1<=(Aa f).depth)/\(∀ k∈kids,(Aa k).depth+1<=(Aa f).depth):=by
 intro f hf;have d1: ∀ l:List Sx,1<=(AB l).depth:=λl=>by simp only[AB,Sx.depth,AC];omega
 have rest: ∀ {op:ByteArray}{params:List Pm}{kids:List Fm}{pre:List Sx},Aa (.mk op ⟨#[]⟩ [] params [] kids)=AB (pre++kids.map Aa)->
   1+Sx.nodess (([]:List Ex).map Am)+Sx.nodess (kids.map Aa)<=(Aa (.mk op ⟨#[]⟩ [] params [] kids)).nodes/\1<=(Aa (.mk op ⟨#[]⟩ [] params [] kids)).depth/\(∀ e∈([]:List Ex),(Am e).depth+1<=(Aa (.mk op ⟨#[]⟩ [] params [] kids)).depth)/\(∀ k∈kids,(Aa k).depth+1<=(Aa (.mk op ⟨#[]⟩ [] params [] kids)).depth):=by
  intro op params kids pre e;rw[e];refine⟨?_,d1 _,by simp,λk hk=>TF (List.mem_append.2 (.inr (List.mem_map.2 ⟨k,hk,rfl⟩)))⟩;rw[F0,JZ];simp only[List.map_nil,Sx.nodess];omega
 refine Zz (C:=λf=>match f with
  | .mk _ _ _ _ exprs kids=>1+Sx.nodess (exprs.map Am)+Sx.nodess (kids.map Aa)<=(Aa f).nodes/\1<=(Aa f).depth/\(∀ e∈exprs,(Am e).depth+1<=(Aa f).depth)/\(∀ k∈kids,(Aa k).depth+1<=(Aa f).depth)) f hf ?_ ?_ ?_ ?_ ?_ ?_ ?_
 ·intro name args _ _;have e:Aa (.mk BH name args [] [] [])=Bv name args:=rfl;simp only[e];exact⟨by simp only[Bv,F0,List.map_nil,Sx.nodess];omega,d1 _,by simp,by simp⟩
 ·intro args _ _;have e:Aa (.mk Ba ⟨#[]⟩ args [] [] [])=Bv CS args:=rfl;simp only[e];exact⟨by simp only[Bv,F0,List.map_nil,Sx.nodess];omega,d1 _,by simp,by simp⟩
 ·intro op a b ho _ _;have e:Aa (.mk op ⟨#[]⟩ [] [] [a,b] [])=AB [A5 op,Am a,Am b]:=by rcases ho with rfl|rfl|rfl<;>rfl
  simp only[e];refine⟨?_,d1 _,?_,by simp⟩
  ·simp only[F0,List.map_cons,List.map_nil,Sx.nodess,Ja];omega
  ·intro x hx;simp only[List.mem_cons,List.not_mem_nil,DO]at hx;rcases hx with rfl|rfl<;>exact TF (by simp)
 ·intro op kids ho _;obtain⟨pre,e⟩: ∃ pre,Aa (.mk op ⟨#[]⟩ [] [] [] kids)=AB (pre++kids.map Aa):=by rcases ho with rfl|rfl<;>exact NJ rfl rfl rfl
  exact rest e
 ·intro k _;obtain⟨pre,e⟩: ∃ pre,Aa (.mk E8 ⟨#[]⟩ [] [] [] [k])=AB (pre++[k].map Aa):=NJ rfl rfl rfl;exact rest e
 ·intro a b _ _;obtain⟨pre,e⟩: ∃ pre,Aa (.mk GO ⟨#[]⟩ [] [] [] [a,b])=AB (pre++[a,b].map Aa):=NJ rfl rfl rfl;exact rest e
 ·intro op params k ho _ _;obtain⟨pre,e⟩: ∃ pre,Aa (.mk op ⟨#[]⟩ [] params [] [k])=AB (pre++[k].map Aa):=by rcases ho with rfl|rfl<;>exact NJ rfl rfl rfl
  exact rest e
theorem TG: ∀ (l:List Ex),(∀ e∈l,Br e=true)-> ∀ (d n:Nat),(∀ e∈l,d+(Am e).depth<=32)->n+Sx.nodess (l.map Am)<=4096->(El l d n).1=true/\(El l d n).2<=n+Sx.nodess (l.map Am)
 |[],_,d,n,_,hn=>by simp[El,Sx.nodess]
 |e::l,hs,d,n,hd,hn=>by
  simp only[List.map_cons,Sx.nodess]at hn⊢;obtain⟨f1,f2⟩:=Sg e (hs e (by simp)) d n (hd e (by simp)) (by omega);unfold El;cases hw:D8 e d n with
  |mk x c=>
   rw[hw]at f1 f2;simp only at f1 f2;subst f1;simp only;obtain⟨g1,g2⟩:=TG l (λq hq=>hs q (by simp[hq])) d c (λq hq=>hd q (by simp[hq])) (by omega);exact⟨g1,by omega⟩
theorem TH: ∀ (l:List Fm)(d:Nat),(∀ k∈l, ∀ n,n+(Aa k).nodes<=4096->(Dq k d n).1=true/\(Dq k d n).2<=n+(Aa k).nodes)-> ∀ n,n+Sx.nodess (l.map Aa)<=4096->(Eb l d n).1=true/\(Eb l d n).2<=n+Sx.nodess (l.map Aa)
 |[],_,_,n,hn=>by simp[Eb,Sx.nodess]
 |k::l,d,h,n,hn=>by
  simp only[List.map_cons,Sx.nodess]at hn⊢;obtain⟨f1,f2⟩:=h k (by simp) n (by omega);unfold Eb;cases hw:Dq k d n with
  |mk x c=>
   rw[hw]at f1 f2;simp only at f1 f2;subst f1;simp only;obtain⟨g1,g2⟩:=TH l d (λq hq=>h q (by simp[hq])) c (by omega);exact⟨g1,by omega⟩
theorem bg: ∀ (f:Fm),BP f=true-> ∀ (d n:Nat),d+(Aa f).depth<=32->n+(Aa f).nodes<=4096->(Dq f d n).1=true/\(Dq f d n).2<=n+(Aa f).nodes:=by
 refine Fm.ind ?_;intro op name args params exprs kids ih hs d n hd hn;have hp:=bf _ hs;simp only at hp;obtain⟨p1,p2,p3,p4⟩:=hp;have hs2:=hs;simp only[BP,AT,List.all_eq_true]at hs2;obtain⟨⟨h1,h2⟩,h3⟩:=hs2;rw[Ie]at h3;generalize Aa (.mk op name args params exprs kids)=X at*;unfold Dq;rw[AH ⟨by omega,by omega⟩,AH h1];obtain⟨f1,f2⟩:=TG exprs h2 (d+1) (n+1) (λe he=>by have:=p3 e he;omega) (by omega);cases hw:El exprs (d+1) (n+1)with
 |mk x c=>
  rw[hw]at f1 f2;simp only at f1 f2;subst f1;simp only;obtain⟨g1,g2⟩:=TH kids (d+1) (λk hk m hm=>ih k hk (h3 k hk) (d+1) m (by have:=p4 k hk;omega) hm) c (by omega);exact⟨g1,by omega⟩
theorem bh{f:Fm}(hn:(Aa f).nodes<=AE):BW f=(BP f&&KG (Aa f)):=by
 unfold BW;rw[JU hn];cases hs:BP f with
 |false=>
  have:(Dq f 0 0).1=false:=by
   cases h:(Dq f 0 0).1 with
   |false=>rfl
   |true=>rw[La f 0 0 h]at hs;simp at hs
  simp only[this,Ai]
 |true=>
  cases hv:KG (Aa f)with
  |false=>simp
  |true=>
   have h1:=(LM (Aa f) 0 0 (by omega) (by omega)).1.1 (by rw[JU hn];exact hv);rw[(bg f hs 0 0 h1.2.1 h1.2.2).1]
end Go.Proofs.YtblgchkahpgdjaaGreat
namespace Go.AM
theorem Em: ∀ l:List Pm,2*l.length<=PV.bulkR (A7 l)
 |[]=>by simp
 |s::l=>by
  have:=Em l;simp only[A7,JL,List.map_cons,PV.bulkR,PV.bulkL,PV.bulk,List.length_cons]at this⊢;omega
theorem TI: ∀ l:List Fm,l.length<=PV.bulkR (Fm.rows l)
 |[]=>by simp
 |s::l=>by
  have:=TI l;cases s;simp only[Fm.rows,Fm.cells,PV.bulkR,PV.bulkL,PV.bulk,List.length_cons]at this⊢;omega
mutual
theorem Fm.small_bulk: ∀ (f:Fm),PV.bulkL f.cells<=1048576->f.small
 | .mk op name args params exprs kids,h=>by
  simp only[Fm.cells,PV.bulkL,PV.bulk]at h;simp only[Fm.small];have:=Jh args;have:=Em params;have:=TI kids;exact⟨by omega,by omega,Ex.smalls_bulk exprs (by omega),by omega,Fm.smalls_bulk kids (by omega)⟩
theorem Fm.smalls_bulk: ∀ (l:List Fm),PV.bulkR (Fm.rows l)<=1048576->Fm.smalls l
 |[],_=>by simp[Fm.smalls]
 |k::ks,h=>by
  simp only[Fm.rows,PV.bulkR]at h;simp only[Fm.smalls];exact⟨Fm.small_bulk k (by omega),Fm.smalls_bulk ks (by omega)⟩
end
end Go.AM
namespace Go.Proofs.YtblgchkahpgdjaaGreat
open Go.AM Go.Proofs.Tryz
theorem ID: ∀ l:List Pm,Sx.nodess (AG l)=3*l.length
 |[]=>rfl
 |s::l=>by simp only[AG,Sx.nodess,Ja,ID l,List.length_cons];omega
theorem TJ: ∀ l:List Ex,Sx.nodess (l.map Am)<=PV.bulkR (Ex.rows l)
 |[]=>by simp[Sx.nodess]
 |e::l=>by
  have h1:=TJ l;have h2:=Sz e;simp only[List.map_cons,Sx.nodess,Ex.rows,PV.bulkR];omega
mutual
theorem KT: ∀ f:Fm,(Aa f).nodes<=2*PV.bulkL f.cells
 | .mk op name args params exprs kids=>by
  have h1:=Jh args;have h2:=Em params;have h3:=TJ exprs;have h4:=TK kids;simp only[Fm.cells,PV.bulkL,PV.bulk];unfold Aa;split
  ·rw [NG];omega
  ·split
   ·rw [NG];omega
   ·split
    ·simp only[F0,Sx.nodess,Ja];omega
    ·simp only[F0,JZ];split<;>split<;>simp only[Sx.nodess,Ja,F0,ID]<;>omega
theorem TK: ∀ l:List Fm,Sx.nodess (HM l)<=2*PV.bulkR (Fm.rows l)
 |[]=>by simp[HM,Sx.nodess]
 |k::l=>by
  have h1:=KT k;have h2:=TK l;simp only[HM,Sx.nodess,Fm.rows,PV.bulkR];omega
end
end Go.Proofs.YtblgchkahpgdjaaGreat
