/- What the claim rests on, part 11: the abstract machine, contracts of the functions, plain data. -/
import Derived.Test.YtblgchkahpgdjaaGreatZs9
import Derived.Test.YtblgchkahpgdjaaGreatZs10
set_option linter.unusedVariables false
set_option linter.unusedSimpArgs false
set_option linter.unusedSectionVars false
namespace Go.AM
mutual
def Fm.small:Fm->Prop
 | .mk _ _ args params exprs kids=>args.length<=1048576/\params.length<=1048576/\Ex.DY exprs/\kids.length<=1048576/\Fm.DY kids
def Fm.DY:List Fm->Prop
 |[]=>True
 |k::ks=>k.small/\Fm.DY ks
end
theorem Fm.Eh:{l:List Fm}->(Fm.DY l↔ ∀ k∈l,k.small)
 |[]=>by simp[Fm.DY]
 |k::ks=>by simp[Fm.DY,Fm.Eh (l:=ks)]
end Go.AM
namespace Go.Proofs.YtblgchkahpgdjaaGreat
open Go.AM Go.Proofs.Tryz
set_option maxHeartbeats 4000000
set_option maxRecDepth 20000
structure H5(h:A1)(L:List Sx)(h':A1):Prop where
 grow:AH h h'
 ex: ∃ p H,h.next+1<h'.next/\h'.obj h.next=some (.arr 6 [[.sc (.int .i64 0),.sc (.int .i64 0),.sc (.int .i64 0),.sc (.int .i64 0),.sc (.string ⟨#[]⟩),.sc (.slice none 0 0)]])/\
  h'.obj (h.next+1)=some (.arr 6 [[.sc (.int .i64 3),.sc (.int .i64 0),.sc (.int .i64 0),.sc (.int .i64 0),.sc (.string ⟨#[]⟩),p]])/\Tl h' (h.next+2) 6 p (Sx.rows L)/\
  EW h' p=some (H,Sx.rows L)/\De h' 6 p=true/\H.next=h'.next/\(∀ j,j<h.next+2->H.obj j=h'.obj j)/\AH h H/\p.cells=[p]/\Cx p=true
theorem H5.Ih{h h':A1}{L:List Sx}{p:PV}(g:AH h h')(hn:h.next+1<h'.next)(o1:h'.obj h.next=some (.arr 6 [[.sc (.int .i64 0),.sc (.int .i64 0),.sc (.int .i64 0),.sc (.int .i64 0),.sc (.string ⟨#[]⟩),.sc (.slice none 0 0)]]))(o2:h'.obj (h.next+1)=some (.arr 6 [[.sc (.int .i64 3),.sc (.int .i64 0),.sc (.int .i64 0),.sc (.int .i64 0),.sc (.string ⟨#[]⟩),p]]))(tl:Tl h' (h.next+2) 6 p (Sx.rows L)):H5 h L h':=by
 obtain⟨H,t1,t2,t3,t4,t5⟩:=tl.tail;have hk:=t5 h ⟨g.le,g.B6⟩ (by omega);refine⟨g,p,H,hn,o1,o2,tl,t1,t2,t3,t4,⟨hk.1,hk.2⟩,?_,?_⟩
 ·rcases tl with⟨_,rfl|rfl⟩|⟨_,_,_,rfl,_⟩<;>rfl
 ·rcases tl with⟨_,rfl|rfl⟩|⟨_,_,_,rfl,_⟩<;>rfl
theorem Tl.low{h:A1}{a b z:Nat}{p:PV}{rows:List (List PV)}(t:Tl h a z p rows)(hab:b<=a):Tl h b z p rows:=by
 rcases t with ht|⟨id,h1,h2⟩
 ·exact .inl ht
 ·exact .inr ⟨id,by omega,h2⟩
theorem H5.push{h h' H:A1}{L:List Sx}{X:Sx}{m:Nat}(hn:h.next+1<h'.next)(o1:h'.obj h.next=some (.arr 6 [[.sc (.int .i64 0),.sc (.int .i64 0),.sc (.int .i64 0),.sc (.int .i64 0),.sc (.string ⟨#[]⟩),.sc (.slice none 0 0)]]))(t3:H.next=h'.next)(t4: ∀ j,j<h.next+2->H.obj j=h'.obj j)(g:AH h H)(hm:m=L.length+1):
  H5 h (L++[X]) ((H.new (.arr 6 (Sx.rows L++[X.cells]))).set (h.next+1) (.arr 6 [[.sc (.int .i64 3),.sc (.int .i64 0),.sc (.int .i64 0),.sc (.int .i64 0),.sc (.string ⟨#[]⟩),.own h'.next 0 m]])):=by
 have e1:Sx.rows (L++[X])=Sx.rows L++[X.cells]:=by simp[Sx.rows_map]
 have n1:¬ h.next=h.next+1:=by omega
 have n2:¬ h.next=H.next:=by omega
 refine H5.Ih (p:= .own h'.next 0 m) ((g.new _).set (by omega) _) (by simp only[A1.set,A1.new];omega) ?_ ?_ ?_;rotate_left
 ·simp only[A1.set,AO]
 ·rw [e1, ← t3];have:Tl (H.new (.arr 6 (Sx.rows L++[X.cells]))) (h.next+2) 6 (.own H.next 0 m) (Sx.rows L++[X.cells]):=Tl.grow (by omega) (by rw[hm];simp[Sx.B4]);exact this.up (AG _) (λj hj _=>by simp only[A1.set];rw[A8 (by omega)])
 ·simp only[A1.set,A1.new,n1,n2,AQ];rw[t4 _ (by omega)];exact o1
theorem kU{P:Program}{ow:Nat->Bool}{wf:FuncId->Bool}{n:Nat}{Q:BW}{s:AD}{h0:A1}{c:Code}(I:A1->Prop)(hi:I h0)(hh: ∀ h',I h'->Aq P ow wf n c Q s h'):Aq P ow wf n c Q s h0:=hh _ hi
theorem Wg: ∀ f:Fm,f.small->DH f=true-> ∀ h:A1,A6 prog 162 [.agg f.cells] h λr h'=>r= .agg (Ap f).cells/\h'=h:=by
 refine Fm.ind ?_;intro op name args params exprs kids ih hsm hsh h;simp only[Fm.small]at hsm;obtain⟨hal,hpl,hes,hkl,hks⟩:=hsm;rw[Ex.Eh]at hes;rw[Fm.Eh]at hks;simp only[DH,AV]at hsh;obtain⟨⟨hpo,hse⟩,hsk⟩:=hsh;rw[Mo]at hsk;rw[List.all_eq_true]at hse;have hlK:=Fm.B4 kids;unfold Ap;refine A6.CF Ty.Ls ?_;cases k1:(op.data.toList==(#[97,116,111,109]:Array UInt8).toList)with
 |true=>
  rw[AK (show A3 op Bx=true from k1)];have hw: ∀ h:A1,A6 prog 174 [A4 name,.A2 1 (AN args)] h λr h'=>r= .agg (Cu name args).cells/\h'=h:=λh=>Rl hal;have hfz:=λ(n:Nat)(h:A1)=>FC n h (Cu name args);simp only[Fm.cells];generalize Cu name args=X at hw hfz⊢;obtain⟨ki,va,li,co,te,ks⟩:=X;simp only[Sx.cells]at hw hfz⊢;refine AF func162 ntmps162 results162 Ty.Ls ?_;refine wt k1 ?_;refine uU k1 (hw _) ?_;refine wt A5 ?_;refine⟨?_,((AH.refl h).new _).set (AG _) _⟩;simp only[AJ];exact⟨_,rfl,hfz _ _⟩
 |false=>
  cases k2:(op.data.toList==(#[115,97,109,101]:Array UInt8).toList)with
  |true=>
   rw[A8 (by rw[(show A3 op Bx=false from k1)];simp)];rw[AK (show A3 op CI=true from k2)];have hw: ∀ h:A1,A6 prog 174 [A4 ⟨#[61]⟩,.A2 1 (AN args)] h λr h'=>r= .agg (Cu Ca args).cells/\h'=h:=λh=>Rl hal;have hfz:=λ(n:Nat)(h:A1)=>FC n h (Cu Ca args);simp only[Fm.cells];generalize Cu Ca args=X at hw hfz⊢;obtain⟨ki,va,li,co,te,ks⟩:=X;simp only[Sx.cells]at hw hfz⊢;refine AF func162 ntmps162 results162 Ty.Ls ?_;refine wt (uu k1 k2) ?_;refine uU (uu k1 k2) (hw _) ?_;refine wt A5 ?_;refine⟨?_,((AH.refl h).new _).set (AG _) _⟩;simp only[AJ];exact⟨_,rfl,hfz _ _⟩
  |false=>
   rw[A8 (by rw[(show A3 op Bx=false from k1)];simp),A8 (by rw[(show A3 op CI=false from k2)];simp)];cases k3:(op.data.toList==(#[60]:Array UInt8).toList)with
   |true=>
    rw[AK (by simp[FQ,(show A3 op Bx=false from k1),(show A3 op CI=false from k2),(show A3 op DG=true from k3)])];have hx2:exprs.length=2:=(by have q:=hpo;simp[FT,Dz,(show A3 op Bx=false from k1),(show A3 op CI=false from k2),(show A3 op DG=true from k3)]at q;omega);obtain⟨a,b,rfl⟩: ∃ a b,exprs=[a,b]:=by
     match exprs,hx2 with
     |[a,b],_=>exact⟨a,b,rfl⟩
    have ca:=Kw a (hes a (by simp)) (hse a (by simp));have cb:=Kw b (hes b (by simp)) (hse b (by simp));have hw:=λh:A1=>Ku (h:=h) (s:=op);simp only[List.map_cons,List.map_nil];have hfz:=λ(n:Nat)(h:A1)=>FC n h (AE [A7 op,BI a,BI b]);have hl:=λh:A1=>Kv (h:=h) (p:= .A2 6 (Sx.rows [A7 op,BI a,BI b])) rfl (λ_=>K1 (HK _ _));generalize BI a=xa at ca hfz hl⊢;generalize BI b=xb at cb hfz hl⊢;clear ih hks hpo hse hsk hes;obtain⟨Es,aname,an,aargs,akids⟩:=a;obtain⟨bop,bname,bn,bargs,bkids⟩:=b;obtain⟨ki,va,li,co,te,ks⟩:=xa;obtain⟨ki2,va2,li2,co2,te2,ks2⟩:=xb;simp only[Fm.cells,Ex.cells,Ex.rows,AE,Sx.cells,Sx.rows,A7]at ca cb hw hfz hl⊢;refine AF func162 ntmps162 results162 Ty.Ls ?_;refine wy (AY k1 k2 k3) ?_;(first|refine uV A5 (hw _) ?_|refine uA A5 (hw _) ?_);refine wy A5 ?_;(first|refine uV A5 (ca _) ?_|refine uA A5 (ca _) ?_);refine wy A5 ?_;(first|refine uV A5 (cb _) ?_|refine uA A5 (cb _) ?_);refine wy A5 ?_;(first|refine uV A5 (hl _) ?_|refine uA A5 (hl _) ?_);refine wy A5 ?_;refine⟨?_,((AH.refl h).new _).set (AG _) _⟩;simp only[AJ];exact⟨_,rfl,hfz _ _⟩
   |false=>
    cases k4:(op.data.toList==(#[60,61]:Array UInt8).toList)with
    |true=>
     rw[AK (by simp[FQ,(show A3 op Bx=false from k1),(show A3 op CI=false from k2),(show A3 op DG=false from k3),(show A3 op Db=true from k4)])];have hx2:exprs.length=2:=(by have q:=hpo;simp[FT,Dz,(show A3 op Bx=false from k1),(show A3 op CI=false from k2),(show A3 op DG=false from k3),(show A3 op Db=true from k4)]at q;omega);obtain⟨a,b,rfl⟩: ∃ a b,exprs=[a,b]:=by
      match exprs,hx2 with
      |[a,b],_=>exact⟨a,b,rfl⟩
     have ca:=Kw a (hes a (by simp)) (hse a (by simp));have cb:=Kw b (hes b (by simp)) (hse b (by simp));have hw:=λh:A1=>Ku (h:=h) (s:=op);simp only[List.map_cons,List.map_nil];have hfz:=λ(n:Nat)(h:A1)=>FC n h (AE [A7 op,BI a,BI b]);have hl:=λh:A1=>Kv (h:=h) (p:= .A2 6 (Sx.rows [A7 op,BI a,BI b])) rfl (λ_=>K1 (HK _ _));generalize BI a=xa at ca hfz hl⊢;generalize BI b=xb at cb hfz hl⊢;clear ih hks hpo hse hsk hes;obtain⟨Es,aname,an,aargs,akids⟩:=a;obtain⟨bop,bname,bn,bargs,bkids⟩:=b;obtain⟨ki,va,li,co,te,ks⟩:=xa;obtain⟨ki2,va2,li2,co2,te2,ks2⟩:=xb;simp only[Fm.cells,Ex.cells,Ex.rows,AE,Sx.cells,Sx.rows,A7]at ca cb hw hfz hl⊢;refine AF func162 ntmps162 results162 Ty.Ls ?_;replace zz:=Aa k1 k2 k3 k4;refine wy zz ?_;(first|refine uV A5 (hw _) ?_|refine uA A5 (hw _) ?_);refine wy A5 ?_;(first|refine uV A5 (ca _) ?_|refine uA A5 (ca _) ?_);refine wy A5 ?_;(first|refine uV A5 (cb _) ?_|refine uA A5 (cb _) ?_);refine wy A5 ?_;(first|refine uV A5 (hl _) ?_|refine uA A5 (hl _) ?_);refine wy A5 ?_;refine⟨?_,((AH.refl h).new _).set (AG _) _⟩;simp only[AJ];exact⟨_,rfl,hfz _ _⟩
    |false=>
     cases k5:(op.data.toList==(#[61]:Array UInt8).toList)with
     |true=>
      rw[AK (by simp[FQ,(show A3 op Bx=false from k1),(show A3 op CI=false from k2),(show A3 op DG=false from k3),(show A3 op Db=false from k4),(show A3 op Ca=true from k5)])];have hx2:exprs.length=2:=(by have q:=hpo;simp[FT,Dz,(show A3 op Bx=false from k1),(show A3 op CI=false from k2),(show A3 op DG=false from k3),(show A3 op Db=false from k4),(show A3 op Ca=true from k5)]at q;omega);obtain⟨a,b,rfl⟩: ∃ a b,exprs=[a,b]:=by
       match exprs,hx2 with
       |[a,b],_=>exact⟨a,b,rfl⟩
      have ca:=Kw a (hes a (by simp)) (hse a (by simp));have cb:=Kw b (hes b (by simp)) (hse b (by simp));have hw:=λh:A1=>Ku (h:=h) (s:=op);simp only[List.map_cons,List.map_nil];have hfz:=λ(n:Nat)(h:A1)=>FC n h (AE [A7 op,BI a,BI b]);have hl:=λh:A1=>Kv (h:=h) (p:= .A2 6 (Sx.rows [A7 op,BI a,BI b])) rfl (λ_=>K1 (HK _ _));generalize BI a=xa at ca hfz hl⊢;generalize BI b=xb at cb hfz hl⊢;clear ih hks hpo hse hsk hes;obtain⟨Es,aname,an,aargs,akids⟩:=a;obtain⟨bop,bname,bn,bargs,bkids⟩:=b;obtain⟨ki,va,li,co,te,ks⟩:=xa;obtain⟨ki2,va2,li2,co2,te2,ks2⟩:=xb;simp only[Fm.cells,Ex.cells,Ex.rows,AE,Sx.cells,Sx.rows,A7]at ca cb hw hfz hl⊢;refine AF func162 ntmps162 results162 Ty.Ls ?_;replace zz:=Ak k1 k2 k3 k4 k5;refine wy zz ?_;(first|refine uV A5 (hw _) ?_|refine uA A5 (hw _) ?_);refine wy A5 ?_;(first|refine uV A5 (ca _) ?_|refine uA A5 (ca _) ?_);refine wy A5 ?_;(first|refine uV A5 (cb _) ?_|refine uA A5 (cb _) ?_);refine wy A5 ?_;(first|refine uV A5 (hl _) ?_|refine uA A5 (hl _) ?_);refine wy A5 ?_;refine⟨?_,((AH.refl h).new _).set (AG _) _⟩;simp only[AJ];exact⟨_,rfl,hfz _ _⟩
     |false=>
      rw[A8 (by simp[FQ,(show A3 op DG=false from k3),(show A3 op Db=false from k4),(show A3 op Ca=false from k5)])];clear hse hes hpo;simp only[Fm.cells];refine AF func162 ntmps162 results162 Ty.Ls ?_;replace zz:=Ak k1 k2 k3 k4 k5;refine wt zz ?_;refine uU k1 (Kv (p:= .sc (.slice none 0 0)) rfl (λ_=>by simp only[AJ])) ?_;refine xH 11 k1 ?_;refine⟨?_⟩;refine kU (H5 h []) ?_ (λH0 hI=>?_)
      ·refine H5.Ih (p:= .sc (.slice none 0 0)) ((((AH.refl h).new _).new _).set (by omega) _) (by simp[A1.new,A1.set]) (by simp[A1.new,A1.set]) (by simp[A1.new,A1.set]) Tl.nil
      refine DB (λS h'=>S 1= .Ag (Fm.mk op name args params exprs kids).cells/\S 2= .ptr h.next 0 0/\S 3= .ptr (h.next+1) 0 0/\H5 h (if(A3 op Bo&&kids.isEmpty)=true then[]else[A7 op]) h') ?_ ?_
      ·have n6:A3 op Bo=(op.data.toList==(#[97,110,100]:Array UInt8).toList):=rfl;cases k6:(op.data.toList==(#[97,110,100]:Array UInt8).toList)with
       |false=>
        rw[A8 (by rw[n6,k6];simp)];obtain⟨hg,p,H,hn,o1,o2,tl,t1,t2,t3,t4,hgH,hpc,hp1⟩:=hI;have hw: ∀ (s:ByteArray)(h:A1),A6 prog 136 [A4 s] h λr h'=>r= .agg (A7 s).cells/\h'=h:=λs h=>Ku;simp only[A7,Sx.cells,Sx.rows]at hw;have o2H:H.obj (h.next+1)=_:=(t4 _ (by omega)).trans o2;have n2:(h.next+1=H.next)=False:=(by simp;omega);have hpr:(Sx.rows ([]:List Sx)).length=0:=rfl;have hpush:=λX:Sx=>H5.push (L:=[]) (X:=X) (m:=1) hn o1 t3 t4 hgH rfl;generalize Sx.rows []=R at t1 hpr hpush;replace zz:=B9 k6 yF o2 o2H n2 t1 t2 hpr hpc hp1;refine wy zz ?_;replace zz:=Aa k6 yF o2 o2H;(first|refine uV zz (hw op _) ?_|refine uA zz (hw op _) ?_);replace zz:=B9 k6 yF o2 o2H n2 t1 t2 hpr hpc hp1;repeat'(first|refine cK ?_|refine nK ?_|refine uB zz ?_|(rw[AK];rotate_left 1;omega;simp only[Ty.w,simprocAttr,k6,CB,o2,o2H,n2,t1,t2,hpr,hpc,hp1])|apply zI)
        (simp only[Ty.w,simprocAttr,Ty.AW,Fm.cells])
        exact hpush (A7 op)
       |true=>
        cases q6:decide ((kids.length:Int)>0)with
        |false=>
         have hk0:kids.isEmpty=true:=(by cases kids with|nil=>rfl|cons a l=>simp at q6);rw[AK (by rw[n6,k6,hk0];try rfl)];replace zz:=Aa k6 q6 hlK yT;refine wt zz ?_
         (simp only[Ty.w,simprocAttr,Ty.AW,Fm.cells])
         exact hI
        |true=>
         have hk0:kids.isEmpty=false:=(by cases kids with|nil=>simp at q6|cons a l=>rfl);rw[A8 (by rw[hk0];simp)];obtain⟨hg,p,H,hn,o1,o2,tl,t1,t2,t3,t4,hgH,hpc,hp1⟩:=hI;have hw: ∀ (s:ByteArray)(h:A1),A6 prog 136 [A4 s] h λr h'=>r= .agg (A7 s).cells/\h'=h:=λs h=>Ku;simp only[A7,Sx.cells,Sx.rows]at hw;have o2H:H.obj (h.next+1)=_:=(t4 _ (by omega)).trans o2;have n2:(h.next+1=H.next)=False:=(by simp;omega);have hpr:(Sx.rows ([]:List Sx)).length=0:=rfl;have hpush:=λX:Sx=>H5.push (L:=[]) (X:=X) (m:=1) hn o1 t3 t4 hgH rfl;generalize Sx.rows []=R at t1 hpr hpush;replace zz:=Ab k6 q6 hlK yT o2 o2H n2 t1 t2 hpr hpc hp1;refine wy zz ?_;replace zz:=Al k6 q6 hlK yT o2 o2H;(first|refine uV zz (hw op _) ?_|refine uA zz (hw op _) ?_);replace zz:=Ab k6 q6 hlK yT o2 o2H n2 t1 t2 hpr hpc hp1;repeat'(first|refine cK ?_|refine nK ?_|refine uB zz ?_|(rw[AK];rotate_left 1;omega;simp only[Ty.w,simprocAttr,k6,q6,hlK,Av,o2,o2H,n2,t1,t2,hpr,hpc,hp1])|apply zI)
         (simp only[Ty.w,simprocAttr,Ty.AW,Fm.cells])
         exact hpush (A7 op)
      ·clear hI;obtain⟨L0,hL0,hl0⟩: ∃ L0:List Sx,(if(A3 op Bo&&kids.isEmpty)=true then[]else[A7 op])=L0/\L0.length<=1:=⟨_,rfl,by split<;>simp⟩;rw[hL0];rintro S h' ⟨g1,g2,g3,hI⟩;simp only[Fm.cells]at g1;refine xH 13 (AY g1 g2 g3) ?_;refine⟨?_⟩;refine DB (λS h'=>S 1= .Ag (Fm.mk op name args params exprs kids).cells/\S 2= .ptr h.next 0 0/\S 3= .ptr (h.next+1) 0 0/\H5 h (L0++(if E8 op=true then[AE (AZ params)]else[])) h') ?_ ?_
       ·have n7:A3 op DV=(op.data.toList==(#[102,111,114,97,108,108]:Array UInt8).toList):=rfl;have n8:A3 op HM=(op.data.toList==(#[101,120,105,115,116,115]:Array UInt8).toList):=rfl;cases k7:(op.data.toList==(#[102,111,114,97,108,108]:Array UInt8).toList)with
        |true=>
         rw[AK (by simp[E8,n7,n8,k7])];obtain⟨hg,p,H,hn,o1,o2,tl,t1,t2,t3,t4,hgH,hpc,hp1⟩:=hI;have hwp:=Rt (l:=params) hpl;have hli: ∀ h:A1,A6 prog 175 [.A2 6 (Sx.rows (AZ params))] h λr h'=>r= .agg (AE (AZ params)).cells/\h'=h:=λh=>Kv rfl (λ_=>K1 (HK _ _));generalize hX:AE (AZ params)=X at hli⊢;clear hX;generalize Sx.rows (AZ params)=PR at hwp hli;have o2H:H.obj (h.next+1)=_:=(t4 _ (by omega)).trans o2;have n2:(h.next+1=H.next)=False:=(by simp;omega);have hpr:=Sx.B4 L0;have hpush:=H5.push (L:=L0) (X:=X) (m:=L0.length+1) hn o1 t3 t4 hgH rfl;generalize Sx.rows L0=R at t1 hpr hpush;have hb:(L0.length+1)*72<=140737488355328:=(by omega);obtain⟨ki,va,li,co,te,ks⟩:=X;simp only[Sx.cells]at hli hpush;replace zz:=Ab g1 g2 g3 k7 o2 o2H n2 t1 t2 hpr hpc (uu hp1 hb);refine wy zz ?_;replace zz:=Al g1 g2 g3 k7 o2 o2H;(first|refine uV zz (hwp _) ?_|refine uA zz (hwp _) ?_);replace zz:=Ab g1 g2 g3 k7 o2 o2H n2 t1 t2 hpr hpc (uu hp1 hb);refine wy zz ?_;replace zz:=Al g1 g2 g3 k7 o2 o2H;(first|refine uV zz (hli _) ?_|refine uA zz (hli _) ?_);replace zz:=Ab g1 g2 g3 k7 o2 o2H n2 t1 t2 hpr hpc (uu hp1 hb);repeat'(first|refine cK ?_|refine nK ?_|refine uB zz ?_|(rw[AK];rotate_left 1;omega;simp only[Ty.w,simprocAttr,g1,g2,g3,k7,o2,o2H,n2,t1,t2,hpr,hpc,hp1,hb])|apply zI)
         (simp only[Ty.w,simprocAttr,Ty.AW,g1,g2,g3,Fm.cells])
         exact hpush
        |false=>
         cases k8:(op.data.toList==(#[101,120,105,115,116,115]:Array UInt8).toList)with
         |true=>
          rw[AK (by simp[E8,n7,n8,k8])];obtain⟨hg,p,H,hn,o1,o2,tl,t1,t2,t3,t4,hgH,hpc,hp1⟩:=hI;have hwp:=Rt (l:=params) hpl;have hli: ∀ h:A1,A6 prog 175 [.A2 6 (Sx.rows (AZ params))] h λr h'=>r= .agg (AE (AZ params)).cells/\h'=h:=λh=>Kv rfl (λ_=>K1 (HK _ _));generalize hX:AE (AZ params)=X at hli⊢;clear hX;generalize Sx.rows (AZ params)=PR at hwp hli;have o2H:H.obj (h.next+1)=_:=(t4 _ (by omega)).trans o2;have n2:(h.next+1=H.next)=False:=(by simp;omega);have hpr:=Sx.B4 L0;have hpush:=H5.push (L:=L0) (X:=X) (m:=L0.length+1) hn o1 t3 t4 hgH rfl;generalize Sx.rows L0=R at t1 hpr hpush;have hb:(L0.length+1)*72<=140737488355328:=(by omega);obtain⟨ki,va,li,co,te,ks⟩:=X;simp only[Sx.cells]at hli hpush;replace zz:=Ab g1 g2 g3 k7 k8 o2 o2H n2 t1 t2 hpr (AY hpc hp1 hb);refine wy zz ?_;replace zz:=Ah g1 g2 g3 k7 k8 o2 o2H;(first|refine uV zz (hwp _) ?_|refine uA zz (hwp _) ?_);replace zz:=Ab g1 g2 g3 k7 k8 o2 o2H n2 t1 t2 hpr (AY hpc hp1 hb);refine wy zz ?_;replace zz:=Ah g1 g2 g3 k7 k8 o2 o2H;(first|refine uV zz (hli _) ?_|refine uA zz (hli _) ?_);replace zz:=Ab g1 g2 g3 k7 k8 o2 o2H n2 t1 t2 hpr (AY hpc hp1 hb);repeat'(first|refine cK ?_|refine nK ?_|refine uB zz ?_|(rw[AK];rotate_left 1;omega;simp only[Ty.w,simprocAttr,g1,g2,g3,k7,k8,o2,o2H,n2,t1,t2,hpr,hpc,hp1,hb])|apply zI)
          (simp only[Ty.w,simprocAttr,Ty.AW,g1,g2,g3,Fm.cells])
          exact hpush
         |false=>
          rw[A8 (by simp[E8,n7,n8,k7,k8]),List.append_nil];replace zz:=Ak g1 g2 g3 k7 k8;refine wt zz ?_
          (simp only[Ty.w,simprocAttr,Ty.AW,g1,g2,g3,Fm.cells])
          exact hI
       ·clear hI g1 g2 g3;obtain⟨L1,hL1,hl1⟩: ∃ L1:List Sx,L0++(if E8 op=true then[AE (AZ params)]else[])=L1/\L1.length<=2:=⟨_,rfl,by split<;>simp<;>omega⟩;rw[hL1];rw[Mp];clear hL1 hL0 hl0;rintro S h' ⟨g1,g2,g3,hI⟩;simp only[Fm.cells]at g1;have hrl: ∀ k,(L1++(kids.take k).map Ap).length<=1048578:=λk=>(by simp;omega);replace zz:=Aa g1 g2 g3 hlK;refine wt zz ?_;refine CG (λc S h'=>S 2= .ptr h.next 0 0/\S 3= .ptr (h.next+1) 0 0/\S 75= .A2 6 (Fm.rows kids)/\S 76= .sc (.int .i64 kids.length)/\ ∃ k:Nat,S 77= .sc (.int .i64 k)/\k<=kids.length/\c=kids.length-k/\H5 h (L1++(kids.take k).map Ap) h') kids.length ?_ ?_
        ·simp only[Ty.w,simprocAttr,g2,g3];refine⟨0,rfl,by omega,rfl,?_⟩;simpa using hI
        ·clear hI g1 g2 g3;rintro c S h' ⟨g2,g3,g75,g76,k,g77,hk,rfl,hI⟩;by_cases hlt:k<kids.length
         ·have hdk:decide ((k:Int)<(kids.length:Int))=true:=(by simp;omega);have w7:IntKind.i64.wrap ((k:Int)+1)=k+1:=(by rw[BZ (by omega) (by omega)]);obtain⟨x,hx⟩: ∃ x,kids[k]? =some x:=⟨_,List.getElem?_eq_getElem hlt⟩;have hmem:=List.mem_of_getElem? hx;have hr:=Fm.CL hx;have hcx:=ih x hmem (hks x hmem) (hsk x hmem);have hL:L1++(kids.take (k+1)).map Ap=L1++(kids.take k).map Ap++[Ap x]:=(by rw[List.take_add_one,hx];simp);have hrk:=hrl k;generalize L1++(kids.take k).map Ap=L2 at hI hrk hL;obtain⟨hg,p,H,hn,o1,o2,tl,t1,t2,t3,t4,hgH,hpc,hp1⟩:=hI;generalize Ap x=X at hcx hL;obtain⟨xo,xn,xa,xp,xe,xk⟩:=x;obtain⟨ki,va,li,co,te,ks⟩:=X;simp only[Fm.cells,Sx.cells]at hr hcx;(try clear zz);clear t1 t2 t3 t4 hgH H;have hG2:AH h ((h'.new (.arr 6 [[.sc (.string ⟨#[]⟩),.sc (.string ⟨#[]⟩),.sc (.slice none 0 0),.sc (.slice none 0 0),.sc (.slice none 0 0),.sc (.slice none 0 0)]])).set h'.next (.arr 6 [[A4 xo,A4 xn,.A2 1 (AN xa),.A2 2 (A9 xp),.A2 5 (Ex.rows xe),.A2 6 (Fm.rows xk)]])):=(hg.new _).set hg.le _;have m1:¬ h.next=h'.next:=by omega
          have m2:¬ h.next+1=h'.next:=by omega
          have m2':(h.next+1=h'.next)=False:=BB m2;have tl2:=tl.up (h':=((h'.new (.arr 6 [[.sc (.string ⟨#[]⟩),.sc (.string ⟨#[]⟩),.sc (.slice none 0 0),.sc (.slice none 0 0),.sc (.slice none 0 0),.sc (.slice none 0 0)]])).set h'.next (.arr 6 [[A4 xo,A4 xn,.A2 1 (AN xa),.A2 2 (A9 xp),.A2 5 (Ex.rows xe),.A2 6 (Fm.rows xk)]]))) (by simp[A1.set,A1.new]) λj _ hj=>(by simp only[A1.set,A1.new];rw[A8 (by omega),A8 (by omega)]);obtain⟨H,t1,t2,t3,t4,t5⟩:=tl2.tail;have hgH:=t5 h ⟨hG2.le,hG2.B6⟩ (by omega);have o1x:((h'.new (.arr 6 [[.sc (.string ⟨#[]⟩),.sc (.string ⟨#[]⟩),.sc (.slice none 0 0),.sc (.slice none 0 0),.sc (.slice none 0 0),.sc (.slice none 0 0)]])).set h'.next (.arr 6 [[A4 xo,A4 xn,.A2 1 (AN xa),.A2 2 (A9 xp),.A2 5 (Ex.rows xe),.A2 6 (Fm.rows xk)]])).obj h.next=some (.arr 6 [[.sc (.int .i64 0),.sc (.int .i64 0),.sc (.int .i64 0),.sc (.int .i64 0),.sc (.string ⟨#[]⟩),.sc (.slice none 0 0)]]):=by simp only[A1.set,A1.new,m1,AQ];exact o1
          have o2H:H.obj (h.next+1)=_:=(t4 _ (by omega)).trans (show((h'.new (.arr 6 [[.sc (.string ⟨#[]⟩),.sc (.string ⟨#[]⟩),.sc (.slice none 0 0),.sc (.slice none 0 0),.sc (.slice none 0 0),.sc (.slice none 0 0)]])).set h'.next (.arr 6 [[A4 xo,A4 xn,.A2 1 (AN xa),.A2 2 (A9 xp),.A2 5 (Ex.rows xe),.A2 6 (Fm.rows xk)]])).obj (h.next+1)=_ by simp only[A1.set,A1.new,m2,AQ];exact o2);have t3':H.next=h'.next+1:=by rw[t3];simp[A1.new,A1.set]
          have n2:(h.next+1=H.next)=False:=(by simp;omega);have hpr:=Sx.B4 L2;have hpush:=H5.push (h':=((h'.new (.arr 6 [[.sc (.string ⟨#[]⟩),.sc (.string ⟨#[]⟩),.sc (.slice none 0 0),.sc (.slice none 0 0),.sc (.slice none 0 0),.sc (.slice none 0 0)]])).set h'.next (.arr 6 [[A4 xo,A4 xn,.A2 1 (AN xa),.A2 2 (A9 xp),.A2 5 (Ex.rows xe),.A2 6 (Fm.rows xk)]]))) (L:=L2) (X:= .mk ki va li co te ks) (m:=L2.length+1) (by simp only[A1.set,A1.new];omega) o1x t3 t4 ⟨hgH.1,hgH.2⟩ rfl;have hb:(L2.length+1)*72<=140737488355328:=(by omega);simp only[Sx.cells]at hpush;clear tl tl2 t5;generalize Sx.rows L2=R at t1 hpr hpush;replace zz:=Ab g2 g3 g75 g76 g77 hdk hr m2' o2 o2H n2 (Al t1 t2 hpr hpc hp1 hb);refine wy zz ?_;replace zz:=BT g2 g3 g75 g76 g77 m2' o2 o2H;(first|refine uV zz (hcx _) ?_|refine uA zz (hcx _) ?_);replace zz:=Ab g2 g3 g75 g76 g77 w7 m2' o2 o2H n2 t1 (Ak t2 hpr hpc hp1 hb);(repeat'(first|refine cK ?_|refine nK ?_|refine uR zz ?_|(refine uN hK ?_;clear hK)|refine uB zz ?_|(rw[AK];rotate_left 1;omega;simp only[Ty.w,simprocAttr,g2,g3,g75,g76,g77,w7,m2',o2,o2H,n2,t1,t2,hpr,hpc,hp1,hb])|apply zI));exact⟨kids.length-(k+1),by omega,k+1,by simp,by omega,rfl,by rw[hL];exact hpush⟩
         ·have hdk:decide ((k:Int)<(kids.length:Int))=false:=(by simp;omega);have hke:k=kids.length:=(by omega);subst hke;rw[List.take_length]at hI;obtain⟨hg,p,H,hn,o1,o2,tl,t1,t2,t3,t4,hgH,hpc,hp1⟩:=hI;replace zz:=BO g2 g3 g75 g76 g77 hdk o1 o2 hpc;(repeat'(first|refine cK ?_|refine nK ?_|refine Af λK hK=>?_|refine uR zz ?_|refine uT zz ?_|refine uX ?_|refine C2 zz ?_|(refine uN hK ?_;clear hK)|(clear hK;refine uN hK ?_;clear hK)|(rw[AK];rotate_left 1;omega;simp only[Ty.w,simprocAttr,g2,g3,g75,g76,g77,hdk,o1,o2,hpc])|apply zI));refine⟨?_,hg.set (AG _) _⟩;have tl2:Tl (h'.set h.next (.arr 6 [[.sc (.int .i64 3),.sc (.int .i64 0),.sc (.int .i64 0),.sc (.int .i64 0),.sc (.string ⟨#[]⟩),p]])) (h.next+2) 6 p (Sx.rows (L1++kids.map Ap)):=tl.up (AG _) λj hj _=>(by simp only[A1.set];rw[A8 (by omega)]);simp only[AE,Sx.cells,AJ,AP];exact⟨_,rfl,rfl,rfl,rfl,rfl,rfl,by have:=Rs (Tl.low tl2 (show h.next<=h.next+2 by omega));simpa only[AJ]using this,trivial⟩
theorem L9: ∀ l:List Pm,(∀ p∈l,p.ok)->Sx.DJ (AZ l)
 |[],_=>by simp[AZ,Sx.DJ]
 |p::l,h=>by
  have hp:=h p (by simp);simp only[AZ,Sx.DJ];exact⟨D5 hp.1,D5 (by simp[AI,ByteArray.size]),D5 hp.2,L9 l λq hq=>h q (by simp[hq])⟩
theorem kV{op name:ByteArray}{args:List ByteArray}{params:List Pm}{ne nk:Nat}(h1:¬ A3 op Bx=true)(h2:¬ A3 op CI=true)(h3:FQ op=true)(hp:FT op name args params ne nk=true):ne=2:=by
 unfold FT Dz at hp;rw[A8 h1,A8 h2]at hp;simp only[FQ,ED]at h3;by_cases k1:A3 op DG=true
 ·simp [k1]at hp;omega
 by_cases k2:A3 op Db=true
 ·simp [k1,k2]at hp;omega
 have k3:A3 op Ca=true:=by rcases h3 with(h3|h3)|h3<;>simp_all
 simp[k1,k2,k3]at hp;omega
theorem Wh: ∀ f:Fm,f.ok->f.small->DH f=true->(Ap f).ok:=by
 refine Fm.ind ?_;intro op name args params exprs kids ih hok hsm hsh;simp only[Fm.ok]at hok;simp only[Fm.small]at hsm;simp only[DH,AV]at hsh;obtain⟨⟨hpo,_⟩,hsh⟩:=hsh;rw[Mo]at hsh;obtain⟨hop,hname,hargs,⟨_,hps⟩,⟨_,hes⟩,_,hks⟩:=hok;obtain⟨hal,hpl,hse,hkl,hsk⟩:=hsm;rw[Fm.Bz]at hks;rw[Ex.Bz]at hes;have hse:=Ex.Eh.1 hse;have hsk:=Fm.Eh.1 hsk;unfold Ap;split
 ·exact Pt hname hal hargs.2
 split
 ·exact Pt (by simp[Ca,AI,ByteArray.size]) hal hargs.2
 split
 ·rename_i c1 c2 c3;have h2:=kV c1 c2 c3 hpo;refine GE (by simp only[List.length_cons,List.length_map];unfold AI;omega) (Sx.Bz.2 ?_);intro k hk;simp only[List.mem_cons,List.mem_map]at hk;rcases hk with rfl|⟨e,he,rfl⟩
  ·exact D5 hop
  ·exact Rq e (hes e he) (hse e he)
 ·rw [Mp];refine GE ?_ (Sx.Bz.2 ?_)
  ·simp only[List.length_append,List.length_map];have a1:(if(A3 op Bo&&kids.isEmpty)=true then[]else[A7 op]).length<=1:=(by split<;>simp);have a2:(if E8 op=true then[AE (AZ params)]else[]).length<=1:=(by split<;>simp);unfold AI;omega
  ·intro k hk;simp only[List.mem_append,List.mem_map]at hk;rcases hk with(hk|hk)|⟨e,he,rfl⟩
   ·split at hk
    ·simp at hk
    ·simp only[List.mem_singleton]at hk;subst hk;exact D5 hop
   ·split at hk
    ·simp only[List.mem_singleton]at hk;subst hk;exact GE (by rw[Gy];unfold AI;omega) (L9 _ hps)
    ·simp at hk
   ·exact ih e he (hks e he) (hsk e he) (hsh e he)
theorem Wi: ∀ (l:List Ex)(d n:Nat),(GS l d n).1=true-> ∀ e∈l,FD e=true
 |[],_,_,_=>by simp
 |e::l,d,n,h=>by
  unfold GS at h;have h1:=O2 e d n;split at h
  ·rename_i c he;rw[he]at h1;intro x hx;rcases List.mem_cons.1 hx with rfl|hx
   ·exact h1 rfl
   ·exact Wi l d c h x hx
  ·simp at h
mutual
theorem OG: ∀ (f:Fm)(d n:Nat),(FE f d n).1=true->DH f=true
 | .mk op name args params exprs kids,d,n,h=>by
  unfold FE at h;split at h
  ·split at h
   ·rename_i hp;have h1:=Wi exprs (d+1) (n+1);split at h
    ·rename_i c he;rw[he]at h1;simp only[DH,AV,List.all_eq_true];exact⟨⟨hp,h1 rfl⟩,Wj kids (d+1) c h⟩
    ·simp at h
   ·simp at h
  ·simp at h
theorem Wj: ∀ (l:List Fm)(d n:Nat),(GG l d n).1=true->K3 l=true
 |[],_,_,_=>by simp[K3]
 |k::l,d,n,h=>by
  unfold GG at h;have h1:=OG k d n;split at h
  ·rename_i c he;rw[he]at h1;simp only[K3,AV];exact⟨h1 rfl,Wj l d c h⟩
  ·simp at h
end
theorem Wl{f:Fm}(hok:f.ok)(hsm:f.small)(h:A1):A6 prog 161 [.agg f.cells] h λr h'=>r= .sc (.bool (Bh f))/\h'=h:=by
 have hf:=kS f hok 0 0 (by omega) (by omega) h.next (h.new (.arr 1 [[.sc (.int .i64 0)]])) (by simp[A1.new,D4])
 have hsh:=OG f 0 0;have hx:=Wh f hok hsm;have hw0:=Wg f hsm;have hv:Bh f=((FE f 0 0).1&&(CM (Ap f) 0 0).1):=rfl;rw[hv];refine A6.quiet Ty.Rd ?_;generalize FE f 0 0=V at hf hsh⊢;obtain⟨b,c⟩:=V;cases b with
 |false=>
  obtain⟨op,name,args,params,exprs,kids⟩:=f;simp only[Fm.cells,Qg]at hf⊢;refine uG (ow:=λt=>t==5) (wf:=λ_=>false) func161 ntmps161 results161 Ty.Rd ?_;refine wt A5 ?_;refine DK (hf) (sr A5) ?_;simp only[Ty.w,simprocAttr];refine wt A5 ?_;exact((AH.refl h).new _).set (AG _) _
 |true=>
  have hw:=hw0 (hsh rfl);have hvv:=JO (hx (hsh rfl))
  clear hw0;generalize Ap f=X at hw hvv⊢;obtain⟨op,name,args,params,exprs,kids⟩:=f;obtain⟨ki,va,li,co,te,ks⟩:=X;simp only[Fm.cells,Sx.cells,Qg]at hf hw hvv⊢;refine uG (ow:=λt=>t==5) (wf:=λ_=>false) func161 ntmps161 results161 Ty.Rd ?_;refine wt A5 ?_;refine DK (hf) (sr A5) ?_;simp only[Ty.w,simprocAttr];refine wt A5 ?_;refine uU A5 (hw _) ?_;refine wt A5 ?_;refine uU A5 (hvv _) ?_;refine wt A5 ?_;exact((AH.refl h).new _).set (AG _) _
theorem kX{f:Fm}(hok:f.ok)(hsm:f.small)(h:A1):A6 prog 141 [.agg f.cells] h λr h'=>r=(if Bh f then .Am [.agg (Ap f).cells,.sc .nilIface]else .Am [.agg Hj.cells,Ao 2])/\h'=h:=by
 have hv:=Wl hok hsm;refine A6.CF Ty.Ra ?_;cases hb:Bh f with
 |false=>
  rw[hb]at hv;obtain⟨op,name,args,params,exprs,kids⟩:=f;simp only[Fm.cells,BR,AQ]at hv⊢;refine AF func141 ntmps141 results141 Ty.Ra ?_;refine wt A5 ?_;refine uU yF (hv _) ?_;refine wt yF ?_;refine⟨?_,((AH.refl h).new _).set (AG _) _⟩;simp only[Hj,Ao,Sx.cells,Sx.rows,AJ,AP];exact⟨_,rfl,⟨_,rfl,rfl,rfl,rfl,rfl,rfl,.inr (.inl ⟨rfl,.inr rfl⟩),trivial⟩,rfl,trivial⟩
 |true=>
  rw[hb]at hv;have hsh:=OG f 0 0 (by unfold Bh at hb;simp only[AV]at hb;exact hb.1);have hw:=Wg f hsm hsh;have hfz:=λ(n:Nat)(h:A1)=>FC n h (Ap f);generalize Ap f=X at hw hfz⊢;obtain⟨op,name,args,params,exprs,kids⟩:=f;obtain⟨ki,va,li,co,te,ks⟩:=X;simp only[Fm.cells,Sx.cells,AO]at hv hw hfz⊢;refine AF func141 ntmps141 results141 Ty.Ra ?_;refine wt A5 ?_;refine uU yT (hv _) ?_;refine wt yT ?_;refine uU A5 (hw _) ?_;refine wt A5 ?_;refine⟨?_,((AH.refl h).new _).set (AG _) _⟩;simp only[AJ,AP];exact⟨_,rfl,⟨_,rfl,hfz _ _⟩,rfl,trivial⟩
end Go.Proofs.YtblgchkahpgdjaaGreat
namespace Go.AM
end Go.AM
namespace Go.Proofs.YtblgchkahpgdjaaGreat
open Go.AM Go.Proofs.Tryz
set_option maxHeartbeats 4000000
set_option maxRecDepth 20000
def QC(o:Pm):Bool:=As o.name&&Gj o.type
end Go.Proofs.YtblgchkahpgdjaaGreat
namespace Go.AM
end Go.AM
namespace Go.Proofs.YtblgchkahpgdjaaGreat
open Go.AM Go.Proofs.Tryz
theorem J5{f:Fm}(h:Bh f=true):DH f=true:=by
 unfold Bh at h;simp only[AV]at h;exact OG f 0 0 h.1
theorem GV:Cm.ok/\Cm.small:=by
 simp only[Cm,Fm.ok,Fm.DJ,Ex.DJ,Fm.small,Fm.DY,Ex.DY,List.length_nil];refine⟨⟨by simp[AI,ByteArray.size],by simp[AI,ByteArray.size],⟨by simp,by simp⟩,⟨by simp,by simp⟩,⟨by simp,trivial⟩,by simp,trivial⟩,by omega,by omega,trivial,by omega,trivial⟩
theorem OH{x:Sx}(h:x.ok):(Aj x).size<=AI:=by
 obtain⟨_,_,_,_,t,_⟩:=x;simp only[Sx.ok]at h;exact h.2.2.1
theorem Sb{t:ByteArray}{l:List ByteArray}(ht:t.size<=AI)(hl: ∀ s∈l,s.size<=AI): ∀ p∈Bv t l,p.ok:=by
 intro p hp;simp only[Bv,List.mem_map]at hp;obtain⟨s,hs,rfl⟩:=hp;exact⟨hl s hs,ht⟩
theorem Sc(t:ByteArray)(l:List ByteArray):(Bv t l).length=l.length:=by simp[Bv]
theorem Wm:Dj.size<=AI:=by simp[Dj,AI,ByteArray.size]
theorem Sd(vars:Bool): ∀ (n:Nat)(l:List Sx),l.length<=n->(∀ x∈l,x.ok)-> ∀ (don:List Pm)(pen:List ByteArray),(∀ p∈don,p.ok)->(∀ s∈pen,s.size<=AI)->
  (∀ p∈(Ec vars l don pen).1,p.ok)/\(Ec vars l don pen).1.length<=don.length+pen.length+l.length:=by
 intro n
 induction n with
 |zero=>
  intro l hl _ don pen hd hp
  match l,hl with
  |[],_=>
   unfold Ec;simp only[List.mem_append,List.length_append,Sc,List.length_nil];exact⟨λp h=>h.elim (hd p) (Sb Wm hp p),by omega⟩
 |succ n ihn=>
  intro l hl hx don pen hd hp
  match l,hl,hx with
  |[],_,_=>
   unfold Ec;simp only[List.mem_append,List.length_append,Sc,List.length_nil];exact⟨λp h=>h.elim (hd p) (Sb Wm hp p),by omega⟩
  |x::l,hl,hx=>
   have hxo:=hx x (by simp);have hlo: ∀ y∈l,y.ok:=λy hy=>hx y (by simp[hy]);unfold Ec;cases Hm x with
   |false=>simp
   |true=>
    simp only[AC];cases A3 (Aj x) GD with
    |true=>
     simp only[AC];cases l with
     |nil=>simp
     |cons t l'=>
      simp only;cases(!pen.isEmpty&&Hm t)with
      |false=>simp
      |true=>
       cases Gj (Aj t)with
       |false=>simp
       |true=>
        simp only[AC];have:=ihn l' (by simp at hl;omega) (λy hy=>hlo y (by simp[hy])) (don++Bv (Aj t) pen) [] (λp h=>(List.mem_append.1 h).elim (hd p) (Sb (OH (hlo t (by simp))) hp p)) (by simp);refine⟨this.1,ES this.2 ?_⟩;simp only[List.length_append,Sc,List.length_nil,List.length_cons];omega
    |false=>
     simp only[AL];cases(bif vars then Ey (Aj x)else As (Aj x))with
     |false=>simp
     |true=>
      simp only[AC];have:=ihn l (by simp at hl;omega) hlo don (pen++[Aj x]) hd (λs h=>(List.mem_append.1 h).elim (hp s) (λh=>by simp at h;rw[h];exact OH hxo));refine⟨this.1,ES this.2 ?_⟩;simp only[List.length_append,List.length_nil,List.length_cons];omega
theorem KA{op name:ByteArray}{args:List ByteArray}{params:List Pm}{exprs:List Ex}{kids:List Fm}(h1:op.size<=AI)(h2:name.size<=AI)(h3:args.length<=1048576)(h4: ∀ s∈args,s.size<=AI)(h5:params.length<=1048576)(h6: ∀ p∈params,p.ok)
  (h7:exprs.length<=2)(h8: ∀ e∈exprs,e.ok/\e.small)(h9:kids.length<=1048576)(h10: ∀ k∈kids,k.ok/\k.small):(Fm.mk op name args params exprs kids).ok/\(Fm.mk op name args params exprs kids).small:=by
 simp only[Fm.ok,Fm.small];rw[Fm.Bz,Ex.Bz,Ex.Eh,Fm.Eh];refine⟨⟨h1,h2,⟨by unfold AI;omega,h4⟩,⟨by unfold AI;omega,h6⟩,⟨by unfold AI;omega,λe he=>(h8 e he).1⟩,by unfold AI;omega,λk hk=>(h10 k hk).1⟩,h3,h5,λe he=>(h8 e he).2,h9,λk hk=>(h10 k hk).2⟩
theorem OI:(⟨#[]⟩:ByteArray).size<=AI:=by simp[AI,ByteArray.size]
theorem kY{r:Fm × Int}(h:r.1.ok/\r.1.small):(D9 r).1.ok/\(D9 r).1.small:=by
 unfold D9;cases r.2==0 with
 |true=>exact h
 |false=>exact GV
theorem kZ{w:ByteArray}{x y:Sx}(hw:w.size<=AI)(hx:x.ok)(hy:y.ok)(sx:x.small)(sy:y.small):(Hn w x y).1.ok/\(Hn w x y).1.small:=by
 have ex:=Pw x hx sx;have ey:=Pw y hy sy;unfold Hn;cases(A3 w Ca&&Ax x==1&&Ax y==1)with
 |true=>
  have ht:=O5 (l:=[x,y]) (by simp[hx,hy]);simp only[List.length_cons,List.length_nil]at ht;exact KA (by simp[CI,AI,ByteArray.size]) OI (by omega) ht.1 (by simp) (by simp) (by simp) (by simp) (by simp) (by simp)
 |false=>
  simp only[AL];cases(Bi x).2==0 with
  |false=>exact GV
  |true=>
   cases(Bi y).2==0 with
   |false=>exact GV
   |true=>
    simp only[AC];have h2: ∀ a b:Ex,(a.ok/\a.small)->(b.ok/\b.small)-> ∀ o:ByteArray,o.size<=AI->(Fm.mk o ⟨#[]⟩ [] [] [a,b] []).ok/\(Fm.mk o ⟨#[]⟩ [] [] [a,b] []).small:=λa b ha hb o ho=>
     KA ho OI (by simp) (by simp) (by simp) (by simp) (by simp) (by simp only[List.mem_cons,List.not_mem_nil,ET];rintro e (rfl|rfl);exact ha;exact hb) (by simp) (by simp)
    split
    ·exact h2 _ _ ey ex _ (by simp[DG,AI,ByteArray.size])
    ·split
     ·exact h2 _ _ ey ex _ (by simp[Db,AI,ByteArray.size])
     ·exact h2 _ _ ex ey _ hw
theorem Wn: ∀ (l:List Sx),(∀ k∈l,(Cn k).1.ok/\(Cn k).1.small)->(∀ f∈(DL l).1,f.ok/\f.small)/\(DL l).1.length<=l.length
 |[],_=>by simp[DL]
 |x::l,h=>by
  have h1:=Wn l λk hk=>h k (by simp[hk]);have h2:=h x (by simp);simp only[DL];generalize Cn x=r at h2;obtain⟨f,c⟩:=r;simp only at h2⊢;cases c==0 with
  |false=>simp
  |true=>
   simp only[AC];generalize DL l=r at h1;obtain⟨fs,c'⟩:=r;simp only at h1⊢;cases c'==0 with
   |false=>simp
   |true=>
    simp only[AC,List.mem_cons,List.length_cons];exact⟨λg hg=>hg.elim (λe=>by rw[e];exact h2) (h1.1 g),by omega⟩
theorem Wo: ∀ x:Sx,x.ok->x.small->(Cn x).1.ok/\(Cn x).1.small:=by
 refine Sx.ind ?_;intro kind value line col text kids ih hok hsm;simp only[Sx.ok]at hok;obtain⟨_,_,_,hkl,hks⟩:=hok
 clear hkl;rw[Sx.Bz]at hks;simp only[Sx.small]at hsm;obtain⟨hl,hss⟩:=hsm;rw[Sx.Eh]at hss;have sub: ∀ l:List Sx,(∀ k∈l,k∈kids)->(∀ f∈(DL l).1,f.ok/\f.small)/\(DL l).1.length<=l.length:=λl h=>Wn l λk hk=>ih k (h k hk) (hks k (h k hk)) (hss k (h k hk));unfold Cn;split
 ·cases kids with
  |nil=>exact KA (by simp[Bo,AI,ByteArray.size]) OI (by simp) (by simp) (by simp) (by simp) (by simp) (by simp) (by simp) (by simp)
  |cons x rest=>
   simp only;have hxt:=OH (hks x (by simp));simp only[List.length_cons]at hl;cases Ax x==1 with
   |false=>exact GV
   |true=>
    simp only[AC];cases(decide (EK (Aj x)>=0)&&!(decide (EK (Aj x)=rest.length)))with
    |true=>exact GV
    |false=>
     simp only[AL];cases E8 (Aj x)with
     |true=>
      simp only[AC];cases rest with
      |nil=>exact GV
      |cons p body=>
       simp only;cases Ax p==3 with
       |false=>exact GV
       |true=>
        simp only[AC];have hpo:=hks p (by simp);have hps:=hss p (by simp);have hb:=sub body λk hk=>(by simp[hk]);simp only[List.length_cons]at hl;have hpp:(∀ q∈(C5 true (C9 p)).1,q.ok)/\(C5 true (C9 p)).1.length<=1048576:=by
         obtain⟨_,_,_,_,_,pk⟩:=p;simp only[Sx.ok]at hpo;simp only[Sx.small]at hps;have:=Sd true pk.length pk (AG _) (Sx.Bz.1 hpo.2.2.2.2) [] [] (by simp) (by simp);simp only[List.length_nil]at this;exact⟨this.1,by have:=this.2;simp only[C5,C9];omega⟩
        cases(C5 true (C9 p)).2==0 with
        |false=>exact GV
        |true=>
         simp only[AC];generalize DL body=r at hb;obtain⟨ks,c⟩:=r;simp only at hb⊢;cases c==0 with
         |false=>exact GV
         |true=>exact KA hxt OI (by simp) (by simp) hpp.2 hpp.1 (by simp) (by simp) (by omega) hb.1
     |false=>
      simp only[AL];cases Fg (Aj x)with
      |true=>
       simp only[AC];have hb:=sub rest λk hk=>(by simp[hk]);generalize DL rest=r at hb;obtain⟨ks,c⟩:=r;simp only at hb⊢;cases c==0 with
       |false=>exact GV
       |true=>exact KA hxt OI (by simp) (by simp) (by simp) (by simp) (by simp) (by simp) (by omega) hb.1
      |false=>
       simp only[AL];cases El (Aj x)with
       |true=>
        simp only[AC];split
        ·rename_i a b;exact kY (kZ hxt (hks a (by simp)) (hks b (by simp)) (hss a (by simp)) (hss b (by simp)))
        ·exact GV
       |false=>
        simp only[AL];cases As (Aj x)with
        |false=>exact GV
        |true=>
         have ht:=O5 (l:=rest) λy hy=>hks y (by simp[hy]);simp only[AC];cases(CN rest).2==0 with
         |false=>exact GV
         |true=>exact KA (by simp[Bx,AI,ByteArray.size]) hxt (by omega) ht.1 (by simp) (by simp) (by simp) (by simp) (by simp) (by simp)
 ·exact GV
def Co(x:Sx):Fm × Int:=
 if(CM x 0 0).1=true then(if(Cn x).2=0 then(if Bh (Cn x).1=true then((Cn x).1,0)else(Cm,5))else(Cm,(Cn x).2))else(Cm,2)
theorem Se{x:Sx}(hok:x.ok):(Co x).1.ok/\(Co x).1.small:=by
 unfold Co;split
 ·rename_i h;split
  ·split
   ·exact Wo x hok (Kx h)
   ·exact GV
  ·exact GV
 ·exact GV
theorem OJ{f:Fm}(h:Bh f=true):Co (Ap f)=(f,0):=by
 have hs:=J5 h;have h2:=h;unfold Bh at h2;simp only[AV]at h2;unfold Co;rw[AK h2.2,iR f hs];simp[h]
end Go.Proofs.YtblgchkahpgdjaaGreat
namespace Go.Proofs.YtblgchkahpgdjaaGreat
open Go.AM Go.Proofs.Tryz
def DO(n:Int):Sx:= .mk 2 n 0 0 ⟨#[]⟩ []
def Wp(w s:ByteArray):Sx:=AE [A7 w,A7 s]
def LB:Sx->Int
 | .mk _ v _ _ _ _=>v
def HQ(x:Sx)(want:ByteArray):ByteArray × Int:=match Bt x with
 |some (w,rest)=>bif A3 w want then(match rest with
  |[r]=>bif Ax r==1 then(bif As (Aj r)then(Aj r,0)else(⟨#[]⟩,8))else(⟨#[]⟩,2)
  |_=>(⟨#[]⟩,2))else(⟨#[]⟩,2)
 |none=>(⟨#[]⟩,2)
def Bw:Fm:= .mk Bo ⟨#[]⟩ [] [] [] []
def IT:List ByteArray->ByteArray->Option (List ByteArray)
 |[],_=>none
 |o::l,w=>bif A3 o w then some l else IT l w
theorem kW(s:ByteArray):Ax (A7 s)=1:=rfl
theorem tW(s:ByteArray):Aj (A7 s)=s:=rfl
theorem N2{w:ByteArray}{l:List Sx}:Bt (AE (A7 w::l))=some (w,l):=by
 simp[Bt,AE,kW,tW]
theorem Fh(s:ByteArray):A3 s s=true:=by simp[A3]
theorem kb{w s:ByteArray}(h:As s=true):HQ (Wp w s) w=(s,0):=by
 unfold HQ Wp;rw[N2];simp[Fh,kW,tW,h]
theorem Wq: ∀ (l:List Pm)(don:List Pm),(∀ o∈l,QC o=true)->Ec false (AZ l) don []=(don++l,0)
 |[],don,_=>by simp[AZ,Ec,Bv]
 |p::l,don,h=>by
  have h1:=h p (by simp);have h2: ∀ o∈l,QC o=true:=λo ho=>h o (by simp[ho]);unfold QC at h1;simp only[AV]at h1;have g1:=Vd h1.1;have g2:A3 p.name GD=false:=IM h1.1 (by decide);have t1: ∀ s:ByteArray,Aj (A7 s)=s:=λ_=>rfl;have w1:Hm (A7 ⟨#[45]⟩)=true:=Mt (by decide);have w2:A3 (⟨#[45]⟩:ByteArray) GD=true:=by decide
  simp only[AZ];rw[Ec,Mt g1,t1,g2,h1.1];simp only[AC,AL,List.nil_append];rw[Ec,w1,t1,w2];simp only[AC,Mt (Ve h1.2),t1,h1.2];simp only[List.isEmpty_cons,CB,BG,AC,Bv,List.map_cons,List.map_nil];rw[Wq l _ h2];simp
theorem kc{l:List Pm}(h: ∀ o∈l,QC o=true):C5 false (AZ l)=(l,0):=by
 unfold C5;rw[Wq l [] h];rfl
end Go.Proofs.YtblgchkahpgdjaaGreat
namespace Go.Proofs.YtblgchkahpgdjaaGreat
open Go.AM Go.Proofs.Tryz
set_option maxRecDepth 4000
def HR:ByteArray:=⟨#[119,104,101,110]⟩
def JY:ByteArray:=⟨#[97,115,115,105,103,110]⟩
def JZ:ByteArray:=⟨#[105,110,99,114,101,97,115,101]⟩
def Ja:ByteArray:=⟨#[100,101,99,114,101,97,115,101]⟩
structure Dv where
 params:List Pm
 Hb:List Fm
def QD:List Fm->Fm
 |[]=>Bw
 |[f]=>f
 |l=> .mk Bo ⟨#[]⟩ [] [] [] l
def FG(S:Dv)(k:Int)(n:ByteArray)(a:List ByteArray)(v:Ex):Ch:=⟨k,S.params,QD S.Hb,n,a,v⟩
def Fi(w:ByteArray):Int:=bif A3 w JY then 3 else bif A3 w JZ then 4 else bif A3 w Ja then 5 else 0
def Em(x:Sx):ByteArray × List ByteArray × Int:=match Bt x with
 |none=>(⟨#[]⟩,[],2)
 |some (w,rest)=>bif As w then(bif (CN rest).2==0 then(w,(CN rest).1,0)else(⟨#[]⟩,[],(CN rest).2))else(⟨#[]⟩,[],8)
def GW(S:Dv)(k:Int):List Sx->List Ch × Int
 |[a,e]=>bif (Em a).2.2==0 then(bif (Gz e).2==0 then([FG S k (Em a).1 (Em a).2.1 (Gz e).1],0)else([],(Gz e).2))else([],(Em a).2.2)
 |_=>([],2)
def J6(S:Dv)(k:Int)(a:Sx):List Ch × Int:=bif (Em a).2.2==0 then([FG S k (Em a).1 (Em a).2.1 By],0)else([],(Em a).2.2)
mutual
def Cp:Sx->Dv->List Ch × Int
 | .mk kind v l c t kids,S=>bif kind==3 then(match kids with
   |[]=>([],0)
   | x :: rest => bif Ax x == 1 then
     (bif !(Fi (Aj x)==0)then GW S (Fi (Aj x)) rest
     else bif A3 (Aj x) HR then(match rest with
      |[f,e]=>bif (Co f).2==0 then Cp e ⟨S.params,S.Hb++[(Co f).1]⟩else([],(Co f).2)
      |_=>([],2))
     else bif A3 (Aj x) DV then(match rest with
      |[p,e]=>bif Ax p==3 then(bif (C5 true (C9 p)).2==0 then Cp e ⟨S.params++(C5 true (C9 p)).1,S.Hb⟩else([],(C5 true (C9 p)).2))else([],2)
      |_=>([],2))
     else bif A3 (Aj x) Bo then F0 rest S
     else bif A3 (Aj x) DR then(match rest with
      |[a]=>J6 S 2 a
      |_=>([],2))
     else J6 S 1 (.mk kind v l c t (x::rest)))
    else([],2))else([],2)
def F0:List Sx->Dv->List Ch × Int
 |[],_=>([],0)
 |x::l,S=>match Cp x S with
  | (a, c) => bif c == 0 then (match F0 l S with
   |(b,c')=>bif c'==0 then(a++b,0)else([],c'))else([],c)
end
def C3(f:Fm):Bool:=f.same Bw
def Bb(f:Fm):Sx:=bif Bh f then Ap f else .mk 0 0 0 0 ⟨#[]⟩ []
def J7(e:Ex):Sx:=bif Ea e then BI e else .mk 0 0 0 0 ⟨#[]⟩ []
def Jb(k:Int):ByteArray:=bif k==3 then JY else bif k==4 then JZ else Ja
def IU(c:Ch):Sx:=bif c.kind==1 then Cu c.name c.args else bif c.kind==2 then AE [A7 DR,Cu c.name c.args]
 else bif c.kind==3||c.kind==4||c.kind==5 then AE [A7 (Jb c.kind),Cu c.name c.args,J7 c.value]else Cu c.name c.args
def IV(c:Ch):Sx:=bif C3 c.cond then IU c else AE [A7 HR,Bb c.cond,IU c]
def F3(c:Ch):Sx:=bif c.params.isEmpty then IV c else AE [A7 DV,AE (AZ c.params),IV c]
def BN(vars:Bool)(p:Pm):Bool:=(bif vars then Ey p.name else As p.name)&&(A3 p.type Dj||As p.type)
def CA(c:Ch):Bool:=As c.name&&c.args.all CH&&(bif c.kind==1||c.kind==2 then c.value.same By else(bif c.kind==3||c.kind==4||c.kind==5 then Ea c.value else false))&&(C3 c.cond||Bh c.cond)&&c.params.all (BN true)
def CS(l:List Ch):Sx:=bif l.isEmpty then AE []else AE (A7 Bo::l.map F3)
def GX(l:List Ch):Bool:=l.all CA&&(CM (CS l) 0 0).1
def En(x:Sx):List Ch × Int:=
 if(CM x 0 0).1=true then(if(Cp x ⟨[],[]⟩).2=0 then(if GX (Cp x ⟨[],[]⟩).1=true then((Cp x ⟨[],[]⟩).1,0)else([],5))else([],(Cp x ⟨[],[]⟩).2))else([],2)
end Go.Proofs.YtblgchkahpgdjaaGreat
namespace Go.Proofs.YtblgchkahpgdjaaGreat
open Go.AM Go.Proofs.Tryz
set_option maxHeartbeats 8000000
set_option maxRecDepth 20000
def IW(c:Ch):Fm:= .mk Bx c.name c.args [] [] []
def Jc(c:Ch):Bool:=!(decide (c.kind<1))&&(!(decide (5<c.kind))&&(c.params.all (IN true)&&(DH c.cond&&(DH (IW c)&&(bif decide (c.kind<=2)then c.value.same By else FD c.value)))))
end Go.Proofs.YtblgchkahpgdjaaGreat
namespace Go.Proofs.YtblgchkahpgdjaaGreat
open Go.AM Go.Proofs.Tryz
set_option maxHeartbeats 4000000
set_option maxRecDepth 20000
theorem A6.LS{P:Program}{f:FuncId}{args:List PV}{h:A1}{v:PV}{id:Nat}{o o0:An}(hb:Ad P f=true)(hid:h.obj id=some o0)(hfl:Eu h.next o)(hc:A6 P f args h λr h'=>AJ h.next h' v r/\CQ h id o h'):
  A6 P f args h λr h'=>r=v/\h'=h.set id o:=by
 refine JL hb λhw=>A6.drop (hc.mono ?_);rintro r h' ⟨hf,g⟩;refine⟨v,h.set id o,⟨rfl,rfl⟩,hf,AG _,λi oo ho=>?_⟩;have hlt:=hw id (by rw[hid];try rfl);simp only[A1.set]at ho;split at ho
 ·rename_i hi;subst hi;simp at ho;subst ho;exact⟨g.at_,hlt,.inr hfl⟩
 ·rename_i hi;have h1:=hw i (by rw[ho];try rfl);exact⟨by rw[g.B6 i h1 hi];exact ho,h1,.inl ho⟩
theorem CQ.kill{h h':A1}{id j:Nat}{o:An}(g:CQ h id o h')(hid:id<h.next)(hj:h.next<=j):CQ h id o (h'.kill j):=
 ⟨g.le,λi hi hne=>by simp only[A1.kill];rw[A8 (by omega)];exact g.B6 i hi hne,by simp only[A1.kill];rw[A8 (by omega)];exact g.at_⟩
theorem Cq{P:Program}{ow:Nat->Bool}{wf:FuncId->Bool}{n:Nat}{Q:BW}{s:AD}{h:A1}{c:Code}(I:AD->A1->Prop)(hi:I s h)(hh: ∀ s h,I s h->Aq P ow wf n c Q s h):Aq P ow wf n c Q s h:=hh _ _ hi
abbrev wO(b:Bool):An:= .arr 1 [[.sc (.bool b)]]
theorem LC(n:Nat)(b:Bool):Eu n (wO b):=by simp[wO,Eu,BC,Br,Be]
theorem KB{h:A1}{s:ByteArray}:A6 prog 40 [A4 s] h λr h'=>r= .agg (A7 s).cells/\h'=h:=by
 refine A6.CF Ty.US ?_;refine AF func40 ntmps40 results40 Ty.US ?_;refine wt A5 ?_;refine⟨?_,((AH.refl h).new _).set (AG _) _⟩;simp only[A7,Sx.cells,Sx.rows,AJ,AP];exact⟨_,rfl,rfl,rfl,rfl,rfl,rfl,.inr (.inl ⟨rfl,.inr rfl⟩),trivial⟩
theorem KC{h:A1}{p:PV}(h1:Cx p=true)(hf: ∀ h',AJ h.next h' p p):A6 prog 39 [p] h λr h'=>r= .agg [.sc (.int .i64 3),.sc (.int .i64 0),.sc (.int .i64 0),.sc (.int .i64 0),.sc (.string ⟨#[]⟩),p]/\h'=h:=by
 refine A6.CF Ty.UT ?_;have hc:p.cells=[p]:=by cases p<;>simp[Cx]at h1<;>rfl
 refine AF func39 ntmps39 results39 Ty.UT ?_;refine wt (uu hc h1) ?_;refine⟨?_,((AH.refl h).new _).set (AG _) _⟩;simp only[AJ,AP];exact⟨_,rfl,rfl,rfl,rfl,rfl,rfl,hf _,trivial⟩
theorem Jd(l:List Sx)(h:A1):A6 prog 39 [.A2 6 (Sx.rows l)] h λr h'=>r= .agg (AE l).cells/\h'=h:=KC rfl (λ_=>K1 (HK _ _))
theorem Wr{h:A1}{s:ByteArray}(hs:s.size<=9223372036854775807):A6 prog 151 [A4 s] h λr h'=>r= .sc (.bool (CH s))/\h'=h:=by
 have h1:=λh:A1=>FP (h:=h) hs;have h2:=λh:A1=>Lt (h:=h) hs;unfold CH;generalize As s=a at h1⊢;generalize Ey s=b at h2⊢;cases a with
 |true=>
  refine AF func151 ntmps151 results151 Ty.Ur ?_;refine wt A5 ?_;refine uU A5 (h1 _) ?_;refine wm A5 ?_;try exact zI
  all_goals simp only[On]
 |false=>
  refine AF func151 ntmps151 results151 Ty.Ur ?_;refine wt A5 ?_;refine uU A5 (h1 _) ?_;refine wt A5 ?_;refine uU A5 (h2 _) ?_;refine wm A5 ?_;try exact zI
  all_goals simp only[HZ]
theorem LD{h:A1}:A6 prog 99 [] h λr h'=>r= .agg Bw.cells/\h'=h:=by
 refine A6.CF Ty.Uf ?_;refine AF func99 ntmps99 results99 Ty.Uf ?_;refine wt A5 ?_;refine⟨?_,((AH.refl h).new _).set (AG _) _⟩;simp only[Bw,Bo,Fm.cells,A9,Ex.rows,Fm.rows,AN,List.map_nil,AJ,AP];exact⟨_,rfl,rfl,rfl,.inr (.inl ⟨rfl,.inr rfl⟩),.inr (.inl ⟨rfl,.inr rfl⟩),.inr (.inl ⟨rfl,.inr rfl⟩),.inr (.inl ⟨rfl,.inr rfl⟩),trivial⟩
theorem N3{h:A1}{id:Nat}{b:Bool}{s:ByteArray}(hs:s.size<=9223372036854775807)(hid:id<h.next)(ho:h.obj id=some (wO b)):
  A6 prog 41 [.ptr id 0 0,A4 s] h λr h'=>r= .agg (A7 s).cells/\h'=h.set id (wO (b||!As s)):=by
 refine A6.LS Ty.RU ho (LC _ _) ?_;have h1:=λh:A1=>FP (h:=h) hs;have hw:=λh:A1=>KB (h:=h) (s:=s);have n1:(id=h.next)=False:=BB (by omega);have n2:(h.next=id)=False:=BB (by omega);generalize As s=a at h1⊢;have D9: ∀ (b':Bool)(o:An),AJ h.next (((h.new o).set id (wO b')).set h.next (.arr 6 [(A7 s).cells])) (.agg (A7 s).cells) (.agg (A7 s).cells)/\CQ h id (wO b') (((h.new o).set id (wO b')).set h.next (.arr 6 [(A7 s).cells])):=λb' o=>⟨by
  simp only[AJ];exact⟨_,rfl,FC _ _ _⟩,(((CQ.refl ho).new hid).put).set hid (AG _)⟩
 simp only[A7,Sx.cells,Sx.rows]at hw D9⊢;cases b with
 |true=>
  refine AF func41 ntmps41 results41 Ty.RU ?_;refine wt (AY ho n1 n2) ?_;refine uU (AY ho n1 n2) (hw _) ?_;refine wt (AY ho n1 n2) ?_;exact D9 _ _
 |false=>
  refine AF func41 ntmps41 results41 Ty.RU ?_;refine wt (AY ho n1 n2) ?_;refine uU (AY ho n1 n2) (h1 _) ?_;refine wt (AY ho n1 n2) ?_;refine uU (AY ho n1 n2) (hw _) ?_;refine wt (AY ho n1 n2) ?_;exact D9 _ _
theorem OK{h:A1}{id:Nat}{b:Bool}{f:Fm}(hok:f.ok)(hsm:f.small)(hid:id<h.next)(ho:h.obj id=some (wO b)):
  A6 prog 100 [.ptr id 0 0,.agg f.cells] h λr h'=>r= .agg (Bb f).cells/\h'=h.set id (wO (b||!Bh f)):=by
 refine A6.LS Ty.Ug ho (LC _ _) ?_;have hW:=λh:A1=>kX hok hsm h;have n1:(id=h.next)=False:=BB (by omega);have n2:(h.next=id)=False:=BB (by omega);have n3:(id=h.next+1)=False:=BB (by omega);have n4:(h.next+1=id)=False:=BB (by omega);have hX:(if Bh f then(PV.Am [.agg (Ap f).cells,.sc .nilIface])else .Am [.agg Hj.cells,Ao 2])= .Am [.agg (Bb f).cells,if Bh f then .sc .nilIface else Ao 2]:=by
  unfold Bb;cases Bh f<;>rfl
 rw[hX]at hW;generalize Bh f=v at hW⊢;generalize Bb f=X at hW⊢;obtain⟨ki,va,li,co,te,ks⟩:=X;obtain⟨gop,gna,gar,gpa,gex,gki⟩:=f;have D9: ∀ (b':Bool)(o o1 o2:An),AJ h.next ((((((h.new o).new o1).set (h.next+1) o2).set id (wO b')).set h.next (.arr 6 [(Sx.mk ki va li co te ks).cells]))) (.agg (Sx.mk ki va li co te ks).cells) (.agg (Sx.mk ki va li co te ks).cells)/\CQ h id (wO b') ((((h.new o).new o1).set (h.next+1) o2).set id (wO b')|>.set h.next (.arr 6 [(Sx.mk ki va li co te ks).cells])):=λb' o o1 o2=>⟨by
  simp only[AJ];exact⟨_,rfl,FC _ _ _⟩,(((((CQ.refl ho).new hid).new hid).set hid (by omega)).put).set hid (AG _)⟩
 simp only[Sx.cells,Fm.cells]at hW D9⊢;cases v<;>simp only[AO,AQ,BR,Ao]at hW<;>cases b;all_goals
  refine AF func100 ntmps100 results100 Ty.Ug ?_;replace zz:=Ak ho n1 n2 n3 n4;refine wt zz ?_;replace zz:=Ak ho n1 n2 n3 n4;refine uU zz (hW _) ?_;replace zz:=Al ho n1 n2 n3 n4 @B1;refine wt zz ?_;exact D9 _ _ _ _
theorem M5{h:A1}{id:Nat}{b vars:Bool}{l:List Pm}(hl:l.length<=1048576)(hok: ∀ p∈l,p.ok)(hid:id<h.next)(ho:h.obj id=some (wO b)):
  A6 prog 43 [.ptr id 0 0,.A2 2 (A9 l),.sc (.bool vars)] h λr h'=>r= .A2 6 (Sx.rows (AZ l))/\h'=h.set id (wO (b||!(l.all (BN vars)))):=by
 refine A6.LS Ty.UU ho (LC _ _) ?_;have hll:=Gw l;have hWP:=λh:A1=>Rt hl h;generalize hF:(b||!(l.all (BN vars)))=F;refine AF func43 ntmps43 results43 Ty.UU ?_;refine wt hll ?_;refine CG (λc S h'=>S 0= .ptr id 0 0/\S 1= .A2 2 (A9 l)/\S 2= .sc (.bool vars)/\S 10= .A2 2 (A9 l)/\S 11= .sc (.int .i64 l.length)/\ ∃ (k:Nat)(b':Bool),S 12= .sc (.int .i64 k)/\k<=l.length/\c=l.length-k/\CQ h id (wO b') h'/\F=(b'||!((l.drop k).all (BN vars)))) l.length ?_ ?_
 ·simp only[Ty.w,simprocAttr];exact⟨0,b,rfl,by omega,rfl,CQ.refl ho,by rw[List.drop_zero];exact hF.symm⟩
 ·clear hF;rintro c S h' ⟨g0,g1,g2,g10,g11,k,b',g12,hkl,rfl,hG,hinv⟩;by_cases hlt:k<l.length
  ·have hd:decide ((k:Int)<(l.length:Int))=true:=(by simp;omega);have w7:IntKind.i64.wrap ((k:Int)+1)=k+1:=(by rw[BZ (by omega) (by omega)]);obtain⟨p,hx⟩: ∃ p,l[k]? =some p:=⟨_,List.getElem?_eq_getElem hlt⟩;rw[Cd hx,List.all_cons]at hinv;have hr:=Nn hx;have hpo:=hok p (List.mem_of_getElem? hx);have hs1:p.name.size<=9223372036854775807:=(by have:=hpo.1;unfold AI at this;omega);have hs2:p.type.size<=9223372036854775807:=(by have:=hpo.2;unfold AI at this;omega);have c1:=λh:A1=>FP (h:=h) hs1;have c2:=λh:A1=>Lt (h:=h) hs1;have c3:=λh:A1=>FP (h:=h) hs2;have hno:=hG.at_;have hle:=hG.le;have n1:(id=h'.next)=False:=BB (by omega);have n2:(h'.next=id)=False:=BB (by omega);have hpar:BN vars p=((bif vars then Ey p.name else As p.name)&&(A3 p.type Dj||As p.type)):=rfl;rw[hpar]at hinv;generalize As p.name=q1 at c1 hinv;generalize Ey p.name=q2 at c2 hinv;generalize As p.type=q3 at c3 hinv;have hne:(p.type.data.toList==Dj.data.toList)=A3 p.type Dj:=rfl;generalize A3 p.type Dj=q4 at hinv hne;have e1:(p.type.data.toList=[111,98,106,101,99,116])=(q4=true):=by
    rw[← hne];exact propext ⟨λe=>by rw[e];try rfl,λe=>eq_of_beq e⟩
   have e2:(p.type.data.toList==[111,98,106,101,99,116])=q4:=hne;clear hne;have hG2: ∀ (z o:An)(b2:Bool),CQ h id (wO b2) (((h'.new z).set h'.next o).set id (wO b2)):=λz o b2=>((hG.new hid).set hid hle).put;have Fs: ∀ b2:Bool,b2=(b'||!((bif vars then q2 else q1)&&(q4||q3)))->F=(b2||!((l.drop (k+1)).all (BN vars))):=by
    intro b2 e;rw[hinv,e];cases b'<;>cases(bif vars then q2 else q1)<;>cases q4<;>cases q3<;>simp
   obtain⟨pn,pt⟩:=p;simp only at hr e1 e2;clear hinv hpar hx hpo hs1 hs2;cases vars with
   |false=>
    simp only[AL]at Fs;cases b' with
    |true=>
     replace zz:=Ab g0 g1 g2 g10 g11 g12 hll hd hr hno n1 n2;refine wt zz ?_;replace zz:=BO g0 g1 g2 g10 g11 g12 hno n1 n2;refine uU zz (c1 _) ?_;(repeat'(first|refine cK ?_|(refine nK ?_;try exact zI)|refine Af λK hK=>?_|((first|refine Bn ?_|refine FN (λK hK=>?_));simp only[Ty.w,simprocAttr,g0,g1,g2,g10,g11,g12,hno,n1,n2,e1,e2,bne,w7,Av,CB])|(refine Gh ?_;(try simp only[Au,simprocAttr]))|(refine EX _ (by(try simp only[Ty.w,simprocAttr,g0,g1,g2,g10,g11,g12,hno,n1,n2,e1,e2,bne,w7,Av,CB]);rfl) (λhb=>?_) (λhb=>?_)<;>(try simp only[DD,Bg,D7,simprocAttr]at hb)<;>(try(exfalso;omega)))|(refine hK _ _ ?_;clear hK;(try simp only[Au,simprocAttr]))));exact⟨l.length-(k+1),by omega,k+1,true,by simp,by omega,rfl,hG2 _ _ _,Fs _ (by simp)⟩
    |false=>
     cases q1 with
     |false=>
      replace zz:=Ab g0 g1 g2 g10 g11 g12 hll hd hr hno n1 n2;refine wt zz ?_;replace zz:=BO g0 g1 g2 g10 g11 g12 hno n1 n2;refine uU zz (c1 _) ?_;(repeat'(first|refine cK ?_|(refine nK ?_;try exact zI)|refine Af λK hK=>?_|((first|refine Bn ?_|refine FN (λK hK=>?_));simp only[Ty.w,simprocAttr,g0,g1,g2,g10,g11,g12,hno,n1,n2,e1,e2,bne,w7,Av,CB])|(refine Gh ?_;(try simp only[Au,simprocAttr]))|(refine EX _ (by(try simp only[Ty.w,simprocAttr,g0,g1,g2,g10,g11,g12,hno,n1,n2,e1,e2,bne,w7,Av,CB]);rfl) (λhb=>?_) (λhb=>?_)<;>(try simp only[DD,Bg,D7,simprocAttr]at hb)<;>(try(exfalso;omega)))|(refine hK _ _ ?_;clear hK;(try simp only[Au,simprocAttr]))));exact⟨l.length-(k+1),by omega,k+1,true,by simp,by omega,rfl,hG2 _ _ _,Fs _ (by simp)⟩
     |true=>
      cases q4 with
      |true=>
       simp only[eq_self]at e1;replace zz:=Ab g0 g1 g2 g10 g11 g12 hll hd hr hno n1 n2;refine wt zz ?_;replace zz:=BO g0 g1 g2 g10 g11 g12 hno n1 n2;refine uU zz (c1 _) ?_;(repeat'(first|refine cK ?_|(refine nK ?_;try exact zI)|refine Af λK hK=>?_|((first|refine Bn ?_|refine FN (λK hK=>?_));simp only[Ty.w,simprocAttr,g0,g1,g2,g10,g11,g12,hno,n1,n2,e1,e2,bne,w7,Av,CB])|(refine Gh ?_;(try simp only[Au,simprocAttr]))|(refine EX _ (by(try simp only[Ty.w,simprocAttr,g0,g1,g2,g10,g11,g12,hno,n1,n2,e1,e2,bne,w7,Av,CB]);rfl) (λhb=>?_) (λhb=>?_)<;>(try simp only[DD,Bg,D7,simprocAttr]at hb)<;>(try(exfalso;omega)))|(refine hK _ _ ?_;clear hK;(try simp only[Au,simprocAttr]))));exact⟨l.length-(k+1),by omega,k+1,false,by simp,by omega,rfl,hG2 _ _ _,Fs _ (by simp)⟩
      |false=>
       simp only[BR]at e1;replace zz:=Ab g0 g1 g2 g10 g11 g12 hll hd hr hno n1 n2;refine wt zz ?_;replace zz:=BO g0 g1 g2 g10 g11 g12 hno n1 n2;refine uU zz (c1 _) ?_;(repeat'(first|refine cK ?_|(refine nK ?_;try exact zI)|refine Af λK hK=>?_|((first|refine Bn ?_|refine FN (λK hK=>?_));simp only[Ty.w,simprocAttr,g0,g1,g2,g10,g11,g12,hno,n1,n2,e1,e2,bne,w7,Av,CB])|(refine Gh ?_;(try simp only[Au,simprocAttr]))|(refine EX _ (by(try simp only[Ty.w,simprocAttr,g0,g1,g2,g10,g11,g12,hno,n1,n2,e1,e2,bne,w7,Av,CB]);rfl) (λhb=>?_) (λhb=>?_)<;>(try simp only[DD,Bg,D7,simprocAttr]at hb)<;>(try(exfalso;omega)))|(refine hK _ _ ?_;clear hK;(try simp only[Au,simprocAttr]))));refine uU zz (c3 _) ?_;(repeat'(first|refine cK ?_|(refine nK ?_;try exact zI)|(refine Bn ?_;simp only[Ty.w,simprocAttr,g0,g1,g2,g10,g11,g12,hno,n1,n2,e1,e2,bne,w7,Av,CB])|(refine hK _ _ ?_;clear hK;(try simp only[Au,simprocAttr]))));exact⟨l.length-(k+1),by omega,k+1,!q3,by simp,by omega,rfl,hG2 _ _ _,Fs _ (by simp)⟩
   |true=>
    simp only[AC]at Fs;cases b' with
    |true=>
     replace zz:=Ab g0 g1 g2 g10 g11 g12 hll hd hr hno n1 n2;refine wt zz ?_;replace zz:=BO g0 g1 g2 g10 g11 g12 hno n1 n2;refine uU zz (c1 _) ?_;(repeat'(first|refine cK ?_|(refine nK ?_;try exact zI)|refine Af λK hK=>?_|(refine Bn ?_;simp only[Ty.w,simprocAttr,g0,g1,g2,g10,g11,g12,hno,n1,n2,e1,e2,bne,w7,Av,CB])|(refine EX _ (by(try simp only[Ty.w,simprocAttr,g0,g1,g2,g10,g11,g12,hno,n1,n2,e1,e2,bne,w7,Av,CB]);rfl) (λhb=>?_) (λhb=>?_)<;>(try simp only[DD,Bg,D7,simprocAttr]at hb)<;>(try(exfalso;omega)))|(refine hK _ _ ?_;clear hK;(try simp only[Au,simprocAttr]))));refine uU zz (c2 _) ?_;(repeat'(first|refine cK ?_|(refine nK ?_;try exact zI)|((first|refine Bn ?_|refine FN (λK hK=>?_));simp only[Ty.w,simprocAttr,g0,g1,g2,g10,g11,g12,hno,n1,n2,e1,e2,bne,w7,Av,CB])|(refine hK _ _ ?_;clear hK;(try simp only[Au,simprocAttr]))));exact⟨l.length-(k+1),by omega,k+1,true,by simp,by omega,rfl,hG2 _ _ _,Fs _ (by simp)⟩
    |false=>
     cases q2 with
     |false=>
      replace zz:=Ab g0 g1 g2 g10 g11 g12 hll hd hr hno n1 n2;refine wt zz ?_;replace zz:=BO g0 g1 g2 g10 g11 g12 hno n1 n2;refine uU zz (c1 _) ?_;(repeat'(first|refine cK ?_|(refine nK ?_;try exact zI)|refine Af λK hK=>?_|(refine Bn ?_;simp only[Ty.w,simprocAttr,g0,g1,g2,g10,g11,g12,hno,n1,n2,e1,e2,bne,w7,Av,CB])|(refine EX _ (by(try simp only[Ty.w,simprocAttr,g0,g1,g2,g10,g11,g12,hno,n1,n2,e1,e2,bne,w7,Av,CB]);rfl) (λhb=>?_) (λhb=>?_)<;>(try simp only[DD,Bg,D7,simprocAttr]at hb)<;>(try(exfalso;omega)))|(refine hK _ _ ?_;clear hK;(try simp only[Au,simprocAttr]))));refine uU zz (c2 _) ?_;(repeat'(first|refine cK ?_|(refine nK ?_;try exact zI)|((first|refine Bn ?_|refine FN (λK hK=>?_));simp only[Ty.w,simprocAttr,g0,g1,g2,g10,g11,g12,hno,n1,n2,e1,e2,bne,w7,Av,CB])|(refine hK _ _ ?_;clear hK;(try simp only[Au,simprocAttr]))));exact⟨l.length-(k+1),by omega,k+1,true,by simp,by omega,rfl,hG2 _ _ _,Fs _ (by simp)⟩
     |true=>
      cases q4 with
      |true=>
       simp only[eq_self]at e1;replace zz:=Ab g0 g1 g2 g10 g11 g12 hll hd hr hno n1 n2;refine wt zz ?_;replace zz:=BO g0 g1 g2 g10 g11 g12 hno n1 n2;refine uU zz (c1 _) ?_;(repeat'(first|refine cK ?_|(refine nK ?_;try exact zI)|refine Af λK hK=>?_|(refine Bn ?_;simp only[Ty.w,simprocAttr,g0,g1,g2,g10,g11,g12,hno,n1,n2,e1,e2,bne,w7,Av,CB])|(refine EX _ (by(try simp only[Ty.w,simprocAttr,g0,g1,g2,g10,g11,g12,hno,n1,n2,e1,e2,bne,w7,Av,CB]);rfl) (λhb=>?_) (λhb=>?_)<;>(try simp only[DD,Bg,D7,simprocAttr]at hb)<;>(try(exfalso;omega)))|(refine hK _ _ ?_;clear hK;(try simp only[Au,simprocAttr]))));refine uU zz (c2 _) ?_;(repeat'(first|refine cK ?_|(refine nK ?_;try exact zI)|((first|refine Bn ?_|refine FN (λK hK=>?_));simp only[Ty.w,simprocAttr,g0,g1,g2,g10,g11,g12,hno,n1,n2,e1,e2,bne,w7,Av,CB])|(refine hK _ _ ?_;clear hK;(try simp only[Au,simprocAttr]))));exact⟨l.length-(k+1),by omega,k+1,false,by simp,by omega,rfl,hG2 _ _ _,Fs _ (by simp)⟩
      |false=>
       simp only[BR]at e1;replace zz:=Ab g0 g1 g2 g10 g11 g12 hll hd hr hno n1 n2;refine wt zz ?_;replace zz:=BO g0 g1 g2 g10 g11 g12 hno n1 n2;refine uU zz (c1 _) ?_;(repeat'(first|refine cK ?_|(refine nK ?_;try exact zI)|refine Af λK hK=>?_|(refine Bn ?_;simp only[Ty.w,simprocAttr,g0,g1,g2,g10,g11,g12,hno,n1,n2,e1,e2,bne,w7,Av,CB])|(refine EX _ (by(try simp only[Ty.w,simprocAttr,g0,g1,g2,g10,g11,g12,hno,n1,n2,e1,e2,bne,w7,Av,CB]);rfl) (λhb=>?_) (λhb=>?_)<;>(try simp only[DD,Bg,D7,simprocAttr]at hb)<;>(try(exfalso;omega)))|(refine hK _ _ ?_;clear hK;(try simp only[Au,simprocAttr]))));refine uU zz (c2 _) ?_;(repeat'(first|refine cK ?_|(refine nK ?_;try exact zI)|(refine FN (λK hK=>?_);simp only[Ty.w,simprocAttr,g0,g1,g2,g10,g11,g12,hno,n1,n2,e1,e2,bne,w7,Av,CB])|(refine hK _ _ ?_;clear hK;(try simp only[Au,simprocAttr]))));refine uU zz (c3 _) ?_;(repeat'(first|refine cK ?_|(refine nK ?_;try exact zI)|(refine Bn ?_;simp only[Ty.w,simprocAttr,g0,g1,g2,g10,g11,g12,hno,n1,n2,e1,e2,bne,w7,Av,CB])|(refine hK _ _ ?_;clear hK;(try simp only[Au,simprocAttr]))));exact⟨l.length-(k+1),by omega,k+1,!q3,by simp,by omega,rfl,hG2 _ _ _,Fs _ (by simp)⟩
  ·have hd:decide ((k:Int)<(l.length:Int))=false:=(by simp;omega);rw[List.drop_eq_nil_of_le (by omega),List.all_nil,Av,Gq]at hinv;subst hinv;replace zz:=BT g0 g1 g2 g10 g11 g12 hll hd;refine wt zz ?_;replace zz:=Al g0 g1 g2 g10 g11 g12;refine uU zz (hWP _) ?_;refine wt (AY g0 g1 g2) ?_;exact⟨K1 (HK _ _),hG⟩
end Go.Proofs.YtblgchkahpgdjaaGreat
namespace Go.Proofs.YtblgchkahpgdjaaGreat
open Go.AM Go.Proofs.Tryz
set_option maxHeartbeats 8000000
set_option maxRecDepth 20000
def IX(f:Fm):Bool:=match f with| .mk op _ _ _ _ kids=>A3 op Bo&&(((Fm.rows kids).length:Int)==0)
def N4(c:Ch):Sx:=bif c.kind==2 then AE [A7 DR,Ap (IW c)]else bif c.kind==3 then AE [A7 JY,Ap (IW c),BI c.value]else bif c.kind==4 then AE [A7 JZ,Ap (IW c),BI c.value]else bif c.kind==5 then AE [A7 Ja,Ap (IW c),BI c.value]else Ap (IW c)
def N5(c:Ch):Sx:=bif IX c.cond then N4 c else AE [A7 HR,Ap c.cond,N4 c]
def N6(c:Ch):Sx:=bif c.params.isEmpty then N5 c else AE [A7 DV,AE (AZ c.params),N5 c]
end Go.Proofs.YtblgchkahpgdjaaGreat
namespace Go.Proofs.YtblgchkahpgdjaaGreat
open Go.AM Go.Proofs.Tryz
set_option maxHeartbeats 4000000
set_option maxRecDepth 20000
structure OL(h:A1)(id:Nat)(b:Bool)(first:ByteArray)(l:List ByteArray)(k:Nat)(h':A1):Prop where
 grow:CQ h id (wO b) h'
 ex: ∃ j,h.next+1+1<h'.next/\j≠h.next+1+1/\h.next<j/\j<h'.next/\
  h'.obj h.next=some (.arr 6 [[.sc (.int .i64 0),.sc (.int .i64 0),.sc (.int .i64 0),.sc (.int .i64 0),.sc (.string ⟨#[]⟩),.sc (.slice none 0 0)]])/\
  h'.obj (h.next+1+1)=some (.arr 6 [[.sc (.int .i64 3),.sc (.int .i64 0),.sc (.int .i64 0),.sc (.int .i64 0),.sc (.string ⟨#[]⟩),.own j 0 (k+1)]])/\
  h'.obj j=some (.arr 6 (Sx.rows ((first::l.take k).map A7)))
theorem OL.put{h h':A1}{id:Nat}{b b2:Bool}{first:ByteArray}{l:List ByteArray}{k:Nat}(i:OL h id b first l k h')(hid:id<h.next):OL h id b2 first l k (h'.set id (wO b2)):=by
 obtain⟨hg,j,h1,h2,h3,h4,o1,o2,o3⟩:=i;refine⟨hg.put,j,h1,h2,h3,h4,?_,?_,?_⟩
 ·simp only[A1.set];rw[A8 (by omega)];exact o1
 ·simp only[A1.set];rw[A8 (by omega)];exact o2
 ·simp only[A1.set];rw[A8 (by omega)];exact o3
theorem ke{h:A1}{id:Nat}{b:Bool}{first:ByteArray}{l:List ByteArray}(hn:first.size<=9223372036854775807)(hl:l.length<=1048576)(hok: ∀ s∈l,s.size<=AI)(hid:id<h.next)(ho:h.obj id=some (wO b)):
  A6 prog 144 [.ptr id 0 0,A4 first,.A2 1 (AN l)] h λr h'=>r= .agg (Cu first l).cells/\h'=h.set id (wO (b||!(As first&&l.all CH))):=by
 refine A6.LS Ty.Uq ho (LC _ _) ?_;have hll:=GP l;have hw: ∀ (s:ByteArray)(h:A1),A6 prog 40 [A4 s] h λr h'=>r= .agg (A7 s).cells/\h'=h:=λs h=>KB;have c0:=λ(z:An)=>N3 (h:=h.new z) (b:=b) (s:=first) hn (show id<h.next+1 by omega) ((Dt hid).trans ho);simp only[A7,Sx.cells,Sx.rows]at hw c0;generalize hF:(b||!(As first&&l.all CH))=F;refine uG (ow:=λt=>t==13) (wf:=λ_=>false) func144 ntmps144 results144 Ty.Uq ?_;refine wt A5 ?_;refine DK (c0 _) (sr ho) ?_;simp only[Ty.w,simprocAttr,ho];refine wt ho ?_;refine uU A5 (KC (p:= .own (h.next+1) 0 1) rfl (λ_=>Kt (by simp[A1.new,A1.set]))) ?_;refine wt hll ?_;refine CG (λm S h'=>S 0= .ptr id 0 0/\S 6= .ptr h.next 0 0/\S 7= .ptr (h.next+1+1) 0 0/\S 15= .A2 1 (AN l)/\S 16= .sc (.int .i64 l.length)/\ ∃ (k:Nat)(b':Bool),S 17= .sc (.int .i64 k)/\k<=l.length/\m=l.length-k/\OL h id b' first l k h'/\F=(b'||!((l.drop k).all CH))) l.length ?_ ?_
 ·simp only[Ty.w,simprocAttr];refine⟨0,b||!As first,rfl,by omega,rfl,?_,?_⟩
  ·have e1:¬ h.next=h.next+1+1:=by omega
   refine⟨?_,h.next+1,by simp[A1.new,A1.set],by omega,by omega,by simp[A1.new,A1.set],?_,?_,?_⟩
   ·exact ((((((CQ.refl ho).new hid).put).new hid).new hid).set hid (by omega))
   ·simp only[A1.new,A1.set];repeat(first|rw[A8 (by omega)]|rw[AK A5])
   ·simp only[A1.new,A1.set];repeat(first|rw[A8 (by omega)]|rw[AK A5])
   ·simp only[A1.new,A1.set];(repeat(first|rw[A8 (by omega)]|rw[AK A5]));simp[A7,Sx.rows,Sx.cells]
  ·rw [List.drop_zero, ← hF];cases b<;>cases As first<;>simp
 ·clear hF c0;rintro m S h' ⟨g0,g6,g7,g15,g16,k,b',g17,hk,rfl,hI,hinv⟩;by_cases hlt:k<l.length
  ·have hd:decide ((k:Int)<(l.length:Int))=true:=(by simp;omega);have w7:IntKind.i64.wrap ((k:Int)+1)=k+1:=(by rw[BZ (by omega) (by omega)]);obtain⟨s,hx⟩: ∃ s,l[k]? =some s:=⟨_,List.getElem?_eq_getElem hlt⟩;have hr:=Kr hx;have hts:=λh:A1=>Wr (h:=h) (s:=s) (by have:=hok s (List.mem_of_getElem? hx);unfold AI at this;omega);rw[Cd hx,List.all_cons]at hinv;have hbo:=hI.grow.at_;generalize CH s=q at hts hinv;have Fs: ∀ b2:Bool,b2=(b'||!q)->F=(b2||!((l.drop (k+1)).all CH)):=λb2 e=>by
    rw[hinv,e];cases b'<;>cases q<;>simp
   clear hinv;replace zz:=BT g0 g6 g7 g15 g16 g17 hd hr;refine xG 5 zz ?_;refine⟨?_⟩;refine DB (λS H=>S 0= .ptr id 0 0/\S 6= .ptr h.next 0 0/\S 7= .ptr (h.next+1+1) 0 0/\S 15= .A2 1 (AN l)/\S 16= .sc (.int .i64 l.length)/\S 17= .sc (.int .i64 k)/\S 9=A4 s/\ ∃ b2,OL h id b2 first l k H/\F=(b2||!((l.drop (k+1)).all CH))) ?_ ?_
   ·cases b' with
    |true=>
     replace zz:=Ah g0 g6 g7 g15 g16 g17 hbo;refine wt zz ?_;exact⟨true,hI.put hid,Fs _ (by simp)⟩
    |false=>
     replace zz:=Ah g0 g6 g7 g15 g16 g17 hbo;refine wt zz ?_;replace zz:=Ah g0 g6 g7 g15 g16 g17 hbo;refine uU zz (hts _) ?_;refine wt zz ?_;exact⟨!q,hI.put hid,Fs _ (by simp)⟩
   ·clear g0 g6 g7 g15 g16 g17 hI hbo hd hr Fs hts;rintro S H ⟨g0,g6,g7,g15,g16,g17,g9,b2,hI,hinv⟩;obtain⟨hg,j,hn2,hne,hlo,hhi,o1,o2,o3⟩:=hI;have hrl:(Sx.rows ((first::l.take k).map A7)).length=k+1:=(by rw[Sx.B4];simp;omega);generalize hR:Sx.rows ((first::l.take k).map A7)=R at o3 hrl;have n1:(h.next+1+1=j)=False:=(by simp;omega);have n2:(h.next+1+1=H.next)=False:=(by simp;omega);have htk:List.take (k+1) R=R:=List.take_of_length_le (by omega);have hb:(k+1+1)*72<=140737488355328:=(by omega);replace zz:=B9 g0 g6 g7 g15 g16 g17 g9 w7 o2 o3;refine wy zz ?_;replace zz:=BO g0 g6 g7 g15 g16 g17 g9 o2 o3;(first|refine uV zz (hw s _) ?_|refine uA zz (hw s _) ?_);replace zz:=Ab g0 g6 g7 g15 g16 g17 g9 w7 o2 o3 n1 (Aa n2 hrl htk hb);(repeat'(first|refine cK ?_|refine nK ?_|refine uR zz ?_|(refine uN hK ?_;clear hK)|refine uB zz ?_|(rw[AK];rotate_left 1;omega;simp only[Ty.w,simprocAttr,g0,g6,g7,g15,g16,g17,g9,w7,o2,o3,n1,n2,hrl,htk,hb])|apply zI));refine⟨l.length-(k+1),by omega,k+1,b2,by simp,by omega,rfl,⟨((hg.kill hid (by omega)).new hid).set hid (by omega),H.next,?_,?_,?_,?_,?_,?_,?_⟩,hinv⟩
    ·simp only[A1.set,A1.new,A1.kill];omega
    ·omega
    ·omega
    ·simp only[A1.set,A1.new,A1.kill];omega
    ·have a1:¬ h.next=h.next+1+1:=by omega
     have a2:¬ h.next=H.next:=by omega
     have a3:¬ h.next=j:=by omega
     simp only[A1.set,A1.new,A1.kill,a1,a2,a3,AQ];exact o1
    ·simp only[A1.set,AO]
    ·have a1:¬ H.next=h.next+1+1:=by omega
     simp only[A1.set,A1.new,A1.kill,a1,AQ,AO];rw[List.take_add_one,hx, ← hR];simp only[Sx.rows_map,List.map_cons,List.map_append,List.map_nil,Yl,List.cons_append,A7,Sx.cells]
  ·have hd:decide ((k:Int)<(l.length:Int))=false:=(by simp;omega);have hke:k=l.length:=(by omega);subst hke;obtain⟨hg,j,hn2,hne,hlo,hhi,o1,o2,o3⟩:=hI;rw[List.take_length]at o3;rw[List.drop_length,List.all_nil,Av,Gq]at hinv;subst hinv;have n1:(h.next+1+1=h.next)=False:=(by simp;omega);replace zz:=EI g0 g6 g7 g15 g16 g17 hd o1 o2 o3 n1;refine wt zz ?_;refine⟨?_,hg.set hid (AG _)⟩;simp only[Cu,AE,Sx.cells,AJ,AP];refine⟨_,rfl,rfl,rfl,rfl,rfl,rfl,.inr (.inr ⟨j,0,l.length+1,Sx.rows ((first::l).map A7),rfl,by omega,?_,?_,?_⟩),trivial⟩
   ·simp only[A1.set];rw[A8 (by omega)];exact o3
   ·rw [Sx.B4];simp
   ·rw [List.drop_zero,List.take_of_length_le (by rw[Sx.B4];simp)];exact IK _ _ _
end Go.Proofs.YtblgchkahpgdjaaGreat
namespace Go.Proofs.YtblgchkahpgdjaaGreat
open Go.AM Go.Proofs.Tryz
set_option maxHeartbeats 4000000
set_option maxRecDepth 20000
theorem kf: ∀ x:Sx,x.ok->x.small-> ∀ h:A1,A6 prog 169 [.agg x.cells] h λr h'=>r= .Am [.agg (Cn x).1.cells,AS (Cn x).2]/\h'=h:=by
 refine Sx.ind ?_;intro kind value line col text kids ih hok hsm h;have hok':=hok;simp only[Sx.ok]at hok';obtain⟨_,_,_,_,hks⟩:=hok';rw[Sx.Bz]at hks;have hsm':=hsm;simp only[Sx.small]at hsm';have hss:=hsm'.2;rw[Sx.Eh]at hss;exact jR hok hsm (λx hx=>ih x hx (hks x hx) (hss x hx)) h
theorem OM{x:Sx}(hok:x.ok)(h:A1):A6 prog 148 [.agg x.cells] h λr h'=>r= .Am [.agg (Co x).1.cells,AS (Co x).2]/\h'=h:=by
 refine A6.CF Ty.Nv ?_;have hv:=λh:A1=>JO hok h;have hX:Co x=(if(CM x 0 0).1=true then(if(Cn x).2=0 then(if Bh (Cn x).1=true then((Cn x).1,0)else(Cm,5))else(Cm,(Cn x).2))else(Cm,2)):=rfl;generalize Co x=F at hX;have bad: ∀ (c:Int)(h':A1),(c==0)=false->AH h h'->F=(Cm,c)->AJ h.next h' (.Am [.agg F.1.cells,AS F.2]) (.Am [.agg [.sc (.string ⟨#[]⟩),.sc (.string ⟨#[]⟩),.sc (.slice none 0 0),.sc (.slice none 0 0),.sc (.slice none 0 0),.sc (.slice none 0 0)],Ao c])/\AH h h':=by
  intro c h' hc hg hF;subst hF;have:AS c=Ao c:=by simp only[AS,hc,AL]
  simp only[this];refine⟨?_,hg⟩;simp only[Ao,Cm,Fm.cells,Ex.rows,Fm.rows,A9,AN,List.map_nil,AJ,AP];exact⟨_,rfl,⟨_,rfl,rfl,rfl,.inr (.inl ⟨rfl,.inr rfl⟩),.inr (.inl ⟨rfl,.inr rfl⟩),.inr (.inl ⟨rfl,.inr rfl⟩),.inr (.inl ⟨rfl,.inr rfl⟩),trivial⟩,rfl,trivial⟩
 simp only[Ao]at bad;have hg1: ∀ r,AH h ((h.new (.arr 6 [[.sc (.string ⟨#[]⟩),.sc (.string ⟨#[]⟩),.sc (.slice none 0 0),.sc (.slice none 0 0),.sc (.slice none 0 0),.sc (.slice none 0 0)]])).set h.next r):=λr=>((AH.refl h).new _).set (AG _) _;have hg2: ∀ o1 o2 r,AH h ((((h.new (.arr 6 [[.sc (.string ⟨#[]⟩),.sc (.string ⟨#[]⟩),.sc (.slice none 0 0),.sc (.slice none 0 0),.sc (.slice none 0 0),.sc (.slice none 0 0)]])).new o1).set (h.next+1) o2).set h.next r):=λo1 o2 r=>((((AH.refl h).new _).new _).set (Oo _) _).set (AG _) _;have n1:(h.next=h.next+1)=False:=by simp
 cases v1:(CM x 0 0).1 with
 |false=>
  rw[v1]at hv;rw[A8 (by rw[v1];simp)]at hX;obtain⟨kind,value,line,col,text,kids⟩:=x;simp only[Sx.cells]at hv⊢;refine AF func148 ntmps148 results148 Ty.Nv ?_;refine wt A5 ?_;refine uU A5 (hv _) ?_;refine wt yF ?_;exact bad 2 _ rfl (hg1 _) hX
 |true=>
  have hsm:=Kx v1;have hp:=kf x hok hsm;have hfo:=Wo x hok hsm;rw[v1]at hv;rw[AK v1]at hX;have hfz:=λn hh=>SI n hh (Cn x).1;generalize Cn x=E at hp hfo hX hfz;obtain⟨f,c⟩:=E;simp only at hp hfo hX hfz;obtain⟨kind,value,line,col,text,kids⟩:=x;simp only[Sx.cells]at hv hp⊢;cases hc:c==0 with
  |false=>
   rw[A8 (by simpa using hc)]at hX;have e0:AS c=Ao c:=(by simp only[AS,hc,AL]);rw[e0]at hp;simp only[Ao]at hp;obtain⟨fop,fna,far,fpa,fex,fki⟩:=f;simp only[Fm.cells]at hp;refine AF func148 ntmps148 results148 Ty.Nv ?_;refine wt A5 ?_;refine uU A5 (hv _) ?_;refine wt yT ?_;refine uU A5 (hp _) ?_;refine wt (uu n1 @B1) ?_;exact bad c _ hc (hg2 _ _ _) hX
  |true=>
   rw[AK (by simpa using hc)]at hX;have e0:AS c= .sc .nilIface:=(by simp only[AS,hc,AC]);rw[e0]at hp;have hV:=λh:A1=>Wl hfo.1 hfo.2 h;cases v2:Bh f with
   |false=>
    rw[v2]at hV;rw[A8 (by rw[v2];simp)]at hX;obtain⟨fop,fna,far,fpa,fex,fki⟩:=f;simp only[Fm.cells]at hp hV;refine AF func148 ntmps148 results148 Ty.Nv ?_;refine wt A5 ?_;refine uU A5 (hv _) ?_;refine wt yT ?_;refine uU A5 (hp _) ?_;refine wt (uu n1 @B1) ?_;refine uU (uu n1 @B1) (hV _) ?_;refine wt (AY n1 @B1 yF) ?_;exact bad 5 _ rfl (hg2 _ _ _) hX
   |true=>
    rw[v2]at hV;rw[AK v2]at hX;subst hX;obtain⟨fop,fna,far,fpa,fex,fki⟩:=f;simp only[Fm.cells]at hp hV hfz;have e2:AS 0= .sc .nilIface:=rfl;simp only[e2,Fm.cells];refine AF func148 ntmps148 results148 Ty.Nv ?_;refine wt A5 ?_;refine uU A5 (hv _) ?_;refine wt yT ?_;refine uU A5 (hp _) ?_;refine wt (uu n1 @B1) ?_;refine uU (uu n1 @B1) (hV _) ?_;refine wt (AY n1 @B1 yT) ?_;refine⟨?_,hg2 _ _ _⟩;have h1:=λhh=>hfz h.next hh
    unfold AJ;refine⟨_,rfl,?_⟩;unfold AP;refine⟨?_,by unfold AP;exact⟨by simp only[AJ],by simp only[AP]⟩⟩;unfold AJ;exact⟨_,rfl,h1 _⟩
end Go.Proofs.YtblgchkahpgdjaaGreat
namespace Go.Proofs.YtblgchkahpgdjaaGreat
open Go.AM Go.Proofs.Tryz
theorem Ws{l:List Sx}{k:Sx}(h:k∈l):k.depth+1<=(AE l).depth:=by
 have:=Sx.depths_mem 0 h;simp only[AE,Sx.depth,AO];omega
theorem QE{op name:ByteArray}{args:List ByteArray}{params:List Pm}{exprs:List Ex}{kids:List Fm}(h1:A3 op Bx=false)(h2:A3 op CI=false)(h3:FQ op=false): ∃ pre,Ap (.mk op name args params exprs kids)=AE (pre++kids.map Ap):=by
 unfold Ap;rw[h1,h2,h3,Mp];exact⟨_,rfl⟩
theorem kg: ∀ f,DH f=true->match f with
  | .mk _ _ _ _ exprs kids=>1+Sx.Aw (exprs.map BI)+Sx.Aw (kids.map Ap)<=(Ap f).nodes/\1<=(Ap f).depth/\(∀ e∈exprs,(BI e).depth+1<=(Ap f).depth)/\(∀ k∈kids,(Ap k).depth+1<=(Ap f).depth):=by
 intro f hf;have d1: ∀ l:List Sx,1<=(AE l).depth:=λl=>by simp only[AE,Sx.depth,AO];omega
 have rest: ∀ {op:ByteArray}{params:List Pm}{kids:List Fm}{pre:List Sx},Ap (.mk op ⟨#[]⟩ [] params [] kids)=AE (pre++kids.map Ap)->
   1+Sx.Aw (([]:List Ex).map BI)+Sx.Aw (kids.map Ap)<=(Ap (.mk op ⟨#[]⟩ [] params [] kids)).nodes/\1<=(Ap (.mk op ⟨#[]⟩ [] params [] kids)).depth/\(∀ e∈([]:List Ex),(BI e).depth+1<=(Ap (.mk op ⟨#[]⟩ [] params [] kids)).depth)/\(∀ k∈kids,(Ap k).depth+1<=(Ap (.mk op ⟨#[]⟩ [] params [] kids)).depth):=by
  intro op params kids pre e;rw[e];refine⟨?_,d1 _,by simp,λk hk=>Ws (List.mem_append.2 (.inr (List.mem_map.2 ⟨k,hk,rfl⟩)))⟩;rw[My,OE];simp only[List.map_nil,Sx.Aw];omega
 refine jU (C:=λf=>match f with
  | .mk _ _ _ _ exprs kids=>1+Sx.Aw (exprs.map BI)+Sx.Aw (kids.map Ap)<=(Ap f).nodes/\1<=(Ap f).depth/\(∀ e∈exprs,(BI e).depth+1<=(Ap f).depth)/\(∀ k∈kids,(Ap k).depth+1<=(Ap f).depth)) f hf ?_ ?_ ?_ ?_ ?_ ?_ ?_
 ·intro name args _ _;have e:Ap (.mk Bx name args [] [] [])=Cu name args:=rfl;simp only[e];exact⟨by simp only[Cu,My,List.map_nil,Sx.Aw];omega,d1 _,by simp,by simp⟩
 ·intro args _ _;have e:Ap (.mk CI ⟨#[]⟩ args [] [] [])=Cu Ca args:=rfl;simp only[e];exact⟨by simp only[Cu,My,List.map_nil,Sx.Aw];omega,d1 _,by simp,by simp⟩
 ·intro op a b ho _ _;have e:Ap (.mk op ⟨#[]⟩ [] [] [a,b] [])=AE [A7 op,BI a,BI b]:=by rcases ho with rfl|rfl|rfl<;>rfl
  simp only[e];refine⟨?_,d1 _,?_,by simp⟩
  ·simp only[My,List.map_cons,List.map_nil,Sx.Aw,jS];omega
  ·intro x hx;simp only[List.mem_cons,List.not_mem_nil,ET]at hx;rcases hx with rfl|rfl<;>exact Ws (by simp)
 ·intro op kids ho _;obtain⟨pre,e⟩: ∃ pre,Ap (.mk op ⟨#[]⟩ [] [] [] kids)=AE (pre++kids.map Ap):=by rcases ho with rfl|rfl<;>exact QE rfl rfl rfl
  exact rest e
 ·intro k _;obtain⟨pre,e⟩: ∃ pre,Ap (.mk DR ⟨#[]⟩ [] [] [] [k])=AE (pre++[k].map Ap):=QE rfl rfl rfl;exact rest e
 ·intro a b _ _;obtain⟨pre,e⟩: ∃ pre,Ap (.mk GF ⟨#[]⟩ [] [] [] [a,b])=AE (pre++[a,b].map Ap):=QE rfl rfl rfl;exact rest e
 ·intro op params k ho _ _;obtain⟨pre,e⟩: ∃ pre,Ap (.mk op ⟨#[]⟩ [] params [] [k])=AE (pre++[k].map Ap):=by rcases ho with rfl|rfl<;>exact QE rfl rfl rfl
  exact rest e
theorem Wt: ∀ (l:List Ex),(∀ e∈l,FD e=true)-> ∀ (d n:Nat),(∀ e∈l,d+(BI e).depth<=32)->n+Sx.Aw (l.map BI)<=4096->(GS l d n).1=true/\(GS l d n).2<=n+Sx.Aw (l.map BI)
 |[],_,d,n,_,hn=>by simp[GS,Sx.Aw]
 |e::l,hs,d,n,hd,hn=>by
  simp only[List.map_cons,Sx.Aw]at hn⊢;obtain⟨f1,f2⟩:=WO e (hs e (by simp)) d n (hd e (by simp)) (by omega);unfold GS;cases hw:EJ e d n with
  |mk x c=>
   rw[hw]at f1 f2;simp only at f1 f2;subst f1;simp only;obtain⟨g1,g2⟩:=Wt l (λq hq=>hs q (by simp[hq])) d c (λq hq=>hd q (by simp[hq])) (by omega);exact⟨g1,by omega⟩
theorem Wu: ∀ (l:List Fm)(d:Nat),(∀ k∈l, ∀ n,n+(Ap k).nodes<=4096->(FE k d n).1=true/\(FE k d n).2<=n+(Ap k).nodes)-> ∀ n,n+Sx.Aw (l.map Ap)<=4096->(GG l d n).1=true/\(GG l d n).2<=n+Sx.Aw (l.map Ap)
 |[],_,_,n,hn=>by simp[GG,Sx.Aw]
 |k::l,d,h,n,hn=>by
  simp only[List.map_cons,Sx.Aw]at hn⊢;obtain⟨f1,f2⟩:=h k (by simp) n (by omega);unfold GG;cases hw:FE k d n with
  |mk x c=>
   rw[hw]at f1 f2;simp only at f1 f2;subst f1;simp only;obtain⟨g1,g2⟩:=Wu l d (λq hq=>h q (by simp[hq])) c (by omega);exact⟨g1,by omega⟩
theorem kh: ∀ (f:Fm),DH f=true-> ∀ (d n:Nat),d+(Ap f).depth<=32->n+(Ap f).nodes<=4096->(FE f d n).1=true/\(FE f d n).2<=n+(Ap f).nodes:=by
 refine Fm.ind ?_;intro op name args params exprs kids ih hs d n hd hn;have hp:=kg _ hs;simp only at hp;obtain⟨p1,p2,p3,p4⟩:=hp;have hs2:=hs;simp only[DH,AV,List.all_eq_true]at hs2;obtain⟨⟨h1,h2⟩,h3⟩:=hs2;rw[Mo]at h3;generalize Ap (.mk op name args params exprs kids)=X at*;unfold FE;rw[AK ⟨by omega,by omega⟩,AK h1];obtain⟨f1,f2⟩:=Wt exprs h2 (d+1) (n+1) (λe he=>by have:=p3 e he;omega) (by omega);cases hw:GS exprs (d+1) (n+1)with
 |mk x c=>
  rw[hw]at f1 f2;simp only at f1 f2;subst f1;simp only;obtain⟨g1,g2⟩:=Wu kids (d+1) (λk hk m hm=>ih k hk (h3 k hk) (d+1) m (by have:=p4 k hk;omega) hm) c (by omega);exact⟨g1,by omega⟩
theorem kj{f:Fm}(hn:(Ap f).nodes<=AI):Bh f=(DH f&&Mr (Ap f)):=by
 unfold Bh;rw[Ms hn];cases hs:DH f with
 |false=>
  have:(FE f 0 0).1=false:=by
   cases h:(FE f 0 0).1 with
   |false=>rfl
   |true=>rw[OG f 0 0 h]at hs;simp at hs
  simp only[this,BF]
 |true=>
  cases hv:Mr (Ap f)with
  |false=>simp
  |true=>
   have h1:=(JQ (Ap f) 0 0 (by omega) (by omega)).1.1 (by rw[Ms hn];exact hv);rw[(kh f hs 0 0 h1.2.1 h1.2.2).1]
end Go.Proofs.YtblgchkahpgdjaaGreat
namespace Go.AM
theorem KD: ∀ l:List Pm,2*l.length<=PV.D2 (A9 l)
 |[]=>by simp
 |s::l=>by
  have:=KD l;simp only[A9,Ir,List.map_cons,PV.D2,PV.bulkL,PV.bulk,List.length_cons]at this⊢;omega
theorem Wv: ∀ l:List Fm,l.length<=PV.D2 (Fm.rows l)
 |[]=>by simp
 |s::l=>by
  have:=Wv l;cases s;simp only[Fm.rows,Fm.cells,PV.D2,PV.bulkL,PV.bulk,List.length_cons]at this⊢;omega
mutual
theorem Fm.KY: ∀ (f:Fm),PV.bulkL f.cells<=1048576->f.small
 | .mk op name args params exprs kids,h=>by
  simp only[Fm.cells,PV.bulkL,PV.bulk]at h;simp only[Fm.small];have:=QB args;have:=KD params;have:=Wv kids;exact⟨by omega,by omega,Ex.NM exprs (by omega),by omega,Fm.NM kids (by omega)⟩
theorem Fm.NM: ∀ (l:List Fm),PV.D2 (Fm.rows l)<=1048576->Fm.DY l
 |[],_=>by simp[Fm.DY]
 |k::ks,h=>by
  simp only[Fm.rows,PV.D2]at h;simp only[Fm.DY];exact⟨Fm.KY k (by omega),Fm.NM ks (by omega)⟩
end
end Go.AM
namespace Go.Proofs.YtblgchkahpgdjaaGreat
open Go.AM Go.Proofs.Tryz
end Go.Proofs.YtblgchkahpgdjaaGreat
namespace Go.Proofs.YtblgchkahpgdjaaGreat
open Go.AM Go.Proofs.Tryz
set_option maxHeartbeats 4000000
set_option maxRecDepth 20000
theorem LF{l:List Sx}(hl:l.length<=AI)(h: ∀ x∈l,x.ok):(AE l).ok:=by
 simp only[AE,Sx.ok];exact⟨by omega,by omega,by simp[AI,ByteArray.size],hl,Sx.Bz.2 h⟩
theorem Sf{s:ByteArray}(h:A1):A6 prog 28 [A4 s] h λr h'=>r= .agg (A7 s).cells/\h'=h:=by
 refine A6.CF Ty.UQ ?_;refine AF func28 ntmps28 results28 Ty.UQ ?_;refine wt A5 ?_;refine⟨?_,((AH.refl h).new _).set (AG _) _⟩;simp only[A7,Sx.cells,Sx.rows,AJ,AP];exact⟨_,rfl,rfl,rfl,rfl,rfl,rfl,.inr (.inl ⟨rfl,.inr rfl⟩),trivial⟩
theorem M6(l:List Sx)(h:A1):A6 prog 27 [.A2 6 (Sx.rows l)] h λr h'=>r= .agg (AE l).cells/\h'=h:=by
 refine A6.CF Ty.UR ?_;refine AF func27 ntmps27 results27 Ty.UR ?_;refine wt A5 ?_;refine⟨?_,((AH.refl h).new _).set (AG _) _⟩;simp only[AE,Sx.cells,AJ,AP];exact⟨_,rfl,rfl,rfl,rfl,rfl,rfl,.inl ⟨rfl,HK _ _⟩,trivial⟩
end Go.Proofs.YtblgchkahpgdjaaGreat
