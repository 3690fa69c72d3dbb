/- What the claim rests on, part 5: the abstract machine, contracts of the functions, plain data. -/
import Derived.Test.YtblgchkahpgdjaaGreatZw4
set_option linter.unusedVariables false
set_option linter.unusedSimpArgs false
set_option linter.unusedSectionVars false
namespace Go.AM
mutual
def Fm.small:Fm→Prop
 | .mk _ _ args params exprs kids=>args.length≤1048576∧params.length≤1048576∧Ex.smalls exprs∧kids.length≤1048576∧Fm.smalls kids
def Fm.smalls:List Fm→Prop
 |[]=>True
 |k::ks=>k.small∧Fm.smalls ks
end
theorem Fm.smalls_iff:{l:List Fm}→(Fm.smalls l↔ ∀ k∈l,k.small)
 |[]=>by simp[Fm.smalls]
 |k::ks=>by simp[Fm.smalls,Fm.smalls_iff (l:=ks)]
end Go.AM
namespace Go.Proofs.YtblgchkahpgdjaaGreat
open Go.AM
set_option maxHeartbeats 4000000
set_option maxRecDepth 20000
structure WrI(h:Heap)(L:List Sx)(h':Heap):Prop where
 grow:Grow h h'
 ex: ∃ p H,h.next+1<h'.next∧h'.obj h.next=some (.arr 6 [[.sc (.int .i64 0),.sc (.int .i64 0),.sc (.int .i64 0),.sc (.int .i64 0),.sc (.string ⟨#[]⟩),.sc (.slice none 0 0)]])∧
  h'.obj (h.next+1)=some (.arr 6 [[.sc (.int .i64 3),.sc (.int .i64 0),.sc (.int .i64 0),.sc (.int .i64 0),.sc (.string ⟨#[]⟩),p]])∧Tl h' (h.next+2) 6 p (Sx.rows L)∧
  isTail h' p=some (H,Sx.rows L)∧zOk h' 6 p=true∧H.next=h'.next∧(∀ j,j<h.next+2→H.obj j=h'.obj j)∧Grow h H∧p.cells=[p]∧oneC p=true
theorem WrI.mk2{h h':Heap}{L:List Sx}{p:PV}(g:Grow h h')(hn:h.next+1<h'.next)(o1:h'.obj h.next=some (.arr 6 [[.sc (.int .i64 0),.sc (.int .i64 0),.sc (.int .i64 0),.sc (.int .i64 0),.sc (.string ⟨#[]⟩),.sc (.slice none 0 0)]]))(o2:h'.obj (h.next+1)=some (.arr 6 [[.sc (.int .i64 3),.sc (.int .i64 0),.sc (.int .i64 0),.sc (.int .i64 0),.sc (.string ⟨#[]⟩),p]]))(tl:Tl h' (h.next+2) 6 p (Sx.rows L)):WrI h L h':=by
 obtain⟨H,t1,t2,t3,t4,t5⟩:=tl.tail;have hk:=t5 h ⟨g.le,g.old⟩ (by omega);refine⟨g,p,H,hn,o1,o2,tl,t1,t2,t3,t4,⟨hk.1,hk.2⟩,?_,?_⟩
 ·rcases tl with⟨_,rfl|rfl⟩|⟨_,_,_,rfl,_⟩<;>rfl
 ·rcases tl with⟨_,rfl|rfl⟩|⟨_,_,_,rfl,_⟩<;>rfl
theorem Tl.low{h:Heap}{a b z:Nat}{p:PV}{rows:List (List PV)}(t:Tl h a z p rows)(hab:b≤a):Tl h b z p rows:=by
 rcases t with ht|⟨id,h1,h2⟩
 ·exact .inl ht
 ·exact .inr ⟨id,by omega,h2⟩
theorem WrI.push{h h' H:Heap}{L:List Sx}{X:Sx}{m:Nat}(hn:h.next+1<h'.next)(o1:h'.obj h.next=some (.arr 6 [[.sc (.int .i64 0),.sc (.int .i64 0),.sc (.int .i64 0),.sc (.int .i64 0),.sc (.string ⟨#[]⟩),.sc (.slice none 0 0)]]))(t3:H.next=h'.next)(t4: ∀ j,j<h.next+2→H.obj j=h'.obj j)(g:Grow h H)(hm:m=L.length+1):
  WrI h (L++[X]) ((H.new (.arr 6 (Sx.rows L++[X.cells]))).set (h.next+1) (.arr 6 [[.sc (.int .i64 3),.sc (.int .i64 0),.sc (.int .i64 0),.sc (.int .i64 0),.sc (.string ⟨#[]⟩),.own h'.next 0 m]])):=by
 have e1:Sx.rows (L++[X])=Sx.rows L++[X.cells]:=by simp[Sx.rows_map]
 have n1:¬ h.next=h.next+1:=by omega
 have n2:¬ h.next=H.next:=by omega
 refine WrI.mk2 (p:= .own h'.next 0 m) ((g.new _).set (by omega) _) (by simp only[Heap.set,Heap.new];omega) ?_ ?_ ?_;rotate_left
 ·simp only[Heap.set,if_true]
 ·rw [e1, ← t3];have:Tl (H.new (.arr 6 (Sx.rows L++[X.cells]))) (h.next+2) 6 (.own H.next 0 m) (Sx.rows L++[X.cells]):=Tl.grow (by omega) (by rw[hm];simp[Sx.rows_len]);exact this.up (Nat.le_refl _) (fun j hj _=>by simp only[Heap.set];rw[if_neg (by omega)])
 ·simp only[Heap.set,Heap.new,n1,n2,if_false];rw[t4 _ (by omega)];exact o1
theorem a_heap{P:Program}{ow:Nat→Bool}{wf:FuncId→Bool}{n:Nat}{Q:Post}{s:Slots}{h0:Heap}{c:Code}(I:Heap→Prop)(hi:I h0)(hh: ∀ h',I h'→awp P ow wf n c Q s h'):awp P ow wf n c Q s h0:=hh _ hi
theorem write_c: ∀ f:Fm,f.small→shapedF f=true→ ∀ h:Heap,PCall Tryz.prog 162 [.agg f.cells] h fun r h'=>r= .agg (fmW f).cells∧h'=h:=by
 refine Fm.ind ?_;intro op name args params exprs kids ih hsm hsh h;simp only[Fm.small]at hsm;obtain⟨hal,hpl,hes,hkl,hks⟩:=hsm;rw[Ex.smalls_iff]at hes;rw[Fm.smalls_iff]at hks;simp only[shapedF,Bool.and_eq_true]at hsh;obtain⟨⟨hpo,hse⟩,hsk⟩:=hsh;rw[shapedFs_iff]at hsk;rw[List.all_eq_true]at hse;have hlK:=Fm.rows_len kids;unfold fmW;refine PCall.frz Ty.hb_162 ?_;cases k1:(op.data.toList==(#[97,116,111,109]:Array UInt8).toList)with
 |true=>
  rw[if_pos (show bEq op opAtom=true from k1)];have hw: ∀ h:Heap,PCall Tryz.prog 174 [sPV name,.imm 1 (strRows args)] h fun r h'=>r= .agg (wordsM name args).cells∧h'=h:=fun h=>words_c hal;have hfz:=fun(n:Nat)(h:Heap)=>sx_frz n h (wordsM name args);simp only[Fm.cells];generalize wordsM name args=X at hw hfz⊢;obtain⟨ki,va,li,co,te,ks⟩:=X;simp only[Sx.cells]at hw hfz⊢;refine uG0 Tryz.func162 Tryz.ntmps162 Tryz.results162 Ty.hb_162 ?_;refine wt k1 ?_;refine uU k1 (hw _) ?_;refine wt trivial ?_;refine⟨?_,((Grow.refl h).new _).set (Nat.le_refl _) _⟩;simp only[FrzTo];exact⟨_,rfl,hfz _ _⟩
 |false=>
  cases k2:(op.data.toList==(#[115,97,109,101]:Array UInt8).toList)with
  |true=>
   rw[if_neg (by rw[(show bEq op opAtom=false from k1)];simp)];rw[if_pos (show bEq op opSame=true from k2)];have hw: ∀ h:Heap,PCall Tryz.prog 174 [sPV ⟨#[61]⟩,.imm 1 (strRows args)] h fun r h'=>r= .agg (wordsM opEq args).cells∧h'=h:=fun h=>words_c hal;have hfz:=fun(n:Nat)(h:Heap)=>sx_frz n h (wordsM opEq args);simp only[Fm.cells];generalize wordsM opEq args=X at hw hfz⊢;obtain⟨ki,va,li,co,te,ks⟩:=X;simp only[Sx.cells]at hw hfz⊢;refine uG0 Tryz.func162 Tryz.ntmps162 Tryz.results162 Ty.hb_162 ?_;refine wt (uu k1 k2) ?_;refine uU (uu k1 k2) (hw _) ?_;refine wt trivial ?_;refine⟨?_,((Grow.refl h).new _).set (Nat.le_refl _) _⟩;simp only[FrzTo];exact⟨_,rfl,hfz _ _⟩
  |false=>
   rw[if_neg (by rw[(show bEq op opAtom=false from k1)];simp),if_neg (by rw[(show bEq op opSame=false from k2)];simp)];cases k3:(op.data.toList==(#[60]:Array UInt8).toList)with
   |true=>
    rw[if_pos (by simp[isCmp,(show bEq op opAtom=false from k1),(show bEq op opSame=false from k2),(show bEq op opLt=true from k3)])];have hx2:exprs.length=2:=(by have q:=hpo;simp[partsOk,shapeOf,(show bEq op opAtom=false from k1),(show bEq op opSame=false from k2),(show bEq op opLt=true from k3)]at q;omega);obtain⟨a,b,rfl⟩: ∃ a b,exprs=[a,b]:=by
     match exprs,hx2 with
     |[a,b],_=>exact⟨a,b,rfl⟩
    have ca:=writeE_c a (hes a (by simp)) (hse a (by simp));have cb:=writeE_c b (hes b (by simp)) (hse b (by simp));have hw:=fun h:Heap=>word_c (h:=h) (s:=op);simp only[List.map_cons,List.map_nil];have hfz:=fun(n:Nat)(h:Heap)=>sx_frz n h (listM [wordM op,exW a,exW b]);have hl:=fun h:Heap=>list_c (h:=h) (p:= .imm 6 (Sx.rows [wordM op,exW a,exW b])) rfl (fun _=>frz_imm (sxs_in _ _));generalize exW a=xa at ca hfz hl⊢;generalize exW b=xb at cb hfz hl⊢;(try clear zz);clear ih hks hpo hse hsk hes;obtain⟨aop,aname,an,aargs,akids⟩:=a;obtain⟨bop,bname,bn,bargs,bkids⟩:=b;obtain⟨ki,va,li,co,te,ks⟩:=xa;obtain⟨ki2,va2,li2,co2,te2,ks2⟩:=xb;simp only[Fm.cells,Ex.cells,Ex.rows,listM,Sx.cells,Sx.rows,wordM]at ca cb hw hfz hl⊢;refine uG0 Tryz.func162 Tryz.ntmps162 Tryz.results162 Ty.hb_162 ?_;refine wy (uu3 k1 k2 k3) ?_;(first|refine uV trivial (hw _) ?_|refine uA trivial (hw _) ?_);refine wy trivial ?_;(first|refine uV trivial (ca _) ?_|refine uA trivial (ca _) ?_);refine wy trivial ?_;(first|refine uV trivial (cb _) ?_|refine uA trivial (cb _) ?_);refine wy trivial ?_;(first|refine uV trivial (hl _) ?_|refine uA trivial (hl _) ?_);refine wy trivial ?_;refine⟨?_,((Grow.refl h).new _).set (Nat.le_refl _) _⟩;simp only[FrzTo];exact⟨_,rfl,hfz _ _⟩
   |false=>
    cases k4:(op.data.toList==(#[60,61]:Array UInt8).toList)with
    |true=>
     rw[if_pos (by simp[isCmp,(show bEq op opAtom=false from k1),(show bEq op opSame=false from k2),(show bEq op opLt=false from k3),(show bEq op opLe=true from k4)])];have hx2:exprs.length=2:=(by have q:=hpo;simp[partsOk,shapeOf,(show bEq op opAtom=false from k1),(show bEq op opSame=false from k2),(show bEq op opLt=false from k3),(show bEq op opLe=true from k4)]at q;omega);obtain⟨a,b,rfl⟩: ∃ a b,exprs=[a,b]:=by
      match exprs,hx2 with
      |[a,b],_=>exact⟨a,b,rfl⟩
     have ca:=writeE_c a (hes a (by simp)) (hse a (by simp));have cb:=writeE_c b (hes b (by simp)) (hse b (by simp));have hw:=fun h:Heap=>word_c (h:=h) (s:=op);simp only[List.map_cons,List.map_nil];have hfz:=fun(n:Nat)(h:Heap)=>sx_frz n h (listM [wordM op,exW a,exW b]);have hl:=fun h:Heap=>list_c (h:=h) (p:= .imm 6 (Sx.rows [wordM op,exW a,exW b])) rfl (fun _=>frz_imm (sxs_in _ _));generalize exW a=xa at ca hfz hl⊢;generalize exW b=xb at cb hfz hl⊢;(try clear zz);clear ih hks hpo hse hsk hes;obtain⟨aop,aname,an,aargs,akids⟩:=a;obtain⟨bop,bname,bn,bargs,bkids⟩:=b;obtain⟨ki,va,li,co,te,ks⟩:=xa;obtain⟨ki2,va2,li2,co2,te2,ks2⟩:=xb;simp only[Fm.cells,Ex.cells,Ex.rows,listM,Sx.cells,Sx.rows,wordM]at ca cb hw hfz hl⊢;refine uG0 Tryz.func162 Tryz.ntmps162 Tryz.results162 Ty.hb_162 ?_;replace zz:=uu4 k1 k2 k3 k4;refine wy zz ?_;(first|refine uV trivial (hw _) ?_|refine uA trivial (hw _) ?_);refine wy trivial ?_;(first|refine uV trivial (ca _) ?_|refine uA trivial (ca _) ?_);refine wy trivial ?_;(first|refine uV trivial (cb _) ?_|refine uA trivial (cb _) ?_);refine wy trivial ?_;(first|refine uV trivial (hl _) ?_|refine uA trivial (hl _) ?_);refine wy trivial ?_;refine⟨?_,((Grow.refl h).new _).set (Nat.le_refl _) _⟩;simp only[FrzTo];exact⟨_,rfl,hfz _ _⟩
    |false=>
     cases k5:(op.data.toList==(#[61]:Array UInt8).toList)with
     |true=>
      rw[if_pos (by simp[isCmp,(show bEq op opAtom=false from k1),(show bEq op opSame=false from k2),(show bEq op opLt=false from k3),(show bEq op opLe=false from k4),(show bEq op opEq=true from k5)])];have hx2:exprs.length=2:=(by have q:=hpo;simp[partsOk,shapeOf,(show bEq op opAtom=false from k1),(show bEq op opSame=false from k2),(show bEq op opLt=false from k3),(show bEq op opLe=false from k4),(show bEq op opEq=true from k5)]at q;omega);obtain⟨a,b,rfl⟩: ∃ a b,exprs=[a,b]:=by
       match exprs,hx2 with
       |[a,b],_=>exact⟨a,b,rfl⟩
      have ca:=writeE_c a (hes a (by simp)) (hse a (by simp));have cb:=writeE_c b (hes b (by simp)) (hse b (by simp));have hw:=fun h:Heap=>word_c (h:=h) (s:=op);simp only[List.map_cons,List.map_nil];have hfz:=fun(n:Nat)(h:Heap)=>sx_frz n h (listM [wordM op,exW a,exW b]);have hl:=fun h:Heap=>list_c (h:=h) (p:= .imm 6 (Sx.rows [wordM op,exW a,exW b])) rfl (fun _=>frz_imm (sxs_in _ _));generalize exW a=xa at ca hfz hl⊢;generalize exW b=xb at cb hfz hl⊢;(try clear zz);clear ih hks hpo hse hsk hes;obtain⟨aop,aname,an,aargs,akids⟩:=a;obtain⟨bop,bname,bn,bargs,bkids⟩:=b;obtain⟨ki,va,li,co,te,ks⟩:=xa;obtain⟨ki2,va2,li2,co2,te2,ks2⟩:=xb;simp only[Fm.cells,Ex.cells,Ex.rows,listM,Sx.cells,Sx.rows,wordM]at ca cb hw hfz hl⊢;refine uG0 Tryz.func162 Tryz.ntmps162 Tryz.results162 Ty.hb_162 ?_;replace zz:=uu5 k1 k2 k3 k4 k5;refine wy zz ?_;(first|refine uV trivial (hw _) ?_|refine uA trivial (hw _) ?_);refine wy trivial ?_;(first|refine uV trivial (ca _) ?_|refine uA trivial (ca _) ?_);refine wy trivial ?_;(first|refine uV trivial (cb _) ?_|refine uA trivial (cb _) ?_);refine wy trivial ?_;(first|refine uV trivial (hl _) ?_|refine uA trivial (hl _) ?_);refine wy trivial ?_;refine⟨?_,((Grow.refl h).new _).set (Nat.le_refl _) _⟩;simp only[FrzTo];exact⟨_,rfl,hfz _ _⟩
     |false=>
      rw[if_neg (by simp[isCmp,(show bEq op opLt=false from k3),(show bEq op opLe=false from k4),(show bEq op opEq=false from k5)])];(try clear zz);clear hse hes hpo;simp only[Fm.cells];refine uG0 Tryz.func162 Tryz.ntmps162 Tryz.results162 Ty.hb_162 ?_;replace zz:=uu5 k1 k2 k3 k4 k5;refine wt zz ?_;refine uU k1 (list_c (p:= .sc (.slice none 0 0)) rfl (fun _=>by simp only[FrzTo])) ?_;refine xH 11 k1 ?_;refine⟨?_⟩;refine a_heap (WrI h []) ?_ (fun H0 hI=>?_)
      ·refine WrI.mk2 (p:= .sc (.slice none 0 0)) ((((Grow.refl h).new _).new _).set (by omega) _) (by simp[Heap.new,Heap.set]) (by simp[Heap.new,Heap.set]) (by simp[Heap.new,Heap.set]) Tl.nil
      refine a_cut (fun S h'=>S 1= .cptr (Fm.mk op name args params exprs kids).cells∧S 2= .ptr h.next 0 0∧S 3= .ptr (h.next+1) 0 0∧WrI h (if(bEq op opAnd&&kids.isEmpty)=true then[]else[wordM op]) h') ?_ ?_
      ·have n6:bEq op opAnd=(op.data.toList==(#[97,110,100]:Array UInt8).toList):=rfl;cases k6:(op.data.toList==(#[97,110,100]:Array UInt8).toList)with
       |false=>
        rw[if_neg (by rw[n6,k6];simp)];obtain⟨hg,p,H,hn,o1,o2,tl,t1,t2,t3,t4,hgH,hpc,hp1⟩:=hI;have hw: ∀ (s:ByteArray)(h:Heap),PCall Tryz.prog 136 [sPV s] h fun r h'=>r= .agg (wordM s).cells∧h'=h:=fun s h=>word_c;simp only[wordM,Sx.cells,Sx.rows]at hw;have o2H:H.obj (h.next+1)=_:=(t4 _ (by omega)).trans o2;have n2:(h.next+1=H.next)=False:=(by simp;omega);have hpr:(Sx.rows ([]:List Sx)).length=0:=rfl;have hpush:=fun X:Sx=>WrI.push (L:=[]) (X:=X) (m:=1) hn o1 t3 t4 hgH rfl;generalize Sx.rows []=R at t1 hpr hpush;replace zz:=uu10 k6 yF o2 o2H n2 t1 t2 hpr hpc hp1;refine wy zz ?_;replace zz:=uu4 k6 yF o2 o2H;(first|refine uV zz (hw op _) ?_|refine uA zz (hw op _) ?_);replace zz:=uu10 k6 yF o2 o2H n2 t1 t2 hpr hpc hp1;repeat'(first|refine cK ?_|refine nK ?_|refine uB zz ?_|(rw[if_pos];rotate_left 1;omega;simp(maxSteps:=2000000) only[Ty.w,simprocAttr,k6,Bool.not_false,o2,o2H,n2,t1,t2,hpr,hpc,hp1])|apply zI)
        (simp(maxSteps:=2000000) only[Ty.w,simprocAttr,Ty.all,Fm.cells])
        exact hpush (wordM op)
       |true=>
        cases q6:decide ((kids.length:Int)>0)with
        |false=>
         have hk0:kids.isEmpty=true:=(by cases kids with|nil=>rfl|cons a l=>simp at q6);rw[if_pos (by rw[n6,k6,hk0];try rfl)];replace zz:=uu4 k6 q6 hlK yT;refine wt zz ?_
         (simp(maxSteps:=2000000) only[Ty.w,simprocAttr,Ty.all,Fm.cells])
         exact hI
        |true=>
         have hk0:kids.isEmpty=false:=(by cases kids with|nil=>simp at q6|cons a l=>rfl);rw[if_neg (by rw[hk0];simp)];obtain⟨hg,p,H,hn,o1,o2,tl,t1,t2,t3,t4,hgH,hpc,hp1⟩:=hI;have hw: ∀ (s:ByteArray)(h:Heap),PCall Tryz.prog 136 [sPV s] h fun r h'=>r= .agg (wordM s).cells∧h'=h:=fun s h=>word_c;simp only[wordM,Sx.cells,Sx.rows]at hw;have o2H:H.obj (h.next+1)=_:=(t4 _ (by omega)).trans o2;have n2:(h.next+1=H.next)=False:=(by simp;omega);have hpr:(Sx.rows ([]:List Sx)).length=0:=rfl;have hpush:=fun X:Sx=>WrI.push (L:=[]) (X:=X) (m:=1) hn o1 t3 t4 hgH rfl;generalize Sx.rows []=R at t1 hpr hpush;replace zz:=uu12 k6 q6 hlK yT o2 o2H n2 t1 t2 hpr hpc hp1;refine wy zz ?_;replace zz:=uu6 k6 q6 hlK yT o2 o2H;(first|refine uV zz (hw op _) ?_|refine uA zz (hw op _) ?_);replace zz:=uu12 k6 q6 hlK yT o2 o2H n2 t1 t2 hpr hpc hp1;repeat'(first|refine cK ?_|refine nK ?_|refine uB zz ?_|(rw[if_pos];rotate_left 1;omega;simp(maxSteps:=2000000) only[Ty.w,simprocAttr,k6,q6,hlK,Bool.not_true,o2,o2H,n2,t1,t2,hpr,hpc,hp1])|apply zI)
         (simp(maxSteps:=2000000) only[Ty.w,simprocAttr,Ty.all,Fm.cells])
         exact hpush (wordM op)
      ·(try clear zz);clear hI;obtain⟨L0,hL0,hl0⟩: ∃ L0:List Sx,(if(bEq op opAnd&&kids.isEmpty)=true then[]else[wordM op])=L0∧L0.length≤1:=⟨_,rfl,by split<;>simp⟩;rw[hL0];rintro S h' ⟨g1,g2,g3,hI⟩;simp only[Fm.cells]at g1;refine xH 13 (uu3 g1 g2 g3) ?_;refine⟨?_⟩;refine a_cut (fun S h'=>S 1= .cptr (Fm.mk op name args params exprs kids).cells∧S 2= .ptr h.next 0 0∧S 3= .ptr (h.next+1) 0 0∧WrI h (L0++(if isQ op=true then[listM (paramsW params)]else[])) h') ?_ ?_
       ·have n7:bEq op opAll=(op.data.toList==(#[102,111,114,97,108,108]:Array UInt8).toList):=rfl;have n8:bEq op opSome=(op.data.toList==(#[101,120,105,115,116,115]:Array UInt8).toList):=rfl;cases k7:(op.data.toList==(#[102,111,114,97,108,108]:Array UInt8).toList)with
        |true=>
         rw[if_pos (by simp[isQ,n7,n8,k7])];obtain⟨hg,p,H,hn,o1,o2,tl,t1,t2,t3,t4,hgH,hpc,hp1⟩:=hI;have hwp:=writeParams_c (l:=params) hpl;have hli: ∀ h:Heap,PCall Tryz.prog 175 [.imm 6 (Sx.rows (paramsW params))] h fun r h'=>r= .agg (listM (paramsW params)).cells∧h'=h:=fun h=>list_c rfl (fun _=>frz_imm (sxs_in _ _));generalize hX:listM (paramsW params)=X at hli⊢;(try clear zz);clear hX;generalize Sx.rows (paramsW params)=PR at hwp hli;have o2H:H.obj (h.next+1)=_:=(t4 _ (by omega)).trans o2;have n2:(h.next+1=H.next)=False:=(by simp;omega);have hpr:=Sx.rows_len L0;have hpush:=WrI.push (L:=L0) (X:=X) (m:=L0.length+1) hn o1 t3 t4 hgH rfl;generalize Sx.rows L0=R at t1 hpr hpush;have hb:(L0.length+1)*72≤140737488355328:=(by omega);obtain⟨ki,va,li,co,te,ks⟩:=X;simp only[Sx.cells]at hli hpush;replace zz:=uu12 g1 g2 g3 k7 o2 o2H n2 t1 t2 hpr hpc (uu hp1 hb);refine wy zz ?_;replace zz:=uu6 g1 g2 g3 k7 o2 o2H;(first|refine uV zz (hwp _) ?_|refine uA zz (hwp _) ?_);replace zz:=uu12 g1 g2 g3 k7 o2 o2H n2 t1 t2 hpr hpc (uu hp1 hb);refine wy zz ?_;replace zz:=uu6 g1 g2 g3 k7 o2 o2H;(first|refine uV zz (hli _) ?_|refine uA zz (hli _) ?_);replace zz:=uu12 g1 g2 g3 k7 o2 o2H n2 t1 t2 hpr hpc (uu hp1 hb);repeat'(first|refine cK ?_|refine nK ?_|refine uB zz ?_|(rw[if_pos];rotate_left 1;omega;simp(maxSteps:=2000000) only[Ty.w,simprocAttr,g1,g2,g3,k7,o2,o2H,n2,t1,t2,hpr,hpc,hp1,hb])|apply zI)
         (simp(maxSteps:=2000000) only[Ty.w,simprocAttr,Ty.all,g1,g2,g3,Fm.cells])
         exact hpush
        |false=>
         cases k8:(op.data.toList==(#[101,120,105,115,116,115]:Array UInt8).toList)with
         |true=>
          rw[if_pos (by simp[isQ,n7,n8,k8])];obtain⟨hg,p,H,hn,o1,o2,tl,t1,t2,t3,t4,hgH,hpc,hp1⟩:=hI;have hwp:=writeParams_c (l:=params) hpl;have hli: ∀ h:Heap,PCall Tryz.prog 175 [.imm 6 (Sx.rows (paramsW params))] h fun r h'=>r= .agg (listM (paramsW params)).cells∧h'=h:=fun h=>list_c rfl (fun _=>frz_imm (sxs_in _ _));generalize hX:listM (paramsW params)=X at hli⊢;(try clear zz);clear hX;generalize Sx.rows (paramsW params)=PR at hwp hli;have o2H:H.obj (h.next+1)=_:=(t4 _ (by omega)).trans o2;have n2:(h.next+1=H.next)=False:=(by simp;omega);have hpr:=Sx.rows_len L0;have hpush:=WrI.push (L:=L0) (X:=X) (m:=L0.length+1) hn o1 t3 t4 hgH rfl;generalize Sx.rows L0=R at t1 hpr hpush;have hb:(L0.length+1)*72≤140737488355328:=(by omega);obtain⟨ki,va,li,co,te,ks⟩:=X;simp only[Sx.cells]at hli hpush;replace zz:=uu12 g1 g2 g3 k7 k8 o2 o2H n2 t1 t2 hpr (uu3 hpc hp1 hb);refine wy zz ?_;replace zz:=uu7 g1 g2 g3 k7 k8 o2 o2H;(first|refine uV zz (hwp _) ?_|refine uA zz (hwp _) ?_);replace zz:=uu12 g1 g2 g3 k7 k8 o2 o2H n2 t1 t2 hpr (uu3 hpc hp1 hb);refine wy zz ?_;replace zz:=uu7 g1 g2 g3 k7 k8 o2 o2H;(first|refine uV zz (hli _) ?_|refine uA zz (hli _) ?_);replace zz:=uu12 g1 g2 g3 k7 k8 o2 o2H n2 t1 t2 hpr (uu3 hpc hp1 hb);repeat'(first|refine cK ?_|refine nK ?_|refine uB zz ?_|(rw[if_pos];rotate_left 1;omega;simp(maxSteps:=2000000) only[Ty.w,simprocAttr,g1,g2,g3,k7,k8,o2,o2H,n2,t1,t2,hpr,hpc,hp1,hb])|apply zI)
          (simp(maxSteps:=2000000) only[Ty.w,simprocAttr,Ty.all,g1,g2,g3,Fm.cells])
          exact hpush
         |false=>
          rw[if_neg (by simp[isQ,n7,n8,k7,k8]),List.append_nil];replace zz:=uu5 g1 g2 g3 k7 k8;refine wt zz ?_
          (simp(maxSteps:=2000000) only[Ty.w,simprocAttr,Ty.all,g1,g2,g3,Fm.cells])
          exact hI
       ·(try clear zz);clear hI g1 g2 g3;obtain⟨L1,hL1,hl1⟩: ∃ L1:List Sx,L0++(if isQ op=true then[listM (paramsW params)]else[])=L1∧L1.length≤2:=⟨_,rfl,by split<;>simp<;>omega⟩;rw[hL1];rw[fmWs_map];(try clear zz);clear hL1 hL0 hl0;rintro S h' ⟨g1,g2,g3,hI⟩;simp only[Fm.cells]at g1;have hrl: ∀ k,(L1++(kids.take k).map fmW).length≤1048578:=fun k=>(by simp;omega);replace zz:=uu4 g1 g2 g3 hlK;refine wt zz ?_;refine a_loop (fun c S h'=>S 2= .ptr h.next 0 0∧S 3= .ptr (h.next+1) 0 0∧S 75= .imm 6 (Fm.rows kids)∧S 76= .sc (.int .i64 kids.length)∧ ∃ k:Nat,S 77= .sc (.int .i64 k)∧k≤kids.length∧c=kids.length-k∧WrI h (L1++(kids.take k).map fmW) h') kids.length ?_ ?_
        ·simp only[Ty.w,simprocAttr,g2,g3];refine⟨0,rfl,by omega,rfl,?_⟩;simpa using hI
        ·(try clear zz);clear hI g1 g2 g3;rintro c S h' ⟨g2,g3,g75,g76,k,g77,hk,rfl,hI⟩;by_cases hlt:k<kids.length
         ·have hdk:decide ((k:Int)<(kids.length:Int))=true:=(by simp;omega);have w7:IntKind.i64.wrap ((k:Int)+1)=k+1:=(by rw[wrap64 (by omega) (by omega)]);obtain⟨x,hx⟩: ∃ x,kids[k]? =some x:=⟨_,List.getElem?_eq_getElem hlt⟩;have hmem:=List.mem_of_getElem? hx;have hr:=Fm.rows_get hx;have hcx:=ih x hmem (hks x hmem) (hsk x hmem);have hL:L1++(kids.take (k+1)).map fmW=L1++(kids.take k).map fmW++[fmW x]:=(by rw[List.take_add_one,hx];simp);have hrk:=hrl k;generalize L1++(kids.take k).map fmW=L2 at hI hrk hL;obtain⟨hg,p,H,hn,o1,o2,tl,t1,t2,t3,t4,hgH,hpc,hp1⟩:=hI;generalize fmW x=X at hcx hL;obtain⟨xo,xn,xa,xp,xe,xk⟩:=x;obtain⟨ki,va,li,co,te,ks⟩:=X;simp only[Fm.cells,Sx.cells]at hr hcx;(try clear zz);clear t1 t2 t3 t4 hgH H;have hG2:Grow h ((h'.new (.arr 6 [[.sc (.string ⟨#[]⟩),.sc (.string ⟨#[]⟩),.sc (.slice none 0 0),.sc (.slice none 0 0),.sc (.slice none 0 0),.sc (.slice none 0 0)]])).set h'.next (.arr 6 [[sPV xo,sPV xn,.imm 1 (strRows xa),.imm 2 (pmRows xp),.imm 5 (Ex.rows xe),.imm 6 (Fm.rows xk)]])):=(hg.new _).set hg.le _;have m1:¬ h.next=h'.next:=by omega
          have m2:¬ h.next+1=h'.next:=by omega
          have m2':(h.next+1=h'.next)=False:=eq_false m2;have tl2:=tl.up (h':=((h'.new (.arr 6 [[.sc (.string ⟨#[]⟩),.sc (.string ⟨#[]⟩),.sc (.slice none 0 0),.sc (.slice none 0 0),.sc (.slice none 0 0),.sc (.slice none 0 0)]])).set h'.next (.arr 6 [[sPV xo,sPV xn,.imm 1 (strRows xa),.imm 2 (pmRows xp),.imm 5 (Ex.rows xe),.imm 6 (Fm.rows xk)]]))) (by simp[Heap.set,Heap.new]) fun j _ hj=>(by simp only[Heap.set,Heap.new];rw[if_neg (by omega),if_neg (by omega)]);obtain⟨H,t1,t2,t3,t4,t5⟩:=tl2.tail;have hgH:=t5 h ⟨hG2.le,hG2.old⟩ (by omega);have o1x:((h'.new (.arr 6 [[.sc (.string ⟨#[]⟩),.sc (.string ⟨#[]⟩),.sc (.slice none 0 0),.sc (.slice none 0 0),.sc (.slice none 0 0),.sc (.slice none 0 0)]])).set h'.next (.arr 6 [[sPV xo,sPV xn,.imm 1 (strRows xa),.imm 2 (pmRows xp),.imm 5 (Ex.rows xe),.imm 6 (Fm.rows xk)]])).obj h.next=some (.arr 6 [[.sc (.int .i64 0),.sc (.int .i64 0),.sc (.int .i64 0),.sc (.int .i64 0),.sc (.string ⟨#[]⟩),.sc (.slice none 0 0)]]):=by simp only[Heap.set,Heap.new,m1,if_false];exact o1
          have o2H:H.obj (h.next+1)=_:=(t4 _ (by omega)).trans (show((h'.new (.arr 6 [[.sc (.string ⟨#[]⟩),.sc (.string ⟨#[]⟩),.sc (.slice none 0 0),.sc (.slice none 0 0),.sc (.slice none 0 0),.sc (.slice none 0 0)]])).set h'.next (.arr 6 [[sPV xo,sPV xn,.imm 1 (strRows xa),.imm 2 (pmRows xp),.imm 5 (Ex.rows xe),.imm 6 (Fm.rows xk)]])).obj (h.next+1)=_ by simp only[Heap.set,Heap.new,m2,if_false];exact o2);have t3':H.next=h'.next+1:=by rw[t3];simp[Heap.new,Heap.set]
          have n2:(h.next+1=H.next)=False:=(by simp;omega);have hpr:=Sx.rows_len L2;have hpush:=WrI.push (h':=((h'.new (.arr 6 [[.sc (.string ⟨#[]⟩),.sc (.string ⟨#[]⟩),.sc (.slice none 0 0),.sc (.slice none 0 0),.sc (.slice none 0 0),.sc (.slice none 0 0)]])).set h'.next (.arr 6 [[sPV xo,sPV xn,.imm 1 (strRows xa),.imm 2 (pmRows xp),.imm 5 (Ex.rows xe),.imm 6 (Fm.rows xk)]]))) (L:=L2) (X:= .mk ki va li co te ks) (m:=L2.length+1) (by simp only[Heap.set,Heap.new];omega) o1x t3 t4 ⟨hgH.1,hgH.2⟩ rfl;have hb:(L2.length+1)*72≤140737488355328:=(by omega);simp only[Sx.cells]at hpush;(try clear zz);clear tl tl2 t5;generalize Sx.rows L2=R at t1 hpr hpush;replace zz:=uu12 g2 g3 g75 g76 g77 hdk hr m2' o2 o2H n2 (uu6 t1 t2 hpr hpc hp1 hb);refine wy zz ?_;replace zz:=uu8 g2 g3 g75 g76 g77 m2' o2 o2H;(first|refine uV zz (hcx _) ?_|refine uA zz (hcx _) ?_);replace zz:=uu12 g2 g3 g75 g76 g77 w7 m2' o2 o2H n2 t1 (uu5 t2 hpr hpc hp1 hb);(repeat'(first|refine cK ?_|refine nK ?_|refine uR zz ?_|(refine uN hK ?_;clear hK)|refine uB zz ?_|(rw[if_pos];rotate_left 1;omega;simp(maxSteps:=2000000) only[Ty.w,simprocAttr,g2,g3,g75,g76,g77,w7,m2',o2,o2H,n2,t1,t2,hpr,hpc,hp1,hb])|apply zI));exact⟨kids.length-(k+1),by omega,k+1,by simp,by omega,rfl,by rw[hL];exact hpush⟩
         ·have hdk:decide ((k:Int)<(kids.length:Int))=false:=(by simp;omega);have hke:k=kids.length:=(by omega);subst hke;rw[List.take_length]at hI;obtain⟨hg,p,H,hn,o1,o2,tl,t1,t2,t3,t4,hgH,hpc,hp1⟩:=hI;replace zz:=uu9 g2 g3 g75 g76 g77 hdk o1 o2 hpc;(repeat'(first|refine cK ?_|refine nK ?_|refine a_seq fun K hK=>?_|refine uR zz ?_|refine uT zz ?_|refine uX ?_|refine uC1 zz ?_|(refine uN hK ?_;clear hK)|(clear hK;refine uN hK ?_;clear hK)|(rw[if_pos];rotate_left 1;omega;simp(maxSteps:=2000000) only[Ty.w,simprocAttr,g2,g3,g75,g76,g77,hdk,o1,o2,hpc])|apply zI));refine⟨?_,hg.set (Nat.le_refl _) _⟩;have tl2:Tl (h'.set h.next (.arr 6 [[.sc (.int .i64 3),.sc (.int .i64 0),.sc (.int .i64 0),.sc (.int .i64 0),.sc (.string ⟨#[]⟩),p]])) (h.next+2) 6 p (Sx.rows (L1++kids.map fmW)):=tl.up (Nat.le_refl _) fun j hj _=>(by simp only[Heap.set];rw[if_neg (by omega)]);simp only[listM,Sx.cells,FrzTo,FrzL];exact⟨_,rfl,rfl,rfl,rfl,rfl,rfl,by have:=tl_frzX (Tl.low tl2 (show h.next≤h.next+2 by omega));simpa only[FrzTo]using this,trivial⟩
theorem paramsW_ok: ∀ l:List Pm,(∀ p∈l,p.ok)→Sx.oks (paramsW l)
 |[],_=>by simp[paramsW,Sx.oks]
 |p::l,h=>by
  have hp:=h p (by simp);simp only[paramsW,Sx.oks];exact⟨wordM_ok hp.1,wordM_ok (by simp[bigN,ByteArray.size]),wordM_ok hp.2,paramsW_ok l fun q hq=>h q (by simp[hq])⟩
theorem parts_cmp{op name:ByteArray}{args:List ByteArray}{params:List Pm}{ne nk:Nat}(h1:¬ bEq op opAtom=true)(h2:¬ bEq op opSame=true)(h3:isCmp op=true)(hp:partsOk op name args params ne nk=true):ne=2:=by
 unfold partsOk shapeOf at hp;rw[if_neg h1,if_neg h2]at hp;simp only[isCmp,Bool.or_eq_true]at h3;by_cases k1:bEq op opLt=true
 ·simp [k1]at hp;omega
 by_cases k2:bEq op opLe=true
 ·simp [k1,k2]at hp;omega
 have k3:bEq op opEq=true:=by rcases h3 with(h3|h3)|h3<;>simp_all
 simp[k1,k2,k3]at hp;omega
theorem fmW_ok: ∀ f:Fm,f.ok→f.small→shapedF f=true→(fmW f).ok:=by
 refine Fm.ind ?_;intro op name args params exprs kids ih hok hsm hsh;simp only[Fm.ok]at hok;simp only[Fm.small]at hsm;simp only[shapedF,Bool.and_eq_true]at hsh;obtain⟨⟨hpo,_⟩,hsh⟩:=hsh;rw[shapedFs_iff]at hsh;obtain⟨hop,hname,hargs,⟨_,hps⟩,⟨_,hes⟩,_,hks⟩:=hok;obtain⟨hal,hpl,hse,hkl,hsk⟩:=hsm;rw[Fm.oks_iff]at hks;rw[Ex.oks_iff]at hes;have hse:=Ex.smalls_iff.1 hse;have hsk:=Fm.smalls_iff.1 hsk;unfold fmW;split
 ·exact wordsM_ok hname hal hargs.2
 split
 ·exact wordsM_ok (by simp[opEq,bigN,ByteArray.size]) hal hargs.2
 split
 ·rename_i c1 c2 c3;have h2:=parts_cmp c1 c2 c3 hpo;refine listM_ok (by simp only[List.length_cons,List.length_map];unfold bigN;omega) (Sx.oks_iff.2 ?_);intro k hk;simp only[List.mem_cons,List.mem_map]at hk;rcases hk with rfl|⟨e,he,rfl⟩
  ·exact wordM_ok hop
  ·exact exW_ok e (hes e he) (hse e he)
 ·rw [fmWs_map];refine listM_ok ?_ (Sx.oks_iff.2 ?_)
  ·simp only[List.length_append,List.length_map];have a1:(if(bEq op opAnd&&kids.isEmpty)=true then[]else[wordM op]).length≤1:=(by split<;>simp);have a2:(if isQ op=true then[listM (paramsW params)]else[]).length≤1:=(by split<;>simp);unfold bigN;omega
  ·intro k hk;simp only[List.mem_append,List.mem_map]at hk;rcases hk with(hk|hk)|⟨e,he,rfl⟩
   ·split at hk
    ·simp at hk
    ·simp only[List.mem_singleton]at hk;subst hk;exact wordM_ok hop
   ·split at hk
    ·simp only[List.mem_singleton]at hk;subst hk;exact listM_ok (by rw[paramsW_len];unfold bigN;omega) (paramsW_ok _ hps)
    ·simp at hk
   ·exact ih e he (hks e he) (hsk e he) (hsh e he)
theorem formedMs_shaped: ∀ (l:List Ex)(d n:Nat),(formedMs l d n).1=true→ ∀ e∈l,shapedE e=true
 |[],_,_,_=>by simp
 |e::l,d,n,h=>by
  unfold formedMs at h;have h1:=formedM_shaped e d n;split at h
  ·rename_i c he;rw[he]at h1;intro x hx;rcases List.mem_cons.1 hx with rfl|hx
   ·exact h1 rfl
   ·exact formedMs_shaped l d c h x hx
  ·simp at h
mutual
theorem shapedM_F: ∀ (f:Fm)(d n:Nat),(shapedM f d n).1=true→shapedF f=true
 | .mk op name args params exprs kids,d,n,h=>by
  unfold shapedM at h;split at h
  ·split at h
   ·rename_i hp;have h1:=formedMs_shaped exprs (d+1) (n+1);split at h
    ·rename_i c he;rw[he]at h1;simp only[shapedF,Bool.and_eq_true,List.all_eq_true];exact⟨⟨hp,h1 rfl⟩,shapedMs_F kids (d+1) c h⟩
    ·simp at h
   ·simp at h
  ·simp at h
theorem shapedMs_F: ∀ (l:List Fm)(d n:Nat),(shapedMs l d n).1=true→shapedFs l=true
 |[],_,_,_=>by simp[shapedFs]
 |k::l,d,n,h=>by
  unfold shapedMs at h;have h1:=shapedM_F k d n;split at h
  ·rename_i c he;rw[he]at h1;simp only[shapedFs,Bool.and_eq_true];exact⟨h1 rfl,shapedMs_F l d c h⟩
  ·simp at h
end
theorem fvalid_c{f:Fm}(hok:f.ok)(hsm:f.small)(h:Heap):PCall Tryz.prog 161 [.agg f.cells] h fun r h'=>r= .sc (.bool (validF f))∧h'=h:=by
 have hf:=shaped_c f hok 0 0 (by omega) (by omega) h.next (h.new (.arr 1 [[.sc (.int .i64 0)]])) (by simp[Heap.new,cntO])
 have hsh:=shapedM_F f 0 0;have hx:=fmW_ok f hok hsm;have hw0:=write_c f hsm;have hv:validF f=((shapedM f 0 0).1&&(svalid (fmW f) 0 0).1):=rfl;rw[hv];refine PCall.quiet Ty.hb_161 ?_;generalize shapedM f 0 0=V at hf hsh⊢;obtain⟨b,c⟩:=V;cases b with
 |false=>
  obtain⟨op,name,args,params,exprs,kids⟩:=f;simp only[Fm.cells,Int.natCast_zero]at hf⊢;refine uG (ow:=fun t=>t==5) (wf:=fun _=>false) Tryz.func161 Tryz.ntmps161 Tryz.results161 Ty.hb_161 ?_;refine wt trivial ?_;refine owp_useH (hf) (by(try simp only[Ty.w,simprocAttr]);try rfl) ?_;simp(maxSteps:=2000000) only[Ty.w,simprocAttr];refine wt trivial ?_;exact((Grow.refl h).new _).set (Nat.le_refl _) _
 |true=>
  have hw:=hw0 (hsh rfl);have hvv:=svalid_c (hx (hsh rfl));try clear zz
  clear hw0;generalize fmW f=X at hw hvv⊢;obtain⟨op,name,args,params,exprs,kids⟩:=f;obtain⟨ki,va,li,co,te,ks⟩:=X;simp only[Fm.cells,Sx.cells,Int.natCast_zero]at hf hw hvv⊢;refine uG (ow:=fun t=>t==5) (wf:=fun _=>false) Tryz.func161 Tryz.ntmps161 Tryz.results161 Ty.hb_161 ?_;refine wt trivial ?_;refine owp_useH (hf) (by(try simp only[Ty.w,simprocAttr]);try rfl) ?_;simp(maxSteps:=2000000) only[Ty.w,simprocAttr];refine wt trivial ?_;refine uU trivial (hw _) ?_;refine wt trivial ?_;refine uU trivial (hvv _) ?_;refine wt trivial ?_;exact((Grow.refl h).new _).set (Nat.le_refl _) _
theorem fWrite_c{f:Fm}(hok:f.ok)(hsm:f.small)(h:Heap):PCall Tryz.prog 141 [.agg f.cells] h fun r h'=>r=(if validF f then .tup [.agg (fmW f).cells,.sc .nilIface]else .tup [.agg zeroSx.cells,errV 2])∧h'=h:=by
 have hv:=fvalid_c hok hsm;refine PCall.frz Ty.hb_141 ?_;cases hb:validF f with
 |false=>
  rw[hb]at hv;obtain⟨op,name,args,params,exprs,kids⟩:=f;simp only[Fm.cells,Bool.false_eq_true,if_false]at hv⊢;refine uG0 Tryz.func141 Tryz.ntmps141 Tryz.results141 Ty.hb_141 ?_;refine wt trivial ?_;refine uU yF (hv _) ?_;refine wt yF ?_;refine⟨?_,((Grow.refl h).new _).set (Nat.le_refl _) _⟩;simp only[zeroSx,errV,Sx.cells,Sx.rows,FrzTo,FrzL];exact⟨_,rfl,⟨_,rfl,rfl,rfl,rfl,rfl,rfl,.inr (.inl ⟨rfl,.inr rfl⟩),trivial⟩,rfl,trivial⟩
 |true=>
  rw[hb]at hv;have hsh:=shapedM_F f 0 0 (by unfold validF at hb;simp only[Bool.and_eq_true]at hb;exact hb.1);have hw:=write_c f hsm hsh;have hfz:=fun(n:Nat)(h:Heap)=>sx_frz n h (fmW f);generalize fmW f=X at hw hfz⊢;obtain⟨op,name,args,params,exprs,kids⟩:=f;obtain⟨ki,va,li,co,te,ks⟩:=X;simp only[Fm.cells,Sx.cells,if_true]at hv hw hfz⊢;refine uG0 Tryz.func141 Tryz.ntmps141 Tryz.results141 Ty.hb_141 ?_;refine wt trivial ?_;refine uU yT (hv _) ?_;refine wt yT ?_;refine uU trivial (hw _) ?_;refine wt trivial ?_;refine⟨?_,((Grow.refl h).new _).set (Nat.le_refl _) _⟩;simp only[FrzTo,FrzL];exact⟨_,rfl,⟨_,rfl,hfz _ _⟩,rfl,trivial⟩
end Go.Proofs.YtblgchkahpgdjaaGreat
namespace Go.Proofs.YtblgchkahpgdjaaGreat
open Go.AM
set_option maxHeartbeats 2000000
set_option maxRecDepth 20000
def kindOf:Sx→Int
 | .mk k _ _ _ _ _=>k
def textOf:Sx→ByteArray
 | .mk _ _ _ _ t _=>t
def termsM:List Sx→List ByteArray × Int
 |[]=>([],0)
 |x::l=>bif kindOf x==1 then(bif termB (textOf x)then(match termsM l with
  |(t,c)=>bif c==0 then(textOf x::t,0)else([],c))else([],8))else([],2)
end Go.Proofs.YtblgchkahpgdjaaGreat
namespace Go.Proofs.YtblgchkahpgdjaaGreat
open Go.AM
def isPm(w:ByteArray):Bool:=bEq w opPls||bEq w opMin||bEq w opTim
def zeroEx:Ex:= .mk ⟨#[]⟩ ⟨#[]⟩ 0 [] []
def exprP:Sx→Ex × Int
 | .mk kind value _ _ _ kids=>
  if kind=2 then(.mk opNum ⟨#[]⟩ value [] [],0)
  else if kind=3 then(match kids with
   | x :: rest => bif kindOf x == 1 then
     (bif isPm (textOf x) then (match rest with
      |[a,b]=>(match exprP a with
       | (ea, ca) => bif ca == 0 then (match exprP b with
        |(eb,cb)=>bif cb==0 then(.mk (textOf x) ⟨#[]⟩ 0 [] [ea,eb],0)else(zeroEx,cb))else(zeroEx,ca))
      |_=>(zeroEx,2))
     else bif nameB (textOf x)then(match termsM rest with
      |(t,c)=>bif c==0 then(.mk opFlu (textOf x) 0 t [],0)else(zeroEx,c))else(zeroEx,8))
    else(zeroEx,2)
   |[]=>(zeroEx,2))else(zeroEx,2)
termination_by x=>SizeOf.sizeOf x
decreasing_by all_goals(simp_wf;omega)
theorem bEq_eq{a b:ByteArray}(h:bEq a b=true):a=b:=ba_ext (by simpa[bEq]using h)
end Go.Proofs.YtblgchkahpgdjaaGreat
namespace Go.Proofs.YtblgchkahpgdjaaGreat
open Go.AM
set_option maxHeartbeats 4000000
set_option maxRecDepth 20000
theorem ex_in(n:Nat): ∀ e:Ex,inNL n e.cells:=by
 have hs: ∀ l:List ByteArray,inNR n (strRows l):=by
  intro l
  induction l with
  |nil=>simp only[strRows,List.map_nil,inNR]
  |cons a l ih=>simp only[strRows,List.map_cons,inNR,inNL,inN,and_true,true_and]at ih⊢;exact ih
 refine Ex.ind ?_;intro op name v args kids ih;have:inNR n (Ex.rows kids):=by
  try clear zz
  clear op name v args
  induction kids with
  |nil=>simp only[Ex.rows,inNR]
  |cons k ks ih2=>
   simp only[Ex.rows,inNR];exact⟨ih k (by simp),ih2 fun q hq=>ih q (by simp[hq])⟩
 simp only[Ex.cells,inNL,inN,and_true,true_and];exact⟨hs args,this⟩
theorem strs_in(n:Nat)(l:List ByteArray):inNR n (strRows l):=by
 induction l with
 |nil=>simp only[strRows,List.map_nil,inNR]
 |cons a l ih=>simp only[strRows,List.map_cons,inNR,inNL,inN,and_true,true_and]at ih⊢;exact ih
end Go.Proofs.YtblgchkahpgdjaaGreat
namespace Go.Proofs.YtblgchkahpgdjaaGreat
open Go.AM
set_option maxHeartbeats 4000000
set_option maxRecDepth 20000
theorem nsucc(n:Nat):(n=n+1)=False:=by simp
theorem fEqE_c{g:FuncId}{l m:List Ex}(hl:l.length≤bigN)(hf: ∀ a∈l, ∀ b∈m, ∀ h:Heap,PCall Tryz.prog g [.agg a.cells,.agg b.cells] h fun r h'=>r= .sc (.bool (a.same b))∧h'=h)(h:Heap):
  PCall Tryz.prog 138 [.imm 5 (Ex.rows l),.imm 5 (Ex.rows m),.sc (.func (.func g) #[] #[])] h fun r h'=>r= .sc (.bool (Ex.sames l m))∧h'=h:=by
 unfold bigN at hl;have hll:=Ex.rows_len l;have hlm:=Ex.rows_len m;refine PCall.quiet Ty.hb_138 ?_;refine uG0 Tryz.func138 Tryz.ntmps138 Tryz.results138 Ty.hb_138 ?_;cases hne:((l.length:Int) !=m.length)with
 |true=>
  have:Ex.sames l m=false:=Ex.sames_len (by simp at hne;omega);refine wt (uu3 hll hlm hne) ?_;rw[this];exact⟨rfl,Grow.refl _⟩
 |false=>
  have hlen:l.length=m.length:=by simp at hne;omega
  refine wt (uu3 hll hlm hne) ?_;refine a_loop (fun c S h'=>Grow h h'∧S 1= .imm 5 (Ex.rows m)∧S 2= .sc (.func (.func g) #[] #[])∧S 15= .imm 5 (Ex.rows l)∧S 16= .sc (.int .i64 l.length)∧ ∃ k:Nat,S 17= .sc (.int .i64 k)∧k≤l.length∧c=l.length-k∧Ex.sames l m=Ex.sames (l.drop k) (m.drop k)) l.length ?_ ?_
  ·simp only[Ty.w,simprocAttr];exact⟨Grow.refl _,0,rfl,by omega,rfl,by simp⟩
  ·rintro c S h' ⟨hg,g1,g2,g15,g16,k,gk,hkl,rfl,hinv⟩;by_cases hlt:k<l.length
   ·have hd:decide ((k:Int)<(l.length:Int))=true:=(by simp;omega);have w7:IntKind.i64.wrap ((k:Int)+1)=k+1:=(by rw[wrap64 (by omega) (by omega)]);obtain⟨a,hx⟩: ∃ a,l[k]? =some a:=⟨_,List.getElem?_eq_getElem hlt⟩;obtain⟨b,hy⟩: ∃ b,m[k]? =some b:=⟨_,List.getElem?_eq_getElem (by omega)⟩;have hc:=hf a (List.mem_of_getElem? hx) b (List.mem_of_getElem? hy);rw[drop_of_get hx,drop_of_get hy]at hinv;simp only[Ex.sames]at hinv;have hr:=Ex.rows_get hx;have hr2:=Ex.rows_get hy;generalize he:a.same b=e at hc hinv;(try clear zz);clear he hf;obtain⟨op2,name2,n2,args2,kids2⟩:=a;obtain⟨op3,name3,n3,args3,kids3⟩:=b;simp only[Ex.cells]at hr hr2 hc;replace zz:=uu12 g1 g2 g15 g16 gk hll hlm hd hr hr2 w7 @nsucc;refine wy zz ?_;refine owp_useV (by simp only[Ty.w,simprocAttr,g2]) (hc _) (by simp only[Ty.w,simprocAttr,g1,g2,g15,g16,gk];try rfl) ?_;simp(maxSteps:=2000000) only[Ty.w,simprocAttr,Ty.all];cases e with
    |false=>
     replace zz:=uu7 g1 g2 g15 g16 gk w7 yF;refine wy zz ?_;rw[hinv];exact⟨rfl,(((hg.new _).set hg.le _).new _).set (Nat.le_succ_of_le hg.le) _⟩
    |true=>
     replace zz:=uu7 g1 g2 g15 g16 gk w7 yT;refine wy zz ?_;rw[Bool.true_and]at hinv;exact⟨l.length-(k+1),by omega,(((hg.new _).set hg.le _).new _).set (Nat.le_succ_of_le hg.le) _,k+1,by simp,by omega,rfl,hinv⟩
   ·have hd:decide ((k:Int)<(l.length:Int))=false:=(by simp;omega);rw[List.drop_eq_nil_of_le (by omega),List.drop_eq_nil_of_le (by omega)]at hinv;simp only[Ex.sames]at hinv;replace zz:=uu7 g1 g2 g15 g16 gk hll hd;refine wt zz ?_;rw[hinv];exact⟨rfl,hg⟩
theorem fsameE_c: ∀ a:Ex,a.ok→ ∀ b:Ex,b.ok→ ∀ h:Heap,PCall Tryz.prog 139 [.agg a.cells,.agg b.cells] h fun r h'=>r= .sc (.bool (a.same b))∧h'=h:=by
 refine Ex.ind ?_;intro op name n args kids ih hok;rintro⟨op3,name3,n3,args3,kids3⟩ hok3 h;simp only[Ex.ok]at hok hok3;obtain⟨_,_,_,⟨ha,_⟩,hk,hks⟩:=hok;obtain⟨_,_,_,⟨ha3,_⟩,hk3,hks3⟩:=hok3;rw[Ex.oks_iff]at hks hks3;have hfk: ∀ a∈kids, ∀ b∈kids3, ∀ h:Heap,PCall Tryz.prog 139 [.agg a.cells,.agg b.cells] h fun r h'=>r= .sc (.bool (a.same b))∧h'=h:=fun a ha b hb=>ih a ha (hks a ha) b (hks3 b hb);try clear zz
 clear ih;simp only[Ex.cells];refine uG0 Tryz.func139 Tryz.ntmps139 Tryz.results139 Ty.hb_139 ?_;cases e0:(op.data.toList==op3.data.toList)with
 |false=>
  have hs:(Ex.mk op name n args kids).same (.mk op3 name3 n3 args3 kids3)=false:=by simp only[Ex.same,bEq,e0,Bool.false_and,Bool.and_false]
  refine wt e0 ?_;rw[hs]
 |true=>
  cases e1:(name.data.toList==name3.data.toList)with
  |false=>
   have hs:(Ex.mk op name n args kids).same (.mk op3 name3 n3 args3 kids3)=false:=(by simp only[Ex.same,bEq,e0,e1,Bool.false_and,Bool.and_false]);refine wt (uu e0 e1) ?_;rw[hs]
  |true=>
   cases e2:(n==n3)with
   |false=>
    have hs:(Ex.mk op name n args kids).same (.mk op3 name3 n3 args3 kids3)=false:=(by simp only[Ex.same,bEq,e0,e1,e2,Bool.false_and,Bool.and_false]);refine wt (uu3 e0 e1 e2) ?_;rw[hs]
   |true=>
    refine wt (uu3 e0 e1 e2) ?_;cases e3:bsEq args args3 with
    |false=>
     have hs:(Ex.mk op name n args kids).same (.mk op3 name3 n3 args3 kids3)=false:=(by simp only[Ex.same,bEq,e0,e1,e2,e3,Bool.false_and,Bool.and_false]);replace zz:=uu4 e0 e1 e2 e3;refine uU zz (ftexts_c (l:=args) (m:=args3) ha ha3) ?_;refine wt zz ?_;rw[hs]
    |true=>
     replace zz:=uu4 e0 e1 e2 e3;refine uU zz (ftexts_c (l:=args) (m:=args3) ha ha3) ?_;refine wt zz ?_;have hs:(Ex.mk op name n args kids).same (.mk op3 name3 n3 args3 kids3)=Ex.sames kids kids3:=(by simp only[Ex.same,bEq,e0,e1,e2,e3,Bool.true_and]);replace zz:=uu4 e0 e1 e2 e3;refine uU zz (fEqE_c hk hfk _) ?_;refine wt zz ?_;rw[hs]
theorem fEqF_c{g:FuncId}{l m:List Fm}(hl:l.length≤bigN)(hf: ∀ a∈l, ∀ b∈m, ∀ h:Heap,PCall Tryz.prog g [.agg a.cells,.agg b.cells] h fun r h'=>r= .sc (.bool (a.same b))∧h'=h)(h:Heap):
  PCall Tryz.prog 140 [.imm 6 (Fm.rows l),.imm 6 (Fm.rows m),.sc (.func (.func g) #[] #[])] h fun r h'=>r= .sc (.bool (Fm.sames l m))∧h'=h:=by
 unfold bigN at hl;have hll:=Fm.rows_len l;have hlm:=Fm.rows_len m;refine PCall.quiet Ty.hb_140 ?_;refine uG0 Tryz.func140 Tryz.ntmps140 Tryz.results140 Ty.hb_140 ?_;cases hne:((l.length:Int) !=m.length)with
 |true=>
  have:Fm.sames l m=false:=Fm.sames_len (by simp at hne;omega);refine wt (uu3 hll hlm hne) ?_;rw[this];exact⟨rfl,Grow.refl _⟩
 |false=>
  have hlen:l.length=m.length:=by simp at hne;omega
  refine wt (uu3 hll hlm hne) ?_;refine a_loop (fun c S h'=>Grow h h'∧S 1= .imm 6 (Fm.rows m)∧S 2= .sc (.func (.func g) #[] #[])∧S 15= .imm 6 (Fm.rows l)∧S 16= .sc (.int .i64 l.length)∧ ∃ k:Nat,S 17= .sc (.int .i64 k)∧k≤l.length∧c=l.length-k∧Fm.sames l m=Fm.sames (l.drop k) (m.drop k)) l.length ?_ ?_
  ·simp only[Ty.w,simprocAttr];exact⟨Grow.refl _,0,rfl,by omega,rfl,by simp⟩
  ·rintro c S h' ⟨hg,g1,g2,g15,g16,k,gk,hkl,rfl,hinv⟩;by_cases hlt:k<l.length
   ·have hd:decide ((k:Int)<(l.length:Int))=true:=(by simp;omega);have w7:IntKind.i64.wrap ((k:Int)+1)=k+1:=(by rw[wrap64 (by omega) (by omega)]);obtain⟨a,hx⟩: ∃ a,l[k]? =some a:=⟨_,List.getElem?_eq_getElem hlt⟩;obtain⟨b,hy⟩: ∃ b,m[k]? =some b:=⟨_,List.getElem?_eq_getElem (by omega)⟩;have hc:=hf a (List.mem_of_getElem? hx) b (List.mem_of_getElem? hy);rw[drop_of_get hx,drop_of_get hy]at hinv;simp only[Fm.sames]at hinv;have hr:=Fm.rows_get hx;have hr2:=Fm.rows_get hy;generalize he:a.same b=e at hc hinv;(try clear zz);clear he hf;obtain⟨op2,name2,args2,params2,exprs2,kids2⟩:=a;obtain⟨op3,name3,args3,params3,exprs3,kids3⟩:=b;simp only[Fm.cells]at hr hr2 hc;replace zz:=uu12 g1 g2 g15 g16 gk hll hlm hd hr hr2 w7 @nsucc;refine wy zz ?_;refine owp_useV (by simp only[Ty.w,simprocAttr,g2]) (hc _) (by simp only[Ty.w,simprocAttr,g1,g2,g15,g16,gk];try rfl) ?_;simp(maxSteps:=2000000) only[Ty.w,simprocAttr,Ty.all];cases e with
    |false=>
     replace zz:=uu7 g1 g2 g15 g16 gk w7 yF;refine wy zz ?_;rw[hinv];exact⟨rfl,(((hg.new _).set hg.le _).new _).set (Nat.le_succ_of_le hg.le) _⟩
    |true=>
     replace zz:=uu7 g1 g2 g15 g16 gk w7 yT;refine wy zz ?_;rw[Bool.true_and]at hinv;exact⟨l.length-(k+1),by omega,(((hg.new _).set hg.le _).new _).set (Nat.le_succ_of_le hg.le) _,k+1,by simp,by omega,rfl,hinv⟩
   ·have hd:decide ((k:Int)<(l.length:Int))=false:=(by simp;omega);rw[List.drop_eq_nil_of_le (by omega),List.drop_eq_nil_of_le (by omega)]at hinv;simp only[Fm.sames]at hinv;replace zz:=uu7 g1 g2 g15 g16 gk hll hd;refine wt zz ?_;rw[hinv];exact⟨rfl,hg⟩
theorem fsame_c: ∀ a:Fm,a.ok→ ∀ b:Fm,b.ok→ ∀ h:Heap,PCall Tryz.prog 98 [.agg a.cells,.agg b.cells] h fun r h'=>r= .sc (.bool (a.same b))∧h'=h:=by
 refine Fm.ind ?_;intro op name args params exprs kids ih hok;rintro⟨op3,name3,args3,params3,exprs3,kids3⟩ hok3 h;simp only[Fm.ok]at hok hok3;obtain⟨_,_,⟨ha,_⟩,⟨hp,_⟩,⟨he,hes⟩,hk,hks⟩:=hok;obtain⟨_,_,⟨ha3,_⟩,⟨hp3,_⟩,⟨he3,hes3⟩,hk3,hks3⟩:=hok3;rw[Fm.oks_iff]at hks hks3;have hfk: ∀ a∈kids, ∀ b∈kids3, ∀ h:Heap,PCall Tryz.prog 98 [.agg a.cells,.agg b.cells] h fun r h'=>r= .sc (.bool (a.same b))∧h'=h:=fun a ha b hb=>ih a ha (hks a ha) b (hks3 b hb);rw[Ex.oks_iff]at hes hes3;have hfe: ∀ a∈exprs, ∀ b∈exprs3, ∀ h:Heap,PCall Tryz.prog 139 [.agg a.cells,.agg b.cells] h fun r h'=>r= .sc (.bool (a.same b))∧h'=h:=fun a ha b hb=>fsameE_c a (hes a ha) b (hes3 b hb);try clear zz
 clear ih;simp only[Fm.cells];refine uG0 Tryz.func98 Tryz.ntmps98 Tryz.results98 Ty.hb_98 ?_;cases e0:(op.data.toList==op3.data.toList)with
 |false=>
  have hs:(Fm.mk op name args params exprs kids).same (.mk op3 name3 args3 params3 exprs3 kids3)=false:=by simp only[Fm.same,bEq,e0,Bool.false_and,Bool.and_false]
  refine wt e0 ?_;rw[hs]
 |true=>
  cases e1:(name.data.toList==name3.data.toList)with
  |false=>
   have hs:(Fm.mk op name args params exprs kids).same (.mk op3 name3 args3 params3 exprs3 kids3)=false:=(by simp only[Fm.same,bEq,e0,e1,Bool.false_and,Bool.and_false]);refine wt (uu e0 e1) ?_;rw[hs]
  |true=>
   refine wt (uu e0 e1) ?_;cases e2:bsEq args args3 with
   |false=>
    have hs:(Fm.mk op name args params exprs kids).same (.mk op3 name3 args3 params3 exprs3 kids3)=false:=(by simp only[Fm.same,bEq,e0,e1,e2,Bool.false_and,Bool.and_false]);refine uU (uu3 e0 e1 e2) (ftexts_c (l:=args) (m:=args3) ha ha3) ?_;refine wt (uu3 e0 e1 e2) ?_;rw[hs]
   |true=>
    refine uU (uu3 e0 e1 e2) (ftexts_c (l:=args) (m:=args3) ha ha3) ?_;refine wt (uu3 e0 e1 e2) ?_;cases e3:pmsEq params params3 with
    |false=>
     have hs:(Fm.mk op name args params exprs kids).same (.mk op3 name3 args3 params3 exprs3 kids3)=false:=(by simp only[Fm.same,bEq,e0,e1,e2,e3,Bool.false_and,Bool.and_false]);replace zz:=uu4 e0 e1 e2 e3;refine uU zz (fparams_c (l:=params) (m:=params3) hp hp3) ?_;refine wt zz ?_;rw[hs]
    |true=>
     replace zz:=uu4 e0 e1 e2 e3;refine uU zz (fparams_c (l:=params) (m:=params3) hp hp3) ?_;refine wt zz ?_;cases e4:Ex.sames exprs exprs3 with
     |false=>
      have hs:(Fm.mk op name args params exprs kids).same (.mk op3 name3 args3 params3 exprs3 kids3)=false:=(by simp only[Fm.same,bEq,e0,e1,e2,e3,e4,Bool.false_and,Bool.and_false]);replace zz:=uu5 e0 e1 e2 e3 e4;refine uU zz (fEqE_c he hfe _) ?_;refine wt zz ?_;rw[hs]
     |true=>
      replace zz:=uu5 e0 e1 e2 e3 e4;refine uU zz (fEqE_c he hfe _) ?_;refine wt zz ?_;have hs:(Fm.mk op name args params exprs kids).same (.mk op3 name3 args3 params3 exprs3 kids3)=Fm.sames kids kids3:=(by simp only[Fm.same,bEq,e0,e1,e2,e3,e4,Bool.true_and]);replace zz:=uu5 e0 e1 e2 e3 e4;refine uU zz (fEqF_c hk hfk _) ?_;refine wt zz ?_;rw[hs]
end Go.Proofs.YtblgchkahpgdjaaGreat
namespace Go.Proofs.YtblgchkahpgdjaaGreat
open Go.AM
set_option maxHeartbeats 2000000
set_option maxRecDepth 20000
theorem dig_cls(c:UInt8):(digB c=true∧decide ((c.toNat:Int)<48)=false∧decide ((c.toNat:Int)>57)=false)∨(digB c=false∧decide ((c.toNat:Int)<48)=true)∨(digB c=false∧decide ((c.toNat:Int)<48)=false∧decide ((c.toNat:Int)>57)=true):=by
 simp only[digB,Bool.and_eq_true,Bool.and_eq_false_iff,decide_eq_true_eq,decide_eq_false_iff_not];omega
theorem rdigits_c{h:Heap}{s:ByteArray}(hs:s.size≤bigN):PCall Tryz.prog 172 [sPV s] h fun r h'=>r= .sc (.bool (s.data.toList.all digB&&decide (0<s.size)))∧h'=h:=by
 unfold bigN at hs;have htl:s.data.toList.length=s.size:=by rw[Array.length_toList];try rfl
 refine uG0 Tryz.func172 Tryz.ntmps172 Tryz.results172 Ty.hb_172 ?_;refine wt trivial ?_;refine a_loop (fun m S h'=>h'=h∧S 0=sPV s∧ ∃ k:Nat,S 3= .sc (.int .i64 k)∧k≤s.size∧m=s.size-k∧ ∀ (i:Nat)(c:UInt8),i<k→s.data.toList[i]? =some c→digB c=true) s.size ?_ ?_
 ·simp only[Ty.w,simprocAttr];exact⟨0,rfl,by omega,rfl,by omega⟩
 ·rintro m S h' ⟨rfl,g0,k,g3,hk,rfl,hall⟩;by_cases hlt:k<s.size
  ·have hd:decide ((k:Int)<(s.size:Int))=true:=(by simp;omega);have w7:IntKind.i64.wrap ((k:Int)+1)=k+1:=(by rw[wrap64 (by omega) (by omega)]);obtain⟨c,hx⟩: ∃ c,s.data.toList[k]? =some c:=⟨_,List.getElem?_eq_getElem (by omega)⟩;have hr:s[k]? =some c:=(by rw[ba_get];exact hx);have bad:digB c=false→s.data.toList.all digB=false:=fun hg=>(by rw[List.all_eq_false];exact⟨c,List.mem_of_getElem? hx,by simp[hg]⟩);rcases dig_cls c with⟨hg,c1,c2⟩|⟨hg,c1⟩|⟨hg,c1,c2⟩
   ·replace zz:=uu7 g0 g3 hd hr c1 c2 w7;refine wt zz ?_;refine⟨s.size-(k+1),by omega,k+1,by simp,by omega,rfl,fun i c2 hi hw=>?_⟩;by_cases hik:i=k
    ·subst hik;rw[hx]at hw;simp at hw;rw[← hw];exact hg
    ·exact hall i c2 (by omega) hw
   ·replace zz:=uu5 g0 g3 hd hr c1;refine wt zz ?_;rw[bad hg];try rfl
   ·replace zz:=uu6 g0 g3 hd hr c1 c2;refine wt zz ?_;rw[bad hg];try rfl
  ·have hd:decide ((k:Int)<(s.size:Int))=false:=(by simp;omega);have hok:s.data.toList.all digB=true:=by
    rw[List.all_eq_true];intro c hc;obtain⟨i,hi⟩:=List.getElem?_of_mem hc;exact hall i c (by have:=(List.getElem?_eq_some_iff.1 hi).1;omega) hi
   have e1:decide ((s.size:Int)>0)=decide (0<s.size):=decide_eq_decide.2 (by omega);(try clear zz);clear hall;refine wt (uu3 g0 g3 hd) ?_;rw[hok,e1];try rfl
theorem rnumeric_c{h:Heap}{s:ByteArray}(hs:s.size≤bigN):PCall Tryz.prog 160 [sPV s] h fun r h'=>r= .sc (.bool (numB s))∧h'=h:=by
 have htl:s.data.toList.length=s.size:=by rw[Array.length_toList];try rfl
 cases b1:decide ((s.size:Int)>0)with
 |false=>
  have ht:trimB s=s:=by
   have:s.data.toList=[]:=List.eq_nil_of_length_eq_zero (by have:=of_decide_eq_false b1;omega);unfold trimB;rw[this]
  have hd:=rdigits_c (h:=h) hs;refine uG0 Tryz.func160 Tryz.ntmps160 Tryz.results160 Ty.hb_160 ?_;refine wt b1 ?_;refine uU b1 (hd) ?_;refine wt trivial ?_;rw[show numB s=((trimB s).data.toList.all digB&&decide (0<(trimB s).size))from rfl,ht]
 |true=>
  have hpos:0<s.size:=by simp at b1;omega
  obtain⟨c,hx⟩: ∃ c,s.data.toList[0]? =some c:=⟨_,List.getElem?_eq_getElem (by omega)⟩;have hr:s[0]? =some c:=by rw[ba_get];exact hx
  cases b2:((c.toNat:Int)==45)with
  |false=>
   have ht:trimB s=s:=by
    unfold trimB;split
    ·rename_i l heq;rw[heq]at hx;simp at hx;subst hx;simp at b2
    ·rfl
   have hd:=rdigits_c (h:=h) hs;refine uG0 Tryz.func160 Tryz.ntmps160 Tryz.results160 Ty.hb_160 ?_;refine wt (uu3 b1 hr b2) ?_;refine uU (uu b1 b2) (hd) ?_;refine wt trivial ?_;rw[show numB s=((trimB s).data.toList.all digB&&decide (0<(trimB s).size))from rfl,ht]
  |true=>
   have hc:c=45:=by
    have:c.toNat=45:=(by simp at b2;omega);exact UInt8.toNat_inj.1 this
   have q1:(1:Int)≤(s.size:Int):=(by omega);have ht:trimB s=s.extract 1 s.size:=by
    cases hl:s.data.toList with
    |nil=>rw[hl]at hx;simp at hx
    |cons d l=>
     rw[hl]at hx;simp at hx;subst hx;subst hc;unfold trimB;rw[hl];refine ba_ext ?_;have hl2:=htl;rw[hl]at hl2;simp at hl2;simp only[ByteArray.data_extract,Array.toList_extract,List.extract_eq_take_drop,hl];rw[List.drop_succ_cons,List.drop_zero,List.take_of_length_le (by omega)]
   have hsz:(s.extract 1 s.size).size≤bigN:=(by simp only[ByteArray.size_extract];omega);have hd:=rdigits_c (h:=h) hsz;refine uG0 Tryz.func160 Tryz.ntmps160 Tryz.results160 Ty.hb_160 ?_;replace zz:=uu6 b1 hr b2 q1 @Int.le_refl @Int.toNat_one;refine wt zz ?_;replace zz:=uu5 b1 b2 q1 @Int.le_refl @Int.toNat_one;refine uU zz (hd) ?_;refine wt trivial ?_;rw[show numB s=((trimB s).data.toList.all digB&&decide (0<(trimB s).size))from rfl,ht]
theorem let_cls(c:UInt8):(wB c=true∧decide ((c.toNat:Int)≥97)=true∧decide ((c.toNat:Int)≤122)=true)∨
  (letB c=false∧decide ((c.toNat:Int)≥97)=true∧decide ((c.toNat:Int)≤122)=false∧decide ((c.toNat:Int)≥48)=true∧decide ((c.toNat:Int)≤57)=false∧digB c=false)∨
  (letB c=false∧decide ((c.toNat:Int)≥97)=false∧decide ((c.toNat:Int)≥48)=false∧digB c=false)∨
  (wB c=true∧decide ((c.toNat:Int)≥97)=false∧decide ((c.toNat:Int)≥48)=true∧decide ((c.toNat:Int)≤57)=true)∨
  (letB c=false∧decide ((c.toNat:Int)≥97)=false∧decide ((c.toNat:Int)≥48)=true∧decide ((c.toNat:Int)≤57)=false∧digB c=false):=by
 simp only[wB,letB,digB,Bool.and_eq_true,Bool.or_eq_true,Bool.and_eq_false_iff,decide_eq_true_eq,decide_eq_false_iff_not];omega
theorem signs_c(c:UInt8):signs.contains c=(((c.toNat:Int)==45)||((c.toNat:Int)==95)||((c.toNat:Int)==63)||((c.toNat:Int)==58)||((c.toNat:Int)==60)||((c.toNat:Int)==62)||((c.toNat:Int)==61)||((c.toNat:Int)==43)||((c.toNat:Int)==42)):=by
 have hh: ∀ d:UInt8,(c==d)=((c.toNat:Int)==(d.toNat:Int)):=by
  intro d;by_cases h:c=d
  ·subst h;simp
  ·have:¬ c.toNat=d.toNat:=fun e=>h (UInt8.toNat_inj.1 e);have:¬ (c.toNat:Int)=(d.toNat:Int):=(by omega);rw[beq_eq_false_iff_ne.2 h,beq_eq_false_iff_ne.2 this]
 have e:signs.contains c=(c==45||(c==95||(c==63||(c==58||(c==60||(c==62||(c==61||(c==43||(c==42||false))))))))):=rfl;rw[e,hh,hh,hh,hh,hh,hh,hh,hh,hh];simp only[Bool.or_false,Bool.or_assoc];rfl
theorem letter_c{h:Heap}{c:UInt8}:PCall Tryz.prog 159 [.sc (.int .u8 c.toNat)] h fun r h'=>r= .sc (.bool (wB c))∧h'=h:=by
 refine uG0 Tryz.func159 Tryz.ntmps159 Tryz.results159 Ty.hb_159 ?_;rcases let_cls c with⟨hw,c1,c2⟩|⟨hlet,c1,c2,c3,c4,hdig⟩|⟨hlet,c1,c3,hdig⟩|⟨hw,c1,c3,c4⟩|⟨hlet,c1,c3,c4,hdig⟩
 ·refine wm (uu c1 c2) ?_;try exact zI
  all_goals(rw[hw])
 ·cases s0:((c.toNat:Int)==45)with
  |true=>
   have hw:wB c=true:=(by simp only[wB,hlet,hdig,signs_c,s0,Bool.or_true,Bool.true_or,Bool.false_or]);replace zz:=uu5 c1 c2 c3 c4 s0;refine wm zz ?_;try exact zI
   all_goals(rw[hw])
  |false=>
   cases s1:((c.toNat:Int)==95)with
   |true=>
    have hw:wB c=true:=(by simp only[wB,hlet,hdig,signs_c,s0,s1,Bool.or_true,Bool.true_or,Bool.false_or]);replace zz:=uu6 c1 c2 c3 c4 s0 s1;refine wm zz ?_;try exact zI
    all_goals(rw[hw])
   |false=>
    cases s2:((c.toNat:Int)==63)with
    |true=>
     have hw:wB c=true:=(by simp only[wB,hlet,hdig,signs_c,s0,s1,s2,Bool.or_true,Bool.true_or,Bool.false_or]);replace zz:=uu7 c1 c2 c3 c4 s0 s1 s2;refine wm zz ?_;try exact zI
     all_goals(rw[hw])
    |false=>
     cases s3:((c.toNat:Int)==58)with
     |true=>
      have hw:wB c=true:=(by simp only[wB,hlet,hdig,signs_c,s0,s1,s2,s3,Bool.or_true,Bool.true_or,Bool.false_or]);replace zz:=uu8 c1 c2 c3 c4 s0 s1 s2 s3;refine wm zz ?_;try exact zI
      all_goals(rw[hw])
     |false=>
      cases s4:((c.toNat:Int)==60)with
      |true=>
       have hw:wB c=true:=(by simp only[wB,hlet,hdig,signs_c,s0,s1,s2,s3,s4,Bool.or_true,Bool.true_or,Bool.false_or]);replace zz:=uu9 c1 c2 c3 c4 s0 s1 s2 s3 s4;refine wm zz ?_;try exact zI
       all_goals(rw[hw])
      |false=>
       cases s5:((c.toNat:Int)==62)with
       |true=>
        have hw:wB c=true:=(by simp only[wB,hlet,hdig,signs_c,s0,s1,s2,s3,s4,s5,Bool.or_true,Bool.true_or,Bool.false_or]);replace zz:=uu10 c1 c2 c3 c4 s0 s1 s2 s3 s4 s5;refine wm zz ?_;try exact zI
        all_goals(rw[hw])
       |false=>
        cases s6:((c.toNat:Int)==61)with
        |true=>
         have hw:wB c=true:=(by simp only[wB,hlet,hdig,signs_c,s0,s1,s2,s3,s4,s5,s6,Bool.or_true,Bool.true_or,Bool.false_or]);replace zz:=uu11 c1 c2 c3 c4 s0 s1 s2 s3 s4 s5 s6;refine wm zz ?_;try exact zI
         all_goals(rw[hw])
        |false=>
         cases s7:((c.toNat:Int)==43)with
         |true=>
          have hw:wB c=true:=(by simp only[wB,hlet,hdig,signs_c,s0,s1,s2,s3,s4,s5,s6,s7,Bool.or_true,Bool.true_or,Bool.false_or]);replace zz:=uu12 c1 c2 c3 c4 s0 s1 s2 s3 s4 s5 s6 s7;refine wm zz ?_;try exact zI
          all_goals(rw[hw])
         |false=>
          cases s8:((c.toNat:Int)==42)with
          |true=>
           have hw:wB c=true:=(by simp only[wB,hlet,hdig,signs_c,s0,s1,s2,s3,s4,s5,s6,s7,s8,Bool.or_true,Bool.true_or,Bool.false_or]);replace zz:=uu12 c1 c2 c3 c4 s0 s1 s2 s3 s4 s5 s6 (uu s7 s8);refine wm zz ?_;try exact zI
           all_goals(rw[hw])
          |false=>
           have hw:wB c=false:=(by simp only[wB,hlet,hdig,signs_c,s0,s1,s2,s3,s4,s5,s6,s7,s8,Bool.or_false]);replace zz:=uu12 c1 c2 c3 c4 s0 s1 s2 s3 s4 s5 s6 (uu s7 s8);refine wm zz ?_;try exact zI
           all_goals(rw[hw])
 ·cases s0:((c.toNat:Int)==45)with
  |true=>
   have hw:wB c=true:=(by simp only[wB,hlet,hdig,signs_c,s0,Bool.or_true,Bool.true_or,Bool.false_or]);refine wm (uu3 c1 c3 s0) ?_;try exact zI
   all_goals(rw[hw])
  |false=>
   cases s1:((c.toNat:Int)==95)with
   |true=>
    have hw:wB c=true:=(by simp only[wB,hlet,hdig,signs_c,s0,s1,Bool.or_true,Bool.true_or,Bool.false_or]);replace zz:=uu4 c1 c3 s0 s1;refine wm zz ?_;try exact zI
    all_goals(rw[hw])
   |false=>
    cases s2:((c.toNat:Int)==63)with
    |true=>
     have hw:wB c=true:=(by simp only[wB,hlet,hdig,signs_c,s0,s1,s2,Bool.or_true,Bool.true_or,Bool.false_or]);replace zz:=uu5 c1 c3 s0 s1 s2;refine wm zz ?_;try exact zI
     all_goals(rw[hw])
    |false=>
     cases s3:((c.toNat:Int)==58)with
     |true=>
      have hw:wB c=true:=(by simp only[wB,hlet,hdig,signs_c,s0,s1,s2,s3,Bool.or_true,Bool.true_or,Bool.false_or]);replace zz:=uu6 c1 c3 s0 s1 s2 s3;refine wm zz ?_;try exact zI
      all_goals(rw[hw])
     |false=>
      cases s4:((c.toNat:Int)==60)with
      |true=>
       have hw:wB c=true:=(by simp only[wB,hlet,hdig,signs_c,s0,s1,s2,s3,s4,Bool.or_true,Bool.true_or,Bool.false_or]);replace zz:=uu7 c1 c3 s0 s1 s2 s3 s4;refine wm zz ?_;try exact zI
       all_goals(rw[hw])
      |false=>
       cases s5:((c.toNat:Int)==62)with
       |true=>
        have hw:wB c=true:=(by simp only[wB,hlet,hdig,signs_c,s0,s1,s2,s3,s4,s5,Bool.or_true,Bool.true_or,Bool.false_or]);replace zz:=uu8 c1 c3 s0 s1 s2 s3 s4 s5;refine wm zz ?_;try exact zI
        all_goals(rw[hw])
       |false=>
        cases s6:((c.toNat:Int)==61)with
        |true=>
         have hw:wB c=true:=(by simp only[wB,hlet,hdig,signs_c,s0,s1,s2,s3,s4,s5,s6,Bool.or_true,Bool.true_or,Bool.false_or]);replace zz:=uu9 c1 c3 s0 s1 s2 s3 s4 s5 s6;refine wm zz ?_;try exact zI
         all_goals(rw[hw])
        |false=>
         cases s7:((c.toNat:Int)==43)with
         |true=>
          have hw:wB c=true:=(by simp only[wB,hlet,hdig,signs_c,s0,s1,s2,s3,s4,s5,s6,s7,Bool.or_true,Bool.true_or,Bool.false_or]);replace zz:=uu10 c1 c3 s0 s1 s2 s3 s4 s5 s6 s7;refine wm zz ?_;try exact zI
          all_goals(rw[hw])
         |false=>
          cases s8:((c.toNat:Int)==42)with
          |true=>
           have hw:wB c=true:=(by simp only[wB,hlet,hdig,signs_c,s0,s1,s2,s3,s4,s5,s6,s7,s8,Bool.or_true,Bool.true_or,Bool.false_or]);replace zz:=uu11 c1 c3 s0 s1 s2 s3 s4 s5 s6 s7 s8;refine wm zz ?_;try exact zI
           all_goals(rw[hw])
          |false=>
           have hw:wB c=false:=(by simp only[wB,hlet,hdig,signs_c,s0,s1,s2,s3,s4,s5,s6,s7,s8,Bool.or_false]);replace zz:=uu11 c1 c3 s0 s1 s2 s3 s4 s5 s6 s7 s8;refine wm zz ?_;try exact zI
           all_goals(rw[hw])
 ·refine wm (uu3 c1 c3 c4) ?_;try exact zI
  all_goals(rw[hw])
 ·cases s0:((c.toNat:Int)==45)with
  |true=>
   have hw:wB c=true:=(by simp only[wB,hlet,hdig,signs_c,s0,Bool.or_true,Bool.true_or,Bool.false_or]);replace zz:=uu4 c1 c3 c4 s0;refine wm zz ?_;try exact zI
   all_goals(rw[hw])
  |false=>
   cases s1:((c.toNat:Int)==95)with
   |true=>
    have hw:wB c=true:=(by simp only[wB,hlet,hdig,signs_c,s0,s1,Bool.or_true,Bool.true_or,Bool.false_or]);replace zz:=uu5 c1 c3 c4 s0 s1;refine wm zz ?_;try exact zI
    all_goals(rw[hw])
   |false=>
    cases s2:((c.toNat:Int)==63)with
    |true=>
     have hw:wB c=true:=(by simp only[wB,hlet,hdig,signs_c,s0,s1,s2,Bool.or_true,Bool.true_or,Bool.false_or]);replace zz:=uu6 c1 c3 c4 s0 s1 s2;refine wm zz ?_;try exact zI
     all_goals(rw[hw])
    |false=>
     cases s3:((c.toNat:Int)==58)with
     |true=>
      have hw:wB c=true:=(by simp only[wB,hlet,hdig,signs_c,s0,s1,s2,s3,Bool.or_true,Bool.true_or,Bool.false_or]);replace zz:=uu7 c1 c3 c4 s0 s1 s2 s3;refine wm zz ?_;try exact zI
      all_goals(rw[hw])
     |false=>
      cases s4:((c.toNat:Int)==60)with
      |true=>
       have hw:wB c=true:=(by simp only[wB,hlet,hdig,signs_c,s0,s1,s2,s3,s4,Bool.or_true,Bool.true_or,Bool.false_or]);replace zz:=uu8 c1 c3 c4 s0 s1 s2 s3 s4;refine wm zz ?_;try exact zI
       all_goals(rw[hw])
      |false=>
       cases s5:((c.toNat:Int)==62)with
       |true=>
        have hw:wB c=true:=(by simp only[wB,hlet,hdig,signs_c,s0,s1,s2,s3,s4,s5,Bool.or_true,Bool.true_or,Bool.false_or]);replace zz:=uu9 c1 c3 c4 s0 s1 s2 s3 s4 s5;refine wm zz ?_;try exact zI
        all_goals(rw[hw])
       |false=>
        cases s6:((c.toNat:Int)==61)with
        |true=>
         have hw:wB c=true:=(by simp only[wB,hlet,hdig,signs_c,s0,s1,s2,s3,s4,s5,s6,Bool.or_true,Bool.true_or,Bool.false_or]);replace zz:=uu10 c1 c3 c4 s0 s1 s2 s3 s4 s5 s6;refine wm zz ?_;try exact zI
         all_goals(rw[hw])
        |false=>
         cases s7:((c.toNat:Int)==43)with
         |true=>
          have hw:wB c=true:=(by simp only[wB,hlet,hdig,signs_c,s0,s1,s2,s3,s4,s5,s6,s7,Bool.or_true,Bool.true_or,Bool.false_or]);replace zz:=uu11 c1 c3 c4 s0 s1 s2 s3 s4 s5 s6 s7;refine wm zz ?_;try exact zI
          all_goals(rw[hw])
         |false=>
          cases s8:((c.toNat:Int)==42)with
          |true=>
           have hw:wB c=true:=(by simp only[wB,hlet,hdig,signs_c,s0,s1,s2,s3,s4,s5,s6,s7,s8,Bool.or_true,Bool.true_or,Bool.false_or]);replace zz:=uu12 c1 c3 c4 s0 s1 s2 s3 s4 s5 s6 s7 s8;refine wm zz ?_;try exact zI
           all_goals(rw[hw])
          |false=>
           have hw:wB c=false:=(by simp only[wB,hlet,hdig,signs_c,s0,s1,s2,s3,s4,s5,s6,s7,s8,Bool.or_false]);replace zz:=uu12 c1 c3 c4 s0 s1 s2 s3 s4 s5 s6 s7 s8;refine wm zz ?_;try exact zI
           all_goals(rw[hw])
def wordR(s:ByteArray):Bool:=s.data.toList.all wB&&decide (1≤s.size)&&decide (s.size≤32)&&!(numB s)
theorem rword_c{h:Heap}{s:ByteArray}(hs:s.size≤bigN):PCall Tryz.prog 131 [sPV s] h fun r h'=>r= .sc (.bool (wordR s))∧h'=h:=by
 have hs':=hs;unfold bigN at hs';have htl:s.data.toList.length=s.size:=by rw[Array.length_toList];try rfl
 refine uG0 Tryz.func131 Tryz.ntmps131 Tryz.results131 Ty.hb_131 ?_;refine wt trivial ?_;refine a_loop (fun m S h'=>h'=h∧S 0=sPV s∧ ∃ k:Nat,S 3= .sc (.int .i64 k)∧k≤s.size∧m=s.size-k∧ ∀ (i:Nat)(c:UInt8),i<k→s.data.toList[i]? =some c→wB c=true) s.size ?_ ?_
 ·simp only[Ty.w,simprocAttr];exact⟨0,rfl,by omega,rfl,by omega⟩
 ·rintro m S h' ⟨rfl,g0,k,g3,hk,rfl,hall⟩;by_cases hlt:k<s.size
  ·have hd:decide ((k:Int)<(s.size:Int))=true:=(by simp;omega);have w7:IntKind.i64.wrap ((k:Int)+1)=k+1:=(by rw[wrap64 (by omega) (by omega)]);obtain⟨c,hx⟩: ∃ c,s.data.toList[k]? =some c:=⟨_,List.getElem?_eq_getElem (by omega)⟩;have hr:s[k]? =some c:=(by rw[ba_get];exact hx);cases hg:wB c with
   |false=>
    have bad:s.data.toList.all wB=false:=(by rw[List.all_eq_false];exact⟨c,List.mem_of_getElem? hx,by simp[hg]⟩);have hw:wordR s=false:=(by simp only[wordR,bad,Bool.false_and]);replace zz:=uu4 g0 g3 hd hr;refine wt zz ?_;replace zz:=uu6 g0 g3 hd hr hg yF;refine uU zz (letter_c (c:=c)) ?_;refine wm (uu3 g0 g3 yF) ?_;try exact zI
    all_goals(rw[hw])
   |true=>
    replace zz:=uu4 g0 g3 hd hr;refine wt zz ?_;replace zz:=uu6 g0 g3 hd hr hg yT;refine uU zz (letter_c (c:=c)) ?_;replace zz:=uu4 g0 g3 w7 yT;refine wt zz ?_;refine⟨s.size-(k+1),by omega,k+1,by simp,by omega,rfl,fun i c2 hi hw=>?_⟩;by_cases hik:i=k
    ·subst hik;rw[hx]at hw;simp at hw;rw[← hw];exact hg
    ·exact hall i c2 (by omega) hw
  ·have hd:decide ((k:Int)<(s.size:Int))=false:=(by simp;omega);have hok:s.data.toList.all wB=true:=by
    rw[List.all_eq_true];intro c hc;obtain⟨i,hi⟩:=List.getElem?_of_mem hc;exact hall i c (by have:=(List.getElem?_eq_some_iff.1 hi).1;omega) hi
   have e1:decide ((s.size:Int)≥1)=decide (1≤s.size):=decide_eq_decide.2 (by omega);have e2:decide ((s.size:Int)≤32)=decide (s.size≤32):=decide_eq_decide.2 (by omega);have hW:wordR s=(decide ((s.size:Int)≥1)&&decide ((s.size:Int)≤32)&&!(numB s)):=(by simp only[wordR,hok,e1,e2,Bool.true_and]);(try clear zz);clear hall e1 e2;have hn:=fun h:Heap=>rnumeric_c (h:=h) hs;cases q1:decide ((s.size:Int)≥1)with
   |false=>
    replace zz:=uu4 g0 g3 hd q1;refine wm zz ?_;try exact zI
    all_goals(rw[hW,q1];try rfl)
   |true=>
    cases q2:decide ((s.size:Int)≤32)with
    |false=>
     replace zz:=uu5 g0 g3 hd q1 q2;refine wm zz ?_;try exact zI
     all_goals(rw[hW,q1,q2];try rfl)
    |true=>
     replace zz:=uu5 g0 g3 hd q1 q2;refine wt zz ?_;refine uU (uu q1 q2) (hn _) ?_;refine wm (uu q1 q2) ?_;try exact zI
     all_goals(rw[hW,q1,q2];try rfl)
end Go.Proofs.YtblgchkahpgdjaaGreat
namespace Go.AM
mutual
def Sx.count:Sx→Int
 | .mk _ _ _ _ _ kids=>Sx.counts 1 kids
def Sx.counts(n:Int):List Sx→Int
 |[]=>n
 |k::ks=>Sx.counts (IntKind.i64.wrap (n+k.count)) ks
end
theorem Sx.counts_append: ∀ (l m:List Sx)(n:Int),Sx.counts n (l++m)=Sx.counts (Sx.counts n l) m
 |[],m,n=>by simp[Sx.counts]
 |k::l,m,n=>by simp only[List.cons_append,Sx.counts];exact Sx.counts_append l m _
theorem Sx.counts_take{l:List Sx}{i:Nat}{k:Sx}(n:Int)(h:l[i]? =some k):Sx.counts n (l.take (i+1))=IntKind.i64.wrap (Sx.counts n (l.take i)+k.count):=by
 rw[List.take_add_one,h,Sx.counts_append];try rfl
mutual
def Sx.depth:Sx→Nat
 | .mk kind _ _ _ _ kids=>if kind=3 then Sx.depths 0 kids+1 else Sx.depths 0 kids
def Sx.depths(n:Nat):List Sx→Nat
 |[]=>n
 |k::ks=>Sx.depths (max n k.depth) ks
end
theorem Sx.depths_append: ∀ (l m:List Sx)(n:Nat),Sx.depths n (l++m)=Sx.depths (Sx.depths n l) m
 |[],m,n=>by simp[Sx.depths]
 |k::l,m,n=>by simp only[List.cons_append,Sx.depths];exact Sx.depths_append l m _
theorem Sx.depths_take{l:List Sx}{i:Nat}{k:Sx}(n:Nat)(h:l[i]? =some k):Sx.depths n (l.take (i+1))=max (Sx.depths n (l.take i)) k.depth:=by
 rw[List.take_add_one,h,Sx.depths_append];try rfl
theorem Sx.depths_le: ∀ (l:List Sx)(n:Nat),n≤Sx.depths n l
 |[],n=>Nat.le_refl _
 |k::l,n=>by simp only[Sx.depths];exact Nat.le_trans (Nat.le_max_left _ _) (Sx.depths_le l _)
theorem Sx.depths_mem: ∀ {l:List Sx}{k:Sx}(n:Nat),k∈l→k.depth≤Sx.depths n l
 |k'::l,k,n,h=>by
  simp only[Sx.depths];rcases List.mem_cons.1 h with rfl|h
  ·exact Nat.le_trans (Nat.le_max_right _ _) (Sx.depths_le l _)
  ·exact Sx.depths_mem _ h
end Go.AM
namespace Go.Proofs.YtblgchkahpgdjaaGreat
open Go.AM
set_option maxHeartbeats 2000000
set_option maxRecDepth 20000
mutual
def shapedS:Sx→Bool
 | .mk kind value _ _ text kids=>
  if kind=1 then(value==0)&&kids.isEmpty&&wordR text
  else if kind=2 then(text.data.toList==(#[]:Array UInt8).toList)&&kids.isEmpty&&decide (value≥ -1099511627776)&&decide (value≤1099511627776)
  else if kind=3 then shapedSs kids&&((text.data.toList==(#[]:Array UInt8).toList)&&(value==0))
  else false
def shapedSs:List Sx→Bool
 |[]=>true
 |k::ks=>shapedS k&&shapedSs ks
end
theorem emp_lenS(l:List Sx):((l.length:Int)==0)=l.isEmpty:=by cases l<;>simp;omega
theorem rcount_c: ∀ (e:Sx),e.ok→ ∀ h:Heap,PCall Tryz.prog 21 [.agg e.cells] h fun r h'=>r= .sc (.int .i64 e.count)∧h'=h:=by
 refine Sx.ind ?_;intro kind value line col text kids ih hok h;simp only[Sx.ok]at hok;obtain⟨_,_,_,hk,hks⟩:=hok;rw[Sx.oks_iff]at hks;have hlen:=Sx.rows_len kids;simp only[Sx.cells,Sx.count];refine uG0 Tryz.func21 Tryz.ntmps21 Tryz.results21 Ty.hb_21 ?_;refine wt hlen ?_;refine a_loop (fun m S h'=>h'=h∧S 1= .cptr (Sx.mk kind value line col text kids).cells∧ ∃ k:Nat,S 4= .sc (.int .i64 k)∧k≤kids.length∧m=kids.length-k∧S 3= .sc (.int .i64 (Sx.counts 1 (kids.take k)))) kids.length ?_ ?_
 ·simp only[Ty.w,simprocAttr];exact⟨rfl,0,rfl,by omega,rfl,by simp[Sx.counts]⟩
 ·rintro m S h' ⟨rfl,g1,k,g4,hkl,rfl,g3⟩;simp only[Sx.cells]at g1;by_cases hlt:k<kids.length
  ·have hd:decide ((k:Int)<(kids.length:Int))=true:=(by simp;omega);have w7:IntKind.i64.wrap ((k:Int)+1)=k+1:=(by unfold bigN at hk;rw[wrap64 (by omega) (by omega)]);obtain⟨e,hx⟩: ∃ e,kids[k]? =some e:=⟨_,List.getElem?_eq_getElem hlt⟩;have hmem:=List.mem_of_getElem? hx;have hc:=ih e hmem (hks e hmem);have hsz:=Sx.counts_take 1 hx;have hr:=Sx.rows_get hx;obtain⟨ki,va,li,co,te,ks⟩:=e;simp only[Sx.cells]at hr hc;replace zz:=uu7 g1 g3 g4 hlen hd hr w7;refine wt zz ?_;replace zz:=uu6 g1 g3 g4 hlen hd hr;refine uU zz (hc _) ?_;replace zz:=uu4 g1 g3 g4 w7;refine wt zz ?_;exact⟨kids.length-(k+1),by omega,rfl,k+1,by simp,by omega,rfl,by rw[hsz]⟩
  ·have hd:decide ((k:Int)<(kids.length:Int))=false:=(by simp;omega);have hke:k=kids.length:=(by omega);subst hke;rw[List.take_length]at g3;replace zz:=uu5 g1 g3 g4 hlen hd;exact wz zz
theorem rdepth_c: ∀ (e:Sx),e.ok→e.depth≤bigN→ ∀ h:Heap,PCall Tryz.prog 84 [.agg e.cells] h fun r h'=>r= .sc (.int .i64 e.depth)∧h'=h:=by
 refine Sx.ind ?_;intro kind value line col text kids ih hok hdp h;simp only[Sx.ok]at hok;obtain⟨_,_,_,hk,hks⟩:=hok;rw[Sx.oks_iff]at hks;have hlen:=Sx.rows_len kids;simp only[Sx.depth]at hdp;have hdb:Sx.depths 0 kids≤bigN:=by split at hdp<;>omega
 simp only[Sx.cells,Sx.depth];refine uG0 Tryz.func84 Tryz.ntmps84 Tryz.results84 Ty.hb_84 ?_;refine wt hlen ?_;refine a_loop (fun m S h'=>h'=h∧S 1= .cptr (Sx.mk kind value line col text kids).cells∧ ∃ k:Nat,S 4= .sc (.int .i64 k)∧k≤kids.length∧m=kids.length-k∧S 3= .sc (.int .i64 (Sx.depths 0 (kids.take k):Nat))) kids.length ?_ ?_
 ·simp only[Ty.w,simprocAttr];exact⟨rfl,0,rfl,by omega,rfl,by simp[Sx.depths]⟩
 ·rintro m S h' ⟨rfl,g1,k,g4,hkl,rfl,g3⟩;simp only[Sx.cells]at g1;by_cases hlt:k<kids.length
  ·have hd:decide ((k:Int)<(kids.length:Int))=true:=(by simp;omega);have w7:IntKind.i64.wrap ((k:Int)+1)=k+1:=(by unfold bigN at hk;rw[wrap64 (by omega) (by omega)]);obtain⟨e,hx⟩: ∃ e,kids[k]? =some e:=⟨_,List.getElem?_eq_getElem hlt⟩;have hmem:=List.mem_of_getElem? hx;have hc:=ih e hmem (hks e hmem) (Nat.le_trans (Sx.depths_mem 0 hmem) hdb);have hsz:=Sx.depths_take 0 hx;have hr:=Sx.rows_get hx;generalize Sx.depths 0 (kids.take k)=D at g3 hsz;generalize e.depth=E at hc hsz;obtain⟨ki,va,li,co,te,ks⟩:=e;simp only[Sx.cells]at hr hc;cases q:decide ((E:Int)>(D:Int))with
   |true=>
    have hm:max D E=E:=(by have:=of_decide_eq_true q;omega);replace zz:=uu7 g1 g3 g4 hlen hd hr w7;refine wt zz ?_;replace zz:=uu7 g1 g3 g4 hlen hd hr q;refine uU zz (hc _) ?_;replace zz:=uu5 g1 g3 g4 w7 q;refine wt zz ?_;exact⟨kids.length-(k+1),by omega,rfl,k+1,by simp,by omega,rfl,by rw[hsz,hm]⟩
   |false=>
    have hm:max D E=D:=(by have:=of_decide_eq_false q;omega);replace zz:=uu7 g1 g3 g4 hlen hd hr w7;refine wt zz ?_;replace zz:=uu7 g1 g3 g4 hlen hd hr q;refine uU zz (hc _) ?_;replace zz:=uu5 g1 g3 g4 w7 q;refine wt zz ?_;exact⟨kids.length-(k+1),by omega,rfl,k+1,by simp,by omega,rfl,by rw[hsz,hm]⟩
  ·have hd:decide ((k:Int)<(kids.length:Int))=false:=(by simp;omega);have hke:k=kids.length:=(by omega);subst hke;rw[List.take_length]at g3;generalize hD:Sx.depths 0 kids=D at g3 hdb;have wd:IntKind.i64.wrap ((D:Int)+1)=(D:Int)+1:=(by unfold bigN at hdb;rw[wrap64 (by omega) (by omega)]);cases q:(kind==3)with
   |true=>
    have hk3:kind=3:=(by simpa using q);replace zz:=uu7 g1 g3 g4 hlen hd q wd;refine wt zz ?_;rw[if_pos hk3];first|(rw[hD];simp)|simp
   |false=>
    have hk3:¬ kind=3:=(by simpa using q);replace zz:=uu7 g1 g3 g4 hlen hd q wd;refine wt zz ?_;rw[if_neg hk3];try rw[hD]
theorem rshaped_c: ∀ (e:Sx),e.ok→ ∀ h:Heap,PCall Tryz.prog 83 [.agg e.cells] h fun r h'=>r= .sc (.bool (shapedS e))∧h'=h:=by
 refine Sx.ind ?_;intro kind value line col text kids ih hok h;simp only[Sx.ok]at hok;obtain⟨_,_,ht,hk,hks⟩:=hok;rw[Sx.oks_iff]at hks;have hlen:=Sx.rows_len kids;have e1:=emp_lenS kids;have hw:=fun h:Heap=>rword_c (h:=h) ht;generalize hF:shapedS (.mk kind value line col text kids)=F;unfold shapedS at hF;rw[← e1]at hF;try clear zz
 clear e1;simp only[Sx.cells];cases k1:(kind==1)with
 |true=>
  rw[if_pos (by simpa using k1)]at hF;cases q1:(value==0)with
  |false=>
   rw[q1]at hF;simp only[Bool.false_and]at hF;subst hF;refine uG0 Tryz.func83 Tryz.ntmps83 Tryz.results83 Ty.hb_83 ?_;exact wz (uu3 k1 q1 hlen)
  |true=>
   rw[q1]at hF;cases q2:((kids.length:Int)==0)with
   |false=>
    rw[q2]at hF;simp only[Bool.false_and,Bool.and_false]at hF;subst hF;refine uG0 Tryz.func83 Tryz.ntmps83 Tryz.results83 Ty.hb_83 ?_;replace zz:=uu4 k1 q1 q2 hlen;exact wz zz
   |true=>
    rw[q2]at hF;simp only[Bool.true_and]at hF;subst hF;refine uG0 Tryz.func83 Tryz.ntmps83 Tryz.results83 Ty.hb_83 ?_;replace zz:=uu4 k1 q1 q2 hlen;refine wt zz ?_;replace zz:=uu4 k1 q1 q2 hlen;refine uU zz (hw _) ?_;exact wz zz
 |false=>
  rw[if_neg (by simpa using k1)]at hF;cases k2:(kind==2)with
  |true=>
   rw[if_pos (by simpa using k2)]at hF;cases q1:(text.data.toList==(#[]:Array UInt8).toList)with
   |false=>
    rw[q1]at hF;simp only[Bool.false_and]at hF;subst hF;refine uG0 Tryz.func83 Tryz.ntmps83 Tryz.results83 Ty.hb_83 ?_;replace zz:=uu4 k1 k2 q1 hlen;exact wz zz
   |true=>
    rw[q1]at hF;cases q2:((kids.length:Int)==0)with
    |false=>
     rw[q2]at hF;simp only[Bool.false_and,Bool.and_false]at hF;subst hF;refine uG0 Tryz.func83 Tryz.ntmps83 Tryz.results83 Ty.hb_83 ?_;replace zz:=uu5 k1 k2 q1 q2 hlen;exact wz zz
    |true=>
     rw[q2]at hF;cases q3:decide (value≥ -1099511627776)with
     |false=>
      rw[q3]at hF;simp only[Bool.false_and,Bool.and_false]at hF;subst hF;refine uG0 Tryz.func83 Tryz.ntmps83 Tryz.results83 Ty.hb_83 ?_;replace zz:=uu6 k1 k2 q1 q2 q3 hlen;exact wz zz
     |true=>
      rw[q3]at hF;simp only[Bool.true_and]at hF;subst hF;refine uG0 Tryz.func83 Tryz.ntmps83 Tryz.results83 Ty.hb_83 ?_;replace zz:=uu6 k1 k2 q1 q2 q3 hlen;exact wz zz
  |false=>
   rw[if_neg (by simpa using k2)]at hF;cases k3:(kind==3)with
   |false=>
    rw[if_neg (by simpa using k3)]at hF;subst hF;refine uG0 Tryz.func83 Tryz.ntmps83 Tryz.results83 Ty.hb_83 ?_;exact wz (uu3 k1 k2 k3)
   |true=>
    rw[if_pos (by simpa using k3)]at hF;refine uG0 Tryz.func83 Tryz.ntmps83 Tryz.results83 Ty.hb_83 ?_;replace zz:=uu4 k1 k2 k3 hlen;refine wt zz ?_;refine a_loop (fun m S h'=>h'=h∧S 1= .cptr (Sx.mk kind value line col text kids).cells∧ ∃ k:Nat,S 3= .sc (.int .i64 k)∧k≤kids.length∧m=kids.length-k∧shapedSs kids=shapedSs (kids.drop k)) kids.length ?_ ?_
    ·simp only[Ty.w,simprocAttr];exact⟨rfl,0,rfl,by omega,rfl,by simp⟩
    ·rintro m S h' ⟨rfl,g1,k,g3,hkl,rfl,hinv⟩;simp only[Sx.cells]at g1;by_cases hlt:k<kids.length
     ·have hd:decide ((k:Int)<(kids.length:Int))=true:=(by simp;omega);have w7:IntKind.i64.wrap ((k:Int)+1)=k+1:=(by unfold bigN at hk;rw[wrap64 (by omega) (by omega)]);obtain⟨e,hx⟩: ∃ e,kids[k]? =some e:=⟨_,List.getElem?_eq_getElem hlt⟩;have hmem:=List.mem_of_getElem? hx;have hc:=ih e hmem (hks e hmem);rw[drop_of_get hx]at hinv;simp only[shapedSs]at hinv;have hr:=Sx.rows_get hx;generalize shapedS e=b at hc hinv;obtain⟨ki,va,li,co,te,ks⟩:=e;simp only[Sx.cells]at hr hc;cases b with
      |false=>
       rw[hinv]at hF;simp only[Bool.false_and]at hF;subst hF;replace zz:=uu6 g1 g3 hlen hd hr w7;refine wt zz ?_;replace zz:=uu6 g1 g3 hlen hd hr yF;refine uU zz (hc _) ?_;replace zz:=uu4 g1 g3 w7 yF;exact wz zz
      |true=>
       rw[Bool.true_and]at hinv;replace zz:=uu6 g1 g3 hlen hd hr w7;refine wt zz ?_;replace zz:=uu6 g1 g3 hlen hd hr yT;refine uU zz (hc _) ?_;replace zz:=uu4 g1 g3 w7 yT;refine wt zz ?_;exact⟨kids.length-(k+1),by omega,rfl,k+1,by simp,by omega,rfl,hinv⟩
     ·have hd:decide ((k:Int)<(kids.length:Int))=false:=(by simp;omega);rw[List.drop_eq_nil_of_le (by omega)]at hinv;rw[hinv]at hF;simp only[shapedSs,Bool.true_and]at hF;cases q1:(text.data.toList==(#[]:Array UInt8).toList)with
      |false=>
       rw[q1]at hF;simp only[Bool.false_and]at hF;subst hF;replace zz:=uu5 g1 g3 hlen hd q1;exact wz zz
      |true=>
       rw[q1]at hF;simp only[Bool.true_and]at hF;subst hF;replace zz:=uu5 g1 g3 hlen hd q1;exact wz zz
theorem rvalid_c{x:Sx}(hok:x.ok)(hd:x.depth≤bigN)(h:Heap):PCall Tryz.prog 34 [.agg x.cells] h fun r h'=>r= .sc (.bool (shapedS x&&decide ((x.depth:Int)≤32)&&decide (x.count≤4096)))∧h'=h:=by
 have c1:=rshaped_c x hok;have c2:=rdepth_c x hok hd;have c3:=rcount_c x hok;generalize shapedS x=b at c1⊢;generalize x.depth=D at c2⊢;generalize x.count=N at c3⊢;obtain⟨ki,va,li,co,te,ks⟩:=x;simp only[Sx.cells]at c1 c2 c3⊢;cases b with
 |false=>
  refine uG0 Tryz.func34 Tryz.ntmps34 Tryz.results34 Ty.hb_34 ?_;refine wt trivial ?_;refine uU trivial (c1 _) ?_;refine wm trivial ?_;try exact zI
  all_goals rfl
 |true=>
  cases q:decide ((D:Int)≤32)with
  |false=>
   refine uG0 Tryz.func34 Tryz.ntmps34 Tryz.results34 Ty.hb_34 ?_;refine wt trivial ?_;refine uU trivial (c1 _) ?_;refine wt trivial ?_;refine uU q (c2 _) ?_;refine wm q ?_;try exact zI
   all_goals rfl
  |true=>
   refine uG0 Tryz.func34 Tryz.ntmps34 Tryz.results34 Ty.hb_34 ?_;refine wt trivial ?_;refine uU trivial (c1 _) ?_;refine wt trivial ?_;refine uU q (c2 _) ?_;refine wt q ?_;refine uU q (c3 _) ?_;refine wm q ?_;try exact zI
   all_goals(simp only[Bool.true_and])
end Go.Proofs.YtblgchkahpgdjaaGreat
namespace Go.AM
mutual
def Sx.nodes:Sx→Nat
 | .mk _ _ _ _ _ kids=>Sx.nodess kids+1
def Sx.nodess:List Sx→Nat
 |[]=>0
 |k::ks=>k.nodes+Sx.nodess ks
end
mutual
theorem Sx.count_eq: ∀ (x:Sx),x.nodes≤bigN→x.count=x.nodes
 | .mk _ _ _ _ _ kids,h=>by
  simp only[Sx.nodes]at h;simp only[Sx.count,Sx.nodes];have:=Sx.counts_eq kids 1 (by omega);simp only[Int.natCast_one]at this;rw[this];congr 1;omega
theorem Sx.counts_eq: ∀ (l:List Sx)(n:Nat),n+Sx.nodess l≤bigN→Sx.counts n l=(n+Sx.nodess l:Nat)
 |[],n,h=>by simp[Sx.counts,Sx.nodess]
 |k::ks,n,h=>by
  simp only[Sx.nodess]at h;simp only[Sx.counts,Sx.nodess];rw[Sx.count_eq k (by omega)];have hw:IntKind.i64.wrap ((n:Int)+(k.nodes:Int))=((n+k.nodes:Nat):Int):=by unfold bigN at h;rw[wrap64 (by omega) (by omega)];omega
  rw[hw,Sx.counts_eq ks (n+k.nodes) (by omega)];congr 1;omega
end
end Go.AM
namespace Go.Proofs.YtblgchkahpgdjaaGreat
open Go.AM
theorem lowB_self(c:UInt8):lowB c=some c↔wB c=true:=by
 unfold lowB;cases hu:upB c with
 |true=>
  have h1:65≤c.toNat∧c.toNat≤90:=by simpa[upB]using hu
  have hw:wB c=false:=by
   have h2:letB c=false:=(by simp[letB];omega);have h3:digB c=false:=(by simp[digB];omega);have h4:signs.contains c=false:=by
    rw[signs_c];have: ∀ v:Int,v=45∨v=95∨v=63∨v=58∨v=60∨v=62∨v=61∨v=43∨v=42→((c.toNat:Int)==v)=false:=by
     intro v hv;rw[beq_eq_false_iff_ne];omega
    simp[this]
   simp only[wB,h2,h3,h4,Bool.or_false]
  rw[hw];simp only[if_true,Option.some.injEq,Bool.false_eq_true,iff_false];intro e;have:=congrArg UInt8.toNat e;rw[UInt8.toNat_add]at this;simp at this;omega
 |false=>
  simp only[Bool.false_eq_true,if_false];cases wB c<;>simp
theorem lowL_self: ∀ l:List UInt8,lowL l=some l↔l.all wB=true
 |[]=>by simp[lowL]
 |c::l=>by
  have h1:=lowB_self c;have h2:=lowL_self l;simp only[lowL,List.all_cons,Bool.and_eq_true];cases hc:lowB c with
  |none=>rw[hc]at h1;simp at h1⊢;intro hw;rw[h1]at hw;simp at hw
  |some d=>
   rw[hc]at h1;cases hl:lowL l with
   |none=>rw[hl]at h2;simp at h2⊢;intro _;simpa using h2
   |some p=>
    rw[hl]at h2;simp only[Option.map_some,Option.some.injEq,List.cons.injEq];rw[← h1, ← h2];simp
theorem word_same(s:ByteArray):wordB s=wordR s:=by
 have hsl:s.data.toList.length=s.size:=by rw[Array.length_toList];try rfl
 have hself:=lowL_self s.data.toList;unfold wordB wordR lowS;by_cases hc:0<s.size∧s.size≤32
 ·rw [if_pos hc];have d1:decide (1≤s.size)=true:=by simp;omega
  have d2:decide (s.size≤32)=true:=by simp;omega
  rw[d1,d2];cases hl:lowL s.data.toList with
  |none=>
   rw[hl]at hself;have:s.data.toList.all wB=false:=by
    cases h:s.data.toList.all wB with
    |false=>rfl
    |true=>rw[h]at hself;simp at hself
   simp only[this,Bool.false_and]
  |some p=>
   rw[hl]at hself;cases h:s.data.toList.all wB with
   |true=>
    rw[h]at hself;have hp:p=s.data.toList:=(by simpa using hself);subst hp;have:(⟨s.data.toList.toArray⟩:ByteArray)=s:=ba_ext rfl;simp only[this,bEq,beq_self_eq_true,Bool.true_and]
   |false=>
    rw[h]at hself;have hp:¬ p=s.data.toList:=(by simpa using hself);have:bEq (⟨p.toArray⟩:ByteArray) s=false:=(by simp only[bEq,beq_eq_false_iff_ne];exact hp);simp only[this,Bool.and_false,Bool.false_and]
 ·rw [if_neg hc];have:(decide (1≤s.size)&&decide (s.size≤32))=false:=by
   cases h:(decide (1≤s.size)&&decide (s.size≤32))with
   |false=>rfl
   |true=>
    simp only[Bool.and_eq_true,decide_eq_true_eq]at h;exact absurd ⟨by omega,h.2⟩ hc
  simp only[Bool.false_and];rw[Bool.and_assoc (s.data.toList.all wB),this];simp
mutual
theorem svalid_iff: ∀ (x:Sx)(d n:Nat),d≤32→n≤4096→((svalid x d n).1=true↔shapedS x=true∧d+x.depth≤32∧n+x.nodes≤4096)∧((svalid x d n).1=true→(svalid x d n).2=n+x.nodes)
 | .mk kind value line col text kids,d,n,hd,hn=>by
  have e1:(kids.isEmpty=true)↔kids=[]:=List.isEmpty_iff;unfold svalid shapedS;simp only[Sx.depth,Sx.nodes];by_cases h0:n+1>4096
  ·rw [if_pos h0];refine⟨⟨by simp,fun⟨_,_,h⟩=>by omega⟩,by simp⟩
  ·rw [if_neg h0];by_cases k1:kind=1
   ·rw [if_pos k1,if_pos k1,word_same];have k3:¬ kind=3:=(by omega);rw[if_neg k3];simp only[Bool.and_eq_true,e1,decide_eq_true_eq,beq_iff_eq];constructor
    ·constructor
     ·rintro ⟨⟨h1,h2⟩,rfl⟩;exact⟨⟨⟨h2,rfl⟩,h1⟩,by simp only[Sx.depths];omega,by simp only[Sx.nodess];omega⟩
     ·rintro ⟨⟨⟨h1,h2⟩,h3⟩,_⟩;exact⟨⟨h3,h1⟩,h2⟩
    ·rintro ⟨_,rfl⟩;simp[Sx.nodess]
   ·rw [if_neg k1,if_neg k1];by_cases k2:kind=2
    ·rw [if_pos k2,if_pos k2];have k3:¬ kind=3:=(by omega);rw[if_neg k3];simp only[Bool.and_eq_true,e1,decide_eq_true_eq,bEq,ge_iff_le];constructor
     ·constructor
      ·rintro ⟨⟨⟨h1,rfl⟩,h3⟩,h4⟩;exact⟨⟨⟨⟨h1,rfl⟩,h3⟩,h4⟩,by simp only[Sx.depths];omega,by simp only[Sx.nodess];omega⟩
      ·rintro ⟨⟨⟨⟨h1,h2⟩,h3⟩,h4⟩,_⟩;exact⟨⟨⟨h1,h2⟩,h3⟩,h4⟩
     ·rintro ⟨⟨⟨_,rfl⟩,_⟩,_⟩;simp[Sx.nodess]
    ·rw [if_neg k2,if_neg k2];by_cases k3:kind=3
     ·rw [if_pos k3,if_pos k3,if_pos k3];simp only[Bool.and_eq_true,beq_iff_eq];by_cases hc:bEq text ⟨#[]⟩=true∧value=0∧d≠32
      ·rw [if_pos hc];obtain⟨g1,g2⟩:=svalids_iff kids (d+1) (n+1) (by omega) (by omega);rw[g1];refine⟨⟨fun⟨h1,h2,h3⟩=>⟨⟨h1,by simpa[bEq]using hc.1,hc.2.1⟩,by omega,by omega⟩,fun⟨⟨h1,_,_⟩,h2,h3⟩=>⟨h1,by omega,by omega⟩⟩,fun h=>?_⟩;rw[g2 (g1.2 h)];omega
      ·rw [if_neg hc];refine⟨⟨by simp,fun⟨⟨h1,h4,h5⟩,h2,h3⟩=>?_⟩,by simp⟩;exact absurd ⟨by simp only[bEq,beq_iff_eq];exact h4,h5,by omega⟩ hc
     ·rw [if_neg k3,if_neg k3];simp
theorem svalids_iff: ∀ (l:List Sx)(d n:Nat),d≤32→n≤4096→((svalids l d n).1=true↔shapedSs l=true∧d+Sx.depths 0 l≤32∧n+Sx.nodess l≤4096)∧((svalids l d n).1=true→(svalids l d n).2=n+Sx.nodess l)
 |[],d,n,hd,hn=>by simp[svalids,shapedSs,Sx.depths,Sx.nodess,hd,hn]
 |k::ks,d,n,hd,hn=>by
  obtain⟨g1,g2⟩:=svalid_iff k d n hd hn;have hdm: ∀ (m:Nat)(l:List Sx),Sx.depths m l=max m (Sx.depths 0 l):=by
   intro m l
   induction l generalizing m with
   |nil=>simp[Sx.depths]
   |cons k l ih=>simp only[Sx.depths];rw[ih (max m k.depth),ih (max 0 k.depth)];omega
  simp only[svalids,shapedSs,Sx.depths,Sx.nodess,Bool.and_eq_true];rw[hdm];cases hb:svalid k d n with
  |mk b n'=>
   rw[hb]at g1 g2;cases b with
   |false=>
    simp only at g1⊢;refine⟨⟨by simp,fun⟨⟨h1,_⟩,h2,h3⟩=>?_⟩,by simp⟩;exact absurd (g1.2 ⟨h1,by omega,by omega⟩) (by simp)
   |true=>
    simp only at g1 g2⊢;obtain⟨a1,a2,a3⟩:=g1.1 trivial;have e:=g2 trivial;obtain⟨f1,f2⟩:=svalids_iff ks d n' hd (by omega);rw[f1];refine⟨⟨fun⟨h1,h2,h3⟩=>⟨⟨a1,h1⟩,by omega,by omega⟩,fun⟨⟨_,h1⟩,h2,h3⟩=>⟨h1,by omega,by omega⟩⟩,fun h=>?_⟩;rw[f2 (f1.2 h)];omega
end
def rvalidB(x:Sx):Bool:=shapedS x&&decide ((x.depth:Int)≤32)&&decide (x.count≤4096)
theorem valid_same{x:Sx}(h:x.nodes≤bigN):(svalid x 0 0).1=rvalidB x:=by
 have h1:=(svalid_iff x 0 0 (by omega) (by omega)).1;unfold rvalidB;rw[Sx.count_eq x h];rw[Bool.eq_iff_iff,h1];simp only[Bool.and_eq_true,decide_eq_true_eq];constructor
 ·rintro ⟨a,b,c⟩;exact⟨⟨a,by omega⟩,by omega⟩
 ·rintro ⟨⟨a,b⟩,c⟩;exact⟨a,by omega,by omega⟩
end Go.Proofs.YtblgchkahpgdjaaGreat
namespace Go.AM
end Go.AM
namespace Go.Proofs.YtblgchkahpgdjaaGreat
open Go.AM
theorem zeroEx_ok:zeroEx.ok∧zeroEx.small:=by
 simp only[zeroEx,Ex.ok,Ex.oks,Ex.small,Ex.smalls,List.length_nil];refine⟨⟨by simp[bigN,ByteArray.size],by simp[bigN,ByteArray.size],by omega,⟨by simp,by simp⟩,by simp,trivial⟩,by omega,trivial⟩
end Go.Proofs.YtblgchkahpgdjaaGreat
namespace Go.Proofs.YtblgchkahpgdjaaGreat
open Go.AM
def fin(r:Fm × Int):Fm × Int:=bif r.2==0 then r else(zeroFm,r.2)
end Go.Proofs.YtblgchkahpgdjaaGreat
namespace Go.Proofs.YtblgchkahpgdjaaGreat
open Go.AM
theorem partsOk_cases{op name:ByteArray}{args:List ByteArray}{params:List Pm}{ne nk:Nat}(h:partsOk op name args params ne nk=true):
  (op=opAtom∧nameB name=true∧args.all termB=true∧params=[]∧ne=0∧nk=0)∨
  (op=opSame∧name=⟨#[]⟩∧args.length=2∧args.all termB=true∧params=[]∧ne=0∧nk=0)∨
  ((op=opLt∨op=opLe∨op=opEq)∧name=⟨#[]⟩∧args=[]∧params=[]∧ne=2∧nk=0)∨
  ((op=opAnd∨op=opOr∨(op=opNot∧nk=1)∨(op=opImp∧nk=2))∧name=⟨#[]⟩∧args=[]∧params=[]∧ne=0)∨
  ((op=opAll∨op=opSome)∧name=⟨#[]⟩∧args=[]∧ne=0∧nk=1∧params.all pmOk=true):=by
 unfold partsOk shapeOf at h;have t1: ∀ o:ByteArray,bEq o opAtom=false→bEq o opSame=false→termsOk o name args=true→name=⟨#[]⟩∧args=[]:=by
  intro o h1 h2 h3;unfold termsOk at h3;rw[h1,h2]at h3;simp only[Bool.false_eq_true,if_false,Bool.and_eq_true,List.isEmpty_iff]at h3;exact⟨bEq_eq h3.1,h3.2⟩
 cases c1:bEq op opAtom with
 |true=>
  have:=bEq_eq c1;subst this;left;simp[c1,termsOk,and_assoc]at h;exact⟨rfl,h.1,by simpa using h.2.1,h.2.2.2.2.1,h.2.2.1,h.2.2.2.1⟩
 |false=>
 cases c2:bEq op opSame with
 |true=>
  have:=bEq_eq c2;subst this;right;left;simp[c1,c2,termsOk,and_assoc]at h;obtain⟨h1,h2,h3,h4,h5,h6,_⟩:=h;exact⟨rfl,bEq_eq h1,h2,by simpa using h3,h6,h4,h5⟩
 |false=>
  have t2:=t1 op c1 c2;rw[c1,c2]at h;simp only[Bool.false_eq_true,if_false]at h;right;right;by_cases c3:bEq op opLt=true∨bEq op opLe=true∨bEq op opEq=true
  ·left;have h':termsOk op name args=true∧ne=2∧nk=0∧params=[]:=by
    split at h
    ·simp at h
    ·rename_i e m q he;have:(e,m,q)=(2,0,false):=by
      rcases c3 with c|c|c
      ·simp [c]at he;simp[he]
      ·by_cases c0:bEq op opLt=true
       ·simp [c0]at he;simp[he]
       ·simp [c0,c]at he;simp[he]
      ·by_cases c0:bEq op opLt=true
       ·simp [c0]at he;simp[he]
       ·by_cases c00:bEq op opLe=true
        ·simp [c0,c00]at he;simp[he]
        ·simp [c0,c00,c]at he;simp[he]
     simp at this;obtain⟨rfl,rfl,rfl⟩:=this;simp[and_assoc]at h;exact⟨h.1,h.2.1,h.2.2.1,h.2.2.2.1⟩
   obtain⟨g1,g2,g3,g4⟩:=h';obtain⟨g5,g6⟩:=t2 g1;exact⟨c3.imp bEq_eq (fun c=>c.imp bEq_eq bEq_eq),g5,g6,g4,g2,g3⟩
  ·simp only[not_or,Bool.not_eq_true]at c3;rw[c3.1,c3.2.1,c3.2.2]at h;simp only[Bool.false_eq_true,if_false]at h;right;cases c4:bEq op opAnd with
   |true=>
    left;simp[c4,and_assoc]at h;exact⟨.inl (bEq_eq c4),(t2 h.1).1,(t2 h.1).2,h.2.2.1,h.2.1⟩
   |false=>
   cases c5:bEq op opOr with
   |true=>
    left;simp[c4,c5,and_assoc]at h;exact⟨.inr (.inl (bEq_eq c5)),(t2 h.1).1,(t2 h.1).2,h.2.2.1,h.2.1⟩
   |false=>
   cases c6:bEq op opNot with
   |true=>
    left;simp[c4,c5,c6,and_assoc]at h;exact⟨.inr (.inr (.inl ⟨bEq_eq c6,h.2.2.1⟩)),(t2 h.1).1,(t2 h.1).2,h.2.2.2.1,h.2.1⟩
   |false=>
   cases c7:bEq op opImp with
   |true=>
    left;simp[c4,c5,c6,c7,and_assoc]at h;exact⟨.inr (.inr (.inr ⟨bEq_eq c7,h.2.2.1⟩)),(t2 h.1).1,(t2 h.1).2,h.2.2.2.1,h.2.1⟩
   |false=>
   cases c8:bEq op opAll with
   |true=>
    right;simp[c4,c5,c6,c7,c8,and_assoc]at h;exact⟨.inl (bEq_eq c8),(t2 h.1).1,(t2 h.1).2,h.2.1,h.2.2.1,by simpa using h.2.2.2⟩
   |false=>
   cases c9:bEq op opSome with
   |true=>
    right;simp[c4,c5,c6,c7,c8,c9,and_assoc]at h;exact⟨.inr (bEq_eq c9),(t2 h.1).1,(t2 h.1).2,h.2.1,h.2.2.1,by simpa using h.2.2.2⟩
   |false=>simp[c4,c5,c6,c7,c8,c9]at h
end Go.Proofs.YtblgchkahpgdjaaGreat
namespace Go.AM
end Go.AM
namespace Go.Proofs.YtblgchkahpgdjaaGreat
open Go.AM
theorem validF_shaped{f:Fm}(h:validF f=true):shapedF f=true:=by
 unfold validF at h;simp only[Bool.and_eq_true]at h;exact shapedM_F f 0 0 h.1
theorem fm_mk_ok{op name:ByteArray}{args:List ByteArray}{params:List Pm}{exprs:List Ex}{kids:List Fm}(h1:op.size≤bigN)(h2:name.size≤bigN)(h3:args.length≤1048576)(h4: ∀ s∈args,s.size≤bigN)(h5:params.length≤1048576)(h6: ∀ p∈params,p.ok)
  (h7:exprs.length≤2)(h8: ∀ e∈exprs,e.ok∧e.small)(h9:kids.length≤1048576)(h10: ∀ k∈kids,k.ok∧k.small):(Fm.mk op name args params exprs kids).ok∧(Fm.mk op name args params exprs kids).small:=by
 simp only[Fm.ok,Fm.small];rw[Fm.oks_iff,Ex.oks_iff,Ex.smalls_iff,Fm.smalls_iff];refine⟨⟨h1,h2,⟨by unfold bigN;omega,h4⟩,⟨by unfold bigN;omega,h6⟩,⟨by unfold bigN;omega,fun e he=>(h8 e he).1⟩,by unfold bigN;omega,fun k hk=>(h10 k hk).1⟩,h3,h5,fun e he=>(h8 e he).2,h9,fun k hk=>(h10 k hk).2⟩
end Go.Proofs.YtblgchkahpgdjaaGreat
namespace Go.Proofs.YtblgchkahpgdjaaGreat
open Go.AM
def numM(n:Int):Sx:= .mk 2 n 0 0 ⟨#[]⟩ []
def andFm:Fm:= .mk opAnd ⟨#[]⟩ [] [] [] []
end Go.Proofs.YtblgchkahpgdjaaGreat
namespace Go.Proofs.YtblgchkahpgdjaaGreat
open Go.AM
set_option maxRecDepth 4000
def opWhen:ByteArray:=⟨#[119,104,101,110]⟩
def opAsg:ByteArray:=⟨#[97,115,115,105,103,110]⟩
def opInc:ByteArray:=⟨#[105,110,99,114,101,97,115,101]⟩
def opDec:ByteArray:=⟨#[100,101,99,114,101,97,115,101]⟩
def isAlw(f:Fm):Bool:=f.same andFm
def fmX(f:Fm):Sx:=bif validF f then fmW f else .mk 0 0 0 0 ⟨#[]⟩ []
def exX(e:Ex):Sx:=bif validE e then exW e else .mk 0 0 0 0 ⟨#[]⟩ []
def kwK(k:Int):ByteArray:=bif k==3 then opAsg else bif k==4 then opInc else opDec
def ch1(c:Ch):Sx:=bif c.kind==1 then wordsM c.name c.args else bif c.kind==2 then listM [wordM opNot,wordsM c.name c.args]
 else bif c.kind==3||c.kind==4||c.kind==5 then listM [wordM (kwK c.kind),wordsM c.name c.args,exX c.value]else wordsM c.name c.args
def ch2(c:Ch):Sx:=bif isAlw c.cond then ch1 c else listM [wordM opWhen,fmX c.cond,ch1 c]
def chX(c:Ch):Sx:=bif c.params.isEmpty then ch2 c else listM [wordM opAll,listM (paramsW c.params),ch2 c]
def parB(vars:Bool)(p:Pm):Bool:=(bif vars then varB p.name else nameB p.name)&&(bEq p.type opObj||nameB p.type)
def chB(c:Ch):Bool:=nameB c.name&&c.args.all termB&&(bif c.kind==1||c.kind==2 then c.value.same zeroEx else(bif c.kind==3||c.kind==4||c.kind==5 then validE c.value else false))&&(isAlw c.cond||validF c.cond)&&c.params.all (parB true)
def effX(l:List Ch):Sx:=bif l.isEmpty then listM []else listM (wordM opAnd::l.map chX)
end Go.Proofs.YtblgchkahpgdjaaGreat
namespace Go.Proofs.YtblgchkahpgdjaaGreat
open Go.AM
set_option maxHeartbeats 2000000
set_option maxRecDepth 20000
theorem rterm_c{h:Heap}{s:ByteArray}(hs:s.size≤bigN):PCall Tryz.prog 158 [sPV s] h fun r h'=>r= .sc (.bool (termB s))∧h'=h:=by
 have hs':s.size≤9223372036854775807:=by unfold bigN at hs;omega
 cases c1:nameB s with
 |true=>
  have:termB s=true:=by simp[termB,c1]
  refine uG0 Tryz.func158 Tryz.ntmps158 Tryz.results158 Ty.hb_158 ?_;repeat'(first|refine a_seq fun K hK=>?_|refine uR trivial ?_|(refine uN hK ?_;clear hK)|apply zI)
  refine uU c1 (rname_c (s:=s) hs') ?_;repeat'(first|refine uT c1 ?_|(refine uN hK ?_;clear hK)|apply zI)
  rw[this]
 |false=>
  have:termB s=varB s:=by simp[termB,c1]
  refine uG0 Tryz.func158 Tryz.ntmps158 Tryz.results158 Ty.hb_158 ?_;repeat'(first|refine a_seq fun K hK=>?_|refine uR trivial ?_|(refine uN hK ?_;clear hK)|apply zI)
  refine uU c1 (rname_c (s:=s) hs') ?_;try apply zI
  refine uU c1 (rvariable_c (s:=s) hs') ?_;repeat'(first|refine uT c1 ?_|(refine uN hK ?_;clear hK)|apply zI)
  rw[this]
theorem rall_c{h:Heap}{l:List ByteArray}(hl:l.length≤bigN)(hs: ∀ s∈l,s.size≤bigN):PCall Tryz.prog 130 [.imm 1 (strRows l)] h fun r h'=>r= .sc (.bool (l.all termB))∧h'=h:=by
 unfold bigN at hl;have hlen:=strRows_len l;refine uG0 Tryz.func130 Tryz.ntmps130 Tryz.results130 Ty.hb_130 ?_;repeat'(first|refine a_seq fun K hK=>?_|refine a_block ?_|refine uR hlen ?_|(refine uN hK ?_;clear hK)|apply zI)
 refine a_loop (fun m S h'=>h'=h∧S 0= .imm 1 (strRows l)∧ ∃ k:Nat,S 3= .sc (.int .i64 k)∧k≤l.length∧m=l.length-k∧l.all termB=(l.drop k).all termB) l.length ?_ ?_
 ·simp only[Ty.w,simprocAttr];exact⟨0,rfl,by omega,rfl,by simp⟩
 ·rintro m S h' ⟨rfl,g0,k,g3,hk,rfl,hinv⟩;by_cases hlt:k<l.length
  ·have hd:decide ((k:Int)<(l.length:Int))=true:=(by simp;omega);have w7:IntKind.i64.wrap ((k:Int)+1)=k+1:=(by rw[wrap64 (by omega) (by omega)]);obtain⟨w,hx⟩: ∃ w,l[k]? =some w:=⟨l[k],List.getElem?_eq_getElem hlt⟩;have hr:=strRows_get hx;have hc:=fun h:Heap=>rterm_c (h:=h) (hs w (List.mem_of_getElem? hx));rw[drop_of_get hx,List.all_cons]at hinv;generalize termB w=b at hc hinv;cases b with
   |false=>
    rw[Bool.false_and]at hinv;replace zz:=uu4 g0 g3 hd hr;(repeat'(first|refine a_seq fun K hK=>?_|refine uR zz ?_|refine uK ?_|(refine uC zz (fun hb=>?_) (fun hb=>?_)<;>(try simp only[hb0,simprocAttr]at hb)<;>(try(exfalso;omega)))|(refine uN hK ?_;clear hK)|apply zI));replace zz:=uu5 g0 g3 hd hr yF;refine uU zz (hc _) ?_;replace zz:=uu3 g0 g3 yF;(repeat'(first|refine a_seq fun K hK=>?_|refine uR zz ?_|refine uT zz ?_|(refine uN hK ?_;clear hK)|apply zI));rw[hinv]
   |true=>
    rw[Bool.true_and]at hinv;replace zz:=uu4 g0 g3 hd hr;(repeat'(first|refine a_seq fun K hK=>?_|refine uR zz ?_|refine uK ?_|(refine uC zz (fun hb=>?_) (fun hb=>?_)<;>(try simp only[hb0,simprocAttr]at hb)<;>(try(exfalso;omega)))|(refine uN hK ?_;clear hK)|apply zI));replace zz:=uu5 g0 g3 hd hr yT;refine uU zz (hc _) ?_;replace zz:=uu4 g0 g3 w7 yT;(repeat'(first|refine a_block ?_|refine uR zz ?_|refine uK ?_|(refine uN hK ?_;clear hK)|apply zI));exact⟨l.length-(k+1),by omega,k+1,by simp,by omega,rfl,hinv⟩
  ·have hd:decide ((k:Int)<(l.length:Int))=false:=(by simp;omega);rw[List.drop_eq_nil_of_le (by omega)]at hinv;replace zz:=uu4 g0 g3 hlen hd;(repeat'(first|refine a_seq fun K hK=>?_|refine uR zz ?_|refine uT zz ?_|refine uX ?_|(refine uC zz (fun hb=>?_) (fun hb=>?_)<;>(try simp only[hb0,simprocAttr]at hb)<;>(try(exfalso;omega)))|(refine uN hK ?_;clear hK)|(clear hK;refine uN hK ?_;clear hK)|apply zI));rw[hinv];try rfl
theorem rwd_c{h:Heap}{s:ByteArray}:PCall Tryz.prog 79 [sPV s] h fun r h'=>r= .agg (wordM s).cells∧h'=h:=by
 refine PCall.frz Ty.hb_79 ?_;refine uG0 Tryz.func79 Tryz.ntmps79 Tryz.results79 Ty.hb_79 ?_;repeat'(first|refine a_seq fun K hK=>?_|refine uR trivial ?_|refine uT trivial ?_|(refine uN hK ?_;clear hK)|apply zI)
 refine⟨?_,((Grow.refl h).new _).set (Nat.le_refl _) _⟩;simp only[wordM,Sx.cells,Sx.rows,FrzTo,FrzL];exact⟨_,rfl,rfl,rfl,rfl,rfl,rfl,.inr (.inl ⟨rfl,.inr rfl⟩),trivial⟩
theorem rlist_c{h:Heap}{first:ByteArray}{l:List ByteArray}(hl:l.length≤1048576):PCall Tryz.prog 81 [sPV first,.imm 1 (strRows l)] h fun r h'=>r= .agg (wordsM first l).cells∧h'=h:=by
 refine PCall.frz Ty.hb_81 ?_;have hll:=strRows_len l;have hw: ∀ (s:ByteArray)(h:Heap),PCall Tryz.prog 79 [sPV s] h fun r h'=>r= .agg (wordM s).cells∧h'=h:=fun s h=>rwd_c;simp only[wordM,Sx.cells,Sx.rows]at hw;refine uG (ow:=fun t=>t==9) (wf:=fun _=>false) Tryz.func81 Tryz.ntmps81 Tryz.results81 Ty.hb_81 ?_;repeat'(first|refine a_seq fun K hK=>?_|refine uR trivial ?_|(refine uN hK ?_;clear hK)|apply zI)
 refine uU trivial (hw first _) ?_;repeat'(first|refine a_seq fun K hK=>?_|refine a_block ?_|refine uR hll ?_|(refine uN hK ?_;clear hK)|apply zI)
 refine a_loop (fun m S h'=>S 1= .imm 1 (strRows l)∧S 4= .ptr h.next 0 0∧ ∃ k id:Nat,S 6= .sc (.int .i64 k)∧S 5= .own id 0 (k+1)∧k≤l.length∧m=l.length-k∧Grow h h'∧h.next<id∧id<h'.next∧
  h'.obj h.next=some (.arr 6 [[.sc (.int .i64 0),.sc (.int .i64 0),.sc (.int .i64 0),.sc (.int .i64 0),.sc (.string ⟨#[]⟩),.sc (.slice none 0 0)]])∧h'.obj id=some (.arr 6 (Sx.rows ((first::l.take k).map wordM)))) l.length ?_ ?_
 ·simp only[Ty.w,simprocAttr];have e1:¬ h.next=h.next+1:=by omega
  refine⟨0,h.next+1,rfl,rfl,by omega,rfl,((Grow.refl h).new _).new _,by omega,by simp[Heap.new],?_,?_⟩
  ·simp [Heap.new]
  ·simp [Heap.new,wordM,Sx.rows,Sx.cells]
 ·rintro m S h' ⟨g1,g4,k,id,g6,g5,hk,rfl,hg,hlo,hhi,o1,o3⟩;by_cases hlt:k<l.length
  ·have hd:decide ((k:Int)<(l.length:Int))=true:=(by simp;omega);have w7:IntKind.i64.wrap ((k:Int)+1)=k+1:=(by rw[wrap64 (by omega) (by omega)]);obtain⟨s,hx⟩: ∃ s,l[k]? =some s:=⟨_,List.getElem?_eq_getElem hlt⟩;have hr:=strRows_get hx;have hrl:(Sx.rows ((first::l.take k).map wordM)).length=k+1:=(by rw[Sx.rows_len];simp;omega);generalize hR:Sx.rows ((first::l.take k).map wordM)=R at o3 hrl;have htk:List.take (k+1) R=R:=List.take_of_length_le (by omega);have hb:(k+1+1)*72≤140737488355328:=(by omega);replace zz:=uu9 g1 g4 g5 g6 hll hd hr w7 o3;(repeat'(first|refine a_seq fun K hK=>?_|refine a_block ?_|refine uR zz ?_|refine uQ zz fun K hK=>?_|refine uK ?_|(refine uC zz (fun hb=>?_) (fun hb=>?_)<;>(try simp only[hb0,simprocAttr]at hb)<;>(try(exfalso;omega)))|(refine uN hK ?_;clear hK)|apply zI));replace zz:=uu12 g1 g4 g5 g6 hll hd hr w7 o3 hrl htk hb;refine uU zz (hw s _) ?_;replace zz:=uu9 g1 g4 g5 g6 w7 o3 hrl htk hb;(repeat'(first|refine uR zz ?_|(refine uN hK ?_;clear hK)|(rw[if_pos];rotate_left 1;omega;simp(maxSteps:=2000000) only[Ty.w,simprocAttr,g1,g4,g5,g6,w7,o3,hrl,htk,hb])|apply zI));refine⟨l.length-(k+1),by omega,k+1,h'.next,by simp,rfl,by omega,rfl,(hg.kill (by omega)).new _,by omega,by simp[Heap.new,Heap.kill],?_,?_⟩
   ·have a2:¬ h.next=h'.next:=by omega
    have a3:¬ h.next=id:=by omega
    simp only[Heap.new,Heap.kill,a2,a3,if_false];exact o1
   ·simp only[Heap.new,Heap.kill,if_true];rw[List.take_add_one,hx, ← hR];simp only[Sx.rows_map,List.map_cons,List.map_append,List.map_nil,Option.toList_some,List.cons_append,wordM,Sx.cells]
  ·have hd:decide ((k:Int)<(l.length:Int))=false:=(by simp;omega);have hke:k=l.length:=(by omega);subst hke;rw[List.take_length]at o3;replace zz:=uu8 g1 g4 g5 g6 hll hd o1 o3;(repeat'(first|refine a_seq fun K hK=>?_|refine uR zz ?_|refine uT zz ?_|refine uX ?_|(refine uC zz (fun hb=>?_) (fun hb=>?_)<;>(try simp only[hb0,simprocAttr]at hb)<;>(try(exfalso;omega)))|(refine uN hK ?_;clear hK)|(clear hK;refine uN hK ?_;clear hK)|apply zI));refine⟨?_,hg.set (Nat.le_refl _) _⟩;simp only[wordsM,listM,Sx.cells,FrzTo,FrzL];refine⟨_,rfl,rfl,rfl,rfl,rfl,rfl,.inr (.inr ⟨id,0,l.length+1,Sx.rows ((first::l).map wordM),rfl,by omega,?_,?_,?_⟩),trivial⟩
   ·simp only[Heap.set];rw[if_neg (by omega)];exact o3
   ·rw [Sx.rows_len];simp
   ·rw [List.drop_zero,List.take_of_length_le (by rw[Sx.rows_len];simp)];exact sxs_frz _ _ _
theorem rwriteE_c: ∀ e:Ex,e.small→shapedE e=true→ ∀ h:Heap,PCall Tryz.prog 82 [.agg e.cells] h fun r h'=>r= .agg (exW e).cells∧h'=h:=by
 refine Ex.ind ?_;intro op name n args kids ih hsm hsh h;simp only[Ex.small]at hsm;obtain⟨hal,hks⟩:=hsm;rw[Ex.smalls_iff]at hks;unfold shapedE at hsh;unfold exW;refine PCall.frz Ty.hb_82 ?_;cases c1:bEq op opNum with
 |true=>
  have c1':(op.data.toList==(#[110,117,109,98,101,114]:Array UInt8).toList)=true:=c1;simp only[if_true,Ex.cells];refine uG0 Tryz.func82 Tryz.ntmps82 Tryz.results82 Ty.hb_82 ?_;repeat'(first|refine a_seq fun K hK=>?_|refine uR c1' ?_|refine uT c1' ?_|(refine uN hK ?_;clear hK)|apply zI)
  refine⟨?_,((Grow.refl h).new _).set (Nat.le_refl _) _⟩;simp only[Sx.cells,Sx.rows,FrzTo,FrzL];exact⟨_,rfl,rfl,rfl,rfl,rfl,rfl,.inr (.inl ⟨rfl,.inr rfl⟩),trivial⟩
 |false=>
  have c1':(op.data.toList==(#[110,117,109,98,101,114]:Array UInt8).toList)=false:=c1;rw[c1]at hsh;simp only[Bool.false_eq_true,if_false]at hsh⊢;cases c2:bEq op opFlu with
  |true=>
   have c2':(op.data.toList==(#[102,108,117,101,110,116]:Array UInt8).toList)=true:=c2;have hw:=fun h:Heap=>rlist_c (h:=h) (first:=name) hal;have hfz:=fun(n:Nat)(h:Heap)=>sx_frz n h (wordsM name args);simp only[if_true,Ex.cells];generalize wordsM name args=X at hw hfz;obtain⟨ki,va,li,co,te,ks⟩:=X;simp only[Sx.cells]at hw hfz⊢;refine uG0 Tryz.func82 Tryz.ntmps82 Tryz.results82 Ty.hb_82 ?_;(repeat'(first|refine a_seq fun K hK=>?_|refine uR (uu c1' c2') ?_|(refine uN hK ?_;clear hK)|apply zI));refine uU (uu c1' c2') (hw _) ?_;(repeat'(first|refine uT trivial ?_|(refine uN hK ?_;clear hK)|apply zI));refine⟨?_,((Grow.refl h).new _).set (Nat.le_refl _) _⟩;simp only[FrzTo];exact⟨_,rfl,hfz _ _⟩
  |false=>
   have c2':(op.data.toList==(#[102,108,117,101,110,116]:Array UInt8).toList)=false:=c2;rw[c2]at hsh;simp only[Bool.false_eq_true,if_false]at hsh⊢;split at hsh
   case isFalse=>simp at hsh
   simp only[Bool.and_eq_true]at hsh;obtain⟨⟨⟨_,_⟩,_⟩,hsh⟩:=hsh;split at hsh
   case h_2=>simp at hsh
   rename_i a b;simp only[Bool.and_eq_true]at hsh;have ca:=ih a (by simp) (hks a (by simp)) hsh.1;have cb:=ih b (by simp) (hks b (by simp)) hsh.2;have hw:=fun h:Heap=>rwd_c (h:=h) (s:=op);have hfz:=fun(n:Nat)(h:Heap)=>sx_frz n h (listM [wordM op,exW a,exW b]);generalize exW a=xa at ca hfz⊢;generalize exW b=xb at cb hfz⊢;(try clear zz);clear ih hks hsh;obtain⟨aop,aname,an,aargs,akids⟩:=a;obtain⟨bop,bname,bn,bargs,bkids⟩:=b;obtain⟨ki,va,li,co,te,ks⟩:=xa;obtain⟨ki2,va2,li2,co2,te2,ks2⟩:=xb;simp only[Ex.cells,Ex.rows,listM,Sx.cells,Sx.rows,wordM]at ca cb hw hfz⊢;refine uG0 Tryz.func82 Tryz.ntmps82 Tryz.results82 Ty.hb_82 ?_;replace zz:=uu c1' c2';(repeat'(first|refine a_seq fun K hK=>?_|refine a_block ?_|refine uR zz ?_|refine uD zz ?_|refine uK ?_|(refine uN hK ?_;clear hK)|apply zI));(first|refine uV trivial (hw _) ?_|refine uA trivial (hw _) ?_);(try apply zI);(first|refine uV trivial (ca _) ?_|refine uA trivial (ca _) ?_);(try apply zI);(first|refine uV trivial (cb _) ?_|refine uA trivial (cb _) ?_);(repeat'(first|refine uT trivial ?_|(refine uN hK ?_;clear hK)|refine uB trivial ?_|apply zI));refine⟨?_,((Grow.refl h).new _).set (Nat.le_refl _) _⟩;simp only[FrzTo];exact⟨_,rfl,hfz _ _⟩
end Go.Proofs.YtblgchkahpgdjaaGreat
namespace Go.Proofs.YtblgchkahpgdjaaGreat
open Go.AM
set_option maxHeartbeats 8000000
set_option maxRecDepth 20000
def opB(op name:ByteArray)(v:Int)(args:List ByteArray)(kids:List Ex):Bool:=
 if(op.data.toList==(#[110,117,109,98,101,114]:Array UInt8).toList)then decide (v≥ -1099511627776)&&(decide (v≤1099511627776)&&((name.data.toList==(#[]:Array UInt8).toList)&&(((args.length:Int)==0)&&((kids.length:Int)==0))))
 else if(op.data.toList==(#[102,108,117,101,110,116]:Array UInt8).toList)then(v==0)&&(nameB name&&(args.all termB&&((kids.length:Int)==0)))
 else if((op.data.toList==(#[43]:Array UInt8).toList)||((op.data.toList==(#[45]:Array UInt8).toList)||(op.data.toList==(#[42]:Array UInt8).toList)))then(v==0)&&((name.data.toList==(#[]:Array UInt8).toList)&&(((args.length:Int)==0)&&((kids.length:Int)==2)))
 else false
theorem shapedE_kid{op name:ByteArray}{v:Int}{args:List ByteArray}{kids:List Ex}(h:shapedE (.mk op name v args kids)=true): ∀ k∈kids,shapedE k=true:=by
 unfold shapedE at h;intro k hk;split at h
 ·simp only[Bool.and_eq_true,List.isEmpty_iff]at h;rw[h.1.2]at hk;simp at hk
 ·split at h
  ·simp only[Bool.and_eq_true,List.isEmpty_iff]at h;rw[h.1.1.2]at hk;simp at hk
  ·split at h
   ·simp only[Bool.and_eq_true]at h;obtain⟨_,h⟩:=h;split at h
    ·simp only[Bool.and_eq_true]at h;simp only[List.mem_cons,List.not_mem_nil,or_false]at hk;rcases hk with rfl|rfl
     ·exact h.1
     ·exact h.2
    ·simp at h
   ·simp at h
theorem shapedE_op{op name:ByteArray}{v:Int}{args:List ByteArray}{kids:List Ex}(h: ∀ k∈kids,shapedE k=true):shapedE (.mk op name v args kids)=opB op name v args kids:=by
 have n1:bEq op opNum=(op.data.toList==(#[110,117,109,98,101,114]:Array UInt8).toList):=rfl;have n2:bEq op opFlu=(op.data.toList==(#[102,108,117,101,110,116]:Array UInt8).toList):=rfl;have n3:bEq op opPls=(op.data.toList==(#[43]:Array UInt8).toList):=rfl;have n4:bEq op opMin=(op.data.toList==(#[45]:Array UInt8).toList):=rfl;have n5:bEq op opTim=(op.data.toList==(#[42]:Array UInt8).toList):=rfl;have n6:emptyB name=(name.data.toList==(#[]:Array UInt8).toList):=rfl;have n7:decide (v=0)=(v==0):=by by_cases h0:v=0<;>simp[h0]
 have n8:inNum v=(decide (v≥ -1099511627776)&&decide (v≤1099511627776)):=rfl;unfold shapedE opB;rw[n1,n2,n3,n4,n5,n6,n7,n8, ← emp_len args, ← emp_len kids];split
 ·generalize decide (v≥ -1099511627776)=a;generalize decide (v≤1099511627776)=b;generalize(name.data.toList==(#[]:Array UInt8).toList)=c;generalize((args.length:Int)==0)=d;generalize((kids.length:Int)==0)=e;cases a<;>cases b<;>cases c<;>cases d<;>cases e<;>rfl
 ·split
  ·generalize (v==0)=a;generalize nameB name=b;generalize args.all termB=c;generalize((kids.length:Int)==0)=e;cases a<;>cases b<;>cases c<;>cases e<;>rfl
  ·rw [Bool.or_assoc];split
   ·rw [Bool.and_assoc,Bool.and_assoc];congr 1;congr 1;congr 1
    match kids,h with
    |[],_=>rfl
    |[_],_=>rfl
    |[a,b],h=>simp only[h a (by simp),h b (by simp)];rfl
    |_::_::_::l,_=>simp;omega
   ·rfl
theorem rshapedE_c: ∀ e:Ex,e.ok→ ∀ h:Heap,PCall Tryz.prog 108 [.agg e.cells] h fun r h'=>r= .sc (.bool (shapedE e))∧h'=h:=by
 refine Ex.ind ?_;intro op name v args kids ih hok h;simp only[Ex.ok]at hok;obtain⟨_,hnm,_,⟨hal,hargs⟩,hkl,hks⟩:=hok;rw[Ex.oks_iff]at hks;have hnm':name.size≤9223372036854775807:=by unfold bigN at hnm;omega
 have hlA:=strRows_len args;have hlK:=Ex.rows_len kids;have hkid: ∀ k∈kids,shapedE k=false→shapedE (.mk op name v args kids)=false:=fun k hk hf=>by
  cases hh:shapedE (.mk op name v args kids)with
  |false=>rfl
  |true=>rw[shapedE_kid hh k hk]at hf;simp at hf
 have hop:(∀ k∈kids,shapedE k=true)→shapedE (.mk op name v args kids)=opB op name v args kids:=shapedE_op;generalize shapedE (.mk op name v args kids)=F at hkid hop;simp only[Ex.cells];refine uG0 Tryz.func108 Tryz.ntmps108 Tryz.results108 Ty.hb_108 ?_;refine wt hlK ?_;refine a_loop (fun m S h'=>h'=h∧S 1= .cptr (Ex.mk op name v args kids).cells∧ ∃ k:Nat,S 3= .sc (.int .i64 k)∧k≤kids.length∧m=kids.length-k∧ ∀ (i:Nat)(e:Ex),i<k→kids[i]? =some e→shapedE e=true) kids.length ?_ ?_
 ·simp only[Ty.w,simprocAttr];exact⟨rfl,0,rfl,by omega,rfl,by omega⟩
 ·rintro m S h' ⟨rfl,g1,k,g3,hkk,rfl,hall⟩;simp only[Ex.cells]at g1;by_cases hlt:k<kids.length
  ·(try clear zz);clear hop;have hd:decide ((k:Int)<(kids.length:Int))=true:=(by simp;omega);have w7:IntKind.i64.wrap ((k:Int)+1)=k+1:=(by unfold bigN at hkl;rw[wrap64 (by omega) (by omega)]);obtain⟨e,hx⟩: ∃ e,kids[k]? =some e:=⟨_,List.getElem?_eq_getElem hlt⟩;have hmem:=List.mem_of_getElem? hx;have hc:=ih e hmem (hks e hmem);have hr:=Ex.rows_get hx;have hbad:=hkid e hmem;have hgood:shapedE e=true→ ∀ (i:Nat)(e:Ex),i<k+1→kids[i]? =some e→shapedE e=true:=fun h1 i e2 hi hw=>by
    by_cases hik:i=k
    ·subst hik;rw[hx]at hw;simp at hw;rw[← hw];exact h1
    ·exact hall i e2 (by omega) hw
   generalize shapedE e=b at hc hbad hgood;(try clear zz);clear hkid hall;obtain⟨op2,name2,n2,args2,kids2⟩:=e;simp only[Ex.cells]at hr hc;cases b with
   |false=>
    have:=hbad rfl;subst this;replace zz:=uu6 g1 g3 hlK hd hr w7;refine wt zz ?_;replace zz:=uu6 g1 g3 hlK hd hr yF;refine uU zz (hc _) ?_;replace zz:=uu4 g1 g3 w7 yF;exact wz zz
   |true=>
    replace zz:=uu6 g1 g3 hlK hd hr w7;refine wt zz ?_;replace zz:=uu6 g1 g3 hlK hd hr yT;refine uU zz (hc _) ?_;replace zz:=uu4 g1 g3 w7 yT;refine wt zz ?_;exact⟨kids.length-(k+1),by omega,rfl,k+1,by simp,by omega,rfl,hgood rfl⟩
  ·have hd:decide ((k:Int)<(kids.length:Int))=false:=(by simp;omega);have hF:=hop fun e he=>by
    obtain⟨i,hi⟩:=List.getElem?_of_mem he;exact hall i e (by have:=(List.getElem?_eq_some_iff.1 hi).1;omega) hi
   (try clear zz);clear hop hall hkid ih;have hn:=fun h:Heap=>rname_c (h:=h) (s:=name) hnm';have hA:=fun h:Heap=>rall_c (h:=h) hal hargs;unfold opB at hF;cases k1:(op.data.toList==(#[110,117,109,98,101,114]:Array UInt8).toList)with
   |true=>
    rw[k1]at hF;simp only[if_true]at hF;cases q1:decide (v≥ -1099511627776)with
    |false=>
     rw[q1]at hF;simp only[Bool.false_and]at hF;subst hF;replace zz:=uu7 g1 g3 hd hlA hlK k1 q1;exact wz zz
    |true=>
     rw[q1,Bool.true_and]at hF;cases q2:decide (v≤1099511627776)with
     |false=>
      rw[q2]at hF;simp only[Bool.false_and]at hF;subst hF;replace zz:=uu8 g1 g3 hd hlA hlK k1 q1 q2;exact wz zz
     |true=>
      rw[q2,Bool.true_and]at hF;cases q3:(name.data.toList==(#[]:Array UInt8).toList)with
      |false=>
       rw[q3]at hF;simp only[Bool.false_and]at hF;subst hF;replace zz:=uu9 g1 g3 hd hlA hlK k1 q1 q2 q3;exact wz zz
      |true=>
       rw[q3,Bool.true_and]at hF;cases q4:((args.length:Int)==0)with
       |false=>
        rw[q4]at hF;simp only[Bool.false_and]at hF;subst hF;replace zz:=uu10 g1 g3 hd hlA hlK k1 q1 q2 q3 q4;exact wz zz
       |true=>
        rw[q4,Bool.true_and]at hF;subst hF;replace zz:=uu10 g1 g3 hd hlA hlK k1 q1 q2 q3 q4;exact wz zz
   |false=>
    rw[k1]at hF;simp only[Bool.false_eq_true,if_false]at hF;cases k2:(op.data.toList==(#[102,108,117,101,110,116]:Array UInt8).toList)with
    |true=>
     rw[k2]at hF;simp only[if_true]at hF;cases q1:(v==0)with
     |false=>
      rw[q1]at hF;simp only[Bool.false_and]at hF;subst hF;replace zz:=uu8 g1 g3 hd hlA hlK k1 k2 q1;exact wz zz
     |true=>
      rw[q1,Bool.true_and]at hF;generalize nameB name=bn at hn hF;cases bn with
      |false=>
       simp only[Bool.false_and]at hF;subst hF;replace zz:=uu8 g1 g3 hd hlA hlK k1 k2 q1;refine wt zz ?_;replace zz:=uu8 g1 g3 hd hlA hlK k1 k2 q1;refine uU zz (hn _) ?_;exact wz zz
      |true=>
       rw[Bool.true_and]at hF;generalize args.all termB=ba at hA hF;cases ba with
       |false=>
        simp only[Bool.false_and]at hF;subst hF;replace zz:=uu8 g1 g3 hd hlA hlK k1 k2 q1;refine wt zz ?_;replace zz:=uu8 g1 g3 hd hlA hlK k1 k2 q1;refine uU zz (hn _) ?_;refine wt zz ?_;replace zz:=uu8 g1 g3 hd hlA hlK k1 k2 q1;refine uU zz (hA _) ?_;exact wz zz
       |true=>
        rw[Bool.true_and]at hF;subst hF;replace zz:=uu8 g1 g3 hd hlA hlK k1 k2 q1;refine wt zz ?_;replace zz:=uu8 g1 g3 hd hlA hlK k1 k2 q1;refine uU zz (hn _) ?_;refine wt zz ?_;replace zz:=uu8 g1 g3 hd hlA hlK k1 k2 q1;refine uU zz (hA _) ?_;exact wz zz
    |false=>
     rw[k2]at hF;simp only[Bool.false_eq_true,if_false]at hF;(try clear zz);clear hn hA;cases k3:(op.data.toList==(#[43]:Array UInt8).toList)with
     |true=>
      rw[k3]at hF;simp only[Bool.true_or,if_true]at hF;cases q1:(v==0)with
      |false=>
       rw[q1]at hF;simp only[Bool.false_and]at hF;subst hF;replace zz:=uu9 g1 g3 hd hlA hlK k1 k2 k3 q1;exact wz zz
      |true=>
       rw[q1,Bool.true_and]at hF;cases q2:(name.data.toList==(#[]:Array UInt8).toList)with
       |false=>
        rw[q2]at hF;simp only[Bool.false_and]at hF;subst hF;replace zz:=uu10 g1 g3 hd hlA hlK k1 k2 k3 q1 q2;exact wz zz
       |true=>
        rw[q2,Bool.true_and]at hF;cases q3:((args.length:Int)==0)with
        |false=>
         rw[q3]at hF;simp only[Bool.false_and]at hF;subst hF;replace zz:=uu11 g1 g3 hd hlA hlK k1 k2 k3 q1 q2 q3;exact wz zz
        |true=>
         rw[q3,Bool.true_and]at hF;subst hF;replace zz:=uu11 g1 g3 hd hlA hlK k1 k2 k3 q1 q2 q3;exact wz zz
     |false=>
      rw[k3]at hF;simp only[Bool.false_or]at hF;cases k4:(op.data.toList==(#[45]:Array UInt8).toList)with
      |true=>
       rw[k4]at hF;simp only[Bool.true_or,if_true]at hF;cases q1:(v==0)with
       |false=>
        rw[q1]at hF;simp only[Bool.false_and]at hF;subst hF;replace zz:=uu10 g1 g3 hd hlA hlK k1 k2 k3 k4 q1;exact wz zz
       |true=>
        rw[q1,Bool.true_and]at hF;cases q2:(name.data.toList==(#[]:Array UInt8).toList)with
        |false=>
         rw[q2]at hF;simp only[Bool.false_and]at hF;subst hF;replace zz:=uu11 g1 g3 hd hlA hlK k1 k2 k3 k4 q1 q2;exact wz zz
        |true=>
         rw[q2,Bool.true_and]at hF;cases q3:((args.length:Int)==0)with
         |false=>
          rw[q3]at hF;simp only[Bool.false_and]at hF;subst hF;replace zz:=uu12 g1 g3 hd hlA hlK k1 k2 k3 k4 q1 q2 q3;exact wz zz
         |true=>
          rw[q3,Bool.true_and]at hF;subst hF;replace zz:=uu12 g1 g3 hd hlA hlK k1 k2 k3 k4 q1 q2 q3;exact wz zz
      |false=>
       rw[k4]at hF;simp only[Bool.false_or]at hF;cases k5:(op.data.toList==(#[42]:Array UInt8).toList)with
       |true=>
        rw[k5]at hF;simp only[if_true]at hF;cases q1:(v==0)with
        |false=>
         rw[q1]at hF;simp only[Bool.false_and]at hF;subst hF;replace zz:=uu11 g1 g3 hd hlA hlK k1 k2 k3 k4 k5 q1;exact wz zz
        |true=>
         rw[q1,Bool.true_and]at hF;cases q2:(name.data.toList==(#[]:Array UInt8).toList)with
         |false=>
          rw[q2]at hF;simp only[Bool.false_and]at hF;subst hF;replace zz:=uu12 g1 g3 hd hlA hlK k1 k2 k3 k4 k5 q1 q2;exact wz zz
         |true=>
          rw[q2,Bool.true_and]at hF;cases q3:((args.length:Int)==0)with
          |false=>
           rw[q3]at hF;simp only[Bool.false_and]at hF;subst hF;replace zz:=uu12 g1 g3 hd hlA hlK k1 k2 k3 k4 k5 q1 (uu q2 q3);exact wz zz
          |true=>
           rw[q3,Bool.true_and]at hF;subst hF;replace zz:=uu12 g1 g3 hd hlA hlK k1 k2 k3 k4 k5 q1 (uu q2 q3);exact wz zz
       |false=>
        rw[k5]at hF;simp only[Bool.false_eq_true,if_false]at hF;subst hF;replace zz:=uu10 g1 g3 hd hlA hlK k1 k2 k3 k4 k5;exact wz zz
end Go.Proofs.YtblgchkahpgdjaaGreat
namespace Go.Proofs.YtblgchkahpgdjaaGreat
open Go.AM
def opF(op name:ByteArray)(args:List ByteArray)(params:List Pm)(ne nk:Nat):Bool:=
 if bEq op opAtom then nameB name&&(args.all termB&&((((params.length:Int)+ne)+nk)==0))
 else if bEq op opSame then bEq name ⟨#[]⟩&&(((args.length:Int)==2)&&(args.all termB&&((((params.length:Int)+ne)+nk)==0)))
 else if(bEq op opLt||(bEq op opLe||bEq op opEq))then bEq name ⟨#[]⟩&&(((((args.length:Int)+params.length)+nk)==0)&&((ne:Int)==2))
 else if(bEq op opAnd||bEq op opOr)then bEq name ⟨#[]⟩&&((((args.length:Int)+params.length)+ne)==0)
 else if bEq op opNot then bEq name ⟨#[]⟩&&(((((args.length:Int)+params.length)+ne)==0)&&((nk:Int)==1))
 else if bEq op opImp then bEq name ⟨#[]⟩&&(((((args.length:Int)+params.length)+ne)==0)&&((nk:Int)==2))
 else if(bEq op opAll||bEq op opSome)then bEq name ⟨#[]⟩&&((((args.length:Int)+ne)==0)&&(((nk:Int)==1)&&params.all pmOk))
 else false
theorem partsOk_opF(op name:ByteArray)(args:List ByteArray)(params:List Pm)(ne nk:Nat):partsOk op name args params ne nk=opF op name args params ne nk:=by
 have ea:args.isEmpty=decide (args.length=0):=by cases args<;>simp
 have ep:params.isEmpty=decide (params.length=0):=by cases params<;>simp
 have ep2:params.length=0→params.all pmOk=true:=fun h=>by rw[List.length_eq_zero_iff.1 h];try rfl
 have en:emptyB name=bEq name ⟨#[]⟩:=rfl;unfold partsOk shapeOf termsOk opF;rw[ea,en,ep];generalize args.all termB=ta;generalize params.all pmOk=pa at ep2;generalize bEq name ⟨#[]⟩=nm;generalize nameB name=nn;generalize args.length=la;generalize params.length=lp at ep2;cases k1:bEq op opAtom
 ·cases k2:bEq op opSame
  ·cases k3:bEq op opLt
   ·cases k4:bEq op opLe
    ·cases k5:bEq op opEq
     ·cases k6:bEq op opAnd
      ·cases k7:bEq op opOr
       ·cases k8:bEq op opNot
        ·cases k9:bEq op opImp
         ·cases k10:bEq op opAll
          ·cases k11:bEq op opSome
           ·simp
           ·rw [Bool.eq_iff_iff];simp;cases nm<;>cases pa<;>simp<;>omega
          ·rw [Bool.eq_iff_iff];simp;cases nm<;>cases pa<;>simp<;>omega
         ·rw [Bool.eq_iff_iff];simp;cases nm<;>cases pa<;>simp at ep2⊢ <;>omega
        ·rw [Bool.eq_iff_iff];simp;cases nm<;>cases pa<;>simp at ep2⊢ <;>omega
       ·rw [Bool.eq_iff_iff];simp;cases nm<;>cases pa<;>simp at ep2⊢ <;>omega
      ·rw [Bool.eq_iff_iff];simp;cases nm<;>cases pa<;>simp at ep2⊢ <;>omega
     ·rw [Bool.eq_iff_iff];simp;cases nm<;>cases pa<;>simp at ep2⊢ <;>omega
    ·rw [Bool.eq_iff_iff];simp;cases nm<;>cases pa<;>simp at ep2⊢ <;>omega
   ·rw [Bool.eq_iff_iff];simp;cases nm<;>cases pa<;>simp at ep2⊢ <;>omega
  ·rw [Bool.eq_iff_iff];simp;cases nm<;>cases pa<;>cases ta<;>simp at ep2⊢ <;>omega
 ·rw [Bool.eq_iff_iff];simp;cases nn<;>cases pa<;>cases ta<;>simp at ep2⊢ <;>omega
theorem shapedF_op{op name:ByteArray}{args:List ByteArray}{params:List Pm}{exprs:List Ex}{kids:List Fm}(hE: ∀ e∈exprs,shapedE e=true)(hK: ∀ k∈kids,shapedF k=true):
  shapedF (.mk op name args params exprs kids)=opF op name args params exprs.length kids.length:=by
 have h1:exprs.all shapedE=true:=List.all_eq_true.2 hE;have h2:shapedFs kids=true:=shapedFs_iff.2 hK;simp only[shapedF,h1,h2,Bool.and_true,partsOk_opF]
theorem shapedF_kid{op name:ByteArray}{args:List ByteArray}{params:List Pm}{exprs:List Ex}{kids:List Fm}(h:shapedF (.mk op name args params exprs kids)=true):(∀ e∈exprs,shapedE e=true)∧ ∀ k∈kids,shapedF k=true:=by
 simp only[shapedF,Bool.and_eq_true]at h;exact⟨List.all_eq_true.1 h.1.2,shapedFs_iff.1 h.2⟩
end Go.Proofs.YtblgchkahpgdjaaGreat
namespace Go.Proofs.YtblgchkahpgdjaaGreat
open Go.AM
set_option maxHeartbeats 8000000
set_option maxRecDepth 20000
def pmR(v:Bool)(p:Pm):Bool:=(if v=true then varB p.name else nameB p.name)&&typedB p.type
theorem pmR_ok:pmR true=pmOk:=rfl
theorem a_genR{P:Program}{ow:Nat→Bool}{wf:FuncId→Bool}{n:Nat}{Q:Post}{s:Slots}{h:Heap}{c:Code}(I:Slots→Heap→Prop)(hi:I s h)(hh: ∀ s h,I s h→awp P ow wf n c Q s h):awp P ow wf n c Q s h:=hh _ _ hi
theorem rshapedPs_c{v:Bool}{l:List Pm}(hl:l.length≤bigN)(hp: ∀ p∈l,p.ok)(h:Heap):PCall Tryz.prog 29 [.imm 2 (pmRows l),.sc (.bool v)] h fun r h'=>r= .sc (.bool (l.all (pmR v)))∧h'=h:=by
 unfold bigN at hl;have hlen:=pmRows_len l;cases v with
 |true=>
  refine uG0 Tryz.func29 Tryz.ntmps29 Tryz.results29 Ty.hb_29 ?_;refine wt hlen ?_;refine a_loop (fun m S h'=>h'=h∧S 0= .imm 2 (pmRows l)∧S 1= .sc (.bool true)∧ ∃ k:Nat,S 5= .sc (.int .i64 k)∧k≤l.length∧m=l.length-k∧l.all (pmR true)=(l.drop k).all (pmR true)) l.length ?_ ?_
  ·simp only[Ty.w,simprocAttr];exact⟨0,rfl,by omega,rfl,by simp⟩
  ·rintro m S h' ⟨rfl,g0,g1,k,g5,hk,rfl,hinv⟩;by_cases hlt:k<l.length
   ·have hd:decide ((k:Int)<(l.length:Int))=true:=(by simp;omega);have w7:IntKind.i64.wrap ((k:Int)+1)=k+1:=(by rw[wrap64 (by omega) (by omega)]);obtain⟨p,hx⟩: ∃ p,l[k]? =some p:=⟨l[k],List.getElem?_eq_getElem hlt⟩;have hr:=pmRows_get hx;have hpo:=hp p (List.mem_of_getElem? hx);have h1:p.name.size≤9223372036854775807:=(by have:=hpo.1;unfold bigN at this;omega);have h2:p.type.size≤9223372036854775807:=(by have:=hpo.2;unfold bigN at this;omega);have hc:=fun h:Heap=>rvariable_c (h:=h) (s:=p.name) h1;have hc2:=fun h:Heap=>rname_c (h:=h) (s:=p.type) h2;rw[drop_of_get hx,List.all_cons]at hinv;have hq:pmR true p=(varB p.name&&(nameB p.type||(p.type.data.toList==(#[111,98,106,101,99,116]:Array UInt8).toList))):=rfl;rw[hq]at hinv;(try clear zz);clear hq;generalize varB p.name=b at hc hinv;generalize nameB p.type=b2 at hc2 hinv;cases b with
    |false=>
     simp only[Bool.false_and]at hinv;(repeat'(first|refine cK ?_|(refine nK ?_;try exact zI)|refine a_seq fun K hK=>?_|(refine a_regionS ?_;simp(maxSteps:=2000000) only[Ty.w,simprocAttr,g0,g1,g5,hd,hr,bne,Bool.not_true,Bool.not_false])|(refine a_skip ?_;(try simp only[pst0,simprocAttr]))|(refine a_cond _ (by(try simp(maxSteps:=2000000) only[Ty.w,simprocAttr,g0,g1,g5,hd,hr,bne,Bool.not_true,Bool.not_false]);rfl) (fun hb=>?_) (fun hb=>?_)<;>(try simp only[hb0,decide_eq_true_eq,decide_eq_false_iff_not,simprocAttr]at hb)<;>(try(exfalso;omega)))|(refine hK _ _ ?_;clear hK;(try simp only[pst0,simprocAttr]))));refine owp_useQ (hc _) (by(try simp only[Ty.w,simprocAttr,g0,g1,g5,hd,hr,bne,Bool.not_true,Bool.not_false]);try rfl) ?_;simp(maxSteps:=2000000) only[Ty.w,simprocAttr,g0,g1,g5,hd,hr,bne,Bool.not_true,Bool.not_false];(repeat'(first|refine cK ?_|(refine nK ?_;try exact zI)|refine a_seq fun K hK=>?_|((first|refine a_regionS ?_|refine a_ret ?_);simp(maxSteps:=2000000) only[Ty.w,simprocAttr,g0,g1,g5,hd,hr,bne,Bool.not_true,Bool.not_false])|(refine hK _ _ ?_;clear hK;(try simp only[pst0,simprocAttr]))));rw[hinv]
    |true=>
     cases q:(p.type.data.toList==(#[111,98,106,101,99,116]:Array UInt8).toList)with
     |true=>
      simp only[q,Bool.or_true,Bool.true_and]at hinv;(repeat'(first|refine cK ?_|(refine nK ?_;try exact zI)|refine a_seq fun K hK=>?_|(refine a_regionS ?_;simp(maxSteps:=2000000) only[Ty.w,simprocAttr,g0,g1,g5,hd,hr,bne,Bool.not_true,Bool.not_false,q])|(refine a_skip ?_;(try simp only[pst0,simprocAttr]))|(refine a_cond _ (by(try simp(maxSteps:=2000000) only[Ty.w,simprocAttr,g0,g1,g5,hd,hr,bne,Bool.not_true,Bool.not_false,q]);rfl) (fun hb=>?_) (fun hb=>?_)<;>(try simp only[hb0,decide_eq_true_eq,decide_eq_false_iff_not,simprocAttr]at hb)<;>(try(exfalso;omega)))|(refine hK _ _ ?_;clear hK;(try simp only[pst0,simprocAttr]))));refine owp_useQ (hc _) (by(try simp only[Ty.w,simprocAttr,g0,g1,g5,hd,hr,bne,Bool.not_true,Bool.not_false,q]);try rfl) ?_;simp(maxSteps:=2000000) only[Ty.w,simprocAttr,g0,g1,g5,hd,hr,bne,Bool.not_true,Bool.not_false,q];(repeat'(first|refine cK ?_|(refine nK ?_;try exact zI)|(refine a_block ?_)|(refine a_regionS ?_;simp(maxSteps:=2000000) only[Ty.w,simprocAttr,g0,g1,g5,hd,hr,bne,Bool.not_true,Bool.not_false,q,w7])|(refine a_skip ?_;(try simp only[pst0,simprocAttr]))|(refine hK _ _ ?_;clear hK;(try simp only[pst0,simprocAttr]))));exact⟨l.length-(k+1),by omega,k+1,by simp,by omega,rfl,hinv⟩
     |false=>
      cases b2 with
      |false=>
       simp only[q,Bool.or_false,Bool.false_and,Bool.and_false]at hinv;(repeat'(first|refine cK ?_|(refine nK ?_;try exact zI)|refine a_seq fun K hK=>?_|(refine a_regionS ?_;simp(maxSteps:=2000000) only[Ty.w,simprocAttr,g0,g1,g5,hd,hr,bne,Bool.not_true,Bool.not_false,q])|(refine a_skip ?_;(try simp only[pst0,simprocAttr]))|(refine a_cond _ (by(try simp(maxSteps:=2000000) only[Ty.w,simprocAttr,g0,g1,g5,hd,hr,bne,Bool.not_true,Bool.not_false,q]);rfl) (fun hb=>?_) (fun hb=>?_)<;>(try simp only[hb0,decide_eq_true_eq,decide_eq_false_iff_not,simprocAttr]at hb)<;>(try(exfalso;omega)))|(refine hK _ _ ?_;clear hK;(try simp only[pst0,simprocAttr]))));refine owp_useQ (hc _) (by(try simp only[Ty.w,simprocAttr,g0,g1,g5,hd,hr,bne,Bool.not_true,Bool.not_false,q]);try rfl) ?_;simp(maxSteps:=2000000) only[Ty.w,simprocAttr,g0,g1,g5,hd,hr,bne,Bool.not_true,Bool.not_false,q];(repeat'(first|refine cK ?_|(refine nK ?_;try exact zI)));refine owp_useQ (hc2 _) (by(try simp only[Ty.w,simprocAttr,g0,g1,g5,hd,hr,bne,Bool.not_true,Bool.not_false,q]);try rfl) ?_;simp(maxSteps:=2000000) only[Ty.w,simprocAttr,g0,g1,g5,hd,hr,bne,Bool.not_true,Bool.not_false,q];(repeat'(first|refine cK ?_|(refine nK ?_;try exact zI)|refine a_seq fun K hK=>?_|((first|refine a_regionS ?_|refine a_ret ?_);simp(maxSteps:=2000000) only[Ty.w,simprocAttr,g0,g1,g5,hd,hr,bne,Bool.not_true,Bool.not_false,q])|(refine hK _ _ ?_;clear hK;(try simp only[pst0,simprocAttr]))));rw[hinv]
      |true=>
       simp only[q,Bool.or_false,Bool.true_and]at hinv;(repeat'(first|refine cK ?_|(refine nK ?_;try exact zI)|refine a_seq fun K hK=>?_|(refine a_regionS ?_;simp(maxSteps:=2000000) only[Ty.w,simprocAttr,g0,g1,g5,hd,hr,bne,Bool.not_true,Bool.not_false,q])|(refine a_skip ?_;(try simp only[pst0,simprocAttr]))|(refine a_cond _ (by(try simp(maxSteps:=2000000) only[Ty.w,simprocAttr,g0,g1,g5,hd,hr,bne,Bool.not_true,Bool.not_false,q]);rfl) (fun hb=>?_) (fun hb=>?_)<;>(try simp only[hb0,decide_eq_true_eq,decide_eq_false_iff_not,simprocAttr]at hb)<;>(try(exfalso;omega)))|(refine hK _ _ ?_;clear hK;(try simp only[pst0,simprocAttr]))));refine owp_useQ (hc _) (by(try simp only[Ty.w,simprocAttr,g0,g1,g5,hd,hr,bne,Bool.not_true,Bool.not_false,q]);try rfl) ?_;simp(maxSteps:=2000000) only[Ty.w,simprocAttr,g0,g1,g5,hd,hr,bne,Bool.not_true,Bool.not_false,q];(repeat'(first|refine cK ?_|(refine nK ?_;try exact zI)));refine owp_useQ (hc2 _) (by(try simp only[Ty.w,simprocAttr,g0,g1,g5,hd,hr,bne,Bool.not_true,Bool.not_false,q]);try rfl) ?_;simp(maxSteps:=2000000) only[Ty.w,simprocAttr,g0,g1,g5,hd,hr,bne,Bool.not_true,Bool.not_false,q];(repeat'(first|refine cK ?_|(refine nK ?_;try exact zI)|(refine a_block ?_)|(refine a_regionS ?_;simp(maxSteps:=2000000) only[Ty.w,simprocAttr,g0,g1,g5,hd,hr,bne,Bool.not_true,Bool.not_false,q,w7])|(refine a_skip ?_;(try simp only[pst0,simprocAttr]))|(refine hK _ _ ?_;clear hK;(try simp only[pst0,simprocAttr]))));exact⟨l.length-(k+1),by omega,k+1,by simp,by omega,rfl,hinv⟩
   ·have hd:decide ((k:Int)<(l.length:Int))=false:=(by simp;omega);rw[List.drop_eq_nil_of_le (by omega)]at hinv;replace zz:=uu5 g0 g1 g5 hlen hd;refine wt zz ?_;rw[hinv];try rfl
 |false=>
  refine uG0 Tryz.func29 Tryz.ntmps29 Tryz.results29 Ty.hb_29 ?_;refine wt hlen ?_;refine a_loop (fun m S h'=>h'=h∧S 0= .imm 2 (pmRows l)∧S 1= .sc (.bool false)∧ ∃ k:Nat,S 5= .sc (.int .i64 k)∧k≤l.length∧m=l.length-k∧l.all (pmR false)=(l.drop k).all (pmR false)) l.length ?_ ?_
  ·simp only[Ty.w,simprocAttr];exact⟨0,rfl,by omega,rfl,by simp⟩
  ·rintro m S h' ⟨rfl,g0,g1,k,g5,hk,rfl,hinv⟩;by_cases hlt:k<l.length
   ·have hd:decide ((k:Int)<(l.length:Int))=true:=(by simp;omega);have w7:IntKind.i64.wrap ((k:Int)+1)=k+1:=(by rw[wrap64 (by omega) (by omega)]);obtain⟨p,hx⟩: ∃ p,l[k]? =some p:=⟨l[k],List.getElem?_eq_getElem hlt⟩;have hr:=pmRows_get hx;have hpo:=hp p (List.mem_of_getElem? hx);have h1:p.name.size≤9223372036854775807:=(by have:=hpo.1;unfold bigN at this;omega);have h2:p.type.size≤9223372036854775807:=(by have:=hpo.2;unfold bigN at this;omega);have hc:=fun h:Heap=>rname_c (h:=h) (s:=p.name) h1;have hc2:=fun h:Heap=>rname_c (h:=h) (s:=p.type) h2;rw[drop_of_get hx,List.all_cons]at hinv;have hq:pmR false p=(nameB p.name&&(nameB p.type||(p.type.data.toList==(#[111,98,106,101,99,116]:Array UInt8).toList))):=rfl;rw[hq]at hinv;(try clear zz);clear hq;generalize nameB p.name=b at hc hinv;generalize nameB p.type=b2 at hc2 hinv;cases b with
    |false=>
     simp only[Bool.false_and]at hinv;(repeat'(first|refine cK ?_|(refine nK ?_;try exact zI)|refine a_seq fun K hK=>?_|(refine a_regionS ?_;simp(maxSteps:=2000000) only[Ty.w,simprocAttr,g0,g1,g5,hd,hr,bne,Bool.not_true,Bool.not_false])|(refine a_skip ?_;(try simp only[pst0,simprocAttr]))|(refine a_cond _ (by(try simp(maxSteps:=2000000) only[Ty.w,simprocAttr,g0,g1,g5,hd,hr,bne,Bool.not_true,Bool.not_false]);rfl) (fun hb=>?_) (fun hb=>?_)<;>(try simp only[hb0,decide_eq_true_eq,decide_eq_false_iff_not,simprocAttr]at hb)<;>(try(exfalso;omega)))|(refine hK _ _ ?_;clear hK;(try simp only[pst0,simprocAttr]))));refine owp_useQ (hc _) (by(try simp only[Ty.w,simprocAttr,g0,g1,g5,hd,hr,bne,Bool.not_true,Bool.not_false]);try rfl) ?_;simp(maxSteps:=2000000) only[Ty.w,simprocAttr,g0,g1,g5,hd,hr,bne,Bool.not_true,Bool.not_false];(repeat'(first|refine cK ?_|(refine nK ?_;try exact zI)|refine a_seq fun K hK=>?_|((first|refine a_regionS ?_|refine a_ret ?_);simp(maxSteps:=2000000) only[Ty.w,simprocAttr,g0,g1,g5,hd,hr,bne,Bool.not_true,Bool.not_false])|(refine hK _ _ ?_;clear hK;(try simp only[pst0,simprocAttr]))));rw[hinv]
    |true=>
     cases q:(p.type.data.toList==(#[111,98,106,101,99,116]:Array UInt8).toList)with
     |true=>
      simp only[q,Bool.or_true,Bool.true_and]at hinv;(repeat'(first|refine cK ?_|(refine nK ?_;try exact zI)|refine a_seq fun K hK=>?_|(refine a_regionS ?_;simp(maxSteps:=2000000) only[Ty.w,simprocAttr,g0,g1,g5,hd,hr,bne,Bool.not_true,Bool.not_false,q])|(refine a_skip ?_;(try simp only[pst0,simprocAttr]))|(refine a_cond _ (by(try simp(maxSteps:=2000000) only[Ty.w,simprocAttr,g0,g1,g5,hd,hr,bne,Bool.not_true,Bool.not_false,q]);rfl) (fun hb=>?_) (fun hb=>?_)<;>(try simp only[hb0,decide_eq_true_eq,decide_eq_false_iff_not,simprocAttr]at hb)<;>(try(exfalso;omega)))|(refine hK _ _ ?_;clear hK;(try simp only[pst0,simprocAttr]))));refine owp_useQ (hc _) (by(try simp only[Ty.w,simprocAttr,g0,g1,g5,hd,hr,bne,Bool.not_true,Bool.not_false,q]);try rfl) ?_;simp(maxSteps:=2000000) only[Ty.w,simprocAttr,g0,g1,g5,hd,hr,bne,Bool.not_true,Bool.not_false,q];(repeat'(first|refine cK ?_|(refine nK ?_;try exact zI)|(refine a_block ?_)|(refine a_regionS ?_;simp(maxSteps:=2000000) only[Ty.w,simprocAttr,g0,g1,g5,hd,hr,bne,Bool.not_true,Bool.not_false,q,w7])|(refine a_skip ?_;(try simp only[pst0,simprocAttr]))|(refine hK _ _ ?_;clear hK;(try simp only[pst0,simprocAttr]))));exact⟨l.length-(k+1),by omega,k+1,by simp,by omega,rfl,hinv⟩
     |false=>
      cases b2 with
      |false=>
       simp only[q,Bool.or_false,Bool.false_and,Bool.and_false]at hinv;(repeat'(first|refine cK ?_|(refine nK ?_;try exact zI)|refine a_seq fun K hK=>?_|(refine a_regionS ?_;simp(maxSteps:=2000000) only[Ty.w,simprocAttr,g0,g1,g5,hd,hr,bne,Bool.not_true,Bool.not_false,q])|(refine a_skip ?_;(try simp only[pst0,simprocAttr]))|(refine a_cond _ (by(try simp(maxSteps:=2000000) only[Ty.w,simprocAttr,g0,g1,g5,hd,hr,bne,Bool.not_true,Bool.not_false,q]);rfl) (fun hb=>?_) (fun hb=>?_)<;>(try simp only[hb0,decide_eq_true_eq,decide_eq_false_iff_not,simprocAttr]at hb)<;>(try(exfalso;omega)))|(refine hK _ _ ?_;clear hK;(try simp only[pst0,simprocAttr]))));refine owp_useQ (hc _) (by(try simp only[Ty.w,simprocAttr,g0,g1,g5,hd,hr,bne,Bool.not_true,Bool.not_false,q]);try rfl) ?_;simp(maxSteps:=2000000) only[Ty.w,simprocAttr,g0,g1,g5,hd,hr,bne,Bool.not_true,Bool.not_false,q];(repeat'(first|refine cK ?_|(refine nK ?_;try exact zI)));refine owp_useQ (hc2 _) (by(try simp only[Ty.w,simprocAttr,g0,g1,g5,hd,hr,bne,Bool.not_true,Bool.not_false,q]);try rfl) ?_;simp(maxSteps:=2000000) only[Ty.w,simprocAttr,g0,g1,g5,hd,hr,bne,Bool.not_true,Bool.not_false,q];(repeat'(first|refine cK ?_|(refine nK ?_;try exact zI)|refine a_seq fun K hK=>?_|((first|refine a_regionS ?_|refine a_ret ?_);simp(maxSteps:=2000000) only[Ty.w,simprocAttr,g0,g1,g5,hd,hr,bne,Bool.not_true,Bool.not_false,q])|(refine hK _ _ ?_;clear hK;(try simp only[pst0,simprocAttr]))));rw[hinv]
      |true=>
       simp only[q,Bool.or_false,Bool.true_and]at hinv;(repeat'(first|refine cK ?_|(refine nK ?_;try exact zI)|refine a_seq fun K hK=>?_|(refine a_regionS ?_;simp(maxSteps:=2000000) only[Ty.w,simprocAttr,g0,g1,g5,hd,hr,bne,Bool.not_true,Bool.not_false,q])|(refine a_skip ?_;(try simp only[pst0,simprocAttr]))|(refine a_cond _ (by(try simp(maxSteps:=2000000) only[Ty.w,simprocAttr,g0,g1,g5,hd,hr,bne,Bool.not_true,Bool.not_false,q]);rfl) (fun hb=>?_) (fun hb=>?_)<;>(try simp only[hb0,decide_eq_true_eq,decide_eq_false_iff_not,simprocAttr]at hb)<;>(try(exfalso;omega)))|(refine hK _ _ ?_;clear hK;(try simp only[pst0,simprocAttr]))));refine owp_useQ (hc _) (by(try simp only[Ty.w,simprocAttr,g0,g1,g5,hd,hr,bne,Bool.not_true,Bool.not_false,q]);try rfl) ?_;simp(maxSteps:=2000000) only[Ty.w,simprocAttr,g0,g1,g5,hd,hr,bne,Bool.not_true,Bool.not_false,q];(repeat'(first|refine cK ?_|(refine nK ?_;try exact zI)));refine owp_useQ (hc2 _) (by(try simp only[Ty.w,simprocAttr,g0,g1,g5,hd,hr,bne,Bool.not_true,Bool.not_false,q]);try rfl) ?_;simp(maxSteps:=2000000) only[Ty.w,simprocAttr,g0,g1,g5,hd,hr,bne,Bool.not_true,Bool.not_false,q];(repeat'(first|refine cK ?_|(refine nK ?_;try exact zI)|(refine a_block ?_)|(refine a_regionS ?_;simp(maxSteps:=2000000) only[Ty.w,simprocAttr,g0,g1,g5,hd,hr,bne,Bool.not_true,Bool.not_false,q,w7])|(refine a_skip ?_;(try simp only[pst0,simprocAttr]))|(refine hK _ _ ?_;clear hK;(try simp only[pst0,simprocAttr]))));exact⟨l.length-(k+1),by omega,k+1,by simp,by omega,rfl,hinv⟩
   ·have hd:decide ((k:Int)<(l.length:Int))=false:=(by simp;omega);rw[List.drop_eq_nil_of_le (by omega)]at hinv;replace zz:=uu5 g0 g1 g5 hlen hd;refine wt zz ?_;rw[hinv];try rfl
theorem rshapedF_c: ∀ f:Fm,f.ok→ ∀ h:Heap,PCall Tryz.prog 80 [.agg f.cells] h fun r h'=>r= .sc (.bool (shapedF f))∧h'=h:=by
 refine Fm.ind ?_;intro op name args params exprs kids ih hok h;simp only[Fm.ok]at hok;obtain⟨_,hnm,⟨hal,hargs⟩,⟨hpl,hps⟩,⟨hel,hes⟩,hkl,hks⟩:=hok;rw[Ex.oks_iff]at hes;rw[Fm.oks_iff]at hks;have hnm':name.size≤9223372036854775807:=by unfold bigN at hnm;omega
 have hP:=fun h:Heap=>rshapedPs_c (v:=true) hpl hps h;rw[pmR_ok]at hP;have hA:=fun h:Heap=>rall_c (h:=h) hal hargs;have hN:=fun h:Heap=>rname_c (h:=h) (s:=name) hnm';unfold bigN at hal hpl hel hkl;have hlA:=strRows_len args;have hlP:=pmRows_len params;have hlE:=Ex.rows_len exprs;have hlK:=Fm.rows_len kids;have hbK: ∀ k∈kids,shapedF k=false→shapedF (.mk op name args params exprs kids)=false:=fun k hk hf=>by
  cases hh:shapedF (.mk op name args params exprs kids)with
  |false=>rfl
  |true=>rw[(shapedF_kid hh).2 k hk]at hf;simp at hf
 have hbE: ∀ e∈exprs,shapedE e=false→shapedF (.mk op name args params exprs kids)=false:=fun k hk hf=>by
  cases hh:shapedF (.mk op name args params exprs kids)with
  |false=>rfl
  |true=>rw[(shapedF_kid hh).1 k hk]at hf;simp at hf
 have hop:(∀ e∈exprs,shapedE e=true)→(∀ k∈kids,shapedF k=true)→shapedF (.mk op name args params exprs kids)=opF op name args params exprs.length kids.length:=shapedF_op;generalize shapedF (.mk op name args params exprs kids)=F at hbK hbE hop;simp only[Fm.cells];refine uG0 Tryz.func80 Tryz.ntmps80 Tryz.results80 Ty.hb_80 ?_;refine wt hlK ?_;refine a_loop (fun m S h'=>h'=h∧S 1= .cptr (Fm.mk op name args params exprs kids).cells∧ ∃ k:Nat,S 3= .sc (.int .i64 k)∧k≤kids.length∧m=kids.length-k∧ ∀ (i:Nat)(e:Fm),i<k→kids[i]? =some e→shapedF e=true) kids.length ?_ ?_
 ·simp only[Ty.w,simprocAttr];exact⟨rfl,0,rfl,by omega,rfl,by omega⟩
 ·rintro m S h' ⟨rfl,g1,k,g3,hkk,rfl,hall⟩;simp only[Fm.cells]at g1;by_cases hlt:k<kids.length
  ·(try clear zz);clear hop hbE;have hd:decide ((k:Int)<(kids.length:Int))=true:=(by simp;omega);have w7:IntKind.i64.wrap ((k:Int)+1)=k+1:=(by rw[wrap64 (by omega) (by omega)]);obtain⟨e,hx⟩: ∃ e,kids[k]? =some e:=⟨_,List.getElem?_eq_getElem hlt⟩;have hmem:=List.mem_of_getElem? hx;have hc:=ih e hmem (hks e hmem);have hr:=Fm.rows_get hx;have hbad:=hbK e hmem;have hgood:shapedF e=true→ ∀ (i:Nat)(e:Fm),i<k+1→kids[i]? =some e→shapedF e=true:=fun h1 i e2 hi hw=>by
    by_cases hik:i=k
    ·subst hik;rw[hx]at hw;simp at hw;rw[← hw];exact h1
    ·exact hall i e2 (by omega) hw
   generalize shapedF e=b at hc hbad hgood;(try clear zz);clear hbK hall;obtain⟨o2,n2,a2,p2,e2,k2⟩:=e;simp only[Fm.cells]at hr hc;cases b with
   |false=>
    have:=hbad rfl;subst this;replace zz:=uu6 g1 g3 hlK hd hr w7;refine wt zz ?_;replace zz:=uu6 g1 g3 hlK hd hr yF;refine uU zz (hc _) ?_;replace zz:=uu4 g1 g3 w7 yF;exact wz zz
   |true=>
    replace zz:=uu6 g1 g3 hlK hd hr w7;refine wt zz ?_;replace zz:=uu6 g1 g3 hlK hd hr yT;refine uU zz (hc _) ?_;replace zz:=uu4 g1 g3 w7 yT;refine wt zz ?_;exact⟨kids.length-(k+1),by omega,rfl,k+1,by simp,by omega,rfl,hgood rfl⟩
  ·have hd:decide ((k:Int)<(kids.length:Int))=false:=(by simp;omega);have hop2:=fun hE=>hop hE fun e he=>by
    obtain⟨i,hi⟩:=List.getElem?_of_mem he;exact hall i e (by have:=(List.getElem?_eq_some_iff.1 hi).1;omega) hi
   (try clear zz);clear hop hall hbK ih;replace zz:=uu4 g1 g3 hlK hd;refine wt zz ?_;(try clear zz);clear g3 hd;refine a_loop (fun m S h2=>h2=h'∧S 1= .cptr (Fm.mk op name args params exprs kids).cells∧ ∃ k:Nat,S 4= .sc (.int .i64 k)∧k≤exprs.length∧m=exprs.length-k∧ ∀ (i:Nat)(e:Ex),i<k→exprs[i]? =some e→shapedE e=true) exprs.length ?_ ?_
   ·simp only[Ty.w,simprocAttr,g1];exact⟨rfl,0,rfl,by omega,rfl,by omega⟩
   ·(try clear zz);clear g1 S;rintro m S h2 ⟨rfl,g1,k,g3,hkk,rfl,hall⟩;simp only[Fm.cells]at g1;by_cases hlt:k<exprs.length
    ·(try clear zz);clear hop2;have hd:decide ((k:Int)<(exprs.length:Int))=true:=(by simp;omega);have w7:IntKind.i64.wrap ((k:Int)+1)=k+1:=(by rw[wrap64 (by omega) (by omega)]);obtain⟨e,hx⟩: ∃ e,exprs[k]? =some e:=⟨_,List.getElem?_eq_getElem hlt⟩;have hmem:=List.mem_of_getElem? hx;have hc:=rshapedE_c e (hes e hmem);have hr:=Ex.rows_get hx;have hbad:=hbE e hmem;have hgood:shapedE e=true→ ∀ (i:Nat)(e:Ex),i<k+1→exprs[i]? =some e→shapedE e=true:=fun h1 i e2 hi hw=>by
      by_cases hik:i=k
      ·subst hik;rw[hx]at hw;simp at hw;rw[← hw];exact h1
      ·exact hall i e2 (by omega) hw
     generalize shapedE e=b at hc hbad hgood;(try clear zz);clear hbE hall;obtain⟨o2,n2,v2,a2,k2⟩:=e;simp only[Ex.cells]at hr hc;cases b with
     |false=>
      have:=hbad rfl;subst this;replace zz:=uu6 g1 g3 hlE hd hr w7;refine wt zz ?_;replace zz:=uu6 g1 g3 hlE hd hr yF;refine uU zz (hc _) ?_;replace zz:=uu4 g1 g3 w7 yF;exact wz zz
     |true=>
      replace zz:=uu6 g1 g3 hlE hd hr w7;refine wt zz ?_;replace zz:=uu6 g1 g3 hlE hd hr yT;refine uU zz (hc _) ?_;replace zz:=uu4 g1 g3 w7 yT;refine wt zz ?_;exact⟨exprs.length-(k+1),by omega,rfl,k+1,by simp,by omega,rfl,hgood rfl⟩
    ·have hd:decide ((k:Int)<(exprs.length:Int))=false:=(by simp;omega);have hF:=hop2 fun e he=>by
      obtain⟨i,hi⟩:=List.getElem?_of_mem he;exact hall i e (by have:=(List.getElem?_eq_some_iff.1 hi).1;omega) hi
     (try clear zz);clear hop2 hall hbE;have wa:IntKind.i64.wrap ((params.length:Int)+exprs.length)=(params.length:Int)+exprs.length:=(by rw[wrap64 (by omega) (by omega)]);have wb:IntKind.i64.wrap (((params.length:Int)+exprs.length)+kids.length)=((params.length:Int)+exprs.length)+kids.length:=(by rw[wrap64 (by omega) (by omega)]);have wc:IntKind.i64.wrap ((args.length:Int)+params.length)=(args.length:Int)+params.length:=(by rw[wrap64 (by omega) (by omega)]);have wd:IntKind.i64.wrap (((args.length:Int)+params.length)+kids.length)=((args.length:Int)+params.length)+kids.length:=(by rw[wrap64 (by omega) (by omega)]);have we:IntKind.i64.wrap (((args.length:Int)+params.length)+exprs.length)=((args.length:Int)+params.length)+exprs.length:=(by rw[wrap64 (by omega) (by omega)]);have wf:IntKind.i64.wrap ((args.length:Int)+exprs.length)=(args.length:Int)+exprs.length:=(by rw[wrap64 (by omega) (by omega)]);unfold opF at hF;simp only[opAtom,opSame,opLt,opLe,opEq,opAnd,opOr,opNot,opImp,opAll,opSome,bEq]at hF;(repeat'(first|(with_reducible refine a_hold 12 ?_)|(first|refine cK ?_|(refine nK ?_;try exact zI)|refine a_seq fun K hK=>?_|((first|refine a_regionS ?_|refine a_drawS (by decide+kernel) ?_);simp(maxSteps:=2000000) only[Ty.w,simprocAttr,g1,g3,hd,hlA,hlP,hlE,hlK,bne])|(refine a_exit ?_;(try simp only[pst0,simprocAttr]))|(refine a_cond _ (by(try simp(maxSteps:=2000000) only[Ty.w,simprocAttr,g1,g3,hd,hlA,hlP,hlE,hlK,bne]);rfl) (fun hb=>?_) (fun hb=>?_)<;>(try simp only[hb0,decide_eq_true_eq,decide_eq_false_iff_not,simprocAttr]at hb)<;>(try(exfalso;omega)))|((first|refine hK _ _ ?_|(clear hK;refine hK _ _ ?_));clear hK;(try simp only[pst0,simprocAttr])))));refine⟨?_⟩;refine a_genR (fun S h3=>S 1= .cptr (Fm.mk op name args params exprs kids).cells∧S 5= .sc (.bool (!(name.data.toList==(#[]:Array UInt8).toList)))∧S 6= .sc (.int .i64 args.length)∧S 7= .sc (.int .i64 params.length)∧S 8= .sc (.int .i64 exprs.length)∧S 9= .sc (.int .i64 kids.length)∧h3=h2) ?_ ?_
     ·simp only[Ty.w,simprocAttr,g1,Fm.cells];try trivial
     (try clear zz);clear g1 g3 hd S hlA hlP hlE hlK;rintro S h2 ⟨g1,g5,g6,g7,g8,g9,rfl⟩;simp only[Fm.cells]at g1;cases k1:(op.data.toList==(#[97,116,111,109]:Array UInt8).toList)with
     |true=>
      simp only[k1,Bool.true_or,Bool.or_true,Bool.false_or,if_true,Bool.false_eq_true,if_false]at hF;generalize nameB name=bN at hN hF;cases bN with
      |false=>
       (try simp only[Bool.false_and,Bool.and_false]at hF);subst hF;replace zz:=uu12 g1 g5 g6 g7 g8 g9 yT yF wa wb wc (uu4 wd we wf k1);refine wt zz ?_;replace zz:=uu12 g1 g5 g6 g7 g8 g9 yT yF wa wb wc (uu4 wd we wf k1);refine uU zz (hN _) ?_;refine wm zz ?_;try exact zI
       all_goals rfl
      |true=>
       (try simp only[Bool.true_and,Bool.and_true]at hF);generalize args.all termB=bA at hA hF;cases bA with
       |false=>
        (try simp only[Bool.false_and,Bool.and_false]at hF);subst hF;replace zz:=uu12 g1 g5 g6 g7 g8 g9 yT yF wa wb wc (uu4 wd we wf k1);refine wt zz ?_;replace zz:=uu12 g1 g5 g6 g7 g8 g9 yT yF wa wb wc (uu4 wd we wf k1);refine uU zz (hN _) ?_;refine wt zz ?_;replace zz:=uu12 g1 g5 g6 g7 g8 g9 yT yF wa wb wc (uu4 wd we wf k1);refine uU zz (hA _) ?_;refine wm zz ?_;try exact zI
        all_goals rfl
       |true=>
        (try simp only[Bool.true_and,Bool.and_true]at hF);cases q2:((((params.length:Int)+exprs.length)+kids.length)==0)with
        |false=>
         simp only[q2,Bool.false_and,Bool.and_false]at hF;subst hF;replace zz:=uu12 g1 g5 g6 g7 g8 g9 yT yF wa wb wc (uu5 wd we wf k1 q2);refine wt zz ?_;replace zz:=uu12 g1 g5 g6 g7 g8 g9 yT yF wa wb wc (uu5 wd we wf k1 q2);refine uU zz (hN _) ?_;refine wt zz ?_;replace zz:=uu12 g1 g5 g6 g7 g8 g9 yT yF wa wb wc (uu5 wd we wf k1 q2);refine uU zz (hA _) ?_;refine wm zz ?_;try exact zI
         all_goals rfl
        |true=>
         simp only[q2,Bool.true_and,Bool.and_true]at hF;subst hF;replace zz:=uu12 g1 g5 g6 g7 g8 g9 yT yF wa wb wc (uu5 wd we wf k1 q2);refine wt zz ?_;replace zz:=uu12 g1 g5 g6 g7 g8 g9 yT yF wa wb wc (uu5 wd we wf k1 q2);refine uU zz (hN _) ?_;refine wt zz ?_;replace zz:=uu12 g1 g5 g6 g7 g8 g9 yT yF wa wb wc (uu5 wd we wf k1 q2);refine uU zz (hA _) ?_;refine wm zz ?_;try exact zI
         all_goals rfl
     |false=>
      simp only[k1,Bool.true_or,Bool.or_true,Bool.false_or,if_true,Bool.false_eq_true,if_false]at hF;cases k2:(op.data.toList==(#[115,97,109,101]:Array UInt8).toList)with
      |true=>
       simp only[k2,Bool.true_or,Bool.or_true,Bool.false_or,if_true,Bool.false_eq_true,if_false]at hF;cases q0:(name.data.toList==(#[]:Array UInt8).toList)with
       |false=>
        simp only[q0,Bool.false_and,Bool.and_false]at hF;subst hF;replace zz:=uu12 g1 g5 g6 g7 g8 g9 yT yF wa wb wc (uu6 wd we wf k1 k2 q0);refine wm zz ?_;try exact zI
        all_goals rfl
       |true=>
        simp only[q0,Bool.true_and,Bool.and_true]at hF;cases q1:((args.length:Int)==2)with
        |false=>
         simp only[q1,Bool.false_and,Bool.and_false]at hF;subst hF;replace zz:=uu12 g1 g5 g6 g7 g8 g9 yT yF wa wb wc (uu7 wd we wf k1 k2 q0 q1);refine wm zz ?_;try exact zI
         all_goals rfl
        |true=>
         simp only[q1,Bool.true_and,Bool.and_true]at hF;generalize args.all termB=bA at hA hF;cases bA with
         |false=>
          (try simp only[Bool.false_and,Bool.and_false]at hF);subst hF;replace zz:=uu12 g1 g5 g6 g7 g8 g9 yT yF wa wb wc (uu7 wd we wf k1 k2 q0 q1);refine wt zz ?_;replace zz:=uu12 g1 g5 g6 g7 g8 g9 yT yF wa wb wc (uu7 wd we wf k1 k2 q0 q1);refine uU zz (hA _) ?_;refine wm zz ?_;try exact zI
          all_goals rfl
         |true=>
          (try simp only[Bool.true_and,Bool.and_true]at hF);cases q3:((((params.length:Int)+exprs.length)+kids.length)==0)with
          |false=>
           simp only[q3,Bool.false_and,Bool.and_false]at hF;subst hF;replace zz:=uu12 g1 g5 g6 g7 g8 g9 yT yF wa wb wc (uu8 wd we wf k1 k2 q0 q1 q3);refine wt zz ?_;replace zz:=uu12 g1 g5 g6 g7 g8 g9 yT yF wa wb wc (uu8 wd we wf k1 k2 q0 q1 q3);refine uU zz (hA _) ?_;refine wm zz ?_;try exact zI
           all_goals rfl
          |true=>
           simp only[q3,Bool.true_and,Bool.and_true]at hF;subst hF;replace zz:=uu12 g1 g5 g6 g7 g8 g9 yT yF wa wb wc (uu8 wd we wf k1 k2 q0 q1 q3);refine wt zz ?_;replace zz:=uu12 g1 g5 g6 g7 g8 g9 yT yF wa wb wc (uu8 wd we wf k1 k2 q0 q1 q3);refine uU zz (hA _) ?_;refine wm zz ?_;try exact zI
           all_goals rfl
      |false=>
       simp only[k2,Bool.true_or,Bool.or_true,Bool.false_or,if_true,Bool.false_eq_true,if_false]at hF;cases k3:(op.data.toList==(#[60]:Array UInt8).toList)with
       |true=>
        simp only[k3,Bool.true_or,Bool.or_true,Bool.false_or,if_true,Bool.false_eq_true,if_false]at hF;cases q0:(name.data.toList==(#[]:Array UInt8).toList)with
        |false=>
         simp only[q0,Bool.false_and,Bool.and_false]at hF;subst hF;replace zz:=uu12 g1 g5 g6 g7 g8 g9 yT yF wa wb wc (uu7 wd we wf k1 k2 k3 q0);refine wm zz ?_;try exact zI
         all_goals rfl
        |true=>
         simp only[q0,Bool.true_and,Bool.and_true]at hF;cases q1:((((args.length:Int)+params.length)+kids.length)==0)with
         |false=>
          simp only[q1,Bool.false_and,Bool.and_false]at hF;subst hF;replace zz:=uu12 g1 g5 g6 g7 g8 g9 yT yF wa wb wc (uu8 wd we wf k1 k2 k3 q0 q1);refine wm zz ?_;try exact zI
          all_goals rfl
         |true=>
          simp only[q1,Bool.true_and,Bool.and_true]at hF;cases q2:((exprs.length:Int)==2)with
          |false=>
           simp only[q2,Bool.false_and,Bool.and_false]at hF;subst hF;replace zz:=uu12 g1 g5 g6 g7 g8 g9 yT yF wa wb wc (uu9 wd we wf k1 k2 k3 q0 q1 q2);refine wm zz ?_;try exact zI
           all_goals rfl
          |true=>
           simp only[q2,Bool.true_and,Bool.and_true]at hF;subst hF;replace zz:=uu12 g1 g5 g6 g7 g8 g9 yT yF wa wb wc (uu9 wd we wf k1 k2 k3 q0 q1 q2);refine wm zz ?_;try exact zI
           all_goals rfl
       |false=>
        simp only[k3,Bool.true_or,Bool.or_true,Bool.false_or,if_true,Bool.false_eq_true,if_false]at hF;cases k4:(op.data.toList==(#[60,61]:Array UInt8).toList)with
        |true=>
         simp only[k4,Bool.true_or,Bool.or_true,Bool.false_or,if_true,Bool.false_eq_true,if_false]at hF;cases q0:(name.data.toList==(#[]:Array UInt8).toList)with
         |false=>
          simp only[q0,Bool.false_and,Bool.and_false]at hF;subst hF;replace zz:=uu12 g1 g5 g6 g7 g8 g9 yT yF wa wb wc (uu8 wd we wf k1 k2 k3 k4 q0);refine wm zz ?_;try exact zI
          all_goals rfl
         |true=>
          simp only[q0,Bool.true_and,Bool.and_true]at hF;cases q1:((((args.length:Int)+params.length)+kids.length)==0)with
          |false=>
           simp only[q1,Bool.false_and,Bool.and_false]at hF;subst hF;replace zz:=uu12 g1 g5 g6 g7 g8 g9 yT yF wa wb wc (uu9 wd we wf k1 k2 k3 k4 q0 q1);refine wm zz ?_;try exact zI
           all_goals rfl
          |true=>
           simp only[q1,Bool.true_and,Bool.and_true]at hF;cases q2:((exprs.length:Int)==2)with
           |false=>
            simp only[q2,Bool.false_and,Bool.and_false]at hF;subst hF;replace zz:=uu12 g1 g5 g6 g7 g8 g9 yT yF wa wb wc (uu10 wd we wf k1 k2 k3 k4 q0 q1 q2);refine wm zz ?_;try exact zI
            all_goals rfl
           |true=>
            simp only[q2,Bool.true_and,Bool.and_true]at hF;subst hF;replace zz:=uu12 g1 g5 g6 g7 g8 g9 yT yF wa wb wc (uu10 wd we wf k1 k2 k3 k4 q0 q1 q2);refine wm zz ?_;try exact zI
            all_goals rfl
        |false=>
         simp only[k4,Bool.true_or,Bool.or_true,Bool.false_or,if_true,Bool.false_eq_true,if_false]at hF;cases k5:(op.data.toList==(#[61]:Array UInt8).toList)with
         |true=>
          simp only[k5,Bool.true_or,Bool.or_true,Bool.false_or,if_true,Bool.false_eq_true,if_false]at hF;cases q0:(name.data.toList==(#[]:Array UInt8).toList)with
          |false=>
           simp only[q0,Bool.false_and,Bool.and_false]at hF;subst hF;replace zz:=uu12 g1 g5 g6 g7 g8 g9 yT yF wa wb wc (uu9 wd we wf k1 k2 k3 k4 k5 q0);refine wm zz ?_;try exact zI
           all_goals rfl
          |true=>
           simp only[q0,Bool.true_and,Bool.and_true]at hF;cases q1:((((args.length:Int)+params.length)+kids.length)==0)with
           |false=>
            simp only[q1,Bool.false_and,Bool.and_false]at hF;subst hF;replace zz:=uu12 g1 g5 g6 g7 g8 g9 yT yF wa wb wc (uu10 wd we wf k1 k2 k3 k4 k5 q0 q1);refine wm zz ?_;try exact zI
            all_goals rfl
           |true=>
            simp only[q1,Bool.true_and,Bool.and_true]at hF;cases q2:((exprs.length:Int)==2)with
            |false=>
             simp only[q2,Bool.false_and,Bool.and_false]at hF;subst hF;replace zz:=uu12 g1 g5 g6 g7 g8 g9 yT yF wa wb wc (uu11 wd we wf k1 k2 k3 k4 k5 q0 q1 q2);refine wm zz ?_;try exact zI
             all_goals rfl
            |true=>
             simp only[q2,Bool.true_and,Bool.and_true]at hF;subst hF;replace zz:=uu12 g1 g5 g6 g7 g8 g9 yT yF wa wb wc (uu11 wd we wf k1 k2 k3 k4 k5 q0 q1 q2);refine wm zz ?_;try exact zI
             all_goals rfl
         |false=>
          simp only[k5,Bool.true_or,Bool.or_true,Bool.false_or,if_true,Bool.false_eq_true,if_false]at hF;cases k6:(op.data.toList==(#[97,110,100]:Array UInt8).toList)with
          |true=>
           simp only[k6,Bool.true_or,Bool.or_true,Bool.false_or,if_true,Bool.false_eq_true,if_false]at hF;cases q0:(name.data.toList==(#[]:Array UInt8).toList)with
           |false=>
            simp only[q0,Bool.false_and,Bool.and_false]at hF;subst hF;replace zz:=uu12 g1 g5 g6 g7 g8 g9 yT yF wa wb wc (uu10 wd we wf k1 k2 k3 k4 k5 k6 q0);refine wm zz ?_;try exact zI
            all_goals rfl
           |true=>
            simp only[q0,Bool.true_and,Bool.and_true]at hF;cases q1:((((args.length:Int)+params.length)+exprs.length)==0)with
            |false=>
             simp only[q1,Bool.false_and,Bool.and_false]at hF;subst hF;replace zz:=uu12 g1 g5 g6 g7 g8 g9 yT yF wa wb wc (uu11 wd we wf k1 k2 k3 k4 k5 k6 q0 q1);refine wm zz ?_;try exact zI
             all_goals rfl
            |true=>
             simp only[q1,Bool.true_and,Bool.and_true]at hF;subst hF;replace zz:=uu12 g1 g5 g6 g7 g8 g9 yT yF wa wb wc (uu11 wd we wf k1 k2 k3 k4 k5 k6 q0 q1);refine wm zz ?_;try exact zI
             all_goals rfl
          |false=>
           simp only[k6,Bool.true_or,Bool.or_true,Bool.false_or,if_true,Bool.false_eq_true,if_false]at hF;cases k7:(op.data.toList==(#[111,114]:Array UInt8).toList)with
           |true=>
            simp only[k7,Bool.true_or,Bool.or_true,Bool.false_or,if_true,Bool.false_eq_true,if_false]at hF;cases q0:(name.data.toList==(#[]:Array UInt8).toList)with
            |false=>
             simp only[q0,Bool.false_and,Bool.and_false]at hF;subst hF;replace zz:=uu12 g1 g5 g6 g7 g8 g9 yT yF wa wb wc (uu11 wd we wf k1 k2 k3 k4 k5 k6 k7 q0);refine wm zz ?_;try exact zI
             all_goals rfl
            |true=>
             simp only[q0,Bool.true_and,Bool.and_true]at hF;cases q1:((((args.length:Int)+params.length)+exprs.length)==0)with
             |false=>
              simp only[q1,Bool.false_and,Bool.and_false]at hF;subst hF;replace zz:=uu12 g1 g5 g6 g7 g8 g9 yT yF wa wb wc (uu12 wd we wf k1 k2 k3 k4 k5 k6 k7 q0 q1);refine wm zz ?_;try exact zI
              all_goals rfl
             |true=>
              simp only[q1,Bool.true_and,Bool.and_true]at hF;subst hF;replace zz:=uu12 g1 g5 g6 g7 g8 g9 yT yF wa wb wc (uu12 wd we wf k1 k2 k3 k4 k5 k6 k7 q0 q1);refine wm zz ?_;try exact zI
              all_goals rfl
           |false=>
            simp only[k7,Bool.true_or,Bool.or_true,Bool.false_or,if_true,Bool.false_eq_true,if_false]at hF;cases k8:(op.data.toList==(#[110,111,116]:Array UInt8).toList)with
            |true=>
             simp only[k8,Bool.true_or,Bool.or_true,Bool.false_or,if_true,Bool.false_eq_true,if_false]at hF;cases q0:(name.data.toList==(#[]:Array UInt8).toList)with
             |false=>
              simp only[q0,Bool.false_and,Bool.and_false]at hF;subst hF;replace zz:=uu12 g1 g5 g6 g7 g8 g9 yT yF wa wb wc (uu12 wd we wf k1 k2 k3 k4 k5 k6 k7 k8 q0);refine wm zz ?_;try exact zI
              all_goals rfl
             |true=>
              simp only[q0,Bool.true_and,Bool.and_true]at hF;cases q1:((((args.length:Int)+params.length)+exprs.length)==0)with
              |false=>
               simp only[q1,Bool.false_and,Bool.and_false]at hF;subst hF;replace zz:=uu12 g1 g5 g6 g7 g8 g9 yT yF wa wb wc (uu12 wd we wf k1 k2 k3 k4 k5 k6 k7 k8 (uu q0 q1));refine wm zz ?_;try exact zI
               all_goals rfl
              |true=>
               simp only[q1,Bool.true_and,Bool.and_true]at hF;cases q2:((kids.length:Int)==1)with
               |false=>
                simp only[q2,Bool.false_and,Bool.and_false]at hF;subst hF;replace zz:=uu12 g1 g5 g6 g7 g8 g9 yT yF wa wb wc (uu12 wd we wf k1 k2 k3 k4 k5 k6 k7 k8 (uu3 q0 q1 q2));refine wm zz ?_;try exact zI
                all_goals rfl
               |true=>
                simp only[q2,Bool.true_and,Bool.and_true]at hF;subst hF;replace zz:=uu12 g1 g5 g6 g7 g8 g9 yT yF wa wb wc (uu12 wd we wf k1 k2 k3 k4 k5 k6 k7 k8 (uu3 q0 q1 q2));refine wm zz ?_;try exact zI
                all_goals rfl
            |false=>
             simp only[k8,Bool.true_or,Bool.or_true,Bool.false_or,if_true,Bool.false_eq_true,if_false]at hF;cases k9:(op.data.toList==(#[105,109,112,108,121]:Array UInt8).toList)with
             |true=>
              simp only[k9,Bool.true_or,Bool.or_true,Bool.false_or,if_true,Bool.false_eq_true,if_false]at hF;cases q0:(name.data.toList==(#[]:Array UInt8).toList)with
              |false=>
               simp only[q0,Bool.false_and,Bool.and_false]at hF;subst hF;replace zz:=uu12 g1 g5 g6 g7 g8 g9 yT yF wa wb wc (uu12 wd we wf k1 k2 k3 k4 k5 k6 k7 k8 (uu k9 q0));refine wm zz ?_;try exact zI
               all_goals rfl
              |true=>
               simp only[q0,Bool.true_and,Bool.and_true]at hF;cases q1:((((args.length:Int)+params.length)+exprs.length)==0)with
               |false=>
                simp only[q1,Bool.false_and,Bool.and_false]at hF;subst hF;replace zz:=uu12 g1 g5 g6 g7 g8 g9 yT yF wa wb wc (uu12 wd we wf k1 k2 k3 k4 k5 k6 k7 k8 (uu3 k9 q0 q1));refine wm zz ?_;try exact zI
                all_goals rfl
               |true=>
                simp only[q1,Bool.true_and,Bool.and_true]at hF;cases q2:((kids.length:Int)==2)with
                |false=>
                 simp only[q2,Bool.false_and,Bool.and_false]at hF;subst hF;replace zz:=uu12 g1 g5 g6 g7 g8 g9 yT yF wa wb wc (uu12 wd we wf k1 k2 k3 k4 k5 k6 k7 k8 (uu4 k9 q0 q1 q2));refine wm zz ?_;try exact zI
                 all_goals rfl
                |true=>
                 simp only[q2,Bool.true_and,Bool.and_true]at hF;subst hF;replace zz:=uu12 g1 g5 g6 g7 g8 g9 yT yF wa wb wc (uu12 wd we wf k1 k2 k3 k4 k5 k6 k7 k8 (uu4 k9 q0 q1 q2));refine wm zz ?_;try exact zI
                 all_goals rfl
             |false=>
              simp only[k9,Bool.true_or,Bool.or_true,Bool.false_or,if_true,Bool.false_eq_true,if_false]at hF;cases k10:(op.data.toList==(#[102,111,114,97,108,108]:Array UInt8).toList)with
              |true=>
               simp only[k10,Bool.true_or,Bool.or_true,Bool.false_or,if_true,Bool.false_eq_true,if_false]at hF;cases q0:(name.data.toList==(#[]:Array UInt8).toList)with
               |false=>
                simp only[q0,Bool.false_and,Bool.and_false]at hF;subst hF;replace zz:=uu12 g1 g5 g6 g7 g8 g9 yT yF wa wb wc (uu12 wd we wf k1 k2 k3 k4 k5 k6 k7 k8 (uu3 k9 k10 q0));refine wm zz ?_;try exact zI
                all_goals rfl
               |true=>
                simp only[q0,Bool.true_and,Bool.and_true]at hF;cases q1:(((args.length:Int)+exprs.length)==0)with
                |false=>
                 simp only[q1,Bool.false_and,Bool.and_false]at hF;subst hF;replace zz:=uu12 g1 g5 g6 g7 g8 g9 yT yF wa wb wc (uu12 wd we wf k1 k2 k3 k4 k5 k6 k7 k8 (uu4 k9 k10 q0 q1));refine wm zz ?_;try exact zI
                 all_goals rfl
                |true=>
                 simp only[q1,Bool.true_and,Bool.and_true]at hF;cases q2:((kids.length:Int)==1)with
                 |false=>
                  simp only[q2,Bool.false_and,Bool.and_false]at hF;subst hF;replace zz:=uu12 g1 g5 g6 g7 g8 g9 yT yF wa wb wc (uu12 wd we wf k1 k2 k3 k4 k5 k6 k7 k8 (uu5 k9 k10 q0 q1 q2));refine wm zz ?_;try exact zI
                  all_goals rfl
                 |true=>
                  simp only[q2,Bool.true_and,Bool.and_true]at hF;generalize params.all pmOk=bP at hP hF;cases bP with
                  |false=>
                   (try simp only[Bool.false_and,Bool.and_false]at hF);subst hF;replace zz:=uu12 g1 g5 g6 g7 g8 g9 yT yF wa wb wc (uu12 wd we wf k1 k2 k3 k4 k5 k6 k7 k8 (uu5 k9 k10 q0 q1 q2));refine wt zz ?_;replace zz:=uu12 g1 g5 g6 g7 g8 g9 yT yF wa wb wc (uu12 wd we wf k1 k2 k3 k4 k5 k6 k7 k8 (uu5 k9 k10 q0 q1 q2));refine uU zz (hP _) ?_;refine wm zz ?_;try exact zI
                   all_goals rfl
                  |true=>
                   (try simp only[Bool.true_and,Bool.and_true]at hF);subst hF;replace zz:=uu12 g1 g5 g6 g7 g8 g9 yT yF wa wb wc (uu12 wd we wf k1 k2 k3 k4 k5 k6 k7 k8 (uu5 k9 k10 q0 q1 q2));refine wt zz ?_;replace zz:=uu12 g1 g5 g6 g7 g8 g9 yT yF wa wb wc (uu12 wd we wf k1 k2 k3 k4 k5 k6 k7 k8 (uu5 k9 k10 q0 q1 q2));refine uU zz (hP _) ?_;refine wm zz ?_;try exact zI
                   all_goals rfl
              |false=>
               simp only[k10,Bool.true_or,Bool.or_true,Bool.false_or,if_true,Bool.false_eq_true,if_false]at hF;cases k11:(op.data.toList==(#[101,120,105,115,116,115]:Array UInt8).toList)with
               |true=>
                simp only[k11,Bool.true_or,Bool.or_true,Bool.false_or,if_true,Bool.false_eq_true,if_false]at hF;cases q0:(name.data.toList==(#[]:Array UInt8).toList)with
                |false=>
                 simp only[q0,Bool.false_and,Bool.and_false]at hF;subst hF;replace zz:=uu12 g1 g5 g6 g7 g8 g9 yT yF wa wb wc (uu12 wd we wf k1 k2 k3 k4 k5 k6 k7 k8 (uu4 k9 k10 k11 q0));refine wm zz ?_;try exact zI
                 all_goals rfl
                |true=>
                 simp only[q0,Bool.true_and,Bool.and_true]at hF;cases q1:(((args.length:Int)+exprs.length)==0)with
                 |false=>
                  simp only[q1,Bool.false_and,Bool.and_false]at hF;subst hF;replace zz:=uu12 g1 g5 g6 g7 g8 g9 yT yF wa wb wc (uu12 wd we wf k1 k2 k3 k4 k5 k6 k7 k8 (uu5 k9 k10 k11 q0 q1));refine wm zz ?_;try exact zI
                  all_goals rfl
                 |true=>
                  simp only[q1,Bool.true_and,Bool.and_true]at hF;cases q2:((kids.length:Int)==1)with
                  |false=>
                   simp only[q2,Bool.false_and,Bool.and_false]at hF;subst hF;replace zz:=uu12 g1 g5 g6 g7 g8 g9 yT yF wa wb wc (uu12 wd we wf k1 k2 k3 k4 k5 k6 k7 k8 (uu6 k9 k10 k11 q0 q1 q2));refine wm zz ?_;try exact zI
                   all_goals rfl
                  |true=>
                   simp only[q2,Bool.true_and,Bool.and_true]at hF;generalize params.all pmOk=bP at hP hF;cases bP with
                   |false=>
                    (try simp only[Bool.false_and,Bool.and_false]at hF);subst hF;replace zz:=uu12 g1 g5 g6 g7 g8 g9 yT yF wa wb wc (uu12 wd we wf k1 k2 k3 k4 k5 k6 k7 k8 (uu6 k9 k10 k11 q0 q1 q2));refine wt zz ?_;replace zz:=uu12 g1 g5 g6 g7 g8 g9 yT yF wa wb wc (uu12 wd we wf k1 k2 k3 k4 k5 k6 k7 k8 (uu6 k9 k10 k11 q0 q1 q2));refine uU zz (hP _) ?_;refine wm zz ?_;try exact zI
                    all_goals rfl
                   |true=>
                    (try simp only[Bool.true_and,Bool.and_true]at hF);subst hF;replace zz:=uu12 g1 g5 g6 g7 g8 g9 yT yF wa wb wc (uu12 wd we wf k1 k2 k3 k4 k5 k6 k7 k8 (uu6 k9 k10 k11 q0 q1 q2));refine wt zz ?_;replace zz:=uu12 g1 g5 g6 g7 g8 g9 yT yF wa wb wc (uu12 wd we wf k1 k2 k3 k4 k5 k6 k7 k8 (uu6 k9 k10 k11 q0 q1 q2));refine uU zz (hP _) ?_;refine wm zz ?_;try exact zI
                    all_goals rfl
               |false=>
                simp only[k11,Bool.true_or,Bool.or_true,Bool.false_or,if_true,Bool.false_eq_true,if_false]at hF;subst hF;replace zz:=uu12 g1 g5 g6 g7 g8 g9 yT yF wa wb wc (uu12 wd we wf k1 k2 k3 k4 k5 k6 k7 k8 (uu3 k9 k10 k11));exact wz zz
end Go.Proofs.YtblgchkahpgdjaaGreat
namespace Go.Proofs.YtblgchkahpgdjaaGreat
open Go.AM
set_option maxHeartbeats 4000000
set_option maxRecDepth 20000
theorem rwriteParams_c{l:List Pm}(hl:l.length≤1048576)(h:Heap):PCall Tryz.prog 30 [.imm 2 (pmRows l)] h fun r h'=>r= .imm 6 (Sx.rows (paramsW l))∧h'=h:=by
 refine PCall.frz Ty.hb_30 ?_;have hll:=pmRows_len l;have hw: ∀ (s:ByteArray)(h:Heap),PCall Tryz.prog 79 [sPV s] h fun r h'=>r= .agg (wordM s).cells∧h'=h:=fun s h=>rwd_c;simp only[wordM,Sx.cells,Sx.rows]at hw;refine uG0 Tryz.func30 Tryz.ntmps30 Tryz.results30 Ty.hb_30 ?_;refine wt hll ?_;refine a_loop (fun m S h'=>S 0= .imm 2 (pmRows l)∧ ∃ (k:Nat)(o:PV),S 4= .sc (.int .i64 k)∧S 3=o∧k≤l.length∧m=l.length-k∧Grow h h'∧Tl h' h.next 6 o (Sx.rows (paramsW (l.take k)))) l.length ?_ ?_
 ·simp only[Ty.w,simprocAttr];exact⟨0,_,rfl,rfl,by omega,rfl,Grow.refl _,Tl.nil⟩
 ·rintro m S h' ⟨g0,k,o,g4,g3,hk,rfl,hg,tl⟩;by_cases hlt:k<l.length
  ·have hd:decide ((k:Int)<(l.length:Int))=true:=(by simp;omega);have w7:IntKind.i64.wrap ((k:Int)+1)=k+1:=(by rw[wrap64 (by omega) (by omega)]);obtain⟨p,hx⟩: ∃ p,l[k]? =some p:=⟨_,List.getElem?_eq_getElem hlt⟩;have hr:=pmRows_get hx;obtain⟨H,t1,t2,t3,t4,t5⟩:=tl.tail;have hpr:(Sx.rows (paramsW (l.take k))).length=3*k:=(by rw[Sx.rows_len,paramsW_len,List.length_take];omega);have hb:(3*k+3)*72≤140737488355328:=(by omega);have hR:Sx.rows (paramsW (l.take (k+1)))=Sx.rows (paramsW (l.take k))++[[.sc (.int .i64 1),.sc (.int .i64 0),.sc (.int .i64 0),.sc (.int .i64 0),sPV p.name,.imm 6 []],[.sc (.int .i64 1),.sc (.int .i64 0),.sc (.int .i64 0),.sc (.int .i64 0),sPV ⟨#[45]⟩,.imm 6 []],[.sc (.int .i64 1),.sc (.int .i64 0),.sc (.int .i64 0),.sc (.int .i64 0),sPV p.type,.imm 6 []]]:=by
    rw[List.take_add_one,hx,paramsW_append];simp only[Sx.rows_map,List.map_append,Option.toList_some,paramsW,List.map_cons,List.map_nil,wordM,Sx.cells]
   generalize Sx.rows (paramsW (l.take k))=R at tl t1 t2 hpr hR;replace zz:=uu6 g0 g4 g3 hd hr hll;refine wy zz ?_;replace zz:=uu4 g0 g4 g3 hr;(first|refine uV zz (hw p.name _) ?_|refine uA zz (hw p.name _) ?_);refine wy zz ?_;replace zz:=uu4 g0 g4 g3 hr;(first|refine uV zz (hw ⟨#[45]⟩ _) ?_|refine uA zz (hw ⟨#[45]⟩ _) ?_);refine wy zz ?_;replace zz:=uu4 g0 g4 g3 hr;(first|refine uV zz (hw p.type _) ?_|refine uA zz (hw p.type _) ?_);replace zz:=uu9 g0 g4 g3 hr w7 t1 t2 hpr hb;(repeat'(first|refine cK ?_|refine nK ?_|refine uR zz ?_|(refine uN hK ?_;clear hK)|refine uB zz ?_|(rw[if_pos];rotate_left 1;omega;simp(maxSteps:=2000000) only[Ty.w,simprocAttr,g0,g4,g3,hr,w7,t1,t2,hpr,hb])|apply zI));have hkp:=t5 h ⟨hg.le,hg.old⟩ (Nat.le_refl _);have hgH:Grow h H:=⟨hkp.1,hkp.2⟩;rw[← hR];have hRl:3*k+3=(Sx.rows (paramsW (l.take (k+1)))).length:=(by rw[Sx.rows_len,paramsW_len,List.length_take];omega);exact⟨l.length-(k+1),by omega,k+1,.own H.next 0 (3*k+3),by simp,by first|rfl|rw[t3],by omega,rfl,hgH.new _,Tl.grow hkp.1 hRl⟩
  ·have hd:decide ((k:Int)<(l.length:Int))=false:=(by simp;omega);have hke:k=l.length:=(by omega);subst hke;rw[List.take_length]at tl;replace zz:=uu5 g0 g4 g3 hd hll;refine wt zz ?_;exact⟨tl_frzX tl,hg⟩
theorem rwriteF_c: ∀ f:Fm,f.small→shapedF f=true→ ∀ h:Heap,PCall Tryz.prog 33 [.agg f.cells] h fun r h'=>r= .agg (fmW f).cells∧h'=h:=by
 refine Fm.ind ?_;intro op name args params exprs kids ih hsm hsh h;simp only[Fm.small]at hsm;obtain⟨hal,hpl,hes,hkl,hks⟩:=hsm;rw[Ex.smalls_iff]at hes;rw[Fm.smalls_iff]at hks;simp only[shapedF,Bool.and_eq_true]at hsh;obtain⟨⟨hpo,hse⟩,hsk⟩:=hsh;rw[shapedFs_iff]at hsk;rw[List.all_eq_true]at hse;have hlK:=Fm.rows_len kids;unfold fmW;refine PCall.frz Ty.hb_33 ?_;cases k1:(op.data.toList==(#[97,116,111,109]:Array UInt8).toList)with
 |true=>
  rw[if_pos (show bEq op opAtom=true from k1)];have hw: ∀ h:Heap,PCall Tryz.prog 81 [sPV name,.imm 1 (strRows args)] h fun r h'=>r= .agg (wordsM name args).cells∧h'=h:=fun h=>rlist_c hal;have hfz:=fun(n:Nat)(h:Heap)=>sx_frz n h (wordsM name args);simp only[Fm.cells];generalize wordsM name args=X at hw hfz⊢;obtain⟨ki,va,li,co,te,ks⟩:=X;simp only[Sx.cells]at hw hfz⊢;refine uG0 Tryz.func33 Tryz.ntmps33 Tryz.results33 Ty.hb_33 ?_;refine wt k1 ?_;refine uU k1 (hw _) ?_;refine wt trivial ?_;refine⟨?_,((Grow.refl h).new _).set (Nat.le_refl _) _⟩;simp only[FrzTo];exact⟨_,rfl,hfz _ _⟩
 |false=>
  cases k2:(op.data.toList==(#[115,97,109,101]:Array UInt8).toList)with
  |true=>
   rw[if_neg (by rw[(show bEq op opAtom=false from k1)];simp)];rw[if_pos (show bEq op opSame=true from k2)];have hw: ∀ h:Heap,PCall Tryz.prog 81 [sPV ⟨#[61]⟩,.imm 1 (strRows args)] h fun r h'=>r= .agg (wordsM opEq args).cells∧h'=h:=fun h=>rlist_c hal;have hfz:=fun(n:Nat)(h:Heap)=>sx_frz n h (wordsM opEq args);simp only[Fm.cells];generalize wordsM opEq args=X at hw hfz⊢;obtain⟨ki,va,li,co,te,ks⟩:=X;simp only[Sx.cells]at hw hfz⊢;refine uG0 Tryz.func33 Tryz.ntmps33 Tryz.results33 Ty.hb_33 ?_;refine wt (uu k1 k2) ?_;refine uU (uu k1 k2) (hw _) ?_;refine wt trivial ?_;refine⟨?_,((Grow.refl h).new _).set (Nat.le_refl _) _⟩;simp only[FrzTo];exact⟨_,rfl,hfz _ _⟩
  |false=>
   rw[if_neg (by rw[(show bEq op opAtom=false from k1)];simp),if_neg (by rw[(show bEq op opSame=false from k2)];simp)];cases k3:(op.data.toList==(#[60]:Array UInt8).toList)with
   |true=>
    rw[if_pos (by simp[isCmp,(show bEq op opAtom=false from k1),(show bEq op opSame=false from k2),(show bEq op opLt=true from k3)])];have hx2:exprs.length=2:=(by have q:=hpo;simp[partsOk,shapeOf,(show bEq op opAtom=false from k1),(show bEq op opSame=false from k2),(show bEq op opLt=true from k3)]at q;omega);obtain⟨a,b,rfl⟩: ∃ a b,exprs=[a,b]:=by
     match exprs,hx2 with
     |[a,b],_=>exact⟨a,b,rfl⟩
    have ca:=rwriteE_c a (hes a (by simp)) (hse a (by simp));have cb:=rwriteE_c b (hes b (by simp)) (hse b (by simp));have hw:=fun h:Heap=>rwd_c (h:=h) (s:=op);simp only[List.map_cons,List.map_nil];have hfz:=fun(n:Nat)(h:Heap)=>sx_frz n h (listM [wordM op,exW a,exW b]);generalize exW a=xa at ca hfz⊢;generalize exW b=xb at cb hfz⊢;(try clear zz);clear ih hks hpo hse hsk hes;obtain⟨aop,aname,an,aargs,akids⟩:=a;obtain⟨bop,bname,bn,bargs,bkids⟩:=b;obtain⟨ki,va,li,co,te,ks⟩:=xa;obtain⟨ki2,va2,li2,co2,te2,ks2⟩:=xb;simp only[Fm.cells,Ex.cells,Ex.rows,listM,Sx.cells,Sx.rows,wordM]at ca cb hw hfz⊢;refine uG0 Tryz.func33 Tryz.ntmps33 Tryz.results33 Ty.hb_33 ?_;refine wy (uu3 k1 k2 k3) ?_;(first|refine uV trivial (hw _) ?_|refine uA trivial (hw _) ?_);refine wy trivial ?_;(first|refine uV trivial (ca _) ?_|refine uA trivial (ca _) ?_);refine wy trivial ?_;(first|refine uV trivial (cb _) ?_|refine uA trivial (cb _) ?_);refine wy trivial ?_;refine⟨?_,((Grow.refl h).new _).set (Nat.le_refl _) _⟩;simp only[FrzTo];exact⟨_,rfl,hfz _ _⟩
   |false=>
    cases k4:(op.data.toList==(#[60,61]:Array UInt8).toList)with
    |true=>
     rw[if_pos (by simp[isCmp,(show bEq op opAtom=false from k1),(show bEq op opSame=false from k2),(show bEq op opLt=false from k3),(show bEq op opLe=true from k4)])];have hx2:exprs.length=2:=(by have q:=hpo;simp[partsOk,shapeOf,(show bEq op opAtom=false from k1),(show bEq op opSame=false from k2),(show bEq op opLt=false from k3),(show bEq op opLe=true from k4)]at q;omega);obtain⟨a,b,rfl⟩: ∃ a b,exprs=[a,b]:=by
      match exprs,hx2 with
      |[a,b],_=>exact⟨a,b,rfl⟩
     have ca:=rwriteE_c a (hes a (by simp)) (hse a (by simp));have cb:=rwriteE_c b (hes b (by simp)) (hse b (by simp));have hw:=fun h:Heap=>rwd_c (h:=h) (s:=op);simp only[List.map_cons,List.map_nil];have hfz:=fun(n:Nat)(h:Heap)=>sx_frz n h (listM [wordM op,exW a,exW b]);generalize exW a=xa at ca hfz⊢;generalize exW b=xb at cb hfz⊢;(try clear zz);clear ih hks hpo hse hsk hes;obtain⟨aop,aname,an,aargs,akids⟩:=a;obtain⟨bop,bname,bn,bargs,bkids⟩:=b;obtain⟨ki,va,li,co,te,ks⟩:=xa;obtain⟨ki2,va2,li2,co2,te2,ks2⟩:=xb;simp only[Fm.cells,Ex.cells,Ex.rows,listM,Sx.cells,Sx.rows,wordM]at ca cb hw hfz⊢;refine uG0 Tryz.func33 Tryz.ntmps33 Tryz.results33 Ty.hb_33 ?_;replace zz:=uu4 k1 k2 k3 k4;refine wy zz ?_;(first|refine uV trivial (hw _) ?_|refine uA trivial (hw _) ?_);refine wy trivial ?_;(first|refine uV trivial (ca _) ?_|refine uA trivial (ca _) ?_);refine wy trivial ?_;(first|refine uV trivial (cb _) ?_|refine uA trivial (cb _) ?_);refine wy trivial ?_;refine⟨?_,((Grow.refl h).new _).set (Nat.le_refl _) _⟩;simp only[FrzTo];exact⟨_,rfl,hfz _ _⟩
    |false=>
     cases k5:(op.data.toList==(#[61]:Array UInt8).toList)with
     |true=>
      rw[if_pos (by simp[isCmp,(show bEq op opAtom=false from k1),(show bEq op opSame=false from k2),(show bEq op opLt=false from k3),(show bEq op opLe=false from k4),(show bEq op opEq=true from k5)])];have hx2:exprs.length=2:=(by have q:=hpo;simp[partsOk,shapeOf,(show bEq op opAtom=false from k1),(show bEq op opSame=false from k2),(show bEq op opLt=false from k3),(show bEq op opLe=false from k4),(show bEq op opEq=true from k5)]at q;omega);obtain⟨a,b,rfl⟩: ∃ a b,exprs=[a,b]:=by
       match exprs,hx2 with
       |[a,b],_=>exact⟨a,b,rfl⟩
      have ca:=rwriteE_c a (hes a (by simp)) (hse a (by simp));have cb:=rwriteE_c b (hes b (by simp)) (hse b (by simp));have hw:=fun h:Heap=>rwd_c (h:=h) (s:=op);simp only[List.map_cons,List.map_nil];have hfz:=fun(n:Nat)(h:Heap)=>sx_frz n h (listM [wordM op,exW a,exW b]);generalize exW a=xa at ca hfz⊢;generalize exW b=xb at cb hfz⊢;(try clear zz);clear ih hks hpo hse hsk hes;obtain⟨aop,aname,an,aargs,akids⟩:=a;obtain⟨bop,bname,bn,bargs,bkids⟩:=b;obtain⟨ki,va,li,co,te,ks⟩:=xa;obtain⟨ki2,va2,li2,co2,te2,ks2⟩:=xb;simp only[Fm.cells,Ex.cells,Ex.rows,listM,Sx.cells,Sx.rows,wordM]at ca cb hw hfz⊢;refine uG0 Tryz.func33 Tryz.ntmps33 Tryz.results33 Ty.hb_33 ?_;replace zz:=uu5 k1 k2 k3 k4 k5;refine wy zz ?_;(first|refine uV trivial (hw _) ?_|refine uA trivial (hw _) ?_);refine wy trivial ?_;(first|refine uV trivial (ca _) ?_|refine uA trivial (ca _) ?_);refine wy trivial ?_;(first|refine uV trivial (cb _) ?_|refine uA trivial (cb _) ?_);refine wy trivial ?_;refine⟨?_,((Grow.refl h).new _).set (Nat.le_refl _) _⟩;simp only[FrzTo];exact⟨_,rfl,hfz _ _⟩
     |false=>
      rw[if_neg (by simp[isCmp,(show bEq op opLt=false from k3),(show bEq op opLe=false from k4),(show bEq op opEq=false from k5)])];(try clear zz);clear hse hes hpo;have n6:bEq op opAnd=(op.data.toList==(#[97,110,100]:Array UInt8).toList):=rfl;by_cases hz:(bEq op opAnd&&kids.isEmpty)=true
      ·have hz2:=hz;rw[Bool.and_eq_true]at hz2;have k6:(op.data.toList==(#[97,110,100]:Array UInt8).toList)=true:=hz2.1;have hk0:kids=[]:=List.isEmpty_iff.1 hz2.2;have hq:isQ op=false:=(by rw[bEq_eq hz2.1];try rfl);subst hk0;rw[if_pos hz,hq];simp only[Bool.false_eq_true,if_false,fmWs,List.append_nil,Fm.cells,Fm.rows];refine uG0 Tryz.func33 Tryz.ntmps33 Tryz.results33 Ty.hb_33 ?_;replace zz:=uu6 k1 k2 k3 k4 k5 k6;refine wt zz ?_;refine⟨?_,((Grow.refl h).new _).set (Nat.le_refl _) _⟩;simp only[listM,Sx.cells,Sx.rows,FrzTo,FrzL];exact⟨_,rfl,rfl,rfl,rfl,rfl,rfl,.inr (.inl ⟨rfl,.inr rfl⟩),trivial⟩
      ·rw [if_neg hz];have hw: ∀ (s:ByteArray)(h:Heap),PCall Tryz.prog 79 [sPV s] h fun r h'=>r= .agg (wordM s).cells∧h'=h:=fun s h=>rwd_c;simp only[wordM,Sx.cells,Sx.rows]at hw;simp only[Fm.cells];refine uG (ow:=fun t=>t==51) (wf:=fun _=>false) Tryz.func33 Tryz.ntmps33 Tryz.results33 Ty.hb_33 ?_;replace zz:=uu5 k1 k2 k3 k4 k5;refine xH 10 zz ?_;refine⟨?_⟩;refine a_cut (fun S h'=>S 1= .cptr (Fm.mk op name args params exprs kids).cells∧S 2= .ptr h.next 0 0∧h'=h.new (.arr 6 [[.sc (.int .i64 0),.sc (.int .i64 0),.sc (.int .i64 0),.sc (.int .i64 0),.sc (.string ⟨#[]⟩),.sc (.slice none 0 0)]])) ?_ ?_
       ·cases k6:(op.data.toList==(#[97,110,100]:Array UInt8).toList)with
        |false=>
         refine wm k6 ?_;try exact zI
         all_goals first|rfl|trivial|((try refine⟨?_,?_,?_⟩)<;>first|rfl|trivial)|((try refine⟨?_,?_⟩)<;>first|rfl|trivial)
        |true=>
         have hk0:((kids.length:Int)==0)=false:=by
          cases kids with
          |nil=>exact absurd (by rw[n6,k6];try rfl) hz
          |cons a l=>simp;omega
         refine wm (uu3 k6 hk0 hlK) ?_;try exact zI
         all_goals first|rfl|trivial|((try refine⟨?_,?_,?_⟩)<;>first|rfl|trivial)|((try refine⟨?_,?_⟩)<;>first|rfl|trivial)
       ·rintro S h' ⟨g1,g2,rfl⟩;simp only[Fm.cells]at g1;refine wt (uu g1 g2) ?_;refine uU (uu g1 g2) (hw op _) ?_;refine xH 13 (uu g1 g2) ?_;refine⟨?_⟩;refine a_cut (fun S h'=>S 1= .cptr (Fm.mk op name args params exprs kids).cells∧S 2= .ptr h.next 0 0∧ ∃ id,S 3= .own id 0 (wordM op::(if isQ op=true then[listM (paramsW params)]else[])).length∧Grow h h'∧h.next<id∧id<h'.next∧h'.obj h.next=some (.arr 6 [[.sc (.int .i64 0),.sc (.int .i64 0),.sc (.int .i64 0),.sc (.int .i64 0),.sc (.string ⟨#[]⟩),.sc (.slice none 0 0)]])∧h'.obj id=some (.arr 6 (Sx.rows (wordM op::(if isQ op=true then[listM (paramsW params)]else[]))))) ?_ ?_
        ·have n7:bEq op opAll=(op.data.toList==(#[102,111,114,97,108,108]:Array UInt8).toList):=rfl;have n8:bEq op opSome=(op.data.toList==(#[101,120,105,115,116,115]:Array UInt8).toList):=rfl;cases k7:(op.data.toList==(#[102,111,114,97,108,108]:Array UInt8).toList)with
         |true=>
          rw[if_pos (by simp[isQ,n7,n8,k7])];have hwp:=rwriteParams_c (l:=params) hpl;simp only[listM,wordM,Sx.rows,Sx.cells,List.length_cons,List.length_nil];generalize Sx.rows (paramsW params)=PR at hwp⊢;replace zz:=uu6 g1 g2 k7 @nsucc @Nat.add_eq_left @Nat.one_ne_zero;refine wt zz ?_;refine uU (uu3 g1 g2 k7) (hwp _) ?_;replace zz:=uu6 g1 g2 k7 @nsucc @Nat.add_eq_left @Nat.one_ne_zero;refine wt zz ?_;refine⟨rfl,h.next+1+1,?_,((((Grow.refl h).new _).new _).kill (Nat.le_succ _)).new _,by omega,by simp[Heap.new,Heap.kill],?_,?_⟩;all_goals first|rfl|(simp[Heap.new,Heap.kill];done)|(simp[Heap.new,Heap.kill];omega)
         |false=>
          cases k8:(op.data.toList==(#[101,120,105,115,116,115]:Array UInt8).toList)with
          |true=>
           rw[if_pos (by simp[isQ,n7,n8,k7,k8])];have hwp:=rwriteParams_c (l:=params) hpl;simp only[listM,wordM,Sx.rows,Sx.cells,List.length_cons,List.length_nil];generalize Sx.rows (paramsW params)=PR at hwp⊢;replace zz:=uu7 g1 g2 k7 k8 @nsucc @Nat.add_eq_left @Nat.one_ne_zero;refine wt zz ?_;replace zz:=uu4 g1 g2 k7 k8;refine uU zz (hwp _) ?_;replace zz:=uu7 g1 g2 k7 k8 @nsucc @Nat.add_eq_left @Nat.one_ne_zero;refine wt zz ?_;refine⟨rfl,h.next+1+1,?_,((((Grow.refl h).new _).new _).kill (Nat.le_succ _)).new _,by omega,by simp[Heap.new,Heap.kill],?_,?_⟩;all_goals first|rfl|(simp[Heap.new,Heap.kill];done)|(simp[Heap.new,Heap.kill];omega)
          |false=>
           rw[if_neg (by simp[isQ,n7,n8,k7,k8])];simp only[wordM,Sx.rows,Sx.cells,List.length_cons,List.length_nil];replace zz:=uu4 g1 g2 k7 k8;refine wt zz ?_
           (try simp(maxSteps:=2000000) only[Ty.w,simprocAttr,Ty.all,g1,g2])
           refine⟨rfl,h.next+1,?_,((Grow.refl h).new _).new _,by omega,by simp[Heap.new],?_,?_⟩;all_goals first|rfl|simp[Heap.new]
        ·(try clear zz);clear g1 g2 S;obtain⟨L1,hL1,hl1⟩: ∃ L1:List Sx,(wordM op::(if isQ op=true then[listM (paramsW params)]else[]))=L1∧L1.length≤2:=⟨_,rfl,by split<;>simp⟩;have hfin:[wordM op]++(if isQ op=true then[listM (paramsW params)]else[])++fmWs kids=L1++kids.map fmW:=(by rw[← hL1,fmWs_map];try rfl);rw[hfin,hL1];(try clear zz);clear hL1 hfin;rintro S h' ⟨g1,g2,id,g3,hg,hlo,hhi,o1,o2⟩;simp only[Fm.cells]at g1;have hrl: ∀ k,(L1++(kids.take k).map fmW).length≤1048578:=fun k=>(by simp;omega);replace zz:=uu4 g1 g2 g3 hlK;refine wt zz ?_;refine a_loop (fun c S h'=>S 1= .cptr (Fm.mk op name args params exprs kids).cells∧S 2= .ptr h.next 0 0∧ ∃ k id:Nat,S 4= .sc (.int .i64 k)∧S 3= .own id 0 (L1++(kids.take k).map fmW).length∧k≤kids.length∧c=kids.length-k∧Grow h h'∧h.next<id∧id<h'.next∧h'.obj h.next=some (.arr 6 [[.sc (.int .i64 0),.sc (.int .i64 0),.sc (.int .i64 0),.sc (.int .i64 0),.sc (.string ⟨#[]⟩),.sc (.slice none 0 0)]])∧h'.obj id=some (.arr 6 (Sx.rows (L1++(kids.take k).map fmW)))) kids.length ?_ ?_
         ·simp only[Ty.w,simprocAttr,g1,g2,g3];exact⟨rfl,0,id,rfl,by simp,by omega,rfl,hg,hlo,hhi,o1,by simpa using o2⟩
         ·(try clear zz);clear g1 g2 g3 o1 o2 hg hlo hhi S;rintro c S h' ⟨g1,g2,k,id,g4,g3,hk,rfl,hg,hlo,hhi,o1,o2⟩;simp only[Fm.cells]at g1;by_cases hlt:k<kids.length
          ·have hdk:decide ((k:Int)<(kids.length:Int))=true:=(by simp;omega);have w7:IntKind.i64.wrap ((k:Int)+1)=k+1:=(by rw[wrap64 (by omega) (by omega)]);obtain⟨x,hx⟩: ∃ x,kids[k]? =some x:=⟨_,List.getElem?_eq_getElem hlt⟩;have hmem:=List.mem_of_getElem? hx;have hr:=Fm.rows_get hx;have hcx:=ih x hmem (hks x hmem) (hsk x hmem);have hL:L1++(kids.take (k+1)).map fmW=L1++(kids.take k).map fmW++[fmW x]:=(by rw[List.take_add_one,hx];simp);have hrk:=hrl k;generalize L1++(kids.take k).map fmW=L2 at g3 o2 hrk hL;generalize fmW x=X at hcx hL;obtain⟨xo,xn,xa,xp,xe,xk⟩:=x;obtain⟨ki,va,li,co,te,ks⟩:=X;simp only[Fm.cells,Sx.cells]at hr hcx;have hR:Sx.rows (L2++[.mk ki va li co te ks])=Sx.rows L2++[[.sc (.int .i64 ki),.sc (.int .i64 va),.sc (.int .i64 li),.sc (.int .i64 co),sPV te,.imm 6 (Sx.rows ks)]]:=(by simp[Sx.rows_map,Sx.cells]);have hpr:=Sx.rows_len L2;generalize Sx.rows L2=R at o2 hpr hR;have htk:List.take L2.length R=R:=List.take_of_length_le (by omega);have hb:(L2.length+1)*72≤140737488355328:=(by omega);replace zz:=uu8 g1 g2 g3 g4 hlK hdk hr o2;refine wt zz ?_;replace zz:=uu8 g1 g2 g3 g4 o2 hpr htk hb;refine uU zz (hcx _) ?_;replace zz:=uu9 g1 g2 g3 g4 w7 o2 hpr htk hb;(repeat'(first|refine cK ?_|refine nK ?_|refine uR zz ?_|(refine uN hK ?_;clear hK)|(rw[if_pos];rotate_left 1;omega;simp(maxSteps:=2000000) only[Ty.w,simprocAttr,g1,g2,g3,g4,w7,o2,hpr,htk,hb])|apply zI));refine⟨kids.length-(k+1),by omega,rfl,k+1,h'.next,by simp,?_,by omega,rfl,(hg.kill (by omega)).new _,by omega,by simp[Heap.new,Heap.kill],?_,?_⟩
           ·rw [hL];simp
           ·rw [if_neg (by omega),if_neg (by omega)];exact o1
           ·rw [hL,hR];simp[Heap.new,Heap.kill]
          ·have hdk:decide ((k:Int)<(kids.length:Int))=false:=(by simp;omega);have hke:k=kids.length:=(by omega);subst hke;rw[List.take_length]at o2 g3;replace zz:=uu8 g1 g2 g3 g4 hlK hdk o1 o2;refine wt zz ?_;refine⟨?_,hg.set (Nat.le_refl _) _⟩;simp only[listM,Sx.cells,FrzTo,FrzL];refine⟨_,rfl,rfl,rfl,rfl,rfl,rfl,.inr (.inr ⟨id,0,_,Sx.rows (L1++kids.map fmW),rfl,by omega,?_,?_,?_⟩),trivial⟩
           ·simp only[Heap.set];rw[if_neg (by omega)];exact o2
           ·rw [Sx.rows_len];omega
           ·rw [List.drop_zero,List.take_of_length_le (by rw[Sx.rows_len];omega)];exact sxs_frz _ _ _
end Go.Proofs.YtblgchkahpgdjaaGreat
namespace Go.Proofs.YtblgchkahpgdjaaGreat
open Go.AM
set_option maxHeartbeats 4000000
set_option maxRecDepth 20000
theorem rsameE_c: ∀ a:Ex,a.ok→ ∀ b:Ex,b.ok→ ∀ h:Heap,PCall Tryz.prog 57 [.agg a.cells,.agg b.cells] h fun r h'=>r= .sc (.bool (a.same b))∧h'=h:=by
 refine Ex.ind ?_;intro op name n args kids ih hok;rintro⟨op3,name3,n3,args3,kids3⟩ hok3 h;simp only[Ex.ok]at hok hok3;obtain⟨_,_,_,⟨ha,_⟩,hk,hks⟩:=hok;obtain⟨_,_,_,⟨ha3,_⟩,hk3,hks3⟩:=hok3;rw[Ex.oks_iff]at hks hks3;have hfk: ∀ a∈kids, ∀ b∈kids3, ∀ h:Heap,PCall Tryz.prog 57 [.agg a.cells,.agg b.cells] h fun r h'=>r= .sc (.bool (a.same b))∧h'=h:=fun a ha b hb=>ih a ha (hks a ha) b (hks3 b hb);try clear zz
 clear ih;have hl_kids:=Ex.rows_len kids;have hl_kids3:=Ex.rows_len kids3;have cellsA:(Ex.mk op name n args kids).cells=(Ex.mk op name n args kids).cells:=rfl;have cellsB:(Ex.mk op3 name3 n3 args3 kids3).cells=(Ex.mk op3 name3 n3 args3 kids3).cells:=rfl
 conv at cellsA=>rhs;simp only[Ex.cells]
 conv at cellsB=>rhs;simp only[Ex.cells]
 rw[cellsA,cellsB];refine uG0 Tryz.func57 Tryz.ntmps57 Tryz.results57 Ty.hb_57 ?_;cases e0:(op.data.toList==op3.data.toList)with
 |false=>
  have hs:(Ex.mk op name n args kids).same (.mk op3 name3 n3 args3 kids3)=false:=by simp only[Ex.same,bEq,e0,Bool.false_and,Bool.and_false]
  refine wt (uu3 yT yF e0) ?_;rw[hs]
 |true=>
  cases e1:(name.data.toList==name3.data.toList)with
  |false=>
   have hs:(Ex.mk op name n args kids).same (.mk op3 name3 n3 args3 kids3)=false:=(by simp only[Ex.same,bEq,e0,e1,Bool.false_and,Bool.and_false]);replace zz:=uu4 yT yF e0 e1;refine wt zz ?_;rw[hs]
  |true=>
   cases e2:(n !=n3)with
   |true=>
    have en:(n==n3)=false:=(by simpa using e2);have hs:(Ex.mk op name n args kids).same (.mk op3 name3 n3 args3 kids3)=false:=(by simp only[Ex.same,bEq,e0,e1,en,Bool.false_and,Bool.and_false]);replace zz:=uu5 yT yF e0 e1 e2;refine wt zz ?_;rw[hs]
   |false=>
    have en:(n==n3)=true:=(by simpa using e2);replace zz:=uu5 yT yF e0 e1 e2;refine wt zz ?_;cases e3:bsEq args args3 with
    |false=>
     have hs:(Ex.mk op name n args kids).same (.mk op3 name3 n3 args3 kids3)=false:=(by simp only[Ex.same,bEq,e0,e1,en,e3,Bool.false_and,Bool.and_false]);replace zz:=uu6 yT yF e0 e1 e2 e3;refine uU zz (rtexts_c (l:=args) (m:=args3) ha ha3) ?_;refine wt zz ?_;rw[hs]
    |true=>
     cases l_kids:((kids.length:Int) !=kids3.length)with
     |true=>
      have hlen:Ex.sames kids kids3=false:=Ex.sames_len (by simp at l_kids;omega);have hs:(Ex.mk op name n args kids).same (.mk op3 name3 n3 args3 kids3)=false:=(by simp only[Ex.same,bEq,e0,e1,en,e3,hlen,Bool.false_and,Bool.and_false]);replace zz:=uu9 yT yF e0 e1 e2 e3 l_kids hl_kids hl_kids3;refine uU zz (rtexts_c (l:=args) (m:=args3) ha ha3) ?_;refine wt zz ?_;rw[hs]
     |false=>
      have hn_kids:kids.length=kids3.length:=(by simp at l_kids;omega);replace zz:=uu9 yT yF e0 e1 e2 e3 l_kids hl_kids hl_kids3;refine uU zz (rtexts_c (l:=args) (m:=args3) ha ha3) ?_;refine wt zz ?_;refine a_loop (fun c S h7=>h7=h∧S 2= .cptr (Ex.mk op name n args kids).cells∧S 3= .cptr (Ex.mk op3 name3 n3 args3 kids3).cells∧ ∃ k:Nat,S 5= .sc (.int .i64 k)∧k≤kids.length∧c=kids.length-k∧Ex.sames kids kids3=Ex.sames (kids.drop k) (kids3.drop k)) kids.length ?_ ?_
      ·simp only[Ty.w,simprocAttr,cellsA,cellsB];exact⟨0,rfl,by omega,rfl,by simp⟩
      ·rintro c S h7 ⟨rfl,g2,g3,k,gk,hkl,rfl,hinv⟩;rw[cellsA]at g2;rw[cellsB]at g3;by_cases hlt:k<kids.length
       ·have hd:decide ((k:Int)<(kids.length:Int))=true:=(by simp;omega);have w7:IntKind.i64.wrap ((k:Int)+1)=k+1:=(by unfold bigN at hk;rw[wrap64 (by omega) (by omega)]);obtain⟨a,hx⟩: ∃ a,kids[k]? =some a:=⟨_,List.getElem?_eq_getElem hlt⟩;obtain⟨b,hy⟩: ∃ b,kids3[k]? =some b:=⟨_,List.getElem?_eq_getElem (by omega)⟩;have hc:=hfk a (List.mem_of_getElem? hx) b (List.mem_of_getElem? hy);rw[drop_of_get hx,drop_of_get hy]at hinv;simp only[Ex.sames]at hinv;have hr:=Ex.rows_get hx;have hr2:=Ex.rows_get hy;generalize he:a.same b=e at hc hinv;(try clear zz);clear he;obtain⟨op2,name2,n2,args2,kids2⟩:=a;obtain⟨op4,name4,n4,args4,kids4⟩:=b;simp only[Ex.cells]at hr hr2 hc;cases e with
        |false=>
         have hs:(Ex.mk op name n args kids).same (.mk op3 name3 n3 args3 kids3)=false:=(by simp only[Ex.same,bEq,hinv,e0,e1,en,e3,Bool.false_and,Bool.and_false]);replace zz:=uu10 g2 g3 gk hl_kids hl_kids3 hd hr hr2 w7 yF;refine wy zz ?_;replace zz:=uu8 g2 g3 gk hl_kids hl_kids3 hd hr hr2;(first|refine uV zz (hc _) ?_|refine uA zz (hc _) ?_);replace zz:=uu5 g2 g3 gk w7 yF;refine wy zz ?_;rw[hs]
        |true=>
         rw[Bool.true_and]at hinv;replace zz:=uu10 g2 g3 gk hl_kids hl_kids3 hd hr hr2 w7 yT;refine wy zz ?_;replace zz:=uu8 g2 g3 gk hl_kids hl_kids3 hd hr hr2;(first|refine uV zz (hc _) ?_|refine uA zz (hc _) ?_);replace zz:=uu5 g2 g3 gk w7 yT;refine wy zz ?_;exact⟨kids.length-(k+1),by omega,by rw[cellsA],by rw[cellsB],k+1,by simp,by omega,rfl,hinv⟩
       ·have hd:decide ((k:Int)<(kids.length:Int))=false:=(by simp;omega);rw[List.drop_eq_nil_of_le (by omega),List.drop_eq_nil_of_le (by omega)]at hinv;have hq0:=hinv;simp only[Ex.sames]at hq0;(try clear zz);clear hinv;have hs:(Ex.mk op name n args kids).same (.mk op3 name3 n3 args3 kids3)=true:=(by simp only[Ex.same,bEq,e0,e1,en,e3,hq0,Bool.true_and]);replace zz:=uu6 g2 g3 gk hl_kids hl_kids3 hd;refine wt zz ?_;rw[hs]
end Go.Proofs.YtblgchkahpgdjaaGreat
namespace Go.AM
mutual
def Nz:PV→PV→Prop
 | .imm z rows,p=>(∃ rows',p= .imm z rows'∧NzR rows rows')∨(rows=[]∧(p= .emp∨p= .sc (.slice none 0 0)))
 | .agg l,p=> ∃ l',p= .agg l'∧NzL l l'
 |q,p=>p=q
def NzL:List PV→List PV→Prop
 |[],[]=>True
 |p::ps,q::qs=>Nz p q∧NzL ps qs
 |_,_=>False
def NzR:List (List PV)→List (List PV)→Prop
 |[],[]=>True
 |p::ps,q::qs=>NzL p q∧NzR ps qs
 |_,_=>False
end
theorem NzL.len:(l l':List PV)→NzL l l'→l.length=l'.length
 |[],[],_=>rfl
 |[],_::_,h=>by simp[NzL]at h
 |_::_,[],h=>by simp[NzL]at h
 |p::l,q::l',h=>by
  unfold NzL at h;simp only[List.length_cons,NzL.len l l' h.2]
theorem NzR.len:(l l':List (List PV))→NzR l l'→l.length=l'.length
 |[],[],_=>rfl
 |[],_::_,h=>by simp[NzR]at h
 |_::_,[],h=>by simp[NzR]at h
 |p::l,q::l',h=>by
  unfold NzR at h;simp only[List.length_cons,NzR.len l l' h.2]
mutual
theorem Nz.refl:(p:PV)→Nz p p
 | .imm z rows=>by unfold Nz;exact .inl ⟨rows,rfl,NzR.refl rows⟩
 | .agg l=>by unfold Nz;exact⟨l,rfl,NzL.refl l⟩
 | .sc v=>by unfold Nz;rfl
 | .ptr _ _ _=>by unfold Nz;rfl
 | .cptr _=>by unfold Nz;rfl
 | .own _ _ _=>by unfold Nz;rfl
 | .emp=>by unfold Nz;rfl
 | .mp _=>by unfold Nz;rfl
 | .tup _=>by unfold Nz;rfl
 | .fn _ _ _=>by unfold Nz;rfl
 | .ab _ _ _ _ _=>by unfold Nz;rfl
theorem NzL.refl:(l:List PV)→NzL l l
 |[]=>by unfold NzL;trivial
 |p::l=>by unfold NzL;exact⟨Nz.refl p,NzL.refl l⟩
theorem NzR.refl:(l:List (List PV))→NzR l l
 |[]=>by unfold NzR;trivial
 |p::l=>by unfold NzR;exact⟨NzL.refl p,NzR.refl l⟩
end
section
variable {β:Env}{n:Nat}{F:Nat→Prop}{w:World}
mutual
theorem Nz.rep:(q p:PV)→(x:Value)→Nz q p→Rep β n F w p x→Rep β n F w q x
 | .imm z rows,p,x,h,hr=>by
  unfold Nz at h;rcases h with⟨rows',rfl,hR⟩|⟨rfl,rfl|rfl⟩
  ·simp only[Rep]at hr⊢;have hl:=NzR.len rows rows' hR;obtain⟨a,cap,rfl,g1,g2,g3⟩:=hr;refine⟨a,cap,by rw[hl],by omega,g2,?_⟩;rcases g3 with g3|⟨b,o,hF,ha,hRR⟩
   ·left;rw[g3]at hl;exact List.length_eq_zero_iff.1 hl
   ·exact .inr ⟨b,o,hF,ha,NzR.rep z rows rows' b o hR hRR⟩
  ·simp only[Rep]at hr⊢;obtain⟨a,rfl⟩:=hr;exact⟨a,0,rfl,Nat.le_refl _,Nat.zero_le _,.inl trivial⟩
  ·simp only[Rep]at hr⊢;exact⟨none,0,hr,Nat.le_refl _,Nat.zero_le _,.inl trivial⟩
 | .agg l,p,x,h,hr=>by
  unfold Nz at h;obtain⟨l',rfl,hl⟩:=h;simp only[Rep]at hr⊢;obtain⟨xs,rfl,h1,h2⟩:=hr;exact⟨xs,rfl,h1,NzL.rep l l' xs hl h2⟩
 | .sc _,p,x,h,hr=>by unfold Nz at h;subst h;exact hr
 | .ptr _ _ _,p,x,h,hr=>by unfold Nz at h;subst h;exact hr
 | .cptr _,p,x,h,hr=>by unfold Nz at h;subst h;exact hr
 | .own _ _ _,p,x,h,hr=>by unfold Nz at h;subst h;exact hr
 | .emp,p,x,h,hr=>by unfold Nz at h;subst h;exact hr
 | .mp _,p,x,h,hr=>by unfold Nz at h;subst h;exact hr
 | .tup _,p,x,h,hr=>by unfold Nz at h;subst h;exact hr
 | .fn _ _ _,p,x,h,hr=>by unfold Nz at h;subst h;exact hr
 | .ab _ _ _ _ _,p,x,h,hr=>by unfold Nz at h;subst h;exact hr
theorem NzL.rep:(l l':List PV)→(xs:List Value)→NzL l l'→RepL β n F w l' xs→RepL β n F w l xs
 |[],[],xs,_,hr=>hr
 |[],_::_,_,h,_=>by simp[NzL]at h
 |_::_,[],_,h,_=>by simp[NzL]at h
 |p::l,q::l',[],_,hr=>by simp[RepL]at hr
 |p::l,q::l',v::xs,h,hr=>by
  unfold NzL at h;unfold RepL at hr⊢;exact⟨Nz.rep p q v h.1 hr.1,NzL.rep l l' xs h.2 hr.2⟩
theorem NzS.rep:(l l':List PV)→(b o:Nat)→NzL l l'→RepS β n F w l' b o→RepS β n F w l b o
 |[],[],_,_,_,_=>by unfold RepS;trivial
 |[],_::_,_,_,h,_=>by simp[NzL]at h
 |_::_,[],_,_,h,_=>by simp[NzL]at h
 |p::l,q::l',b,o,h,hr=>by
  unfold NzL at h;unfold RepS at hr⊢;obtain⟨⟨v,h1,h2,h3⟩,h4⟩:=hr;exact⟨⟨v,h1,h2,Nz.rep p q v h.1 h3⟩,NzS.rep l l' b (o+1) h.2 h4⟩
theorem NzR.rep(z:Nat):(l l':List (List PV))→(b o:Nat)→NzR l l'→RepR β n F w z l' b o→RepR β n F w z l b o
 |[],[],_,_,_,_=>by unfold RepR;trivial
 |[],_::_,_,_,h,_=>by simp[NzR]at h
 |_::_,[],_,_,h,_=>by simp[NzR]at h
 |p::l,q::l',b,o,h,hr=>by
  unfold NzR at h;unfold RepR at hr⊢;exact⟨⟨by rw[NzL.len p q h.1];exact hr.1.1,NzS.rep p q b o h.1 hr.1.2⟩,NzR.rep z l l' b (o+z) h.2 hr.2⟩
end
end
theorem PCall.nz{P:Program}{f:FuncId}{ys xs:List PV}{h:Heap}{K:PV→Heap→Prop}(hc:PCall P f ys h K)(hz:NzL ys xs):PCall P f xs h K:=
 fun β w vals sm hr=>hc β w vals sm (NzL.rep ys xs vals hz hr)
theorem nz_nil{z:Nat}:Nz (.imm z []) (.sc (.slice none 0 0)):=by unfold Nz;exact .inr ⟨rfl,.inr rfl⟩
theorem nz_agg{r r':List PV}(h:NzL r r'):Nz (.agg r) (.agg r'):=by unfold Nz;exact⟨_,rfl,h⟩
theorem nz_cons{p q:PV}{l m:List PV}(h:Nz p q)(h2:NzL l m):NzL (p::l) (q::m):=by unfold NzL;exact⟨h,h2⟩
end Go.AM
namespace Go.Proofs.YtblgchkahpgdjaaGreat
open Go.AM
set_option maxHeartbeats 8000000
set_option maxRecDepth 20000
def atF(c:Ch):Fm:= .mk opAtom c.name c.args [] [] []
def chR(c:Ch):Bool:=!(decide (c.kind<1))&&(!(decide (5<c.kind))&&(c.params.all (pmR true)&&(shapedF c.cond&&(shapedF (atF c)&&(bif decide (c.kind≤2)then c.value.same zeroEx else shapedE c.value)))))
theorem atF_ok{c:Ch}(h:c.ok):(atF c).ok:=⟨by decide,h.name,h.args,⟨by simp,by simp⟩,⟨by simp,trivial⟩,by simp,trivial⟩
theorem rshapedC_c{l:List Ch}(hl:l.length≤bigN)(hok: ∀ c∈l,c.ok)(h:Heap):PCall Tryz.prog 52 [.imm 15 (chRows l)] h fun r h'=>r= .sc (.bool (l.all chR))∧h'=h:=by
 refine PCall.quiet Ty.hb_52 ?_;unfold bigN at hl;have hlen:=chRows_len l;refine uG0 Tryz.func52 Tryz.ntmps52 Tryz.results52 Ty.hb_52 ?_;repeat'(first|refine a_seq fun K hK=>?_|refine a_block ?_|refine uR hlen ?_|(refine uN hK ?_;clear hK)|apply zI)
 refine a_loop (fun m S h'=>S 0= .imm 15 (chRows l)∧ ∃ k:Nat,S 3= .sc (.int .i64 k)∧k≤l.length∧m=l.length-k∧Grow h h'∧l.all chR=(l.drop k).all chR) l.length ?_ ?_
 ·simp only[Ty.w,simprocAttr];exact⟨0,rfl,by omega,rfl,Grow.refl _,by simp⟩
 ·rintro m S h' ⟨g0,k,g3,hk,rfl,hg,hinv⟩;by_cases hlt:k<l.length
  ·have hd:decide ((k:Int)<(l.length:Int))=true:=(by simp;omega);have w7:IntKind.i64.wrap ((k:Int)+1)=k+1:=(by rw[wrap64 (by omega) (by omega)]);obtain⟨c,hx⟩: ∃ c,l[k]? =some c:=⟨_,List.getElem?_eq_getElem hlt⟩;have hr:=chRows_get hx;have hco:=hok c (List.mem_of_getElem? hx);have hc1:=fun h:Heap=>rshapedPs_c (v:=true) hco.params.1 hco.params.2 h;have hc2:=fun h:Heap=>rshapedF_c c.cond hco.cond h;have hc3:=fun h:Heap=>PCall.nz (rshapedF_c (atF c) (atF_ok hco) h) (xs:=[.agg [sPV opAtom,sPV c.name,.imm 1 (strRows c.args),.sc (.slice none 0 0),.sc (.slice none 0 0),.sc (.slice none 0 0)]]) (nz_cons (nz_agg (nz_cons (Nz.refl _) (nz_cons (Nz.refl _) (nz_cons (Nz.refl _) (nz_cons nz_nil (nz_cons nz_nil (nz_cons nz_nil (NzL.refl _)))))))) (NzL.refl _));have hc4:=fun h:Heap=>PCall.nz (rsameE_c c.value hco.value zeroEx zeroEx_ok.1 h) (xs:=[.agg c.value.cells,.agg [.sc (.string ⟨#[]⟩),.sc (.string ⟨#[]⟩),.sc (.int .i64 0),.sc (.slice none 0 0),.sc (.slice none 0 0)]]) (nz_cons (Nz.refl _) (nz_cons (nz_agg (nz_cons (Nz.refl _) (nz_cons (Nz.refl _) (nz_cons (Nz.refl _) (nz_cons nz_nil (nz_cons nz_nil (NzL.refl _))))))) (NzL.refl _)));have hc5:=fun h:Heap=>rshapedE_c c.value hco.value h;rw[drop_of_get hx,List.all_cons]at hinv;simp only[chR]at hinv;(try clear zz);clear hok hco hx;generalize l.all chR=F at hinv⊢;generalize hF2:(l.drop (k+1)).all chR=F2 at hinv;obtain⟨kind,P,f,nm,aa,v⟩:=c;simp only at hinv hc1 hc2 hc3 hc4 hc5;generalize P.all (pmR true)=b1 at hc1 hinv;generalize shapedF f=b2 at hc2 hinv;generalize shapedF (atF ⟨kind,P,f,nm,aa,v⟩)=b3 at hc3 hinv;generalize v.same zeroEx=b4 at hc4 hinv;generalize shapedE v=b5 at hc5 hinv;obtain⟨gop,gna,gar,gpa,gex,gki⟩:=f;obtain⟨eop,ena,en,ear,eki⟩:=v;simp only[chRow,Fm.cells,Ex.cells,List.cons_append,List.nil_append]at hr hc2 hc4 hc5;simp only[sPV,opAtom]at hc3;cases k1:decide (kind<1)with
   |true=>
    rw[k1]at hinv;have hf:F=false:=(by rw[hinv];simp);subst hf;replace zz:=uu5 g0 g3 hd hr k1;(repeat'(first|refine a_seq fun K hK=>?_|refine uR zz ?_|refine uT zz ?_|refine uK ?_|(refine uC zz (fun hb=>?_) (fun hb=>?_)<;>(try simp only[hb0,simprocAttr]at hb)<;>(try(exfalso;omega)))|(refine uN hK ?_;clear hK)|apply zI));first|exact(hg.new _).set hg.le _|exact⟨rfl,(hg.new _).set hg.le _⟩
   |false=>
    rw[k1]at hinv;cases k2:decide (5<kind)with
    |true=>
     rw[k2]at hinv;have hf:F=false:=(by rw[hinv];simp);subst hf;replace zz:=uu6 g0 g3 hd hr k1 k2;(repeat'(first|refine a_seq fun K hK=>?_|refine uR zz ?_|refine uT zz ?_|refine uK ?_|(refine uC zz (fun hb=>?_) (fun hb=>?_)<;>(try simp only[hb0,simprocAttr]at hb)<;>(try(exfalso;omega)))|(refine uN hK ?_;clear hK)|apply zI));first|exact(hg.new _).set hg.le _|exact⟨rfl,(hg.new _).set hg.le _⟩
    |false=>
     rw[k2]at hinv;cases b1 with
     |false=>
      have hf:F=false:=(by rw[hinv];simp);subst hf;(try clear zz);clear hinv;replace zz:=uu6 g0 g3 hd hr k1 k2;(repeat'(first|refine a_seq fun K hK=>?_|refine uR zz ?_|refine uK ?_|(refine uC zz (fun hb=>?_) (fun hb=>?_)<;>(try simp only[hb0,simprocAttr]at hb)<;>(try(exfalso;omega)))|(refine uN hK ?_;clear hK)|apply zI));refine uU zz (hc1 _) ?_;replace zz:=uu8 g0 g3 hd hr k1 k2 yT yF;(repeat'(first|refine a_seq fun K hK=>?_|refine uR zz ?_|refine uT zz ?_|(refine uN hK ?_;clear hK)|apply zI));first|exact(hg.new _).set hg.le _|exact⟨rfl,(hg.new _).set hg.le _⟩
     |true=>
      cases b2 with
      |false=>
       have hf:F=false:=(by rw[hinv];simp);subst hf;(try clear zz);clear hinv;replace zz:=uu6 g0 g3 hd hr k1 k2;(repeat'(first|refine a_seq fun K hK=>?_|refine uR zz ?_|refine uK ?_|(refine uC zz (fun hb=>?_) (fun hb=>?_)<;>(try simp only[hb0,simprocAttr]at hb)<;>(try(exfalso;omega)))|(refine uN hK ?_;clear hK)|apply zI));refine uU zz (hc1 _) ?_;(try apply zI);refine uU zz (hc2 _) ?_;replace zz:=uu8 g0 g3 hd hr k1 k2 yT yF;(repeat'(first|refine a_seq fun K hK=>?_|refine uR zz ?_|refine uT zz ?_|(refine uN hK ?_;clear hK)|apply zI));first|exact(hg.new _).set hg.le _|exact⟨rfl,(hg.new _).set hg.le _⟩
      |true=>
       cases b3 with
       |false=>
        have hf:F=false:=(by rw[hinv];simp);subst hf;(try clear zz);clear hinv;replace zz:=uu6 g0 g3 hd hr k1 k2;(repeat'(first|refine a_seq fun K hK=>?_|refine uR zz ?_|refine uK ?_|(refine uC zz (fun hb=>?_) (fun hb=>?_)<;>(try simp only[hb0,simprocAttr]at hb)<;>(try(exfalso;omega)))|(refine uN hK ?_;clear hK)|apply zI));refine uU zz (hc1 _) ?_;(try apply zI);refine uU zz (hc2 _) ?_;replace zz:=uu8 g0 g3 hd hr k1 k2 yT yF;(repeat'(first|refine a_seq fun K hK=>?_|refine uR zz ?_|refine uK ?_|(refine uC zz (fun hb=>?_) (fun hb=>?_)<;>(try simp only[hb0,simprocAttr]at hb)<;>(try(exfalso;omega)))|(refine uN hK ?_;clear hK)|apply zI));replace zz:=uu6 g0 g3 hd hr k1 k2;refine uU zz (hc3 _) ?_;replace zz:=uu8 g0 g3 hd hr k1 k2 yT yF;(repeat'(first|refine a_seq fun K hK=>?_|refine uR zz ?_|refine uT zz ?_|(refine uN hK ?_;clear hK)|apply zI));first|exact(hg.new _).set hg.le _|exact⟨rfl,(hg.new _).set hg.le _⟩
       |true=>
        cases k3:decide (kind≤2)with
        |true=>
         rw[k3]at hinv;have k4:decide (2<kind)=false:=(by simp at k3⊢;omega);cases b4 with
         |false=>
          have hf:F=false:=(by rw[hinv];simp);subst hf;(try clear zz);clear hinv;replace zz:=uu6 g0 g3 hd hr k1 k2;(repeat'(first|refine a_seq fun K hK=>?_|refine uR zz ?_|refine uK ?_|(refine uC zz (fun hb=>?_) (fun hb=>?_)<;>(try simp only[hb0,simprocAttr]at hb)<;>(try(exfalso;omega)))|(refine uN hK ?_;clear hK)|apply zI));refine uU zz (hc1 _) ?_;(try apply zI);refine uU zz (hc2 _) ?_;replace zz:=uu10 g0 g3 hd hr k1 k2 yT yF k3 k4;(repeat'(first|refine a_seq fun K hK=>?_|refine uR zz ?_|refine uK ?_|(refine uC zz (fun hb=>?_) (fun hb=>?_)<;>(try simp only[hb0,simprocAttr]at hb)<;>(try(exfalso;omega)))|(refine uN hK ?_;clear hK)|apply zI));replace zz:=uu6 g0 g3 hd hr k1 k2;refine uU zz (hc3 _) ?_;replace zz:=uu10 g0 g3 hd hr k1 k2 yT yF k3 k4;(repeat'(first|refine a_seq fun K hK=>?_|refine uR zz ?_|refine uK ?_|(refine uC zz (fun hb=>?_) (fun hb=>?_)<;>(try simp only[hb0,simprocAttr]at hb)<;>(try(exfalso;omega)))|(refine uN hK ?_;clear hK)|apply zI));replace zz:=uu8 g0 g3 hd hr k1 k2 k3 k4;refine uU zz (hc4 _) ?_;replace zz:=uu10 g0 g3 hd hr k1 k2 k3 k4 yT yF;(repeat'(first|refine a_seq fun K hK=>?_|refine uR zz ?_|refine uT zz ?_|(refine uN hK ?_;clear hK)|apply zI));first|exact(hg.new _).set hg.le _|exact⟨rfl,(hg.new _).set hg.le _⟩
         |true=>
          simp only[Bool.not_false,Bool.true_and,cond_true,cond_false]at hinv;replace zz:=uu6 g0 g3 hd hr k1 k2;(repeat'(first|refine a_seq fun K hK=>?_|refine uR zz ?_|refine uK ?_|(refine uC zz (fun hb=>?_) (fun hb=>?_)<;>(try simp only[hb0,simprocAttr]at hb)<;>(try(exfalso;omega)))|(refine uN hK ?_;clear hK)|apply zI));refine uU zz (hc1 _) ?_;(try apply zI);refine uU zz (hc2 _) ?_;replace zz:=uu10 g0 g3 hd hr k1 k2 yT yF k3 k4;(repeat'(first|refine a_seq fun K hK=>?_|refine uR zz ?_|refine uK ?_|(refine uC zz (fun hb=>?_) (fun hb=>?_)<;>(try simp only[hb0,simprocAttr]at hb)<;>(try(exfalso;omega)))|(refine uN hK ?_;clear hK)|apply zI));replace zz:=uu6 g0 g3 hd hr k1 k2;refine uU zz (hc3 _) ?_;replace zz:=uu10 g0 g3 hd hr k1 k2 yT yF k3 k4;(repeat'(first|refine a_seq fun K hK=>?_|refine uR zz ?_|refine uK ?_|(refine uC zz (fun hb=>?_) (fun hb=>?_)<;>(try simp only[hb0,simprocAttr]at hb)<;>(try(exfalso;omega)))|(refine uN hK ?_;clear hK)|apply zI));replace zz:=uu8 g0 g3 hd hr k1 k2 k3 k4;refine uU zz (hc4 _) ?_;replace zz:=uu11 g0 g3 hd hr k1 k2 k3 k4 w7 yT yF;(repeat'(first|refine a_block ?_|refine uR zz ?_|refine uK ?_|(refine uN hK ?_;clear hK)|apply zI));exact⟨l.length-(k+1),by omega,k+1,by simp,by omega,rfl,(hg.new _).set hg.le _,hinv.trans hF2.symm⟩
        |false=>
         rw[k3]at hinv;have k4:decide (2<kind)=true:=(by simp at k3⊢;omega);cases b5 with
         |false=>
          have hf:F=false:=(by rw[hinv];simp);subst hf;(try clear zz);clear hinv;replace zz:=uu6 g0 g3 hd hr k1 k2;(repeat'(first|refine a_seq fun K hK=>?_|refine uR zz ?_|refine uK ?_|(refine uC zz (fun hb=>?_) (fun hb=>?_)<;>(try simp only[hb0,simprocAttr]at hb)<;>(try(exfalso;omega)))|(refine uN hK ?_;clear hK)|apply zI));refine uU zz (hc1 _) ?_;(try apply zI);refine uU zz (hc2 _) ?_;replace zz:=uu10 g0 g3 hd hr k1 k2 yT yF k3 k4;(repeat'(first|refine a_seq fun K hK=>?_|refine uR zz ?_|refine uK ?_|(refine uC zz (fun hb=>?_) (fun hb=>?_)<;>(try simp only[hb0,simprocAttr]at hb)<;>(try(exfalso;omega)))|(refine uN hK ?_;clear hK)|apply zI));replace zz:=uu6 g0 g3 hd hr k1 k2;refine uU zz (hc3 _) ?_;replace zz:=uu10 g0 g3 hd hr k1 k2 yT yF k3 k4;(repeat'(first|refine a_seq fun K hK=>?_|refine uR zz ?_|refine uK ?_|(refine uC zz (fun hb=>?_) (fun hb=>?_)<;>(try simp only[hb0,simprocAttr]at hb)<;>(try(exfalso;omega)))|(refine uN hK ?_;clear hK)|apply zI));replace zz:=uu8 g0 g3 hd hr k1 k2 k3 k4;refine uU zz (hc5 _) ?_;replace zz:=uu10 g0 g3 hd hr k1 k2 k3 k4 yT yF;(repeat'(first|refine a_seq fun K hK=>?_|refine uR zz ?_|refine uT zz ?_|(refine uN hK ?_;clear hK)|apply zI));first|exact(hg.new _).set hg.le _|exact⟨rfl,(hg.new _).set hg.le _⟩
         |true=>
          simp only[Bool.not_false,Bool.true_and,cond_true,cond_false]at hinv;replace zz:=uu6 g0 g3 hd hr k1 k2;(repeat'(first|refine a_seq fun K hK=>?_|refine uR zz ?_|refine uK ?_|(refine uC zz (fun hb=>?_) (fun hb=>?_)<;>(try simp only[hb0,simprocAttr]at hb)<;>(try(exfalso;omega)))|(refine uN hK ?_;clear hK)|apply zI));refine uU zz (hc1 _) ?_;(try apply zI);refine uU zz (hc2 _) ?_;replace zz:=uu10 g0 g3 hd hr k1 k2 yT yF k3 k4;(repeat'(first|refine a_seq fun K hK=>?_|refine uR zz ?_|refine uK ?_|(refine uC zz (fun hb=>?_) (fun hb=>?_)<;>(try simp only[hb0,simprocAttr]at hb)<;>(try(exfalso;omega)))|(refine uN hK ?_;clear hK)|apply zI));replace zz:=uu6 g0 g3 hd hr k1 k2;refine uU zz (hc3 _) ?_;replace zz:=uu10 g0 g3 hd hr k1 k2 yT yF k3 k4;(repeat'(first|refine a_seq fun K hK=>?_|refine uR zz ?_|refine uK ?_|(refine uC zz (fun hb=>?_) (fun hb=>?_)<;>(try simp only[hb0,simprocAttr]at hb)<;>(try(exfalso;omega)))|(refine uN hK ?_;clear hK)|apply zI));replace zz:=uu8 g0 g3 hd hr k1 k2 k3 k4;refine uU zz (hc5 _) ?_;replace zz:=uu11 g0 g3 hd hr k1 k2 k3 k4 w7 yT yF;(repeat'(first|refine a_block ?_|refine uR zz ?_|refine uK ?_|(refine uN hK ?_;clear hK)|apply zI));exact⟨l.length-(k+1),by omega,k+1,by simp,by omega,rfl,(hg.new _).set hg.le _,hinv.trans hF2.symm⟩
  ·have hd:decide ((k:Int)<(l.length:Int))=false:=(by simp;omega);rw[List.drop_eq_nil_of_le (by omega),List.all_nil]at hinv;replace zz:=uu4 g0 g3 hd hlen;(repeat'(first|refine a_seq fun K hK=>?_|refine uR zz ?_|refine uT zz ?_|refine uX ?_|(refine uC zz (fun hb=>?_) (fun hb=>?_)<;>(try simp only[hb0,simprocAttr]at hb)<;>(try(exfalso;omega)))|(refine uN hK ?_;clear hK)|(clear hK;refine uN hK ?_;clear hK)|apply zI));exact⟨by rw[hinv],hg⟩
end Go.Proofs.YtblgchkahpgdjaaGreat
namespace Go.AM
theorem obj_new{h:Heap}{o:AObj}{j:Nat}(hj:j<h.next):(h.new o).obj j=h.obj j:=by
 simp only[Heap.new];rw[if_neg (by omega)]
theorem obj_kill{h:Heap}{id j:Nat}(hj:j≠id):(h.kill id).obj j=h.obj j:=by
 simp only[Heap.kill];rw[if_neg hj]
theorem obj_set{h:Heap}{o:AObj}{id j:Nat}(hj:j≠id):(h.set id o).obj j=h.obj j:=by
 simp only[Heap.set];rw[if_neg hj]
theorem obj_at{h:Heap}{o:AObj}{id:Nat}:(h.set id o).obj id=some o:=by simp only[Heap.set,if_true]
def tmpH(h:Heap)(o o':AObj):Heap:=below h.next ((h.new o).set h.next o')
theorem tmpH_next{h:Heap}{o o':AObj}:(tmpH h o o').next=h.next+1:=rfl
theorem tmpH_obj{h:Heap}{o o':AObj}{j:Nat}(hj:j<h.next):(tmpH h o o').obj j=h.obj j:=by
 simp only[tmpH,below,Heap.set,Heap.new];rw[if_pos hj,if_neg (by omega),if_neg (by omega)]
theorem a_tmp{P:Program}{ow:Nat→Bool}{wf:FuncId→Bool}{m z:Nat}{c:Code}{Q:Post}{s:Slots}{h:Heap}{o:AObj}{cells:List PV}(t:Nat)(hc:startsR c=true)(hs:s t= .ptr h.next 0 0)(hf: ∀ n H,FrzL n H cells cells)
  (hw:awp P ow wf m c Q (upd s t (.cptr cells)) (tmpH h o (.arr z [cells]))):awp P ow wf m c Q s ((h.new o).set h.next (.arr z [cells])):=by
 refine a_drop h.next [(t,.cptr cells)] hc (by simp[Heap.new,Heap.set]) ?_ hw
 intro x hx;simp only[List.mem_cons,List.not_mem_nil,or_false]at hx;subst hx;simp only[hs,FrzTo];exact .inr ⟨h.next,0,0,z,[cells],cells,rfl,Nat.le_refl _,by simp[Heap.set],rfl,hf _ _⟩
theorem Grow.tmp{h h':Heap}(g:Grow h h')(o o':AObj):Grow h (tmpH h' o o'):=
 ⟨by rw[tmpH_next];have:=g.le;omega,fun id hid=>by rw[tmpH_obj (by have:=g.le;omega)];exact g.old id hid⟩
theorem Tl.tmp{h:Heap}{lo z:Nat}{p:PV}{R:List (List PV)}(t:Tl h lo z p R)(o o':AObj):Tl (tmpH h o o') lo z p R:=t.up (by rw[tmpH_next];omega) fun j _ hj=>tmpH_obj hj
theorem Tl.frzR{h:Heap}{id0 z:Nat}{p:PV}{rows:List (List PV)}(t:Tl h id0 z p rows){n:Nat}(hn:n≤id0)(hr:FrzR n h rows rows):FrzTo n h (.imm z rows) p:=by
 simp only[FrzTo];rcases t with⟨h1,h2⟩|⟨id,h1,h2,rfl,ho⟩
 ·exact .inr (.inl ⟨h1,h2.symm⟩)
 ·refine .inr (.inr ⟨id,0,_,_,rfl,by omega,ho,by omega,?_⟩);rw[List.drop_zero,List.take_of_length_le (by omega)];exact hr
theorem isTail_keep{h0 h H:Heap}{lo z j:Nat}{p:PV}{R R2:List (List PV)}(t:Tl h0 lo z p R)(t1:isTail h p=some (H,R2))(hj:h0.next≤j):H.obj j=h.obj j:=by
 rcases t with⟨_,rfl|rfl⟩|⟨id,b1,b2,rfl,b3⟩
 ·simp only[isTail,Option.some.injEq,Prod.mk.injEq]at t1;rw[← t1.1]
 ·simp only[isTail,Option.some.injEq,Prod.mk.injEq]at t1;rw[← t1.1]
 ·unfold isTail at t1;simp only at t1;split at t1
  ·split at t1
   ·simp only[Option.some.injEq,Prod.mk.injEq]at t1;rw[← t1.1];exact obj_kill (by omega)
   ·cases t1
  ·cases t1
def Gv(X z:Nat)(R:List (List PV))(p q:PV):Prop:=p=q∨(p= .own X 0 R.length∧q= .imm z R)
def GvL(X z:Nat)(R:List (List PV)):List PV→List PV→Prop
 |[],[]=>True
 |p::ps,q::qs=>Gv X z R p q∧GvL X z R ps qs
 |_,_=>False
def GvR(X z:Nat)(R:List (List PV)):List (List PV)→List (List PV)→Prop
 |[],[]=>True
 |p::ps,q::qs=>GvL X z R p q∧GvR X z R ps qs
 |_,_=>False
theorem GvL.refl{X z:Nat}{R:List (List PV)}: ∀ l:List PV,GvL X z R l l
 |[]=>trivial
 |_::l=>⟨.inl rfl,GvL.refl l⟩
theorem GvR.snoc{X z:Nat}{R:List (List PV)}{r r':List PV}(h:GvL X z R r r'): ∀ l:List (List PV),GvR X z R (l++[r]) (l++[r'])
 |[]=>⟨h,trivial⟩
 |a::l=>⟨GvL.refl a,GvR.snoc h l⟩
theorem GvL.len{X z:Nat}{R:List (List PV)}: ∀ l l':List PV,GvL X z R l l'→l.length=l'.length
 |[],[],_=>rfl
 |[],_::_,h=>h.elim
 |_::_,[],h=>h.elim
 |_::l,_::l',h=>by simp only[List.length_cons,GvL.len l l' h.2]
theorem GvR.len{X z:Nat}{R:List (List PV)}: ∀ l l':List (List PV),GvR X z R l l'→l.length=l'.length
 |[],[],_=>rfl
 |[],_::_,h=>h.elim
 |_::_,[],h=>h.elim
 |_::l,_::l',h=>by simp only[List.length_cons,GvR.len l l' h.2]
section
variable {β:Env}{h:Heap}{w:World}{X z:Nat}{R:List (List PV)}{F':Nat→Prop}
theorem Gv.rep(sm:Sim β h w)(hX:h.obj X=some (.arr z R))(mv:Mv β h.next (Fz β h w) w β h.next F' w)(hB: ∀ b,(β X).b=some b→F' b){p q:PV}{x:Value}(hg:Gv X z R p q)(hr:Rep β h.next (Fz β h w) w p x):Rep β h.next F' w q x:=by
 rcases hg with rfl|⟨rfl,rfl⟩
 ·exact Rep.mv mv _ _ hr
 ·simp only[Rep]at hr⊢;obtain⟨_,a,cap,rfl,h1,h2,h3⟩:=hr;refine⟨a,cap,rfl,h1,h2,?_⟩;rcases h3 with h3|⟨b,g1,g2,g3⟩
  ·exact .inl (List.eq_nil_of_length_eq_zero (by omega))
  ·have hok:=sm.ok X _ hX;simp only[ObjOk]at hok;obtain⟨hz,hok⟩:=hok;rcases hok with⟨k1,_⟩|⟨b',c,e,fr,k1,k2,k3,k4,k5,k6⟩
   ·rw [k1]at g1;cases g1
   ·rw [k1]at g1;simp only[Option.some.injEq]at g1;subst g1;exact .inr ⟨b',_,hB b' k1,g2,by simpa using RepR.mvb mv rfl z R _ k6⟩
theorem GvL.rep(sm:Sim β h w)(hX:h.obj X=some (.arr z R))(mv:Mv β h.next (Fz β h w) w β h.next F' w)(hB: ∀ b,(β X).b=some b→F' b): ∀ (l l':List PV)(b o:Nat),GvL X z R l l'→RepS β h.next (Fz β h w) w l b o→RepS β h.next F' w l' b o
 |[],[],_,_,_,_=>by simp only[RepS]
 |[],_::_,_,_,h,_=>h.elim
 |_::_,[],_,_,h,_=>h.elim
 |p::l,q::l',b,o,hg,hr=>by
  simp only[RepS]at hr⊢;obtain⟨⟨v,h1,h2,h3⟩,h4⟩:=hr;exact⟨⟨v,h1,h2,Gv.rep sm hX mv hB hg.1 h3⟩,GvL.rep sm hX mv hB l l' b (o+1) hg.2 h4⟩
theorem GvR.rep(sm:Sim β h w)(hX:h.obj X=some (.arr z R))(mv:Mv β h.next (Fz β h w) w β h.next F' w)(hB: ∀ b,(β X).b=some b→F' b)(zY:Nat): ∀ (l l':List (List PV))(b o:Nat),GvR X z R l l'→RepR β h.next (Fz β h w) w zY l b o→RepR β h.next F' w zY l' b o
 |[],[],_,_,_,_=>by simp only[RepR]
 |[],_::_,_,_,h,_=>h.elim
 |_::_,[],_,_,h,_=>h.elim
 |p::l,q::l',b,o,hg,hr=>by
  simp only[RepR]at hr⊢;obtain⟨⟨h1,h2⟩,h3⟩:=hr;exact⟨⟨by rw[← GvL.len _ _ hg.1];exact h1,GvL.rep sm hX mv hB p q b o hg.1 h2⟩,GvR.rep sm hX mv hB zY l l' b (o+zY) hg.2 h3⟩
end
def giveH(h:Heap)(X Y zY:Nat)(R':List (List PV)):Heap:=(h.kill X).set Y (.arr zY R')
theorem Wk.give{s:Slots}{h:Heap}{X Y z zY:Nat}{R RY RY':List (List PV)}(hX:h.obj X=some (.arr z R))(hY:h.obj Y=some (.arr zY RY))(hne:X≠Y)(hg:GvR X z R RY RY'):Wk s h s (giveH h X Y zY RY'):=by
 intro β w sm;have ho: ∀ j,(giveH h X Y zY RY').obj j=if j=Y then some (.arr zY RY')else if j=X then none else h.obj j:=fun j=>rfl
 have hsome: ∀ id,((giveH h X Y zY RY').obj id).isSome=true→id≠X∧(h.obj id).isSome=true:=fun id hid=>by
  rw[ho]at hid;split at hid
  ·rename_i e;subst e;exact⟨fun e=>hne e.symm,by rw[hY];try rfl⟩
  ·split at hid
   ·simp at hid
   ·exact ⟨by assumption,hid⟩
 have hF: ∀ b,Fz β h w b→Fz β (giveH h X Y zY RY') w b:=fun b hb=>⟨hb.1,fun id hid=>hb.2.1 id (hsome id hid).2,hb.2.2⟩;have hsX:(h.obj X).isSome=true:=by rw[hX];try rfl
 have hB: ∀ b,(β X).b=some b→Fz β (giveH h X Y zY RY') w b:=fun b hb=>
  ⟨sm.blk_lt hX hb,fun j hj hjb=>(hsome j hj).1 (sm.inj j X (hsome j hj).2 hsX b hjb hb),sm.nx X hsX b hb⟩
 have mv:Mv β h.next (Fz β h w) w β h.next (Fz β (giveH h X Y zY RY') w) w:=⟨Nat.le_refl _,fun _ _ _=>rfl,fun b hb=>⟨hF b hb,rfl⟩⟩
 refine⟨⟨fun id hid=>sm.lt id (hsome id hid).2,fun id o hoo=>?_,fun i j hi hj=>sm.inj i j (hsome i hi).2 (hsome j hj).2,sm.xs,fun id hid=>sm.nx id (hsome id hid).2⟩,
  ⟨rfl,rfl,rfl,Nat.le_refl _,Nat.le_refl _,fun _ _=>rfl,rfl,fun _ _ _=>rfl,fun b hb=>⟨hF b hb,rfl⟩⟩,fun t x hr=>Rep.mv mv _ _ hr⟩
 rw[ho]at hoo;split at hoo
 ·rename_i e;subst e;simp only[Option.some.injEq]at hoo;subst hoo;have hok:=sm.ok id _ hY;simp only[ObjOk]at hok⊢;refine⟨hok.1,?_⟩;rcases hok.2 with⟨k1,k2⟩|⟨b,c,e,fr,k1,k2,k3,k4,k5,k6⟩
  ·left;refine⟨k1,?_⟩;have:=hg.len;rw[k2]at this;exact List.eq_nil_of_length_eq_zero this.symm
  ·exact .inr ⟨b,c,e,fr,k1,k2,k3,by rw[← hg.len];exact k4,k5,GvR.rep sm hX mv hB zY RY RY' b _ hg k6⟩
 ·split at hoo
  ·cases hoo
  ·exact ObjOk.mv mv (fun _ _=>rfl) (sm.ok id o hoo)
theorem a_give{P:Program}{ow:Nat→Bool}{wf:FuncId→Bool}{m:Nat}{c:Code}{Q:Post}{s:Slots}{h:Heap}{X Y z zY:Nat}{R RY:List (List PV)}(RY':List (List PV))(hc:startsR c=true)(hX:h.obj X=some (.arr z R))(hY:h.obj Y=some (.arr zY RY))(hne:X≠Y)(hg:GvR X z R RY RY')
  (hw:awp P ow wf m c Q s (giveH h X Y zY RY')):awp P ow wf m c Q s h:=a_weak hc (Wk.give hX hY hne hg) hw
theorem Tl.old{h H:Heap}{lo z:Nat}{p:PV}{R:List (List PV)}(t:Tl h lo z p R)(g:Grow h H):Tl H lo z p R:=t.up g.le fun j _ hj=>g.old j hj
theorem below_grow{h H:Heap}(g:Grow h H):Grow h (below h.next H):=⟨g.le,fun j hj=>by simp only[below];rw[if_pos hj];exact g.old j hj⟩
end Go.AM
namespace Go.Proofs.YtblgchkahpgdjaaGreat
open Go.AM
theorem a_holdR{P:Program}{ow:Nat→Bool}{wf:FuncId→Bool}{n:Nat}{Q:Post}{s:Slots}{h:Heap}(id:Nat){ops:Array Oper}{d:Bool}{y:Code}(hh:Hold (awp P ow wf n (.seq (.region id ops d) y) Q s h)):awp P ow wf n (.seq (.region id ops d) y) Q s h:=hh.out
theorem a_holdB{P:Program}{ow:Nat→Bool}{wf:FuncId→Bool}{n:Nat}{Q:Post}{s:Slots}{h:Heap}(id:Nat){ops:Array Oper}{d:Bool}(hh:Hold (awp P ow wf n (.region id ops d) Q s h)):awp P ow wf n (.region id ops d) Q s h:=hh.out
end Go.Proofs.YtblgchkahpgdjaaGreat
