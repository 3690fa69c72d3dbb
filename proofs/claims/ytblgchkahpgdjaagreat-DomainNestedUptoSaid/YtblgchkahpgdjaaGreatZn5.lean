/- What the claim rests on, part 5: the abstract machine, contracts of the functions, plain data. -/
import Derived.Test.YtblgchkahpgdjaaGreatZn4
set_option linter.unusedVariables false
set_option linter.unusedSimpArgs false
set_option linter.unusedSectionVars false
namespace Go.AM
mutual
def Fm.small:Fm→Prop
 | .mk _ _ args params exprs kids=>args.length≤1048576∧params.length≤1048576∧Ex.smalls exprs∧kids.length≤1048576∧Fm.smalls kids
def Fm.smalls:List Fm→Prop
 |[]=>True
 |k::ks=>k.small∧Fm.smalls ks
end
theorem Fm.smalls_iff:{l:List Fm}→(Fm.smalls l↔ ∀ k∈l,k.small)
 |[]=>by simp[Fm.smalls]
 |k::ks=>by simp[Fm.smalls,Fm.smalls_iff (l:=ks)]
end Go.AM
namespace Go.Proofs.YtblgchkahpgdjaaGreat
open Go.AM
set_option maxHeartbeats 4000000
set_option maxRecDepth 20000
structure WrI(h:Heap)(L:List Sx)(h':Heap):Prop where
 grow:Grow h h'
 ex: ∃ p H,h.next+1<h'.next∧h'.obj h.next=some (.arr 6 [[.sc (.int .i64 0),.sc (.int .i64 0),.sc (.int .i64 0),.sc (.int .i64 0),.sc (.string ⟨#[]⟩),.sc (.slice none 0 0)]])∧
  h'.obj (h.next+1)=some (.arr 6 [[.sc (.int .i64 3),.sc (.int .i64 0),.sc (.int .i64 0),.sc (.int .i64 0),.sc (.string ⟨#[]⟩),p]])∧Tl h' (h.next+2) 6 p (Sx.rows L)∧
  isTail h' p=some (H,Sx.rows L)∧zOk h' 6 p=true∧H.next=h'.next∧(∀ j,j<h.next+2→H.obj j=h'.obj j)∧Grow h H∧p.cells=[p]∧oneC p=true
theorem WrI.mk2{h h':Heap}{L:List Sx}{p:PV}(g:Grow h h')(hn:h.next+1<h'.next)(o1:h'.obj h.next=some (.arr 6 [[.sc (.int .i64 0),.sc (.int .i64 0),.sc (.int .i64 0),.sc (.int .i64 0),.sc (.string ⟨#[]⟩),.sc (.slice none 0 0)]]))(o2:h'.obj (h.next+1)=some (.arr 6 [[.sc (.int .i64 3),.sc (.int .i64 0),.sc (.int .i64 0),.sc (.int .i64 0),.sc (.string ⟨#[]⟩),p]]))(tl:Tl h' (h.next+2) 6 p (Sx.rows L)):WrI h L h':=by
 obtain⟨H,t1,t2,t3,t4,t5⟩:=tl.tail;have hk:=t5 h ⟨g.le,g.old⟩ (by omega);refine⟨g,p,H,hn,o1,o2,tl,t1,t2,t3,t4,⟨hk.1,hk.2⟩,?_,?_⟩
 ·rcases tl with⟨_,rfl|rfl⟩|⟨_,_,_,rfl,_⟩<;>rfl
 ·rcases tl with⟨_,rfl|rfl⟩|⟨_,_,_,rfl,_⟩<;>rfl
theorem Tl.low{h:Heap}{a b z:Nat}{p:PV}{rows:List (List PV)}(t:Tl h a z p rows)(hab:b≤a):Tl h b z p rows:=by
 rcases t with ht|⟨id,h1,h2⟩
 ·exact .inl ht
 ·exact .inr ⟨id,by omega,h2⟩
theorem WrI.push{h h' H:Heap}{L:List Sx}{X:Sx}{m:Nat}(hn:h.next+1<h'.next)(o1:h'.obj h.next=some (.arr 6 [[.sc (.int .i64 0),.sc (.int .i64 0),.sc (.int .i64 0),.sc (.int .i64 0),.sc (.string ⟨#[]⟩),.sc (.slice none 0 0)]]))(t3:H.next=h'.next)(t4: ∀ j,j<h.next+2→H.obj j=h'.obj j)(g:Grow h H)(hm:m=L.length+1):
  WrI h (L++[X]) ((H.new (.arr 6 (Sx.rows L++[X.cells]))).set (h.next+1) (.arr 6 [[.sc (.int .i64 3),.sc (.int .i64 0),.sc (.int .i64 0),.sc (.int .i64 0),.sc (.string ⟨#[]⟩),.own h'.next 0 m]])):=by
 have e1:Sx.rows (L++[X])=Sx.rows L++[X.cells]:=by simp[Sx.rows_map]
 have n1:¬ h.next=h.next+1:=by omega
 have n2:¬ h.next=H.next:=by omega
 refine WrI.mk2 (p:= .own h'.next 0 m) ((g.new _).set (by omega) _) (by simp only[Heap.set,Heap.new];omega) ?_ ?_ ?_;rotate_left
 ·simp only[Heap.set,if_true]
 ·rw [e1, ← t3];have:Tl (H.new (.arr 6 (Sx.rows L++[X.cells]))) (h.next+2) 6 (.own H.next 0 m) (Sx.rows L++[X.cells]):=Tl.grow (by omega) (by rw[hm];simp[Sx.rows_len]);exact this.up (Nat.le_refl _) (fun j hj _=>by simp only[Heap.set];rw[if_neg (by omega)])
 ·simp only[Heap.set,Heap.new,n1,n2,if_false];rw[t4 _ (by omega)];exact o1
theorem a_heap{P:Program}{ow:Nat→Bool}{wf:FuncId→Bool}{n:Nat}{Q:Post}{s:Slots}{h0:Heap}{c:Code}(I:Heap→Prop)(hi:I h0)(hh: ∀ h',I h'→awp P ow wf n c Q s h'):awp P ow wf n c Q s h0:=hh _ hi
theorem write_c: ∀ f:Fm,f.small→shapedF f=true→ ∀ h:Heap,PCall Tryz.prog 162 [.agg f.cells] h fun r h'=>r= .agg (fmW f).cells∧h'=h:=by
 refine Fm.ind ?_;intro op name args params exprs kids ih hsm hsh h;simp only[Fm.small]at hsm;obtain⟨hal,hpl,hes,hkl,hks⟩:=hsm;rw[Ex.smalls_iff]at hes;rw[Fm.smalls_iff]at hks;simp only[shapedF,Bool.and_eq_true]at hsh;obtain⟨⟨hpo,hse⟩,hsk⟩:=hsh;rw[shapedFs_iff]at hsk;rw[List.all_eq_true]at hse;have hlK:=Fm.rows_len kids;unfold fmW;refine PCall.frz Ty.hb_162 ?_;cases k1:(op.data.toList==(#[97,116,111,109]:Array UInt8).toList)with
 |true=>
  rw[if_pos (show bEq op opAtom=true from k1)];have hw: ∀ h:Heap,PCall Tryz.prog 174 [sPV name,.imm 1 (strRows args)] h fun r h'=>r= .agg (wordsM name args).cells∧h'=h:=fun h=>words_c hal;have hfz:=fun(n:Nat)(h:Heap)=>sx_frz n h (wordsM name args);simp only[Fm.cells];generalize wordsM name args=X at hw hfz⊢;obtain⟨ki,va,li,co,te,ks⟩:=X;simp only[Sx.cells]at hw hfz⊢;refine uG0 Tryz.func162 Tryz.ntmps162 Tryz.results162 Ty.hb_162 ?_;repeat'(first|refine G fun K J=>?_|refine uR k1 ?_|(refine O J ?_;clear J)|apply zI)
  refine uU k1 (hw _) ?_;repeat'(first|refine uT trivial ?_|(refine O J ?_;clear J)|apply zI)
  refine⟨?_,((Grow.refl h).new _).set (Nat.le_refl _) _⟩;simp only[FrzTo];exact⟨_,rfl,hfz _ _⟩
 |false=>
  cases k2:(op.data.toList==(#[115,97,109,101]:Array UInt8).toList)with
  |true=>
   rw[if_neg (by rw[(show bEq op opAtom=false from k1)];simp)];rw[if_pos (show bEq op opSame=true from k2)];have hw: ∀ h:Heap,PCall Tryz.prog 174 [sPV ⟨#[61]⟩,.imm 1 (strRows args)] h fun r h'=>r= .agg (wordsM opEq args).cells∧h'=h:=fun h=>words_c hal;have hfz:=fun(n:Nat)(h:Heap)=>sx_frz n h (wordsM opEq args);simp only[Fm.cells];generalize wordsM opEq args=X at hw hfz⊢;obtain⟨ki,va,li,co,te,ks⟩:=X;simp only[Sx.cells]at hw hfz⊢;refine uG0 Tryz.func162 Tryz.ntmps162 Tryz.results162 Ty.hb_162 ?_;(repeat'(first|refine G fun K J=>?_|refine uR (U k1 k2) ?_|(refine O J ?_;clear J)|apply zI));refine uU (U k1 k2) (hw _) ?_;(repeat'(first|refine uT trivial ?_|(refine O J ?_;clear J)|apply zI));refine⟨?_,((Grow.refl h).new _).set (Nat.le_refl _) _⟩;simp only[FrzTo];exact⟨_,rfl,hfz _ _⟩
  |false=>
   rw[if_neg (by rw[(show bEq op opAtom=false from k1)];simp),if_neg (by rw[(show bEq op opSame=false from k2)];simp)];cases k3:(op.data.toList==(#[60]:Array UInt8).toList)with
   |true=>
    rw[if_pos (by simp[isCmp,(show bEq op opAtom=false from k1),(show bEq op opSame=false from k2),(show bEq op opLt=true from k3)])];have hx2:exprs.length=2:=(by have q:=hpo;simp[partsOk,shapeOf,(show bEq op opAtom=false from k1),(show bEq op opSame=false from k2),(show bEq op opLt=true from k3)]at q;omega);obtain⟨a,b,rfl⟩: ∃ a b,exprs=[a,b]:=by
     match exprs,hx2 with
     |[a,b],_=>exact⟨a,b,rfl⟩
    have ca:=writeE_c a (hes a (by simp)) (hse a (by simp));have cb:=writeE_c b (hes b (by simp)) (hse b (by simp));have hw:=fun h:Heap=>word_c (h:=h) (s:=op);simp only[List.map_cons,List.map_nil];have hfz:=fun(n:Nat)(h:Heap)=>sx_frz n h (listM [wordM op,exW a,exW b]);have hl:=fun h:Heap=>list_c (h:=h) (p:= .imm 6 (Sx.rows [wordM op,exW a,exW b])) rfl (fun _=>frz_imm (sxs_in _ _));generalize exW a=xa at ca hfz hl⊢;generalize exW b=xb at cb hfz hl⊢;(try clear Z);clear ih hks hpo hse hsk hes;obtain⟨aop,aname,an,aargs,akids⟩:=a;obtain⟨bop,bname,bn,bargs,bkids⟩:=b;obtain⟨ki,va,li,co,te,ks⟩:=xa;obtain⟨ki2,va2,li2,co2,te2,ks2⟩:=xb;simp only[Fm.cells,Ex.cells,Ex.rows,listM,Sx.cells,Sx.rows,wordM]at ca cb hw hfz hl⊢;refine uG0 Tryz.func162 Tryz.ntmps162 Tryz.results162 Ty.hb_162 ?_;replace Z:=U k1 (U k2 k3);(repeat'(first|refine G fun K J=>?_|refine uR Z ?_|refine uD Z ?_|refine uK ?_|refine uC1 Z ?_|(refine O J ?_;clear J)|apply zI));(first|refine uV trivial (hw _) ?_|refine uA trivial (hw _) ?_);(try apply zI);(first|refine uV trivial (ca _) ?_|refine uA trivial (ca _) ?_);(try apply zI);(first|refine uV trivial (cb _) ?_|refine uA trivial (cb _) ?_);(try apply zI);(first|refine uV trivial (hl _) ?_|refine uA trivial (hl _) ?_);(repeat'(first|refine uT trivial ?_|(refine O J ?_;clear J)|refine uB trivial ?_|apply zI));refine⟨?_,((Grow.refl h).new _).set (Nat.le_refl _) _⟩;simp only[FrzTo];exact⟨_,rfl,hfz _ _⟩
   |false=>
    cases k4:(op.data.toList==(#[60,61]:Array UInt8).toList)with
    |true=>
     rw[if_pos (by simp[isCmp,(show bEq op opAtom=false from k1),(show bEq op opSame=false from k2),(show bEq op opLt=false from k3),(show bEq op opLe=true from k4)])];have hx2:exprs.length=2:=(by have q:=hpo;simp[partsOk,shapeOf,(show bEq op opAtom=false from k1),(show bEq op opSame=false from k2),(show bEq op opLt=false from k3),(show bEq op opLe=true from k4)]at q;omega);obtain⟨a,b,rfl⟩: ∃ a b,exprs=[a,b]:=by
      match exprs,hx2 with
      |[a,b],_=>exact⟨a,b,rfl⟩
     have ca:=writeE_c a (hes a (by simp)) (hse a (by simp));have cb:=writeE_c b (hes b (by simp)) (hse b (by simp));have hw:=fun h:Heap=>word_c (h:=h) (s:=op);simp only[List.map_cons,List.map_nil];have hfz:=fun(n:Nat)(h:Heap)=>sx_frz n h (listM [wordM op,exW a,exW b]);have hl:=fun h:Heap=>list_c (h:=h) (p:= .imm 6 (Sx.rows [wordM op,exW a,exW b])) rfl (fun _=>frz_imm (sxs_in _ _));generalize exW a=xa at ca hfz hl⊢;generalize exW b=xb at cb hfz hl⊢;(try clear Z);clear ih hks hpo hse hsk hes;obtain⟨aop,aname,an,aargs,akids⟩:=a;obtain⟨bop,bname,bn,bargs,bkids⟩:=b;obtain⟨ki,va,li,co,te,ks⟩:=xa;obtain⟨ki2,va2,li2,co2,te2,ks2⟩:=xb;simp only[Fm.cells,Ex.cells,Ex.rows,listM,Sx.cells,Sx.rows,wordM]at ca cb hw hfz hl⊢;refine uG0 Tryz.func162 Tryz.ntmps162 Tryz.results162 Ty.hb_162 ?_;replace Z:=U k1 (U k2 (U k3 k4));(repeat'(first|refine G fun K J=>?_|refine uR Z ?_|refine uD Z ?_|refine uK ?_|refine uC1 Z ?_|(refine O J ?_;clear J)|apply zI));(first|refine uV trivial (hw _) ?_|refine uA trivial (hw _) ?_);(try apply zI);(first|refine uV trivial (ca _) ?_|refine uA trivial (ca _) ?_);(try apply zI);(first|refine uV trivial (cb _) ?_|refine uA trivial (cb _) ?_);(try apply zI);(first|refine uV trivial (hl _) ?_|refine uA trivial (hl _) ?_);(repeat'(first|refine uT trivial ?_|(refine O J ?_;clear J)|refine uB trivial ?_|apply zI));refine⟨?_,((Grow.refl h).new _).set (Nat.le_refl _) _⟩;simp only[FrzTo];exact⟨_,rfl,hfz _ _⟩
    |false=>
     cases k5:(op.data.toList==(#[61]:Array UInt8).toList)with
     |true=>
      rw[if_pos (by simp[isCmp,(show bEq op opAtom=false from k1),(show bEq op opSame=false from k2),(show bEq op opLt=false from k3),(show bEq op opLe=false from k4),(show bEq op opEq=true from k5)])];have hx2:exprs.length=2:=(by have q:=hpo;simp[partsOk,shapeOf,(show bEq op opAtom=false from k1),(show bEq op opSame=false from k2),(show bEq op opLt=false from k3),(show bEq op opLe=false from k4),(show bEq op opEq=true from k5)]at q;omega);obtain⟨a,b,rfl⟩: ∃ a b,exprs=[a,b]:=by
       match exprs,hx2 with
       |[a,b],_=>exact⟨a,b,rfl⟩
      have ca:=writeE_c a (hes a (by simp)) (hse a (by simp));have cb:=writeE_c b (hes b (by simp)) (hse b (by simp));have hw:=fun h:Heap=>word_c (h:=h) (s:=op);simp only[List.map_cons,List.map_nil];have hfz:=fun(n:Nat)(h:Heap)=>sx_frz n h (listM [wordM op,exW a,exW b]);have hl:=fun h:Heap=>list_c (h:=h) (p:= .imm 6 (Sx.rows [wordM op,exW a,exW b])) rfl (fun _=>frz_imm (sxs_in _ _));generalize exW a=xa at ca hfz hl⊢;generalize exW b=xb at cb hfz hl⊢;(try clear Z);clear ih hks hpo hse hsk hes;obtain⟨aop,aname,an,aargs,akids⟩:=a;obtain⟨bop,bname,bn,bargs,bkids⟩:=b;obtain⟨ki,va,li,co,te,ks⟩:=xa;obtain⟨ki2,va2,li2,co2,te2,ks2⟩:=xb;simp only[Fm.cells,Ex.cells,Ex.rows,listM,Sx.cells,Sx.rows,wordM]at ca cb hw hfz hl⊢;refine uG0 Tryz.func162 Tryz.ntmps162 Tryz.results162 Ty.hb_162 ?_;replace Z:=U k1 (U k2 (U k3 (U k4 k5)));(repeat'(first|refine G fun K J=>?_|refine uR Z ?_|refine uD Z ?_|refine uC1 Z ?_|(refine O J ?_;clear J)|apply zI));(first|refine uV trivial (hw _) ?_|refine uA trivial (hw _) ?_);(try apply zI);(first|refine uV trivial (ca _) ?_|refine uA trivial (ca _) ?_);(try apply zI);(first|refine uV trivial (cb _) ?_|refine uA trivial (cb _) ?_);(try apply zI);(first|refine uV trivial (hl _) ?_|refine uA trivial (hl _) ?_);(repeat'(first|refine uT trivial ?_|(refine O J ?_;clear J)|refine uB trivial ?_|apply zI));refine⟨?_,((Grow.refl h).new _).set (Nat.le_refl _) _⟩;simp only[FrzTo];exact⟨_,rfl,hfz _ _⟩
     |false=>
      rw[if_neg (by simp[isCmp,(show bEq op opLt=false from k3),(show bEq op opLe=false from k4),(show bEq op opEq=false from k5)])];(try clear Z);clear hse hes hpo;simp only[Fm.cells];refine uG0 Tryz.func162 Tryz.ntmps162 Tryz.results162 Ty.hb_162 ?_;replace Z:=U k1 (U k2 (U k3 (U k4 k5)));(repeat'(first|refine G fun K J=>?_|refine a_block ?_|refine uR Z ?_|refine uK ?_|refine uC1 Z ?_|(refine O J ?_;clear J)|apply zI));refine uU k1 (list_c (p:= .sc (.slice none 0 0)) rfl (fun _=>by simp only[FrzTo])) ?_;(repeat'(first|with_reducible refine a_hold 11 ?_|(refine O J ?_;clear J)|apply zI));refine⟨?_⟩;refine a_heap (WrI h []) ?_ (fun H0 hI=>?_)
      ·refine WrI.mk2 (p:= .sc (.slice none 0 0)) ((((Grow.refl h).new _).new _).set (by omega) _) (by simp[Heap.new,Heap.set]) (by simp[Heap.new,Heap.set]) (by simp[Heap.new,Heap.set]) Tl.nil
      refine a_cut (fun S h'=>S 1= .cptr (Fm.mk op name args params exprs kids).cells∧S 2= .ptr h.next 0 0∧S 3= .ptr (h.next+1) 0 0∧WrI h (if(bEq op opAnd&&kids.isEmpty)=true then[]else[wordM op]) h') ?_ ?_
      ·have n6:bEq op opAnd=(op.data.toList==(#[97,110,100]:Array UInt8).toList):=rfl;cases k6:(op.data.toList==(#[97,110,100]:Array UInt8).toList)with
       |false=>
        rw[if_neg (by rw[n6,k6];simp)];obtain⟨hg,p,H,hn,o1,o2,tl,t1,t2,t3,t4,hgH,hpc,hp1⟩:=hI;have hw: ∀ (s:ByteArray)(h:Heap),PCall Tryz.prog 136 [sPV s] h fun r h'=>r= .agg (wordM s).cells∧h'=h:=fun s h=>word_c;simp only[wordM,Sx.cells,Sx.rows]at hw;have o2H:H.obj (h.next+1)=_:=(t4 _ (by omega)).trans o2;have n2:(h.next+1=H.next)=False:=(by simp;omega);have hpr:(Sx.rows ([]:List Sx)).length=0:=rfl;have hpush:=fun X:Sx=>WrI.push (L:=[]) (X:=X) (m:=1) hn o1 t3 t4 hgH rfl;generalize Sx.rows []=R at t1 hpr hpush;replace Z:=U k6 (U @Bool.not_false (U o2 (U o2H (U n2 (U t1 (U t2 (U hpr (U hpc hp1))))))));(repeat'(first|refine G fun K J=>?_|refine uR Z ?_|refine uD Z ?_|refine uC1 Z ?_|(refine O J ?_;clear J)|apply zI));replace Z:=U k6 (U @Bool.not_false (U o2 o2H));(first|refine uV Z (hw op _) ?_|refine uA Z (hw op _) ?_);replace Z:=U k6 (U @Bool.not_false (U o2 (U o2H (U n2 (U t1 (U t2 (U hpr (U hpc hp1))))))));repeat'(first|refine uB Z ?_|(rw[if_pos];rotate_left 1;omega;simp(maxSteps:=2000000) only[Ty.w,simprocAttr,k6,Bool.not_false,o2,o2H,n2,t1,t2,hpr,hpc,hp1])|apply zI)
        (simp(maxSteps:=2000000) only[Ty.w,simprocAttr,Ty.all,Fm.cells])
        exact hpush (wordM op)
       |true=>
        cases q6:decide ((kids.length:Int)>0)with
        |false=>
         have hk0:kids.isEmpty=true:=(by cases kids with|nil=>rfl|cons a l=>simp at q6);rw[if_pos (by rw[n6,k6,hk0];try rfl)];replace Z:=U k6 (U q6 (U hlK @Bool.not_true));repeat'(first|refine G fun K J=>?_|refine uR Z ?_|refine uK ?_|refine uC1 Z ?_|(refine O J ?_;clear J)|apply zI)
         (simp(maxSteps:=2000000) only[Ty.w,simprocAttr,Ty.all,Fm.cells])
         exact hI
        |true=>
         have hk0:kids.isEmpty=false:=(by cases kids with|nil=>simp at q6|cons a l=>rfl);rw[if_neg (by rw[hk0];simp)];obtain⟨hg,p,H,hn,o1,o2,tl,t1,t2,t3,t4,hgH,hpc,hp1⟩:=hI;have hw: ∀ (s:ByteArray)(h:Heap),PCall Tryz.prog 136 [sPV s] h fun r h'=>r= .agg (wordM s).cells∧h'=h:=fun s h=>word_c;simp only[wordM,Sx.cells,Sx.rows]at hw;have o2H:H.obj (h.next+1)=_:=(t4 _ (by omega)).trans o2;have n2:(h.next+1=H.next)=False:=(by simp;omega);have hpr:(Sx.rows ([]:List Sx)).length=0:=rfl;have hpush:=fun X:Sx=>WrI.push (L:=[]) (X:=X) (m:=1) hn o1 t3 t4 hgH rfl;generalize Sx.rows []=R at t1 hpr hpush;replace Z:=U k6 (U q6 (U hlK (U @Bool.not_true (U o2 (U o2H (U n2 (U t1 (U t2 (U hpr (U hpc hp1))))))))));(repeat'(first|refine G fun K J=>?_|refine uR Z ?_|refine uD Z ?_|refine uC1 Z ?_|(refine O J ?_;clear J)|apply zI));replace Z:=U k6 (U q6 (U hlK (U @Bool.not_true (U o2 o2H))));(first|refine uV Z (hw op _) ?_|refine uA Z (hw op _) ?_);replace Z:=U k6 (U q6 (U hlK (U @Bool.not_true (U o2 (U o2H (U n2 (U t1 (U t2 (U hpr (U hpc hp1))))))))));repeat'(first|refine uB Z ?_|(rw[if_pos];rotate_left 1;omega;simp(maxSteps:=2000000) only[Ty.w,simprocAttr,k6,q6,hlK,Bool.not_true,o2,o2H,n2,t1,t2,hpr,hpc,hp1])|apply zI)
         (simp(maxSteps:=2000000) only[Ty.w,simprocAttr,Ty.all,Fm.cells])
         exact hpush (wordM op)
      ·(try clear Z);clear hI;obtain⟨L0,hL0,hl0⟩: ∃ L0:List Sx,(if(bEq op opAnd&&kids.isEmpty)=true then[]else[wordM op])=L0∧L0.length≤1:=⟨_,rfl,by split<;>simp⟩;rw[hL0];rintro S h' ⟨g1,g2,g3,hI⟩;simp only[Fm.cells]at g1;(repeat'(first|with_reducible refine a_hold 13 ?_|apply zI));refine⟨?_⟩;refine a_cut (fun S h'=>S 1= .cptr (Fm.mk op name args params exprs kids).cells∧S 2= .ptr h.next 0 0∧S 3= .ptr (h.next+1) 0 0∧WrI h (L0++(if isQ op=true then[listM (paramsW params)]else[])) h') ?_ ?_
       ·have n7:bEq op opAll=(op.data.toList==(#[102,111,114,97,108,108]:Array UInt8).toList):=rfl;have n8:bEq op opSome=(op.data.toList==(#[101,120,105,115,116,115]:Array UInt8).toList):=rfl;cases k7:(op.data.toList==(#[102,111,114,97,108,108]:Array UInt8).toList)with
        |true=>
         rw[if_pos (by simp[isQ,n7,n8,k7])];obtain⟨hg,p,H,hn,o1,o2,tl,t1,t2,t3,t4,hgH,hpc,hp1⟩:=hI;have hwp:=writeParams_c (l:=params) hpl;have hli: ∀ h:Heap,PCall Tryz.prog 175 [.imm 6 (Sx.rows (paramsW params))] h fun r h'=>r= .agg (listM (paramsW params)).cells∧h'=h:=fun h=>list_c rfl (fun _=>frz_imm (sxs_in _ _));generalize hX:listM (paramsW params)=X at hli⊢;(try clear Z);clear hX;generalize Sx.rows (paramsW params)=PR at hwp hli;have o2H:H.obj (h.next+1)=_:=(t4 _ (by omega)).trans o2;have n2:(h.next+1=H.next)=False:=(by simp;omega);have hpr:=Sx.rows_len L0;have hpush:=WrI.push (L:=L0) (X:=X) (m:=L0.length+1) hn o1 t3 t4 hgH rfl;generalize Sx.rows L0=R at t1 hpr hpush;have hb:(L0.length+1)*72≤140737488355328:=(by omega);obtain⟨ki,va,li,co,te,ks⟩:=X;simp only[Sx.cells]at hli hpush;replace Z:=U g1 (U g2 (U g3 (U k7 (U o2 (U o2H (U n2 (U t1 (U t2 (U hpr (U hpc (U hp1 hb)))))))))));(repeat'(first|refine G fun K J=>?_|refine uR Z ?_|refine uD Z ?_|refine uC1 Z ?_|(refine O J ?_;clear J)|apply zI));replace Z:=U g1 (U g2 (U g3 (U k7 (U o2 o2H))));(first|refine uV Z (hwp _) ?_|refine uA Z (hwp _) ?_);(try apply zI);(first|refine uV Z (hli _) ?_|refine uA Z (hli _) ?_);replace Z:=U g1 (U g2 (U g3 (U k7 (U o2 (U o2H (U n2 (U t1 (U t2 (U hpr (U hpc (U hp1 hb)))))))))));repeat'(first|refine uB Z ?_|(rw[if_pos];rotate_left 1;omega;simp(maxSteps:=2000000) only[Ty.w,simprocAttr,g1,g2,g3,k7,o2,o2H,n2,t1,t2,hpr,hpc,hp1,hb])|apply zI)
         (simp(maxSteps:=2000000) only[Ty.w,simprocAttr,Ty.all,g1,g2,g3,Fm.cells])
         exact hpush
        |false=>
         cases k8:(op.data.toList==(#[101,120,105,115,116,115]:Array UInt8).toList)with
         |true=>
          rw[if_pos (by simp[isQ,n7,n8,k8])];obtain⟨hg,p,H,hn,o1,o2,tl,t1,t2,t3,t4,hgH,hpc,hp1⟩:=hI;have hwp:=writeParams_c (l:=params) hpl;have hli: ∀ h:Heap,PCall Tryz.prog 175 [.imm 6 (Sx.rows (paramsW params))] h fun r h'=>r= .agg (listM (paramsW params)).cells∧h'=h:=fun h=>list_c rfl (fun _=>frz_imm (sxs_in _ _));generalize hX:listM (paramsW params)=X at hli⊢;(try clear Z);clear hX;generalize Sx.rows (paramsW params)=PR at hwp hli;have o2H:H.obj (h.next+1)=_:=(t4 _ (by omega)).trans o2;have n2:(h.next+1=H.next)=False:=(by simp;omega);have hpr:=Sx.rows_len L0;have hpush:=WrI.push (L:=L0) (X:=X) (m:=L0.length+1) hn o1 t3 t4 hgH rfl;generalize Sx.rows L0=R at t1 hpr hpush;have hb:(L0.length+1)*72≤140737488355328:=(by omega);obtain⟨ki,va,li,co,te,ks⟩:=X;simp only[Sx.cells]at hli hpush;replace Z:=U g1 (U g2 (U g3 (U k7 (U k8 (U o2 (U o2H (U n2 (U t1 (U t2 (U hpr (U hpc (U hp1 hb))))))))))));(repeat'(first|refine G fun K J=>?_|refine uR Z ?_|refine uD Z ?_|refine uC1 Z ?_|(refine O J ?_;clear J)|apply zI));replace Z:=U g1 (U g2 (U g3 (U k7 (U k8 (U o2 o2H)))));(first|refine uV Z (hwp _) ?_|refine uA Z (hwp _) ?_);(try apply zI);(first|refine uV Z (hli _) ?_|refine uA Z (hli _) ?_);replace Z:=U g1 (U g2 (U g3 (U k7 (U k8 (U o2 (U o2H (U n2 (U t1 (U t2 (U hpr (U hpc (U hp1 hb))))))))))));repeat'(first|refine uB Z ?_|(rw[if_pos];rotate_left 1;omega;simp(maxSteps:=2000000) only[Ty.w,simprocAttr,g1,g2,g3,k7,k8,o2,o2H,n2,t1,t2,hpr,hpc,hp1,hb])|apply zI)
          (simp(maxSteps:=2000000) only[Ty.w,simprocAttr,Ty.all,g1,g2,g3,Fm.cells])
          exact hpush
         |false=>
          rw[if_neg (by simp[isQ,n7,n8,k7,k8]),List.append_nil];replace Z:=U g1 (U g2 (U g3 (U k7 k8)));repeat'(first|refine G fun K J=>?_|refine uR Z ?_|refine uK ?_|refine uC1 Z ?_|(refine O J ?_;clear J)|apply zI)
          (simp(maxSteps:=2000000) only[Ty.w,simprocAttr,Ty.all,g1,g2,g3,Fm.cells])
          exact hI
       ·(try clear Z);clear hI g1 g2 g3;obtain⟨L1,hL1,hl1⟩: ∃ L1:List Sx,L0++(if isQ op=true then[listM (paramsW params)]else[])=L1∧L1.length≤2:=⟨_,rfl,by split<;>simp<;>omega⟩;rw[hL1];rw[fmWs_map];(try clear Z);clear hL1 hL0 hl0;rintro S h' ⟨g1,g2,g3,hI⟩;simp only[Fm.cells]at g1;have hrl: ∀ k,(L1++(kids.take k).map fmW).length≤1048578:=fun k=>(by simp;omega);replace Z:=U g1 (U g2 (U g3 hlK));(repeat'(first|refine G fun K J=>?_|refine a_block ?_|refine uR Z ?_|(refine O J ?_;clear J)|apply zI));refine a_loop (fun c S h'=>S 2= .ptr h.next 0 0∧S 3= .ptr (h.next+1) 0 0∧S 75= .imm 6 (Fm.rows kids)∧S 76= .sc (.int .i64 kids.length)∧ ∃ k:Nat,S 77= .sc (.int .i64 k)∧k≤kids.length∧c=kids.length-k∧WrI h (L1++(kids.take k).map fmW) h') kids.length ?_ ?_
        ·simp only[Ty.w,simprocAttr,g2,g3];refine⟨0,rfl,by omega,rfl,?_⟩;simpa using hI
        ·(try clear Z);clear hI g1 g2 g3;rintro c S h' ⟨g2,g3,g75,g76,k,g77,hk,rfl,hI⟩;by_cases hlt:k<kids.length
         ·have hdk:decide ((k:Int)<(kids.length:Int))=true:=(by simp;omega);have w7:IntKind.i64.wrap ((k:Int)+1)=k+1:=(by rw[wrap64 (by omega) (by omega)]);obtain⟨x,hx⟩: ∃ x,kids[k]? =some x:=⟨_,List.getElem?_eq_getElem hlt⟩;have hmem:=List.mem_of_getElem? hx;have hr:=Fm.rows_get hx;have hcx:=ih x hmem (hks x hmem) (hsk x hmem);have hL:L1++(kids.take (k+1)).map fmW=L1++(kids.take k).map fmW++[fmW x]:=(by rw[List.take_add_one,hx];simp);have hrk:=hrl k;generalize L1++(kids.take k).map fmW=L2 at hI hrk hL;obtain⟨hg,p,H,hn,o1,o2,tl,t1,t2,t3,t4,hgH,hpc,hp1⟩:=hI;generalize fmW x=X at hcx hL;obtain⟨xo,xn,xa,xp,xe,xk⟩:=x;obtain⟨ki,va,li,co,te,ks⟩:=X;simp only[Fm.cells,Sx.cells]at hr hcx;(try clear Z);clear t1 t2 t3 t4 hgH H;have hG2:Grow h ((h'.new (.arr 6 [[.sc (.string ⟨#[]⟩),.sc (.string ⟨#[]⟩),.sc (.slice none 0 0),.sc (.slice none 0 0),.sc (.slice none 0 0),.sc (.slice none 0 0)]])).set h'.next (.arr 6 [[sPV xo,sPV xn,.imm 1 (strRows xa),.imm 2 (pmRows xp),.imm 5 (Ex.rows xe),.imm 6 (Fm.rows xk)]])):=(hg.new _).set hg.le _;have m1:¬ h.next=h'.next:=by omega
          have m2:¬ h.next+1=h'.next:=by omega
          have m2':(h.next+1=h'.next)=False:=eq_false m2;have tl2:=tl.up (h':=((h'.new (.arr 6 [[.sc (.string ⟨#[]⟩),.sc (.string ⟨#[]⟩),.sc (.slice none 0 0),.sc (.slice none 0 0),.sc (.slice none 0 0),.sc (.slice none 0 0)]])).set h'.next (.arr 6 [[sPV xo,sPV xn,.imm 1 (strRows xa),.imm 2 (pmRows xp),.imm 5 (Ex.rows xe),.imm 6 (Fm.rows xk)]]))) (by simp[Heap.set,Heap.new]) fun j _ hj=>(by simp only[Heap.set,Heap.new];rw[if_neg (by omega),if_neg (by omega)]);obtain⟨H,t1,t2,t3,t4,t5⟩:=tl2.tail;have hgH:=t5 h ⟨hG2.le,hG2.old⟩ (by omega);have o1x:((h'.new (.arr 6 [[.sc (.string ⟨#[]⟩),.sc (.string ⟨#[]⟩),.sc (.slice none 0 0),.sc (.slice none 0 0),.sc (.slice none 0 0),.sc (.slice none 0 0)]])).set h'.next (.arr 6 [[sPV xo,sPV xn,.imm 1 (strRows xa),.imm 2 (pmRows xp),.imm 5 (Ex.rows xe),.imm 6 (Fm.rows xk)]])).obj h.next=some (.arr 6 [[.sc (.int .i64 0),.sc (.int .i64 0),.sc (.int .i64 0),.sc (.int .i64 0),.sc (.string ⟨#[]⟩),.sc (.slice none 0 0)]]):=by simp only[Heap.set,Heap.new,m1,if_false];exact o1
          have o2H:H.obj (h.next+1)=_:=(t4 _ (by omega)).trans (show((h'.new (.arr 6 [[.sc (.string ⟨#[]⟩),.sc (.string ⟨#[]⟩),.sc (.slice none 0 0),.sc (.slice none 0 0),.sc (.slice none 0 0),.sc (.slice none 0 0)]])).set h'.next (.arr 6 [[sPV xo,sPV xn,.imm 1 (strRows xa),.imm 2 (pmRows xp),.imm 5 (Ex.rows xe),.imm 6 (Fm.rows xk)]])).obj (h.next+1)=_ by simp only[Heap.set,Heap.new,m2,if_false];exact o2);have t3':H.next=h'.next+1:=by rw[t3];simp[Heap.new,Heap.set]
          have n2:(h.next+1=H.next)=False:=(by simp;omega);have hpr:=Sx.rows_len L2;have hpush:=WrI.push (h':=((h'.new (.arr 6 [[.sc (.string ⟨#[]⟩),.sc (.string ⟨#[]⟩),.sc (.slice none 0 0),.sc (.slice none 0 0),.sc (.slice none 0 0),.sc (.slice none 0 0)]])).set h'.next (.arr 6 [[sPV xo,sPV xn,.imm 1 (strRows xa),.imm 2 (pmRows xp),.imm 5 (Ex.rows xe),.imm 6 (Fm.rows xk)]]))) (L:=L2) (X:= .mk ki va li co te ks) (m:=L2.length+1) (by simp only[Heap.set,Heap.new];omega) o1x t3 t4 ⟨hgH.1,hgH.2⟩ rfl;have hb:(L2.length+1)*72≤140737488355328:=(by omega);simp only[Sx.cells]at hpush;(try clear Z);clear tl tl2 t5;generalize Sx.rows L2=R at t1 hpr hpush;replace Z:=U g2 (U g3 (U g75 (U g76 (U g77 (U hdk (U hr (U m2' (U o2 (U o2H (U n2 (U t1 (U t2 (U hpr (U hpc (U hp1 hb)))))))))))))));(repeat'(first|refine G fun K J=>?_|refine uR Z ?_|refine uE Z fun K J=>?_|refine uK ?_|refine uC1 Z ?_|(refine O J ?_;clear J)|apply zI));replace Z:=U g2 (U g3 (U g75 (U g76 (U g77 (U m2' (U o2 o2H))))));(first|refine uV Z (hcx _) ?_|refine uA Z (hcx _) ?_);replace Z:=U g2 (U g3 (U g75 (U g76 (U g77 (U w7 (U m2' (U o2 (U o2H (U n2 (U t1 (U t2 (U hpr (U hpc (U hp1 hb))))))))))))));(repeat'(first|refine uR Z ?_|(refine O J ?_;clear J)|refine uB Z ?_|(rw[if_pos];rotate_left 1;omega;simp(maxSteps:=2000000) only[Ty.w,simprocAttr,g2,g3,g75,g76,g77,w7,m2',o2,o2H,n2,t1,t2,hpr,hpc,hp1,hb])|apply zI));exact⟨kids.length-(k+1),by omega,k+1,by simp,by omega,rfl,by rw[hL];exact hpush⟩
         ·have hdk:decide ((k:Int)<(kids.length:Int))=false:=(by simp;omega);have hke:k=kids.length:=(by omega);subst hke;rw[List.take_length]at hI;obtain⟨hg,p,H,hn,o1,o2,tl,t1,t2,t3,t4,hgH,hpc,hp1⟩:=hI;replace Z:=U g2 (U g3 (U g75 (U g76 (U g77 (U hdk (U o1 (U o2 hpc)))))));(repeat'(first|refine G fun K J=>?_|refine uR Z ?_|refine uT Z ?_|refine uX ?_|refine uC1 Z ?_|(refine O J ?_;clear J)|(clear J;refine O J ?_;clear J)|(rw[if_pos];rotate_left 1;omega;simp(maxSteps:=2000000) only[Ty.w,simprocAttr,g2,g3,g75,g76,g77,hdk,o1,o2,hpc])|apply zI));refine⟨?_,hg.set (Nat.le_refl _) _⟩;have tl2:Tl (h'.set h.next (.arr 6 [[.sc (.int .i64 3),.sc (.int .i64 0),.sc (.int .i64 0),.sc (.int .i64 0),.sc (.string ⟨#[]⟩),p]])) (h.next+2) 6 p (Sx.rows (L1++kids.map fmW)):=tl.up (Nat.le_refl _) fun j hj _=>(by simp only[Heap.set];rw[if_neg (by omega)]);simp only[listM,Sx.cells,FrzTo,FrzL];exact⟨_,rfl,rfl,rfl,rfl,rfl,rfl,by have:=tl_frzX (Tl.low tl2 (show h.next≤h.next+2 by omega));simpa only[FrzTo]using this,trivial⟩
theorem paramsW_ok: ∀ l:List Pm,(∀ p∈l,p.ok)→Sx.oks (paramsW l)
 |[],_=>by simp[paramsW,Sx.oks]
 |p::l,h=>by
  have hp:=h p (by simp);simp only[paramsW,Sx.oks];exact⟨wordM_ok hp.1,wordM_ok (by simp[bigN,ByteArray.size]),wordM_ok hp.2,paramsW_ok l fun q hq=>h q (by simp[hq])⟩
theorem parts_cmp{op name:ByteArray}{args:List ByteArray}{params:List Pm}{ne nk:Nat}(h1:¬ bEq op opAtom=true)(h2:¬ bEq op opSame=true)(h3:isCmp op=true)(hp:partsOk op name args params ne nk=true):ne=2:=by
 unfold partsOk shapeOf at hp;rw[if_neg h1,if_neg h2]at hp;simp only[isCmp,Bool.or_eq_true]at h3;by_cases k1:bEq op opLt=true
 ·simp [k1]at hp;omega
 by_cases k2:bEq op opLe=true
 ·simp [k1,k2]at hp;omega
 have k3:bEq op opEq=true:=by rcases h3 with(h3|h3)|h3<;>simp_all
 simp[k1,k2,k3]at hp;omega
theorem fmW_ok: ∀ f:Fm,f.ok→f.small→shapedF f=true→(fmW f).ok:=by
 refine Fm.ind ?_;intro op name args params exprs kids ih hok hsm hsh;simp only[Fm.ok]at hok;simp only[Fm.small]at hsm;simp only[shapedF,Bool.and_eq_true]at hsh;obtain⟨⟨hpo,_⟩,hsh⟩:=hsh;rw[shapedFs_iff]at hsh;obtain⟨hop,hname,hargs,⟨_,hps⟩,⟨_,hes⟩,_,hks⟩:=hok;obtain⟨hal,hpl,hse,hkl,hsk⟩:=hsm;rw[Fm.oks_iff]at hks;rw[Ex.oks_iff]at hes;have hse:=Ex.smalls_iff.1 hse;have hsk:=Fm.smalls_iff.1 hsk;unfold fmW;split
 ·exact wordsM_ok hname hal hargs.2
 split
 ·exact wordsM_ok (by simp[opEq,bigN,ByteArray.size]) hal hargs.2
 split
 ·rename_i c1 c2 c3;have h2:=parts_cmp c1 c2 c3 hpo;refine listM_ok (by simp only[List.length_cons,List.length_map];unfold bigN;omega) (Sx.oks_iff.2 ?_);intro k hk;simp only[List.mem_cons,List.mem_map]at hk;rcases hk with rfl|⟨e,he,rfl⟩
  ·exact wordM_ok hop
  ·exact exW_ok e (hes e he) (hse e he)
 ·rw [fmWs_map];refine listM_ok ?_ (Sx.oks_iff.2 ?_)
  ·simp only[List.length_append,List.length_map];have a1:(if(bEq op opAnd&&kids.isEmpty)=true then[]else[wordM op]).length≤1:=(by split<;>simp);have a2:(if isQ op=true then[listM (paramsW params)]else[]).length≤1:=(by split<;>simp);unfold bigN;omega
  ·intro k hk;simp only[List.mem_append,List.mem_map]at hk;rcases hk with(hk|hk)|⟨e,he,rfl⟩
   ·split at hk
    ·simp at hk
    ·simp only[List.mem_singleton]at hk;subst hk;exact wordM_ok hop
   ·split at hk
    ·simp only[List.mem_singleton]at hk;subst hk;exact listM_ok (by rw[paramsW_len];unfold bigN;omega) (paramsW_ok _ hps)
    ·simp at hk
   ·exact ih e he (hks e he) (hsk e he) (hsh e he)
theorem formedMs_shaped: ∀ (l:List Ex)(d n:Nat),(formedMs l d n).1=true→ ∀ e∈l,shapedE e=true
 |[],_,_,_=>by simp
 |e::l,d,n,h=>by
  unfold formedMs at h;have h1:=formedM_shaped e d n;split at h
  ·rename_i c he;rw[he]at h1;intro x hx;rcases List.mem_cons.1 hx with rfl|hx
   ·exact h1 rfl
   ·exact formedMs_shaped l d c h x hx
  ·simp at h
mutual
theorem shapedM_F: ∀ (f:Fm)(d n:Nat),(shapedM f d n).1=true→shapedF f=true
 | .mk op name args params exprs kids,d,n,h=>by
  unfold shapedM at h;split at h
  ·split at h
   ·rename_i hp;have h1:=formedMs_shaped exprs (d+1) (n+1);split at h
    ·rename_i c he;rw[he]at h1;simp only[shapedF,Bool.and_eq_true,List.all_eq_true];exact⟨⟨hp,h1 rfl⟩,shapedMs_F kids (d+1) c h⟩
    ·simp at h
   ·simp at h
  ·simp at h
theorem shapedMs_F: ∀ (l:List Fm)(d n:Nat),(shapedMs l d n).1=true→shapedFs l=true
 |[],_,_,_=>by simp[shapedFs]
 |k::l,d,n,h=>by
  unfold shapedMs at h;have h1:=shapedM_F k d n;split at h
  ·rename_i c he;rw[he]at h1;simp only[shapedFs,Bool.and_eq_true];exact⟨h1 rfl,shapedMs_F l d c h⟩
  ·simp at h
end
theorem fvalid_c{f:Fm}(hok:f.ok)(hsm:f.small)(h:Heap):PCall Tryz.prog 161 [.agg f.cells] h fun r h'=>r= .sc (.bool (validF f))∧h'=h:=by
 have hf:=shaped_c f hok 0 0 (by omega) (by omega) h.next (h.new (.arr 1 [[.sc (.int .i64 0)]])) (by simp[Heap.new,cntO])
 have hsh:=shapedM_F f 0 0;have hx:=fmW_ok f hok hsm;have hw0:=write_c f hsm;have hv:validF f=((shapedM f 0 0).1&&(svalid (fmW f) 0 0).1):=rfl;rw[hv];refine PCall.quiet Ty.hb_161 ?_;generalize shapedM f 0 0=V at hf hsh⊢;obtain⟨b,c⟩:=V;cases b with
 |false=>
  obtain⟨op,name,args,params,exprs,kids⟩:=f;simp only[Fm.cells,Int.natCast_zero]at hf⊢;refine uG (ow:=fun t=>t==5) (wf:=fun _=>false) Tryz.func161 Tryz.ntmps161 Tryz.results161 Ty.hb_161 ?_;repeat'(first|refine G fun K J=>?_|refine uR trivial ?_|(refine O J ?_;clear J)|apply zI)
  refine owp_useH (hf) (by(try simp only[Ty.w,simprocAttr]);try rfl) ?_;simp(maxSteps:=2000000) only[Ty.w,simprocAttr];repeat'(first|refine uT trivial ?_|(refine O J ?_;clear J)|apply zI)
  exact((Grow.refl h).new _).set (Nat.le_refl _) _
 |true=>
  have hw:=hw0 (hsh rfl);have hvv:=svalid_c (hx (hsh rfl));try clear Z
  clear hw0;generalize fmW f=X at hw hvv⊢;obtain⟨op,name,args,params,exprs,kids⟩:=f;obtain⟨ki,va,li,co,te,ks⟩:=X;simp only[Fm.cells,Sx.cells,Int.natCast_zero]at hf hw hvv⊢;refine uG (ow:=fun t=>t==5) (wf:=fun _=>false) Tryz.func161 Tryz.ntmps161 Tryz.results161 Ty.hb_161 ?_;repeat'(first|refine G fun K J=>?_|refine uR trivial ?_|(refine O J ?_;clear J)|apply zI)
  refine owp_useH (hf) (by(try simp only[Ty.w,simprocAttr]);try rfl) ?_;simp(maxSteps:=2000000) only[Ty.w,simprocAttr];try apply zI
  refine uU trivial (hw _) ?_;try apply zI
  refine uU trivial (hvv _) ?_;repeat'(first|refine uT trivial ?_|(refine O J ?_;clear J)|apply zI)
  exact((Grow.refl h).new _).set (Nat.le_refl _) _
theorem fWrite_c{f:Fm}(hok:f.ok)(hsm:f.small)(h:Heap):PCall Tryz.prog 141 [.agg f.cells] h fun r h'=>r=(if validF f then .tup [.agg (fmW f).cells,.sc .nilIface]else .tup [.agg zeroSx.cells,errV 2])∧h'=h:=by
 have hv:=fvalid_c hok hsm;refine PCall.frz Ty.hb_141 ?_;cases hb:validF f with
 |false=>
  rw[hb]at hv;obtain⟨op,name,args,params,exprs,kids⟩:=f;simp only[Fm.cells,Bool.false_eq_true,if_false]at hv⊢;refine uG0 Tryz.func141 Tryz.ntmps141 Tryz.results141 Ty.hb_141 ?_;repeat'(first|refine G fun K J=>?_|refine uR trivial ?_|(refine O J ?_;clear J)|apply zI)
  refine uU @Bool.not_false (hv _) ?_;repeat'(first|refine G fun K J=>?_|refine uR @Bool.not_false ?_|refine uT @Bool.not_false ?_|(refine O J ?_;clear J)|apply zI)
  refine⟨?_,((Grow.refl h).new _).set (Nat.le_refl _) _⟩;simp only[zeroSx,errV,Sx.cells,Sx.rows,FrzTo,FrzL];exact⟨_,rfl,⟨_,rfl,rfl,rfl,rfl,rfl,rfl,.inr (.inl ⟨rfl,.inr rfl⟩),trivial⟩,rfl,trivial⟩
 |true=>
  rw[hb]at hv;have hsh:=shapedM_F f 0 0 (by unfold validF at hb;simp only[Bool.and_eq_true]at hb;exact hb.1);have hw:=write_c f hsm hsh;have hfz:=fun(n:Nat)(h:Heap)=>sx_frz n h (fmW f);generalize fmW f=X at hw hfz⊢;obtain⟨op,name,args,params,exprs,kids⟩:=f;obtain⟨ki,va,li,co,te,ks⟩:=X;simp only[Fm.cells,Sx.cells,if_true]at hv hw hfz⊢;refine uG0 Tryz.func141 Tryz.ntmps141 Tryz.results141 Ty.hb_141 ?_;repeat'(first|refine G fun K J=>?_|refine uR trivial ?_|(refine O J ?_;clear J)|apply zI)
  refine uU @Bool.not_true (hv _) ?_;repeat'(first|refine G fun K J=>?_|refine uR @Bool.not_true ?_|refine uK ?_|refine uC1 @Bool.not_true ?_|(refine O J ?_;clear J)|apply zI)
  refine uU trivial (hw _) ?_;repeat'(first|refine uT trivial ?_|(refine O J ?_;clear J)|apply zI)
  refine⟨?_,((Grow.refl h).new _).set (Nat.le_refl _) _⟩;simp only[FrzTo,FrzL];exact⟨_,rfl,⟨_,rfl,hfz _ _⟩,rfl,trivial⟩
end Go.Proofs.YtblgchkahpgdjaaGreat
namespace Go.Proofs.YtblgchkahpgdjaaGreat
open Go.AM
set_option maxHeartbeats 2000000
set_option maxRecDepth 20000
def kindOf:Sx→Int
 | .mk k _ _ _ _ _=>k
def textOf:Sx→ByteArray
 | .mk _ _ _ _ t _=>t
def headM:Sx→Option (ByteArray × List Sx)
 | .mk kind _ _ _ _ kids=>if kind=3 then(match kids with
  |x::rest=>bif kindOf x==1 then some (textOf x,rest)else none
  |[]=>none)else none
def headV:Option (ByteArray × List Sx)→PV
 |some (t,l)=> .tup [sPV t,.imm 6 (Sx.rows l),.sc (.bool true)]
 |none=> .tup [sPV ⟨#[]⟩,.sc (.slice none 0 0),.sc (.bool false)]
theorem head_c{x:Sx}(hok:x.ok)(h:Heap):PCall Tryz.prog 179 [.agg x.cells] h fun r h'=>r=headV (headM x)∧h'=h:=by
 obtain⟨kind,value,line,col,text,kids⟩:=x;simp only[Sx.ok]at hok;obtain⟨_,_,_,hk,_⟩:=hok;generalize hF:headM (.mk kind value line col text kids)=F;simp only[headM]at hF;simp only[Sx.cells];have hlen:=Sx.rows_len kids;cases k3:(kind !=3)with
 |true=>
  rw[if_neg (by simpa using k3)]at hF;subst hF;refine uG0 Tryz.func179 Tryz.ntmps179 Tryz.results179 Ty.hb_179 ?_;repeat'(first|refine G fun K J=>?_|refine uR k3 ?_|refine uT k3 ?_|(refine O J ?_;clear J)|apply zI)
  all_goals rfl
 |false=>
  rw[if_pos (by simpa using k3)]at hF;cases kids with
  |nil=>
   simp only at hF;subst hF;have q:(((Sx.rows []).length:Int)==0)=true:=rfl;generalize Sx.rows []=R at q hlen;refine uG0 Tryz.func179 Tryz.ntmps179 Tryz.results179 Ty.hb_179 ?_;replace Z:=U k3 q;(repeat'(first|refine G fun K J=>?_|refine uR Z ?_|refine uT Z ?_|(refine O J ?_;clear J)|apply zI));all_goals rfl
  |cons y rest=>
   simp only at hF;have q:(((Sx.rows (y::rest)).length:Int)==0)=false:=(by rw[hlen];simp;omega);have r0:=Sx.rows_get (l:=y::rest) (i:=0) rfl;have q1:(1:Int)≤((Sx.rows (y::rest)).length:Int):=(by rw[hlen];simp;omega);have ht:List.take (((Sx.rows (y::rest)).length:Int)-1).toNat (List.drop 1 (Sx.rows (y::rest)))=Sx.rows rest:=by
    simp only[Sx.rows,List.drop_succ_cons,List.drop_zero,List.length_cons];rw[List.take_of_length_le (by omega)]
   generalize Sx.rows (y::rest)=R at q r0 q1 ht hlen⊢;obtain⟨ki,va,li,co,te,ks⟩:=y;simp only[Sx.cells,kindOf,textOf]at r0 hF;cases k1:(ki !=1)with
   |true=>
    rw[show(ki==1)=false by simpa using k1]at hF;simp only[cond_false]at hF;subst hF;refine uG0 Tryz.func179 Tryz.ntmps179 Tryz.results179 Ty.hb_179 ?_;replace Z:=U k3 (U q (U r0 k1));(repeat'(first|refine G fun K J=>?_|refine uR Z ?_|refine uT Z ?_|(refine O J ?_;clear J)|apply zI));all_goals rfl
   |false=>
    rw[show(ki==1)=true by simpa using k1]at hF;simp only[cond_true]at hF;subst hF;refine uG0 Tryz.func179 Tryz.ntmps179 Tryz.results179 Ty.hb_179 ?_;replace Z:=U k3 (U q (U r0 (U k1 (U q1 (U ht (U @Int.le_refl @Int.toNat_one))))));(repeat'(first|refine G fun K J=>?_|refine uR Z ?_|refine uD Z ?_|refine uT Z ?_|refine uK ?_|refine uC1 Z ?_|(refine O J ?_;clear J)|apply zI));all_goals rfl
def termsM:List Sx→List ByteArray × Int
 |[]=>([],0)
 |x::l=>bif kindOf x==1 then(bif termB (textOf x)then(match termsM l with
  |(t,c)=>bif c==0 then(textOf x::t,0)else([],c))else([],8))else([],2)
def errP(c:Int):PV:=bif c==0 then .sc .nilIface else errV c
theorem termsM_code: ∀ l:List Sx,(termsM l).2=0∨((termsM l).1=[]∧((termsM l).2=2∨(termsM l).2=8))
 |[]=> .inl rfl
 |x::l=>by
  have:=termsM_code l;simp only[termsM];cases kindOf x==1 with
  |false=>simp
  |true=>
   cases termB (textOf x)with
   |false=>simp
   |true=>
    simp only[cond_true];cases hq:(termsM l).2==0 with
    |false=>
     rcases this with h|h
     ·rw [h]at hq;simp at hq
     ·simp only[cond_false,true_and];exact .inr h.2
    |true=>simp
theorem tl_frzS{h:Heap}{id0:Nat}{p:PV}{l:List ByteArray}(t:Tl h id0 1 p (strRows l)):FrzTo id0 h (.imm 1 (strRows l)) p:=t.frz fun r hr p hp=>by
 simp only[strRows,List.mem_map]at hr;obtain⟨s,_,rfl⟩:=hr;simp only[List.mem_singleton]at hp;exact⟨_,hp⟩
theorem terms_c{l:List Sx}(hl:l.length≤1048576)(hok: ∀ x∈l,x.ok)(h:Heap):PCall Tryz.prog 180 [.imm 6 (Sx.rows l)] h fun r h'=>r= .tup [.imm 1 (strRows (termsM l).1),errP (termsM l).2]∧h'=h:=by
 refine PCall.frz Ty.hb_180 ?_;have hll:=Sx.rows_len l;refine uG0 Tryz.func180 Tryz.ntmps180 Tryz.results180 Ty.hb_180 ?_;repeat'(first|refine G fun K J=>?_|refine a_block ?_|refine uR hll ?_|(refine O J ?_;clear J)|apply zI)
 refine a_loop (fun m S h'=>S 7= .imm 6 (Sx.rows l)∧S 8= .sc (.int .i64 l.length)∧ ∃ (k:Nat)(o:PV)(pre:List ByteArray),S 9= .sc (.int .i64 k)∧S 4=o∧k≤l.length∧m=l.length-k∧Grow h h'∧pre.length=k∧Tl h' h.next 1 o (strRows pre)∧
  termsM l=(match termsM (l.drop k)with|(t,c)=>bif c==0 then(pre++t,0)else([],c))) l.length ?_ ?_
 ·simp only[Ty.w,simprocAttr];refine⟨0,_,[],rfl,rfl,by omega,rfl,Grow.refl _,rfl,Tl.nil,?_⟩;have:=termsM_code l;rw[List.drop_zero];cases hq:(termsM l).2==0
  ·rcases this with h|h
   ·rw [h]at hq;simp at hq
   ·simp only[hq,cond_false];rw[← h.1]
  ·have h0:(termsM l).2=0:=(by simpa using hq);simp only[hq,cond_true,List.nil_append];rw[← h0]
 ·rintro m S h' ⟨g7,g8,k,o,pre,g9,g4,hk,rfl,hg,hpl,tl,hinv⟩;by_cases hlt:k<l.length
  ·have hd:decide ((k:Int)<(l.length:Int))=true:=(by simp;omega);have w7:IntKind.i64.wrap ((k:Int)+1)=k+1:=(by rw[wrap64 (by omega) (by omega)]);obtain⟨x,hx⟩: ∃ x,l[k]? =some x:=⟨_,List.getElem?_eq_getElem hlt⟩;have hr:=Sx.rows_get hx;have hxk:=hok x (List.mem_of_getElem? hx);rw[drop_of_get hx]at hinv;simp only[termsM]at hinv;obtain⟨ki,va,li,co,te,ks⟩:=x;simp only[Sx.ok]at hxk;obtain⟨_,_,hte,_⟩:=hxk;simp only[Sx.cells]at hr;simp only[kindOf,textOf]at hinv;have nz: ∀ id,id<h'.next→(id=h'.next)=False:=fun id hi=>by simp;omega
   have tl2:=tl.up (h':=(h'.new (.arr 6 [[.sc (.int .i64 0),.sc (.int .i64 0),.sc (.int .i64 0),.sc (.int .i64 0),.sc (.string ⟨#[]⟩),.sc (.slice none 0 0)]])).set h'.next (.arr 6 [[.sc (.int .i64 ki),.sc (.int .i64 va),.sc (.int .i64 li),.sc (.int .i64 co),sPV te,.imm 6 (Sx.rows ks)]])) (by simp[Heap.new,Heap.set]) (fun j _ hj=>by simp only[Heap.new,Heap.set];rw[if_neg (by omega),if_neg (by omega)]);have hg2:Grow h ((h'.new (.arr 6 [[.sc (.int .i64 0),.sc (.int .i64 0),.sc (.int .i64 0),.sc (.int .i64 0),.sc (.string ⟨#[]⟩),.sc (.slice none 0 0)]])).set h'.next (.arr 6 [[.sc (.int .i64 ki),.sc (.int .i64 va),.sc (.int .i64 li),.sc (.int .i64 co),sPV te,.imm 6 (Sx.rows ks)]])):=(hg.new _).set hg.le _;cases q1:(ki !=1)with
   |true=>
    rw[show(ki==1)=false by simpa using q1]at hinv;simp only[cond_false]at hinv;replace Z:=U g7 (U g8 (U g9 (U g4 (U hd (U hr q1)))));(repeat'(first|refine G fun K J=>?_|refine uR Z ?_|refine uT Z ?_|refine uK ?_|refine uC1 Z ?_|(refine O J ?_;clear J)|apply zI));have e:termsM l=([],2):=hinv;have e2:errP 2=errV 2:=rfl;rw[e,e2];refine⟨?_,hg2⟩;simp only[errV,FrzTo,FrzL];exact⟨_,rfl,.inr (.inl ⟨rfl,.inr rfl⟩),rfl,trivial⟩
   |false=>
    rw[show(ki==1)=true by simpa using q1]at hinv;simp only[cond_true]at hinv;have hc:=fun h:Heap=>term_c (h:=h) hte;generalize termB te=b at hc hinv;cases b with
    |false=>
     simp only[cond_false]at hinv;replace Z:=U g7 (U g8 (U g9 (U g4 (U hd (U hr q1)))));(repeat'(first|refine G fun K J=>?_|refine uR Z ?_|refine uK ?_|refine uC1 Z ?_|(refine O J ?_;clear J)|apply zI));replace Z:=U g7 (U g8 (U g9 (U g4 (U hd (U hr (U q1 @Bool.not_false))))));refine uU Z (hc _) ?_;replace Z:=U g7 (U g8 (U g9 (U g4 @Bool.not_false)));(repeat'(first|refine G fun K J=>?_|refine uR Z ?_|refine uT Z ?_|(refine O J ?_;clear J)|apply zI));have e:termsM l=([],8):=hinv;have e2:errP 8=errV 8:=rfl;rw[e,e2];refine⟨?_,hg2⟩;simp only[errV,FrzTo,FrzL];exact⟨_,rfl,.inr (.inl ⟨rfl,.inr rfl⟩),rfl,trivial⟩
    |true=>
     simp only[cond_true]at hinv;obtain⟨H,t1,t2,t3,t4,t5⟩:=tl2.tail;have hpr:(strRows pre).length=k:=(by rw[strRows_len];exact hpl);have hb:(k+1)*16≤140737488355328:=(by omega);replace Z:=U g7 (U g8 (U g9 (U g4 (U hd (U hr q1)))));(repeat'(first|refine G fun K J=>?_|refine uR Z ?_|refine uK ?_|refine uC1 Z ?_|(refine O J ?_;clear J)|apply zI));replace Z:=U g7 (U g8 (U g9 (U g4 (U hd (U hr (U q1 @Bool.not_true))))));refine uU Z (hc _) ?_;replace Z:=U g7 (U g8 (U g9 (U g4 (U w7 (U @Bool.not_true (U t1 (U t2 (U hpr hb))))))));(repeat'(first|refine uR Z ?_|refine uQ Z fun K J=>?_|refine uK ?_|refine uC1 Z ?_|(refine O J ?_;clear J)|(rw[if_pos];rotate_left 1;omega;simp(maxSteps:=2000000) only[Ty.w,simprocAttr,g7,g8,g9,g4,w7,Bool.not_true,t1,t2,hpr,hb])|apply zI));have t3':H.next=h'.next+1:=by rw[t3];simp[Heap.new,Heap.set]
     have hkp:=t5 h ⟨hg2.le,hg2.old⟩ (Nat.le_refl _);have hgH:Grow h H:=⟨hkp.1,hkp.2⟩;have hap:strRows pre++[[PV.sc (.string te)]]=strRows (pre++[te]):=(by simp[strRows]);rw[hap];refine⟨l.length-(k+1),by omega,k+1,.own H.next 0 (k+1),pre++[te],by simp,by rw[t3'],by omega,rfl,hgH.new _,by simp[hpl],Tl.grow hkp.1 (by rw[strRows_len];simp[hpl]),?_⟩;rw[hinv];generalize termsM (List.drop (k+1) l)=W;obtain⟨t,c⟩:=W;cases hq:c==0 with
     |false=>simp only[hq,cond_false]
     |true=>simp only[hq,cond_true,beq_self_eq_true,List.append_assoc,List.cons_append,List.nil_append]
  ·have hd:decide ((k:Int)<(l.length:Int))=false:=(by simp;omega);rw[List.drop_eq_nil_of_le (by omega)]at hinv;simp only[termsM,beq_self_eq_true,cond_true,List.append_nil]at hinv;replace Z:=U g7 (U g8 (U g9 (U g4 hd)));(repeat'(first|refine G fun K J=>?_|refine uR Z ?_|refine uT Z ?_|refine uX ?_|refine uC1 Z ?_|(refine O J ?_;clear J)|(clear J;refine O J ?_;clear J)|apply zI));have e:termsM l=(pre,0):=hinv;have e2:errP 0= .sc .nilIface:=rfl;rw[e,e2];refine⟨?_,hg⟩;have h1:=tl_frzS tl;unfold FrzTo;refine⟨_,rfl,?_⟩;unfold FrzL;refine⟨h1,?_⟩;unfold FrzL;exact⟨by simp only[FrzTo],by simp only[FrzL]⟩
end Go.Proofs.YtblgchkahpgdjaaGreat
namespace Go.Proofs.YtblgchkahpgdjaaGreat
open Go.AM
set_option maxHeartbeats 2000000
set_option maxRecDepth 20000
def countW(op:ByteArray):Int:=
 if(op.data.toList==(#[110,111,116]:Array UInt8).toList)then 1
 else if(op.data.toList==(#[105,109,112,108,121]:Array UInt8).toList)then 2
 else if(op.data.toList==(#[102,111,114,97,108,108]:Array UInt8).toList)then 2
 else if(op.data.toList==(#[101,120,105,115,116,115]:Array UInt8).toList)then 2
 else if(op.data.toList==(#[61]:Array UInt8).toList)then 2
 else if(op.data.toList==(#[60]:Array UInt8).toList)then 2
 else if(op.data.toList==(#[60,61]:Array UInt8).toList)then 2
 else if(op.data.toList==(#[62]:Array UInt8).toList)then 2
 else if(op.data.toList==(#[62,61]:Array UInt8).toList)then 2
 else-1
theorem count_c{h:Heap}{op:ByteArray}:PCall Tryz.prog 181 [sPV op] h fun r h'=>r= .sc (.int .i64 (countW op))∧h'=h:=by
 generalize hF:countW op=F;unfold countW at hF;cases c0:(op.data.toList==(#[110,111,116]:Array UInt8).toList)with
 |true=>
  rw[c0]at hF;simp only[if_true]at hF;subst hF;refine uG0 Tryz.func181 Tryz.ntmps181 Tryz.results181 Ty.hb_181 ?_;repeat'(first|refine G fun K J=>?_|refine uR c0 ?_|refine uT c0 ?_|(refine O J ?_;clear J)|apply zI)
 |false=>
  rw[c0]at hF;simp only[Bool.false_eq_true,if_false]at hF;cases c1:(op.data.toList==(#[105,109,112,108,121]:Array UInt8).toList)with
  |true=>
   rw[c1]at hF;simp only[if_true]at hF;subst hF;refine uG0 Tryz.func181 Tryz.ntmps181 Tryz.results181 Ty.hb_181 ?_;replace Z:=U c0 c1;repeat'(first|refine G fun K J=>?_|refine uR Z ?_|refine uT Z ?_|refine uK ?_|refine uC1 Z ?_|(refine O J ?_;clear J)|apply zI)
  |false=>
   rw[c1]at hF;simp only[Bool.false_eq_true,if_false]at hF;cases c2:(op.data.toList==(#[102,111,114,97,108,108]:Array UInt8).toList)with
   |true=>
    rw[c2]at hF;simp only[if_true]at hF;subst hF;refine uG0 Tryz.func181 Tryz.ntmps181 Tryz.results181 Ty.hb_181 ?_;replace Z:=U c0 (U c1 c2);repeat'(first|refine G fun K J=>?_|refine uR Z ?_|refine uT Z ?_|refine uK ?_|refine uC1 Z ?_|(refine O J ?_;clear J)|apply zI)
   |false=>
    rw[c2]at hF;simp only[Bool.false_eq_true,if_false]at hF;cases c3:(op.data.toList==(#[101,120,105,115,116,115]:Array UInt8).toList)with
    |true=>
     rw[c3]at hF;simp only[if_true]at hF;subst hF;refine uG0 Tryz.func181 Tryz.ntmps181 Tryz.results181 Ty.hb_181 ?_;replace Z:=U c0 (U c1 (U c2 c3));repeat'(first|refine G fun K J=>?_|refine uR Z ?_|refine uT Z ?_|refine uK ?_|refine uC1 Z ?_|(refine O J ?_;clear J)|apply zI)
    |false=>
     rw[c3]at hF;simp only[Bool.false_eq_true,if_false]at hF;cases c4:(op.data.toList==(#[61]:Array UInt8).toList)with
     |true=>
      rw[c4]at hF;simp only[if_true]at hF;subst hF;refine uG0 Tryz.func181 Tryz.ntmps181 Tryz.results181 Ty.hb_181 ?_;replace Z:=U c0 (U c1 (U c2 (U c3 c4)));repeat'(first|refine G fun K J=>?_|refine uR Z ?_|refine uT Z ?_|refine uK ?_|refine uC1 Z ?_|(refine O J ?_;clear J)|apply zI)
     |false=>
      rw[c4]at hF;simp only[Bool.false_eq_true,if_false]at hF;cases c5:(op.data.toList==(#[60]:Array UInt8).toList)with
      |true=>
       rw[c5]at hF;simp only[if_true]at hF;subst hF;refine uG0 Tryz.func181 Tryz.ntmps181 Tryz.results181 Ty.hb_181 ?_;replace Z:=U c0 (U c1 (U c2 (U c3 (U c4 c5))));repeat'(first|refine G fun K J=>?_|refine uR Z ?_|refine uT Z ?_|refine uK ?_|refine uC1 Z ?_|(refine O J ?_;clear J)|apply zI)
      |false=>
       rw[c5]at hF;simp only[Bool.false_eq_true,if_false]at hF;cases c6:(op.data.toList==(#[60,61]:Array UInt8).toList)with
       |true=>
        rw[c6]at hF;simp only[if_true]at hF;subst hF;refine uG0 Tryz.func181 Tryz.ntmps181 Tryz.results181 Ty.hb_181 ?_;replace Z:=U c0 (U c1 (U c2 (U c3 (U c4 (U c5 c6)))));repeat'(first|refine G fun K J=>?_|refine uR Z ?_|refine uT Z ?_|refine uK ?_|refine uC1 Z ?_|(refine O J ?_;clear J)|apply zI)
       |false=>
        rw[c6]at hF;simp only[Bool.false_eq_true,if_false]at hF;cases c7:(op.data.toList==(#[62]:Array UInt8).toList)with
        |true=>
         rw[c7]at hF;simp only[if_true]at hF;subst hF;refine uG0 Tryz.func181 Tryz.ntmps181 Tryz.results181 Ty.hb_181 ?_;replace Z:=U c0 (U c1 (U c2 (U c3 (U c4 (U c5 (U c6 c7))))));repeat'(first|refine G fun K J=>?_|refine uR Z ?_|refine uT Z ?_|refine uK ?_|refine uC1 Z ?_|(refine O J ?_;clear J)|apply zI)
        |false=>
         rw[c7]at hF;simp only[Bool.false_eq_true,if_false]at hF;cases c8:(op.data.toList==(#[62,61]:Array UInt8).toList)with
         |true=>
          rw[c8]at hF;simp only[if_true]at hF;subst hF;refine uG0 Tryz.func181 Tryz.ntmps181 Tryz.results181 Ty.hb_181 ?_;replace Z:=U c0 (U c1 (U c2 (U c3 (U c4 (U c5 (U c6 (U c7 c8)))))));repeat'(first|refine G fun K J=>?_|refine uR Z ?_|refine uT Z ?_|refine uC1 Z ?_|(refine O J ?_;clear J)|apply zI)
         |false=>
          rw[c8]at hF;simp only[Bool.false_eq_true,if_false]at hF;subst hF;refine uG0 Tryz.func181 Tryz.ntmps181 Tryz.results181 Ty.hb_181 ?_;replace Z:=U c0 (U c1 (U c2 (U c3 (U c4 (U c5 (U c6 (U c7 c8)))))));repeat'(first|refine G fun K J=>?_|refine a_block ?_|refine uR Z ?_|refine uT Z ?_|refine uK ?_|refine uC1 Z ?_|(refine O J ?_;clear J)|apply zI)
end Go.Proofs.YtblgchkahpgdjaaGreat
namespace Go.Proofs.YtblgchkahpgdjaaGreat
open Go.AM
def isPm(w:ByteArray):Bool:=bEq w opPls||bEq w opMin||bEq w opTim
def zeroEx:Ex:= .mk ⟨#[]⟩ ⟨#[]⟩ 0 [] []
def exprP:Sx→Ex × Int
 | .mk kind value _ _ _ kids=>
  if kind=2 then(.mk opNum ⟨#[]⟩ value [] [],0)
  else if kind=3 then(match kids with
   | x :: rest => bif kindOf x == 1 then
     (bif isPm (textOf x) then (match rest with
      |[a,b]=>(match exprP a with
       | (ea, ca) => bif ca == 0 then (match exprP b with
        |(eb,cb)=>bif cb==0 then(.mk (textOf x) ⟨#[]⟩ 0 [] [ea,eb],0)else(zeroEx,cb))else(zeroEx,ca))
      |_=>(zeroEx,2))
     else bif nameB (textOf x)then(match termsM rest with
      |(t,c)=>bif c==0 then(.mk opFlu (textOf x) 0 t [],0)else(zeroEx,c))else(zeroEx,8))
    else(zeroEx,2)
   |[]=>(zeroEx,2))else(zeroEx,2)
termination_by x=>SizeOf.sizeOf x
decreasing_by all_goals(simp_wf;omega)
theorem bEq_eq{a b:ByteArray}(h:bEq a b=true):a=b:=ba_ext (by simpa[bEq]using h)
theorem termsM_words: ∀ l:List ByteArray,l.all termB=true→termsM (l.map wordM)=(l,0)
 |[],_=>rfl
 |s::l,h=>by
  simp only[List.all_cons,Bool.and_eq_true]at h;have h1:kindOf (wordM s)=1:=rfl;have h2:textOf (wordM s)=s:=rfl;simp only[List.map_cons,termsM,h1,h2,h.1,termsM_words l h.2,beq_self_eq_true,cond_true]
theorem name_not_pm{s:ByteArray}(h:nameB s=true):isPm s=false:=by
 have hb:bytesOkB s.data.toList=true:=by
  unfold nameB at h;simp only[Bool.and_eq_true]at h;exact h.1.1.1
 have hn: ∀ c:UInt8,letB c=false→bEq s ⟨#[c]⟩=false:=by
  intro c hc;cases he:bEq s ⟨#[c]⟩with
  |false=>rfl
  |true=>
   have:=bEq_eq he;subst this;simp[bytesOkB,hc]at hb
 unfold isPm opPls opMin opTim;rw[hn 43 (by decide),hn 45 (by decide),hn 42 (by decide)];try rfl
theorem exprP_exW: ∀ e:Ex,shapedE e=true→exprP (exW e)=(e,0):=by
 refine Ex.ind ?_;intro op name v args kids ih hs;unfold shapedE at hs;unfold exW;cases c1:bEq op opNum with
 |true=>
  rw[c1]at hs;simp only[if_true,Bool.and_eq_true,List.isEmpty_iff]at hs⊢;obtain⟨⟨⟨h1,rfl⟩,rfl⟩,_⟩:=hs;have h2:=bEq_eq c1;have h3:name=⟨#[]⟩:=bEq_eq h1;subst h2;subst h3;unfold exprP;simp
 |false=>
  rw[c1]at hs;simp only[Bool.false_eq_true,if_false]at hs⊢;cases c2:bEq op opFlu with
  |true=>
   rw[c2]at hs;simp only[if_true,Bool.and_eq_true,List.isEmpty_iff,decide_eq_true_eq]at hs⊢;obtain⟨⟨⟨rfl,rfl⟩,h1⟩,h2⟩:=hs;have h3:=bEq_eq c2;subst h3;unfold exprP wordsM listM;have k1:kindOf (wordM name)=1:=rfl;have k2:textOf (wordM name)=name:=rfl;simp only[List.map_cons,k1,k2,name_not_pm h1,h1,termsM_words args h2,beq_self_eq_true,cond_true,cond_false];simp
  |false=>
   rw[c2]at hs;simp only[Bool.false_eq_true,if_false]at hs⊢;split at hs
   case isFalse=>simp at hs
   rename_i hop;simp only[Bool.and_eq_true,List.isEmpty_iff,decide_eq_true_eq]at hs;obtain⟨⟨⟨rfl,h1⟩,rfl⟩,h2⟩:=hs;split at h2
   case h_2=>simp at h2
   rename_i a b;simp only[Bool.and_eq_true]at h2;have h3:name=⟨#[]⟩:=bEq_eq h1;subst h3;unfold exprP listM;have k1:kindOf (wordM op)=1:=rfl;have k2:textOf (wordM op)=op:=rfl;have k3:isPm op=true:=hop;simp only[k1,k2,k3,ih a (by simp) h2.1,ih b (by simp) h2.2,beq_self_eq_true,cond_true];simp
end Go.Proofs.YtblgchkahpgdjaaGreat
namespace Go.Proofs.YtblgchkahpgdjaaGreat
open Go.AM
set_option maxHeartbeats 4000000
set_option maxRecDepth 20000
theorem exprP_head(x:Sx):exprP x=(bif kindOf x==2 then(match x with| .mk _ v _ _ _ _=>(.mk opNum ⟨#[]⟩ v [] [],0))else(match headM x with
  |none=>(zeroEx,2)
  |some (w,rest)=>bif isPm w then(match rest with
    |[a,b]=>(match exprP a with
     | (ea, ca) => bif ca == 0 then (match exprP b with
      |(eb,cb)=>bif cb==0 then(.mk w ⟨#[]⟩ 0 [] [ea,eb],0)else(zeroEx,cb))else(zeroEx,ca))
    |_=>(zeroEx,2))
   else bif nameB w then(match termsM rest with
    |(t,c)=>bif c==0 then(.mk opFlu w 0 t [],0)else(zeroEx,c))else(zeroEx,8))):=by
 obtain⟨kind,value,line,col,text,kids⟩:=x
 conv=>lhs;unfold exprP
 have kk:kindOf (.mk kind value line col text kids)=kind:=rfl;rw[kk];simp only[headM];cases h2:kind==2 with
 |true=>
  rw[if_pos (by simpa using h2)];try rfl
 |false=>
  rw[if_neg (by simpa using h2)];simp only[cond_false];by_cases h3:kind=3
  ·rw [if_pos h3,if_pos h3];cases kids with
   |nil=>rfl
   |cons y rest=>cases hk:kindOf y==1<;>simp only[hk,cond_true,cond_false]<;>rfl
  ·rw [if_neg h3,if_neg h3]
theorem headM_ok{x:Sx}{w:ByteArray}{rest:List Sx}(hok:x.ok)(h:headM x=some (w,rest)):w.size≤bigN∧ ∀ y∈rest,y.ok:=by
 obtain⟨kind,value,line,col,text,kids⟩:=x;simp only[Sx.ok]at hok;obtain⟨_,_,_,_,hks⟩:=hok;simp only[headM]at h;split at h
 ·cases kids with
  |nil=>simp at h
  |cons y r=>
   simp only[Sx.oks]at hks;simp only at h;cases hk:kindOf y==1 with
   |false=>rw[hk]at h;simp at h
   |true=>
    rw[hk]at h;simp only[cond_true,Option.some.injEq,Prod.mk.injEq]at h;obtain⟨rfl,rfl⟩:=h;refine⟨?_,Sx.oks_iff.1 hks.2⟩;obtain⟨_,_,_,_,t,_⟩:=y;simp only[Sx.ok]at hks;exact hks.1.2.2.1
 ·simp at h
theorem ex_in(n:Nat): ∀ e:Ex,inNL n e.cells:=by
 have hs: ∀ l:List ByteArray,inNR n (strRows l):=by
  intro l
  induction l with
  |nil=>simp only[strRows,List.map_nil,inNR]
  |cons a l ih=>simp only[strRows,List.map_cons,inNR,inNL,inN,and_true,true_and]at ih⊢;exact ih
 refine Ex.ind ?_;intro op name v args kids ih;have:inNR n (Ex.rows kids):=by
  try clear Z
  clear op name v args
  induction kids with
  |nil=>simp only[Ex.rows,inNR]
  |cons k ks ih2=>
   simp only[Ex.rows,inNR];exact⟨ih k (by simp),ih2 fun q hq=>ih q (by simp[hq])⟩
 simp only[Ex.cells,inNL,inN,and_true,true_and];exact⟨hs args,this⟩
theorem strs_in(n:Nat)(l:List ByteArray):inNR n (strRows l):=by
 induction l with
 |nil=>simp only[strRows,List.map_nil,inNR]
 |cons a l ih=>simp only[strRows,List.map_cons,inNR,inNL,inN,and_true,true_and]at ih⊢;exact ih
theorem expr_plain_c{x:Sx}(hok:x.ok)(hsm: ∀ w rest,headM x=some (w,rest)→rest.length≤1048576)(hpm:kindOf x=2∨ ∀ w rest,headM x=some (w,rest)→isPm w=false)(h:Heap):
  PCall Tryz.prog 168 [.agg x.cells] h fun r h'=>r= .tup [.agg (exprP x).1.cells,errP (exprP x).2]∧h'=h:=by
 refine PCall.frz Ty.hb_168 ?_;have hh:=head_c hok;have hX:=exprP_head x;generalize exprP x=F at hX;have hho:=fun w rest e=>headM_ok (w:=w) (rest:=rest) hok e;generalize headM x=M at hh hX hsm hpm hho;obtain⟨kind,value,line,col,text,kids⟩:=x;have kk:kindOf (.mk kind value line col text kids)=kind:=rfl;rw[kk]at hX hpm;simp only[Sx.cells]at hh⊢;cases k2:(kind==2)with
 |true=>
  simp only[k2,cond_true]at hX;subst hX;refine uG0 Tryz.func168 Tryz.ntmps168 Tryz.results168 Ty.hb_168 ?_;repeat'(first|refine G fun K J=>?_|refine uR k2 ?_|refine uT k2 ?_|(refine O J ?_;clear J)|apply zI)
  refine⟨?_,((Grow.refl h).new _).set (Nat.le_refl _) _⟩;simp only[errP,beq_self_eq_true,cond_true,opNum,Ex.cells,Ex.rows,strRows,List.map_nil,FrzTo,FrzL];exact⟨_,rfl,⟨_,rfl,rfl,rfl,rfl,.inr (.inl ⟨rfl,.inr rfl⟩),.inr (.inl ⟨rfl,.inr rfl⟩),trivial⟩,rfl,trivial⟩
 |false=>
  have hk2:¬ kind=2:=by simpa using k2
  simp only[k2,cond_false]at hX;have hpm:=hpm.resolve_left hk2;cases M with
  |none=>
   simp only at hX;subst hX;simp only[headV]at hh;refine uG0 Tryz.func168 Tryz.ntmps168 Tryz.results168 Ty.hb_168 ?_;(repeat'(first|refine G fun K J=>?_|refine uR k2 ?_|refine uK ?_|refine uC1 k2 ?_|(refine O J ?_;clear J)|apply zI));refine uU (U k2 @Bool.not_false) (hh _) ?_;replace Z:=U k2 @Bool.not_false;(repeat'(first|refine G fun K J=>?_|refine uR Z ?_|refine uT Z ?_|(refine O J ?_;clear J)|apply zI));refine⟨?_,((Grow.refl h).new _).set (Nat.le_refl _) _⟩;have e2:errP 2=errV 2:=rfl;simp only[e2,errV,zeroEx,Ex.cells,Ex.rows,strRows,List.map_nil,FrzTo,FrzL];exact⟨_,rfl,⟨_,rfl,rfl,rfl,rfl,.inr (.inl ⟨rfl,.inr rfl⟩),.inr (.inl ⟨rfl,.inr rfl⟩),trivial⟩,rfl,trivial⟩
  |some wr=>
   obtain⟨w,rest⟩:=wr;have hp:=hpm w rest rfl;obtain⟨hw,hr⟩:=hho w rest rfl;have hl:=hsm w rest rfl;have hw':w.size≤9223372036854775807:=(by unfold bigN at hw;omega);simp only[hp,cond_false]at hX;simp only[headV]at hh;have hp':=hp;unfold isPm opPls opMin opTim bEq at hp';rw[Bool.or_eq_false_iff,Bool.or_eq_false_iff]at hp';obtain⟨⟨p1,p2⟩,p3⟩:=hp';have hn:=fun h:Heap=>fname_c (h:=h) hw';generalize nameB w=b at hn hX;cases b with
   |false=>
    simp only[cond_false]at hX;subst hX;refine uG0 Tryz.func168 Tryz.ntmps168 Tryz.results168 Ty.hb_168 ?_;(repeat'(first|refine G fun K J=>?_|refine uR k2 ?_|refine uK ?_|refine uC1 k2 ?_|(refine O J ?_;clear J)|apply zI));refine uU (U k2 @Bool.not_true) (hh _) ?_;replace Z:=U k2 (U p1 (U p2 (U p3 (U @Bool.not_true @Bool.not_false))));(repeat'(first|refine G fun K J=>?_|refine uR Z ?_|refine uK ?_|refine uC1 Z ?_|(refine O J ?_;clear J)|apply zI));refine uU (U k2 @Bool.not_false) (hn _) ?_;replace Z:=U k2 @Bool.not_false;(repeat'(first|refine G fun K J=>?_|refine uR Z ?_|refine uT Z ?_|(refine O J ?_;clear J)|apply zI));refine⟨?_,((Grow.refl h).new _).set (Nat.le_refl _) _⟩;have e2:errP 8=errV 8:=rfl;simp only[e2,errV,zeroEx,Ex.cells,Ex.rows,strRows,List.map_nil,FrzTo,FrzL];exact⟨_,rfl,⟨_,rfl,rfl,rfl,rfl,.inr (.inl ⟨rfl,.inr rfl⟩),.inr (.inl ⟨rfl,.inr rfl⟩),trivial⟩,rfl,trivial⟩
   |true=>
    simp only[cond_true]at hX;have ht:=terms_c hl hr;generalize termsM rest=T at ht hX;obtain⟨t,c⟩:=T;simp only at ht hX;cases hc:c==0 with
    |true=>
     rw[hc,cond_true]at hX;subst hX;have e0:errP c= .sc .nilIface:=(by simp only[errP,hc,cond_true]);rw[e0]at ht;refine uG0 Tryz.func168 Tryz.ntmps168 Tryz.results168 Ty.hb_168 ?_;(repeat'(first|refine G fun K J=>?_|refine uR k2 ?_|refine uK ?_|refine uC1 k2 ?_|(refine O J ?_;clear J)|apply zI));refine uU (U k2 @Bool.not_true) (hh _) ?_;replace Z:=U k2 (U p1 (U p2 (U p3 (U @Bool.not_true @Bool.not_false))));(repeat'(first|refine G fun K J=>?_|refine uR Z ?_|refine uK ?_|refine uC1 Z ?_|(refine O J ?_;clear J)|apply zI));refine uU (U k2 @Bool.not_true) (hn _) ?_;replace Z:=U k2 @Bool.not_true;(repeat'(first|refine G fun K J=>?_|refine uR Z ?_|refine uK ?_|refine uC1 Z ?_|(refine O J ?_;clear J)|apply zI));refine uU k2 (ht _) ?_;(repeat'(first|refine G fun K J=>?_|refine uR Z ?_|refine uT Z ?_|refine uK ?_|refine uC1 Z ?_|(refine O J ?_;clear J)|apply zI));refine⟨?_,((Grow.refl h).new _).set (Nat.le_refl _) _⟩;have e2:errP 0= .sc .nilIface:=rfl;rw[e2];simp only[opFlu,Ex.cells,Ex.rows,FrzTo,FrzL];exact⟨_,rfl,⟨_,rfl,rfl,rfl,rfl,.inl ⟨rfl,strs_in _ _⟩,.inr (.inl ⟨rfl,.inr rfl⟩),trivial⟩,rfl,trivial⟩
    |false=>
     rw[hc,cond_false]at hX;subst hX;have e0:errP c=errV c:=(by simp only[errP,hc,cond_false]);rw[e0]at ht⊢;simp only[errV]at ht⊢;refine uG0 Tryz.func168 Tryz.ntmps168 Tryz.results168 Ty.hb_168 ?_;(repeat'(first|refine G fun K J=>?_|refine uR k2 ?_|refine uK ?_|refine uC1 k2 ?_|(refine O J ?_;clear J)|apply zI));refine uU (U k2 @Bool.not_true) (hh _) ?_;replace Z:=U k2 (U p1 (U p2 (U p3 (U @Bool.not_true @Bool.not_false))));(repeat'(first|refine G fun K J=>?_|refine uR Z ?_|refine uK ?_|refine uC1 Z ?_|(refine O J ?_;clear J)|apply zI));refine uU (U k2 @Bool.not_true) (hn _) ?_;replace Z:=U k2 @Bool.not_true;(repeat'(first|refine G fun K J=>?_|refine uR Z ?_|refine uK ?_|refine uC1 Z ?_|(refine O J ?_;clear J)|apply zI));refine uU k2 (ht _) ?_;replace Z:=U k2 @Bool.not_false;(repeat'(first|refine G fun K J=>?_|refine uR Z ?_|refine uT Z ?_|(refine O J ?_;clear J)|apply zI));refine⟨?_,((Grow.refl h).new _).set (Nat.le_refl _) _⟩;simp only[zeroEx,Ex.cells,Ex.rows,strRows,List.map_nil,FrzTo,FrzL];exact⟨_,rfl,⟨_,rfl,rfl,rfl,rfl,.inr (.inl ⟨rfl,.inr rfl⟩),.inr (.inl ⟨rfl,.inr rfl⟩),trivial⟩,rfl,trivial⟩
end Go.Proofs.YtblgchkahpgdjaaGreat
namespace Go.Proofs.YtblgchkahpgdjaaGreat
open Go.AM
set_option maxHeartbeats 4000000
set_option maxRecDepth 20000
theorem nsucc(n:Nat):(n=n+1)=False:=by simp
theorem fEqE_c{g:FuncId}{l m:List Ex}(hl:l.length≤bigN)(hf: ∀ a∈l, ∀ b∈m, ∀ h:Heap,PCall Tryz.prog g [.agg a.cells,.agg b.cells] h fun r h'=>r= .sc (.bool (a.same b))∧h'=h)(h:Heap):
  PCall Tryz.prog 138 [.imm 5 (Ex.rows l),.imm 5 (Ex.rows m),.sc (.func (.func g) #[] #[])] h fun r h'=>r= .sc (.bool (Ex.sames l m))∧h'=h:=by
 unfold bigN at hl;have hll:=Ex.rows_len l;have hlm:=Ex.rows_len m;refine PCall.quiet Ty.hb_138 ?_;refine uG0 Tryz.func138 Tryz.ntmps138 Tryz.results138 Ty.hb_138 ?_;cases hne:((l.length:Int) !=m.length)with
 |true=>
  have:Ex.sames l m=false:=Ex.sames_len (by simp at hne;omega);replace Z:=U hll (U hlm hne);repeat'(first|refine G fun K J=>?_|refine uR Z ?_|refine uT Z ?_|(refine O J ?_;clear J)|apply zI)
  rw[this];exact⟨rfl,Grow.refl _⟩
 |false=>
  have hlen:l.length=m.length:=by simp at hne;omega
  replace Z:=U hll (U hlm hne);repeat'(first|refine G fun K J=>?_|refine a_block ?_|refine uR Z ?_|refine uK ?_|refine uC1 Z ?_|(refine O J ?_;clear J)|apply zI)
  refine a_loop (fun c S h'=>Grow h h'∧S 1= .imm 5 (Ex.rows m)∧S 2= .sc (.func (.func g) #[] #[])∧S 15= .imm 5 (Ex.rows l)∧S 16= .sc (.int .i64 l.length)∧ ∃ k:Nat,S 17= .sc (.int .i64 k)∧k≤l.length∧c=l.length-k∧Ex.sames l m=Ex.sames (l.drop k) (m.drop k)) l.length ?_ ?_
  ·simp only[Ty.w,simprocAttr];exact⟨Grow.refl _,0,rfl,by omega,rfl,by simp⟩
  ·rintro c S h' ⟨hg,g1,g2,g15,g16,k,gk,hkl,rfl,hinv⟩;by_cases hlt:k<l.length
   ·have hd:decide ((k:Int)<(l.length:Int))=true:=(by simp;omega);have w7:IntKind.i64.wrap ((k:Int)+1)=k+1:=(by rw[wrap64 (by omega) (by omega)]);obtain⟨a,hx⟩: ∃ a,l[k]? =some a:=⟨_,List.getElem?_eq_getElem hlt⟩;obtain⟨b,hy⟩: ∃ b,m[k]? =some b:=⟨_,List.getElem?_eq_getElem (by omega)⟩;have hc:=hf a (List.mem_of_getElem? hx) b (List.mem_of_getElem? hy);rw[drop_of_get hx,drop_of_get hy]at hinv;simp only[Ex.sames]at hinv;have hr:=Ex.rows_get hx;have hr2:=Ex.rows_get hy;generalize he:a.same b=e at hc hinv;(try clear Z);clear he hf;obtain⟨op2,name2,n2,args2,kids2⟩:=a;obtain⟨op3,name3,n3,args3,kids3⟩:=b;simp only[Ex.cells]at hr hr2 hc;replace Z:=U g1 (U g2 (U g15 (U g16 (U gk (U hll (U hlm (U hd (U hr (U hr2 (U w7 @nsucc))))))))));(repeat'(first|refine G fun K J=>?_|refine uR Z ?_|refine uK ?_|refine uC1 Z ?_|(refine O J ?_;clear J)|apply zI));refine owp_useV (by simp only[Ty.w,simprocAttr,g2]) (hc _) (by simp only[Ty.w,simprocAttr,g1,g2,g15,g16,gk];try rfl) ?_;simp(maxSteps:=2000000) only[Ty.w,simprocAttr,Ty.all];cases e with
    |false=>
     replace Z:=U g1 (U g2 (U g15 (U g16 (U gk (U w7 @Bool.not_false)))));(repeat'(first|refine G fun K J=>?_|refine uR Z ?_|refine uT Z ?_|(refine O J ?_;clear J)|apply zI));rw[hinv];exact⟨rfl,(((hg.new _).set hg.le _).new _).set (Nat.le_succ_of_le hg.le) _⟩
    |true=>
     replace Z:=U g1 (U g2 (U g15 (U g16 (U gk (U w7 @Bool.not_true)))));(repeat'(first|refine a_block ?_|refine uR Z ?_|refine uK ?_|(refine O J ?_;clear J)|apply zI));rw[Bool.true_and]at hinv;exact⟨l.length-(k+1),by omega,(((hg.new _).set hg.le _).new _).set (Nat.le_succ_of_le hg.le) _,k+1,by simp,by omega,rfl,hinv⟩
   ·have hd:decide ((k:Int)<(l.length:Int))=false:=(by simp;omega);rw[List.drop_eq_nil_of_le (by omega),List.drop_eq_nil_of_le (by omega)]at hinv;simp only[Ex.sames]at hinv;replace Z:=U g1 (U g2 (U g15 (U g16 (U gk (U hll hd)))));(repeat'(first|refine G fun K J=>?_|refine uR Z ?_|refine uT Z ?_|refine uX ?_|refine uC1 Z ?_|(refine O J ?_;clear J)|(clear J;refine O J ?_;clear J)|apply zI));rw[hinv];exact⟨rfl,hg⟩
theorem fsameE_c: ∀ a:Ex,a.ok→ ∀ b:Ex,b.ok→ ∀ h:Heap,PCall Tryz.prog 139 [.agg a.cells,.agg b.cells] h fun r h'=>r= .sc (.bool (a.same b))∧h'=h:=by
 refine Ex.ind ?_;intro op name n args kids ih hok;rintro⟨op3,name3,n3,args3,kids3⟩ hok3 h;simp only[Ex.ok]at hok hok3;obtain⟨_,_,_,⟨ha,_⟩,hk,hks⟩:=hok;obtain⟨_,_,_,⟨ha3,_⟩,hk3,hks3⟩:=hok3;rw[Ex.oks_iff]at hks hks3;have hfk: ∀ a∈kids, ∀ b∈kids3, ∀ h:Heap,PCall Tryz.prog 139 [.agg a.cells,.agg b.cells] h fun r h'=>r= .sc (.bool (a.same b))∧h'=h:=fun a ha b hb=>ih a ha (hks a ha) b (hks3 b hb);try clear Z
 clear ih;simp only[Ex.cells];refine uG0 Tryz.func139 Tryz.ntmps139 Tryz.results139 Ty.hb_139 ?_;cases e0:(op.data.toList==op3.data.toList)with
 |false=>
  have hs:(Ex.mk op name n args kids).same (.mk op3 name3 n3 args3 kids3)=false:=by simp only[Ex.same,bEq,e0,Bool.false_and,Bool.and_false]
  repeat'(first|refine G fun K J=>?_|refine uR e0 ?_|refine uT e0 ?_|(refine O J ?_;clear J)|apply zI)
  rw[hs]
 |true=>
  cases e1:(name.data.toList==name3.data.toList)with
  |false=>
   have hs:(Ex.mk op name n args kids).same (.mk op3 name3 n3 args3 kids3)=false:=(by simp only[Ex.same,bEq,e0,e1,Bool.false_and,Bool.and_false]);replace Z:=U e0 e1;(repeat'(first|refine G fun K J=>?_|refine uR Z ?_|refine uT Z ?_|(refine O J ?_;clear J)|apply zI));rw[hs]
  |true=>
   cases e2:(n==n3)with
   |false=>
    have hs:(Ex.mk op name n args kids).same (.mk op3 name3 n3 args3 kids3)=false:=(by simp only[Ex.same,bEq,e0,e1,e2,Bool.false_and,Bool.and_false]);replace Z:=U e0 (U e1 e2);(repeat'(first|refine G fun K J=>?_|refine uR Z ?_|refine uT Z ?_|(refine O J ?_;clear J)|apply zI));rw[hs]
   |true=>
    (repeat'(first|refine G fun K J=>?_|refine uR (U e0 (U e1 e2)) ?_|(refine O J ?_;clear J)|apply zI));cases e3:bsEq args args3 with
    |false=>
     have hs:(Ex.mk op name n args kids).same (.mk op3 name3 n3 args3 kids3)=false:=(by simp only[Ex.same,bEq,e0,e1,e2,e3,Bool.false_and,Bool.and_false]);replace Z:=U e0 (U e1 (U e2 e3));refine uU Z (ftexts_c (l:=args) (m:=args3) ha ha3) ?_;(repeat'(first|refine uT Z ?_|(refine O J ?_;clear J)|apply zI));rw[hs]
    |true=>
     replace Z:=U e0 (U e1 (U e2 e3));refine uU Z (ftexts_c (l:=args) (m:=args3) ha ha3) ?_;(try apply zI);have hs:(Ex.mk op name n args kids).same (.mk op3 name3 n3 args3 kids3)=Ex.sames kids kids3:=(by simp only[Ex.same,bEq,e0,e1,e2,e3,Bool.true_and]);replace Z:=U e0 (U e1 (U e2 e3));refine uU Z (fEqE_c hk hfk _) ?_;(repeat'(first|refine uT Z ?_|(refine O J ?_;clear J)|apply zI));rw[hs]
theorem fEqF_c{g:FuncId}{l m:List Fm}(hl:l.length≤bigN)(hf: ∀ a∈l, ∀ b∈m, ∀ h:Heap,PCall Tryz.prog g [.agg a.cells,.agg b.cells] h fun r h'=>r= .sc (.bool (a.same b))∧h'=h)(h:Heap):
  PCall Tryz.prog 140 [.imm 6 (Fm.rows l),.imm 6 (Fm.rows m),.sc (.func (.func g) #[] #[])] h fun r h'=>r= .sc (.bool (Fm.sames l m))∧h'=h:=by
 unfold bigN at hl;have hll:=Fm.rows_len l;have hlm:=Fm.rows_len m;refine PCall.quiet Ty.hb_140 ?_;refine uG0 Tryz.func140 Tryz.ntmps140 Tryz.results140 Ty.hb_140 ?_;cases hne:((l.length:Int) !=m.length)with
 |true=>
  have:Fm.sames l m=false:=Fm.sames_len (by simp at hne;omega);replace Z:=U hll (U hlm hne);repeat'(first|refine G fun K J=>?_|refine uR Z ?_|refine uT Z ?_|(refine O J ?_;clear J)|apply zI)
  rw[this];exact⟨rfl,Grow.refl _⟩
 |false=>
  have hlen:l.length=m.length:=by simp at hne;omega
  replace Z:=U hll (U hlm hne);repeat'(first|refine G fun K J=>?_|refine a_block ?_|refine uR Z ?_|refine uK ?_|refine uC1 Z ?_|(refine O J ?_;clear J)|apply zI)
  refine a_loop (fun c S h'=>Grow h h'∧S 1= .imm 6 (Fm.rows m)∧S 2= .sc (.func (.func g) #[] #[])∧S 15= .imm 6 (Fm.rows l)∧S 16= .sc (.int .i64 l.length)∧ ∃ k:Nat,S 17= .sc (.int .i64 k)∧k≤l.length∧c=l.length-k∧Fm.sames l m=Fm.sames (l.drop k) (m.drop k)) l.length ?_ ?_
  ·simp only[Ty.w,simprocAttr];exact⟨Grow.refl _,0,rfl,by omega,rfl,by simp⟩
  ·rintro c S h' ⟨hg,g1,g2,g15,g16,k,gk,hkl,rfl,hinv⟩;by_cases hlt:k<l.length
   ·have hd:decide ((k:Int)<(l.length:Int))=true:=(by simp;omega);have w7:IntKind.i64.wrap ((k:Int)+1)=k+1:=(by rw[wrap64 (by omega) (by omega)]);obtain⟨a,hx⟩: ∃ a,l[k]? =some a:=⟨_,List.getElem?_eq_getElem hlt⟩;obtain⟨b,hy⟩: ∃ b,m[k]? =some b:=⟨_,List.getElem?_eq_getElem (by omega)⟩;have hc:=hf a (List.mem_of_getElem? hx) b (List.mem_of_getElem? hy);rw[drop_of_get hx,drop_of_get hy]at hinv;simp only[Fm.sames]at hinv;have hr:=Fm.rows_get hx;have hr2:=Fm.rows_get hy;generalize he:a.same b=e at hc hinv;(try clear Z);clear he hf;obtain⟨op2,name2,args2,params2,exprs2,kids2⟩:=a;obtain⟨op3,name3,args3,params3,exprs3,kids3⟩:=b;simp only[Fm.cells]at hr hr2 hc;replace Z:=U g1 (U g2 (U g15 (U g16 (U gk (U hll (U hlm (U hd (U hr (U hr2 (U w7 @nsucc))))))))));(repeat'(first|refine G fun K J=>?_|refine uR Z ?_|refine uK ?_|refine uC1 Z ?_|(refine O J ?_;clear J)|apply zI));refine owp_useV (by simp only[Ty.w,simprocAttr,g2]) (hc _) (by simp only[Ty.w,simprocAttr,g1,g2,g15,g16,gk];try rfl) ?_;simp(maxSteps:=2000000) only[Ty.w,simprocAttr,Ty.all];cases e with
    |false=>
     replace Z:=U g1 (U g2 (U g15 (U g16 (U gk (U w7 @Bool.not_false)))));(repeat'(first|refine G fun K J=>?_|refine uR Z ?_|refine uT Z ?_|(refine O J ?_;clear J)|apply zI));rw[hinv];exact⟨rfl,(((hg.new _).set hg.le _).new _).set (Nat.le_succ_of_le hg.le) _⟩
    |true=>
     replace Z:=U g1 (U g2 (U g15 (U g16 (U gk (U w7 @Bool.not_true)))));(repeat'(first|refine a_block ?_|refine uR Z ?_|refine uK ?_|(refine O J ?_;clear J)|apply zI));rw[Bool.true_and]at hinv;exact⟨l.length-(k+1),by omega,(((hg.new _).set hg.le _).new _).set (Nat.le_succ_of_le hg.le) _,k+1,by simp,by omega,rfl,hinv⟩
   ·have hd:decide ((k:Int)<(l.length:Int))=false:=(by simp;omega);rw[List.drop_eq_nil_of_le (by omega),List.drop_eq_nil_of_le (by omega)]at hinv;simp only[Fm.sames]at hinv;replace Z:=U g1 (U g2 (U g15 (U g16 (U gk (U hll hd)))));(repeat'(first|refine G fun K J=>?_|refine uR Z ?_|refine uT Z ?_|refine uX ?_|refine uC1 Z ?_|(refine O J ?_;clear J)|(clear J;refine O J ?_;clear J)|apply zI));rw[hinv];exact⟨rfl,hg⟩
theorem fsame_c: ∀ a:Fm,a.ok→ ∀ b:Fm,b.ok→ ∀ h:Heap,PCall Tryz.prog 98 [.agg a.cells,.agg b.cells] h fun r h'=>r= .sc (.bool (a.same b))∧h'=h:=by
 refine Fm.ind ?_;intro op name args params exprs kids ih hok;rintro⟨op3,name3,args3,params3,exprs3,kids3⟩ hok3 h;simp only[Fm.ok]at hok hok3;obtain⟨_,_,⟨ha,_⟩,⟨hp,_⟩,⟨he,hes⟩,hk,hks⟩:=hok;obtain⟨_,_,⟨ha3,_⟩,⟨hp3,_⟩,⟨he3,hes3⟩,hk3,hks3⟩:=hok3;rw[Fm.oks_iff]at hks hks3;have hfk: ∀ a∈kids, ∀ b∈kids3, ∀ h:Heap,PCall Tryz.prog 98 [.agg a.cells,.agg b.cells] h fun r h'=>r= .sc (.bool (a.same b))∧h'=h:=fun a ha b hb=>ih a ha (hks a ha) b (hks3 b hb);rw[Ex.oks_iff]at hes hes3;have hfe: ∀ a∈exprs, ∀ b∈exprs3, ∀ h:Heap,PCall Tryz.prog 139 [.agg a.cells,.agg b.cells] h fun r h'=>r= .sc (.bool (a.same b))∧h'=h:=fun a ha b hb=>fsameE_c a (hes a ha) b (hes3 b hb);try clear Z
 clear ih;simp only[Fm.cells];refine uG0 Tryz.func98 Tryz.ntmps98 Tryz.results98 Ty.hb_98 ?_;cases e0:(op.data.toList==op3.data.toList)with
 |false=>
  have hs:(Fm.mk op name args params exprs kids).same (.mk op3 name3 args3 params3 exprs3 kids3)=false:=by simp only[Fm.same,bEq,e0,Bool.false_and,Bool.and_false]
  repeat'(first|refine G fun K J=>?_|refine uR e0 ?_|refine uT e0 ?_|(refine O J ?_;clear J)|apply zI)
  rw[hs]
 |true=>
  cases e1:(name.data.toList==name3.data.toList)with
  |false=>
   have hs:(Fm.mk op name args params exprs kids).same (.mk op3 name3 args3 params3 exprs3 kids3)=false:=(by simp only[Fm.same,bEq,e0,e1,Bool.false_and,Bool.and_false]);replace Z:=U e0 e1;(repeat'(first|refine G fun K J=>?_|refine uR Z ?_|refine uT Z ?_|(refine O J ?_;clear J)|apply zI));rw[hs]
  |true=>
   (repeat'(first|refine G fun K J=>?_|refine uR (U e0 e1) ?_|(refine O J ?_;clear J)|apply zI));cases e2:bsEq args args3 with
   |false=>
    have hs:(Fm.mk op name args params exprs kids).same (.mk op3 name3 args3 params3 exprs3 kids3)=false:=(by simp only[Fm.same,bEq,e0,e1,e2,Bool.false_and,Bool.and_false]);refine uU (U e0 (U e1 e2)) (ftexts_c (l:=args) (m:=args3) ha ha3) ?_;(repeat'(first|refine uT (U e0 (U e1 e2)) ?_|(refine O J ?_;clear J)|apply zI));rw[hs]
   |true=>
    refine uU (U e0 (U e1 e2)) (ftexts_c (l:=args) (m:=args3) ha ha3) ?_;(try apply zI);cases e3:pmsEq params params3 with
    |false=>
     have hs:(Fm.mk op name args params exprs kids).same (.mk op3 name3 args3 params3 exprs3 kids3)=false:=(by simp only[Fm.same,bEq,e0,e1,e2,e3,Bool.false_and,Bool.and_false]);replace Z:=U e0 (U e1 (U e2 e3));refine uU Z (fparams_c (l:=params) (m:=params3) hp hp3) ?_;(repeat'(first|refine uT Z ?_|(refine O J ?_;clear J)|apply zI));rw[hs]
    |true=>
     replace Z:=U e0 (U e1 (U e2 e3));refine uU Z (fparams_c (l:=params) (m:=params3) hp hp3) ?_;(try apply zI);cases e4:Ex.sames exprs exprs3 with
     |false=>
      have hs:(Fm.mk op name args params exprs kids).same (.mk op3 name3 args3 params3 exprs3 kids3)=false:=(by simp only[Fm.same,bEq,e0,e1,e2,e3,e4,Bool.false_and,Bool.and_false]);replace Z:=U e0 (U e1 (U e2 (U e3 e4)));refine uU Z (fEqE_c he hfe _) ?_;(repeat'(first|refine uT Z ?_|(refine O J ?_;clear J)|apply zI));rw[hs]
     |true=>
      replace Z:=U e0 (U e1 (U e2 (U e3 e4)));refine uU Z (fEqE_c he hfe _) ?_;(try apply zI);have hs:(Fm.mk op name args params exprs kids).same (.mk op3 name3 args3 params3 exprs3 kids3)=Fm.sames kids kids3:=(by simp only[Fm.same,bEq,e0,e1,e2,e3,e4,Bool.true_and]);replace Z:=U e0 (U e1 (U e2 (U e3 e4)));refine uU Z (fEqF_c hk hfk _) ?_;(repeat'(first|refine uT Z ?_|(refine O J ?_;clear J)|apply zI));rw[hs]
end Go.Proofs.YtblgchkahpgdjaaGreat
namespace Go.AM
mutual
def Sx.small:Sx→Prop
 | .mk _ _ _ _ _ kids=>kids.length≤1048576∧Sx.smalls kids
def Sx.smalls:List Sx→Prop
 |[]=>True
 |k::ks=>k.small∧Sx.smalls ks
end
theorem Sx.smalls_iff:{l:List Sx}→(Sx.smalls l↔ ∀ k∈l,k.small)
 |[]=>by simp[Sx.smalls]
 |k::ks=>by simp[Sx.smalls,Sx.smalls_iff (l:=ks)]
end Go.AM
namespace Go.Proofs.YtblgchkahpgdjaaGreat
open Go.AM
set_option maxHeartbeats 4000000
set_option maxRecDepth 20000
def exprsP:List Sx→List Ex × Int
 |[]=>([],0)
 |x::l=>bif (exprP x).2==0 then(match exprsP l with
  |(es,c)=>bif c==0 then((exprP x).1::es,0)else([],c))else([],(exprP x).2)
theorem exprsP_code: ∀ l:List Sx,((exprsP l).2==0)=true→(exprsP l).2=0:=fun l h=>by simpa using h
theorem exprsP_nil: ∀ l:List Sx,((exprsP l).2==0)=false→(exprsP l).1=[]
 |[],h=>by simp[exprsP]at h
 |x::l,h=>by
  simp only[exprsP]at h⊢;cases hq:(exprP x).2==0 with
  |false=>rfl
  |true=>
   rw[hq]at h;simp only[cond_true]at h⊢;cases hr:(exprsP l).2==0 with
   |false=>rfl
   |true=>rw[hr]at h;simp at h
theorem exprsP_two(w:ByteArray)(rest:List Sx):rest.length=2→(match rest with
    |[a,b]=>(match exprP a with
     | (ea, ca) => bif ca == 0 then (match exprP b with
      |(eb,cb)=>bif cb==0 then((.mk w ⟨#[]⟩ 0 [] [ea,eb],0):Ex × Int)else(zeroEx,cb))else(zeroEx,ca))
    |_=>(zeroEx,2))=(bif (exprsP rest).2==0 then(.mk w ⟨#[]⟩ 0 [] (exprsP rest).1,0)else(zeroEx,(exprsP rest).2)):=by
 intro hl
 match rest,hl with
 |[a,b],_=>
  simp only[exprsP];cases ha:(exprP a).2==0
  ·simp only[ha,cond_false]
  ·cases hb:(exprP b).2==0
   ·simp only[ha,hb,cond_true,cond_false]
   ·simp [ha,hb]
theorem tl_one{h:Heap}{id0 z:Nat}{p:PV}{rows:List (List PV)}(t:Tl h id0 z p rows):oneC p=true∧p.cells=[p]:=by
 rcases t with⟨_,rfl|rfl⟩|⟨id,_,_,rfl,_⟩
 ·exact ⟨rfl,rfl⟩
 ·exact ⟨rfl,rfl⟩
 ·exact ⟨rfl,rfl⟩
theorem ex_frz(n:Nat)(h:Heap)(e:Ex):FrzL n h e.cells e.cells:=by
 have hi:=ex_in n e;obtain⟨op,name,v,args,kids⟩:=e;simp only[Ex.cells,inNL,inN,and_true,true_and]at hi;simp only[Ex.cells,FrzL,FrzTo,and_true,true_and];exact⟨.inl hi.1,.inl hi.2⟩
theorem exs_frz(n:Nat)(h:Heap): ∀ l:List Ex,FrzR n h (Ex.rows l) (Ex.rows l)
 |[]=>by simp only[Ex.rows,FrzR]
 |k::ks=>by simp only[Ex.rows,FrzR];exact⟨ex_frz n h k,exs_frz n h ks⟩
theorem tl_frzE{h:Heap}{id0 n:Nat}{p:PV}{l:List Ex}(hn:n≤id0)(t:Tl h id0 5 p (Ex.rows l)):FrzTo n h (.imm 5 (Ex.rows l)) p:=by
 simp only[FrzTo];rcases t with⟨h1,h2⟩|⟨id,h1,h2,rfl,ho⟩
 ·exact .inr (.inl ⟨h1,h2.symm⟩)
 ·refine .inr (.inr ⟨id,0,_,_,rfl,by omega,ho,by omega,?_⟩);rw[List.drop_zero,List.take_of_length_le (by omega)];exact exs_frz _ _ _
theorem expr_pm_c{kind value line col:Int}{text:ByteArray}{kids:List Sx}{w:ByteArray}{rest:List Sx}(hok:(Sx.mk kind value line col text kids).ok)(hk2:¬ kind=2)(hM:headM (.mk kind value line col text kids)=some (w,rest))(hp:isPm w=true)
  (hf: ∀ x∈rest, ∀ h:Heap,PCall Tryz.prog 168 [.agg x.cells] h fun r h'=>r= .tup [.agg (exprP x).1.cells,errP (exprP x).2]∧h'=h)(hl:rest.length≤1048576)(h:Heap):
  PCall Tryz.prog 168 [.agg (Sx.mk kind value line col text kids).cells] h fun r h'=>r= .tup [.agg (exprP (.mk kind value line col text kids)).1.cells,errP (exprP (.mk kind value line col text kids)).2]∧h'=h:=by
 refine PCall.frz Ty.hb_168 ?_;have hh:=head_c hok;have hX:=exprP_head (.mk kind value line col text kids);generalize exprP (.mk kind value line col text kids)=F at hX;have kk:kindOf (.mk kind value line col text kids)=kind:=rfl;have k2:(kind==2)=false:=by simpa using hk2
 rw[kk,k2,hM]at hX;simp only[cond_false,hp,cond_true]at hX;rw[hM]at hh;simp only[headV]at hh;simp only[Sx.cells]at hh⊢;have hlr:=Sx.rows_len rest;refine uG0 Tryz.func168 Tryz.ntmps168 Tryz.results168 Ty.hb_168 ?_;repeat'(first|refine G fun K J=>?_|refine uR k2 ?_|refine uK ?_|refine uC1 k2 ?_|(refine O J ?_;clear J)|apply zI)
 refine uU (U k2 @Bool.not_true) (hh _) ?_;iterate 9 (first|refine G fun K J=>?_|refine uR (U k2 @Bool.not_true) ?_|refine uK ?_|refine uC1 (U k2 @Bool.not_true) ?_|(refine O J ?_;clear J)|apply zI)
 refine a_cutK (fun S h'=>h'=h.new (.arr 5 [[.sc (.string ⟨#[]⟩),.sc (.string ⟨#[]⟩),.sc (.int .i64 0),.sc (.slice none 0 0),.sc (.slice none 0 0)]])∧S 2= .ptr h.next 0 0∧S 4=sPV w∧S 5= .imm 6 (Sx.rows rest)) ?_ ?_
 ·have hp':=hp;unfold isPm opPls opMin opTim bEq at hp';try clear Z
  clear hX hf;cases p1:(w.data.toList==(#[43]:Array UInt8).toList)with
  |true=>
   replace Z:=U k2 (U p1 @Bool.not_true);(repeat'(first|refine G fun K J=>?_|refine uR Z ?_|refine uK ?_|refine uC1 Z ?_|(refine O J ?_;clear J)|apply zI));all_goals(simp(maxSteps:=2000000) only[Ty.w,simprocAttr])
  |false=>
   cases p2:(w.data.toList==(#[45]:Array UInt8).toList)with
   |true=>
    replace Z:=U k2 (U p1 (U p2 (U @Bool.not_true @Bool.not_false)));(repeat'(first|refine G fun K J=>?_|refine uR Z ?_|refine uK ?_|refine uC1 Z ?_|(refine O J ?_;clear J)|apply zI));all_goals(simp(maxSteps:=2000000) only[Ty.w,simprocAttr])
   |false=>
    have p3:(w.data.toList==(#[42]:Array UInt8).toList)=true:=by
     rw[p1,p2]at hp';simpa using hp'
    replace Z:=U k2 (U p1 (U p2 (U p3 (U @Bool.not_true @Bool.not_false))));(repeat'(first|refine G fun K J=>?_|refine uR Z ?_|refine uK ?_|refine uC1 Z ?_|(refine O J ?_;clear J)|apply zI));all_goals(simp(maxSteps:=2000000) only[Ty.w,simprocAttr])
 ·rintro S h' ⟨rfl,g2,g4,g5⟩;refine J _ _ ?_;try clear Z
  clear J hh;cases q:(((Sx.rows rest).length:Int) !=2)with
  |true=>
   have hF:F=(zeroEx,2):=by
    rw[hX];split
    ·rw [hlr]at q;simp at q
    ·rfl
   subst hF;replace Z:=U g2 (U g4 (U g5 q));(repeat'(first|refine G fun K J=>?_|refine uR Z ?_|refine uT Z ?_|(refine O J ?_;clear J)|apply zI));refine⟨?_,((Grow.refl h).new _).set (Nat.le_refl _) _⟩;have e2:errP 2=errV 2:=rfl;simp only[e2,errV,zeroEx,Ex.cells,Ex.rows,strRows,List.map_nil,FrzTo,FrzL];exact⟨_,rfl,⟨_,rfl,rfl,rfl,rfl,.inr (.inl ⟨rfl,.inr rfl⟩),.inr (.inl ⟨rfl,.inr rfl⟩),trivial⟩,rfl,trivial⟩
  |false=>
   have q':(((Sx.rows rest).length:Int)=2):=(by simpa using q);have hF:F=(bif (exprsP rest).2==0 then(.mk w ⟨#[]⟩ 0 [] (exprsP rest).1,0)else(zeroEx,(exprsP rest).2)):=by
    rw[hX];exact exprsP_two w rest (by rw[hlr]at q';omega)
   (try clear Z);clear hX;replace Z:=U g2 (U g4 (U g5 q));(repeat'(first|refine G fun K J=>?_|refine a_block ?_|refine uR Z ?_|refine uK ?_|refine uC1 Z ?_|(refine O J ?_;clear J)|apply zI));refine a_loop (fun m S h'=>S 2= .ptr h.next 0 0∧S 9= .ptr (h.next+1) 0 0∧S 64= .imm 6 (Sx.rows rest)∧S 65= .sc (.int .i64 (Sx.rows rest).length)∧ ∃ (k:Nat)(o:PV)(pre:List Ex),S 66= .sc (.int .i64 k)∧k≤rest.length∧m=rest.length-k∧Grow h h'∧h.next+1<h'.next∧pre.length=k∧
    h'.obj h.next=some (.arr 5 [[.sc (.string ⟨#[]⟩),.sc (.string ⟨#[]⟩),.sc (.int .i64 0),.sc (.slice none 0 0),.sc (.slice none 0 0)]])∧h'.obj (h.next+1)=some (.arr 5 [[sPV w,.sc (.string ⟨#[]⟩),.sc (.int .i64 0),.sc (.slice none 0 0),o]])∧Tl h' (h.next+2) 5 o (Ex.rows pre)∧
    exprsP rest=(bif (exprsP (rest.drop k)).2==0 then(pre++(exprsP (rest.drop k)).1,0)else([],(exprsP (rest.drop k)).2))) rest.length ?_ ?_
   ·simp only[Ty.w,simprocAttr,g2];refine⟨0,_,[],rfl,by omega,rfl,?_,?_,rfl,?_,?_,Tl.nil,?_⟩
    ·exact ((Grow.refl h).new _).new _|>.set (show h.next≤h.next+1 by omega) _
    ·simp [Heap.new,Heap.set]
    ·have e1:¬ h.next=h.next+1:=by omega
     simp[Heap.new,Heap.set,e1]
    ·simp [Heap.new,Heap.set]
    ·rw [List.drop_zero];cases hq:(exprsP rest).2==0
     ·simp only[cond_false];rw[← exprsP_nil rest hq]
     ·simp only[cond_true,List.nil_append];rw[← exprsP_code rest hq]
   ·(try clear Z);clear g2 g4 g5;rintro m S h' ⟨g2,g9,g64,g65,k,o,pre,g66,hk,rfl,hg,hnx,hpl,o1,o2,tl,hinv⟩;rw[hlr]at g65;by_cases hlt:k<rest.length
    ·have hd:decide ((k:Int)<(rest.length:Int))=true:=(by simp;omega);have w7:IntKind.i64.wrap ((k:Int)+1)=k+1:=(by rw[wrap64 (by omega) (by omega)]);obtain⟨x,hx⟩: ∃ x,rest[k]? =some x:=⟨_,List.getElem?_eq_getElem hlt⟩;have hr:=Sx.rows_get hx;have hc:=hf x (List.mem_of_getElem? hx);rw[drop_of_get hx]at hinv;simp only[exprsP]at hinv;have hin:=ex_in;generalize hE:exprP x=E at hc hinv;obtain⟨e,c⟩:=E;simp only at hc hinv;(try clear Z);clear hE hf;obtain⟨ki,va,li,co,te,ks⟩:=x;simp only[Sx.cells]at hr hc;have her:=fun l=>Ex.rows_map (l++[e]);have n1:(h.next=h'.next)=False:=(by simp;omega);have n2:(h.next+1=h'.next)=False:=(by simp;omega);have n3:(h.next=h'.next+1)=False:=(by simp;omega);have n4:(h.next=h'.next)=False:=(by simp;omega);have n5:(h.next+1=h'.next+1)=False:=(by simp;omega);cases hcc:c==0 with
     |false=>
      rw[hcc]at hinv;simp only[cond_false]at hinv;have e0:errP c=errV c:=(by simp only[errP,hcc,cond_false]);rw[e0]at hc;simp only[errV]at hc;have hq:exprsP rest=([],c):=(by rw[hinv];simp only[hcc,cond_false]);rw[hq]at hF;simp only[hcc,cond_false]at hF;subst hF;obtain⟨eop,ena,en,ear,eki⟩:=e;simp only[Ex.cells]at hc;replace Z:=U g2 (U g9 (U g64 (U g65 (U g66 (U hd (U hr (U o1 (U o2 (U n1 (U n2 (U n3 (U n5 @nsucc))))))))))));(repeat'(first|refine G fun K J=>?_|refine uR Z ?_|refine uK ?_|refine uC1 Z ?_|(refine O J ?_;clear J)|apply zI));refine uU Z (hc _) ?_;replace Z:=U g2 (U g9 (U g64 (U g65 (U g66 (U o1 (U o2 (U n1 (U n2 (U n3 (U n5 @nsucc))))))))));(repeat'(first|refine G fun K J=>?_|refine uR Z ?_|refine uT Z ?_|(refine O J ?_;clear J)|apply zI));have e2:errP c= .sc (.iface 42 (.int .i64 c)):=(by rw[e0];try rfl);rw[e2];refine⟨?_,(((((hg.new _).set hg.le _).new _).set (show h.next≤h'.next+1 by have:=hg.le;omega) _).set (Nat.le_refl _) _)⟩;simp only[zeroEx,Ex.cells,Ex.rows,strRows,List.map_nil,FrzTo,FrzL];exact⟨_,rfl,⟨_,rfl,rfl,rfl,rfl,.inr (.inl ⟨rfl,.inr rfl⟩),.inr (.inl ⟨rfl,.inr rfl⟩),trivial⟩,rfl,trivial⟩
     |true=>
      have e0:errP c= .sc .nilIface:=(by simp only[errP,hcc,cond_true]);rw[e0]at hc;have hto:=tl_one tl;have hrows:Ex.rows (pre++[e])=Ex.rows pre++[e.cells]:=(by simp only[Ex.rows_map,List.map_append,List.map_cons,List.map_nil]);obtain⟨eop,ena,en,ear,eki⟩:=e;simp only[Ex.cells]at hc hrows;have hold: ∀ j,j<h'.next→(((((h'.new (.arr 6 [[.sc (.int .i64 0),.sc (.int .i64 0),.sc (.int .i64 0),.sc (.int .i64 0),.sc (.string ⟨#[]⟩),.sc (.slice none 0 0)]])).set h'.next (.arr 6 [[.sc (.int .i64 ki),.sc (.int .i64 va),.sc (.int .i64 li),.sc (.int .i64 co),sPV te,.imm 6 (Sx.rows ks)]])).new (.arr 5 [[.sc (.string ⟨#[]⟩),.sc (.string ⟨#[]⟩),.sc (.int .i64 0),.sc (.slice none 0 0),.sc (.slice none 0 0)]])).set (h'.next+1) (.arr 5 [[sPV eop,sPV ena,.sc (.int .i64 en),.imm 1 (strRows ear),.imm 5 (Ex.rows eki)]])):Heap).obj j=h'.obj j:=fun j hj=>by
       have a1:¬ j=h'.next:=by omega
       have a2:¬ j=h'.next+1:=by omega
       simp only[Heap.new,Heap.set,a1,a2,if_false]
      have tl2:=tl.up (h':=((((h'.new (.arr 6 [[.sc (.int .i64 0),.sc (.int .i64 0),.sc (.int .i64 0),.sc (.int .i64 0),.sc (.string ⟨#[]⟩),.sc (.slice none 0 0)]])).set h'.next (.arr 6 [[.sc (.int .i64 ki),.sc (.int .i64 va),.sc (.int .i64 li),.sc (.int .i64 co),sPV te,.imm 6 (Sx.rows ks)]])).new (.arr 5 [[.sc (.string ⟨#[]⟩),.sc (.string ⟨#[]⟩),.sc (.int .i64 0),.sc (.slice none 0 0),.sc (.slice none 0 0)]])).set (h'.next+1) (.arr 5 [[sPV eop,sPV ena,.sc (.int .i64 en),.imm 1 (strRows ear),.imm 5 (Ex.rows eki)]]))) (by simp[Heap.new,Heap.set];omega) (fun j _ hj=>hold j hj);have hg2:Grow h ((((h'.new (.arr 6 [[.sc (.int .i64 0),.sc (.int .i64 0),.sc (.int .i64 0),.sc (.int .i64 0),.sc (.string ⟨#[]⟩),.sc (.slice none 0 0)]])).set h'.next (.arr 6 [[.sc (.int .i64 ki),.sc (.int .i64 va),.sc (.int .i64 li),.sc (.int .i64 co),sPV te,.imm 6 (Sx.rows ks)]])).new (.arr 5 [[.sc (.string ⟨#[]⟩),.sc (.string ⟨#[]⟩),.sc (.int .i64 0),.sc (.slice none 0 0),.sc (.slice none 0 0)]])).set (h'.next+1) (.arr 5 [[sPV eop,sPV ena,.sc (.int .i64 en),.imm 1 (strRows ear),.imm 5 (Ex.rows eki)]])):=(((hg.new _).set hg.le _).new _).set (show h.next≤h'.next+1 by have:=hg.le;omega) _;have hnn:(((((h'.new (.arr 6 [[.sc (.int .i64 0),.sc (.int .i64 0),.sc (.int .i64 0),.sc (.int .i64 0),.sc (.string ⟨#[]⟩),.sc (.slice none 0 0)]])).set h'.next (.arr 6 [[.sc (.int .i64 ki),.sc (.int .i64 va),.sc (.int .i64 li),.sc (.int .i64 co),sPV te,.imm 6 (Sx.rows ks)]])).new (.arr 5 [[.sc (.string ⟨#[]⟩),.sc (.string ⟨#[]⟩),.sc (.int .i64 0),.sc (.slice none 0 0),.sc (.slice none 0 0)]])).set (h'.next+1) (.arr 5 [[sPV eop,sPV ena,.sc (.int .i64 en),.imm 1 (strRows ear),.imm 5 (Ex.rows eki)]])):Heap).next=h'.next+1+1:=by simp[Heap.new,Heap.set]
      obtain⟨H,t1,t2,t3,t4,t5⟩:=tl2.tail;have u9:=t4 (h.next+1) (by omega);rw[hold _ hnx,o2]at u9;have u0:=t4 h.next (by omega)
      rw[hold _ (by omega),o1]at u0;rw[hnn]at t3;have hkp:=t5 h ⟨hg2.le,hg2.old⟩ (by omega);have hgH:Grow h H:=⟨hkp.1,hkp.2⟩;have hpr:(Ex.rows pre).length=k:=(by rw[Ex.rows_len];exact hpl);have hb:(k+1)*88≤140737488355328:=(by omega);have n6:(h.next+1=H.next)=False:=(by simp;omega);have n7:(h.next+1=h'.next+1+1)=False:=(by simp;omega);replace Z:=U g2 (U g9 (U g64 (U g65 (U g66 (U hd (U hr (U o1 (U o2 (U n1 (U n2 (U n3 (U n5 @nsucc))))))))))));(repeat'(first|refine G fun K J=>?_|refine uR Z ?_|refine uK ?_|refine uC1 Z ?_|(refine O J ?_;clear J)|apply zI));refine uU Z (hc _) ?_;replace Z:=U g2 (U g9 (U g64 (U g65 (U g66 (U o1 (U o2 (U n1 (U n2 (U n3 (U n5 (U n6 (U n7 (U @nsucc (U t1 (U t2 (U u9 (U hpr (U hb w7))))))))))))))))));(repeat'(first|refine G fun K J=>?_|refine uR Z ?_|refine uQ Z fun K J=>?_|refine uK ?_|refine uC1 Z ?_|(refine O J ?_;clear J)|(rw[if_pos];rotate_left 1;omega;simp(maxSteps:=2000000) only[Ty.w,simprocAttr,g2,g9,g64,g65,g66,o1,o2,n1,n2,n3,n5,n6,n7,nsucc,t1,t2,u9,hpr,hb,w7])|apply zI));rw[← hrows];have hgr:=Tl.grow (H:=H) (id0:=h.next+2) (z:=5) (len:=k+1) (rows:=Ex.rows (pre++[Ex.mk eop ena en ear eki])) (by omega) (by rw[Ex.rows_len];simp[hpl]);refine⟨rest.length-(k+1),by omega,by rw[hlr],k+1,.own H.next 0 (k+1),pre++[Ex.mk eop ena en ear eki],by simp,by omega,rfl,(hgH.new _).set (show h.next≤h.next+1 by omega) _,by omega,by simp[hpl],?_,by rw[t3],?_,?_⟩
      ·rw [if_neg (by omega)];exact u0
      ·exact hgr.up (Nat.le_refl _) (fun j hj _=>by simp only[Heap.set];rw[if_neg (by omega)])
      ·rw [hinv,hcc];simp only[cond_true];cases hq:(exprsP (List.drop (k+1) rest)).2==0 with
       |false=>simp only[hq,cond_false]
       |true=>simp only[cond_true,beq_self_eq_true,List.append_assoc,List.cons_append,List.nil_append]
    ·have hd:decide ((k:Int)<(rest.length:Int))=false:=(by simp;omega);rw[List.drop_eq_nil_of_le (by omega)]at hinv;have hq:exprsP rest=(pre,0):=(by rw[hinv];simp[exprsP]);rw[hq]at hF;have hF2:F=(.mk w ⟨#[]⟩ 0 [] pre,0):=hF;(try clear Z);clear hF;subst hF2;have ho:=(tl_one tl).1;have n1:(h.next+1=h.next)=False:=(by simp);replace Z:=U g2 (U g9 (U g64 (U g65 (U g66 (U hd (U o1 (U o2 (U ho n1))))))));(repeat'(first|refine G fun K J=>?_|refine uR Z ?_|refine uT Z ?_|refine uX ?_|refine uC1 Z ?_|(refine O J ?_;clear J)|(clear J;refine O J ?_;clear J)|apply zI));refine⟨?_,hg.set (Nat.le_refl _) _⟩;have e2:errP 0= .sc .nilIface:=rfl;rw[e2];have h1:FrzTo h.next (h'.set h.next (.arr 5 [[sPV w,.sc (.string ⟨#[]⟩),.sc (.int .i64 0),.sc (.slice none 0 0),o]])) (.imm 5 (Ex.rows pre)) o:=tl_frzE (by omega) (tl.up (Nat.le_refl _) (fun j hj _=>by simp only[Heap.set];rw[if_neg (by omega)]))
     generalize h'.set h.next (.arr 5 [[sPV w,.sc (.string ⟨#[]⟩),.sc (.int .i64 0),.sc (.slice none 0 0),o]])=H at h1⊢
     simp only[Ex.cells,strRows,List.map_nil];unfold FrzTo;refine⟨_,rfl,?_⟩;unfold FrzL;refine⟨?_,by unfold FrzL;exact⟨by simp only[FrzTo],by simp only[FrzL]⟩⟩;unfold FrzTo;refine⟨_,rfl,?_⟩;unfold FrzL;refine⟨by simp only[FrzTo],?_⟩;unfold FrzL;refine⟨by simp only[FrzTo],?_⟩;unfold FrzL;refine⟨by simp only[FrzTo],?_⟩;unfold FrzL;refine⟨by simp[FrzTo],?_⟩;unfold FrzL;exact⟨h1,by simp only[FrzL]⟩
theorem headM_rest{kind value line col:Int}{text:ByteArray}{kids:List Sx}{w:ByteArray}{rest:List Sx}(h:headM (.mk kind value line col text kids)=some (w,rest)): ∃ y,kids=y::rest:=by
 simp only[headM]at h;split at h
 ·cases kids with
  |nil=>simp at h
  |cons y r=>
   simp only at h;cases hk:kindOf y==1 with
   |false=>rw[hk]at h;simp at h
   |true=>
    rw[hk]at h;simp only[cond_true,Option.some.injEq,Prod.mk.injEq]at h;exact⟨y,by rw[h.2]⟩
 ·simp at h
theorem expr_c: ∀ x:Sx,x.ok→x.small→ ∀ h:Heap,PCall Tryz.prog 168 [.agg x.cells] h fun r h'=>r= .tup [.agg (exprP x).1.cells,errP (exprP x).2]∧h'=h:=by
 refine Sx.ind ?_;intro kind value line col text kids ih hok hsm h;have hok':=hok;simp only[Sx.ok]at hok';obtain⟨_,_,_,_,hks⟩:=hok';rw[Sx.oks_iff]at hks;simp only[Sx.small]at hsm;obtain⟨hl,hss⟩:=hsm;rw[Sx.smalls_iff]at hss;have hrl: ∀ w rest,headM (.mk kind value line col text kids)=some (w,rest)→rest.length≤1048576:=fun w rest e=>by
  obtain⟨y,rfl⟩:=headM_rest e;simp at hl;omega
 by_cases hk2:kind=2
 ·exact expr_plain_c hok hrl (.inl hk2) h
 ·cases hM:headM (.mk kind value line col text kids)with
  |none=>exact expr_plain_c hok hrl (.inr fun w rest e=>by rw[hM]at e;simp at e) h
  |some wr=>
   obtain⟨w,rest⟩:=wr;cases hp:isPm w with
   |false=>exact expr_plain_c hok hrl (.inr fun w2 rest2 e=>by rw[hM]at e;simp at e;rw[← e.1];exact hp) h
   |true=>
    obtain⟨y,hy⟩:=headM_rest hM;exact expr_pm_c hok hk2 hM hp (fun x hx=>ih x (by rw[hy];simp[hx]) (hks x (by rw[hy];simp[hx])) (hss x (by rw[hy];simp[hx]))) (hrl w rest hM) h
end Go.Proofs.YtblgchkahpgdjaaGreat
namespace Go.Proofs.YtblgchkahpgdjaaGreat
open Go.AM
set_option maxHeartbeats 2000000
set_option maxRecDepth 20000
theorem dig_cls(c:UInt8):(digB c=true∧decide ((c.toNat:Int)<48)=false∧decide ((c.toNat:Int)>57)=false)∨(digB c=false∧decide ((c.toNat:Int)<48)=true)∨(digB c=false∧decide ((c.toNat:Int)<48)=false∧decide ((c.toNat:Int)>57)=true):=by
 simp only[digB,Bool.and_eq_true,Bool.and_eq_false_iff,decide_eq_true_eq,decide_eq_false_iff_not];omega
theorem rdigits_c{h:Heap}{s:ByteArray}(hs:s.size≤bigN):PCall Tryz.prog 172 [sPV s] h fun r h'=>r= .sc (.bool (s.data.toList.all digB&&decide (0<s.size)))∧h'=h:=by
 unfold bigN at hs;have htl:s.data.toList.length=s.size:=by rw[Array.length_toList];try rfl
 refine uG0 Tryz.func172 Tryz.ntmps172 Tryz.results172 Ty.hb_172 ?_;repeat'(first|refine G fun K J=>?_|refine a_block ?_|refine uR trivial ?_|(refine O J ?_;clear J)|apply zI)
 refine a_loop (fun m S h'=>h'=h∧S 0=sPV s∧ ∃ k:Nat,S 3= .sc (.int .i64 k)∧k≤s.size∧m=s.size-k∧ ∀ (i:Nat)(c:UInt8),i<k→s.data.toList[i]? =some c→digB c=true) s.size ?_ ?_
 ·simp only[Ty.w,simprocAttr];exact⟨0,rfl,by omega,rfl,by omega⟩
 ·rintro m S h' ⟨rfl,g0,k,g3,hk,rfl,hall⟩;by_cases hlt:k<s.size
  ·have hd:decide ((k:Int)<(s.size:Int))=true:=(by simp;omega);have w7:IntKind.i64.wrap ((k:Int)+1)=k+1:=(by rw[wrap64 (by omega) (by omega)]);obtain⟨c,hx⟩: ∃ c,s.data.toList[k]? =some c:=⟨_,List.getElem?_eq_getElem (by omega)⟩;have hr:s[k]? =some c:=(by rw[ba_get];exact hx);have bad:digB c=false→s.data.toList.all digB=false:=fun hg=>(by rw[List.all_eq_false];exact⟨c,List.mem_of_getElem? hx,by simp[hg]⟩);rcases dig_cls c with⟨hg,c1,c2⟩|⟨hg,c1⟩|⟨hg,c1,c2⟩
   ·replace Z:=U g0 (U g3 (U hd (U hr (U c1 (U c2 w7)))));(repeat'(first|refine G fun K J=>?_|refine a_block ?_|refine uR Z ?_|refine uK ?_|refine uC1 Z ?_|(refine O J ?_;clear J)|apply zI));refine⟨s.size-(k+1),by omega,k+1,by simp,by omega,rfl,fun i c2 hi hw=>?_⟩;by_cases hik:i=k
    ·subst hik;rw[hx]at hw;simp at hw;rw[← hw];exact hg
    ·exact hall i c2 (by omega) hw
   ·replace Z:=U g0 (U g3 (U hd (U hr c1)));(repeat'(first|refine G fun K J=>?_|refine uR Z ?_|refine uT Z ?_|refine uK ?_|refine uC1 Z ?_|(refine O J ?_;clear J)|apply zI));rw[bad hg];try rfl
   ·replace Z:=U g0 (U g3 (U hd (U hr (U c1 c2))));(repeat'(first|refine G fun K J=>?_|refine uR Z ?_|refine uT Z ?_|refine uK ?_|refine uC1 Z ?_|(refine O J ?_;clear J)|apply zI));rw[bad hg];try rfl
  ·have hd:decide ((k:Int)<(s.size:Int))=false:=(by simp;omega);have hok:s.data.toList.all digB=true:=by
    rw[List.all_eq_true];intro c hc;obtain⟨i,hi⟩:=List.getElem?_of_mem hc;exact hall i c (by have:=(List.getElem?_eq_some_iff.1 hi).1;omega) hi
   have e1:decide ((s.size:Int)>0)=decide (0<s.size):=decide_eq_decide.2 (by omega);(try clear Z);clear hall;replace Z:=U g0 (U g3 hd);(repeat'(first|refine G fun K J=>?_|refine uR Z ?_|refine uT Z ?_|refine uX ?_|refine uC1 Z ?_|(refine O J ?_;clear J)|(clear J;refine O J ?_;clear J)|apply zI));rw[hok,e1];try rfl
theorem rnumeric_c{h:Heap}{s:ByteArray}(hs:s.size≤bigN):PCall Tryz.prog 160 [sPV s] h fun r h'=>r= .sc (.bool (numB s))∧h'=h:=by
 have htl:s.data.toList.length=s.size:=by rw[Array.length_toList];try rfl
 cases b1:decide ((s.size:Int)>0)with
 |false=>
  have ht:trimB s=s:=by
   have:s.data.toList=[]:=List.eq_nil_of_length_eq_zero (by have:=of_decide_eq_false b1;omega);unfold trimB;rw[this]
  have hd:=rdigits_c (h:=h) hs;refine uG0 Tryz.func160 Tryz.ntmps160 Tryz.results160 Ty.hb_160 ?_;repeat'(first|refine G fun K J=>?_|refine uR b1 ?_|refine uK ?_|refine uC1 b1 ?_|(refine O J ?_;clear J)|apply zI)
  refine uU b1 (hd) ?_;repeat'(first|refine uT trivial ?_|(refine O J ?_;clear J)|apply zI)
  rw[show numB s=((trimB s).data.toList.all digB&&decide (0<(trimB s).size))from rfl,ht]
 |true=>
  have hpos:0<s.size:=by simp at b1;omega
  obtain⟨c,hx⟩: ∃ c,s.data.toList[0]? =some c:=⟨_,List.getElem?_eq_getElem (by omega)⟩;have hr:s[0]? =some c:=by rw[ba_get];exact hx
  cases b2:((c.toNat:Int)==45)with
  |false=>
   have ht:trimB s=s:=by
    unfold trimB;split
    ·rename_i l heq;rw[heq]at hx;simp at hx;subst hx;simp at b2
    ·rfl
   have hd:=rdigits_c (h:=h) hs;refine uG0 Tryz.func160 Tryz.ntmps160 Tryz.results160 Ty.hb_160 ?_;replace Z:=U b1 (U hr b2);(repeat'(first|refine G fun K J=>?_|refine uR Z ?_|refine uK ?_|refine uC1 Z ?_|(refine O J ?_;clear J)|apply zI));refine uU (U b1 b2) (hd) ?_;(repeat'(first|refine uT trivial ?_|(refine O J ?_;clear J)|apply zI));rw[show numB s=((trimB s).data.toList.all digB&&decide (0<(trimB s).size))from rfl,ht]
  |true=>
   have hc:c=45:=by
    have:c.toNat=45:=(by simp at b2;omega);exact UInt8.toNat_inj.1 this
   have q1:(1:Int)≤(s.size:Int):=(by omega);have ht:trimB s=s.extract 1 s.size:=by
    cases hl:s.data.toList with
    |nil=>rw[hl]at hx;simp at hx
    |cons d l=>
     rw[hl]at hx;simp at hx;subst hx;subst hc;unfold trimB;rw[hl];refine ba_ext ?_;have hl2:=htl;rw[hl]at hl2;simp at hl2;simp only[ByteArray.data_extract,Array.toList_extract,List.extract_eq_take_drop,hl];rw[List.drop_succ_cons,List.drop_zero,List.take_of_length_le (by omega)]
   have hsz:(s.extract 1 s.size).size≤bigN:=(by simp only[ByteArray.size_extract];omega);have hd:=rdigits_c (h:=h) hsz;refine uG0 Tryz.func160 Tryz.ntmps160 Tryz.results160 Ty.hb_160 ?_;replace Z:=U b1 (U hr (U b2 (U q1 (U @Int.le_refl @Int.toNat_one))));(repeat'(first|refine G fun K J=>?_|refine uR Z ?_|(refine O J ?_;clear J)|apply zI));replace Z:=U b1 (U b2 (U q1 (U @Int.le_refl @Int.toNat_one)));refine uU Z (hd) ?_;(repeat'(first|refine uT trivial ?_|(refine O J ?_;clear J)|apply zI));rw[show numB s=((trimB s).data.toList.all digB&&decide (0<(trimB s).size))from rfl,ht]
theorem let_cls(c:UInt8):(wB c=true∧decide ((c.toNat:Int)≥97)=true∧decide ((c.toNat:Int)≤122)=true)∨
  (letB c=false∧decide ((c.toNat:Int)≥97)=true∧decide ((c.toNat:Int)≤122)=false∧decide ((c.toNat:Int)≥48)=true∧decide ((c.toNat:Int)≤57)=false∧digB c=false)∨
  (letB c=false∧decide ((c.toNat:Int)≥97)=false∧decide ((c.toNat:Int)≥48)=false∧digB c=false)∨
  (wB c=true∧decide ((c.toNat:Int)≥97)=false∧decide ((c.toNat:Int)≥48)=true∧decide ((c.toNat:Int)≤57)=true)∨
  (letB c=false∧decide ((c.toNat:Int)≥97)=false∧decide ((c.toNat:Int)≥48)=true∧decide ((c.toNat:Int)≤57)=false∧digB c=false):=by
 simp only[wB,letB,digB,Bool.and_eq_true,Bool.or_eq_true,Bool.and_eq_false_iff,decide_eq_true_eq,decide_eq_false_iff_not];omega
theorem signs_c(c:UInt8):signs.contains c=(((c.toNat:Int)==45)||((c.toNat:Int)==95)||((c.toNat:Int)==63)||((c.toNat:Int)==58)||((c.toNat:Int)==60)||((c.toNat:Int)==62)||((c.toNat:Int)==61)||((c.toNat:Int)==43)||((c.toNat:Int)==42)):=by
 have hh: ∀ d:UInt8,(c==d)=((c.toNat:Int)==(d.toNat:Int)):=by
  intro d;by_cases h:c=d
  ·subst h;simp
  ·have:¬ c.toNat=d.toNat:=fun e=>h (UInt8.toNat_inj.1 e);have:¬ (c.toNat:Int)=(d.toNat:Int):=(by omega);rw[beq_eq_false_iff_ne.2 h,beq_eq_false_iff_ne.2 this]
 have e:signs.contains c=(c==45||(c==95||(c==63||(c==58||(c==60||(c==62||(c==61||(c==43||(c==42||false))))))))):=rfl;rw[e,hh,hh,hh,hh,hh,hh,hh,hh,hh];simp only[Bool.or_false,Bool.or_assoc];rfl
theorem letter_c{h:Heap}{c:UInt8}:PCall Tryz.prog 159 [.sc (.int .u8 c.toNat)] h fun r h'=>r= .sc (.bool (wB c))∧h'=h:=by
 refine uG0 Tryz.func159 Tryz.ntmps159 Tryz.results159 Ty.hb_159 ?_;rcases let_cls c with⟨hw,c1,c2⟩|⟨hlet,c1,c2,c3,c4,hdig⟩|⟨hlet,c1,c3,hdig⟩|⟨hw,c1,c3,c4⟩|⟨hlet,c1,c3,c4,hdig⟩
 ·replace Z:=U c1 c2;repeat'(first|refine G fun K J=>?_|refine uR Z ?_|refine uT Z ?_|(refine O J ?_;clear J)|apply zI)
  all_goals(rw[hw])
 ·cases s0:((c.toNat:Int)==45)with
  |true=>
   have hw:wB c=true:=(by simp only[wB,hlet,hdig,signs_c,s0,Bool.or_true,Bool.true_or,Bool.false_or]);replace Z:=U c1 (U c2 (U c3 (U c4 s0)));(repeat'(first|refine G fun K J=>?_|refine uR Z ?_|refine uT Z ?_|refine uK ?_|refine uC1 Z ?_|(refine O J ?_;clear J)|apply zI));all_goals(rw[hw])
  |false=>
   cases s1:((c.toNat:Int)==95)with
   |true=>
    have hw:wB c=true:=(by simp only[wB,hlet,hdig,signs_c,s0,s1,Bool.or_true,Bool.true_or,Bool.false_or]);replace Z:=U c1 (U c2 (U c3 (U c4 (U s0 s1))));(repeat'(first|refine G fun K J=>?_|refine uR Z ?_|refine uT Z ?_|refine uK ?_|refine uC1 Z ?_|(refine O J ?_;clear J)|apply zI));all_goals(rw[hw])
   |false=>
    cases s2:((c.toNat:Int)==63)with
    |true=>
     have hw:wB c=true:=(by simp only[wB,hlet,hdig,signs_c,s0,s1,s2,Bool.or_true,Bool.true_or,Bool.false_or]);replace Z:=U c1 (U c2 (U c3 (U c4 (U s0 (U s1 s2)))));(repeat'(first|refine G fun K J=>?_|refine uR Z ?_|refine uT Z ?_|refine uK ?_|refine uC1 Z ?_|(refine O J ?_;clear J)|apply zI));all_goals(rw[hw])
    |false=>
     cases s3:((c.toNat:Int)==58)with
     |true=>
      have hw:wB c=true:=(by simp only[wB,hlet,hdig,signs_c,s0,s1,s2,s3,Bool.or_true,Bool.true_or,Bool.false_or]);replace Z:=U c1 (U c2 (U c3 (U c4 (U s0 (U s1 (U s2 s3))))));(repeat'(first|refine G fun K J=>?_|refine uR Z ?_|refine uT Z ?_|refine uK ?_|refine uC1 Z ?_|(refine O J ?_;clear J)|apply zI));all_goals(rw[hw])
     |false=>
      cases s4:((c.toNat:Int)==60)with
      |true=>
       have hw:wB c=true:=(by simp only[wB,hlet,hdig,signs_c,s0,s1,s2,s3,s4,Bool.or_true,Bool.true_or,Bool.false_or]);replace Z:=U c1 (U c2 (U c3 (U c4 (U s0 (U s1 (U s2 (U s3 s4)))))));(repeat'(first|refine G fun K J=>?_|refine uR Z ?_|refine uT Z ?_|refine uK ?_|refine uC1 Z ?_|(refine O J ?_;clear J)|apply zI));all_goals(rw[hw])
      |false=>
       cases s5:((c.toNat:Int)==62)with
       |true=>
        have hw:wB c=true:=(by simp only[wB,hlet,hdig,signs_c,s0,s1,s2,s3,s4,s5,Bool.or_true,Bool.true_or,Bool.false_or]);replace Z:=U c1 (U c2 (U c3 (U c4 (U s0 (U s1 (U s2 (U s3 (U s4 s5))))))));(repeat'(first|refine G fun K J=>?_|refine uR Z ?_|refine uT Z ?_|refine uK ?_|refine uC1 Z ?_|(refine O J ?_;clear J)|apply zI));all_goals(rw[hw])
       |false=>
        cases s6:((c.toNat:Int)==61)with
        |true=>
         have hw:wB c=true:=(by simp only[wB,hlet,hdig,signs_c,s0,s1,s2,s3,s4,s5,s6,Bool.or_true,Bool.true_or,Bool.false_or]);replace Z:=U c1 (U c2 (U c3 (U c4 (U s0 (U s1 (U s2 (U s3 (U s4 (U s5 s6)))))))));(repeat'(first|refine G fun K J=>?_|refine uR Z ?_|refine uT Z ?_|refine uK ?_|refine uC1 Z ?_|(refine O J ?_;clear J)|apply zI));all_goals(rw[hw])
        |false=>
         cases s7:((c.toNat:Int)==43)with
         |true=>
          have hw:wB c=true:=(by simp only[wB,hlet,hdig,signs_c,s0,s1,s2,s3,s4,s5,s6,s7,Bool.or_true,Bool.true_or,Bool.false_or]);replace Z:=U c1 (U c2 (U c3 (U c4 (U s0 (U s1 (U s2 (U s3 (U s4 (U s5 (U s6 s7))))))))));(repeat'(first|refine G fun K J=>?_|refine uR Z ?_|refine uT Z ?_|refine uK ?_|refine uC1 Z ?_|(refine O J ?_;clear J)|apply zI));all_goals(rw[hw])
         |false=>
          cases s8:((c.toNat:Int)==42)with
          |true=>
           have hw:wB c=true:=(by simp only[wB,hlet,hdig,signs_c,s0,s1,s2,s3,s4,s5,s6,s7,s8,Bool.or_true,Bool.true_or,Bool.false_or]);replace Z:=U c1 (U c2 (U c3 (U c4 (U s0 (U s1 (U s2 (U s3 (U s4 (U s5 (U s6 (U s7 s8)))))))))));(repeat'(first|refine G fun K J=>?_|refine uR Z ?_|refine uT Z ?_|refine uK ?_|refine uC1 Z ?_|(refine O J ?_;clear J)|apply zI));all_goals(rw[hw])
          |false=>
           have hw:wB c=false:=(by simp only[wB,hlet,hdig,signs_c,s0,s1,s2,s3,s4,s5,s6,s7,s8,Bool.or_false]);replace Z:=U c1 (U c2 (U c3 (U c4 (U s0 (U s1 (U s2 (U s3 (U s4 (U s5 (U s6 (U s7 s8)))))))))));(repeat'(first|refine G fun K J=>?_|refine uR Z ?_|refine uT Z ?_|refine uK ?_|refine uC1 Z ?_|(refine O J ?_;clear J)|apply zI));all_goals(rw[hw])
 ·cases s0:((c.toNat:Int)==45)with
  |true=>
   have hw:wB c=true:=(by simp only[wB,hlet,hdig,signs_c,s0,Bool.or_true,Bool.true_or,Bool.false_or]);replace Z:=U c1 (U c3 s0);(repeat'(first|refine G fun K J=>?_|refine uR Z ?_|refine uT Z ?_|refine uK ?_|refine uC1 Z ?_|(refine O J ?_;clear J)|apply zI));all_goals(rw[hw])
  |false=>
   cases s1:((c.toNat:Int)==95)with
   |true=>
    have hw:wB c=true:=(by simp only[wB,hlet,hdig,signs_c,s0,s1,Bool.or_true,Bool.true_or,Bool.false_or]);replace Z:=U c1 (U c3 (U s0 s1));(repeat'(first|refine G fun K J=>?_|refine uR Z ?_|refine uT Z ?_|refine uK ?_|refine uC1 Z ?_|(refine O J ?_;clear J)|apply zI));all_goals(rw[hw])
   |false=>
    cases s2:((c.toNat:Int)==63)with
    |true=>
     have hw:wB c=true:=(by simp only[wB,hlet,hdig,signs_c,s0,s1,s2,Bool.or_true,Bool.true_or,Bool.false_or]);replace Z:=U c1 (U c3 (U s0 (U s1 s2)));(repeat'(first|refine G fun K J=>?_|refine uR Z ?_|refine uT Z ?_|refine uK ?_|refine uC1 Z ?_|(refine O J ?_;clear J)|apply zI));all_goals(rw[hw])
    |false=>
     cases s3:((c.toNat:Int)==58)with
     |true=>
      have hw:wB c=true:=(by simp only[wB,hlet,hdig,signs_c,s0,s1,s2,s3,Bool.or_true,Bool.true_or,Bool.false_or]);replace Z:=U c1 (U c3 (U s0 (U s1 (U s2 s3))));(repeat'(first|refine G fun K J=>?_|refine uR Z ?_|refine uT Z ?_|refine uK ?_|refine uC1 Z ?_|(refine O J ?_;clear J)|apply zI));all_goals(rw[hw])
     |false=>
      cases s4:((c.toNat:Int)==60)with
      |true=>
       have hw:wB c=true:=(by simp only[wB,hlet,hdig,signs_c,s0,s1,s2,s3,s4,Bool.or_true,Bool.true_or,Bool.false_or]);replace Z:=U c1 (U c3 (U s0 (U s1 (U s2 (U s3 s4)))));(repeat'(first|refine G fun K J=>?_|refine uR Z ?_|refine uT Z ?_|refine uK ?_|refine uC1 Z ?_|(refine O J ?_;clear J)|apply zI));all_goals(rw[hw])
      |false=>
       cases s5:((c.toNat:Int)==62)with
       |true=>
        have hw:wB c=true:=(by simp only[wB,hlet,hdig,signs_c,s0,s1,s2,s3,s4,s5,Bool.or_true,Bool.true_or,Bool.false_or]);replace Z:=U c1 (U c3 (U s0 (U s1 (U s2 (U s3 (U s4 s5))))));(repeat'(first|refine G fun K J=>?_|refine uR Z ?_|refine uT Z ?_|refine uK ?_|refine uC1 Z ?_|(refine O J ?_;clear J)|apply zI));all_goals(rw[hw])
       |false=>
        cases s6:((c.toNat:Int)==61)with
        |true=>
         have hw:wB c=true:=(by simp only[wB,hlet,hdig,signs_c,s0,s1,s2,s3,s4,s5,s6,Bool.or_true,Bool.true_or,Bool.false_or]);replace Z:=U c1 (U c3 (U s0 (U s1 (U s2 (U s3 (U s4 (U s5 s6)))))));(repeat'(first|refine G fun K J=>?_|refine uR Z ?_|refine uT Z ?_|refine uK ?_|refine uC1 Z ?_|(refine O J ?_;clear J)|apply zI));all_goals(rw[hw])
        |false=>
         cases s7:((c.toNat:Int)==43)with
         |true=>
          have hw:wB c=true:=(by simp only[wB,hlet,hdig,signs_c,s0,s1,s2,s3,s4,s5,s6,s7,Bool.or_true,Bool.true_or,Bool.false_or]);replace Z:=U c1 (U c3 (U s0 (U s1 (U s2 (U s3 (U s4 (U s5 (U s6 s7))))))));(repeat'(first|refine G fun K J=>?_|refine uR Z ?_|refine uT Z ?_|refine uK ?_|refine uC1 Z ?_|(refine O J ?_;clear J)|apply zI));all_goals(rw[hw])
         |false=>
          cases s8:((c.toNat:Int)==42)with
          |true=>
           have hw:wB c=true:=(by simp only[wB,hlet,hdig,signs_c,s0,s1,s2,s3,s4,s5,s6,s7,s8,Bool.or_true,Bool.true_or,Bool.false_or]);replace Z:=U c1 (U c3 (U s0 (U s1 (U s2 (U s3 (U s4 (U s5 (U s6 (U s7 s8)))))))));(repeat'(first|refine G fun K J=>?_|refine uR Z ?_|refine uT Z ?_|refine uK ?_|refine uC1 Z ?_|(refine O J ?_;clear J)|apply zI));all_goals(rw[hw])
          |false=>
           have hw:wB c=false:=(by simp only[wB,hlet,hdig,signs_c,s0,s1,s2,s3,s4,s5,s6,s7,s8,Bool.or_false]);replace Z:=U c1 (U c3 (U s0 (U s1 (U s2 (U s3 (U s4 (U s5 (U s6 (U s7 s8)))))))));(repeat'(first|refine G fun K J=>?_|refine uR Z ?_|refine uT Z ?_|refine uK ?_|refine uC1 Z ?_|(refine O J ?_;clear J)|apply zI));all_goals(rw[hw])
 ·replace Z:=U c1 (U c3 c4);repeat'(first|refine G fun K J=>?_|refine uR Z ?_|refine uT Z ?_|(refine O J ?_;clear J)|apply zI)
  all_goals(rw[hw])
 ·cases s0:((c.toNat:Int)==45)with
  |true=>
   have hw:wB c=true:=(by simp only[wB,hlet,hdig,signs_c,s0,Bool.or_true,Bool.true_or,Bool.false_or]);replace Z:=U c1 (U c3 (U c4 s0));(repeat'(first|refine G fun K J=>?_|refine uR Z ?_|refine uT Z ?_|refine uK ?_|refine uC1 Z ?_|(refine O J ?_;clear J)|apply zI));all_goals(rw[hw])
  |false=>
   cases s1:((c.toNat:Int)==95)with
   |true=>
    have hw:wB c=true:=(by simp only[wB,hlet,hdig,signs_c,s0,s1,Bool.or_true,Bool.true_or,Bool.false_or]);replace Z:=U c1 (U c3 (U c4 (U s0 s1)));(repeat'(first|refine G fun K J=>?_|refine uR Z ?_|refine uT Z ?_|refine uK ?_|refine uC1 Z ?_|(refine O J ?_;clear J)|apply zI));all_goals(rw[hw])
   |false=>
    cases s2:((c.toNat:Int)==63)with
    |true=>
     have hw:wB c=true:=(by simp only[wB,hlet,hdig,signs_c,s0,s1,s2,Bool.or_true,Bool.true_or,Bool.false_or]);replace Z:=U c1 (U c3 (U c4 (U s0 (U s1 s2))));(repeat'(first|refine G fun K J=>?_|refine uR Z ?_|refine uT Z ?_|refine uK ?_|refine uC1 Z ?_|(refine O J ?_;clear J)|apply zI));all_goals(rw[hw])
    |false=>
     cases s3:((c.toNat:Int)==58)with
     |true=>
      have hw:wB c=true:=(by simp only[wB,hlet,hdig,signs_c,s0,s1,s2,s3,Bool.or_true,Bool.true_or,Bool.false_or]);replace Z:=U c1 (U c3 (U c4 (U s0 (U s1 (U s2 s3)))));(repeat'(first|refine G fun K J=>?_|refine uR Z ?_|refine uT Z ?_|refine uK ?_|refine uC1 Z ?_|(refine O J ?_;clear J)|apply zI));all_goals(rw[hw])
     |false=>
      cases s4:((c.toNat:Int)==60)with
      |true=>
       have hw:wB c=true:=(by simp only[wB,hlet,hdig,signs_c,s0,s1,s2,s3,s4,Bool.or_true,Bool.true_or,Bool.false_or]);replace Z:=U c1 (U c3 (U c4 (U s0 (U s1 (U s2 (U s3 s4))))));(repeat'(first|refine G fun K J=>?_|refine uR Z ?_|refine uT Z ?_|refine uK ?_|refine uC1 Z ?_|(refine O J ?_;clear J)|apply zI));all_goals(rw[hw])
      |false=>
       cases s5:((c.toNat:Int)==62)with
       |true=>
        have hw:wB c=true:=(by simp only[wB,hlet,hdig,signs_c,s0,s1,s2,s3,s4,s5,Bool.or_true,Bool.true_or,Bool.false_or]);replace Z:=U c1 (U c3 (U c4 (U s0 (U s1 (U s2 (U s3 (U s4 s5)))))));(repeat'(first|refine G fun K J=>?_|refine uR Z ?_|refine uT Z ?_|refine uK ?_|refine uC1 Z ?_|(refine O J ?_;clear J)|apply zI));all_goals(rw[hw])
       |false=>
        cases s6:((c.toNat:Int)==61)with
        |true=>
         have hw:wB c=true:=(by simp only[wB,hlet,hdig,signs_c,s0,s1,s2,s3,s4,s5,s6,Bool.or_true,Bool.true_or,Bool.false_or]);replace Z:=U c1 (U c3 (U c4 (U s0 (U s1 (U s2 (U s3 (U s4 (U s5 s6))))))));(repeat'(first|refine G fun K J=>?_|refine uR Z ?_|refine uT Z ?_|refine uK ?_|refine uC1 Z ?_|(refine O J ?_;clear J)|apply zI));all_goals(rw[hw])
        |false=>
         cases s7:((c.toNat:Int)==43)with
         |true=>
          have hw:wB c=true:=(by simp only[wB,hlet,hdig,signs_c,s0,s1,s2,s3,s4,s5,s6,s7,Bool.or_true,Bool.true_or,Bool.false_or]);replace Z:=U c1 (U c3 (U c4 (U s0 (U s1 (U s2 (U s3 (U s4 (U s5 (U s6 s7)))))))));(repeat'(first|refine G fun K J=>?_|refine uR Z ?_|refine uT Z ?_|refine uK ?_|refine uC1 Z ?_|(refine O J ?_;clear J)|apply zI));all_goals(rw[hw])
         |false=>
          cases s8:((c.toNat:Int)==42)with
          |true=>
           have hw:wB c=true:=(by simp only[wB,hlet,hdig,signs_c,s0,s1,s2,s3,s4,s5,s6,s7,s8,Bool.or_true,Bool.true_or,Bool.false_or]);replace Z:=U c1 (U c3 (U c4 (U s0 (U s1 (U s2 (U s3 (U s4 (U s5 (U s6 (U s7 s8))))))))));(repeat'(first|refine G fun K J=>?_|refine uR Z ?_|refine uT Z ?_|refine uK ?_|refine uC1 Z ?_|(refine O J ?_;clear J)|apply zI));all_goals(rw[hw])
          |false=>
           have hw:wB c=false:=(by simp only[wB,hlet,hdig,signs_c,s0,s1,s2,s3,s4,s5,s6,s7,s8,Bool.or_false]);replace Z:=U c1 (U c3 (U c4 (U s0 (U s1 (U s2 (U s3 (U s4 (U s5 (U s6 (U s7 s8))))))))));(repeat'(first|refine G fun K J=>?_|refine uR Z ?_|refine uT Z ?_|refine uK ?_|refine uC1 Z ?_|(refine O J ?_;clear J)|apply zI));all_goals(rw[hw])
def wordR(s:ByteArray):Bool:=s.data.toList.all wB&&decide (1≤s.size)&&decide (s.size≤32)&&!(numB s)
theorem rword_c{h:Heap}{s:ByteArray}(hs:s.size≤bigN):PCall Tryz.prog 131 [sPV s] h fun r h'=>r= .sc (.bool (wordR s))∧h'=h:=by
 have hs':=hs;unfold bigN at hs';have htl:s.data.toList.length=s.size:=by rw[Array.length_toList];try rfl
 refine uG0 Tryz.func131 Tryz.ntmps131 Tryz.results131 Ty.hb_131 ?_;repeat'(first|refine G fun K J=>?_|refine a_block ?_|refine uR trivial ?_|(refine O J ?_;clear J)|apply zI)
 refine a_loop (fun m S h'=>h'=h∧S 0=sPV s∧ ∃ k:Nat,S 3= .sc (.int .i64 k)∧k≤s.size∧m=s.size-k∧ ∀ (i:Nat)(c:UInt8),i<k→s.data.toList[i]? =some c→wB c=true) s.size ?_ ?_
 ·simp only[Ty.w,simprocAttr];exact⟨0,rfl,by omega,rfl,by omega⟩
 ·rintro m S h' ⟨rfl,g0,k,g3,hk,rfl,hall⟩;by_cases hlt:k<s.size
  ·have hd:decide ((k:Int)<(s.size:Int))=true:=(by simp;omega);have w7:IntKind.i64.wrap ((k:Int)+1)=k+1:=(by rw[wrap64 (by omega) (by omega)]);obtain⟨c,hx⟩: ∃ c,s.data.toList[k]? =some c:=⟨_,List.getElem?_eq_getElem (by omega)⟩;have hr:s[k]? =some c:=(by rw[ba_get];exact hx);cases hg:wB c with
   |false=>
    have bad:s.data.toList.all wB=false:=(by rw[List.all_eq_false];exact⟨c,List.mem_of_getElem? hx,by simp[hg]⟩);have hw:wordR s=false:=(by simp only[wordR,bad,Bool.false_and]);replace Z:=U g0 (U g3 (U hd hr));(repeat'(first|refine G fun K J=>?_|refine uR Z ?_|refine uK ?_|refine uC1 Z ?_|(refine O J ?_;clear J)|apply zI));replace Z:=U g0 (U g3 (U hd (U hr (U hg @Bool.not_false))));refine uU Z (letter_c (c:=c)) ?_;replace Z:=U g0 (U g3 @Bool.not_false);(repeat'(first|refine G fun K J=>?_|refine uR Z ?_|refine uT Z ?_|(refine O J ?_;clear J)|apply zI));all_goals(rw[hw])
   |true=>
    replace Z:=U g0 (U g3 (U hd hr));(repeat'(first|refine G fun K J=>?_|refine uR Z ?_|refine uK ?_|refine uC1 Z ?_|(refine O J ?_;clear J)|apply zI));replace Z:=U g0 (U g3 (U hd (U hr (U hg @Bool.not_true))));refine uU Z (letter_c (c:=c)) ?_;replace Z:=U g0 (U g3 (U w7 @Bool.not_true));(repeat'(first|refine a_block ?_|refine uR Z ?_|refine uK ?_|(refine O J ?_;clear J)|apply zI));refine⟨s.size-(k+1),by omega,k+1,by simp,by omega,rfl,fun i c2 hi hw=>?_⟩;by_cases hik:i=k
    ·subst hik;rw[hx]at hw;simp at hw;rw[← hw];exact hg
    ·exact hall i c2 (by omega) hw
  ·have hd:decide ((k:Int)<(s.size:Int))=false:=(by simp;omega);have hok:s.data.toList.all wB=true:=by
    rw[List.all_eq_true];intro c hc;obtain⟨i,hi⟩:=List.getElem?_of_mem hc;exact hall i c (by have:=(List.getElem?_eq_some_iff.1 hi).1;omega) hi
   have e1:decide ((s.size:Int)≥1)=decide (1≤s.size):=decide_eq_decide.2 (by omega);have e2:decide ((s.size:Int)≤32)=decide (s.size≤32):=decide_eq_decide.2 (by omega);have hW:wordR s=(decide ((s.size:Int)≥1)&&decide ((s.size:Int)≤32)&&!(numB s)):=(by simp only[wordR,hok,e1,e2,Bool.true_and]);(try clear Z);clear hall e1 e2;have hn:=fun h:Heap=>rnumeric_c (h:=h) hs;cases q1:decide ((s.size:Int)≥1)with
   |false=>
    replace Z:=U g0 (U g3 (U hd q1));(repeat'(first|refine G fun K J=>?_|refine uR Z ?_|refine uT Z ?_|refine uX ?_|refine uC1 Z ?_|(refine O J ?_;clear J)|(clear J;refine O J ?_;clear J)|apply zI));all_goals(rw[hW,q1];try rfl)
   |true=>
    cases q2:decide ((s.size:Int)≤32)with
    |false=>
     replace Z:=U g0 (U g3 (U hd (U q1 q2)));(repeat'(first|refine G fun K J=>?_|refine uR Z ?_|refine uT Z ?_|refine uX ?_|refine uC1 Z ?_|(refine O J ?_;clear J)|(clear J;refine O J ?_;clear J)|apply zI));all_goals(rw[hW,q1,q2];try rfl)
    |true=>
     replace Z:=U g0 (U g3 (U hd (U q1 q2)));(repeat'(first|refine G fun K J=>?_|refine uR Z ?_|refine uX ?_|refine uC1 Z ?_|(refine O J ?_;clear J)|(clear J;refine O J ?_;clear J)|apply zI));refine uU (U q1 q2) (hn _) ?_;(repeat'(first|refine uT (U q1 q2) ?_|(refine O J ?_;clear J)|apply zI));all_goals(rw[hW,q1,q2];try rfl)
end Go.Proofs.YtblgchkahpgdjaaGreat
namespace Go.AM
mutual
def Sx.count:Sx→Int
 | .mk _ _ _ _ _ kids=>Sx.counts 1 kids
def Sx.counts(n:Int):List Sx→Int
 |[]=>n
 |k::ks=>Sx.counts (IntKind.i64.wrap (n+k.count)) ks
end
theorem Sx.counts_append: ∀ (l m:List Sx)(n:Int),Sx.counts n (l++m)=Sx.counts (Sx.counts n l) m
 |[],m,n=>by simp[Sx.counts]
 |k::l,m,n=>by simp only[List.cons_append,Sx.counts];exact Sx.counts_append l m _
theorem Sx.counts_take{l:List Sx}{i:Nat}{k:Sx}(n:Int)(h:l[i]? =some k):Sx.counts n (l.take (i+1))=IntKind.i64.wrap (Sx.counts n (l.take i)+k.count):=by
 rw[List.take_add_one,h,Sx.counts_append];try rfl
mutual
def Sx.depth:Sx→Nat
 | .mk kind _ _ _ _ kids=>if kind=3 then Sx.depths 0 kids+1 else Sx.depths 0 kids
def Sx.depths(n:Nat):List Sx→Nat
 |[]=>n
 |k::ks=>Sx.depths (max n k.depth) ks
end
theorem Sx.depths_append: ∀ (l m:List Sx)(n:Nat),Sx.depths n (l++m)=Sx.depths (Sx.depths n l) m
 |[],m,n=>by simp[Sx.depths]
 |k::l,m,n=>by simp only[List.cons_append,Sx.depths];exact Sx.depths_append l m _
theorem Sx.depths_take{l:List Sx}{i:Nat}{k:Sx}(n:Nat)(h:l[i]? =some k):Sx.depths n (l.take (i+1))=max (Sx.depths n (l.take i)) k.depth:=by
 rw[List.take_add_one,h,Sx.depths_append];try rfl
theorem Sx.depths_le: ∀ (l:List Sx)(n:Nat),n≤Sx.depths n l
 |[],n=>Nat.le_refl _
 |k::l,n=>by simp only[Sx.depths];exact Nat.le_trans (Nat.le_max_left _ _) (Sx.depths_le l _)
theorem Sx.depths_mem: ∀ {l:List Sx}{k:Sx}(n:Nat),k∈l→k.depth≤Sx.depths n l
 |k'::l,k,n,h=>by
  simp only[Sx.depths];rcases List.mem_cons.1 h with rfl|h
  ·exact Nat.le_trans (Nat.le_max_right _ _) (Sx.depths_le l _)
  ·exact Sx.depths_mem _ h
end Go.AM
namespace Go.Proofs.YtblgchkahpgdjaaGreat
open Go.AM
set_option maxHeartbeats 2000000
set_option maxRecDepth 20000
mutual
def shapedS:Sx→Bool
 | .mk kind value _ _ text kids=>
  if kind=1 then(value==0)&&kids.isEmpty&&wordR text
  else if kind=2 then(text.data.toList==(#[]:Array UInt8).toList)&&kids.isEmpty&&decide (value≥ -1099511627776)&&decide (value≤1099511627776)
  else if kind=3 then shapedSs kids&&((text.data.toList==(#[]:Array UInt8).toList)&&(value==0))
  else false
def shapedSs:List Sx→Bool
 |[]=>true
 |k::ks=>shapedS k&&shapedSs ks
end
theorem emp_lenS(l:List Sx):((l.length:Int)==0)=l.isEmpty:=by cases l<;>simp;omega
theorem rcount_c: ∀ (e:Sx),e.ok→ ∀ h:Heap,PCall Tryz.prog 21 [.agg e.cells] h fun r h'=>r= .sc (.int .i64 e.count)∧h'=h:=by
 refine Sx.ind ?_;intro kind value line col text kids ih hok h;simp only[Sx.ok]at hok;obtain⟨_,_,_,hk,hks⟩:=hok;rw[Sx.oks_iff]at hks;have hlen:=Sx.rows_len kids;simp only[Sx.cells,Sx.count];refine uG0 Tryz.func21 Tryz.ntmps21 Tryz.results21 Ty.hb_21 ?_;repeat'(first|refine G fun K J=>?_|refine a_block ?_|refine uR hlen ?_|(refine O J ?_;clear J)|apply zI)
 refine a_loop (fun m S h'=>h'=h∧S 1= .cptr (Sx.mk kind value line col text kids).cells∧ ∃ k:Nat,S 4= .sc (.int .i64 k)∧k≤kids.length∧m=kids.length-k∧S 3= .sc (.int .i64 (Sx.counts 1 (kids.take k)))) kids.length ?_ ?_
 ·simp only[Ty.w,simprocAttr];exact⟨rfl,0,rfl,by omega,rfl,by simp[Sx.counts]⟩
 ·rintro m S h' ⟨rfl,g1,k,g4,hkl,rfl,g3⟩;simp only[Sx.cells]at g1;by_cases hlt:k<kids.length
  ·have hd:decide ((k:Int)<(kids.length:Int))=true:=(by simp;omega);have w7:IntKind.i64.wrap ((k:Int)+1)=k+1:=(by unfold bigN at hk;rw[wrap64 (by omega) (by omega)]);obtain⟨e,hx⟩: ∃ e,kids[k]? =some e:=⟨_,List.getElem?_eq_getElem hlt⟩;have hmem:=List.mem_of_getElem? hx;have hc:=ih e hmem (hks e hmem);have hsz:=Sx.counts_take 1 hx;have hr:=Sx.rows_get hx;obtain⟨ki,va,li,co,te,ks⟩:=e;simp only[Sx.cells]at hr hc;replace Z:=U g1 (U g3 (U g4 (U hlen (U hd (U hr w7)))));(repeat'(first|refine G fun K J=>?_|refine a_block ?_|refine uR Z ?_|refine uQ Z fun K J=>?_|refine uK ?_|refine uC1 Z ?_|(refine O J ?_;clear J)|apply zI));replace Z:=U g1 (U g3 (U g4 (U hlen (U hd hr))));refine uU Z (hc _) ?_;replace Z:=U g1 (U g3 (U g4 w7));(repeat'(first|refine uR Z ?_|(refine O J ?_;clear J)|apply zI));exact⟨kids.length-(k+1),by omega,rfl,k+1,by simp,by omega,rfl,by rw[hsz]⟩
  ·have hd:decide ((k:Int)<(kids.length:Int))=false:=(by simp;omega);have hke:k=kids.length:=(by omega);subst hke;rw[List.take_length]at g3;replace Z:=U g1 (U g3 (U g4 (U hlen hd)));repeat'(first|refine G fun K J=>?_|refine uR Z ?_|refine uT Z ?_|refine uX ?_|refine uC1 Z ?_|(refine O J ?_;clear J)|(clear J;refine O J ?_;clear J)|apply zI)
theorem rdepth_c: ∀ (e:Sx),e.ok→e.depth≤bigN→ ∀ h:Heap,PCall Tryz.prog 84 [.agg e.cells] h fun r h'=>r= .sc (.int .i64 e.depth)∧h'=h:=by
 refine Sx.ind ?_;intro kind value line col text kids ih hok hdp h;simp only[Sx.ok]at hok;obtain⟨_,_,_,hk,hks⟩:=hok;rw[Sx.oks_iff]at hks;have hlen:=Sx.rows_len kids;simp only[Sx.depth]at hdp;have hdb:Sx.depths 0 kids≤bigN:=by split at hdp<;>omega
 simp only[Sx.cells,Sx.depth];refine uG0 Tryz.func84 Tryz.ntmps84 Tryz.results84 Ty.hb_84 ?_;repeat'(first|refine G fun K J=>?_|refine a_block ?_|refine uR hlen ?_|(refine O J ?_;clear J)|apply zI)
 refine a_loop (fun m S h'=>h'=h∧S 1= .cptr (Sx.mk kind value line col text kids).cells∧ ∃ k:Nat,S 4= .sc (.int .i64 k)∧k≤kids.length∧m=kids.length-k∧S 3= .sc (.int .i64 (Sx.depths 0 (kids.take k):Nat))) kids.length ?_ ?_
 ·simp only[Ty.w,simprocAttr];exact⟨rfl,0,rfl,by omega,rfl,by simp[Sx.depths]⟩
 ·rintro m S h' ⟨rfl,g1,k,g4,hkl,rfl,g3⟩;simp only[Sx.cells]at g1;by_cases hlt:k<kids.length
  ·have hd:decide ((k:Int)<(kids.length:Int))=true:=(by simp;omega);have w7:IntKind.i64.wrap ((k:Int)+1)=k+1:=(by unfold bigN at hk;rw[wrap64 (by omega) (by omega)]);obtain⟨e,hx⟩: ∃ e,kids[k]? =some e:=⟨_,List.getElem?_eq_getElem hlt⟩;have hmem:=List.mem_of_getElem? hx;have hc:=ih e hmem (hks e hmem) (Nat.le_trans (Sx.depths_mem 0 hmem) hdb);have hsz:=Sx.depths_take 0 hx;have hr:=Sx.rows_get hx;generalize Sx.depths 0 (kids.take k)=D at g3 hsz;generalize e.depth=E at hc hsz;obtain⟨ki,va,li,co,te,ks⟩:=e;simp only[Sx.cells]at hr hc;cases q:decide ((E:Int)>(D:Int))with
   |true=>
    have hm:max D E=E:=(by have:=of_decide_eq_true q;omega);replace Z:=U g1 (U g3 (U g4 (U hlen (U hd (U hr w7)))));(repeat'(first|refine G fun K J=>?_|refine uR Z ?_|refine uK ?_|refine uC1 Z ?_|(refine O J ?_;clear J)|apply zI));replace Z:=U g1 (U g3 (U g4 (U hlen (U hd (U hr q)))));refine uU Z (hc _) ?_;replace Z:=U g1 (U g3 (U g4 (U w7 q)));(repeat'(first|refine G fun K J=>?_|refine a_block ?_|refine uR Z ?_|refine uQ Z fun K J=>?_|(refine O J ?_;clear J)|apply zI));exact⟨kids.length-(k+1),by omega,rfl,k+1,by simp,by omega,rfl,by rw[hsz,hm]⟩
   |false=>
    have hm:max D E=D:=(by have:=of_decide_eq_false q;omega);replace Z:=U g1 (U g3 (U g4 (U hlen (U hd (U hr w7)))));(repeat'(first|refine G fun K J=>?_|refine uR Z ?_|refine uK ?_|refine uC1 Z ?_|(refine O J ?_;clear J)|apply zI));replace Z:=U g1 (U g3 (U g4 (U hlen (U hd (U hr q)))));refine uU Z (hc _) ?_;replace Z:=U g1 (U g3 (U g4 (U w7 q)));(repeat'(first|refine G fun K J=>?_|refine a_block ?_|refine uR Z ?_|refine uK ?_|(refine O J ?_;clear J)|apply zI));exact⟨kids.length-(k+1),by omega,rfl,k+1,by simp,by omega,rfl,by rw[hsz,hm]⟩
  ·have hd:decide ((k:Int)<(kids.length:Int))=false:=(by simp;omega);have hke:k=kids.length:=(by omega);subst hke;rw[List.take_length]at g3;generalize hD:Sx.depths 0 kids=D at g3 hdb;have wd:IntKind.i64.wrap ((D:Int)+1)=(D:Int)+1:=(by unfold bigN at hdb;rw[wrap64 (by omega) (by omega)]);cases q:(kind==3)with
   |true=>
    have hk3:kind=3:=(by simpa using q);replace Z:=U g1 (U g3 (U g4 (U hlen (U hd (U q wd)))));(repeat'(first|refine G fun K J=>?_|refine uR Z ?_|refine uT Z ?_|refine uX ?_|refine uC1 Z ?_|(refine O J ?_;clear J)|(clear J;refine O J ?_;clear J)|apply zI));rw[if_pos hk3,hD];simp
   |false=>
    have hk3:¬ kind=3:=(by simpa using q);replace Z:=U g1 (U g3 (U g4 (U hlen (U hd (U q wd)))));(repeat'(first|refine G fun K J=>?_|refine uR Z ?_|refine uT Z ?_|refine uK ?_|refine uX ?_|refine uC1 Z ?_|(refine O J ?_;clear J)|(clear J;refine O J ?_;clear J)|apply zI));rw[if_neg hk3,hD]
theorem rshaped_c: ∀ (e:Sx),e.ok→ ∀ h:Heap,PCall Tryz.prog 83 [.agg e.cells] h fun r h'=>r= .sc (.bool (shapedS e))∧h'=h:=by
 refine Sx.ind ?_;intro kind value line col text kids ih hok h;simp only[Sx.ok]at hok;obtain⟨_,_,ht,hk,hks⟩:=hok;rw[Sx.oks_iff]at hks;have hlen:=Sx.rows_len kids;have e1:=emp_lenS kids;have hw:=fun h:Heap=>rword_c (h:=h) ht;generalize hF:shapedS (.mk kind value line col text kids)=F;unfold shapedS at hF;rw[← e1]at hF;try clear Z
 clear e1;simp only[Sx.cells];cases k1:(kind==1)with
 |true=>
  rw[if_pos (by simpa using k1)]at hF;cases q1:(value==0)with
  |false=>
   rw[q1]at hF;simp only[Bool.false_and]at hF;subst hF;refine uG0 Tryz.func83 Tryz.ntmps83 Tryz.results83 Ty.hb_83 ?_;replace Z:=U k1 (U q1 hlen);repeat'(first|refine G fun K J=>?_|refine uR Z ?_|refine uT Z ?_|(refine O J ?_;clear J)|apply zI)
  |true=>
   rw[q1]at hF;cases q2:((kids.length:Int)==0)with
   |false=>
    rw[q2]at hF;simp only[Bool.false_and,Bool.and_false]at hF;subst hF;refine uG0 Tryz.func83 Tryz.ntmps83 Tryz.results83 Ty.hb_83 ?_;replace Z:=U k1 (U q1 (U q2 hlen));repeat'(first|refine G fun K J=>?_|refine uR Z ?_|refine uT Z ?_|(refine O J ?_;clear J)|apply zI)
   |true=>
    rw[q2]at hF;simp only[Bool.true_and]at hF;subst hF;refine uG0 Tryz.func83 Tryz.ntmps83 Tryz.results83 Ty.hb_83 ?_;replace Z:=U k1 (U q1 (U q2 hlen));(repeat'(first|refine G fun K J=>?_|refine uR Z ?_|(refine O J ?_;clear J)|apply zI));refine uU Z (hw _) ?_;repeat'(first|refine uT Z ?_|(refine O J ?_;clear J)|apply zI)
 |false=>
  rw[if_neg (by simpa using k1)]at hF;cases k2:(kind==2)with
  |true=>
   rw[if_pos (by simpa using k2)]at hF;cases q1:(text.data.toList==(#[]:Array UInt8).toList)with
   |false=>
    rw[q1]at hF;simp only[Bool.false_and]at hF;subst hF;refine uG0 Tryz.func83 Tryz.ntmps83 Tryz.results83 Ty.hb_83 ?_;replace Z:=U k1 (U k2 (U q1 hlen));repeat'(first|refine G fun K J=>?_|refine uR Z ?_|refine uT Z ?_|(refine O J ?_;clear J)|apply zI)
   |true=>
    rw[q1]at hF;cases q2:((kids.length:Int)==0)with
    |false=>
     rw[q2]at hF;simp only[Bool.false_and,Bool.and_false]at hF;subst hF;refine uG0 Tryz.func83 Tryz.ntmps83 Tryz.results83 Ty.hb_83 ?_;replace Z:=U k1 (U k2 (U q1 (U q2 hlen)));repeat'(first|refine G fun K J=>?_|refine uR Z ?_|refine uT Z ?_|(refine O J ?_;clear J)|apply zI)
    |true=>
     rw[q2]at hF;cases q3:decide (value≥ -1099511627776)with
     |false=>
      rw[q3]at hF;simp only[Bool.false_and,Bool.and_false]at hF;subst hF;refine uG0 Tryz.func83 Tryz.ntmps83 Tryz.results83 Ty.hb_83 ?_;replace Z:=U k1 (U k2 (U q1 (U q2 (U q3 hlen))));repeat'(first|refine G fun K J=>?_|refine uR Z ?_|refine uT Z ?_|(refine O J ?_;clear J)|apply zI)
     |true=>
      rw[q3]at hF;simp only[Bool.true_and]at hF;subst hF;refine uG0 Tryz.func83 Tryz.ntmps83 Tryz.results83 Ty.hb_83 ?_;replace Z:=U k1 (U k2 (U q1 (U q2 (U q3 hlen))));repeat'(first|refine G fun K J=>?_|refine uR Z ?_|refine uT Z ?_|(refine O J ?_;clear J)|apply zI)
  |false=>
   rw[if_neg (by simpa using k2)]at hF;cases k3:(kind==3)with
   |false=>
    rw[if_neg (by simpa using k3)]at hF;subst hF;refine uG0 Tryz.func83 Tryz.ntmps83 Tryz.results83 Ty.hb_83 ?_;replace Z:=U k1 (U k2 k3);repeat'(first|refine G fun K J=>?_|refine a_block ?_|refine uR Z ?_|refine uT Z ?_|refine uK ?_|(refine O J ?_;clear J)|apply zI)
   |true=>
    rw[if_pos (by simpa using k3)]at hF;refine uG0 Tryz.func83 Tryz.ntmps83 Tryz.results83 Ty.hb_83 ?_;replace Z:=U k1 (U k2 (U k3 hlen));(repeat'(first|refine G fun K J=>?_|refine a_block ?_|refine uR Z ?_|(refine O J ?_;clear J)|apply zI));refine a_loop (fun m S h'=>h'=h∧S 1= .cptr (Sx.mk kind value line col text kids).cells∧ ∃ k:Nat,S 3= .sc (.int .i64 k)∧k≤kids.length∧m=kids.length-k∧shapedSs kids=shapedSs (kids.drop k)) kids.length ?_ ?_
    ·simp only[Ty.w,simprocAttr];exact⟨rfl,0,rfl,by omega,rfl,by simp⟩
    ·rintro m S h' ⟨rfl,g1,k,g3,hkl,rfl,hinv⟩;simp only[Sx.cells]at g1;by_cases hlt:k<kids.length
     ·have hd:decide ((k:Int)<(kids.length:Int))=true:=(by simp;omega);have w7:IntKind.i64.wrap ((k:Int)+1)=k+1:=(by unfold bigN at hk;rw[wrap64 (by omega) (by omega)]);obtain⟨e,hx⟩: ∃ e,kids[k]? =some e:=⟨_,List.getElem?_eq_getElem hlt⟩;have hmem:=List.mem_of_getElem? hx;have hc:=ih e hmem (hks e hmem);rw[drop_of_get hx]at hinv;simp only[shapedSs]at hinv;have hr:=Sx.rows_get hx;generalize shapedS e=b at hc hinv;obtain⟨ki,va,li,co,te,ks⟩:=e;simp only[Sx.cells]at hr hc;cases b with
      |false=>
       rw[hinv]at hF;simp only[Bool.false_and]at hF;subst hF;replace Z:=U g1 (U g3 (U hlen (U hd (U hr w7))));(repeat'(first|refine G fun K J=>?_|refine uR Z ?_|refine uK ?_|refine uC1 Z ?_|(refine O J ?_;clear J)|apply zI));replace Z:=U g1 (U g3 (U hlen (U hd (U hr @Bool.not_false))));refine uU Z (hc _) ?_;replace Z:=U g1 (U g3 (U w7 @Bool.not_false));repeat'(first|refine G fun K J=>?_|refine uR Z ?_|refine uT Z ?_|(refine O J ?_;clear J)|apply zI)
      |true=>
       rw[Bool.true_and]at hinv;replace Z:=U g1 (U g3 (U hlen (U hd (U hr w7))));(repeat'(first|refine G fun K J=>?_|refine uR Z ?_|refine uK ?_|refine uC1 Z ?_|(refine O J ?_;clear J)|apply zI));replace Z:=U g1 (U g3 (U hlen (U hd (U hr @Bool.not_true))));refine uU Z (hc _) ?_;replace Z:=U g1 (U g3 (U w7 @Bool.not_true));(repeat'(first|refine a_block ?_|refine uR Z ?_|refine uK ?_|(refine O J ?_;clear J)|apply zI));exact⟨kids.length-(k+1),by omega,rfl,k+1,by simp,by omega,rfl,hinv⟩
     ·have hd:decide ((k:Int)<(kids.length:Int))=false:=(by simp;omega);rw[List.drop_eq_nil_of_le (by omega)]at hinv;rw[hinv]at hF;simp only[shapedSs,Bool.true_and]at hF;cases q1:(text.data.toList==(#[]:Array UInt8).toList)with
      |false=>
       rw[q1]at hF;simp only[Bool.false_and]at hF;subst hF;replace Z:=U g1 (U g3 (U hlen (U hd q1)));repeat'(first|refine G fun K J=>?_|refine uR Z ?_|refine uT Z ?_|refine uX ?_|refine uC1 Z ?_|(refine O J ?_;clear J)|(clear J;refine O J ?_;clear J)|apply zI)
      |true=>
       rw[q1]at hF;simp only[Bool.true_and]at hF;subst hF;replace Z:=U g1 (U g3 (U hlen (U hd q1)));repeat'(first|refine G fun K J=>?_|refine uR Z ?_|refine uT Z ?_|refine uX ?_|refine uC1 Z ?_|(refine O J ?_;clear J)|(clear J;refine O J ?_;clear J)|apply zI)
theorem rvalid_c{x:Sx}(hok:x.ok)(hd:x.depth≤bigN)(h:Heap):PCall Tryz.prog 34 [.agg x.cells] h fun r h'=>r= .sc (.bool (shapedS x&&decide ((x.depth:Int)≤32)&&decide (x.count≤4096)))∧h'=h:=by
 have c1:=rshaped_c x hok;have c2:=rdepth_c x hok hd;have c3:=rcount_c x hok;generalize shapedS x=b at c1⊢;generalize x.depth=D at c2⊢;generalize x.count=N at c3⊢;obtain⟨ki,va,li,co,te,ks⟩:=x;simp only[Sx.cells]at c1 c2 c3⊢;cases b with
 |false=>
  refine uG0 Tryz.func34 Tryz.ntmps34 Tryz.results34 Ty.hb_34 ?_;repeat'(first|refine G fun K J=>?_|refine uR trivial ?_|(refine O J ?_;clear J)|apply zI)
  refine uU trivial (c1 _) ?_;repeat'(first|refine uT trivial ?_|(refine O J ?_;clear J)|apply zI)
  all_goals rfl
 |true=>
  cases q:decide ((D:Int)≤32)with
  |false=>
   refine uG0 Tryz.func34 Tryz.ntmps34 Tryz.results34 Ty.hb_34 ?_;(repeat'(first|refine G fun K J=>?_|refine uR trivial ?_|(refine O J ?_;clear J)|apply zI));refine uU trivial (c1 _) ?_;(try apply zI);refine uU q (c2 _) ?_;(repeat'(first|refine uT q ?_|(refine O J ?_;clear J)|apply zI));all_goals rfl
  |true=>
   refine uG0 Tryz.func34 Tryz.ntmps34 Tryz.results34 Ty.hb_34 ?_;(repeat'(first|refine G fun K J=>?_|refine uR trivial ?_|(refine O J ?_;clear J)|apply zI));refine uU trivial (c1 _) ?_;(try apply zI);refine uU q (c2 _) ?_;(try apply zI);refine uU q (c3 _) ?_;(repeat'(first|refine uT q ?_|(refine O J ?_;clear J)|apply zI));all_goals(simp only[Bool.true_and])
end Go.Proofs.YtblgchkahpgdjaaGreat
namespace Go.AM
mutual
def Sx.nodes:Sx→Nat
 | .mk _ _ _ _ _ kids=>Sx.nodess kids+1
def Sx.nodess:List Sx→Nat
 |[]=>0
 |k::ks=>k.nodes+Sx.nodess ks
end
mutual
theorem Sx.count_eq: ∀ (x:Sx),x.nodes≤bigN→x.count=x.nodes
 | .mk _ _ _ _ _ kids,h=>by
  simp only[Sx.nodes]at h;simp only[Sx.count,Sx.nodes];have:=Sx.counts_eq kids 1 (by omega);simp only[Int.natCast_one]at this;rw[this];congr 1;omega
theorem Sx.counts_eq: ∀ (l:List Sx)(n:Nat),n+Sx.nodess l≤bigN→Sx.counts n l=(n+Sx.nodess l:Nat)
 |[],n,h=>by simp[Sx.counts,Sx.nodess]
 |k::ks,n,h=>by
  simp only[Sx.nodess]at h;simp only[Sx.counts,Sx.nodess];rw[Sx.count_eq k (by omega)];have hw:IntKind.i64.wrap ((n:Int)+(k.nodes:Int))=((n+k.nodes:Nat):Int):=by unfold bigN at h;rw[wrap64 (by omega) (by omega)];omega
  rw[hw,Sx.counts_eq ks (n+k.nodes) (by omega)];congr 1;omega
end
end Go.AM
namespace Go.Proofs.YtblgchkahpgdjaaGreat
open Go.AM
theorem lowB_self(c:UInt8):lowB c=some c↔wB c=true:=by
 unfold lowB;cases hu:upB c with
 |true=>
  have h1:65≤c.toNat∧c.toNat≤90:=by simpa[upB]using hu
  have hw:wB c=false:=by
   have h2:letB c=false:=(by simp[letB];omega);have h3:digB c=false:=(by simp[digB];omega);have h4:signs.contains c=false:=by
    rw[signs_c];have: ∀ v:Int,v=45∨v=95∨v=63∨v=58∨v=60∨v=62∨v=61∨v=43∨v=42→((c.toNat:Int)==v)=false:=by
     intro v hv;rw[beq_eq_false_iff_ne];omega
    simp[this]
   simp only[wB,h2,h3,h4,Bool.or_false]
  rw[hw];simp only[if_true,Option.some.injEq,Bool.false_eq_true,iff_false];intro e;have:=congrArg UInt8.toNat e;rw[UInt8.toNat_add]at this;simp at this;omega
 |false=>
  simp only[Bool.false_eq_true,if_false];cases wB c<;>simp
theorem lowL_self: ∀ l:List UInt8,lowL l=some l↔l.all wB=true
 |[]=>by simp[lowL]
 |c::l=>by
  have h1:=lowB_self c;have h2:=lowL_self l;simp only[lowL,List.all_cons,Bool.and_eq_true];cases hc:lowB c with
  |none=>rw[hc]at h1;simp at h1⊢;intro hw;rw[h1]at hw;simp at hw
  |some d=>
   rw[hc]at h1;cases hl:lowL l with
   |none=>rw[hl]at h2;simp at h2⊢;intro _;simpa using h2
   |some p=>
    rw[hl]at h2;simp only[Option.map_some,Option.some.injEq,List.cons.injEq];rw[← h1, ← h2];simp
theorem word_same(s:ByteArray):wordB s=wordR s:=by
 have hsl:s.data.toList.length=s.size:=by rw[Array.length_toList];try rfl
 have hself:=lowL_self s.data.toList;unfold wordB wordR lowS;by_cases hc:0<s.size∧s.size≤32
 ·rw [if_pos hc];have d1:decide (1≤s.size)=true:=by simp;omega
  have d2:decide (s.size≤32)=true:=by simp;omega
  rw[d1,d2];cases hl:lowL s.data.toList with
  |none=>
   rw[hl]at hself;have:s.data.toList.all wB=false:=by
    cases h:s.data.toList.all wB with
    |false=>rfl
    |true=>rw[h]at hself;simp at hself
   simp only[this,Bool.false_and]
  |some p=>
   rw[hl]at hself;cases h:s.data.toList.all wB with
   |true=>
    rw[h]at hself;have hp:p=s.data.toList:=(by simpa using hself);subst hp;have:(⟨s.data.toList.toArray⟩:ByteArray)=s:=ba_ext rfl;simp only[this,bEq,beq_self_eq_true,Bool.true_and]
   |false=>
    rw[h]at hself;have hp:¬ p=s.data.toList:=(by simpa using hself);have:bEq (⟨p.toArray⟩:ByteArray) s=false:=(by simp only[bEq,beq_eq_false_iff_ne];exact hp);simp only[this,Bool.and_false,Bool.false_and]
 ·rw [if_neg hc];have:(decide (1≤s.size)&&decide (s.size≤32))=false:=by
   cases h:(decide (1≤s.size)&&decide (s.size≤32))with
   |false=>rfl
   |true=>
    simp only[Bool.and_eq_true,decide_eq_true_eq]at h;exact absurd ⟨by omega,h.2⟩ hc
  simp only[Bool.false_and];rw[Bool.and_assoc (s.data.toList.all wB),this];simp
mutual
theorem svalid_iff: ∀ (x:Sx)(d n:Nat),d≤32→n≤4096→((svalid x d n).1=true↔shapedS x=true∧d+x.depth≤32∧n+x.nodes≤4096)∧((svalid x d n).1=true→(svalid x d n).2=n+x.nodes)
 | .mk kind value line col text kids,d,n,hd,hn=>by
  have e1:(kids.isEmpty=true)↔kids=[]:=List.isEmpty_iff;unfold svalid shapedS;simp only[Sx.depth,Sx.nodes];by_cases h0:n+1>4096
  ·rw [if_pos h0];refine⟨⟨by simp,fun⟨_,_,h⟩=>by omega⟩,by simp⟩
  ·rw [if_neg h0];by_cases k1:kind=1
   ·rw [if_pos k1,if_pos k1,word_same];have k3:¬ kind=3:=(by omega);rw[if_neg k3];simp only[Bool.and_eq_true,e1,decide_eq_true_eq,beq_iff_eq];constructor
    ·constructor
     ·rintro ⟨⟨h1,h2⟩,rfl⟩;exact⟨⟨⟨h2,rfl⟩,h1⟩,by simp only[Sx.depths];omega,by simp only[Sx.nodess];omega⟩
     ·rintro ⟨⟨⟨h1,h2⟩,h3⟩,_⟩;exact⟨⟨h3,h1⟩,h2⟩
    ·rintro ⟨_,rfl⟩;simp[Sx.nodess]
   ·rw [if_neg k1,if_neg k1];by_cases k2:kind=2
    ·rw [if_pos k2,if_pos k2];have k3:¬ kind=3:=(by omega);rw[if_neg k3];simp only[Bool.and_eq_true,e1,decide_eq_true_eq,bEq,ge_iff_le];constructor
     ·constructor
      ·rintro ⟨⟨⟨h1,rfl⟩,h3⟩,h4⟩;exact⟨⟨⟨⟨h1,rfl⟩,h3⟩,h4⟩,by simp only[Sx.depths];omega,by simp only[Sx.nodess];omega⟩
      ·rintro ⟨⟨⟨⟨h1,h2⟩,h3⟩,h4⟩,_⟩;exact⟨⟨⟨h1,h2⟩,h3⟩,h4⟩
     ·rintro ⟨⟨⟨_,rfl⟩,_⟩,_⟩;simp[Sx.nodess]
    ·rw [if_neg k2,if_neg k2];by_cases k3:kind=3
     ·rw [if_pos k3,if_pos k3,if_pos k3];simp only[Bool.and_eq_true,beq_iff_eq];by_cases hc:bEq text ⟨#[]⟩=true∧value=0∧d≠32
      ·rw [if_pos hc];obtain⟨g1,g2⟩:=svalids_iff kids (d+1) (n+1) (by omega) (by omega);rw[g1];refine⟨⟨fun⟨h1,h2,h3⟩=>⟨⟨h1,by simpa[bEq]using hc.1,hc.2.1⟩,by omega,by omega⟩,fun⟨⟨h1,_,_⟩,h2,h3⟩=>⟨h1,by omega,by omega⟩⟩,fun h=>?_⟩;rw[g2 (g1.2 h)];omega
      ·rw [if_neg hc];refine⟨⟨by simp,fun⟨⟨h1,h4,h5⟩,h2,h3⟩=>?_⟩,by simp⟩;exact absurd ⟨by simp only[bEq,beq_iff_eq];exact h4,h5,by omega⟩ hc
     ·rw [if_neg k3,if_neg k3];simp
theorem svalids_iff: ∀ (l:List Sx)(d n:Nat),d≤32→n≤4096→((svalids l d n).1=true↔shapedSs l=true∧d+Sx.depths 0 l≤32∧n+Sx.nodess l≤4096)∧((svalids l d n).1=true→(svalids l d n).2=n+Sx.nodess l)
 |[],d,n,hd,hn=>by simp[svalids,shapedSs,Sx.depths,Sx.nodess,hd,hn]
 |k::ks,d,n,hd,hn=>by
  obtain⟨g1,g2⟩:=svalid_iff k d n hd hn;have hdm: ∀ (m:Nat)(l:List Sx),Sx.depths m l=max m (Sx.depths 0 l):=by
   intro m l
   induction l generalizing m with
   |nil=>simp[Sx.depths]
   |cons k l ih=>simp only[Sx.depths];rw[ih (max m k.depth),ih (max 0 k.depth)];omega
  simp only[svalids,shapedSs,Sx.depths,Sx.nodess,Bool.and_eq_true];rw[hdm];cases hb:svalid k d n with
  |mk b n'=>
   rw[hb]at g1 g2;cases b with
   |false=>
    simp only at g1⊢;refine⟨⟨by simp,fun⟨⟨h1,_⟩,h2,h3⟩=>?_⟩,by simp⟩;exact absurd (g1.2 ⟨h1,by omega,by omega⟩) (by simp)
   |true=>
    simp only at g1 g2⊢;obtain⟨a1,a2,a3⟩:=g1.1 trivial;have e:=g2 trivial;obtain⟨f1,f2⟩:=svalids_iff ks d n' hd (by omega);rw[f1];refine⟨⟨fun⟨h1,h2,h3⟩=>⟨⟨a1,h1⟩,by omega,by omega⟩,fun⟨⟨_,h1⟩,h2,h3⟩=>⟨h1,by omega,by omega⟩⟩,fun h=>?_⟩;rw[f2 (f1.2 h)];omega
end
def rvalidB(x:Sx):Bool:=shapedS x&&decide ((x.depth:Int)≤32)&&decide (x.count≤4096)
theorem valid_same{x:Sx}(h:x.nodes≤bigN):(svalid x 0 0).1=rvalidB x:=by
 have h1:=(svalid_iff x 0 0 (by omega) (by omega)).1;unfold rvalidB;rw[Sx.count_eq x h];rw[Bool.eq_iff_iff,h1];simp only[Bool.and_eq_true,decide_eq_true_eq];constructor
 ·rintro ⟨a,b,c⟩;exact⟨⟨a,by omega⟩,by omega⟩
 ·rintro ⟨⟨a,b⟩,c⟩;exact⟨a,by omega,by omega⟩
end Go.Proofs.YtblgchkahpgdjaaGreat
namespace Go.AM
mutual
theorem Sx.small_of: ∀ (x:Sx),x.nodes≤1048576→x.small
 | .mk _ _ _ _ _ kids,h=>by
  simp only[Sx.nodes]at h;simp only[Sx.small];have:=Sx.smalls_of kids (by omega);exact⟨by omega,this.2⟩
theorem Sx.smalls_of: ∀ (l:List Sx),Sx.nodess l≤1048576→l.length≤Sx.nodess l∧Sx.smalls l
 |[],_=>by simp[Sx.nodess,Sx.smalls]
 |k::ks,h=>by
  simp only[Sx.nodess]at h;have h1:=Sx.small_of k (by omega);have h2:=Sx.smalls_of ks (by omega);have h3:1≤k.nodes:=by cases k;simp only[Sx.nodes];omega
  simp only[Sx.nodess,Sx.smalls,List.length_cons];exact⟨by omega,h1,h2.2⟩
end
end Go.AM
namespace Go.Proofs.YtblgchkahpgdjaaGreat
open Go.AM
theorem svalid_small{x:Sx}(h:(svalid x 0 0).1=true):x.small:=by
 have:=(svalid_iff x 0 0 (by omega) (by omega)).1.1 h;exact Sx.small_of x (by omega)
theorem termsM_ok: ∀ {l:List Sx},(∀ x∈l,x.ok)→(∀ s∈(termsM l).1,s.size≤bigN)∧(termsM l).1.length≤l.length
 |[],_=>by simp[termsM]
 |x::l,h=>by
  have h1:=termsM_ok (l:=l) fun y hy=>h y (by simp[hy]);have h2:(textOf x).size≤bigN:=by
   have:=h x (by simp);obtain⟨_,_,_,_,t,_⟩:=x;simp only[Sx.ok]at this;exact this.2.2.1
  simp only[termsM];cases kindOf x==1 with
  |false=>simp
  |true=>
   cases termB (textOf x)with
   |false=>simp
   |true=>
    simp only[cond_true];cases hq:(termsM l).2==0 with
    |false=>simp
    |true=>
     simp only[cond_true,List.mem_cons,List.length_cons];exact⟨fun s hs=>hs.elim (fun e=>by rw[e];exact h2) (h1.1 s),by omega⟩
theorem zeroEx_ok:zeroEx.ok∧zeroEx.small:=by
 simp only[zeroEx,Ex.ok,Ex.oks,Ex.small,Ex.smalls,List.length_nil];refine⟨⟨by simp[bigN,ByteArray.size],by simp[bigN,ByteArray.size],by omega,⟨by simp,by simp⟩,by simp,trivial⟩,by omega,trivial⟩
theorem exprP_ok: ∀ x:Sx,x.ok→x.small→(exprP x).1.ok∧(exprP x).1.small:=by
 refine Sx.ind ?_;intro kind value line col text kids ih hok hsm;have hok':=hok;simp only[Sx.ok]at hok';obtain⟨hq1,hv,hq3,hq4,hks⟩:=hok';rw[Sx.oks_iff]at hks;simp only[Sx.small]at hsm;obtain⟨hl,hss⟩:=hsm;rw[Sx.smalls_iff]at hss;rw[exprP_head];have kk:kindOf (.mk kind value line col text kids)=kind:=rfl;rw[kk];cases hk:kind==2 with
 |true=>
  simp only[cond_true,Ex.ok,Ex.oks,Ex.small,Ex.smalls,List.length_nil];exact⟨⟨by simp[opNum,bigN,ByteArray.size],by simp[bigN,ByteArray.size],hv,⟨by simp,by simp⟩,by simp,trivial⟩,by omega,trivial⟩
 |false=>
  simp only[cond_false];cases hM:headM (.mk kind value line col text kids)with
  |none=>exact zeroEx_ok
  |some wr=>
   obtain⟨w,rest⟩:=wr;obtain⟨hw,hr⟩:=headM_ok hok hM;obtain⟨y,rfl⟩:=headM_rest hM;simp only;cases hp:isPm w with
   |true=>
    simp only[cond_true];split
    ·rename_i a b;have ha:=ih a (by simp) (hks a (by simp)) (hss a (by simp));have hb:=ih b (by simp) (hks b (by simp)) (hss b (by simp));cases q1:(exprP a).2==0 with
     |false=>exact zeroEx_ok
     |true=>
      cases q2:(exprP b).2==0 with
      |false=>exact zeroEx_ok
      |true=>
       simp only[cond_true,Ex.ok,Ex.oks,Ex.small,Ex.smalls,List.length_nil,List.length_cons];exact⟨⟨hw,by simp[bigN,ByteArray.size],by omega,⟨by simp,by simp⟩,by simp[bigN],ha.1,hb.1,trivial⟩,by omega,ha.2,hb.2,trivial⟩
    ·exact zeroEx_ok
   |false=>
    simp only[cond_false];cases nameB w with
    |false=>exact zeroEx_ok
    |true=>
     have ht:=termsM_ok hr;simp only[cond_true];cases q1:(termsM rest).2==0 with
     |false=>exact zeroEx_ok
     |true=>
      simp at hl;simp only[cond_true,Ex.ok,Ex.oks,Ex.small,Ex.smalls,List.length_nil];exact⟨⟨by simp[opFlu,bigN,ByteArray.size],hw,by omega,⟨by have:=ht.2;unfold bigN;omega,ht.1⟩,by simp,trivial⟩,by have:=ht.2;omega,trivial⟩
end Go.Proofs.YtblgchkahpgdjaaGreat
namespace Go.Proofs.YtblgchkahpgdjaaGreat
open Go.AM
def kidsOf:Sx→List Sx
 | .mk _ _ _ _ _ kids=>kids
def isWrd(x:Sx):Bool:=kindOf x==1&&(svalid x 0 0).1
def pmsOf(t:ByteArray)(l:List ByteArray):List Pm:=l.map (⟨·,t⟩)
def paramsL(vars:Bool):List Sx→List Pm→List ByteArray→List Pm × Int
 |[],don,pen=>(don++pmsOf opObj pen,0)
 | x :: l, don, pen => bif isWrd x then
   (bif bEq (textOf x) opMin then (match l with
    |[]=>([],2)
    |t::l'=>bif !pen.isEmpty&&isWrd t then(bif typedB (textOf t)then paramsL vars l' (don++pmsOf (textOf t) pen) []else([],8))else([],2))
   else bif (bif vars then varB (textOf x)else nameB (textOf x))then paramsL vars l don (pen++[textOf x])else([],8))
  else([],2)
def paramsP(vars:Bool)(l:List Sx):List Pm × Int:=paramsL vars l [] []
def compareP(w:ByteArray)(x y:Sx):Fm × Int:=
 bif bEq w opEq&&kindOf x==1&&kindOf y==1 then(.mk opSame ⟨#[]⟩ (termsM [x,y]).1 [] [] [],(termsM [x,y]).2)
 else bif (exprP x).2==0 then(bif (exprP y).2==0 then
   (if bEq w opGt then(.mk opLt ⟨#[]⟩ [] [] [(exprP y).1,(exprP x).1] [],0)
   else if bEq w opGe then(.mk opLe ⟨#[]⟩ [] [] [(exprP y).1,(exprP x).1] [],0)
   else(.mk w ⟨#[]⟩ [] [] [(exprP x).1,(exprP y).1] [],0))else(zeroFm,(exprP y).2))else(zeroFm,(exprP x).2)
def fin(r:Fm × Int):Fm × Int:=bif r.2==0 then r else(zeroFm,r.2)
def isCmp5(w:ByteArray):Bool:=isCmp w||bEq w opGt||bEq w opGe
def isLst(w:ByteArray):Bool:=bEq w opNot||bEq w opImp||bEq w opAnd||bEq w opOr
mutual
def fmP:Sx→Fm × Int
 | .mk kind _ _ _ _ kids=>
  if kind=3 then(match kids with
   |[]=>(.mk opAnd ⟨#[]⟩ [] [] [] [],0)
   |x::rest=>bif kindOf x==1 then
    (bif decide (countW (textOf x)≥0)&&!(decide (countW (textOf x)=rest.length))then(zeroFm,2)
    else bif isQ (textOf x)then(match rest with
     |[]=>(zeroFm,2)
     |p::body=>bif kindOf p==3 then(bif (paramsP true (kidsOf p)).2==0 then(match fmPs body with
       |(ks,c)=>bif c==0 then(.mk (textOf x) ⟨#[]⟩ [] (paramsP true (kidsOf p)).1 [] ks,0)else(zeroFm,c))
      else(zeroFm,(paramsP true (kidsOf p)).2))else(zeroFm,2))
    else bif isLst (textOf x)then(match fmPs rest with
     |(ks,c)=>bif c==0 then(.mk (textOf x) ⟨#[]⟩ [] [] [] ks,0)else(zeroFm,c))
    else bif isCmp5 (textOf x)then(match rest with
     |[a,b]=>fin (compareP (textOf x) a b)
     |_=>(zeroFm,2))
    else bif nameB (textOf x)then(bif (termsM rest).2==0 then(.mk opAtom (textOf x) (termsM rest).1 [] [] [],0)else(zeroFm,(termsM rest).2))
    else(zeroFm,8))
   else(zeroFm,2))else(zeroFm,2)
def fmPs:List Sx→List Fm × Int
 |[]=>([],0)
 |x::l=>match fmP x with
  | (f, c) => bif c == 0 then (match fmPs l with
   |(fs,c')=>bif c'==0 then(f::fs,0)else([],c'))else([],c)
end
end Go.Proofs.YtblgchkahpgdjaaGreat
namespace Go.Proofs.YtblgchkahpgdjaaGreat
open Go.AM
theorem name_ne{s w:ByteArray}(h:nameB s=true)(hw:nameB w=false):bEq s w=false:=by
 cases he:bEq s w with
 |false=>rfl
 |true=>rw[bEq_eq he,hw]at h;simp at h
theorem countW_eq(op:ByteArray):countW op=if bEq op opNot then 1 else if bEq op opImp then 2 else if bEq op opAll then 2 else if bEq op opSome then 2 else if bEq op opEq then 2 else if bEq op opLt then 2 else if bEq op opLe then 2 else if bEq op opGt then 2 else if bEq op opGe then 2 else-1:=rfl
theorem name_count{s:ByteArray}(h:nameB s=true):countW s= -1∧isQ s=false∧isLst s=false∧isCmp5 s=false:=by
 rw[countW_eq];unfold isQ isLst isCmp5 isCmp;rw[name_ne h (w:=opNot) (by decide),name_ne h (w:=opImp) (by decide),name_ne h (w:=opAll) (by decide),name_ne h (w:=opSome) (by decide),name_ne h (w:=opEq) (by decide),name_ne h (w:=opLt) (by decide),name_ne h (w:=opLe) (by decide),name_ne h (w:=opGt) (by decide),name_ne h (w:=opGe) (by decide),name_ne h (w:=opAnd) (by decide),name_ne h (w:=opOr) (by decide)];exact⟨rfl,rfl,rfl,rfl⟩
theorem partsOk_cases{op name:ByteArray}{args:List ByteArray}{params:List Pm}{ne nk:Nat}(h:partsOk op name args params ne nk=true):
  (op=opAtom∧nameB name=true∧args.all termB=true∧params=[]∧ne=0∧nk=0)∨
  (op=opSame∧name=⟨#[]⟩∧args.length=2∧args.all termB=true∧params=[]∧ne=0∧nk=0)∨
  ((op=opLt∨op=opLe∨op=opEq)∧name=⟨#[]⟩∧args=[]∧params=[]∧ne=2∧nk=0)∨
  ((op=opAnd∨op=opOr∨(op=opNot∧nk=1)∨(op=opImp∧nk=2))∧name=⟨#[]⟩∧args=[]∧params=[]∧ne=0)∨
  ((op=opAll∨op=opSome)∧name=⟨#[]⟩∧args=[]∧ne=0∧nk=1∧params.all pmOk=true):=by
 unfold partsOk shapeOf at h;have t1: ∀ o:ByteArray,bEq o opAtom=false→bEq o opSame=false→termsOk o name args=true→name=⟨#[]⟩∧args=[]:=by
  intro o h1 h2 h3;unfold termsOk at h3;rw[h1,h2]at h3;simp only[Bool.false_eq_true,if_false,Bool.and_eq_true,List.isEmpty_iff]at h3;exact⟨bEq_eq h3.1,h3.2⟩
 cases c1:bEq op opAtom with
 |true=>
  have:=bEq_eq c1;subst this;left;simp[c1,termsOk,and_assoc]at h;exact⟨rfl,h.1,by simpa using h.2.1,h.2.2.2.2.1,h.2.2.1,h.2.2.2.1⟩
 |false=>
 cases c2:bEq op opSame with
 |true=>
  have:=bEq_eq c2;subst this;right;left;simp[c1,c2,termsOk,and_assoc]at h;obtain⟨h1,h2,h3,h4,h5,h6,_⟩:=h;exact⟨rfl,bEq_eq h1,h2,by simpa using h3,h6,h4,h5⟩
 |false=>
  have t2:=t1 op c1 c2;rw[c1,c2]at h;simp only[Bool.false_eq_true,if_false]at h;right;right;by_cases c3:bEq op opLt=true∨bEq op opLe=true∨bEq op opEq=true
  ·left;have h':termsOk op name args=true∧ne=2∧nk=0∧params=[]:=by
    split at h
    ·simp at h
    ·rename_i e m q he;have:(e,m,q)=(2,0,false):=by
      rcases c3 with c|c|c
      ·simp [c]at he;simp[he]
      ·by_cases c0:bEq op opLt=true
       ·simp [c0]at he;simp[he]
       ·simp [c0,c]at he;simp[he]
      ·by_cases c0:bEq op opLt=true
       ·simp [c0]at he;simp[he]
       ·by_cases c00:bEq op opLe=true
        ·simp [c0,c00]at he;simp[he]
        ·simp [c0,c00,c]at he;simp[he]
     simp at this;obtain⟨rfl,rfl,rfl⟩:=this;simp[and_assoc]at h;exact⟨h.1,h.2.1,h.2.2.1,h.2.2.2.1⟩
   obtain⟨g1,g2,g3,g4⟩:=h';obtain⟨g5,g6⟩:=t2 g1;exact⟨c3.imp bEq_eq (fun c=>c.imp bEq_eq bEq_eq),g5,g6,g4,g2,g3⟩
  ·simp only[not_or,Bool.not_eq_true]at c3;rw[c3.1,c3.2.1,c3.2.2]at h;simp only[Bool.false_eq_true,if_false]at h;right;cases c4:bEq op opAnd with
   |true=>
    left;simp[c4,and_assoc]at h;exact⟨.inl (bEq_eq c4),(t2 h.1).1,(t2 h.1).2,h.2.2.1,h.2.1⟩
   |false=>
   cases c5:bEq op opOr with
   |true=>
    left;simp[c4,c5,and_assoc]at h;exact⟨.inr (.inl (bEq_eq c5)),(t2 h.1).1,(t2 h.1).2,h.2.2.1,h.2.1⟩
   |false=>
   cases c6:bEq op opNot with
   |true=>
    left;simp[c4,c5,c6,and_assoc]at h;exact⟨.inr (.inr (.inl ⟨bEq_eq c6,h.2.2.1⟩)),(t2 h.1).1,(t2 h.1).2,h.2.2.2.1,h.2.1⟩
   |false=>
   cases c7:bEq op opImp with
   |true=>
    left;simp[c4,c5,c6,c7,and_assoc]at h;exact⟨.inr (.inr (.inr ⟨bEq_eq c7,h.2.2.1⟩)),(t2 h.1).1,(t2 h.1).2,h.2.2.2.1,h.2.1⟩
   |false=>
   cases c8:bEq op opAll with
   |true=>
    right;simp[c4,c5,c6,c7,c8,and_assoc]at h;exact⟨.inl (bEq_eq c8),(t2 h.1).1,(t2 h.1).2,h.2.1,h.2.2.1,by simpa using h.2.2.2⟩
   |false=>
   cases c9:bEq op opSome with
   |true=>
    right;simp[c4,c5,c6,c7,c8,c9,and_assoc]at h;exact⟨.inr (bEq_eq c9),(t2 h.1).1,(t2 h.1).2,h.2.1,h.2.2.1,by simpa using h.2.2.2⟩
   |false=>simp[c4,c5,c6,c7,c8,c9]at h
theorem midB_low{c:UInt8}(h:midB c=true):lowB c=some c:=by
 have h45:c.toNat=45→c=45:=fun e=>UInt8.toNat_inj.1 (by rw[e];try rfl);have h95:c.toNat=95→c=95:=fun e=>UInt8.toNat_inj.1 (by rw[e];try rfl);have hu:upB c=false:=by
  unfold midB letB at h;unfold upB;simp at h⊢;omega
 have hw:wB c=true:=by
  unfold wB digB;unfold midB at h;simp only[Bool.or_eq_true]at h⊢;rcases h with((h|h)|h)|h
  ·exact .inl (.inl h)
  ·exact .inl (.inr h)
  ·rw [h45 (by simpa using h)];exact .inr (by decide)
  ·rw [h95 (by simpa using h)];exact .inr (by decide)
 unfold lowB;rw[hu,hw];try rfl
theorem lowL_mid: ∀ {l:List UInt8},l.all midB=true→lowL l=some l
 |[],_=>rfl
 |c::l,h=>by
  simp only[List.all_cons,Bool.and_eq_true]at h;simp only[lowL,midB_low h.1,lowL_mid h.2,Option.map_some]
theorem bytesOk_mid{l:List UInt8}(h:bytesOkB l=true):l.all midB=true:=by
 cases l with
 |nil=>rfl
 |cons c l=>
  simp only[bytesOkB,Bool.and_eq_true]at h;simp only[List.all_cons,Bool.and_eq_true];exact⟨letB_mid h.1,h.2⟩
theorem word_of{s:ByteArray}(h1:0<s.size)(h2:s.size≤32)(h3:lowL s.data.toList=some s.data.toList)(h4: ∀ c l,s.data.toList=c::l→digB c=false∧c≠45):wordB s=true:=by
 have hl:lowS s=(s,true):=by
  unfold lowS;rw[if_pos ⟨h1,h2⟩,h3]
 unfold wordB;rw[hl];have hn:numB s=false:=by
  have hsz:s.data.toList≠[]:=by
   intro e;have:s.data.toList.length=0:=(by rw[e];try rfl);rw[Array.length_toList]at this;have:s.size=0:=this;omega
  unfold numB trimB;cases he:s.data.toList with
  |nil=>exact(hsz he).elim
  |cons c l=>
   obtain⟨g1,g2⟩:=h4 c l he;split
   ·rename_i e;simp at e;exact(g2 e.1).elim
   ·rw [he,List.all_cons,g1];try rfl
 simp[hn,bEq]
theorem name_word{s:ByteArray}(h:nameB s=true):wordB s=true:=by
 unfold nameB at h;simp only[Bool.and_eq_true,decide_eq_true_eq]at h;obtain⟨⟨⟨h1,h2⟩,h3⟩,_⟩:=h;refine word_of h2 h3 (lowL_mid (bytesOk_mid h1)) ?_;intro c l he;rw[he]at h1;simp only[bytesOkB,Bool.and_eq_true]at h1;have h4:=h1.1;unfold letB at h4;simp at h4;refine⟨by unfold digB;simp;omega,fun e=>?_⟩;subst e;simp at h4
theorem var_word{s:ByteArray}(h:varB s=true):wordB s=true∧bEq s opMin=false:=by
 unfold varB at h;simp only[Bool.and_eq_true,decide_eq_true_eq]at h;obtain⟨⟨⟨h1,h2⟩,h3⟩,h4⟩:=h;cases he:s.data.toList with
 |nil=>rw[he]at h3;simp at h3
 |cons c l=>
  rw[he]at h3;simp at h3;have hc:c=63:=UInt8.toNat_inj.1 (by rw[h3];try rfl);subst hc;have hx:(s.extract 1 s.size).data.toList=l:=by
   have:(s.extract 1 s.size).data.toList=(s.data.toList.take s.size).drop 1:=by
    simp[ByteArray.data_extract,List.drop_take]
   rw[this,List.take_of_length_le (by rw[Array.length_toList];exact Nat.le_refl _),he];rfl
  unfold nameB at h4;simp only[Bool.and_eq_true]at h4;have h5:=bytesOk_mid h4.1.1.1;rw[hx]at h5;refine⟨word_of (by omega) h2 ?_ ?_,?_⟩
  ·rw [he];simp only[lowL,lowL_mid h5];rfl
  ·intro d m hd;rw[he]at hd;simp at hd;rw[← hd.1];exact⟨by decide,by decide⟩
  ·unfold bEq;rw[he];simp[opMin]
theorem isWrd_word{s:ByteArray}(h:wordB s=true):isWrd (wordM s)=true:=by
 unfold isWrd wordM;simp[kindOf,svalid,h]
theorem typed_word{s:ByteArray}(h:typedB s=true):wordB s=true:=by
 unfold typedB at h;simp only[Bool.or_eq_true]at h;rcases h with h|h
 ·exact name_word h
 ·rw [bEq_eq h];decide
theorem paramsL_W: ∀ (l:List Pm)(don:List Pm),l.all pmOk=true→paramsL true (paramsW l) don []=(don++l,0)
 |[],don,_=>by simp[paramsW,paramsL,pmsOf]
 |p::l,don,h=>by
  simp only[List.all_cons,Bool.and_eq_true]at h;obtain⟨h1,h2⟩:=h;unfold pmOk at h1;simp only[Bool.and_eq_true]at h1;obtain⟨g1,g2⟩:=var_word h1.1;have t1: ∀ s:ByteArray,textOf (wordM s)=s:=fun _=>rfl;have w1:isWrd (wordM ⟨#[45]⟩)=true:=isWrd_word (by decide);have w2:bEq (⟨#[45]⟩:ByteArray) opMin=true:=by decide
  simp only[paramsW];rw[paramsL,isWrd_word g1,t1,g2,h1.1];simp only[cond_true,cond_false,List.nil_append];rw[paramsL,w1,t1,w2];simp only[cond_true,isWrd_word (typed_word h1.2),t1,h1.2];simp only[List.isEmpty_cons,Bool.not_false,Bool.true_and,cond_true,pmsOf,List.map_cons,List.map_nil];rw[paramsL_W l _ h2];simp
theorem paramsP_W{l:List Pm}(h:l.all pmOk=true):paramsP true (paramsW l)=(l,0):=by
 unfold paramsP;rw[paramsL_W l [] h];rfl
theorem fmPs_map: ∀ (l:List Fm),(∀ k∈l,fmP (fmW k)=(k,0))→fmPs (l.map fmW)=(l,0)
 |[],_=>rfl
 |k::l,h=>by
  simp only[List.map_cons,fmPs,h k (by simp),beq_self_eq_true,cond_true,fmPs_map l (fun q hq=>h q (by simp[hq]))]
theorem fmP_fmW: ∀ f:Fm,shapedF f=true→fmP (fmW f)=(f,0):=by
 refine Fm.ind ?_;intro op name args params exprs kids ih hs;unfold shapedF at hs;simp only[Bool.and_eq_true]at hs;obtain⟨⟨h1,h2⟩,h3⟩:=hs;rw[shapedFs_iff]at h3;have hk:=fmPs_map kids (fun k hk=>ih k hk (h3 k hk));have t1: ∀ s:ByteArray,textOf (wordM s)=s:=fun _=>rfl;have t2: ∀ s:ByteArray,kindOf (wordM s)=1:=fun _=>rfl;rcases partsOk_cases h1 with⟨rfl,hn,ha,rfl,he,hk0⟩|⟨rfl,rfl,hl,ha,rfl,he,hk0⟩|⟨ho,rfl,rfl,rfl,he,hk0⟩|⟨ho,rfl,rfl,rfl,he⟩|⟨ho,rfl,rfl,he,hk1,hp⟩
 ·obtain rfl:=List.length_eq_zero_iff.1 he;obtain rfl:=List.length_eq_zero_iff.1 hk0;obtain⟨n1,n2,n3,n4⟩:=name_count hn;unfold fmW;rw[if_pos (by decide)];unfold wordsM listM;simp only[List.map_cons];unfold fmP;simp only[t1,t2,n1,n2,n3,n4,hn,termsM_words args ha,beq_self_eq_true,cond_true,cond_false,if_true];rfl
 ·obtain rfl:=List.length_eq_zero_iff.1 he;obtain rfl:=List.length_eq_zero_iff.1 hk0
  match args,hl with
  |[a,b],_=>
   unfold fmW;rw[if_neg (by decide),if_pos (by decide)];have e:=termsM_words [a,b] ha;simp only[List.map_cons,List.map_nil]at e;unfold wordsM listM;simp only[List.map_cons,List.map_nil];unfold fmP;simp only[t1,t2];have c1:countW opEq=2:=(by decide);have c2:isQ opEq=false:=(by decide);have c3:isLst opEq=false:=(by decide);have c4:isCmp5 opEq=true:=(by decide);have c5:bEq opEq opEq=true:=(by decide);simp only[c1,c2,c3,c4,compareP,c5,t2,e,fin,beq_self_eq_true,cond_true,cond_false,if_true,List.length_cons,List.length_nil,Bool.and_self];rfl
 ·obtain rfl:=List.length_eq_zero_iff.1 hk0
  match exprs,he with
  |[a,b],_=>
   simp only[List.all_cons,Bool.and_eq_true]at h2;have ea:=exprP_exW a h2.1;have eb:=exprP_exW b h2.2.1;have key: ∀ w:ByteArray,bEq w opAtom=false→bEq w opSame=false→isCmp w=true→countW w=2→isQ w=false→isLst w=false→bEq w opGt=false→bEq w opGe=false→(bEq w opEq&&kindOf (exW a)==1&&kindOf (exW b)==1)=false→
     fmP (fmW (.mk w ⟨#[]⟩ [] [] [a,b] []))=(.mk w ⟨#[]⟩ [] [] [a,b] [],0):=by
    intro w k1 k2 k3 k4 k5 k6 k7 k8 k9;unfold fmW;rw[k1,k2,k3];simp only[Bool.false_eq_true,if_false,if_true,List.map_cons,List.map_nil];unfold listM fmP;have k10:isCmp5 w=true:=(by unfold isCmp5;rw[k3];try rfl);simp only[t1,t2,k4,k5,k6,k10,compareP,k9,ea,eb,k7,k8,fin,beq_self_eq_true,cond_true,cond_false,if_true,List.length_cons,List.length_nil,Bool.false_eq_true,if_false];rfl
   have hkn:kindOf (exW a)≠1:=by
    obtain⟨o,n,v,ar,ks⟩:=a;unfold exW;split
    ·simp [kindOf]
    ·split
     ·simp [wordsM,listM,kindOf]
     ·split<;>simp[listM,kindOf]
   have hkb:(kindOf (exW a)==1)=false:=(by simpa using hkn);rcases ho with rfl|rfl|rfl
   ·exact key opLt (by decide) (by decide) (by decide) (by decide) (by decide) (by decide) (by decide) (by decide) (by rw[hkb];simp)
   ·exact key opLe (by decide) (by decide) (by decide) (by decide) (by decide) (by decide) (by decide) (by decide) (by rw[hkb];simp)
   ·exact key opEq (by decide) (by decide) (by decide) (by decide) (by decide) (by decide) (by decide) (by decide) (by rw[hkb];simp)
 ·obtain rfl:=List.length_eq_zero_iff.1 he;have key: ∀ w:ByteArray,bEq w opAtom=false→bEq w opSame=false→isCmp w=false→isQ w=false→(bEq w opAnd&&kids.isEmpty)=false→isLst w=true→(decide (countW w≥0)&&!(decide (countW w=kids.length)))=false→
    fmP (fmW (.mk w ⟨#[]⟩ [] [] [] kids))=(.mk w ⟨#[]⟩ [] [] [] kids,0):=by
   intro w k1 k2 k3 k4 k5 k6 k7;unfold fmW;rw[k1,k2,k3,k4,k5,fmWs_map];simp only[Bool.false_eq_true,if_false,List.append_nil,List.singleton_append];unfold listM fmP;have k8:(decide (countW w≥0)&&!(decide (countW w=(kids.map fmW).length)))=false:=(by rw[List.length_map];exact k7);simp only[t1,t2,k8,k4,k6,hk,beq_self_eq_true,cond_true,cond_false,if_true]
  rcases ho with rfl|rfl|⟨rfl,hn⟩|⟨rfl,hn⟩
  ·cases kids with
   |nil=>rfl
   |cons k ks=>exact key opAnd (by decide) (by decide) (by decide) (by decide) (by simp) (by decide) (by rw[show decide (countW opAnd≥0)=false by decide];try rfl)
  ·exact key opOr (by decide) (by decide) (by decide) (by decide) (by rw[show bEq opOr opAnd=false by decide];try rfl) (by decide) (by rw[show decide (countW opOr≥0)=false by decide];try rfl)
  ·exact key opNot (by decide) (by decide) (by decide) (by decide) (by rw[show bEq opNot opAnd=false by decide];try rfl) (by decide) (by rw[hn];decide)
  ·exact key opImp (by decide) (by decide) (by decide) (by decide) (by rw[show bEq opImp opAnd=false by decide];try rfl) (by decide) (by rw[hn];decide)
 ·obtain rfl:=List.length_eq_zero_iff.1 he;have t3: ∀ l,kindOf (listM l)=3:=fun _=>rfl;have t4: ∀ l,kidsOf (listM l)=l:=fun _=>rfl;have key: ∀ w:ByteArray,bEq w opAtom=false→bEq w opSame=false→isCmp w=false→isQ w=true→bEq w opAnd=false→countW w=2→
    fmP (fmW (.mk w ⟨#[]⟩ [] params [] kids))=(.mk w ⟨#[]⟩ [] params [] kids,0):=by
   intro w k1 k2 k3 k4 k5 k6;unfold fmW;rw[k1,k2,k3,k4,k5,fmWs_map];simp only[Bool.false_eq_true,if_false,if_true,Bool.false_and,List.cons_append,List.nil_append];generalize hm:kids.map fmW=M at hk;have hml:M.length=1:=(by rw[← hm,List.length_map];exact hk1);unfold listM fmP;have k8:(decide ((2:Int)≥0)&&!(decide ((2:Int)=((listM (paramsW params)::M).length:Int))))=false:=(by rw[List.length_cons,hml];decide);unfold listM at k8 t3 t4;simp only[t1,t2,k6,k8,k4,t3,t4,paramsP_W hp,hk,beq_self_eq_true,cond_true,cond_false,if_true]
  rcases ho with rfl|rfl
  ·exact key opAll (by decide) (by decide) (by decide) (by decide) (by decide) (by decide)
  ·exact key opSome (by decide) (by decide) (by decide) (by decide) (by decide) (by decide)
end Go.Proofs.YtblgchkahpgdjaaGreat
namespace Go.AM
end Go.AM
namespace Go.Proofs.YtblgchkahpgdjaaGreat
open Go.AM
theorem validF_shaped{f:Fm}(h:validF f=true):shapedF f=true:=by
 unfold validF at h;simp only[Bool.and_eq_true]at h;exact shapedM_F f 0 0 h.1
theorem zeroFm_ok:zeroFm.ok∧zeroFm.small:=by
 simp only[zeroFm,Fm.ok,Fm.oks,Ex.oks,Fm.small,Fm.smalls,Ex.smalls,List.length_nil];refine⟨⟨by simp[bigN,ByteArray.size],by simp[bigN,ByteArray.size],⟨by simp,by simp⟩,⟨by simp,by simp⟩,⟨by simp,trivial⟩,by simp,trivial⟩,by omega,by omega,trivial,by omega,trivial⟩
theorem textOf_ok{x:Sx}(h:x.ok):(textOf x).size≤bigN:=by
 obtain⟨_,_,_,_,t,_⟩:=x;simp only[Sx.ok]at h;exact h.2.2.1
theorem pmsOf_ok{t:ByteArray}{l:List ByteArray}(ht:t.size≤bigN)(hl: ∀ s∈l,s.size≤bigN): ∀ p∈pmsOf t l,p.ok:=by
 intro p hp;simp only[pmsOf,List.mem_map]at hp;obtain⟨s,hs,rfl⟩:=hp;exact⟨hl s hs,ht⟩
theorem pmsOf_len(t:ByteArray)(l:List ByteArray):(pmsOf t l).length=l.length:=by simp[pmsOf]
theorem opObj_size:opObj.size≤bigN:=by simp[opObj,bigN,ByteArray.size]
theorem paramsL_ok(vars:Bool): ∀ (n:Nat)(l:List Sx),l.length≤n→(∀ x∈l,x.ok)→ ∀ (don:List Pm)(pen:List ByteArray),(∀ p∈don,p.ok)→(∀ s∈pen,s.size≤bigN)→
  (∀ p∈(paramsL vars l don pen).1,p.ok)∧(paramsL vars l don pen).1.length≤don.length+pen.length+l.length:=by
 intro n
 induction n with
 |zero=>
  intro l hl _ don pen hd hp
  match l,hl with
  |[],_=>
   unfold paramsL;simp only[List.mem_append,List.length_append,pmsOf_len,List.length_nil];exact⟨fun p h=>h.elim (hd p) (pmsOf_ok opObj_size hp p),by omega⟩
 |succ n ihn=>
  intro l hl hx don pen hd hp
  match l,hl,hx with
  |[],_,_=>
   unfold paramsL;simp only[List.mem_append,List.length_append,pmsOf_len,List.length_nil];exact⟨fun p h=>h.elim (hd p) (pmsOf_ok opObj_size hp p),by omega⟩
  |x::l,hl,hx=>
   have hxo:=hx x (by simp);have hlo: ∀ y∈l,y.ok:=fun y hy=>hx y (by simp[hy]);unfold paramsL;cases isWrd x with
   |false=>simp
   |true=>
    simp only[cond_true];cases bEq (textOf x) opMin with
    |true=>
     simp only[cond_true];cases l with
     |nil=>simp
     |cons t l'=>
      simp only;cases(!pen.isEmpty&&isWrd t)with
      |false=>simp
      |true=>
       cases typedB (textOf t)with
       |false=>simp
       |true=>
        simp only[cond_true];have:=ihn l' (by simp at hl;omega) (fun y hy=>hlo y (by simp[hy])) (don++pmsOf (textOf t) pen) [] (fun p h=>(List.mem_append.1 h).elim (hd p) (pmsOf_ok (textOf_ok (hlo t (by simp))) hp p)) (by simp);refine⟨this.1,Nat.le_trans this.2 ?_⟩;simp only[List.length_append,pmsOf_len,List.length_nil,List.length_cons];omega
    |false=>
     simp only[cond_false];cases(bif vars then varB (textOf x)else nameB (textOf x))with
     |false=>simp
     |true=>
      simp only[cond_true];have:=ihn l (by simp at hl;omega) hlo don (pen++[textOf x]) hd (fun s h=>(List.mem_append.1 h).elim (hp s) (fun h=>by simp at h;rw[h];exact textOf_ok hxo));refine⟨this.1,Nat.le_trans this.2 ?_⟩;simp only[List.length_append,List.length_nil,List.length_cons];omega
theorem fm_mk_ok{op name:ByteArray}{args:List ByteArray}{params:List Pm}{exprs:List Ex}{kids:List Fm}(h1:op.size≤bigN)(h2:name.size≤bigN)(h3:args.length≤1048576)(h4: ∀ s∈args,s.size≤bigN)(h5:params.length≤1048576)(h6: ∀ p∈params,p.ok)
  (h7:exprs.length≤2)(h8: ∀ e∈exprs,e.ok∧e.small)(h9:kids.length≤1048576)(h10: ∀ k∈kids,k.ok∧k.small):(Fm.mk op name args params exprs kids).ok∧(Fm.mk op name args params exprs kids).small:=by
 simp only[Fm.ok,Fm.small];rw[Fm.oks_iff,Ex.oks_iff,Ex.smalls_iff,Fm.smalls_iff];refine⟨⟨h1,h2,⟨by unfold bigN;omega,h4⟩,⟨by unfold bigN;omega,h6⟩,⟨by unfold bigN;omega,fun e he=>(h8 e he).1⟩,by unfold bigN;omega,fun k hk=>(h10 k hk).1⟩,h3,h5,fun e he=>(h8 e he).2,h9,fun k hk=>(h10 k hk).2⟩
theorem empty_size:(⟨#[]⟩:ByteArray).size≤bigN:=by simp[bigN,ByteArray.size]
theorem fin_ok{r:Fm × Int}(h:r.1.ok∧r.1.small):(fin r).1.ok∧(fin r).1.small:=by
 unfold fin;cases r.2==0 with
 |true=>exact h
 |false=>exact zeroFm_ok
theorem compareP_ok{w:ByteArray}{x y:Sx}(hw:w.size≤bigN)(hx:x.ok)(hy:y.ok)(sx:x.small)(sy:y.small):(compareP w x y).1.ok∧(compareP w x y).1.small:=by
 have ex:=exprP_ok x hx sx;have ey:=exprP_ok y hy sy;unfold compareP;cases(bEq w opEq&&kindOf x==1&&kindOf y==1)with
 |true=>
  have ht:=termsM_ok (l:=[x,y]) (by simp[hx,hy]);simp only[List.length_cons,List.length_nil]at ht;exact fm_mk_ok (by simp[opSame,bigN,ByteArray.size]) empty_size (by omega) ht.1 (by simp) (by simp) (by simp) (by simp) (by simp) (by simp)
 |false=>
  simp only[cond_false];cases(exprP x).2==0 with
  |false=>exact zeroFm_ok
  |true=>
   cases(exprP y).2==0 with
   |false=>exact zeroFm_ok
   |true=>
    simp only[cond_true];have h2: ∀ a b:Ex,(a.ok∧a.small)→(b.ok∧b.small)→ ∀ o:ByteArray,o.size≤bigN→(Fm.mk o ⟨#[]⟩ [] [] [a,b] []).ok∧(Fm.mk o ⟨#[]⟩ [] [] [a,b] []).small:=fun a b ha hb o ho=>
     fm_mk_ok ho empty_size (by simp) (by simp) (by simp) (by simp) (by simp) (by simp only[List.mem_cons,List.not_mem_nil,or_false];rintro e (rfl|rfl);exact ha;exact hb) (by simp) (by simp)
    split
    ·exact h2 _ _ ey ex _ (by simp[opLt,bigN,ByteArray.size])
    ·split
     ·exact h2 _ _ ey ex _ (by simp[opLe,bigN,ByteArray.size])
     ·exact h2 _ _ ex ey _ hw
theorem fmPs_ok: ∀ (l:List Sx),(∀ k∈l,(fmP k).1.ok∧(fmP k).1.small)→(∀ f∈(fmPs l).1,f.ok∧f.small)∧(fmPs l).1.length≤l.length
 |[],_=>by simp[fmPs]
 |x::l,h=>by
  have h1:=fmPs_ok l fun k hk=>h k (by simp[hk]);have h2:=h x (by simp);simp only[fmPs];generalize fmP x=r at h2;obtain⟨f,c⟩:=r;simp only at h2⊢;cases c==0 with
  |false=>simp
  |true=>
   simp only[cond_true];generalize fmPs l=r at h1;obtain⟨fs,c'⟩:=r;simp only at h1⊢;cases c'==0 with
   |false=>simp
   |true=>
    simp only[cond_true,List.mem_cons,List.length_cons];exact⟨fun g hg=>hg.elim (fun e=>by rw[e];exact h2) (h1.1 g),by omega⟩
theorem fmP_ok: ∀ x:Sx,x.ok→x.small→(fmP x).1.ok∧(fmP x).1.small:=by
 refine Sx.ind ?_;intro kind value line col text kids ih hok hsm;simp only[Sx.ok]at hok;obtain⟨_,_,_,hkl,hks⟩:=hok;try clear Z
 clear hkl;rw[Sx.oks_iff]at hks;simp only[Sx.small]at hsm;obtain⟨hl,hss⟩:=hsm;rw[Sx.smalls_iff]at hss;have sub: ∀ l:List Sx,(∀ k∈l,k∈kids)→(∀ f∈(fmPs l).1,f.ok∧f.small)∧(fmPs l).1.length≤l.length:=fun l h=>fmPs_ok l fun k hk=>ih k (h k hk) (hks k (h k hk)) (hss k (h k hk));unfold fmP;split
 ·cases kids with
  |nil=>exact fm_mk_ok (by simp[opAnd,bigN,ByteArray.size]) empty_size (by simp) (by simp) (by simp) (by simp) (by simp) (by simp) (by simp) (by simp)
  |cons x rest=>
   simp only;have hxt:=textOf_ok (hks x (by simp));simp only[List.length_cons]at hl;cases kindOf x==1 with
   |false=>exact zeroFm_ok
   |true=>
    simp only[cond_true];cases(decide (countW (textOf x)≥0)&&!(decide (countW (textOf x)=rest.length)))with
    |true=>exact zeroFm_ok
    |false=>
     simp only[cond_false];cases isQ (textOf x)with
     |true=>
      simp only[cond_true];cases rest with
      |nil=>exact zeroFm_ok
      |cons p body=>
       simp only;cases kindOf p==3 with
       |false=>exact zeroFm_ok
       |true=>
        simp only[cond_true];have hpo:=hks p (by simp);have hps:=hss p (by simp);have hb:=sub body fun k hk=>(by simp[hk]);simp only[List.length_cons]at hl;have hpp:(∀ q∈(paramsP true (kidsOf p)).1,q.ok)∧(paramsP true (kidsOf p)).1.length≤1048576:=by
         obtain⟨_,_,_,_,_,pk⟩:=p;simp only[Sx.ok]at hpo;simp only[Sx.small]at hps;have:=paramsL_ok true pk.length pk (Nat.le_refl _) (Sx.oks_iff.1 hpo.2.2.2.2) [] [] (by simp) (by simp);simp only[List.length_nil]at this;exact⟨this.1,by have:=this.2;simp only[paramsP,kidsOf];omega⟩
        cases(paramsP true (kidsOf p)).2==0 with
        |false=>exact zeroFm_ok
        |true=>
         simp only[cond_true];generalize fmPs body=r at hb;obtain⟨ks,c⟩:=r;simp only at hb⊢;cases c==0 with
         |false=>exact zeroFm_ok
         |true=>exact fm_mk_ok hxt empty_size (by simp) (by simp) hpp.2 hpp.1 (by simp) (by simp) (by omega) hb.1
     |false=>
      simp only[cond_false];cases isLst (textOf x)with
      |true=>
       simp only[cond_true];have hb:=sub rest fun k hk=>(by simp[hk]);generalize fmPs rest=r at hb;obtain⟨ks,c⟩:=r;simp only at hb⊢;cases c==0 with
       |false=>exact zeroFm_ok
       |true=>exact fm_mk_ok hxt empty_size (by simp) (by simp) (by simp) (by simp) (by simp) (by simp) (by omega) hb.1
      |false=>
       simp only[cond_false];cases isCmp5 (textOf x)with
       |true=>
        simp only[cond_true];split
        ·rename_i a b;exact fin_ok (compareP_ok hxt (hks a (by simp)) (hks b (by simp)) (hss a (by simp)) (hss b (by simp)))
        ·exact zeroFm_ok
       |false=>
        simp only[cond_false];cases nameB (textOf x)with
        |false=>exact zeroFm_ok
        |true=>
         have ht:=termsM_ok (l:=rest) fun y hy=>hks y (by simp[hy]);simp only[cond_true];cases(termsM rest).2==0 with
         |false=>exact zeroFm_ok
         |true=>exact fm_mk_ok (by simp[opAtom,bigN,ByteArray.size]) hxt (by omega) ht.1 (by simp) (by simp) (by simp) (by simp) (by simp) (by simp)
 ·exact zeroFm_ok
def parseF(x:Sx):Fm × Int:=
 if(svalid x 0 0).1=true then(if(fmP x).2=0 then(if validF (fmP x).1=true then((fmP x).1,0)else(zeroFm,5))else(zeroFm,(fmP x).2))else(zeroFm,2)
theorem parseF_ok{x:Sx}(hok:x.ok):(parseF x).1.ok∧(parseF x).1.small:=by
 unfold parseF;split
 ·rename_i h;split
  ·split
   ·exact fmP_ok x hok (svalid_small h)
   ·exact zeroFm_ok
  ·exact zeroFm_ok
 ·exact zeroFm_ok
theorem parseF_fmW{f:Fm}(h:validF f=true):parseF (fmW f)=(f,0):=by
 have hs:=validF_shaped h;have h2:=h;unfold validF at h2;simp only[Bool.and_eq_true]at h2;unfold parseF;rw[if_pos h2.2,fmP_fmW f hs];simp[h]
end Go.Proofs.YtblgchkahpgdjaaGreat
namespace Go.Proofs.YtblgchkahpgdjaaGreat
open Go.AM
def andFm:Fm:= .mk opAnd ⟨#[]⟩ [] [] [] []
end Go.Proofs.YtblgchkahpgdjaaGreat
namespace Go.Proofs.YtblgchkahpgdjaaGreat
open Go.AM
set_option maxHeartbeats 4000000
set_option maxRecDepth 20000
def parseE(x:Sx):Ex × Int:=if(svalid x 0 0).1=true then(if(exprP x).2=0 then(if validE (exprP x).1=true then((exprP x).1,0)else(zeroEx,5))else(zeroEx,(exprP x).2))else(zeroEx,2)
theorem ParseExpr_c{x:Sx}(hok:x.ok)(h:Heap):PCall Tryz.prog 147 [.agg x.cells] h fun r h'=>r= .tup [.agg (parseE x).1.cells,errP (parseE x).2]∧h'=h:=by
 refine PCall.frz Ty.hb_147 ?_;have hv:=fun h:Heap=>svalid_c hok h;have hX:parseE x=(if(svalid x 0 0).1=true then(if(exprP x).2=0 then(if validE (exprP x).1=true then((exprP x).1,0)else(zeroEx,5))else(zeroEx,(exprP x).2))else(zeroEx,2)):=rfl;generalize parseE x=F at hX;have bad: ∀ (c:Int)(h':Heap),(c==0)=false→Grow h h'→F=(zeroEx,c)→FrzTo h.next h' (.tup [.agg F.1.cells,errP F.2]) (.tup [.agg [.sc (.string ⟨#[]⟩),.sc (.string ⟨#[]⟩),.sc (.int .i64 0),.sc (.slice none 0 0),.sc (.slice none 0 0)],errV c])∧Grow h h':=by
  intro c h' hc hg hF;subst hF;have:errP c=errV c:=by simp only[errP,hc,cond_false]
  simp only[this];refine⟨?_,hg⟩;simp only[errV,zeroEx,Ex.cells,Ex.rows,strRows,List.map_nil,FrzTo,FrzL];exact⟨_,rfl,⟨_,rfl,rfl,rfl,rfl,.inr (.inl ⟨rfl,.inr rfl⟩),.inr (.inl ⟨rfl,.inr rfl⟩),trivial⟩,rfl,trivial⟩
 simp only[errV]at bad;have hg1: ∀ r,Grow h ((h.new (.arr 5 [[.sc (.string ⟨#[]⟩),.sc (.string ⟨#[]⟩),.sc (.int .i64 0),.sc (.slice none 0 0),.sc (.slice none 0 0)]])).set h.next r):=fun r=>((Grow.refl h).new _).set (Nat.le_refl _) _;have hg2: ∀ o1 o2 r,Grow h ((((h.new (.arr 5 [[.sc (.string ⟨#[]⟩),.sc (.string ⟨#[]⟩),.sc (.int .i64 0),.sc (.slice none 0 0),.sc (.slice none 0 0)]])).new o1).set (h.next+1) o2).set h.next r):=fun o1 o2 r=>((((Grow.refl h).new _).new _).set (Nat.le_succ _) _).set (Nat.le_refl _) _;have n1:(h.next=h.next+1)=False:=by simp
 cases v1:(svalid x 0 0).1 with
 |false=>
  rw[v1]at hv;rw[if_neg (by rw[v1];simp)]at hX;obtain⟨kind,value,line,col,text,kids⟩:=x;simp only[Sx.cells]at hv⊢;refine uG0 Tryz.func147 Tryz.ntmps147 Tryz.results147 Ty.hb_147 ?_;repeat'(first|refine G fun K J=>?_|refine uR trivial ?_|(refine O J ?_;clear J)|apply zI)
  refine uU trivial (hv _) ?_;repeat'(first|refine G fun K J=>?_|refine uR @Bool.not_false ?_|refine uT @Bool.not_false ?_|(refine O J ?_;clear J)|apply zI)
  exact bad 2 _ rfl (hg1 _) hX
 |true=>
  have hsm:=svalid_small v1;have hp:=expr_c x hok hsm;have hfo:=exprP_ok x hok hsm;rw[v1]at hv;rw[if_pos v1]at hX;have hfz:=fun n hh=>ex_frz n hh (exprP x).1;generalize exprP x=E at hp hfo hX hfz;obtain⟨f,c⟩:=E;simp only at hp hfo hX hfz;obtain⟨kind,value,line,col,text,kids⟩:=x;simp only[Sx.cells]at hv hp⊢;cases hc:c==0 with
  |false=>
   rw[if_neg (by simpa using hc)]at hX;have e0:errP c=errV c:=(by simp only[errP,hc,cond_false]);rw[e0]at hp;simp only[errV]at hp;obtain⟨fop,fna,fnn,far,fki⟩:=f;simp only[Ex.cells]at hp;refine uG0 Tryz.func147 Tryz.ntmps147 Tryz.results147 Ty.hb_147 ?_;(repeat'(first|refine G fun K J=>?_|refine uR trivial ?_|(refine O J ?_;clear J)|apply zI));refine uU trivial (hv _) ?_;(repeat'(first|refine G fun K J=>?_|refine uR @Bool.not_true ?_|refine uK ?_|refine uC1 @Bool.not_true ?_|(refine O J ?_;clear J)|apply zI));refine uU trivial (hp _) ?_;replace Z:=U n1 @nsucc;(repeat'(first|refine G fun K J=>?_|refine uR Z ?_|refine uT Z ?_|(refine O J ?_;clear J)|apply zI));exact bad c _ hc (hg2 _ _ _) hX
  |true=>
   rw[if_pos (by simpa using hc)]at hX;have e0:errP c= .sc .nilIface:=(by simp only[errP,hc,cond_true]);rw[e0]at hp;have hV:=fun h:Heap=>validE_c hfo.1 hfo.2 h;cases v2:validE f with
   |false=>
    rw[v2]at hV;rw[if_neg (by rw[v2];simp)]at hX;obtain⟨fop,fna,fnn,far,fki⟩:=f;simp only[Ex.cells]at hp hV;refine uG0 Tryz.func147 Tryz.ntmps147 Tryz.results147 Ty.hb_147 ?_;(repeat'(first|refine G fun K J=>?_|refine uR trivial ?_|(refine O J ?_;clear J)|apply zI));refine uU trivial (hv _) ?_;(repeat'(first|refine G fun K J=>?_|refine uR @Bool.not_true ?_|refine uK ?_|refine uC1 @Bool.not_true ?_|(refine O J ?_;clear J)|apply zI));refine uU trivial (hp _) ?_;replace Z:=U n1 @nsucc;(repeat'(first|refine G fun K J=>?_|refine uR Z ?_|refine uK ?_|refine uC1 Z ?_|(refine O J ?_;clear J)|apply zI));refine uU (U n1 @nsucc) (hV _) ?_;replace Z:=U n1 (U @nsucc @Bool.not_false);(repeat'(first|refine G fun K J=>?_|refine uR Z ?_|refine uT Z ?_|(refine O J ?_;clear J)|apply zI));exact bad 5 _ rfl (hg2 _ _ _) hX
   |true=>
    rw[v2]at hV;rw[if_pos v2]at hX;subst hX;obtain⟨fop,fna,fnn,far,fki⟩:=f;simp only[Ex.cells]at hp hV hfz;have e2:errP 0= .sc .nilIface:=rfl;simp only[e2,Ex.cells];refine uG0 Tryz.func147 Tryz.ntmps147 Tryz.results147 Ty.hb_147 ?_;(repeat'(first|refine G fun K J=>?_|refine uR trivial ?_|(refine O J ?_;clear J)|apply zI));refine uU trivial (hv _) ?_;(repeat'(first|refine G fun K J=>?_|refine uR @Bool.not_true ?_|refine uK ?_|refine uC1 @Bool.not_true ?_|(refine O J ?_;clear J)|apply zI));refine uU trivial (hp _) ?_;replace Z:=U n1 @nsucc;(repeat'(first|refine G fun K J=>?_|refine uR Z ?_|refine uK ?_|refine uC1 Z ?_|(refine O J ?_;clear J)|apply zI));refine uU (U n1 @nsucc) (hV _) ?_;replace Z:=U n1 (U @nsucc @Bool.not_true);(repeat'(first|refine G fun K J=>?_|refine uR Z ?_|refine uT Z ?_|refine uK ?_|refine uC1 Z ?_|(refine O J ?_;clear J)|apply zI));refine⟨?_,hg2 _ _ _⟩;have h1:=fun hh=>hfz h.next hh
    unfold FrzTo;refine⟨_,rfl,?_⟩;unfold FrzL;refine⟨?_,by unfold FrzL;exact⟨by simp only[FrzTo],by simp only[FrzL]⟩⟩;unfold FrzTo;exact⟨_,rfl,h1 _⟩
end Go.Proofs.YtblgchkahpgdjaaGreat
namespace Go.Proofs.YtblgchkahpgdjaaGreat
open Go.AM
set_option maxRecDepth 4000
def opWhen:ByteArray:=⟨#[119,104,101,110]⟩
def opAsg:ByteArray:=⟨#[97,115,115,105,103,110]⟩
def opInc:ByteArray:=⟨#[105,110,99,114,101,97,115,101]⟩
def opDec:ByteArray:=⟨#[100,101,99,114,101,97,115,101]⟩
structure Sco where
 params:List Pm
 whens:List Fm
def condS:List Fm→Fm
 |[]=>andFm
 |[f]=>f
 |l=> .mk opAnd ⟨#[]⟩ [] [] [] l
def chgS(S:Sco)(k:Int)(n:ByteArray)(a:List ByteArray)(v:Ex):Ch:=⟨k,S.params,condS S.whens,n,a,v⟩
def kindW(w:ByteArray):Int:=bif bEq w opAsg then 3 else bif bEq w opInc then 4 else bif bEq w opDec then 5 else 0
def dAtomP(x:Sx):ByteArray × List ByteArray × Int:=match headM x with
 |none=>(⟨#[]⟩,[],2)
 |some (w,rest)=>bif nameB w then(bif (termsM rest).2==0 then(w,(termsM rest).1,0)else(⟨#[]⟩,[],(termsM rest).2))else(⟨#[]⟩,[],8)
def numP(S:Sco)(k:Int):List Sx→List Ch × Int
 |[a,e]=>bif (dAtomP a).2.2==0 then(bif (parseE e).2==0 then([chgS S k (dAtomP a).1 (dAtomP a).2.1 (parseE e).1],0)else([],(parseE e).2))else([],(dAtomP a).2.2)
 |_=>([],2)
def oneP(S:Sco)(k:Int)(a:Sx):List Ch × Int:=bif (dAtomP a).2.2==0 then([chgS S k (dAtomP a).1 (dAtomP a).2.1 zeroEx],0)else([],(dAtomP a).2.2)
mutual
def effP:Sx→Sco→List Ch × Int
 | .mk kind v l c t kids,S=>bif kind==3 then(match kids with
   |[]=>([],0)
   | x :: rest => bif kindOf x == 1 then
     (bif !(kindW (textOf x)==0)then numP S (kindW (textOf x)) rest
     else bif bEq (textOf x) opWhen then(match rest with
      |[f,e]=>bif (parseF f).2==0 then effP e ⟨S.params,S.whens++[(parseF f).1]⟩else([],(parseF f).2)
      |_=>([],2))
     else bif bEq (textOf x) opAll then(match rest with
      |[p,e]=>bif kindOf p==3 then(bif (paramsP true (kidsOf p)).2==0 then effP e ⟨S.params++(paramsP true (kidsOf p)).1,S.whens⟩else([],(paramsP true (kidsOf p)).2))else([],2)
      |_=>([],2))
     else bif bEq (textOf x) opAnd then effsP rest S
     else bif bEq (textOf x) opNot then(match rest with
      |[a]=>oneP S 2 a
      |_=>([],2))
     else oneP S 1 (.mk kind v l c t (x::rest)))
    else([],2))else([],2)
def effsP:List Sx→Sco→List Ch × Int
 |[],_=>([],0)
 |x::l,S=>match effP x S with
  | (a, c) => bif c == 0 then (match effsP l S with
   |(b,c')=>bif c'==0 then(a++b,0)else([],c'))else([],c)
end
def isAlw(f:Fm):Bool:=f.same andFm
def fmX(f:Fm):Sx:=bif validF f then fmW f else .mk 0 0 0 0 ⟨#[]⟩ []
def exX(e:Ex):Sx:=bif validE e then exW e else .mk 0 0 0 0 ⟨#[]⟩ []
def kwK(k:Int):ByteArray:=bif k==3 then opAsg else bif k==4 then opInc else opDec
def ch1(c:Ch):Sx:=bif c.kind==1 then wordsM c.name c.args else bif c.kind==2 then listM [wordM opNot,wordsM c.name c.args]
 else bif c.kind==3||c.kind==4||c.kind==5 then listM [wordM (kwK c.kind),wordsM c.name c.args,exX c.value]else wordsM c.name c.args
def ch2(c:Ch):Sx:=bif isAlw c.cond then ch1 c else listM [wordM opWhen,fmX c.cond,ch1 c]
def chX(c:Ch):Sx:=bif c.params.isEmpty then ch2 c else listM [wordM opAll,listM (paramsW c.params),ch2 c]
def parB(vars:Bool)(p:Pm):Bool:=(bif vars then varB p.name else nameB p.name)&&(bEq p.type opObj||nameB p.type)
def chB(c:Ch):Bool:=nameB c.name&&c.args.all termB&&(bif c.kind==1||c.kind==2 then c.value.same zeroEx else(bif c.kind==3||c.kind==4||c.kind==5 then validE c.value else false))&&(isAlw c.cond||validF c.cond)&&c.params.all (parB true)
def effX(l:List Ch):Sx:=bif l.isEmpty then listM []else listM (wordM opAnd::l.map chX)
def writeEB(l:List Ch):Bool:=l.all chB&&(svalid (effX l) 0 0).1
def parseEf(x:Sx):List Ch × Int:=
 if(svalid x 0 0).1=true then(if(effP x ⟨[],[]⟩).2=0 then(if writeEB (effP x ⟨[],[]⟩).1=true then((effP x ⟨[],[]⟩).1,0)else([],5))else([],(effP x ⟨[],[]⟩).2))else([],2)
end Go.Proofs.YtblgchkahpgdjaaGreat
namespace Go.Proofs.YtblgchkahpgdjaaGreat
open Go.AM
set_option maxHeartbeats 4000000
set_option maxRecDepth 20000
theorem PCall.frzX{P:Program}{f:FuncId}{args:List PV}{h:Heap}{v:PV}{id:Nat}{o o0:AObj}(hb:hasBody P f=true)(hid:h.obj id=some o0)(hfl:inNO h.next o)(hc:PCall P f args h fun r h'=>FrzTo h.next h' v r∧GrowX h id o h'):
  PCall P f args h fun r h'=>r=v∧h'=h.set id o:=by
 refine pcall_wf hb fun hw=>PCall.drop (hc.mono ?_);rintro r h' ⟨hf,g⟩;refine⟨v,h.set id o,⟨rfl,rfl⟩,hf,Nat.le_refl _,fun i oo ho=>?_⟩;have hlt:=hw id (by rw[hid];try rfl);simp only[Heap.set]at ho;split at ho
 ·rename_i hi;subst hi;simp at ho;subst ho;exact⟨g.at_,hlt,.inr hfl⟩
 ·rename_i hi;have h1:=hw i (by rw[ho];try rfl);exact⟨by rw[g.old i h1 hi];exact ho,h1,.inl ho⟩
theorem GrowX.kill{h h':Heap}{id j:Nat}{o:AObj}(g:GrowX h id o h')(hid:id<h.next)(hj:h.next≤j):GrowX h id o (h'.kill j):=
 ⟨g.le,fun i hi hne=>by simp only[Heap.kill];rw[if_neg (by omega)];exact g.old i hi hne,by simp only[Heap.kill];rw[if_neg (by omega)];exact g.at_⟩
theorem a_genX{P:Program}{ow:Nat→Bool}{wf:FuncId→Bool}{n:Nat}{Q:Post}{s:Slots}{h:Heap}{c:Code}(I:Slots→Heap→Prop)(hi:I s h)(hh: ∀ s h,I s h→awp P ow wf n c Q s h):awp P ow wf n c Q s h:=hh _ _ hi
abbrev wO(b:Bool):AObj:= .arr 1 [[.sc (.bool b)]]
theorem wO_in(n:Nat)(b:Bool):inNO n (wO b):=by simp[wO,inNO,inNR,inNL,inN]
theorem dword_c{h:Heap}{s:ByteArray}:PCall Tryz.prog 40 [sPV s] h fun r h'=>r= .agg (wordM s).cells∧h'=h:=by
 refine PCall.frz Ty.hb_40 ?_;refine uG0 Tryz.func40 Tryz.ntmps40 Tryz.results40 Ty.hb_40 ?_;repeat'(first|refine G fun K J=>?_|refine uR trivial ?_|refine uT trivial ?_|(refine O J ?_;clear J)|apply zI)
 refine⟨?_,((Grow.refl h).new _).set (Nat.le_refl _) _⟩;simp only[wordM,Sx.cells,Sx.rows,FrzTo,FrzL];exact⟨_,rfl,rfl,rfl,rfl,rfl,rfl,.inr (.inl ⟨rfl,.inr rfl⟩),trivial⟩
theorem dlist_c{h:Heap}{p:PV}(h1:oneC p=true)(hf: ∀ h',FrzTo h.next h' p p):PCall Tryz.prog 39 [p] h fun r h'=>r= .agg [.sc (.int .i64 3),.sc (.int .i64 0),.sc (.int .i64 0),.sc (.int .i64 0),.sc (.string ⟨#[]⟩),p]∧h'=h:=by
 refine PCall.frz Ty.hb_39 ?_;have hc:p.cells=[p]:=by cases p<;>simp[oneC]at h1<;>rfl
 refine uG0 Tryz.func39 Tryz.ntmps39 Tryz.results39 Ty.hb_39 ?_;replace Z:=U hc h1;repeat'(first|refine G fun K J=>?_|refine uR Z ?_|refine uT Z ?_|(refine O J ?_;clear J)|apply zI)
 refine⟨?_,((Grow.refl h).new _).set (Nat.le_refl _) _⟩;simp only[FrzTo,FrzL];exact⟨_,rfl,rfl,rfl,rfl,rfl,rfl,hf _,trivial⟩
theorem dlistS_c(l:List Sx)(h:Heap):PCall Tryz.prog 39 [.imm 6 (Sx.rows l)] h fun r h'=>r= .agg (listM l).cells∧h'=h:=dlist_c rfl (fun _=>frz_imm (sxs_in _ _))
theorem dterm_c{h:Heap}{s:ByteArray}(hs:s.size≤9223372036854775807):PCall Tryz.prog 151 [sPV s] h fun r h'=>r= .sc (.bool (termB s))∧h'=h:=by
 have h1:=fun h:Heap=>fname_c (h:=h) hs;have h2:=fun h:Heap=>fvariable_c (h:=h) hs;unfold termB;generalize nameB s=a at h1⊢;generalize varB s=b at h2⊢;cases a with
 |true=>
  refine uG0 Tryz.func151 Tryz.ntmps151 Tryz.results151 Ty.hb_151 ?_;repeat'(first|refine G fun K J=>?_|refine uR trivial ?_|(refine O J ?_;clear J)|apply zI)
  refine uU trivial (h1 _) ?_;repeat'(first|refine uT trivial ?_|(refine O J ?_;clear J)|apply zI)
  all_goals simp only[Bool.true_or]
 |false=>
  refine uG0 Tryz.func151 Tryz.ntmps151 Tryz.results151 Ty.hb_151 ?_;repeat'(first|refine G fun K J=>?_|refine uR trivial ?_|(refine O J ?_;clear J)|apply zI)
  refine uU trivial (h1 _) ?_;try apply zI
  refine uU trivial (h2 _) ?_;repeat'(first|refine uT trivial ?_|(refine O J ?_;clear J)|apply zI)
  all_goals simp only[Bool.false_or]
theorem dalways_c{h:Heap}:PCall Tryz.prog 99 [] h fun r h'=>r= .agg andFm.cells∧h'=h:=by
 refine PCall.frz Ty.hb_99 ?_;refine uG0 Tryz.func99 Tryz.ntmps99 Tryz.results99 Ty.hb_99 ?_;repeat'(first|refine G fun K J=>?_|refine uR trivial ?_|refine uT trivial ?_|(refine O J ?_;clear J)|apply zI)
 refine⟨?_,((Grow.refl h).new _).set (Nat.le_refl _) _⟩;simp only[andFm,opAnd,Fm.cells,pmRows,Ex.rows,Fm.rows,strRows,List.map_nil,FrzTo,FrzL];exact⟨_,rfl,rfl,rfl,.inr (.inl ⟨rfl,.inr rfl⟩),.inr (.inl ⟨rfl,.inr rfl⟩),.inr (.inl ⟨rfl,.inr rfl⟩),.inr (.inl ⟨rfl,.inr rfl⟩),trivial⟩
theorem wname_c{h:Heap}{id:Nat}{b:Bool}{s:ByteArray}(hs:s.size≤9223372036854775807)(hid:id<h.next)(ho:h.obj id=some (wO b)):
  PCall Tryz.prog 41 [.ptr id 0 0,sPV s] h fun r h'=>r= .agg (wordM s).cells∧h'=h.set id (wO (b||!nameB s)):=by
 refine PCall.frzX Ty.hb_41 ho (wO_in _ _) ?_;have h1:=fun h:Heap=>fname_c (h:=h) hs;have hw:=fun h:Heap=>dword_c (h:=h) (s:=s);have n1:(id=h.next)=False:=eq_false (by omega);have n2:(h.next=id)=False:=eq_false (by omega);generalize nameB s=a at h1⊢;have fin: ∀ (b':Bool)(o:AObj),FrzTo h.next (((h.new o).set id (wO b')).set h.next (.arr 6 [(wordM s).cells])) (.agg (wordM s).cells) (.agg (wordM s).cells)∧GrowX h id (wO b') (((h.new o).set id (wO b')).set h.next (.arr 6 [(wordM s).cells])):=fun b' o=>⟨by
  simp only[FrzTo];exact⟨_,rfl,sx_frz _ _ _⟩,(((GrowX.refl ho).new hid).put).set hid (Nat.le_refl _)⟩
 simp only[wordM,Sx.cells,Sx.rows]at hw fin⊢;cases b with
 |true=>
  refine uG0 Tryz.func41 Tryz.ntmps41 Tryz.results41 Ty.hb_41 ?_;repeat'(first|refine G fun K J=>?_|refine uR (U ho (U n1 n2)) ?_|(refine O J ?_;clear J)|apply zI)
  refine uU (U ho (U n1 n2)) (hw _) ?_;repeat'(first|refine uT (U ho (U n1 n2)) ?_|(refine O J ?_;clear J)|apply zI)
  exact fin _ _
 |false=>
  refine uG0 Tryz.func41 Tryz.ntmps41 Tryz.results41 Ty.hb_41 ?_;repeat'(first|refine G fun K J=>?_|refine uR (U ho (U n1 n2)) ?_|(refine O J ?_;clear J)|apply zI)
  refine uU (U ho (U n1 n2)) (h1 _) ?_;repeat'(first|refine G fun K J=>?_|refine uR (U ho (U n1 n2)) ?_|(refine O J ?_;clear J)|apply zI)
  refine uU (U ho (U n1 n2)) (hw _) ?_;repeat'(first|refine uT (U ho (U n1 n2)) ?_|(refine O J ?_;clear J)|apply zI)
  exact fin _ _
theorem wformula_c{h:Heap}{id:Nat}{b:Bool}{f:Fm}(hok:f.ok)(hsm:f.small)(hid:id<h.next)(ho:h.obj id=some (wO b)):
  PCall Tryz.prog 100 [.ptr id 0 0,.agg f.cells] h fun r h'=>r= .agg (fmX f).cells∧h'=h.set id (wO (b||!validF f)):=by
 refine PCall.frzX Ty.hb_100 ho (wO_in _ _) ?_;have hW:=fun h:Heap=>fWrite_c hok hsm h;have n1:(id=h.next)=False:=eq_false (by omega);have n2:(h.next=id)=False:=eq_false (by omega);have n3:(id=h.next+1)=False:=eq_false (by omega);have n4:(h.next+1=id)=False:=eq_false (by omega);have hX:(if validF f then(PV.tup [.agg (fmW f).cells,.sc .nilIface])else .tup [.agg zeroSx.cells,errV 2])= .tup [.agg (fmX f).cells,if validF f then .sc .nilIface else errV 2]:=by
  unfold fmX;cases validF f<;>rfl
 rw[hX]at hW;generalize validF f=v at hW⊢;generalize fmX f=X at hW⊢;obtain⟨ki,va,li,co,te,ks⟩:=X;obtain⟨gop,gna,gar,gpa,gex,gki⟩:=f;have fin: ∀ (b':Bool)(o o1 o2:AObj),FrzTo h.next ((((((h.new o).new o1).set (h.next+1) o2).set id (wO b')).set h.next (.arr 6 [(Sx.mk ki va li co te ks).cells]))) (.agg (Sx.mk ki va li co te ks).cells) (.agg (Sx.mk ki va li co te ks).cells)∧GrowX h id (wO b') ((((h.new o).new o1).set (h.next+1) o2).set id (wO b')|>.set h.next (.arr 6 [(Sx.mk ki va li co te ks).cells])):=fun b' o o1 o2=>⟨by
  simp only[FrzTo];exact⟨_,rfl,sx_frz _ _ _⟩,(((((GrowX.refl ho).new hid).new hid).set hid (by omega)).put).set hid (Nat.le_refl _)⟩
 simp only[Sx.cells,Fm.cells]at hW fin⊢;cases v<;>simp only[if_true,if_false,Bool.false_eq_true,errV]at hW<;>cases b;all_goals
  refine uG0 Tryz.func100 Tryz.ntmps100 Tryz.results100 Ty.hb_100 ?_;replace Z:=U ho (U n1 (U n2 (U n3 n4)));repeat'(first|refine G fun K J=>?_|refine uR Z ?_|(refine O J ?_;clear J)|apply zI)
  refine uU Z (hW _) ?_;replace Z:=U ho (U n1 (U n2 (U n3 (U n4 @nsucc))));repeat'(first|refine G fun K J=>?_|refine uR Z ?_|refine uT Z ?_|(refine O J ?_;clear J)|apply zI)
  exact fin _ _ _ _
theorem wparams_c{h:Heap}{id:Nat}{b vars:Bool}{l:List Pm}(hl:l.length≤1048576)(hok: ∀ p∈l,p.ok)(hid:id<h.next)(ho:h.obj id=some (wO b)):
  PCall Tryz.prog 43 [.ptr id 0 0,.imm 2 (pmRows l),.sc (.bool vars)] h fun r h'=>r= .imm 6 (Sx.rows (paramsW l))∧h'=h.set id (wO (b||!(l.all (parB vars)))):=by
 refine PCall.frzX Ty.hb_43 ho (wO_in _ _) ?_;have hll:=pmRows_len l;have hWP:=fun h:Heap=>writeParams_c hl h;generalize hF:(b||!(l.all (parB vars)))=F;refine uG0 Tryz.func43 Tryz.ntmps43 Tryz.results43 Ty.hb_43 ?_;repeat'(first|refine G fun K J=>?_|refine a_block ?_|refine uR hll ?_|(refine O J ?_;clear J)|apply zI)
 refine a_loop (fun c S h'=>S 0= .ptr id 0 0∧S 1= .imm 2 (pmRows l)∧S 2= .sc (.bool vars)∧S 10= .imm 2 (pmRows l)∧S 11= .sc (.int .i64 l.length)∧ ∃ (k:Nat)(b':Bool),S 12= .sc (.int .i64 k)∧k≤l.length∧c=l.length-k∧GrowX h id (wO b') h'∧F=(b'||!((l.drop k).all (parB vars)))) l.length ?_ ?_
 ·simp only[Ty.w,simprocAttr];exact⟨0,b,rfl,by omega,rfl,GrowX.refl ho,by rw[List.drop_zero];exact hF.symm⟩
 ·try clear Z
  clear hF;rintro c S h' ⟨g0,g1,g2,g10,g11,k,b',g12,hkl,rfl,hG,hinv⟩;by_cases hlt:k<l.length
  ·have hd:decide ((k:Int)<(l.length:Int))=true:=(by simp;omega);have w7:IntKind.i64.wrap ((k:Int)+1)=k+1:=(by rw[wrap64 (by omega) (by omega)]);obtain⟨p,hx⟩: ∃ p,l[k]? =some p:=⟨_,List.getElem?_eq_getElem hlt⟩;rw[drop_of_get hx,List.all_cons]at hinv;have hr:=pmRows_get hx;have hpo:=hok p (List.mem_of_getElem? hx);have hs1:p.name.size≤9223372036854775807:=(by have:=hpo.1;unfold bigN at this;omega);have hs2:p.type.size≤9223372036854775807:=(by have:=hpo.2;unfold bigN at this;omega);have c1:=fun h:Heap=>fname_c (h:=h) hs1;have c2:=fun h:Heap=>fvariable_c (h:=h) hs1;have c3:=fun h:Heap=>fname_c (h:=h) hs2;have hno:=hG.at_;have hle:=hG.le;have n1:(id=h'.next)=False:=eq_false (by omega);have n2:(h'.next=id)=False:=eq_false (by omega);have hpar:parB vars p=((bif vars then varB p.name else nameB p.name)&&(bEq p.type opObj||nameB p.type)):=rfl;rw[hpar]at hinv;generalize nameB p.name=q1 at c1 hinv;generalize varB p.name=q2 at c2 hinv;generalize nameB p.type=q3 at c3 hinv;have hne:(p.type.data.toList==opObj.data.toList)=bEq p.type opObj:=rfl;generalize bEq p.type opObj=q4 at hinv hne;have e1:(p.type.data.toList=[111,98,106,101,99,116])=(q4=true):=by
    rw[← hne];exact propext ⟨fun e=>by rw[e];try rfl,fun e=>eq_of_beq e⟩
   have e2:(p.type.data.toList==[111,98,106,101,99,116])=q4:=hne;(try clear Z);clear hne;have hG2: ∀ (z o:AObj)(b2:Bool),GrowX h id (wO b2) (((h'.new z).set h'.next o).set id (wO b2)):=fun z o b2=>((hG.new hid).set hid hle).put;have stepF: ∀ b2:Bool,b2=(b'||!((bif vars then q2 else q1)&&(q4||q3)))→F=(b2||!((l.drop (k+1)).all (parB vars))):=by
    intro b2 e;rw[hinv,e];cases b'<;>cases(bif vars then q2 else q1)<;>cases q4<;>cases q3<;>simp
   obtain⟨pn,pt⟩:=p;simp only at hr e1 e2;(try clear Z);clear hinv hpar hx hpo hs1 hs2;cases vars with
   |false=>
    simp only[cond_false]at stepF;cases b' with
    |true=>
     replace Z:=U g0 (U g1 (U g2 (U g10 (U g11 (U g12 (U hll (U hd (U hr (U hno (U n1 n2))))))))));(repeat'(first|refine G fun K J=>?_|refine uR Z ?_|refine uK ?_|refine uC1 Z ?_|(refine O J ?_;clear J)|apply zI));replace Z:=U g0 (U g1 (U g2 (U g10 (U g11 (U g12 (U hno (U n1 n2)))))));refine uU Z (c1 _) ?_;(repeat'(first|refine G fun K J=>?_|((first|refine a_regionS ?_|refine a_region (fun K J=>?_));simp(maxSteps:=2000000) only[Ty.w,simprocAttr,g0,g1,g2,g10,g11,g12,hno,n1,n2,e1,e2,bne,w7,Bool.not_true,Bool.not_false])|(refine a_skip ?_;(try simp only[pst0,simprocAttr]))|(refine a_cond _ (by(try simp(maxSteps:=2000000) only[Ty.w,simprocAttr,g0,g1,g2,g10,g11,g12,hno,n1,n2,e1,e2,bne,w7,Bool.not_true,Bool.not_false]);rfl) (fun hb=>?_) (fun hb=>?_)<;>(try simp only[hb0,decide_eq_true_eq,decide_eq_false_iff_not,simprocAttr]at hb)<;>(try(exfalso;omega)))|(refine J _ _ ?_;clear J;(try simp only[pst0,simprocAttr]))));exact⟨l.length-(k+1),by omega,k+1,true,by simp,by omega,rfl,hG2 _ _ _,stepF _ (by simp)⟩
    |false=>
     cases q1 with
     |false=>
      replace Z:=U g0 (U g1 (U g2 (U g10 (U g11 (U g12 (U hll (U hd (U hr (U hno (U n1 n2))))))))));(repeat'(first|refine G fun K J=>?_|refine uR Z ?_|refine uK ?_|refine uC1 Z ?_|(refine O J ?_;clear J)|apply zI));replace Z:=U g0 (U g1 (U g2 (U g10 (U g11 (U g12 (U hno (U n1 n2)))))));refine uU Z (c1 _) ?_;(repeat'(first|refine G fun K J=>?_|((first|refine a_regionS ?_|refine a_region (fun K J=>?_));simp(maxSteps:=2000000) only[Ty.w,simprocAttr,g0,g1,g2,g10,g11,g12,hno,n1,n2,e1,e2,bne,w7,Bool.not_true,Bool.not_false])|(refine a_skip ?_;(try simp only[pst0,simprocAttr]))|(refine a_cond _ (by(try simp(maxSteps:=2000000) only[Ty.w,simprocAttr,g0,g1,g2,g10,g11,g12,hno,n1,n2,e1,e2,bne,w7,Bool.not_true,Bool.not_false]);rfl) (fun hb=>?_) (fun hb=>?_)<;>(try simp only[hb0,decide_eq_true_eq,decide_eq_false_iff_not,simprocAttr]at hb)<;>(try(exfalso;omega)))|(refine J _ _ ?_;clear J;(try simp only[pst0,simprocAttr]))));exact⟨l.length-(k+1),by omega,k+1,true,by simp,by omega,rfl,hG2 _ _ _,stepF _ (by simp)⟩
     |true=>
      cases q4 with
      |true=>
       simp only[eq_self]at e1;replace Z:=U g0 (U g1 (U g2 (U g10 (U g11 (U g12 (U hll (U hd (U hr (U hno (U n1 n2))))))))));(repeat'(first|refine G fun K J=>?_|refine uR Z ?_|refine uK ?_|refine uC1 Z ?_|(refine O J ?_;clear J)|apply zI));replace Z:=U g0 (U g1 (U g2 (U g10 (U g11 (U g12 (U hno (U n1 n2)))))));refine uU Z (c1 _) ?_;(repeat'(first|refine G fun K J=>?_|((first|refine a_regionS ?_|refine a_region (fun K J=>?_));simp(maxSteps:=2000000) only[Ty.w,simprocAttr,g0,g1,g2,g10,g11,g12,hno,n1,n2,e1,e2,bne,w7,Bool.not_true,Bool.not_false])|(refine a_skip ?_;(try simp only[pst0,simprocAttr]))|(refine a_cond _ (by(try simp(maxSteps:=2000000) only[Ty.w,simprocAttr,g0,g1,g2,g10,g11,g12,hno,n1,n2,e1,e2,bne,w7,Bool.not_true,Bool.not_false]);rfl) (fun hb=>?_) (fun hb=>?_)<;>(try simp only[hb0,decide_eq_true_eq,decide_eq_false_iff_not,simprocAttr]at hb)<;>(try(exfalso;omega)))|(refine J _ _ ?_;clear J;(try simp only[pst0,simprocAttr]))));exact⟨l.length-(k+1),by omega,k+1,false,by simp,by omega,rfl,hG2 _ _ _,stepF _ (by simp)⟩
      |false=>
       simp only[Bool.false_eq_true]at e1;replace Z:=U g0 (U g1 (U g2 (U g10 (U g11 (U g12 (U hll (U hd (U hr (U hno (U n1 n2))))))))));(repeat'(first|refine G fun K J=>?_|refine uR Z ?_|refine uK ?_|refine uC1 Z ?_|(refine O J ?_;clear J)|apply zI));replace Z:=U g0 (U g1 (U g2 (U g10 (U g11 (U g12 (U hno (U n1 n2)))))));refine uU Z (c1 _) ?_;(repeat'(first|refine G fun K J=>?_|((first|refine a_regionS ?_|refine a_region (fun K J=>?_));simp(maxSteps:=2000000) only[Ty.w,simprocAttr,g0,g1,g2,g10,g11,g12,hno,n1,n2,e1,e2,bne,w7,Bool.not_true,Bool.not_false])|(refine a_skip ?_;(try simp only[pst0,simprocAttr]))|(refine a_cond _ (by(try simp(maxSteps:=2000000) only[Ty.w,simprocAttr,g0,g1,g2,g10,g11,g12,hno,n1,n2,e1,e2,bne,w7,Bool.not_true,Bool.not_false]);rfl) (fun hb=>?_) (fun hb=>?_)<;>(try simp only[hb0,decide_eq_true_eq,decide_eq_false_iff_not,simprocAttr]at hb)<;>(try(exfalso;omega)))|(refine J _ _ ?_;clear J;(try simp only[pst0,simprocAttr]))));refine uU Z (c3 _) ?_;(repeat'(first|(refine a_regionS ?_;simp(maxSteps:=2000000) only[Ty.w,simprocAttr,g0,g1,g2,g10,g11,g12,hno,n1,n2,e1,e2,bne,w7,Bool.not_true,Bool.not_false])|(refine J _ _ ?_;clear J;(try simp only[pst0,simprocAttr]))));exact⟨l.length-(k+1),by omega,k+1,!q3,by simp,by omega,rfl,hG2 _ _ _,stepF _ (by simp)⟩
   |true=>
    simp only[cond_true]at stepF;cases b' with
    |true=>
     replace Z:=U g0 (U g1 (U g2 (U g10 (U g11 (U g12 (U hll (U hd (U hr (U hno (U n1 n2))))))))));(repeat'(first|refine G fun K J=>?_|refine uR Z ?_|refine uK ?_|refine uC1 Z ?_|(refine O J ?_;clear J)|apply zI));replace Z:=U g0 (U g1 (U g2 (U g10 (U g11 (U g12 (U hno (U n1 n2)))))));refine uU Z (c1 _) ?_;(repeat'(first|refine G fun K J=>?_|(refine a_regionS ?_;simp(maxSteps:=2000000) only[Ty.w,simprocAttr,g0,g1,g2,g10,g11,g12,hno,n1,n2,e1,e2,bne,w7,Bool.not_true,Bool.not_false])|(refine a_cond _ (by(try simp(maxSteps:=2000000) only[Ty.w,simprocAttr,g0,g1,g2,g10,g11,g12,hno,n1,n2,e1,e2,bne,w7,Bool.not_true,Bool.not_false]);rfl) (fun hb=>?_) (fun hb=>?_)<;>(try simp only[hb0,decide_eq_true_eq,decide_eq_false_iff_not,simprocAttr]at hb)<;>(try(exfalso;omega)))|(refine J _ _ ?_;clear J;(try simp only[pst0,simprocAttr]))));refine uU Z (c2 _) ?_;(repeat'(first|((first|refine a_regionS ?_|refine a_region (fun K J=>?_));simp(maxSteps:=2000000) only[Ty.w,simprocAttr,g0,g1,g2,g10,g11,g12,hno,n1,n2,e1,e2,bne,w7,Bool.not_true,Bool.not_false])|(refine J _ _ ?_;clear J;(try simp only[pst0,simprocAttr]))));exact⟨l.length-(k+1),by omega,k+1,true,by simp,by omega,rfl,hG2 _ _ _,stepF _ (by simp)⟩
    |false=>
     cases q2 with
     |false=>
      replace Z:=U g0 (U g1 (U g2 (U g10 (U g11 (U g12 (U hll (U hd (U hr (U hno (U n1 n2))))))))));(repeat'(first|refine G fun K J=>?_|refine uR Z ?_|refine uK ?_|refine uC1 Z ?_|(refine O J ?_;clear J)|apply zI));replace Z:=U g0 (U g1 (U g2 (U g10 (U g11 (U g12 (U hno (U n1 n2)))))));refine uU Z (c1 _) ?_;(repeat'(first|refine G fun K J=>?_|(refine a_regionS ?_;simp(maxSteps:=2000000) only[Ty.w,simprocAttr,g0,g1,g2,g10,g11,g12,hno,n1,n2,e1,e2,bne,w7,Bool.not_true,Bool.not_false])|(refine a_cond _ (by(try simp(maxSteps:=2000000) only[Ty.w,simprocAttr,g0,g1,g2,g10,g11,g12,hno,n1,n2,e1,e2,bne,w7,Bool.not_true,Bool.not_false]);rfl) (fun hb=>?_) (fun hb=>?_)<;>(try simp only[hb0,decide_eq_true_eq,decide_eq_false_iff_not,simprocAttr]at hb)<;>(try(exfalso;omega)))|(refine J _ _ ?_;clear J;(try simp only[pst0,simprocAttr]))));refine uU Z (c2 _) ?_;(repeat'(first|((first|refine a_regionS ?_|refine a_region (fun K J=>?_));simp(maxSteps:=2000000) only[Ty.w,simprocAttr,g0,g1,g2,g10,g11,g12,hno,n1,n2,e1,e2,bne,w7,Bool.not_true,Bool.not_false])|(refine J _ _ ?_;clear J;(try simp only[pst0,simprocAttr]))));exact⟨l.length-(k+1),by omega,k+1,true,by simp,by omega,rfl,hG2 _ _ _,stepF _ (by simp)⟩
     |true=>
      cases q4 with
      |true=>
       simp only[eq_self]at e1;replace Z:=U g0 (U g1 (U g2 (U g10 (U g11 (U g12 (U hll (U hd (U hr (U hno (U n1 n2))))))))));(repeat'(first|refine G fun K J=>?_|refine uR Z ?_|refine uK ?_|refine uC1 Z ?_|(refine O J ?_;clear J)|apply zI));replace Z:=U g0 (U g1 (U g2 (U g10 (U g11 (U g12 (U hno (U n1 n2)))))));refine uU Z (c1 _) ?_;(repeat'(first|refine G fun K J=>?_|(refine a_regionS ?_;simp(maxSteps:=2000000) only[Ty.w,simprocAttr,g0,g1,g2,g10,g11,g12,hno,n1,n2,e1,e2,bne,w7,Bool.not_true,Bool.not_false])|(refine a_cond _ (by(try simp(maxSteps:=2000000) only[Ty.w,simprocAttr,g0,g1,g2,g10,g11,g12,hno,n1,n2,e1,e2,bne,w7,Bool.not_true,Bool.not_false]);rfl) (fun hb=>?_) (fun hb=>?_)<;>(try simp only[hb0,decide_eq_true_eq,decide_eq_false_iff_not,simprocAttr]at hb)<;>(try(exfalso;omega)))|(refine J _ _ ?_;clear J;(try simp only[pst0,simprocAttr]))));refine uU Z (c2 _) ?_;(repeat'(first|((first|refine a_regionS ?_|refine a_region (fun K J=>?_));simp(maxSteps:=2000000) only[Ty.w,simprocAttr,g0,g1,g2,g10,g11,g12,hno,n1,n2,e1,e2,bne,w7,Bool.not_true,Bool.not_false])|(refine J _ _ ?_;clear J;(try simp only[pst0,simprocAttr]))));exact⟨l.length-(k+1),by omega,k+1,false,by simp,by omega,rfl,hG2 _ _ _,stepF _ (by simp)⟩
      |false=>
       simp only[Bool.false_eq_true]at e1;replace Z:=U g0 (U g1 (U g2 (U g10 (U g11 (U g12 (U hll (U hd (U hr (U hno (U n1 n2))))))))));(repeat'(first|refine G fun K J=>?_|refine uR Z ?_|refine uK ?_|refine uC1 Z ?_|(refine O J ?_;clear J)|apply zI));replace Z:=U g0 (U g1 (U g2 (U g10 (U g11 (U g12 (U hno (U n1 n2)))))));refine uU Z (c1 _) ?_;(repeat'(first|refine G fun K J=>?_|(refine a_regionS ?_;simp(maxSteps:=2000000) only[Ty.w,simprocAttr,g0,g1,g2,g10,g11,g12,hno,n1,n2,e1,e2,bne,w7,Bool.not_true,Bool.not_false])|(refine a_cond _ (by(try simp(maxSteps:=2000000) only[Ty.w,simprocAttr,g0,g1,g2,g10,g11,g12,hno,n1,n2,e1,e2,bne,w7,Bool.not_true,Bool.not_false]);rfl) (fun hb=>?_) (fun hb=>?_)<;>(try simp only[hb0,decide_eq_true_eq,decide_eq_false_iff_not,simprocAttr]at hb)<;>(try(exfalso;omega)))|(refine J _ _ ?_;clear J;(try simp only[pst0,simprocAttr]))));refine uU Z (c2 _) ?_;(repeat'(first|(refine a_region (fun K J=>?_);simp(maxSteps:=2000000) only[Ty.w,simprocAttr,g0,g1,g2,g10,g11,g12,hno,n1,n2,e1,e2,bne,w7,Bool.not_true,Bool.not_false])|(refine J _ _ ?_;clear J;(try simp only[pst0,simprocAttr]))));refine uU Z (c3 _) ?_;(repeat'(first|(refine a_regionS ?_;simp(maxSteps:=2000000) only[Ty.w,simprocAttr,g0,g1,g2,g10,g11,g12,hno,n1,n2,e1,e2,bne,w7,Bool.not_true,Bool.not_false])|(refine J _ _ ?_;clear J;(try simp only[pst0,simprocAttr]))));exact⟨l.length-(k+1),by omega,k+1,!q3,by simp,by omega,rfl,hG2 _ _ _,stepF _ (by simp)⟩
  ·have hd:decide ((k:Int)<(l.length:Int))=false:=(by simp;omega);rw[List.drop_eq_nil_of_le (by omega),List.all_nil,Bool.not_true,Bool.or_false]at hinv;subst hinv;replace Z:=U g0 (U g1 (U g2 (U g10 (U g11 (U g12 (U hll hd))))));(repeat'(first|refine G fun K J=>?_|refine uR Z ?_|refine uX ?_|refine uC1 Z ?_|(refine O J ?_;clear J)|(clear J;refine O J ?_;clear J)|apply zI));replace Z:=U g0 (U g1 (U g2 (U g10 (U g11 g12))));refine uU Z (hWP _) ?_;(repeat'(first|refine uT (U g0 (U g1 g2)) ?_|(refine O J ?_;clear J)|apply zI));exact⟨frz_imm (sxs_in _ _),hG⟩
end Go.Proofs.YtblgchkahpgdjaaGreat
namespace Go.AM
theorem obj_new{h:Heap}{o:AObj}{j:Nat}(hj:j<h.next):(h.new o).obj j=h.obj j:=by
 simp only[Heap.new];rw[if_neg (by omega)]
theorem obj_set{h:Heap}{o:AObj}{id j:Nat}(hj:j≠id):(h.set id o).obj j=h.obj j:=by
 simp only[Heap.set];rw[if_neg hj]
theorem obj_at{h:Heap}{o:AObj}{id:Nat}:(h.set id o).obj id=some o:=by simp only[Heap.set,if_true]
theorem Tl.frzR{h:Heap}{id0 z:Nat}{p:PV}{rows:List (List PV)}(t:Tl h id0 z p rows){n:Nat}(hn:n≤id0)(hr:FrzR n h rows rows):FrzTo n h (.imm z rows) p:=by
 simp only[FrzTo];rcases t with⟨h1,h2⟩|⟨id,h1,h2,rfl,ho⟩
 ·exact .inr (.inl ⟨h1,h2.symm⟩)
 ·refine .inr (.inr ⟨id,0,_,_,rfl,by omega,ho,by omega,?_⟩);rw[List.drop_zero,List.take_of_length_le (by omega)];exact hr
section
variable {β:Env}{h:Heap}{w:World}{X z:Nat}{R:List (List PV)}{F':Nat→Prop}
end
theorem below_grow{h H:Heap}(g:Grow h H):Grow h (below h.next H):=⟨g.le,fun j hj=>by simp only[below];rw[if_pos hj];exact g.old j hj⟩
end Go.AM
namespace Go.Proofs.YtblgchkahpgdjaaGreat
open Go.AM
theorem a_holdR{P:Program}{ow:Nat→Bool}{wf:FuncId→Bool}{n:Nat}{Q:Post}{s:Slots}{h:Heap}(id:Nat){ops:Array Oper}{d:Bool}{y:Code}(hh:Hold (awp P ow wf n (.seq (.region id ops d) y) Q s h)):awp P ow wf n (.seq (.region id ops d) y) Q s h:=hh.out
theorem a_holdB{P:Program}{ow:Nat→Bool}{wf:FuncId→Bool}{n:Nat}{Q:Post}{s:Slots}{h:Heap}(id:Nat){ops:Array Oper}{d:Bool}(hh:Hold (awp P ow wf n (.region id ops d) Q s h)):awp P ow wf n (.region id ops d) Q s h:=hh.out
end Go.Proofs.YtblgchkahpgdjaaGreat
namespace Go.Proofs.YtblgchkahpgdjaaGreat
open Go.AM
set_option maxHeartbeats 4000000
set_option maxRecDepth 20000
structure WordsX(h:Heap)(id:Nat)(b:Bool)(first:ByteArray)(l:List ByteArray)(k:Nat)(h':Heap):Prop where
 grow:GrowX h id (wO b) h'
 ex: ∃ j,h.next+1+1<h'.next∧j≠h.next+1+1∧h.next<j∧j<h'.next∧
  h'.obj h.next=some (.arr 6 [[.sc (.int .i64 0),.sc (.int .i64 0),.sc (.int .i64 0),.sc (.int .i64 0),.sc (.string ⟨#[]⟩),.sc (.slice none 0 0)]])∧
  h'.obj (h.next+1+1)=some (.arr 6 [[.sc (.int .i64 3),.sc (.int .i64 0),.sc (.int .i64 0),.sc (.int .i64 0),.sc (.string ⟨#[]⟩),.own j 0 (k+1)]])∧
  h'.obj j=some (.arr 6 (Sx.rows ((first::l.take k).map wordM)))
theorem WordsX.put{h h':Heap}{id:Nat}{b b2:Bool}{first:ByteArray}{l:List ByteArray}{k:Nat}(i:WordsX h id b first l k h')(hid:id<h.next):WordsX h id b2 first l k (h'.set id (wO b2)):=by
 obtain⟨hg,j,h1,h2,h3,h4,o1,o2,o3⟩:=i;refine⟨hg.put,j,h1,h2,h3,h4,?_,?_,?_⟩
 ·simp only[Heap.set];rw[if_neg (by omega)];exact o1
 ·simp only[Heap.set];rw[if_neg (by omega)];exact o2
 ·simp only[Heap.set];rw[if_neg (by omega)];exact o3
theorem watom_c{h:Heap}{id:Nat}{b:Bool}{first:ByteArray}{l:List ByteArray}(hn:first.size≤9223372036854775807)(hl:l.length≤1048576)(hok: ∀ s∈l,s.size≤bigN)(hid:id<h.next)(ho:h.obj id=some (wO b)):
  PCall Tryz.prog 144 [.ptr id 0 0,sPV first,.imm 1 (strRows l)] h fun r h'=>r= .agg (wordsM first l).cells∧h'=h.set id (wO (b||!(nameB first&&l.all termB))):=by
 refine PCall.frzX Ty.hb_144 ho (wO_in _ _) ?_;have hll:=strRows_len l;have hw: ∀ (s:ByteArray)(h:Heap),PCall Tryz.prog 40 [sPV s] h fun r h'=>r= .agg (wordM s).cells∧h'=h:=fun s h=>dword_c;have c0:=fun(z:AObj)=>wname_c (h:=h.new z) (b:=b) (s:=first) hn (show id<h.next+1 by omega) ((obj_new hid).trans ho);simp only[wordM,Sx.cells,Sx.rows]at hw c0;generalize hF:(b||!(nameB first&&l.all termB))=F;refine uG (ow:=fun t=>t==13) (wf:=fun _=>false) Tryz.func144 Tryz.ntmps144 Tryz.results144 Ty.hb_144 ?_;repeat'(first|refine G fun K J=>?_|refine uR trivial ?_|(refine O J ?_;clear J)|apply zI)
 refine owp_useH (c0 _) (by(try simp only[Ty.w,simprocAttr,ho]);try rfl) ?_;simp(maxSteps:=2000000) only[Ty.w,simprocAttr,ho];try apply zI
 refine uU trivial (dlist_c (p:= .own (h.next+1) 0 1) rfl (fun _=>frz_own (by simp[Heap.new,Heap.set]))) ?_;repeat'(first|refine G fun K J=>?_|refine a_block ?_|refine uR hll ?_|(refine O J ?_;clear J)|apply zI)
 refine a_loop (fun m S h'=>S 0= .ptr id 0 0∧S 6= .ptr h.next 0 0∧S 7= .ptr (h.next+1+1) 0 0∧S 15= .imm 1 (strRows l)∧S 16= .sc (.int .i64 l.length)∧ ∃ (k:Nat)(b':Bool),S 17= .sc (.int .i64 k)∧k≤l.length∧m=l.length-k∧WordsX h id b' first l k h'∧F=(b'||!((l.drop k).all termB))) l.length ?_ ?_
 ·simp only[Ty.w,simprocAttr];refine⟨0,b||!nameB first,rfl,by omega,rfl,?_,?_⟩
  ·have e1:¬ h.next=h.next+1+1:=by omega
   refine⟨?_,h.next+1,by simp[Heap.new,Heap.set],by omega,by omega,by simp[Heap.new,Heap.set],?_,?_,?_⟩
   ·exact ((((((GrowX.refl ho).new hid).put).new hid).new hid).set hid (by omega))
   ·simp only[Heap.new,Heap.set];repeat(first|rw[if_neg (by omega)]|rw[if_pos trivial])
   ·simp only[Heap.new,Heap.set];repeat(first|rw[if_neg (by omega)]|rw[if_pos trivial])
   ·simp only[Heap.new,Heap.set];(repeat(first|rw[if_neg (by omega)]|rw[if_pos trivial]));simp[wordM,Sx.rows,Sx.cells]
  ·rw [List.drop_zero, ← hF];cases b<;>cases nameB first<;>simp
 ·try clear Z
  clear hF c0;rintro m S h' ⟨g0,g6,g7,g15,g16,k,b',g17,hk,rfl,hI,hinv⟩;by_cases hlt:k<l.length
  ·have hd:decide ((k:Int)<(l.length:Int))=true:=(by simp;omega);have w7:IntKind.i64.wrap ((k:Int)+1)=k+1:=(by rw[wrap64 (by omega) (by omega)]);obtain⟨s,hx⟩: ∃ s,l[k]? =some s:=⟨_,List.getElem?_eq_getElem hlt⟩;have hr:=strRows_get hx;have hts:=fun h:Heap=>dterm_c (h:=h) (s:=s) (by have:=hok s (List.mem_of_getElem? hx);unfold bigN at this;omega);rw[drop_of_get hx,List.all_cons]at hinv;have hbo:=hI.grow.at_;generalize termB s=q at hts hinv;have stepF: ∀ b2:Bool,b2=(b'||!q)→F=(b2||!((l.drop (k+1)).all termB)):=fun b2 e=>by
    rw[hinv,e];cases b'<;>cases q<;>simp
   (try clear Z);clear hinv;replace Z:=U g0 (U g6 (U g7 (U g15 (U g16 (U g17 (U hd hr))))));(repeat'(first|with_reducible refine a_holdR 5 ?_|refine G fun K J=>?_|refine uR Z ?_|refine uK ?_|refine uC1 Z ?_|(refine O J ?_;clear J)|apply zI));refine⟨?_⟩;refine a_cut (fun S H=>S 0= .ptr id 0 0∧S 6= .ptr h.next 0 0∧S 7= .ptr (h.next+1+1) 0 0∧S 15= .imm 1 (strRows l)∧S 16= .sc (.int .i64 l.length)∧S 17= .sc (.int .i64 k)∧S 9=sPV s∧ ∃ b2,WordsX h id b2 first l k H∧F=(b2||!((l.drop (k+1)).all termB))) ?_ ?_
   ·cases b' with
    |true=>
     replace Z:=U g0 (U g6 (U g7 (U g15 (U g16 (U g17 hbo)))));(repeat'(first|refine uR Z ?_|apply zI));exact⟨true,hI.put hid,stepF _ (by simp)⟩
    |false=>
     replace Z:=U g0 (U g6 (U g7 (U g15 (U g16 (U g17 hbo)))));(repeat'(first|refine uR Z ?_|apply zI));refine uU Z (hts _) ?_;(try apply zI);exact⟨!q,hI.put hid,stepF _ (by simp)⟩
   ·(try clear Z);clear g0 g6 g7 g15 g16 g17 hI hbo hd hr stepF hts;rintro S H ⟨g0,g6,g7,g15,g16,g17,g9,b2,hI,hinv⟩;obtain⟨hg,j,hn2,hne,hlo,hhi,o1,o2,o3⟩:=hI;have hrl:(Sx.rows ((first::l.take k).map wordM)).length=k+1:=(by rw[Sx.rows_len];simp;omega);generalize hR:Sx.rows ((first::l.take k).map wordM)=R at o3 hrl;have n1:(h.next+1+1=j)=False:=(by simp;omega);have n2:(h.next+1+1=H.next)=False:=(by simp;omega);have htk:List.take (k+1) R=R:=List.take_of_length_le (by omega);have hb:(k+1+1)*72≤140737488355328:=(by omega);replace Z:=U g0 (U g6 (U g7 (U g15 (U g16 (U g17 (U g9 (U w7 (U o2 o3))))))));(repeat'(first|refine uE Z fun K J=>?_|apply zI));replace Z:=U g0 (U g6 (U g7 (U g15 (U g16 (U g17 (U g9 (U o2 o3)))))));(first|refine uV Z (hw s _) ?_|refine uA Z (hw s _) ?_);replace Z:=U g0 (U g6 (U g7 (U g15 (U g16 (U g17 (U g9 (U w7 (U o2 (U o3 (U n1 (U n2 (U hrl (U htk hb)))))))))))));(repeat'(first|refine uR Z ?_|(refine O J ?_;clear J)|refine uB Z ?_|(rw[if_pos];rotate_left 1;omega;simp(maxSteps:=2000000) only[Ty.w,simprocAttr,g0,g6,g7,g15,g16,g17,g9,w7,o2,o3,n1,n2,hrl,htk,hb])|apply zI));refine⟨l.length-(k+1),by omega,k+1,b2,by simp,by omega,rfl,⟨((hg.kill hid (by omega)).new hid).set hid (by omega),H.next,?_,?_,?_,?_,?_,?_,?_⟩,hinv⟩
    ·simp only[Heap.set,Heap.new,Heap.kill];omega
    ·omega
    ·omega
    ·simp only[Heap.set,Heap.new,Heap.kill];omega
    ·have a1:¬ h.next=h.next+1+1:=by omega
     have a2:¬ h.next=H.next:=by omega
     have a3:¬ h.next=j:=by omega
     simp only[Heap.set,Heap.new,Heap.kill,a1,a2,a3,if_false];exact o1
    ·simp only[Heap.set,if_true]
    ·have a1:¬ H.next=h.next+1+1:=by omega
     simp only[Heap.set,Heap.new,Heap.kill,a1,if_false,if_true];rw[List.take_add_one,hx, ← hR];simp only[Sx.rows_map,List.map_cons,List.map_append,List.map_nil,Option.toList_some,List.cons_append,wordM,Sx.cells]
  ·have hd:decide ((k:Int)<(l.length:Int))=false:=(by simp;omega);have hke:k=l.length:=(by omega);subst hke;obtain⟨hg,j,hn2,hne,hlo,hhi,o1,o2,o3⟩:=hI;rw[List.take_length]at o3;rw[List.drop_length,List.all_nil,Bool.not_true,Bool.or_false]at hinv;subst hinv;have n1:(h.next+1+1=h.next)=False:=(by simp;omega);replace Z:=U g0 (U g6 (U g7 (U g15 (U g16 (U g17 (U hd (U o1 (U o2 (U o3 n1)))))))));(repeat'(first|refine G fun K J=>?_|refine uR Z ?_|refine uT Z ?_|refine uX ?_|refine uC1 Z ?_|(refine O J ?_;clear J)|(clear J;refine O J ?_;clear J)|apply zI));refine⟨?_,hg.set hid (Nat.le_refl _)⟩;simp only[wordsM,listM,Sx.cells,FrzTo,FrzL];refine⟨_,rfl,rfl,rfl,rfl,rfl,rfl,.inr (.inr ⟨j,0,l.length+1,Sx.rows ((first::l).map wordM),rfl,by omega,?_,?_,?_⟩),trivial⟩
   ·simp only[Heap.set];rw[if_neg (by omega)];exact o3
   ·rw [Sx.rows_len];simp
   ·rw [List.drop_zero,List.take_of_length_le (by rw[Sx.rows_len];simp)];exact sxs_frz _ _ _
end Go.Proofs.YtblgchkahpgdjaaGreat
