/- What the claim rests on, part 7: the abstract machine, contracts of the functions, plain data. -/
import Derived.Test.YtjlkapgpjamnkaaGreatZf6
set_option linter.unusedVariables false
set_option linter.unusedSimpArgs false
set_option linter.unusedSectionVars false
namespace Go.Proofs.YtjlkapgpjamnkaaGreat
open Go.AM
set_option maxHeartbeats 4000000
set_option maxRecDepth 20000
theorem rwriteParams_c{l:List Pm}(hl:l.length≤1048576)(h:Heap):PCall Tryz.prog 40 [.imm 2 (pmRows l)] h fun r h'=>r= .imm 6 (Sx.rows (paramsW l))∧h'=h:=by
 refine PCall.frz Ty.hb_40 ?_
 have hll:=pmRows_len l
 have hw: ∀ (s:ByteArray)(h:Heap),PCall Tryz.prog 38 [sPV s] h fun r h'=>r= .agg (wordM s).cells∧h'=h:=fun s h=>rwd_c
 simp only[wordM,Sx.cells,Sx.rows]at hw
 refine pcall_body (ow:=fun _=>false) (wf:=fun _=>false) Ty.mixed Tryz.func40 rfl Ty.hb_40 (by rw[Tryz.ntmps40];simp) ?_
 rw[Tryz.ntmps40,Tryz.results40]
 repeat'(first|refine a_seq fun K hK=>?_|(refine a_block ?_)|(refine a_regionS ?_;simp(maxSteps:=2000000) only[Ty.w,simprocAttr,hll])|(refine hK _ _ ?_;clear hK;try simp only[pst0,simprocAttr]))
 refine a_loop (fun m S h'=>S 0= .imm 2 (pmRows l)∧ ∃ (k:Nat)(o:PV),S 4= .sc (.int .i64 k)∧S 3=o∧k≤l.length∧m=l.length-k∧Grow h h'∧Tl h' h.next 6 o (Sx.rows (paramsW (l.take k)))) l.length ?_ ?_
 ·simp only[Ty.w,simprocAttr]
  exact⟨0,_,rfl,rfl,by omega,rfl,Grow.refl _,Tl.nil⟩
 ·rintro m S h' ⟨g0,k,o,g4,g3,hk,rfl,hg,tl⟩
  by_cases hlt:k<l.length
  ·have hd:decide ((k:Int)<(l.length:Int))=true:=by simp;omega
   have w7:IntKind.i64.wrap ((k:Int)+1)=k+1:=by rw[wrap64 (by omega) (by omega)]
   obtain⟨p,hx⟩: ∃ p,l[k]? =some p:=⟨_,List.getElem?_eq_getElem hlt⟩
   have hr:=pmRows_get hx
   obtain⟨H,t1,t2,t3,t4,t5⟩:=tl.tail
   have hpr:(Sx.rows (paramsW (l.take k))).length=3*k:=by rw[Sx.rows_len,paramsW_len,List.length_take];omega
   have hb:(3*k+3)*72≤140737488355328:=by omega
   have hR:Sx.rows (paramsW (l.take (k+1)))=Sx.rows (paramsW (l.take k))++[[.sc (.int .i64 1),.sc (.int .i64 0),.sc (.int .i64 0),.sc (.int .i64 0),sPV p.name,.imm 6 []],[.sc (.int .i64 1),.sc (.int .i64 0),.sc (.int .i64 0),.sc (.int .i64 0),sPV ⟨#[45]⟩,.imm 6 []],[.sc (.int .i64 1),.sc (.int .i64 0),.sc (.int .i64 0),.sc (.int .i64 0),sPV p.type,.imm 6 []]]:=by
    rw[List.take_add_one,hx,paramsW_append]
    simp only[Sx.rows_map,List.map_append,Option.toList_some,paramsW,List.map_cons,List.map_nil,wordM,Sx.cells]
   generalize Sx.rows (paramsW (l.take k))=R at tl t1 t2 hpr hR
   have W:=And.intro g0 (And.intro g4 (And.intro g3 (And.intro hr (And.intro w7 (And.intro t1 (And.intro t2 (And.intro hpr hb)))))))
   repeat'(first|refine a_seq fun K hK=>?_|(refine a_block ?_)|((first|refine a_regionS ?_|refine a_draw (by decide+kernel) (fun K hK=>?_));simp(maxSteps:=2000000) only[Ty.w,simprocAttr,W,hd,hll])|(refine a_skip ?_;try simp only[pst0,simprocAttr])|(refine a_cond _ (by(try simp(maxSteps:=2000000) only[Ty.w,simprocAttr,W,hd,hll]);rfl) (fun hb=>?_) (fun hb=>?_)<;>(try simp only[hb0,decide_eq_true_eq,decide_eq_false_iff_not,simprocAttr]at hb)<;>(try(exfalso;omega)))|(refine hK _ _ ?_;clear hK;try simp only[pst0,simprocAttr]))
   (first|refine a_dcall0 (hw p.name _) (by(try simp only[Ty.w,simprocAttr,W]);try rfl) ?_|refine a_dcallA (hw p.name _) (by(try simp only[Ty.w,simprocAttr,W]);try rfl) (by simp only[Ty.w,simprocAttr,W];try trivial) ?_);simp(maxSteps:=2000000) only[Ty.w,simprocAttr,W,Option.getD_some]
   skip
   (first|refine a_dcall0 (hw ⟨#[45]⟩ _) (by(try simp only[Ty.w,simprocAttr,W]);try rfl) ?_|refine a_dcallA (hw ⟨#[45]⟩ _) (by(try simp only[Ty.w,simprocAttr,W]);try rfl) (by simp only[Ty.w,simprocAttr,W];try trivial) ?_);simp(maxSteps:=2000000) only[Ty.w,simprocAttr,W,Option.getD_some]
   skip
   (first|refine a_dcall0 (hw p.type _) (by(try simp only[Ty.w,simprocAttr,W]);try rfl) ?_|refine a_dcallA (hw p.type _) (by(try simp only[Ty.w,simprocAttr,W]);try rfl) (by simp only[Ty.w,simprocAttr,W];try trivial) ?_);simp(maxSteps:=2000000) only[Ty.w,simprocAttr,W,Option.getD_some]
   repeat'(first|(refine a_regionS ?_;simp(maxSteps:=2000000) only[Ty.w,simprocAttr,W])|(refine hK _ _ ?_;clear hK;try simp only[pst0,simprocAttr])|(with_reducible refine a_past2 (by simp only[List.forall_mem_cons,Ty.w,simprocAttr,g0,g4,g3,hr,w7,t1,t2,hpr,hb];(repeat' apply And.intro)<;>first|trivial|exact .inl (by decide+kernel)) ?_;try simp(maxSteps:=2000000) only[Ty.w,simprocAttr,W])|(rw[if_pos];rotate_left 1;omega;simp(maxSteps:=2000000) only[Ty.w,simprocAttr,W]))
   have hkp:=t5 h ⟨hg.le,hg.old⟩ (Nat.le_refl _)
   have hgH:Grow h H:=⟨hkp.1,hkp.2⟩
   rw[← hR]
   have hRl:3*k+3=(Sx.rows (paramsW (l.take (k+1)))).length:=by rw[Sx.rows_len,paramsW_len,List.length_take];omega
   exact⟨l.length-(k+1),by omega,k+1,.own H.next 0 (3*k+3),by simp,by first|rfl|rw[t3],by omega,rfl,hgH.new _,Tl.grow hkp.1 hRl⟩
  ·have hd:decide ((k:Int)<(l.length:Int))=false:=by simp;omega
   have hke:k=l.length:=by omega
   subst hke
   rw[List.take_length]at tl
   repeat'(first|refine a_seq fun K hK=>?_|((first|refine a_regionS ?_|refine a_ret ?_);simp(maxSteps:=2000000) only[Ty.w,simprocAttr,g0,g4,g3,hd,hll])|(refine a_exit ?_;try simp only[pst0,simprocAttr])|(refine a_cond _ (by(try simp(maxSteps:=2000000) only[Ty.w,simprocAttr,g0,g4,g3,hd,hll]);rfl) (fun hb=>?_) (fun hb=>?_)<;>(try simp only[hb0,decide_eq_true_eq,decide_eq_false_iff_not,simprocAttr]at hb)<;>(try(exfalso;omega)))|((first|refine hK _ _ ?_|(clear hK;refine hK _ _ ?_));clear hK;try simp only[pst0,simprocAttr]))
   exact⟨tl_frzX tl,hg⟩
theorem rwriteF_c: ∀ f:Fm,f.small→shapedF f=true→ ∀ h:Heap,PCall Tryz.prog 16 [.agg f.cells] h fun r h'=>r= .agg (fmW f).cells∧h'=h:=by
 refine Fm.ind ?_
 intro op name args params exprs kids ih hsm hsh h
 simp only[Fm.small]at hsm
 obtain⟨hal,hpl,hes,hkl,hks⟩:=hsm
 rw[Ex.smalls_iff]at hes
 rw[Fm.smalls_iff]at hks
 simp only[shapedF,Bool.and_eq_true]at hsh
 obtain⟨⟨hpo,hse⟩,hsk⟩:=hsh
 rw[shapedFs_iff]at hsk
 rw[List.all_eq_true]at hse
 have hlK:=Fm.rows_len kids
 unfold fmW
 refine PCall.frz Ty.hb_16 ?_
 cases k1:(op.data.toList==(#[97,116,111,109]:Array UInt8).toList)with
 |true=>
  rw[if_pos (show bEq op opAtom=true from k1)]
  have hw: ∀ h:Heap,PCall Tryz.prog 37 [sPV name,.imm 1 (strRows args)] h fun r h'=>r= .agg (wordsM name args).cells∧h'=h:=fun h=>rlist_c hal
  have hfz:=fun(n:Nat)(h:Heap)=>sx_frz n h (wordsM name args)
  simp only[Fm.cells]
  generalize wordsM name args=X at hw hfz⊢
  obtain⟨ki,va,li,co,te,ks⟩:=X
  simp only[Sx.cells]at hw hfz⊢
  refine pcall_body (ow:=fun _=>false) (wf:=fun _=>false) Ty.mixed Tryz.func16 rfl Ty.hb_16 (by rw[Tryz.ntmps16];simp) ?_
  rw[Tryz.ntmps16,Tryz.results16]
  repeat'(first|refine a_seq fun K hK=>?_|(refine a_regionS ?_;simp(maxSteps:=2000000) only[Ty.w,simprocAttr,k1])|(refine hK _ _ ?_;clear hK;try simp only[pst0,simprocAttr]))
  refine owp_useQ (hw _) (by(try simp only[Ty.w,simprocAttr,k1]);try rfl) ?_;simp(maxSteps:=2000000) only[Ty.w,simprocAttr,k1]
  repeat'(first|(refine a_ret ?_;simp(maxSteps:=2000000) only[Ty.w,simprocAttr])|(refine hK _ _ ?_;clear hK;try simp only[pst0,simprocAttr]))
  refine⟨?_,((Grow.refl h).new _).set (Nat.le_refl _) _⟩
  simp only[FrzTo]
  exact⟨_,rfl,hfz _ _⟩
 |false=>
  cases k2:(op.data.toList==(#[115,97,109,101]:Array UInt8).toList)with
  |true=>
   rw[if_neg (by rw[(show bEq op opAtom=false from k1)];simp)]
   rw[if_pos (show bEq op opSame=true from k2)]
   have hw: ∀ h:Heap,PCall Tryz.prog 37 [sPV ⟨#[61]⟩,.imm 1 (strRows args)] h fun r h'=>r= .agg (wordsM opEq args).cells∧h'=h:=fun h=>rlist_c hal
   have hfz:=fun(n:Nat)(h:Heap)=>sx_frz n h (wordsM opEq args)
   simp only[Fm.cells]
   generalize wordsM opEq args=X at hw hfz⊢
   obtain⟨ki,va,li,co,te,ks⟩:=X
   simp only[Sx.cells]at hw hfz⊢
   refine pcall_body (ow:=fun _=>false) (wf:=fun _=>false) Ty.mixed Tryz.func16 rfl Ty.hb_16 (by rw[Tryz.ntmps16];simp) ?_
   rw[Tryz.ntmps16,Tryz.results16]
   repeat'(first|refine a_seq fun K hK=>?_|(refine a_regionS ?_;simp(maxSteps:=2000000) only[Ty.w,simprocAttr,k1,k2])|(refine hK _ _ ?_;clear hK;try simp only[pst0,simprocAttr]))
   refine owp_useQ (hw _) (by(try simp only[Ty.w,simprocAttr,k1,k2]);try rfl) ?_;simp(maxSteps:=2000000) only[Ty.w,simprocAttr,k1,k2]
   repeat'(first|(refine a_ret ?_;simp(maxSteps:=2000000) only[Ty.w,simprocAttr])|(refine hK _ _ ?_;clear hK;try simp only[pst0,simprocAttr]))
   refine⟨?_,((Grow.refl h).new _).set (Nat.le_refl _) _⟩
   simp only[FrzTo]
   exact⟨_,rfl,hfz _ _⟩
  |false=>
   rw[if_neg (by rw[(show bEq op opAtom=false from k1)];simp),if_neg (by rw[(show bEq op opSame=false from k2)];simp)]
   cases k3:(op.data.toList==(#[60]:Array UInt8).toList)with
   |true=>
    rw[if_pos (by simp[isCmp,(show bEq op opAtom=false from k1),(show bEq op opSame=false from k2),(show bEq op opLt=true from k3)])]
    have hx2:exprs.length=2:=by have q:=hpo;simp[partsOk,shapeOf,(show bEq op opAtom=false from k1),(show bEq op opSame=false from k2),(show bEq op opLt=true from k3)]at q;omega
    obtain⟨a,b,rfl⟩: ∃ a b,exprs=[a,b]:=by
     match exprs,hx2 with
     |[a,b],_=>exact⟨a,b,rfl⟩
    have ca:=rwriteE_c a (hes a (by simp)) (hse a (by simp))
    have cb:=rwriteE_c b (hes b (by simp)) (hse b (by simp))
    have hw:=fun h:Heap=>rwd_c (h:=h) (s:=op)
    simp only[List.map_cons,List.map_nil]
    have hfz:=fun(n:Nat)(h:Heap)=>sx_frz n h (listM [wordM op,exW a,exW b])
    generalize exW a=xa at ca hfz⊢
    generalize exW b=xb at cb hfz⊢
    clear ih hks hpo hse hsk hes
    obtain⟨aop,aname,an,aargs,akids⟩:=a
    obtain⟨bop,bname,bn,bargs,bkids⟩:=b
    obtain⟨ki,va,li,co,te,ks⟩:=xa
    obtain⟨ki2,va2,li2,co2,te2,ks2⟩:=xb
    simp only[Fm.cells,Ex.cells,Ex.rows,listM,Sx.cells,Sx.rows,wordM]at ca cb hw hfz⊢
    refine pcall_body (ow:=fun _=>false) (wf:=fun _=>false) Ty.mixed Tryz.func16 rfl Ty.hb_16 (by rw[Tryz.ntmps16];simp) ?_
    rw[Tryz.ntmps16,Tryz.results16]
    repeat'(first|refine a_seq fun K hK=>?_|((first|refine a_regionS ?_|refine a_drawS (by decide+kernel) ?_);simp(maxSteps:=2000000) only[Ty.w,simprocAttr,k1,k2,k3])|(refine a_skip ?_;try simp only[pst0,simprocAttr])|(refine a_cond _ (by(try simp(maxSteps:=2000000) only[Ty.w,simprocAttr,k1,k2,k3]);rfl) (fun hb=>?_) (fun hb=>?_)<;>(try simp only[hb0,decide_eq_true_eq,decide_eq_false_iff_not,simprocAttr]at hb)<;>(try(exfalso;omega)))|(refine hK _ _ ?_;clear hK;try simp only[pst0,simprocAttr]))
    (first|refine a_dcall0 (hw _) (by(try simp only[Ty.w,simprocAttr,]);try rfl) ?_|refine a_dcallA (hw _) (by(try simp only[Ty.w,simprocAttr,]);try rfl) (by simp only[Ty.w,simprocAttr,];try trivial) ?_);simp(maxSteps:=2000000) only[Ty.w,simprocAttr,Option.getD_some,]
    skip
    (first|refine a_dcall0 (ca _) (by(try simp only[Ty.w,simprocAttr,]);try rfl) ?_|refine a_dcallA (ca _) (by(try simp only[Ty.w,simprocAttr,]);try rfl) (by simp only[Ty.w,simprocAttr,];try trivial) ?_);simp(maxSteps:=2000000) only[Ty.w,simprocAttr,Option.getD_some,]
    skip
    (first|refine a_dcall0 (cb _) (by(try simp only[Ty.w,simprocAttr,]);try rfl) ?_|refine a_dcallA (cb _) (by(try simp only[Ty.w,simprocAttr,]);try rfl) (by simp only[Ty.w,simprocAttr,];try trivial) ?_);simp(maxSteps:=2000000) only[Ty.w,simprocAttr,Option.getD_some,]
    repeat'(first|(refine a_ret ?_;simp(maxSteps:=2000000) only[Ty.w,simprocAttr])|(refine hK _ _ ?_;clear hK;try simp only[pst0,simprocAttr])|(with_reducible refine a_past2 (by simp only[List.forall_mem_cons,Ty.w,simprocAttr];(repeat' apply And.intro)<;>first|trivial|exact .inl (by decide+kernel)) ?_;try simp(maxSteps:=2000000) only[Ty.w,simprocAttr]))
    refine⟨?_,((Grow.refl h).new _).set (Nat.le_refl _) _⟩
    simp only[FrzTo]
    exact⟨_,rfl,hfz _ _⟩
   |false=>
    cases k4:(op.data.toList==(#[60,61]:Array UInt8).toList)with
    |true=>
     rw[if_pos (by simp[isCmp,(show bEq op opAtom=false from k1),(show bEq op opSame=false from k2),(show bEq op opLt=false from k3),(show bEq op opLe=true from k4)])]
     have hx2:exprs.length=2:=by have q:=hpo;simp[partsOk,shapeOf,(show bEq op opAtom=false from k1),(show bEq op opSame=false from k2),(show bEq op opLt=false from k3),(show bEq op opLe=true from k4)]at q;omega
     obtain⟨a,b,rfl⟩: ∃ a b,exprs=[a,b]:=by
      match exprs,hx2 with
      |[a,b],_=>exact⟨a,b,rfl⟩
     have ca:=rwriteE_c a (hes a (by simp)) (hse a (by simp))
     have cb:=rwriteE_c b (hes b (by simp)) (hse b (by simp))
     have hw:=fun h:Heap=>rwd_c (h:=h) (s:=op)
     simp only[List.map_cons,List.map_nil]
     have hfz:=fun(n:Nat)(h:Heap)=>sx_frz n h (listM [wordM op,exW a,exW b])
     generalize exW a=xa at ca hfz⊢
     generalize exW b=xb at cb hfz⊢
     clear ih hks hpo hse hsk hes
     obtain⟨aop,aname,an,aargs,akids⟩:=a
     obtain⟨bop,bname,bn,bargs,bkids⟩:=b
     obtain⟨ki,va,li,co,te,ks⟩:=xa
     obtain⟨ki2,va2,li2,co2,te2,ks2⟩:=xb
     simp only[Fm.cells,Ex.cells,Ex.rows,listM,Sx.cells,Sx.rows,wordM]at ca cb hw hfz⊢
     refine pcall_body (ow:=fun _=>false) (wf:=fun _=>false) Ty.mixed Tryz.func16 rfl Ty.hb_16 (by rw[Tryz.ntmps16];simp) ?_
     rw[Tryz.ntmps16,Tryz.results16]
     repeat'(first|refine a_seq fun K hK=>?_|((first|refine a_regionS ?_|refine a_drawS (by decide+kernel) ?_);simp(maxSteps:=2000000) only[Ty.w,simprocAttr,k1,k2,k3,k4])|(refine a_skip ?_;try simp only[pst0,simprocAttr])|(refine a_cond _ (by(try simp(maxSteps:=2000000) only[Ty.w,simprocAttr,k1,k2,k3,k4]);rfl) (fun hb=>?_) (fun hb=>?_)<;>(try simp only[hb0,decide_eq_true_eq,decide_eq_false_iff_not,simprocAttr]at hb)<;>(try(exfalso;omega)))|(refine hK _ _ ?_;clear hK;try simp only[pst0,simprocAttr]))
     (first|refine a_dcall0 (hw _) (by(try simp only[Ty.w,simprocAttr,]);try rfl) ?_|refine a_dcallA (hw _) (by(try simp only[Ty.w,simprocAttr,]);try rfl) (by simp only[Ty.w,simprocAttr,];try trivial) ?_);simp(maxSteps:=2000000) only[Ty.w,simprocAttr,Option.getD_some,]
     skip
     (first|refine a_dcall0 (ca _) (by(try simp only[Ty.w,simprocAttr,]);try rfl) ?_|refine a_dcallA (ca _) (by(try simp only[Ty.w,simprocAttr,]);try rfl) (by simp only[Ty.w,simprocAttr,];try trivial) ?_);simp(maxSteps:=2000000) only[Ty.w,simprocAttr,Option.getD_some,]
     skip
     (first|refine a_dcall0 (cb _) (by(try simp only[Ty.w,simprocAttr,]);try rfl) ?_|refine a_dcallA (cb _) (by(try simp only[Ty.w,simprocAttr,]);try rfl) (by simp only[Ty.w,simprocAttr,];try trivial) ?_);simp(maxSteps:=2000000) only[Ty.w,simprocAttr,Option.getD_some,]
     repeat'(first|(refine a_ret ?_;simp(maxSteps:=2000000) only[Ty.w,simprocAttr])|(refine hK _ _ ?_;clear hK;try simp only[pst0,simprocAttr])|(with_reducible refine a_past2 (by simp only[List.forall_mem_cons,Ty.w,simprocAttr];(repeat' apply And.intro)<;>first|trivial|exact .inl (by decide+kernel)) ?_;try simp(maxSteps:=2000000) only[Ty.w,simprocAttr]))
     refine⟨?_,((Grow.refl h).new _).set (Nat.le_refl _) _⟩
     simp only[FrzTo]
     exact⟨_,rfl,hfz _ _⟩
    |false=>
     cases k5:(op.data.toList==(#[61]:Array UInt8).toList)with
     |true=>
      rw[if_pos (by simp[isCmp,(show bEq op opAtom=false from k1),(show bEq op opSame=false from k2),(show bEq op opLt=false from k3),(show bEq op opLe=false from k4),(show bEq op opEq=true from k5)])]
      have hx2:exprs.length=2:=by have q:=hpo;simp[partsOk,shapeOf,(show bEq op opAtom=false from k1),(show bEq op opSame=false from k2),(show bEq op opLt=false from k3),(show bEq op opLe=false from k4),(show bEq op opEq=true from k5)]at q;omega
      obtain⟨a,b,rfl⟩: ∃ a b,exprs=[a,b]:=by
       match exprs,hx2 with
       |[a,b],_=>exact⟨a,b,rfl⟩
      have ca:=rwriteE_c a (hes a (by simp)) (hse a (by simp))
      have cb:=rwriteE_c b (hes b (by simp)) (hse b (by simp))
      have hw:=fun h:Heap=>rwd_c (h:=h) (s:=op)
      simp only[List.map_cons,List.map_nil]
      have hfz:=fun(n:Nat)(h:Heap)=>sx_frz n h (listM [wordM op,exW a,exW b])
      generalize exW a=xa at ca hfz⊢
      generalize exW b=xb at cb hfz⊢
      clear ih hks hpo hse hsk hes
      obtain⟨aop,aname,an,aargs,akids⟩:=a
      obtain⟨bop,bname,bn,bargs,bkids⟩:=b
      obtain⟨ki,va,li,co,te,ks⟩:=xa
      obtain⟨ki2,va2,li2,co2,te2,ks2⟩:=xb
      simp only[Fm.cells,Ex.cells,Ex.rows,listM,Sx.cells,Sx.rows,wordM]at ca cb hw hfz⊢
      refine pcall_body (ow:=fun _=>false) (wf:=fun _=>false) Ty.mixed Tryz.func16 rfl Ty.hb_16 (by rw[Tryz.ntmps16];simp) ?_
      rw[Tryz.ntmps16,Tryz.results16]
      repeat'(first|refine a_seq fun K hK=>?_|((first|refine a_regionS ?_|refine a_drawS (by decide+kernel) ?_);simp(maxSteps:=2000000) only[Ty.w,simprocAttr,k1,k2,k3,k4,k5])|(refine a_cond _ (by(try simp(maxSteps:=2000000) only[Ty.w,simprocAttr,k1,k2,k3,k4,k5]);rfl) (fun hb=>?_) (fun hb=>?_)<;>(try simp only[hb0,decide_eq_true_eq,decide_eq_false_iff_not,simprocAttr]at hb)<;>(try(exfalso;omega)))|(refine hK _ _ ?_;clear hK;try simp only[pst0,simprocAttr]))
      (first|refine a_dcall0 (hw _) (by(try simp only[Ty.w,simprocAttr,]);try rfl) ?_|refine a_dcallA (hw _) (by(try simp only[Ty.w,simprocAttr,]);try rfl) (by simp only[Ty.w,simprocAttr,];try trivial) ?_);simp(maxSteps:=2000000) only[Ty.w,simprocAttr,Option.getD_some,]
      skip
      (first|refine a_dcall0 (ca _) (by(try simp only[Ty.w,simprocAttr,]);try rfl) ?_|refine a_dcallA (ca _) (by(try simp only[Ty.w,simprocAttr,]);try rfl) (by simp only[Ty.w,simprocAttr,];try trivial) ?_);simp(maxSteps:=2000000) only[Ty.w,simprocAttr,Option.getD_some,]
      skip
      (first|refine a_dcall0 (cb _) (by(try simp only[Ty.w,simprocAttr,]);try rfl) ?_|refine a_dcallA (cb _) (by(try simp only[Ty.w,simprocAttr,]);try rfl) (by simp only[Ty.w,simprocAttr,];try trivial) ?_);simp(maxSteps:=2000000) only[Ty.w,simprocAttr,Option.getD_some,]
      repeat'(first|(refine a_ret ?_;simp(maxSteps:=2000000) only[Ty.w,simprocAttr])|(refine hK _ _ ?_;clear hK;try simp only[pst0,simprocAttr])|(with_reducible refine a_past2 (by simp only[List.forall_mem_cons,Ty.w,simprocAttr];(repeat' apply And.intro)<;>first|trivial|exact .inl (by decide+kernel)) ?_;try simp(maxSteps:=2000000) only[Ty.w,simprocAttr]))
      refine⟨?_,((Grow.refl h).new _).set (Nat.le_refl _) _⟩
      simp only[FrzTo]
      exact⟨_,rfl,hfz _ _⟩
     |false=>
      rw[if_neg (by simp[isCmp,(show bEq op opLt=false from k3),(show bEq op opLe=false from k4),(show bEq op opEq=false from k5)])]
      clear hse hes hpo
      have n6:bEq op opAnd=(op.data.toList==(#[97,110,100]:Array UInt8).toList):=rfl
      by_cases hz:(bEq op opAnd&&kids.isEmpty)=true
      ·have hz2:=hz
       rw[Bool.and_eq_true]at hz2
       have k6:(op.data.toList==(#[97,110,100]:Array UInt8).toList)=true:=hz2.1
       have hk0:kids=[]:=List.isEmpty_iff.1 hz2.2
       have hq:isQ op=false:=by rw[bEq_eq hz2.1];try rfl
       subst hk0
       rw[if_pos hz,hq]
       simp only[Bool.false_eq_true,if_false,fmWs,List.append_nil,Fm.cells,Fm.rows]
       refine pcall_body (ow:=fun _=>false) (wf:=fun _=>false) Ty.mixed Tryz.func16 rfl Ty.hb_16 (by rw[Tryz.ntmps16];simp) ?_
       rw[Tryz.ntmps16,Tryz.results16]
       repeat'(first|refine a_seq fun K hK=>?_|(refine a_block ?_)|((first|refine a_regionS ?_|refine a_ret ?_);simp(maxSteps:=2000000) only[Ty.w,simprocAttr,k1,k2,k3,k4,k5,k6])|(refine a_skip ?_;try simp only[pst0,simprocAttr])|(refine a_cond _ (by(try simp(maxSteps:=2000000) only[Ty.w,simprocAttr,k1,k2,k3,k4,k5,k6]);rfl) (fun hb=>?_) (fun hb=>?_)<;>(try simp only[hb0,decide_eq_true_eq,decide_eq_false_iff_not,simprocAttr]at hb)<;>(try(exfalso;omega)))|(refine hK _ _ ?_;clear hK;try simp only[pst0,simprocAttr]))
       refine⟨?_,((Grow.refl h).new _).set (Nat.le_refl _) _⟩
       simp only[listM,Sx.cells,Sx.rows,FrzTo,FrzL]
       exact⟨_,rfl,rfl,rfl,rfl,rfl,rfl,.inr (.inl ⟨rfl,.inr rfl⟩),trivial⟩
      ·rw [if_neg hz]
       have hw: ∀ (s:ByteArray)(h:Heap),PCall Tryz.prog 38 [sPV s] h fun r h'=>r= .agg (wordM s).cells∧h'=h:=fun s h=>rwd_c
       simp only[wordM,Sx.cells,Sx.rows]at hw
       simp only[Fm.cells]
       refine pcall_body (ow:=fun t=>t==51) (wf:=fun _=>false) Ty.mixed Tryz.func16 rfl Ty.hb_16 (by rw[Tryz.ntmps16];simp) ?_
       rw[Tryz.ntmps16,Tryz.results16]
       repeat'(first|(with_reducible refine a_hold 10 ?_)|refine a_seq fun K hK=>?_|(refine a_block ?_)|(refine a_regionS ?_;simp(maxSteps:=2000000) only[Ty.w,simprocAttr,k1,k2,k3,k4,k5])|(refine a_skip ?_;try simp only[pst0,simprocAttr])|(refine a_cond _ (by(try simp(maxSteps:=2000000) only[Ty.w,simprocAttr,k1,k2,k3,k4,k5]);rfl) (fun hb=>?_) (fun hb=>?_)<;>(try simp only[hb0,decide_eq_true_eq,decide_eq_false_iff_not,simprocAttr]at hb)<;>(try(exfalso;omega)))|(refine hK _ _ ?_;clear hK;try simp only[pst0,simprocAttr]))
       refine⟨?_⟩
       refine a_cut (fun S h'=>S 1= .cptr (Fm.mk op name args params exprs kids).cells∧S 2= .ptr h.next 0 0∧h'=h.new (.arr 6 [[.sc (.int .i64 0),.sc (.int .i64 0),.sc (.int .i64 0),.sc (.int .i64 0),.sc (.string ⟨#[]⟩),.sc (.slice none 0 0)]])) ?_ ?_
       ·cases k6:(op.data.toList==(#[97,110,100]:Array UInt8).toList)with
        |false=>
         repeat'(first|refine a_seq fun K hK=>?_|(refine a_regionS ?_;simp(maxSteps:=2000000) only[Ty.w,simprocAttr,k6])|(refine a_skip ?_;try simp only[pst0,simprocAttr])|(refine a_cond _ (by(try simp(maxSteps:=2000000) only[Ty.w,simprocAttr,k6]);rfl) (fun hb=>?_) (fun hb=>?_)<;>(try simp only[hb0,decide_eq_true_eq,decide_eq_false_iff_not,simprocAttr]at hb)<;>(try(exfalso;omega)))|(refine hK _ _ ?_;clear hK;try simp only[pst0,simprocAttr]))
         all_goals first|rfl|trivial|((try refine⟨?_,?_,?_⟩)<;>first|rfl|trivial)|((try refine⟨?_,?_⟩)<;>first|rfl|trivial)
        |true=>
         have hk0:((kids.length:Int)==0)=false:=by
          cases kids with
          |nil=>exact absurd (by rw[n6,k6];try rfl) hz
          |cons a l=>simp;omega
         repeat'(first|refine a_seq fun K hK=>?_|(refine a_regionS ?_;simp(maxSteps:=2000000) only[Ty.w,simprocAttr,k6,hk0,hlK])|(refine a_skip ?_;try simp only[pst0,simprocAttr])|(refine a_cond _ (by(try simp(maxSteps:=2000000) only[Ty.w,simprocAttr,k6,hk0,hlK]);rfl) (fun hb=>?_) (fun hb=>?_)<;>(try simp only[hb0,decide_eq_true_eq,decide_eq_false_iff_not,simprocAttr]at hb)<;>(try(exfalso;omega)))|(refine hK _ _ ?_;clear hK;try simp only[pst0,simprocAttr]))
         all_goals first|rfl|trivial|((try refine⟨?_,?_,?_⟩)<;>first|rfl|trivial)|((try refine⟨?_,?_⟩)<;>first|rfl|trivial)
       ·rintro S h' ⟨g1,g2,rfl⟩
        simp only[Fm.cells]at g1
        repeat'(first|refine a_seq fun K hK=>?_|(refine a_regionS ?_;simp(maxSteps:=2000000) only[Ty.w,simprocAttr,g1,g2]))
        refine owp_useQ (hw op _) (by(try simp only[Ty.w,simprocAttr,g1,g2]);try rfl) ?_;simp(maxSteps:=2000000) only[Ty.w,simprocAttr,g1,g2]
        repeat'(first|(with_reducible refine a_hold 13 ?_)|(refine hK _ _ ?_;clear hK;try simp only[pst0,simprocAttr]))
        refine⟨?_⟩
        refine a_cut (fun S h'=>S 1= .cptr (Fm.mk op name args params exprs kids).cells∧S 2= .ptr h.next 0 0∧ ∃ id,S 3= .own id 0 (wordM op::(if isQ op=true then[listM (paramsW params)]else[])).length∧Grow h h'∧h.next<id∧id<h'.next∧h'.obj h.next=some (.arr 6 [[.sc (.int .i64 0),.sc (.int .i64 0),.sc (.int .i64 0),.sc (.int .i64 0),.sc (.string ⟨#[]⟩),.sc (.slice none 0 0)]])∧h'.obj id=some (.arr 6 (Sx.rows (wordM op::(if isQ op=true then[listM (paramsW params)]else[]))))) ?_ ?_
        ·have n7:bEq op opAll=(op.data.toList==(#[102,111,114,97,108,108]:Array UInt8).toList):=rfl
         have n8:bEq op opSome=(op.data.toList==(#[101,120,105,115,116,115]:Array UInt8).toList):=rfl
         cases k7:(op.data.toList==(#[102,111,114,97,108,108]:Array UInt8).toList)with
         |true=>
          rw[if_pos (by simp[isQ,n7,n8,k7])]
          have hwp:=rwriteParams_c (l:=params) hpl
          simp only[listM,wordM,Sx.rows,Sx.cells,List.length_cons,List.length_nil]
          generalize Sx.rows (paramsW params)=PR at hwp⊢
          repeat'(first|refine a_seq fun K hK=>?_|(refine a_regionS ?_;simp(maxSteps:=2000000) only[Ty.w,simprocAttr,g1,g2,k7,nsucc,Nat.add_eq_left,Nat.one_ne_zero])|(refine a_cond _ (by(try simp(maxSteps:=2000000) only[Ty.w,simprocAttr,g1,g2,k7,nsucc,Nat.add_eq_left,Nat.one_ne_zero]);rfl) (fun hb=>?_) (fun hb=>?_)<;>(try simp only[hb0,decide_eq_true_eq,decide_eq_false_iff_not,simprocAttr]at hb)<;>(try(exfalso;omega)))|(refine hK _ _ ?_;clear hK;try simp only[pst0,simprocAttr]))
          refine owp_useQ (hwp _) (by(try simp only[Ty.w,simprocAttr,g1,g2,k7]);try rfl) ?_;simp(maxSteps:=2000000) only[Ty.w,simprocAttr,g1,g2,k7]
          skip
          refine⟨rfl,h.next+1+1,?_,((((Grow.refl h).new _).new _).kill (Nat.le_succ _)).new _,by omega,by simp[Heap.new,Heap.kill],?_,?_⟩
          all_goals first|rfl|(simp[Heap.new,Heap.kill];done)|(simp[Heap.new,Heap.kill];omega)
         |false=>
          cases k8:(op.data.toList==(#[101,120,105,115,116,115]:Array UInt8).toList)with
          |true=>
           rw[if_pos (by simp[isQ,n7,n8,k7,k8])]
           have hwp:=rwriteParams_c (l:=params) hpl
           simp only[listM,wordM,Sx.rows,Sx.cells,List.length_cons,List.length_nil]
           generalize Sx.rows (paramsW params)=PR at hwp⊢
           repeat'(first|refine a_seq fun K hK=>?_|(refine a_regionS ?_;simp(maxSteps:=2000000) only[Ty.w,simprocAttr,g1,g2,k7,k8,nsucc,Nat.add_eq_left,Nat.one_ne_zero])|(refine a_cond _ (by(try simp(maxSteps:=2000000) only[Ty.w,simprocAttr,g1,g2,k7,k8,nsucc,Nat.add_eq_left,Nat.one_ne_zero]);rfl) (fun hb=>?_) (fun hb=>?_)<;>(try simp only[hb0,decide_eq_true_eq,decide_eq_false_iff_not,simprocAttr]at hb)<;>(try(exfalso;omega)))|(refine hK _ _ ?_;clear hK;try simp only[pst0,simprocAttr]))
           refine owp_useQ (hwp _) (by(try simp only[Ty.w,simprocAttr,g1,g2,k7,k8]);try rfl) ?_;simp(maxSteps:=2000000) only[Ty.w,simprocAttr,g1,g2,k7,k8]
           skip
           refine⟨rfl,h.next+1+1,?_,((((Grow.refl h).new _).new _).kill (Nat.le_succ _)).new _,by omega,by simp[Heap.new,Heap.kill],?_,?_⟩
           all_goals first|rfl|(simp[Heap.new,Heap.kill];done)|(simp[Heap.new,Heap.kill];omega)
          |false=>
           rw[if_neg (by simp[isQ,n7,n8,k7,k8])]
           simp only[wordM,Sx.rows,Sx.cells,List.length_cons,List.length_nil]
           repeat'(first|refine a_seq fun K hK=>?_|(refine a_regionS ?_;simp(maxSteps:=2000000) only[Ty.w,simprocAttr,g1,g2,k7,k8])|(refine a_skip ?_;try simp only[pst0,simprocAttr])|(refine a_cond _ (by(try simp(maxSteps:=2000000) only[Ty.w,simprocAttr,g1,g2,k7,k8]);rfl) (fun hb=>?_) (fun hb=>?_)<;>(try simp only[hb0,decide_eq_true_eq,decide_eq_false_iff_not,simprocAttr]at hb)<;>(try(exfalso;omega)))|(refine hK _ _ ?_;clear hK;try simp only[pst0,simprocAttr]))
           (try simp(maxSteps:=2000000) only[Ty.w,simprocAttr,Ty.all,g1,g2])
           refine⟨rfl,h.next+1,?_,((Grow.refl h).new _).new _,by omega,by simp[Heap.new],?_,?_⟩
           all_goals first|rfl|simp[Heap.new]
        ·clear g1 g2 S
         obtain⟨L1,hL1,hl1⟩: ∃ L1:List Sx,(wordM op::(if isQ op=true then[listM (paramsW params)]else[]))=L1∧L1.length≤2:=⟨_,rfl,by split<;>simp⟩
         have hfin:[wordM op]++(if isQ op=true then[listM (paramsW params)]else[])++fmWs kids=L1++kids.map fmW:=by rw[← hL1,fmWs_map];try rfl
         rw[hfin,hL1]
         clear hL1 hfin
         rintro S h' ⟨g1,g2,id,g3,hg,hlo,hhi,o1,o2⟩
         simp only[Fm.cells]at g1
         have hrl: ∀ k,(L1++(kids.take k).map fmW).length≤1048578:=fun k=>by simp;omega
         repeat'(first|refine a_seq fun K hK=>?_|(refine a_block ?_)|(refine a_regionS ?_;simp(maxSteps:=2000000) only[Ty.w,simprocAttr,g1,g2,g3,hlK])|(refine hK _ _ ?_;clear hK;try simp only[pst0,simprocAttr]))
         refine a_loop (fun c S h'=>S 1= .cptr (Fm.mk op name args params exprs kids).cells∧S 2= .ptr h.next 0 0∧ ∃ k id:Nat,S 4= .sc (.int .i64 k)∧S 3= .own id 0 (L1++(kids.take k).map fmW).length∧k≤kids.length∧c=kids.length-k∧Grow h h'∧h.next<id∧id<h'.next∧h'.obj h.next=some (.arr 6 [[.sc (.int .i64 0),.sc (.int .i64 0),.sc (.int .i64 0),.sc (.int .i64 0),.sc (.string ⟨#[]⟩),.sc (.slice none 0 0)]])∧h'.obj id=some (.arr 6 (Sx.rows (L1++(kids.take k).map fmW)))) kids.length ?_ ?_
         ·simp only[Ty.w,simprocAttr,g1,g2,g3]
          exact⟨rfl,0,id,rfl,by simp,by omega,rfl,hg,hlo,hhi,o1,by simpa using o2⟩
         ·clear g1 g2 g3 o1 o2 hg hlo hhi S
          rintro c S h' ⟨g1,g2,k,id,g4,g3,hk,rfl,hg,hlo,hhi,o1,o2⟩
          simp only[Fm.cells]at g1
          by_cases hlt:k<kids.length
          ·have hdk:decide ((k:Int)<(kids.length:Int))=true:=by simp;omega
           have w7:IntKind.i64.wrap ((k:Int)+1)=k+1:=by rw[wrap64 (by omega) (by omega)]
           obtain⟨x,hx⟩: ∃ x,kids[k]? =some x:=⟨_,List.getElem?_eq_getElem hlt⟩
           have hmem:=List.mem_of_getElem? hx
           have hr:=Fm.rows_get hx
           have hcx:=ih x hmem (hks x hmem) (hsk x hmem)
           have hL:L1++(kids.take (k+1)).map fmW=L1++(kids.take k).map fmW++[fmW x]:=by rw[List.take_add_one,hx];simp
           have hrk:=hrl k
           generalize L1++(kids.take k).map fmW=L2 at g3 o2 hrk hL
           generalize fmW x=X at hcx hL
           obtain⟨xo,xn,xa,xp,xe,xk⟩:=x
           obtain⟨ki,va,li,co,te,ks⟩:=X
           simp only[Fm.cells,Sx.cells]at hr hcx
           have hR:Sx.rows (L2++[.mk ki va li co te ks])=Sx.rows L2++[[.sc (.int .i64 ki),.sc (.int .i64 va),.sc (.int .i64 li),.sc (.int .i64 co),sPV te,.imm 6 (Sx.rows ks)]]:=by simp[Sx.rows_map,Sx.cells]
           have hpr:=Sx.rows_len L2
           generalize Sx.rows L2=R at o2 hpr hR
           have htk:List.take L2.length R=R:=List.take_of_length_le (by omega)
           have hb:(L2.length+1)*72≤140737488355328:=by omega
           have W:=And.intro g1 (And.intro g2 (And.intro g3 (And.intro g4 (And.intro hpr (And.intro htk (And.intro o2 hb))))))
           repeat'(first|refine a_seq fun K hK=>?_|(refine a_block ?_)|((first|refine a_regionS ?_|refine a_region (fun K hK=>?_));simp(maxSteps:=2000000) only[Ty.w,simprocAttr,W,hlK,hdk,hr])|(refine a_skip ?_;try simp only[pst0,simprocAttr])|(refine a_cond _ (by(try simp(maxSteps:=2000000) only[Ty.w,simprocAttr,W,hlK,hdk,hr]);rfl) (fun hb=>?_) (fun hb=>?_)<;>(try simp only[hb0,decide_eq_true_eq,decide_eq_false_iff_not,simprocAttr]at hb)<;>(try(exfalso;omega)))|(refine hK _ _ ?_;clear hK;try simp only[pst0,simprocAttr]))
           refine owp_useQ (hcx _) (by(try simp only[Ty.w,simprocAttr,W]);try rfl) ?_;simp(maxSteps:=2000000) only[Ty.w,simprocAttr,W]
           repeat'(first|(refine a_regionS ?_;simp(maxSteps:=2000000) only[Ty.w,simprocAttr,W,w7])|(refine hK _ _ ?_;clear hK;try simp only[pst0,simprocAttr])|(rw[if_pos];rotate_left 1;omega;simp(maxSteps:=2000000) only[Ty.w,simprocAttr,W,w7]))
           refine⟨kids.length-(k+1),by omega,rfl,k+1,h'.next,by simp,?_,by omega,rfl,(hg.kill (by omega)).new _,by omega,by simp[Heap.new,Heap.kill],?_,?_⟩
           ·rw [hL];simp
           ·rw [if_neg (by omega),if_neg (by omega)]
            exact o1
           ·rw [hL,hR];simp[Heap.new,Heap.kill]
          ·have hdk:decide ((k:Int)<(kids.length:Int))=false:=by simp;omega
           have hke:k=kids.length:=by omega
           subst hke
           rw[List.take_length]at o2 g3
           repeat'(first|refine a_seq fun K hK=>?_|((first|refine a_regionS ?_|refine a_ret ?_);simp(maxSteps:=2000000) only[Ty.w,simprocAttr,g1,g2,g3,g4,hlK,hdk,o1,o2])|(refine a_exit ?_;try simp only[pst0,simprocAttr])|(refine a_cond _ (by(try simp(maxSteps:=2000000) only[Ty.w,simprocAttr,g1,g2,g3,g4,hlK,hdk,o1,o2]);rfl) (fun hb=>?_) (fun hb=>?_)<;>(try simp only[hb0,decide_eq_true_eq,decide_eq_false_iff_not,simprocAttr]at hb)<;>(try(exfalso;omega)))|((first|refine hK _ _ ?_|(clear hK;refine hK _ _ ?_));clear hK;try simp only[pst0,simprocAttr]))
           refine⟨?_,hg.set (Nat.le_refl _) _⟩
           simp only[listM,Sx.cells,FrzTo,FrzL]
           refine⟨_,rfl,rfl,rfl,rfl,rfl,rfl,.inr (.inr ⟨id,0,_,Sx.rows (L1++kids.map fmW),rfl,by omega,?_,?_,?_⟩),trivial⟩
           ·simp only[Heap.set];rw[if_neg (by omega)];exact o2
           ·rw [Sx.rows_len];omega
           ·rw [List.drop_zero,List.take_of_length_le (by rw[Sx.rows_len];omega)]
            exact sxs_frz _ _ _
end Go.Proofs.YtjlkapgpjamnkaaGreat
namespace Go.Proofs.YtjlkapgpjamnkaaGreat
open Go.AM
set_option maxHeartbeats 4000000
set_option maxRecDepth 20000
theorem rvalidF_c{f:Fm}(hok:f.ok)(hsm:f.small)(hd:(fmW f).depth≤bigN)(h:Heap):PCall Tryz.prog 6 [.agg f.cells] h fun r h'=>r= .sc (.bool (shapedF f&&rvalidB (fmW f)))∧h'=h:=by
 have hs:=rshapedF_c f hok
 cases hb:shapedF f with
 |false=>
  rw[hb]at hs
  obtain⟨op,name,args,params,exprs,kids⟩:=f
  simp only[Fm.cells]at hs⊢
  refine pcall_body (ow:=fun _=>false) (wf:=fun _=>false) Ty.mixed Tryz.func6 rfl Ty.hb_6 (by rw[Tryz.ntmps6];simp) ?_
  rw[Tryz.ntmps6,Tryz.results6]
  repeat'(first|refine a_seq fun K hK=>?_|(refine a_regionS ?_;simp(maxSteps:=2000000) only[Ty.w,simprocAttr])|(refine hK _ _ ?_;clear hK;try simp only[pst0,simprocAttr]))
  refine owp_useQ (hs _) (by(try simp only[Ty.w,simprocAttr,]);try rfl) ?_;simp(maxSteps:=2000000) only[Ty.w,simprocAttr,]
  repeat'(first|(refine a_ret ?_;simp(maxSteps:=2000000) only[Ty.w,simprocAttr])|(refine hK _ _ ?_;clear hK;try simp only[pst0,simprocAttr]))
  all_goals rfl
 |true=>
  rw[hb]at hs
  have hx:=fmW_ok f hok hsm hb
  have hw:=rwriteF_c f hsm hb
  have hv:=rvalid_c hx hd
  have hq:rvalidB (fmW f)=(shapedS (fmW f)&&decide (((fmW f).depth:Int)≤32)&&decide ((fmW f).count≤4096)):=rfl
  rw[← hq]at hv
  clear hq
  generalize rvalidB (fmW f)=bb at hv⊢
  generalize fmW f=X at hw hv
  obtain⟨op,name,args,params,exprs,kids⟩:=f
  obtain⟨ki,va,li,co,te,ks⟩:=X
  simp only[Fm.cells,Sx.cells,Bool.true_and]at hs hw hv⊢
  refine pcall_body (ow:=fun _=>false) (wf:=fun _=>false) Ty.mixed Tryz.func6 rfl Ty.hb_6 (by rw[Tryz.ntmps6];simp) ?_
  rw[Tryz.ntmps6,Tryz.results6]
  repeat'(first|refine a_seq fun K hK=>?_|(refine a_regionS ?_;simp(maxSteps:=2000000) only[Ty.w,simprocAttr])|(refine hK _ _ ?_;clear hK;try simp only[pst0,simprocAttr]))
  refine owp_useQ (hs _) (by(try simp only[Ty.w,simprocAttr,]);try rfl) ?_;simp(maxSteps:=2000000) only[Ty.w,simprocAttr,]
  skip
  refine owp_useQ (hw _) (by(try simp only[Ty.w,simprocAttr,]);try rfl) ?_;simp(maxSteps:=2000000) only[Ty.w,simprocAttr,]
  skip
  refine owp_useQ (hv _) (by(try simp only[Ty.w,simprocAttr,]);try rfl) ?_;simp(maxSteps:=2000000) only[Ty.w,simprocAttr,]
  repeat'(first|(refine a_ret ?_;simp(maxSteps:=2000000) only[Ty.w,simprocAttr])|(refine hK _ _ ?_;clear hK;try simp only[pst0,simprocAttr]))
end Go.Proofs.YtjlkapgpjamnkaaGreat
namespace Go.Proofs.YtjlkapgpjamnkaaGreat
open Go.AM
set_option maxHeartbeats 4000000
set_option maxRecDepth 20000
theorem rboundF_c{params:List Pm}{s:ByteArray}(hpl:params.length≤1048576)(h:Heap):
  PCall Tryz.prog 23 [.imm 2 (pmRows params),sPV s] h fun r h'=>r= .sc (.bool (memB (params.map Pm.name) s))∧h'=h:=by
 have hlP:=pmRows_len params
 generalize hR:memB (params.map Pm.name) s=R
 refine pcall_body (ow:=fun _=>false) (wf:=fun _=>false) Ty.mixed Tryz.func23 rfl Ty.hb_23 (by rw[Tryz.ntmps23];simp) ?_
 rw[Tryz.ntmps23,Tryz.results23]
 repeat'(first|refine a_seq fun K hK=>?_|(refine a_block ?_)|(refine a_regionS ?_;simp(maxSteps:=2000000) only[Ty.w,simprocAttr])|(refine hK _ _ ?_;clear hK;try simp only[pst0,simprocAttr]))
 refine a_loop (fun c S h'=>S 0= .imm 2 (pmRows params)∧S 1=sPV s∧ ∃ k:Nat,S 5= .sc (.int .i64 k)∧k≤params.length∧c=params.length-k∧h'=h∧R=memB ((params.drop k).map Pm.name) s) params.length ?_ ?_
 ·simp only[Ty.w,simprocAttr]
  exact⟨0,rfl,by omega,rfl,by rw[List.drop_zero];exact hR.symm⟩
 ·rintro c S h' ⟨g0,g1,k,g5,hk,rfl,rfl,hinv⟩
  by_cases hlt:k<params.length
  ·have hd:decide ((k:Int)<(params.length:Int))=true:=by simp;omega
   have w7:IntKind.i64.wrap ((k:Int)+1)=k+1:=by rw[wrap64 (by omega) (by omega)]
   obtain⟨p,hx⟩: ∃ p,params[k]? =some p:=⟨_,List.getElem?_eq_getElem hlt⟩
   have hr:=pmRows_get hx
   rw[drop_get hx]at hinv
   simp only[List.map_cons,memB,List.any_cons]at hinv
   cases q:(p.name.data.toList==s.data.toList)with
   |true=>
    rw[show bEq p.name s=true from q,Bool.true_or]at hinv
    subst hinv
    repeat'(first|refine a_seq fun K hK=>?_|((first|refine a_regionS ?_|refine a_ret ?_);simp(maxSteps:=2000000) only[Ty.w,simprocAttr,g0,g1,g5,hlP,hd,hr,q])|(refine a_skip ?_;try simp only[pst0,simprocAttr])|(refine a_cond _ (by(try simp(maxSteps:=2000000) only[Ty.w,simprocAttr,g0,g1,g5,hlP,hd,hr,q]);rfl) (fun hb=>?_) (fun hb=>?_)<;>(try simp only[hb0,decide_eq_true_eq,decide_eq_false_iff_not,simprocAttr]at hb)<;>(try(exfalso;omega)))|(refine hK _ _ ?_;clear hK;try simp only[pst0,simprocAttr]))
   |false=>
    rw[show bEq p.name s=false from q,Bool.false_or]at hinv
    repeat'(first|refine a_seq fun K hK=>?_|(refine a_block ?_)|(refine a_regionS ?_;simp(maxSteps:=2000000) only[Ty.w,simprocAttr,g0,g1,g5,hlP,hd,hr,q,w7])|(refine a_skip ?_;try simp only[pst0,simprocAttr])|(refine a_cond _ (by(try simp(maxSteps:=2000000) only[Ty.w,simprocAttr,g0,g1,g5,hlP,hd,hr,q,w7]);rfl) (fun hb=>?_) (fun hb=>?_)<;>(try simp only[hb0,decide_eq_true_eq,decide_eq_false_iff_not,simprocAttr]at hb)<;>(try(exfalso;omega)))|(refine hK _ _ ?_;clear hK;try simp only[pst0,simprocAttr]))
    exact⟨params.length-(k+1),by omega,k+1,by simp,by omega,rfl,hinv⟩
  ·have hd:decide ((k:Int)<(params.length:Int))=false:=by simp;omega
   have e0:params.drop k=[]:=List.drop_eq_nil_of_le (by omega)
   rw[e0]at hinv
   simp only[List.map_nil,memB,List.any_nil]at hinv
   subst hinv
   repeat'(first|refine a_seq fun K hK=>?_|((first|refine a_regionS ?_|refine a_ret ?_);simp(maxSteps:=2000000) only[Ty.w,simprocAttr,g0,g1,g5,hlP,hd])|(refine a_exit ?_;try simp only[pst0,simprocAttr])|(refine a_cond _ (by(try simp(maxSteps:=2000000) only[Ty.w,simprocAttr,g0,g1,g5,hlP,hd]);rfl) (fun hb=>?_) (fun hb=>?_)<;>(try simp only[hb0,decide_eq_true_eq,decide_eq_false_iff_not,simprocAttr]at hb)<;>(try(exfalso;omega)))|((first|refine hK _ _ ?_|(clear hK;refine hK _ _ ?_));clear hK;try simp only[pst0,simprocAttr]))
theorem put_bound{params:List Pm}{a:List UInt8}:(params.any fun p=>key p.name==a)=memB (params.map Pm.name) (keyS a):=by
 have h:=bound_iff (params:=params) (s:=keyS a)
 rw[key_keyS]at h
 have h2:=memB_iff (l:=params.map Pm.name) (s:=keyS a)
 cases h3:memB (params.map Pm.name) (keyS a)with
 |true=>exact h.2 (h2.1 h3)
 |false=>
  cases h4:params.any fun p=>key p.name==a with
  |false=>rfl
  |true=>rw[h2.2 (h.1 h4)]at h3;cases h3
theorem rfree_c: ∀ (f:Fm),PV.bulkL f.cells≤1048576→ ∀ h:Heap,PCall Tryz.prog 9 [.agg f.cells] h fun r h'=>r= .imm 1 (kRows (freeR f))∧h'=h:=by
 refine Fm.ind ?_
 intro op name args params exprs kids ih hb h
 simp only[Fm.cells,PV.bulkL,PV.bulk]at hb
 have hb1:=bulkR_strs args
 have hb2:=bulkR_pms params
 have hb3:=bulkR_exs exprs
 have hb4:=bulkR_fms kids
 have hlE:=Ex.rows_len exprs
 have hlK:=Fm.rows_len kids
 have hv: ∀ H:Heap,PCall Tryz.prog 21 [.sc (.slice none 0 0),.imm 1 (strRows args)] H fun r h'=>r= .imm 1 (kRows (varsR [] args))∧h'=H:=fun H=>
  PCall.nz (rvars_c (out:=[]) (l:=args) (List.Pairwise.nil) (by simp;omega) H) (nz_cons nz_nil (NzL.refl _))
 have hA:=(varsR_ok args [] List.Pairwise.nil).1
 have hAl:=varsR_len args []
 have hE:=freeExsR_len exprs (varsR [] args)
 have hEA:=(freeExsR_ok exprs (varsR [] args) hA).1
 have hlP:params.length≤1048576:=by omega
 simp only[List.length_nil]at hAl
 simp only[freeR,Fm.cells]
 generalize varsR [] args=Y at hv hA hAl hE hEA
 generalize hZ:freeExsR Y exprs=Z at hE hEA
 generalize hR:freesR params Z kids=R
 refine pcall_body (ow:=fun _=>false) (wf:=fun _=>false) Ty.mixed Tryz.func9 rfl Ty.hb_9 (by rw[Tryz.ntmps9];simp) ?_
 rw[Tryz.ntmps9,Tryz.results9]
 repeat'(first|refine a_seq fun K hK=>?_|(refine a_regionS ?_;simp(maxSteps:=2000000) only[Ty.w,simprocAttr])|(refine hK _ _ ?_;clear hK;try simp only[pst0,simprocAttr]))
 refine owp_useQ (hv _) (by(try simp only[Ty.w,simprocAttr,]);try rfl) ?_;simp(maxSteps:=2000000) only[Ty.w,simprocAttr,]
 repeat'(first|refine a_seq fun K hK=>?_|(refine a_block ?_)|(refine a_regionS ?_;simp(maxSteps:=2000000) only[Ty.w,simprocAttr])|(refine hK _ _ ?_;clear hK;try simp only[pst0,simprocAttr]))
 refine a_loop (fun m S h'=>S 1= .cptr [sPV op,sPV name,.imm 1 (strRows args),.imm 2 (pmRows params),.imm 5 (Ex.rows exprs),.imm 6 (Fm.rows kids)]∧h'=h∧ ∃ (k:Nat)(X:List (List UInt8)),S 4= .sc (.int .i64 k)∧S 3= .imm 1 (kRows X)∧k≤exprs.length∧m=exprs.length-k∧X.Pairwise (·<·)∧X.length≤Y.length+PV.bulkR (Ex.rows (exprs.take k))∧Z=freeExsR X (exprs.drop k)) exprs.length ?_ ?_
 ·simp only[Ty.w,simprocAttr]
  exact⟨0,Y,rfl,rfl,by omega,rfl,hA,by omega,by rw[List.drop_zero];exact hZ.symm⟩
 ·clear hZ hv
  rintro m S h' ⟨g1,rfl,k,X,g4,g3,hk,rfl,hX,hXl,hRX⟩
  by_cases hlt:k<exprs.length
  ·have hd:decide ((k:Int)<(exprs.length:Int))=true:=by simp;omega
   have w7:IntKind.i64.wrap ((k:Int)+1)=k+1:=by rw[wrap64 (by omega) (by omega)]
   obtain⟨x,hx⟩: ∃ x,exprs[k]? =some x:=⟨_,List.getElem?_eq_getElem hlt⟩
   have hr:=Ex.rows_get hx
   have hbx:=bulkR_takeE hx
   have hc:=rfreeE_c x hX (by omega)
   have hnA:=(freeExR_ok x X hX).1
   have hnl:=freeExR_len x X
   have hT:=bulkR_takeE1 hx
   rw[drop_get hx]at hRX
   simp only[freeExsR]at hRX
   clear ih
   generalize freeExR X x=V at hc hnA hnl hRX
   generalize PV.bulkL x.cells=bx at hbx hnl hT
   obtain⟨xo,xn,xv,xa,xk⟩:=x
   simp only[Ex.cells]at hr hc
   repeat'(first|refine a_seq fun K hK=>?_|(refine a_block ?_)|((first|refine a_regionS ?_|refine a_region (fun K hK=>?_));simp(maxSteps:=2000000) only[Ty.w,simprocAttr,g1,g3,g4,hlE,hd,hr])|(refine a_skip ?_;try simp only[pst0,simprocAttr])|(refine a_cond _ (by(try simp(maxSteps:=2000000) only[Ty.w,simprocAttr,g1,g3,g4,hlE,hd,hr]);rfl) (fun hb=>?_) (fun hb=>?_)<;>(try simp only[hb0,decide_eq_true_eq,decide_eq_false_iff_not,simprocAttr]at hb)<;>(try(exfalso;omega)))|(refine hK _ _ ?_;clear hK;try simp only[pst0,simprocAttr]))
   refine owp_useQ (hc _) (by(try simp only[Ty.w,simprocAttr,g1,g3,g4,hr]);try rfl) ?_;simp(maxSteps:=2000000) only[Ty.w,simprocAttr,g1,g3,g4,hr]
   repeat'(first|(refine a_regionS ?_;simp(maxSteps:=2000000) only[Ty.w,simprocAttr,g1,g4,w7])|(refine hK _ _ ?_;clear hK;try simp only[pst0,simprocAttr]))
   exact⟨exprs.length-(k+1),by omega,k+1,V,by simp,rfl,by omega,rfl,hnA,by omega,hRX⟩
  ·have hd:decide ((k:Int)<(exprs.length:Int))=false:=by simp;omega
   rw[List.drop_eq_nil_of_le (by omega)]at hRX
   simp only[freeExsR]at hRX
   subst hRX
   clear hXl hX
   repeat'(first|refine a_seq fun K hK=>?_|(refine a_block ?_)|(refine a_regionS ?_;simp(maxSteps:=2000000) only[Ty.w,simprocAttr,g1,g3,g4,hlE,hd])|(refine a_exit ?_;try simp only[pst0,simprocAttr])|(refine a_cond _ (by(try simp(maxSteps:=2000000) only[Ty.w,simprocAttr,g1,g3,g4,hlE,hd]);rfl) (fun hb=>?_) (fun hb=>?_)<;>(try simp only[hb0,decide_eq_true_eq,decide_eq_false_iff_not,simprocAttr]at hb)<;>(try(exfalso;omega)))|((first|refine hK _ _ ?_|(clear hK;refine hK _ _ ?_));clear hK;try simp only[pst0,simprocAttr]))
   refine a_loop (fun m S H=>S 1= .cptr [sPV op,sPV name,.imm 1 (strRows args),.imm 2 (pmRows params),.imm 5 (Ex.rows exprs),.imm 6 (Fm.rows kids)]∧H=h'∧ ∃ (k:Nat)(X:List (List UInt8)),S 5= .sc (.int .i64 k)∧S 3= .imm 1 (kRows X)∧k≤kids.length∧m=kids.length-k∧X.Pairwise (·<·)∧X.length≤Z.length+PV.bulkR (Fm.rows (kids.take k))∧R=freesR params X (kids.drop k)) kids.length ?_ ?_
   ·simp only[Ty.w,simprocAttr,g1,g3,g4]
    exact⟨0,Z,rfl,rfl,by omega,rfl,hEA,by omega,by rw[List.drop_zero];exact hR.symm⟩
   ·clear hR g1 g3 g4 hd hlt hk
    rintro m S H ⟨g1,rfl,k,X,g5,g3,hk,rfl,hX,hXl,hRX⟩
    by_cases hlt:k<kids.length
    ·have hd:decide ((k:Int)<(kids.length:Int))=true:=by simp;omega
     have w7:IntKind.i64.wrap ((k:Int)+1)=k+1:=by rw[wrap64 (by omega) (by omega)]
     obtain⟨x,hx⟩: ∃ x,kids[k]? =some x:=⟨_,List.getElem?_eq_getElem hlt⟩
     have hr:=Fm.rows_get hx
     have hbx:=bulkR_takeF hx
     have hc:=ih x (List.mem_of_getElem? hx) (by omega) H
     have hLl:=freeR_len x
     have hT:=bulkR_takeF1 hx
     have hnA:=(putR_ok params (freeR x) X hX).1
     have hnl:=putR_len params (freeR x) X
     rw[drop_get hx]at hRX
     simp only[freesR]at hRX
     clear ih
     generalize freeR x=L at hc hLl hnA hnl hRX
     generalize hPX:putR params X L=V at hnA hnl hRX
     generalize PV.bulkL x.cells=bx at hbx hLl hT
     obtain⟨xo,xn,xa,xp,xe,xk⟩:=x
     simp only[Fm.cells]at hr hc
     have hlL:=kRows_len L
     repeat'(first|refine a_seq fun K hK=>?_|(refine a_regionS ?_;simp(maxSteps:=2000000) only[Ty.w,simprocAttr,g1,g3,g5,hlK,hd,hr])|(refine a_skip ?_;try simp only[pst0,simprocAttr])|(refine a_cond _ (by(try simp(maxSteps:=2000000) only[Ty.w,simprocAttr,g1,g3,g5,hlK,hd,hr]);rfl) (fun hb=>?_) (fun hb=>?_)<;>(try simp only[hb0,decide_eq_true_eq,decide_eq_false_iff_not,simprocAttr]at hb)<;>(try(exfalso;omega)))|(refine hK _ _ ?_;clear hK;try simp only[pst0,simprocAttr]))
     refine owp_useQ (hc) (by(try simp only[Ty.w,simprocAttr,g1,g3,g5,hr]);try rfl) ?_;simp(maxSteps:=2000000) only[Ty.w,simprocAttr,g1,g3,g5,hr]
     repeat'(first|refine a_seq fun K hK=>?_|(refine a_block ?_)|(refine a_regionS ?_;simp(maxSteps:=2000000) only[Ty.w,simprocAttr,g1,g3,g5])|(refine hK _ _ ?_;clear hK;try simp only[pst0,simprocAttr]))
     refine a_loop (fun m S h'=>S 1= .cptr [sPV op,sPV name,.imm 1 (strRows args),.imm 2 (pmRows params),.imm 5 (Ex.rows exprs),.imm 6 (Fm.rows kids)]∧S 5= .sc (.int .i64 k)∧S 6= .imm 1 (kRows L)∧h'=H∧ ∃ (j:Nat)(W:List (List UInt8)),S 7= .sc (.int .i64 j)∧S 3= .imm 1 (kRows W)∧j≤L.length∧m=L.length-j∧W.Pairwise (·<·)∧W.length≤X.length+j∧V=putR params W (L.drop j)) L.length ?_ ?_
     ·simp only[Ty.w,simprocAttr,g1,g3,g5]
      exact⟨0,X,rfl,rfl,by omega,rfl,hX,by omega,by rw[List.drop_zero];exact hPX.symm⟩
     ·clear hPX g1 g3 g5
      rintro m S h' ⟨g1,g5,g6,rfl,j,W,g7,g3,hj,rfl,hW,hWl,hVW⟩
      by_cases hjl:j<L.length
      ·have hd2:decide ((j:Int)<(L.length:Int))=true:=by simp;omega
       have w8:IntKind.i64.wrap ((j:Int)+1)=j+1:=by rw[wrap64 (by omega) (by omega)]
       obtain⟨a,ha⟩: ∃ a,L[j]? =some a:=⟨_,List.getElem?_eq_getElem hjl⟩
       have hra:=kRows_get ha
       rw[drop_get ha]at hVW
       simp only[putR]at hVW
       have hcb:=rboundF_c (s:=keyS a) hlP h'
       rw[put_bound]at hVW
       cases q:memB (params.map Pm.name) (keyS a)with
       |true=>
        rw[q]at hcb hVW
        simp only[if_true]at hVW
        repeat'(first|refine a_seq fun K hK=>?_|((first|refine a_regionS ?_|refine a_drawS (by decide+kernel) ?_);simp(maxSteps:=2000000) only[Ty.w,simprocAttr,g1,g3,g5,g6,g7,hlL,hd2,hra])|(refine a_skip ?_;try simp only[pst0,simprocAttr])|(refine a_cond _ (by(try simp(maxSteps:=2000000) only[Ty.w,simprocAttr,g1,g3,g5,g6,g7,hlL,hd2,hra]);rfl) (fun hb=>?_) (fun hb=>?_)<;>(try simp only[hb0,decide_eq_true_eq,decide_eq_false_iff_not,simprocAttr]at hb)<;>(try(exfalso;omega)))|(refine hK _ _ ?_;clear hK;try simp only[pst0,simprocAttr]))
        (first|refine a_dcall0 (hcb) (by(try simp only[Ty.w,simprocAttr,g1,g6,g7,hra,Bool.not_true]);try rfl) ?_|refine a_dcallA (hcb) (by(try simp only[Ty.w,simprocAttr,g1,g6,g7,hra,Bool.not_true]);try rfl) (by simp only[Ty.w,simprocAttr,g1,g6,g7,hra,Bool.not_true];try trivial) ?_);simp(maxSteps:=2000000) only[Ty.w,simprocAttr,Option.getD_some,g1,g6,g7,hra,Bool.not_true]
        repeat'(first|(refine a_block ?_)|(refine a_regionS ?_;simp(maxSteps:=2000000) only[Ty.w,simprocAttr,g1,g3,g5,g6,g7,hra,Bool.not_true,w8])|(refine a_skip ?_;try simp only[pst0,simprocAttr])|(refine hK _ _ ?_;clear hK;try simp only[pst0,simprocAttr]))
        exact⟨L.length-(j+1),by omega,j+1,W,by simp,rfl,by omega,rfl,hW,by omega,hVW⟩
       |false=>
        rw[q]at hcb hVW
        simp only[Bool.false_eq_true,if_false]at hVW
        have hca:=radd_c (s:=keyS a) hW (by omega) h'
        rw[show key (keyS a)=a from key_keyS a]at hca
        have hA2:=addR_asc (s:=a) hW
        have hAl2:=addR_len a W
        have W:=And.intro g1 (And.intro g3 (And.intro g5 (And.intro g6 (And.intro g7 hra))))
        repeat'(first|refine a_seq fun K hK=>?_|((first|refine a_regionS ?_|refine a_drawS (by decide+kernel) ?_);simp(maxSteps:=2000000) only[Ty.w,simprocAttr,W,hlL,hd2])|(refine a_skip ?_;try simp only[pst0,simprocAttr])|(refine a_cond _ (by(try simp(maxSteps:=2000000) only[Ty.w,simprocAttr,W,hlL,hd2]);rfl) (fun hb=>?_) (fun hb=>?_)<;>(try simp only[hb0,decide_eq_true_eq,decide_eq_false_iff_not,simprocAttr]at hb)<;>(try(exfalso;omega)))|(refine hK _ _ ?_;clear hK;try simp only[pst0,simprocAttr]))
        (first|refine a_dcall0 (hcb) (by(try simp only[Ty.w,simprocAttr,W,Bool.not_false]);try rfl) ?_|refine a_dcallA (hcb) (by(try simp only[Ty.w,simprocAttr,W,Bool.not_false]);try rfl) (by simp only[Ty.w,simprocAttr,W,Bool.not_false];try trivial) ?_);simp(maxSteps:=2000000) only[Ty.w,simprocAttr,W,Option.getD_some,Bool.not_false]
        repeat'(first|(refine a_block ?_)|(refine a_region (fun K hK=>?_);simp(maxSteps:=2000000) only[Ty.w,simprocAttr,W,Bool.not_false])|(refine hK _ _ ?_;clear hK;try simp only[pst0,simprocAttr]))
        refine owp_useQ (hca) (by(try simp only[Ty.w,simprocAttr,W]);try rfl) ?_;simp(maxSteps:=2000000) only[Ty.w,simprocAttr,W]
        repeat'(first|(refine a_regionS ?_;simp(maxSteps:=2000000) only[Ty.w,simprocAttr,W,w8])|(refine hK _ _ ?_;clear hK;try simp only[pst0,simprocAttr]))
        exact⟨L.length-(j+1),by omega,j+1,_,by simp,rfl,by omega,rfl,hA2,by omega,hVW⟩
      ·have hd2:decide ((j:Int)<(L.length:Int))=false:=by simp;omega
       rw[List.drop_eq_nil_of_le (by omega)]at hVW
       simp only[putR]at hVW
       subst hVW
       repeat'(first|refine a_seq fun K hK=>?_|(refine a_regionS ?_;simp(maxSteps:=2000000) only[Ty.w,simprocAttr,g1,g3,g5,g6,g7,hlL,hd2,w7])|(refine a_exit ?_;try simp only[pst0,simprocAttr])|(refine a_cond _ (by(try simp(maxSteps:=2000000) only[Ty.w,simprocAttr,g1,g3,g5,g6,g7,hlL,hd2,w7]);rfl) (fun hb=>?_) (fun hb=>?_)<;>(try simp only[hb0,decide_eq_true_eq,decide_eq_false_iff_not,simprocAttr]at hb)<;>(try(exfalso;omega)))|((first|refine hK _ _ ?_|(clear hK;refine hK _ _ ?_));clear hK;try simp only[pst0,simprocAttr]))
       exact⟨kids.length-(k+1),by omega,k+1,V,by simp,rfl,by omega,rfl,hnA,by omega,hRX⟩
    ·have hd:decide ((k:Int)<(kids.length:Int))=false:=by simp;omega
     rw[List.drop_eq_nil_of_le (by omega)]at hRX
     simp only[freesR]at hRX
     subst hRX
     repeat'(first|refine a_seq fun K hK=>?_|((first|refine a_regionS ?_|refine a_ret ?_);simp(maxSteps:=2000000) only[Ty.w,simprocAttr,g1,g3,g5,hlK,hd])|(refine a_exit ?_;try simp only[pst0,simprocAttr])|(refine a_cond _ (by(try simp(maxSteps:=2000000) only[Ty.w,simprocAttr,g1,g3,g5,hlK,hd]);rfl) (fun hb=>?_) (fun hb=>?_)<;>(try simp only[hb0,decide_eq_true_eq,decide_eq_false_iff_not,simprocAttr]at hb)<;>(try(exfalso;omega)))|((first|refine hK _ _ ?_|(clear hK;refine hK _ _ ?_));clear hK;try simp only[pst0,simprocAttr]))
theorem formulaFree_c{f:Fm}(hok:f.ok)(hb:PV.bulkL f.cells≤1048576):
  PCall Tryz.prog 3 [.agg f.cells] Heap.nil fun r _=>r= .sc (.bool true):=by
 have hsm:=Fm.small_bulk f hb
 have cl:=large_c hok
 have hR:=fun h:Heap=>rvalidF_c hok hsm (fmW_depth_big hb) h
 rw[← validF_same (fmW_nodes_big hb)]at hR
 have cf: ∀ H:Heap,PCall Tryz.prog 7 [.agg f.cells] H fun r h'=>r= .imm 1 (strRows (freeS f))∧h'=H:=fun H=>Free_c hok hsm (by omega) H
 have cr:=rfree_c f hb
 have hlen:=freeR_len f
 cases l1:decide (f.size>5000)with
 |true=>
  generalize f.size=fs at cl l1
  clear cf cr hR hlen
  obtain⟨op,name,args,params,exprs,kids⟩:=f
  simp only[Fm.cells]at cl⊢
  refine pcall_body (ow:=fun _=>false) (wf:=fun _=>false) Ty.mixed Tryz.func3 rfl Ty.hb_3 (by rw[Tryz.ntmps3];simp) ?_
  rw[Tryz.ntmps3,Tryz.results3]
  repeat'(first|refine a_seq fun K hK=>?_|(refine a_regionS ?_;simp(maxSteps:=2000000) only[Ty.w,simprocAttr])|(refine hK _ _ ?_;clear hK;try simp only[pst0,simprocAttr]))
  refine owp_useQ (cl _) (by(try simp only[Ty.w,simprocAttr,l1]);try rfl) ?_;simp(maxSteps:=2000000) only[Ty.w,simprocAttr,l1]
  repeat'(first|refine a_seq fun K hK=>?_|(refine a_regionS ?_;simp(maxSteps:=2000000) only[Ty.w,simprocAttr,l1])|(refine hK _ _ ?_;clear hK;try simp only[pst0,simprocAttr]))
  refine owp_useQ (awake_c) (by(try simp only[Ty.w,simprocAttr,]);try rfl) ?_;simp(maxSteps:=2000000) only[Ty.w,simprocAttr,]
  repeat'(first|(refine a_ret ?_;simp(maxSteps:=2000000) only[Ty.w,simprocAttr])|(refine hK _ _ ?_;clear hK;try simp only[pst0,simprocAttr]))
 |false=>
  cases hv:validF f with
  |false=>
   rw[hv]at hR
   have e:freeS f=[]:=by unfold freeS freeL;rw[hv];try rfl
   rw[e]at cf
   simp only[strRows,List.map_nil]at cf
   generalize f.size=fs at cl l1
   clear cr hlen hsm hok hb
   have u0:((0:Nat):Int)=0:=rfl
   obtain⟨op,name,args,params,exprs,kids⟩:=f
   simp only[Fm.cells]at cl cf hR⊢
   refine pcall_body (ow:=fun _=>false) (wf:=fun _=>false) Ty.mixed Tryz.func3 rfl Ty.hb_3 (by rw[Tryz.ntmps3];simp) ?_
   rw[Tryz.ntmps3,Tryz.results3]
   repeat'(first|refine a_seq fun K hK=>?_|(refine a_regionS ?_;simp(maxSteps:=2000000) only[Ty.w,simprocAttr])|(refine hK _ _ ?_;clear hK;try simp only[pst0,simprocAttr]))
   refine owp_useQ (cl _) (by(try simp only[Ty.w,simprocAttr,l1]);try rfl) ?_;simp(maxSteps:=2000000) only[Ty.w,simprocAttr,l1]
   skip
   refine owp_useQ (awake_c) (by(try simp only[Ty.w,simprocAttr,Bool.not_true]);try rfl) ?_;simp(maxSteps:=2000000) only[Ty.w,simprocAttr,Bool.not_true]
   repeat'(first|refine a_seq fun K hK=>?_|(refine a_regionS ?_;simp(maxSteps:=2000000) only[Ty.w,simprocAttr,Bool.not_true])|(refine a_skip ?_;try simp only[pst0,simprocAttr])|(refine a_cond _ (by(try simp(maxSteps:=2000000) only[Ty.w,simprocAttr,Bool.not_true]);rfl) (fun hb=>?_) (fun hb=>?_)<;>(try simp only[hb0,decide_eq_true_eq,decide_eq_false_iff_not,simprocAttr]at hb)<;>(try(exfalso;omega)))|(refine hK _ _ ?_;clear hK;try simp only[pst0,simprocAttr]))
   refine owp_useQ (hR _) (by(try simp only[Ty.w,simprocAttr,Bool.not_false]);try rfl) ?_;simp(maxSteps:=2000000) only[Ty.w,simprocAttr,Bool.not_false]
   repeat'(first|refine a_seq fun K hK=>?_|(refine a_regionS ?_;simp(maxSteps:=2000000) only[Ty.w,simprocAttr,Bool.not_false])|(refine hK _ _ ?_;clear hK;try simp only[pst0,simprocAttr]))
   refine owp_useQ (cf _) (by(try simp only[Ty.w,simprocAttr,u0]);try rfl) ?_;simp(maxSteps:=2000000) only[Ty.w,simprocAttr,u0]
   repeat'(first|(refine a_ret ?_;simp(maxSteps:=2000000) only[Ty.w,simprocAttr,u0,beq_self_eq_true])|(refine hK _ _ ?_;clear hK;try simp only[pst0,simprocAttr]))
  |true=>
   rw[hv]at hR
   have e:strRows (freeS f)=kRows (freeR f):=by
    unfold kRows freeS freeL
    rw[if_pos hv,free_same (validF_iff.1 hv).1]
   rw[e]at cf
   have cT:=fun H:Heap=>texts_c (h:=H) (A:=(freeR f).map keyS) (B:=(freeR f).map keyS) (Sl.imm _) (Sl.imm _) (by rw[List.length_map];omega) (by rw[List.length_map];omega)
   rw[bsEq_self]at cT
   generalize hk:kRows (freeR f)=L at cf cr
   rw[show strRows ((freeR f).map keyS)=L from hk]at cT
   generalize f.size=fs at cl l1
   clear hlen hsm hok hb hk
   obtain⟨op,name,args,params,exprs,kids⟩:=f
   simp only[Fm.cells]at cl cf hR cr⊢
   refine pcall_body (ow:=fun _=>false) (wf:=fun _=>false) Ty.mixed Tryz.func3 rfl Ty.hb_3 (by rw[Tryz.ntmps3];simp) ?_
   rw[Tryz.ntmps3,Tryz.results3]
   repeat'(first|refine a_seq fun K hK=>?_|(refine a_regionS ?_;simp(maxSteps:=2000000) only[Ty.w,simprocAttr])|(refine hK _ _ ?_;clear hK;try simp only[pst0,simprocAttr]))
   refine owp_useQ (cl _) (by(try simp only[Ty.w,simprocAttr,l1]);try rfl) ?_;simp(maxSteps:=2000000) only[Ty.w,simprocAttr,l1]
   skip
   refine owp_useQ (awake_c) (by(try simp only[Ty.w,simprocAttr,Bool.not_true]);try rfl) ?_;simp(maxSteps:=2000000) only[Ty.w,simprocAttr,Bool.not_true]
   repeat'(first|refine a_seq fun K hK=>?_|(refine a_regionS ?_;simp(maxSteps:=2000000) only[Ty.w,simprocAttr,Bool.not_true])|(refine a_skip ?_;try simp only[pst0,simprocAttr])|(refine a_cond _ (by(try simp(maxSteps:=2000000) only[Ty.w,simprocAttr,Bool.not_true]);rfl) (fun hb=>?_) (fun hb=>?_)<;>(try simp only[hb0,decide_eq_true_eq,decide_eq_false_iff_not,simprocAttr]at hb)<;>(try(exfalso;omega)))|(refine hK _ _ ?_;clear hK;try simp only[pst0,simprocAttr]))
   refine owp_useQ (hR _) (by(try simp only[Ty.w,simprocAttr,Bool.not_true]);try rfl) ?_;simp(maxSteps:=2000000) only[Ty.w,simprocAttr,Bool.not_true]
   repeat'(first|refine a_seq fun K hK=>?_|(refine a_drawS (by decide+kernel) ?_;simp(maxSteps:=2000000) only[Ty.w,simprocAttr,Bool.not_true])|(refine a_skip ?_;try simp only[pst0,simprocAttr])|(refine a_cond _ (by(try simp(maxSteps:=2000000) only[Ty.w,simprocAttr,Bool.not_true]);rfl) (fun hb=>?_) (fun hb=>?_)<;>(try simp only[hb0,decide_eq_true_eq,decide_eq_false_iff_not,simprocAttr]at hb)<;>(try(exfalso;omega)))|(refine hK _ _ ?_;clear hK;try simp only[pst0,simprocAttr]))
   (first|refine a_dcall0 (cf _) (by(try simp only[Ty.w,simprocAttr,nsucc]);try rfl) ?_|refine a_dcallA (cf _) (by(try simp only[Ty.w,simprocAttr,nsucc]);try rfl) (by simp only[Ty.w,simprocAttr,nsucc];try trivial) ?_);simp(maxSteps:=2000000) only[Ty.w,simprocAttr,Option.getD_some,nsucc]
   skip
   (first|refine a_dcall0 (cr _) (by(try simp only[Ty.w,simprocAttr,nsucc]);try rfl) ?_|refine a_dcallA (cr _) (by(try simp only[Ty.w,simprocAttr,nsucc]);try rfl) (by simp only[Ty.w,simprocAttr,nsucc];try trivial) ?_);simp(maxSteps:=2000000) only[Ty.w,simprocAttr,Option.getD_some,nsucc]
   skip
   (first|refine a_dcall0 (cT _) (by(try simp only[Ty.w,simprocAttr,nsucc]);try rfl) ?_|refine a_dcallA (cT _) (by(try simp only[Ty.w,simprocAttr,nsucc]);try rfl) (by simp only[Ty.w,simprocAttr,nsucc];try trivial) ?_);simp(maxSteps:=2000000) only[Ty.w,simprocAttr,Option.getD_some,nsucc]
   repeat'(first|(refine a_ret ?_;simp(maxSteps:=2000000) only[Ty.w,simprocAttr,nsucc])|(refine hK _ _ ?_;clear hK;try simp only[pst0,simprocAttr]))
end Go.Proofs.YtjlkapgpjamnkaaGreat
namespace Go.AM
open Go.ChangeShapes Go.WideShapes
section
variable {P:Program}{c:Nat}{t e:TypeId}{ps:List PV}{a:PV}
theorem Arg_int{k:IntKind}(hu:P.underlying t=some (.int k))(h:Arg P (c+1) t ps): ∃ n,(Lit.int k n).wf=true∧ps=[.sc (.int k n)]:=by
 unfold Arg at h;rw[hu]at h;exact h
theorem Arg_slice(hu:P.underlying t=some (.slice e))(h:Arg P (c+1) t ps): ∃ rows,ps=[.imm (P.cellsOf e) rows]∧rows.length*P.bytesOf e≤reachBytes∧rows.length≤maxLen∧ ∀ r∈rows,r.length=P.cellsOf e∧Arg P c e r:=by
 unfold Arg at h;rw[hu]at h;exact h
theorem Arg_struct{fs:Array Field}(hu:P.underlying t=some (.struct fs))(h:Arg P (c+1) t ps):ps.length=P.cellsOf t∧ ∀ p∈partsT P t,Arg P c p.2 ((ps.drop p.1).take (P.cellsOf p.2)):=by
 unfold Arg at h;rw[hu]at h;exact h
theorem rows_map{α:Type}{Q:α→Prop}{f:α→List PV}:(rows:List (List PV))→(∀ r∈rows, ∃ x,Q x∧r=f x)→ ∃ xs:List α,rows=xs.map f∧ ∀ x∈xs,Q x
 |[],_=>⟨[],rfl,by simp⟩
 |r::rows,h=>by
  obtain⟨xs,h1,h2⟩:=rows_map rows (fun q hq=>h q (by simp[hq]))
  obtain⟨x,h3,h4⟩:=h r (by simp)
  refine⟨x::xs,by simp[h1,h4],fun y hy=>?_⟩
  rcases List.mem_cons.1 hy with rfl|hy
  ·exact h3
  ·exact h2 y hy
theorem i64_in{n:Int}(h:(Lit.int .i64 n).wf=true): -9223372036854775808≤n∧n≤9223372036854775807:=by
 simp[Lit.wf,IntKind.min,IntKind.max,IntKind.bits,IntKind.signed]at h
 omega
end
end Go.AM
namespace Go.Proofs.YtjlkapgpjamnkaaGreat
open Go.AM
set_option maxHeartbeats 1000000
set_option maxRecDepth 20000
def recTs:List TypeId:=[27,50,75,9,3,22,23,24,25]
theorem parts57:partsT Tryz.prog 50=[(0,9),(1,9),(2,3),(3,22),(4,24)]:=by kernel_rfl
theorem parts29:partsT Tryz.prog 27=[(0,9),(1,9),(2,22),(3,23),(4,24),(5,25)]:=by kernel_rfl
theorem parts99:partsT Tryz.prog 75=[(0,9),(1,9)]:=by kernel_rfl
theorem co9:Tryz.prog.cellsOf 9=1:=by kernel_rfl
theorem co3:Tryz.prog.cellsOf 3=1:=by kernel_rfl
theorem co24:Tryz.prog.cellsOf 22=1:=by kernel_rfl
theorem co25:Tryz.prog.cellsOf 23=1:=by kernel_rfl
theorem co26:Tryz.prog.cellsOf 24=1:=by kernel_rfl
theorem co27:Tryz.prog.cellsOf 25=1:=by kernel_rfl
theorem co57:Tryz.prog.cellsOf 50=5:=by kernel_rfl
theorem co29:Tryz.prog.cellsOf 27=6:=by kernel_rfl
theorem co99:Tryz.prog.cellsOf 75=2:=by kernel_rfl
theorem by9:0<Tryz.prog.bytesOf 9:=by rw[show Tryz.prog.bytesOf 9=16 by kernel_rfl];omega
theorem by99:0<Tryz.prog.bytesOf 75:=by rw[show Tryz.prog.bytesOf 75=32 by kernel_rfl];omega
theorem by57:0<Tryz.prog.bytesOf 50:=by rw[show Tryz.prog.bytesOf 50=88 by kernel_rfl];omega
theorem by29:0<Tryz.prog.bytesOf 27:=by rw[show Tryz.prog.bytesOf 27=128 by kernel_rfl];omega
theorem len_le{n b:Nat}(h:n*b≤reachBytes)(hb:0<b):n≤bigN:=by
 have:=Nat.le_mul_of_pos_right n hb
 unfold reachBytes at h
 unfold bigN
 omega
theorem arg_str{c:Nat}{ps:List PV}(h:Arg Tryz.prog c 9 ps): ∃ s:ByteArray,s.size≤bigN∧ps=[sPV s]:=by
 cases c with
 |zero=>simp[Arg]at h
 |succ c=>
  unfold Arg at h
  rw[Tryz.underlying9]at h
  obtain⟨s,h1,h2⟩:=h
  exact⟨s,by unfold reachBytes at h1;unfold bigN;omega,h2⟩
theorem arg_i64{c:Nat}{ps:List PV}(h:Arg Tryz.prog c 3 ps): ∃ n:Int,(-9223372036854775808≤n∧n≤9223372036854775807)∧ps=[.sc (.int .i64 n)]:=by
 cases c with
 |zero=>simp[Arg]at h
 |succ c=>
  obtain⟨n,h1,h2⟩:=Arg_int Tryz.underlying3 h
  exact⟨n,i64_in h1,h2⟩
theorem arg_strs{c:Nat}{ps:List PV}(h:Arg Tryz.prog c 22 ps): ∃ l:List ByteArray,(l.length≤bigN∧ ∀ a∈l,a.size≤bigN)∧ps=[.imm 1 (strRows l)]:=by
 cases c with
 |zero=>simp[Arg]at h
 |succ c=>
  obtain⟨rows,rfl,h1,_,h2⟩:=Arg_slice Tryz.underlying22 h
  obtain⟨xs,rfl,h3⟩:=rows_map (Q:=fun s:ByteArray=>s.size≤bigN) (f:=fun s=>[sPV s]) rows (fun r hr=>arg_str (h2 r hr).2)
  refine⟨xs,⟨len_le (by simpa using h1) by9,h3⟩,?_⟩
  rw[co9];try rfl
theorem arg_pm{c:Nat}{ps:List PV}(h:Arg Tryz.prog c 75 ps): ∃ p:Pm,p.ok∧ps=pmRow p:=by
 cases c with
 |zero=>simp[Arg]at h
 |succ c=>
  obtain⟨h1,h2⟩:=Arg_struct Tryz.underlying75 h
  rw[co99]at h1
  rw[parts99]at h2
  match ps,h1,h2 with
  |[p0,p1],_,h2=>
   have a0:=h2 (0,9) (by simp)
   have a1:=h2 (1,9) (by simp)
   simp only[co9,List.drop_zero,List.drop_succ_cons,List.take_succ_cons,List.take_zero]at a0 a1
   obtain⟨s,hs,e1⟩:=arg_str a0
   obtain⟨t,ht,e2⟩:=arg_str a1
   simp at e1 e2
   exact⟨⟨s,t⟩,⟨hs,ht⟩,by simp[pmRow,e1,e2]⟩
theorem arg_pms{c:Nat}{ps:List PV}(h:Arg Tryz.prog c 23 ps): ∃ l:List Pm,(l.length≤bigN∧ ∀ a∈l,a.ok)∧ps=[.imm 2 (pmRows l)]:=by
 cases c with
 |zero=>simp[Arg]at h
 |succ c=>
  obtain⟨rows,rfl,h1,_,h2⟩:=Arg_slice Tryz.underlying23 h
  obtain⟨xs,rfl,h3⟩:=rows_map (Q:=Pm.ok) (f:=pmRow) rows (fun r hr=>arg_pm (h2 r hr).2)
  refine⟨xs,⟨len_le (by simpa using h1) by99,h3⟩,?_⟩
  rw[co99];try rfl
theorem arg_ex: ∀ (c:Nat){ps:List PV},Arg Tryz.prog c 50 ps→ ∃ e:Ex,e.ok∧ps=e.cells:=by
 intro c
 induction c using Nat.strongRecOn with
 |_ c ih=>
  intro ps h
  cases c with
  |zero=>simp[Arg]at h
  |succ c=>
   obtain⟨h1,h2⟩:=Arg_struct Tryz.underlying50 h
   rw[co57]at h1
   rw[parts57]at h2
   match ps,h1,h2 with
   |[p0,p1,p2,p3,p4],_,h2=>
    have a0:=h2 (0,9) (by simp)
    have a1:=h2 (1,9) (by simp)
    have a2:=h2 (2,3) (by simp)
    have a3:=h2 (3,22) (by simp)
    have a4:=h2 (4,24) (by simp)
    simp only[co9,co3,co24,co26,List.drop_zero,List.drop_succ_cons,List.take_succ_cons,List.take_zero]at a0 a1 a2 a3 a4
    obtain⟨op,hop,e0⟩:=arg_str a0
    obtain⟨name,hname,e1⟩:=arg_str a1
    obtain⟨n,hn,e2⟩:=arg_i64 a2
    obtain⟨args,hargs,e3⟩:=arg_strs a3
    cases c with
    |zero=>simp[Arg]at a4
    |succ c=>
     obtain⟨rows,e4,h3,_,h4⟩:=Arg_slice Tryz.underlying24 a4
     obtain⟨xs,rfl,h5⟩:=rows_map (Q:=Ex.ok) (f:=Ex.cells) rows (fun r hr=>ih c (by omega) (h4 r hr).2)
     rw[co57]at e4
     simp at e0 e1 e2 e3 e4
     refine⟨.mk op name n args xs,?_,?_⟩
     ·simp only[Ex.ok]
      exact⟨hop,hname,hn,hargs,len_le (by simpa using h3) by57,Ex.oks_iff.2 h5⟩
     ·simp only[Ex.cells,e0,e1,e2,e3,e4,Ex.rows_map]
theorem arg_exs{c:Nat}{ps:List PV}(h:Arg Tryz.prog c 24 ps): ∃ l:List Ex,(l.length≤bigN∧Ex.oks l)∧ps=[.imm 5 (Ex.rows l)]:=by
 cases c with
 |zero=>simp[Arg]at h
 |succ c=>
  obtain⟨rows,rfl,h1,_,h2⟩:=Arg_slice Tryz.underlying24 h
  obtain⟨xs,rfl,h3⟩:=rows_map (Q:=Ex.ok) (f:=Ex.cells) rows (fun r hr=>arg_ex c (h2 r hr).2)
  refine⟨xs,⟨len_le (by simpa using h1) by57,Ex.oks_iff.2 h3⟩,?_⟩
  rw[co57,Ex.rows_map]
theorem arg_fm: ∀ (c:Nat){ps:List PV},Arg Tryz.prog c 27 ps→ ∃ f:Fm,f.ok∧ps=f.cells:=by
 intro c
 induction c using Nat.strongRecOn with
 |_ c ih=>
  intro ps h
  cases c with
  |zero=>simp[Arg]at h
  |succ c=>
   obtain⟨h1,h2⟩:=Arg_struct Tryz.underlying27 h
   rw[co29]at h1
   rw[parts29]at h2
   match ps,h1,h2 with
   |[p0,p1,p2,p3,p4,p5],_,h2=>
    have a0:=h2 (0,9) (by simp)
    have a1:=h2 (1,9) (by simp)
    have a2:=h2 (2,22) (by simp)
    have a3:=h2 (3,23) (by simp)
    have a4:=h2 (4,24) (by simp)
    have a5:=h2 (5,25) (by simp)
    simp only[co9,co24,co25,co26,co27,List.drop_zero,List.drop_succ_cons,List.take_succ_cons,List.take_zero]at a0 a1 a2 a3 a4 a5
    obtain⟨op,hop,e0⟩:=arg_str a0
    obtain⟨name,hname,e1⟩:=arg_str a1
    obtain⟨args,hargs,e2⟩:=arg_strs a2
    obtain⟨params,hparams,e3⟩:=arg_pms a3
    obtain⟨exprs,hexprs,e4⟩:=arg_exs a4
    cases c with
    |zero=>simp[Arg]at a5
    |succ c=>
     obtain⟨rows,e5,h3,_,h4⟩:=Arg_slice Tryz.underlying25 a5
     obtain⟨xs,rfl,h5⟩:=rows_map (Q:=Fm.ok) (f:=Fm.cells) rows (fun r hr=>ih c (by omega) (h4 r hr).2)
     rw[co29]at e5
     simp at e0 e1 e2 e3 e4 e5
     refine⟨.mk op name args params exprs xs,?_,?_⟩
     ·simp only[Fm.ok]
      exact⟨hop,hname,hargs,hparams,hexprs,len_le (by simpa using h3) by29,Fm.oks_iff.2 h5⟩
     ·simp only[Fm.cells,e0,e1,e2,e3,e4,e5,Fm.rows_map]
end Go.Proofs.YtjlkapgpjamnkaaGreat
