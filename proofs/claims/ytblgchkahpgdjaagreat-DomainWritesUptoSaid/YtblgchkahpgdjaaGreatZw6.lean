/- What the claim rests on, part 6: the abstract machine, contracts of the functions, plain data. -/
import Derived.OpenShut
import Derived.ChangeShapes
import Derived.SizedLaws
import Derived.Test.YtblgchkahpgdjaaGreatZw5
set_option linter.unusedVariables false
set_option linter.unusedSimpArgs false
set_option linter.unusedSectionVars false
namespace Go.Proofs.YtblgchkahpgdjaaGreat
open Go.AM
set_option maxHeartbeats 4000000
set_option maxRecDepth 20000
theorem PCall.frzX{P:Program}{f:FuncId}{args:List PV}{h:Heap}{v:PV}{id:Nat}{o o0:AObj}(hb:hasBody P f=true)(hid:h.obj id=some o0)(hfl:inNO h.next o)(hc:PCall P f args h fun r h'=>FrzTo h.next h' v r∧GrowX h id o h'):
  PCall P f args h fun r h'=>r=v∧h'=h.set id o:=by
 refine pcall_wf hb fun hw=>PCall.drop (hc.mono ?_);rintro r h' ⟨hf,g⟩;refine⟨v,h.set id o,⟨rfl,rfl⟩,hf,Nat.le_refl _,fun i oo ho=>?_⟩;have hlt:=hw id (by rw[hid];try rfl);simp only[Heap.set]at ho;split at ho
 ·rename_i hi;subst hi;simp at ho;subst ho;exact⟨g.at_,hlt,.inr hfl⟩
 ·rename_i hi;have h1:=hw i (by rw[ho];try rfl);exact⟨by rw[g.old i h1 hi];exact ho,h1,.inl ho⟩
theorem GrowX.kill{h h':Heap}{id j:Nat}{o:AObj}(g:GrowX h id o h')(hid:id<h.next)(hj:h.next≤j):GrowX h id o (h'.kill j):=
 ⟨g.le,fun i hi hne=>by simp only[Heap.kill];rw[if_neg (by omega)];exact g.old i hi hne,by simp only[Heap.kill];rw[if_neg (by omega)];exact g.at_⟩
theorem a_genX{P:Program}{ow:Nat→Bool}{wf:FuncId→Bool}{n:Nat}{Q:Post}{s:Slots}{h:Heap}{c:Code}(I:Slots→Heap→Prop)(hi:I s h)(hh: ∀ s h,I s h→awp P ow wf n c Q s h):awp P ow wf n c Q s h:=hh _ _ hi
abbrev wO(b:Bool):AObj:= .arr 1 [[.sc (.bool b)]]
theorem wO_in(n:Nat)(b:Bool):inNO n (wO b):=by simp[wO,inNO,inNR,inNL,inN]
theorem dword_c{h:Heap}{s:ByteArray}:PCall Tryz.prog 40 [sPV s] h fun r h'=>r= .agg (wordM s).cells∧h'=h:=by
 refine PCall.frz Ty.hb_40 ?_;refine uG0 Tryz.func40 Tryz.ntmps40 Tryz.results40 Ty.hb_40 ?_;refine wt trivial ?_;refine⟨?_,((Grow.refl h).new _).set (Nat.le_refl _) _⟩;simp only[wordM,Sx.cells,Sx.rows,FrzTo,FrzL];exact⟨_,rfl,rfl,rfl,rfl,rfl,rfl,.inr (.inl ⟨rfl,.inr rfl⟩),trivial⟩
theorem dlist_c{h:Heap}{p:PV}(h1:oneC p=true)(hf: ∀ h',FrzTo h.next h' p p):PCall Tryz.prog 39 [p] h fun r h'=>r= .agg [.sc (.int .i64 3),.sc (.int .i64 0),.sc (.int .i64 0),.sc (.int .i64 0),.sc (.string ⟨#[]⟩),p]∧h'=h:=by
 refine PCall.frz Ty.hb_39 ?_;have hc:p.cells=[p]:=by cases p<;>simp[oneC]at h1<;>rfl
 refine uG0 Tryz.func39 Tryz.ntmps39 Tryz.results39 Ty.hb_39 ?_;refine wt (uu hc h1) ?_;refine⟨?_,((Grow.refl h).new _).set (Nat.le_refl _) _⟩;simp only[FrzTo,FrzL];exact⟨_,rfl,rfl,rfl,rfl,rfl,rfl,hf _,trivial⟩
theorem dlistS_c(l:List Sx)(h:Heap):PCall Tryz.prog 39 [.imm 6 (Sx.rows l)] h fun r h'=>r= .agg (listM l).cells∧h'=h:=dlist_c rfl (fun _=>frz_imm (sxs_in _ _))
theorem dterm_c{h:Heap}{s:ByteArray}(hs:s.size≤9223372036854775807):PCall Tryz.prog 151 [sPV s] h fun r h'=>r= .sc (.bool (termB s))∧h'=h:=by
 have h1:=fun h:Heap=>fname_c (h:=h) hs;have h2:=fun h:Heap=>fvariable_c (h:=h) hs;unfold termB;generalize nameB s=a at h1⊢;generalize varB s=b at h2⊢;cases a with
 |true=>
  refine uG0 Tryz.func151 Tryz.ntmps151 Tryz.results151 Ty.hb_151 ?_;refine wt trivial ?_;refine uU trivial (h1 _) ?_;refine wm trivial ?_;try exact zI
  all_goals simp only[Bool.true_or]
 |false=>
  refine uG0 Tryz.func151 Tryz.ntmps151 Tryz.results151 Ty.hb_151 ?_;refine wt trivial ?_;refine uU trivial (h1 _) ?_;refine wt trivial ?_;refine uU trivial (h2 _) ?_;refine wm trivial ?_;try exact zI
  all_goals simp only[Bool.false_or]
theorem dalways_c{h:Heap}:PCall Tryz.prog 99 [] h fun r h'=>r= .agg andFm.cells∧h'=h:=by
 refine PCall.frz Ty.hb_99 ?_;refine uG0 Tryz.func99 Tryz.ntmps99 Tryz.results99 Ty.hb_99 ?_;refine wt trivial ?_;refine⟨?_,((Grow.refl h).new _).set (Nat.le_refl _) _⟩;simp only[andFm,opAnd,Fm.cells,pmRows,Ex.rows,Fm.rows,strRows,List.map_nil,FrzTo,FrzL];exact⟨_,rfl,rfl,rfl,.inr (.inl ⟨rfl,.inr rfl⟩),.inr (.inl ⟨rfl,.inr rfl⟩),.inr (.inl ⟨rfl,.inr rfl⟩),.inr (.inl ⟨rfl,.inr rfl⟩),trivial⟩
theorem wname_c{h:Heap}{id:Nat}{b:Bool}{s:ByteArray}(hs:s.size≤9223372036854775807)(hid:id<h.next)(ho:h.obj id=some (wO b)):
  PCall Tryz.prog 41 [.ptr id 0 0,sPV s] h fun r h'=>r= .agg (wordM s).cells∧h'=h.set id (wO (b||!nameB s)):=by
 refine PCall.frzX Ty.hb_41 ho (wO_in _ _) ?_;have h1:=fun h:Heap=>fname_c (h:=h) hs;have hw:=fun h:Heap=>dword_c (h:=h) (s:=s);have n1:(id=h.next)=False:=eq_false (by omega);have n2:(h.next=id)=False:=eq_false (by omega);generalize nameB s=a at h1⊢;have fin: ∀ (b':Bool)(o:AObj),FrzTo h.next (((h.new o).set id (wO b')).set h.next (.arr 6 [(wordM s).cells])) (.agg (wordM s).cells) (.agg (wordM s).cells)∧GrowX h id (wO b') (((h.new o).set id (wO b')).set h.next (.arr 6 [(wordM s).cells])):=fun b' o=>⟨by
  simp only[FrzTo];exact⟨_,rfl,sx_frz _ _ _⟩,(((GrowX.refl ho).new hid).put).set hid (Nat.le_refl _)⟩
 simp only[wordM,Sx.cells,Sx.rows]at hw fin⊢;cases b with
 |true=>
  refine uG0 Tryz.func41 Tryz.ntmps41 Tryz.results41 Ty.hb_41 ?_;refine wt (uu3 ho n1 n2) ?_;refine uU (uu3 ho n1 n2) (hw _) ?_;refine wt (uu3 ho n1 n2) ?_;exact fin _ _
 |false=>
  refine uG0 Tryz.func41 Tryz.ntmps41 Tryz.results41 Ty.hb_41 ?_;refine wt (uu3 ho n1 n2) ?_;refine uU (uu3 ho n1 n2) (h1 _) ?_;refine wt (uu3 ho n1 n2) ?_;refine uU (uu3 ho n1 n2) (hw _) ?_;refine wt (uu3 ho n1 n2) ?_;exact fin _ _
theorem wformula_c{h:Heap}{id:Nat}{b:Bool}{f:Fm}(hok:f.ok)(hsm:f.small)(hid:id<h.next)(ho:h.obj id=some (wO b)):
  PCall Tryz.prog 100 [.ptr id 0 0,.agg f.cells] h fun r h'=>r= .agg (fmX f).cells∧h'=h.set id (wO (b||!validF f)):=by
 refine PCall.frzX Ty.hb_100 ho (wO_in _ _) ?_;have hW:=fun h:Heap=>fWrite_c hok hsm h;have n1:(id=h.next)=False:=eq_false (by omega);have n2:(h.next=id)=False:=eq_false (by omega);have n3:(id=h.next+1)=False:=eq_false (by omega);have n4:(h.next+1=id)=False:=eq_false (by omega);have hX:(if validF f then(PV.tup [.agg (fmW f).cells,.sc .nilIface])else .tup [.agg zeroSx.cells,errV 2])= .tup [.agg (fmX f).cells,if validF f then .sc .nilIface else errV 2]:=by
  unfold fmX;cases validF f<;>rfl
 rw[hX]at hW;generalize validF f=v at hW⊢;generalize fmX f=X at hW⊢;obtain⟨ki,va,li,co,te,ks⟩:=X;obtain⟨gop,gna,gar,gpa,gex,gki⟩:=f;have fin: ∀ (b':Bool)(o o1 o2:AObj),FrzTo h.next ((((((h.new o).new o1).set (h.next+1) o2).set id (wO b')).set h.next (.arr 6 [(Sx.mk ki va li co te ks).cells]))) (.agg (Sx.mk ki va li co te ks).cells) (.agg (Sx.mk ki va li co te ks).cells)∧GrowX h id (wO b') ((((h.new o).new o1).set (h.next+1) o2).set id (wO b')|>.set h.next (.arr 6 [(Sx.mk ki va li co te ks).cells])):=fun b' o o1 o2=>⟨by
  simp only[FrzTo];exact⟨_,rfl,sx_frz _ _ _⟩,(((((GrowX.refl ho).new hid).new hid).set hid (by omega)).put).set hid (Nat.le_refl _)⟩
 simp only[Sx.cells,Fm.cells]at hW fin⊢;cases v<;>simp only[if_true,if_false,Bool.false_eq_true,errV]at hW<;>cases b;all_goals
  refine uG0 Tryz.func100 Tryz.ntmps100 Tryz.results100 Ty.hb_100 ?_;replace zz:=uu5 ho n1 n2 n3 n4;refine wt zz ?_;replace zz:=uu5 ho n1 n2 n3 n4;refine uU zz (hW _) ?_;replace zz:=uu6 ho n1 n2 n3 n4 @nsucc;refine wt zz ?_;exact fin _ _ _ _
theorem wparams_c{h:Heap}{id:Nat}{b vars:Bool}{l:List Pm}(hl:l.length≤1048576)(hok: ∀ p∈l,p.ok)(hid:id<h.next)(ho:h.obj id=some (wO b)):
  PCall Tryz.prog 43 [.ptr id 0 0,.imm 2 (pmRows l),.sc (.bool vars)] h fun r h'=>r= .imm 6 (Sx.rows (paramsW l))∧h'=h.set id (wO (b||!(l.all (parB vars)))):=by
 refine PCall.frzX Ty.hb_43 ho (wO_in _ _) ?_;have hll:=pmRows_len l;have hWP:=fun h:Heap=>writeParams_c hl h;generalize hF:(b||!(l.all (parB vars)))=F;refine uG0 Tryz.func43 Tryz.ntmps43 Tryz.results43 Ty.hb_43 ?_;refine wt hll ?_;refine a_loop (fun c S h'=>S 0= .ptr id 0 0∧S 1= .imm 2 (pmRows l)∧S 2= .sc (.bool vars)∧S 10= .imm 2 (pmRows l)∧S 11= .sc (.int .i64 l.length)∧ ∃ (k:Nat)(b':Bool),S 12= .sc (.int .i64 k)∧k≤l.length∧c=l.length-k∧GrowX h id (wO b') h'∧F=(b'||!((l.drop k).all (parB vars)))) l.length ?_ ?_
 ·simp only[Ty.w,simprocAttr];exact⟨0,b,rfl,by omega,rfl,GrowX.refl ho,by rw[List.drop_zero];exact hF.symm⟩
 ·try clear zz
  clear hF;rintro c S h' ⟨g0,g1,g2,g10,g11,k,b',g12,hkl,rfl,hG,hinv⟩;by_cases hlt:k<l.length
  ·have hd:decide ((k:Int)<(l.length:Int))=true:=(by simp;omega);have w7:IntKind.i64.wrap ((k:Int)+1)=k+1:=(by rw[wrap64 (by omega) (by omega)]);obtain⟨p,hx⟩: ∃ p,l[k]? =some p:=⟨_,List.getElem?_eq_getElem hlt⟩;rw[drop_of_get hx,List.all_cons]at hinv;have hr:=pmRows_get hx;have hpo:=hok p (List.mem_of_getElem? hx);have hs1:p.name.size≤9223372036854775807:=(by have:=hpo.1;unfold bigN at this;omega);have hs2:p.type.size≤9223372036854775807:=(by have:=hpo.2;unfold bigN at this;omega);have c1:=fun h:Heap=>fname_c (h:=h) hs1;have c2:=fun h:Heap=>fvariable_c (h:=h) hs1;have c3:=fun h:Heap=>fname_c (h:=h) hs2;have hno:=hG.at_;have hle:=hG.le;have n1:(id=h'.next)=False:=eq_false (by omega);have n2:(h'.next=id)=False:=eq_false (by omega);have hpar:parB vars p=((bif vars then varB p.name else nameB p.name)&&(bEq p.type opObj||nameB p.type)):=rfl;rw[hpar]at hinv;generalize nameB p.name=q1 at c1 hinv;generalize varB p.name=q2 at c2 hinv;generalize nameB p.type=q3 at c3 hinv;have hne:(p.type.data.toList==opObj.data.toList)=bEq p.type opObj:=rfl;generalize bEq p.type opObj=q4 at hinv hne;have e1:(p.type.data.toList=[111,98,106,101,99,116])=(q4=true):=by
    rw[← hne];exact propext ⟨fun e=>by rw[e];try rfl,fun e=>eq_of_beq e⟩
   have e2:(p.type.data.toList==[111,98,106,101,99,116])=q4:=hne;(try clear zz);clear hne;have hG2: ∀ (z o:AObj)(b2:Bool),GrowX h id (wO b2) (((h'.new z).set h'.next o).set id (wO b2)):=fun z o b2=>((hG.new hid).set hid hle).put;have stepF: ∀ b2:Bool,b2=(b'||!((bif vars then q2 else q1)&&(q4||q3)))→F=(b2||!((l.drop (k+1)).all (parB vars))):=by
    intro b2 e;rw[hinv,e];cases b'<;>cases(bif vars then q2 else q1)<;>cases q4<;>cases q3<;>simp
   obtain⟨pn,pt⟩:=p;simp only at hr e1 e2;(try clear zz);clear hinv hpar hx hpo hs1 hs2;cases vars with
   |false=>
    simp only[cond_false]at stepF;cases b' with
    |true=>
     replace zz:=uu12 g0 g1 g2 g10 g11 g12 hll hd hr hno n1 n2;refine wt zz ?_;replace zz:=uu9 g0 g1 g2 g10 g11 g12 hno n1 n2;refine uU zz (c1 _) ?_;(repeat'(first|refine cK ?_|(refine nK ?_;try exact zI)|refine a_seq fun K hK=>?_|((first|refine a_regionS ?_|refine a_region (fun K hK=>?_));simp(maxSteps:=2000000) only[Ty.w,simprocAttr,g0,g1,g2,g10,g11,g12,hno,n1,n2,e1,e2,bne,w7,Bool.not_true,Bool.not_false])|(refine a_skip ?_;(try simp only[pst0,simprocAttr]))|(refine a_cond _ (by(try simp(maxSteps:=2000000) only[Ty.w,simprocAttr,g0,g1,g2,g10,g11,g12,hno,n1,n2,e1,e2,bne,w7,Bool.not_true,Bool.not_false]);rfl) (fun hb=>?_) (fun hb=>?_)<;>(try simp only[hb0,decide_eq_true_eq,decide_eq_false_iff_not,simprocAttr]at hb)<;>(try(exfalso;omega)))|(refine hK _ _ ?_;clear hK;(try simp only[pst0,simprocAttr]))));exact⟨l.length-(k+1),by omega,k+1,true,by simp,by omega,rfl,hG2 _ _ _,stepF _ (by simp)⟩
    |false=>
     cases q1 with
     |false=>
      replace zz:=uu12 g0 g1 g2 g10 g11 g12 hll hd hr hno n1 n2;refine wt zz ?_;replace zz:=uu9 g0 g1 g2 g10 g11 g12 hno n1 n2;refine uU zz (c1 _) ?_;(repeat'(first|refine cK ?_|(refine nK ?_;try exact zI)|refine a_seq fun K hK=>?_|((first|refine a_regionS ?_|refine a_region (fun K hK=>?_));simp(maxSteps:=2000000) only[Ty.w,simprocAttr,g0,g1,g2,g10,g11,g12,hno,n1,n2,e1,e2,bne,w7,Bool.not_true,Bool.not_false])|(refine a_skip ?_;(try simp only[pst0,simprocAttr]))|(refine a_cond _ (by(try simp(maxSteps:=2000000) only[Ty.w,simprocAttr,g0,g1,g2,g10,g11,g12,hno,n1,n2,e1,e2,bne,w7,Bool.not_true,Bool.not_false]);rfl) (fun hb=>?_) (fun hb=>?_)<;>(try simp only[hb0,decide_eq_true_eq,decide_eq_false_iff_not,simprocAttr]at hb)<;>(try(exfalso;omega)))|(refine hK _ _ ?_;clear hK;(try simp only[pst0,simprocAttr]))));exact⟨l.length-(k+1),by omega,k+1,true,by simp,by omega,rfl,hG2 _ _ _,stepF _ (by simp)⟩
     |true=>
      cases q4 with
      |true=>
       simp only[eq_self]at e1;replace zz:=uu12 g0 g1 g2 g10 g11 g12 hll hd hr hno n1 n2;refine wt zz ?_;replace zz:=uu9 g0 g1 g2 g10 g11 g12 hno n1 n2;refine uU zz (c1 _) ?_;(repeat'(first|refine cK ?_|(refine nK ?_;try exact zI)|refine a_seq fun K hK=>?_|((first|refine a_regionS ?_|refine a_region (fun K hK=>?_));simp(maxSteps:=2000000) only[Ty.w,simprocAttr,g0,g1,g2,g10,g11,g12,hno,n1,n2,e1,e2,bne,w7,Bool.not_true,Bool.not_false])|(refine a_skip ?_;(try simp only[pst0,simprocAttr]))|(refine a_cond _ (by(try simp(maxSteps:=2000000) only[Ty.w,simprocAttr,g0,g1,g2,g10,g11,g12,hno,n1,n2,e1,e2,bne,w7,Bool.not_true,Bool.not_false]);rfl) (fun hb=>?_) (fun hb=>?_)<;>(try simp only[hb0,decide_eq_true_eq,decide_eq_false_iff_not,simprocAttr]at hb)<;>(try(exfalso;omega)))|(refine hK _ _ ?_;clear hK;(try simp only[pst0,simprocAttr]))));exact⟨l.length-(k+1),by omega,k+1,false,by simp,by omega,rfl,hG2 _ _ _,stepF _ (by simp)⟩
      |false=>
       simp only[Bool.false_eq_true]at e1;replace zz:=uu12 g0 g1 g2 g10 g11 g12 hll hd hr hno n1 n2;refine wt zz ?_;replace zz:=uu9 g0 g1 g2 g10 g11 g12 hno n1 n2;refine uU zz (c1 _) ?_;(repeat'(first|refine cK ?_|(refine nK ?_;try exact zI)|refine a_seq fun K hK=>?_|((first|refine a_regionS ?_|refine a_region (fun K hK=>?_));simp(maxSteps:=2000000) only[Ty.w,simprocAttr,g0,g1,g2,g10,g11,g12,hno,n1,n2,e1,e2,bne,w7,Bool.not_true,Bool.not_false])|(refine a_skip ?_;(try simp only[pst0,simprocAttr]))|(refine a_cond _ (by(try simp(maxSteps:=2000000) only[Ty.w,simprocAttr,g0,g1,g2,g10,g11,g12,hno,n1,n2,e1,e2,bne,w7,Bool.not_true,Bool.not_false]);rfl) (fun hb=>?_) (fun hb=>?_)<;>(try simp only[hb0,decide_eq_true_eq,decide_eq_false_iff_not,simprocAttr]at hb)<;>(try(exfalso;omega)))|(refine hK _ _ ?_;clear hK;(try simp only[pst0,simprocAttr]))));refine uU zz (c3 _) ?_;(repeat'(first|refine cK ?_|(refine nK ?_;try exact zI)|(refine a_regionS ?_;simp(maxSteps:=2000000) only[Ty.w,simprocAttr,g0,g1,g2,g10,g11,g12,hno,n1,n2,e1,e2,bne,w7,Bool.not_true,Bool.not_false])|(refine hK _ _ ?_;clear hK;(try simp only[pst0,simprocAttr]))));exact⟨l.length-(k+1),by omega,k+1,!q3,by simp,by omega,rfl,hG2 _ _ _,stepF _ (by simp)⟩
   |true=>
    simp only[cond_true]at stepF;cases b' with
    |true=>
     replace zz:=uu12 g0 g1 g2 g10 g11 g12 hll hd hr hno n1 n2;refine wt zz ?_;replace zz:=uu9 g0 g1 g2 g10 g11 g12 hno n1 n2;refine uU zz (c1 _) ?_;(repeat'(first|refine cK ?_|(refine nK ?_;try exact zI)|refine a_seq fun K hK=>?_|(refine a_regionS ?_;simp(maxSteps:=2000000) only[Ty.w,simprocAttr,g0,g1,g2,g10,g11,g12,hno,n1,n2,e1,e2,bne,w7,Bool.not_true,Bool.not_false])|(refine a_cond _ (by(try simp(maxSteps:=2000000) only[Ty.w,simprocAttr,g0,g1,g2,g10,g11,g12,hno,n1,n2,e1,e2,bne,w7,Bool.not_true,Bool.not_false]);rfl) (fun hb=>?_) (fun hb=>?_)<;>(try simp only[hb0,decide_eq_true_eq,decide_eq_false_iff_not,simprocAttr]at hb)<;>(try(exfalso;omega)))|(refine hK _ _ ?_;clear hK;(try simp only[pst0,simprocAttr]))));refine uU zz (c2 _) ?_;(repeat'(first|refine cK ?_|(refine nK ?_;try exact zI)|((first|refine a_regionS ?_|refine a_region (fun K hK=>?_));simp(maxSteps:=2000000) only[Ty.w,simprocAttr,g0,g1,g2,g10,g11,g12,hno,n1,n2,e1,e2,bne,w7,Bool.not_true,Bool.not_false])|(refine hK _ _ ?_;clear hK;(try simp only[pst0,simprocAttr]))));exact⟨l.length-(k+1),by omega,k+1,true,by simp,by omega,rfl,hG2 _ _ _,stepF _ (by simp)⟩
    |false=>
     cases q2 with
     |false=>
      replace zz:=uu12 g0 g1 g2 g10 g11 g12 hll hd hr hno n1 n2;refine wt zz ?_;replace zz:=uu9 g0 g1 g2 g10 g11 g12 hno n1 n2;refine uU zz (c1 _) ?_;(repeat'(first|refine cK ?_|(refine nK ?_;try exact zI)|refine a_seq fun K hK=>?_|(refine a_regionS ?_;simp(maxSteps:=2000000) only[Ty.w,simprocAttr,g0,g1,g2,g10,g11,g12,hno,n1,n2,e1,e2,bne,w7,Bool.not_true,Bool.not_false])|(refine a_cond _ (by(try simp(maxSteps:=2000000) only[Ty.w,simprocAttr,g0,g1,g2,g10,g11,g12,hno,n1,n2,e1,e2,bne,w7,Bool.not_true,Bool.not_false]);rfl) (fun hb=>?_) (fun hb=>?_)<;>(try simp only[hb0,decide_eq_true_eq,decide_eq_false_iff_not,simprocAttr]at hb)<;>(try(exfalso;omega)))|(refine hK _ _ ?_;clear hK;(try simp only[pst0,simprocAttr]))));refine uU zz (c2 _) ?_;(repeat'(first|refine cK ?_|(refine nK ?_;try exact zI)|((first|refine a_regionS ?_|refine a_region (fun K hK=>?_));simp(maxSteps:=2000000) only[Ty.w,simprocAttr,g0,g1,g2,g10,g11,g12,hno,n1,n2,e1,e2,bne,w7,Bool.not_true,Bool.not_false])|(refine hK _ _ ?_;clear hK;(try simp only[pst0,simprocAttr]))));exact⟨l.length-(k+1),by omega,k+1,true,by simp,by omega,rfl,hG2 _ _ _,stepF _ (by simp)⟩
     |true=>
      cases q4 with
      |true=>
       simp only[eq_self]at e1;replace zz:=uu12 g0 g1 g2 g10 g11 g12 hll hd hr hno n1 n2;refine wt zz ?_;replace zz:=uu9 g0 g1 g2 g10 g11 g12 hno n1 n2;refine uU zz (c1 _) ?_;(repeat'(first|refine cK ?_|(refine nK ?_;try exact zI)|refine a_seq fun K hK=>?_|(refine a_regionS ?_;simp(maxSteps:=2000000) only[Ty.w,simprocAttr,g0,g1,g2,g10,g11,g12,hno,n1,n2,e1,e2,bne,w7,Bool.not_true,Bool.not_false])|(refine a_cond _ (by(try simp(maxSteps:=2000000) only[Ty.w,simprocAttr,g0,g1,g2,g10,g11,g12,hno,n1,n2,e1,e2,bne,w7,Bool.not_true,Bool.not_false]);rfl) (fun hb=>?_) (fun hb=>?_)<;>(try simp only[hb0,decide_eq_true_eq,decide_eq_false_iff_not,simprocAttr]at hb)<;>(try(exfalso;omega)))|(refine hK _ _ ?_;clear hK;(try simp only[pst0,simprocAttr]))));refine uU zz (c2 _) ?_;(repeat'(first|refine cK ?_|(refine nK ?_;try exact zI)|((first|refine a_regionS ?_|refine a_region (fun K hK=>?_));simp(maxSteps:=2000000) only[Ty.w,simprocAttr,g0,g1,g2,g10,g11,g12,hno,n1,n2,e1,e2,bne,w7,Bool.not_true,Bool.not_false])|(refine hK _ _ ?_;clear hK;(try simp only[pst0,simprocAttr]))));exact⟨l.length-(k+1),by omega,k+1,false,by simp,by omega,rfl,hG2 _ _ _,stepF _ (by simp)⟩
      |false=>
       simp only[Bool.false_eq_true]at e1;replace zz:=uu12 g0 g1 g2 g10 g11 g12 hll hd hr hno n1 n2;refine wt zz ?_;replace zz:=uu9 g0 g1 g2 g10 g11 g12 hno n1 n2;refine uU zz (c1 _) ?_;(repeat'(first|refine cK ?_|(refine nK ?_;try exact zI)|refine a_seq fun K hK=>?_|(refine a_regionS ?_;simp(maxSteps:=2000000) only[Ty.w,simprocAttr,g0,g1,g2,g10,g11,g12,hno,n1,n2,e1,e2,bne,w7,Bool.not_true,Bool.not_false])|(refine a_cond _ (by(try simp(maxSteps:=2000000) only[Ty.w,simprocAttr,g0,g1,g2,g10,g11,g12,hno,n1,n2,e1,e2,bne,w7,Bool.not_true,Bool.not_false]);rfl) (fun hb=>?_) (fun hb=>?_)<;>(try simp only[hb0,decide_eq_true_eq,decide_eq_false_iff_not,simprocAttr]at hb)<;>(try(exfalso;omega)))|(refine hK _ _ ?_;clear hK;(try simp only[pst0,simprocAttr]))));refine uU zz (c2 _) ?_;(repeat'(first|refine cK ?_|(refine nK ?_;try exact zI)|(refine a_region (fun K hK=>?_);simp(maxSteps:=2000000) only[Ty.w,simprocAttr,g0,g1,g2,g10,g11,g12,hno,n1,n2,e1,e2,bne,w7,Bool.not_true,Bool.not_false])|(refine hK _ _ ?_;clear hK;(try simp only[pst0,simprocAttr]))));refine uU zz (c3 _) ?_;(repeat'(first|refine cK ?_|(refine nK ?_;try exact zI)|(refine a_regionS ?_;simp(maxSteps:=2000000) only[Ty.w,simprocAttr,g0,g1,g2,g10,g11,g12,hno,n1,n2,e1,e2,bne,w7,Bool.not_true,Bool.not_false])|(refine hK _ _ ?_;clear hK;(try simp only[pst0,simprocAttr]))));exact⟨l.length-(k+1),by omega,k+1,!q3,by simp,by omega,rfl,hG2 _ _ _,stepF _ (by simp)⟩
  ·have hd:decide ((k:Int)<(l.length:Int))=false:=(by simp;omega);rw[List.drop_eq_nil_of_le (by omega),List.all_nil,Bool.not_true,Bool.or_false]at hinv;subst hinv;replace zz:=uu8 g0 g1 g2 g10 g11 g12 hll hd;refine wt zz ?_;replace zz:=uu6 g0 g1 g2 g10 g11 g12;refine uU zz (hWP _) ?_;refine wt (uu3 g0 g1 g2) ?_;exact⟨frz_imm (sxs_in _ _),hG⟩
set_option maxHeartbeats 8000000
theorem d9word_c{h:Heap}{s:ByteArray}:PCall Tryz.prog 103 [sPV s] h fun r h'=>r= .agg (wordM s).cells∧h'=h:=by
 refine PCall.frz Ty.hb_103 ?_;refine uG0 Tryz.func103 Tryz.ntmps103 Tryz.results103 Ty.hb_103 ?_;refine wt trivial ?_;refine⟨?_,((Grow.refl h).new _).set (Nat.le_refl _) _⟩;simp only[wordM,Sx.cells,Sx.rows,FrzTo,FrzL];exact⟨_,rfl,rfl,rfl,rfl,rfl,rfl,.inr (.inl ⟨rfl,.inr rfl⟩),trivial⟩
theorem d9list_c{s:ByteArray}{l:List Sx}(hl:l.length≤1099511627776)(h:Heap):PCall Tryz.prog 86 [sPV s,.imm 6 (Sx.rows l)] h fun r h'=>r= .agg (listM (wordM s::l)).cells∧h'=h:=by
 refine PCall.frz Ty.hb_86 ?_;have hll:=Sx.rows_len l;have hwd: ∀ (h:Heap),PCall Tryz.prog 103 [sPV s] h fun r h'=>r= .agg (wordM s).cells∧h'=h:=fun h=>d9word_c;simp only[wordM,Sx.cells,Sx.rows]at hwd;have hbb:(1+l.length)*72≤140737488355328:=by omega
 have n1:(h.next=h.next+1+1)=False:=eq_false (by omega);refine uG (ow:=fun t=>t==7) (wf:=fun _=>false) Tryz.func86 Tryz.ntmps86 Tryz.results86 Ty.hb_86 ?_;refine wt trivial ?_;refine uU trivial (hwd _) ?_;replace zz:=uu4 hll hbb n1 @nsucc;repeat'(first|refine cK ?_|refine nK ?_|refine uT zz ?_|(refine uN hK ?_;clear hK)|(rw[if_pos];rotate_left 1;omega;simp(maxSteps:=2000000) only[Ty.w,simprocAttr,hll,hbb,n1,nsucc])|apply zI)
 refine⟨?_,(((((Grow.refl h).new _).new _).kill (show h.next≤h.next+1 by omega)).new _).set (Nat.le_refl _) _⟩;simp only[listM,Sx.cells,FrzTo,FrzL];refine⟨_,rfl,rfl,rfl,rfl,rfl,rfl,.inr (.inr ⟨h.next+1+1,0,1+l.length,Sx.rows (wordM s::l),rfl,by omega,?_,?_,?_⟩),trivial⟩
 ·rw [obj_set (by omega)];simp only[Heap.new,Heap.kill,if_true,Sx.rows,wordM,Sx.cells]
 ·rw [Sx.rows_len];simp;omega
 ·rw [List.drop_zero,List.take_of_length_le (by rw[Sx.rows_len];simp;omega)];exact sxs_frz _ _ _
def tru(f:Fm):Bool:=match f with| .mk op _ _ _ _ kids=>bEq op opAnd&&(((Fm.rows kids).length:Int)==0)
theorem rtrue_c(f:Fm)(h:Heap):PCall Tryz.prog 106 [.agg f.cells] h fun r h'=>r= .sc (.bool (tru f))∧h'=h:=by
 refine PCall.quiet Ty.hb_106 ?_;obtain⟨gop,gna,gar,gpa,gex,gki⟩:=f;simp only[Fm.cells,tru];have e0:bEq gop opAnd=(gop.data.toList==[97,110,100]):=rfl;rw[e0];cases e1:(gop.data.toList==[97,110,100])with
 |false=>
  refine uG0 Tryz.func106 Tryz.ntmps106 Tryz.results106 Ty.hb_106 ?_;refine wm e1 ?_;try exact zI
  all_goals first|exact Grow.refl _|exact⟨rfl,Grow.refl _⟩
 |true=>
  refine uG0 Tryz.func106 Tryz.ntmps106 Tryz.results106 Ty.hb_106 ?_;refine wm e1 ?_;try exact zI
  all_goals first|exact Grow.refl _|exact⟨rfl,Grow.refl _⟩
def ch1W(c:Ch):Sx:=bif c.kind==2 then listM [wordM opNot,fmW (atF c)]else bif c.kind==3 then listM [wordM opAsg,fmW (atF c),exW c.value]else bif c.kind==4 then listM [wordM opInc,fmW (atF c),exW c.value]else bif c.kind==5 then listM [wordM opDec,fmW (atF c),exW c.value]else fmW (atF c)
def ch2W(c:Ch):Sx:=bif tru c.cond then ch1W c else listM [wordM opWhen,fmW c.cond,ch1W c]
def chW(c:Ch):Sx:=bif c.params.isEmpty then ch2W c else listM [wordM opAll,listM (paramsW c.params),ch2W c]
theorem sxA_frz(n:Nat)(H:Heap)(X:Sx):FrzTo n H (.agg X.cells) (.agg X.cells):=by
 obtain⟨k,v,l,c,t,ks⟩:=X;simp only[Sx.cells,FrzTo,FrzL];exact⟨_,rfl,rfl,rfl,rfl,rfl,rfl,.inl ⟨rfl,sxs_in _ _⟩,trivial⟩
structure SgI(h:Heap)(X:Sx)(H:Heap):Prop where
 grow:Grow h H
 nx:h.next+1<H.next
 res:H.obj h.next=some (.arr 6 [[.sc (.int .i64 0),.sc (.int .i64 0),.sc (.int .i64 0),.sc (.int .i64 0),.sc (.string ⟨#[]⟩),.sc (.slice none 0 0)]])
 at_:H.obj (h.next+1)=some (.arr 6 [X.cells])
theorem SgI.put{h H:Heap}{X Y:Sx}(i:SgI h X H):SgI h Y (H.set (h.next+1) (.arr 6 [Y.cells])):=
 ⟨i.grow.set (by omega) _,i.nx,by simp only[Heap.set];rw[if_neg (by omega)];exact i.res,by simp only[Heap.set,if_true]⟩
theorem single_c{c:Ch}(hR:chR c=true)(hok:c.ok)(hcs:c.cond.small)(hvs:c.value.small)(hal:c.args.length≤1048576)(hpl:c.params.length≤1048576)(h:Heap):PCall Tryz.prog 85 [.agg (chRow c)] h fun r h'=>r= .agg (chW c).cells∧h'=h:=by
 refine PCall.frz Ty.hb_85 ?_;simp only[chR,Bool.and_eq_true,Bool.not_eq_true']at hR;obtain⟨k1,k2,r3,r4,r5,r6⟩:=hR;have hat:=fun h:Heap=>PCall.nz (rwriteF_c (atF c) ⟨hal,by simp,trivial,by simp,trivial⟩ r5 h) (xs:=[.agg [sPV opAtom,sPV c.name,.imm 1 (strRows c.args),.sc (.slice none 0 0),.sc (.slice none 0 0),.sc (.slice none 0 0)]]) (nz_cons (nz_agg (nz_cons (Nz.refl _) (nz_cons (Nz.refl _) (nz_cons (Nz.refl _) (nz_cons nz_nil (nz_cons nz_nil (nz_cons nz_nil (NzL.refl _)))))))) (NzL.refl _));have hcw:=fun h:Heap=>rwriteF_c c.cond hcs r4 h;have htr:=fun h:Heap=>rtrue_c c.cond h;have hex:decide (c.kind≤2)=false→ ∀ h:Heap,PCall Tryz.prog 82 [.agg c.value.cells] h fun r h'=>r= .agg (exW c.value).cells∧h'=h:=fun hk h=>rwriteE_c c.value hvs (by rw[hk]at r6;exact r6) h;have hwp:=fun h:Heap=>rwriteParams_c (l:=c.params) hpl h;have hl2:=fun(s:ByteArray)(X:Sx)(h:Heap)=>d9list_c (s:=s) (l:=[X]) (by simp) h;have hl3:=fun(s:ByteArray)(X Y:Sx)(h:Heap)=>d9list_c (s:=s) (l:=[X,Y]) (by simp) h;generalize hF:chW c=F;unfold chW at hF;unfold ch2W at hF;try clear zz
 clear r3 r4 r5 r6 hok hcs hvs hal;generalize fmW c.cond=X2 at hcw hF;have hc1:ch1W c=bif c.kind==2 then listM [wordM opNot,fmW (atF c)]else bif c.kind==3 then listM [wordM opAsg,fmW (atF c),exW c.value]else bif c.kind==4 then listM [wordM opInc,fmW (atF c),exW c.value]else bif c.kind==5 then listM [wordM opDec,fmW (atF c),exW c.value]else fmW (atF c):=rfl
 generalize ch1W c=X1 at hF hc1;generalize fmW (atF c)=X0 at hat hc1;generalize exW c.value=E at hex hc1;generalize paramsW c.params=L at*;generalize tru c.cond=tb at*;have hpe:decide ((0:Int)<((pmRows c.params).length:Int))=!c.params.isEmpty:=by
  cases c.params<;>simp[pmRows]<;>omega
 generalize c.params.isEmpty=pe at hF hpe;obtain⟨kind,P,⟨gop,gna,gar,gpa,gex,gki⟩,nm,aa,⟨eop,ena,en,ear,eki⟩⟩:=c;simp only at hc1 k1 k2 hex hwp hat hpe;simp only[Fm.cells,Ex.cells,opAtom,sPV]at hcw htr hex hat;simp only[chRow,Fm.cells,Ex.cells,List.cons_append,List.nil_append];generalize pmRows P=PR at*;obtain⟨ek,ev,el,ec,et,es⟩:=E;obtain⟨ck,cv,cl,cc,ct,cs⟩:=X2;obtain⟨ak,av,al,ac,at_,as_⟩:=X0;simp only[Sx.cells]at hcw hex hat;refine uG (ow:=fun t=>t==3) (wf:=fun _=>false) Tryz.func85 Tryz.ntmps85 Tryz.results85 Ty.hb_85 ?_;refine xG 2 trivial ?_;refine uU trivial (hat _) ?_;refine xG 2 trivial ?_;refine⟨?_⟩;refine a_genX (fun S H=>S 1= .cptr [.sc (.int .i64 kind),.imm 2 PR,sPV gop,sPV gna,.imm 1 (strRows gar),.imm 2 (pmRows gpa),.imm 5 (Ex.rows gex),.imm 6 (Fm.rows gki),sPV nm,.imm 1 (strRows aa),sPV eop,sPV ena,.sc (.int .i64 en),.imm 1 (strRows ear),.imm 5 (Ex.rows eki)]∧S 2= .ptr h.next 0 0∧S 3= .ptr (h.next+1) 0 0∧SgI h (.mk ak av al ac at_ as_) H) ⟨by simp only[Ty.w,simprocAttr],by simp only[Ty.w,simprocAttr],by simp only[Ty.w,simprocAttr],⟨(((Grow.refl h).new _).new _).set (by omega) _,by simp[Heap.new,Heap.set],by simp[Heap.new,Heap.set],by simp[Heap.new,Heap.set,Sx.cells]⟩⟩ ?_;try clear zz
 clear hat;rintro S H ⟨s1,s2,s3,hI⟩;refine a_cutK (fun S H=>S 1= .cptr [.sc (.int .i64 kind),.imm 2 PR,sPV gop,sPV gna,.imm 1 (strRows gar),.imm 2 (pmRows gpa),.imm 5 (Ex.rows gex),.imm 6 (Fm.rows gki),sPV nm,.imm 1 (strRows aa),sPV eop,sPV ena,.sc (.int .i64 en),.imm 1 (strRows ear),.imm 5 (Ex.rows eki)]∧S 2= .ptr h.next 0 0∧S 3= .ptr (h.next+1) 0 0∧SgI h X1 H) ?_ ?_
 ·have hat2:=hI.at_;simp only[Sx.cells]at hat2;try clear hK
  try clear zz
  clear hcw htr hwp hF hpe;cases q2:(kind==2)with
  |true=>
   simp only[q2,cond_true,cond_false]at hc1;subst hc1;have hq:=hl2 opNot (.mk ak av al ac at_ as_);simp only[wordM,opNot,listM,Sx.cells,Sx.rows]at hq;replace zz:=uu5 s1 s2 s3 hat2 q2;refine wy zz ?_;replace zz:=uu5 s1 s2 s3 hat2 q2;refine uU zz (hq _) ?_;refine wy zz ?_;first|exact hI.put|exact⟨by simp only[Ty.w,simprocAttr,s1],by simp only[Ty.w,simprocAttr,s2],by simp only[Ty.w,simprocAttr,s3],hI.put⟩
  |false=>
   simp only[q2,cond_false]at hc1;cases q3:(kind==3)with
   |true=>
    simp only[q3,cond_true,cond_false]at hc1;subst hc1;have hq:=hl3 opAsg (.mk ak av al ac at_ as_) (.mk ek ev el ec et es);have hex:=hex (by simp at q3⊢;omega);simp only[wordM,opAsg,listM,Sx.cells,Sx.rows]at hq;replace zz:=uu6 s1 s2 s3 hat2 q2 q3;refine wy zz ?_;replace zz:=uu6 s1 s2 s3 hat2 q2 q3;(first|refine uV zz (hex _) ?_|refine uA zz (hex _) ?_);refine wy zz ?_;replace zz:=uu6 s1 s2 s3 hat2 q2 q3;(first|refine uV zz (hq _) ?_|refine uA zz (hq _) ?_);refine wy zz ?_;first|exact hI.put|exact⟨by simp only[Ty.w,simprocAttr,s1],by simp only[Ty.w,simprocAttr,s2],by simp only[Ty.w,simprocAttr,s3],hI.put⟩
   |false=>
    simp only[q3,cond_false]at hc1;cases q4:(kind==4)with
    |true=>
     simp only[q4,cond_true,cond_false]at hc1;subst hc1;have hq:=hl3 opInc (.mk ak av al ac at_ as_) (.mk ek ev el ec et es);have hex:=hex (by simp at q4⊢;omega);simp only[wordM,opInc,listM,Sx.cells,Sx.rows]at hq;replace zz:=uu7 s1 s2 s3 hat2 q2 q3 q4;refine wy zz ?_;replace zz:=uu7 s1 s2 s3 hat2 q2 q3 q4;(first|refine uV zz (hex _) ?_|refine uA zz (hex _) ?_);refine wy zz ?_;replace zz:=uu7 s1 s2 s3 hat2 q2 q3 q4;(first|refine uV zz (hq _) ?_|refine uA zz (hq _) ?_);refine wy zz ?_;first|exact hI.put|exact⟨by simp only[Ty.w,simprocAttr,s1],by simp only[Ty.w,simprocAttr,s2],by simp only[Ty.w,simprocAttr,s3],hI.put⟩
    |false=>
     simp only[q4,cond_false]at hc1;cases q5:(kind==5)with
     |true=>
      simp only[q5,cond_true,cond_false]at hc1;subst hc1;have hq:=hl3 opDec (.mk ak av al ac at_ as_) (.mk ek ev el ec et es);have hex:=hex (by simp at q5⊢;omega);simp only[wordM,opDec,listM,Sx.cells,Sx.rows]at hq;replace zz:=uu8 s1 s2 s3 hat2 q2 q3 q4 q5;refine wy zz ?_;replace zz:=uu8 s1 s2 s3 hat2 q2 q3 q4 q5;(first|refine uV zz (hex _) ?_|refine uA zz (hex _) ?_);refine wy zz ?_;replace zz:=uu8 s1 s2 s3 hat2 q2 q3 q4 q5;(first|refine uV zz (hq _) ?_|refine uA zz (hq _) ?_);refine wy zz ?_;first|exact hI.put|exact⟨by simp only[Ty.w,simprocAttr,s1],by simp only[Ty.w,simprocAttr,s2],by simp only[Ty.w,simprocAttr,s3],hI.put⟩
     |false=>
      simp only[q5,cond_false]at hc1;subst hc1;replace zz:=uu8 s1 s2 s3 hat2 q2 q3 q4 q5;refine wy zz ?_;first|exact hI|exact⟨by simp only[Ty.w,simprocAttr,s1],by simp only[Ty.w,simprocAttr,s2],by simp only[Ty.w,simprocAttr,s3],hI⟩
 ·try clear zz
  clear s1 s2 s3 hI hc1 hex hl2;rintro S H ⟨s1,s2,s3,hI⟩;first|refine hK _ _ ?_|refine cK ?_
  try clear hK
  obtain⟨xk,xv,xl,xc,xt,xs⟩:=X1;refine xG 11 (uu3 s1 s2 s3) ?_;refine⟨?_⟩;refine a_cutK (fun S H=>S 1= .cptr [.sc (.int .i64 kind),.imm 2 PR,sPV gop,sPV gna,.imm 1 (strRows gar),.imm 2 (pmRows gpa),.imm 5 (Ex.rows gex),.imm 6 (Fm.rows gki),sPV nm,.imm 1 (strRows aa),sPV eop,sPV ena,.sc (.int .i64 en),.imm 1 (strRows ear),.imm 5 (Ex.rows eki)]∧S 2= .ptr h.next 0 0∧S 3= .ptr (h.next+1) 0 0∧SgI h (bif tb then(Sx.mk xk xv xl xc xt xs)else listM [wordM opWhen,(.mk ck cv cl cc ct cs),.mk xk xv xl xc xt xs]) H) ?_ ?_
  ·have hat2:=hI.at_;simp only[Sx.cells]at hat2;cases tb with
   |true=>
    simp only[cond_true];replace zz:=uu4 s1 s2 s3 hat2;refine wy zz ?_;replace zz:=uu4 s1 s2 s3 hat2;refine uU zz (htr _) ?_;replace zz:=uu5 s1 s2 s3 hat2 yT;refine wy zz ?_;first|exact hI|exact⟨by simp only[Ty.w,simprocAttr,s1],by simp only[Ty.w,simprocAttr,s2],by simp only[Ty.w,simprocAttr,s3],hI⟩
   |false=>
    simp only[cond_false];have hq:=hl3 opWhen (.mk ck cv cl cc ct cs) (.mk xk xv xl xc xt xs);simp only[wordM,opWhen,listM,Sx.cells,Sx.rows]at hq;replace zz:=uu4 s1 s2 s3 hat2;refine wy zz ?_;replace zz:=uu4 s1 s2 s3 hat2;refine uU zz (htr _) ?_;replace zz:=uu5 s1 s2 s3 hat2 yF;refine wy zz ?_;replace zz:=uu4 s1 s2 s3 hat2;(first|refine uV zz (hcw _) ?_|refine uA zz (hcw _) ?_);refine wy zz ?_;replace zz:=uu4 s1 s2 s3 hat2;(first|refine uV zz (hq _) ?_|refine uA zz (hq _) ?_);refine wy zz ?_;first|exact hI.put|exact⟨by simp only[Ty.w,simprocAttr,s1],by simp only[Ty.w,simprocAttr,s2],by simp only[Ty.w,simprocAttr,s3],hI.put⟩
  ·(try clear zz);clear s1 s2 s3 hI;rintro S H ⟨s1,s2,s3,hI⟩;(first|refine hK _ _ ?_|refine cK ?_);(try clear hK);generalize(bif tb then Sx.mk xk xv xl xc xt xs else listM [wordM opWhen,(.mk ck cv cl cc ct cs),.mk xk xv xl xc xt xs])=Y at hI hF;obtain⟨yk,yv,yl,yc,yt,ys⟩:=Y;have hat2:=hI.at_;have hre:=hI.res;have hgr:=hI.grow;have hnx:=hI.nx;simp only[Sx.cells]at hat2;have n1:(h.next+1=h.next)=False:=eq_false (by omega);have n2:(h.next=h.next+1)=False:=eq_false (by omega);cases pe with
   |true=>
    simp only[cond_true]at hF;subst hF;replace zz:=uu9 s1 s2 s3 hat2 hre hpe yT n1 n2;refine wy zz ?_;exact⟨sxA_frz _ _ _,hgr.set (Nat.le_refl _) _⟩
   |false=>
    simp only[cond_false]at hF;subst hF;have hq:=hl3 opAll (listM L) (.mk yk yv yl yc yt ys);simp only[wordM,opAll,listM,Sx.cells,Sx.rows]at hq;replace zz:=uu9 s1 s2 s3 hat2 hre hpe yF n1 n2;refine wy zz ?_;replace zz:=uu8 s1 s2 s3 hat2 hre hpe n1 n2;(first|refine uV zz (hwp _) ?_|refine uA zz (hwp _) ?_);refine wy zz ?_;replace zz:=uu8 s1 s2 s3 hat2 hre hpe n1 n2;(first|refine uV zz (hq _) ?_|refine uA zz (hq _) ?_);refine wy zz ?_;exact⟨sxA_frz _ _ (listM [wordM opAll,listM L,.mk yk yv yl yc yt ys]),(hgr.set (by omega) _).set (Nat.le_refl _) _⟩
set_option maxHeartbeats 4000000
structure WordsX(h:Heap)(id:Nat)(b:Bool)(first:ByteArray)(l:List ByteArray)(k:Nat)(h':Heap):Prop where
 grow:GrowX h id (wO b) h'
 ex: ∃ j,h.next+1+1<h'.next∧j≠h.next+1+1∧h.next<j∧j<h'.next∧
  h'.obj h.next=some (.arr 6 [[.sc (.int .i64 0),.sc (.int .i64 0),.sc (.int .i64 0),.sc (.int .i64 0),.sc (.string ⟨#[]⟩),.sc (.slice none 0 0)]])∧
  h'.obj (h.next+1+1)=some (.arr 6 [[.sc (.int .i64 3),.sc (.int .i64 0),.sc (.int .i64 0),.sc (.int .i64 0),.sc (.string ⟨#[]⟩),.own j 0 (k+1)]])∧
  h'.obj j=some (.arr 6 (Sx.rows ((first::l.take k).map wordM)))
theorem WordsX.put{h h':Heap}{id:Nat}{b b2:Bool}{first:ByteArray}{l:List ByteArray}{k:Nat}(i:WordsX h id b first l k h')(hid:id<h.next):WordsX h id b2 first l k (h'.set id (wO b2)):=by
 obtain⟨hg,j,h1,h2,h3,h4,o1,o2,o3⟩:=i;refine⟨hg.put,j,h1,h2,h3,h4,?_,?_,?_⟩
 ·simp only[Heap.set];rw[if_neg (by omega)];exact o1
 ·simp only[Heap.set];rw[if_neg (by omega)];exact o2
 ·simp only[Heap.set];rw[if_neg (by omega)];exact o3
theorem watom_c{h:Heap}{id:Nat}{b:Bool}{first:ByteArray}{l:List ByteArray}(hn:first.size≤9223372036854775807)(hl:l.length≤1048576)(hok: ∀ s∈l,s.size≤bigN)(hid:id<h.next)(ho:h.obj id=some (wO b)):
  PCall Tryz.prog 144 [.ptr id 0 0,sPV first,.imm 1 (strRows l)] h fun r h'=>r= .agg (wordsM first l).cells∧h'=h.set id (wO (b||!(nameB first&&l.all termB))):=by
 refine PCall.frzX Ty.hb_144 ho (wO_in _ _) ?_;have hll:=strRows_len l;have hw: ∀ (s:ByteArray)(h:Heap),PCall Tryz.prog 40 [sPV s] h fun r h'=>r= .agg (wordM s).cells∧h'=h:=fun s h=>dword_c;have c0:=fun(z:AObj)=>wname_c (h:=h.new z) (b:=b) (s:=first) hn (show id<h.next+1 by omega) ((obj_new hid).trans ho);simp only[wordM,Sx.cells,Sx.rows]at hw c0;generalize hF:(b||!(nameB first&&l.all termB))=F;refine uG (ow:=fun t=>t==13) (wf:=fun _=>false) Tryz.func144 Tryz.ntmps144 Tryz.results144 Ty.hb_144 ?_;refine wt trivial ?_;refine owp_useH (c0 _) (by(try simp only[Ty.w,simprocAttr,ho]);try rfl) ?_;simp(maxSteps:=2000000) only[Ty.w,simprocAttr,ho];refine wt ho ?_;refine uU trivial (dlist_c (p:= .own (h.next+1) 0 1) rfl (fun _=>frz_own (by simp[Heap.new,Heap.set]))) ?_;refine wt hll ?_;refine a_loop (fun m S h'=>S 0= .ptr id 0 0∧S 6= .ptr h.next 0 0∧S 7= .ptr (h.next+1+1) 0 0∧S 15= .imm 1 (strRows l)∧S 16= .sc (.int .i64 l.length)∧ ∃ (k:Nat)(b':Bool),S 17= .sc (.int .i64 k)∧k≤l.length∧m=l.length-k∧WordsX h id b' first l k h'∧F=(b'||!((l.drop k).all termB))) l.length ?_ ?_
 ·simp only[Ty.w,simprocAttr];refine⟨0,b||!nameB first,rfl,by omega,rfl,?_,?_⟩
  ·have e1:¬ h.next=h.next+1+1:=by omega
   refine⟨?_,h.next+1,by simp[Heap.new,Heap.set],by omega,by omega,by simp[Heap.new,Heap.set],?_,?_,?_⟩
   ·exact ((((((GrowX.refl ho).new hid).put).new hid).new hid).set hid (by omega))
   ·simp only[Heap.new,Heap.set];repeat(first|rw[if_neg (by omega)]|rw[if_pos trivial])
   ·simp only[Heap.new,Heap.set];repeat(first|rw[if_neg (by omega)]|rw[if_pos trivial])
   ·simp only[Heap.new,Heap.set];(repeat(first|rw[if_neg (by omega)]|rw[if_pos trivial]));simp[wordM,Sx.rows,Sx.cells]
  ·rw [List.drop_zero, ← hF];cases b<;>cases nameB first<;>simp
 ·try clear zz
  clear hF c0;rintro m S h' ⟨g0,g6,g7,g15,g16,k,b',g17,hk,rfl,hI,hinv⟩;by_cases hlt:k<l.length
  ·have hd:decide ((k:Int)<(l.length:Int))=true:=(by simp;omega);have w7:IntKind.i64.wrap ((k:Int)+1)=k+1:=(by rw[wrap64 (by omega) (by omega)]);obtain⟨s,hx⟩: ∃ s,l[k]? =some s:=⟨_,List.getElem?_eq_getElem hlt⟩;have hr:=strRows_get hx;have hts:=fun h:Heap=>dterm_c (h:=h) (s:=s) (by have:=hok s (List.mem_of_getElem? hx);unfold bigN at this;omega);rw[drop_of_get hx,List.all_cons]at hinv;have hbo:=hI.grow.at_;generalize termB s=q at hts hinv;have stepF: ∀ b2:Bool,b2=(b'||!q)→F=(b2||!((l.drop (k+1)).all termB)):=fun b2 e=>by
    rw[hinv,e];cases b'<;>cases q<;>simp
   (try clear zz);clear hinv;replace zz:=uu8 g0 g6 g7 g15 g16 g17 hd hr;refine xG 5 zz ?_;refine⟨?_⟩;refine a_cut (fun S H=>S 0= .ptr id 0 0∧S 6= .ptr h.next 0 0∧S 7= .ptr (h.next+1+1) 0 0∧S 15= .imm 1 (strRows l)∧S 16= .sc (.int .i64 l.length)∧S 17= .sc (.int .i64 k)∧S 9=sPV s∧ ∃ b2,WordsX h id b2 first l k H∧F=(b2||!((l.drop (k+1)).all termB))) ?_ ?_
   ·cases b' with
    |true=>
     replace zz:=uu7 g0 g6 g7 g15 g16 g17 hbo;refine wt zz ?_;exact⟨true,hI.put hid,stepF _ (by simp)⟩
    |false=>
     replace zz:=uu7 g0 g6 g7 g15 g16 g17 hbo;refine wt zz ?_;replace zz:=uu7 g0 g6 g7 g15 g16 g17 hbo;refine uU zz (hts _) ?_;refine wt zz ?_;exact⟨!q,hI.put hid,stepF _ (by simp)⟩
   ·(try clear zz);clear g0 g6 g7 g15 g16 g17 hI hbo hd hr stepF hts;rintro S H ⟨g0,g6,g7,g15,g16,g17,g9,b2,hI,hinv⟩;obtain⟨hg,j,hn2,hne,hlo,hhi,o1,o2,o3⟩:=hI;have hrl:(Sx.rows ((first::l.take k).map wordM)).length=k+1:=(by rw[Sx.rows_len];simp;omega);generalize hR:Sx.rows ((first::l.take k).map wordM)=R at o3 hrl;have n1:(h.next+1+1=j)=False:=(by simp;omega);have n2:(h.next+1+1=H.next)=False:=(by simp;omega);have htk:List.take (k+1) R=R:=List.take_of_length_le (by omega);have hb:(k+1+1)*72≤140737488355328:=(by omega);replace zz:=uu10 g0 g6 g7 g15 g16 g17 g9 w7 o2 o3;refine wy zz ?_;replace zz:=uu9 g0 g6 g7 g15 g16 g17 g9 o2 o3;(first|refine uV zz (hw s _) ?_|refine uA zz (hw s _) ?_);replace zz:=uu12 g0 g6 g7 g15 g16 g17 g9 w7 o2 o3 n1 (uu4 n2 hrl htk hb);(repeat'(first|refine cK ?_|refine nK ?_|refine uR zz ?_|(refine uN hK ?_;clear hK)|refine uB zz ?_|(rw[if_pos];rotate_left 1;omega;simp(maxSteps:=2000000) only[Ty.w,simprocAttr,g0,g6,g7,g15,g16,g17,g9,w7,o2,o3,n1,n2,hrl,htk,hb])|apply zI));refine⟨l.length-(k+1),by omega,k+1,b2,by simp,by omega,rfl,⟨((hg.kill hid (by omega)).new hid).set hid (by omega),H.next,?_,?_,?_,?_,?_,?_,?_⟩,hinv⟩
    ·simp only[Heap.set,Heap.new,Heap.kill];omega
    ·omega
    ·omega
    ·simp only[Heap.set,Heap.new,Heap.kill];omega
    ·have a1:¬ h.next=h.next+1+1:=by omega
     have a2:¬ h.next=H.next:=by omega
     have a3:¬ h.next=j:=by omega
     simp only[Heap.set,Heap.new,Heap.kill,a1,a2,a3,if_false];exact o1
    ·simp only[Heap.set,if_true]
    ·have a1:¬ H.next=h.next+1+1:=by omega
     simp only[Heap.set,Heap.new,Heap.kill,a1,if_false,if_true];rw[List.take_add_one,hx, ← hR];simp only[Sx.rows_map,List.map_cons,List.map_append,List.map_nil,Option.toList_some,List.cons_append,wordM,Sx.cells]
  ·have hd:decide ((k:Int)<(l.length:Int))=false:=(by simp;omega);have hke:k=l.length:=(by omega);subst hke;obtain⟨hg,j,hn2,hne,hlo,hhi,o1,o2,o3⟩:=hI;rw[List.take_length]at o3;rw[List.drop_length,List.all_nil,Bool.not_true,Bool.or_false]at hinv;subst hinv;have n1:(h.next+1+1=h.next)=False:=(by simp;omega);replace zz:=uu11 g0 g6 g7 g15 g16 g17 hd o1 o2 o3 n1;refine wt zz ?_;refine⟨?_,hg.set hid (Nat.le_refl _)⟩;simp only[wordsM,listM,Sx.cells,FrzTo,FrzL];refine⟨_,rfl,rfl,rfl,rfl,rfl,rfl,.inr (.inr ⟨j,0,l.length+1,Sx.rows ((first::l).map wordM),rfl,by omega,?_,?_,?_⟩),trivial⟩
   ·simp only[Heap.set];rw[if_neg (by omega)];exact o3
   ·rw [Sx.rows_len];simp
   ·rw [List.drop_zero,List.take_of_length_le (by rw[Sx.rows_len];simp)];exact sxs_frz _ _ _
end Go.Proofs.YtblgchkahpgdjaaGreat
namespace Go.AM
open Go.ChangeShapes Go.WideShapes
def partsT(P:Program)(t:TypeId):List (Nat × TypeId):=match P.underlying t with
 |some (.struct fs)=>fs.toList.map fun f=>(f.offset,f.type)
 |some (.array n e)=>(List.range n).map fun i=>(i*P.cellsOf e,e)
 |_=>[]
def inRow(P:Program)(e:Nat):Nat→List (Nat × TypeId)→Bool
 |o,[]=>o==e
 |o,p::l=>p.1==o&&inRow P e (o+P.cellsOf p.2) l
def Arg(P:Program):Nat→TypeId→List PV→Prop
 |0,_,_=>False
 |f+1,t,ps=>match P.underlying t with
  |some .bool=> ∃ b,ps=[.sc (.bool b)]
  |some (.int k)=> ∃ n,(Lit.int k n).wf=true∧ps=[.sc (.int k n)]
  |some .string=> ∃ s:ByteArray,s.size≤reachBytes∧ps=[.sc (.string s)]
  |some (.slice e)=> ∃ rows,ps=[.imm (P.cellsOf e) rows]∧rows.length*P.bytesOf e≤reachBytes∧rows.length≤maxLen∧ ∀ r∈rows,r.length=P.cellsOf e∧Arg P f e r
  |some (.struct _)=>ps.length=P.cellsOf t∧ ∀ p∈partsT P t,Arg P f p.2 ((ps.drop p.1).take (P.cellsOf p.2))
  |some (.array _ _)=>ps.length=P.cellsOf t∧ ∀ p∈partsT P t,Arg P f p.2 ((ps.drop p.1).take (P.cellsOf p.2))
  |_=>False
section
variable {H:Type}{enc:TypeId × Value→H}{P:Program}{w:World}{sp:Nat→Bool}{held:Bool}
def RA(w:World)(ps:List PV)(cs:List Value):Prop:=(∀ v∈cs,v.oneCell'=true)∧ ∀ β n,RepL β n (fun b=>b<w.heap.size) w ps cs
theorem RA.len{ps:List PV}{cs:List Value}(h:RA w ps cs):ps.length=cs.length:=(h.2 ⟨fun _=>⟨none,0,0,0⟩,fun _=>False⟩ 0).len
theorem RA.append{ps ps':List PV}{cs cs':List Value}(h:RA w ps cs)(k:RA w ps' cs'):RA w (ps++ps') (cs++cs'):=
 ⟨fun v hv=>by exact(List.mem_append.1 hv).elim (h.1 v) (k.1 v),fun β n=>(h.2 β n).append (k.2 β n)⟩
theorem inRow_le{e:Nat}:(l:List (Nat × TypeId))→(o:Nat)→inRow P e o l=true→o≤e∧ ∀ p∈l,o≤p.1∧p.1+P.cellsOf p.2≤e
 |[],o,h=>by simp[inRow]at h;simp[h]
 |p::l,o,h=>by
  simp only[inRow,Bool.and_eq_true,beq_iff_eq]at h;obtain⟨h1,h2⟩:=inRow_le l _ h.2;refine⟨by omega,fun q hq=>?_⟩;rcases List.mem_cons.1 hq with rfl|hq
  ·omega
  ·have:=h2 q hq;omega
theorem exists_list{α:Type}{R:Nat→α→Prop}:(n:Nat)→(∀ i,i<n→ ∃ x,R i x)→ ∃ l:List α,l.length=n∧ ∀ i x,l[i]? =some x→R i x
 |0,_=>⟨[],rfl,by simp⟩
 |n+1,h=>by
  obtain⟨l,h1,h2⟩:=exists_list n (fun i hi=>h i (by omega));obtain⟨x,hx⟩:=h n (by omega);refine⟨l++[x],by simp[h1],fun i y hy=>?_⟩;rw[List.getElem?_append]at hy;split at hy
  ·exact h2 i y hy
  ·rename_i hi;have:i=n:=by
    have:=(List.getElem?_eq_some_iff.1 hy).1;simp at this;omega
   subst this;rw[h1]at hy;simp at hy;subst hy;exact hx
theorem weightsAll_mem{e:TypeId}{n:Nat}:{ds:List (DataW H)}→{i:Nat}→{d:DataW H}→ds[i]? =some d→n∈d.weights P e→n∈DataW.weightsAll P e ds
 |[],_,_,h,_=>by simp at h
 |d0::ds,0,d,h,hn=>by
  simp at h;subst h;simp only[DataW.weightsAll,List.mem_append];exact .inl hn
 |d0::ds,i+1,d,h,hn=>by
  simp at h;simp only[DataW.weightsAll,List.mem_append];exact .inr (weightsAll_mem h hn)
theorem sc_RA{v:Value}(h:v.oneCell'=true):RA w [.sc v] [v]:=
 ⟨fun u hu=>by simp at hu;subst hu;exact h,fun β n=>by simp only[RepL,Rep];exact⟨trivial,trivial⟩⟩
end
end Go.AM
namespace Go.AM
open Go.ChangeShapes Go.WideShapes
section
variable {H:Type}{enc:TypeId × Value→H}{P:Program}{w:World}{sp:Nat→Bool}{held:Bool}
def covC(P:Program)(Ts:List TypeId):Bool:=Ts.all fun t=>match P.underlying t with
 |some .bool=>true
 |some (.int _)=>true
 |some .string=>true
 |some (.slice e)=>decide (0<P.cellsOf e)&&Ts.contains e
 |some (.struct _)=>inRow P (P.cellsOf t) 0 (partsT P t)&&(partsT P t).all fun p=>Ts.contains p.2
 |some (.array _ _)=>inRow P (P.cellsOf t) 0 (partsT P t)&&(partsT P t).all fun p=>Ts.contains p.2
 |_=>false
end
end Go.AM
namespace Go.AM
open Go.ChangeShapes Go.WideShapes
section
variable {P:Program}{c:Nat}{t e:TypeId}{ps:List PV}{a:PV}
theorem Arg_int{k:IntKind}(hu:P.underlying t=some (.int k))(h:Arg P (c+1) t ps): ∃ n,(Lit.int k n).wf=true∧ps=[.sc (.int k n)]:=by
 unfold Arg at h;rw[hu]at h;exact h
theorem Arg_slice(hu:P.underlying t=some (.slice e))(h:Arg P (c+1) t ps): ∃ rows,ps=[.imm (P.cellsOf e) rows]∧rows.length*P.bytesOf e≤reachBytes∧rows.length≤maxLen∧ ∀ r∈rows,r.length=P.cellsOf e∧Arg P c e r:=by
 unfold Arg at h;rw[hu]at h;exact h
theorem Arg_struct{fs:Array Field}(hu:P.underlying t=some (.struct fs))(h:Arg P (c+1) t ps):ps.length=P.cellsOf t∧ ∀ p∈partsT P t,Arg P c p.2 ((ps.drop p.1).take (P.cellsOf p.2)):=by
 unfold Arg at h;rw[hu]at h;exact h
theorem rows_map{α:Type}{Q:α→Prop}{f:α→List PV}:(rows:List (List PV))→(∀ r∈rows, ∃ x,Q x∧r=f x)→ ∃ xs:List α,rows=xs.map f∧ ∀ x∈xs,Q x
 |[],_=>⟨[],rfl,by simp⟩
 |r::rows,h=>by
  obtain⟨xs,h1,h2⟩:=rows_map rows (fun q hq=>h q (by simp[hq]));obtain⟨x,h3,h4⟩:=h r (by simp);refine⟨x::xs,by simp[h1,h4],fun y hy=>?_⟩;rcases List.mem_cons.1 hy with rfl|hy
  ·exact h3
  ·exact h2 y hy
theorem i64_in{n:Int}(h:(Lit.int .i64 n).wf=true): -9223372036854775808≤n∧n≤9223372036854775807:=by
 simp[Lit.wf,IntKind.min,IntKind.max,IntKind.bits,IntKind.signed]at h;omega
end
end Go.AM
namespace Go.Proofs.YtblgchkahpgdjaaGreat
open Go.AM
set_option maxHeartbeats 1000000
set_option maxRecDepth 20000
def recTs:List TypeId:=[67,75,123,9,3,64,22,65,63]
theorem parts57:partsT Tryz.prog 75=[(0,9),(1,9),(2,3),(3,64),(4,65)]:=by kernel_rfl
theorem parts29:partsT Tryz.prog 67=[(0,9),(1,9),(2,64),(3,22),(4,65),(5,63)]:=by kernel_rfl
theorem parts99:partsT Tryz.prog 123=[(0,9),(1,9)]:=by kernel_rfl
theorem co9:Tryz.prog.cellsOf 9=1:=by kernel_rfl
theorem co3:Tryz.prog.cellsOf 3=1:=by kernel_rfl
theorem co24:Tryz.prog.cellsOf 64=1:=by kernel_rfl
theorem co25:Tryz.prog.cellsOf 22=1:=by kernel_rfl
theorem co26:Tryz.prog.cellsOf 65=1:=by kernel_rfl
theorem co27:Tryz.prog.cellsOf 63=1:=by kernel_rfl
theorem co57:Tryz.prog.cellsOf 75=5:=by kernel_rfl
theorem co29:Tryz.prog.cellsOf 67=6:=by kernel_rfl
theorem co99:Tryz.prog.cellsOf 123=2:=by kernel_rfl
theorem by9:0<Tryz.prog.bytesOf 9:=by rw[show Tryz.prog.bytesOf 9=16 by kernel_rfl];omega
theorem by99:0<Tryz.prog.bytesOf 123:=by rw[show Tryz.prog.bytesOf 123=32 by kernel_rfl];omega
theorem by57:0<Tryz.prog.bytesOf 75:=by rw[show Tryz.prog.bytesOf 75=88 by kernel_rfl];omega
theorem by29:0<Tryz.prog.bytesOf 67:=by rw[show Tryz.prog.bytesOf 67=128 by kernel_rfl];omega
theorem len_le{n b:Nat}(h:n*b≤reachBytes)(hb:0<b):n≤bigN:=by
 have:=Nat.le_mul_of_pos_right n hb;unfold reachBytes at h;unfold bigN;omega
theorem arg_str{c:Nat}{ps:List PV}(h:Arg Tryz.prog c 9 ps): ∃ s:ByteArray,s.size≤bigN∧ps=[sPV s]:=by
 cases c with
 |zero=>simp[Arg]at h
 |succ c=>
  unfold Arg at h;rw[Tryz.underlying9]at h;obtain⟨s,h1,h2⟩:=h;exact⟨s,by unfold reachBytes at h1;unfold bigN;omega,h2⟩
theorem arg_i64{c:Nat}{ps:List PV}(h:Arg Tryz.prog c 3 ps): ∃ n:Int,(-9223372036854775808≤n∧n≤9223372036854775807)∧ps=[.sc (.int .i64 n)]:=by
 cases c with
 |zero=>simp[Arg]at h
 |succ c=>
  obtain⟨n,h1,h2⟩:=Arg_int Tryz.underlying3 h;exact⟨n,i64_in h1,h2⟩
theorem arg_strs{c:Nat}{ps:List PV}(h:Arg Tryz.prog c 64 ps): ∃ l:List ByteArray,(l.length≤bigN∧ ∀ a∈l,a.size≤bigN)∧ps=[.imm 1 (strRows l)]:=by
 cases c with
 |zero=>simp[Arg]at h
 |succ c=>
  obtain⟨rows,rfl,h1,_,h2⟩:=Arg_slice Tryz.underlying64 h;obtain⟨xs,rfl,h3⟩:=rows_map (Q:=fun s:ByteArray=>s.size≤bigN) (f:=fun s=>[sPV s]) rows (fun r hr=>arg_str (h2 r hr).2);refine⟨xs,⟨len_le (by simpa using h1) by9,h3⟩,?_⟩;rw[co9];try rfl
theorem arg_pm{c:Nat}{ps:List PV}(h:Arg Tryz.prog c 123 ps): ∃ p:Pm,p.ok∧ps=pmRow p:=by
 cases c with
 |zero=>simp[Arg]at h
 |succ c=>
  obtain⟨h1,h2⟩:=Arg_struct Tryz.underlying123 h;rw[co99]at h1;rw[parts99]at h2
  match ps,h1,h2 with
  |[p0,p1],_,h2=>
   have a0:=h2 (0,9) (by simp);have a1:=h2 (1,9) (by simp);simp only[co9,List.drop_zero,List.drop_succ_cons,List.take_succ_cons,List.take_zero]at a0 a1;obtain⟨s,hs,e1⟩:=arg_str a0;obtain⟨t,ht,e2⟩:=arg_str a1;simp at e1 e2;exact⟨⟨s,t⟩,⟨hs,ht⟩,by simp[pmRow,e1,e2]⟩
theorem arg_pms{c:Nat}{ps:List PV}(h:Arg Tryz.prog c 22 ps): ∃ l:List Pm,(l.length≤bigN∧ ∀ a∈l,a.ok)∧ps=[.imm 2 (pmRows l)]:=by
 cases c with
 |zero=>simp[Arg]at h
 |succ c=>
  obtain⟨rows,rfl,h1,_,h2⟩:=Arg_slice Tryz.underlying22 h;obtain⟨xs,rfl,h3⟩:=rows_map (Q:=Pm.ok) (f:=pmRow) rows (fun r hr=>arg_pm (h2 r hr).2);refine⟨xs,⟨len_le (by simpa using h1) by99,h3⟩,?_⟩;rw[co99];try rfl
theorem arg_ex: ∀ (c:Nat){ps:List PV},Arg Tryz.prog c 75 ps→ ∃ e:Ex,e.ok∧ps=e.cells:=by
 intro c
 induction c using Nat.strongRecOn with
 |_ c ih=>
  intro ps h;cases c with
  |zero=>simp[Arg]at h
  |succ c=>
   obtain⟨h1,h2⟩:=Arg_struct Tryz.underlying75 h;rw[co57]at h1;rw[parts57]at h2
   match ps,h1,h2 with
   |[p0,p1,p2,p3,p4],_,h2=>
    have a0:=h2 (0,9) (by simp);have a1:=h2 (1,9) (by simp);have a2:=h2 (2,3) (by simp);have a3:=h2 (3,64) (by simp);have a4:=h2 (4,65) (by simp);simp only[co9,co3,co24,co26,List.drop_zero,List.drop_succ_cons,List.take_succ_cons,List.take_zero]at a0 a1 a2 a3 a4;obtain⟨op,hop,e0⟩:=arg_str a0;obtain⟨name,hname,e1⟩:=arg_str a1;obtain⟨n,hn,e2⟩:=arg_i64 a2;obtain⟨args,hargs,e3⟩:=arg_strs a3;cases c with
    |zero=>simp[Arg]at a4
    |succ c=>
     obtain⟨rows,e4,h3,_,h4⟩:=Arg_slice Tryz.underlying65 a4;obtain⟨xs,rfl,h5⟩:=rows_map (Q:=Ex.ok) (f:=Ex.cells) rows (fun r hr=>ih c (by omega) (h4 r hr).2);rw[co57]at e4;simp at e0 e1 e2 e3 e4;refine⟨.mk op name n args xs,?_,?_⟩
     ·simp only[Ex.ok];exact⟨hop,hname,hn,hargs,len_le (by simpa using h3) by57,Ex.oks_iff.2 h5⟩
     ·simp only[Ex.cells,e0,e1,e2,e3,e4,Ex.rows_map]
theorem arg_exs{c:Nat}{ps:List PV}(h:Arg Tryz.prog c 65 ps): ∃ l:List Ex,(l.length≤bigN∧Ex.oks l)∧ps=[.imm 5 (Ex.rows l)]:=by
 cases c with
 |zero=>simp[Arg]at h
 |succ c=>
  obtain⟨rows,rfl,h1,_,h2⟩:=Arg_slice Tryz.underlying65 h;obtain⟨xs,rfl,h3⟩:=rows_map (Q:=Ex.ok) (f:=Ex.cells) rows (fun r hr=>arg_ex c (h2 r hr).2);refine⟨xs,⟨len_le (by simpa using h1) by57,Ex.oks_iff.2 h3⟩,?_⟩;rw[co57,Ex.rows_map]
theorem arg_fm: ∀ (c:Nat){ps:List PV},Arg Tryz.prog c 67 ps→ ∃ f:Fm,f.ok∧ps=f.cells:=by
 intro c
 induction c using Nat.strongRecOn with
 |_ c ih=>
  intro ps h;cases c with
  |zero=>simp[Arg]at h
  |succ c=>
   obtain⟨h1,h2⟩:=Arg_struct Tryz.underlying67 h;rw[co29]at h1;rw[parts29]at h2
   match ps,h1,h2 with
   |[p0,p1,p2,p3,p4,p5],_,h2=>
    have a0:=h2 (0,9) (by simp);have a1:=h2 (1,9) (by simp);have a2:=h2 (2,64) (by simp);have a3:=h2 (3,22) (by simp);have a4:=h2 (4,65) (by simp);have a5:=h2 (5,63) (by simp);simp only[co9,co24,co25,co26,co27,List.drop_zero,List.drop_succ_cons,List.take_succ_cons,List.take_zero]at a0 a1 a2 a3 a4 a5;obtain⟨op,hop,e0⟩:=arg_str a0;obtain⟨name,hname,e1⟩:=arg_str a1;obtain⟨args,hargs,e2⟩:=arg_strs a2;obtain⟨params,hparams,e3⟩:=arg_pms a3;obtain⟨exprs,hexprs,e4⟩:=arg_exs a4;cases c with
    |zero=>simp[Arg]at a5
    |succ c=>
     obtain⟨rows,e5,h3,_,h4⟩:=Arg_slice Tryz.underlying63 a5;obtain⟨xs,rfl,h5⟩:=rows_map (Q:=Fm.ok) (f:=Fm.cells) rows (fun r hr=>ih c (by omega) (h4 r hr).2);rw[co29]at e5;simp at e0 e1 e2 e3 e4 e5;refine⟨.mk op name args params exprs xs,?_,?_⟩
     ·simp only[Fm.ok];exact⟨hop,hname,hargs,hparams,hexprs,len_le (by simpa using h3) by29,Fm.oks_iff.2 h5⟩
     ·simp only[Fm.cells,e0,e1,e2,e3,e4,e5,Fm.rows_map]
set_option maxHeartbeats 2000000
theorem rsizeE_c: ∀ (e:Ex),e.ok→ ∀ h:Heap,PCall Tryz.prog 50 [.agg e.cells] h fun r h'=>r= .sc (.int .i64 e.size)∧h'=h:=by
 refine Ex.ind ?_;intro op name n args kids ih hok h;simp only[Ex.ok]at hok;obtain⟨_,_,_,_,hk,hks⟩:=hok;rw[Ex.oks_iff]at hks;have hlen:=Ex.rows_len kids;simp only[Ex.cells,Ex.size];refine uG0 Tryz.func50 Tryz.ntmps50 Tryz.results50 Ty.hb_50 ?_;refine wt hlen ?_;refine a_loop (fun m S h'=>h'=h∧S 1= .cptr (Ex.mk op name n args kids).cells∧ ∃ k:Nat,S 4= .sc (.int .i64 k)∧k≤kids.length∧m=kids.length-k∧S 3= .sc (.int .i64 (Ex.sizes 1 (kids.take k)))) kids.length ?_ ?_
 ·simp only[Ty.w,simprocAttr];exact⟨rfl,0,rfl,by omega,rfl,by simp[Ex.sizes]⟩
 ·rintro m S h' ⟨rfl,g1,k,g4,hkl,rfl,g3⟩;simp only[Ex.cells]at g1;by_cases hlt:k<kids.length
  ·have hd:decide ((k:Int)<(kids.length:Int))=true:=(by simp;omega);have w7:IntKind.i64.wrap ((k:Int)+1)=k+1:=(by unfold bigN at hk;rw[wrap64 (by omega) (by omega)]);obtain⟨e,hx⟩: ∃ e,kids[k]? =some e:=⟨_,List.getElem?_eq_getElem hlt⟩;have hmem:=List.mem_of_getElem? hx;have hc:=ih e hmem (hks e hmem);have hsz:=Ex.sizes_take 1 hx;have hr:=Ex.rows_get hx;obtain⟨op2,name2,n2,args2,kids2⟩:=e;simp only[Ex.cells]at hr hc;replace zz:=uu7 g1 g3 g4 hlen hd hr w7;refine wt zz ?_;replace zz:=uu6 g1 g3 g4 hlen hd hr;refine uU zz (hc _) ?_;replace zz:=uu4 g1 g3 g4 w7;refine wt zz ?_;exact⟨kids.length-(k+1),by omega,rfl,k+1,by simp,by omega,rfl,by rw[hsz]⟩
  ·have hd:decide ((k:Int)<(kids.length:Int))=false:=(by simp;omega);have hke:k=kids.length:=(by omega);subst hke;rw[List.take_length]at g3;replace zz:=uu5 g1 g3 g4 hlen hd;exact wz zz
theorem rsize_c: ∀ (f:Fm),f.ok→ ∀ h:Heap,PCall Tryz.prog 31 [.agg f.cells] h fun r h'=>r= .sc (.int .i64 f.size)∧h'=h:=by
 refine Fm.ind ?_;intro op name args params exprs kids ih hok h;simp only[Fm.ok]at hok;obtain⟨_,_,_,_,⟨he,hes⟩,hk,hks⟩:=hok;rw[Ex.oks_iff]at hes;rw[Fm.oks_iff]at hks;have hlen:=Fm.rows_len kids;have hlene:=Ex.rows_len exprs;simp only[Fm.cells,Fm.size];refine uG0 Tryz.func31 Tryz.ntmps31 Tryz.results31 Ty.hb_31 ?_;refine wt hlen ?_;refine a_loop (fun m S h'=>h'=h∧S 1= .cptr (Fm.mk op name args params exprs kids).cells∧ ∃ k:Nat,S 4= .sc (.int .i64 k)∧k≤exprs.length∧m=exprs.length-k∧S 3= .sc (.int .i64 (Ex.sizes 1 (exprs.take k)))) exprs.length ?_ ?_
 ·simp only[Ty.w,simprocAttr];exact⟨rfl,0,rfl,by omega,rfl,by simp[Ex.sizes]⟩
 ·rintro m S h' ⟨rfl,g1,k,g4,hkl,rfl,g3⟩;simp only[Fm.cells]at g1;by_cases hlt:k<exprs.length
  ·have hd:decide ((k:Int)<(exprs.length:Int))=true:=(by simp;omega);have w7:IntKind.i64.wrap ((k:Int)+1)=k+1:=(by unfold bigN at he;rw[wrap64 (by omega) (by omega)]);obtain⟨e,hx⟩: ∃ e,exprs[k]? =some e:=⟨_,List.getElem?_eq_getElem hlt⟩;have hmem:=List.mem_of_getElem? hx;have hc:=rsizeE_c e (hes e hmem);have hsz:=Ex.sizes_take 1 hx;have hr:=Ex.rows_get hx;obtain⟨op2,name2,n2,args2,kids2⟩:=e;simp only[Ex.cells]at hr hc;replace zz:=uu7 g1 g3 g4 hlene hd hr w7;refine wt zz ?_;replace zz:=uu6 g1 g3 g4 hlene hd hr;refine uU zz (hc _) ?_;replace zz:=uu4 g1 g3 g4 w7;refine wt zz ?_;exact⟨exprs.length-(k+1),by omega,by simp only[Fm.cells],k+1,by simp,by omega,rfl,by rw[hsz]⟩
  ·have hd:decide ((k:Int)<(exprs.length:Int))=false:=(by simp;omega);have hke:k=exprs.length:=(by omega);subst hke;rw[List.take_length]at g3;replace zz:=uu5 g1 g3 g4 hlene hd;refine wt zz ?_;refine a_loop (fun m S h2=>h2=h'∧S 1= .cptr (Fm.mk op name args params exprs kids).cells∧ ∃ k:Nat,S 5= .sc (.int .i64 k)∧k≤kids.length∧m=kids.length-k∧S 3= .sc (.int .i64 (Fm.sizes (Ex.sizes 1 exprs) (kids.take k)))) kids.length ?_ ?_
   ·simp only[Ty.w,simprocAttr,g1,g3];exact⟨by simp only[Fm.cells],0,rfl,by omega,rfl,by simp[Fm.sizes]⟩
   ·(try clear zz);clear g1 g3 g4;rintro m S h' ⟨rfl,g1,k,g5,hkl,rfl,g3⟩;simp only[Fm.cells]at g1;by_cases hlt:k<kids.length
    ·have hd:decide ((k:Int)<(kids.length:Int))=true:=(by simp;omega);have w7:IntKind.i64.wrap ((k:Int)+1)=k+1:=(by unfold bigN at hk;rw[wrap64 (by omega) (by omega)]);obtain⟨e,hx⟩: ∃ e,kids[k]? =some e:=⟨_,List.getElem?_eq_getElem hlt⟩;have hmem:=List.mem_of_getElem? hx;have hc:=ih e hmem (hks e hmem);have hsz:=Fm.sizes_take (Ex.sizes 1 exprs) hx;have hr:=Fm.rows_get hx;obtain⟨op2,name2,args2,params2,exprs2,kids2⟩:=e;simp only[Fm.cells]at hr hc;replace zz:=uu7 g1 g3 g5 hlen hd hr w7;refine wt zz ?_;replace zz:=uu6 g1 g3 g5 hlen hd hr;refine uU zz (hc _) ?_;replace zz:=uu4 g1 g3 g5 w7;refine wt zz ?_;exact⟨kids.length-(k+1),by omega,by simp only[Fm.cells],k+1,by simp,by omega,rfl,by rw[hsz]⟩
    ·have hd:decide ((k:Int)<(kids.length:Int))=false:=(by simp;omega);have hke:k=kids.length:=(by omega);subst hke;rw[List.take_length]at g3;replace zz:=uu5 g1 g3 g5 hlen hd;exact wz zz
theorem bEq_refl(a:ByteArray):bEq a a=true:=by simp[bEq]
end Go.Proofs.YtblgchkahpgdjaaGreat
namespace Go.AM
def nil1(q p:PV):Prop:=q=p∨(q= .sc (.slice none 0 0)∧ ∃ z,p= .imm z [])
def nilL:List PV→List PV→Prop
 |[],[]=>True
 |q::qs,p::ps=>nil1 q p∧nilL qs ps
 |_,_=>False
theorem Rep.nil1{β:Env}{n:Nat}{F:Nat→Prop}{w:World}{q p:PV}{x:Value}(hq:nil1 q p)(h:Rep β n F w q x):Rep β n F w p x:=by
 rcases hq with rfl|⟨rfl,z,rfl⟩
 ·exact h
 ·simp only[Rep]at h⊢;exact⟨none,0,h,Nat.le_refl _,Nat.zero_le _,.inl (by trivial)⟩
theorem RepL.nilL{β:Env}{n:Nat}{F:Nat→Prop}{w:World}: ∀ {qs ps:List PV}{xs:List Value},nilL qs ps→RepL β n F w qs xs→RepL β n F w ps xs
 |[],[],[],_,_=>by simp only[RepL]
 |[],[],_::_,_,h=>by simp[RepL]at h
 |q::qs,p::ps,[],_,h=>by simp[RepL]at h
 |q::qs,p::ps,x::xs,hq,h=>by
  simp only[Go.AM.nilL]at hq;simp only[RepL]at h⊢;exact⟨Rep.nil1 hq.1 h.1,RepL.nilL hq.2 h.2⟩
 |[],_::_,_,hq,_=>by simp[Go.AM.nilL]at hq
 |_::_,[],_,hq,_=>by simp[Go.AM.nilL]at hq
theorem PCall.nil2{P:Program}{f:FuncId}{a a' b b':List PV}{h:Heap}{K:PV→Heap→Prop}(ha:nilL a' a)(hb:nilL b' b)(hc:PCall P f [.agg a,.agg b] h K):PCall P f [.agg a',.agg b'] h K:=by
 intro β w vals sm hr;refine hc β w vals sm ?_
 match vals,hr with
 |[x,y],hr=>
  simp only[RepL,Rep]at hr⊢;obtain⟨⟨xs,h1,h2,h3⟩,⟨ys,k1,k2,k3⟩,_⟩:=hr;exact⟨⟨xs,h1,h2,RepL.nilL ha h3⟩,⟨ys,k1,k2,RepL.nilL hb k3⟩,trivial⟩
end Go.AM
namespace Go.Proofs.YtblgchkahpgdjaaGreat
open Go.AM
set_option maxHeartbeats 4000000
set_option maxRecDepth 20000
theorem dsameE_c{a b:Ex}(ha:a.ok)(hb:b.ok)(h:Heap):PCall Tryz.prog 145 [.agg a.cells,.agg b.cells] h fun r h'=>r= .sc (.bool (a.same b))∧h'=h:=by
 have ok1: ∀ e:Ex,e.ok→(Fm.mk ⟨#[]⟩ ⟨#[]⟩ [] [] [e] []).ok:=fun e he=>by
  simp only[Fm.ok,Fm.oks,Ex.oks,List.length_nil,List.length_cons];exact⟨by simp[bigN,ByteArray.size],by simp[bigN,ByteArray.size],⟨by simp,by simp⟩,⟨by simp,by simp⟩,⟨by simp[bigN],he,trivial⟩,by simp,trivial⟩
 have hc:=fun h:Heap=>fsame_c _ (ok1 a ha) _ (ok1 b hb) h;have hs:(Fm.mk ⟨#[]⟩ ⟨#[]⟩ [] [] [a] []).same (.mk ⟨#[]⟩ ⟨#[]⟩ [] [] [b] [])=a.same b:=by simp[Fm.same,Fm.sames,Ex.sames,bEq,bsEq,pmsEq]
 rw[hs]at hc;generalize a.same b=e at hc⊢;have hc2:=fun h:Heap=>PCall.nil2 (a':=[.sc (.string ⟨#[]⟩),.sc (.string ⟨#[]⟩),.sc (.slice none 0 0),.sc (.slice none 0 0),.imm 5 [a.cells],.sc (.slice none 0 0)]) (b':=[.sc (.string ⟨#[]⟩),.sc (.string ⟨#[]⟩),.sc (.slice none 0 0),.sc (.slice none 0 0),.imm 5 [b.cells],.sc (.slice none 0 0)]) (by
  simp only[Fm.cells,Ex.rows,Fm.rows,strRows,pmRows,List.map_nil,nilL];exact⟨.inl rfl,.inl rfl,.inr ⟨rfl,_,rfl⟩,.inr ⟨rfl,_,rfl⟩,.inl rfl,.inr ⟨rfl,_,rfl⟩,trivial⟩) (by
  simp only[Fm.cells,Ex.rows,Fm.rows,strRows,pmRows,List.map_nil,nilL];exact⟨.inl rfl,.inl rfl,.inr ⟨rfl,_,rfl⟩,.inr ⟨rfl,_,rfl⟩,.inl rfl,.inr ⟨rfl,_,rfl⟩,trivial⟩) (hc h)
 try clear zz
 clear ok1 ha hb hc hs;obtain⟨op,name,n,args,kids⟩:=a;obtain⟨op2,name2,n2,args2,kids2⟩:=b;simp only[Ex.cells]at hc2⊢;refine uG0 Tryz.func145 Tryz.ntmps145 Tryz.results145 Ty.hb_145 ?_;refine wt trivial ?_;refine uU trivial (hc2 _) ?_;exact wz trivial
set_option maxHeartbeats 8000000
abbrev sxZd:List PV:=[.sc (.int .i64 0),.sc (.int .i64 0),.sc (.int .i64 0),.sc (.int .i64 0),.sc (.string ⟨#[]⟩),.sc (.slice none 0 0)]
structure ChI(h:Heap)(id:Nat)(b:Bool)(x:Sx)(H:Heap):Prop where
 grow:GrowX h id (wO b) H
 nx:h.next+2≤H.next
 res:H.obj h.next=some (.arr 6 [sxZd])
 at_:H.obj (h.next+1)=some (.arr 6 [x.cells])
theorem ChI.put{h H:Heap}{id:Nat}{b b2:Bool}{x:Sx}(i:ChI h id b x H)(hid:id<h.next):ChI h id b2 x (H.set id (wO b2)):=by
 refine⟨i.grow.put,i.nx,?_,?_⟩
 ·simp only[Heap.set];rw[if_neg (by omega)];exact i.res
 ·simp only[Heap.set];rw[if_neg (by omega)];exact i.at_
theorem ChI.upd{h H:Heap}{id:Nat}{b:Bool}{x y:Sx}(i:ChI h id b x H)(hid:id<h.next):ChI h id b y (H.set (h.next+1) (.arr 6 [y.cells])):=by
 refine⟨i.grow.set hid (by omega),i.nx,?_,?_⟩
 ·simp only[Heap.set];rw[if_neg (by omega)];exact i.res
 ·simp only[Heap.set,if_true]
theorem ChI.new{h H:Heap}{id:Nat}{b:Bool}{x:Sx}{o:AObj}(i:ChI h id b x H)(hid:id<h.next):ChI h id b x (H.new o):=by
 have:=i.nx;refine⟨i.grow.new hid,by simp only[Heap.new];omega,?_,?_⟩
 ·simp only[Heap.new];rw[if_neg (by omega)];exact i.res
 ·simp only[Heap.new];rw[if_neg (by omega)];exact i.at_
theorem ChI.hi{h H:Heap}{id j:Nat}{b:Bool}{x:Sx}{o:AObj}(i:ChI h id b x H)(hid:id<h.next)(hj:h.next+2≤j):ChI h id b x (H.set j o):=by
 refine⟨i.grow.set hid (by omega),i.nx,?_,?_⟩
 ·simp only[Heap.set];rw[if_neg (by omega)];exact i.res
 ·simp only[Heap.set];rw[if_neg (by omega)];exact i.at_
structure ChSm(c:Ch):Prop where
 cond:c.cond.small
 value:c.value.small
 params:c.params.length≤1048576
 args:c.args.length≤1048576
def kindB(c:Ch):Bool:=bif c.kind==1||c.kind==2 then c.value.same zeroEx else(bif c.kind==3||c.kind==4||c.kind==5 then validE c.value else false)
theorem nilL_refl: ∀ l:List PV,nilL l l
 |[]=>by simp[nilL]
 |p::l=>by simp only[nilL];exact⟨.inl rfl,nilL_refl l⟩
theorem andFm_ok:andFm.ok:=(fm_mk_ok (by decide) (by decide) (by simp) (by simp) (by simp) (by simp) (by simp) (by simp) (by simp) (by simp)).1
theorem wchange_c{h:Heap}{id:Nat}{b:Bool}{c:Ch}(hok:c.ok)(hsm:ChSm c)(hid:id<h.next)(ho:h.obj id=some (wO b)):
  PCall Tryz.prog 107 [.ptr id 0 0,.agg (chRow c)] h fun r h'=>r= .agg (chX c).cells∧h'=h.set id (wO (b||!chB c)):=by
 refine PCall.frzX Ty.hb_107 ho (wO_in _ _) ?_;obtain⟨kind,params,cond,name,args,value⟩:=c;have hns:name.size≤9223372036854775807:=by have:=hok.name;unfold bigN at this;simp only at this;omega
 have hchB:chB ⟨kind,params,cond,name,args,value⟩=((nameB name&&args.all termB)&&kindB ⟨kind,params,cond,name,args,value⟩&&(isAlw cond||validF cond)&&params.all (parB true)):=rfl;have hX2:chX ⟨kind,params,cond,name,args,value⟩=(bif params.isEmpty then ch2 ⟨kind,params,cond,name,args,value⟩else listM [wordM opAll,listM (paramsW params),ch2 ⟨kind,params,cond,name,args,value⟩]):=rfl;have hX1:ch2 ⟨kind,params,cond,name,args,value⟩=(bif isAlw cond then ch1 ⟨kind,params,cond,name,args,value⟩else listM [wordM opWhen,fmX cond,ch1 ⟨kind,params,cond,name,args,value⟩]):=rfl;have hX0:ch1 ⟨kind,params,cond,name,args,value⟩=(bif kind==1 then wordsM name args else bif kind==2 then listM [wordM opNot,wordsM name args]
  else bif kind==3||kind==4||kind==5 then listM [wordM (kwK kind),wordsM name args,exX value]else wordsM name args):=rfl
 have hK0:kindB ⟨kind,params,cond,name,args,value⟩=(bif kind==1||kind==2 then value.same zeroEx else(bif kind==3||kind==4||kind==5 then validE value else false)):=rfl;rw[hchB];have c0:=fun(z:AObj)=>watom_c (h:=h.new z) (b:=b) (first:=name) (l:=args) hns hsm.args hok.args.2 (show id<h.next+1 by omega) ((obj_new hid).trans ho);have hvs:=fun(h:Heap)=>PCall.nil2 (nilL_refl _) (b':=[.sc (.string ⟨#[]⟩),.sc (.string ⟨#[]⟩),.sc (.int .i64 0),.sc (.slice none 0 0),.sc (.slice none 0 0)]) (by
  simp only[zeroEx,Ex.cells,Ex.rows,strRows,List.map_nil,nilL];exact⟨.inl rfl,.inl rfl,.inl rfl,.inr ⟨rfl,_,rfl⟩,.inr ⟨rfl,_,rfl⟩,trivial⟩) (dsameE_c (a:=value) (b:=zeroEx) hok.value zeroEx_ok.1 h)
 have hWE:=fun h:Heap=>WriteExpr_c hok.value hsm.value h;have hXE:(if validE value then(PV.tup [.agg (exW value).cells,.sc .nilIface])else .tup [.agg zeroSx.cells,errV 2])= .tup [.agg (exX value).cells,if validE value then .sc .nilIface else errV 2]:=by
  unfold exX;cases validE value<;>rfl
 simp only at hWE;rw[hXE]at hWE;have hSame:=fun h:Heap=>fsame_c cond hok.cond andFm andFm_ok h;have hAl:cond.same andFm=isAlw cond:=rfl;rw[hAl]at hSame;have hWF:=fun(h':Heap)(b':Bool)(hid':id<h'.next)(ho':h'.obj id=some (wO b'))=>wformula_c (f:=cond) hok.cond hsm.cond hid' ho';have hWP:=fun(h':Heap)(b':Bool)(hid':id<h'.next)(ho':h'.obj id=some (wO b'))=>wparams_c (vars:=true) (l:=params) hsm.params hok.params.2 hid' ho';have hw: ∀ (s:ByteArray)(h:Heap),PCall Tryz.prog 40 [sPV s] h fun r h'=>r= .agg (wordM s).cells∧h'=h:=fun s h=>dword_c;have hpl:=pmRows_len params;have hpb0:params.isEmpty=true→params.all (parB true)=true:=by cases params<;>simp
 have hpe:params.isEmpty=decide (params.length=0):=by cases params<;>simp
 try clear zz
 clear hok hsm;generalize chX ⟨kind,params,cond,name,args,value⟩=R2 at hX2⊢;generalize ch2 ⟨kind,params,cond,name,args,value⟩=R1 at hX1 hX2;generalize ch1 ⟨kind,params,cond,name,args,value⟩=R0 at hX0 hX1;generalize kindB ⟨kind,params,cond,name,args,value⟩=kB at hK0⊢;generalize(nameB name&&args.all termB)=a1 at c0⊢;generalize value.same zeroEx=vs at hvs hK0;generalize validE value=ve at hWE hK0;generalize exX value=eX at hWE hX0;generalize isAlw cond=al at hSame hX1⊢;generalize validF cond=vf at hWF⊢;generalize fmX cond=fX at hWF hX1;generalize paramsW params=pw at hWP hX2;generalize params.all (parB true)=pb at hWP hpb0⊢;generalize wordsM name args=X0 at c0 hX0;obtain⟨gop,gna,gar,gpa,gex,gki⟩:=cond;obtain⟨eop,ena,en,ear,eki⟩:=value;generalize hF:(b||!(a1&&kB&&(al||vf)&&pb))=F;simp only[chRow,Fm.cells,Ex.cells,List.cons_append,List.nil_append,wordM,Sx.cells,Sx.rows,andFm]at hw c0 hvs hWE hWF hSame⊢;obtain⟨xk,xv,xl,xc,xt,xs⟩:=X0;simp only[Sx.cells]at c0;refine uG (ow:=fun _=>false) (wf:=fun f=>f==100||f==43) Tryz.func107 Tryz.ntmps107 Tryz.results107 Ty.hb_107 ?_;refine wt trivial ?_;refine owp_useH (c0 _) (by(try simp only[Ty.w,simprocAttr,ho]);try rfl) ?_;simp(maxSteps:=2000000) only[Ty.w,simprocAttr,ho];refine xH 2 ho ?_;refine⟨?_⟩;refine a_genX (fun S H=>S 0= .ptr id 0 0∧S 3= .cptr [.sc (.int .i64 kind),.imm 2 (pmRows params),sPV gop,sPV gna,.imm 1 (strRows gar),.imm 2 (pmRows gpa),.imm 5 (Ex.rows gex),.imm 6 (Fm.rows gki),sPV name,.imm 1 (strRows args),sPV eop,sPV ena,.sc (.int .i64 en),.imm 1 (strRows ear),.imm 5 (Ex.rows eki)]∧S 4= .ptr h.next 0 0∧S 5= .ptr (h.next+1) 0 0∧ChI h id (b||!a1) (.mk xk xv xl xc xt xs) H) ⟨by simp only[Ty.w,simprocAttr],by simp only[Ty.w,simprocAttr],by simp only[Ty.w,simprocAttr],by simp only[Ty.w,simprocAttr],?_⟩ ?_
 ·refine ⟨?_,by simp only[Heap.set,Heap.new];omega,?_,?_⟩
  ·exact ((((GrowX.refl ho).new hid).put).new hid).set hid (by omega)
  ·simp only[Heap.set,Heap.new];repeat(first|rw[if_neg (by omega)]|rw[if_pos trivial])
  ·simp only[Heap.set,Heap.new,Sx.cells];repeat(first|rw[if_neg (by omega)]|rw[if_pos trivial])
 try clear zz
 clear c0;rintro S H ⟨s0,s3,s4,s5,hI⟩;refine a_cut (fun S H=>S 0= .ptr id 0 0∧S 3= .cptr [.sc (.int .i64 kind),.imm 2 (pmRows params),sPV gop,sPV gna,.imm 1 (strRows gar),.imm 2 (pmRows gpa),.imm 5 (Ex.rows gex),.imm 6 (Fm.rows gki),sPV name,.imm 1 (strRows args),sPV eop,sPV ena,.sc (.int .i64 en),.imm 1 (strRows ear),.imm 5 (Ex.rows eki)]∧S 4= .ptr h.next 0 0∧S 5= .ptr (h.next+1) 0 0∧ ∃ b1,ChI h id b1 R0 H∧b1=(b||!(a1&&kB))) ?_ ?_
 ·try clear zz
  clear hX1 hX2 hF hSame hWF hWP;have stepK: ∀ b1:Bool,b1=((b||!a1)||!kB)→b1=(b||!(a1&&kB)):=fun b1 e=>by
   rw[e];cases b<;>cases a1<;>cases kB<;>rfl
  generalize(b||!a1)=b0 at hI stepK;have hnx:=hI.nx;cases k12:(kind==1||kind==2)with
  |true=>
   have hKv:kB=vs:=(by rw[hK0,k12,cond_true]);subst hKv;(try clear zz);clear hK0;cases k1:(kind==1)with
   |true=>
    have k2:(kind==2)=false:=(by have:=eq_of_beq k1;subst this;rfl);rw[k1,cond_true]at hX0;subst hX0;have hno:=hI.grow.at_;cases b0 with
    |true=>
     replace zz:=uu7 s0 s3 s4 s5 k1 k2 hno;refine wt zz ?_;first
      |exact⟨true,hI.put hid,stepK _ (by simp)⟩
      |exact⟨by simp only[Ty.w,simprocAttr,s0],by simp only[Ty.w,simprocAttr,s3],by simp only[Ty.w,simprocAttr,s4],by simp only[Ty.w,simprocAttr,s5],true,hI.put hid,stepK _ (by simp)⟩
    |false=>
     replace zz:=uu7 s0 s3 s4 s5 k1 k2 hno;refine wt zz ?_;replace zz:=uu5 s0 s3 s4 s5 hno;refine uU zz (hvs _) ?_;replace zz:=uu7 s0 s3 s4 s5 k1 k2 hno;refine wt zz ?_;first
      |exact⟨_,hI.put hid,stepK _ (by simp)⟩
      |exact⟨by simp only[Ty.w,simprocAttr,s0],by simp only[Ty.w,simprocAttr,s3],by simp only[Ty.w,simprocAttr,s4],by simp only[Ty.w,simprocAttr,s5],_,hI.put hid,stepK _ (by simp)⟩
   |false=>
    have k2:(kind==2)=true:=(by rw[k1,Bool.false_or]at k12;exact k12);rw[k1,k2,cond_false,cond_true]at hX0;subst hX0;have hl2:=fun h:Heap=>dlistS_c [wordM opNot,.mk xk xv xl xc xt xs] h;simp only[wordM,opNot,listM,Sx.cells,Sx.rows]at hl2;replace zz:=uu6 s0 s3 s4 s5 k1 k2;refine xB 6 zz ?_;refine⟨?_⟩;refine a_cutK (fun S H=>S 0= .ptr id 0 0∧S 3= .cptr [.sc (.int .i64 kind),.imm 2 (pmRows params),sPV gop,sPV gna,.imm 1 (strRows gar),.imm 2 (pmRows gpa),.imm 5 (Ex.rows gex),.imm 6 (Fm.rows gki),sPV name,.imm 1 (strRows args),sPV eop,sPV ena,.sc (.int .i64 en),.imm 1 (strRows ear),.imm 5 (Ex.rows eki)]∧S 4= .ptr h.next 0 0∧S 5= .ptr (h.next+1) 0 0∧ ∃ b1,ChI h id b1 (.mk xk xv xl xc xt xs) H∧b1=(b0||!kB)) ?_ ?_
    ·have hno:=hI.grow.at_;cases b0 with
     |true=>
      replace zz:=uu7 s0 s3 s4 s5 k1 k2 hno;refine wt zz ?_;first
       |exact⟨true,hI.put hid,by simp⟩
       |exact⟨by simp only[Ty.w,simprocAttr,s0],by simp only[Ty.w,simprocAttr,s3],by simp only[Ty.w,simprocAttr,s4],by simp only[Ty.w,simprocAttr,s5],true,hI.put hid,by simp⟩
     |false=>
      replace zz:=uu7 s0 s3 s4 s5 k1 k2 hno;refine wt zz ?_;replace zz:=uu5 s0 s3 s4 s5 hno;refine uU zz (hvs _) ?_;replace zz:=uu7 s0 s3 s4 s5 k1 k2 hno;refine wt zz ?_;first
       |exact⟨_,hI.put hid,by simp⟩
       |exact⟨by simp only[Ty.w,simprocAttr,s0],by simp only[Ty.w,simprocAttr,s3],by simp only[Ty.w,simprocAttr,s4],by simp only[Ty.w,simprocAttr,s5],_,hI.put hid,by simp⟩
    ·(try clear zz);clear s0 s3 s4 s5 hI hnx hvs;rintro S H ⟨s0,s3,s4,s5,b1,hI,hb1⟩;(first|refine hK _ _ ?_|refine cK ?_);(try clear hK);have hat:=hI.at_;simp only[Sx.cells]at hat;replace zz:=uu7 s0 s3 s4 s5 k1 k2 hat;refine wy zz ?_;replace zz:=uu5 s0 s3 s4 s5 hat;(first|refine uV zz (hw _ _) ?_|refine uA zz (hw _ _) ?_);refine wy zz ?_;replace zz:=uu5 s0 s3 s4 s5 hat;(first|refine uV zz (hl2 _) ?_|refine uA zz (hl2 _) ?_);refine wy zz ?_;first
      |exact⟨b1,hI.upd hid,stepK _ hb1⟩
      |exact⟨by simp only[Ty.w,simprocAttr,s0],by simp only[Ty.w,simprocAttr,s3],by simp only[Ty.w,simprocAttr,s4],by simp only[Ty.w,simprocAttr,s5],b1,hI.upd hid,stepK _ hb1⟩
  |false=>
   have k1:(kind==1)=false:=(by revert k12;cases(kind==1)<;>simp);have k2:(kind==2)=false:=(by revert k12;cases(kind==2)<;>simp);rw[k1,k2,cond_false,cond_false]at hX0;rw[k12,cond_false]at hK0;(try clear zz);clear hvs k12;cases k345:(kind==3||kind==4||kind==5)with
   |false=>
    have k3:(kind==3)=false:=(by revert k345;cases(kind==3)<;>simp);have k4:(kind==4)=false:=(by revert k345;cases(kind==4)<;>simp);have k5:(kind==5)=false:=(by revert k345;cases(kind==5)<;>simp);rw[k345,cond_false]at hX0 hK0;subst hX0 hK0;have hno:=hI.grow.at_;replace zz:=uu10 s0 s3 s4 s5 k1 k2 k3 k4 k5 hno;refine wt zz ?_;first
     |exact⟨true,hI.put hid,stepK _ (by simp)⟩
     |exact⟨by simp only[Ty.w,simprocAttr,s0],by simp only[Ty.w,simprocAttr,s3],by simp only[Ty.w,simprocAttr,s4],by simp only[Ty.w,simprocAttr,s5],true,hI.put hid,stepK _ (by simp)⟩
   |true=>
    rw[k345,cond_true]at hX0 hK0;subst hX0 hK0;obtain⟨ev,hev⟩: ∃ ev,ev=(if kB=true then PV.sc .nilIface else errV 2):=⟨_,rfl⟩;rw[← hev]at hWE;have hk:kind=3∨kind=4∨kind=5:=(by simpa[or_assoc]using k345);(try clear zz);clear k345 k1 k2;obtain⟨ek,ea,el,ec,et,es⟩:=eX;simp only[Sx.cells]at hWE;rcases hk with rfl|rfl|rfl
    ·have k1:((3:Int)==1)=false:=rfl;have k2:((3:Int)==2)=false:=rfl;have k3:((3:Int)==3)=true:=rfl;have k4:((3:Int)==4)=false:=rfl;have k5:((3:Int)==5)=false:=rfl;have kw:kwK 3=opAsg:=rfl;have wi:IntKind.i64.wrap ((3:Int)-3)=0:=rfl;have wj:IntKind.i64.wrap 0=0:=rfl;have hl3:=fun h:Heap=>dlistS_c [wordM opAsg,.mk xk xv xl xc xt xs,.mk ek ea el ec et es] h;simp only[wordM,opAsg,listM,Sx.cells,Sx.rows]at hl3;replace zz:=uu9 s0 s3 s4 s5 k1 k2 k3 k4 k5;refine wt zz ?_;replace zz:=uu4 s0 s3 s4 s5;refine uU zz (hWE _) ?_;replace zz:=uu5 s0 s3 s4 s5 @nsucc;refine xB 13 zz ?_;refine⟨?_⟩;refine a_genX (fun S H2=>S 0= .ptr id 0 0∧S 3= .cptr [.sc (.int .i64 3),.imm 2 (pmRows params),sPV gop,sPV gna,.imm 1 (strRows gar),.imm 2 (pmRows gpa),.imm 5 (Ex.rows gex),.imm 6 (Fm.rows gki),sPV name,.imm 1 (strRows args),sPV eop,sPV ena,.sc (.int .i64 en),.imm 1 (strRows ear),.imm 5 (Ex.rows eki)]∧S 4= .ptr h.next 0 0∧S 5= .ptr (h.next+1) 0 0∧S 6= .ptr H.next 0 0∧S 7=ev∧ChI h id b0 (.mk xk xv xl xc xt xs) H2∧H2.obj H.next=some (.arr 6 [[.sc (.int .i64 ek),.sc (.int .i64 ea),.sc (.int .i64 el),.sc (.int .i64 ec),sPV et,.imm 6 (Sx.rows es)]])) ⟨by simp only[Ty.w,simprocAttr,s0],by simp only[Ty.w,simprocAttr,s3],by simp only[Ty.w,simprocAttr,s4],by simp only[Ty.w,simprocAttr,s5],by simp only[Ty.w,simprocAttr],by simp only[Ty.w,simprocAttr],(hI.new hid).hi hid hnx,by simp only[Heap.set,if_true]⟩ ?_;obtain⟨j,hj⟩: ∃ j,j=H.next:=⟨_,rfl⟩
     rw[← hj]at hnx;(try clear zz);clear s0 s3 s4 s5 hI hWE;rw[← hj];(try clear zz);clear hj;rintro S H2 ⟨s0,s3,s4,s5,s6,s7,hI,hej⟩;refine a_cutK (fun S H2=>S 0= .ptr id 0 0∧S 3= .cptr [.sc (.int .i64 3),.imm 2 (pmRows params),sPV gop,sPV gna,.imm 1 (strRows gar),.imm 2 (pmRows gpa),.imm 5 (Ex.rows gex),.imm 6 (Fm.rows gki),sPV name,.imm 1 (strRows args),sPV eop,sPV ena,.sc (.int .i64 en),.imm 1 (strRows ear),.imm 5 (Ex.rows eki)]∧S 4= .ptr h.next 0 0∧S 5= .ptr (h.next+1) 0 0∧S 6= .ptr j 0 0∧H2.obj j=some (.arr 6 [[.sc (.int .i64 ek),.sc (.int .i64 ea),.sc (.int .i64 el),.sc (.int .i64 ec),sPV et,.imm 6 (Sx.rows es)]])∧ ∃ b1,ChI h id b1 (.mk xk xv xl xc xt xs) H2∧b1=(b0||!kB)) ?_ ?_
     ·have hno:=hI.grow.at_;have hej2: ∀ b1,(H2.set id (wO b1)).obj j=some (.arr 6 [[.sc (.int .i64 ek),.sc (.int .i64 ea),.sc (.int .i64 el),.sc (.int .i64 ec),sPV et,.imm 6 (Sx.rows es)]]):=fun b1=>by
       simp only[Heap.set];rw[if_neg (by omega)];exact hej
      cases b0 with
      |true=>
       replace zz:=uu7 s0 s3 s4 s5 s6 s7 hno;refine wt zz ?_;first
        |exact⟨hej2 _,true,hI.put hid,by simp⟩
        |exact⟨by simp only[Ty.w,simprocAttr,s0],by simp only[Ty.w,simprocAttr,s3],by simp only[Ty.w,simprocAttr,s4],by simp only[Ty.w,simprocAttr,s5],by simp only[Ty.w,simprocAttr,s6],hej2 _,true,hI.put hid,by simp⟩
      |false=>
       cases kB with
       |true=>
        simp only[if_true]at hev;subst hev;replace zz:=uu7 s0 s3 s4 s5 s6 s7 hno;refine wt zz ?_;exact⟨hej2 _,_,hI.put hid,by simp⟩
       |false=>
        simp only[Bool.false_eq_true,if_false,errV]at hev;subst hev;replace zz:=uu7 s0 s3 s4 s5 s6 s7 hno;refine wt zz ?_;exact⟨hej2 _,_,hI.put hid,by simp⟩
     ·(try clear zz);clear s0 s3 s4 s5 s6 s7 hI hej;rintro S H3 ⟨s0,s3,s4,s5,s6,hej,b1,hI,hb1⟩;(first|refine hK _ _ ?_|refine cK ?_);(try clear hK);have hat:=hI.at_;simp only[Sx.cells]at hat;replace zz:=uu9 s0 s3 s4 s5 s6 hat hej wi wj;refine wy zz ?_;replace zz:=uu7 s0 s3 s4 s5 s6 hat hej;(first|refine uV zz (hw _ _) ?_|refine uA zz (hw _ _) ?_);refine wy zz ?_;replace zz:=uu7 s0 s3 s4 s5 s6 hat hej;(first|refine uV zz (hl3 _) ?_|refine uA zz (hl3 _) ?_);refine wy zz ?_;first
       |exact⟨b1,hI.upd hid,stepK _ hb1⟩
       |exact⟨by simp only[Ty.w,simprocAttr,s0],by simp only[Ty.w,simprocAttr,s3],by simp only[Ty.w,simprocAttr,s4],by simp only[Ty.w,simprocAttr,s5],b1,hI.upd hid,stepK _ hb1⟩
    ·have k1:((4:Int)==1)=false:=rfl;have k2:((4:Int)==2)=false:=rfl;have k3:((4:Int)==3)=false:=rfl;have k4:((4:Int)==4)=true:=rfl;have k5:((4:Int)==5)=false:=rfl;have kw:kwK 4=opInc:=rfl;have wi:IntKind.i64.wrap ((4:Int)-3)=1:=rfl;have wj:IntKind.i64.wrap 1=1:=rfl;have hl3:=fun h:Heap=>dlistS_c [wordM opInc,.mk xk xv xl xc xt xs,.mk ek ea el ec et es] h;simp only[wordM,opInc,listM,Sx.cells,Sx.rows]at hl3;replace zz:=uu9 s0 s3 s4 s5 k1 k2 k3 k4 k5;refine wt zz ?_;replace zz:=uu4 s0 s3 s4 s5;refine uU zz (hWE _) ?_;replace zz:=uu5 s0 s3 s4 s5 @nsucc;refine xB 13 zz ?_;refine⟨?_⟩;refine a_genX (fun S H2=>S 0= .ptr id 0 0∧S 3= .cptr [.sc (.int .i64 4),.imm 2 (pmRows params),sPV gop,sPV gna,.imm 1 (strRows gar),.imm 2 (pmRows gpa),.imm 5 (Ex.rows gex),.imm 6 (Fm.rows gki),sPV name,.imm 1 (strRows args),sPV eop,sPV ena,.sc (.int .i64 en),.imm 1 (strRows ear),.imm 5 (Ex.rows eki)]∧S 4= .ptr h.next 0 0∧S 5= .ptr (h.next+1) 0 0∧S 6= .ptr H.next 0 0∧S 7=ev∧ChI h id b0 (.mk xk xv xl xc xt xs) H2∧H2.obj H.next=some (.arr 6 [[.sc (.int .i64 ek),.sc (.int .i64 ea),.sc (.int .i64 el),.sc (.int .i64 ec),sPV et,.imm 6 (Sx.rows es)]])) ⟨by simp only[Ty.w,simprocAttr,s0],by simp only[Ty.w,simprocAttr,s3],by simp only[Ty.w,simprocAttr,s4],by simp only[Ty.w,simprocAttr,s5],by simp only[Ty.w,simprocAttr],by simp only[Ty.w,simprocAttr],(hI.new hid).hi hid hnx,by simp only[Heap.set,if_true]⟩ ?_;obtain⟨j,hj⟩: ∃ j,j=H.next:=⟨_,rfl⟩
     rw[← hj]at hnx;(try clear zz);clear s0 s3 s4 s5 hI hWE;rw[← hj];(try clear zz);clear hj;rintro S H2 ⟨s0,s3,s4,s5,s6,s7,hI,hej⟩;refine a_cutK (fun S H2=>S 0= .ptr id 0 0∧S 3= .cptr [.sc (.int .i64 4),.imm 2 (pmRows params),sPV gop,sPV gna,.imm 1 (strRows gar),.imm 2 (pmRows gpa),.imm 5 (Ex.rows gex),.imm 6 (Fm.rows gki),sPV name,.imm 1 (strRows args),sPV eop,sPV ena,.sc (.int .i64 en),.imm 1 (strRows ear),.imm 5 (Ex.rows eki)]∧S 4= .ptr h.next 0 0∧S 5= .ptr (h.next+1) 0 0∧S 6= .ptr j 0 0∧H2.obj j=some (.arr 6 [[.sc (.int .i64 ek),.sc (.int .i64 ea),.sc (.int .i64 el),.sc (.int .i64 ec),sPV et,.imm 6 (Sx.rows es)]])∧ ∃ b1,ChI h id b1 (.mk xk xv xl xc xt xs) H2∧b1=(b0||!kB)) ?_ ?_
     ·have hno:=hI.grow.at_;have hej2: ∀ b1,(H2.set id (wO b1)).obj j=some (.arr 6 [[.sc (.int .i64 ek),.sc (.int .i64 ea),.sc (.int .i64 el),.sc (.int .i64 ec),sPV et,.imm 6 (Sx.rows es)]]):=fun b1=>by
       simp only[Heap.set];rw[if_neg (by omega)];exact hej
      cases b0 with
      |true=>
       replace zz:=uu7 s0 s3 s4 s5 s6 s7 hno;refine wt zz ?_;first
        |exact⟨hej2 _,true,hI.put hid,by simp⟩
        |exact⟨by simp only[Ty.w,simprocAttr,s0],by simp only[Ty.w,simprocAttr,s3],by simp only[Ty.w,simprocAttr,s4],by simp only[Ty.w,simprocAttr,s5],by simp only[Ty.w,simprocAttr,s6],hej2 _,true,hI.put hid,by simp⟩
      |false=>
       cases kB with
       |true=>
        simp only[if_true]at hev;subst hev;replace zz:=uu7 s0 s3 s4 s5 s6 s7 hno;refine wt zz ?_;exact⟨hej2 _,_,hI.put hid,by simp⟩
       |false=>
        simp only[Bool.false_eq_true,if_false,errV]at hev;subst hev;replace zz:=uu7 s0 s3 s4 s5 s6 s7 hno;refine wt zz ?_;exact⟨hej2 _,_,hI.put hid,by simp⟩
     ·(try clear zz);clear s0 s3 s4 s5 s6 s7 hI hej;rintro S H3 ⟨s0,s3,s4,s5,s6,hej,b1,hI,hb1⟩;(first|refine hK _ _ ?_|refine cK ?_);(try clear hK);have hat:=hI.at_;simp only[Sx.cells]at hat;replace zz:=uu9 s0 s3 s4 s5 s6 hat hej wi wj;refine wy zz ?_;replace zz:=uu7 s0 s3 s4 s5 s6 hat hej;(first|refine uV zz (hw _ _) ?_|refine uA zz (hw _ _) ?_);refine wy zz ?_;replace zz:=uu7 s0 s3 s4 s5 s6 hat hej;(first|refine uV zz (hl3 _) ?_|refine uA zz (hl3 _) ?_);refine wy zz ?_;first
       |exact⟨b1,hI.upd hid,stepK _ hb1⟩
       |exact⟨by simp only[Ty.w,simprocAttr,s0],by simp only[Ty.w,simprocAttr,s3],by simp only[Ty.w,simprocAttr,s4],by simp only[Ty.w,simprocAttr,s5],b1,hI.upd hid,stepK _ hb1⟩
    ·have k1:((5:Int)==1)=false:=rfl;have k2:((5:Int)==2)=false:=rfl;have k3:((5:Int)==3)=false:=rfl;have k4:((5:Int)==4)=false:=rfl;have k5:((5:Int)==5)=true:=rfl;have kw:kwK 5=opDec:=rfl;have wi:IntKind.i64.wrap ((5:Int)-3)=2:=rfl;have wj:IntKind.i64.wrap 2=2:=rfl;have hl3:=fun h:Heap=>dlistS_c [wordM opDec,.mk xk xv xl xc xt xs,.mk ek ea el ec et es] h;simp only[wordM,opDec,listM,Sx.cells,Sx.rows]at hl3;replace zz:=uu9 s0 s3 s4 s5 k1 k2 k3 k4 k5;refine wt zz ?_;replace zz:=uu4 s0 s3 s4 s5;refine uU zz (hWE _) ?_;replace zz:=uu5 s0 s3 s4 s5 @nsucc;refine xB 13 zz ?_;refine⟨?_⟩;refine a_genX (fun S H2=>S 0= .ptr id 0 0∧S 3= .cptr [.sc (.int .i64 5),.imm 2 (pmRows params),sPV gop,sPV gna,.imm 1 (strRows gar),.imm 2 (pmRows gpa),.imm 5 (Ex.rows gex),.imm 6 (Fm.rows gki),sPV name,.imm 1 (strRows args),sPV eop,sPV ena,.sc (.int .i64 en),.imm 1 (strRows ear),.imm 5 (Ex.rows eki)]∧S 4= .ptr h.next 0 0∧S 5= .ptr (h.next+1) 0 0∧S 6= .ptr H.next 0 0∧S 7=ev∧ChI h id b0 (.mk xk xv xl xc xt xs) H2∧H2.obj H.next=some (.arr 6 [[.sc (.int .i64 ek),.sc (.int .i64 ea),.sc (.int .i64 el),.sc (.int .i64 ec),sPV et,.imm 6 (Sx.rows es)]])) ⟨by simp only[Ty.w,simprocAttr,s0],by simp only[Ty.w,simprocAttr,s3],by simp only[Ty.w,simprocAttr,s4],by simp only[Ty.w,simprocAttr,s5],by simp only[Ty.w,simprocAttr],by simp only[Ty.w,simprocAttr],(hI.new hid).hi hid hnx,by simp only[Heap.set,if_true]⟩ ?_;obtain⟨j,hj⟩: ∃ j,j=H.next:=⟨_,rfl⟩
     rw[← hj]at hnx;(try clear zz);clear s0 s3 s4 s5 hI hWE;rw[← hj];(try clear zz);clear hj;rintro S H2 ⟨s0,s3,s4,s5,s6,s7,hI,hej⟩;refine a_cutK (fun S H2=>S 0= .ptr id 0 0∧S 3= .cptr [.sc (.int .i64 5),.imm 2 (pmRows params),sPV gop,sPV gna,.imm 1 (strRows gar),.imm 2 (pmRows gpa),.imm 5 (Ex.rows gex),.imm 6 (Fm.rows gki),sPV name,.imm 1 (strRows args),sPV eop,sPV ena,.sc (.int .i64 en),.imm 1 (strRows ear),.imm 5 (Ex.rows eki)]∧S 4= .ptr h.next 0 0∧S 5= .ptr (h.next+1) 0 0∧S 6= .ptr j 0 0∧H2.obj j=some (.arr 6 [[.sc (.int .i64 ek),.sc (.int .i64 ea),.sc (.int .i64 el),.sc (.int .i64 ec),sPV et,.imm 6 (Sx.rows es)]])∧ ∃ b1,ChI h id b1 (.mk xk xv xl xc xt xs) H2∧b1=(b0||!kB)) ?_ ?_
     ·have hno:=hI.grow.at_;have hej2: ∀ b1,(H2.set id (wO b1)).obj j=some (.arr 6 [[.sc (.int .i64 ek),.sc (.int .i64 ea),.sc (.int .i64 el),.sc (.int .i64 ec),sPV et,.imm 6 (Sx.rows es)]]):=fun b1=>by
       simp only[Heap.set];rw[if_neg (by omega)];exact hej
      cases b0 with
      |true=>
       replace zz:=uu7 s0 s3 s4 s5 s6 s7 hno;refine wt zz ?_;first
        |exact⟨hej2 _,true,hI.put hid,by simp⟩
        |exact⟨by simp only[Ty.w,simprocAttr,s0],by simp only[Ty.w,simprocAttr,s3],by simp only[Ty.w,simprocAttr,s4],by simp only[Ty.w,simprocAttr,s5],by simp only[Ty.w,simprocAttr,s6],hej2 _,true,hI.put hid,by simp⟩
      |false=>
       cases kB with
       |true=>
        simp only[if_true]at hev;subst hev;replace zz:=uu7 s0 s3 s4 s5 s6 s7 hno;refine wt zz ?_;exact⟨hej2 _,_,hI.put hid,by simp⟩
       |false=>
        simp only[Bool.false_eq_true,if_false,errV]at hev;subst hev;replace zz:=uu7 s0 s3 s4 s5 s6 s7 hno;refine wt zz ?_;exact⟨hej2 _,_,hI.put hid,by simp⟩
     ·(try clear zz);clear s0 s3 s4 s5 s6 s7 hI hej;rintro S H3 ⟨s0,s3,s4,s5,s6,hej,b1,hI,hb1⟩;(first|refine hK _ _ ?_|refine cK ?_);(try clear hK);have hat:=hI.at_;simp only[Sx.cells]at hat;replace zz:=uu9 s0 s3 s4 s5 s6 hat hej wi wj;refine wy zz ?_;replace zz:=uu7 s0 s3 s4 s5 s6 hat hej;(first|refine uV zz (hw _ _) ?_|refine uA zz (hw _ _) ?_);refine wy zz ?_;replace zz:=uu7 s0 s3 s4 s5 s6 hat hej;(first|refine uV zz (hl3 _) ?_|refine uA zz (hl3 _) ?_);refine wy zz ?_;first
       |exact⟨b1,hI.upd hid,stepK _ hb1⟩
       |exact⟨by simp only[Ty.w,simprocAttr,s0],by simp only[Ty.w,simprocAttr,s3],by simp only[Ty.w,simprocAttr,s4],by simp only[Ty.w,simprocAttr,s5],b1,hI.upd hid,stepK _ hb1⟩
 ·try clear zz
  clear hvs hWE hX0 hK0 hI s0 s3 s4 s5;rintro S H ⟨s0,s3,s4,s5,b1,hI,hb1⟩;refine a_cut (fun S H=>S 0= .ptr id 0 0∧S 3= .cptr [.sc (.int .i64 kind),.imm 2 (pmRows params),sPV gop,sPV gna,.imm 1 (strRows gar),.imm 2 (pmRows gpa),.imm 5 (Ex.rows gex),.imm 6 (Fm.rows gki),sPV name,.imm 1 (strRows args),sPV eop,sPV ena,.sc (.int .i64 en),.imm 1 (strRows ear),.imm 5 (Ex.rows eki)]∧S 4= .ptr h.next 0 0∧S 5= .ptr (h.next+1) 0 0∧ ∃ b2,ChI h id b2 R1 H∧b2=(b1||!(al||vf))) ?_ ?_
  ·have hda:=fun h:Heap=>dalways_c (h:=h);simp only[andFm,opAnd,Fm.cells]at hda hSame;replace zz:=uu4 s0 s3 s4 s5;refine wy zz ?_;replace zz:=uu4 s0 s3 s4 s5;(first|refine uV zz (hda _) ?_|refine uA zz (hda _) ?_);refine wy zz ?_;replace zz:=uu4 s0 s3 s4 s5;(first|refine uV zz (hSame _) ?_|refine uA zz (hSame _) ?_);cases al with
   |true=>
    rw[cond_true]at hX1;subst hX1;replace zz:=uu5 s0 s3 s4 s5 yT;refine wy zz ?_;first
     |exact⟨b1,hI,by simp⟩
     |exact⟨by simp only[Ty.w,simprocAttr,s0],by simp only[Ty.w,simprocAttr,s3],by simp only[Ty.w,simprocAttr,s4],by simp only[Ty.w,simprocAttr,s5],b1,hI,by simp⟩
   |false=>
    rw[cond_false]at hX1;subst hX1;obtain⟨rk,rv,rl,rc,rt,rs⟩:=R0;obtain⟨fk,fv,fl,fc,ft,fs⟩:=fX;simp only[Sx.cells]at hWF;have hl3:=fun h:Heap=>dlistS_c [wordM opWhen,.mk fk fv fl fc ft fs,.mk rk rv rl rc rt rs] h;simp only[wordM,opWhen,listM,Sx.cells,Sx.rows]at hl3;have hat:=hI.at_;simp only[Sx.cells]at hat;have hno:=hI.grow.at_;have hnx:=hI.nx;have d1:(h.next+1=id)=False:=eq_false (by omega);replace zz:=uu6 s0 s3 s4 s5 yF hat;refine wy zz ?_;replace zz:=uu5 s0 s3 s4 s5 hat;(first|refine uV zz (hw _ _) ?_|refine uA zz (hw _ _) ?_);refine wy zz ?_;refine a_dcallW (hWF H b1 (by omega) hno) (by(try simp only[Ty.w,simprocAttr,s0,s3,s4,s5]);try rfl) (by
     try simp only[Ty.w,simprocAttr,pastC,List.map_cons,List.map_nil,List.forall_mem_cons]
     (repeat' apply And.intro)<;>first
      |trivial
      |exact .inl (by decide+kernel)
      |exact .inr (Does_use (hw _ _) (by(try simp only[Ty.w,simprocAttr]);try rfl))) ?_
    simp(maxSteps:=2000000) only[Ty.w,simprocAttr,Ty.all,Option.getD_some,s0,s3,s4,s5,hat,d1];replace zz:=uu6 s0 s3 s4 s5 hat d1;refine wy zz ?_;refine a_dcallA (hl3 _) (by(try simp only[Ty.w,simprocAttr,s0,s3,s4,s5,hat,d1]);try rfl) (by first|exact .inl (by decide+kernel)|exact⟨.inl (by decide+kernel),trivial⟩|(simp only[List.forall_mem_cons];exact⟨.inl (by decide+kernel),fun _ hx=>by cases hx⟩)) ?_;simp(maxSteps:=2000000) only[Ty.w,simprocAttr,Ty.all,Option.getD_some,s0,s3,s4,s5,hat,d1];replace zz:=uu6 s0 s3 s4 s5 hat d1;refine wy zz ?_;first
     |exact⟨b1||!vf,(hI.put hid).upd hid,by simp⟩
     |exact⟨by simp only[Ty.w,simprocAttr,s0],by simp only[Ty.w,simprocAttr,s3],by simp only[Ty.w,simprocAttr,s4],by simp only[Ty.w,simprocAttr,s5],b1||!vf,(hI.put hid).upd hid,by simp⟩
  ·(try clear zz);clear hSame hWF hX1 hI s0 s3 s4 s5;rintro S H ⟨s0,s3,s4,s5,b2,hI,hb2⟩;have hfin:(b2||!pb)=F:=by
    rw[hb2,hb1, ← hF];cases b<;>cases a1<;>cases kB<;>cases al<;>cases vf<;>cases pb<;>rfl
   (try clear zz);clear hb1 hb2 hF;have hat:=hI.at_;have hno:=hI.grow.at_;have hnx:=hI.nx;have hrs:=hI.res;have d1:(h.next+1=id)=False:=eq_false (by omega);have d2:(h.next+1=h.next)=False:=eq_false (by omega);have d3:(h.next=h.next+1)=False:=eq_false (by omega);have d4:(h.next=id)=False:=eq_false (by omega);have fin: ∀ (X:Sx)(H:Heap),ChI h id F X H→FrzTo h.next (H.set h.next (.arr 6 [X.cells])) (.agg X.cells) (.agg X.cells)∧GrowX h id (wO F) (H.set h.next (.arr 6 [X.cells])):=fun X H i=>⟨by
    simp only[FrzTo];exact⟨_,rfl,sx_frz _ _ _⟩,i.grow.set hid (Nat.le_refl _)⟩
   obtain⟨rk,rv,rl,rc,rt,rs⟩:=R1;simp only[Sx.cells]at hat;cases hpn:decide ((params.length:Int)>0)with
   |false=>
    have e0:params.isEmpty=true:=by
     have h0:params.length=0:=(by have:=of_decide_eq_false hpn;omega);rw[hpe,h0];try rfl
    have hpb:pb=true:=hpb0 e0;rw[e0,cond_true]at hX2;subst hX2;rw[hpb,Bool.not_true,Bool.or_false]at hfin;subst hfin;have hf:=fin _ _ hI;simp only[Sx.cells]at hf;replace zz:=uu9 s0 s3 s4 s5 hpl hpn hat hrs d2;refine wt zz ?_;exact hf
   |true=>
    have e0:params.isEmpty=false:=by
     have h0:¬ params.length=0:=(by have:=of_decide_eq_true hpn;omega);rw[hpe];exact decide_eq_false h0
    rw[e0,cond_false]at hX2;subst hX2;have hl2:=fun h:Heap=>dlistS_c pw h;have hl3:=fun h:Heap=>dlistS_c [wordM opAll,listM pw,.mk rk rv rl rc rt rs] h;simp only[wordM,opAll,listM,Sx.cells,Sx.rows]at hl2 hl3;have hf:=fun i=>fin (listM [wordM opAll,listM pw,.mk rk rv rl rc rt rs]) ((H.set id (wO F)).set (h.next+1) (.arr 6 [(listM [wordM opAll,listM pw,.mk rk rv rl rc rt rs]).cells])) i;have hf:=hf ((hI.put hid).upd hid);simp only[wordM,opAll,listM,Sx.cells,Sx.rows]at hf;replace zz:=uu7 s0 s3 s4 s5 hpl hpn hat;refine wy zz ?_;replace zz:=uu5 s0 s3 s4 s5 hat;(first|refine uV zz (hw _ _) ?_|refine uA zz (hw _ _) ?_);refine wy zz ?_;refine a_dcallW (hWP H b2 (by omega) hno) (by(try simp only[Ty.w,simprocAttr,s0,s3,s4,s5]);try rfl) (by
     try simp only[Ty.w,simprocAttr,pastC,List.map_cons,List.map_nil,List.forall_mem_cons]
     (repeat' apply And.intro)<;>first
      |trivial
      |exact .inl (by decide+kernel)
      |exact .inr (Does_use (hw _ _) (by(try simp only[Ty.w,simprocAttr]);try rfl))) ?_
    simp(maxSteps:=2000000) only[Ty.w,simprocAttr,Ty.all,Option.getD_some,s0,s3,s4,s5,hat,d1];replace zz:=uu6 s0 s3 s4 s5 hat d1;refine wy zz ?_;refine a_dcallA (hl2 _) (by(try simp only[Ty.w,simprocAttr,s0,s3,s4,s5,hat,d1]);try rfl) (by first|exact .inl (by decide+kernel)|exact⟨.inl (by decide+kernel),trivial⟩|(simp only[List.forall_mem_cons];exact⟨.inl (by decide+kernel),fun _ hx=>by cases hx⟩)) ?_;simp(maxSteps:=2000000) only[Ty.w,simprocAttr,Ty.all,Option.getD_some,s0,s3,s4,s5,hat,d1];replace zz:=uu6 s0 s3 s4 s5 hat d1;refine wy zz ?_;refine a_dcallA (hl3 _) (by(try simp only[Ty.w,simprocAttr,s0,s3,s4,s5,hat,d1]);try rfl) (by first|exact .inl (by decide+kernel)|exact⟨.inl (by decide+kernel),trivial⟩|(simp only[List.forall_mem_cons];exact⟨.inl (by decide+kernel),fun _ hx=>by cases hx⟩)) ?_;simp(maxSteps:=2000000) only[Ty.w,simprocAttr,Ty.all,Option.getD_some,s0,s3,s4,s5,hat,d1];replace zz:=uu10 s0 s3 s4 s5 hat d1 d2 d3 d4 hrs;refine wy zz ?_;rw[hfin];exact hf
structure EffI(h:Heap)(id:Nat)(b:Bool)(l:List Sx)(h':Heap):Prop where
 grow:GrowX h id (wO b) h'
 ex: ∃ j,h.next+1+1<h'.next∧j≠h.next+1+1∧h.next<j∧j<h'.next∧
  h'.obj h.next=some (.arr 6 [sxZd])∧
  h'.obj (h.next+1+1)=some (.arr 6 [[.sc (.int .i64 3),.sc (.int .i64 0),.sc (.int .i64 0),.sc (.int .i64 0),.sc (.string ⟨#[]⟩),.own j 0 l.length]])∧
  h'.obj j=some (.arr 6 (Sx.rows l))
theorem EffI.newset{h h':Heap}{id:Nat}{b:Bool}{l:List Sx}{o o2:AObj}(i:EffI h id b l h')(hid:id<h.next):EffI h id b l ((h'.new o).set h'.next o2):=by
 obtain⟨hg,j,h1,h2,h3,h4,p1,p2,p3⟩:=i;refine⟨(hg.new hid).set hid hg.le,j,by simp only[Heap.new,Heap.set];omega,h2,h3,by simp only[Heap.new,Heap.set];omega,?_,?_,?_⟩
 ·simp only[Heap.set,Heap.new];rw[if_neg (by omega),if_neg (by omega)];exact p1
 ·simp only[Heap.set,Heap.new];rw[if_neg (by omega),if_neg (by omega)];exact p2
 ·simp only[Heap.set,Heap.new];rw[if_neg (by omega),if_neg (by omega)];exact p3
theorem EffI.push{h h':Heap}{id j:Nat}{b:Bool}{l:List Sx}{x:Sx}(hg:GrowX h id (wO b) h')(hid:id<h.next)(h1:h.next+1+1<h'.next)(h2:j≠h.next+1+1)(h3:h.next<j)(h4:j<h'.next)(o1:h'.obj h.next=some (.arr 6 [sxZd])):
  EffI h id b (l++[x]) (((h'.kill j).new (.arr 6 (Sx.rows l++[x.cells]))).set (h.next+1+1) (.arr 6 [[.sc (.int .i64 3),.sc (.int .i64 0),.sc (.int .i64 0),.sc (.int .i64 0),.sc (.string ⟨#[]⟩),.own h'.next 0 (l.length+1)]])):=by
 have e:Sx.rows (l++[x])=Sx.rows l++[x.cells]:=by rw[Sx.rows_map,Sx.rows_map];simp
 refine⟨((hg.kill hid (by omega)).new hid).set hid (by omega),h'.next,?_,?_,?_,?_,?_,?_,?_⟩
 ·simp only[Heap.set,Heap.new,Heap.kill];omega
 ·omega
 ·omega
 ·simp only[Heap.set,Heap.new,Heap.kill];omega
 ·have a1:¬ h.next=h.next+1+1:=by omega
  have a2:¬ h.next=h'.next:=by omega
  have a3:¬ h.next=j:=by omega
  simp only[Heap.set,Heap.new,Heap.kill,a1,a2,a3,if_false];exact o1
 ·simp only[Heap.set,if_true,List.length_append,List.length_cons,List.length_nil]
 ·have a1:¬ h'.next=h.next+1+1:=by omega
  simp only[Heap.set,Heap.new,Heap.kill,a1,if_false,if_true,e]
theorem weffect_c{h:Heap}{id:Nat}{b:Bool}{l:List Ch}(hl:l.length≤1048576)(hok: ∀ c∈l,c.ok)(hsm: ∀ c∈l,ChSm c)(hid:id<h.next)(ho:h.obj id=some (wO b)):
  PCall Tryz.prog 51 [.ptr id 0 0,.imm 15 (chRows l)] h fun r h'=>r= .agg (effX l).cells∧h'=h.set id (wO (b||!(l.all chB))):=by
 refine PCall.frzX Ty.hb_51 ho (wO_in _ _) ?_;have hll:=chRows_len l;have hw: ∀ (s:ByteArray)(h:Heap),PCall Tryz.prog 40 [sPV s] h fun r h'=>r= .agg (wordM s).cells∧h'=h:=fun s h=>dword_c;simp only[wordM,Sx.cells,Sx.rows]at hw;have hE:effX l=(bif l.isEmpty then listM []else listM (wordM opAnd::l.map chX)):=rfl;cases q0:((l.length:Int)==0)with
 |true=>
  have e0:l=[]:=by have:=eq_of_beq q0;exact List.length_eq_zero_iff.1 (by omega)
  rw[hE,e0];simp only[List.isEmpty_nil,cond_true,List.all_nil,Bool.not_true,Bool.or_false];subst e0;have hl0:=fun h:Heap=>dlist_c (h:=h) (p:= .sc (.slice none 0 0)) rfl (fun _=>by simp only[FrzTo]);refine uG0 Tryz.func51 Tryz.ntmps51 Tryz.results51 Ty.hb_51 ?_;repeat'(first|refine a_seq fun K hK=>?_|refine uR (uu hll q0) ?_|(refine uN hK ?_;clear hK)|apply zI)
  refine uU trivial (hl0 _) ?_;repeat'(first|refine uT trivial ?_|(refine uN hK ?_;clear hK)|apply zI)
  refine⟨?_,((GrowX.refl ho).new hid).set hid (Nat.le_refl _)⟩;simp only[listM,Sx.cells,Sx.rows,FrzTo,FrzL];exact⟨_,rfl,rfl,rfl,rfl,rfl,rfl,.inr (.inl ⟨rfl,.inr rfl⟩),trivial⟩
 |false=>
  have e0:l.isEmpty=false:=by cases l with
   |nil=>simp at q0
   |cons=>rfl
  rw[hE,e0,cond_false];try clear zz
  clear hE e0;generalize hF:(b||!(l.all chB))=F;refine uG (ow:=fun t=>t==13) (wf:=fun f=>f==107||f==41||f==43||f==100||f==51) Tryz.func51 Tryz.ntmps51 Tryz.results51 Ty.hb_51 ?_;replace zz:=uu hll q0;repeat'(first|refine a_seq fun K hK=>?_|refine uR zz ?_|refine uK ?_|refine uC1 zz ?_|(refine uN hK ?_;clear hK)|apply zI)
  refine uU trivial (hw opAnd _) ?_;try apply zI
  refine uU trivial (dlist_c (p:= .own (h.next+1) 0 1) rfl (fun _=>frz_own (by simp[Heap.new]))) ?_;repeat'(first|refine a_seq fun K hK=>?_|refine a_block ?_|refine uR hll ?_|(refine uN hK ?_;clear hK)|apply zI)
  refine a_loop (fun m S h'=>S 0= .ptr id 0 0∧S 4= .ptr h.next 0 0∧S 5= .ptr (h.next+1+1) 0 0∧S 15= .imm 15 (chRows l)∧S 16= .sc (.int .i64 l.length)∧ ∃ (k:Nat)(b':Bool),S 17= .sc (.int .i64 k)∧k≤l.length∧m=l.length-k∧EffI h id b' (wordM opAnd::(l.take k).map chX) h'∧F=(b'||!((l.drop k).all chB))) l.length ?_ ?_
  ·simp only[Ty.w,simprocAttr];refine⟨0,b,rfl,by omega,rfl,⟨?_,h.next+1,by simp[Heap.new,Heap.set],by omega,by omega,by simp[Heap.new,Heap.set],?_,?_,?_⟩,by rw[List.drop_zero];exact hF.symm⟩
   ·exact ((((GrowX.refl ho).new hid).new hid).new hid).set hid (by omega)
   ·simp only[Heap.new,Heap.set];repeat(first|rw[if_neg (by omega)]|rw[if_pos trivial])
   ·simp only[Heap.new,Heap.set];(repeat(first|rw[if_neg (by omega)]|rw[if_pos trivial]));try rfl
   ·simp only[Heap.new,Heap.set];(repeat(first|rw[if_neg (by omega)]|rw[if_pos trivial]));simp[wordM,Sx.rows,Sx.cells]
  ·(try clear zz);clear hF;rintro m S h' ⟨g0,g4,g5,g15,g16,k,b',g17,hk,rfl,hI,hinv⟩;by_cases hlt:k<l.length
   ·have hd:decide ((k:Int)<(l.length:Int))=true:=(by simp;omega);have w7:IntKind.i64.wrap ((k:Int)+1)=k+1:=(by rw[wrap64 (by omega) (by omega)]);obtain⟨c,hx⟩: ∃ c,l[k]? =some c:=⟨_,List.getElem?_eq_getElem hlt⟩;have hr:=chRows_get hx;have hcc:=fun(H:Heap)(b':Bool)(hid':id<H.next)(ho':H.obj id=some (wO b'))=>wchange_c (h:=H) (b:=b') (hok c (List.mem_of_getElem? hx)) (hsm c (List.mem_of_getElem? hx)) hid' ho';rw[drop_of_get hx,List.all_cons]at hinv;have htk:(l.take (k+1)).map chX=(l.take k).map chX++[chX c]:=(by rw[List.take_add_one,hx];simp);generalize chB c=q at hcc hinv;generalize chX c=X at hcc htk;have hlen:(wordM opAnd::(l.take k).map chX).length=k+1:=(by simp;omega);have hcon:wordM opAnd::(l.take (k+1)).map chX=(wordM opAnd::(l.take k).map chX)++[X]:=(by rw[htk];try rfl);generalize(wordM opAnd::(l.take k).map chX)=L at hI hlen hcon;(try clear zz);clear htk;obtain⟨kind,params,⟨gop,gna,gar,gpa,gex,gki⟩,name,args,⟨eop,ena,en,ear,eki⟩⟩:=c;simp only[chRow,Fm.cells,Ex.cells,List.cons_append,List.nil_append]at hr hcc;obtain⟨xk,xv,xl,xc,xt,xs⟩:=X;simp only[Sx.cells]at hcc;replace zz:=uu8 g0 g4 g5 g15 g16 g17 hd hr;(repeat'(first|with_reducible refine a_holdB 7 ?_|refine a_seq fun K hK=>?_|refine uR zz ?_|refine uK ?_|refine uC1 zz ?_|(refine uN hK ?_;clear hK)|apply zI));refine⟨?_⟩;refine a_genX (fun S H=>S 0= .ptr id 0 0∧S 4= .ptr h.next 0 0∧S 5= .ptr (h.next+1+1) 0 0∧S 15= .imm 15 (chRows l)∧S 16= .sc (.int .i64 l.length)∧S 17= .sc (.int .i64 k)∧ ∃ j7,S 7= .ptr j7 0 0∧h.next+1+1<j7∧H.obj j7=some (.arr 15 [[.sc (.int .i64 kind),.imm 2 (pmRows params),sPV gop,sPV gna,.imm 1 (strRows gar),.imm 2 (pmRows gpa),.imm 5 (Ex.rows gex),.imm 6 (Fm.rows gki),sPV name,.imm 1 (strRows args),sPV eop,sPV ena,.sc (.int .i64 en),.imm 1 (strRows ear),.imm 5 (Ex.rows eki)]])∧EffI h id b' L H) ?_ ?_
    ·obtain ⟨_,hlt2,_⟩:=hI.ex;exact⟨by simp only[Ty.w,simprocAttr,g0],by simp only[Ty.w,simprocAttr,g4],by simp only[Ty.w,simprocAttr,g5],by simp only[Ty.w,simprocAttr,g15],by simp only[Ty.w,simprocAttr,g16],by simp only[Ty.w,simprocAttr,g17],h'.next,by simp only[Ty.w,simprocAttr],hlt2,by simp only[Heap.set,if_true],hI.newset hid⟩
    ·(try clear zz);clear g0 g4 g5 g15 g16 g17 hI hd hr;rintro S H ⟨g0,g4,g5,g15,g16,g17,j7,g7,hj7,ho7,hI⟩;have stepF:(b'||!q)=(b'||!q)∧F=((b'||!q)||!((l.drop (k+1)).all chB)):=⟨rfl,by rw[hinv];cases b'<;>cases q<;>simp⟩;have hno:=hI.grow.at_;have hle:=hI.grow.le;obtain⟨hg,j,h1,h2,h3,h4,o1,o2,o3⟩:=hI;have d1:(h.next+1+1=id)=False:=eq_false (by omega);have d2:(j=id)=False:=eq_false (by omega);have d3:(h.next+1+1=j)=False:=eq_false (by omega);have d4:(h.next+1+1=H.next)=False:=eq_false (by omega);have hrl:(Sx.rows L).length=k+1:=(by rw[Sx.rows_len];exact hlen);have htk:List.take (k+1) (Sx.rows L)=Sx.rows L:=List.take_of_length_le (by omega);have hb:(k+1+1)*72≤140737488355328:=(by omega);rw[hlen]at o2;generalize hRe:Sx.rows L=R at o3 hrl htk;replace zz:=uu9 g0 g4 g5 g15 g16 g17 g7 ho7 o2;(repeat'(first|refine uE zz fun K hK=>?_|apply zI));refine a_dcallW (hcc H b' (by omega) hno) (by(try simp only[Ty.w,simprocAttr,g0,g4,g5,g15,g16,g17,g7,ho7]);try rfl) (by
      try simp only[Ty.w,simprocAttr,Ty.all,pastC,List.map_cons,List.map_nil,List.forall_mem_cons,g0,g4,g5,g7,ho7,o2,d1]
      (repeat' apply And.intro)<;>first
       |trivial
       |exact .inl (by decide+kernel)
       |exact .inr trivial) ?_
     simp(maxSteps:=2000000) only[Ty.w,simprocAttr,Ty.all,Option.getD_some,g0,g4,g5,g15,g16,g17,g7,ho7,o2,o3,d1,d2];replace zz:=uu12 g0 g4 g5 g15 g16 g17 g7 o2 o3 d1 d2 (uu6 d3 d4 hrl htk hb w7);(repeat'(first|refine uR zz ?_|(refine uN hK ?_;clear hK)|refine uB zz ?_|(rw[if_pos];rotate_left 1;omega;simp(maxSteps:=2000000) only[Ty.w,simprocAttr,g0,g4,g5,g15,g16,g17,g7,o2,o3,d1,d2,d3,d4,hrl,htk,hb,w7])|apply zI));have hp:=EffI.push (x:= .mk xk xv xl xc xt xs) (l:=L) ((hg.put (o2:=wO (b'||!q)))) hid h1 h2 h3 h4 (by simp only[Heap.set];rw[if_neg (by omega)];exact o1);rw[← hcon,hRe,hlen]at hp;exact⟨l.length-(k+1),by omega,k+1,b'||!q,by simp,by omega,rfl,hp,stepF.2⟩
   ·have hd:decide ((k:Int)<(l.length:Int))=false:=(by simp;omega);have hke:k=l.length:=(by omega);subst hke;obtain⟨hg,j,hn2,hne,hlo,hhi,o1,o2,o3⟩:=hI;rw[List.take_length]at o2 o3;rw[List.drop_length,List.all_nil,Bool.not_true,Bool.or_false]at hinv;subst hinv;have n1:(h.next+1+1=h.next)=False:=(by simp;omega);generalize hLe:wordM opAnd::l.map chX=L at o2 o3;replace zz:=uu11 g0 g4 g5 g15 g16 g17 hd o1 o2 o3 n1;(repeat'(first|refine a_seq fun K hK=>?_|refine uR zz ?_|refine uT zz ?_|refine uX ?_|refine uC1 zz ?_|(refine uN hK ?_;clear hK)|(clear hK;refine uN hK ?_;clear hK)|apply zI));refine⟨?_,hg.set hid (Nat.le_refl _)⟩;rw[hLe];simp only[listM,Sx.cells,FrzTo,FrzL];refine⟨_,rfl,rfl,rfl,rfl,rfl,rfl,.inr (.inr ⟨j,0,L.length,Sx.rows L,rfl,by omega,?_,?_,?_⟩),trivial⟩
    ·simp only[Heap.set];rw[if_neg (by omega)];exact o3
    ·rw [Sx.rows_len];omega
    ·rw [List.drop_zero,List.take_of_length_le (by rw[Sx.rows_len];omega)];exact sxs_frz _ _ _
theorem zeroSx_frz{n:Nat}{h:Heap}:FrzTo n h (.agg zeroSx.cells) (.agg sxZd):=by
 simp only[zeroSx,Sx.cells,Sx.rows,FrzTo,FrzL];exact⟨_,rfl,rfl,rfl,rfl,rfl,rfl,.inr (.inl ⟨rfl,.inr rfl⟩),trivial⟩
set_option maxHeartbeats 4000000
def exprs2:List Sx→List Ex × Int
 |[a,b]=>(match exprP a with
  | (ea, ca) => bif ca == 0 then (match exprP b with
   |(eb,cb)=>bif cb==0 then([ea,eb],0)else([],cb))else([],ca))
 |_=>([],2)
theorem pms_in(n:Nat)(l:List Pm):inNR n (pmRows l):=by
 induction l with
 |nil=>simp only[pmRows,List.map_nil,inNR]
 |cons a l ih=>simp only[pmRows,List.map_cons,inNR,pmRow,inNL,inN,and_true,true_and]at ih⊢;exact ih
theorem exs_in(n:Nat): ∀ l:List Ex,inNR n (Ex.rows l)
 |[]=>by simp only[Ex.rows,inNR]
 |k::ks=>by simp only[Ex.rows,inNR];exact⟨ex_in n k,exs_in n ks⟩
theorem fm_in(n:Nat): ∀ f:Fm,inNL n f.cells:=by
 refine Fm.ind ?_;intro op name args params exprs kids ih;have:inNR n (Fm.rows kids):=by
  try clear zz
  clear op name args params exprs
  induction kids with
  |nil=>simp only[Fm.rows,inNR]
  |cons k ks ih2=>
   simp only[Fm.rows,inNR];exact⟨ih k (by simp),ih2 fun q hq=>ih q (by simp[hq])⟩
 simp only[Fm.cells,inNL,inN,and_true,true_and];exact⟨strs_in n args,pms_in n params,exs_in n exprs,this⟩
theorem fms_in(n:Nat): ∀ l:List Fm,inNR n (Fm.rows l)
 |[]=>by simp only[Fm.rows,inNR]
 |k::ks=>by simp only[Fm.rows,inNR];exact⟨fm_in n k,fms_in n ks⟩
theorem rvalidS_c{x:Sx}(hok:x.ok)(hn:x.nodes≤bigN)(hd:x.depth≤bigN)(h:Heap):PCall Tryz.prog 34 [.agg x.cells] h fun r h'=>r= .sc (.bool (svalid x 0 0).1)∧h'=h:=by
 rw[valid_same hn];exact rvalid_c hok hd h
set_option maxHeartbeats 8000000
def effW(l:List Ch):Sx:=bif l.isEmpty then listM []else listM (wordM opAnd::l.map chW)
theorem rEffect_c{l:List Ch}(hl:l.length≤1048576)(hs: ∀ c∈l, ∀ h:Heap,PCall Tryz.prog 85 [.agg (chRow c)] h fun r h'=>r= .agg (chW c).cells∧h'=h)(h:Heap):
  PCall Tryz.prog 35 [.imm 15 (chRows l)] h fun r h'=>r= .agg (effW l).cells∧h'=h:=by
 refine PCall.frz Ty.hb_35 ?_;have hlen:=chRows_len l;cases q:((l.length:Int)==0)with
 |true=>
  have e:l=[]:=by
   cases l with
   |nil=>rfl
   |cons c l=>simp only[List.length_cons,beq_iff_eq]at q;omega
  subst e;simp only[List.length_nil]at hlen;have hx:effW []=listM []:=rfl;rw[hx];try clear zz
  clear hs;have q:((0:Int)==0)=true:=rfl;refine uG0 Tryz.func35 Tryz.ntmps35 Tryz.results35 Ty.hb_35 ?_;replace zz:=uu hlen q;repeat'(first|refine a_seq fun K hK=>?_|refine uR zz ?_|refine uT zz ?_|(refine uN hK ?_;clear hK)|apply zI)
  refine⟨?_,((Grow.refl h).new _).set (Nat.le_refl _) _⟩;simp only[listM,Sx.cells,Sx.rows,FrzTo,FrzL];exact⟨_,rfl,rfl,rfl,rfl,rfl,rfl,.inr (.inl ⟨rfl,.inr rfl⟩),trivial⟩
 |false=>
  have hne:l.isEmpty=false:=by
   cases l with
   |nil=>simp at q
   |cons c l=>rfl
  have hx:effW l=listM (wordM opAnd::l.map chW):=by unfold effW;rw[hne];try rfl
  rw[hx];refine uG0 Tryz.func35 Tryz.ntmps35 Tryz.results35 Ty.hb_35 ?_;replace zz:=uu hlen q;repeat'(first|refine a_seq fun K hK=>?_|refine a_block ?_|refine uR zz ?_|refine uK ?_|(refine uC zz (fun hb=>?_) (fun hb=>?_)<;>(try simp only[hb0,simprocAttr]at hb)<;>(try(exfalso;omega)))|(refine uN hK ?_;clear hK)|apply zI)
  refine a_loop (fun m S H=>S 0= .imm 15 (chRows l)∧S 2= .ptr h.next 0 0∧ ∃ (k:Nat)(p:PV),S 4= .sc (.int .i64 k)∧S 3=p∧k≤l.length∧m=l.length-k∧Grow h H∧h.next+1≤H.next∧H.obj h.next=some (.arr 6 [[.sc (.int .i64 0),.sc (.int .i64 0),.sc (.int .i64 0),.sc (.int .i64 0),.sc (.string ⟨#[]⟩),.sc (.slice none 0 0)]])∧Tl H (h.next+1) 6 p (Sx.rows ((l.take k).map chW))) l.length ?_ ?_
  ·simp only[Ty.w,simprocAttr];first
    |exact⟨0,_,rfl,rfl,by omega,rfl,(Grow.refl h).new _,by simp[Heap.new],by simp[Heap.new],Tl.nil⟩
    |exact⟨0,_,rfl,rfl,by omega,rfl,(Grow.refl h).new _,by simp[Heap.new],Tl.nil⟩
  ·rintro m S H ⟨g0,g2,k,p,g4,g3,hk,rfl,hg,hnx,hre,tl⟩;by_cases hlt:k<l.length
   ·have hd:decide ((k:Int)<(l.length:Int))=true:=(by simp;omega);have w7:IntKind.i64.wrap ((k:Int)+1)=k+1:=(by rw[wrap64 (by omega) (by omega)]);obtain⟨c,hx⟩: ∃ c,l[k]? =some c:=⟨_,List.getElem?_eq_getElem hlt⟩;have hr:=chRows_get hx;have hc:=hs c (List.mem_of_getElem? hx);have htk:Sx.rows ((l.take (k+1)).map chW)=Sx.rows ((l.take k).map chW)++[(chW c).cells]:=(by rw[List.take_add_one,hx];simp[Sx.rows_map]);have hpr:(Sx.rows ((l.take k).map chW)).length=k:=(by rw[Sx.rows_len,List.length_map,List.length_take];omega);generalize chW c=X at hc htk;generalize Sx.rows ((l.take k).map chW)=R at tl htk hpr;(try clear zz);clear hs;obtain⟨kind,P,⟨gop,gna,gar,gpa,gex,gki⟩,nm,aa,⟨eop,ena,en,ear,eki⟩⟩:=c;simp only[chRow,Fm.cells,Ex.cells,List.cons_append,List.nil_append]at hr hc;obtain⟨xk,xv,xl,xc,xt,xs⟩:=X;simp only[Sx.cells]at hc htk;obtain⟨Hk,t1,t2,t3,t4,t5⟩:=tl.tail;have hb:(k+1)*72≤140737488355328:=(by omega);replace zz:=uu6 g0 g2 g3 g4 hd hr;(repeat'(first|refine a_seq fun K hK=>?_|refine a_block ?_|refine uR zz ?_|refine uQ zz fun K hK=>?_|refine uK ?_|(refine uC zz (fun hb=>?_) (fun hb=>?_)<;>(try simp only[hb0,simprocAttr]at hb)<;>(try(exfalso;omega)))|(refine uN hK ?_;clear hK)|apply zI));replace zz:=uu5 g0 g2 g3 g4 hr;refine uU zz (hc _) ?_;replace zz:=uu9 g0 g2 g3 g4 w7 t1 t2 hpr hb;(repeat'(first|refine uR zz ?_|(refine uN hK ?_;clear hK)|(rw[if_pos];rotate_left 1;omega;simp(maxSteps:=2000000) only[Ty.w,simprocAttr,g0,g2,g3,g4,w7,t1,t2,hpr,hb])|apply zI));have hkp:=t5 h ⟨hg.le,hg.old⟩ (by omega);have hgk:Grow h Hk:=⟨hkp.1,hkp.2⟩;rw[← htk];refine⟨l.length-(k+1),by omega,k+1,.own Hk.next 0 (k+1),by simp,by rw[t3],by omega,rfl,hgk.new _,by first|omega|(simp only[Heap.new];omega),?_,Tl.grow (by omega) (by rw[htk];simp[hpr])⟩;(try simp only[Heap.new]);rw[if_neg (by omega),t4 _ (by omega)];exact hre
   ·have hd:decide ((k:Int)<(l.length:Int))=false:=(by simp;omega);have hke:k=l.length:=(by omega);rw[hke,List.take_length]at tl;have hq:=fun h:Heap=>d9list_c (s:=opAnd) (l:=l.map chW) (by rw[List.length_map];omega) h;(try clear zz);clear hx;generalize hL:l.map chW=L at tl hq;simp only[listM,Sx.cells,opAnd,sPV]at hq;generalize hLa:wordM ⟨#[97,110,100]⟩::L=L2 at hq;generalize hL2:Sx.rows L2=R2 at hq;replace zz:=uu5 g0 g2 g3 g4 hd;(repeat'(first|with_reducible refine a_holdR 8 ?_|refine a_seq fun K hK=>?_|refine uR zz ?_|refine uX ?_|(refine uC zz (fun hb=>?_) (fun hb=>?_)<;>(try simp only[hb0,simprocAttr]at hb)<;>(try(exfalso;omega)))|(refine uN hK ?_;clear hK)|(clear hK;refine uN hK ?_;clear hK)|apply zI));refine⟨?_⟩;refine a_drop (h.next+1) [(3,.imm 6 (Sx.rows L))] rfl hnx ?_ ?_
    ·intro x hx;simp only[List.mem_cons,List.not_mem_nil,or_false]at hx;subst hx;have g3b:S 3=p:=g3;simp only[Ty.w,simprocAttr,g3];exact tl_frzX tl
    refine a_genX (fun S H=>S 2= .ptr h.next 0 0∧S 3= .imm 6 (Sx.rows L)∧Grow h H∧H.obj h.next=some (.arr 6 [[.sc (.int .i64 0),.sc (.int .i64 0),.sc (.int .i64 0),.sc (.int .i64 0),.sc (.string ⟨#[]⟩),.sc (.slice none 0 0)]])) ⟨by simp only[frzS,Ty.w,simprocAttr,g2],by simp only[frzS,Ty.w,simprocAttr],⟨hg.le,fun j hj=>by simp only[below];rw[if_pos (by omega)];exact hg.old j hj⟩,by simp only[below];rw[if_pos (by omega)];exact hre⟩ ?_;(try clear zz);clear g0 g2 g3 g4 tl hg hnx hre hd hs;rintro S H ⟨g2,g3,hg,hre⟩;(repeat'(first|refine a_seq fun K hK=>?_|refine uR (uu3 g2 g3 hre) ?_|apply zI));refine uU (uu3 g2 g3 hre) (hq _) ?_;(repeat'(first|refine uT (uu3 g2 g3 hre) ?_|(refine uN hK ?_;clear hK)|apply zI));rw[hL];subst hL2;subst hLa;exact⟨sxA_frz _ _ (listM (wordM opAnd::L)),hg.set (Nat.le_refl _) _⟩
theorem tupB_frz{n:Nat}{H:Heap}{p q:PV}(h:FrzTo n H p q)(b:Bool):FrzTo n H (.tup [p,.sc (.bool b)]) (.tup [q,.sc (.bool b)]):=by
 unfold FrzTo;refine⟨_,rfl,?_⟩;unfold FrzL;refine⟨h,?_⟩;unfold FrzL;exact⟨by simp only[FrzTo],by simp only[FrzL]⟩
def writeRB(l:List Ch):Bool:=l.all chR&&(svalid (effW l) 0 0).1
theorem d9num_c{h:Heap}{n:Int}:PCall Tryz.prog 104 [.sc (.int .i64 n)] h fun r h'=>r= .agg (numM n).cells∧h'=h:=by
 refine PCall.frz Ty.hb_104 ?_;refine uG0 Tryz.func104 Tryz.ntmps104 Tryz.results104 Ty.hb_104 ?_;refine wt trivial ?_;refine⟨?_,((Grow.refl h).new _).set (Nat.le_refl _) _⟩;simp only[numM,Sx.cells,Sx.rows,FrzTo,FrzL];exact⟨_,rfl,rfl,rfl,rfl,rfl,rfl,.inr (.inl ⟨rfl,.inr rfl⟩),trivial⟩
def smB(n:Int):Bool:=decide (n≥ -1099511627776)&&decide (n≤1099511627776)
theorem d9small_c{h:Heap}{n:Int}:PCall Tryz.prog 102 [.sc (.int .i64 n)] h fun r h'=>r= .sc (.bool (smB n))∧h'=h:=by
 unfold smB;cases q1:decide (n≥ -1099511627776)with
 |false=>
  refine uG0 Tryz.func102 Tryz.ntmps102 Tryz.results102 Ty.hb_102 ?_;repeat'(first|refine a_seq fun K hK=>?_|((first|refine a_regionS ?_|refine a_ret ?_);simp(maxSteps:=2000000) only[Ty.w,simprocAttr,q1,Bool.false_and])|(refine hK _ _ ?_;clear hK;(try simp only[pst0,simprocAttr])))
  all_goals(try simp)
 |true=>
  cases q2:decide (n≤1099511627776)with
  |false=>
   refine uG0 Tryz.func102 Tryz.ntmps102 Tryz.results102 Ty.hb_102 ?_;(repeat'(first|refine a_seq fun K hK=>?_|((first|refine a_regionS ?_|refine a_ret ?_);simp(maxSteps:=2000000) only[Ty.w,simprocAttr,q1,q2,Bool.true_and])|(refine hK _ _ ?_;clear hK;(try simp only[pst0,simprocAttr]))));all_goals(try simp)
  |true=>
   refine uG0 Tryz.func102 Tryz.ntmps102 Tryz.results102 Ty.hb_102 ?_;(repeat'(first|refine a_seq fun K hK=>?_|((first|refine a_regionS ?_|refine a_ret ?_);simp(maxSteps:=2000000) only[Ty.w,simprocAttr,q1,q2,Bool.true_and])|(refine hK _ _ ?_;clear hK;(try simp only[pst0,simprocAttr]))));all_goals(try simp)
theorem d9listO_c{s:ByteArray}{l:List Sx}{j:Nat}(hl:l.length≤1099511627776){h:Heap}(hj:h.obj j=some (.arr 6 (Sx.rows l)))(hjl:j<h.next):PCall Tryz.prog 86 [sPV s,.own j 0 l.length] h fun r h'=>r= .agg (listM (wordM s::l)).cells∧h'=h:=by
 refine PCall.frz Ty.hb_86 ?_;have hll:=Sx.rows_len l;have hwd: ∀ (h:Heap),PCall Tryz.prog 103 [sPV s] h fun r h'=>r= .agg (wordM s).cells∧h'=h:=fun h=>d9word_c;simp only[wordM,Sx.cells,Sx.rows]at hwd;have hbb:(1+l.length)*72≤140737488355328:=by omega
 have htk:List.take l.length (Sx.rows l)=Sx.rows l:=List.take_of_length_le (by omega);have n1:(h.next=h.next+1+1)=False:=eq_false (by omega);have n2:(j=h.next)=False:=eq_false (by omega);have n3:(j=h.next+1)=False:=eq_false (by omega);refine uG (ow:=fun t=>t==7) (wf:=fun _=>false) Tryz.func86 Tryz.ntmps86 Tryz.results86 Ty.hb_86 ?_;refine wt trivial ?_;replace zz:=uu9 hll hbb htk n1 n2 n3 hj @nsucc @Nat.le_refl;refine uU zz (hwd _) ?_;refine wt zz ?_;refine⟨?_,(((((Grow.refl h).new _).new _).kill (show h.next≤h.next+1 by omega)).new _).set (Nat.le_refl _) _⟩;simp only[listM,Sx.cells,FrzTo,FrzL];refine⟨_,rfl,rfl,rfl,rfl,rfl,rfl,.inr (.inr ⟨h.next+1+1,0,1+l.length,Sx.rows (wordM s::l),rfl,by omega,?_,?_,?_⟩),trivial⟩
 ·rw [obj_set (by omega)];simp only[Heap.new,Heap.kill,if_true,Sx.rows,wordM,Sx.cells]
 ·rw [Sx.rows_len];simp;omega
 ·rw [List.drop_zero,List.take_of_length_le (by rw[Sx.rows_len];simp;omega)];exact sxs_frz _ _ _
def someH(h:Heap)(j:Nat)(L:List Sx):Heap:=⟨h.next+1,fun i=>if i=h.next then some (.arr 6 (Sx.rows L))else if i=j then none else h.obj i⟩
theorem some_c{h:Heap}{j:Nat}{L:List Sx}{kw:ByteArray}{v:Sx}{m:Bool}(hj:h.obj j=some (.arr 6 (Sx.rows L)))(hL:L.length≤1048576):
  PCall Tryz.prog 105 [.own j 0 L.length,.sc (.bool m),sPV kw,.agg v.cells] h fun r h'=>r=(if m=true then .own j 0 L.length else .own h.next 0 (L.length+2))∧h'=(if m=true then h else someH h j (L++[wordM kw,v])):=by
 have hw: ∀ (s:ByteArray)(h:Heap),PCall Tryz.prog 103 [sPV s] h fun r h'=>r= .agg (wordM s).cells∧h'=h:=fun s h=>d9word_c;simp only[wordM,Sx.cells,Sx.rows]at hw;have hRL:Sx.rows (L++[wordM kw,v])=Sx.rows L++[[.sc (.int .i64 1),.sc (.int .i64 0),.sc (.int .i64 0),.sc (.int .i64 0),sPV kw,.imm 6 []],v.cells]:=by simp[Sx.rows_map,wordM,Sx.cells,Sx.rows]
 have hH: ∀ H:Heap,H=(h.kill j).new (.arr 6 (Sx.rows (L++[wordM kw,v])))→H=someH h j (L++[wordM kw,v]):=fun H e=>by rw[e];try rfl
 rw[hRL]at hH;generalize someH h j (L++[wordM kw,v])=HH at hH⊢;obtain⟨vk,vv,vl,vc,vt,vs⟩:=v;simp only[Sx.cells]at hH⊢;cases m with
 |true=>
  refine uG0 Tryz.func105 Tryz.ntmps105 Tryz.results105 Ty.hb_105 ?_;refine wm trivial ?_;try exact zI
  all_goals(try simp only[if_true])
  all_goals(try exact⟨trivial,trivial⟩)
 |false=>
  have hrl:(Sx.rows L).length=L.length:=Sx.rows_len L;have hb2:(L.length+2)*72≤140737488355328:=by omega
  have htk:List.take L.length (Sx.rows L)=Sx.rows L:=List.take_of_length_le (by omega);refine uG0 Tryz.func105 Tryz.ntmps105 Tryz.results105 Ty.hb_105 ?_;replace zz:=uu4 hj hrl htk hb2;refine wy zz ?_;replace zz:=uu5 hj hrl htk hb2 @Nat.le_refl;first|refine uV zz (hw kw _) ?_|refine uJ1 zz (hw kw _) ?_
  refine wo zz ?_;try exact zI
  all_goals first|exact hH _ rfl|(rw[if_neg (by simp)];exact hH _ rfl)
def wpH(h:Heap)(l:List Pm):Heap:=bif l.isEmpty then h else⟨h.next+l.length,fun i=>if i=h.next+(l.length-1)then some (.arr 6 (Sx.rows (paramsW l)))else h.obj i⟩
def wpV(h:Heap)(l:List Pm):PV:=bif l.isEmpty then .sc (.slice none 0 0)else .own (h.next+(l.length-1)) 0 (3*l.length)
theorem wp_tail{h:Heap}(hno: ∀ i,h.next≤i→h.obj i=none): ∀ l:List Pm,isTail (wpH h l) (wpV h l)=some (⟨h.next+l.length,h.obj⟩,Sx.rows (paramsW l))∧zOk (wpH h l) 6 (wpV h l)=true
 |[]=>by
  refine⟨?_,rfl⟩;show some (h,([]:List (List PV)))=_;cases h;rfl
 |p::l=>by
  have e1:wpH h (p::l)=⟨h.next+(p::l).length,fun i=>if i=h.next+((p::l).length-1)then some (.arr 6 (Sx.rows (paramsW (p::l))))else h.obj i⟩:=rfl;have e2:wpV h (p::l)= .own (h.next+((p::l).length-1)) 0 (3*(p::l).length):=rfl;rw[e1,e2];have hl:(Sx.rows (paramsW (p::l))).length=3*(p::l).length:=by rw[Sx.rows_len,paramsW_len]
  generalize Sx.rows (paramsW (p::l))=R at hl⊢;generalize(p::l).length=n at hl⊢;refine⟨?_,by simp[zOk]⟩;simp only[isTail,if_true,Nat.zero_add,hl,Nat.le_refl,List.drop_zero];rw[List.take_of_length_le (by omega)];congr 2;simp only[Heap.kill];congr 1;funext i;by_cases hi:i=h.next+(n-1)
  ·subst hi;rw[if_pos rfl];exact(hno _ (by omega)).symm
  ·rw [if_neg hi,if_neg hi]
theorem wp_next(h:Heap): ∀ l:List Pm,(wpH h l).next=h.next+l.length
 |[]=>rfl
 |_::_=>rfl
theorem wp_new{h:Heap}{l:List Pm}{k:Nat}(hk:k<l.length):(Heap.new ⟨h.next+k,h.obj⟩ (.arr 6 (Sx.rows (paramsW (l.take (k+1))))))=wpH h (l.take (k+1))∧PV.own (h.next+k) 0 (3*k+3)=wpV h (l.take (k+1)):=by
 have hl:(l.take (k+1)).length=k+1:=by rw[List.length_take];omega
 have he:(l.take (k+1)).isEmpty=false:=by
  cases q:(l.take (k+1))with
  |nil=>rw[q]at hl;simp at hl
  |cons a l=>rfl
 unfold wpH wpV;rw[he,hl];exact⟨rfl,rfl⟩
theorem rwriteParamsO_c{l:List Pm}(hl:l.length≤1048576)(h:Heap)(hno: ∀ i,h.next≤i→h.obj i=none):PCall Tryz.prog 30 [.imm 2 (pmRows l)] h fun r h'=>r=wpV h l∧h'=wpH h l:=by
 have hll:=pmRows_len l;have hw: ∀ (s:ByteArray)(h:Heap),PCall Tryz.prog 79 [sPV s] h fun r h'=>r= .agg (wordM s).cells∧h'=h:=fun s h=>rwd_c;simp only[wordM,Sx.cells,Sx.rows]at hw;refine uG0 Tryz.func30 Tryz.ntmps30 Tryz.results30 Ty.hb_30 ?_;refine wt hll ?_;refine a_loop (fun m S h'=>S 0= .imm 2 (pmRows l)∧ ∃ (k:Nat),S 4= .sc (.int .i64 k)∧S 3=wpV h (l.take k)∧k≤l.length∧m=l.length-k∧h'=wpH h (l.take k)) l.length ?_ ?_
 ·simp only[Ty.w,simprocAttr];refine⟨0,rfl,?_,by omega,rfl,?_⟩
  ·rw [List.take_zero];try rfl
  ·rw [List.take_zero];try rfl
 ·rintro m S h' ⟨g0,k,g4,g3,hk,rfl,hh⟩;by_cases hlt:k<l.length
  ·have hd:decide ((k:Int)<(l.length:Int))=true:=(by simp;omega);have w7:IntKind.i64.wrap ((k:Int)+1)=k+1:=(by rw[wrap64 (by omega) (by omega)]);obtain⟨p,hx⟩: ∃ p,l[k]? =some p:=⟨_,List.getElem?_eq_getElem hlt⟩;have hr:=pmRows_get hx;obtain⟨t1,t2⟩:=wp_tail hno (l.take k);rw[show(l.take k).length=k from by rw[List.length_take];omega]at t1;have hn:h'.next=h.next+k:=by rw[hh,wp_next,List.length_take];omega
   rw[← hh]at t1 t2;have hpr:(Sx.rows (paramsW (l.take k))).length=3*k:=(by rw[Sx.rows_len,paramsW_len,List.length_take];omega);have hb:(3*k+3)*72≤140737488355328:=(by omega);have hR:Sx.rows (paramsW (l.take (k+1)))=Sx.rows (paramsW (l.take k))++[[.sc (.int .i64 1),.sc (.int .i64 0),.sc (.int .i64 0),.sc (.int .i64 0),sPV p.name,.imm 6 []],[.sc (.int .i64 1),.sc (.int .i64 0),.sc (.int .i64 0),.sc (.int .i64 0),sPV ⟨#[45]⟩,.imm 6 []],[.sc (.int .i64 1),.sc (.int .i64 0),.sc (.int .i64 0),.sc (.int .i64 0),sPV p.type,.imm 6 []]]:=by
    rw[List.take_add_one,hx,paramsW_append];simp only[Sx.rows_map,List.map_append,Option.toList_some,paramsW,List.map_cons,List.map_nil,wordM,Sx.cells]
   obtain⟨w1,w2⟩:=wp_new (h:=h) hlt;rw[hR]at w1;generalize Sx.rows (paramsW (l.take k))=R at t1 t2 hpr hR w1;generalize wpV h (l.take k)=o at g3 t1 t2;(try clear zz);clear hh;replace zz:=uu6 g0 g4 g3 hd hr hll;refine wy zz ?_;replace zz:=uu4 g0 g4 g3 hr;(first|refine uV zz (hw p.name _) ?_|refine uA zz (hw p.name _) ?_);refine wy zz ?_;replace zz:=uu4 g0 g4 g3 hr;(first|refine uV zz (hw ⟨#[45]⟩ _) ?_|refine uA zz (hw ⟨#[45]⟩ _) ?_);refine wy zz ?_;replace zz:=uu4 g0 g4 g3 hr;(first|refine uV zz (hw p.type _) ?_|refine uA zz (hw p.type _) ?_);replace zz:=uu9 g0 g4 g3 hr w7 t1 t2 hpr hb;(repeat'(first|refine cK ?_|refine nK ?_|refine uR zz ?_|(refine uN hK ?_;clear hK)|refine uB zz ?_|(rw[if_pos];rotate_left 1;omega;simp(maxSteps:=2000000) only[Ty.w,simprocAttr,g0,g4,g3,hr,w7,t1,t2,hpr,hb])|apply zI));exact⟨l.length-(k+1),by omega,k+1,by simp,by rw[hn];exact w2,by omega,rfl,w1⟩
  ·have hd:decide ((k:Int)<(l.length:Int))=false:=(by simp;omega);have hke:k=l.length:=(by omega);subst hke;rw[List.take_length]at g3 hh;replace zz:=uu5 g0 g4 g3 hd hll;refine wm zz ?_;try exact zI
   all_goals first|exact hh|exact⟨rfl,hh⟩
def prR(p:Pr):Bool:=nameB p.name&&p.params.all (pmR true)
def fuR(f:Fu):Bool:=nameB f.name&&(f.params.all (pmR true)&&(smB f.lo&&smB f.hi))
def acR(a:Ac):Bool:=nameB a.name&&(a.params.all (pmR true)&&(!(decide (a.cost<0))&&(smB a.cost&&(shapedF a.pre&&a.changes.all chR))))
def duR(a:Du):Bool:=nameB a.name&&(a.params.all (pmR true)&&(smB a.duration&&(a.atStart.all chR&&(a.atStop.all chR&&(shapedF a.start&&(shapedF a.over&&shapedF a.stop))))))
def dmR(d:Dm):Bool:=nameB d.name&&(d.types.all (pmR false)&&(d.constants.all (pmR false)&&(d.predicates.all prR&&(d.functions.all fuR&&(d.actions.all acR&&d.duratives.all duR)))))
end Go.Proofs.YtblgchkahpgdjaaGreat
namespace Go.AM
section
variable {P:Program}{ow:Nat→Bool}{wf:FuncId→Bool}{n:Nat}
def wAt(ow:Nat→Bool)(wf:FuncId→Bool)(ops:List Oper)(i:Nat):Bool:=(ops[i]?).any (isW ow wf)
def aAt(ow:Nat→Bool)(ops:List Oper)(i:Nat):Bool:=(ops[i]?).any (isA ow)
def dOk5(ow:Nat→Bool)(wf:FuncId→Bool)(ops:List Oper)(c:Nat):Bool:=
 dOk3 ops&&decide (c≤ops.length)&&((List.range c).all fun i=>(List.range ops.length).all fun f=>
  (!(decide (i<f)&&decide (f<c))||((!(wAt ow wf ops i&&wAt ow wf ops f)||pre ops i f)&&!(wAt ow wf ops i&&aAt ow ops f)))&&
  (!(decide (c≤f)&&wAt ow wf ops f)||(pre ops i f&&!(pre ops f i))))&&
 ((List.range ops.length).all fun f=>!(decide (c≤f))||!(aAt ow ops f))
def Loc5(P:Program)(ow:Nat→Bool)(wf:FuncId→Bool)(n:Nat)(ops:List Oper)(lo hi j:Nat)(o:Oper)(sk:Nat→Slots)(hk:Nat→Heap)(vk:Nat→PV)(br:Nat→Bool):Prop:=
 o.dst.all (fun d=>decide (d<n))=true∧ ∃ b,wantedB ops (sk j) o=some b∧
  (b=false→sk (j+1)=updO (sk j) o.dst (.sc undef)∧hk (j+1)=hk j∧br j=false)∧
  (b = true → sk (j + 1) = updO (sk j) o.dst (vk j) ∧
   (isW ow wf o = false → hk (j + 1) = hk j ∧ br j = false ∧ Does P ow o (pev (sk j)) (hk j) (vk j) (hk j) ∧
    (∀ i,lo≤i→i<j→br i=true→pre ops i j=true∨Does P ow o (pev (sk j)) (hk i) (vk j) (hk i))∧
    (∀ i,j<i→i<hi→br i=true→pre ops j i=true∨Does P ow o (pev (sk j)) (hk (i+1)) (vk j) (hk (i+1))))∧
   (isW ow wf o=true→br j=true∧Does P ow o (pev (sk j)) (hk j) (vk j) (hk (j+1))))
theorem drun_facts{ops:List Oper}{K:Slots→Heap→Prop}: ∀ (rest:List Oper)(k:Nat)(past:List (Nat × (Heap→Prop)))(hist:List (Nat × Heap))(s:Slots)(h:Heap),(∀ i o,rest[i]? =some o→ops[k+i]? =some o)→drun P ow wf n ops k rest past hist K s h→
  ∃ (sk:Nat→Slots)(hk:Nat→Heap)(vk:Nat→PV)(br:Nat→Bool),sk k=s∧hk k=h∧K (sk (k+rest.length)) (hk (k+rest.length))∧
   (∀ j o,k≤j→j<k+rest.length→ops[j]? =some o→Loc5 P ow wf n ops k (k+rest.length) j o sk hk vk br)∧
   (∀ j o,k≤j→j<k+rest.length→ops[j]? =some o→isW ow wf o=false→wantedB ops (sk j) o=some true→ ∀ x∈hist,pre ops x.1 j=true∨Does P ow o (pev (sk j)) x.2 (vk j) x.2)∧
   (∀ j,k≤j→j<k+rest.length→br j=true→ ∀ x∈past,pre ops x.1 j=true∨x.2 (hk (j+1)))
 |[],k,past,hist,s,h,_,hr=>⟨fun _=>s,fun _=>h,fun _=> .emp,fun _=>false,rfl,rfl,hr,fun j o h1 h2=>by simp at h2;omega,fun j o h1 h2=>by simp at h2;omega,fun j h1 h2=>by simp at h2;omega⟩
 |o::rest,k,past,hist,s,h,hops,hr=>by
  have ho:ops[k]? =some o:=hops 0 o rfl;have hops2: ∀ i q,rest[i]? =some q→ops[k+1+i]? =some q:=fun i q hq=>by
   have:=hops (i+1) q (by simpa using hq);rw[show k+1+i=k+(i+1) by omega];exact this
  have hlen:k+1+rest.length=k+(o::rest).length:=by simp only[List.length_cons];omega
  unfold drun at hr;obtain⟨hdst,hr⟩:=hr;cases hw:wantedB ops s o with
  |none=>rw[hw]at hr;exact hr.elim
  |some b=>
   rw[hw]at hr;simp only at hr;cases b with
   |false=>
    simp only[Bool.false_eq_true,if_false]at hr;obtain⟨sk,hk,vk,br,e1,e2,e3,e4,e5,e6⟩:=drun_facts rest (k+1) _ _ _ _ hops2 hr;rw[hlen]at e3 e4 e5 e6;have hs: ∀ j,¬ j=k→(fun j=>if j=k then s else sk j) j=sk j:=fun j hj=>if_neg hj;refine⟨fun j=>if j=k then s else sk j,fun j=>if j=k then h else hk j,vk,fun j=>if j=k then false else br j,if_pos rfl,if_pos rfl,?_,fun j q hj hj2 hq=>?_,fun j q hj hj2 hq hW hwt x hx=>?_,fun j hj hj2 hb x hx=>?_⟩
    ·simp only[List.length_cons];rw[if_neg (by omega),if_neg (by omega)];simpa only[List.length_cons]using e3
    ·by_cases hjk:j=k
     ·subst hjk;rw[ho]at hq;obtain rfl:=Option.some.inj hq;refine⟨hdst,false,?_,fun _=>⟨?_,?_,?_⟩,fun hb=>by cases hb⟩
      ·simp only[if_true];exact hw
      ·simp only[if_true];rw[if_neg (by omega)];exact e1
      ·simp only[if_true];rw[if_neg (by omega)];exact e2
      ·simp only[if_true]
     ·obtain ⟨g1,b,g2,g3,g4⟩:=e4 j q (by omega) hj2 hq;refine⟨g1,b,?_,fun hb=>?_,fun hb=>?_⟩
      ·simp only[hjk,if_false];exact g2
      ·obtain ⟨q1,q2,q3⟩:=g3 hb;refine⟨?_,?_,?_⟩
       ·simp only[hjk,if_false];rw[if_neg (by omega)];exact q1
       ·simp only[hjk,if_false];rw[if_neg (by omega)];exact q2
       ·simp only[hjk,if_false];exact q3
      ·obtain ⟨q1,q2,q3⟩:=g4 hb;refine⟨?_,fun hW=>?_,fun hW=>?_⟩
       ·simp only[hjk,if_false];rw[if_neg (by omega)];exact q1
       ·obtain ⟨p1,p2,p3,p4,p5⟩:=q2 hW;refine⟨?_,?_,?_,fun i hi hij hbi=>?_,fun i hi hij hbi=>?_⟩
        ·simp only[hjk,if_false];rw[if_neg (by omega)];exact p1
        ·simp only[hjk,if_false];exact p2
        ·simp only[hjk,if_false];exact p3
        ·by_cases hik:i=k
         ·subst hik;simp only[if_true]at hbi;cases hbi
         ·simp only[hik,hjk,if_false]at hbi⊢;exact p4 i (by omega) hij hbi
        ·have hik:¬ i=k:=(by omega);have hik1:¬ i+1=k:=(by omega);simp only[hik,hik1,hjk,if_false]at hbi⊢;exact p5 i hi hij hbi
       ·obtain ⟨p1,p2⟩:=q3 hW;refine⟨?_,?_⟩
        ·simp only[hjk,if_false];exact p1
        ·simp only[hjk,if_false];rw[if_neg (by omega)];exact p2
    ·by_cases hjk:j=k
     ·subst hjk;rw[ho]at hq;obtain rfl:=Option.some.inj hq;simp only[if_true]at hwt;rw[hw]at hwt;cases hwt
     ·simp only[hjk,if_false]at hwt⊢;exact e5 j q (by omega) hj2 hq hW hwt x hx
    ·by_cases hjk:j=k
     ·subst hjk;simp only[if_true]at hb;cases hb
     ·simp only[hjk,if_false]at hb⊢;rw[if_neg (by omega)];exact e6 j (by omega) hj2 hb x hx
   |true=>
    simp only[if_true]at hr;by_cases hW0:isW ow wf o=true
    ·rw [if_pos hW0]at hr;obtain⟨v,h',hdo,hpast,hrec⟩:=hr;obtain⟨sk,hk,vk,br,e1,e2,e3,e4,e5,e6⟩:=drun_facts rest (k+1) _ _ _ _ hops2 hrec;rw[hlen]at e3 e4 e5 e6;refine⟨fun j=>if j=k then s else sk j,fun j=>if j=k then h else hk j,fun j=>if j=k then v else vk j,fun j=>if j=k then true else br j,if_pos rfl,if_pos rfl,?_,fun j q hj hj2 hq=>?_,fun j q hj hj2 hq hW hwt x hx=>?_,fun j hj hj2 hb x hx=>?_⟩
     ·simp only[List.length_cons];rw[if_neg (by omega),if_neg (by omega)];simpa only[List.length_cons]using e3
     ·by_cases hjk:j=k
      ·subst hjk;rw[ho]at hq;obtain rfl:=Option.some.inj hq;refine⟨hdst,true,?_,fun hb=>(by cases hb),fun _=>⟨?_,fun hW=>?_,fun hW=>⟨?_,?_⟩⟩⟩
       ·simp only[if_true];exact hw
       ·simp only[if_true];rw[if_neg (by omega)];exact e1
       ·rw [hW0]at hW;cases hW
       ·simp only[if_true]
       ·simp only[if_true];rw[if_neg (by omega),e2];exact hdo
      ·obtain ⟨g1,b,g2,g3,g4⟩:=e4 j q (by omega) hj2 hq;refine⟨g1,b,?_,fun hb=>?_,fun hb=>?_⟩
       ·simp only[hjk,if_false];exact g2
       ·obtain ⟨q1,q2,q3⟩:=g3 hb;refine⟨?_,?_,?_⟩
        ·simp only[hjk,if_false];rw[if_neg (by omega)];exact q1
        ·simp only[hjk,if_false];rw[if_neg (by omega)];exact q2
        ·simp only[hjk,if_false];exact q3
       ·subst hb;obtain⟨q1,q2,q3⟩:=g4 rfl;refine⟨?_,fun hW=>?_,fun hW=>?_⟩
        ·simp only[hjk,if_false];rw[if_neg (by omega)];exact q1
        ·obtain ⟨p1,p2,p3,p4,p5⟩:=q2 hW;refine⟨?_,?_,?_,fun i hi hij hbi=>?_,fun i hi hij hbi=>?_⟩
         ·simp only[hjk,if_false];rw[if_neg (by omega)];exact p1
         ·simp only[hjk,if_false];exact p2
         ·simp only[hjk,if_false];exact p3
         ·by_cases hik:i=k
          ·subst hik;simp only[hjk,if_false,if_true];exact e5 j q (by omega) hj2 hq hW g2 (i,h) (List.mem_cons_self ..)
          ·simp only[hik,hjk,if_false]at hbi⊢;exact p4 i (by omega) hij hbi
         ·have hik:¬ i=k:=(by omega);have hik1:¬ i+1=k:=(by omega);simp only[hik,hik1,hjk,if_false]at hbi⊢;exact p5 i hi hij hbi
        ·obtain ⟨p1,p2⟩:=q3 hW;refine⟨?_,?_⟩
         ·simp only[hjk,if_false];exact p1
         ·simp only[hjk,if_false];rw[if_neg (by omega)];exact p2
     ·by_cases hjk:j=k
      ·subst hjk;rw[ho]at hq;obtain rfl:=Option.some.inj hq;rw[hW0]at hW;cases hW
      ·simp only[hjk,if_false]at hwt⊢;exact e5 j q (by omega) hj2 hq hW hwt x (List.mem_cons_of_mem _ hx)
     ·by_cases hjk:j=k
      ·subst hjk;simp only[if_false];rw[if_neg (by omega),e2];exact hpast x hx
      ·simp only[hjk,if_false]at hb⊢;rw[if_neg (by omega)];exact e6 j (by omega) hj2 hb x hx
    ·rw [if_neg hW0]at hr;have hW1:isW ow wf o=false:=(by simpa using hW0);obtain⟨v,hdo,hhist,hrec⟩:=hr;obtain⟨sk,hk,vk,br,e1,e2,e3,e4,e5,e6⟩:=drun_facts rest (k+1) _ _ _ _ hops2 hrec;rw[hlen]at e3 e4 e5 e6;refine⟨fun j=>if j=k then s else sk j,fun j=>if j=k then h else hk j,fun j=>if j=k then v else vk j,fun j=>if j=k then false else br j,if_pos rfl,if_pos rfl,?_,fun j q hj hj2 hq=>?_,fun j q hj hj2 hq hW hwt x hx=>?_,fun j hj hj2 hb x hx=>?_⟩
     ·simp only[List.length_cons];rw[if_neg (by omega),if_neg (by omega)];simpa only[List.length_cons]using e3
     ·by_cases hjk:j=k
      ·subst hjk;rw[ho]at hq;obtain rfl:=Option.some.inj hq;refine⟨hdst,true,?_,fun hb=>(by cases hb),fun _=>⟨?_,fun hW=>⟨?_,?_,?_,fun i hi hij=>by omega,fun i hi hij hbi=>?_⟩,fun hW=>?_⟩⟩
       ·simp only[if_true];exact hw
       ·simp only[if_true];rw[if_neg (by omega)];exact e1
       ·simp only[if_true];rw[if_neg (by omega)];exact e2
       ·simp only[if_true]
       ·simp only[if_true];exact hdo
       ·have hik:¬ i=j:=(by omega);have hik1:¬ i+1=j:=(by omega);simp only[hik,hik1,if_false,if_true]at hbi⊢;exact e6 i (by omega) hij hbi (j,fun h'=>Does P ow o (pev s) h' v h') (List.mem_cons_self ..)
       ·rw [hW1]at hW;cases hW
      ·obtain ⟨g1,b,g2,g3,g4⟩:=e4 j q (by omega) hj2 hq;refine⟨g1,b,?_,fun hb=>?_,fun hb=>?_⟩
       ·simp only[hjk,if_false];exact g2
       ·obtain ⟨q1,q2,q3⟩:=g3 hb;refine⟨?_,?_,?_⟩
        ·simp only[hjk,if_false];rw[if_neg (by omega)];exact q1
        ·simp only[hjk,if_false];rw[if_neg (by omega)];exact q2
        ·simp only[hjk,if_false];exact q3
       ·obtain ⟨q1,q2,q3⟩:=g4 hb;refine⟨?_,fun hW=>?_,fun hW=>?_⟩
        ·simp only[hjk,if_false];rw[if_neg (by omega)];exact q1
        ·obtain ⟨p1,p2,p3,p4,p5⟩:=q2 hW;refine⟨?_,?_,?_,fun i hi hij hbi=>?_,fun i hi hij hbi=>?_⟩
         ·simp only[hjk,if_false];rw[if_neg (by omega)];exact p1
         ·simp only[hjk,if_false];exact p2
         ·simp only[hjk,if_false];exact p3
         ·by_cases hik:i=k
          ·subst hik;simp only[if_true]at hbi;cases hbi
          ·simp only[hik,hjk,if_false]at hbi⊢;exact p4 i (by omega) hij hbi
         ·have hik:¬ i=k:=(by omega);have hik1:¬ i+1=k:=(by omega);simp only[hik,hik1,hjk,if_false]at hbi⊢;exact p5 i hi hij hbi
        ·obtain ⟨p1,p2⟩:=q3 hW;refine⟨?_,?_⟩
         ·simp only[hjk,if_false];exact p1
         ·simp only[hjk,if_false];rw[if_neg (by omega)];exact p2
     ·by_cases hjk:j=k
      ·subst hjk;rw[ho]at hq;obtain rfl:=Option.some.inj hq;simp only[if_true];exact hhist x hx
      ·simp only[hjk,if_false]at hwt⊢;exact e5 j q (by omega) hj2 hq hW hwt x hx
     ·by_cases hjk:j=k
      ·subst hjk;simp only[if_true]at hb;cases hb
      ·simp only[hjk,if_false]at hb⊢;rw[if_neg (by omega)];exact e6 j (by omega) hj2 hb x (List.mem_cons_of_mem _ hx)
def preAll(ow:Nat→Bool)(wf:FuncId→Bool)(ops:List Oper)(c k:Nat):Bool:=(List.range c).all fun i=>!(wAt ow wf ops i)||pre ops i k
def Loc6(P:Program)(ow:Nat→Bool)(wf:FuncId→Bool)(n:Nat)(ops:List Oper)(c j:Nat)(o:Oper)(s s':Slots)(h h':Heap)(v:PV)(l:Option (Nat × AObj))(U:List Nat):Prop:=
 (U=[]∨preAll ow wf ops c j=true)∧o.dst.all (fun d=>decide (d<n))=true∧ ∃ b,wantedB ops s o=some b∧
  (b=false→s'=updO s o.dst (.sc undef)∧h'=h∧l=none)∧
  (b = true → s' = updO s o.dst v ∧
   (isW ow wf o=false→h'=h∧l=none∧ ∀ H:Heap,(∀ u∈U,H.obj u=h.obj u)→Does P ow o (pev s) H v H)∧
   (isW ow wf o=true→ ∃ t x y id r f ob,o.op= .store t x y∧pev s x= .ptr id r f∧l=some (id,ob)∧h'=h.set id ob∧(∀ f q,j<f→ops[f]? =some q→isA ow q=true→False)∧eff P (o.dst.any ow) o.op (pev s) h=some (v,h')))
def lsU(k:Nat)(ls:List (Nat × Nat)):Option (Nat × AObj)→List (Nat × Nat)
 |some p=>(k,p.1)::ls
 |none=>ls
def dr6(P:Program)(ow:Nat→Bool)(wf:FuncId→Bool)(n:Nat)(ops:List Oper)(c:Nat):Nat→List Oper→List (Nat × Nat)→List (Nat × List Nat)→(Slots→Heap→Prop)→Slots→Heap→Prop
 |_,[],_,_,K,s,h=>K s h
 | k, o :: rest, ls, qs, K, s, h => ∃ s' h' v l U, Loc6 P ow wf n ops c k o s s' h h' v l U ∧
   (∀ p,l=some p→(∀ x∈ls,pre ops x.1 k=true∨x.2≠p.1)∧(∀ x∈qs,pre ops x.1 k=true∨p.1 ∉ x.2))∧(∀ x∈ls,pre ops x.1 k=true∨x.2 ∉ U)∧
   dr6 P ow wf n ops c (k+1) rest (lsU k ls l) ((k,U)::qs) K s' h'
theorem dr6_facts{ops:List Oper}{c:Nat}{K:Slots→Heap→Prop}: ∀ (rest:List Oper)(k:Nat)(ls:List (Nat × Nat))(qs:List (Nat × List Nat))(s:Slots)(h:Heap),ops.drop k=rest→k≤ops.length→dr6 P ow wf n ops c k rest ls qs K s h→
  ∃ (sk:Nat→Slots)(hk:Nat→Heap)(vk:Nat→PV)(lt:Nat→Option (Nat × AObj))(Uk:Nat→List Nat),sk k=s∧hk k=h∧K (sk ops.length) (hk ops.length)∧
   (∀ j o,k≤j→ops[j]? =some o→Loc6 P ow wf n ops c j o (sk j) (sk (j+1)) (hk j) (hk (j+1)) (vk j) (lt j) (Uk j))∧
   (∀ j p,k≤j→j<ops.length→lt j=some p→(∀ x∈ls,pre ops x.1 j=true∨x.2≠p.1)∧(∀ x∈qs,pre ops x.1 j=true∨p.1 ∉ x.2))∧
   (∀ j,k≤j→j<ops.length→ ∀ x∈ls,pre ops x.1 j=true∨x.2 ∉ Uk j)∧
   (∀ i j p q,k≤i→i<j→j<ops.length→lt i=some p→lt j=some q→pre ops i j=true∨p.1≠q.1)∧
   (∀ i j p,k≤i→i<j→j<ops.length→lt i=some p→pre ops i j=true∨p.1 ∉ Uk j)∧
   (∀ i j p,k≤i→i<j→j<ops.length→lt j=some p→pre ops i j=true∨p.1 ∉ Uk i)
 |[],k,ls,qs,s,h,hd,hk,hr=>by
  have hl:ops.length≤k:=by simpa using hd
  have hke:k=ops.length:=by omega
  refine⟨fun _=>s,fun _=>h,fun _=> .emp,fun _=>none,fun _=>[],rfl,rfl,hr,fun j o hj ho=>?_,fun j p _ _ hp=>by simp at hp,fun j h1 h2=>by omega,fun i j p q _ _ _ hp=>by simp at hp,fun i j p _ _ _ hp=>by simp at hp,fun i j p _ _ _ hp=>by simp at hp⟩;have:=(List.getElem?_eq_some_iff.1 ho).1;omega
 |o::rest,k,ls,qs,s,h,hd,hk,hr=>by
  have ho:ops[k]? =some o:=by
   have:(ops.drop k)[0]? =some o:=(by rw[hd];try rfl);simpa using this
  have hkl:k<ops.length:=(List.getElem?_eq_some_iff.1 ho).1;have hd2:ops.drop (k+1)=rest:=by
   have:=List.drop_eq_getElem_cons hkl;rw[hd]at this;simp only[List.cons.injEq]at this;exact this.2.symm
  obtain⟨s',h',v,l,U,hloc,hls,hU,hrec⟩:=hr;obtain⟨sk,hk',vk,lt,Uk,e1,e2,e3,e4,e5,e6,e7,e8,e9⟩:=dr6_facts rest (k+1) _ _ s' h' hd2 (by omega) hrec;have hls2: ∀ x∈ls,x∈lsU k ls l:=fun x hx=>by
   cases l with
   |none=>exact hx
   |some y=>exact List.mem_cons_of_mem _ hx
  refine⟨fun j=>if j=k then s else sk j,fun j=>if j=k then h else hk' j,fun j=>if j=k then v else vk j,fun j=>if j=k then l else lt j,fun j=>if j=k then U else Uk j,by simp,by simp,?_,fun j q hj hq=>?_,fun j p hj hjl hp=>?_,fun j hj hjl x hx=>?_,fun i j p q hi hij hjl hp hq=>?_,fun i j p hi hij hjl hp=>?_,fun i j p hi hij hjl hp=>?_⟩
  ·simp only;rw[if_neg (by omega),if_neg (by omega)];exact e3
  ·by_cases hjk:j=k
   ·subst hjk;rw[ho]at hq;simp only[Option.some.injEq]at hq;subst hq;simp only[if_true];rw[if_neg (by omega),if_neg (by omega),e1,e2];exact hloc
   ·simp only[hjk,if_false];rw[if_neg (by omega),if_neg (by omega)];exact e4 j q (by omega) hq
  ·by_cases hjk:j=k
   ·subst hjk;simp only[if_true]at hp;exact hls p hp
   ·simp only[hjk,if_false]at hp;exact⟨fun x hx=>(e5 j p (by omega) hjl hp).1 x (hls2 x hx),fun x hx=>(e5 j p (by omega) hjl hp).2 x (List.mem_cons_of_mem _ hx)⟩
  ·by_cases hjk:j=k
   ·subst hjk;simp only[if_true];exact hU x hx
   ·simp only[hjk,if_false];exact e6 j (by omega) hjl x (hls2 x hx)
  ·have hjk:¬ j=k:=(by omega);simp only[hjk,if_false]at hq;by_cases hik:i=k
   ·subst hik;simp only[if_true]at hp;subst hp;exact(e5 j q (by omega) hjl hq).1 (i,p.1) (List.mem_cons_self ..)
   ·simp only[hik,if_false]at hp;exact e7 i j p q (by omega) hij hjl hp hq
  ·have hjk:¬ j=k:=(by omega);simp only[hjk,if_false];by_cases hik:i=k
   ·subst hik;simp only[if_true]at hp;subst hp;exact e6 j (by omega) hjl (i,p.1) (List.mem_cons_self ..)
   ·simp only[hik,if_false]at hp;exact e8 i j p (by omega) hij hjl hp
  ·have hjk:¬ j=k:=(by omega);simp only[hjk,if_false]at hp;by_cases hik:i=k
   ·subst hik;simp only[if_true];exact(e5 j p (by omega) hjl hp).2 (i,U) (List.mem_cons_self ..)
   ·simp only[hik,if_false];exact e9 i j p (by omega) hij hjl hp
theorem killL_nil(H:Heap):killL H []=H:=by
 unfold killL;cases H;simp
theorem putL_nil(h' H:Heap):putL h' H []=h':=by
 unfold putL;cases h';simp
theorem lobK_none{lt:Nat→Option (Nat × AObj)}{p:Nat→Bool}{H:Heap}: ∀ m,(∀ f,f<m→(lt f).isSome=true→p f=false)→lob lt p H m=H
 |0,_=>rfl
 |m+1,h=>by
  have ih:=lobK_none (lt:=lt) (p:=p) (H:=H) m fun f hf=>h f (by omega);unfold lob;cases q:lt m with
  |none=>exact ih
  |some x=>
   simp only;rw[if_neg (by rw[h m (by omega) (by rw[q];try rfl)];simp)];exact ih
theorem dwp3_of5{ops:List Oper}{c:Nat}{K:Slots→Heap→Prop}{s:Slots}{h:Heap}(hd:dOk5 ow wf ops c=true)
  (hr:drun P ow wf n ops 0 (ops.take c) [] [] (fun s' h'=>dr6 P ow wf n ops c c (ops.drop c) [] [] K s' h') s ⟨h.next+ops.length,h.obj⟩):dwp3 P ow wf n ops K s h:=by
 unfold dOk5 at hd;simp only[Bool.and_eq_true,decide_eq_true_eq]at hd;obtain⟨⟨⟨hd3,hc⟩,hp⟩,hA⟩:=hd;have htl:(ops.take c).length=c:=by rw[List.length_take];omega
 have P1: ∀ i f,i<c→f<ops.length→i<f→f<c→((wAt ow wf ops i&&wAt ow wf ops f)=false∨pre ops i f=true)∧(wAt ow wf ops i&&aAt ow ops f)=false:=fun i f hi hf hif hfc=>by
  have:=(Bool.and_eq_true _ _ ▸ (List.all_eq_true.1 (List.all_eq_true.1 hp i (List.mem_range.2 hi)) f (List.mem_range.2 hf))).1;rw[decide_eq_true hif,decide_eq_true hfc]at this;revert this;cases wAt ow wf ops i<;>cases wAt ow wf ops f<;>cases aAt ow ops f<;>cases pre ops i f<;>simp
 have P2: ∀ i f,i<c→f<ops.length→c≤f→wAt ow wf ops f=true→pre ops i f=true∧pre ops f i=false:=fun i f hi hf hcf hw=>by
  have:=(Bool.and_eq_true _ _ ▸ (List.all_eq_true.1 (List.all_eq_true.1 hp i (List.mem_range.2 hi)) f (List.mem_range.2 hf))).2;rw[decide_eq_true hcf,hw]at this;simpa using this
 have P3: ∀ f,f<ops.length→c≤f→aAt ow ops f=false:=fun f hf hcf=>by
  have:=List.all_eq_true.1 hA f (List.mem_range.2 hf);rw[decide_eq_true hcf]at this;simpa using this
 obtain⟨ska,hka,vka,br,a1,a2,a3,a4,_,_⟩:=drun_facts (ops.take c) 0 [] [] s _ (fun i o ho=>by
  rw[Nat.zero_add];rw[List.getElem?_take]at ho;split at ho
  ·exact ho
  ·cases ho) hr
 rw[htl,Nat.zero_add]at a3 a4;obtain⟨skb,hkb,vkb,lt,Uk,b1,b2,b3,b4,_,_,b6,b7,b8⟩:=dr6_facts (ops.drop c) c [] [] _ _ rfl hc a3;have hltn: ∀ f,(if f<c then none else lt f:Option (Nat × AObj)).isSome=true→c≤f:=fun f hf=>by
  by_cases hfc:f<c
  ·rw [if_pos hfc]at hf;cases hf
  ·omega
 have hltw: ∀ f o,c≤f→ops[f]? =some o→(lt f).isSome=true→isW ow wf o=true:=fun f o hcf ho hl=>by
  obtain⟨_,_,b,_,g3,g4⟩:=b4 f o hcf ho;cases b with
  |false=>rw[(g3 rfl).2.2]at hl;cases hl
  |true=>
   cases hw:isW ow wf o with
   |true=>rfl
   |false=>rw[((g4 rfl).2.1 hw).2.1]at hl;cases hl
 have hwAt: ∀ f o,ops[f]? =some o→wAt ow wf ops f=isW ow wf o:=fun f o ho=>by unfold wAt;rw[ho];try rfl
 have haAt: ∀ f o,ops[f]? =some o→aAt ow ops f=isA ow o:=fun f o ho=>by unfold aAt;rw[ho];try rfl
 have hltp: ∀ j f,j<c→f<ops.length→(if f<c then none else lt f:Option (Nat × AObj)).isSome=true→pre ops j f=true∧pre ops f j=false:=fun j f hj hf hs=>by
  have hcf:=hltn f hs;rw[if_neg (by omega)]at hs;exact P2 j f hj hf hcf (by rw[hwAt f _ (List.getElem?_eq_getElem hf)];exact hltw f _ hcf (List.getElem?_eq_getElem hf) hs)
 have hkx: ∀ j,j<c→kx ow ops (fun f=>if f<c then none else lt f) j=[]:=fun j hj=>by
  unfold kx;rw[List.filterMap_eq_nil_iff];intro f hf;have hf:=List.mem_range.1 hf;split
  ·rename_i hcond;show Option.map _ (if f<c then none else lt f:Option (Nat × AObj))=none;cases q:(if f<c then none else lt f:Option (Nat × AObj))with
   |none=>rfl
   |some x=>
    exfalso;have hsm:(if f<c then none else lt f:Option (Nat × AObj)).isSome=true:=(by rw[q];try rfl);have h1:=hltp j f hj hf hsm;have h2:=P3 f hf (hltn f hsm);unfold aAt at h2;rw[h1.1,h1.2,h2]at hcond;simp at hcond
  ·rfl
 -- what does not change the heap, at another cut
 have down: ∀ j o,j<c→ops[j]? =some o→isW ow wf o=false→wantedB ops (ska j) o=some true→ ∀ d M,M+d=j→(∀ b,M≤b→b<j→br b=true→pre ops b j=false)→Does P ow o (pev (ska j)) (hka M) (vka j) (hka M):=fun j o hj ho hW hw d=>by
  obtain⟨_,b,g2,_,g4⟩:=a4 j o (Nat.zero_le _) hj ho;rw[hw]at g2;obtain rfl:=Option.some.inj g2;obtain⟨_,_,p3,p4,_⟩:=(g4 rfl).2.1 hW
  induction d with
  |zero=>intro M hM _;rw[Nat.add_zero]at hM;rw[hM];exact p3
  |succ d ih=>
   intro M hM hcut;cases hb:br M with
   |true=>
    rcases p4 M (Nat.zero_le _) (by omega) hb with h1|h1
    ·rw [hcut M (Nat.le_refl _) (by omega) hb]at h1;cases h1
    ·exact h1
   |false=>
    have hMl:M<ops.length:=(by omega);obtain⟨_,b2,_,q3,q4⟩:=a4 M _ (Nat.zero_le _) (by omega) (List.getElem?_eq_getElem hMl);have e:hka (M+1)=hka M:=by
     cases b2 with
     |false=>exact(q3 rfl).2.1
     |true=>
      cases hw2:isW ow wf ops[M]with
      |false=>exact((q4 rfl).2.1 hw2).1
      |true=>rw[((q4 rfl).2.2 hw2).1]at hb;cases hb
    rw[← e];exact ih (M+1) (by omega) fun b hb1 hb2 hb3=>hcut b (by omega) hb2 hb3
 have up: ∀ j o,j<c→ops[j]? =some o→isW ow wf o=false→wantedB ops (ska j) o=some true→ ∀ d,j+1+d≤c→(∀ b,b<j+1+d→br b=true→pre ops j b=false)→Does P ow o (pev (ska j)) (hka (j+1+d)) (vka j) (hka (j+1+d)):=fun j o hj ho hW hw d=>by
  obtain⟨_,b,g2,_,g4⟩:=a4 j o (Nat.zero_le _) hj ho;rw[hw]at g2;obtain rfl:=Option.some.inj g2;obtain⟨p1,_,p3,_,p5⟩:=(g4 rfl).2.1 hW
  induction d with
  |zero=>intro _ _;rw[Nat.add_zero,p1];exact p3
  |succ d ih=>
   intro hdc hcut;cases hb:br (j+1+d)with
   |true=>
    rcases p5 (j+1+d) (by omega) (by omega) hb with h1|h1
    ·rw [hcut _ (by omega) hb]at h1;cases h1
    ·exact h1
   |false=>
    have hMl:j+1+d<ops.length:=(by omega);obtain⟨_,b2,_,q3,q4⟩:=a4 (j+1+d) _ (Nat.zero_le _) (by omega) (List.getElem?_eq_getElem hMl);have e:hka (j+1+d+1)=hka (j+1+d):=by
     cases b2 with
     |false=>exact(q3 rfl).2.1
     |true=>
      cases hw2:isW ow wf ops[j+1+d]with
      |false=>exact((q4 rfl).2.1 hw2).1
      |true=>rw[((q4 rfl).2.2 hw2).1]at hb;cases hb
    rw[show j+1+(d+1)=j+1+d+1 by omega,e];exact ih (by omega) fun b hb1 hb3=>hcut b (by omega) hb3
 have hbrw: ∀ j o,j<c→ops[j]? =some o→br j=true→isW ow wf o=true:=fun j o hj ho hb=>by
  obtain⟨_,b,_,g3,g4⟩:=a4 j o (Nat.zero_le _) hj ho;cases b with
  |false=>rw[(g3 rfl).2.2]at hb;cases hb
  |true=>
   cases hw:isW ow wf o with
   |true=>rfl
   |false=>rw[((g4 rfl).2.1 hw).2.1]at hb;cases hb
 refine⟨hd3,fun j=>if j<c then ska j else skb j,fun j=>if j<c then hka j else hkb j,fun j=>if j<c then vka j else vkb j,fun f=>if f<c then none else lt f,fun j=>if j<c then br j else false,?_,?_,?_,⟨fun j o ho=>?_,fun i j hij hj hi hj2=>?_⟩⟩
 ·by_cases h0:0<c
  ·simp only[h0,if_true];exact a1
  ·have:c=0:=(by omega);subst this;simp only[Nat.lt_irrefl,if_false];rw[b1];exact a1
 ·by_cases h0:0<c
  ·simp only[h0,if_true];exact a2
  ·have:c=0:=(by omega);subst this;simp only[Nat.lt_irrefl,if_false];rw[b2];exact a2
 ·have:¬ ops.length<c:=by omega
  simp only[this,if_false];exact b3
 ·have hjl:j<ops.length:=(List.getElem?_eq_some_iff.1 ho).1;have es: ∀ j,j<c→(if j+1<c then ska (j+1)else skb (j+1))=ska (j+1):=fun j hj=>by
   by_cases h1:j+1<c
   ·rw [if_pos h1]
   ·rw [if_neg h1];have:j+1=c:=(by omega);rw[this,b1]
  have eh: ∀ j,j<c→(if j+1<c then hka (j+1)else hkb (j+1))=hka (j+1):=fun j hj=>by
   by_cases h1:j+1<c
   ·rw [if_pos h1]
   ·rw [if_neg h1];have:j+1=c:=(by omega);rw[this,b2]
  have ehM: ∀ M,M≤c→(if M<c then hka M else hkb M)=hka M:=fun M hM=>by
   by_cases h1:M<c
   ·rw [if_pos h1]
   ·rw [if_neg h1];have:M=c:=(by omega);rw[this,b2]
  by_cases hjc:j<c
  ·obtain ⟨g1,b,g2,g3,g4⟩:=a4 j o (Nat.zero_le _) hjc ho;refine⟨g1,b,?_,fun hb=>?_,fun hb=>?_⟩
   ·simp only[hjc,if_true];exact g2
   ·obtain ⟨q1,q2,q3⟩:=g3 hb;simp only[hjc,if_true];rw[es j hjc,eh j hjc];exact⟨q1,q2,trivial,q3⟩
   ·subst hb;obtain⟨q1,q2,q3⟩:=g4 rfl;refine⟨?_,fun hW=>?_,fun hW=> .inl ?_⟩
    ·simp only[hjc,if_true];rw[es j hjc];exact q1
    ·obtain ⟨p1,p2,p3,p4,p5⟩:=q2 hW;refine⟨?_,?_,?_,fun M hM=>⟨[],fun id hid=>?_,?_⟩⟩
     ·simp only[hjc,if_true];rw[eh j hjc];exact p1
     ·simp only[hjc,if_true]
     ·simp only[hjc,if_true];exact p2
     ·rw [hkx j hjc]at hid;exact hid
     ·obtain ⟨m1,m2,m3,m4⟩:=hM;have hMc:M≤c:=by
       rcases m4 with h0|h0
       ·omega
       ·by_cases h1:M-1<c
        ·omega
        ·simp only[h1,if_false]at h0;cases h0
      have hg:gx ops (fun f=>if f<c then none else lt f) (fun j=>if j<c then hka j else hkb j) j M []=hka M:=by
       unfold gx;rw[killL_nil,lobK_none ops.length (fun f hf hs=>by rw[(hltp j f hjc hf hs).2,Bool.and_false])];exact ehM M hMc
      rw[hg];simp only[hjc,if_true];have hcd: ∀ b,M≤b→b<j→br b=true→pre ops b j=false:=fun b hb1 hb2 hb3=>by
       refine m3 b hb1 ?_;have:b<c:=(by omega);simp only[this,if_true];exact hb3
      have hcu: ∀ b,b<M→br b=true→pre ops j b=false:=fun b hb1 hb3=>by
       refine m2 b hb1 ?_;have:b<c:=(by omega);simp only[this,if_true];exact hb3
      by_cases hMj:M≤j
      ·exact down j o hjc ho hW g2 (j-M) M (by omega) hcd
      ·obtain ⟨d,rfl⟩: ∃ d,M=j+1+d:=⟨M-(j+1),by omega⟩;exact up j o hjc ho hW g2 d hMc hcu
    ·obtain ⟨p1,p2⟩:=q3 hW;simp only[hjc,if_true];rw[eh j hjc,hkx j hjc,killL_nil];refine⟨p1,trivial,⟨hka (j+1),p2,fun id hid=>(by cases hid),(by rw[putL_nil])⟩,fun f q hf hq ha=>?_⟩;exfalso;have hfl:=(List.getElem?_eq_some_iff.1 hq).1;have ha2:=haAt f q hq;rw[ha]at ha2;by_cases hfc:f<c
     ·have:=(P1 j f hjc hfl hf hfc).2;rw[ha2,hwAt j o ho,hW]at this;cases this
     ·rw [P3 f hfl (by omega)]at ha2;cases ha2
  ·obtain ⟨g0,g1,b,g2,g3,g4⟩:=b4 j o (by omega) ho;have hj1:¬ j+1<c:=(by omega);refine⟨g1,b,?_,fun hb=>?_,fun hb=>?_⟩
   ·simp only[hjc,if_false];exact g2
   ·obtain ⟨q1,q2,q3⟩:=g3 hb;simp only[hjc,hj1,if_false];exact⟨q1,q2,q3,trivial⟩
   ·obtain ⟨q1,q2,q3⟩:=g4 hb;refine⟨?_,fun hW=>?_,fun hW=>?_⟩
    ·simp only[hjc,hj1,if_false];exact q1
    ·obtain ⟨m1,m2,m3⟩:=q2 hW;simp only[hjc,hj1,if_false];refine⟨m1,m2,trivial,fun M hM=>⟨_,fun _ hx=>hx,m3 _ fun u hu=>?_⟩⟩;rcases g0 with g0|g0
     ·rw [g0]at hu;cases hu
     obtain⟨n1,n2,n3,n4⟩:=hM;have hMc:M≤c:=by
      rcases n4 with h0|h0
      ·omega
      ·by_cases h1:M-1<c
       ·omega
       ·simp only[h1,if_false]at h0;cases h0
     have hnb: ∀ b,M≤b→b<c→br b=false:=fun b hb1 hb2=>by
      cases hb:br b with
      |false=>rfl
      |true=>
       have h1:=n3 b hb1 (by simp only[hb2,if_true];exact hb);have hbl:b<ops.length:=(by omega);have h2:=List.all_eq_true.1 g0 b (List.mem_range.2 hb2);rw[hwAt b _ (List.getElem?_eq_getElem hbl),hbrw b _ hb2 (List.getElem?_eq_getElem hbl) hb,h1]at h2;cases h2
     have hMe: ∀ d,M+d≤c→hka (M+d)=hka M:=by
      intro d
      induction d with
      |zero=>intro _;rfl
      |succ d ih=>
       intro hdc;have hMl:M+d<ops.length:=(by omega);obtain⟨_,b2,_,q3,q4⟩:=a4 (M+d) _ (Nat.zero_le _) (by omega) (List.getElem?_eq_getElem hMl);have e:hka (M+d+1)=hka (M+d):=by
        cases b2 with
        |false=>exact(q3 rfl).2.1
        |true=>
         cases hw2:isW ow wf ops[M+d]with
         |false=>exact((q4 rfl).2.1 hw2).1
         |true=>have:=hnb (M+d) (by omega) (by omega);rw[((q4 rfl).2.2 hw2).1]at this;cases this
       rw[show M+(d+1)=M+d+1 by omega,e];exact ih (by omega)
     have hMh:hka M=hkb c:=by
      rw[b2, ← hMe (c-M) (by omega),show M+(c-M)=c by omega]
     have hlob: ∀ m,m≤ops.length→(lob (fun f=>if f<c then none else lt f) (fun f=>decide (M≤f)&&pre ops f j) (hka M) m).obj u=(hkb (if m<c then c else if m<j then m else j)).obj u:=by
      intro m
      induction m with
      |zero=>
       intro _;have hz:(lob (fun f=>if f<c then none else lt f) (fun f=>decide (M≤f)&&pre ops f j) (hka M) 0)=hka M:=rfl;rw[hz,hMh];by_cases h0:0<c
       ·rw [if_pos h0]
       ·have:c=0:=(by omega);subst this;rw[if_neg (by omega)];by_cases h1:0<j
        ·rw [if_pos h1]
        ·have:j=0:=(by omega);rw[if_neg h1,this]
      |succ m ih=>
       intro hml;have ih:=ih (by omega);unfold lob;by_cases hmc:m<c
       ·rw [if_pos hmc]at ih;simp only[hmc,if_true];rw[ih];by_cases h1:m+1<c
        ·rw [if_pos h1]
        ·have:m+1=c:=(by omega);rw[if_neg h1];by_cases h2:m+1<j
         ·rw [if_pos h2,this]
         ·rw [if_neg h2];have:j=c:=(by omega);rw[this]
       ·rw [if_neg hmc]at ih;simp only[hmc,if_false];rw[if_neg (by omega:¬ m+1<c)];have hmo:m<ops.length:=(by omega);obtain⟨_,_,b2,_,r3,r4⟩:=b4 m _ (by omega) (List.getElem?_eq_getElem hmo);by_cases hmj:m<j
        ·rw [if_pos hmj]at ih;have hnx:(if m+1<j then m+1 else j)=m+1:=by
          by_cases h1:m+1<j
          ·rw [if_pos h1]
          ·rw [if_neg h1];omega
         rw[hnx];cases hlm:lt m with
         |none=>
          simp only;rw[ih];have e:hkb (m+1)=hkb m:=by
           cases b2 with
           |false=>exact(r3 rfl).2.1
           |true=>
            cases hw2:isW ow wf ops[m]with
            |false=>exact((r4 rfl).2.1 hw2).1
            |true=>obtain⟨_,_,_,_,_,_,_,_,_,z,_⟩:=(r4 rfl).2.2 hw2;rw[hlm]at z;cases z
          rw[e]
         |some q=>
          simp only;have e:hkb (m+1)=(hkb m).set q.1 q.2:=by
           cases b2 with
           |false=>have:=(r3 rfl).2.2;rw[hlm]at this;cases this
           |true=>
            cases hw2:isW ow wf ops[m]with
            |false=>have:=((r4 rfl).2.1 hw2).2.1;rw[hlm]at this;cases this
            |true=>
             obtain⟨_,_,_,_,_,_,_,_,_,z,z2,_⟩:=(r4 rfl).2.2 hw2;rw[hlm]at z;simp only[Option.some.injEq]at z;rw[z2,z]
          rw[e];by_cases hqu:u=q.1
          ·rcases b7 m j q (by omega) hmj hjl hlm with h1|h1
           ·rw [decide_eq_true (by omega:M≤m),h1,hqu];simp[Heap.set]
           ·exact absurd (hqu ▸ hu) h1
          ·split
           ·simp only[Heap.set];rw[if_neg hqu,if_neg hqu];exact ih
           ·simp only[Heap.set];rw[if_neg hqu];exact ih
        ·rw [if_neg hmj]at ih;rw[if_neg (by omega:¬ m+1<j)];cases hlm:lt m with
         |none=>exact ih
         |some q=>
          simp only;by_cases hqu:u=q.1
          ·have hpf:pre ops m j=false:=by
            by_cases hmj2:m=j
            ·exfalso;subst hmj2;rw[m2]at hlm;cases hlm
            ·rcases b8 j m q (by omega) (by omega) hmo hlm with h1|h1
             ·cases h2:pre ops m j with
              |false=>rfl
              |true=>have:=pre_lt3 (DOk3.of hd3) j m hjl h2;omega
             ·exact absurd (hqu ▸ hu) h1
           rw[hpf,Bool.and_false];simp only[Bool.false_eq_true,if_false];exact ih
          ·split
           ·simp only[Heap.set];rw[if_neg hqu];exact ih
           ·exact ih
     have hkn:(kx ow ops (fun f=>if f<c then none else lt f) j).contains u=false:=by
      cases hct:(kx ow ops (fun f=>if f<c then none else lt f) j).contains u with
      |false=>rfl
      |true=>
       exfalso;have hmem:u∈kx ow ops (fun f=>if f<c then none else lt f) j:=(by simpa using hct);unfold kx at hmem;obtain⟨f,hf,he⟩:=List.mem_filterMap.1 hmem;have hfl:=List.mem_range.1 hf;split at he
       ·rename_i hcond;by_cases hfc:f<c
        ·simp only[hfc,if_true,Option.map_none]at he;cases he
        ·simp only[hfc,if_false]at he;obtain⟨q,hq,hq2⟩:=Option.map_eq_some_iff.1 he;simp only[Bool.and_eq_true,Bool.not_eq_true',Bool.or_eq_true,beq_eq_false_iff_ne]at hcond;have hA2:=P3 f hfl (by omega);unfold aAt at hA2;rw[hA2]at hcond;obtain⟨⟨hne,hp1⟩,hp2⟩:=hcond;have hp2:pre ops j f=false:=(by rcases hp2 with h|h;exact h;cases h);by_cases hfj:f<j
         ·rcases b7 f j q (by omega) hfj hjl hq with h1|h1
          ·rw [h1]at hp1;cases hp1
          ·exact h1 (hq2 ▸ hu)
         ·rcases b8 j f q (by omega) (by omega) hfl hq with h1|h1
          ·rw [h1]at hp2;cases hp2
          ·exact h1 (hq2 ▸ hu)
       ·cases he
     have hcut:(if M<c then hka M else hkb M)=hka M:=ehM M hMc;show(gx ops (fun f=>if f<c then none else lt f) (fun j=>if j<c then hka j else hkb j) j M _).obj u=_;unfold gx killL;simp only[hkn,Bool.false_eq_true,if_false];rw[hcut,hlob ops.length (Nat.le_refl _),if_neg (by omega),if_neg (by omega)]
    ·simp only[hjc,hj1,if_false];obtain⟨t,x,y,id,r,f,ob,m1,m2,m3,m4,m5,m6⟩:=q3 hW;exact .inr (.inr ⟨trivial,t,x,y,id,r,f,ob,m1,m2,m3,m4,fun f q hf hq ha=>(m5 f q hf hq ha).elim,m6⟩)
 ·have hil:i<ops.length:=by omega
  by_cases hjc:j<c
  ·have hic:i<c:=(by omega);simp only[hjc,hic,if_true]at hi hj2;have hi':br i=true:=hi.resolve_right (by simp);have hj':br j=true:=hj2.resolve_right (by simp);rcases(P1 i j hic hj hij hjc).1 with h1|h1
   ·rw [hwAt i _ (List.getElem?_eq_getElem hil),hwAt j _ (List.getElem?_eq_getElem hj),hbrw i _ hic (List.getElem?_eq_getElem hil) hi',hbrw j _ hjc (List.getElem?_eq_getElem hj) hj']at h1;cases h1
   ·exact .inl h1
  ·simp only[hjc,if_false]at hj2;have hj':(lt j).isSome=true:=hj2.resolve_left (by simp);by_cases hic:i<c
   ·exact .inl (P2 i j hic hj (by omega) (by rw[hwAt j _ (List.getElem?_eq_getElem hj)];exact hltw j _ (by omega) (List.getElem?_eq_getElem hj) hj')).1
   ·simp only[hic,if_false]at hi;have hi':(lt i).isSome=true:=hi.resolve_left (by simp);obtain⟨p,hp⟩:=Option.isSome_iff_exists.1 hi';obtain⟨q,hq⟩:=Option.isSome_iff_exists.1 hj';rcases b6 i j p q (by omega) hij hj hp hq with h1|h1
    ·exact .inl h1
    ·refine .inr (.inl ⟨p,q,?_,?_,h1⟩)
     ·simp only[hic,if_false];exact hp
     ·simp only[hjc,if_false];exact hq
theorem a_draw5{Q:Post}{s:Slots}{h:Heap}{id:Nat}{ops:List Oper}(c:Nat)(hd:dOk5 ow wf ops c=true)
  (hk: ∀ K:Slots→Heap→Prop,(∀ s h,Q .normal s h→K s h)→drn P ow wf n ops 0 (ops.take c) [] [] (fun s' h'=>dr6 P ow wf n ops c c (ops.drop c) [] [] K s' h') s ⟨h.next+ops.length,h.obj⟩):awp P ow wf n (.region id ops.toArray true) Q s h:=by
 simp only[awp,if_true];exact⟨_,_,.refl,.inr (.inr (dwp3_of5 hd (drn_drun _ _ _ _ _ _ (hk _ fun _ _ hq=>hq))))⟩
variable {ops rest:List Oper}{c k:Nat}{o:Oper}{ls:List (Nat × Nat)}{qs:List (Nat × List Nat)}{K:Slots→Heap→Prop}{s:Slots}{h:Heap}
theorem d6_end(hK:K s h):dr6 P ow wf n ops c k [] ls qs K s h:=hK
theorem d6_quiet(v:PV)(U:List Nat)(hU:U=[]∨preAll ow wf ops c k=true)(hd:o.dst.all (fun d=>decide (d<n))=true)(hw:wantedB ops s o=some true)(hW:isW ow wf o=false)(he: ∀ H:Heap,(∀ u∈U,H.obj u=h.obj u)→Does P ow o (pev s) H v H)(hl: ∀ x∈ls,pre ops x.1 k=true∨x.2 ∉ U)
  (hk:dr6 P ow wf n ops c (k+1) rest ls ((k,U)::qs) K (updO s o.dst v) h):dr6 P ow wf n ops c k (o::rest) ls qs K s h:=
 ⟨_,_,v,none,U,⟨hU,hd,true,hw,fun hb=>(by cases hb),fun _=>⟨rfl,fun _=>⟨rfl,rfl,he⟩,fun hw2=>(by rw[hW]at hw2;cases hw2)⟩⟩,fun p hp=>(by cases hp),hl,hk⟩
theorem d6_store{t:TypeId}{x y:Operand}{id r f:Nat}{ob:AObj}{v:PV}(hop:o.op= .store t x y)(hd:o.dst.all (fun d=>decide (d<n))=true)(hw:wantedB ops s o=some true)(hx:pev s x= .ptr id r f)(he:eff P (o.dst.any ow) (.store t x y) (pev s) h=some (v,h.set id ob))
  (hlate: ∀ f q,k<f→ops[f]? =some q→isA ow q=true→False)(hls: ∀ x∈ls,pre ops x.1 k=true∨x.2≠id)(hqs: ∀ x∈qs,pre ops x.1 k=true∨id ∉ x.2)
  (hk:dr6 P ow wf n ops c (k+1) rest ((k,id)::ls) ((k,[])::qs) K (updO s o.dst v) (h.set id ob)):dr6 P ow wf n ops c k (o::rest) ls qs K s h:=by
 refine⟨_,_,v,some (id,ob),[],⟨.inl rfl,hd,true,hw,fun hb=>(by cases hb),fun _=>⟨rfl,fun hw2=>?_,fun _=>⟨t,x,y,id,r,f,ob,hop,hx,rfl,rfl,hlate,by rw[hop];exact he⟩⟩⟩,fun p hp=>?_,fun x _=> .inr (by simp),hk⟩
 ·unfold isW at hw2;rw[hop]at hw2;simp at hw2
 ·simp only[Option.some.injEq]at hp;subst hp;exact⟨hls,hqs⟩
end
end Go.AM
namespace Go.Proofs.YtblgchkahpgdjaaGreat
open Go.AM
set_option maxHeartbeats 8000000
set_option maxRecDepth 20000
theorem digits_c{h:Heap}{n:Int}:PCall Tryz.prog 44 [.sc (.int .i64 n)] h fun r h'=>r= .agg (numM n).cells∧h'=h:=by
 refine PCall.frz Ty.hb_44 ?_;refine uG0 Tryz.func44 Tryz.ntmps44 Tryz.results44 Ty.hb_44 ?_;refine wt trivial ?_;refine⟨?_,((Grow.refl h).new _).set (Nat.le_refl _) _⟩;simp only[numM,Sx.cells,Sx.rows,FrzTo,FrzL];exact⟨_,rfl,rfl,rfl,rfl,rfl,rfl,.inr (.inl ⟨rfl,.inr rfl⟩),trivial⟩
abbrev xO(j k:Nat):AObj:= .arr 6 [[.sc (.int .i64 3),.sc (.int .i64 0),.sc (.int .i64 0),.sc (.int .i64 0),.sc (.string ⟨#[]⟩),.own j 0 k]]
def partH(h:Heap)(xi j:Nat)(L:List Sx):Heap:=⟨h.next+18+1,fun i=>if i=xi then some (xO (h.next+18) L.length)else if i=h.next+18 then some (.arr 6 (Sx.rows L))else if i=j then none else if i<h.next then h.obj i else none⟩
theorem part_c{h:Heap}{xi j:Nat}{L:List Sx}{kw:ByteArray}{v:Sx}{m:Bool}(hx:h.obj xi=some (xO j L.length))(hj:h.obj j=some (.arr 6 (Sx.rows L)))(hne:xi≠j)(hxl:xi<h.next)(hjl:j<h.next)(hL:L.length≤1048576):
  PCall Tryz.prog 97 [.ptr xi 0 0,.sc (.bool m),sPV kw,.agg v.cells] h fun r h'=>r=resV []∧h'=(if m=true then h else partH h xi j (L++[wordM kw,v])):=by
 have hw: ∀ (s:ByteArray)(h:Heap),PCall Tryz.prog 40 [sPV s] h fun r h'=>r= .agg (wordM s).cells∧h'=h:=fun s h=>dword_c;simp only[wordM,Sx.cells,Sx.rows]at hw;obtain⟨vk,vv,vl,vc,vt,vs⟩:=v;simp only[Sx.cells];cases m with
 |true=>
  refine uG0 Tryz.func97 Tryz.ntmps97 Tryz.results97 Ty.hb_97 ?_;refine wt trivial ?_;simp only[retPost,resAll];exact⟨trivial,trivial⟩
 |false=>
  have hrl:(Sx.rows L).length=L.length:=Sx.rows_len L;have hb2:(L.length+2)*72≤140737488355328:=by omega
  have htk:List.take L.length (Sx.rows L)=Sx.rows L:=List.take_of_length_le (by omega);refine PCall.drop ?_;refine uG0 Tryz.func97 Tryz.ntmps97 Tryz.results97 Ty.hb_97 ?_;refine xB 2 trivial ?_;refine⟨?_⟩;refine a_draw5 10 (by decide+kernel) fun K hK=>?_;simp only[List.take_succ_cons,List.take_zero,List.drop_succ_cons,List.drop_zero];have c1:(Value.int IntKind.i64 0).oneCell'=true:=rfl;have c2:(Value.string ⟨#[]⟩).oneCell'=true:=rfl;have c3:(Value.slice none 0 0).oneCell'=true:=rfl;simp only[xO]at hx;simp(maxSteps:=4000000) only[Ty.w,simprocAttr,Ty.all,c1,c2,c3,hx,hj,hrl,htk,hb2,Nat.le_refl];replace zz:=uu9 c1 c2 c3 hx hj hrl htk hb2 @Nat.le_refl;first|refine uV zz (hw kw _) ?_|refine uA zz (hw kw _) ?_
  refine⟨by simp only[List.forall_mem_cons];(repeat' apply And.intro)<;>first|exact .inl (by decide+kernel)|exact(fun _ hx=>by cases hx),?_⟩;have hset1: ∀ x:List PV,(Sx.rows L++[sxZd,sxZd]).set L.length x=Sx.rows L++[x,sxZd]:=fun x=>by rw[List.set_append_right _ _ (by omega),hrl,Nat.sub_self];try rfl
  have hset2: ∀ x y:List PV,(Sx.rows L++[x,sxZd]).set (L.length+1) y=Sx.rows L++[x,y]:=fun x y=>by rw[List.set_append_right _ _ (by omega),hrl,Nat.add_sub_cancel_left];try rfl
  have hget1:(Sx.rows L++[sxZd,sxZd])[L.length]? =some sxZd:=by rw[List.getElem?_append_right (by omega),hrl,Nat.sub_self];try rfl
  have hget2: ∀ x:List PV,(Sx.rows L++[x,sxZd])[L.length+1]? =some sxZd:=fun x=>by rw[List.getElem?_append_right (by omega),hrl,Nat.add_sub_cancel_left];try rfl
  have w1:IntKind.i64.wrap ((L.length:Int)+1)=((L.length+1:Nat):Int):=by rw[wrap64 (by omega) (by omega)];omega
  have hN1:((Heap.kill ⟨h.next+18,h.obj⟩ j).new (.arr 6 (Sx.rows L++[sxZd,sxZd]))).obj (h.next+18)=some (.arr 6 (Sx.rows L++[sxZd,sxZd])):=by simp only[Heap.new,Heap.kill,if_true]
  have hX1:((Heap.kill ⟨h.next+18,h.obj⟩ j).new (.arr 6 (Sx.rows L++[sxZd,sxZd]))).obj xi=some (xO j L.length):=by
   simp only[Heap.new,Heap.kill];rw[if_neg (by omega),if_neg hne];exact hx
  have hO1: ∀ i,i<h.next→i≠j→((Heap.kill ⟨h.next+18,h.obj⟩ j).new (.arr 6 (Sx.rows L++[sxZd,sxZd]))).obj i=h.obj i:=fun i hi hij=>by
   simp only[Heap.new,Heap.kill];rw[if_neg (by omega),if_neg hij]
  have hn1:((Heap.kill ⟨h.next+18,h.obj⟩ j).new (.arr 6 (Sx.rows L++[sxZd,sxZd]))).next=h.next+18+1:=rfl
  generalize((Heap.kill ⟨h.next+18,h.obj⟩ j).new (.arr 6 (Sx.rows L++[sxZd,sxZd])))=H1 at hN1 hX1 hO1 hn1⊢;have hkc:List.length [PV.sc (.int .i64 1),.sc (.int .i64 0),.sc (.int .i64 0),.sc (.int .i64 0),sPV kw,.imm 6 []]=6:=rfl;refine d6_quiet (.ptr (h.next+18) L.length 0) [h.next+18] (.inr (by decide+kernel)) (by decide) rfl rfl (fun H hH=>by
   have hH:=(hH _ (List.mem_singleton.2 rfl)).trans hN1;have q1:(L.length<L.length+2)=True:=eq_true (by omega);simp(maxSteps:=2000000) only[Ty.w,simprocAttr,Ty.all,hH,q1,c1,c2,c3,hrl,hb2,Nat.le_refl,w1]) (by intro x hx;repeat'(first|(exact absurd hx (List.not_mem_nil))|(rcases List.mem_cons.1 hx with rfl|hx)|(refine .inr ?_;dsimp only;omega)|(refine .inr ?_;exact List.not_mem_nil)|(refine .inr fun hm=>?_;have:=List.mem_singleton.1 hm;omega)|(refine .inl ?_;dsimp only;decide+kernel))) ?_
  refine d6_store (ob:= .arr 6 (Sx.rows L++[[.sc (.int .i64 1),.sc (.int .i64 0),.sc (.int .i64 0),.sc (.int .i64 0),sPV kw,.imm 6 []],sxZd])) rfl (by decide) rfl (by simp only[Ty.w,simprocAttr,Ty.all];try rfl) (by
   simp(maxSteps:=2000000) only[Ty.w,simprocAttr,Ty.all,hN1,hget1,hset1,c1,c2,c3,hrl,hb2,Nat.le_refl,w1];try rfl) (fun f q hf hq ha=>by rcases(show f=12∨f=13∨f=14∨f=15∨f=16∨f=17 from by have hfl:=(List.getElem?_eq_some_iff.1 hq).1;simp only[List.length_cons,List.length_nil]at hfl;omega)with rfl|rfl|rfl|rfl|rfl|rfl<;>(simp only[List.getElem?_cons_succ,List.getElem?_cons_zero,Option.some.injEq]at hq;subst hq;revert ha;decide+kernel)) (by intro x hx;repeat'(first|(exact absurd hx (List.not_mem_nil))|(rcases List.mem_cons.1 hx with rfl|hx)|(refine .inr ?_;dsimp only;omega)|(refine .inr ?_;exact List.not_mem_nil)|(refine .inr fun hm=>?_;have:=List.mem_singleton.1 hm;omega)|(refine .inl ?_;dsimp only;decide+kernel))) (by intro x hx;repeat'(first|(exact absurd hx (List.not_mem_nil))|(rcases List.mem_cons.1 hx with rfl|hx)|(refine .inr ?_;dsimp only;omega)|(refine .inr ?_;exact List.not_mem_nil)|(refine .inr fun hm=>?_;have:=List.mem_singleton.1 hm;omega)|(refine .inl ?_;dsimp only;decide+kernel))) ?_
  have hN2:(H1.set (h.next+18) (.arr 6 (Sx.rows L++[[.sc (.int .i64 1),.sc (.int .i64 0),.sc (.int .i64 0),.sc (.int .i64 0),sPV kw,.imm 6 []],sxZd]))).obj (h.next+18)=some (.arr 6 (Sx.rows L++[[.sc (.int .i64 1),.sc (.int .i64 0),.sc (.int .i64 0),.sc (.int .i64 0),sPV kw,.imm 6 []],sxZd])):=obj_at;have hX2:(H1.set (h.next+18) (.arr 6 (Sx.rows L++[[.sc (.int .i64 1),.sc (.int .i64 0),.sc (.int .i64 0),.sc (.int .i64 0),sPV kw,.imm 6 []],sxZd]))).obj xi=some (xO j L.length):=(obj_set (by omega)).trans hX1;have hO2: ∀ i,i<h.next→i≠j→(H1.set (h.next+18) (.arr 6 (Sx.rows L++[[.sc (.int .i64 1),.sc (.int .i64 0),.sc (.int .i64 0),.sc (.int .i64 0),sPV kw,.imm 6 []],sxZd]))).obj i=h.obj i:=fun i hi hij=>(obj_set (by omega)).trans (hO1 i hi hij)
  have hn2:(H1.set (h.next+18) (.arr 6 (Sx.rows L++[[.sc (.int .i64 1),.sc (.int .i64 0),.sc (.int .i64 0),.sc (.int .i64 0),sPV kw,.imm 6 []],sxZd]))).next=h.next+18+1:=hn1
  generalize H1.set (h.next+18) (.arr 6 (Sx.rows L++[[.sc (.int .i64 1),.sc (.int .i64 0),.sc (.int .i64 0),.sc (.int .i64 0),sPV kw,.imm 6 []],sxZd]))=H2 at hN2 hX2 hO2 hn2⊢;refine d6_quiet (.sc (.int .i64 ((L.length+1:Nat):Int))) [] (.inl rfl) (by decide) rfl rfl (fun H _=>by(try simp(maxSteps:=2000000) only[Ty.w,simprocAttr,Ty.all,c1,c2,c3,hrl,hb2,Nat.le_refl,w1]);try rfl) (by intro x hx;repeat'(first|(exact absurd hx (List.not_mem_nil))|(rcases List.mem_cons.1 hx with rfl|hx)|(refine .inr ?_;dsimp only;omega)|(refine .inr ?_;exact List.not_mem_nil)|(refine .inr fun hm=>?_;have:=List.mem_singleton.1 hm;omega)|(refine .inl ?_;dsimp only;decide+kernel))) ?_;refine d6_quiet (.ptr (h.next+18) (L.length+1) 0) [h.next+18] (.inr (by decide+kernel)) (by decide) rfl rfl (fun H hH=>by
   have hH:=(hH _ (List.mem_singleton.2 rfl)).trans hN2;have q1:(L.length+1<L.length+2)=True:=eq_true (by omega);simp(maxSteps:=2000000) only[Ty.w,simprocAttr,Ty.all,hH,q1,c1,c2,c3,hrl,hb2,Nat.le_refl,w1]) (by intro x hx;repeat'(first|(exact absurd hx (List.not_mem_nil))|(rcases List.mem_cons.1 hx with rfl|hx)|(refine .inr ?_;dsimp only;omega)|(refine .inr ?_;exact List.not_mem_nil)|(refine .inr fun hm=>?_;have:=List.mem_singleton.1 hm;omega)|(refine .inl ?_;dsimp only;decide+kernel))) ?_
  refine d6_store (ob:= .arr 6 (Sx.rows L++[[.sc (.int .i64 1),.sc (.int .i64 0),.sc (.int .i64 0),.sc (.int .i64 0),sPV kw,.imm 6 []],[.sc (.int .i64 vk),.sc (.int .i64 vv),.sc (.int .i64 vl),.sc (.int .i64 vc),sPV vt,.imm 6 (Sx.rows vs)]])) rfl (by decide) rfl (by simp only[Ty.w,simprocAttr,Ty.all];try rfl) (by
   simp(maxSteps:=2000000) only[Ty.w,simprocAttr,Ty.all,hN2,hget2,hset2,c1,c2,c3,hrl,hb2,Nat.le_refl,w1];try rfl) (fun f q hf hq ha=>by rcases(show f=15∨f=16∨f=17 from by have hfl:=(List.getElem?_eq_some_iff.1 hq).1;simp only[List.length_cons,List.length_nil]at hfl;omega)with rfl|rfl|rfl<;>(simp only[List.getElem?_cons_succ,List.getElem?_cons_zero,Option.some.injEq]at hq;subst hq;revert ha;decide+kernel)) (by intro x hx;repeat'(first|(exact absurd hx (List.not_mem_nil))|(rcases List.mem_cons.1 hx with rfl|hx)|(refine .inr ?_;dsimp only;omega)|(refine .inr ?_;exact List.not_mem_nil)|(refine .inr fun hm=>?_;have:=List.mem_singleton.1 hm;omega)|(refine .inl ?_;dsimp only;decide+kernel))) (by intro x hx;repeat'(first|(exact absurd hx (List.not_mem_nil))|(rcases List.mem_cons.1 hx with rfl|hx)|(refine .inr ?_;dsimp only;omega)|(refine .inr ?_;exact List.not_mem_nil)|(refine .inr fun hm=>?_;have:=List.mem_singleton.1 hm;omega)|(refine .inl ?_;dsimp only;decide+kernel))) ?_
  refine d6_quiet (.ptr xi 0 0) [] (.inl rfl) (by decide) rfl rfl (fun H _=>by(try simp(maxSteps:=2000000) only[Ty.w,simprocAttr,Ty.all,c1,c2,c3,hrl,hb2,Nat.le_refl,w1]);try rfl) (by intro x hx;repeat'(first|(exact absurd hx (List.not_mem_nil))|(rcases List.mem_cons.1 hx with rfl|hx)|(refine .inr ?_;dsimp only;omega)|(refine .inr ?_;exact List.not_mem_nil)|(refine .inr fun hm=>?_;have:=List.mem_singleton.1 hm;omega)|(refine .inl ?_;dsimp only;decide+kernel))) ?_;refine d6_quiet (.ptr xi 0 5) [] (.inl rfl) (by decide) rfl rfl (fun H _=>by(try simp(maxSteps:=2000000) only[Ty.w,simprocAttr,Ty.all,c1,c2,c3,hrl,hb2,Nat.le_refl,w1]);try rfl) (by intro x hx;repeat'(first|(exact absurd hx (List.not_mem_nil))|(rcases List.mem_cons.1 hx with rfl|hx)|(refine .inr ?_;dsimp only;omega)|(refine .inr ?_;exact List.not_mem_nil)|(refine .inr fun hm=>?_;have:=List.mem_singleton.1 hm;omega)|(refine .inl ?_;dsimp only;decide+kernel))) ?_;have hX3:=hX2;have nX:(xi=h.next+18)=False:=eq_false (by omega);simp only[xO]at hX3;refine d6_store (ob:=xO (h.next+18) (L.length+2)) rfl (by decide) rfl (by simp only[Ty.w,simprocAttr,Ty.all];try rfl) (by
   simp(maxSteps:=2000000) only[Ty.w,simprocAttr,Ty.all,hX3,nX,c1,c2,c3,hrl,hb2,Nat.le_refl,w1];try rfl) (fun f q hf hq ha=>by have hfl:=(List.getElem?_eq_some_iff.1 hq).1;simp only[List.length_cons,List.length_nil]at hfl;omega) (by intro x hx;repeat'(first|(exact absurd hx (List.not_mem_nil))|(rcases List.mem_cons.1 hx with rfl|hx)|(refine .inr ?_;dsimp only;omega)|(refine .inr ?_;exact List.not_mem_nil)|(refine .inr fun hm=>?_;have:=List.mem_singleton.1 hm;omega)|(refine .inl ?_;dsimp only;decide+kernel))) (by intro x hx;repeat'(first|(exact absurd hx (List.not_mem_nil))|(rcases List.mem_cons.1 hx with rfl|hx)|(refine .inr ?_;dsimp only;omega)|(refine .inr ?_;exact List.not_mem_nil)|(refine .inr fun hm=>?_;have:=List.mem_singleton.1 hm;omega)|(refine .inl ?_;dsimp only;decide+kernel))) ?_
  refine d6_end (hK _ _ ?_);simp only[retPost,resAll];have hRL:Sx.rows (L++[wordM kw,.mk vk vv vl vc vt vs])=Sx.rows L++[[.sc (.int .i64 1),.sc (.int .i64 0),.sc (.int .i64 0),.sc (.int .i64 0),sPV kw,.imm 6 []],[.sc (.int .i64 vk),.sc (.int .i64 vv),.sc (.int .i64 vl),.sc (.int .i64 vc),sPV vt,.imm 6 (Sx.rows vs)]]:=by simp[Sx.rows_map,wordM,Sx.cells,Sx.rows]
  rw[← hRL];have hlen:(L++[wordM kw,.mk vk vv vl vc vt vs]).length=L.length+2:=by simp
  rw[← hlen];generalize L++[wordM kw,.mk vk vv vl vc vt vs]=L2;refine⟨resV [],partH h xi j L2,⟨rfl,by simp⟩,by simp[resV,FrzTo,FrzL],by simp only[partH];omega,fun i o hio=>?_⟩;simp only[partH]at hio⊢;by_cases h1:i=xi
  ·subst h1;rw[if_pos rfl]at hio;obtain rfl:=Option.some.inj hio;exact⟨obj_at,by omega,.inr (by simp[xO,inNO,inNR,inNL,inN])⟩
  ·rw [if_neg h1]at hio;by_cases h2:i=h.next+18
   ·subst h2;rw[if_pos rfl]at hio;obtain rfl:=Option.some.inj hio;exact⟨(obj_set h1).trans obj_at,by omega,.inr (by simp only[inNO];exact sxs_in _ _)⟩
   ·rw [if_neg h2]at hio;by_cases h3:i=j
    ·rw [if_pos h3]at hio;cases hio
    ·rw [if_neg h3]at hio;by_cases h4:i<h.next
     ·rw [if_pos h4]at hio;exact⟨((obj_set h1).trans ((obj_set h2).trans (hO2 i h4 h3))).trans hio,by omega,.inl hio⟩
     ·rw [if_neg h4]at hio;cases hio
end Go.Proofs.YtblgchkahpgdjaaGreat
namespace Go.AM
section
variable {P:Program}{ow:Nat→Bool}{wf:FuncId→Bool}{n:Nat}{Q:Post}{s:Slots}{h:Heap}
def alIdx(ops:List Oper):List Nat:=(List.range ops.length).filter (alB ops)
def drn2(P:Program)(ow:Nat→Bool)(wf:FuncId→Bool)(n:Nat)(ops:List Oper)(al:List Nat)(base:Nat):Nat→List Oper→Past→List (Nat × Heap)→(Slots→Heap→Prop)→Slots→Heap→Prop
 |_,[],_,_,K,s,h=>K s h
 |k,o::rest,past,hist,K,s,h=>(o.dst.all (fun d=>decide (d<n))=true)∧match wantedB ops s o with
  |none=>False
  | some b => if b = true then
    (match o.op with
    | .alloc t=>(match zeroT P t with
     | some zs => 0 < zs.length ∧ (∀ f ∈ al, k < f → (h.set (base + k) (.arr zs.length [zs.map .sc])).obj (base + f) = none) ∧ (∀ x ∈ past, pre ops x.1 k = true ∨ Does P ow x.2.1 (pev x.2.2.1) (h.set (base + k) (.arr zs.length [zs.map .sc])) x.2.2.2 (h.set (base + k) (.arr zs.length [zs.map .sc]))) ∧
       drn2 P ow wf n ops al base (k+1) rest past ((k,h)::hist) K (updO s o.dst (.ptr (base+k) 0 0)) (h.set (base+k) (.arr zs.length [zs.map .sc]))
     |none=>False)
    |_=>(match callee (pev s) o.op with
     |none=>(match eff P (o.dst.any ow) o.op (pev s) h with
      |some (v,h1)=>if isW ow wf o=true then(∀ f∈al,k<f→h1.obj (base+f)=none)∧(∀ x∈past,pre ops x.1 k=true∨Does P ow x.2.1 (pev x.2.2.1) h1 x.2.2.2 h1)∧drn2 P ow wf n ops al base (k+1) rest past ((k,h)::hist) K (updO s o.dst v) h1
       else h1=h∧(∀ x∈hist,pre ops x.1 k=true∨Does P ow o (pev s) x.2 v x.2)∧drn2 P ow wf n ops al base (k+1) rest ((k,o,s,v)::past) hist K (updO s o.dst v) h
      |none=>False)
     |some _=>(if isW ow wf o=true then ∃ v h',Does P ow o (pev s) h v h'∧((∀ f∈al,k<f→h'.obj (base+f)=none)∧ ∀ x∈pastC P ow past,pre ops x.1 k=true∨x.2 h')∧drun2 P ow wf n ops base (k+1) rest (pastC P ow past) ((k,h)::hist) K (updO s o.dst v) h'
      else ∃ v,Does P ow o (pev s) h v h∧(∀ x∈hist,pre ops x.1 k=true∨Does P ow o (pev s) x.2 v x.2)∧drun2 P ow wf n ops base (k+1) rest (pastC P ow ((k,o,s,v)::past)) hist K (updO s o.dst v) h)))
   else drn2 P ow wf n ops al base (k+1) rest past hist K (updO s o.dst (.sc undef)) h
theorem mem_alIdx{ops:List Oper}{f:Nat}(h:alB ops f=true):f∈alIdx ops:=by
 simp only[alIdx,List.mem_filter,List.mem_range];refine⟨?_,h⟩;unfold alB at h;split at h
 ·rename_i o ho;exact(List.getElem?_eq_some_iff.1 ho).1
 ·simp at h
theorem drn2_drun2{ops:List Oper}{al:List Nat}(hal:alIdx ops=al){base:Nat}{K:Slots→Heap→Prop}:(rest:List Oper)→(k:Nat)→(past:Past)→(hist:List (Nat × Heap))→(s:Slots)→(h:Heap)→drn2 P ow wf n ops al base k rest past hist K s h→drun2 P ow wf n ops base k rest (pastC P ow past) hist K s h
 |[],_,_,_,_,_,hh=>by simpa only[drn2,drun2]using hh
 |o::rest,k,past,hist,s,h,hh=>by
  simp only[drn2]at hh;simp only[drun2];refine⟨hh.1,?_⟩;have h2:=hh.2;try clear zz
  clear hh;have pc: ∀ h1,(∀ x∈past,pre ops x.1 k=true∨Does P ow x.2.1 (pev x.2.2.1) h1 x.2.2.2 h1)→ ∀ x∈pastC P ow past,pre ops x.1 k=true∨x.2 h1:=by
   intro h1 hp x hx;obtain⟨y,hy,rfl⟩:=List.mem_map.1 hx;exact hp y hy
  have alc: ∀ h1:Heap,(∀ f∈al,k<f→h1.obj (base+f)=none)→ ∀ f,k<f→alB ops f=true→h1.obj (base+f)=none:=fun h1 hp f hf ha=>hp f (by rw[← hal];exact mem_alIdx ha) hf;cases hw:wantedB ops s o with
  |none=>rw[hw]at h2;exact h2
  |some b=>
   rw[hw]at h2;simp only at h2⊢;split at h2
   ·rename_i hb;rw[if_pos hb];split at h2
    ·rename_i t hop;split at h2
     ·rename_i zs hz;obtain⟨a1,a2,a3,a4⟩:=h2;have hi:isW ow wf o=true:=(by unfold isW;rw[hop]);rw[if_pos hi];exact⟨_,_,by unfold DoesR;rw[hop];exact⟨zs,hz,a1,rfl,rfl⟩,alc _ a2,pc _ a3,drn2_drun2 hal rest (k+1) _ _ _ _ a4⟩
     ·exact h2.elim
    ·rename_i hne;cases hc:callee (pev s) o.op with
     |none=>
      rw[hc]at h2;simp only at h2;cases he:eff P (o.dst.any ow) o.op (pev s) h with
      |none=>rw[he]at h2;exact h2.elim
      |some r=>
       obtain⟨v,h1⟩:=r;rw[he]at h2;simp only at h2;have hd:Does P ow o (pev s) h v h1:=(by unfold Does;rw[hc];exact he);split at h2
       ·rename_i hi;rw[if_pos hi];have hdr:DoesR P ow (base+k) o (pev s) h v h1:=by
         unfold DoesR;split
         ·rename_i t hop;exact absurd hop (hne t)
         ·exact hd
        exact⟨v,h1,hdr,alc h1 h2.1,pc h1 h2.2.1,drn2_drun2 hal rest (k+1) _ _ _ _ h2.2.2⟩
       ·rename_i hi;rw[if_neg hi];obtain⟨rfl,h3,h4⟩:=h2;exact⟨v,hd,h3,drn2_drun2 hal rest (k+1) _ _ _ _ h4⟩
     |some f=>
      rw[hc]at h2;simp only at h2;have dr: ∀ {v:PV}{h1:Heap},Does P ow o (pev s) h v h1→DoesR P ow (base+k) o (pev s) h v h1:=fun hd=>by
       unfold DoesR;split
       ·rename_i t hop;exact absurd hop (hne t)
       ·exact hd
      split at h2
      ·rename_i hi;rw[if_pos hi];obtain⟨v,h1,hd,h3,h4⟩:=h2;exact⟨v,h1,dr hd,alc h1 h3.1,h3.2,h4⟩
      ·rename_i hi;rw[if_neg hi];obtain⟨v,hd,h3,h4⟩:=h2;exact⟨v,hd,h3,h4⟩
   ·rename_i hb;rw[if_neg hb];exact drn2_drun2 hal rest (k+1) _ _ _ _ h2
theorem a_draw2S{id:Nat}{ops:List Oper}{K:Slots→Heap→Prop}(al:List Nat)(hd:dOk2 ow wf ops=true)(ha:alIdx ops=al)(hk:drn2 P ow wf n ops al h.next 0 ops [] [] K s ⟨h.next+ops.length,h.obj⟩):awp P ow wf n (.region id ops.toArray true) (Post.seq K Q) s h:=by
 simp only[awp,if_true];exact⟨_,_,.refl,.inr (.inl ⟨hd,drn2_drun2 ha ops 0 _ _ _ _ hk⟩)⟩
theorem a_dcall2{f:FuncId}{d:Nat}{args:List Operand}{ts:Array TypeId}{ty:TypeId}{pos:String}{af:Array Edge}{gd:Option (Nat × Bool)}{aS:List PV}{v:PV}{ops rest:List Oper}{base k k':Nat}{past:Past}{hist:List (Nat × Heap)}{K:Slots→Heap→Prop}(al:List Nat)(ha:alIdx ops=al)
  (hc:PCall P f aS h fun r h'=>r=v∧h'=h)(hs:args.map (pev s)=aS)
  (hk:drn2 P ow wf n ops al base k rest ((k',{dst:=some d,op:= .call {callee:= .value (.func f),args:=args.toArray,argTypes:=ts},type:=ty,pos:=pos,after:=af,guard:=gd},s,v)::past) hist K (upd s d v) h):
  ∃ v,Does P ow {dst:=some d,op:= .call {callee:= .value (.func f),args:=args.toArray,argTypes:=ts},type:=ty,pos:=pos,after:=af,guard:=gd} (pev s) h v h∧
   drun2 P ow wf n ops base k rest (pastC P ow ((k',{dst:=some d,op:= .call {callee:= .value (.func f),args:=args.toArray,argTypes:=ts},type:=ty,pos:=pos,after:=af,guard:=gd},s,v)::past)) hist K (upd s d v) h:=
 ⟨v,Does_use hc hs,drn2_drun2 ha _ _ _ _ _ _ hk⟩
theorem a_dcall2A{f:FuncId}{d:Nat}{args:List Operand}{ts:Array TypeId}{ty:TypeId}{pos:String}{af:Array Edge}{gd:Option (Nat × Bool)}{aS:List PV}{v:PV}{ops rest:List Oper}{base k k':Nat}{past:Past}{hist:List (Nat × Heap)}{K:Slots→Heap→Prop}{A:PV→Prop}(al:List Nat)(ha:alIdx ops=al)
  (hc:PCall P f aS h fun r h'=>r=v∧h'=h)(hs:args.map (pev s)=aS)(hA:A v)
  (hk:drn2 P ow wf n ops al base k rest ((k',{dst:=some d,op:= .call {callee:= .value (.func f),args:=args.toArray,argTypes:=ts},type:=ty,pos:=pos,after:=af,guard:=gd},s,v)::past) hist K (upd s d v) h):
  ∃ v,Does P ow {dst:=some d,op:= .call {callee:= .value (.func f),args:=args.toArray,argTypes:=ts},type:=ty,pos:=pos,after:=af,guard:=gd} (pev s) h v h∧A v∧
   drun2 P ow wf n ops base k rest (pastC P ow ((k',{dst:=some d,op:= .call {callee:= .value (.func f),args:=args.toArray,argTypes:=ts},type:=ty,pos:=pos,after:=af,guard:=gd},s,v)::past)) hist K (upd s d v) h:=
 ⟨v,Does_use hc hs,hA,drn2_drun2 ha _ _ _ _ _ _ hk⟩
end
end Go.AM
namespace Go.Proofs.YtblgchkahpgdjaaGreat
open Go.AM
set_option maxHeartbeats 8000000
set_option maxRecDepth 20000
theorem a_dcall2W{P:Program}{ow:Nat→Bool}{wf:FuncId→Bool}{n:Nat}{s:Slots}{h:Heap}{f:FuncId}{d:Nat}{args:List Operand}{ts:Array TypeId}{ty:TypeId}{pos:String}{af:Array Edge}{gd:Option (Nat × Bool)}{aS:List PV}{v:PV}{h1:Heap}{ops rest:List Oper}{base k:Nat}{past:Past}{hist:List (Nat × Heap)}{K:Slots→Heap→Prop}{A:Heap→Prop}(al:List Nat)(ha:alIdx ops=al)
  (hc:PCall P f aS h fun r h'=>r=v∧h'=h1)(hs:args.map (pev s)=aS)(hA:A h1)
  (hk:drn2 P ow wf n ops al base k rest past hist K (upd s d v) h1):
  ∃ v h',Does P ow {dst:=some d,op:= .call {callee:= .value (.func f),args:=args.toArray,argTypes:=ts},type:=ty,pos:=pos,after:=af,guard:=gd} (pev s) h v h'∧A h'∧
   drun2 P ow wf n ops base k rest (pastC P ow past) hist K (upd s d v) h':=
 ⟨v,h1,Does_use hc hs,hA,drn2_drun2 ha _ _ _ _ _ _ hk⟩
def opAct:ByteArray:=⟨#[58,97,99,116,105,111,110]⟩
def opPar:ByteArray:=⟨#[58,112,97,114,97,109,101,116,101,114,115]⟩
def opCost:ByteArray:=⟨#[58,99,111,115,116]⟩
def opPre:ByteArray:=⟨#[58,112,114,101,99,111,110,100,105,116,105,111,110]⟩
def opEff:ByteArray:=⟨#[58,101,102,102,101,99,116]⟩
def ifP(L:List Sx)(m:Bool)(kw:ByteArray)(v:Sx):List Sx:=bif m then L else L++[wordM kw,v]
def acL(a:Ac):List Sx:=ifP (ifP (ifP (ifP [wordM opAct,wordM a.name] ((a.params.length:Int)==0) opPar (listM (paramsW a.params))) (a.cost==1) opCost (numM a.cost)) (isAlw a.pre) opPre (fmX a.pre)) ((a.changes.length:Int)==0) opEff (effX a.changes)
def acX(a:Ac):Sx:=listM (acL a)
def acB(a:Ac):Bool:=nameB a.name&&!(decide (a.cost<0))&&a.params.all (parB true)&&validF a.pre&&a.changes.all chB
structure AcSm(a:Ac):Prop where
 params:a.params.length≤1048576
 pre:a.pre.small
 chs:a.changes.length≤1048576
 ch: ∀ c∈a.changes,ChSm c
theorem ifP_len(L:List Sx)(m:Bool)(kw:ByteArray)(v:Sx):(ifP L m kw v).length≤L.length+2:=by cases m<;>simp[ifP]
structure AcI(h:Heap)(id:Nat)(b:Bool)(xi j:Nat)(L:List Sx)(H:Heap):Prop where
 grow:GrowX h id (wO b) H
 ids:h.next<xi∧xi<H.next∧h.next<j∧j<H.next∧xi≠j
 ores:H.obj h.next=some (.arr 6 [sxZd])
 ox:H.obj xi=some (xO j L.length)
 oj:H.obj j=some (.arr 6 (Sx.rows L))
structure AcS(h:Heap)(id xi:Nat)(row:List PV)(S:Slots):Prop where
 s0:S 0= .ptr id 0 0
 s3:S 3= .cptr row
 s4:S 4= .ptr h.next 0 0
 s5:S 5= .ptr xi 0 0
theorem AcI.put{h H:Heap}{id xi j:Nat}{b b2:Bool}{L:List Sx}(i:AcI h id b xi j L H)(hid:id<h.next):AcI h id b2 xi j L (H.set id (wO b2)):=by
 obtain⟨g,⟨i1,i2,i3,i4,i5⟩,o1,o2,o3⟩:=i;exact⟨g.put,⟨i1,i2,i3,i4,i5⟩,(obj_set (by omega)).trans o1,(obj_set (by omega)).trans o2,(obj_set (by omega)).trans o3⟩
theorem AcI.part{h H:Heap}{id xi j:Nat}{b:Bool}{L L2:List Sx}(i:AcI h id b xi j L H)(hid:id<h.next):AcI h id b xi (H.next+18) L2 (partH H xi j L2):=by
 obtain⟨g,⟨i1,i2,i3,i4,i5⟩,o1,o2,o3⟩:=i;have hle:=g.le;refine⟨⟨by simp only[partH];omega,fun k hk hne=>?_,?_⟩,⟨i1,by simp only[partH];omega,by omega,by simp only[partH];omega,by omega⟩,?_,?_,?_⟩
 ·simp only[partH];rw[if_neg (by omega),if_neg (by omega),if_neg (by omega),if_pos (by omega)];exact g.old k hk hne
 ·simp only[partH];rw[if_neg (by omega),if_neg (by omega),if_neg (by omega),if_pos (by omega)];exact g.at_
 ·simp only[partH];rw[if_neg (by omega),if_neg (by omega),if_neg (by omega),if_pos (by omega)];exact o1
 ·simp only[partH,if_true]
 ·simp only[partH];rw[if_neg (by omega),if_pos trivial]
theorem waction_c{h:Heap}{id:Nat}{b:Bool}{a:Ac}(hok:a.ok)(hsm:AcSm a)(hid:id<h.next)(ho:h.obj id=some (wO b)):
  PCall Tryz.prog 45 [.ptr id 0 0,.agg (acRow a)] h fun r h'=>r= .agg (acX a).cells∧h'=h.set id (wO (b||!acB a)):=by
 refine pcall_wf Ty.hb_45 fun hwf=>?_;refine PCall.frzX Ty.hb_45 ho (wO_in _ _) ?_;have hno: ∀ i,h.next≤i→h.obj i=none:=fun i hi=>by
  cases q:h.obj i with
  |none=>rfl
  |some o=>have:=hwf i (by rw[q];try rfl);omega
 obtain⟨name,params,cost,⟨gop,gna,gar,gpa,gex,gki⟩,changes⟩:=a;have hw: ∀ (s:ByteArray)(h:Heap),PCall Tryz.prog 40 [sPV s] h fun r h'=>r= .agg (wordM s).cells∧h'=h:=fun s h=>dword_c;have hns:name.size≤9223372036854775807:=by have:=hok.name;unfold bigN at this;simp only at this;omega
 have cN:=fun(H:Heap)(hid:id<H.next)(ho:H.obj id=some (wO b))=>wname_c (h:=H) (b:=b) hns hid ho;simp only[wordM,Sx.cells,Sx.rows]at hw cN;simp only[acRow,Fm.cells,List.cons_append,List.nil_append];have n1:(id=h.next)=False:=eq_false (by omega);have n2:(h.next=id)=False:=eq_false (by omega);refine pcall_body (ow:=fun t=>t==11) (wf:=fun f=>f==41||f==43||f==100||f==51||f==97) Ty.mixed Tryz.func45 rfl Ty.hb_45 (by rw[Tryz.ntmps45];simp) ?_;rw[Tryz.ntmps45,Tryz.results45];refine a_seq (fun K hK=>?_);repeat'(first|refine a_seq fun K hK=>?_|refine uR trivial ?_|(refine uN hK ?_;clear hK)|apply zI)
 refine a_draw2S [7] (by decide+kernel) (by decide+kernel) ?_;have n3:(h.next+1+7=h.next)=False:=eq_false (by omega);have n4:(h.next+1+7=id)=False:=eq_false (by omega);have n5:(h.next+1+9=id)=False:=eq_false (by omega);have n6:(h.next+1+7=h.next+1+9)=False:=eq_false (by omega);have n7:(h.next+1+9=h.next+1+7)=False:=eq_false (by omega);have n8:(id=h.next+1+7)=False:=eq_false (by omega);have hN8:h.obj (h.next+1+7)=none:=hno _ (by omega);simp(maxSteps:=4000000) only[drn2,Ty.w,simprocAttr,Ty.all,List.forall_mem_cons,ho,n1,n2,n3,n4,n5,n6,n7,n8,hN8];first
  |refine a_dcall2 [7] (by decide+kernel) (hw opAct _) (by(try simp only[Ty.w,simprocAttr,ho,n1,n2,n3,n4,n5,n6,n7,n8,hN8]);try rfl) ?_
  |refine a_dcall2A [7] (by decide+kernel) (hw opAct _) (by(try simp only[Ty.w,simprocAttr,ho,n1,n2,n3,n4,n5,n6,n7,n8,hN8]);try rfl) (by simp only[Ty.w,simprocAttr,Ty.all,ho,n1,n2,n3,n4,n5,n6,n7,n8,hN8];try trivial) ?_
 simp(maxSteps:=4000000) only[drn2,Ty.w,simprocAttr,Ty.all,List.forall_mem_cons,List.nil_append,ho,n1,n2,n3,n4,n5,n6,n7,n8,hN8];refine a_dcall2W [7] (by decide+kernel) (cN _ (by simp only[Heap.new];omega) (by simp only[Ty.w,simprocAttr,ho,n1,n2,n3,n4,n5,n6,n7,n8,hN8])) (by(try simp only[Ty.w,simprocAttr,ho,n1,n2,n3,n4,n5,n6,n7,n8,hN8]);try rfl) ?_ ?_
 ·exact ⟨by simp only[Ty.w,simprocAttr,ho,n1,n2,n3,n4,n5,n6,n7,n8,hN8],by simp only[pastC,List.map_cons,List.map_nil,List.forall_mem_cons];(repeat' apply And.intro)<;>first|exact .inl (by decide+kernel)|exact(fun _ hx=>by cases hx)⟩
 simp(maxSteps:=4000000) only[drn2,Ty.w,simprocAttr,Ty.all,List.forall_mem_cons,List.nil_append,ho,n1,n2,n3,n4,n5,n6,n7,n8,hN8];refine⟨by(repeat' apply And.intro)<;>first|exact .inl (by decide+kernel)|exact(fun _ hx=>by cases hx)|trivial,?_⟩;have hl3: ∀ H:Heap,h.next+1+9<H.next→PCall Tryz.prog 39 [.own (h.next+1+9) 0 2] H fun r h'=>r= .agg [.sc (.int .i64 3),.sc (.int .i64 0),.sc (.int .i64 0),.sc (.int .i64 0),.sc (.string ⟨#[]⟩),.own (h.next+1+9) 0 2]∧h'=H:=fun H hh=>dlist_c rfl (fun _=>frz_own hh)
 refine a_dcall2A [7] (by decide+kernel) (hl3 _ (by simp[Heap.new,Heap.set])) (by(try simp only[Ty.w,simprocAttr,ho,n1,n2,n3,n4,n5,n6,n7,n8,hN8]);try rfl) (by(repeat' apply And.intro)<;>first|exact .inl (by decide+kernel)|exact(fun _ hx=>by cases hx)|trivial) ?_;simp(maxSteps:=4000000) only[drn2,Ty.w,simprocAttr,Ty.all,List.forall_mem_cons,List.nil_append,ho,n1,n2,n3,n4,n5,n6,n7,n8,hN8];refine⟨?_,?_⟩
 ·(repeat' apply And.intro)<;>first
    |exact .inl (by decide+kernel)
    |exact .inr (Does_use (hw opAct _) (by(try simp only[Ty.w,simprocAttr,ho,n1,n2,n3,n4,n5,n6,n7,n8,hN8]);try rfl))
    |exact .inr (Does_use (hl3 _ (by simp[Heap.new,Heap.set])) (by(try simp only[Ty.w,simprocAttr,ho,n1,n2,n3,n4,n5,n6,n7,n8,hN8]);try rfl))
    |exact .inr (by simp(maxSteps:=2000000) only[Ty.w,simprocAttr,Ty.all,ho,n1,n2,n3,n4,n5,n6,n7,n8,hN8])
    |exact(fun _ hx=>by cases hx)
    |trivial
 refine⟨?_,?_⟩
 ·(repeat' apply And.intro)<;>first
    |exact .inl (by decide+kernel)
    |exact .inr (Does_use (hw opAct _) (by(try simp only[Ty.w,simprocAttr,ho,n1,n2,n3,n4,n5,n6,n7,n8,hN8]);try rfl))
    |exact .inr (Does_use (hl3 _ (by simp[Heap.new,Heap.set])) (by(try simp only[Ty.w,simprocAttr,ho,n1,n2,n3,n4,n5,n6,n7,n8,hN8]);try rfl))
    |exact .inr (by simp(maxSteps:=2000000) only[Ty.w,simprocAttr,Ty.all,ho,n1,n2,n3,n4,n5,n6,n7,n8,hN8])
    |exact(fun _ hx=>by cases hx)
    |trivial
 first|refine hK _ _ ?_|refine cK ?_
 try clear hK
 generalize hxi:h.next+1+7=xi
 refine a_genX (fun S H=> ∃ j,AcS h id xi [sPV name,.imm 2 (pmRows params),.sc (.int .i64 cost),sPV gop,sPV gna,.imm 1 (strRows gar),.imm 2 (pmRows gpa),.imm 5 (Ex.rows gex),.imm 6 (Fm.rows gki),.imm 15 (chRows changes)] S∧AcI h id (b||!nameB name) xi j [wordM opAct,wordM name] H) ?_ ?_
 ·subst hxi;refine⟨h.next+1+9,⟨by simp only[Ty.w,simprocAttr],by simp only[Ty.w,simprocAttr],by simp only[Ty.w,simprocAttr],by simp only[Ty.w,simprocAttr]⟩,⟨?_,⟨by omega,by simp only[Heap.set,Heap.new];omega,by omega,by simp only[Heap.set,Heap.new];omega,by omega⟩,?_,?_,?_⟩⟩
  ·refine ⟨by simp only[Heap.set,Heap.new];omega,fun k hk hne=>?_,?_⟩
   ·simp only[Heap.set,Heap.new];(repeat(first|rw[if_neg (by omega)]|rw[if_pos trivial]));try exact if_neg (by omega)
   ·simp only[Heap.set,Heap.new];repeat(first|rw[if_neg (by omega)]|rw[if_pos trivial])
  ·simp only[Heap.set,Heap.new];repeat(first|rw[if_neg (by omega)]|rw[if_pos trivial])
  ·simp only[Heap.set,Heap.new];(repeat(first|rw[if_neg (by omega)]|rw[if_pos trivial]));rfl
  ·simp only[Heap.set,Heap.new];(repeat(first|rw[if_neg (by omega)]|rw[if_pos trivial]));simp[wordM,Sx.rows,Sx.cells]
 try clear zz
 clear n1 n2 n3 n4 n5 n6 n7 n8 hN8 hno hwf hl3 cN;rintro S H ⟨j,⟨s0,s3,s4,s5⟩,hI⟩;generalize hb1:(b||!nameB name)=b1 at hI;refine a_cut (fun S H=> ∃ j,AcS h id xi [sPV name,.imm 2 (pmRows params),.sc (.int .i64 cost),sPV gop,sPV gna,.imm 1 (strRows gar),.imm 2 (pmRows gpa),.imm 5 (Ex.rows gex),.imm 6 (Fm.rows gki),.imm 15 (chRows changes)] S∧AcI h id (b1||decide (cost<0)) xi j [wordM opAct,wordM name] H) ?_ ?_
 ·have hat:=hI.grow.at_;cases b1 with
  |true=>
   replace zz:=uu5 s0 s3 s4 s5 hat;refine wt zz ?_;exact⟨j,⟨by simp only[Ty.w,simprocAttr,s0],by simp only[Ty.w,simprocAttr,s3],by simp only[Ty.w,simprocAttr,s4],by simp only[Ty.w,simprocAttr,s5]⟩,hI.put hid⟩
  |false=>
   replace zz:=uu5 s0 s3 s4 s5 hat;refine wt zz ?_;exact⟨j,⟨by simp only[Ty.w,simprocAttr,s0],by simp only[Ty.w,simprocAttr,s3],by simp only[Ty.w,simprocAttr,s4],by simp only[Ty.w,simprocAttr,s5]⟩,hI.put hid⟩
 try clear zz
 clear s0 s3 s4 s5 hI;rintro S H ⟨j,⟨s0,s3,s4,s5⟩,hI⟩;generalize hb2:(b1||decide (cost<0))=b2 at hI;refine a_cut (fun S H=> ∃ j,AcS h id xi [sPV name,.imm 2 (pmRows params),.sc (.int .i64 cost),sPV gop,sPV gna,.imm 1 (strRows gar),.imm 2 (pmRows gpa),.imm 5 (Ex.rows gex),.imm 6 (Fm.rows gki),.imm 15 (chRows changes)] S∧AcI h id (b2||!(params.all (parB true))) xi j (ifP [wordM opAct,wordM name] ((params.length:Int)==0) opPar (listM (paramsW params))) H) ?_ ?_
 ·have hpl:=pmRows_len params;have hat:=hI.grow.at_;obtain⟨hg,⟨i1,i2,i3,i4,i5⟩,o1,o2,o3⟩:=(show AcI _ _ _ _ _ _ _ from hI);have cP:=wparams_c (h:=H) (b:=b2) (vars:=true) hsm.params hok.params.2 (by omega) hat;have cL:=fun h:Heap=>dlistS_c (paramsW params) h;have cp:=fun(m:Bool)(hx:(H.set id (wO (b2||!(params.all (parB true))))).obj xi=some (xO j 2))(hj:(H.set id (wO (b2||!(params.all (parB true))))).obj j=some (.arr 6 (Sx.rows [wordM opAct,wordM name])))=>part_c (h:=H.set id (wO (b2||!(params.all (parB true))))) (xi:=xi) (j:=j) (L:=[wordM opAct,wordM name]) (kw:=opPar) (v:=listM (paramsW params)) (m:=m) hx hj i5 i2 i4 (by simp);generalize hm:((params.length:Int)==0)=m;simp only[listM,Sx.cells,opPar]at cL cp;replace zz:=uu5 s0 s3 s5 hpl hm;refine wy zz ?_;replace zz:=uu5 s0 s3 s5 hpl hm;refine uZ zz (cP) ?_;refine wy zz ?_;replace zz:=uu5 s0 s3 s5 hpl hm;first|refine uV zz (cL _) ?_|refine uJ zz cL ?_
  refine wy zz ?_;have o1':(H.set id (wO (b2||!(params.all (parB true))))).obj xi=some (xO j 2):=(obj_set (by omega)).trans o2;have o2':(H.set id (wO (b2||!(params.all (parB true))))).obj j=some (.arr 6 (Sx.rows [wordM opAct,wordM name])):=(obj_set (by omega)).trans o3;replace zz:=uu5 s0 s3 s5 hpl hm;refine uZ zz (cp m o1' o2') ?_;refine wy zz ?_;cases m with
  |true=>exact⟨j,⟨by simp only[Ty.w,simprocAttr,s0],by simp only[Ty.w,simprocAttr,s3],by simp only[Ty.w,simprocAttr,s4],by simp only[Ty.w,simprocAttr,s5]⟩,hI.put hid⟩
  |false=>exact⟨_,⟨by simp only[Ty.w,simprocAttr,s0],by simp only[Ty.w,simprocAttr,s3],by simp only[Ty.w,simprocAttr,s4],by simp only[Ty.w,simprocAttr,s5]⟩,(hI.put hid).part hid⟩
 ·have hL1:(ifP [wordM opAct,wordM name] ((params.length:Int)==0) opPar (listM (paramsW params))).length≤4:=ifP_len _ _ _ _;generalize hLe1:ifP [wordM opAct,wordM name] ((params.length:Int)==0) opPar (listM (paramsW params))=LL1 at hL1⊢;generalize hb3:(b2||!(params.all (parB true)))=b3;try clear zz
  clear s0 s3 s4 s5 hI;rintro S H ⟨j,⟨s0,s3,s4,s5⟩,hI⟩;refine a_cut (fun S H=> ∃ j,AcS h id xi [sPV name,.imm 2 (pmRows params),.sc (.int .i64 cost),sPV gop,sPV gna,.imm 1 (strRows gar),.imm 2 (pmRows gpa),.imm 5 (Ex.rows gex),.imm 6 (Fm.rows gki),.imm 15 (chRows changes)] S∧AcI h id b3 xi j (ifP LL1 (cost==1) opCost (numM cost)) H) ?_ ?_
  ·have hat:=hI.grow.at_;obtain⟨hg,⟨i1,i2,i3,i4,i5⟩,o1,o2,o3⟩:=(show AcI _ _ _ _ _ _ _ from hI);have cD:=fun h:Heap=>digits_c (h:=h) (n:=cost);have cp:=fun(m:Bool)(hx:H.obj xi=some (xO j LL1.length))(hj:H.obj j=some (.arr 6 (Sx.rows LL1)))=>part_c (h:=H) (xi:=xi) (j:=j) (L:=LL1) (kw:=opCost) (v:=(numM cost)) (m:=m) hx hj i5 i2 i4 (by omega);generalize hm:(cost==1)=m;simp only[numM,Sx.cells,Sx.rows,opCost]at cD cp;replace zz:=uu4 s0 s3 s5 hm;refine wy zz ?_;replace zz:=uu4 s0 s3 s5 hm;(first|refine uV zz (cD _) ?_|refine uJ zz cD ?_);refine wy zz ?_;have o1':H.obj xi=some (xO j LL1.length):=o2;have o2':H.obj j=some (.arr 6 (Sx.rows LL1)):=o3;replace zz:=uu4 s0 s3 s5 hm;refine uZ zz (cp m o1' o2') ?_;refine wy zz ?_;cases m with
   |true=>exact⟨j,⟨by simp only[Ty.w,simprocAttr,s0],by simp only[Ty.w,simprocAttr,s3],by simp only[Ty.w,simprocAttr,s4],by simp only[Ty.w,simprocAttr,s5]⟩,hI⟩
   |false=>exact⟨_,⟨by simp only[Ty.w,simprocAttr,s0],by simp only[Ty.w,simprocAttr,s3],by simp only[Ty.w,simprocAttr,s4],by simp only[Ty.w,simprocAttr,s5]⟩,hI.part hid⟩
  ·have hL2:(ifP LL1 (cost==1) opCost (numM cost)).length≤6:=(by have:=ifP_len LL1 (cost==1) opCost (numM cost);omega);generalize hLe2:ifP LL1 (cost==1) opCost (numM cost)=LL2 at hL2⊢;(try clear zz);clear s0 s3 s4 s5 hI;rintro S H ⟨j,⟨s0,s3,s4,s5⟩,hI⟩;refine a_cut (fun S H=> ∃ j,AcS h id xi [sPV name,.imm 2 (pmRows params),.sc (.int .i64 cost),sPV gop,sPV gna,.imm 1 (strRows gar),.imm 2 (pmRows gpa),.imm 5 (Ex.rows gex),.imm 6 (Fm.rows gki),.imm 15 (chRows changes)] S∧AcI h id (b3||!(validF (.mk gop gna gar gpa gex gki))) xi j (ifP LL2 (isAlw (.mk gop gna gar gpa gex gki)) opPre (fmX (.mk gop gna gar gpa gex gki))) H) ?_ ?_
   ·have hat:=hI.grow.at_;obtain⟨hg,⟨i1,i2,i3,i4,i5⟩,o1,o2,o3⟩:=(show AcI _ _ _ _ _ _ _ from hI);have cA:=fun h:Heap=>dalways_c (h:=h);have cS:=fun h:Heap=>fsame_c (.mk gop gna gar gpa gex gki) hok.pre andFm andFm_ok h;have hAl:(.mk gop gna gar gpa gex gki:Fm).same andFm=isAlw (.mk gop gna gar gpa gex gki):=rfl;rw[hAl]at cS;have cW:=wformula_c (h:=H) (b:=b3) hok.pre hsm.pre (by omega) hat;generalize fmX (.mk gop gna gar gpa gex gki)=X at cW⊢;obtain⟨yk,yv,yl,yc,yt,ys⟩:=X;have cp:=fun(m:Bool)(hx:(H.set id (wO (b3||!(validF (.mk gop gna gar gpa gex gki))))).obj xi=some (xO j LL2.length))(hj:(H.set id (wO (b3||!(validF (.mk gop gna gar gpa gex gki))))).obj j=some (.arr 6 (Sx.rows LL2)))=>part_c (h:=(H.set id (wO (b3||!(validF (.mk gop gna gar gpa gex gki)))))) (xi:=xi) (j:=j) (L:=LL2) (kw:=opPre) (v:=(.mk yk yv yl yc yt ys)) (m:=m) hx hj i5 i2 i4 (by omega);generalize hm:(isAlw (.mk gop gna gar gpa gex gki))=m at cS⊢;simp only[andFm,Fm.cells,Sx.cells,Sx.rows,opPre]at cA cS cW cp;replace zz:=uu4 s0 s3 s5 hm;refine wy zz ?_;replace zz:=uu4 s0 s3 s5 hm;(first|refine uV zz (cA _) ?_|refine uJ zz cA ?_);refine wy zz ?_;replace zz:=uu4 s0 s3 s5 hm;(first|refine uV zz (cS _) ?_|refine uJ zz cS ?_);refine wy zz ?_;replace zz:=uu4 s0 s3 s5 hm;refine uZ zz (cW) ?_;refine wy zz ?_;have o1':(H.set id (wO (b3||!(validF (.mk gop gna gar gpa gex gki))))).obj xi=some (xO j LL2.length):=(obj_set (by omega)).trans o2;have o2':(H.set id (wO (b3||!(validF (.mk gop gna gar gpa gex gki))))).obj j=some (.arr 6 (Sx.rows LL2)):=(obj_set (by omega)).trans o3;replace zz:=uu4 s0 s3 s5 hm;refine uZ zz (cp m o1' o2') ?_;refine wy zz ?_;cases m with
    |true=>exact⟨j,⟨by simp only[Ty.w,simprocAttr,s0],by simp only[Ty.w,simprocAttr,s3],by simp only[Ty.w,simprocAttr,s4],by simp only[Ty.w,simprocAttr,s5]⟩,hI.put hid⟩
    |false=>exact⟨_,⟨by simp only[Ty.w,simprocAttr,s0],by simp only[Ty.w,simprocAttr,s3],by simp only[Ty.w,simprocAttr,s4],by simp only[Ty.w,simprocAttr,s5]⟩,(hI.put hid).part hid⟩
   ·have hL3:(ifP LL2 (isAlw (.mk gop gna gar gpa gex gki)) opPre (fmX (.mk gop gna gar gpa gex gki))).length≤8:=(by have:=ifP_len LL2 (isAlw (.mk gop gna gar gpa gex gki)) opPre (fmX (.mk gop gna gar gpa gex gki));omega);generalize hLe3:ifP LL2 (isAlw (.mk gop gna gar gpa gex gki)) opPre (fmX (.mk gop gna gar gpa gex gki))=LL3 at hL3⊢;generalize hb4:(b3||!(validF (.mk gop gna gar gpa gex gki)))=b4;(try clear zz);clear s0 s3 s4 s5 hI;rintro S H ⟨j,⟨s0,s3,s4,s5⟩,hI⟩;refine a_cut (fun S H=> ∃ j,AcS h id xi [sPV name,.imm 2 (pmRows params),.sc (.int .i64 cost),sPV gop,sPV gna,.imm 1 (strRows gar),.imm 2 (pmRows gpa),.imm 5 (Ex.rows gex),.imm 6 (Fm.rows gki),.imm 15 (chRows changes)] S∧AcI h id (b4||!(changes.all chB)) xi j (ifP LL3 ((changes.length:Int)==0) opEff (effX changes)) H) ?_ ?_
    ·have hat:=hI.grow.at_;obtain⟨hg,⟨i1,i2,i3,i4,i5⟩,o1,o2,o3⟩:=(show AcI _ _ _ _ _ _ _ from hI);have hpl:=chRows_len changes;have cE:=weffect_c (h:=H) (b:=b4) hsm.chs hok.changes.2 hsm.ch (by omega) hat;generalize effX changes=X at cE⊢;obtain⟨yk,yv,yl,yc,yt,ys⟩:=X;have cp:=fun(m:Bool)(hx:(H.set id (wO (b4||!(changes.all chB)))).obj xi=some (xO j LL3.length))(hj:(H.set id (wO (b4||!(changes.all chB)))).obj j=some (.arr 6 (Sx.rows LL3)))=>part_c (h:=(H.set id (wO (b4||!(changes.all chB))))) (xi:=xi) (j:=j) (L:=LL3) (kw:=opEff) (v:=(.mk yk yv yl yc yt ys)) (m:=m) hx hj i5 i2 i4 (by omega);generalize hm:((changes.length:Int)==0)=m;simp only[listM,Sx.cells,Sx.rows,opEff]at cE cp;replace zz:=uu5 s0 s3 s5 hm hpl;refine wy zz ?_;replace zz:=uu5 s0 s3 s5 hm hpl;refine uZ zz (cE) ?_;refine wy zz ?_;have o1':(H.set id (wO (b4||!(changes.all chB)))).obj xi=some (xO j LL3.length):=(obj_set (by omega)).trans o2;have o2':(H.set id (wO (b4||!(changes.all chB)))).obj j=some (.arr 6 (Sx.rows LL3)):=(obj_set (by omega)).trans o3;replace zz:=uu5 s0 s3 s5 hm hpl;refine uZ zz (cp m o1' o2') ?_;refine wy zz ?_;cases m with
     |true=>exact⟨j,⟨by simp only[Ty.w,simprocAttr,s0],by simp only[Ty.w,simprocAttr,s3],by simp only[Ty.w,simprocAttr,s4],by simp only[Ty.w,simprocAttr,s5]⟩,hI.put hid⟩
     |false=>exact⟨_,⟨by simp only[Ty.w,simprocAttr,s0],by simp only[Ty.w,simprocAttr,s3],by simp only[Ty.w,simprocAttr,s4],by simp only[Ty.w,simprocAttr,s5]⟩,(hI.put hid).part hid⟩
    ·have hL4:(ifP LL3 ((changes.length:Int)==0) opEff (effX changes)).length≤10:=(by have:=ifP_len LL3 ((changes.length:Int)==0) opEff (effX changes);omega);have hLL:acX ⟨name,params,cost,.mk gop gna gar gpa gex gki,changes⟩=listM (ifP LL3 ((changes.length:Int)==0) opEff (effX changes)):=(by rw[← hLe3, ← hLe2, ← hLe1];try rfl);have hBB:(b||!acB ⟨name,params,cost,.mk gop gna gar gpa gex gki,changes⟩)=(b4||!(changes.all chB)):=by
      rw[← hb4, ← hb3, ← hb2, ← hb1];unfold acB;simp only;cases b<;>cases nameB name<;>cases decide (cost<0)<;>cases params.all (parB true)<;>cases validF (.mk gop gna gar gpa gex gki)<;>cases changes.all chB<;>rfl
     rw[hLL,hBB];generalize ifP LL3 ((changes.length:Int)==0) opEff (effX changes)=L at hL4⊢;generalize(b4||!(changes.all chB))=bb;(try clear zz);clear s0 s3 s4 s5 hI;rintro S H ⟨j,⟨s0,s3,s4,s5⟩,⟨hg,⟨i1,i2,i3,i4,i5⟩,o1,o2,o3⟩⟩;simp only[xO]at o2;have n1:(h.next=xi)=False:=eq_false (by omega);replace zz:=uu5 s4 s5 o1 o2 n1;refine wt zz ?_;refine⟨?_,hg.set hid (Nat.le_refl _)⟩;simp only[listM,Sx.cells,FrzTo,FrzL];refine⟨_,rfl,rfl,rfl,rfl,rfl,rfl,.inr (.inr ⟨j,0,L.length,Sx.rows L,rfl,by omega,?_,?_,?_⟩),trivial⟩
     ·simp only[Heap.set];rw[if_neg (by omega)];exact o3
     ·rw [Sx.rows_len];omega
     ·rw [List.drop_zero,List.take_of_length_le (by rw[Sx.rows_len];omega)];exact sxs_frz _ _ _
def opDur:ByteArray:=⟨#[58,100,117,114,97,116,105,118,101,45,97,99,116,105,111,110]⟩
def opDtn:ByteArray:=⟨#[58,100,117,114,97,116,105,111,110]⟩
def opSta:ByteArray:=⟨#[58,115,116,97,114,116]⟩
def opOve:ByteArray:=⟨#[58,111,118,101,114]⟩
def opEnd:ByteArray:=⟨#[58,101,110,100]⟩
def opAtS:ByteArray:=⟨#[58,97,116,45,115,116,97,114,116]⟩
def opAtE:ByteArray:=⟨#[58,97,116,45,101,110,100]⟩
def duL(a:Du):List Sx:=ifP (ifP (ifP (ifP (ifP (ifP (ifP [wordM opDur,wordM a.name] ((a.params.length:Int)==0) opPar (listM (paramsW a.params))) (a.duration==1) opDtn (numM a.duration)) (isAlw a.start) opSta (fmX a.start)) (isAlw a.over) opOve (fmX a.over)) (isAlw a.stop) opEnd (fmX a.stop)) ((a.atStart.length:Int)==0) opAtS (effX a.atStart)) ((a.atStop.length:Int)==0) opAtE (effX a.atStop)
def duX(a:Du):Sx:=listM (duL a)
def duB(a:Du):Bool:=nameB a.name&&a.params.all (parB true)&&validF a.start&&validF a.over&&validF a.stop&&a.atStart.all chB&&a.atStop.all chB
structure DuSm(a:Du):Prop where
 params:a.params.length≤1048576
 start:a.start.small
 over:a.over.small
 stop:a.stop.small
 atS:a.atStart.length≤1048576∧ ∀ c∈a.atStart,ChSm c
 atE:a.atStop.length≤1048576∧ ∀ c∈a.atStop,ChSm c
theorem wdurative_c{h:Heap}{id:Nat}{b:Bool}{a:Du}(hok:a.ok)(hsm:DuSm a)(hid:id<h.next)(ho:h.obj id=some (wO b)):
  PCall Tryz.prog 46 [.ptr id 0 0,.agg (duRow a)] h fun r h'=>r= .agg (duX a).cells∧h'=h.set id (wO (b||!duB a)):=by
 refine pcall_wf Ty.hb_46 fun hwf=>?_;refine PCall.frzX Ty.hb_46 ho (wO_in _ _) ?_;have hno: ∀ i,h.next≤i→h.obj i=none:=fun i hi=>by
  cases q:h.obj i with
  |none=>rfl
  |some o=>have:=hwf i (by rw[q];try rfl);omega
 obtain⟨name,params,dur,⟨sop,sna,sar,spa,sex,ski⟩,⟨vop,vna,var_,vpa,vex,vki⟩,⟨eop,ena,ear,epa,eex,eki⟩,ats,ate⟩:=a;have hw: ∀ (s:ByteArray)(h:Heap),PCall Tryz.prog 40 [sPV s] h fun r h'=>r= .agg (wordM s).cells∧h'=h:=fun s h=>dword_c;have hns:name.size≤9223372036854775807:=by have:=hok.name;unfold bigN at this;simp only at this;omega
 have cN:=fun(H:Heap)(hid:id<H.next)(ho:H.obj id=some (wO b))=>wname_c (h:=H) (b:=b) hns hid ho;simp only[wordM,Sx.cells,Sx.rows]at hw cN;simp only[duRow,Fm.cells,List.cons_append,List.nil_append];have n1:(id=h.next)=False:=eq_false (by omega);have n2:(h.next=id)=False:=eq_false (by omega);refine pcall_body (ow:=fun t=>t==11) (wf:=fun f=>f==41||f==43||f==100||f==51||f==97) Ty.mixed Tryz.func46 rfl Ty.hb_46 (by rw[Tryz.ntmps46];simp) ?_;rw[Tryz.ntmps46,Tryz.results46];refine a_seq (fun K hK=>?_);repeat'(first|refine a_seq fun K hK=>?_|refine uR trivial ?_|(refine uN hK ?_;clear hK)|apply zI)
 refine a_draw2S [7] (by decide+kernel) (by decide+kernel) ?_;have n3:(h.next+1+7=h.next)=False:=eq_false (by omega);have n4:(h.next+1+7=id)=False:=eq_false (by omega);have n5:(h.next+1+9=id)=False:=eq_false (by omega);have n6:(h.next+1+7=h.next+1+9)=False:=eq_false (by omega);have n7:(h.next+1+9=h.next+1+7)=False:=eq_false (by omega);have n8:(id=h.next+1+7)=False:=eq_false (by omega);have hN8:h.obj (h.next+1+7)=none:=hno _ (by omega);simp(maxSteps:=4000000) only[drn2,Ty.w,simprocAttr,Ty.all,List.forall_mem_cons,ho,n1,n2,n3,n4,n5,n6,n7,n8,hN8];first
  |refine a_dcall2 [7] (by decide+kernel) (hw opDur _) (by(try simp only[Ty.w,simprocAttr,ho,n1,n2,n3,n4,n5,n6,n7,n8,hN8]);try rfl) ?_
  |refine a_dcall2A [7] (by decide+kernel) (hw opDur _) (by(try simp only[Ty.w,simprocAttr,ho,n1,n2,n3,n4,n5,n6,n7,n8,hN8]);try rfl) (by simp only[Ty.w,simprocAttr,Ty.all,ho,n1,n2,n3,n4,n5,n6,n7,n8,hN8];try trivial) ?_
 simp(maxSteps:=4000000) only[drn2,Ty.w,simprocAttr,Ty.all,List.forall_mem_cons,List.nil_append,ho,n1,n2,n3,n4,n5,n6,n7,n8,hN8];refine a_dcall2W [7] (by decide+kernel) (cN _ (by simp only[Heap.new];omega) (by simp only[Ty.w,simprocAttr,ho,n1,n2,n3,n4,n5,n6,n7,n8,hN8])) (by(try simp only[Ty.w,simprocAttr,ho,n1,n2,n3,n4,n5,n6,n7,n8,hN8]);try rfl) ?_ ?_
 ·exact ⟨by simp only[Ty.w,simprocAttr,ho,n1,n2,n3,n4,n5,n6,n7,n8,hN8],by simp only[pastC,List.map_cons,List.map_nil,List.forall_mem_cons];(repeat' apply And.intro)<;>first|exact .inl (by decide+kernel)|exact(fun _ hx=>by cases hx)⟩
 simp(maxSteps:=4000000) only[drn2,Ty.w,simprocAttr,Ty.all,List.forall_mem_cons,List.nil_append,ho,n1,n2,n3,n4,n5,n6,n7,n8,hN8];refine⟨by(repeat' apply And.intro)<;>first|exact .inl (by decide+kernel)|exact(fun _ hx=>by cases hx)|trivial,?_⟩;have hl3: ∀ H:Heap,h.next+1+9<H.next→PCall Tryz.prog 39 [.own (h.next+1+9) 0 2] H fun r h'=>r= .agg [.sc (.int .i64 3),.sc (.int .i64 0),.sc (.int .i64 0),.sc (.int .i64 0),.sc (.string ⟨#[]⟩),.own (h.next+1+9) 0 2]∧h'=H:=fun H hh=>dlist_c rfl (fun _=>frz_own hh)
 refine a_dcall2A [7] (by decide+kernel) (hl3 _ (by simp[Heap.new,Heap.set])) (by(try simp only[Ty.w,simprocAttr,ho,n1,n2,n3,n4,n5,n6,n7,n8,hN8]);try rfl) (by(repeat' apply And.intro)<;>first|exact .inl (by decide+kernel)|exact(fun _ hx=>by cases hx)|trivial) ?_;simp(maxSteps:=4000000) only[drn2,Ty.w,simprocAttr,Ty.all,List.forall_mem_cons,List.nil_append,ho,n1,n2,n3,n4,n5,n6,n7,n8,hN8];refine⟨?_,?_⟩
 ·(repeat' apply And.intro)<;>first
    |exact .inl (by decide+kernel)
    |exact .inr (Does_use (hw opDur _) (by(try simp only[Ty.w,simprocAttr,ho,n1,n2,n3,n4,n5,n6,n7,n8,hN8]);try rfl))
    |exact .inr (Does_use (hl3 _ (by simp[Heap.new,Heap.set])) (by(try simp only[Ty.w,simprocAttr,ho,n1,n2,n3,n4,n5,n6,n7,n8,hN8]);try rfl))
    |exact .inr (by simp(maxSteps:=2000000) only[Ty.w,simprocAttr,Ty.all,ho,n1,n2,n3,n4,n5,n6,n7,n8,hN8])
    |exact(fun _ hx=>by cases hx)
    |trivial
 refine⟨?_,?_⟩
 ·(repeat' apply And.intro)<;>first
    |exact .inl (by decide+kernel)
    |exact .inr (Does_use (hw opDur _) (by(try simp only[Ty.w,simprocAttr,ho,n1,n2,n3,n4,n5,n6,n7,n8,hN8]);try rfl))
    |exact .inr (Does_use (hl3 _ (by simp[Heap.new,Heap.set])) (by(try simp only[Ty.w,simprocAttr,ho,n1,n2,n3,n4,n5,n6,n7,n8,hN8]);try rfl))
    |exact .inr (by simp(maxSteps:=2000000) only[Ty.w,simprocAttr,Ty.all,ho,n1,n2,n3,n4,n5,n6,n7,n8,hN8])
    |exact(fun _ hx=>by cases hx)
    |trivial
 first|refine hK _ _ ?_|refine cK ?_
 try clear hK
 generalize hxi:h.next+1+7=xi
 refine a_genX (fun S H=> ∃ j,AcS h id xi [sPV name,.imm 2 (pmRows params),.sc (.int .i64 dur),sPV sop,sPV sna,.imm 1 (strRows sar),.imm 2 (pmRows spa),.imm 5 (Ex.rows sex),.imm 6 (Fm.rows ski),sPV vop,sPV vna,.imm 1 (strRows var_),.imm 2 (pmRows vpa),.imm 5 (Ex.rows vex),.imm 6 (Fm.rows vki),sPV eop,sPV ena,.imm 1 (strRows ear),.imm 2 (pmRows epa),.imm 5 (Ex.rows eex),.imm 6 (Fm.rows eki),.imm 15 (chRows ats),.imm 15 (chRows ate)] S∧AcI h id (b||!nameB name) xi j [wordM opDur,wordM name] H) ?_ ?_
 ·subst hxi;refine⟨h.next+1+9,⟨by simp only[Ty.w,simprocAttr],by simp only[Ty.w,simprocAttr],by simp only[Ty.w,simprocAttr],by simp only[Ty.w,simprocAttr]⟩,⟨?_,⟨by omega,by simp only[Heap.set,Heap.new];omega,by omega,by simp only[Heap.set,Heap.new];omega,by omega⟩,?_,?_,?_⟩⟩
  ·refine ⟨by simp only[Heap.set,Heap.new];omega,fun k hk hne=>?_,?_⟩
   ·simp only[Heap.set,Heap.new];(repeat(first|rw[if_neg (by omega)]|rw[if_pos trivial]));try exact if_neg (by omega)
   ·simp only[Heap.set,Heap.new];repeat(first|rw[if_neg (by omega)]|rw[if_pos trivial])
  ·simp only[Heap.set,Heap.new];repeat(first|rw[if_neg (by omega)]|rw[if_pos trivial])
  ·simp only[Heap.set,Heap.new];(repeat(first|rw[if_neg (by omega)]|rw[if_pos trivial]));rfl
  ·simp only[Heap.set,Heap.new];(repeat(first|rw[if_neg (by omega)]|rw[if_pos trivial]));simp[wordM,Sx.rows,Sx.cells]
 try clear zz
 clear n1 n2 n3 n4 n5 n6 n7 n8 hN8 hno hwf hl3 cN;rintro S H ⟨j,⟨s0,s3,s4,s5⟩,hI⟩;generalize hb1:(b||!nameB name)=b1 at hI;have hL0:[wordM opDur,wordM name].length≤2:=by simp
 generalize hLe0:[wordM opDur,wordM name]=LL0 at hL0 hI;refine a_cut (fun S H=> ∃ j,AcS h id xi [sPV name,.imm 2 (pmRows params),.sc (.int .i64 dur),sPV sop,sPV sna,.imm 1 (strRows sar),.imm 2 (pmRows spa),.imm 5 (Ex.rows sex),.imm 6 (Fm.rows ski),sPV vop,sPV vna,.imm 1 (strRows var_),.imm 2 (pmRows vpa),.imm 5 (Ex.rows vex),.imm 6 (Fm.rows vki),sPV eop,sPV ena,.imm 1 (strRows ear),.imm 2 (pmRows epa),.imm 5 (Ex.rows eex),.imm 6 (Fm.rows eki),.imm 15 (chRows ats),.imm 15 (chRows ate)] S∧AcI h id (b1||!(params.all (parB true))) xi j (ifP LL0 ((params.length:Int)==0) opPar (listM (paramsW params))) H) ?_ ?_
 ·have hat:=hI.grow.at_;obtain⟨hg,⟨i1,i2,i3,i4,i5⟩,o1,o2,o3⟩:=(show AcI _ _ _ _ _ _ _ from hI);have hpl:=pmRows_len params;have cP:=wparams_c (h:=H) (b:=b1) (vars:=true) hsm.params hok.params.2 (by omega) hat;have cL:=fun h:Heap=>dlistS_c (paramsW params) h;have cp:=fun(m:Bool)(hx:(H.set id (wO (b1||!(params.all (parB true))))).obj xi=some (xO j LL0.length))(hj:(H.set id (wO (b1||!(params.all (parB true))))).obj j=some (.arr 6 (Sx.rows LL0)))=>part_c (h:=(H.set id (wO (b1||!(params.all (parB true)))))) (xi:=xi) (j:=j) (L:=LL0) (kw:=opPar) (v:=(listM (paramsW params))) (m:=m) hx hj i5 i2 i4 (by omega);generalize hm:((params.length:Int)==0)=m;simp only[listM,Sx.cells,Sx.rows,opPar]at cP cL cp;replace zz:=uu5 s0 s3 s5 hm hpl;refine wy zz ?_;replace zz:=uu5 s0 s3 s5 hm hpl;refine uZ zz (cP) ?_;refine wy zz ?_;replace zz:=uu5 s0 s3 s5 hm hpl;first|refine uV zz (cL _) ?_|refine uJ zz cL ?_
  refine wy zz ?_;have o1':(H.set id (wO (b1||!(params.all (parB true))))).obj xi=some (xO j LL0.length):=(obj_set (by omega)).trans o2;have o2':(H.set id (wO (b1||!(params.all (parB true))))).obj j=some (.arr 6 (Sx.rows LL0)):=(obj_set (by omega)).trans o3;replace zz:=uu5 s0 s3 s5 hm hpl;refine uZ zz (cp m o1' o2') ?_;refine wy zz ?_;cases m with
  |true=>exact⟨j,⟨by simp only[Ty.w,simprocAttr,s0],by simp only[Ty.w,simprocAttr,s3],by simp only[Ty.w,simprocAttr,s4],by simp only[Ty.w,simprocAttr,s5]⟩,hI.put hid⟩
  |false=>exact⟨_,⟨by simp only[Ty.w,simprocAttr,s0],by simp only[Ty.w,simprocAttr,s3],by simp only[Ty.w,simprocAttr,s4],by simp only[Ty.w,simprocAttr,s5]⟩,(hI.put hid).part hid⟩
 ·have hL1:(ifP LL0 ((params.length:Int)==0) opPar (listM (paramsW params))).length≤4:=by have:=ifP_len LL0 ((params.length:Int)==0) opPar (listM (paramsW params));omega
  generalize hLe1:ifP LL0 ((params.length:Int)==0) opPar (listM (paramsW params))=LL1 at hL1⊢;generalize hb2:(b1||!(params.all (parB true)))=b2;try clear zz
  clear s0 s3 s4 s5 hI;rintro S H ⟨j,⟨s0,s3,s4,s5⟩,hI⟩;refine a_cut (fun S H=> ∃ j,AcS h id xi [sPV name,.imm 2 (pmRows params),.sc (.int .i64 dur),sPV sop,sPV sna,.imm 1 (strRows sar),.imm 2 (pmRows spa),.imm 5 (Ex.rows sex),.imm 6 (Fm.rows ski),sPV vop,sPV vna,.imm 1 (strRows var_),.imm 2 (pmRows vpa),.imm 5 (Ex.rows vex),.imm 6 (Fm.rows vki),sPV eop,sPV ena,.imm 1 (strRows ear),.imm 2 (pmRows epa),.imm 5 (Ex.rows eex),.imm 6 (Fm.rows eki),.imm 15 (chRows ats),.imm 15 (chRows ate)] S∧AcI h id b2 xi j (ifP LL1 (dur==1) opDtn (numM dur)) H) ?_ ?_
  ·have hat:=hI.grow.at_;obtain⟨hg,⟨i1,i2,i3,i4,i5⟩,o1,o2,o3⟩:=(show AcI _ _ _ _ _ _ _ from hI);have cD:=fun h:Heap=>digits_c (h:=h) (n:=dur);have cp:=fun(m:Bool)(hx:H.obj xi=some (xO j LL1.length))(hj:H.obj j=some (.arr 6 (Sx.rows LL1)))=>part_c (h:=H) (xi:=xi) (j:=j) (L:=LL1) (kw:=opDtn) (v:=(numM dur)) (m:=m) hx hj i5 i2 i4 (by omega);generalize hm:(dur==1)=m;simp only[numM,Sx.cells,Sx.rows,opDtn]at cD cp;replace zz:=uu4 s0 s3 s5 hm;refine wy zz ?_;replace zz:=uu4 s0 s3 s5 hm;(first|refine uV zz (cD _) ?_|refine uJ zz cD ?_);refine wy zz ?_;have o1':H.obj xi=some (xO j LL1.length):=o2;have o2':H.obj j=some (.arr 6 (Sx.rows LL1)):=o3;replace zz:=uu4 s0 s3 s5 hm;refine uZ zz (cp m o1' o2') ?_;refine wy zz ?_;cases m with
   |true=>exact⟨j,⟨by simp only[Ty.w,simprocAttr,s0],by simp only[Ty.w,simprocAttr,s3],by simp only[Ty.w,simprocAttr,s4],by simp only[Ty.w,simprocAttr,s5]⟩,hI⟩
   |false=>exact⟨_,⟨by simp only[Ty.w,simprocAttr,s0],by simp only[Ty.w,simprocAttr,s3],by simp only[Ty.w,simprocAttr,s4],by simp only[Ty.w,simprocAttr,s5]⟩,hI.part hid⟩
  ·have hL2:(ifP LL1 (dur==1) opDtn (numM dur)).length≤6:=(by have:=ifP_len LL1 (dur==1) opDtn (numM dur);omega);generalize hLe2:ifP LL1 (dur==1) opDtn (numM dur)=LL2 at hL2⊢;(try clear zz);clear s0 s3 s4 s5 hI;rintro S H ⟨j,⟨s0,s3,s4,s5⟩,hI⟩;refine a_cut (fun S H=> ∃ j,AcS h id xi [sPV name,.imm 2 (pmRows params),.sc (.int .i64 dur),sPV sop,sPV sna,.imm 1 (strRows sar),.imm 2 (pmRows spa),.imm 5 (Ex.rows sex),.imm 6 (Fm.rows ski),sPV vop,sPV vna,.imm 1 (strRows var_),.imm 2 (pmRows vpa),.imm 5 (Ex.rows vex),.imm 6 (Fm.rows vki),sPV eop,sPV ena,.imm 1 (strRows ear),.imm 2 (pmRows epa),.imm 5 (Ex.rows eex),.imm 6 (Fm.rows eki),.imm 15 (chRows ats),.imm 15 (chRows ate)] S∧AcI h id (b2||!(validF (.mk sop sna sar spa sex ski))) xi j (ifP LL2 (isAlw (.mk sop sna sar spa sex ski)) opSta (fmX (.mk sop sna sar spa sex ski))) H) ?_ ?_
   ·have hat:=hI.grow.at_;obtain⟨hg,⟨i1,i2,i3,i4,i5⟩,o1,o2,o3⟩:=(show AcI _ _ _ _ _ _ _ from hI);have cA:=fun h:Heap=>dalways_c (h:=h);have cS:=fun h:Heap=>fsame_c (.mk sop sna sar spa sex ski) hok.start andFm andFm_ok h;have hAl:(.mk sop sna sar spa sex ski:Fm).same andFm=isAlw (.mk sop sna sar spa sex ski):=rfl;rw[hAl]at cS;have cW:=wformula_c (h:=H) (b:=b2) hok.start hsm.start (by omega) hat;generalize fmX (.mk sop sna sar spa sex ski)=X at cW⊢;obtain⟨yk,yv,yl,yc,yt,ys⟩:=X;have cp:=fun(m:Bool)(hx:(H.set id (wO (b2||!(validF (.mk sop sna sar spa sex ski))))).obj xi=some (xO j LL2.length))(hj:(H.set id (wO (b2||!(validF (.mk sop sna sar spa sex ski))))).obj j=some (.arr 6 (Sx.rows LL2)))=>part_c (h:=(H.set id (wO (b2||!(validF (.mk sop sna sar spa sex ski)))))) (xi:=xi) (j:=j) (L:=LL2) (kw:=opSta) (v:=(.mk yk yv yl yc yt ys)) (m:=m) hx hj i5 i2 i4 (by omega);generalize hm:(isAlw (.mk sop sna sar spa sex ski))=m at cS⊢;simp only[andFm,Fm.cells,Sx.cells,Sx.rows,opSta]at cA cS cW cp;replace zz:=uu4 s0 s3 s5 hm;refine wy zz ?_;replace zz:=uu4 s0 s3 s5 hm;(first|refine uV zz (cA _) ?_|refine uJ zz cA ?_);refine wy zz ?_;replace zz:=uu4 s0 s3 s5 hm;(first|refine uV zz (cS _) ?_|refine uJ zz cS ?_);refine wy zz ?_;replace zz:=uu4 s0 s3 s5 hm;refine uZ zz (cW) ?_;refine wy zz ?_;have o1':(H.set id (wO (b2||!(validF (.mk sop sna sar spa sex ski))))).obj xi=some (xO j LL2.length):=(obj_set (by omega)).trans o2;have o2':(H.set id (wO (b2||!(validF (.mk sop sna sar spa sex ski))))).obj j=some (.arr 6 (Sx.rows LL2)):=(obj_set (by omega)).trans o3;replace zz:=uu4 s0 s3 s5 hm;refine uZ zz (cp m o1' o2') ?_;refine wy zz ?_;cases m with
    |true=>exact⟨j,⟨by simp only[Ty.w,simprocAttr,s0],by simp only[Ty.w,simprocAttr,s3],by simp only[Ty.w,simprocAttr,s4],by simp only[Ty.w,simprocAttr,s5]⟩,hI.put hid⟩
    |false=>exact⟨_,⟨by simp only[Ty.w,simprocAttr,s0],by simp only[Ty.w,simprocAttr,s3],by simp only[Ty.w,simprocAttr,s4],by simp only[Ty.w,simprocAttr,s5]⟩,(hI.put hid).part hid⟩
   ·have hL3:(ifP LL2 (isAlw (.mk sop sna sar spa sex ski)) opSta (fmX (.mk sop sna sar spa sex ski))).length≤8:=(by have:=ifP_len LL2 (isAlw (.mk sop sna sar spa sex ski)) opSta (fmX (.mk sop sna sar spa sex ski));omega);generalize hLe3:ifP LL2 (isAlw (.mk sop sna sar spa sex ski)) opSta (fmX (.mk sop sna sar spa sex ski))=LL3 at hL3⊢;generalize hb3:(b2||!(validF (.mk sop sna sar spa sex ski)))=b3;(try clear zz);clear s0 s3 s4 s5 hI;rintro S H ⟨j,⟨s0,s3,s4,s5⟩,hI⟩;refine a_cut (fun S H=> ∃ j,AcS h id xi [sPV name,.imm 2 (pmRows params),.sc (.int .i64 dur),sPV sop,sPV sna,.imm 1 (strRows sar),.imm 2 (pmRows spa),.imm 5 (Ex.rows sex),.imm 6 (Fm.rows ski),sPV vop,sPV vna,.imm 1 (strRows var_),.imm 2 (pmRows vpa),.imm 5 (Ex.rows vex),.imm 6 (Fm.rows vki),sPV eop,sPV ena,.imm 1 (strRows ear),.imm 2 (pmRows epa),.imm 5 (Ex.rows eex),.imm 6 (Fm.rows eki),.imm 15 (chRows ats),.imm 15 (chRows ate)] S∧AcI h id (b3||!(validF (.mk vop vna var_ vpa vex vki))) xi j (ifP LL3 (isAlw (.mk vop vna var_ vpa vex vki)) opOve (fmX (.mk vop vna var_ vpa vex vki))) H) ?_ ?_
    ·have hat:=hI.grow.at_;obtain⟨hg,⟨i1,i2,i3,i4,i5⟩,o1,o2,o3⟩:=(show AcI _ _ _ _ _ _ _ from hI);have cA:=fun h:Heap=>dalways_c (h:=h);have cS:=fun h:Heap=>fsame_c (.mk vop vna var_ vpa vex vki) hok.over andFm andFm_ok h;have hAl:(.mk vop vna var_ vpa vex vki:Fm).same andFm=isAlw (.mk vop vna var_ vpa vex vki):=rfl;rw[hAl]at cS;have cW:=wformula_c (h:=H) (b:=b3) hok.over hsm.over (by omega) hat;generalize fmX (.mk vop vna var_ vpa vex vki)=X at cW⊢;obtain⟨yk,yv,yl,yc,yt,ys⟩:=X;have cp:=fun(m:Bool)(hx:(H.set id (wO (b3||!(validF (.mk vop vna var_ vpa vex vki))))).obj xi=some (xO j LL3.length))(hj:(H.set id (wO (b3||!(validF (.mk vop vna var_ vpa vex vki))))).obj j=some (.arr 6 (Sx.rows LL3)))=>part_c (h:=(H.set id (wO (b3||!(validF (.mk vop vna var_ vpa vex vki)))))) (xi:=xi) (j:=j) (L:=LL3) (kw:=opOve) (v:=(.mk yk yv yl yc yt ys)) (m:=m) hx hj i5 i2 i4 (by omega);generalize hm:(isAlw (.mk vop vna var_ vpa vex vki))=m at cS⊢;simp only[andFm,Fm.cells,Sx.cells,Sx.rows,opOve]at cA cS cW cp;replace zz:=uu4 s0 s3 s5 hm;refine wy zz ?_;replace zz:=uu4 s0 s3 s5 hm;(first|refine uV zz (cA _) ?_|refine uJ zz cA ?_);refine wy zz ?_;replace zz:=uu4 s0 s3 s5 hm;(first|refine uV zz (cS _) ?_|refine uJ zz cS ?_);refine wy zz ?_;replace zz:=uu4 s0 s3 s5 hm;refine uZ zz (cW) ?_;refine wy zz ?_;have o1':(H.set id (wO (b3||!(validF (.mk vop vna var_ vpa vex vki))))).obj xi=some (xO j LL3.length):=(obj_set (by omega)).trans o2;have o2':(H.set id (wO (b3||!(validF (.mk vop vna var_ vpa vex vki))))).obj j=some (.arr 6 (Sx.rows LL3)):=(obj_set (by omega)).trans o3;replace zz:=uu4 s0 s3 s5 hm;refine uZ zz (cp m o1' o2') ?_;refine wy zz ?_;cases m with
     |true=>exact⟨j,⟨by simp only[Ty.w,simprocAttr,s0],by simp only[Ty.w,simprocAttr,s3],by simp only[Ty.w,simprocAttr,s4],by simp only[Ty.w,simprocAttr,s5]⟩,hI.put hid⟩
     |false=>exact⟨_,⟨by simp only[Ty.w,simprocAttr,s0],by simp only[Ty.w,simprocAttr,s3],by simp only[Ty.w,simprocAttr,s4],by simp only[Ty.w,simprocAttr,s5]⟩,(hI.put hid).part hid⟩
    ·have hL4:(ifP LL3 (isAlw (.mk vop vna var_ vpa vex vki)) opOve (fmX (.mk vop vna var_ vpa vex vki))).length≤10:=(by have:=ifP_len LL3 (isAlw (.mk vop vna var_ vpa vex vki)) opOve (fmX (.mk vop vna var_ vpa vex vki));omega);generalize hLe4:ifP LL3 (isAlw (.mk vop vna var_ vpa vex vki)) opOve (fmX (.mk vop vna var_ vpa vex vki))=LL4 at hL4⊢;generalize hb4:(b3||!(validF (.mk vop vna var_ vpa vex vki)))=b4;(try clear zz);clear s0 s3 s4 s5 hI;rintro S H ⟨j,⟨s0,s3,s4,s5⟩,hI⟩;refine a_cut (fun S H=> ∃ j,AcS h id xi [sPV name,.imm 2 (pmRows params),.sc (.int .i64 dur),sPV sop,sPV sna,.imm 1 (strRows sar),.imm 2 (pmRows spa),.imm 5 (Ex.rows sex),.imm 6 (Fm.rows ski),sPV vop,sPV vna,.imm 1 (strRows var_),.imm 2 (pmRows vpa),.imm 5 (Ex.rows vex),.imm 6 (Fm.rows vki),sPV eop,sPV ena,.imm 1 (strRows ear),.imm 2 (pmRows epa),.imm 5 (Ex.rows eex),.imm 6 (Fm.rows eki),.imm 15 (chRows ats),.imm 15 (chRows ate)] S∧AcI h id (b4||!(validF (.mk eop ena ear epa eex eki))) xi j (ifP LL4 (isAlw (.mk eop ena ear epa eex eki)) opEnd (fmX (.mk eop ena ear epa eex eki))) H) ?_ ?_
     ·have hat:=hI.grow.at_;obtain⟨hg,⟨i1,i2,i3,i4,i5⟩,o1,o2,o3⟩:=(show AcI _ _ _ _ _ _ _ from hI);have cA:=fun h:Heap=>dalways_c (h:=h);have cS:=fun h:Heap=>fsame_c (.mk eop ena ear epa eex eki) hok.stop andFm andFm_ok h;have hAl:(.mk eop ena ear epa eex eki:Fm).same andFm=isAlw (.mk eop ena ear epa eex eki):=rfl;rw[hAl]at cS;have cW:=wformula_c (h:=H) (b:=b4) hok.stop hsm.stop (by omega) hat;generalize fmX (.mk eop ena ear epa eex eki)=X at cW⊢;obtain⟨yk,yv,yl,yc,yt,ys⟩:=X;have cp:=fun(m:Bool)(hx:(H.set id (wO (b4||!(validF (.mk eop ena ear epa eex eki))))).obj xi=some (xO j LL4.length))(hj:(H.set id (wO (b4||!(validF (.mk eop ena ear epa eex eki))))).obj j=some (.arr 6 (Sx.rows LL4)))=>part_c (h:=(H.set id (wO (b4||!(validF (.mk eop ena ear epa eex eki)))))) (xi:=xi) (j:=j) (L:=LL4) (kw:=opEnd) (v:=(.mk yk yv yl yc yt ys)) (m:=m) hx hj i5 i2 i4 (by omega);generalize hm:(isAlw (.mk eop ena ear epa eex eki))=m at cS⊢;simp only[andFm,Fm.cells,Sx.cells,Sx.rows,opEnd]at cA cS cW cp;replace zz:=uu4 s0 s3 s5 hm;refine wy zz ?_;replace zz:=uu4 s0 s3 s5 hm;(first|refine uV zz (cA _) ?_|refine uJ zz cA ?_);refine wy zz ?_;replace zz:=uu4 s0 s3 s5 hm;(first|refine uV zz (cS _) ?_|refine uJ zz cS ?_);refine wy zz ?_;replace zz:=uu4 s0 s3 s5 hm;refine uZ zz (cW) ?_;refine wy zz ?_;have o1':(H.set id (wO (b4||!(validF (.mk eop ena ear epa eex eki))))).obj xi=some (xO j LL4.length):=(obj_set (by omega)).trans o2;have o2':(H.set id (wO (b4||!(validF (.mk eop ena ear epa eex eki))))).obj j=some (.arr 6 (Sx.rows LL4)):=(obj_set (by omega)).trans o3;replace zz:=uu4 s0 s3 s5 hm;refine uZ zz (cp m o1' o2') ?_;refine wy zz ?_;cases m with
      |true=>exact⟨j,⟨by simp only[Ty.w,simprocAttr,s0],by simp only[Ty.w,simprocAttr,s3],by simp only[Ty.w,simprocAttr,s4],by simp only[Ty.w,simprocAttr,s5]⟩,hI.put hid⟩
      |false=>exact⟨_,⟨by simp only[Ty.w,simprocAttr,s0],by simp only[Ty.w,simprocAttr,s3],by simp only[Ty.w,simprocAttr,s4],by simp only[Ty.w,simprocAttr,s5]⟩,(hI.put hid).part hid⟩
     ·have hL5:(ifP LL4 (isAlw (.mk eop ena ear epa eex eki)) opEnd (fmX (.mk eop ena ear epa eex eki))).length≤12:=(by have:=ifP_len LL4 (isAlw (.mk eop ena ear epa eex eki)) opEnd (fmX (.mk eop ena ear epa eex eki));omega);generalize hLe5:ifP LL4 (isAlw (.mk eop ena ear epa eex eki)) opEnd (fmX (.mk eop ena ear epa eex eki))=LL5 at hL5⊢;generalize hb5:(b4||!(validF (.mk eop ena ear epa eex eki)))=b5;(try clear zz);clear s0 s3 s4 s5 hI;rintro S H ⟨j,⟨s0,s3,s4,s5⟩,hI⟩;refine a_cut (fun S H=> ∃ j,AcS h id xi [sPV name,.imm 2 (pmRows params),.sc (.int .i64 dur),sPV sop,sPV sna,.imm 1 (strRows sar),.imm 2 (pmRows spa),.imm 5 (Ex.rows sex),.imm 6 (Fm.rows ski),sPV vop,sPV vna,.imm 1 (strRows var_),.imm 2 (pmRows vpa),.imm 5 (Ex.rows vex),.imm 6 (Fm.rows vki),sPV eop,sPV ena,.imm 1 (strRows ear),.imm 2 (pmRows epa),.imm 5 (Ex.rows eex),.imm 6 (Fm.rows eki),.imm 15 (chRows ats),.imm 15 (chRows ate)] S∧AcI h id (b5||!(ats.all chB)) xi j (ifP LL5 ((ats.length:Int)==0) opAtS (effX ats)) H) ?_ ?_
      ·have hat:=hI.grow.at_;obtain⟨hg,⟨i1,i2,i3,i4,i5⟩,o1,o2,o3⟩:=(show AcI _ _ _ _ _ _ _ from hI);have hpl:=chRows_len ats;have cE:=weffect_c (h:=H) (b:=b5) hsm.atS.1 hok.atStart.2 hsm.atS.2 (by omega) hat;generalize effX ats=X at cE⊢;obtain⟨yk,yv,yl,yc,yt,ys⟩:=X;have cp:=fun(m:Bool)(hx:(H.set id (wO (b5||!(ats.all chB)))).obj xi=some (xO j LL5.length))(hj:(H.set id (wO (b5||!(ats.all chB)))).obj j=some (.arr 6 (Sx.rows LL5)))=>part_c (h:=(H.set id (wO (b5||!(ats.all chB))))) (xi:=xi) (j:=j) (L:=LL5) (kw:=opAtS) (v:=(.mk yk yv yl yc yt ys)) (m:=m) hx hj i5 i2 i4 (by omega);generalize hm:((ats.length:Int)==0)=m;simp only[listM,Sx.cells,Sx.rows,opAtS]at cE cp;replace zz:=uu5 s0 s3 s5 hm hpl;refine wy zz ?_;replace zz:=uu5 s0 s3 s5 hm hpl;refine uZ zz (cE) ?_;refine wy zz ?_;have o1':(H.set id (wO (b5||!(ats.all chB)))).obj xi=some (xO j LL5.length):=(obj_set (by omega)).trans o2;have o2':(H.set id (wO (b5||!(ats.all chB)))).obj j=some (.arr 6 (Sx.rows LL5)):=(obj_set (by omega)).trans o3;replace zz:=uu5 s0 s3 s5 hm hpl;refine uZ zz (cp m o1' o2') ?_;refine wy zz ?_;cases m with
       |true=>exact⟨j,⟨by simp only[Ty.w,simprocAttr,s0],by simp only[Ty.w,simprocAttr,s3],by simp only[Ty.w,simprocAttr,s4],by simp only[Ty.w,simprocAttr,s5]⟩,hI.put hid⟩
       |false=>exact⟨_,⟨by simp only[Ty.w,simprocAttr,s0],by simp only[Ty.w,simprocAttr,s3],by simp only[Ty.w,simprocAttr,s4],by simp only[Ty.w,simprocAttr,s5]⟩,(hI.put hid).part hid⟩
      ·have hL6:(ifP LL5 ((ats.length:Int)==0) opAtS (effX ats)).length≤14:=(by have:=ifP_len LL5 ((ats.length:Int)==0) opAtS (effX ats);omega);generalize hLe6:ifP LL5 ((ats.length:Int)==0) opAtS (effX ats)=LL6 at hL6⊢;generalize hb6:(b5||!(ats.all chB))=b6;(try clear zz);clear s0 s3 s4 s5 hI;rintro S H ⟨j,⟨s0,s3,s4,s5⟩,hI⟩;refine a_cut (fun S H=> ∃ j,AcS h id xi [sPV name,.imm 2 (pmRows params),.sc (.int .i64 dur),sPV sop,sPV sna,.imm 1 (strRows sar),.imm 2 (pmRows spa),.imm 5 (Ex.rows sex),.imm 6 (Fm.rows ski),sPV vop,sPV vna,.imm 1 (strRows var_),.imm 2 (pmRows vpa),.imm 5 (Ex.rows vex),.imm 6 (Fm.rows vki),sPV eop,sPV ena,.imm 1 (strRows ear),.imm 2 (pmRows epa),.imm 5 (Ex.rows eex),.imm 6 (Fm.rows eki),.imm 15 (chRows ats),.imm 15 (chRows ate)] S∧AcI h id (b6||!(ate.all chB)) xi j (ifP LL6 ((ate.length:Int)==0) opAtE (effX ate)) H) ?_ ?_
       ·have hat:=hI.grow.at_;obtain⟨hg,⟨i1,i2,i3,i4,i5⟩,o1,o2,o3⟩:=(show AcI _ _ _ _ _ _ _ from hI);have hpl:=chRows_len ate;have cE:=weffect_c (h:=H) (b:=b6) hsm.atE.1 hok.atStop.2 hsm.atE.2 (by omega) hat;generalize effX ate=X at cE⊢;obtain⟨yk,yv,yl,yc,yt,ys⟩:=X;have cp:=fun(m:Bool)(hx:(H.set id (wO (b6||!(ate.all chB)))).obj xi=some (xO j LL6.length))(hj:(H.set id (wO (b6||!(ate.all chB)))).obj j=some (.arr 6 (Sx.rows LL6)))=>part_c (h:=(H.set id (wO (b6||!(ate.all chB))))) (xi:=xi) (j:=j) (L:=LL6) (kw:=opAtE) (v:=(.mk yk yv yl yc yt ys)) (m:=m) hx hj i5 i2 i4 (by omega);generalize hm:((ate.length:Int)==0)=m;simp only[listM,Sx.cells,Sx.rows,opAtE]at cE cp;replace zz:=uu5 s0 s3 s5 hm hpl;refine wy zz ?_;replace zz:=uu5 s0 s3 s5 hm hpl;refine uZ zz (cE) ?_;refine wy zz ?_;have o1':(H.set id (wO (b6||!(ate.all chB)))).obj xi=some (xO j LL6.length):=(obj_set (by omega)).trans o2;have o2':(H.set id (wO (b6||!(ate.all chB)))).obj j=some (.arr 6 (Sx.rows LL6)):=(obj_set (by omega)).trans o3;replace zz:=uu5 s0 s3 s5 hm hpl;refine uZ zz (cp m o1' o2') ?_;refine wy zz ?_;cases m with
        |true=>exact⟨j,⟨by simp only[Ty.w,simprocAttr,s0],by simp only[Ty.w,simprocAttr,s3],by simp only[Ty.w,simprocAttr,s4],by simp only[Ty.w,simprocAttr,s5]⟩,hI.put hid⟩
        |false=>exact⟨_,⟨by simp only[Ty.w,simprocAttr,s0],by simp only[Ty.w,simprocAttr,s3],by simp only[Ty.w,simprocAttr,s4],by simp only[Ty.w,simprocAttr,s5]⟩,(hI.put hid).part hid⟩
       ·have hL7:(ifP LL6 ((ate.length:Int)==0) opAtE (effX ate)).length≤16:=(by have:=ifP_len LL6 ((ate.length:Int)==0) opAtE (effX ate);omega);generalize hLe7:ifP LL6 ((ate.length:Int)==0) opAtE (effX ate)=LL7 at hL7⊢;generalize hb7:(b6||!(ate.all chB))=b7;(try clear zz);clear s0 s3 s4 s5 hI;rintro S H ⟨j,⟨s0,s3,s4,s5⟩,hI⟩;have hLL:duX ⟨name,params,dur,.mk sop sna sar spa sex ski,.mk vop vna var_ vpa vex vki,.mk eop ena ear epa eex eki,ats,ate⟩=listM LL7:=(by rw[← hLe7, ← hLe6, ← hLe5, ← hLe4, ← hLe3, ← hLe2, ← hLe1, ← hLe0];try rfl);have hBB:(b||!duB ⟨name,params,dur,.mk sop sna sar spa sex ski,.mk vop vna var_ vpa vex vki,.mk eop ena ear epa eex eki,ats,ate⟩)=b7:=by
         rw[← hb7, ← hb6, ← hb5, ← hb4, ← hb3, ← hb2, ← hb1];unfold duB;simp only;cases b<;>cases nameB name<;>cases params.all (parB true)<;>cases validF (.mk sop sna sar spa sex ski)<;>cases validF (.mk vop vna var_ vpa vex vki)<;>cases validF (.mk eop ena ear epa eex eki)<;>cases ats.all chB<;>cases ate.all chB<;>rfl
        rw[hLL,hBB];obtain⟨hg,⟨i1,i2,i3,i4,i5⟩,o1,o2,o3⟩:=hI;simp only[xO]at o2;have n1:(h.next=xi)=False:=eq_false (by omega);replace zz:=uu5 s4 s5 o1 o2 n1;refine wt zz ?_;refine⟨?_,hg.set hid (Nat.le_refl _)⟩;simp only[listM,Sx.cells,FrzTo,FrzL];refine⟨_,rfl,rfl,rfl,rfl,rfl,rfl,.inr (.inr ⟨j,0,LL7.length,Sx.rows LL7,rfl,by omega,?_,?_,?_⟩),trivial⟩
        ·simp only[Heap.set];rw[if_neg (by omega)];exact o3
        ·rw [Sx.rows_len];omega
        ·rw [List.drop_zero,List.take_of_length_le (by rw[Sx.rows_len];omega)];exact sxs_frz _ _ _
end Go.Proofs.YtblgchkahpgdjaaGreat
