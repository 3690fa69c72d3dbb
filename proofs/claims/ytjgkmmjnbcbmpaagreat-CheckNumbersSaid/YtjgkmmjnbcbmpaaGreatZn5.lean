/- What the claim rests on, part 5: the abstract machine, contracts of the functions, plain data. -/
import Derived.OpenShut
import Derived.ChangeShapes
import Derived.SizedLaws
import Derived.HandedShaped
import Derived.Test.YtjgkmmjnbcbmpaaGreatZn4
set_option linter.unusedVariables false
set_option linter.unusedSimpArgs false
set_option linter.unusedSectionVars false
namespace Go.Proofs.YtjgkmmjnbcbmpaaGreat
open Go.AM Go.Shelf
set_option maxHeartbeats 2000000
set_option maxRecDepth 20000
theorem subI_eq(t:List UInt8):(s:List UInt8)→subI s t=Lib.contains s t
 |[]=>by
  unfold subI Lib.contains Lib.index;cases t<;>simp
 |b::l=>by
  have ih:=subI_eq t l;have ge:=Lib.index_ge l t;unfold subI;rw[ih];unfold Lib.contains
  conv=>rhs;unfold Lib.index
  split
  ·rename_i h;simp[h]
  ·rename_i h;split
   ·rename_i h2;simp only[beq_iff_eq]at h2;simp[h2,h]
   ·rename_i h2;simp only[beq_iff_eq]at h2;have e1:decide (0≤Lib.index l t)=true:=(by simp;omega);have e2:decide (0≤Lib.index l t+1)=true:=(by simp;omega);rw[e1,e2];simp
theorem contains2_c{s t:ByteArray}{h:Heap}{lo hi:Int}(hob:h.obj 0=some (.glb 0 lo hi))(hs:s.size<4294967281):PCall Tryz.prog 135 [.sc (.string s),.sc (.string t)] h fun r h'=>r= .sc (.bool (subI s.data.toList t.data.toList))∧h'=h:=by
 intro β w vals sm hr;have hv:vals=[.string s,.string t]:=by
  match vals,hr with
  |[x,y],hr=>simp only[RepL,Rep]at hr;rw[hr.1,hr.2.1]
 subst hv;have ob:=sm.ok 0 _ hob;simp only[ObjOk]at ob;obtain⟨_,_,i,_,_,hg⟩:=ob;refine Or.inl ⟨by kernel_rfl,(Any.strings_Contains layC s t i w hs hg).mono ?_⟩;rintro e w' ⟨rfl,rfl⟩;exact⟨_,h,β,_,rfl,⟨rfl,rfl⟩,sm,by simp only[RepH,Rep];rw[subI_eq],Ext.refl⟩
theorem tlower_c{h:Heap}{c:UInt8}:PCall Tryz.prog 112 [.sc (.int .u8 c.toNat)] h fun r h'=>r= .sc (.bool (letB c))∧h'=h:=by
 rcases byte_cls c with⟨l1,c1,c2⟩|⟨l1,c1⟩|⟨l1,m1,c1,c2,_⟩
 ·refine pcall_body (ow:=fun _=>false) (wf:=fun _=>false) Ty.mixed Tryz.func112 rfl Ty.hb_112 (by rw[Tryz.ntmps112];simp) ?_;rw[Tryz.ntmps112,Tryz.results112];repeat'(first|refine a_seq fun K hK=>?_|(refine a_block ?_)|((first|refine a_regionS ?_|refine a_region (fun K hK=>?_)|refine a_ret ?_);simp(maxSteps:=2000000) only[Ty.w,simprocAttr,c1,c2])|((first|refine a_skip ?_|refine a_exit ?_);try simp only[pst0,simprocAttr])|(refine a_cond _ (by(try simp(maxSteps:=2000000) only[Ty.w,simprocAttr,c1,c2]);rfl) (fun hb=>?_) (fun hb=>?_)<;>(try simp only[hb0,decide_eq_true_eq,decide_eq_false_iff_not,simprocAttr]at hb)<;>(try(exfalso;omega)))|(with_reducible refine ite_in (fun hb=>?_) (fun hb=>?_)<;>(try simp only[Decidable.not_not]at hb)<;>(try simp only[hb,if_true,if_false,not_false_eq_true,not_true_eq_false, ↓reduceIte])<;>(try simp only[hb0,decide_eq_true_eq,decide_eq_false_iff_not,simprocAttr]at hb)<;>(try(exfalso;omega)))|((first|refine hK _ _ ?_|(clear hK;refine hK _ _ ?_)|(clear hK;clear hK;refine hK _ _ ?_)|(clear hK;clear hK;clear hK;refine hK _ _ ?_));clear hK;try simp only[pst0,simprocAttr])|(rw[if_pos];rotate_left 1;omega;simp(maxSteps:=2000000) only[Ty.w,simprocAttr,c1,c2]))
  rw[l1]
 ·refine pcall_body (ow:=fun _=>false) (wf:=fun _=>false) Ty.mixed Tryz.func112 rfl Ty.hb_112 (by rw[Tryz.ntmps112];simp) ?_;rw[Tryz.ntmps112,Tryz.results112];repeat'(first|refine a_seq fun K hK=>?_|(refine a_block ?_)|((first|refine a_regionS ?_|refine a_region (fun K hK=>?_)|refine a_ret ?_);simp(maxSteps:=2000000) only[Ty.w,simprocAttr,c1])|((first|refine a_skip ?_|refine a_exit ?_);try simp only[pst0,simprocAttr])|(refine a_cond _ (by(try simp(maxSteps:=2000000) only[Ty.w,simprocAttr,c1]);rfl) (fun hb=>?_) (fun hb=>?_)<;>(try simp only[hb0,decide_eq_true_eq,decide_eq_false_iff_not,simprocAttr]at hb)<;>(try(exfalso;omega)))|(with_reducible refine ite_in (fun hb=>?_) (fun hb=>?_)<;>(try simp only[Decidable.not_not]at hb)<;>(try simp only[hb,if_true,if_false,not_false_eq_true,not_true_eq_false, ↓reduceIte])<;>(try simp only[hb0,decide_eq_true_eq,decide_eq_false_iff_not,simprocAttr]at hb)<;>(try(exfalso;omega)))|((first|refine hK _ _ ?_|(clear hK;refine hK _ _ ?_)|(clear hK;clear hK;refine hK _ _ ?_)|(clear hK;clear hK;clear hK;refine hK _ _ ?_));clear hK;try simp only[pst0,simprocAttr])|(rw[if_pos];rotate_left 1;omega;simp(maxSteps:=2000000) only[Ty.w,simprocAttr,c1]))
  rw[l1]
 ·refine pcall_body (ow:=fun _=>false) (wf:=fun _=>false) Ty.mixed Tryz.func112 rfl Ty.hb_112 (by rw[Tryz.ntmps112];simp) ?_;rw[Tryz.ntmps112,Tryz.results112];repeat'(first|refine a_seq fun K hK=>?_|(refine a_block ?_)|((first|refine a_regionS ?_|refine a_region (fun K hK=>?_)|refine a_ret ?_);simp(maxSteps:=2000000) only[Ty.w,simprocAttr,c1,c2])|((first|refine a_skip ?_|refine a_exit ?_);try simp only[pst0,simprocAttr])|(refine a_cond _ (by(try simp(maxSteps:=2000000) only[Ty.w,simprocAttr,c1,c2]);rfl) (fun hb=>?_) (fun hb=>?_)<;>(try simp only[hb0,decide_eq_true_eq,decide_eq_false_iff_not,simprocAttr]at hb)<;>(try(exfalso;omega)))|(with_reducible refine ite_in (fun hb=>?_) (fun hb=>?_)<;>(try simp only[Decidable.not_not]at hb)<;>(try simp only[hb,if_true,if_false,not_false_eq_true,not_true_eq_false, ↓reduceIte])<;>(try simp only[hb0,decide_eq_true_eq,decide_eq_false_iff_not,simprocAttr]at hb)<;>(try(exfalso;omega)))|((first|refine hK _ _ ?_|(clear hK;refine hK _ _ ?_)|(clear hK;clear hK;refine hK _ _ ?_)|(clear hK;clear hK;clear hK;refine hK _ _ ?_));clear hK;try simp only[pst0,simprocAttr])|(rw[if_pos];rotate_left 1;omega;simp(maxSteps:=2000000) only[Ty.w,simprocAttr,c1,c2]))
  rw[l1]
theorem tword_c{h:Heap}{s:ByteArray}{lo hi:Int}(hob:h.obj 0=some (.glb 0 lo hi))(hs:s.size≤32):PCall Tryz.prog 113 [sPV s] h fun r h'=>r= .sc (.bool (words.any fun w=>bEq s w))∧h'=h:=by
 rw[← wordP_words];cases b1:(s.data.toList==(#[]:Array UInt8).toList)with
 |true=>
  have e:s.data.toList=[]:=by simpa using b1
  refine pcall_body (ow:=fun _=>false) (wf:=fun _=>false) Ty.mixed Tryz.func113 rfl Ty.hb_113 (by rw[Tryz.ntmps113];simp) ?_;rw[Tryz.ntmps113,Tryz.results113];repeat'(first|refine a_seq fun K hK=>?_|(refine a_block ?_)|((first|refine a_regionS ?_|refine a_region (fun K hK=>?_)|refine a_ret ?_);simp(maxSteps:=2000000) only[Ty.w,simprocAttr,b1])|((first|refine a_skip ?_|refine a_exit ?_);try simp only[pst0,simprocAttr])|(refine a_cond _ (by(try simp(maxSteps:=2000000) only[Ty.w,simprocAttr,b1]);rfl) (fun hb=>?_) (fun hb=>?_)<;>(try simp only[hb0,decide_eq_true_eq,decide_eq_false_iff_not,simprocAttr]at hb)<;>(try(exfalso;omega)))|(with_reducible refine ite_in (fun hb=>?_) (fun hb=>?_)<;>(try simp only[Decidable.not_not]at hb)<;>(try simp only[hb,if_true,if_false,not_false_eq_true,not_true_eq_false, ↓reduceIte])<;>(try simp only[hb0,decide_eq_true_eq,decide_eq_false_iff_not,simprocAttr]at hb)<;>(try(exfalso;omega)))|((first|refine hK _ _ ?_|(clear hK;refine hK _ _ ?_)|(clear hK;clear hK;refine hK _ _ ?_)|(clear hK;clear hK;clear hK;refine hK _ _ ?_));clear hK;try simp only[pst0,simprocAttr])|(rw[if_pos];rotate_left 1;omega;simp(maxSteps:=2000000) only[Ty.w,simprocAttr,b1]))
  rw[e];try rfl
 |false=>
  have e:s.data.toList.isEmpty=false:=by
   cases q:s.data.toList with
   |nil=>rw[q]at b1;cases b1
   |cons _ _=>rfl
  refine pcall_body (ow:=fun _=>false) (wf:=fun _=>false) Ty.mixed Tryz.func113 rfl Ty.hb_113 (by rw[Tryz.ntmps113];simp) ?_;rw[Tryz.ntmps113,Tryz.results113];repeat'(first|refine a_seq fun K hK=>?_|(refine a_block ?_)|((first|refine a_regionS ?_|refine a_region (fun K hK=>?_)|refine a_ret ?_);simp(maxSteps:=2000000) only[Ty.w,simprocAttr,b1])|((first|refine a_skip ?_|refine a_exit ?_);try simp only[pst0,simprocAttr])|(refine a_cond _ (by(try simp(maxSteps:=2000000) only[Ty.w,simprocAttr,b1]);rfl) (fun hb=>?_) (fun hb=>?_)<;>(try simp only[hb0,decide_eq_true_eq,decide_eq_false_iff_not,simprocAttr]at hb)<;>(try(exfalso;omega)))|(with_reducible refine ite_in (fun hb=>?_) (fun hb=>?_)<;>(try simp only[Decidable.not_not]at hb)<;>(try simp only[hb,if_true,if_false,not_false_eq_true,not_true_eq_false, ↓reduceIte])<;>(try simp only[hb0,decide_eq_true_eq,decide_eq_false_iff_not,simprocAttr]at hb)<;>(try(exfalso;omega)))|((first|refine hK _ _ ?_|(clear hK;refine hK _ _ ?_)|(clear hK;clear hK;refine hK _ _ ?_)|(clear hK;clear hK;clear hK;refine hK _ _ ?_));clear hK;try simp only[pst0,simprocAttr])|(rw[if_pos];rotate_left 1;omega;simp(maxSteps:=2000000) only[Ty.w,simprocAttr,b1]))
  refine owp_useQ (contains2_c (s:=s) (t:=⟨#[32]⟩) hob (by omega)) (by(try simp only[Ty.w,simprocAttr,b1]);try rfl) ?_;simp(maxSteps:=2000000) only[Ty.w,simprocAttr,b1];cases b2:subI s.data.toList [32]with
  |true=>
   (repeat'(first|refine a_seq fun K hK=>?_|(refine a_block ?_)|((first|refine a_regionS ?_|refine a_region (fun K hK=>?_)|refine a_ret ?_);simp(maxSteps:=2000000) only[Ty.w,simprocAttr,b1,b2])|((first|refine a_skip ?_|refine a_exit ?_);try simp only[pst0,simprocAttr])|(refine a_cond _ (by(try simp(maxSteps:=2000000) only[Ty.w,simprocAttr,b1,b2]);rfl) (fun hb=>?_) (fun hb=>?_)<;>(try simp only[hb0,decide_eq_true_eq,decide_eq_false_iff_not,simprocAttr]at hb)<;>(try(exfalso;omega)))|(with_reducible refine ite_in (fun hb=>?_) (fun hb=>?_)<;>(try simp only[Decidable.not_not]at hb)<;>(try simp only[hb,if_true,if_false,not_false_eq_true,not_true_eq_false, ↓reduceIte])<;>(try simp only[hb0,decide_eq_true_eq,decide_eq_false_iff_not,simprocAttr]at hb)<;>(try(exfalso;omega)))|((first|refine hK _ _ ?_|(clear hK;refine hK _ _ ?_)|(clear hK;clear hK;refine hK _ _ ?_)|(clear hK;clear hK;clear hK;refine hK _ _ ?_));clear hK;try simp only[pst0,simprocAttr])|(rw[if_pos];rotate_left 1;omega;simp(maxSteps:=2000000) only[Ty.w,simprocAttr,b1,b2])));unfold wordP;rw[e,b2];try rfl
  |false=>
   have d1: ∀ a:ByteArray,a.size=1→¬ ((a.size+s.size:Nat):Int)>IntKind.i64.max:=fun a e=>by
    rw[e];show ¬ ((1+s.size:Nat):Int)>9223372036854775807;omega
   have d2: ∀ a b:ByteArray,a.size=1→b.size=1→¬ (((a++s:ByteArray).size+b.size:Nat):Int)>IntKind.i64.max:=fun a b e1 e2=>by
    rw[ByteArray.size_append,e1,e2];show ¬ ((1+s.size+1:Nat):Int)>9223372036854775807;omega
   (repeat'(first|refine a_seq fun K hK=>?_|(refine a_block ?_)|((first|refine a_regionS ?_|refine a_region (fun K hK=>?_)|refine a_ret ?_);simp(maxSteps:=2000000) only[Ty.w,simprocAttr,b1,b2])|((first|refine a_skip ?_|refine a_exit ?_);try simp only[pst0,simprocAttr])|(refine a_cond _ (by(try simp(maxSteps:=2000000) only[Ty.w,simprocAttr,b1,b2]);rfl) (fun hb=>?_) (fun hb=>?_)<;>(try simp only[hb0,decide_eq_true_eq,decide_eq_false_iff_not,simprocAttr]at hb)<;>(try(exfalso;omega)))|(with_reducible refine ite_in (fun hb=>?_) (fun hb=>?_)<;>(try simp only[Decidable.not_not]at hb)<;>(try simp only[hb,if_true,if_false,not_false_eq_true,not_true_eq_false, ↓reduceIte])<;>(try simp only[hb0,decide_eq_true_eq,decide_eq_false_iff_not,simprocAttr]at hb)<;>(try(exfalso;omega)))|((first|refine hK _ _ ?_|(clear hK;refine hK _ _ ?_)|(clear hK;clear hK;refine hK _ _ ?_)|(clear hK;clear hK;clear hK;refine hK _ _ ?_));clear hK;try simp only[pst0,simprocAttr])|(rw[if_pos];rotate_left 1;omega;simp(maxSteps:=2000000) only[Ty.w,simprocAttr,b1,b2])));rw[if_neg (d1 _ rfl)];simp(maxSteps:=2000000) only[Ty.w,simprocAttr,Ty.all,Option.map_some];rw[if_neg (d2 _ _ rfl rfl)];simp(maxSteps:=2000000) only[Ty.w,simprocAttr,Ty.all,Option.map_some];refine owp_useQ (contains2_c (s:=⟨resvL.toArray⟩) (t:=⟨#[32]⟩++s++⟨#[32]⟩) hob (by decide)) (by(try simp only[Ty.w,simprocAttr,b1,b2]);try rfl) ?_;simp(maxSteps:=2000000) only[Ty.w,simprocAttr,b1,b2];(repeat'(first|refine a_seq fun K hK=>?_|(refine a_block ?_)|((first|refine a_regionS ?_|refine a_region (fun K hK=>?_)|refine a_ret ?_);simp(maxSteps:=2000000) only[Ty.w,simprocAttr,b1,b2])|((first|refine a_skip ?_|refine a_exit ?_);try simp only[pst0,simprocAttr])|(refine a_cond _ (by(try simp(maxSteps:=2000000) only[Ty.w,simprocAttr,b1,b2]);rfl) (fun hb=>?_) (fun hb=>?_)<;>(try simp only[hb0,decide_eq_true_eq,decide_eq_false_iff_not,simprocAttr]at hb)<;>(try(exfalso;omega)))|(with_reducible refine ite_in (fun hb=>?_) (fun hb=>?_)<;>(try simp only[Decidable.not_not]at hb)<;>(try simp only[hb,if_true,if_false,not_false_eq_true,not_true_eq_false, ↓reduceIte])<;>(try simp only[hb0,decide_eq_true_eq,decide_eq_false_iff_not,simprocAttr]at hb)<;>(try(exfalso;omega)))|((first|refine hK _ _ ?_|(clear hK;refine hK _ _ ?_)|(clear hK;clear hK;refine hK _ _ ?_)|(clear hK;clear hK;clear hK;refine hK _ _ ?_));clear hK;try simp only[pst0,simprocAttr])|(rw[if_pos];rotate_left 1;omega;simp(maxSteps:=2000000) only[Ty.w,simprocAttr,b1,b2])));unfold wordP;rw[e,b2];have e2:(({data:= #[32]}++s++{data:= #[32]}:ByteArray).data.toList)=[32]++s.data.toList++[32]:=(by simp);rw[e2];try rfl
theorem tname_c{h:Heap}{s:ByteArray}{lo hi:Int}(hob:h.obj 0=some (.glb 0 lo hi))(hs:s.size≤9223372036854775807):PCall Tryz.prog 82 [sPV s] h fun r h'=>r= .sc (.bool (nameB s))∧h'=h:=by
 have hsl:s.data.toList.length=s.size:=by rw[Array.length_toList];try rfl
 cases b1:decide ((s.size:Int)<1)with
 |true=>
  have:nameB s=false:=by simp at b1;simp[nameB];intros;omega
  refine pcall_body (ow:=fun _=>false) (wf:=fun _=>false) Ty.mixed Tryz.func82 rfl Ty.hb_82 (by rw[Tryz.ntmps82];simp) ?_;rw[Tryz.ntmps82,Tryz.results82];repeat'(first|refine a_seq fun K hK=>?_|(refine a_block ?_)|((first|refine a_regionS ?_|refine a_region (fun K hK=>?_)|refine a_ret ?_);simp(maxSteps:=2000000) only[Ty.w,simprocAttr,b1])|((first|refine a_skip ?_|refine a_exit ?_);try simp only[pst0,simprocAttr])|(refine a_cond _ (by(try simp(maxSteps:=2000000) only[Ty.w,simprocAttr,b1]);rfl) (fun hb=>?_) (fun hb=>?_)<;>(try simp only[hb0,decide_eq_true_eq,decide_eq_false_iff_not,simprocAttr]at hb)<;>(try(exfalso;omega)))|(with_reducible refine ite_in (fun hb=>?_) (fun hb=>?_)<;>(try simp only[Decidable.not_not]at hb)<;>(try simp only[hb,if_true,if_false,not_false_eq_true,not_true_eq_false, ↓reduceIte])<;>(try simp only[hb0,decide_eq_true_eq,decide_eq_false_iff_not,simprocAttr]at hb)<;>(try(exfalso;omega)))|((first|refine hK _ _ ?_|(clear hK;refine hK _ _ ?_)|(clear hK;clear hK;refine hK _ _ ?_)|(clear hK;clear hK;clear hK;refine hK _ _ ?_));clear hK;try simp only[pst0,simprocAttr])|(rw[if_pos];rotate_left 1;omega;simp(maxSteps:=2000000) only[Ty.w,simprocAttr,b1]))
  rw[this]
 |false=>
  cases b2:decide ((s.size:Int)>32)with
  |true=>
   have:nameB s=false:=by
    simp at b2;have:¬ s.size≤32:=(by omega);simp[nameB,this]
   refine pcall_body (ow:=fun _=>false) (wf:=fun _=>false) Ty.mixed Tryz.func82 rfl Ty.hb_82 (by rw[Tryz.ntmps82];simp) ?_;rw[Tryz.ntmps82,Tryz.results82];(repeat'(first|refine a_seq fun K hK=>?_|(refine a_block ?_)|((first|refine a_regionS ?_|refine a_region (fun K hK=>?_)|refine a_ret ?_);simp(maxSteps:=2000000) only[Ty.w,simprocAttr,b1,b2])|((first|refine a_skip ?_|refine a_exit ?_);try simp only[pst0,simprocAttr])|(refine a_cond _ (by(try simp(maxSteps:=2000000) only[Ty.w,simprocAttr,b1,b2]);rfl) (fun hb=>?_) (fun hb=>?_)<;>(try simp only[hb0,decide_eq_true_eq,decide_eq_false_iff_not,simprocAttr]at hb)<;>(try(exfalso;omega)))|(with_reducible refine ite_in (fun hb=>?_) (fun hb=>?_)<;>(try simp only[Decidable.not_not]at hb)<;>(try simp only[hb,if_true,if_false,not_false_eq_true,not_true_eq_false, ↓reduceIte])<;>(try simp only[hb0,decide_eq_true_eq,decide_eq_false_iff_not,simprocAttr]at hb)<;>(try(exfalso;omega)))|((first|refine hK _ _ ?_|(clear hK;refine hK _ _ ?_)|(clear hK;clear hK;refine hK _ _ ?_)|(clear hK;clear hK;clear hK;refine hK _ _ ?_));clear hK;try simp only[pst0,simprocAttr])|(rw[if_pos];rotate_left 1;omega;simp(maxSteps:=2000000) only[Ty.w,simprocAttr,b1,b2])));rw[this]
  |false=>
   have b1':=b1;have b2':=b2;simp at b1' b2';obtain⟨c,hx⟩: ∃ c,s.data.toList[0]? =some c:=⟨_,List.getElem?_eq_getElem (by omega)⟩;have hr:s[0]? =some c:=(by rw[ba_get];exact hx);cases b3:letB c with
   |false=>
    have:nameB s=false:=(by simp[nameB,bytesOk_false hx (by simp[okAt,b3])]);refine pcall_body (ow:=fun _=>false) (wf:=fun _=>false) Ty.mixed Tryz.func82 rfl Ty.hb_82 (by rw[Tryz.ntmps82];simp) ?_;rw[Tryz.ntmps82,Tryz.results82];(repeat'(first|refine a_seq fun K hK=>?_|(refine a_block ?_)|((first|refine a_regionS ?_|refine a_region (fun K hK=>?_)|refine a_ret ?_);simp(maxSteps:=2000000) only[Ty.w,simprocAttr,b1,b2,hr])|((first|refine a_skip ?_|refine a_exit ?_);try simp only[pst0,simprocAttr])|(refine a_cond _ (by(try simp(maxSteps:=2000000) only[Ty.w,simprocAttr,b1,b2,hr]);rfl) (fun hb=>?_) (fun hb=>?_)<;>(try simp only[hb0,decide_eq_true_eq,decide_eq_false_iff_not,simprocAttr]at hb)<;>(try(exfalso;omega)))|(with_reducible refine ite_in (fun hb=>?_) (fun hb=>?_)<;>(try simp only[Decidable.not_not]at hb)<;>(try simp only[hb,if_true,if_false,not_false_eq_true,not_true_eq_false, ↓reduceIte])<;>(try simp only[hb0,decide_eq_true_eq,decide_eq_false_iff_not,simprocAttr]at hb)<;>(try(exfalso;omega)))|((first|refine hK _ _ ?_|(clear hK;refine hK _ _ ?_)|(clear hK;clear hK;refine hK _ _ ?_)|(clear hK;clear hK;clear hK;refine hK _ _ ?_));clear hK;try simp only[pst0,simprocAttr])|(rw[if_pos];rotate_left 1;omega;simp(maxSteps:=2000000) only[Ty.w,simprocAttr,b1,b2,hr])));refine owp_useQ (tlower_c (c:=c)) (by(try simp only[Ty.w,simprocAttr,b1,b2,hr,b3]);try rfl) ?_;simp(maxSteps:=2000000) only[Ty.w,simprocAttr,b1,b2,hr,b3];(repeat'(first|refine a_seq fun K hK=>?_|(refine a_block ?_)|((first|refine a_regionS ?_|refine a_region (fun K hK=>?_)|refine a_ret ?_);simp(maxSteps:=2000000) only[Ty.w,simprocAttr,b1,b2,b3])|((first|refine a_skip ?_|refine a_exit ?_);try simp only[pst0,simprocAttr])|(refine a_cond _ (by(try simp(maxSteps:=2000000) only[Ty.w,simprocAttr,b1,b2,b3]);rfl) (fun hb=>?_) (fun hb=>?_)<;>(try simp only[hb0,decide_eq_true_eq,decide_eq_false_iff_not,simprocAttr]at hb)<;>(try(exfalso;omega)))|(with_reducible refine ite_in (fun hb=>?_) (fun hb=>?_)<;>(try simp only[Decidable.not_not]at hb)<;>(try simp only[hb,if_true,if_false,not_false_eq_true,not_true_eq_false, ↓reduceIte])<;>(try simp only[hb0,decide_eq_true_eq,decide_eq_false_iff_not,simprocAttr]at hb)<;>(try(exfalso;omega)))|((first|refine hK _ _ ?_|(clear hK;refine hK _ _ ?_)|(clear hK;clear hK;refine hK _ _ ?_)|(clear hK;clear hK;clear hK;refine hK _ _ ?_));clear hK;try simp only[pst0,simprocAttr])|(rw[if_pos];rotate_left 1;omega;simp(maxSteps:=2000000) only[Ty.w,simprocAttr,b1,b2,b3])));rw[this]
   |true=>
    refine pcall_body (ow:=fun _=>false) (wf:=fun _=>false) Ty.mixed Tryz.func82 rfl Ty.hb_82 (by rw[Tryz.ntmps82];simp) ?_;rw[Tryz.ntmps82,Tryz.results82];(repeat'(first|refine a_seq fun K hK=>?_|(refine a_block ?_)|((first|refine a_regionS ?_|refine a_region (fun K hK=>?_)|refine a_ret ?_);simp(maxSteps:=2000000) only[Ty.w,simprocAttr,b1,b2,hr])|((first|refine a_skip ?_|refine a_exit ?_);try simp only[pst0,simprocAttr])|(refine a_cond _ (by(try simp(maxSteps:=2000000) only[Ty.w,simprocAttr,b1,b2,hr]);rfl) (fun hb=>?_) (fun hb=>?_)<;>(try simp only[hb0,decide_eq_true_eq,decide_eq_false_iff_not,simprocAttr]at hb)<;>(try(exfalso;omega)))|(with_reducible refine ite_in (fun hb=>?_) (fun hb=>?_)<;>(try simp only[Decidable.not_not]at hb)<;>(try simp only[hb,if_true,if_false,not_false_eq_true,not_true_eq_false, ↓reduceIte])<;>(try simp only[hb0,decide_eq_true_eq,decide_eq_false_iff_not,simprocAttr]at hb)<;>(try(exfalso;omega)))|((first|refine hK _ _ ?_|(clear hK;refine hK _ _ ?_)|(clear hK;clear hK;refine hK _ _ ?_)|(clear hK;clear hK;clear hK;refine hK _ _ ?_));clear hK;try simp only[pst0,simprocAttr])|(rw[if_pos];rotate_left 1;omega;simp(maxSteps:=2000000) only[Ty.w,simprocAttr,b1,b2,hr])));refine owp_useQ (tlower_c (c:=c)) (by(try simp only[Ty.w,simprocAttr,b1,b2,hr,b3]);try rfl) ?_;simp(maxSteps:=2000000) only[Ty.w,simprocAttr,b1,b2,hr,b3];(repeat'(first|refine a_seq fun K hK=>?_|(refine a_block ?_)|((first|refine a_regionS ?_|refine a_region (fun K hK=>?_)|refine a_ret ?_);simp(maxSteps:=2000000) only[Ty.w,simprocAttr,b1,b2,b3])|((first|refine a_skip ?_|refine a_exit ?_);try simp only[pst0,simprocAttr])|(refine a_cond _ (by(try simp(maxSteps:=2000000) only[Ty.w,simprocAttr,b1,b2,b3]);rfl) (fun hb=>?_) (fun hb=>?_)<;>(try simp only[hb0,decide_eq_true_eq,decide_eq_false_iff_not,simprocAttr]at hb)<;>(try(exfalso;omega)))|(with_reducible refine ite_in (fun hb=>?_) (fun hb=>?_)<;>(try simp only[Decidable.not_not]at hb)<;>(try simp only[hb,if_true,if_false,not_false_eq_true,not_true_eq_false, ↓reduceIte])<;>(try simp only[hb0,decide_eq_true_eq,decide_eq_false_iff_not,simprocAttr]at hb)<;>(try(exfalso;omega)))|((first|refine hK _ _ ?_|(clear hK;refine hK _ _ ?_)|(clear hK;clear hK;refine hK _ _ ?_)|(clear hK;clear hK;clear hK;refine hK _ _ ?_));clear hK;try simp only[pst0,simprocAttr])|(rw[if_pos];rotate_left 1;omega;simp(maxSteps:=2000000) only[Ty.w,simprocAttr,b1,b2,b3])));cases b5:(words.any fun w=>bEq s w)with
    |true=>
     have:nameB s=false:=(by simp[nameB,b5]);refine owp_useQ (tword_c (s:=s) hob (by omega)) (by(try simp only[Ty.w,simprocAttr,b1,b2,b3,b5]);try rfl) ?_;simp(maxSteps:=2000000) only[Ty.w,simprocAttr,b1,b2,b3,b5];(repeat'(first|refine a_seq fun K hK=>?_|(refine a_block ?_)|((first|refine a_regionS ?_|refine a_region (fun K hK=>?_)|refine a_ret ?_);simp(maxSteps:=2000000) only[Ty.w,simprocAttr,b5])|((first|refine a_skip ?_|refine a_exit ?_);try simp only[pst0,simprocAttr])|(refine a_cond _ (by(try simp(maxSteps:=2000000) only[Ty.w,simprocAttr,b5]);rfl) (fun hb=>?_) (fun hb=>?_)<;>(try simp only[hb0,decide_eq_true_eq,decide_eq_false_iff_not,simprocAttr]at hb)<;>(try(exfalso;omega)))|(with_reducible refine ite_in (fun hb=>?_) (fun hb=>?_)<;>(try simp only[Decidable.not_not]at hb)<;>(try simp only[hb,if_true,if_false,not_false_eq_true,not_true_eq_false, ↓reduceIte])<;>(try simp only[hb0,decide_eq_true_eq,decide_eq_false_iff_not,simprocAttr]at hb)<;>(try(exfalso;omega)))|((first|refine hK _ _ ?_|(clear hK;refine hK _ _ ?_)|(clear hK;clear hK;refine hK _ _ ?_)|(clear hK;clear hK;clear hK;refine hK _ _ ?_));clear hK;try simp only[pst0,simprocAttr])|(rw[if_pos];rotate_left 1;omega;simp(maxSteps:=2000000) only[Ty.w,simprocAttr,b5])));rw[this]
    |false=>
     refine owp_useQ (tword_c (s:=s) hob (by omega)) (by(try simp only[Ty.w,simprocAttr,b1,b2,b3,b5]);try rfl) ?_;simp(maxSteps:=2000000) only[Ty.w,simprocAttr,b1,b2,b3,b5];(repeat'(first|refine a_seq fun K hK=>?_|(refine a_block ?_)|((first|refine a_regionS ?_|refine a_region (fun K hK=>?_)|refine a_ret ?_);simp(maxSteps:=2000000) only[Ty.w,simprocAttr,b5])|((first|refine a_skip ?_|refine a_exit ?_);try simp only[pst0,simprocAttr])|(refine a_cond _ (by(try simp(maxSteps:=2000000) only[Ty.w,simprocAttr,b5]);rfl) (fun hb=>?_) (fun hb=>?_)<;>(try simp only[hb0,decide_eq_true_eq,decide_eq_false_iff_not,simprocAttr]at hb)<;>(try(exfalso;omega)))|(with_reducible refine ite_in (fun hb=>?_) (fun hb=>?_)<;>(try simp only[Decidable.not_not]at hb)<;>(try simp only[hb,if_true,if_false,not_false_eq_true,not_true_eq_false, ↓reduceIte])<;>(try simp only[hb0,decide_eq_true_eq,decide_eq_false_iff_not,simprocAttr]at hb)<;>(try(exfalso;omega)))|((first|refine hK _ _ ?_|(clear hK;refine hK _ _ ?_)|(clear hK;clear hK;refine hK _ _ ?_)|(clear hK;clear hK;clear hK;refine hK _ _ ?_));clear hK;try simp only[pst0,simprocAttr])|(rw[if_pos];rotate_left 1;omega;simp(maxSteps:=2000000) only[Ty.w,simprocAttr,b5])));refine a_loop (fun m S h'=>h'=h∧S 0=sPV s∧S 24= .sc (.int .i64 s.size)∧ ∃ k:Nat,S 25= .sc (.int .i64 k)∧k≤s.size∧m=s.size-k∧ ∀ (i:Nat)(c:UInt8),i<k→s.data.toList[i]? =some c→midB c=true) s.size ?_ ?_
     ·simp only[Ty.w,simprocAttr];exact⟨0,rfl,by omega,rfl,by omega⟩
     ·rintro m S h' ⟨rfl,g0,g24,k,g25,hk,rfl,hall⟩;by_cases hlt:k<s.size
      ·have hd:decide ((k:Int)<(s.size:Int))=true:=(by simp;omega);have w7:IntKind.i64.wrap ((k:Int)+1)=k+1:=(by rw[wrap64 (by omega) (by omega)]);obtain⟨d,hx2⟩: ∃ d,s.data.toList[k]? =some d:=⟨_,List.getElem?_eq_getElem (by omega)⟩;have hr2:s[k]? =some d:=(by rw[ba_get];exact hx2);have bad:midB d=false→nameB s=false:=fun e=>by
        by_cases hk0:k=0
        ·subst hk0;rw[hx]at hx2;simp at hx2;subst hx2;rw[letB_mid b3]at e;simp at e
        ·simp [nameB,bytesOk_false hx2 (by simp[okAt,e];cases hl:letB d<;>simp;rw[letB_mid hl]at e;simp at e)]
       have good:midB d=true→ ∃ m',m'<s.size-k∧ ∃ k':Nat,(k:Int)+1=k'∧k'≤s.size∧m'=s.size-k'∧ ∀ (i:Nat)(c:UInt8),i<k'→s.data.toList[i]? =some c→midB c=true:=fun e=>by
        refine⟨s.size-(k+1),by omega,k+1,by simp,by omega,rfl,fun i c2 hi hw=>?_⟩;by_cases hik:i=k
        ·subst hik;rw[hx2]at hw;simp at hw;rw[← hw];exact e
        ·exact hall i c2 (by omega) hw
       clear hall;rcases byte_cls d with⟨l1,c1,c2⟩|⟨l1,c1⟩|⟨l1,m1,c1,c2,c3,c4,c5,c6⟩
       ·(repeat' (first|refine a_seq fun K hK=>?_|(refine a_block ?_)|((first|refine a_regionS ?_|refine a_region (fun K hK=>?_)|refine a_ret ?_);simp(maxSteps:=2000000) only[Ty.w,simprocAttr,g0,g24,g25,hd,hr2,w7])|((first|refine a_skip ?_|refine a_exit ?_);try simp only[pst0,simprocAttr])|(refine a_cond _ (by(try simp(maxSteps:=2000000) only[Ty.w,simprocAttr,g0,g24,g25,hd,hr2,w7]);rfl) (fun hb=>?_) (fun hb=>?_)<;>(try simp only[hb0,decide_eq_true_eq,decide_eq_false_iff_not,simprocAttr]at hb)<;>(try(exfalso;omega)))|(with_reducible refine ite_in (fun hb=>?_) (fun hb=>?_)<;>(try simp only[Decidable.not_not]at hb)<;>(try simp only[hb,if_true,if_false,not_false_eq_true,not_true_eq_false, ↓reduceIte])<;>(try simp only[hb0,decide_eq_true_eq,decide_eq_false_iff_not,simprocAttr]at hb)<;>(try(exfalso;omega)))|((first|refine hK _ _ ?_|(clear hK;refine hK _ _ ?_)|(clear hK;clear hK;refine hK _ _ ?_)|(clear hK;clear hK;clear hK;refine hK _ _ ?_));clear hK;try simp only[pst0,simprocAttr])|(rw[if_pos];rotate_left 1;omega;simp(maxSteps:=2000000) only[Ty.w,simprocAttr,g0,g24,g25,hd,hr2,w7])));refine owp_useQ (tlower_c (c:=d)) (by(try simp only[Ty.w,simprocAttr,hr2,l1]);try rfl) ?_;simp(maxSteps:=2000000) only[Ty.w,simprocAttr,hr2,l1];(repeat'(first|refine a_seq fun K hK=>?_|(refine a_block ?_)|((first|refine a_regionS ?_|refine a_region (fun K hK=>?_)|refine a_ret ?_);simp(maxSteps:=2000000) only[Ty.w,simprocAttr,l1,g0,g24,g25,w7])|((first|refine a_skip ?_|refine a_exit ?_);try simp only[pst0,simprocAttr])|(refine a_cond _ (by(try simp(maxSteps:=2000000) only[Ty.w,simprocAttr,l1,g0,g24,g25,w7]);rfl) (fun hb=>?_) (fun hb=>?_)<;>(try simp only[hb0,decide_eq_true_eq,decide_eq_false_iff_not,simprocAttr]at hb)<;>(try(exfalso;omega)))|(with_reducible refine ite_in (fun hb=>?_) (fun hb=>?_)<;>(try simp only[Decidable.not_not]at hb)<;>(try simp only[hb,if_true,if_false,not_false_eq_true,not_true_eq_false, ↓reduceIte])<;>(try simp only[hb0,decide_eq_true_eq,decide_eq_false_iff_not,simprocAttr]at hb)<;>(try(exfalso;omega)))|((first|refine hK _ _ ?_|(clear hK;refine hK _ _ ?_)|(clear hK;clear hK;refine hK _ _ ?_)|(clear hK;clear hK;clear hK;refine hK _ _ ?_));clear hK;try simp only[pst0,simprocAttr])|(rw[if_pos];rotate_left 1;omega;simp(maxSteps:=2000000) only[Ty.w,simprocAttr,l1,g0,g24,g25,w7])));have:=good (letB_mid l1);simpa using this
       ·rcases byte_cls2 c1 with⟨m1,c3,c5⟩|⟨m1,c3,c5,c6⟩|⟨m1,c3,c4⟩|⟨m1,c3,c4,c5,c6⟩|⟨m1,c3,c4,c5,c6⟩
        ·(repeat' (first|refine a_seq fun K hK=>?_|(refine a_block ?_)|((first|refine a_regionS ?_|refine a_region (fun K hK=>?_)|refine a_ret ?_);simp(maxSteps:=2000000) only[Ty.w,simprocAttr,g0,g24,g25,hd,hr2,w7])|((first|refine a_skip ?_|refine a_exit ?_);try simp only[pst0,simprocAttr])|(refine a_cond _ (by(try simp(maxSteps:=2000000) only[Ty.w,simprocAttr,g0,g24,g25,hd,hr2,w7]);rfl) (fun hb=>?_) (fun hb=>?_)<;>(try simp only[hb0,decide_eq_true_eq,decide_eq_false_iff_not,simprocAttr]at hb)<;>(try(exfalso;omega)))|(with_reducible refine ite_in (fun hb=>?_) (fun hb=>?_)<;>(try simp only[Decidable.not_not]at hb)<;>(try simp only[hb,if_true,if_false,not_false_eq_true,not_true_eq_false, ↓reduceIte])<;>(try simp only[hb0,decide_eq_true_eq,decide_eq_false_iff_not,simprocAttr]at hb)<;>(try(exfalso;omega)))|((first|refine hK _ _ ?_|(clear hK;refine hK _ _ ?_)|(clear hK;clear hK;refine hK _ _ ?_)|(clear hK;clear hK;clear hK;refine hK _ _ ?_));clear hK;try simp only[pst0,simprocAttr])|(rw[if_pos];rotate_left 1;omega;simp(maxSteps:=2000000) only[Ty.w,simprocAttr,g0,g24,g25,hd,hr2,w7])));refine owp_useQ (tlower_c (c:=d)) (by(try simp only[Ty.w,simprocAttr,hr2,l1,c3,c5]);try rfl) ?_;simp(maxSteps:=2000000) only[Ty.w,simprocAttr,hr2,l1,c3,c5];(repeat'(first|refine a_seq fun K hK=>?_|(refine a_block ?_)|((first|refine a_regionS ?_|refine a_region (fun K hK=>?_)|refine a_ret ?_);simp(maxSteps:=2000000) only[Ty.w,simprocAttr,l1,c3,c5,g0,g24,g25,w7])|((first|refine a_skip ?_|refine a_exit ?_);try simp only[pst0,simprocAttr])|(refine a_cond _ (by(try simp(maxSteps:=2000000) only[Ty.w,simprocAttr,l1,c3,c5,g0,g24,g25,w7]);rfl) (fun hb=>?_) (fun hb=>?_)<;>(try simp only[hb0,decide_eq_true_eq,decide_eq_false_iff_not,simprocAttr]at hb)<;>(try(exfalso;omega)))|(with_reducible refine ite_in (fun hb=>?_) (fun hb=>?_)<;>(try simp only[Decidable.not_not]at hb)<;>(try simp only[hb,if_true,if_false,not_false_eq_true,not_true_eq_false, ↓reduceIte])<;>(try simp only[hb0,decide_eq_true_eq,decide_eq_false_iff_not,simprocAttr]at hb)<;>(try(exfalso;omega)))|((first|refine hK _ _ ?_|(clear hK;refine hK _ _ ?_)|(clear hK;clear hK;refine hK _ _ ?_)|(clear hK;clear hK;clear hK;refine hK _ _ ?_));clear hK;try simp only[pst0,simprocAttr])|(rw[if_pos];rotate_left 1;omega;simp(maxSteps:=2000000) only[Ty.w,simprocAttr,l1,c3,c5,g0,g24,g25,w7])));have:=good m1;simpa using this
        ·have hbad:=bad m1;(repeat'(first|refine a_seq fun K hK=>?_|(refine a_block ?_)|((first|refine a_regionS ?_|refine a_region (fun K hK=>?_)|refine a_ret ?_);simp(maxSteps:=2000000) only[Ty.w,simprocAttr,g0,g24,g25,hd,hr2,w7])|((first|refine a_skip ?_|refine a_exit ?_);try simp only[pst0,simprocAttr])|(refine a_cond _ (by(try simp(maxSteps:=2000000) only[Ty.w,simprocAttr,g0,g24,g25,hd,hr2,w7]);rfl) (fun hb=>?_) (fun hb=>?_)<;>(try simp only[hb0,decide_eq_true_eq,decide_eq_false_iff_not,simprocAttr]at hb)<;>(try(exfalso;omega)))|(with_reducible refine ite_in (fun hb=>?_) (fun hb=>?_)<;>(try simp only[Decidable.not_not]at hb)<;>(try simp only[hb,if_true,if_false,not_false_eq_true,not_true_eq_false, ↓reduceIte])<;>(try simp only[hb0,decide_eq_true_eq,decide_eq_false_iff_not,simprocAttr]at hb)<;>(try(exfalso;omega)))|((first|refine hK _ _ ?_|(clear hK;refine hK _ _ ?_)|(clear hK;clear hK;refine hK _ _ ?_)|(clear hK;clear hK;clear hK;refine hK _ _ ?_));clear hK;try simp only[pst0,simprocAttr])|(rw[if_pos];rotate_left 1;omega;simp(maxSteps:=2000000) only[Ty.w,simprocAttr,g0,g24,g25,hd,hr2,w7])));refine owp_useQ (tlower_c (c:=d)) (by(try simp only[Ty.w,simprocAttr,hr2,l1,c3,c5,c6]);try rfl) ?_;simp(maxSteps:=2000000) only[Ty.w,simprocAttr,hr2,l1,c3,c5,c6];(repeat'(first|refine a_seq fun K hK=>?_|(refine a_block ?_)|((first|refine a_regionS ?_|refine a_region (fun K hK=>?_)|refine a_ret ?_);simp(maxSteps:=2000000) only[Ty.w,simprocAttr,l1,c3,c5,c6,g0,g24,g25,w7])|((first|refine a_skip ?_|refine a_exit ?_);try simp only[pst0,simprocAttr])|(refine a_cond _ (by(try simp(maxSteps:=2000000) only[Ty.w,simprocAttr,l1,c3,c5,c6,g0,g24,g25,w7]);rfl) (fun hb=>?_) (fun hb=>?_)<;>(try simp only[hb0,decide_eq_true_eq,decide_eq_false_iff_not,simprocAttr]at hb)<;>(try(exfalso;omega)))|(with_reducible refine ite_in (fun hb=>?_) (fun hb=>?_)<;>(try simp only[Decidable.not_not]at hb)<;>(try simp only[hb,if_true,if_false,not_false_eq_true,not_true_eq_false, ↓reduceIte])<;>(try simp only[hb0,decide_eq_true_eq,decide_eq_false_iff_not,simprocAttr]at hb)<;>(try(exfalso;omega)))|((first|refine hK _ _ ?_|(clear hK;refine hK _ _ ?_)|(clear hK;clear hK;refine hK _ _ ?_)|(clear hK;clear hK;clear hK;refine hK _ _ ?_));clear hK;try simp only[pst0,simprocAttr])|(rw[if_pos];rotate_left 1;omega;simp(maxSteps:=2000000) only[Ty.w,simprocAttr,l1,c3,c5,c6,g0,g24,g25,w7])));rw[hbad]
        ·(repeat' (first|refine a_seq fun K hK=>?_|(refine a_block ?_)|((first|refine a_regionS ?_|refine a_region (fun K hK=>?_)|refine a_ret ?_);simp(maxSteps:=2000000) only[Ty.w,simprocAttr,g0,g24,g25,hd,hr2,w7])|((first|refine a_skip ?_|refine a_exit ?_);try simp only[pst0,simprocAttr])|(refine a_cond _ (by(try simp(maxSteps:=2000000) only[Ty.w,simprocAttr,g0,g24,g25,hd,hr2,w7]);rfl) (fun hb=>?_) (fun hb=>?_)<;>(try simp only[hb0,decide_eq_true_eq,decide_eq_false_iff_not,simprocAttr]at hb)<;>(try(exfalso;omega)))|(with_reducible refine ite_in (fun hb=>?_) (fun hb=>?_)<;>(try simp only[Decidable.not_not]at hb)<;>(try simp only[hb,if_true,if_false,not_false_eq_true,not_true_eq_false, ↓reduceIte])<;>(try simp only[hb0,decide_eq_true_eq,decide_eq_false_iff_not,simprocAttr]at hb)<;>(try(exfalso;omega)))|((first|refine hK _ _ ?_|(clear hK;refine hK _ _ ?_)|(clear hK;clear hK;refine hK _ _ ?_)|(clear hK;clear hK;clear hK;refine hK _ _ ?_));clear hK;try simp only[pst0,simprocAttr])|(rw[if_pos];rotate_left 1;omega;simp(maxSteps:=2000000) only[Ty.w,simprocAttr,g0,g24,g25,hd,hr2,w7])));refine owp_useQ (tlower_c (c:=d)) (by(try simp only[Ty.w,simprocAttr,hr2,l1,c3,c4]);try rfl) ?_;simp(maxSteps:=2000000) only[Ty.w,simprocAttr,hr2,l1,c3,c4];(repeat'(first|refine a_seq fun K hK=>?_|(refine a_block ?_)|((first|refine a_regionS ?_|refine a_region (fun K hK=>?_)|refine a_ret ?_);simp(maxSteps:=2000000) only[Ty.w,simprocAttr,l1,c3,c4,g0,g24,g25,w7])|((first|refine a_skip ?_|refine a_exit ?_);try simp only[pst0,simprocAttr])|(refine a_cond _ (by(try simp(maxSteps:=2000000) only[Ty.w,simprocAttr,l1,c3,c4,g0,g24,g25,w7]);rfl) (fun hb=>?_) (fun hb=>?_)<;>(try simp only[hb0,decide_eq_true_eq,decide_eq_false_iff_not,simprocAttr]at hb)<;>(try(exfalso;omega)))|(with_reducible refine ite_in (fun hb=>?_) (fun hb=>?_)<;>(try simp only[Decidable.not_not]at hb)<;>(try simp only[hb,if_true,if_false,not_false_eq_true,not_true_eq_false, ↓reduceIte])<;>(try simp only[hb0,decide_eq_true_eq,decide_eq_false_iff_not,simprocAttr]at hb)<;>(try(exfalso;omega)))|((first|refine hK _ _ ?_|(clear hK;refine hK _ _ ?_)|(clear hK;clear hK;refine hK _ _ ?_)|(clear hK;clear hK;clear hK;refine hK _ _ ?_));clear hK;try simp only[pst0,simprocAttr])|(rw[if_pos];rotate_left 1;omega;simp(maxSteps:=2000000) only[Ty.w,simprocAttr,l1,c3,c4,g0,g24,g25,w7])));have:=good m1;simpa using this
        ·(repeat' (first|refine a_seq fun K hK=>?_|(refine a_block ?_)|((first|refine a_regionS ?_|refine a_region (fun K hK=>?_)|refine a_ret ?_);simp(maxSteps:=2000000) only[Ty.w,simprocAttr,g0,g24,g25,hd,hr2,w7])|((first|refine a_skip ?_|refine a_exit ?_);try simp only[pst0,simprocAttr])|(refine a_cond _ (by(try simp(maxSteps:=2000000) only[Ty.w,simprocAttr,g0,g24,g25,hd,hr2,w7]);rfl) (fun hb=>?_) (fun hb=>?_)<;>(try simp only[hb0,decide_eq_true_eq,decide_eq_false_iff_not,simprocAttr]at hb)<;>(try(exfalso;omega)))|(with_reducible refine ite_in (fun hb=>?_) (fun hb=>?_)<;>(try simp only[Decidable.not_not]at hb)<;>(try simp only[hb,if_true,if_false,not_false_eq_true,not_true_eq_false, ↓reduceIte])<;>(try simp only[hb0,decide_eq_true_eq,decide_eq_false_iff_not,simprocAttr]at hb)<;>(try(exfalso;omega)))|((first|refine hK _ _ ?_|(clear hK;refine hK _ _ ?_)|(clear hK;clear hK;refine hK _ _ ?_)|(clear hK;clear hK;clear hK;refine hK _ _ ?_));clear hK;try simp only[pst0,simprocAttr])|(rw[if_pos];rotate_left 1;omega;simp(maxSteps:=2000000) only[Ty.w,simprocAttr,g0,g24,g25,hd,hr2,w7])));refine owp_useQ (tlower_c (c:=d)) (by(try simp only[Ty.w,simprocAttr,hr2,l1,c3,c4,c5,c6]);try rfl) ?_;simp(maxSteps:=2000000) only[Ty.w,simprocAttr,hr2,l1,c3,c4,c5,c6];(repeat'(first|refine a_seq fun K hK=>?_|(refine a_block ?_)|((first|refine a_regionS ?_|refine a_region (fun K hK=>?_)|refine a_ret ?_);simp(maxSteps:=2000000) only[Ty.w,simprocAttr,l1,c3,c4,c5,c6,g0,g24,g25,w7])|((first|refine a_skip ?_|refine a_exit ?_);try simp only[pst0,simprocAttr])|(refine a_cond _ (by(try simp(maxSteps:=2000000) only[Ty.w,simprocAttr,l1,c3,c4,c5,c6,g0,g24,g25,w7]);rfl) (fun hb=>?_) (fun hb=>?_)<;>(try simp only[hb0,decide_eq_true_eq,decide_eq_false_iff_not,simprocAttr]at hb)<;>(try(exfalso;omega)))|(with_reducible refine ite_in (fun hb=>?_) (fun hb=>?_)<;>(try simp only[Decidable.not_not]at hb)<;>(try simp only[hb,if_true,if_false,not_false_eq_true,not_true_eq_false, ↓reduceIte])<;>(try simp only[hb0,decide_eq_true_eq,decide_eq_false_iff_not,simprocAttr]at hb)<;>(try(exfalso;omega)))|((first|refine hK _ _ ?_|(clear hK;refine hK _ _ ?_)|(clear hK;clear hK;refine hK _ _ ?_)|(clear hK;clear hK;clear hK;refine hK _ _ ?_));clear hK;try simp only[pst0,simprocAttr])|(rw[if_pos];rotate_left 1;omega;simp(maxSteps:=2000000) only[Ty.w,simprocAttr,l1,c3,c4,c5,c6,g0,g24,g25,w7])));have:=good m1;simpa using this
        ·have hbad:=bad m1;(repeat'(first|refine a_seq fun K hK=>?_|(refine a_block ?_)|((first|refine a_regionS ?_|refine a_region (fun K hK=>?_)|refine a_ret ?_);simp(maxSteps:=2000000) only[Ty.w,simprocAttr,g0,g24,g25,hd,hr2,w7])|((first|refine a_skip ?_|refine a_exit ?_);try simp only[pst0,simprocAttr])|(refine a_cond _ (by(try simp(maxSteps:=2000000) only[Ty.w,simprocAttr,g0,g24,g25,hd,hr2,w7]);rfl) (fun hb=>?_) (fun hb=>?_)<;>(try simp only[hb0,decide_eq_true_eq,decide_eq_false_iff_not,simprocAttr]at hb)<;>(try(exfalso;omega)))|(with_reducible refine ite_in (fun hb=>?_) (fun hb=>?_)<;>(try simp only[Decidable.not_not]at hb)<;>(try simp only[hb,if_true,if_false,not_false_eq_true,not_true_eq_false, ↓reduceIte])<;>(try simp only[hb0,decide_eq_true_eq,decide_eq_false_iff_not,simprocAttr]at hb)<;>(try(exfalso;omega)))|((first|refine hK _ _ ?_|(clear hK;refine hK _ _ ?_)|(clear hK;clear hK;refine hK _ _ ?_)|(clear hK;clear hK;clear hK;refine hK _ _ ?_));clear hK;try simp only[pst0,simprocAttr])|(rw[if_pos];rotate_left 1;omega;simp(maxSteps:=2000000) only[Ty.w,simprocAttr,g0,g24,g25,hd,hr2,w7])));refine owp_useQ (tlower_c (c:=d)) (by(try simp only[Ty.w,simprocAttr,hr2,l1,c3,c4,c5,c6]);try rfl) ?_;simp(maxSteps:=2000000) only[Ty.w,simprocAttr,hr2,l1,c3,c4,c5,c6];(repeat'(first|refine a_seq fun K hK=>?_|(refine a_block ?_)|((first|refine a_regionS ?_|refine a_region (fun K hK=>?_)|refine a_ret ?_);simp(maxSteps:=2000000) only[Ty.w,simprocAttr,l1,c3,c4,c5,c6,g0,g24,g25,w7])|((first|refine a_skip ?_|refine a_exit ?_);try simp only[pst0,simprocAttr])|(refine a_cond _ (by(try simp(maxSteps:=2000000) only[Ty.w,simprocAttr,l1,c3,c4,c5,c6,g0,g24,g25,w7]);rfl) (fun hb=>?_) (fun hb=>?_)<;>(try simp only[hb0,decide_eq_true_eq,decide_eq_false_iff_not,simprocAttr]at hb)<;>(try(exfalso;omega)))|(with_reducible refine ite_in (fun hb=>?_) (fun hb=>?_)<;>(try simp only[Decidable.not_not]at hb)<;>(try simp only[hb,if_true,if_false,not_false_eq_true,not_true_eq_false, ↓reduceIte])<;>(try simp only[hb0,decide_eq_true_eq,decide_eq_false_iff_not,simprocAttr]at hb)<;>(try(exfalso;omega)))|((first|refine hK _ _ ?_|(clear hK;refine hK _ _ ?_)|(clear hK;clear hK;refine hK _ _ ?_)|(clear hK;clear hK;clear hK;refine hK _ _ ?_));clear hK;try simp only[pst0,simprocAttr])|(rw[if_pos];rotate_left 1;omega;simp(maxSteps:=2000000) only[Ty.w,simprocAttr,l1,c3,c4,c5,c6,g0,g24,g25,w7])));rw[hbad]
       ·have hbad:=bad m1;(repeat'(first|refine a_seq fun K hK=>?_|(refine a_block ?_)|((first|refine a_regionS ?_|refine a_region (fun K hK=>?_)|refine a_ret ?_);simp(maxSteps:=2000000) only[Ty.w,simprocAttr,g0,g24,g25,hd,hr2,w7])|((first|refine a_skip ?_|refine a_exit ?_);try simp only[pst0,simprocAttr])|(refine a_cond _ (by(try simp(maxSteps:=2000000) only[Ty.w,simprocAttr,g0,g24,g25,hd,hr2,w7]);rfl) (fun hb=>?_) (fun hb=>?_)<;>(try simp only[hb0,decide_eq_true_eq,decide_eq_false_iff_not,simprocAttr]at hb)<;>(try(exfalso;omega)))|(with_reducible refine ite_in (fun hb=>?_) (fun hb=>?_)<;>(try simp only[Decidable.not_not]at hb)<;>(try simp only[hb,if_true,if_false,not_false_eq_true,not_true_eq_false, ↓reduceIte])<;>(try simp only[hb0,decide_eq_true_eq,decide_eq_false_iff_not,simprocAttr]at hb)<;>(try(exfalso;omega)))|((first|refine hK _ _ ?_|(clear hK;refine hK _ _ ?_)|(clear hK;clear hK;refine hK _ _ ?_)|(clear hK;clear hK;clear hK;refine hK _ _ ?_));clear hK;try simp only[pst0,simprocAttr])|(rw[if_pos];rotate_left 1;omega;simp(maxSteps:=2000000) only[Ty.w,simprocAttr,g0,g24,g25,hd,hr2,w7])));refine owp_useQ (tlower_c (c:=d)) (by(try simp only[Ty.w,simprocAttr,hr2,l1,c3,c4,c5,c6]);try rfl) ?_;simp(maxSteps:=2000000) only[Ty.w,simprocAttr,hr2,l1,c3,c4,c5,c6];(repeat'(first|refine a_seq fun K hK=>?_|(refine a_block ?_)|((first|refine a_regionS ?_|refine a_region (fun K hK=>?_)|refine a_ret ?_);simp(maxSteps:=2000000) only[Ty.w,simprocAttr,l1,c3,c4,c5,c6,g0,g24,g25,w7])|((first|refine a_skip ?_|refine a_exit ?_);try simp only[pst0,simprocAttr])|(refine a_cond _ (by(try simp(maxSteps:=2000000) only[Ty.w,simprocAttr,l1,c3,c4,c5,c6,g0,g24,g25,w7]);rfl) (fun hb=>?_) (fun hb=>?_)<;>(try simp only[hb0,decide_eq_true_eq,decide_eq_false_iff_not,simprocAttr]at hb)<;>(try(exfalso;omega)))|(with_reducible refine ite_in (fun hb=>?_) (fun hb=>?_)<;>(try simp only[Decidable.not_not]at hb)<;>(try simp only[hb,if_true,if_false,not_false_eq_true,not_true_eq_false, ↓reduceIte])<;>(try simp only[hb0,decide_eq_true_eq,decide_eq_false_iff_not,simprocAttr]at hb)<;>(try(exfalso;omega)))|((first|refine hK _ _ ?_|(clear hK;refine hK _ _ ?_)|(clear hK;clear hK;refine hK _ _ ?_)|(clear hK;clear hK;clear hK;refine hK _ _ ?_));clear hK;try simp only[pst0,simprocAttr])|(rw[if_pos];rotate_left 1;omega;simp(maxSteps:=2000000) only[Ty.w,simprocAttr,l1,c3,c4,c5,c6,g0,g24,g25,w7])));rw[hbad]
      ·have hd:decide ((k:Int)<(s.size:Int))=false:=(by simp;omega);have hok:bytesOkB s.data.toList=true:=by
        refine bytesOk_true fun j d hj=>?_;by_cases hj0:j=0
        ·subst hj0;rw[hx]at hj;simp at hj;subst hj;simp[okAt,b3]
        ·simp [okAt,hj0,hall j d (by have:=(List.getElem?_eq_some_iff.1 hj).1;omega) hj]
       have hn:nameB s=true:=by
        have e1:decide (0<s.size)=true:=(by simp;omega);have e2:decide (s.size≤32)=true:=(by simp;omega);simp only[nameB,hok,b5,e1,e2];rfl
       clear hall;(repeat'(first|refine a_seq fun K hK=>?_|(refine a_block ?_)|((first|refine a_regionS ?_|refine a_region (fun K hK=>?_)|refine a_ret ?_);simp(maxSteps:=2000000) only[Ty.w,simprocAttr,g0,g24,g25,hd])|((first|refine a_skip ?_|refine a_exit ?_);try simp only[pst0,simprocAttr])|(refine a_cond _ (by(try simp(maxSteps:=2000000) only[Ty.w,simprocAttr,g0,g24,g25,hd]);rfl) (fun hb=>?_) (fun hb=>?_)<;>(try simp only[hb0,decide_eq_true_eq,decide_eq_false_iff_not,simprocAttr]at hb)<;>(try(exfalso;omega)))|(with_reducible refine ite_in (fun hb=>?_) (fun hb=>?_)<;>(try simp only[Decidable.not_not]at hb)<;>(try simp only[hb,if_true,if_false,not_false_eq_true,not_true_eq_false, ↓reduceIte])<;>(try simp only[hb0,decide_eq_true_eq,decide_eq_false_iff_not,simprocAttr]at hb)<;>(try(exfalso;omega)))|((first|refine hK _ _ ?_|(clear hK;refine hK _ _ ?_)|(clear hK;clear hK;refine hK _ _ ?_)|(clear hK;clear hK;clear hK;refine hK _ _ ?_));clear hK;try simp only[pst0,simprocAttr])|(rw[if_pos];rotate_left 1;omega;simp(maxSteps:=2000000) only[Ty.w,simprocAttr,g0,g24,g25,hd])));rw[hn]
open Go.AM
abbrev minI:Int:= -9223372036854775808
abbrev maxI:Int:=9223372036854775807
def taOwn(f t:Nat):Bool:=([(15,18),(15,27),(15,51),(15,72),(16,40),(16,49),(16,67),(36,9),(25,15),(28,11),(29,11),(67,13),(123,13),(104,10),(121,5),(37,5),(69,5),(144,5),(13,39),(49,47),(17,7),(150,7)]:List (Nat × Nat)).contains (f,t)
def taWf(f:Nat):Bool:=([24,26,28,29,25,100,67,123,66,63,37]:List Nat).contains f
def taKeep(f:Nat):Bool:=f==37
def xquiet(r:Option (PV × Option Nat × Heap))(v:PV):Bool:=match r with
 |some (u,q,_)=>q.isNone&&pvEq u v
 |none=>false
theorem taRun{ext:FuncId→List PV→Heap→Option PV}(hext:ExtOk2 Tryz.prog ext){own:Nat→Nat→Bool}{keep:Nat→Bool}{m k:Nat}{f:FuncId}{args:List PV}{h:Heap}{v:PV}(hx:xquiet (xf2 Tryz.prog taWf own ext keep m k f args h) v=true):PCall Tryz.prog f args h fun r h'=>r=v∧h'=h:=by
 unfold xquiet at hx;split at hx
 ·rename_i u q h' hr;simp only[Bool.and_eq_true,Option.isNone_iff_eq_none]at hx;obtain⟨rfl,hx⟩:=hx;obtain⟨h1,h2⟩:=xf_ok2 Ty.mixed hext k _ _ _ _ _ _ hr;simp only[Tch]at h2;refine h1.mono (fun r h'' hr=>?_);exact⟨by rw[hr.1,pvEq_eq _ _ hx],by rw[hr.2,h2]⟩
 ·simp at hx
theorem taPart{f:FuncId}{args:List PV}{h:Heap}{u:PV}{lo hi:Int}(hob:h.obj 0=some (.glb 0 lo hi))(hn:inNL 1 args)(hc:PCall Tryz.prog f args (heapG 0 lo hi) fun r h'=>r=u∧h'=heapG 0 lo hi):PCall Tryz.prog f args h fun r h'=>r=u∧h'=h:=by
 refine PCall.ofSim fun⟨β,w,sm⟩=>?_;refine PCall.part hc (sm.lt 0 (by rw[hob];try rfl)) (fun id o ho=>?_) hn;simp only[heapG]at ho;split at ho
 ·rename_i he;subst he;simp at ho;subst ho;exact⟨hob,by simp[heapG],by simp only[inNO]⟩
 ·simp at ho
abbrev hG:Heap:=heapG 0 minI maxI
def taExt(f:FuncId)(args:List PV)(h:Heap):Option PV:=match ckExt f args h with
 |some r=>some r
 |none=>if f=82 then(match args with
  |[.sc (.string s)]=>(match h.obj 0 with
   |some (.glb 0 _ _)=>if s.size≤9223372036854775807 then some (.sc (.bool (nameB s)))else none
   |_=>none)
  |_=>none)else none
theorem taExt_ok:ExtOk2 Tryz.prog taExt:=by
 intro f args r h hx;unfold taExt at hx;split at hx
 ·rename_i r' hr;simp only[Option.some.injEq]at hx;subst hx;exact ckExt_ok _ _ _ _ hr
 split at hx
 ·rename_i hf;split at hx
  ·split at hx
   ·rename_i hob;split at hx
    ·rename_i hs;simp only[Option.some.injEq]at hx;subst hx;subst hf;exact tname_c hob hs
    ·simp at hx
   ·simp at hx
  ·simp at hx
 ·simp at hx
def outV(r:Option (PV × Option Nat × Heap))(i:Nat):PV:=match r with
 |some (.tup vs,_,_)=>vs.getD i .emp
 |_=> .emp
noncomputable def smp (i:Nat):PV:=outV (xf2 Tryz.prog taWf taOwn taExt taKeep 2000 40 7 [] hG) i
noncomputable def tmd (i:Nat):PV:=outV (xf2 Tryz.prog taWf taOwn taExt taKeep 2000 40 10 [] hG) i
def ubExt(f:FuncId)(args:List PV)(h:Heap):Option PV:=match taExt f args h with
 |some r=>some r
 |none=>if f=101 then(match args with
   |[.sc (.string s)]=>some (.tup [sPV (lowS s).1,.sc (.bool (lowS s).2)])
   |_=>none)
  else if f=102 then(match args with
   |[.sc (.string s)]=>if s.size≤bigN then some (.sc (.bool (numB s)))else none
   |_=>none)
  else none
theorem ubExt_ok:ExtOk2 Tryz.prog ubExt:=by
 intro f args r h hx;unfold ubExt at hx;split at hx
 ·rename_i r' hr;simp only[Option.some.injEq]at hx;subst hx;exact taExt_ok _ _ _ _ hr
 split at hx
 ·rename_i hf;split at hx
  ·simp only[Option.some.injEq]at hx;subst hx;subst hf;exact lower_c
  ·simp at hx
 split at hx
 ·rename_i hf;split at hx
  ·split at hx
   ·rename_i hs;simp only[Option.some.injEq]at hx;subst hx;subst hf;exact numeric_c hs
   ·simp at hx
  ·simp at hx
 ·simp at hx
def putF(k j:Nat)(v:PV):PV→PV
 | .agg cs=> .agg (cs.set k (match cs[k]? with
  |some (.imm z (r::rs))=> .imm z (r.set j v::rs)
  |_=> .emp))
 |p=>p
noncomputable def dCost (c:PV):PV:=putF 5 2 c (smp 0)
noncomputable def dLoHi (a b:PV):PV:=putF 4 3 b (putF 4 2 a (smp 0))
noncomputable def dDur (c:PV):PV:=putF 6 2 c (tmd 0)
def bS(l:List UInt8):PV:= .sc (.string ⟨l.toArray⟩)
def errN(n:Int):PV:= .sc (.iface 47 (.int .i64 n))
def okR:PV:= .tup [bS [],.sc .nilIface]
def costR:PV:= .tup [bS [97,99,116,105,111,110,32,109,111,118,101],errN 1]
def ordR:PV:= .tup [bS [102,117,110,99,116,105,111,110,32,102,117,101,108],errN 7]
def larR:PV:= .tup [bS [102,117,110,99,116,105,111,110,32,102,117,101,108],errN 5]
def bouR:PV:= .tup [bS [118,97,108,117,101,115],errN 14]
def durR:PV:= .tup [bS [100,117,114,97,116,105,118,101,32,103,111],errN 1]
end Go.Proofs.YtjgkmmjnbcbmpaaGreat
namespace Go.AM
open Go.ChangeShapes Go.WideShapes
def partsT(P:Program)(t:TypeId):List (Nat × TypeId):=match P.underlying t with
 |some (.struct fs)=>fs.toList.map fun f=>(f.offset,f.type)
 |some (.array n e)=>(List.range n).map fun i=>(i*P.cellsOf e,e)
 |_=>[]
def inRow(P:Program)(e:Nat):Nat→List (Nat × TypeId)→Bool
 |o,[]=>o==e
 |o,p::l=>p.1==o&&inRow P e (o+P.cellsOf p.2) l
def covB(P:Program):Nat→TypeId→Bool
 |0,_=>false
 |f+1,t=>match P.underlying t with
  |some .bool=>true
  |some (.int _)=>true
  |some .string=>true
  |some (.slice e)=>decide (0<P.cellsOf e)&&covB P f e
  |some (.struct _)=>inRow P (P.cellsOf t) 0 (partsT P t)&&(partsT P t).all fun p=>covB P f p.2
  |some (.array _ _)=>inRow P (P.cellsOf t) 0 (partsT P t)&&(partsT P t).all fun p=>covB P f p.2
  |_=>false
def Arg(P:Program):Nat→TypeId→List PV→Prop
 |0,_,_=>False
 |f+1,t,ps=>match P.underlying t with
  |some .bool=> ∃ b,ps=[.sc (.bool b)]
  |some (.int k)=> ∃ n,(Lit.int k n).wf=true∧ps=[.sc (.int k n)]
  |some .string=> ∃ s:ByteArray,s.size≤reachBytes∧ps=[.sc (.string s)]
  |some (.slice e)=> ∃ rows,ps=[.imm (P.cellsOf e) rows]∧rows.length*P.bytesOf e≤reachBytes∧rows.length≤maxLen∧ ∀ r∈rows,r.length=P.cellsOf e∧Arg P f e r
  |some (.struct _)=>ps.length=P.cellsOf t∧ ∀ p∈partsT P t,Arg P f p.2 ((ps.drop p.1).take (P.cellsOf p.2))
  |some (.array _ _)=>ps.length=P.cellsOf t∧ ∀ p∈partsT P t,Arg P f p.2 ((ps.drop p.1).take (P.cellsOf p.2))
  |_=>False
section
variable {H:Type}{enc:TypeId × Value→H}{P:Program}{w:World}{sp:Nat→Bool}{held:Bool}
def RA(w:World)(ps:List PV)(cs:List Value):Prop:=(∀ v∈cs,v.oneCell'=true)∧ ∀ β n,RepL β n (fun b=>b<w.heap.size) w ps cs
theorem RA.len{ps:List PV}{cs:List Value}(h:RA w ps cs):ps.length=cs.length:=(h.2 ⟨fun _=>⟨none,0,0,0⟩,⟨fun _=>False,0⟩⟩ 0).len
theorem RA.append{ps ps':List PV}{cs cs':List Value}(h:RA w ps cs)(k:RA w ps' cs'):RA w (ps++ps') (cs++cs'):=
 ⟨fun v hv=>by exact(List.mem_append.1 hv).elim (h.1 v) (k.1 v),fun β n=>(h.2 β n).append (k.2 β n)⟩
theorem inRow_le{e:Nat}:(l:List (Nat × TypeId))→(o:Nat)→inRow P e o l=true→o≤e∧ ∀ p∈l,o≤p.1∧p.1+P.cellsOf p.2≤e
 |[],o,h=>by simp[inRow]at h;simp[h]
 |p::l,o,h=>by
  simp only[inRow,Bool.and_eq_true,beq_iff_eq]at h;obtain⟨h1,h2⟩:=inRow_le l _ h.2;refine⟨by omega,fun q hq=>?_⟩;rcases List.mem_cons.1 hq with rfl|hq
  ·omega
  ·have:=h2 q hq;omega
theorem parts_rep{c:Nat}{cs:List Value}:(l:List (Nat × TypeId))→(o:Nat)→inRow P cs.length o l=true→
  (∀ p∈l, ∃ ps,Arg P c p.2 ps∧RA w ps ((cs.drop p.1).take (P.cellsOf p.2)))→
  ∃ ps,RA w ps (cs.drop o)∧ ∀ p∈l,Arg P c p.2 ((ps.drop (p.1-o)).take (P.cellsOf p.2))
 |[],o,h,_=>by
  simp[inRow]at h;refine⟨[],⟨?_,fun β n=>?_⟩,by simp⟩
  ·rw [List.drop_of_length_le (by omega)];simp
  ·rw [List.drop_of_length_le (by omega)];simp[RepL]
 |p::l,o,h,hp=>by
  have hle:=(inRow_le (p::l) o h).2 p (by simp);simp only[inRow,Bool.and_eq_true,beq_iff_eq]at h;obtain⟨ps,h1,h2⟩:=parts_rep l _ h.2 (fun q hq=>hp q (by simp[hq]));obtain⟨ps0,h3,h4⟩:=hp p (by simp);have hl2:=(inRow_le l _ h.2).2;have e0:p.1=o:=h.1;have l0:ps0.length=P.cellsOf p.2:=by rw[h4.len,List.length_take,List.length_drop];omega
  refine⟨ps0++ps,?_,fun q hq=>?_⟩
  ·have:cs.drop o=(cs.drop p.1).take (P.cellsOf p.2)++cs.drop (o+P.cellsOf p.2):=by
    rw[e0, ← List.drop_drop,List.take_append_drop]
   rw[this];exact h4.append h1
  ·rcases List.mem_cons.1 hq with rfl|hq
   ·rw [e0,Nat.sub_self,List.drop_zero,List.take_append_of_le_length (by omega),List.take_of_length_le (by omega)];exact h3
   ·have h5:=hl2 q hq;have:q.1-o=ps0.length+(q.1-(o+P.cellsOf p.2)):=(by omega);rw[this, ← List.drop_drop,List.drop_left];exact h2 q hq
theorem exists_list{α:Type}{R:Nat→α→Prop}:(n:Nat)→(∀ i,i<n→ ∃ x,R i x)→ ∃ l:List α,l.length=n∧ ∀ i x,l[i]? =some x→R i x
 |0,_=>⟨[],rfl,by simp⟩
 |n+1,h=>by
  obtain⟨l,h1,h2⟩:=exists_list n (fun i hi=>h i (by omega));obtain⟨x,hx⟩:=h n (by omega);refine⟨l++[x],by simp[h1],fun i y hy=>?_⟩;rw[List.getElem?_append]at hy;split at hy
  ·exact h2 i y hy
  ·rename_i hi;have:i=n:=by
    have:=(List.getElem?_eq_some_iff.1 hy).1;simp at this;omega
   subst this;rw[h1]at hy;simp at hy;subst hy;exact hx
theorem weightsAll_mem{e:TypeId}{n:Nat}:{ds:List (DataW H)}→{i:Nat}→{d:DataW H}→ds[i]? =some d→n∈d.weights P e→n∈DataW.weightsAll P e ds
 |[],_,_,h,_=>by simp at h
 |d0::ds,0,d,h,hn=>by
  simp at h;subst h;simp only[DataW.weightsAll,List.mem_append];exact .inl hn
 |d0::ds,i+1,d,h,hn=>by
  simp at h;simp only[DataW.weightsAll,List.mem_append];exact .inr (weightsAll_mem h hn)
theorem sc_RA{v:Value}(h:v.oneCell'=true):RA w [.sc v] [v]:=
 ⟨fun u hu=>by simp at hu;subst hu;exact h,fun β n=>by simp only[RepL,Rep];exact⟨trivial,trivial⟩⟩
theorem arg_of: ∀ (c:Nat)(t:TypeId),covB P c t=true→ ∀ (fuel:Nat)(cs:List Value)(x:DataW H × List MemPlace),DataW.trod enc P w 0 sp held fuel t cs=some x→(∀ n∈x.1.weights P t,n≤reachBytes)→
  ∃ ps,Arg P c t ps∧RA w ps cs
 |0,_,h,_,_,_,_,_=>by simp[covB]at h
 |c+1,t,h,fuel,cs,x,hx,hw=>by
  unfold covB at h;split at h
  ·rename_i hu;obtain⟨b,rfl,rfl⟩:=DataW.trod_bool hu hx;refine⟨[.sc (.bool b)],?_,sc_RA rfl⟩;unfold Arg;rw[hu];exact⟨b,rfl⟩
  ·rename_i k hu;obtain⟨n,rfl,rfl,hwf⟩:=DataW.trod_int hu hx;refine⟨[.sc (.int k n)],?_,sc_RA rfl⟩;unfold Arg;rw[hu];exact⟨n,hwf,rfl⟩
  ·rename_i hu;obtain⟨s,rfl,rfl,hs⟩:=DataW.trod_string hu hx;refine⟨[.sc (.string s)],?_,sc_RA rfl⟩;unfold Arg;rw[hu];refine⟨s,?_,rfl⟩;have:=hw s.data.toList.length (by simp[DataW.weights]);simpa using this
  ·rename_i e hu;simp only[Bool.and_eq_true,decide_eq_true_eq]at h;obtain⟨hpos,hcov⟩:=h;rcases DataW.trod_slice hu hx with⟨rfl,rfl⟩|⟨a,len,cap,elems,rest,n,rfl,rfl,rfl,hb,hl,hm,hlen,hel,hsp,hns⟩
   ·refine ⟨[.imm (P.cellsOf e) []],?_,fun v hv=>?_,fun β n=>?_⟩
    ·unfold Arg;rw[hu];exact⟨[],rfl,by simp,by simp,by simp⟩
    ·simp at hv;subst hv;rfl
    ·simp only[RepL,Rep];exact⟨⟨none,0,rfl,Nat.le_refl _,Nat.zero_le _,.inl (by trivial)⟩,trivial⟩
   ·have each: ∀ i,i<len→ ∃ r:List PV,(r.length=P.cellsOf e∧Arg P c e r)∧ ∃ ci,RA w r ci∧ci.length=P.cellsOf e∧ ∀ j,j<P.cellsOf e→w.cell? ((a.add (i*P.cellsOf e)).add j)=ci[j]?:=by
     intro i hi;have h1:=hel i hi;have h2:elems[i]? =some (elems[i]'(by omega)):=List.getElem?_eq_getElem _;rw[h2,Option.bind_eq_some_iff]at h1;obtain⟨ci,h3,h4⟩:=h1;obtain⟨_,h5,h6⟩:=World.cells?_some h3;obtain⟨r,h7,h8⟩:=arg_of c e hcov n ci _ h4 (fun m hm=>hw m (by
      simp only[DataW.weights,hu,List.mem_cons,List.mem_append];exact .inr (.inl (weightsAll_mem (i:=i) (by rw[List.getElem?_map,h2];try rfl) hm))))
     exact⟨r,⟨by rw[h8.len,h5],h7⟩,ci,h8,h5,h6⟩
    obtain⟨rows,hrl,hrows⟩:=exists_list len each;refine⟨[.imm (P.cellsOf e) rows],?_,fun v hv=>?_,fun β m=>?_⟩
    ·unfold Arg;rw[hu];refine⟨rows,rfl,?_,by omega,fun r hr=>?_⟩
     ·have:=hw ((elems.map (·.1)).length*P.bytesOf e+(rest.map (·.1)).length*P.bytesOf e) (by
       simp only[DataW.weights,hu,List.mem_cons,Nat.add_mul,true_or])
      have h9:rows.length=(elems.map (·.1)).length:=(by simp[hrl,hlen]);rw[h9];exact Nat.le_trans (Nat.le_add_right _ _) this
     ·obtain ⟨i,hi⟩:=List.getElem?_of_mem hr;exact(hrows i r hi).1
    ·simp at hv;subst hv;rfl
    ·simp only[RepL,Rep];refine⟨⟨some a,cap,by rw[hrl],by omega,hm,?_⟩,trivial⟩;by_cases h0:len=0
     ·left;exact List.length_eq_zero_iff.1 (by omega)
     ·right;obtain⟨_,_,c0,_,hc0,hcell0⟩:=each 0 (by omega);have h10:=hcell0 0 hpos;rw[List.getElem?_eq_getElem (by omega)]at h10;simp only[Nat.zero_mul,Addr.add,if_true]at h10;have hs:a.spot=none:=by
       unfold World.cell? at h10;split at h10
       ·split at h10
        ·simp at h10
        ·rename_i hsp;simpa using hsp
       ·simp at h10
      have hblk:a.block<w.heap.size:=by
       unfold World.cell? at h10;split at h10
       ·rename_i hh;exact(Array.getElem?_eq_some_iff.1 hh).1
       ·simp at h10
      refine⟨a.block,a.off,hblk,by cases a;simp only at hs;subst hs;rfl,?_⟩;rw[RepR_iff];intro i r hr;obtain⟨⟨g1,_⟩,ci,g2,g3,g4⟩:=hrows i r hr;refine⟨g1,?_⟩;rw[RepS_iff];intro j p hp;obtain⟨v,hv,hrep⟩:=(g2.2 β m).get hp;have hj:j<P.cellsOf e:=(by rw[← g3];exact(List.getElem?_eq_some_iff.1 hv).1);refine⟨v,?_,g2.1 v (List.mem_of_getElem? hv),hrep⟩;rw[← hv, ← g4 j hj];congr 1;cases a;simp only at hs;subst hs;simp only[Addr.add];split<;>split<;>simp_all<;>omega
  ·rename_i fs hu;simp only[Bool.and_eq_true,List.all_eq_true]at h;obtain⟨xs,n,rfl,rfl,hcl,hxl,hp⟩:=DataW.trod_struct hu hx;have hpt:partsT P t=fs.toList.map fun f=>(f.offset,f.type):=(by unfold partsT;rw[hu]);obtain⟨ps,h1,h2⟩:=parts_rep (w:=w) (c:=c) (cs:=cs) (partsT P t) 0 (by rw[hcl];exact h.1) (fun p hpm=>by
    have hcv:=h.2 p hpm;rw[hpt]at hpm;obtain⟨i,hi⟩:=List.getElem?_of_mem hpm;rw[List.getElem?_map,Option.map_eq_some_iff]at hi;obtain⟨f,hf,rfl⟩:=hi;have hf':fs[i]? =some f:=(by simpa using hf);have hi':i<xs.length:=by
     rw[hxl];exact(Array.getElem?_eq_some_iff.1 hf').1
    have h3:=hp i f hf';rw[List.getElem?_eq_getElem hi']at h3;exact arg_of c f.type hcv n _ _ h3 (fun m hm=>hw m (by
     simp only[DataW.weights,hu];exact DataW.weights_mem_each (j:=i) (t:=f.type) (d:=xs[i].1) (by rw[List.getElem?_map,hf];try rfl) (by rw[List.getElem?_map,List.getElem?_eq_getElem hi'];try rfl) m hm)))
   refine⟨ps,?_,by simpa using h1⟩;unfold Arg;rw[hu];exact⟨by rw[h1.len,List.drop_zero,hcl],fun p hpm=>by simpa using h2 p hpm⟩
  ·rename_i k e hu;simp only[Bool.and_eq_true,List.all_eq_true]at h;obtain⟨xs,n,rfl,rfl,hcl,hxl,hp⟩:=DataW.trod_array hu hx;have hpt:partsT P t=(List.range k).map fun i=>(i*P.cellsOf e,e):=(by unfold partsT;rw[hu]);obtain⟨ps,h1,h2⟩:=parts_rep (w:=w) (c:=c) (cs:=cs) (partsT P t) 0 (by rw[hcl];exact h.1) (fun p hpm=>by
    have hcv:=h.2 p hpm;rw[hpt]at hpm;obtain⟨i,hi,rfl⟩:=List.mem_map.1 hpm;have hi':i<xs.length:=(by rw[hxl];simpa using hi);have h3:=hp i (by simpa using hi);rw[List.getElem?_eq_getElem hi']at h3;exact arg_of c e hcv n _ _ h3 (fun m hm=>hw m (by
     simp only[DataW.weights,hu];exact weightsAll_mem (i:=i) (d:=xs[i].1) (by rw[List.getElem?_map,List.getElem?_eq_getElem hi'];try rfl) hm)))
   refine⟨ps,?_,by simpa using h1⟩;unfold Arg;rw[hu];exact⟨by rw[h1.len,List.drop_zero,hcl],fun p hpm=>by simpa using h2 p hpm⟩
  ·simp at h
def ArgV(P:Program)(c:Nat)(t:TypeId)(p:PV):Prop:=match P.underlying t with
 |some (.struct _)=> ∃ ps,p= .agg ps∧Arg P c t ps
 |some (.array _ _)=> ∃ ps,p= .agg ps∧Arg P c t ps
 |_=>Arg P c t [p]
theorem arg_value{c:Nat}{t:TypeId}(hc:covB P c t=true){v:Value}{d:DataW H}{pl:List MemPlace}(h:DataW.Trod enc P w 0 sp held t v d pl)(hv: ∃ base,Value.okWide P w .any base t v)
  (hw: ∀ n∈d.weights P t,n≤reachBytes): ∃ p,ArgV P c t p∧ ∀ β n,Rep β n (fun b=>b<w.heap.size) w p v:=by
 obtain⟨fuel,hf⟩:=h;obtain⟨ps,h1,h2⟩:=arg_of c t hc fuel _ _ hf hw;obtain⟨base,hv⟩:=hv;unfold Value.okWide at hv;cases c with
 |zero=>simp[covB]at hc
 |succ c=>
  unfold covB at hc;unfold ArgV;have one:(∃ q,ps=[q])→(∃ u,v.cells.toList=[u]∧v=u)→ ∃ p,Arg P (c+1) t [p]∧ ∀ β n,Rep β n (fun b=>b<w.heap.size) w p v:=by
   rintro⟨q,rfl⟩ ⟨u,hu,rfl⟩;refine⟨q,h1,fun β n=>?_⟩;have:=h2.2 β n;rw[hu]at this;simp only[RepL]at this;exact this.1
  have agg:(∃ cs,v= .agg cs)→ ∃ p,(∃ ps,p= .agg ps∧Arg P (c+1) t ps)∧ ∀ β n,Rep β n (fun b=>b<w.heap.size) w p v:=by
   rintro⟨cs,rfl⟩;refine⟨.agg ps,⟨ps,rfl,h1⟩,fun β n=>?_⟩;simp only[Rep];exact⟨cs.toList,by simp,h2.1,h2.2 β n⟩
  split at hc
  ·rename_i hu;obtain⟨b,hb,_⟩:=DataW.trod_bool hu hf;simp only[hu]at hv⊢;refine one ?_ ⟨_,hb,?_⟩
   ·unfold Arg at h1;rw[hu]at h1;obtain⟨b,rfl⟩:=h1;exact⟨_,rfl⟩
   ·obtain ⟨b',rfl⟩:=okWide_bool hu (r:= .any) (base:=base) (v:=v) (w:=w) (by unfold Value.okWide;rw[hu];exact hv);simpa[Value.cells]using hb
  ·rename_i k hu;obtain⟨n,hb,_⟩:=DataW.trod_int hu hf;simp only[hu]at hv⊢;refine one ?_ ⟨_,hb,?_⟩
   ·unfold Arg at h1;rw[hu]at h1;obtain⟨n,_,rfl⟩:=h1;exact⟨_,rfl⟩
   ·obtain ⟨b',rfl⟩:=okWide_int hu (r:= .any) (base:=base) (v:=v) (w:=w) (by unfold Value.okWide;rw[hu];exact hv);simpa[Value.cells]using hb
  ·rename_i hu;obtain⟨n,hb,_⟩:=DataW.trod_string hu hf;simp only[hu]at hv⊢;refine one ?_ ⟨_,hb,?_⟩
   ·unfold Arg at h1;rw[hu]at h1;obtain⟨n,_,rfl⟩:=h1;exact⟨_,rfl⟩
   ·obtain ⟨b',rfl⟩:=okWide_string hu (r:= .any) (base:=base) (v:=v) (w:=w) (by unfold Value.okWide;rw[hu];exact hv);simpa[Value.cells]using hb
  ·rename_i e hu;simp only[hu]at hv⊢;obtain⟨a,len,cap,rfl⟩:=okWide_slice hu (r:= .any) (base:=base) (v:=v) (w:=w) (by unfold Value.okWide;rw[hu];exact hv);refine one ?_ ⟨_,rfl,rfl⟩;unfold Arg at h1;rw[hu]at h1;obtain⟨n,rfl,_⟩:=h1;exact⟨_,rfl⟩
  ·rename_i fs hu;simp only[hu]at hv⊢;obtain⟨cs,rfl,_⟩:=hv;exact agg ⟨_,rfl⟩
  ·rename_i n e hu;simp only[hu]at hv⊢;obtain⟨cs,rfl,_⟩:=hv;exact agg ⟨_,rfl⟩
  ·simp at hc
end
end Go.AM
namespace Go.AM
open Go.ChangeShapes Go.WideShapes
section
variable {P:Program}{c:Nat}{t e:TypeId}{ps:List PV}{a:PV}
theorem Arg_int{k:IntKind}(hu:P.underlying t=some (.int k))(h:Arg P (c+1) t ps): ∃ n,(Lit.int k n).wf=true∧ps=[.sc (.int k n)]:=by
 unfold Arg at h;rw[hu]at h;exact h
theorem rows_map{α:Type}{Q:α→Prop}{f:α→List PV}:(rows:List (List PV))→(∀ r∈rows, ∃ x,Q x∧r=f x)→ ∃ xs:List α,rows=xs.map f∧ ∀ x∈xs,Q x
 |[],_=>⟨[],rfl,by simp⟩
 |r::rows,h=>by
  obtain⟨xs,h1,h2⟩:=rows_map rows (fun q hq=>h q (by simp[hq]));obtain⟨x,h3,h4⟩:=h r (by simp);refine⟨x::xs,by simp[h1,h4],fun y hy=>?_⟩;rcases List.mem_cons.1 hy with rfl|hy
  ·exact h3
  ·exact h2 y hy
theorem i64_in{n:Int}(h:(Lit.int .i64 n).wf=true): -9223372036854775808≤n∧n≤9223372036854775807:=by
 simp[Lit.wf,IntKind.min,IntKind.max,IntKind.bits,IntKind.signed]at h;omega
end
end Go.AM
namespace Go.Proofs.YtjgkmmjnbcbmpaaGreat
open Go.AM
set_option maxHeartbeats 1000000
set_option maxRecDepth 20000
theorem arg_i64{c:Nat}{ps:List PV}(h:Arg Tryz.prog c 3 ps): ∃ n:Int,(-9223372036854775808≤n∧n≤9223372036854775807)∧ps=[.sc (.int .i64 n)]:=by
 cases c with
 |zero=>simp[Arg]at h
 |succ c=>
  obtain⟨n,h1,h2⟩:=Arg_int Tryz.underlying3 h;exact⟨n,i64_in h1,h2⟩
end Go.Proofs.YtjgkmmjnbcbmpaaGreat
namespace Go.AM
section
variable {P:Program}{w:World}
theorem glb_of_shape{g:Nat}{t:TypeId}{zero:Array Value}(h:w.ShapedOpen P)(hg:g<P.globals.size)(h0:((begin P (fun _ _=>0) default).world.heap[g]?).bind Obj.row? =some (zero,t))(hz:zero.size=1)
  (hb:P.buildable t=true)(hc:P.cellTypes P.depth t=some [t])(hu:P.underlying t=some (.int .i64)): ∃ i:Int,w.cell? ⟨g,0,none⟩=some (.int .i64 i)∧ -9223372036854775808≤i∧i≤9223372036854775807:=by
 obtain⟨cs,hh,hs,hr⟩:=h.1 g zero t hg h0;obtain⟨ts,hts,_,all⟩:=hr hb;obtain rfl:=Option.some.inj (hc.symm.trans hts);have h1:0<cs.size:=by omega
 obtain⟨u,hu',ok⟩:=all 0 cs[0] (by simp[h1]);obtain rfl:u=t:=by simpa using hu'.symm
 have hcell:w.cell? ⟨g,0,none⟩=some cs[0]:=by simp[World.cell?,hh,h1]
 rw[hcell];unfold Cell.ok at ok;rw[hu]at ok;generalize cs[0]=c at ok;cases c<;>simp at ok;rename_i k n;obtain⟨rfl,hn⟩:=ok;unfold IntKind.has at hn;exact⟨n,rfl,hn⟩
theorem int_arg{k:IntKind}{t:TypeId}{base:Nat}{v:Value}(hu:P.underlying t=some (.int k))(hv:Value.okWide P w .any base t v): ∃ n:Int,k.min≤n∧n≤k.max∧v= .int k n:=by
 unfold Value.okWide at hv;rw[hu]at hv;simp only at hv;unfold Cell.okWide at hv;rw[hu]at hv;unfold Cell.ok at hv;rw[hu]at hv;cases v<;>simp at hv;rename_i k' n;obtain⟨rfl,hn⟩:=hv;unfold IntKind.has at hn;exact⟨n,hn.1,hn.2,rfl⟩
end
end Go.AM
