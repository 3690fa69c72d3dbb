/- FormulaMeaning: for every input of bulk at most 1048576 the Go function stratagem/stratagemlaw08.FormulaMeaning returns true and leaves its arguments as they were. The condition is the statement's own. -/
import Derived.Test.YtjlkapgpjamnkaaRows
import Derived.WalkKit
import Derived.ProofKit
import Derived.OpenShut
import Derived.ShutString
import Derived.ChangeOld
import Derived.Below
import Derived.SizedLaws
import Derived.JoinedCond
import Derived.Deep.CondSized
import Derived.Test.YtjlkapgpjamnkaaZm7
set_option linter.unusedVariables false
set_option linter.unusedSimpArgs false
set_option linter.unusedSectionVars false
namespace Go.Proofs.Ytjlkapgpjamnkaa.formulaMeaning
open Go.AM
open Go.ChangeShapes Go.WideShapes Go.ChangeAt Go.RowKit
theorem own:ownKnob Try.prog.godebug=none:=by kernel_rfl
theorem laidOut:laidOutB Try.prog=true:=by kernel_rfl
set_option maxRecDepth 100000 in
theorem lifted(os:Os)(started:os.Started)(H:Type)(enc:TypeId × Value→H)(F:Stop.Interp):
  ReturnsInHanded {} Try.checked os 5 .any ((Rows.OpenSpec.upto Rows.formulaMeaningSpec).pre6 enc Try.prog Try.f5 Rows.formulaMeaningUptoRow.domain false) (((Rows.OpenSpec.upto Rows.formulaMeaningSpec).at F).post enc Try.prog Try.f5 false true false false):=by
 refine returnsInHanded_of_cond_sized (C:=Try.checked) (s:=Rows.OpenSpec.upto Rows.formulaMeaningSpec) (k:=Rows.uptoSmall) rfl own started (by kernel_rfl) Try.func5
  (OpenSpec.witness (enc := enc) (C := Try.checked) (s := Rows.OpenSpec.upto Rows.formulaMeaningSpec) (k := Rows.uptoSmall) rfl false ⟨#[], #[.agg #[.string ⟨#[]⟩, .string ⟨#[]⟩, .slice none 0 0, .slice none 0 0, .slice none 0 0, .slice none 0 0], .int .u32 0], []⟩ 8 (by kernel_rfl) (by kernel_rfl) (by kernel_rfl)
   (x:=([.agg [.lit (.string []),.lit (.string []),.nil,.nil,.nil,.nil],.lit (.int .u32 0)],[],[])) (by kernel_rfl) rfl (by kernel_rfl)) ?_
 intro W base args ds gs before hval0 hW hcnd hk hsz0 _
 have hval: ∀ (j:Nat) t v,Try.f5.params[j]? =some t→args[j]? =some v→Value.okWide Try.prog W .any base t v:=hval0
 have hsz:(DataW.weightsEach Try.prog (Try.f5.params.toList++Rows.formulaMeaningSpec.plain.varTypes Try.prog) (ds++gs)).all (·≤reachBytes)=true:=hsz0
 have hW':=hW
 obtain⟨p,q,hA0,hV,rfl,hfz,hnd⟩:=hW
 have hA:DataW.TrodAll enc Try.prog W 0 (fun _=>true) true Try.f5.params.toList args.toList ds p:=hA0
 rw[Try.params5]at hA hval hsz
 obtain⟨v0,vs0,d0,ds0,p0,q0,hargs,rfl,rfl,h0,r0⟩:=trodAll_cons hA
 obtain⟨v1,vs1,d1,ds1,p1,q1,rfl,rfl,rfl,h1,r1⟩:=trodAll_cons r0
 obtain⟨rfl,rfl,rfl⟩:=trodAll_nil r1
 obtain rfl:args= #[v0,v1]:=by cases args;simp_all
 obtain⟨rfl,rfl⟩:=trodVars_none hV
 have wle: ∀ (j:Nat)(t:TypeId)(d:DataW H),([29,33]++Rows.formulaMeaningSpec.plain.varTypes Try.prog)[j]? =some t→([d0,d1]++[])[j]? =some d→ ∀ n∈d.weights Try.prog t,n≤reachBytes:=fun j t d g1 g2 n hn=>by
  have:=List.all_eq_true.1 hsz n (DataW.weights_mem_each g1 g2 n hn)
  exact of_decide_eq_true this
 have k0:=h0
 have lt0: ∀ x∈p0,x.block<W.heap.size:=by obtain⟨m,hm⟩:=k0;exact DataW.trod_lt m _ _ _ hm
 obtain⟨c0,a0,x0,y0,b0⟩:=arg_value5 (P:=Try.prog) (w:=W) (Ts:=recTs) (t:=29) (by kernel_rfl) (by kernel_rfl) Try.underlying29 h0 ⟨base,hval 0 29 v0 rfl rfl⟩ (wle 0 29 d0 rfl rfl)
 have k1:=h1
 have lt1: ∀ x∈p1,x.block<W.heap.size:=by obtain⟨m,hm⟩:=k1;exact DataW.trod_lt m _ _ _ hm
 obtain⟨a1,x1,y1⟩:=arg_value (P:=Try.prog) (w:=W) (c:=8) (t:=33) (by kernel_rfl) h1 ⟨base,hval 1 33 v1 rfl rfl⟩ (wle 1 33 d1 rfl rfl)
 have hB:Rows.uptoBulkAll ([d0,d1]++[])≤1048576:=of_decide_eq_true hk
 simp only[List.cons_append,List.nil_append,Rows.uptoBulkAll]at hB
 have z0:PV.bulkL a0≤1048576:=by omega
 clear hA0 hval0
 have walk: ∃ pargs:List PV,pargs=[.agg a0,a1]∧PCall Try.prog 5 pargs Heap.nil (fun r _=>r= .sc (.bool true)):=by
  obtain⟨x,hx,rfl⟩:=arg_fm _ x0
  obtain⟨w,hw,rfl⟩:=argV_int Try.underlying33 x1
  exact⟨_,rfl,formulaMeaning_c hx z0⟩
 obtain⟨pargs,rfl,hc⟩:=walk
 refine(law_calls (w:=W) (vals:=[v0,v1]) Ty.hb_5 hc (by simp only[RepL];exact⟨y0 _ _,y1 _ _,trivial⟩)).mono fun e W' ⟨he,bel⟩=>?_
 subst he
 exact⟨_,rfl,_,_,_,[],_,[],hW',trodAll_mk1 (shut_bool Try.underlying4 _),(trodAll_cons_mk (Below.trod laidOut (by kernel_rfl) (of_decide_eq_true (by kernel_rfl)) k0 bel lt0) (trodAll_cons_mk (Below.trod laidOut (by kernel_rfl) (of_decide_eq_true (by kernel_rfl)) k1 bel lt1) trodAll_mk0)),rfl,bel.frame _,fun h=>by cases h⟩
theorem over:Rows.formulaMeaningUptoRow.holds Try.pinned (Rows.OpenSpec.upto Rows.formulaMeaningSpec):=
 OpenClaim.holds_of_cond 5 Try.f5 rfl rfl rfl rfl rfl rfl rfl ⟨rfl,rfl,rfl,rfl,rfl⟩ rfl rfl rfl rfl rfl (by kernel_rfl) Try.func5 (by kernel_rfl)
  (of_decide_eq_true (by kernel_rfl)) (by unfold Func.isWrapper;first|(rw[if_pos (by decide+kernel)];kernel_rfl)|(rw[if_neg (by decide+kernel)];exact⟨rfl,rfl⟩))
  (fun os started H enc _ F=>lifted os started H enc F)
/-- THE STATEMENT -/
theorem proved:Rows.FormulaMeaningUptoSaid:=over
#print axioms proved
end Go.Proofs.Ytjlkapgpjamnkaa.formulaMeaning
