/- ProblemReturns: for every input the Go function stratagem/stratagemlaw10.ProblemReturns returns true and leaves its arguments as they were. No conditions beyond those of the statement. -/
import Derived.Test.YtjeolbgpllbemaaGreatRows
import Derived.WalkKit
import Derived.ProofKit
import Derived.OpenShut
import Derived.ShutString
import Derived.ChangeOld
import Derived.Below
import Derived.SizedLaws
import Derived.Test.YtjeolbgpllbemaaGreatZr8
set_option linter.unusedVariables false
set_option linter.unusedSimpArgs false
set_option linter.unusedSectionVars false
namespace Go.Proofs.YtjeolbgpllbemaaGreat.problemReturns
open Go.AM
open Go.ChangeShapes Go.WideShapes Go.ChangeAt Go.RowKit
theorem own:ownKnob Tryz.prog.godebug=none:=by kernel_rfl
theorem laidOut:laidOutB Tryz.prog=true:=by kernel_rfl
set_option maxRecDepth 100000 in
theorem lifted(os:Os)(started:os.Started)(H:Type)(enc:TypeId × Value→H):
  ReturnsInHanded {} Tryz.checked os 5 .any (Rows.problemReturnsSpec.pre6 enc Tryz.prog Tryz.f5 Rows.problemReturnsRow.domain false) (Rows.problemReturnsSpec.post enc Tryz.prog Tryz.f5 false true false false):=by
 refine returnsInHanded_of_change_sized (C:=Tryz.checked) own started (by kernel_rfl) Tryz.func5
  (ChangeSpec.witness6 (enc:=enc) (C:=Tryz.checked) false ⟨#[], #[.agg #[.int .i64 0,.int .i64 0,.int .i64 0,.int .i64 0,.string ⟨#[]⟩,.slice none 0 0]],[]⟩ 8 (by kernel_rfl) (by kernel_rfl) (by kernel_rfl) (by kernel_rfl)) ?_
 intro W base args ds gs before hval0 hW hcnd hsz0 _
 have hval: ∀ (j:Nat) t v,Tryz.f5.params[j]? =some t→args[j]? =some v→Value.okWide Tryz.prog W .any base t v:=hval0
 have hsz:(DataW.weightsEach Tryz.prog (Tryz.f5.params.toList++Rows.problemReturnsSpec.plain.varTypes Tryz.prog) (ds++gs)).all (·≤reachBytes)=true:=hsz0
 have hW':=hW
 obtain⟨p,q,hA0,hV,rfl,hfz,hnd⟩:=hW
 have hA:DataW.TrodAll enc Tryz.prog W 0 (fun _=>true) true Tryz.f5.params.toList args.toList ds p:=hA0
 rw[Tryz.params5]at hA hval hsz
 obtain⟨v0,vs0,d0,ds0,p0,q0,hargs,rfl,rfl,h0,r0⟩:=trodAll_cons hA
 obtain⟨rfl,rfl,rfl⟩:=trodAll_nil r0
 obtain rfl:args= #[v0]:=by cases args;simp_all
 obtain⟨rfl,rfl⟩:=trodVars_none hV
 have wle: ∀ (j:Nat)(t:TypeId)(d:DataW H),([36]++Rows.problemReturnsSpec.plain.varTypes Tryz.prog)[j]? =some t→([d0]++[])[j]? =some d→ ∀ n∈d.weights Tryz.prog t,n≤reachBytes:=fun j t d g1 g2 n hn=>by
  have:=List.all_eq_true.1 hsz n (DataW.weights_mem_each g1 g2 n hn)
  exact of_decide_eq_true this
 have k0:=h0
 have lt0: ∀ x∈p0,x.block<W.heap.size:=by obtain⟨m,hm⟩:=k0;exact DataW.trod_lt m _ _ _ hm
 obtain⟨c0,a0,x0,y0⟩:=arg_valueC (P:=Tryz.prog) (w:=W) (Ts:=sxTs) (t:=36) (by kernel_rfl) (by kernel_rfl) Tryz.underlying36 h0 ⟨base,hval 0 36 v0 rfl rfl⟩ (wle 0 36 d0 rfl rfl)
 clear hA0 hval0
 have walk: ∃ pargs:List PV,pargs=[.agg a0]∧PCall Tryz.prog 5 pargs Heap.nil (fun r _=>r= .sc (.bool true)):=by
  obtain⟨x,hx,rfl⟩:=arg_sx _ x0
  exact⟨_,rfl,problemReturns_c hx⟩
 obtain⟨pargs,rfl,hc⟩:=walk
 refine(law_calls (w:=W) (vals:=[v0]) Ty.hb_5 hc (by simp only[RepL];exact⟨y0 _ _,trivial⟩)).mono fun e W' ⟨he,bel⟩=>?_
 subst he
 exact⟨_,rfl,_,_,_,[],_,[],hW',trodAll_mk1 (shut_bool Tryz.underlying4 _),(trodAll_cons_mk (Below.trod laidOut (by kernel_rfl) (of_decide_eq_true (by kernel_rfl)) k0 bel lt0) trodAll_mk0),rfl,bel.frame _,fun h=>by cases h⟩
theorem over:Rows.problemReturnsRow.holds Tryz.pinned (OpenSpec.ofChange Rows.problemReturnsSpec):=
 OpenClaim.holds_of_wide 5 Tryz.f5 rfl rfl rfl rfl rfl rfl rfl ⟨rfl,rfl,rfl,rfl,rfl⟩ rfl rfl rfl rfl rfl named Tryz.func5 closed
  inst wrap
  (fun os started H enc _=>lifted os started H enc)
/-- THE STATEMENT -/
theorem proved:Rows.ProblemReturnsSaid:=over
#print axioms proved
end Go.Proofs.YtjeolbgpllbemaaGreat.problemReturns
