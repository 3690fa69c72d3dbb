/- DomainReturns: for every input the Go function stratagem/stratagemlaw09.DomainReturns returns true and leaves its arguments as they were. No conditions beyond those of the statement. -/
import Derived.Test.YtblgchkahpgdjaaGreatRows
import Derived.WalkKit
import Derived.ProofKit
import Derived.OpenShut
import Derived.ShutString
import Derived.ChangeOld
import Derived.Below
import Derived.SizedLaws
import Derived.Test.YtblgchkahpgdjaaGreatZr17
import Derived.Test.YtblgchkahpgdjaaGreatZr18
set_option linter.unusedVariables false
set_option linter.unusedSimpArgs false
set_option linter.unusedSectionVars false
namespace Go.Proofs.YtblgchkahpgdjaaGreat.domainReturns
open Go.AM Go.Proofs.Tryz
open Go.ChangeShapes Go.WideShapes Go.ChangeAt Go.RowKit
theorem own:ownKnob Tryz.prog.godebug=none:=by kernel_rfl
theorem laidOut:laidOutB prog=true:=by kernel_rfl
set_option maxRecDepth 100000 in
theorem lifted(os:Os)(started:os.Started)(H:Type)(enc:TypeId × Value->H):
  ReturnsInHanded {} Tryz.checked os 6 .any (Rows.domainReturnsSpec.pre6 enc prog Tryz.f6 Rows.domainReturnsRow.domain false) (Rows.domainReturnsSpec.post enc prog Tryz.f6 false true false false):=by
 refine returnsInHanded_of_change_sized (C:=Tryz.checked) own started (by kernel_rfl) func6
  (ChangeSpec.witness6 (enc:=enc) (C:=Tryz.checked) false ⟨#[], #[.agg #[.int .i64 0,.int .i64 0,.int .i64 0,.int .i64 0,.string ⟨#[]⟩,.slice none 0 0]],[]⟩ 8 (by kernel_rfl) (by kernel_rfl) (by kernel_rfl) (by kernel_rfl)) ?_
 intro W base args ds gs before hval0 hW hcnd hsz0 _;have hval: ∀ (j:Nat) t v,Tryz.f6.params[j]? =some t->args[j]? =some v->Value.okWide prog W .any base t v:=hval0;have hsz:(DataW.weightsEach prog (Tryz.f6.params.toList++Rows.domainReturnsSpec.plain.varTypes prog) (ds++gs)).all (·<=reachBytes)=true:=hsz0;have hW':=hW;obtain⟨p,q,hA0,hV,rfl,hfz,hnd⟩:=hW;have hA:DataW.TrodAll enc prog W 0 (λ_=>true) true Tryz.f6.params.toList args.toList ds p:=hA0;rw[Tryz.params6]at hA hval hsz;obtain⟨v0,vs0,d0,ds0,p0,q0,hargs,rfl,rfl,h0,r0⟩:=trodAll_cons hA;obtain⟨rfl,rfl,rfl⟩:=trodAll_nil r0;obtain rfl:args= #[v0]:=by cases args;simp_all
 obtain⟨rfl,rfl⟩:=trodVars_none hV;have wle: ∀ (j:Nat)(t:TypeId)(d:DataW H),([33]++Rows.domainReturnsSpec.plain.varTypes prog)[j]? =some t->([d0]++[])[j]? =some d-> ∀ n∈d.weights prog t,n<=reachBytes:=λj t d g1 g2 n hn=>by
  have:=Bq.1 hsz n (DataW.weights_mem_each g1 g2 n hn);exact NB this
 have k0:=h0;have lt0: ∀ x∈p0,x.block<W.heap.size:=by obtain⟨m,hm⟩:=k0;exact DataW.trod_lt m _ _ _ hm
 obtain⟨c0,a0,x0,y0⟩:=gI (P:=prog) (w:=W) (Ts:=ig) (t:=33) (by kernel_rfl) (by kernel_rfl) Tryz.underlying33 h0 ⟨base,hval 0 33 v0 rfl rfl⟩ (wle 0 33 d0 rfl rfl)
 clear hA0 hval0;have walk: ∃ pargs:List PV,pargs=[.agg a0]/\A6 prog 6 pargs A0.nil (λr _=>r= .sc (.bool true)):=by
  obtain⟨x,hx,rfl⟩:=ix _ x0;exact⟨_,rfl,lr hx⟩
 obtain⟨pargs,rfl,hc⟩:=walk;refine(ZQ (w:=W) (vals:=[v0]) Ty.Pc hc (by simp only[AS];exact⟨y0 _ _,trivial⟩)).mono λe W' ⟨he,bel⟩=>?_;subst he;exact⟨_,rfl,_,_,_,[],_,[],hW',trodAll_mk1 (shut_bool Tryz.underlying4 _),(trodAll_cons_mk (Below.trod laidOut (by kernel_rfl) (NB (by kernel_rfl)) k0 bel lt0) trodAll_mk0),rfl,bel.frame _,λh=>by cases h⟩
theorem over:Rows.domainReturnsRow.holds Tryz.pinned (OpenSpec.ofChange Rows.domainReturnsSpec):=
 OpenClaim.holds_of_wide 6 Tryz.f6 rfl rfl rfl rfl rfl rfl rfl ⟨rfl,rfl,rfl,rfl,rfl⟩ rfl rfl rfl rfl rfl lz func6 closed
  m8 m9
  (λos started H enc _=>lifted os started H enc)
/-- THE STATEMENT -/
theorem proved:Rows.DomainReturnsSaid:=over
#print axioms proved
end Go.Proofs.YtblgchkahpgdjaaGreat.domainReturns
