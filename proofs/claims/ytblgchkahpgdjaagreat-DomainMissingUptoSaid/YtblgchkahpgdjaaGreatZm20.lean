/- DomainMissing: for every input of bulk at most 1048576 the Go function stratagem/stratagemlaw09.DomainMissing returns true and leaves its arguments as they were. The condition is the statement's own. -/
import Derived.Test.YtblgchkahpgdjaaGreatRows
import Derived.WalkKit
import Derived.ProofKit
import Derived.OpenShut
import Derived.ShutString
import Derived.ChangeOld
import Derived.Below
import Derived.SizedLaws
import Derived.JoinedCond
import Derived.Deep.CondSized
import Derived.Test.YtblgchkahpgdjaaGreatZm18
import Derived.Test.YtblgchkahpgdjaaGreatZm19
set_option linter.unusedVariables false
set_option linter.unusedSimpArgs false
set_option linter.unusedSectionVars false
namespace Go.Proofs.YtblgchkahpgdjaaGreat.domainMissing
open Go.AM Go.Proofs.Tryz
open Go.ChangeShapes Go.WideShapes Go.ChangeAt Go.RowKit
theorem own:ownKnob Tryz.prog.godebug=none:=by kernel_rfl
theorem laidOut:laidOutB prog=true:=by kernel_rfl
set_option maxRecDepth 100000 in
theorem lifted(os:Os)(started:os.Started)(H:Type)(enc:TypeId × Value->H)(F:Stop.Interp):
  ReturnsInHanded {} Tryz.checked os 9 .any ((Rows.OpenSpec.upto Rows.domainMissingSpec).pre6 enc prog Tryz.f9 Rows.domainMissingUptoRow.domain false) (((Rows.OpenSpec.upto Rows.domainMissingSpec).at F).post enc prog Tryz.f9 false true false false):=by
 refine returnsInHanded_of_cond_sized (C:=Tryz.checked) (s:=Rows.OpenSpec.upto Rows.domainMissingSpec) (k:=Rows.uptoSmall) rfl own started (by kernel_rfl) func9
  (OpenSpec.witness (enc := enc) (C := Tryz.checked) (s := Rows.OpenSpec.upto Rows.domainMissingSpec) (k := Rows.uptoSmall) rfl false ⟨#[], #[.agg #[.string ⟨#[]⟩, .slice none 0 0, .slice none 0 0, .slice none 0 0, .slice none 0 0, .slice none 0 0, .slice none 0 0]], []⟩ 8 (by kernel_rfl) (by kernel_rfl) (by kernel_rfl)
   (x:=([.agg [.lit (.string []),.nil,.nil,.nil,.nil,.nil,.nil]],[],[])) (by kernel_rfl) rfl (by kernel_rfl)) ?_
 intro W base args ds gs before hval0 hW hcnd hk hsz0 _;have hval: ∀ (j:Nat) t v,Tryz.f9.params[j]? =some t->args[j]? =some v->Value.okWide prog W .any base t v:=hval0;have hsz:(DataW.weightsEach prog (Tryz.f9.params.toList++Rows.domainMissingSpec.plain.varTypes prog) (ds++gs)).all (·<=reachBytes)=true:=hsz0;have hW':=hW;obtain⟨p,q,hA0,hV,rfl,hfz,hnd⟩:=hW;have hA:DataW.TrodAll enc prog W 0 (λ_=>true) true Tryz.f9.params.toList args.toList ds p:=hA0;rw[Tryz.params9]at hA hval hsz;obtain⟨v0,vs0,d0,ds0,p0,q0,hargs,rfl,rfl,h0,r0⟩:=trodAll_cons hA;obtain⟨rfl,rfl,rfl⟩:=trodAll_nil r0;obtain rfl:args= #[v0]:=by cases args;simp_all
 obtain⟨rfl,rfl⟩:=trodVars_none hV;have wle: ∀ (j:Nat)(t:TypeId)(d:DataW H),([28]++Rows.domainMissingSpec.plain.varTypes prog)[j]? =some t->([d0]++[])[j]? =some d-> ∀ n∈d.weights prog t,n<=reachBytes:=λj t d g1 g2 n hn=>by
  have:=List.all_eq_true.1 hsz n (DataW.weights_mem_each g1 g2 n hn);exact LR this
 have k0:=h0;have lt0: ∀ x∈p0,x.block<W.heap.size:=by obtain⟨m,hm⟩:=k0;exact DataW.trod_lt m _ _ _ hm
 obtain⟨c0,a0,x0,y0,b0⟩:=kE (P:=prog) (w:=W) (Ts:=kP) (t:=28) (by kernel_rfl) (by kernel_rfl) Tryz.underlying28 h0 ⟨base,hval 0 28 v0 rfl rfl⟩ (wle 0 28 d0 rfl rfl);have hB:Rows.uptoBulkAll ([d0]++[])<=1048576:=LR hk;simp only[List.cons_append,List.nil_append,Rows.uptoBulkAll]at hB;have z0:PV.bulkL a0<=1048576:=by omega
 clear hA0 hval0;have walk: ∃ pargs:List PV,pargs=[.agg a0]/\A6 prog 9 pargs A0.nil (λr _=>r= .sc (.bool true)):=by
  obtain⟨d,hd,rfl⟩:=lB _ x0;exact⟨_,rfl,pH hd z0⟩
 obtain⟨pargs,rfl,hc⟩:=walk;refine(aZ (w:=W) (vals:=[v0]) Ty.O4 hc (by simp only[AT];exact⟨y0 _ _,trivial⟩)).mono λe W' ⟨he,bel⟩=>?_;subst he;exact⟨_,rfl,_,_,_,[],_,[],hW',trodAll_mk1 (shut_bool Tryz.underlying4 _),(trodAll_cons_mk (Below.trod laidOut (by kernel_rfl) (LR (by kernel_rfl)) k0 bel lt0) trodAll_mk0),rfl,bel.frame _,λh=>by cases h⟩
theorem over:Rows.domainMissingUptoRow.holds Tryz.pinned (Rows.OpenSpec.upto Rows.domainMissingSpec):=
 OpenClaim.holds_of_cond 9 Tryz.f9 rfl rfl rfl rfl rfl rfl rfl ⟨rfl,rfl,rfl,rfl,rfl⟩ rfl rfl rfl rfl rfl pI func9 closed
  pJ pK
  (λos started H enc _ F=>lifted os started H enc F)
/-- THE STATEMENT -/
theorem proved:Rows.DomainMissingUptoSaid:=over
#print axioms proved
end Go.Proofs.YtblgchkahpgdjaaGreat.domainMissing
