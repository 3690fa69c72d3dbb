/- CheckForest: for every input the Go function stratagem/stratagemlaw11.CheckForest returns true and leaves its arguments as they were. No conditions beyond those of the statement. -/
import Derived.Test.YtnldekadkjdbcaaGreatRows
import Derived.WalkKit
import Derived.ProofKit
import Derived.OpenShut
import Derived.ShutString
import Derived.ChangeOld
import Derived.Below
import Derived.SizedLaws
import Derived.HandedShaped
import Derived.Test.YtnldekadkjdbcaaGreatZf7
set_option linter.unusedVariables false
set_option linter.unusedSimpArgs false
set_option linter.unusedSectionVars false
namespace Go.Proofs.YtnldekadkjdbcaaGreat.checkForest
open Go.AM
open Go.ChangeShapes Go.WideShapes Go.ChangeAt Go.RowKit
theorem own:ownKnob Tryz.prog.godebug=none:=by kernel_rfl
theorem laidOut:laidOutB Tryz.prog=true:=by kernel_rfl
set_option maxRecDepth 100000 in
theorem lifted(os:Os)(started:os.Started)(H:Type)(enc:TypeId × Value→H):
  ReturnsInHanded {} Tryz.checked os 3 .any (Rows.checkForestSpec.pre6 enc Tryz.prog Tryz.f3 Rows.checkForestRow.domain false) (Rows.checkForestSpec.post enc Tryz.prog Tryz.f3 false true false false):=by
 refine returnsInHanded_of_change_shaped (C:=Tryz.checked) own started (by kernel_rfl) Tryz.func3
  (ChangeSpec.witness6 (enc:=enc) (C:=Tryz.checked) false ⟨#[], #[.slice none 0 0],[]⟩ 8 (by kernel_rfl) (by kernel_rfl) (by kernel_rfl) (by kernel_rfl)) ?_
 intro W base args ds gs before hval0 hW hcnd hsz0 hsh0 _;have hsh:W.ShapedOpen Tryz.prog:=hsh0;obtain⟨i,hg,lo,hi⟩:=glb_of_shape (P:=Tryz.prog) (g:=0) (t:=3) (zero:= #[.int .i64 0]) hsh (of_decide_eq_true (by kernel_rfl)) (by kernel_rfl) rfl (by kernel_rfl) (by kernel_rfl) Tryz.underlying3;have hval: ∀ (j:Nat) t v,Tryz.f3.params[j]? =some t→args[j]? =some v→Value.okWide Tryz.prog W .any base t v:=hval0;have hsz:(DataW.weightsEach Tryz.prog (Tryz.f3.params.toList++Rows.checkForestSpec.plain.varTypes Tryz.prog) (ds++gs)).all (·≤reachBytes)=true:=hsz0;have hW':=hW;obtain⟨p,q,hA0,hV,rfl,hfz,hnd⟩:=hW;have hA:DataW.TrodAll enc Tryz.prog W 0 (fun _=>true) true Tryz.f3.params.toList args.toList ds p:=hA0;rw[Tryz.params3]at hA hval hsz;obtain⟨v0,vs0,d0,ds0,p0,q0,hargs,rfl,rfl,h0,r0⟩:=trodAll_cons hA;obtain⟨rfl,rfl,rfl⟩:=trodAll_nil r0;obtain rfl:args= #[v0]:=by cases args;simp_all
 obtain⟨rfl,rfl⟩:=trodVars_none hV;have wle: ∀ (j:Nat)(t:TypeId)(d:DataW H),([22]++Rows.checkForestSpec.plain.varTypes Tryz.prog)[j]? =some t→([d0]++[])[j]? =some d→ ∀ n∈d.weights Tryz.prog t,n≤reachBytes:=fun j t d g1 g2 n hn=>by
  have:=List.all_eq_true.1 hsz n (DataW.weights_mem_each g1 g2 n hn);exact of_decide_eq_true this
 have k0:=h0;have lt0: ∀ x∈p0,x.block<W.heap.size:=by obtain⟨m,hm⟩:=k0;exact DataW.trod_lt m _ _ _ hm
 obtain⟨a0,x0,y0⟩:=arg_value (P:=Tryz.prog) (w:=W) (c:=8) (t:=22) (by kernel_rfl) h0 ⟨base,hval 0 22 v0 rfl rfl⟩ (wle 0 22 d0 rfl rfl);clear hA0 hval0;have walk: ∃ pargs:List PV,pargs=[a0]∧PCall Tryz.prog 3 pargs (heapG 0 minI maxI) (fun r _=>r= .sc (.bool true)):=by
  obtain⟨l,⟨hl,hok⟩,e⟩:=arg_pms (argV_slice Tryz.underlying22 x0);simp only[List.cons.injEq,and_true]at e;subst e;exact⟨_,rfl,checkForest_c hl hok⟩
 obtain⟨pargs,rfl,hc⟩:=walk;refine(law_callsG (w:=W) (vals:=[v0]) hg lo hi Ty.hb_3 hc (by simp only[RepL];exact⟨y0 _ _,trivial⟩)).mono fun e W' ⟨he,bel⟩=>?_;subst he;exact⟨_,rfl,_,_,_,[],_,[],hW',trodAll_mk1 (shut_bool Tryz.underlying4 _),(trodAll_cons_mk (Below.trod laidOut (by kernel_rfl) (of_decide_eq_true (by kernel_rfl)) k0 bel lt0) trodAll_mk0),rfl,bel.frame _,fun h=>by cases h⟩
theorem over:Rows.checkForestRow.holds Tryz.pinned (OpenSpec.ofChange Rows.checkForestSpec):=
 OpenClaim.holds_of_wide 3 Tryz.f3 rfl rfl rfl rfl rfl rfl rfl ⟨rfl,rfl,rfl,rfl,rfl⟩ rfl rfl rfl rfl rfl named Tryz.func3 closed
  inst wrap
  (fun os started H enc _=>lifted os started H enc)
/-- THE STATEMENT -/
theorem proved:Rows.CheckForestSaid:=over
#print axioms proved
end Go.Proofs.YtnldekadkjdbcaaGreat.checkForest
