/- CheckNumbers: for every input the Go function stratagem/stratagemlaw11.CheckNumbers returns true and leaves its arguments as they were. No conditions beyond those of the statement. -/
import Derived.Test.YtjgkmmjnbcbmpaaGreatRows
import Derived.WalkKit
import Derived.ProofKit
import Derived.OpenShut
import Derived.ShutString
import Derived.ChangeOld
import Derived.Below
import Derived.SizedLaws
import Derived.HandedShaped
import Derived.Test.YtjgkmmjnbcbmpaaGreatZn29
import Derived.Test.YtjgkmmjnbcbmpaaGreatZn30
set_option linter.unusedVariables false
set_option linter.unusedSimpArgs false
set_option linter.unusedSectionVars false
namespace Go.Proofs.YtjgkmmjnbcbmpaaGreat.checkNumbers
open Go.AM
open Go.ChangeShapes Go.WideShapes Go.ChangeAt Go.RowKit
theorem own:ownKnob Tryz.prog.godebug=none:=by kernel_rfl
theorem laidOut:laidOutB Tryz.prog=true:=by kernel_rfl
set_option maxRecDepth 100000 in
theorem lifted(os:Os)(started:os.Started)(H:Type)(enc:TypeId × Value→H):
  ReturnsInHanded {} Tryz.checked os 3 .any (Rows.checkNumbersSpec.pre6 enc Tryz.prog Tryz.f3 Rows.checkNumbersRow.domain false) (Rows.checkNumbersSpec.post enc Tryz.prog Tryz.f3 false true false false):=by
 refine returnsInHanded_of_change_shaped (C:=Tryz.checked) own started (by kernel_rfl) Tryz.func3
  (ChangeSpec.witness6 (enc:=enc) (C:=Tryz.checked) false ⟨#[], #[.int .i64 0,.int .i64 0,.agg #[.int .i64 0,.int .i64 0]],[]⟩ 8 (by kernel_rfl) (by kernel_rfl) (by kernel_rfl) (by kernel_rfl)) ?_
 intro W base args ds gs before hval0 hW hcnd hsz0 hsh0 _;have hsh:W.ShapedOpen Tryz.prog:=hsh0;obtain⟨i,hg,lo,hi⟩:=glb_of_shape (P:=Tryz.prog) (g:=0) (t:=3) (zero:= #[.int .i64 0]) hsh (of_decide_eq_true (by kernel_rfl)) (by kernel_rfl) rfl (by kernel_rfl) (by kernel_rfl) Tryz.underlying3;have hval: ∀ (j:Nat) t v,Tryz.f3.params[j]? =some t→args[j]? =some v→Value.okWide Tryz.prog W .any base t v:=hval0;have hsz:(DataW.weightsEach Tryz.prog (Tryz.f3.params.toList++Rows.checkNumbersSpec.plain.varTypes Tryz.prog) (ds++gs)).all (·≤reachBytes)=true:=hsz0;have hW':=hW;obtain⟨p,q,hA0,hV,rfl,hfz,hnd⟩:=hW;have hA:DataW.TrodAll enc Tryz.prog W 0 (fun _=>true) true Tryz.f3.params.toList args.toList ds p:=hA0;rw[Tryz.params3]at hA hval hsz;obtain⟨v0,vs0,d0,ds0,p0,q0,hargs,rfl,rfl,h0,r0⟩:=trodAll_cons hA;obtain⟨v1,vs1,d1,ds1,p1,q1,rfl,rfl,rfl,h1,r1⟩:=trodAll_cons r0;obtain⟨v2,vs2,d2,ds2,p2,q2,rfl,rfl,rfl,h2,r2⟩:=trodAll_cons r1;obtain⟨rfl,rfl,rfl⟩:=trodAll_nil r2;obtain rfl:args= #[v0,v1,v2]:=by cases args;simp_all
 obtain⟨rfl,rfl⟩:=trodVars_none hV;have wle: ∀ (j:Nat)(t:TypeId)(d:DataW H),([3,3,22]++Rows.checkNumbersSpec.plain.varTypes Tryz.prog)[j]? =some t→([d0,d1,d2]++[])[j]? =some d→ ∀ n∈d.weights Tryz.prog t,n≤reachBytes:=fun j t d g1 g2 n hn=>by
  have:=List.all_eq_true.1 hsz n (DataW.weights_mem_each g1 g2 n hn);exact of_decide_eq_true this
 have k0:=h0;have lt0: ∀ x∈p0,x.block<W.heap.size:=by obtain⟨m,hm⟩:=k0;exact DataW.trod_lt m _ _ _ hm
 have k1:=h1;have lt1: ∀ x∈p1,x.block<W.heap.size:=by obtain⟨m,hm⟩:=k1;exact DataW.trod_lt m _ _ _ hm
 have k2:=h2;have lt2: ∀ x∈p2,x.block<W.heap.size:=by obtain⟨m,hm⟩:=k2;exact DataW.trod_lt m _ _ _ hm
 obtain⟨x,bx1,bx2,ex⟩:=int_arg Tryz.underlying3 (hval 0 3 v0 rfl rfl);obtain⟨y,by1,by2,ey⟩:=int_arg Tryz.underlying3 (hval 1 3 v1 rfl rfl);obtain⟨a2,x2,y2⟩:=arg_value (P:=Tryz.prog) (w:=W) (c:=8) (t:=22) (by kernel_rfl) h2 ⟨base,hval 2 22 v2 rfl rfl⟩ (wle 2 22 d2 rfl rfl);obtain⟨c,d,bc,bd,rfl⟩:=arr2 x2;have e2:=agg2 (n:=c) (m:=d) (v:=v2) fun β k=>⟨_,_,y2 β k⟩;clear hA0 hval0;obtain⟨pargs,hc,hs⟩:=numbers_all bx1 bx2 by1 by2 bc.1 bc.2 bd.1 bd.2;refine(law_callsG (T:=x) (w:=W) (vals:=[v0,v1,v2]) hg lo hi Ty.hb_3 hc (by rw[ex,ey,e2];exact hs _ _)).mono fun e W' ⟨he,bel⟩=>?_;subst he;exact⟨_,rfl,_,_,_,[],_,[],hW',trodAll_mk1 (shut_bool Tryz.underlying4 _),(trodAll_cons_mk (Below.trod laidOut (by kernel_rfl) (of_decide_eq_true (by kernel_rfl)) k0 bel lt0) (trodAll_cons_mk (Below.trod laidOut (by kernel_rfl) (of_decide_eq_true (by kernel_rfl)) k1 bel lt1) (trodAll_cons_mk (Below.trod laidOut (by kernel_rfl) (of_decide_eq_true (by kernel_rfl)) k2 bel lt2) trodAll_mk0))),rfl,bel.frame _,fun h=>by cases h⟩
theorem over:Rows.checkNumbersRow.holds Tryz.pinned (OpenSpec.ofChange Rows.checkNumbersSpec):=
 OpenClaim.holds_of_wide 3 Tryz.f3 rfl rfl rfl rfl rfl rfl rfl ⟨rfl,rfl,rfl,rfl,rfl⟩ rfl rfl rfl rfl rfl named Tryz.func3 closed
  inst wrap
  (fun os started H enc _=>lifted os started H enc)
/-- THE STATEMENT -/
theorem proved:Rows.CheckNumbersSaid:=over
#print axioms proved
end Go.Proofs.YtjgkmmjnbcbmpaaGreat.checkNumbers
