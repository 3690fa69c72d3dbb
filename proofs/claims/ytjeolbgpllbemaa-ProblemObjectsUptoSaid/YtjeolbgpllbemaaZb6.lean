/- ProblemObjects: for every input of bulk at most 1048576 the Go function stratagem/stratagemlaw10.ProblemObjects returns true and leaves its arguments as they were. The condition is the statement's own. -/
import Derived.Test.YtjeolbgpllbemaaRows
import Derived.WalkKit
import Derived.ProofKit
import Derived.OpenShut
import Derived.ShutString
import Derived.ChangeOld
import Derived.Below
import Derived.SizedLaws
import Derived.JoinedCond
import Derived.Deep.CondSized
import Derived.Test.YtjeolbgpllbemaaZb5
set_option linter.unusedVariables false
set_option linter.unusedSimpArgs false
set_option linter.unusedSectionVars false
namespace Go.Proofs.Ytjeolbgpllbemaa.problemObjects
open Go.AM
open Go.ChangeShapes Go.WideShapes Go.ChangeAt Go.RowKit
theorem own:ownKnob Try.prog.godebug=none:=by kernel_rfl
theorem laidOut:laidOutB Try.prog=true:=by kernel_rfl
set_option maxRecDepth 100000 in
theorem lifted(os:Os)(started:os.Started)(H:Type)(enc:TypeId × Value→H)(F:Stop.Interp):
  ReturnsInHanded {} Try.checked os 5 .any ((Rows.OpenSpec.upto Rows.problemObjectsSpec).pre6 enc Try.prog Try.f5 Rows.problemObjectsUptoRow.domain false) (((Rows.OpenSpec.upto Rows.problemObjectsSpec).at F).post enc Try.prog Try.f5 false true false false):=by
 refine returnsInHanded_of_cond_sized (C:=Try.checked) (s:=Rows.OpenSpec.upto Rows.problemObjectsSpec) (k:=Rows.uptoSmall) rfl own started (by kernel_rfl) Try.func5
  (OpenSpec.witness (enc := enc) (C := Try.checked) (s := Rows.OpenSpec.upto Rows.problemObjectsSpec) (k := Rows.uptoSmall) rfl false ⟨#[], #[.agg #[.string ⟨#[]⟩, .slice none 0 0, .slice none 0 0, .slice none 0 0, .slice none 0 0, .slice none 0 0, .slice none 0 0], .agg #[.string ⟨#[]⟩, .string ⟨#[]⟩, .slice none 0 0, .slice none 0 0, .slice none 0 0, .string ⟨#[]⟩, .string ⟨#[]⟩, .slice none 0 0, .slice none 0 0, .slice none 0 0, .slice none 0 0]], []⟩ 8 (by kernel_rfl) (by kernel_rfl) (by kernel_rfl)
   (x:=([.agg [.lit (.string []),.nil,.nil,.nil,.nil,.nil,.nil],.agg [.lit (.string []),.lit (.string []),.nil,.nil,.nil,.agg [.lit (.string []),.lit (.string []),.nil,.nil,.nil,.nil]]],[],[])) (by kernel_rfl) rfl (by kernel_rfl)) ?_
 intro W base args ds gs before hval0 hW hcnd hk hsz0 _
 have hval: ∀ (j:Nat) t v,Try.f5.params[j]? =some t→args[j]? =some v→Value.okWide Try.prog W .any base t v:=hval0
 have hsz:(DataW.weightsEach Try.prog (Try.f5.params.toList++Rows.problemObjectsSpec.plain.varTypes Try.prog) (ds++gs)).all (·≤reachBytes)=true:=hsz0
 have hW':=hW
 obtain⟨p,q,hA0,hV,rfl,hfz,hnd⟩:=hW
 have hA:DataW.TrodAll enc Try.prog W 0 (fun _=>true) true Try.f5.params.toList args.toList ds p:=hA0
 rw[Try.params5]at hA hval hsz
 obtain⟨v0,vs0,d0,ds0,p0,q0,hargs,rfl,rfl,h0,r0⟩:=trodAll_cons hA
 obtain⟨v1,vs1,d1,ds1,p1,q1,rfl,rfl,rfl,h1,r1⟩:=trodAll_cons r0
 obtain⟨rfl,rfl,rfl⟩:=trodAll_nil r1
 obtain rfl:args= #[v0,v1]:=by cases args;simp_all
 obtain⟨rfl,rfl⟩:=trodVars_none hV
 have wle: ∀ (j:Nat)(t:TypeId)(d:DataW H),([55,31]++Rows.problemObjectsSpec.plain.varTypes Try.prog)[j]? =some t→([d0,d1]++[])[j]? =some d→ ∀ n∈d.weights Try.prog t,n≤reachBytes:=fun j t d g1 g2 n hn=>by
  have:=List.all_eq_true.1 hsz n (DataW.weights_mem_each g1 g2 n hn)
  exact of_decide_eq_true this
 have k0:=h0
 have lt0: ∀ x∈p0,x.block<W.heap.size:=by obtain⟨m,hm⟩:=k0;exact DataW.trod_lt m _ _ _ hm
 obtain⟨c0,a0,x0,y0,b0⟩:=arg_value5 (P:=Try.prog) (w:=W) (Ts:=dmTs) (t:=55) (by kernel_rfl) (by kernel_rfl) Try.underlying55 h0 ⟨base,hval 0 55 v0 rfl rfl⟩ (wle 0 55 d0 rfl rfl)
 have k1:=h1
 have lt1: ∀ x∈p1,x.block<W.heap.size:=by obtain⟨m,hm⟩:=k1;exact DataW.trod_lt m _ _ _ hm
 obtain⟨c1,a1,x1,y1,b1⟩:=arg_value5 (P:=Try.prog) (w:=W) (Ts:=pbTs) (t:=31) (by kernel_rfl) (by kernel_rfl) Try.underlying31 h1 ⟨base,hval 1 31 v1 rfl rfl⟩ (wle 1 31 d1 rfl rfl)
 have hB:Rows.uptoBulkAll ([d0,d1]++[])≤1048576:=of_decide_eq_true hk
 simp only[List.cons_append,List.nil_append,Rows.uptoBulkAll]at hB
 have z0:PV.bulkL a0≤1048576:=by omega
 have z1:PV.bulkL a1≤1048576:=by omega
 clear hA0 hval0
 have walk: ∃ pargs:List PV,pargs=[.agg a0,.agg a1]∧PCall Try.prog 5 pargs Heap.nil (fun r _=>r= .sc (.bool true)):=by
  obtain⟨d,hd,rfl⟩:=arg_dm _ x0
  obtain⟨p,hp,rfl⟩:=arg_pb _ x1
  exact⟨_,rfl,problemObjects_c (dm_small z0) hp (pb_small z1).o⟩
 obtain⟨pargs,rfl,hc⟩:=walk
 refine(law_calls (w:=W) (vals:=[v0,v1]) Ty.hb_5 hc (by simp only[RepL];exact⟨y0 _ _,y1 _ _,trivial⟩)).mono fun e W' ⟨he,bel⟩=>?_
 subst he
 exact⟨_,rfl,_,_,_,[],_,[],hW',trodAll_mk1 (shut_bool Try.underlying4 _),(trodAll_cons_mk (Below.trod laidOut (by kernel_rfl) (of_decide_eq_true (by kernel_rfl)) k0 bel lt0) (trodAll_cons_mk (Below.trod laidOut (by kernel_rfl) (of_decide_eq_true (by kernel_rfl)) k1 bel lt1) trodAll_mk0)),rfl,bel.frame _,fun h=>by cases h⟩
theorem over:Rows.problemObjectsUptoRow.holds Try.pinned (Rows.OpenSpec.upto Rows.problemObjectsSpec):=
 OpenClaim.holds_of_cond 5 Try.f5 rfl rfl rfl rfl rfl rfl rfl ⟨rfl,rfl,rfl,rfl,rfl⟩ rfl rfl rfl rfl rfl named Try.func5 closed
  inst wrap
  (fun os started H enc _ F=>lifted os started H enc F)
/-- THE STATEMENT -/
theorem proved:Rows.ProblemObjectsUptoSaid:=over
#print axioms proved
end Go.Proofs.Ytjeolbgpllbemaa.problemObjects
