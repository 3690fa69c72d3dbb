/- ProblemInit: for every input of bulk at most 1048576 the Go function stratagem/stratagemlaw10.ProblemInit returns true and leaves its arguments as they were. The condition is the statement's own. -/
import Derived.Test.YtdekkbdlcblhcaaRows
import Derived.WalkKit
import Derived.ProofKit
import Derived.OpenShut
import Derived.ShutString
import Derived.ChangeOld
import Derived.Below
import Derived.SizedLaws
import Derived.JoinedCond
import Derived.Deep.CondSized
import Derived.Test.YtdekkbdlcblhcaaZi7
set_option linter.unusedVariables false
set_option linter.unusedSimpArgs false
set_option linter.unusedSectionVars false
namespace Go.Proofs.Ytdekkbdlcblhcaa.problemInit
open Go.AM
open Go.ChangeShapes Go.WideShapes Go.ChangeAt Go.RowKit
theorem own:ownKnob Try.prog.godebug=none:=by kernel_rfl
theorem laidOut:laidOutB Try.prog=true:=by kernel_rfl
set_option maxRecDepth 100000 in
theorem lifted(os:Os)(started:os.Started)(H:Type)(enc:TypeId × Value→H)(F:Stop.Interp):
  ReturnsInHanded {} Try.checked os 3 .any ((Rows.OpenSpec.upto Rows.problemInitSpec).pre6 enc Try.prog Try.f3 Rows.problemInitUptoRow.domain false) (((Rows.OpenSpec.upto Rows.problemInitSpec).at F).post enc Try.prog Try.f3 false true false false):=by
 refine returnsInHanded_of_cond_sized (C:=Try.checked) (s:=Rows.OpenSpec.upto Rows.problemInitSpec) (k:=Rows.uptoSmall) rfl own started (by kernel_rfl) Try.func3
  (OpenSpec.witness (enc := enc) (C := Try.checked) (s := Rows.OpenSpec.upto Rows.problemInitSpec) (k := Rows.uptoSmall) rfl false ⟨#[], #[.agg #[.string ⟨#[]⟩, .string ⟨#[]⟩, .slice none 0 0, .slice none 0 0, .slice none 0 0, .string ⟨#[]⟩, .string ⟨#[]⟩, .slice none 0 0, .slice none 0 0, .slice none 0 0, .slice none 0 0]], []⟩ 8 (by kernel_rfl) (by kernel_rfl) (by kernel_rfl)
   (x:=([.agg [.lit (.string []),.lit (.string []),.nil,.nil,.nil,.agg [.lit (.string []),.lit (.string []),.nil,.nil,.nil,.nil]]],[],[])) (by kernel_rfl) rfl (by kernel_rfl)) ?_
 intro W base args ds gs before hval0 hW hcnd hk hsz0 _
 have hval: ∀ (j:Nat) t v,Try.f3.params[j]? =some t→args[j]? =some v→Value.okWide Try.prog W .any base t v:=hval0
 have hsz:(DataW.weightsEach Try.prog (Try.f3.params.toList++Rows.problemInitSpec.plain.varTypes Try.prog) (ds++gs)).all (·≤reachBytes)=true:=hsz0
 have hW':=hW
 obtain⟨p,q,hA0,hV,rfl,hfz,hnd⟩:=hW
 have hA:DataW.TrodAll enc Try.prog W 0 (fun _=>true) true Try.f3.params.toList args.toList ds p:=hA0
 rw[Try.params3]at hA hval hsz
 obtain⟨v0,vs0,d0,ds0,p0,q0,hargs,rfl,rfl,h0,r0⟩:=trodAll_cons hA
 obtain⟨rfl,rfl,rfl⟩:=trodAll_nil r0
 obtain rfl:args= #[v0]:=by cases args;simp_all
 obtain⟨rfl,rfl⟩:=trodVars_none hV
 have wle: ∀ (j:Nat)(t:TypeId)(d:DataW H),([31]++Rows.problemInitSpec.plain.varTypes Try.prog)[j]? =some t→([d0]++[])[j]? =some d→ ∀ n∈d.weights Try.prog t,n≤reachBytes:=fun j t d g1 g2 n hn=>by
  have:=List.all_eq_true.1 hsz n (DataW.weights_mem_each g1 g2 n hn)
  exact of_decide_eq_true this
 have k0:=h0
 have lt0: ∀ x∈p0,x.block<W.heap.size:=by obtain⟨m,hm⟩:=k0;exact DataW.trod_lt m _ _ _ hm
 obtain⟨c0,a0,x0,y0,b0⟩:=arg_value5 (P:=Try.prog) (w:=W) (Ts:=pbTs) (t:=31) (by kernel_rfl) (by kernel_rfl) Try.underlying31 h0 ⟨base,hval 0 31 v0 rfl rfl⟩ (wle 0 31 d0 rfl rfl)
 have hB:Rows.uptoBulkAll ([d0]++[])≤1048576:=of_decide_eq_true hk
 simp only[List.cons_append,List.nil_append,Rows.uptoBulkAll]at hB
 have z0:PV.bulkL a0≤1048576:=by omega
 clear hA0 hval0
 have walk: ∃ pargs:List PV,pargs=[.agg a0]∧PCall Try.prog 3 pargs Heap.nil (fun r _=>r= .sc (.bool true)):=by
  obtain⟨p,hp,rfl⟩:=arg_pb _ x0
  exact⟨_,rfl,problemInit_c hp (pb_small z0).i (pb_small z0).ia⟩
 obtain⟨pargs,rfl,hc⟩:=walk
 refine(law_calls (w:=W) (vals:=[v0]) Ty.hb_3 hc (by simp only[RepL];exact⟨y0 _ _,trivial⟩)).mono fun e W' ⟨he,bel⟩=>?_
 subst he
 exact⟨_,rfl,_,_,_,[],_,[],hW',trodAll_mk1 (shut_bool Try.underlying4 _),(trodAll_cons_mk (Below.trod laidOut (by kernel_rfl) (of_decide_eq_true (by kernel_rfl)) k0 bel lt0) trodAll_mk0),rfl,bel.frame _,fun h=>by cases h⟩
theorem over:Rows.problemInitUptoRow.holds Try.pinned (Rows.OpenSpec.upto Rows.problemInitSpec):=
 OpenClaim.holds_of_cond 3 Try.f3 rfl rfl rfl rfl rfl rfl rfl ⟨rfl,rfl,rfl,rfl,rfl⟩ rfl rfl rfl rfl rfl named Try.func3 closed
  inst wrap
  (fun os started H enc _ F=>lifted os started H enc F)
/-- THE STATEMENT -/
theorem proved:Rows.ProblemInitUptoSaid:=over
#print axioms proved
end Go.Proofs.Ytdekkbdlcblhcaa.problemInit
