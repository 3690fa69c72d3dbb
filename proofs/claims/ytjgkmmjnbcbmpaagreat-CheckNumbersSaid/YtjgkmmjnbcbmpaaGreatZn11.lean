/- What the claim rests on, part 11: the abstract machine, contracts of the functions, plain data. -/
import Derived.Test.YtjgkmmjnbcbmpaaGreatZn6
import Derived.Test.YtjgkmmjnbcbmpaaGreatZn7
import Derived.Test.YtjgkmmjnbcbmpaaGreatZn8
import Derived.Test.YtjgkmmjnbcbmpaaGreatZn9
import Derived.Test.YtjgkmmjnbcbmpaaGreatZn10
set_option linter.unusedVariables false
set_option linter.unusedSimpArgs false
set_option linter.unusedSectionVars false
namespace Go.Proofs.YtjgkmmjnbcbmpaaGreat
open Go.AM
set_option maxHeartbeats 2000000
set_option maxRecDepth 20000
theorem lendF{f:FuncId}{args args':List PV}{h:Heap}{u:PV}(hu: ∀ (β β':Env)(n n':Nat)(F F':Nat→Prop)(w w':World)(x:Value),Rep β n F w u x→Rep β' n' F' w' u x)(hob:h.obj 0=some (.glb 0 minI maxI)){k:Nat}(hz:frzL h 1 k args=some args')(hn:inNL 1 args')(hc:PCall Tryz.prog f args' hG fun r h'=>r=u∧h'=hG):PCall Tryz.prog f args h fun r h'=>r=u∧h'=h:=by
 have h1:(arrless h).obj 0=some (.glb 0 minI maxI):=by simp[arrless,hob]
 have c1:=taPart (h:=arrless h) h1 hn hc;refine PCall.lendV hu c1 fun β w vals sm hr=>?_;have live: ∀ id,((arrless h).obj id).isSome=true→(h.obj id).isSome=true:=fun id hs=>by
  obtain⟨o,ho⟩:=Option.isSome_iff_exists.1 hs;rw[arrless_some ho];try rfl
 have hlt:0<h.next:=sm.lt 0 (by rw[hob];try rfl)
 have r1:=FrzL.rep (n:=1) (F':=Fz β (arrless h) w) sm (fun b hb=>⟨hb.1,fun id hs=>hb.2.1 id (live id hs),hb.2.2⟩) (fun id b hid hs hb=>by
  obtain⟨o,ho⟩:=Option.isSome_iff_exists.1 hs;refine⟨(sm.ok id _ ho).blk_lt hb,fun j hj hbb=>?_,sm.nx id hs b hb⟩;have:=sm.inj id j hs (live j hj) b hb hbb;subst this;rw[arrless_blk ho (sm.ok id _ ho) hb]at hj;simp at hj) _ _ _ (frzL_ok k _ hz) hr
 exact RepL.mv ⟨hlt,fun _ _ _=>rfl,fun b hb=>⟨hb,rfl⟩,rfl⟩ _ _ r1
def clipV(n lo hi:Int):Int:=if(if hi<n then hi else n)>lo then(if hi<n then hi else n)else lo
theorem clip_c{n lo hi:Int}{h:Heap}:PCall Tryz.prog 6 [.sc (.int .i64 n),.sc (.int .i64 lo),.sc (.int .i64 hi)] h fun r h'=>r= .sc (.int .i64 (clipV n lo hi))∧h'=h:=by
 unfold clipV;by_cases h1:hi<n
 ·by_cases h2:hi>lo
  ·refine pcall_body (ow:=fun _=>false) (wf:=fun _=>false) Ty.mixed Tryz.func6 rfl Ty.hb_6 (by rw[Tryz.ntmps6];simp) ?_;rw[Tryz.ntmps6,Tryz.results6];repeat'(first|refine a_seq fun K hK=>?_|(refine a_block ?_)|((first|refine a_regionS ?_|refine a_region (fun K hK=>?_)|refine a_ret ?_);simp(maxSteps:=2000000) only[Ty.w,simprocAttr,pmin,pmax,h1,h2,if_true])|((first|refine a_skip ?_|refine a_exit ?_);try simp only[pst0,simprocAttr])|(refine a_cond _ (by(try simp(maxSteps:=2000000) only[Ty.w,simprocAttr,pmin,pmax,h1,h2,if_true]);rfl) (fun hb=>?_) (fun hb=>?_)<;>(try simp only[hb0,decide_eq_true_eq,decide_eq_false_iff_not,simprocAttr]at hb)<;>(try(exfalso;omega)))|(with_reducible refine ite_in (fun hb=>?_) (fun hb=>?_)<;>(try simp only[Decidable.not_not]at hb)<;>(try simp only[hb,if_true,if_false,not_false_eq_true,not_true_eq_false, ↓reduceIte])<;>(try simp only[hb0,decide_eq_true_eq,decide_eq_false_iff_not,simprocAttr]at hb)<;>(try(exfalso;omega)))|((first|refine hK _ _ ?_|(clear hK;refine hK _ _ ?_)|(clear hK;clear hK;refine hK _ _ ?_)|(clear hK;clear hK;clear hK;refine hK _ _ ?_));clear hK;try simp only[pst0,simprocAttr])|(rw[if_pos];rotate_left 1;omega;simp(maxSteps:=2000000) only[Ty.w,simprocAttr,pmin,pmax,h1,h2,if_true]))
  ·refine pcall_body (ow:=fun _=>false) (wf:=fun _=>false) Ty.mixed Tryz.func6 rfl Ty.hb_6 (by rw[Tryz.ntmps6];simp) ?_;rw[Tryz.ntmps6,Tryz.results6];repeat'(first|refine a_seq fun K hK=>?_|(refine a_block ?_)|((first|refine a_regionS ?_|refine a_region (fun K hK=>?_)|refine a_ret ?_);simp(maxSteps:=2000000) only[Ty.w,simprocAttr,pmin,pmax,h1,h2,if_true,if_false])|((first|refine a_skip ?_|refine a_exit ?_);try simp only[pst0,simprocAttr])|(refine a_cond _ (by(try simp(maxSteps:=2000000) only[Ty.w,simprocAttr,pmin,pmax,h1,h2,if_true,if_false]);rfl) (fun hb=>?_) (fun hb=>?_)<;>(try simp only[hb0,decide_eq_true_eq,decide_eq_false_iff_not,simprocAttr]at hb)<;>(try(exfalso;omega)))|(with_reducible refine ite_in (fun hb=>?_) (fun hb=>?_)<;>(try simp only[Decidable.not_not]at hb)<;>(try simp only[hb,if_true,if_false,not_false_eq_true,not_true_eq_false, ↓reduceIte])<;>(try simp only[hb0,decide_eq_true_eq,decide_eq_false_iff_not,simprocAttr]at hb)<;>(try(exfalso;omega)))|((first|refine hK _ _ ?_|(clear hK;refine hK _ _ ?_)|(clear hK;clear hK;refine hK _ _ ?_)|(clear hK;clear hK;clear hK;refine hK _ _ ?_));clear hK;try simp only[pst0,simprocAttr])|(rw[if_pos];rotate_left 1;omega;simp(maxSteps:=2000000) only[Ty.w,simprocAttr,pmin,pmax,h1,h2,if_true,if_false]))
 ·by_cases h2:n>lo
  ·refine pcall_body (ow:=fun _=>false) (wf:=fun _=>false) Ty.mixed Tryz.func6 rfl Ty.hb_6 (by rw[Tryz.ntmps6];simp) ?_;rw[Tryz.ntmps6,Tryz.results6];repeat'(first|refine a_seq fun K hK=>?_|(refine a_block ?_)|((first|refine a_regionS ?_|refine a_region (fun K hK=>?_)|refine a_ret ?_);simp(maxSteps:=2000000) only[Ty.w,simprocAttr,pmin,pmax,h1,h2,if_true,if_false])|((first|refine a_skip ?_|refine a_exit ?_);try simp only[pst0,simprocAttr])|(refine a_cond _ (by(try simp(maxSteps:=2000000) only[Ty.w,simprocAttr,pmin,pmax,h1,h2,if_true,if_false]);rfl) (fun hb=>?_) (fun hb=>?_)<;>(try simp only[hb0,decide_eq_true_eq,decide_eq_false_iff_not,simprocAttr]at hb)<;>(try(exfalso;omega)))|(with_reducible refine ite_in (fun hb=>?_) (fun hb=>?_)<;>(try simp only[Decidable.not_not]at hb)<;>(try simp only[hb,if_true,if_false,not_false_eq_true,not_true_eq_false, ↓reduceIte])<;>(try simp only[hb0,decide_eq_true_eq,decide_eq_false_iff_not,simprocAttr]at hb)<;>(try(exfalso;omega)))|((first|refine hK _ _ ?_|(clear hK;refine hK _ _ ?_)|(clear hK;clear hK;refine hK _ _ ?_)|(clear hK;clear hK;clear hK;refine hK _ _ ?_));clear hK;try simp only[pst0,simprocAttr])|(rw[if_pos];rotate_left 1;omega;simp(maxSteps:=2000000) only[Ty.w,simprocAttr,pmin,pmax,h1,h2,if_true,if_false]))
  ·refine pcall_body (ow:=fun _=>false) (wf:=fun _=>false) Ty.mixed Tryz.func6 rfl Ty.hb_6 (by rw[Tryz.ntmps6];simp) ?_;rw[Tryz.ntmps6,Tryz.results6];repeat'(first|refine a_seq fun K hK=>?_|(refine a_block ?_)|((first|refine a_regionS ?_|refine a_region (fun K hK=>?_)|refine a_ret ?_);simp(maxSteps:=2000000) only[Ty.w,simprocAttr,pmin,pmax,h1,h2,if_true,if_false])|((first|refine a_skip ?_|refine a_exit ?_);try simp only[pst0,simprocAttr])|(refine a_cond _ (by(try simp(maxSteps:=2000000) only[Ty.w,simprocAttr,pmin,pmax,h1,h2,if_true,if_false]);rfl) (fun hb=>?_) (fun hb=>?_)<;>(try simp only[hb0,decide_eq_true_eq,decide_eq_false_iff_not,simprocAttr]at hb)<;>(try(exfalso;omega)))|(with_reducible refine ite_in (fun hb=>?_) (fun hb=>?_)<;>(try simp only[Decidable.not_not]at hb)<;>(try simp only[hb,if_true,if_false,not_false_eq_true,not_true_eq_false, ↓reduceIte])<;>(try simp only[hb0,decide_eq_true_eq,decide_eq_false_iff_not,simprocAttr]at hb)<;>(try(exfalso;omega)))|((first|refine hK _ _ ?_|(clear hK;refine hK _ _ ?_)|(clear hK;clear hK;refine hK _ _ ?_)|(clear hK;clear hK;clear hK;refine hK _ _ ?_));clear hK;try simp only[pst0,simprocAttr])|(rw[if_pos];rotate_left 1;omega;simp(maxSteps:=2000000) only[Ty.w,simprocAttr,pmin,pmax,h1,h2,if_true,if_false]))
theorem clipV_mono{L n H lo hi:Int}(h1:L≤n)(h2:n≤H):clipV L lo hi≤clipV n lo hi∧clipV n lo hi≤clipV H lo hi:=by
 unfold clipV;constructor<;>(repeat' split)<;>omega
def clipP(L H lo hi:Int):PV:=if clipV L lo hi=clipV H lo hi then .sc (.int .i64 (clipV L lo hi))else .ab .i64 (clipV L lo hi) (clipV H lo hi) 1 0
theorem clip_ab{L H lo hi:Int}{h:Heap}:PCall Tryz.prog 6 [.ab .i64 L H 1 0,.sc (.int .i64 lo),.sc (.int .i64 hi)] h fun r h'=>r=clipP L H lo hi∧h'=h:=by
 intro β w vals sm hr
 match vals,hr.len,hr with
 |[a,b,c],_,hr=>
  simp only[RepL,Rep,and_true]at hr;obtain⟨⟨i,i1,i2,_,rfl⟩,rfl,rfl⟩:=hr;refine(clip_c (n:=i) (lo:=lo) (hi:=hi) β w _ sm (by simp only[RepL,Rep,and_self])).mono ?_;rintro e w' ⟨r,h',β',v,rfl,⟨rfl,rfl⟩,sm',hx,ex⟩;refine⟨_,h',β',v,rfl,⟨rfl,rfl⟩,sm',?_,ex⟩;simp only[RepH,Rep]at hx;subst hx;obtain⟨m1,m2⟩:=clipV_mono (lo:=lo) (hi:=hi) i1 i2;unfold clipP;split
  ·rename_i he;simp only[RepH,Rep];rw[show clipV i lo hi=clipV L lo hi by omega]
  ·simp only[RepH,Rep];exact⟨_,m1,m2,Int.tmod_one _,rfl⟩
noncomputable def nbTab:List (List PV × PV):=[([dCost (.sc (.int .i64 0)),smp 1],okR),([dCost (.sc (.int .i64 1)),smp 1],okR),([dCost (.ab .i64 2 1048576 1 0),smp 1],okR),([dCost (.ab .i64 1048577 1099511627776 1 0),smp 1],costR),([dLoHi (.sc (.int .i64 (-1000))) (.sc (.int .i64 (-1000))),smp 1],bouR),([dLoHi (.sc (.int .i64 (-1000))) (.ab .i64 (-1000) (-937) 1 0),smp 1],bouR),([dLoHi (.sc (.int .i64 (-1000))) (.ab .i64 (-936) (1000) 1 0),smp 1],larR),([dLoHi (.sc (.int .i64 (-1000))) (.sc (.int .i64 1000)),smp 1],larR),([dLoHi (.sc (.int .i64 1000)) (.sc (.int .i64 (-1000))),smp 1],ordR),([dLoHi (.sc (.int .i64 1000)) (.ab .i64 (-1000) (999) 1 0),smp 1],ordR),([dLoHi (.sc (.int .i64 1000)) (.sc (.int .i64 1000)),smp 1],bouR),([dLoHi (.ab .i64 (-999) (1000) 1 0) (.sc (.int .i64 (-1000))),smp 1],ordR),([dLoHi (.ab .i64 (-1000) (936) 1 0) (.sc (.int .i64 1000)),smp 1],larR),([dLoHi (.ab .i64 (937) (1000) 1 0) (.sc (.int .i64 1000)),smp 1],bouR),([dLoHi (.lin (0) (0) (-1000) (1000)) (.lin (-2000) (-1) (-1000) (1000)),smp 1],ordR),([dLoHi (.lin (0) (0) (-1000) (1000)) (.lin (64) (2000) (-1000) (1000)),smp 1],larR),([dLoHi (.lin (0) (0) (4) (1000)) (.lin (0) (63) (4) (1000)),smp 1],bouR),([dLoHi (.lin (0) (0) (-1000) (3)) (.lin (0) (63) (-1000) (2)),smp 1],bouR),([dLoHi (.lin (0) (0) (-1000) (3)) (.lin (0) (63) (3) (1000)),smp 1],okR),([dDur (.ab .i64 (-10) 0 1 0),tmd 1],durR),([dDur (.sc (.int .i64 1)),tmd 1],okR),([dDur (.ab .i64 2 62 1 0),tmd 1],okR),([dDur (.ab .i64 63 1000 1 0),tmd 1],durR)]
def clsd(u:PV):Prop:= ∀ (β β':Env)(n n':Nat)(F F':Nat→Prop)(w w':World)(x:Value),Rep β n F w u x→Rep β' n' F' w' u x
theorem clsd_tup(a b:Value):clsd (.tup [.sc a,.sc b]):=fun _ _ _ _ _ _ _ _ x hx=>by
 simp only[Rep]at hx⊢;obtain⟨xs,e,h⟩:=hx;exact⟨xs,e,by match xs,h with
  |[p,q],h=>simpa only[RepL,Rep]using h⟩
theorem nbTab_ok: ∀ e∈nbTab,clsd e.2∧PCall Tryz.prog 13 e.1 hG fun r h'=>r=e.2∧h'=hG:=by
 unfold nbTab;simp only[List.forall_mem_cons];exact⟨⟨clsd_tup _ _,kc0⟩,⟨clsd_tup _ _,kc1⟩,⟨clsd_tup _ _,kc2⟩,⟨clsd_tup _ _,kc3⟩,⟨clsd_tup _ _,kl0⟩,⟨clsd_tup _ _,kl1⟩,⟨clsd_tup _ _,kl2⟩,⟨clsd_tup _ _,kl3⟩,⟨clsd_tup _ _,kl4⟩,⟨clsd_tup _ _,kl5⟩,⟨clsd_tup _ _,kl6⟩,⟨clsd_tup _ _,kl9⟩,⟨clsd_tup _ _,kl10⟩,⟨clsd_tup _ _,kl11⟩,⟨clsd_tup _ _,kl12⟩,⟨clsd_tup _ _,kl13⟩,⟨clsd_tup _ _,kl14⟩,⟨clsd_tup _ _,kl15⟩,⟨clsd_tup _ _,kl16⟩,⟨clsd_tup _ _,kd0⟩,⟨clsd_tup _ _,kd1⟩,⟨clsd_tup _ _,kd2⟩,⟨clsd_tup _ _,kd3⟩,fun _ h=>absurd h (List.not_mem_nil)⟩
noncomputable def nbExt (f:FuncId)(args:List PV)(h:Heap):Option PV:=match ubExt f args h with
 |some r=>some r
 |none=>if f=6 then(match args with
   |[.ab .i64 L H 1 0,.sc (.int .i64 lo),.sc (.int .i64 hi)]=>some (clipP L H lo hi)
   |_=>none)
  else match h.obj 0 with
   | some (.glb 0 lo hi) => if lo = minI ∧ hi = maxI then (if f = 5 then (if args.isEmpty = true then some (.sc (.bool true)) else none)
     else if f=13 then(match frzL h 1 300 args with
      |some a=>if inNLb 1 a=true then(match nbTab.find? fun e=>pvEq (.tup a) (.tup e.1)with
       |some e=>some e.2
       |none=>none)else none
      |none=>none)else none)else none
   |_=>none
theorem nbExt_ok:ExtOk2 Tryz.prog nbExt:=by
 intro f args r h hx;unfold nbExt at hx;split at hx
 ·rename_i r' hr;simp only[Option.some.injEq]at hx;subst hx;exact ubExt_ok _ _ _ _ hr
 split at hx
 ·rename_i hf;split at hx
  ·simp only[Option.some.injEq]at hx;subst hx;subst hf;exact clip_ab
  ·simp at hx
 split at hx
 ·rename_i hob;split at hx
  ·rename_i hc;obtain⟨rfl,rfl⟩:=hc;split at hx
   ·rename_i hf;split at hx
    ·rename_i ha;have ha:=List.isEmpty_iff.1 ha;subst ha;simp only[Option.some.injEq]at hx;subst hx;subst hf;exact tawake_c hob
    ·simp at hx
   split at hx
   ·rename_i hf;split at hx
    ·rename_i a hz;split at hx
     ·rename_i hn;split at hx
      ·rename_i e he;simp only[Option.some.injEq]at hx;subst hx;subst hf;have h1:=pvEq_eq _ _ (List.find?_some (p:=fun(e:List PV × PV)=>pvEq (.tup a) (.tup e.1)) he);simp only[PV.tup.injEq]at h1;subst h1;obtain⟨g1,g2⟩:=nbTab_ok e (List.mem_of_find?_eq_some he);exact lendF g1 hob hz (inNLb_ok _ hn) g2
      ·simp at hx
     ·simp at hx
    ·simp at hx
   ·simp at hx
  ·simp at hx
 ·simp at hx
def nbOwn(f t:Nat):Bool:=taOwn f t||([(7,46),(7,24),(10,22)]:List (Nat × Nat)).contains (f,t)
def nbWf(f:Nat):Bool:=taWf f||f==7||f==10
def nbKeep(f:Nat):Bool:=taKeep f||f==7||f==10
end Go.Proofs.YtjgkmmjnbcbmpaaGreat
