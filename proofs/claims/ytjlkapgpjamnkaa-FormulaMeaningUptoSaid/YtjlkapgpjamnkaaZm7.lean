/- What the claim rests on, part 7: the abstract machine, contracts of the functions, plain data. -/
import Derived.Test.YtjlkapgpjamnkaaZm6
set_option linter.unusedVariables false
set_option linter.unusedSimpArgs false
set_option linter.unusedSectionVars false
namespace Go.Proofs.Ytjlkapgpjamnkaa
open Go.AM
set_option maxRecDepth 20000
theorem strR_nil:PV.bulkR (strRows [])=0:=by simp[strRows,PV.bulkR]
theorem pmR_nil:PV.bulkR (pmRows [])=0:=by simp[pmRows,PV.bulkR]
theorem exR_nil:PV.bulkR (Ex.rows [])=0:=by simp[Ex.rows,PV.bulkR]
theorem fmR_nil:PV.bulkR (Fm.rows [])=0:=by simp[Fm.rows,PV.bulkR]
theorem bulk_mk(op name:ByteArray)(args:List ByteArray)(params:List Pm)(exprs:List Ex)(kids:List Fm):PV.bulkL (Fm.mk op name args params exprs kids).cells=op.size+name.size+PV.bulkR (strRows args)+PV.bulkR (pmRows params)+PV.bulkR (Ex.rows exprs)+PV.bulkR (Fm.rows kids)+6:=by
 simp only[Fm.cells,PV.bulkL,PV.bulk];omega
theorem bulk_kids(n:Fm):PV.bulkR (Fm.rows (fkids n))≤PV.bulkL n.cells:=by
 obtain⟨op,name,args,params,exprs,kids⟩:=n
 rw[bulk_mk];simp only[fkids];omega
theorem bulkF_app: ∀ l m:List Fm,PV.bulkR (Fm.rows (l++m))=PV.bulkR (Fm.rows l)+PV.bulkR (Fm.rows m)
 |[],m=>by simp[Fm.rows,PV.bulkR]
 |k::l,m=>by simp only[List.cons_append,Fm.rows,PV.bulkR,bulkF_app l m];omega
theorem bulk_flat(o:ByteArray): ∀ l:List Fm,PV.bulkR (Fm.rows (flatM o l))≤PV.bulkR (Fm.rows l)
 |[]=>by simp[flatM]
 |k::l=>by
  have h1:=bulk_flat o l
  have h2:=bulk_kids k
  have h3:flatM o (k::l)=(if bEq (opOf k) o=true then fkids k else[k])++flatM o l:=by simp only[flatM,List.flatMap_cons]
  rw[h3,bulkF_app]
  simp only[Fm.rows,PV.bulkR]
  split
  ·omega
  ·simp only[Fm.rows,PV.bulkR];omega
theorem bulk_norms(s:Bool): ∀ l:List Fm,(∀ k∈l,PV.bulkL (normalM k s).cells≤4*PV.bulkL k.cells)→PV.bulkR (Fm.rows (normalMs l s))≤4*PV.bulkR (Fm.rows l)
 |[],_=>by simp[normalMs,Fm.rows,PV.bulkR]
 |k::l,h=>by
  have h1:=h k (by simp)
  have h2:=bulk_norms s l fun x hx=>h x (by simp[hx])
  simp only[normalMs,Fm.rows,PV.bulkR];omega
theorem ops_sz(a b:ByteArray)(s:Bool)(ha:a.size≤6)(hb:b.size≤6):(dualM a b s).size≤6:=by
 unfold dualM;split<;>assumption
theorem normalM_bulk: ∀ f,shapedF f=true→ ∀ s,PV.bulkL (normalM f s).cells≤4*PV.bulkL f.cells:=by
 have z0:(⟨#[]⟩:ByteArray).size=0:=rfl
 have sN:opNot.size=3:=rfl
 have sO:opOr.size=2:=rfl
 have sL:opLt.size=1:=rfl
 have sE:opLe.size=2:=rfl
 have sQ:opEq.size=1:=rfl
 have sA:opAnd.size=3:=rfl
 have sI:opImp.size=5:=rfl
 have sF:opAll.size=6:=rfl
 have sX:opSome.size=6:=rfl
 have sT:opAtom.size=4:=rfl
 have sS:opSame.size=4:=rfl
 refine sf_ind ?_ ?_ ?_ ?_ ?_ ?_ ?_
 ·intro name args _ _ s
  simp only[normalM,nt_atom]
  split
  ·omega
  ·rw [bulk_mk,bulk_mk];simp only[strR_nil,pmR_nil,exR_nil,fmR_nil,Fm.rows,PV.bulkR,bulk_mk];omega
 ·intro args _ _ s
  simp only[normalM,nt_same]
  split
  ·omega
  ·rw [bulk_mk,bulk_mk];simp only[strR_nil,pmR_nil,exR_nil,fmR_nil,Fm.rows,PV.bulkR,bulk_mk];omega
 ·intro op a b ho _ _ s
  rcases ho with rfl|rfl|rfl
  ·simp only[normalM,nt_lt,cmpN]
   split<;>(simp only[cmpM,bulk_mk,strR_nil,pmR_nil,exR_nil,fmR_nil,Ex.rows,PV.bulkR];omega)
  ·simp only[normalM,nt_le,cmpN]
   split<;>(simp only[cmpM,bulk_mk,strR_nil,pmR_nil,exR_nil,fmR_nil,Ex.rows,PV.bulkR];omega)
  ·simp only[normalM,nt_eq,eqN]
   split<;>(simp only[cmpM,bulk_mk,strR_nil,pmR_nil,exR_nil,fmR_nil,Ex.rows,Fm.rows,PV.bulkR];omega)
 ·intro op kids ho _ ih s
  have h1:=bulk_norms s kids fun k hk=>ih k hk s
  have h2:=bulk_flat (dualM opAnd opOr s) (normalMs kids s)
  have h3:=bulk_flat (dualM opOr opAnd s) (normalMs kids s)
  have h4:=ops_sz opAnd opOr s (by omega) (by omega)
  have h5:=ops_sz opOr opAnd s (by omega) (by omega)
  rcases ho with rfl|rfl
  ·simp only[normalM,nt_and,combM,bulk_mk,strR_nil,pmR_nil,exR_nil];omega
  ·simp only[normalM,nt_or,combM,bulk_mk,strR_nil,pmR_nil,exR_nil];omega
 ·intro k _ ih s
  have:=ih (!s)
  simp only[normalM,nt_not,normalMs,List.headD_cons,bulk_mk,strR_nil,pmR_nil,exR_nil,Fm.rows,PV.bulkR];omega
 ·intro a b _ _ ia ib s
  have h1:=ia (!s)
  have h2:=ib s
  have h3:=bulk_flat (dualM opOr opAnd s) [normalM a (!s),normalM b s]
  have h5:=ops_sz opOr opAnd s (by omega) (by omega)
  simp only[Fm.rows,PV.bulkR]at h3
  simp only[normalM,nt_imp,normalMs,List.headD_cons,List.drop_succ_cons,List.drop_zero,combM,bulk_mk,strR_nil,pmR_nil,exR_nil,Fm.rows,PV.bulkR];omega
 ·intro op params k ho _ _ ih s
  have h1:=ih s
  have h4:=ops_sz opAll opSome s (by omega) (by omega)
  have h5:=ops_sz opSome opAll s (by omega) (by omega)
  rcases ho with rfl|rfl
  ·simp only[normalM,nt_all,normalMs,List.headD_cons,bulk_mk,strR_nil,pmR_nil,exR_nil,Fm.rows,PV.bulkR];omega
  ·simp only[normalM,nt_some,normalMs,List.headD_cons,bulk_mk,strR_nil,pmR_nil,exR_nil,Fm.rows,PV.bulkR];omega
theorem ok_kids{n:Fm}(h:n.ok): ∀ k∈fkids n,k.ok:=by
 obtain⟨op,name,args,params,exprs,kids⟩:=n
 simp only[Fm.ok]at h
 exact Fm.oks_iff.1 h.2.2.2.2.2.2
theorem small_kids{n:Fm}(h:n.small): ∀ k∈fkids n,k.small:=by
 obtain⟨op,name,args,params,exprs,kids⟩:=n
 simp only[Fm.small]at h
 exact Fm.smalls_iff.1 h.2.2.2.2
theorem comb_fit{o:ByteArray}{l:List Fm}(ho:o.size≤6)(hl:(flatM o l).length≤1048576)(h: ∀ k∈l,k.ok∧k.small):(combM o l).ok∧(combM o l).small:=by
 have hm: ∀ k∈flatM o l,k.ok∧k.small:=fun k hk=>by
  rcases flatM_mem hk with⟨n,hn,_,hk⟩|⟨hk,_⟩
  ·exact ⟨ok_kids (h n hn).1 k hk,small_kids (h n hn).2 k hk⟩
  ·exact h k hk
 constructor
 ·simp only[combM,Fm.ok,Ex.oks]
  refine⟨by unfold bigN;omega,by decide,⟨by decide,by simp⟩,⟨by decide,by simp⟩,⟨by decide,trivial⟩,by unfold bigN;omega,Fm.oks_iff.2 fun k hk=>(hm k hk).1⟩
 ·simp only[combM,Fm.small,Ex.smalls]
  exact⟨by decide,by decide,trivial,hl,Fm.smalls_iff.2 fun k hk=>(hm k hk).2⟩
theorem one_fit{o:ByteArray}{params:List Pm}{k:Fm}(ho:o.size≤6)(hp:params.length≤1048576)(hps: ∀ p∈params,p.ok)(h:k.ok∧k.small):(Fm.mk o ⟨#[]⟩ [] params [] [k]).ok∧(Fm.mk o ⟨#[]⟩ [] params [] [k]).small:=by
 constructor
 ·simp only[Fm.ok,Ex.oks,Fm.oks]
  refine⟨by unfold bigN;omega,by decide,⟨by decide,by simp⟩,⟨by unfold bigN;omega,hps⟩,⟨by decide,trivial⟩,by simp[bigN],h.1,trivial⟩
 ·simp only[Fm.small,Ex.smalls,Fm.smalls]
  exact⟨by decide,hp,trivial,by simp,h.2,trivial⟩
theorem cmp_fit{o:ByteArray}{a b:Ex}(ho:o.size≤6)(ha:a.ok∧a.small)(hb:b.ok∧b.small):(cmpM o a b).ok∧(cmpM o a b).small:=by
 constructor
 ·simp only[cmpM,Fm.ok,Ex.oks,Fm.oks]
  exact⟨by unfold bigN;omega,by decide,⟨by decide,by simp⟩,⟨by decide,by simp⟩,⟨by simp[bigN],ha.1,hb.1,trivial⟩,by decide,trivial⟩
 ·simp only[cmpM,Fm.small,Ex.smalls,Fm.smalls]
  exact⟨by decide,by decide,⟨ha.2,hb.2,trivial⟩,by decide,trivial⟩
theorem two_fit{o:ByteArray}{a b:Fm}(ho:o.size≤6)(ha:a.ok∧a.small)(hb:b.ok∧b.small):(Fm.mk o ⟨#[]⟩ [] [] [] [a,b]).ok∧(Fm.mk o ⟨#[]⟩ [] [] [] [a,b]).small:=by
 constructor
 ·simp only[Fm.ok,Ex.oks,Fm.oks]
  exact⟨by unfold bigN;omega,by decide,⟨by decide,by simp⟩,⟨by decide,by simp⟩,⟨by decide,trivial⟩,by simp[bigN],ha.1,hb.1,trivial⟩
 ·simp only[Fm.small,Ex.smalls,Fm.smalls]
  exact⟨by decide,by decide,trivial,by simp,ha.2,hb.2,trivial⟩
theorem normalM_fit: ∀ f,shapedF f=true→f.ok→f.small→2*cntF f≤1048576→ ∀ s,(normalM f s).ok∧(normalM f s).small:=by
 refine sf_ind ?_ ?_ ?_ ?_ ?_ ?_ ?_
 ·intro name args _ _ hok hsm _ s
  simp only[normalM,nt_atom]
  split
  ·exact ⟨hok,hsm⟩
  ·exact one_fit (by decide) (by decide) (by simp) ⟨hok,hsm⟩
 ·intro args _ _ hok hsm _ s
  simp only[normalM,nt_same]
  split
  ·exact ⟨hok,hsm⟩
  ·exact one_fit (by decide) (by decide) (by simp) ⟨hok,hsm⟩
 ·intro op a b ho _ _ hok hsm _ s
  simp only[Fm.ok,Ex.oks]at hok
  simp only[Fm.small,Ex.smalls]at hsm
  have ha:a.ok∧a.small:=⟨hok.2.2.2.2.1.2.1,hsm.2.2.1.1⟩
  have hb:b.ok∧b.small:=⟨hok.2.2.2.2.1.2.2.1,hsm.2.2.1.2.1⟩
  rcases ho with rfl|rfl|rfl
  ·simp only[normalM,nt_lt,cmpN];split
   ·exact cmp_fit (by decide) ha hb
   ·exact cmp_fit (by decide) hb ha
  ·simp only[normalM,nt_le,cmpN];split
   ·exact cmp_fit (by decide) ha hb
   ·exact cmp_fit (by decide) hb ha
  ·simp only[normalM,nt_eq,eqN];split
   ·exact cmp_fit (by decide) ha hb
   ·exact two_fit (by decide) (cmp_fit (by decide) ha hb) (cmp_fit (by decide) hb ha)
 ·intro op kids ho hsh ih hok hsm hc s
  simp only[Fm.ok]at hok
  simp only[Fm.small]at hsm
  simp only[cntF]at hc
  have hks:=Fm.oks_iff.1 hok.2.2.2.2.2.2
  have hss:=Fm.smalls_iff.1 hsm.2.2.2.2
  have h4:=ops_sz opAnd opOr s (by decide) (by decide)
  have h5:=ops_sz opOr opAnd s (by decide) (by decide)
  have hm: ∀ k∈normalMs kids s,k.ok∧k.small:=fun k hk=>by
   rw[normalMs_map]at hk
   obtain⟨x,hx,rfl⟩:=List.mem_map.1 hk
   have:=cntFs_map kids x hx
   exact ih x hx (hks x hx) (hss x hx) (by omega) s
  have hl:=fun o=>flatM_len o s kids fun k hk=>norm_len k (hsh k hk) s
  rcases ho with rfl|rfl
  ·simp only[normalM,nt_and]
   exact comb_fit h4 (by have:=hl (dualM opAnd opOr s);omega) hm
  ·simp only[normalM,nt_or]
   exact comb_fit h5 (by have:=hl (dualM opOr opAnd s);omega) hm
 ·intro k _ ih hok hsm hc s
  simp only[Fm.ok,Fm.oks]at hok
  simp only[Fm.small,Fm.smalls]at hsm
  simp only[cntF,cntFs]at hc
  simp only[normalM,nt_not,normalMs,List.headD_cons]
  exact ih hok.2.2.2.2.2.2.1 hsm.2.2.2.2.1 (by omega) (!s)
 ·intro a b sa sb ia ib hok hsm hc s
  simp only[Fm.ok,Fm.oks]at hok
  simp only[Fm.small,Fm.smalls]at hsm
  simp only[cntF,cntFs]at hc
  have ha:=ia hok.2.2.2.2.2.2.1 hsm.2.2.2.2.1 (by omega) (!s)
  have hb:=ib hok.2.2.2.2.2.2.2.1 hsm.2.2.2.2.2.1 (by omega) s
  have l1:=norm_len a sa (!s)
  have l2:=norm_len b sb s
  have p1:=cntF_pos a
  have p2:=cntF_pos b
  simp only[normalM,nt_imp,normalMs,List.headD_cons,List.drop_succ_cons,List.drop_zero]
  refine comb_fit (ops_sz opOr opAnd s (by decide) (by decide)) ?_ fun k hk=>?_
  ·generalize normalM a (!s)=x at l1⊢
   generalize normalM b s=y at l2⊢
   simp only[flatM,List.flatMap_cons,List.flatMap_nil,List.append_nil,List.length_append]
   split<;>split<;>(try simp only[List.length_cons,List.length_nil])<;>omega
  ·simp only[List.mem_cons,List.not_mem_nil,or_false]at hk
   rcases hk with rfl|rfl
   ·exact ha
   ·exact hb
 ·intro op params k ho _ _ ih hok hsm hc s
  simp only[Fm.ok,Fm.oks]at hok
  simp only[Fm.small,Fm.smalls]at hsm
  simp only[cntF,cntFs]at hc
  have hk:=ih hok.2.2.2.2.2.2.1 hsm.2.2.2.2.1 (by omega) s
  rcases ho with rfl|rfl
  ·simp only[normalM,nt_all,normalMs,List.headD_cons]
   exact one_fit (ops_sz opAll opSome s (by decide) (by decide)) hsm.2.1 hok.2.2.2.1.2 hk
  ·simp only[normalM,nt_some,normalMs,List.headD_cons]
   exact one_fit (ops_sz opSome opAll s (by decide) (by decide)) hsm.2.1 hok.2.2.2.1.2 hk
theorem cntFs_nodes: ∀ (l:List Fm),(∀ k∈l,cntF k≤(fmW k).nodes)→cntFs l≤Sx.nodess (l.map fmW)
 |[],_=>by simp[cntFs]
 |k::l,h=>by
  have h1:=h k (by simp)
  have h2:=cntFs_nodes l fun x hx=>h x (by simp[hx])
  simp only[cntFs,List.map_cons,Sx.nodess];omega
theorem cntF_nodes: ∀ f,shapedF f=true→cntF f≤(fmW f).nodes:=by
 refine Fm.ind ?_
 intro op name args params exprs kids ih hsh
 have h1:=(fmW_parts _ hsh).1
 have h2:=cntFs_nodes kids fun k hk=>ih k hk ((shapedF_kid hsh).2 k hk)
 simp only[cntF];omega
theorem valid_fit{f:Fm}(hv:validF f=true)(hok:f.ok)(hsm:f.small)(s:Bool):(normalM f s).ok∧(normalM f s).small:=by
 obtain⟨h1,_,h3⟩:=validF_iff.1 hv
 exact normalM_fit f h1 hok hsm (by have:=cntF_nodes f h1;omega) s
end Go.Proofs.Ytjlkapgpjamnkaa
namespace Go.Proofs.Ytjlkapgpjamnkaa
open Go.AM
set_option maxHeartbeats 8000000
set_option maxRecDepth 20000
theorem truth_c{seed:Int}: ∀ f:Fm,shapedF f=true→f.ok→f.small→ ∀ {n a:List ByteArray}{pN pA:PV}{h:Heap},BOk (spreadF f) n a→Sl h 1 pN (strRows n)→Sl h 1 pA (strRows a)→
  PCall Try.prog 27 [.agg f.cells,.agg [pN,pA],.sc (.int .u32 seed)] h fun r h'=>r= .sc (.bool (truthM (intpM seed) f (n,a)))∧h'=h:=by
 refine sf_ind ?_ ?_ ?_ ?_ ?_ ?_ ?_
 ·intro name args hn _ hok hsm n a pN pA h hB hp hq
  simp only[Fm.ok]at hok
  simp only[Fm.small]at hsm
  rw[tr_atom]
  exact truth_atom hp hq hsm.1 hok.2.1 hok.2.2.1.2 hB.az
 ·intro args hal _ hok hsm n a pN pA h hB hp hq
  obtain⟨x,y,rfl⟩: ∃ x y,args=[x,y]:=by
   match args,hal with
   |[x,y],_=>exact⟨x,y,rfl⟩
  rw[tr_same]
  exact truth_same hp hq
 ·intro op x y hop hx hy hok hsm n a pN pA h hB hp hq
  simp only[Fm.ok,Ex.oks]at hok
  simp only[Fm.small,Ex.smalls]at hsm
  obtain⟨_,_,_,_,⟨_,okx,oky,_⟩,_⟩:=hok
  obtain⟨_,_,⟨smx,smy,_⟩,_⟩:=hsm
  have hts: ∀ s t,toM n a s=some t→t.size≤bigN:=fun s t h=>hB.az t (toM_mem h)
  have hnl:n.length≤1099511627776:=by have:=hB.nl;omega
  have rx:=RBindExpr_c (h:=h) smx hx hp hq hnl hB.ns
  have ry:=RBindExpr_c (h:=h) smy hy hp hq hnl hB.ns
  rw[← bindEx_same]at rx ry
  have vx:=fun H=>value_c (seed:=seed) _ (bindEx_okk hts [] x okx) (bindEx_small x smx) H
  have vy:=fun H=>value_c (seed:=seed) _ (bindEx_okk hts [] y oky) (bindEx_small y smy) H
  rcases hop with rfl|rfl|rfl
  ·rw [show truthM (intpM seed) (.mk opLt ⟨#[]⟩ [] [] [x,y] []) (n,a)=_ from tr_lt _]
   exact truth_lt hp hq rx ry (vx _) (vy _)
  ·rw [show truthM (intpM seed) (.mk opLe ⟨#[]⟩ [] [] [x,y] []) (n,a)=_ from tr_le _]
   exact truth_le hp hq rx ry (vx _) (vy _)
  ·rw [show truthM (intpM seed) (.mk opEq ⟨#[]⟩ [] [] [x,y] []) (n,a)=_ from tr_eq _]
   exact truth_eq hp hq rx ry (vx _) (vy _)
 ·intro op kids hop _ ih hok hsm n a pN pA h hB hp hq
  simp only[Fm.ok]at hok
  simp only[Fm.small]at hsm
  obtain⟨_,_,_,_,_,_,hks⟩:=hok
  rw[Fm.oks_iff]at hks
  obtain⟨_,_,_,hkl,hsk⟩:=hsm
  rw[Fm.smalls_iff]at hsk
  have ihk: ∀ k∈kids,PCall Try.prog 27 [.agg k.cells,.agg [pN,pA],.sc (.int .u32 seed)] h fun r h'=>r= .sc (.bool (truthM (intpM seed) k (n,a)))∧h'=h:=fun k hk=>ih k hk (hks k hk) (hsk k hk) (hB.le (by have:=spreadFs_mem hk;simp only[spreadF];omega)) hp hq
  rcases hop with rfl|rfl
  ·rw [tr_and];exact truth_and hp hq hkl ihk
  ·rw [tr_or];exact truth_or hp hq hkl ihk
 ·intro k _ ih hok hsm n a pN pA h hB hp hq
  simp only[Fm.ok,Fm.oks]at hok
  simp only[Fm.small,Fm.smalls]at hsm
  rw[tr_not]
  exact truth_not hp hq (ih hok.2.2.2.2.2.2.1 hsm.2.2.2.2.1 (hB.le (by simp only[spreadF,spreadFs];omega)) hp hq)
 ·intro x y _ _ ihx ihy hok hsm n a pN pA h hB hp hq
  simp only[Fm.ok,Fm.oks]at hok
  simp only[Fm.small,Fm.smalls]at hsm
  have hcx:=ihx hok.2.2.2.2.2.2.1 hsm.2.2.2.2.1 (hB.le (by simp only[spreadF,spreadFs];omega)) hp hq
  have hcy:=ihy hok.2.2.2.2.2.2.2.1 hsm.2.2.2.2.2.1 (hB.le (by simp only[spreadF,spreadFs];omega)) hp hq
  rw[tr_imp]
  cases hx:truthM (intpM seed) x (n,a)with
  |true=>rw[hx]at hcx;exact truth_imp_true hp hq hcx hcy
  |false=>rw[hx]at hcx;exact truth_imp_false hp hq hcx hcy
 ·intro op params k hop hpm _ ih hok hsm n a pN pA h hB hp hq
  simp only[Fm.ok,Fm.oks]at hok
  simp only[Fm.small,Fm.smalls]at hsm
  have hps: ∀ p∈params,p.name.size≤bigN:=fun p hp=>(hok.2.2.2.1.2 p hp).1
  have hB2:BOk (spreadF k+params.length) n a:=hB.le (by simp only[spreadF,spreadFs];omega)
  have hg: ∀ {n a:List ByteArray}{pN pA:PV}{h:Heap},BOk (spreadF k) n a→Sl h 1 pN (strRows n)→Sl h 1 pA (strRows a)→PCall Try.prog 27 [.agg k.cells,.agg [pN,pA],.sc (.int .u32 seed)] h fun r h'=>r= .sc (.bool (truthM (intpM seed) k (n,a)))∧h'=h:=fun b h1 h2=>ih hok.2.2.2.2.2.2.1 hsm.2.2.2.2.1 b h1 h2
  rcases hop with rfl|rfl
  ·have cQ:=quantified_c (op:=opAll) (all:=true) (by decide) hps hsm.2.1 (fun e=>truthM (intpM seed) k e) hg params.length 0 (by omega) hB2 hp hq
   rw[List.drop_zero]at cQ
   rw[tr_all]
   exact truth_all hp hq cQ
  ·have cQ:=quantified_c (op:=opSome) (all:=false) (by decide) hps hsm.2.1 (fun e=>truthM (intpM seed) k e) hg params.length 0 (by omega) hB2 hp hq
   rw[List.drop_zero]at cQ
   rw[tr_some]
   exact truth_some hp hq cQ
mutual
theorem spreadF_bulk: ∀ f:Fm,spreadF f≤PV.bulkL f.cells
 | .mk op name args params exprs kids=>by
  have h1:=spreadFs_bulk kids
  have h2:=bulkR_pms params
  simp only[spreadF,Fm.cells,PV.bulkL,PV.bulk]
  omega
theorem spreadFs_bulk: ∀ l:List Fm,spreadFs l≤PV.bulkR (Fm.rows l)
 |[]=>by simp[spreadFs]
 |k::l=>by
  have h1:=spreadF_bulk k
  have h2:=spreadFs_bulk l
  simp only[spreadFs,Fm.rows,PV.bulkR]
  omega
end
theorem formulaMeaning_c{f:Fm}(hok:f.ok)(hb:PV.bulkL f.cells≤1048576){seed:Int}:
  PCall Try.prog 5 [.agg f.cells,.sc (.int .u32 seed)] Heap.nil fun r _=>r= .sc (.bool true):=by
 have hsm:=Fm.small_bulk f hb
 have cs:=rsize_c f hok
 have hsp:=spreadF_bulk f
 have cp:=spread_c f hok (by omega)
 have cv:=fun H=>fvalid_c hok hsm H
 have cn:=fun H=>Normal_c hok hsm (by omega) H
 have hT:validF f=true→(normalM f true).ok∧(normalM f true).small∧spreadF (normalM f true)≤1099511627776∧shapedF f=true:=fun hv=>by
  obtain⟨hsh,_,_⟩:=validF_iff.1 hv
  obtain⟨no,ns⟩:=valid_fit hv hok hsm true
  have nb:=normalM_bulk f hsh true
  have:=spreadF_bulk (normalM f true)
  exact⟨no,ns,by omega,hsh⟩
 have n1:Sl Heap.nil 1 (.sc (.slice none 0 0)) (strRows []):=Sl.nil
 have cT:validF f=true→ ∀ H:Heap,(PCall Try.prog 27 [.agg (normalM f true).cells,.agg [.sc (.slice none 0 0),.sc (.slice none 0 0)],.sc (.int .u32 seed)] H fun r h'=>r= .sc (.bool (truthM (intpM seed) f ([],[])))∧h'=H)∧PCall Try.prog 27 [.agg f.cells,.agg [.sc (.slice none 0 0),.sc (.slice none 0 0)],.sc (.int .u32 seed)] H fun r h'=>r= .sc (.bool (truthM (intpM seed) f ([],[])))∧h'=H:=fun hv H=>by
  obtain⟨a1,a2,a3,a4⟩:=hT hv
  have b1:=truth_c (seed:=seed) (normalM f true) (normalM_shaped f a4 true) a1 a2 (n:=[]) (a:=[]) (h:=H) ⟨by simp;omega,by simp;omega,fun s h=>by simp at h,fun s h=>by simp at h⟩ Sl.nil Sl.nil
  have b2:=truth_c (seed:=seed) f a4 hok hsm (n:=[]) (a:=[]) (h:=H) ⟨by simp;omega,by simp;omega,fun s h=>by simp at h,fun s h=>by simp at h⟩ Sl.nil Sl.nil
  rw[(normalM_truth (intpM seed) f a4 ([],[])).1]at b1
  exact⟨b1,b2⟩
 have hN:validF f=true→normF f=normalM f true:=fun hv=>if_pos hv
 generalize f.size=fs at cs
 generalize spreadF f=sp at cp
 clear hT hsp n1 hok hsm hb
 cases l1:decide (fs>80)with
 |true=>
  clear cT cn cv hN cp
  obtain⟨op,name,args,params,exprs,kids⟩:=f
  simp only[Fm.cells]at cs⊢
  refine pcall_body (ow:=fun _=>false) (wf:=fun _=>false) Ty.mixed Try.func5 rfl Ty.hb_5 (by rw[Try.ntmps5];simp) ?_
  rw[Try.ntmps5,Try.results5]
  repeat'(first|refine a_seq fun K hK=>?_|(refine a_regionS ?_;simp(maxSteps:=2000000) only[Ty.w,simprocAttr])|(refine hK _ _ ?_;clear hK;try simp only[pst0,simprocAttr]))
  refine owp_useQ (cs _) (by(try simp only[Ty.w,simprocAttr,l1]);try rfl) ?_;simp(maxSteps:=2000000) only[Ty.w,simprocAttr,l1]
  repeat'(first|refine a_seq fun K hK=>?_|(refine a_regionS ?_;simp(maxSteps:=2000000) only[Ty.w,simprocAttr,l1])|(refine hK _ _ ?_;clear hK;try simp only[pst0,simprocAttr]))
  refine owp_useQ (awake_c) (by(try simp only[Ty.w,simprocAttr,]);try rfl) ?_;simp(maxSteps:=2000000) only[Ty.w,simprocAttr,]
  repeat'(first|(refine a_ret ?_;simp(maxSteps:=2000000) only[Ty.w,simprocAttr])|(refine hK _ _ ?_;clear hK;try simp only[pst0,simprocAttr]))
 |false=>
  cases l2:decide ((sp:Int)>7)with
  |true=>
   clear cT cn cv hN
   obtain⟨op,name,args,params,exprs,kids⟩:=f
   simp only[Fm.cells]at cs cp⊢
   refine pcall_body (ow:=fun _=>false) (wf:=fun _=>false) Ty.mixed Try.func5 rfl Ty.hb_5 (by rw[Try.ntmps5];simp) ?_
   rw[Try.ntmps5,Try.results5]
   repeat'(first|refine a_seq fun K hK=>?_|(refine a_regionS ?_;simp(maxSteps:=2000000) only[Ty.w,simprocAttr])|(refine hK _ _ ?_;clear hK;try simp only[pst0,simprocAttr]))
   refine owp_useQ (cs _) (by(try simp only[Ty.w,simprocAttr,l1]);try rfl) ?_;simp(maxSteps:=2000000) only[Ty.w,simprocAttr,l1]
   skip
   refine owp_useQ (cp _) (by(try simp only[Ty.w,simprocAttr,l1,l2]);try rfl) ?_;simp(maxSteps:=2000000) only[Ty.w,simprocAttr,l1,l2]
   repeat'(first|refine a_seq fun K hK=>?_|(refine a_regionS ?_;simp(maxSteps:=2000000) only[Ty.w,simprocAttr,l1,l2])|(refine hK _ _ ?_;clear hK;try simp only[pst0,simprocAttr]))
   refine owp_useQ (awake_c) (by(try simp only[Ty.w,simprocAttr,]);try rfl) ?_;simp(maxSteps:=2000000) only[Ty.w,simprocAttr,]
   repeat'(first|(refine a_ret ?_;simp(maxSteps:=2000000) only[Ty.w,simprocAttr])|(refine hK _ _ ?_;clear hK;try simp only[pst0,simprocAttr]))
  |false=>
   cases hv:validF f with
   |false=>
    rw[hv]at cv
    clear cT cn hN
    obtain⟨op,name,args,params,exprs,kids⟩:=f
    simp only[Fm.cells]at cs cp cv⊢
    refine pcall_body (ow:=fun _=>false) (wf:=fun _=>false) Ty.mixed Try.func5 rfl Ty.hb_5 (by rw[Try.ntmps5];simp) ?_
    rw[Try.ntmps5,Try.results5]
    repeat'(first|refine a_seq fun K hK=>?_|(refine a_regionS ?_;simp(maxSteps:=2000000) only[Ty.w,simprocAttr])|(refine hK _ _ ?_;clear hK;try simp only[pst0,simprocAttr]))
    refine owp_useQ (cs _) (by(try simp only[Ty.w,simprocAttr,l1]);try rfl) ?_;simp(maxSteps:=2000000) only[Ty.w,simprocAttr,l1]
    skip
    refine owp_useQ (cp _) (by(try simp only[Ty.w,simprocAttr,l1,l2]);try rfl) ?_;simp(maxSteps:=2000000) only[Ty.w,simprocAttr,l1,l2]
    skip
    refine owp_useQ (awake_c) (by(try simp only[Ty.w,simprocAttr,Bool.not_true]);try rfl) ?_;simp(maxSteps:=2000000) only[Ty.w,simprocAttr,Bool.not_true]
    repeat'(first|refine a_seq fun K hK=>?_|(refine a_regionS ?_;simp(maxSteps:=2000000) only[Ty.w,simprocAttr,Bool.not_true])|(refine a_skip ?_;try simp only[pst0,simprocAttr])|(refine a_cond _ (by(try simp(maxSteps:=2000000) only[Ty.w,simprocAttr,Bool.not_true]);rfl) (fun hb=>?_) (fun hb=>?_)<;>(try simp only[hb0,decide_eq_true_eq,decide_eq_false_iff_not,simprocAttr]at hb)<;>(try(exfalso;omega)))|(refine hK _ _ ?_;clear hK;try simp only[pst0,simprocAttr]))
    refine owp_useQ (cv _) (by(try simp only[Ty.w,simprocAttr,Bool.not_false]);try rfl) ?_;simp(maxSteps:=2000000) only[Ty.w,simprocAttr,Bool.not_false]
    repeat'(first|refine a_seq fun K hK=>?_|((first|refine a_regionS ?_|refine a_ret ?_);simp(maxSteps:=2000000) only[Ty.w,simprocAttr,Bool.not_false])|(refine hK _ _ ?_;clear hK;try simp only[pst0,simprocAttr]))
   |true=>
    rw[hv]at cv
    rw[hN hv]at cn
    have c1:=fun H=>(cT hv H).1
    have c2:=fun H=>(cT hv H).2
    clear cT hN hv
    generalize normalM f true=g at cn c1
    generalize truthM (intpM seed) f ([],[])=tv at c1 c2
    obtain⟨op,name,args,params,exprs,kids⟩:=f
    obtain⟨gop,gname,gargs,gparams,gexprs,gkids⟩:=g
    simp only[Fm.cells]at cs cp cv cn c1 c2⊢
    refine pcall_body (ow:=fun _=>false) (wf:=fun _=>false) Ty.mixed Try.func5 rfl Ty.hb_5 (by rw[Try.ntmps5];simp) ?_
    rw[Try.ntmps5,Try.results5]
    repeat'(first|refine a_seq fun K hK=>?_|(refine a_regionS ?_;simp(maxSteps:=2000000) only[Ty.w,simprocAttr])|(refine hK _ _ ?_;clear hK;try simp only[pst0,simprocAttr]))
    refine owp_useQ (cs _) (by(try simp only[Ty.w,simprocAttr,l1]);try rfl) ?_;simp(maxSteps:=2000000) only[Ty.w,simprocAttr,l1]
    skip
    refine owp_useQ (cp _) (by(try simp only[Ty.w,simprocAttr,l1,l2]);try rfl) ?_;simp(maxSteps:=2000000) only[Ty.w,simprocAttr,l1,l2]
    skip
    refine owp_useQ (awake_c) (by(try simp only[Ty.w,simprocAttr,Bool.not_true]);try rfl) ?_;simp(maxSteps:=2000000) only[Ty.w,simprocAttr,Bool.not_true]
    repeat'(first|refine a_seq fun K hK=>?_|(refine a_regionS ?_;simp(maxSteps:=2000000) only[Ty.w,simprocAttr,Bool.not_true])|(refine a_skip ?_;try simp only[pst0,simprocAttr])|(refine a_cond _ (by(try simp(maxSteps:=2000000) only[Ty.w,simprocAttr,Bool.not_true]);rfl) (fun hb=>?_) (fun hb=>?_)<;>(try simp only[hb0,decide_eq_true_eq,decide_eq_false_iff_not,simprocAttr]at hb)<;>(try(exfalso;omega)))|(refine hK _ _ ?_;clear hK;try simp only[pst0,simprocAttr]))
    refine owp_useQ (cv _) (by(try simp only[Ty.w,simprocAttr,Bool.not_true]);try rfl) ?_;simp(maxSteps:=2000000) only[Ty.w,simprocAttr,Bool.not_true]
    repeat'(first|refine a_seq fun K hK=>?_|(refine a_drawS (by decide+kernel) ?_;simp(maxSteps:=2000000) only[Ty.w,simprocAttr,Bool.not_true])|(refine a_skip ?_;try simp only[pst0,simprocAttr])|(refine a_cond _ (by(try simp(maxSteps:=2000000) only[Ty.w,simprocAttr,Bool.not_true]);rfl) (fun hb=>?_) (fun hb=>?_)<;>(try simp only[hb0,decide_eq_true_eq,decide_eq_false_iff_not,simprocAttr]at hb)<;>(try(exfalso;omega)))|(refine hK _ _ ?_;clear hK;try simp only[pst0,simprocAttr]))
    (first|refine a_dcall0 (cn _) (by(try simp only[Ty.w,simprocAttr,nsucc]);try rfl) ?_|refine a_dcallA (cn _) (by(try simp only[Ty.w,simprocAttr,nsucc]);try rfl) (by simp only[Ty.w,simprocAttr,nsucc];try trivial) ?_);simp(maxSteps:=2000000) only[Ty.w,simprocAttr,Option.getD_some,nsucc]
    skip
    (first|refine a_dcall0 (c1 _) (by(try simp only[Ty.w,simprocAttr,nsucc]);try rfl) ?_|refine a_dcallA (c1 _) (by(try simp only[Ty.w,simprocAttr,nsucc]);try rfl) (by simp only[Ty.w,simprocAttr,nsucc];try trivial) ?_);simp(maxSteps:=2000000) only[Ty.w,simprocAttr,Option.getD_some,nsucc]
    skip
    (first|refine a_dcall0 (c2 _) (by(try simp only[Ty.w,simprocAttr,nsucc]);try rfl) ?_|refine a_dcallA (c2 _) (by(try simp only[Ty.w,simprocAttr,nsucc]);try rfl) (by simp only[Ty.w,simprocAttr,nsucc];try trivial) ?_);simp(maxSteps:=2000000) only[Ty.w,simprocAttr,Option.getD_some,nsucc]
    repeat'(first|(refine a_ret ?_;simp(maxSteps:=2000000) only[Ty.w,simprocAttr,nsucc,beq_self_eq_true])|(refine hK _ _ ?_;clear hK;try simp only[pst0,simprocAttr]))
end Go.Proofs.Ytjlkapgpjamnkaa
namespace Go.AM
open Go.ChangeShapes Go.WideShapes
section
variable {P:Program}{c:Nat}{t e:TypeId}{ps:List PV}{a:PV}
theorem Arg_int{k:IntKind}(hu:P.underlying t=some (.int k))(h:Arg P (c+1) t ps): ∃ n,(Lit.int k n).wf=true∧ps=[.sc (.int k n)]:=by
 unfold Arg at h;rw[hu]at h;exact h
theorem Arg_slice(hu:P.underlying t=some (.slice e))(h:Arg P (c+1) t ps): ∃ rows,ps=[.imm (P.cellsOf e) rows]∧rows.length*P.bytesOf e≤reachBytes∧rows.length≤maxLen∧ ∀ r∈rows,r.length=P.cellsOf e∧Arg P c e r:=by
 unfold Arg at h;rw[hu]at h;exact h
theorem Arg_struct{fs:Array Field}(hu:P.underlying t=some (.struct fs))(h:Arg P (c+1) t ps):ps.length=P.cellsOf t∧ ∀ p∈partsT P t,Arg P c p.2 ((ps.drop p.1).take (P.cellsOf p.2)):=by
 unfold Arg at h;rw[hu]at h;exact h
theorem rows_map{α:Type}{Q:α→Prop}{f:α→List PV}:(rows:List (List PV))→(∀ r∈rows, ∃ x,Q x∧r=f x)→ ∃ xs:List α,rows=xs.map f∧ ∀ x∈xs,Q x
 |[],_=>⟨[],rfl,by simp⟩
 |r::rows,h=>by
  obtain⟨xs,h1,h2⟩:=rows_map rows (fun q hq=>h q (by simp[hq]))
  obtain⟨x,h3,h4⟩:=h r (by simp)
  refine⟨x::xs,by simp[h1,h4],fun y hy=>?_⟩
  rcases List.mem_cons.1 hy with rfl|hy
  ·exact h3
  ·exact h2 y hy
theorem argV_int{k:IntKind}(hu:P.underlying t=some (.int k))(h:ArgV P (c+1) t a): ∃ n,(Lit.int k n).wf=true∧a= .sc (.int k n):=by
 unfold ArgV at h;rw[hu]at h
 obtain⟨n,h1,h2⟩:=Arg_int hu h
 simp at h2
 exact⟨n,h1,h2⟩
theorem i64_in{n:Int}(h:(Lit.int .i64 n).wf=true): -9223372036854775808≤n∧n≤9223372036854775807:=by
 simp[Lit.wf,IntKind.min,IntKind.max,IntKind.bits,IntKind.signed]at h
 omega
end
end Go.AM
namespace Go.Proofs.Ytjlkapgpjamnkaa
open Go.AM
set_option maxHeartbeats 1000000
set_option maxRecDepth 20000
def recTs:List TypeId:=[29,57,99,9,3,24,25,26,27]
theorem parts57:partsT Try.prog 57=[(0,9),(1,9),(2,3),(3,24),(4,26)]:=by kernel_rfl
theorem parts29:partsT Try.prog 29=[(0,9),(1,9),(2,24),(3,25),(4,26),(5,27)]:=by kernel_rfl
theorem parts99:partsT Try.prog 99=[(0,9),(1,9)]:=by kernel_rfl
theorem co9:Try.prog.cellsOf 9=1:=by kernel_rfl
theorem co3:Try.prog.cellsOf 3=1:=by kernel_rfl
theorem co24:Try.prog.cellsOf 24=1:=by kernel_rfl
theorem co25:Try.prog.cellsOf 25=1:=by kernel_rfl
theorem co26:Try.prog.cellsOf 26=1:=by kernel_rfl
theorem co27:Try.prog.cellsOf 27=1:=by kernel_rfl
theorem co57:Try.prog.cellsOf 57=5:=by kernel_rfl
theorem co29:Try.prog.cellsOf 29=6:=by kernel_rfl
theorem co99:Try.prog.cellsOf 99=2:=by kernel_rfl
theorem by9:0<Try.prog.bytesOf 9:=by rw[show Try.prog.bytesOf 9=16 by kernel_rfl];omega
theorem by99:0<Try.prog.bytesOf 99:=by rw[show Try.prog.bytesOf 99=32 by kernel_rfl];omega
theorem by57:0<Try.prog.bytesOf 57:=by rw[show Try.prog.bytesOf 57=88 by kernel_rfl];omega
theorem by29:0<Try.prog.bytesOf 29:=by rw[show Try.prog.bytesOf 29=128 by kernel_rfl];omega
theorem len_le{n b:Nat}(h:n*b≤reachBytes)(hb:0<b):n≤bigN:=by
 have:=Nat.le_mul_of_pos_right n hb
 unfold reachBytes at h
 unfold bigN
 omega
theorem arg_str{c:Nat}{ps:List PV}(h:Arg Try.prog c 9 ps): ∃ s:ByteArray,s.size≤bigN∧ps=[sPV s]:=by
 cases c with
 |zero=>simp[Arg]at h
 |succ c=>
  unfold Arg at h
  rw[Try.underlying9]at h
  obtain⟨s,h1,h2⟩:=h
  exact⟨s,by unfold reachBytes at h1;unfold bigN;omega,h2⟩
theorem arg_i64{c:Nat}{ps:List PV}(h:Arg Try.prog c 3 ps): ∃ n:Int,(-9223372036854775808≤n∧n≤9223372036854775807)∧ps=[.sc (.int .i64 n)]:=by
 cases c with
 |zero=>simp[Arg]at h
 |succ c=>
  obtain⟨n,h1,h2⟩:=Arg_int Try.underlying3 h
  exact⟨n,i64_in h1,h2⟩
theorem arg_strs{c:Nat}{ps:List PV}(h:Arg Try.prog c 24 ps): ∃ l:List ByteArray,(l.length≤bigN∧ ∀ a∈l,a.size≤bigN)∧ps=[.imm 1 (strRows l)]:=by
 cases c with
 |zero=>simp[Arg]at h
 |succ c=>
  obtain⟨rows,rfl,h1,_,h2⟩:=Arg_slice Try.underlying24 h
  obtain⟨xs,rfl,h3⟩:=rows_map (Q:=fun s:ByteArray=>s.size≤bigN) (f:=fun s=>[sPV s]) rows (fun r hr=>arg_str (h2 r hr).2)
  refine⟨xs,⟨len_le (by simpa using h1) by9,h3⟩,?_⟩
  rw[co9];try rfl
theorem arg_pm{c:Nat}{ps:List PV}(h:Arg Try.prog c 99 ps): ∃ p:Pm,p.ok∧ps=pmRow p:=by
 cases c with
 |zero=>simp[Arg]at h
 |succ c=>
  obtain⟨h1,h2⟩:=Arg_struct Try.underlying99 h
  rw[co99]at h1
  rw[parts99]at h2
  match ps,h1,h2 with
  |[p0,p1],_,h2=>
   have a0:=h2 (0,9) (by simp)
   have a1:=h2 (1,9) (by simp)
   simp only[co9,List.drop_zero,List.drop_succ_cons,List.take_succ_cons,List.take_zero]at a0 a1
   obtain⟨s,hs,e1⟩:=arg_str a0
   obtain⟨t,ht,e2⟩:=arg_str a1
   simp at e1 e2
   exact⟨⟨s,t⟩,⟨hs,ht⟩,by simp[pmRow,e1,e2]⟩
theorem arg_pms{c:Nat}{ps:List PV}(h:Arg Try.prog c 25 ps): ∃ l:List Pm,(l.length≤bigN∧ ∀ a∈l,a.ok)∧ps=[.imm 2 (pmRows l)]:=by
 cases c with
 |zero=>simp[Arg]at h
 |succ c=>
  obtain⟨rows,rfl,h1,_,h2⟩:=Arg_slice Try.underlying25 h
  obtain⟨xs,rfl,h3⟩:=rows_map (Q:=Pm.ok) (f:=pmRow) rows (fun r hr=>arg_pm (h2 r hr).2)
  refine⟨xs,⟨len_le (by simpa using h1) by99,h3⟩,?_⟩
  rw[co99];try rfl
theorem arg_ex: ∀ (c:Nat){ps:List PV},Arg Try.prog c 57 ps→ ∃ e:Ex,e.ok∧ps=e.cells:=by
 intro c
 induction c using Nat.strongRecOn with
 |_ c ih=>
  intro ps h
  cases c with
  |zero=>simp[Arg]at h
  |succ c=>
   obtain⟨h1,h2⟩:=Arg_struct Try.underlying57 h
   rw[co57]at h1
   rw[parts57]at h2
   match ps,h1,h2 with
   |[p0,p1,p2,p3,p4],_,h2=>
    have a0:=h2 (0,9) (by simp)
    have a1:=h2 (1,9) (by simp)
    have a2:=h2 (2,3) (by simp)
    have a3:=h2 (3,24) (by simp)
    have a4:=h2 (4,26) (by simp)
    simp only[co9,co3,co24,co26,List.drop_zero,List.drop_succ_cons,List.take_succ_cons,List.take_zero]at a0 a1 a2 a3 a4
    obtain⟨op,hop,e0⟩:=arg_str a0
    obtain⟨name,hname,e1⟩:=arg_str a1
    obtain⟨n,hn,e2⟩:=arg_i64 a2
    obtain⟨args,hargs,e3⟩:=arg_strs a3
    cases c with
    |zero=>simp[Arg]at a4
    |succ c=>
     obtain⟨rows,e4,h3,_,h4⟩:=Arg_slice Try.underlying26 a4
     obtain⟨xs,rfl,h5⟩:=rows_map (Q:=Ex.ok) (f:=Ex.cells) rows (fun r hr=>ih c (by omega) (h4 r hr).2)
     rw[co57]at e4
     simp at e0 e1 e2 e3 e4
     refine⟨.mk op name n args xs,?_,?_⟩
     ·simp only[Ex.ok]
      exact⟨hop,hname,hn,hargs,len_le (by simpa using h3) by57,Ex.oks_iff.2 h5⟩
     ·simp only[Ex.cells,e0,e1,e2,e3,e4,Ex.rows_map]
theorem arg_exs{c:Nat}{ps:List PV}(h:Arg Try.prog c 26 ps): ∃ l:List Ex,(l.length≤bigN∧Ex.oks l)∧ps=[.imm 5 (Ex.rows l)]:=by
 cases c with
 |zero=>simp[Arg]at h
 |succ c=>
  obtain⟨rows,rfl,h1,_,h2⟩:=Arg_slice Try.underlying26 h
  obtain⟨xs,rfl,h3⟩:=rows_map (Q:=Ex.ok) (f:=Ex.cells) rows (fun r hr=>arg_ex c (h2 r hr).2)
  refine⟨xs,⟨len_le (by simpa using h1) by57,Ex.oks_iff.2 h3⟩,?_⟩
  rw[co57,Ex.rows_map]
theorem arg_fm: ∀ (c:Nat){ps:List PV},Arg Try.prog c 29 ps→ ∃ f:Fm,f.ok∧ps=f.cells:=by
 intro c
 induction c using Nat.strongRecOn with
 |_ c ih=>
  intro ps h
  cases c with
  |zero=>simp[Arg]at h
  |succ c=>
   obtain⟨h1,h2⟩:=Arg_struct Try.underlying29 h
   rw[co29]at h1
   rw[parts29]at h2
   match ps,h1,h2 with
   |[p0,p1,p2,p3,p4,p5],_,h2=>
    have a0:=h2 (0,9) (by simp)
    have a1:=h2 (1,9) (by simp)
    have a2:=h2 (2,24) (by simp)
    have a3:=h2 (3,25) (by simp)
    have a4:=h2 (4,26) (by simp)
    have a5:=h2 (5,27) (by simp)
    simp only[co9,co24,co25,co26,co27,List.drop_zero,List.drop_succ_cons,List.take_succ_cons,List.take_zero]at a0 a1 a2 a3 a4 a5
    obtain⟨op,hop,e0⟩:=arg_str a0
    obtain⟨name,hname,e1⟩:=arg_str a1
    obtain⟨args,hargs,e2⟩:=arg_strs a2
    obtain⟨params,hparams,e3⟩:=arg_pms a3
    obtain⟨exprs,hexprs,e4⟩:=arg_exs a4
    cases c with
    |zero=>simp[Arg]at a5
    |succ c=>
     obtain⟨rows,e5,h3,_,h4⟩:=Arg_slice Try.underlying27 a5
     obtain⟨xs,rfl,h5⟩:=rows_map (Q:=Fm.ok) (f:=Fm.cells) rows (fun r hr=>ih c (by omega) (h4 r hr).2)
     rw[co29]at e5
     simp at e0 e1 e2 e3 e4 e5
     refine⟨.mk op name args params exprs xs,?_,?_⟩
     ·simp only[Fm.ok]
      exact⟨hop,hname,hargs,hparams,hexprs,len_le (by simpa using h3) by29,Fm.oks_iff.2 h5⟩
     ·simp only[Fm.cells,e0,e1,e2,e3,e4,e5,Fm.rows_map]
end Go.Proofs.Ytjlkapgpjamnkaa
