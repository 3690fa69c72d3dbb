/- What the claim rests on, part 8: the abstract machine, contracts of the functions, plain data. -/
import Derived.Test.YtblgchkahpgdjaaGreatZw7
set_option linter.unusedVariables false
set_option linter.unusedSimpArgs false
set_option linter.unusedSectionVars false
namespace Go.AM
theorem bulkR_pms: ∀ l:List Pm,2*l.length≤PV.bulkR (pmRows l)
 |[]=>by simp
 |s::l=>by
  have:=bulkR_pms l;simp only[pmRows,pmRow,List.map_cons,PV.bulkR,PV.bulkL,PV.bulk,List.length_cons]at this⊢;omega
theorem bulkR_fms: ∀ l:List Fm,l.length≤PV.bulkR (Fm.rows l)
 |[]=>by simp
 |s::l=>by
  have:=bulkR_fms l;cases s;simp only[Fm.rows,Fm.cells,PV.bulkR,PV.bulkL,PV.bulk,List.length_cons]at this⊢;omega
mutual
theorem Fm.small_bulk: ∀ (f:Fm),PV.bulkL f.cells≤1048576→f.small
 | .mk op name args params exprs kids,h=>by
  simp only[Fm.cells,PV.bulkL,PV.bulk]at h;simp only[Fm.small];have:=bulkR_strs args;have:=bulkR_pms params;have:=bulkR_fms kids;exact⟨by omega,by omega,Ex.smalls_bulk exprs (by omega),by omega,Fm.smalls_bulk kids (by omega)⟩
theorem Fm.smalls_bulk: ∀ (l:List Fm),PV.bulkR (Fm.rows l)≤1048576→Fm.smalls l
 |[],_=>by simp[Fm.smalls]
 |k::ks,h=>by
  simp only[Fm.rows,PV.bulkR]at h;simp only[Fm.smalls];exact⟨Fm.small_bulk k (by omega),Fm.smalls_bulk ks (by omega)⟩
end
end Go.AM
namespace Go.Proofs.YtblgchkahpgdjaaGreat
open Go.AM
theorem nodess_params: ∀ l:List Pm,Sx.nodess (paramsW l)=3*l.length
 |[]=>rfl
 |s::l=>by simp only[paramsW,Sx.nodess,word_nodes,nodess_params l,List.length_cons];omega
theorem exWs_nodes: ∀ l:List Ex,Sx.nodess (l.map exW)≤PV.bulkR (Ex.rows l)
 |[]=>by simp[Sx.nodess]
 |e::l=>by
  have h1:=exWs_nodes l;have h2:=exW_nodes e;simp only[List.map_cons,Sx.nodess,Ex.rows,PV.bulkR];omega
mutual
theorem fmW_nodes: ∀ f:Fm,(fmW f).nodes≤2*PV.bulkL f.cells
 | .mk op name args params exprs kids=>by
  have h1:=bulkR_strs args;have h2:=bulkR_pms params;have h3:=exWs_nodes exprs;have h4:=fmWs_nodes kids;simp only[Fm.cells,PV.bulkL,PV.bulk];unfold fmW;split
  ·rw [words_nodes];omega
  ·split
   ·rw [words_nodes];omega
   ·split
    ·simp only[list_nodes,Sx.nodess,word_nodes];omega
    ·simp only[list_nodes,nodess_append];split<;>split<;>simp only[Sx.nodess,word_nodes,list_nodes,nodess_params]<;>omega
theorem fmWs_nodes: ∀ l:List Fm,Sx.nodess (fmWs l)≤2*PV.bulkR (Fm.rows l)
 |[]=>by simp[fmWs,Sx.nodess]
 |k::l=>by
  have h1:=fmW_nodes k;have h2:=fmWs_nodes l;simp only[fmWs,Sx.nodess,Fm.rows,PV.bulkR];omega
end
end Go.Proofs.YtblgchkahpgdjaaGreat
namespace Go.Proofs.YtblgchkahpgdjaaGreat
open Go.AM
set_option maxHeartbeats 4000000
set_option maxRecDepth 20000
theorem ch_bulk(c:Ch):PV.bulkR (pmRows c.params)+PV.bulkL c.cond.cells+PV.bulkR (strRows c.args)+PV.bulkL c.value.cells+4≤PV.bulkL (chRow c):=by
 obtain⟨kd,P,f,n,a,v⟩:=c;simp only[chRow,List.cons_append,List.nil_append,PV.bulkL_append,PV.bulkL,PV.bulk,sPV];omega
theorem chSm_bulk{c:Ch}(h:PV.bulkL (chRow c)≤1048576):ChSm c:=by
 have:=ch_bulk c;have p1:=bulkR_pms c.params;have p2:=bulkR_strs c.args;exact⟨Fm.small_bulk _ (by omega),Ex.small_bulk _ (by omega),by omega,by omega⟩
theorem chs_bulk_len: ∀ l:List Ch,l.length≤PV.bulkR (chRows l)
 |[]=>Nat.zero_le _
 |c::l=>by
  have:=chs_bulk_len l;have:=ch_bulk c;have e:chRows (c::l)=chRow c::chRows l:=rfl;rw[e];simp only[PV.bulkR,List.length_cons];omega
theorem chs_bulk_mem{c:Ch}: ∀ {l:List Ch},c∈l→PV.bulkL (chRow c)≤PV.bulkR (chRows l)
 |d::l,h=>by
  have e:chRows (d::l)=chRow d::chRows l:=rfl;rw[e];simp only[PV.bulkR];rcases List.mem_cons.1 h with rfl|h
  ·omega
  ·have:=chs_bulk_mem h;omega
theorem nd_word(s:ByteArray):(wordM s).nodes=1:=rfl
theorem nd2(a b:Sx):(listM [a,b]).nodes=a.nodes+b.nodes+1:=by simp only[listM,Sx.nodes,Sx.nodess];omega
theorem nd3(a b c:Sx):(listM [a,b,c]).nodes=a.nodes+b.nodes+c.nodes+1:=by simp only[listM,Sx.nodes,Sx.nodess];omega
theorem ch1W_nodes(c:Ch):(ch1W c).nodes≤c.args.length+PV.bulkL c.value.cells+4:=by
 have e:=exW_nodes c.value;have w:(fmW (atF c)).nodes=c.args.length+2:=by rw[fmW_atF];exact words_nodes _ _
 unfold ch1W;cases c.kind==2<;>cases c.kind==3<;>cases c.kind==4<;>cases c.kind==5<;>simp only[cond_true,cond_false,nd2,nd3,nd_word,w]<;>omega
theorem chW_nodes(c:Ch):(chW c).nodes≤4*PV.bulkL (chRow c):=by
 have h1:=ch1W_nodes c;have hb:=ch_bulk c;have hf:=fmW_nodes c.cond;have p2:=bulkR_strs c.args;have p1:=bulkR_pms c.params;have h2:(ch2W c).nodes≤(ch1W c).nodes+2*PV.bulkL c.cond.cells+2:=by
  unfold ch2W;cases tru c.cond with
  |true=>simp only[cond_true];omega
  |false=>simp only[cond_false,nd3,nd_word];omega
 have h3:(listM (paramsW c.params)).nodes=3*c.params.length+1:=by simp only[listM,Sx.nodes,nodess_params]
 unfold chW;cases c.params.isEmpty with
 |true=>simp only[cond_true];omega
 |false=>simp only[cond_false,nd3,nd_word,h3];omega
theorem chWs_nodes: ∀ l:List Ch,Sx.nodess (l.map chW)≤4*PV.bulkR (chRows l)
 |[]=>by simp[Sx.nodess]
 |c::l=>by
  have:=chWs_nodes l;have:=chW_nodes c;have e:chRows (c::l)=chRow c::chRows l:=rfl;rw[e];simp only[List.map_cons,Sx.nodess,PV.bulkR];omega
theorem chW_ok{c:Ch}(hR:chR c=true)(h:c.ok)(hs:ChSm c):(chW c).ok:=by
 simp only[chR,Bool.and_eq_true,Bool.not_eq_true']at hR;obtain⟨_,_,_,r4,_,_⟩:=hR;have hw:(fmW (atF c)).ok:=by rw[fmW_atF];exact wordsM_ok h.name hs.args h.args.2
 have hx:=exW_ok c.value h.value hs.value;have h1:(ch1W c).ok:=by
  unfold ch1W;cases c.kind==2 with
  |true=>exact ok2 (wordM_ok (by decide)) hw
  |false=>
   cases c.kind==3 with
   |true=>exact ok3 (wordM_ok (by decide)) hw hx
   |false=>
    cases c.kind==4 with
    |true=>exact ok3 (wordM_ok (by decide)) hw hx
    |false=>
     cases c.kind==5 with
     |true=>exact ok3 (wordM_ok (by decide)) hw hx
     |false=>exact hw
 have h2:(ch2W c).ok:=by
  unfold ch2W;cases tru c.cond with
  |true=>exact h1
  |false=>exact ok3 (wordM_ok (by decide)) (fmW_ok _ h.cond hs.cond r4) h1
 unfold chW;cases c.params.isEmpty with
 |true=>exact h2
 |false=>exact ok3 (wordM_ok (by decide)) (listM_ok (by rw[paramsW_len];have:=hs.params;unfold bigN;omega) (paramsW_ok _ h.params.2)) h2
theorem effW_ok{l:List Ch}(hl:l.length≤1048576)(hR:l.all chR=true)(h: ∀ c∈l,c.ok∧ChSm c):(effW l).ok:=by
 rw[List.all_eq_true]at hR;unfold effW;cases l.isEmpty with
 |true=>exact listM_ok (by simp) trivial
 |false=>
  refine listM_ok (by simp only[List.length_cons,List.length_map,bigN];omega) ⟨wordM_ok (by decide),?_⟩;rw[Sx.oks_iff];intro k hk;rw[List.mem_map]at hk;obtain⟨c,hc,rfl⟩:=hk;exact chW_ok (hR c hc) (h c hc).1 (h c hc).2
theorem chW_pos(c:Ch):posX (chW c)=true:=by
  have h1:posX (ch1W c)=true:=by
    unfold ch1W;cases c.kind==2<;>cases c.kind==3<;>cases c.kind==4<;>cases c.kind==5<;>simp only[cond_true,cond_false]<;>first
      |exact fmW_pos _
      | (refine pos_list ?_
         intro k hk;simp only[List.mem_cons,List.not_mem_nil,or_false]at hk;rcases hk with rfl|rfl|rfl<;>first|exact pos_word _|exact fmW_pos _|exact exW_pos _)
      | (refine pos_list ?_
         intro k hk;simp only[List.mem_cons,List.not_mem_nil,or_false]at hk;rcases hk with rfl|rfl<;>first|exact pos_word _|exact fmW_pos _|exact exW_pos _)
  have h2:posX (ch2W c)=true:=by
    unfold ch2W;cases tru c.cond with
    |true=>exact h1
    |false=>
      refine pos_list ?_;intro k hk;simp only[List.mem_cons,List.not_mem_nil,or_false]at hk;rcases hk with rfl|rfl|rfl
      · exact pos_word _
      · exact fmW_pos _
      · exact h1
  unfold chW;cases c.params.isEmpty with
  |true=>exact h2
  |false=>
    refine pos_list ?_;intro k hk;simp only[List.mem_cons,List.not_mem_nil,or_false]at hk;rcases hk with rfl|rfl|rfl
    · exact pos_word _
    · exact pos_list (params_pos _)
    · exact h2
theorem effW_pos(l:List Ch):posX (effW l)=true:=by
 unfold effW;cases l.isEmpty with
 |true=>exact pos_list (by simp)
 |false=>
  refine pos_list ?_;intro k hk;rcases List.mem_cons.1 hk with rfl|hk
  ·exact pos_word _
  ·rw [List.mem_map]at hk;obtain⟨c,_,rfl⟩:=hk;exact chW_pos c
end Go.Proofs.YtblgchkahpgdjaaGreat
namespace Go.Proofs.YtblgchkahpgdjaaGreat
open Go.AM
set_option maxHeartbeats 4000000
set_option maxRecDepth 20000
def acGL(t:Fm→Bool)(ff:Fm→Sx)(fe:List Ch→Sx)(a:Ac):List Sx:=ifP (ifP (ifP (ifP [wordM a.name] ((a.params.length:Int)==0) opPar (listM (paramsW a.params))) (a.cost==1) opCost (numM a.cost)) (t a.pre) opPre (ff a.pre)) ((a.changes.length:Int)==0) opEff (fe a.changes)
def duGL(t:Fm→Bool)(ff:Fm→Sx)(fe:List Ch→Sx)(a:Du):List Sx:=ifP (ifP (ifP (ifP (ifP (ifP (ifP [wordM a.name] ((a.params.length:Int)==0) opPar (listM (paramsW a.params))) (a.duration==1) opDtn (numM a.duration)) (t a.start) opSta (ff a.start)) (t a.over) opOve (ff a.over)) (t a.stop) opEnd (ff a.stop)) ((a.atStart.length:Int)==0) opAtS (fe a.atStart)) ((a.atStop.length:Int)==0) opAtE (fe a.atStop)
def dmGL(fa:Ac→Sx)(fd:Du→Sx)(d:Dm):List Sx:=grpP (grpP (grpP (grpP [listM [wordM opDom9,wordM d.name]] opTys (paramsW d.types)) opCons (paramsW d.constants)) opPreds (d.predicates.map prX)) opFuns (d.functions.map fuX)++d.actions.map fa++d.duratives.map fd
def acW(a:Ac):Sx:=listM (wordM opAct::acGL tru fmW effW a)
def duW(a:Du):Sx:=listM (wordM opDur::duGL tru fmW effW a)
def dmW(d:Dm):Sx:=listM (wordM opDef9::dmGL acW duW d)
theorem ifP_cons(x:Sx)(L:List Sx)(m:Bool)(kw:ByteArray)(v:Sx):ifP (x::L) m kw v=x::ifP L m kw v:=by unfold ifP;cases m<;>rfl
theorem ifP_sub{x:Sx}{L:List Sx}{m:Bool}{kw:ByteArray}{v:Sx}(h:x∈L):x∈ifP L m kw v:=by
 unfold ifP;cases m with
 |true=>exact h
 |false=>exact List.mem_append_left _ h
theorem ifP_mem{L:List Sx}{m:Bool}{kw:ByteArray}{v:Sx}(h:m=false):v∈ifP L m kw v:=by subst h;simp[ifP]
theorem ifP_inv{x:Sx}{L:List Sx}{m:Bool}{kw:ByteArray}{v:Sx}(h:x∈ifP L m kw v):x∈L∨x=wordM kw∨x=v:=by
 unfold ifP at h;cases m with
 |true=>exact .inl h
 |false=>
  simp only[cond_false,List.mem_append,List.mem_cons,List.not_mem_nil,or_false]at h;exact h
theorem grpP_cons(x:Sx)(L:List Sx)(kw:ByteArray)(ks:List Sx):grpP (x::L) kw ks=x::grpP L kw ks:=by unfold grpP;cases ks.isEmpty<;>rfl
theorem grpP_mem{k:Sx}{L:List Sx}{kw:ByteArray}{ks:List Sx}(h:k∈ks):listM (wordM kw::ks)∈grpP L kw ks:=by
 cases ks with
 |nil=>cases h
 |cons a l=>simp[grpP]
theorem grpP_inv{x:Sx}{L:List Sx}{kw:ByteArray}{ks:List Sx}(h:x∈grpP L kw ks):x∈L∨x=listM (wordM kw::ks):=by
 unfold grpP at h;cases hk:ks.isEmpty with
 |true=>rw[hk]at h;exact .inl h
 |false=>
  rw[hk]at h;simp only[cond_false,List.mem_append,List.mem_cons,List.not_mem_nil,or_false]at h;exact h
theorem acX_G(a:Ac):acX a=listM (wordM opAct::acGL isAlw fmX effX a):=by
 unfold acX acL acGL;simp only[ifP_cons]
theorem duX_G(a:Du):duX a=listM (wordM opDur::duGL isAlw fmX effX a):=by
 unfold duX duL duGL;simp only[ifP_cons]
theorem dmX_G(d:Dm):dmX d=listM (wordM opDef9::dmGL acX duX d):=by
 unfold dmX dmL dmGL;simp only[grpP_cons,List.cons_append]
theorem acX_W{a:Ac}(h:acB a=true):acX a=acW a:=by
 unfold acB at h;simp only[Bool.and_eq_true]at h;obtain⟨⟨⟨⟨_,_⟩,_⟩,f⟩,c⟩:=h;rw[acX_G];unfold acW acGL;rw[tru_eq (validF_shaped f),(effX_W c).2,show fmX a.pre=fmW a.pre from by unfold fmX;rw[f];try rfl]
theorem duX_W{a:Du}(h:duB a=true):duX a=duW a:=by
 unfold duB at h;simp only[Bool.and_eq_true]at h;obtain⟨⟨⟨⟨⟨⟨_,_⟩,f1⟩,f2⟩,f3⟩,c1⟩,c2⟩:=h;rw[duX_G];unfold duW duGL;rw[tru_eq (validF_shaped f1),tru_eq (validF_shaped f2),tru_eq (validF_shaped f3),(effX_W c1).2,(effX_W c2).2,show fmX a.start=fmW a.start from by unfold fmX;rw[f1];try rfl,show fmX a.over=fmW a.over from by unfold fmX;rw[f2];try rfl,show fmX a.stop=fmW a.stop from by unfold fmX;rw[f3];try rfl]
theorem dmX_W{d:Dm}(h:dmB d=true):dmX d=dmW d:=by
 unfold dmB at h;simp only[Bool.and_eq_true]at h;obtain⟨⟨_,ha⟩,hd⟩:=h;rw[List.all_eq_true]at ha hd;rw[dmX_G];unfold dmW dmGL;rw[List.map_congr_left fun a h=>acX_W (ha a h),List.map_congr_left fun a h=>duX_W (hd a h)]
theorem parB_pmR2(v:Bool):parB v=pmR v:=by
 funext p;cases v<;>simp only[parB,pmR,typedB,cond_true,cond_false,if_true,Bool.false_eq_true,if_false,Bool.or_comm]
theorem smB_VS{n:Int}(h:VS (numM n)):smB n=true:=by
 have:=h.1;simp only[numM,shapedS]at this;simp only[smB];simp at this⊢;omega
theorem npart{n:Int}(hv:(n==1)=false→VS (numM n)):smB n=true:=by
 cases q:n==1 with
 |true=>
  simp only[beq_iff_eq]at q;subst q;decide
 |false=>exact smB_VS (hv q)
theorem VS_and:VS (fmW andFm):=by
 have:fmW andFm=listM []:=by simp[fmW,fmWs,andFm,opAnd,opAtom,opSame,opLt,opLe,opEq,opAll,opSome,isCmp,isQ,bEq]
 rw[this];refine⟨by decide,by decide,by decide⟩
theorem fpartB{f:Fm}(hs:shapedF f=true)(hv:tru f=false→VS (fmW f)):validF f=true:=by
 cases q:tru f with
 |true=>
  rw[tru_eq hs]at q;have e:=isAlw_eq q;subst e;exact validF_of hs VS_and
 |false=>exact validF_of hs (hv q)
theorem epartB{l:List Ch}(hR:l.all chR=true)(hv:((l.length:Int)==0)=false→VS (effW l)):l.all chB=true:=by
 cases l with
 |nil=>rfl
 |cons c l=>exact effW_all (by unfold writeRB;rw[hR,VS_iff.2 (hv (by simp only[List.length_cons,beq_eq_false_iff_ne,ne_eq];omega))];rfl)
theorem acR_acB{a:Ac}(h:acR a=true)(hv:VS (acW a)):acB a=true:=by
 unfold acR at h;simp only[Bool.and_eq_true]at h;obtain⟨n,p,c,s,f,ch⟩:=h;have hk: ∀ x∈acGL tru fmW effW a,VS x:=fun x hx=>VS_kid hv (List.mem_cons_of_mem _ hx);have f2:=fpartB f (fun q=>hk _ (by unfold acGL;exact ifP_sub (ifP_mem q)));have e2:=epartB ch (fun q=>hk _ (by unfold acGL;exact ifP_mem q));unfold acB;rw[n,f2,e2,parB_pmR2,p,c];try rfl
theorem duR_duB{a:Du}(h:duR a=true)(hv:VS (duW a)):duB a=true:=by
 unfold duR at h;simp only[Bool.and_eq_true]at h;obtain⟨n,p,s,c1,c2,f1,f2,f3⟩:=h;have hk: ∀ x∈duGL tru fmW effW a,VS x:=fun x hx=>VS_kid hv (List.mem_cons_of_mem _ hx);have g1:=fpartB f1 (fun q=>hk _ (by unfold duGL;exact ifP_sub (ifP_sub (ifP_sub (ifP_sub (ifP_mem q))))));have g2:=fpartB f2 (fun q=>hk _ (by unfold duGL;exact ifP_sub (ifP_sub (ifP_sub (ifP_mem q)))));have g3:=fpartB f3 (fun q=>hk _ (by unfold duGL;exact ifP_sub (ifP_sub (ifP_mem q))));have e1:=epartB c1 (fun q=>hk _ (by unfold duGL;exact ifP_sub (ifP_mem q)));have e2:=epartB c2 (fun q=>hk _ (by unfold duGL;exact ifP_mem q));unfold duB;rw[n,g1,g2,g3,e1,e2,parB_pmR2,p];try rfl
theorem acB_acR{a:Ac}(h:acB a=true)(hv:VS (acW a)):acR a=true:=by
 unfold acB at h;simp only[Bool.and_eq_true]at h;obtain⟨⟨⟨⟨n,c⟩,p⟩,f⟩,ch⟩:=h;have hk: ∀ x∈acGL tru fmW effW a,VS x:=fun x hx=>VS_kid hv (List.mem_cons_of_mem _ hx);have hs:=npart (n:=a.cost) (fun q=>hk _ (by unfold acGL;exact ifP_sub (ifP_sub (ifP_mem q))));unfold acR;rw[n,validF_shaped f,(effX_W ch).1, ← parB_pmR2,p,c,hs];try rfl
theorem duB_duR{a:Du}(h:duB a=true)(hv:VS (duW a)):duR a=true:=by
 unfold duB at h;simp only[Bool.and_eq_true]at h;obtain⟨⟨⟨⟨⟨⟨n,p⟩,f1⟩,f2⟩,f3⟩,c1⟩,c2⟩:=h;have hk: ∀ x∈duGL tru fmW effW a,VS x:=fun x hx=>VS_kid hv (List.mem_cons_of_mem _ hx);have hs:=npart (n:=a.duration) (fun q=>hk _ (by unfold duGL;exact ifP_sub (ifP_sub (ifP_sub (ifP_sub (ifP_sub (ifP_mem q)))))));unfold duR;rw[n,validF_shaped f1,validF_shaped f2,validF_shaped f3,(effX_W c1).1,(effX_W c2).1, ← parB_pmR2,p,hs];try rfl
theorem prB_R:prB=prR:=by
 funext p;simp only[prB,prR,parB_pmR2]
theorem dmW_mem{d:Dm}(hv:VS (dmW d)):(∀ a∈d.actions,VS (acW a))∧(∀ a∈d.duratives,VS (duW a))∧ ∀ f∈d.functions,VS (fuX f):=by
 have hk: ∀ x∈dmGL acW duW d,VS x:=fun x hx=>VS_kid hv (List.mem_cons_of_mem _ hx);refine⟨fun a ha=>hk _ ?_,fun a ha=>hk _ ?_,fun f hf=>?_⟩
 ·unfold dmGL;exact List.mem_append_left _ (List.mem_append_right _ (List.mem_map_of_mem ha))
 ·unfold dmGL;exact List.mem_append_right _ (List.mem_map_of_mem ha)
 ·have:VS (listM (wordM opFuns::d.functions.map fuX)):=hk _ (by unfold dmGL;exact List.mem_append_left _ (List.mem_append_left _ (grpP_mem (List.mem_map_of_mem hf))));exact VS_kid this (List.mem_cons_of_mem _ (List.mem_map_of_mem hf))
theorem dmR_dmB{d:Dm}(h:dmR d=true)(hv:VS (dmW d)):dmB d=true:=by
 unfold dmR at h;simp only[Bool.and_eq_true]at h;obtain⟨n,t,c,p,f,a,u⟩:=h;obtain⟨va,vu,_⟩:=dmW_mem hv;have a2:d.actions.all acB=true:=by
  rw[List.all_eq_true]at a⊢;exact fun x hx=>acR_acB (a x hx) (va x hx)
 have u2:d.duratives.all duB=true:=by
  rw[List.all_eq_true]at u⊢;exact fun x hx=>duR_duB (u x hx) (vu x hx)
 have f2:d.functions.all fuB=true:=by
  rw[List.all_eq_true]at f⊢;intro x hx;have:=f x hx;unfold fuR at this;simp only[Bool.and_eq_true]at this;unfold fuB;rw[this.1,parB_pmR2,this.2.1];try rfl
 unfold dmB;rw[n,parB_pmR2,t,c,prB_R,p,f2,a2,u2];try rfl
theorem dmB_dmR{d:Dm}(h:dmB d=true)(hv:VS (dmW d)):dmR d=true:=by
 unfold dmB at h;simp only[Bool.and_eq_true]at h;obtain⟨⟨⟨⟨⟨⟨n,t⟩,c⟩,p⟩,f⟩,a⟩,u⟩:=h;obtain⟨va,vu,vf⟩:=dmW_mem hv;have a2:d.actions.all acR=true:=by
  rw[List.all_eq_true]at a⊢;exact fun x hx=>acB_acR (a x hx) (va x hx)
 have u2:d.duratives.all duR=true:=by
  rw[List.all_eq_true]at u⊢;exact fun x hx=>duB_duR (u x hx) (vu x hx)
 have f2:d.functions.all fuR=true:=by
  rw[List.all_eq_true]at f⊢;intro x hx;have:=f x hx;unfold fuB at this;simp only[Bool.and_eq_true]at this;have w:=vf x hx;have w1:smB x.lo=true:=smB_VS (VS_kid w (by simp));have w2:smB x.hi=true:=smB_VS (VS_kid w (by simp));unfold fuR;rw[this.1, ← parB_pmR2,this.2,w1,w2];try rfl
 unfold dmR;rw[n, ← parB_pmR2,t,c, ← prB_R,p,f2,a2,u2];try rfl
def writeDB(d:Dm):Bool:=dmB d&&(svalid (dmX d) 0 0).1
def writeDR(d:Dm):Bool:=dmR d&&(svalid (dmW d) 0 0).1
theorem writeD_B{d:Dm}(h:writeDR d=true):dmB d=true:=by
 unfold writeDR at h;simp only[Bool.and_eq_true]at h;exact dmR_dmB h.1 (VS_iff.1 h.2)
theorem writeD_same(d:Dm):writeDB d=writeDR d:=by
 cases hr:writeDR d with
 |true=>
  have hb:=writeD_B hr;unfold writeDR at hr;simp only[Bool.and_eq_true]at hr;unfold writeDB;rw[hb,dmX_W hb,hr.2];try rfl
 |false=>
  cases he:writeDB d with
  |false=>rfl
  |true=>
   unfold writeDB at he;simp only[Bool.and_eq_true]at he;have hx:=dmX_W he.1;rw[hx]at he;unfold writeDR at hr;rw[dmB_dmR he.1 (VS_iff.1 he.2),he.2]at hr;exact hr
theorem writeD_eq{d:Dm}(h:writeDR d=true):dmX d=dmW d:=dmX_W (writeD_B h)
theorem bulkR_lenG{α:Type}(f:α→List PV)(hf: ∀ a,1≤PV.bulkL (f a)): ∀ l:List α,l.length≤PV.bulkR (l.map f)
 |[]=>Nat.zero_le _
 |a::l=>by
  have:=bulkR_lenG f hf l;have:=hf a;simp only[List.map_cons,PV.bulkR,List.length_cons];omega
theorem bulkR_memG{α:Type}(f:α→List PV){a:α}: ∀ {l:List α},a∈l→PV.bulkL (f a)≤PV.bulkR (l.map f)
 |b::l,h=>by
  simp only[List.map_cons,PV.bulkR];rcases List.mem_cons.1 h with rfl|h
  ·omega
  ·have:=bulkR_memG f h;omega
theorem nodesG{α:Type}(f:α→List PV)(g:α→Sx)(k:Nat)(hf: ∀ a,(g a).nodes≤k*PV.bulkL (f a)): ∀ l:List α,Sx.nodess (l.map g)≤k*PV.bulkR (l.map f)
 |[]=>by simp[Sx.nodess]
 |a::l=>by
  have:=nodesG f g k hf l;have:=hf a;simp only[List.map_cons,PV.bulkR,Sx.nodess,Nat.mul_add];omega
theorem pr_bulk(p:Pr):PV.bulkR (pmRows p.params)+2≤PV.bulkL (prRow p):=by
 obtain⟨n,l⟩:=p;simp only[prRow,PV.bulkL,PV.bulk,sPV];omega
theorem fu_bulk(p:Fu):PV.bulkR (pmRows p.params)+4≤PV.bulkL (fuRow p):=by
 obtain⟨n,l,a,b⟩:=p;simp only[fuRow,PV.bulkL,PV.bulk,sPV];omega
theorem ac_bulk(a:Ac):PV.bulkR (pmRows a.params)+PV.bulkL a.pre.cells+PV.bulkR (chRows a.changes)+4≤PV.bulkL (acRow a):=by
 obtain⟨n,p,c,f,l⟩:=a;simp only[acRow,List.cons_append,List.nil_append,PV.bulkL_append,PV.bulkL,PV.bulk,sPV];omega
theorem du_bulk(a:Du):PV.bulkR (pmRows a.params)+PV.bulkL a.start.cells+PV.bulkL a.over.cells+PV.bulkL a.stop.cells+PV.bulkR (chRows a.atStart)+PV.bulkR (chRows a.atStop)+5≤PV.bulkL (duRow a):=by
 obtain⟨n,p,c,f,g,k,l,m⟩:=a;simp only[duRow,List.cons_append,List.nil_append,PV.bulkL_append,PV.bulkL,PV.bulk,sPV];omega
theorem dm_bulk(d:Dm):PV.bulkR (pmRows d.types)+PV.bulkR (pmRows d.constants)+PV.bulkR (prRows d.predicates)+PV.bulkR (fuRows d.functions)+PV.bulkR (acRows d.actions)+PV.bulkR (duRows d.duratives)+7≤PV.bulkL d.cells:=by
 obtain⟨n,t,c,p,f,a,u⟩:=d;simp only[Dm.cells,PV.bulkL,PV.bulk,sPV];omega
theorem chs_small{l:List Ch}(h:PV.bulkR (chRows l)≤1048576):l.length≤1048576∧ ∀ c∈l,ChSm c:=
 ⟨Nat.le_trans (chs_bulk_len l) h,fun _ hc=>chSm_bulk (Nat.le_trans (chs_bulk_mem hc) h)⟩
theorem acSm_bulk{a:Ac}(h:PV.bulkL (acRow a)≤1048576):AcSm a:=by
 have:=ac_bulk a;have p1:=bulkR_pms a.params;have hc:=chs_small (l:=a.changes) (by omega);exact⟨by omega,Fm.small_bulk _ (by omega),hc.1,hc.2⟩
theorem duSm_bulk{a:Du}(h:PV.bulkL (duRow a)≤1048576):DuSm a:=by
 have:=du_bulk a;have p1:=bulkR_pms a.params;exact⟨by omega,Fm.small_bulk _ (by omega),Fm.small_bulk _ (by omega),Fm.small_bulk _ (by omega),chs_small (by omega),chs_small (by omega)⟩
theorem dm_small{d:Dm}(hb:PV.bulkL d.cells≤1048576):DmWS d:=by
 have:=dm_bulk d;have p1:=bulkR_pms d.types;have p2:=bulkR_pms d.constants;have l1:=bulkR_lenG prRow (fun a=>by have:=pr_bulk a;omega) d.predicates;have l2:=bulkR_lenG fuRow (fun a=>by have:=fu_bulk a;omega) d.functions;have l3:=bulkR_lenG acRow (fun a=>by have:=ac_bulk a;omega) d.actions;have l4:=bulkR_lenG duRow (fun a=>by have:=du_bulk a;omega) d.duratives;have e1:d.predicates.map prRow=prRows d.predicates:=rfl;have e2:d.functions.map fuRow=fuRows d.functions:=rfl;have e3:d.actions.map acRow=acRows d.actions:=rfl;have e4:d.duratives.map duRow=duRows d.duratives:=rfl;rw[e1]at l1;rw[e2]at l2;rw[e3]at l3;rw[e4]at l4;refine⟨by omega,by omega,⟨by omega,fun p hp=>?_⟩,⟨by omega,fun p hp=>?_⟩,⟨by omega,fun a ha=>acSm_bulk ?_⟩,⟨by omega,fun a ha=>duSm_bulk ?_⟩⟩
 ·have hm:=bulkR_memG prRow hp;rw[e1]at hm;have:=pr_bulk p;have:=bulkR_pms p.params;omega
 ·have hm:=bulkR_memG fuRow hp;rw[e2]at hm;have:=fu_bulk p;have:=bulkR_pms p.params;omega
 ·have hm:=bulkR_memG acRow ha;rw[e3]at hm;omega
 ·have hm:=bulkR_memG duRow ha;rw[e4]at hm;omega
theorem ifP_nodes(L:List Sx)(m:Bool)(kw:ByteArray)(v:Sx):Sx.nodess (ifP L m kw v)≤Sx.nodess L+v.nodes+1:=by
 unfold ifP;cases m with
 |true=>simp only[cond_true];omega
 |false=>simp only[cond_false,nodess_append,Sx.nodess,nd_word];omega
theorem grpP_nodes(L:List Sx)(kw:ByteArray)(ks:List Sx):Sx.nodess (grpP L kw ks)≤Sx.nodess L+Sx.nodess ks+2:=by
 unfold grpP;cases ks.isEmpty with
 |true=>simp only[cond_true];omega
 |false=>simp only[cond_false,nodess_append,Sx.nodess,list_nodes,nd_word];omega
theorem effW_nodes4(l:List Ch):(effW l).nodes≤4*PV.bulkR (chRows l)+2:=by
 have hn:=chWs_nodes l;unfold effW;cases l.isEmpty with
 |true=>simp[listM,Sx.nodes,Sx.nodess]
 |false=>simp only[cond_false,listM,Sx.nodes,Sx.nodess,nd_word];omega
theorem acW_nodes(a:Ac):(acW a).nodes≤4*PV.bulkL (acRow a):=by
 have hb:=ac_bulk a;have p:=bulkR_pms a.params;have f:=fmW_nodes a.pre;have e:=effW_nodes4 a.changes;have hp:(listM (paramsW a.params)).nodes=3*a.params.length+1:=by simp only[listM,Sx.nodes,nodess_params]
 have hn:(numM a.cost).nodes=1:=rfl;have g1:=ifP_nodes [wordM a.name] ((a.params.length:Int)==0) opPar (listM (paramsW a.params));have g2:=ifP_nodes (ifP [wordM a.name] ((a.params.length:Int)==0) opPar (listM (paramsW a.params))) (a.cost==1) opCost (numM a.cost);have g3:=ifP_nodes (ifP (ifP [wordM a.name] ((a.params.length:Int)==0) opPar (listM (paramsW a.params))) (a.cost==1) opCost (numM a.cost)) (tru a.pre) opPre (fmW a.pre);have g4:=ifP_nodes (ifP (ifP (ifP [wordM a.name] ((a.params.length:Int)==0) opPar (listM (paramsW a.params))) (a.cost==1) opCost (numM a.cost)) (tru a.pre) opPre (fmW a.pre)) ((a.changes.length:Int)==0) opEff (effW a.changes);have e0:Sx.nodess [wordM a.name]=1:=rfl;unfold acW acGL;simp only[list_nodes,Sx.nodess,nd_word];omega
theorem duW_nodes(a:Du):(duW a).nodes≤4*PV.bulkL (duRow a):=by
 have hb:=du_bulk a;have p:=bulkR_pms a.params;have f1:=fmW_nodes a.start;have f2:=fmW_nodes a.over;have f3:=fmW_nodes a.stop;have e1:=effW_nodes4 a.atStart;have e2:=effW_nodes4 a.atStop;have hp:(listM (paramsW a.params)).nodes=3*a.params.length+1:=by simp only[listM,Sx.nodes,nodess_params]
 have hn:(numM a.duration).nodes=1:=rfl;have e0:Sx.nodess [wordM a.name]=1:=rfl;have key: ∀ (L:List Sx)(m:Bool)(kw:ByteArray)(v:Sx)(n:Nat),Sx.nodess L≤n→Sx.nodess (ifP L m kw v)≤n+v.nodes+1:=fun L m kw v n h=>by have:=ifP_nodes L m kw v;omega
 have:=key _ ((a.atStop.length:Int)==0) opAtE (effW a.atStop) _ (key _ ((a.atStart.length:Int)==0) opAtS (effW a.atStart) _ (key _ (tru a.stop) opEnd (fmW a.stop) _ (key _ (tru a.over) opOve (fmW a.over) _ (key _ (tru a.start) opSta (fmW a.start) _ (key _ (a.duration==1) opDtn (numM a.duration) _ (key _ ((a.params.length:Int)==0) opPar (listM (paramsW a.params)) _ (Nat.le_of_eq e0)))))));unfold duW duGL;simp only[list_nodes,Sx.nodess,nd_word];omega
theorem dmW_nodes{d:Dm}(hb:PV.bulkL d.cells≤1048576):(dmW d).nodes≤bigN∧(dmW d).depth≤bigN:=by
 have hd:=Sx.depth_nodes (dmW d);have bb:=dm_bulk d;have p1:=bulkR_pms d.types;have p2:=bulkR_pms d.constants;have n1:=nodesG prRow prX 4 (fun p=>by
  have:=pr_bulk p;have:=bulkR_pms p.params;simp only[prX,list_nodes,Sx.nodess,nd_word,nodess_params];omega) d.predicates
 have n2:=nodesG fuRow fuX 4 (fun p=>by
  have:=fu_bulk p;have:=bulkR_pms p.params;have h1:(numM p.lo).nodes=1:=rfl;have h2:(numM p.hi).nodes=1:=rfl;simp only[fuX,list_nodes,Sx.nodess,nodess_append,nd_word,nodess_params,List.cons_append,h1,h2];omega) d.functions
 have n3:=nodesG acRow acW 4 acW_nodes d.actions;have n4:=nodesG duRow duW 4 duW_nodes d.duratives;have e1:d.predicates.map prRow=prRows d.predicates:=rfl;have e2:d.functions.map fuRow=fuRows d.functions:=rfl;have e3:d.actions.map acRow=acRows d.actions:=rfl;have e4:d.duratives.map duRow=duRows d.duratives:=rfl;rw[e1]at n1;rw[e2]at n2;rw[e3]at n3;rw[e4]at n4;have key: ∀ (L:List Sx)(kw:ByteArray)(ks:List Sx)(n:Nat),Sx.nodess L≤n→Sx.nodess (grpP L kw ks)≤n+Sx.nodess ks+2:=fun L kw ks n h=>by have:=grpP_nodes L kw ks;omega
 have e0:Sx.nodess [listM [wordM opDom9,wordM d.name]]=3:=rfl;have g:=key _ opFuns (d.functions.map fuX) _ (key _ opPreds (d.predicates.map prX) _ (key _ opCons (paramsW d.constants) _ (key _ opTys (paramsW d.types) _ (Nat.le_of_eq e0))));rw[nodess_params,nodess_params]at g;have:(dmW d).nodes≤bigN:=by
  unfold dmW dmGL;simp only[list_nodes,Sx.nodess,nd_word,nodess_append,bigN];omega
 exact⟨this,by omega⟩
theorem acGL_inv{t:Fm→Bool}{ff:Fm→Sx}{fe:List Ch→Sx}{a:Ac}{x:Sx}(h:x∈acGL t ff fe a):(∃ w,x=wordM w∧(w=a.name∨w.size≤20))∨x=listM (paramsW a.params)∨x=numM a.cost∨x=ff a.pre∨x=fe a.changes:=by
 unfold acGL at h;rcases ifP_inv h with h|rfl|rfl;rcases ifP_inv h with h|rfl|rfl;rcases ifP_inv h with h|rfl|rfl;rcases ifP_inv h with h|rfl|rfl
 ·simp only[List.mem_cons,List.not_mem_nil,or_false]at h;exact .inl ⟨_,h,.inl rfl⟩
 all_goals first
  |exact .inl ⟨_,rfl,.inr (by decide)⟩
  |simp
theorem duGL_inv{t:Fm→Bool}{ff:Fm→Sx}{fe:List Ch→Sx}{a:Du}{x:Sx}(h:x∈duGL t ff fe a):(∃ w,x=wordM w∧(w=a.name∨w.size≤20))∨x=listM (paramsW a.params)∨x=numM a.duration∨x=ff a.start∨x=ff a.over∨x=ff a.stop∨x=fe a.atStart∨x=fe a.atStop:=by
 unfold duGL at h;rcases ifP_inv h with h|rfl|rfl;rcases ifP_inv h with h|rfl|rfl;rcases ifP_inv h with h|rfl|rfl;rcases ifP_inv h with h|rfl|rfl;rcases ifP_inv h with h|rfl|rfl;rcases ifP_inv h with h|rfl|rfl;rcases ifP_inv h with h|rfl|rfl
 ·simp only[List.mem_cons,List.not_mem_nil,or_false]at h;exact .inl ⟨_,h,.inl rfl⟩
 all_goals first
  |exact .inl ⟨_,rfl,.inr (by decide)⟩
  |simp
theorem ifP_len2{L:List Sx}{m:Bool}{kw:ByteArray}{v:Sx}{n:Nat}(h:L.length≤n):(ifP L m kw v).length≤n+2:=by have:=ifP_len L m kw v;omega
theorem grpP_len2{L ks:List Sx}{kw:ByteArray}{n:Nat}(h:L.length≤n):(grpP L kw ks).length≤n+1:=by have:=grpP_len L kw ks;omega
theorem numM_ok{n:Int}(h: -9223372036854775808≤n∧n≤9223372036854775807):(numM n).ok:=⟨⟨by decide,by decide⟩,h,by decide,by simp,trivial⟩
theorem pms_okX{l:List Pm}(hl:l.length≤1048576)(h: ∀ p∈l,p.ok):(listM (paramsW l)).ok:=listM_ok (by rw[paramsW_len];unfold bigN;omega) (paramsW_ok _ h)
theorem listM_okS{l:List Sx}(hl:l.length≤bigN)(h: ∀ x∈l,x.ok):(listM l).ok:=listM_ok hl (Sx.oks_iff.2 h)
theorem acG_ok{t:Fm→Bool}{ff:Fm→Sx}{fe:List Ch→Sx}{a:Ac}(ha:a.ok)(hs:AcSm a)(hf:(ff a.pre).ok)(he:(fe a.changes).ok):(listM (wordM opAct::acGL t ff fe a)).ok:=by
 have hl:(acGL t ff fe a).length≤1+2+2+2+2:=by unfold acGL;exact ifP_len2 (ifP_len2 (ifP_len2 (ifP_len2 (Nat.le_refl _))))
 refine listM_okS (by simp only[List.length_cons,bigN];omega) ?_;intro x hx;rcases List.mem_cons.1 hx with rfl|hx
 ·exact wordM_ok (by decide)
 rcases acGL_inv hx with⟨w,rfl,rfl|hw⟩|rfl|rfl|rfl|rfl
 ·exact wordM_ok ha.name
 ·exact wordM_ok (by unfold bigN;omega)
 ·exact pms_okX hs.params ha.params.2
 ·exact numM_ok ha.cost
 ·exact hf
 ·exact he
theorem duG_ok{t:Fm→Bool}{ff:Fm→Sx}{fe:List Ch→Sx}{a:Du}(ha:a.ok)(hs:DuSm a)(h1:(ff a.start).ok)(h2:(ff a.over).ok)(h3:(ff a.stop).ok)(h4:(fe a.atStart).ok)(h5:(fe a.atStop).ok):(listM (wordM opDur::duGL t ff fe a)).ok:=by
 have hl:(duGL t ff fe a).length≤1+2+2+2+2+2+2+2:=by unfold duGL;exact ifP_len2 (ifP_len2 (ifP_len2 (ifP_len2 (ifP_len2 (ifP_len2 (ifP_len2 (Nat.le_refl _)))))))
 refine listM_okS (by simp only[List.length_cons,bigN];omega) ?_;intro x hx;rcases List.mem_cons.1 hx with rfl|hx
 ·exact wordM_ok (by decide)
 rcases duGL_inv hx with⟨w,rfl,rfl|hw⟩|rfl|rfl|rfl|rfl|rfl|rfl|rfl
 ·exact wordM_ok ha.name
 ·exact wordM_ok (by unfold bigN;omega)
 ·exact pms_okX hs.params ha.params.2
 ·exact numM_ok ha.duration
 ·exact h1
 ·exact h2
 ·exact h3
 ·exact h4
 ·exact h5
theorem dmGL_inv{fa:Ac→Sx}{fd:Du→Sx}{d:Dm}{x:Sx}(h:x∈dmGL fa fd d):x=listM [wordM opDom9,wordM d.name]∨(∃ w,w.size≤20∧(x=listM (wordM w::paramsW d.types)∨x=listM (wordM w::paramsW d.constants)∨x=listM (wordM w::d.predicates.map prX)∨x=listM (wordM w::d.functions.map fuX)))∨(∃ a∈d.actions,x=fa a)∨ ∃ a∈d.duratives,x=fd a:=by
 unfold dmGL at h;rcases List.mem_append.1 h with h|h
 ·rcases List.mem_append.1 h with h|h
  ·rcases grpP_inv h with h|rfl
   ·rcases grpP_inv h with h|rfl
    ·rcases grpP_inv h with h|rfl
     ·rcases grpP_inv h with h|rfl
      ·simp only[List.mem_cons,List.not_mem_nil,or_false]at h;exact .inl h
      ·exact .inr (.inl ⟨_,by decide,.inl rfl⟩)
     ·exact .inr (.inl ⟨_,by decide,.inr (.inl rfl)⟩)
    ·exact .inr (.inl ⟨_,by decide,.inr (.inr (.inl rfl))⟩)
   ·exact .inr (.inl ⟨_,by decide,.inr (.inr (.inr rfl))⟩)
  ·rw [List.mem_map]at h;obtain⟨a,ha,rfl⟩:=h;exact .inr (.inr (.inl ⟨a,ha,rfl⟩))
 ·rw [List.mem_map]at h;obtain⟨a,ha,rfl⟩:=h;exact .inr (.inr (.inr ⟨a,ha,rfl⟩))
theorem prX_ok{p:Pr}(h:p.ok)(hl:p.params.length≤1048576):(prX p).ok:=listM_ok (by simp only[List.length_cons,paramsW_len,bigN];omega) ⟨wordM_ok h.name,paramsW_ok _ h.params.2⟩
theorem fuX_ok{p:Fu}(h:p.ok)(hl:p.params.length≤1048576):(fuX p).ok:=by
 refine listM_okS (by simp only[List.length_cons,List.length_append,paramsW_len,List.length_nil,bigN];omega) ?_;intro x hx;simp only[List.cons_append,List.mem_cons,List.mem_append,List.not_mem_nil,or_false]at hx;rcases hx with rfl|hx|rfl|rfl
 ·exact wordM_ok h.name
 ·exact Sx.oks_iff.1 (paramsW_ok _ h.params.2) x hx
 ·exact numM_ok h.lo
 ·exact numM_ok h.hi
theorem dmG_ok{fa:Ac→Sx}{fd:Du→Sx}{d:Dm}(hd:d.ok)(hs:DmWS d)(ha: ∀ a∈d.actions,(fa a).ok)(hu: ∀ a∈d.duratives,(fd a).ok):(listM (wordM opDef9::dmGL fa fd d)).ok:=by
 have hl:(dmGL fa fd d).length≤1+1+1+1+1+d.actions.length+d.duratives.length:=by
  unfold dmGL;rw[List.length_append,List.length_append,List.length_map,List.length_map];have:(grpP (grpP (grpP (grpP [listM [wordM opDom9,wordM d.name]] opTys (paramsW d.types)) opCons (paramsW d.constants)) opPreds (d.predicates.map prX)) opFuns (d.functions.map fuX)).length≤1+1+1+1+1:=grpP_len2 (grpP_len2 (grpP_len2 (grpP_len2 (Nat.le_refl _))));omega
 have l1:=hs.acts.1;have l2:=hs.durs.1;have l3:=hs.preds.1;have l4:=hs.funs.1;have l5:=hs.types;have l6:=hs.consts;refine listM_okS (by simp only[List.length_cons,bigN];omega) ?_;intro x hx;rcases List.mem_cons.1 hx with rfl|hx
 ·exact wordM_ok (by decide)
 rcases dmGL_inv hx with rfl|⟨w,hw,rfl|rfl|rfl|rfl⟩|⟨a,h,rfl⟩|⟨a,h,rfl⟩
 ·exact ok2 (wordM_ok (by decide)) (wordM_ok hd.name)
 ·exact listM_ok (by simp only[List.length_cons,paramsW_len,bigN];omega) ⟨wordM_ok (by unfold bigN;omega),paramsW_ok _ hd.types.2⟩
 ·exact listM_ok (by simp only[List.length_cons,paramsW_len,bigN];omega) ⟨wordM_ok (by unfold bigN;omega),paramsW_ok _ hd.constants.2⟩
 ·refine listM_ok (by simp only[List.length_cons,List.length_map,bigN];omega) ⟨wordM_ok (by unfold bigN;omega),Sx.oks_iff.2 ?_⟩;intro y hy;rw[List.mem_map]at hy;obtain⟨p,hp,rfl⟩:=hy;exact prX_ok (hd.predicates.2 p hp) (hs.preds.2 p hp)
 ·refine listM_ok (by simp only[List.length_cons,List.length_map,bigN];omega) ⟨wordM_ok (by unfold bigN;omega),Sx.oks_iff.2 ?_⟩;intro y hy;rw[List.mem_map]at hy;obtain⟨p,hp,rfl⟩:=hy;exact fuX_ok (hd.functions.2 p hp) (hs.funs.2 p hp)
 ·exact ha a h
 ·exact hu a h
theorem chs_both{l:List Ch}(h1:Chs.ok l)(h2: ∀ c∈l,ChSm c): ∀ c∈l,c.ok∧ChSm c:=fun c hc=>⟨h1.2 c hc,h2 c hc⟩
theorem dmX_ok{d:Dm}(hd:d.ok)(hs:DmWS d):(dmX d).ok:=by
 rw[dmX_G];refine dmG_ok hd hs (fun a ha=>?_) (fun a ha=>?_)
 ·have h1:=hd.actions.2 a ha;have h2:=hs.acts.2 a ha;rw[acX_G];exact acG_ok h1 h2 (fmX_ok h1.pre h2.pre) (effX_ok h2.chs (chs_both h1.changes h2.ch))
 ·have h1:=hd.duratives.2 a ha;have h2:=hs.durs.2 a ha;rw[duX_G];exact duG_ok h1 h2 (fmX_ok h1.start h2.start) (fmX_ok h1.over h2.over) (fmX_ok h1.stop h2.stop) (effX_ok h2.atS.1 (chs_both h1.atStart h2.atS.2)) (effX_ok h2.atE.1 (chs_both h1.atStop h2.atE.2))
theorem acW_ok{a:Ac}(hR:acR a=true)(h1:a.ok)(h2:AcSm a):(acW a).ok:=by
 unfold acR at hR;simp only[Bool.and_eq_true]at hR;obtain⟨_,_,_,_,f,c⟩:=hR;exact acG_ok h1 h2 (fmW_ok _ h1.pre h2.pre f) (effW_ok h2.chs c (chs_both h1.changes h2.ch))
theorem duW_ok{a:Du}(hR:duR a=true)(h1:a.ok)(h2:DuSm a):(duW a).ok:=by
 unfold duR at hR;simp only[Bool.and_eq_true]at hR;obtain⟨_,_,_,c1,c2,f1,f2,f3⟩:=hR;exact duG_ok h1 h2 (fmW_ok _ h1.start h2.start f1) (fmW_ok _ h1.over h2.over f2) (fmW_ok _ h1.stop h2.stop f3) (effW_ok h2.atS.1 c1 (chs_both h1.atStart h2.atS.2)) (effW_ok h2.atE.1 c2 (chs_both h1.atStop h2.atE.2))
theorem dmW_ok{d:Dm}(hR:dmR d=true)(hd:d.ok)(hs:DmWS d):(dmW d).ok:=by
 unfold dmR at hR;simp only[Bool.and_eq_true]at hR;obtain⟨_,_,_,_,_,ra,rd⟩:=hR;rw[List.all_eq_true]at ra rd;exact dmG_ok hd hs (fun a ha=>acW_ok (ra a ha) (hd.actions.2 a ha) (hs.acts.2 a ha)) (fun a ha=>duW_ok (rd a ha) (hd.duratives.2 a ha) (hs.durs.2 a ha))
theorem pos_num(n:Int):posX (numM n)=true:=by simp[numM,posX,posXs]
theorem acW_pos(a:Ac):posX (acW a)=true:=by
 refine pos_list fun x hx=>?_;rcases List.mem_cons.1 hx with rfl|hx
 ·exact pos_word _
 rcases acGL_inv hx with⟨w,rfl,_⟩|rfl|rfl|rfl|rfl
 ·exact pos_word _
 ·exact pos_list (params_pos _)
 ·exact pos_num _
 ·exact fmW_pos _
 ·exact effW_pos _
theorem duW_pos(a:Du):posX (duW a)=true:=by
 refine pos_list fun x hx=>?_;rcases List.mem_cons.1 hx with rfl|hx
 ·exact pos_word _
 rcases duGL_inv hx with⟨w,rfl,_⟩|rfl|rfl|rfl|rfl|rfl|rfl|rfl
 ·exact pos_word _
 ·exact pos_list (params_pos _)
 ·exact pos_num _
 ·exact fmW_pos _
 ·exact fmW_pos _
 ·exact fmW_pos _
 ·exact effW_pos _
 ·exact effW_pos _
theorem dmW_pos(d:Dm):posX (dmW d)=true:=by
 refine pos_list fun x hx=>?_;rcases List.mem_cons.1 hx with rfl|hx
 ·exact pos_word _
 rcases dmGL_inv hx with rfl|⟨w,_,rfl|rfl|rfl|rfl⟩|⟨a,_,rfl⟩|⟨a,_,rfl⟩
 ·refine pos_list fun y hy=>?_;simp only[List.mem_cons,List.not_mem_nil,or_false]at hy;rcases hy with rfl|rfl<;>exact pos_word _
 ·refine pos_list fun y hy=>?_;rcases List.mem_cons.1 hy with rfl|hy
  ·exact pos_word _
  ·exact params_pos _ _ hy
 ·refine pos_list fun y hy=>?_;rcases List.mem_cons.1 hy with rfl|hy
  ·exact pos_word _
  ·exact params_pos _ _ hy
 ·refine pos_list fun y hy=>?_;rcases List.mem_cons.1 hy with rfl|hy
  ·exact pos_word _
  ·rw [List.mem_map]at hy;obtain⟨p,_,rfl⟩:=hy;refine pos_list fun z hz=>?_;rcases List.mem_cons.1 hz with rfl|hz
   ·exact pos_word _
   ·exact params_pos _ _ hz
 ·refine pos_list fun y hy=>?_;rcases List.mem_cons.1 hy with rfl|hy
  ·exact pos_word _
  ·rw [List.mem_map]at hy;obtain⟨p,_,rfl⟩:=hy;refine pos_list fun z hz=>?_;simp only[List.cons_append,List.mem_cons,List.mem_append,List.not_mem_nil,or_false]at hz;rcases hz with rfl|hz|rfl|rfl
   ·exact pos_word _
   ·exact params_pos _ _ hz
   ·exact pos_num _
   ·exact pos_num _
 ·exact acW_pos a
 ·exact duW_pos a
end Go.Proofs.YtblgchkahpgdjaaGreat
namespace Go.Proofs.YtblgchkahpgdjaaGreat
open Go.AM
set_option maxHeartbeats 8000000
set_option maxRecDepth 20000
structure DqI(h:Heap)(L:List Sx)(p:PV)(H:Heap):Prop where
 grow:Grow h H
 ores:H.obj h.next=some (.arr 6 [sxZd])
 lt:h.next<H.next
 tl:Tl H (h.next+1) 6 p (Sx.rows L)
theorem DqI.up{h H H':Heap}{L:List Sx}{p:PV}(i:DqI h L p H)(g:Grow H H'):DqI h L p H':=
 ⟨i.grow.trans g,by rw[g.old _ i.lt];exact i.ores,Nat.lt_of_lt_of_le i.lt g.le,i.tl.old g⟩
theorem DqI.push{h H:Heap}{L:List Sx}{p:PV}(i:DqI h L p H)(X:Sx): ∃ Hk,isTail H p=some (Hk,Sx.rows L)∧zOk H 6 p=true∧Hk.next=H.next∧DqI h (L++[X]) (.own H.next 0 (L.length+1)) (Hk.new (.arr 6 (Sx.rows L++[X.cells]))):=by
 obtain⟨g,o,lt,tl⟩:=i;obtain⟨Hk,t1,t2,t3,t4,t5⟩:=tl.tail;have hk:=t5 h ⟨g.le,g.old⟩ (Nat.le_succ _);have e:Sx.rows (L++[X])=Sx.rows L++[X.cells]:=by simp[Sx.rows_map]
 refine⟨Hk,t1,t2,t3,(⟨hk.1,hk.2⟩:Grow h Hk).new _,by rw[obj_new (by omega),t4 _ (by omega)];exact o,show h.next<Hk.next+1 by omega,?_⟩;rw[e, ← t3];exact Tl.grow (by omega) (by simp[Sx.rows_len])
structure SmI(h:Heap)(j:Nat)(L:List Sx)(H:Heap):Prop where
 grow:Grow h H
 lo:h.next≤j
 hi:j<H.next
 oj:H.obj j=some (.arr 6 (Sx.rows L))
theorem SmI.some{h H:Heap}{j:Nat}{L:List Sx}(i:SmI h j L H)(kw:ByteArray)(v:Sx)(m:Bool): ∃ j2,(if m=true then PV.own j 0 L.length else .own H.next 0 (L.length+2))= .own j2 0 (ifP L m kw v).length∧SmI h j2 (ifP L m kw v) (if m=true then H else someH H j (L++[wordM kw,v])):=by
 obtain⟨g,l,hi,oj⟩:=i;cases m with
 |true=>exact⟨j,rfl,g,l,hi,oj⟩
 |false=>
  refine⟨H.next,by simp[ifP],⟨by simp only[Bool.false_eq_true,if_false,someH];have:=g.le;omega,fun k hk=>?_⟩,g.le,by simp[someH],by simp[someH,ifP]⟩;have:=g.le;simp only[Bool.false_eq_true,if_false,someH];rw[if_neg (by omega),if_neg (by omega)];exact g.old k hk
theorem rDomain_c{d:Dm}(hok:d.ok)(hsm:DmWS d)(hR:dmR d=true)(h:Heap):PCall Tryz.prog 49 [.agg d.cells] h fun r h'=>r= .agg (dmW d).cells∧h'=h:=by
 refine pcall_wf Ty.hb_49 fun hwf=>?_;refine PCall.frz Ty.hb_49 ?_;obtain⟨dn,dt,dc,dp,df,da,dd⟩:=d;unfold dmR at hR;simp only[Bool.and_eq_true]at hR;obtain⟨_,_,_,_,_,ra,rd⟩:=hR;rw[List.all_eq_true]at ra rd;have hW:dmW ⟨dn,dt,dc,dp,df,da,dd⟩=listM (wordM opDef9::(grpP (grpP (grpP (grpP [listM [wordM opDom9,wordM dn]] opTys (paramsW dt)) opCons (paramsW dc)) opPreds (dp.map prX)) opFuns (df.map fuX)++da.map acW++dd.map duW)):=rfl;generalize dmW ⟨dn,dt,dc,dp,df,da,dd⟩=DW at hW⊢;obtain⟨zt,zc,zp,zf,za,zd⟩:=hsm;obtain⟨_,_,_,_,_,oa,od⟩:=hok;simp only at zt zc zp zf za zd oa od ra rd;have hlT:=pmRows_len dt;have hlC:=pmRows_len dc;have hlP:=prRows_len dp;have hlF:=fuRows_len df;have hlA:=acRows_len da;have hlD:=duRows_len dd;have hRl: ∀ L:List Sx,(Sx.rows L).length=L.length:=Sx.rows_len;have g6: ∀ x:Sx,x.cells.length=6:=fun x=>by obtain⟨_,_,_,_,_,_⟩:=x;rfl
 have a6: ∀ x:Sx,x.cells.all oneC=true:=fun x=>by obtain⟨_,_,_,_,_,_⟩:=x;rfl
 have hwd: ∀ (s:ByteArray)(h:Heap),PCall Tryz.prog 103 [sPV s] h fun r h'=>r= .agg (wordM s).cells∧h'=h:=fun s h=>d9word_c;simp only[wordM,Sx.cells,Sx.rows]at hwd;have hl1: ∀ (w a:ByteArray)(h:Heap),PCall Tryz.prog 86 [sPV w,.imm 6 [[.sc (.int .i64 1),.sc (.int .i64 0),.sc (.int .i64 0),.sc (.int .i64 0),sPV a,.imm 6 []]]] h fun r h'=>r= .agg (listM [wordM w,wordM a]).cells∧h'=h:=fun w a h=>d9list_c (s:=w) (l:=[wordM a]) (by simp) h;have hwp: ∀ (l:List Pm),l.length≤1048576→ ∀ h:Heap,PCall Tryz.prog 30 [.imm 2 (pmRows l)] h fun r h'=>r= .imm 6 (Sx.rows (paramsW l))∧h'=h:=fun l hl h=>rwriteParams_c hl h;have hli: ∀ (w:ByteArray)(L:List Sx),L.length≤1099511627776→ ∀ h:Heap,PCall Tryz.prog 86 [sPV w,.imm 6 (Sx.rows L)] h fun r h'=>r= .agg (listM (wordM w::L)).cells∧h'=h:=fun w L hL h=>d9list_c hL h;refine pcall_body (ow:=fun t=>t==17||t==124||t==180) (wf:=fun f=>f==30||f==105) Ty.mixed Tryz.func49 rfl Ty.hb_49 (by rw[Tryz.ntmps49];simp) ?_;rw[Tryz.ntmps49,Tryz.results49];repeat'(first|refine a_seq fun K hK=>?_|refine uR trivial ?_|(refine uN hK ?_;clear hK)|apply zI)
 refine uU trivial (hwd _ _) ?_;refine wt trivial ?_;refine uU (uu3 g6 a6 @nsucc) (hl1 _ _ _) ?_;repeat'(first|refine cK ?_|refine nK ?_|with_reducible refine a_hold 2 ?_|(refine uN hK ?_;clear hK)|apply zI)
 refine⟨?_⟩;refine a_genX (fun S H=>S 1= .cptr [sPV dn,.imm 2 (pmRows dt),.imm 2 (pmRows dc),.imm 2 (prRows dp),.imm 4 (fuRows df),.imm 10 (acRows da),.imm 23 (duRows dd)]∧S 2= .ptr h.next 0 0∧ ∃ q,S 3=q∧DqI h [listM [wordM opDom9,wordM dn]] q H) ?_ ?_
 ·refine ⟨by simp only[Ty.w,simprocAttr,Dm.cells],by simp only[Ty.w,simprocAttr],_,rfl,?_⟩;simp only[Ty.w,simprocAttr];refine⟨((Grow.refl h).new _).new _,?_,?_,Tl.grow (Nat.le_refl _) rfl⟩
  ·rw [obj_new (Nat.lt_succ_self _)];simp only[Heap.new,if_true]
  ·simp only[Heap.new];omega
 generalize hL0:[listM [wordM opDom9,wordM dn]]=L0 at hW;have hl0:L0.length≤1:=by rw[← hL0];exact Nat.le_refl _
 try clear zz
 clear hl1 hL0;rintro S H ⟨s1,s2,q,s3,hI⟩;refine a_cut (fun S H=>S 1= .cptr [sPV dn,.imm 2 (pmRows dt),.imm 2 (pmRows dc),.imm 2 (prRows dp),.imm 4 (fuRows df),.imm 10 (acRows da),.imm 23 (duRows dd)]∧S 2= .ptr h.next 0 0∧ ∃ q,S 3=q∧DqI h (grpP L0 opTys (paramsW dt)) q H) ?_ ?_
 ·by_cases hz:dt=[]
  ·have d0:decide ((dt.length:Int)>0)=false:=(by rw[hz];try rfl);rw[show grpP L0 opTys (paramsW dt)=L0 by rw[hz];try rfl];replace zz:=uu5 s1 s2 s3 hlT d0;refine wt zz ?_;first|exact hI|exact⟨s1,s2,q,s3,hI⟩
  ·have d0:decide ((dt.length:Int)>0)=true:=(by have:=List.length_pos_iff.2 hz;simp;omega);have hx:grpP L0 opTys (paramsW dt)=L0++[listM (wordM opTys::paramsW dt)]:=by
    cases dt with
    |nil=>exact absurd rfl hz
    |cons a l=>rfl
   rw[hx];have hwq:=hwp dt zt;have hlq:=hli opTys (paramsW dt) (by rw[paramsW_len];omega);obtain⟨Hk,t1,t2,t3,hI2⟩:=hI.push (listM (wordM opTys::paramsW dt));have hb:(L0.length+1)*72≤140737488355328:=(by omega);replace zz:=uu4 s1 s3 hlT d0;refine wt zz ?_;refine uU (uu s1 s3) (hwq _) ?_;refine wt (uu s1 s3) ?_;replace zz:=uu9 s1 s2 s3 t1 t2 hRl hb g6 a6;refine uU zz (hlq _) ?_;(repeat'(first|refine cK ?_|refine nK ?_|(rw[if_pos];rotate_left 1;omega;simp(maxSteps:=2000000) only[Ty.w,simprocAttr,s1,s2,s3,t1,t2,hRl,hb,g6,a6])|apply zI));exact hI2
 try clear zz
 clear s1 s2 s3 hI q S H;generalize hL1:grpP L0 opTys (paramsW dt)=L1 at hW;have hl1:L1.length≤2:=by rw[← hL1];exact grpP_len2 (by omega)
 rintro S H ⟨s1,s2,q,s3,hI⟩;try clear zz
 clear hL1 hl0;refine a_cut (fun S H=>S 1= .cptr [sPV dn,.imm 2 (pmRows dt),.imm 2 (pmRows dc),.imm 2 (prRows dp),.imm 4 (fuRows df),.imm 10 (acRows da),.imm 23 (duRows dd)]∧S 2= .ptr h.next 0 0∧ ∃ q,S 3=q∧DqI h (grpP L1 opCons (paramsW dc)) q H) ?_ ?_
 ·by_cases hz:dc=[]
  ·have d0:decide ((dc.length:Int)>0)=false:=(by rw[hz];try rfl);rw[show grpP L1 opCons (paramsW dc)=L1 by rw[hz];try rfl];replace zz:=uu5 s1 s2 s3 hlC d0;refine wt zz ?_;first|exact hI|exact⟨s1,s2,q,s3,hI⟩
  ·have d0:decide ((dc.length:Int)>0)=true:=(by have:=List.length_pos_iff.2 hz;simp;omega);have hx:grpP L1 opCons (paramsW dc)=L1++[listM (wordM opCons::paramsW dc)]:=by
    cases dc with
    |nil=>exact absurd rfl hz
    |cons a l=>rfl
   rw[hx];have hwq:=hwp dc zc;have hlq:=hli opCons (paramsW dc) (by rw[paramsW_len];omega);obtain⟨Hk,t1,t2,t3,hI2⟩:=hI.push (listM (wordM opCons::paramsW dc));have hb:(L1.length+1)*72≤140737488355328:=(by omega);replace zz:=uu4 s1 s3 hlC d0;refine wt zz ?_;refine uU (uu s1 s3) (hwq _) ?_;refine wt (uu s1 s3) ?_;replace zz:=uu9 s1 s2 s3 t1 t2 hRl hb g6 a6;refine uU zz (hlq _) ?_;(repeat'(first|refine cK ?_|refine nK ?_|(rw[if_pos];rotate_left 1;omega;simp(maxSteps:=2000000) only[Ty.w,simprocAttr,s1,s2,s3,t1,t2,hRl,hb,g6,a6])|apply zI));exact hI2
 try clear zz
 clear s1 s2 s3 hI q S H;generalize hL2:grpP L1 opCons (paramsW dc)=L2 at hW;have hl2:L2.length≤3:=by rw[← hL2];exact grpP_len2 (by omega)
 rintro S H0 ⟨s1,s2,q,s3,hI⟩;try clear zz
 clear hL2 hl1;refine wt (uu3 s1 s2 s3) ?_;refine a_loop (fun m S H=>S 1= .cptr [sPV dn,.imm 2 (pmRows dt),.imm 2 (pmRows dc),.imm 2 (prRows dp),.imm 4 (fuRows df),.imm 10 (acRows da),.imm 23 (duRows dd)]∧S 2= .ptr h.next 0 0∧S 3=q∧ ∃ (k:Nat)(o:PV),S 5= .sc (.int .i64 k)∧S 4=o∧k≤dp.length∧m=dp.length-k∧Grow H0 H∧Tl H H0.next 6 o (Sx.rows ((dp.take k).map prX))) dp.length ?_ ?_
 ·simp only[Ty.w,simprocAttr,s1,s2,s3];exact⟨0,_,rfl,rfl,Nat.zero_le _,rfl,Grow.refl _,Tl.nil⟩
 try clear zz
 clear s1 s2 s3 S;rintro m S H ⟨s1,s2,s3,k,o,s5,s4,hk,rfl,hg,tl⟩;by_cases hlt:k<dp.length
 ·have hd:decide ((k:Int)<(dp.length:Int))=true:=by simp;omega
  have w7:IntKind.i64.wrap ((k:Int)+1)=((k+1:Nat):Int):=by rw[wrap64 (by omega) (by omega)];omega
  obtain⟨x,hx⟩: ∃ x,dp[k]? =some x:=⟨_,List.getElem?_eq_getElem hlt⟩;have hr:=prRows_get hx;have hpl:=zp.2 x (List.mem_of_getElem? hx);have hwq:=hwp x.params hpl;have hlq:=hli x.name (paramsW x.params) (by rw[paramsW_len];omega);obtain⟨H1,t1,t2,t3,t4,t5⟩:=tl.tail;have hkp:=t5 H0 ⟨hg.le,hg.old⟩ (Nat.le_refl _);have hR:Sx.rows ((dp.take (k+1)).map prX)=Sx.rows ((dp.take k).map prX)++[(prX x).cells]:=by
   rw[List.take_add_one,hx];simp only[Sx.rows_map,List.map_append,Option.toList_some,List.map_cons,List.map_nil]
  have hpr:(Sx.rows ((dp.take k).map prX)).length=k:=by rw[Sx.rows_len,List.length_map,List.length_take];omega
  have hb:(k+1)*72≤140737488355328:=by omega
  have e0:listM (wordM x.name::paramsW x.params)=prX x:=rfl;rw[e0]at hlq;generalize prX x=X at hR hlq;generalize Sx.rows ((dp.take k).map prX)=R at t1 hR hpr tl;try clear zz
  clear hx e0;obtain⟨xn,xp⟩:=x;simp only[prRow]at hr hwq hlq;replace zz:=uu7 s1 s3 s4 s5 hlP hd hr;refine wt zz ?_;replace zz:=uu5 s1 s3 s4 s5 hr;refine wy zz ?_;replace zz:=uu8 s1 s2 s3 s4 s5 hr g6 a6;refine uZ zz (hwq _) ?_;replace zz:=uu7 s1 s3 s4 s5 hr g6 a6;refine wy zz ?_;replace zz:=uu12 s1 s2 s3 s4 s5 hr t1 t2 hpr hb g6 a6;first|refine uV zz (hlq _) ?_|refine uJ zz hlq ?_
  replace zz:=uu12 s1 s2 s3 s4 s5 hr t1 t2 hpr hb g6 (uu a6 w7);repeat'(first|refine cK ?_|refine nK ?_|refine uR zz ?_|(refine uN hK ?_;clear hK)|refine uB zz ?_|(rw[if_pos];rotate_left 1;omega;simp(maxSteps:=2000000) only[Ty.w,simprocAttr,s1,s2,s3,s4,s5,hr,t1,t2,hpr,hb,g6,a6,w7])|apply zI)
  exact⟨dp.length-(k+1),by omega,k+1,_,rfl,rfl,by omega,rfl,(⟨hkp.1,hkp.2⟩:Grow H0 H1).new _,by rw[hR, ← t3];exact Tl.grow hkp.1 (by simp[hpr])⟩
 have hd:decide ((k:Int)<(dp.length:Int))=false:=by simp;omega
 have hke:k=dp.length:=by omega
 rw[hke,List.take_length]at tl;try clear zz
 clear hke hlt hk;replace zz:=uu7 s1 s2 s3 s4 s5 hlP hd;refine xH 11 zz ?_;refine⟨?_⟩;refine a_drop H0.next [(4,.imm 6 (Sx.rows (dp.map prX)))] rfl hg.le ?_ ?_
 ·intro x hx;simp only[List.mem_cons,List.not_mem_nil,or_false]at hx;subst hx;show FrzTo H0.next _ _ (S 4)
  rw[s4];exact tl_frzX tl
 refine a_genX (fun S H=>S 1= .cptr [sPV dn,.imm 2 (pmRows dt),.imm 2 (pmRows dc),.imm 2 (prRows dp),.imm 4 (fuRows df),.imm 10 (acRows da),.imm 23 (duRows dd)]∧S 2= .ptr h.next 0 0∧S 3=q∧S 4= .imm 6 (Sx.rows (dp.map prX))∧DqI h L2 q H) ⟨by simp only[frzS,Ty.w,simprocAttr,s1],by simp only[frzS,Ty.w,simprocAttr,s2],by simp only[frzS,Ty.w,simprocAttr,s3],by simp only[frzS,Ty.w,simprocAttr],hI.up (below_grow hg)⟩ ?_;try clear zz
 clear s1 s2 s3 s4 s5 hI hg tl hd S H o k H0;have hml:(dp.map prX).length=dp.length:=List.length_map ..;have hlq:=hli opPreds (dp.map prX) (by rw[hml];have:=zp.1;omega);have hgr:grpP L2 opPreds (dp.map prX)=if dp.length=0 then L2 else L2++[listM (wordM opPreds::dp.map prX)]:=by
  cases dp<;>simp[grpP]
 generalize dp.map prX=IV at hml hlq hgr hW;rintro S H ⟨s1,s2,s3,s4,hI⟩;have hRV:=hRl IV;refine a_cut (fun S H=>S 1= .cptr [sPV dn,.imm 2 (pmRows dt),.imm 2 (pmRows dc),.imm 2 (prRows dp),.imm 4 (fuRows df),.imm 10 (acRows da),.imm 23 (duRows dd)]∧S 2= .ptr h.next 0 0∧ ∃ q,S 3=q∧DqI h (grpP L2 opPreds IV) q H) ?_ ?_
 ·by_cases hz:dp.length=0
  ·have d0:decide ((IV.length:Int)>0)=false:=(by rw[hml,hz];try rfl);rw[hgr,if_pos hz];replace zz:=uu6 s1 s2 s3 s4 hRV d0;refine wt zz ?_;first|exact hI|exact⟨s1,s2,q,s3,hI⟩
  ·have d0:decide ((IV.length:Int)>0)=true:=(by simp;omega);rw[hgr,if_neg hz];obtain⟨Hk,t1,t2,t3,hI2⟩:=hI.push (listM (wordM opPreds::IV));have hb:(L2.length+1)*72≤140737488355328:=(by omega);replace zz:=uu6 s1 s2 s3 s4 hRV d0;refine wt zz ?_;replace zz:=uu10 s1 s2 s3 s4 t1 t2 hRl hb g6 a6;refine uU zz (hlq _) ?_;(repeat'(first|refine cK ?_|refine nK ?_|(rw[if_pos];rotate_left 1;omega;simp(maxSteps:=2000000) only[Ty.w,simprocAttr,s1,s2,s3,s4,t1,t2,hRl,hb,g6,a6])|apply zI));exact hI2
 try clear zz
 clear s1 s2 s3 s4 hI hRV hlq S H q;generalize hL3:grpP L2 opPreds IV=L3 at hW;have hl3:L3.length≤4:=by rw[← hL3];exact grpP_len2 (by omega)
 try clear zz
 clear hgr hL3 hl2 hml;rintro S H0 ⟨s1,s2,q,s3,hI⟩;refine wt (uu3 s1 s2 s3) ?_;refine a_loop (fun m S H=>S 1= .cptr [sPV dn,.imm 2 (pmRows dt),.imm 2 (pmRows dc),.imm 2 (prRows dp),.imm 4 (fuRows df),.imm 10 (acRows da),.imm 23 (duRows dd)]∧S 2= .ptr h.next 0 0∧S 3=q∧ ∃ (k:Nat)(o:PV),S 6= .sc (.int .i64 k)∧S 4=o∧k≤df.length∧m=df.length-k∧Grow H0 H∧Tl H H0.next 6 o (Sx.rows ((df.take k).map fuX))) df.length ?_ ?_
 ·simp only[Ty.w,simprocAttr,s1,s2,s3];exact⟨0,_,rfl,rfl,Nat.zero_le _,rfl,Grow.refl _,Tl.nil⟩
 try clear zz
 clear s1 s2 s3 S;rintro m S H ⟨s1,s2,s3,k,o,s5,s4,hk,rfl,hg,tl⟩;by_cases hlt:k<df.length
 ·have hd:decide ((k:Int)<(df.length:Int))=true:=by simp;omega
  have w7:IntKind.i64.wrap ((k:Int)+1)=((k+1:Nat):Int):=by rw[wrap64 (by omega) (by omega)];omega
  obtain⟨x,hx⟩: ∃ x,df[k]? =some x:=⟨_,List.getElem?_eq_getElem hlt⟩;have hr:=fuRows_get hx;have hpl:=zf.2 x (List.mem_of_getElem? hx);have hR:Sx.rows ((df.take (k+1)).map fuX)=Sx.rows ((df.take k).map fuX)++[(fuX x).cells]:=by
   rw[List.take_add_one,hx];simp only[Sx.rows_map,List.map_append,Option.toList_some,List.map_cons,List.map_nil]
  have hpr:(Sx.rows ((df.take k).map fuX)).length=k:=by rw[Sx.rows_len,List.length_map,List.length_take];omega
  have hb:(k+1)*72≤140737488355328:=by omega
  have hX:fuX x=listM (wordM x.name::(paramsW x.params++[numM x.lo,numM x.hi])):=rfl;generalize fuX x=X at hR hX;generalize Sx.rows ((df.take k).map fuX)=R at hR hpr tl;try clear zz
  clear hx;obtain⟨xn,xp,xl,xh⟩:=x;simp only at hX hpl;simp only[fuRow]at hr;replace zz:=uu7 s1 s3 s4 s5 hlF hd hr;refine xB 18 zz ?_;refine⟨?_⟩;refine a_tmp 7 rfl (by simp only[Ty.w,simprocAttr]) (fun n H=>by simp only[FrzL];exact⟨frzD_sc,frzD_imm (pms_in n _),frzD_sc,frzD_sc,trivial⟩) ?_;refine a_genX (fun S H=>S 1= .cptr [sPV dn,.imm 2 (pmRows dt),.imm 2 (pmRows dc),.imm 2 (prRows dp),.imm 4 (fuRows df),.imm 10 (acRows da),.imm 23 (duRows dd)]∧S 2= .ptr h.next 0 0∧S 3=q∧S 6= .sc (.int .i64 k)∧S 4=o∧S 7= .cptr [sPV xn,.imm 2 (pmRows xp),.sc (.int .i64 xl),.sc (.int .i64 xh)]∧Grow H0 H∧Tl H H0.next 6 o R∧ ∀ i,H.next≤i→H.obj i=none) ?_ ?_
  ·refine ⟨by simp only[Ty.w,simprocAttr,s1],by simp only[Ty.w,simprocAttr,s2],by simp only[Ty.w,simprocAttr,s3],by simp only[Ty.w,simprocAttr,s5],by simp only[Ty.w,simprocAttr,s4],by simp only[Ty.w,simprocAttr],hg.tmp _ _,tl.tmp _ _,fun i hi=>?_⟩;rw[tmpH_next]at hi;simp only[tmpH,below];rw[if_neg (by omega)]
  try clear zz
  clear s1 s2 s3 s4 s5 hg tl hr hd;rintro S H ⟨s1,s2,s3,s5,s4,s7,hg,tl,hno⟩;have hwo:=rwriteParamsO_c hpl H hno;obtain⟨w1,w2⟩:=wp_tail hno xp;have hwl:(Sx.rows (paramsW xp)).length=3*xp.length:=by rw[Sx.rows_len,paramsW_len]
  have hwb:(3*xp.length+2)*72≤140737488355328:=by omega
  have hn1:=fun h:Heap=>d9num_c (h:=h) (n:=xl);have hn2:=fun h:Heap=>d9num_c (h:=h) (n:=xh);have hRW:Sx.rows (paramsW xp++[numM xl,numM xh])=Sx.rows (paramsW xp)++[[.sc (.int .i64 2),.sc (.int .i64 xl),.sc (.int .i64 0),.sc (.int .i64 0),sPV ⟨#[]⟩,.imm 6 []],[.sc (.int .i64 2),.sc (.int .i64 xh),.sc (.int .i64 0),.sc (.int .i64 0),sPV ⟨#[]⟩,.imm 6 []]]:=by simp[Sx.rows_map,numM,Sx.cells,Sx.rows]
  simp only[numM,Sx.cells,Sx.rows]at hn1 hn2;have hlo:=d9listO_c (s:=xn) (l:=paramsW xp++[numM xl,numM xh]) (j:=H.next+xp.length) (by rw[List.length_append,paramsW_len];simp;omega) (h:=Heap.new ⟨H.next+xp.length,H.obj⟩ (.arr 6 (Sx.rows (paramsW xp++[numM xl,numM xh])))) (by simp only[Heap.new,if_true]) (by simp only[Heap.new];omega);have hll:(paramsW xp++[numM xl,numM xh]).length=3*xp.length+2:=by rw[List.length_append,paramsW_len];try rfl
  rw[← hX,hll,hRW]at hlo;have tl2:Tl (Heap.new ⟨H.next+xp.length,H.obj⟩ (.arr 6 (Sx.rows (paramsW xp)++[[.sc (.int .i64 2),.sc (.int .i64 xl),.sc (.int .i64 0),.sc (.int .i64 0),sPV ⟨#[]⟩,.imm 6 []],[.sc (.int .i64 2),.sc (.int .i64 xh),.sc (.int .i64 0),.sc (.int .i64 0),sPV ⟨#[]⟩,.imm 6 []]]))) H0.next 6 o R:=tl.up (by simp only[Heap.new];omega) fun i h1 h2=>by simp only[Heap.new];rw[if_neg (by omega)]
  have hg2:Grow H0 (Heap.new ⟨H.next+xp.length,H.obj⟩ (.arr 6 (Sx.rows (paramsW xp)++[[.sc (.int .i64 2),.sc (.int .i64 xl),.sc (.int .i64 0),.sc (.int .i64 0),sPV ⟨#[]⟩,.imm 6 []],[.sc (.int .i64 2),.sc (.int .i64 xh),.sc (.int .i64 0),.sc (.int .i64 0),sPV ⟨#[]⟩,.imm 6 []]]))):=⟨by simp only[Heap.new];have:=hg.le;omega,fun i hi=>by simp only[Heap.new];rw[if_neg (by have:=hg.le;omega)];exact hg.old i hi⟩;obtain⟨H1,t1,t2,t3,t4,t5⟩:=tl2.tail;have hkp:=t5 H0 ⟨hg2.le,hg2.old⟩ (Nat.le_refl _);have w0:(wpH H xp).next=H.next+xp.length:=wp_next H xp
  have e3:H1.next=H.next+xp.length+1:=t3
  generalize Sx.rows (paramsW xp)=RW at*;generalize wpH H xp=HW at*;generalize wpV H xp=vW at*;try clear zz
  clear hRW hll hX;obtain⟨yk,yv,yl,yc,yt,ys⟩:=X;simp only[Sx.cells]at hlo hR;replace zz:=uu5 s1 s3 s4 s5 s7;refine wy zz ?_;refine a_dcallW (hwo) (by(try simp only[Ty.w,simprocAttr,s1,s2,s3,s4,s5,s7,w0,w1,w2,hwl,hwb]);try rfl) (by(try simp(maxSteps:=4000000) only[Ty.w,simprocAttr,pastC,List.map_cons,List.map_nil,List.forall_mem_cons,s1,s2,s3,s4,s5,s7,w0,w1,w2,hwl,hwb])<;>((repeat' apply And.intro)<;>first|trivial|exact .inl (by decide+kernel)|exact .inr trivial|exact .inr (by simp(maxSteps:=2000000) only[Ty.w,simprocAttr,s1,s2,s3,s4,s5,s7,w0,w1,w2,hwl,hwb])|exact(fun _ hx=>by cases hx))) ?_;simp(maxSteps:=2000000) only[Ty.w,simprocAttr,Option.getD_some,s1,s2,s3,s4,s5,s7,w0,w1,w2,hwl,hwb];repeat'(first|refine cK ?_|(refine nK ?_;try exact zI))
  (first|refine a_dcall0 (hn1 _) (by(try simp only[Ty.w,simprocAttr,s1,s3,s4,s5,s7,w0,w1,w2,hwl,hwb]);try rfl) ?_|refine a_dcallA (hn1 _) (by(try simp only[Ty.w,simprocAttr,s1,s3,s4,s5,s7,w0,w1,w2,hwl,hwb]);try rfl) (by(try simp(maxSteps:=4000000) only[List.map_cons,List.map_nil,List.forall_mem_cons,s1,s3,s4,s5,s7,w0,w1,w2,hwl,hwb])<;>((repeat' apply And.intro)<;>first|trivial|exact .inl (by decide+kernel)|exact .inr trivial|exact .inr (Does_use (hn1 _) (by(try simp only[Ty.w,simprocAttr,s1,s3,s4,s5,s7,w0,w1,w2,hwl,hwb]);try rfl))|exact(fun _ hx=>by cases hx))) ?_);simp(maxSteps:=2000000) only[Ty.w,simprocAttr,Option.getD_some,s1,s3,s4,s5,s7,w0,w1,w2,hwl,hwb]
  repeat'(first|refine cK ?_|(refine nK ?_;try exact zI))
  (first|refine a_dcall0 (hn2 _) (by(try simp only[Ty.w,simprocAttr,s1,s3,s4,s5,s7,w0,w1,w2,hwl,hwb]);try rfl) ?_|refine a_dcallA (hn2 _) (by(try simp only[Ty.w,simprocAttr,s1,s3,s4,s5,s7,w0,w1,w2,hwl,hwb]);try rfl) (by(try simp(maxSteps:=4000000) only[List.map_cons,List.map_nil,List.forall_mem_cons,s1,s3,s4,s5,s7,w0,w1,w2,hwl,hwb])<;>((repeat' apply And.intro)<;>first|trivial|exact .inl (by decide+kernel)|exact .inr trivial|exact .inr (Does_use (hn2 _) (by(try simp only[Ty.w,simprocAttr,s1,s3,s4,s5,s7,w0,w1,w2,hwl,hwb]);try rfl))|exact(fun _ hx=>by cases hx))) ?_);simp(maxSteps:=2000000) only[Ty.w,simprocAttr,Option.getD_some,s1,s3,s4,s5,s7,w0,w1,w2,hwl,hwb]
  repeat'(first|refine cK ?_|(refine nK ?_;try exact zI)|(with_reducible refine a_past2 (by simp only[List.forall_mem_cons,Ty.w,simprocAttr,s1,s3,s4,s5,s7,w0,w1,w2,hwl,hwb]<;>(repeat' apply And.intro)<;>first|trivial|exact .inl (by decide+kernel)) ?_;try simp(maxSteps:=2000000) only[Ty.w,simprocAttr,s1,s3,s4,s5,s7,w0,w1,w2,hwl,hwb]))
  replace zz:=uu9 s1 s3 s4 s5 s7 t1 t2 hpr hb;first|refine uV zz (hlo) ?_|refine uJ1 zz (hlo) ?_
  replace zz:=uu10 s1 s2 s3 s4 s5 t1 t2 hpr hb w7;repeat'(first|refine cK ?_|refine nK ?_|refine uR zz ?_|(refine uN hK ?_;clear hK)|refine uB zz ?_|(rw[if_pos];rotate_left 1;omega;simp(maxSteps:=2000000) only[Ty.w,simprocAttr,s1,s2,s3,s4,s5,t1,t2,hpr,hb,w7])|apply zI)
  exact⟨df.length-(k+1),by omega,k+1,_,rfl,rfl,by omega,rfl,(⟨hkp.1,hkp.2⟩:Grow H0 H1).new _,by rw[hR, ← e3];exact Tl.grow hkp.1 (by simp[hpr])⟩
 have hd:decide ((k:Int)<(df.length:Int))=false:=by simp;omega
 have hke:k=df.length:=by omega
 rw[hke,List.take_length]at tl;try clear zz
 clear hke hlt hk;replace zz:=uu7 s1 s2 s3 s4 s5 hlF hd;refine xH 19 zz ?_;refine⟨?_⟩;refine a_drop H0.next [(4,.imm 6 (Sx.rows (df.map fuX)))] rfl hg.le ?_ ?_
 ·intro x hx;simp only[List.mem_cons,List.not_mem_nil,or_false]at hx;subst hx;show FrzTo H0.next _ _ (S 4)
  rw[s4];exact tl_frzX tl
 refine a_genX (fun S H=>S 1= .cptr [sPV dn,.imm 2 (pmRows dt),.imm 2 (pmRows dc),.imm 2 (prRows dp),.imm 4 (fuRows df),.imm 10 (acRows da),.imm 23 (duRows dd)]∧S 2= .ptr h.next 0 0∧S 3=q∧S 4= .imm 6 (Sx.rows (df.map fuX))∧DqI h L3 q H) ⟨by simp only[frzS,Ty.w,simprocAttr,s1],by simp only[frzS,Ty.w,simprocAttr,s2],by simp only[frzS,Ty.w,simprocAttr,s3],by simp only[frzS,Ty.w,simprocAttr],hI.up (below_grow hg)⟩ ?_;try clear zz
 clear s1 s2 s3 s4 s5 hI hg tl hd S H o k H0;have hml:(df.map fuX).length=df.length:=List.length_map ..;have hlq:=hli opFuns (df.map fuX) (by rw[hml];have:=zf.1;omega);have hgr:grpP L3 opFuns (df.map fuX)=if df.length=0 then L3 else L3++[listM (wordM opFuns::df.map fuX)]:=by
  cases df<;>simp[grpP]
 generalize df.map fuX=IV at hml hlq hgr hW;rintro S H ⟨s1,s2,s3,s4,hI⟩;have hRV:=hRl IV;refine a_cut (fun S H=>S 1= .cptr [sPV dn,.imm 2 (pmRows dt),.imm 2 (pmRows dc),.imm 2 (prRows dp),.imm 4 (fuRows df),.imm 10 (acRows da),.imm 23 (duRows dd)]∧S 2= .ptr h.next 0 0∧ ∃ q,S 3=q∧DqI h (grpP L3 opFuns IV) q H) ?_ ?_
 ·by_cases hz:df.length=0
  ·have d0:decide ((IV.length:Int)>0)=false:=(by rw[hml,hz];try rfl);rw[hgr,if_pos hz];replace zz:=uu6 s1 s2 s3 s4 hRV d0;refine wt zz ?_;first|exact hI|exact⟨s1,s2,q,s3,hI⟩
  ·have d0:decide ((IV.length:Int)>0)=true:=(by simp;omega);rw[hgr,if_neg hz];obtain⟨Hk,t1,t2,t3,hI2⟩:=hI.push (listM (wordM opFuns::IV));have hb:(L3.length+1)*72≤140737488355328:=(by omega);replace zz:=uu6 s1 s2 s3 s4 hRV d0;refine wt zz ?_;replace zz:=uu10 s1 s2 s3 s4 t1 t2 hRl hb g6 a6;refine uU zz (hlq _) ?_;(repeat'(first|refine cK ?_|refine nK ?_|(rw[if_pos];rotate_left 1;omega;simp(maxSteps:=2000000) only[Ty.w,simprocAttr,s1,s2,s3,s4,t1,t2,hRl,hb,g6,a6])|apply zI));exact hI2
 try clear zz
 clear s1 s2 s3 s4 hI hRV hlq S H q;generalize hL4:grpP L3 opFuns IV=L4 at hW;have hl4:L4.length≤5:=by rw[← hL4];exact grpP_len2 (by omega)
 try clear zz
 clear hgr hL4 hl3 hml;rintro S H0 ⟨s1,s2,q,s3,hI⟩;refine xG 21 (uu3 s1 s2 s3) ?_;refine⟨?_⟩;refine a_genX (fun S H=>S 1= .cptr [sPV dn,.imm 2 (pmRows dt),.imm 2 (pmRows dc),.imm 2 (prRows dp),.imm 4 (fuRows df),.imm 10 (acRows da),.imm 23 (duRows dd)]∧S 2= .ptr h.next 0 0∧ ∃ q,S 3=q∧DqI h L4 q H) ⟨by simp only[Ty.w,simprocAttr,s1],by simp only[Ty.w,simprocAttr,s2],q,by simp only[Ty.w,simprocAttr,s3],hI⟩ ?_;try clear zz
 clear s1 s2 s3 hI q S;rintro S H ⟨s1,s2,q,s3,hI⟩;refine wt (uu3 s1 s2 s3) ?_;refine a_loop (fun m S H=>S 1= .cptr [sPV dn,.imm 2 (pmRows dt),.imm 2 (pmRows dc),.imm 2 (prRows dp),.imm 4 (fuRows df),.imm 10 (acRows da),.imm 23 (duRows dd)]∧S 2= .ptr h.next 0 0∧ ∃ (k:Nat)(q:PV),S 8= .sc (.int .i64 k)∧S 3=q∧k≤da.length∧m=da.length-k∧DqI h (L4++(da.take k).map acW) q H) da.length ?_ ?_
 ·simp only[Ty.w,simprocAttr,s1,s2,s3];exact⟨0,q,rfl,rfl,Nat.zero_le _,rfl,by rw[List.take_zero,List.map_nil,List.append_nil];exact hI⟩
 try clear zz
 clear s1 s2 s3 hI q S H;rintro m S H0 ⟨s1,s2,k,q,sI,s3,hk,rfl,hI⟩;by_cases hlt:k<da.length
 ·have hd:decide ((k:Int)<(da.length:Int))=true:=by simp;omega
  have zl:=za.1;have w7:IntKind.i64.wrap ((k:Int)+1)=((k+1:Nat):Int):=by rw[wrap64 (by omega) (by omega)];omega
  obtain⟨x,hx⟩: ∃ x,da[k]? =some x:=⟨_,List.getElem?_eq_getElem hlt⟩;have hr:=acRows_get hx;have hmem:=List.mem_of_getElem? hx;have hs:=za.2 x hmem;have ho:=oa;have hok:=ho.2 x hmem;have hRx:=ra x hmem;have hta:L4++(da.take (k+1)).map acW=(L4++(da.take k).map acW)++[acW x]:=by
   rw[List.take_add_one,hx,List.append_assoc];simp
  have hLl:(L4++(da.take k).map acW).length≤4194304:=by
   rw[List.length_append,List.length_map,List.length_take];omega
  generalize L4++(da.take k).map acW=LA at hLl hta hI;try clear zz
  clear ho hx hmem;obtain⟨xn,xp,xc,⟨gop,gna,gar,gpa,gex,gki⟩,xch⟩:=x;unfold acR at hRx;simp only[Bool.and_eq_true]at hRx;obtain⟨_,_,_,_,rf,rc⟩:=hRx;simp only[acRow,Fm.cells,List.cons_append,List.nil_append]at hr;have hwq:=hwp xp hs.params;have hlq:(pmRows xp).length=xp.length:=pmRows_len xp;have hnq:=fun h:Heap=>d9num_c (h:=h) (n:=xc);simp only[numM,Sx.cells,Sx.rows]at hnq;have hT3:=fun h:Heap=>rtrue_c (.mk gop gna gar gpa gex gki) h;have hF3:=fun h:Heap=>rwriteF_c (.mk gop gna gar gpa gex gki) hs.pre rf h;simp only[Fm.cells]at hT3 hF3;generalize hU3:tru (.mk gop gna gar gpa gex gki)=T3 at hT3;generalize hV3:fmW (.mk gop gna gar gpa gex gki)=V3 at hF3;have hE4:=fun h:Heap=>rEffect_c (l:=xch) hs.chs (fun c hc h=>single_c (List.all_eq_true.1 rc c hc) (hok.changes.2 c hc) (hs.ch c hc).cond (hs.ch c hc).value (hs.ch c hc).args (hs.ch c hc).params h) h;have hc4:(chRows xch).length=xch.length:=chRows_len xch;generalize hV4:effW xch=V4 at hE4;replace zz:=uu6 s1 s3 sI hlA hd hr;refine xG 25 zz ?_;refine⟨?_⟩;refine a_tmp 9 rfl (by simp only[Ty.w,simprocAttr]) (fun n H=>by simp only[FrzL];exact⟨frzD_sc,frzD_imm (pms_in n _),frzD_sc,frzD_sc,frzD_sc,frzD_imm (strs_in n _),frzD_imm (pms_in n _),frzD_imm (exs_in n _),frzD_imm (fms_in n _),frzD_imm (chsW_in n _),trivial⟩) ?_;refine a_genX (fun S H=>S 1= .cptr [sPV dn,.imm 2 (pmRows dt),.imm 2 (pmRows dc),.imm 2 (prRows dp),.imm 4 (fuRows df),.imm 10 (acRows da),.imm 23 (duRows dd)]∧S 2= .ptr h.next 0 0∧S 3=q∧S 8= .sc (.int .i64 k)∧S 9= .cptr [sPV xn,.imm 2 (pmRows xp),.sc (.int .i64 xc),sPV gop,sPV gna,.imm 1 (strRows gar),.imm 2 (pmRows gpa),.imm 5 (Ex.rows gex),.imm 6 (Fm.rows gki),.imm 15 (chRows xch)]∧Grow H0 H) ⟨by simp only[Ty.w,simprocAttr,s1],by simp only[Ty.w,simprocAttr,s2],by simp only[Ty.w,simprocAttr,s3],by simp only[Ty.w,simprocAttr,sI],by simp only[Ty.w,simprocAttr],(Grow.refl H0).tmp _ _⟩ ?_;try clear zz
  clear s1 s2 s3 sI hr hd;rintro S H ⟨s1,s2,s3,sI,sA,hg⟩;refine wt sA ?_;refine uU sA (hwd _ _) ?_;refine xG 26 sA ?_;refine⟨?_⟩;refine a_genX (fun S H=>S 1= .cptr [sPV dn,.imm 2 (pmRows dt),.imm 2 (pmRows dc),.imm 2 (prRows dp),.imm 4 (fuRows df),.imm 10 (acRows da),.imm 23 (duRows dd)]∧S 2= .ptr h.next 0 0∧S 3=q∧S 8= .sc (.int .i64 k)∧S 9= .cptr [sPV xn,.imm 2 (pmRows xp),.sc (.int .i64 xc),sPV gop,sPV gna,.imm 1 (strRows gar),.imm 2 (pmRows gpa),.imm 5 (Ex.rows gex),.imm 6 (Fm.rows gki),.imm 15 (chRows xch)]∧ ∃ j,S 4= .own j 0 ([wordM xn]).length∧SmI H0 j ([wordM xn]) H) ⟨by simp only[Ty.w,simprocAttr,s1],by simp only[Ty.w,simprocAttr,s2],by simp only[Ty.w,simprocAttr,s3],by simp only[Ty.w,simprocAttr,sI],by simp only[Ty.w,simprocAttr,sA],H.next,by simp only[Ty.w,simprocAttr]<;>rfl,hg.new _,hg.le,by simp only[Heap.new];omega,by simp only[Heap.new,if_true,wordM,Sx.cells,Sx.rows]⟩ ?_;try clear zz
  clear s1 s2 s3 sI sA hg;rintro S H ⟨s1,s2,s3,sI,sA,j,s4,hS⟩;generalize hM0:[wordM xn]=M0 at s4 hS;have hm0:M0.length≤1:=by rw[← hM0];exact Nat.le_refl _
  have hso:=some_c (h:=H) (j:=j) (L:=M0) (kw:=opPar) (v:=listM (paramsW xp)) (m:=(xp.length:Int)==0) hS.oj (by omega);obtain⟨j2,e2,hS2⟩:=hS.some opPar (listM (paramsW xp)) ((xp.length:Int)==0);rw[e2]at hso;generalize(if((xp.length:Int)==0)=true then H else someH H j (M0++[wordM opPar,listM (paramsW xp)]))=H2 at hso hS2;generalize hM1:ifP M0 ((xp.length:Int)==0) opPar (listM (paramsW xp))=M1 at hso hS2;have hm1:M1.length≤3:=by rw[← hM1];exact ifP_len2 hm0
  have hoj:=hS.oj;simp only[listM,Sx.cells]at hso;replace zz:=uu6 s1 s3 s4 sI sA hlq;refine wy zz ?_;replace zz:=uu7 s1 s3 s4 sI sA hlq hoj;refine uZ zz (hwq _) ?_;refine wy zz ?_;replace zz:=uu7 s1 s3 s4 sI sA hlq hoj;refine uZ zz (hso) ?_;refine xM 27 zz ?_;refine⟨?_⟩;refine a_genX (fun S H=>S 1= .cptr [sPV dn,.imm 2 (pmRows dt),.imm 2 (pmRows dc),.imm 2 (prRows dp),.imm 4 (fuRows df),.imm 10 (acRows da),.imm 23 (duRows dd)]∧S 2= .ptr h.next 0 0∧S 3=q∧S 8= .sc (.int .i64 k)∧S 9= .cptr [sPV xn,.imm 2 (pmRows xp),.sc (.int .i64 xc),sPV gop,sPV gna,.imm 1 (strRows gar),.imm 2 (pmRows gpa),.imm 5 (Ex.rows gex),.imm 6 (Fm.rows gki),.imm 15 (chRows xch)]∧ ∃ j,S 4= .own j 0 (M1).length∧SmI H0 j (M1) H) ⟨by simp only[Ty.w,simprocAttr,s1],by simp only[Ty.w,simprocAttr,s2],by simp only[Ty.w,simprocAttr,s3],by simp only[Ty.w,simprocAttr,sI],by simp only[Ty.w,simprocAttr,sA],j2,by simp only[Ty.w,simprocAttr],hS2⟩ ?_;try clear zz
  clear s1 s2 s3 sI sA s4 hS hS2 hso hoj e2 hm0;rintro S H ⟨s1,s2,s3,sI,sA,j,s4,hS⟩;have hso:=some_c (h:=H) (j:=j) (L:=M1) (kw:=opCost) (v:=numM xc) (m:=xc==1) hS.oj (by omega);obtain⟨j2,e2,hS2⟩:=hS.some opCost (numM xc) (xc==1);rw[e2]at hso;generalize(if(xc==1)=true then H else someH H j (M1++[wordM opCost,numM xc]))=H2 at hso hS2;generalize hM2:ifP M1 (xc==1) opCost (numM xc)=M2 at hso hS2;have hm2:M2.length≤5:=by rw[← hM2];exact ifP_len2 hm1
  have hoj:=hS.oj;simp only[numM,Sx.cells,Sx.rows]at hso;replace zz:=uu5 s1 s3 s4 sI sA;refine wy zz ?_;replace zz:=uu6 s1 s3 s4 sI sA hoj;first|refine uV zz (hnq _) ?_|refine uJ zz hnq ?_
  refine wy zz ?_;replace zz:=uu6 s1 s3 s4 sI sA hoj;refine uZ zz (hso) ?_;refine xM 28 zz ?_;refine⟨?_⟩;refine a_genX (fun S H=>S 1= .cptr [sPV dn,.imm 2 (pmRows dt),.imm 2 (pmRows dc),.imm 2 (prRows dp),.imm 4 (fuRows df),.imm 10 (acRows da),.imm 23 (duRows dd)]∧S 2= .ptr h.next 0 0∧S 3=q∧S 8= .sc (.int .i64 k)∧S 9= .cptr [sPV xn,.imm 2 (pmRows xp),.sc (.int .i64 xc),sPV gop,sPV gna,.imm 1 (strRows gar),.imm 2 (pmRows gpa),.imm 5 (Ex.rows gex),.imm 6 (Fm.rows gki),.imm 15 (chRows xch)]∧ ∃ j,S 4= .own j 0 (M2).length∧SmI H0 j (M2) H) ⟨by simp only[Ty.w,simprocAttr,s1],by simp only[Ty.w,simprocAttr,s2],by simp only[Ty.w,simprocAttr,s3],by simp only[Ty.w,simprocAttr,sI],by simp only[Ty.w,simprocAttr,sA],j2,by simp only[Ty.w,simprocAttr],hS2⟩ ?_;try clear zz
  clear s1 s2 s3 sI sA s4 hS hS2 hso hoj e2 hm1;rintro S H ⟨s1,s2,s3,sI,sA,j,s4,hS⟩;have hso:=some_c (h:=H) (j:=j) (L:=M2) (kw:=opPre) (v:=V3) (m:=T3) hS.oj (by omega);obtain⟨j2,e2,hS2⟩:=hS.some opPre (V3) (T3);rw[e2]at hso;generalize(if(T3)=true then H else someH H j (M2++[wordM opPre,V3]))=H2 at hso hS2;generalize hM3:ifP M2 (T3) opPre (V3)=M3 at hso hS2;have hm3:M3.length≤7:=by rw[← hM3];exact ifP_len2 hm2
  have hoj:=hS.oj;obtain⟨yk,yv,yl,yc,yt,ys⟩:=V3;simp only[Sx.cells]at hso hF3;replace zz:=uu5 s1 s3 s4 sI sA;refine wy zz ?_;replace zz:=uu6 s1 s3 s4 sI sA hoj;first|refine uV zz (hT3 _) ?_|refine uJ zz hT3 ?_
  refine wy zz ?_;replace zz:=uu6 s1 s3 s4 sI sA hoj;first|refine uV zz (hF3 _) ?_|refine uJ zz hF3 ?_
  refine wy zz ?_;replace zz:=uu6 s1 s3 s4 sI sA hoj;refine uZ zz (hso) ?_;refine xM 29 zz ?_;refine⟨?_⟩;refine a_genX (fun S H=>S 1= .cptr [sPV dn,.imm 2 (pmRows dt),.imm 2 (pmRows dc),.imm 2 (prRows dp),.imm 4 (fuRows df),.imm 10 (acRows da),.imm 23 (duRows dd)]∧S 2= .ptr h.next 0 0∧S 3=q∧S 8= .sc (.int .i64 k)∧S 9= .cptr [sPV xn,.imm 2 (pmRows xp),.sc (.int .i64 xc),sPV gop,sPV gna,.imm 1 (strRows gar),.imm 2 (pmRows gpa),.imm 5 (Ex.rows gex),.imm 6 (Fm.rows gki),.imm 15 (chRows xch)]∧ ∃ j,S 4= .own j 0 (M3).length∧SmI H0 j (M3) H) ⟨by simp only[Ty.w,simprocAttr,s1],by simp only[Ty.w,simprocAttr,s2],by simp only[Ty.w,simprocAttr,s3],by simp only[Ty.w,simprocAttr,sI],by simp only[Ty.w,simprocAttr,sA],j2,by simp only[Ty.w,simprocAttr],hS2⟩ ?_;try clear zz
  clear s1 s2 s3 sI sA s4 hS hS2 hso hoj e2 hm2;rintro S H ⟨s1,s2,s3,sI,sA,j,s4,hS⟩;have hso:=some_c (h:=H) (j:=j) (L:=M3) (kw:=opEff) (v:=V4) (m:=(xch.length:Int)==0) hS.oj (by omega);obtain⟨j2,e2,hS2⟩:=hS.some opEff (V4) ((xch.length:Int)==0);rw[e2]at hso;generalize(if((xch.length:Int)==0)=true then H else someH H j (M3++[wordM opEff,V4]))=H2 at hso hS2;generalize hM4:ifP M3 ((xch.length:Int)==0) opEff (V4)=M4 at hso hS2;have hm4:M4.length≤9:=by rw[← hM4];exact ifP_len2 hm3
  have hoj:=hS.oj;have hlo:=d9listO_c (s:=opAct) (l:=M4) (j:=j2) (by omega) hS2.oj hS2.hi;have hX:acW ⟨xn,xp,xc,⟨gop,gna,gar,gpa,gex,gki⟩,xch⟩=listM (wordM opAct::M4):=by
   unfold acW acGL;simp only;rw[hU3,hV3,hV4,hM0,hM1,hM2,hM3,hM4]
  rw[← hX]at hlo;generalize acW ⟨xn,xp,xc,⟨gop,gna,gar,gpa,gex,gki⟩,xch⟩=X at hlo hta;obtain⟨Hk,t1,t2,t3,hI2⟩:=(hI.up hS2.grow).push X;have hb:(LA.length+1)*72≤140737488355328:=by omega
  have hbr:(Sx.rows LA).length=LA.length:=hRl LA;try clear zz
  clear hX hS2;obtain⟨yk,yv,yl,yc,yt,ys⟩:=V4;simp only[Sx.cells]at hso hE4;replace zz:=uu6 s1 s3 s4 sI sA hc4;refine wy zz ?_;replace zz:=uu7 s1 s3 s4 sI sA hc4 hoj;first|refine uV zz (hE4 _) ?_|refine uJ zz hE4 ?_
  refine wy zz ?_;replace zz:=uu7 s1 s3 s4 sI sA hc4 hoj;refine uZ zz (hso) ?_;refine wy zz ?_;obtain⟨zk,zv,zl',zc',zt',zs⟩:=X;simp only[Sx.cells]at hlo hI2;replace zz:=uu8 s1 s2 s3 sI t1 t2 hbr hb;refine uU zz (hlo) ?_;replace zz:=uu9 s1 s2 s3 sI t1 t2 hbr hb w7;refine wt zz ?_;exact⟨da.length-(k+1),by omega,k+1,_,rfl,rfl,by omega,rfl,by rw[hta];exact hI2⟩
 have hd:decide ((k:Int)<(da.length:Int))=false:=by simp;omega
 obtain rfl:k=da.length:=by omega
 rw[List.take_length]at hI;replace zz:=uu6 s1 s2 s3 sI hlA hd;refine xB 31 zz ?_;refine⟨?_⟩;refine a_genX (fun S H=>S 1= .cptr [sPV dn,.imm 2 (pmRows dt),.imm 2 (pmRows dc),.imm 2 (prRows dp),.imm 4 (fuRows df),.imm 10 (acRows da),.imm 23 (duRows dd)]∧S 2= .ptr h.next 0 0∧ ∃ q,S 3=q∧DqI h (L4++da.map acW) q H) ⟨by simp only[Ty.w,simprocAttr,s1],by simp only[Ty.w,simprocAttr,s2],q,by simp only[Ty.w,simprocAttr,s3],hI⟩ ?_;try clear zz
 clear s1 s2 s3 sI hI hd hlt hk q S;have hl5:(L4++da.map acW).length≤1048600:=by
  rw[List.length_append,List.length_map];have:=za.1;omega
 generalize hL5:L4++da.map acW=L5 at hW hl5;try clear zz
 clear hL5 hl4;rintro S H ⟨s1,s2,q,s3,hI⟩;refine wt (uu3 s1 s2 s3) ?_;refine a_loop (fun m S H=>S 1= .cptr [sPV dn,.imm 2 (pmRows dt),.imm 2 (pmRows dc),.imm 2 (prRows dp),.imm 4 (fuRows df),.imm 10 (acRows da),.imm 23 (duRows dd)]∧S 2= .ptr h.next 0 0∧ ∃ (k:Nat)(q:PV),S 10= .sc (.int .i64 k)∧S 3=q∧k≤dd.length∧m=dd.length-k∧DqI h (L5++(dd.take k).map duW) q H) dd.length ?_ ?_
 ·simp only[Ty.w,simprocAttr,s1,s2,s3];exact⟨0,q,rfl,rfl,Nat.zero_le _,rfl,by rw[List.take_zero,List.map_nil,List.append_nil];exact hI⟩
 try clear zz
 clear s1 s2 s3 hI q S H;rintro m S H0 ⟨s1,s2,k,q,sI,s3,hk,rfl,hI⟩;by_cases hlt:k<dd.length
 ·have hd:decide ((k:Int)<(dd.length:Int))=true:=by simp;omega
  have zl:=zd.1;have w7:IntKind.i64.wrap ((k:Int)+1)=((k+1:Nat):Int):=by rw[wrap64 (by omega) (by omega)];omega
  obtain⟨x,hx⟩: ∃ x,dd[k]? =some x:=⟨_,List.getElem?_eq_getElem hlt⟩;have hr:=duRows_get hx;have hmem:=List.mem_of_getElem? hx;have hs:=zd.2 x hmem;have ho:=od;have hok:=ho.2 x hmem;have hRx:=rd x hmem;have hta:L5++(dd.take (k+1)).map duW=(L5++(dd.take k).map duW)++[duW x]:=by
   rw[List.take_add_one,hx,List.append_assoc];simp
  have hLl:(L5++(dd.take k).map duW).length≤4194304:=by
   rw[List.length_append,List.length_map,List.length_take];omega
  generalize L5++(dd.take k).map duW=LA at hLl hta hI;try clear zz
  clear ho hx hmem;obtain⟨xn,xp,xc,⟨gop,gna,gar,gpa,gex,gki⟩,⟨kop,kna,kar,kpa,kex,kki⟩,⟨lop,lna,lar,lpa,lex,lki⟩,xch,ych⟩:=x;unfold duR at hRx;simp only[Bool.and_eq_true]at hRx;obtain⟨_,_,_,rc1,rc2,rf1,rf2,rf3⟩:=hRx;simp only[duRow,Fm.cells,List.cons_append,List.nil_append]at hr;have hwq:=hwp xp hs.params;have hlq:(pmRows xp).length=xp.length:=pmRows_len xp;have hnq:=fun h:Heap=>d9num_c (h:=h) (n:=xc);simp only[numM,Sx.cells,Sx.rows]at hnq;have hT3:=fun h:Heap=>rtrue_c (.mk gop gna gar gpa gex gki) h;have hF3:=fun h:Heap=>rwriteF_c (.mk gop gna gar gpa gex gki) hs.start rf1 h;simp only[Fm.cells]at hT3 hF3;generalize hU3:tru (.mk gop gna gar gpa gex gki)=T3 at hT3;generalize hV3:fmW (.mk gop gna gar gpa gex gki)=V3 at hF3;have hT4:=fun h:Heap=>rtrue_c (.mk kop kna kar kpa kex kki) h;have hF4:=fun h:Heap=>rwriteF_c (.mk kop kna kar kpa kex kki) hs.over rf2 h;simp only[Fm.cells]at hT4 hF4;generalize hU4:tru (.mk kop kna kar kpa kex kki)=T4 at hT4;generalize hV4:fmW (.mk kop kna kar kpa kex kki)=V4 at hF4;have hT5:=fun h:Heap=>rtrue_c (.mk lop lna lar lpa lex lki) h;have hF5:=fun h:Heap=>rwriteF_c (.mk lop lna lar lpa lex lki) hs.stop rf3 h;simp only[Fm.cells]at hT5 hF5;generalize hU5:tru (.mk lop lna lar lpa lex lki)=T5 at hT5;generalize hV5:fmW (.mk lop lna lar lpa lex lki)=V5 at hF5;have hE6:=fun h:Heap=>rEffect_c (l:=xch) hs.atS.1 (fun c hc h=>single_c (List.all_eq_true.1 rc1 c hc) (hok.atStart.2 c hc) (hs.atS.2 c hc).cond (hs.atS.2 c hc).value (hs.atS.2 c hc).args (hs.atS.2 c hc).params h) h;have hc6:(chRows xch).length=xch.length:=chRows_len xch;generalize hV6:effW xch=V6 at hE6;have hE7:=fun h:Heap=>rEffect_c (l:=ych) hs.atE.1 (fun c hc h=>single_c (List.all_eq_true.1 rc2 c hc) (hok.atStop.2 c hc) (hs.atE.2 c hc).cond (hs.atE.2 c hc).value (hs.atE.2 c hc).args (hs.atE.2 c hc).params h) h;have hc7:(chRows ych).length=ych.length:=chRows_len ych;generalize hV7:effW ych=V7 at hE7;replace zz:=uu6 s1 s3 sI hlD hd hr;refine xG 35 zz ?_;refine⟨?_⟩;refine a_tmp 11 rfl (by simp only[Ty.w,simprocAttr]) (fun n H=>by simp only[FrzL];exact⟨frzD_sc,frzD_imm (pms_in n _),frzD_sc,frzD_sc,frzD_sc,frzD_imm (strs_in n _),frzD_imm (pms_in n _),frzD_imm (exs_in n _),frzD_imm (fms_in n _),frzD_sc,frzD_sc,frzD_imm (strs_in n _),frzD_imm (pms_in n _),frzD_imm (exs_in n _),frzD_imm (fms_in n _),frzD_sc,frzD_sc,frzD_imm (strs_in n _),frzD_imm (pms_in n _),frzD_imm (exs_in n _),frzD_imm (fms_in n _),frzD_imm (chsW_in n _),frzD_imm (chsW_in n _),trivial⟩) ?_;refine a_genX (fun S H=>S 1= .cptr [sPV dn,.imm 2 (pmRows dt),.imm 2 (pmRows dc),.imm 2 (prRows dp),.imm 4 (fuRows df),.imm 10 (acRows da),.imm 23 (duRows dd)]∧S 2= .ptr h.next 0 0∧S 3=q∧S 10= .sc (.int .i64 k)∧S 11= .cptr [sPV xn,.imm 2 (pmRows xp),.sc (.int .i64 xc),sPV gop,sPV gna,.imm 1 (strRows gar),.imm 2 (pmRows gpa),.imm 5 (Ex.rows gex),.imm 6 (Fm.rows gki),sPV kop,sPV kna,.imm 1 (strRows kar),.imm 2 (pmRows kpa),.imm 5 (Ex.rows kex),.imm 6 (Fm.rows kki),sPV lop,sPV lna,.imm 1 (strRows lar),.imm 2 (pmRows lpa),.imm 5 (Ex.rows lex),.imm 6 (Fm.rows lki),.imm 15 (chRows xch),.imm 15 (chRows ych)]∧Grow H0 H) ⟨by simp only[Ty.w,simprocAttr,s1],by simp only[Ty.w,simprocAttr,s2],by simp only[Ty.w,simprocAttr,s3],by simp only[Ty.w,simprocAttr,sI],by simp only[Ty.w,simprocAttr],(Grow.refl H0).tmp _ _⟩ ?_;try clear zz
  clear s1 s2 s3 sI hr hd;rintro S H ⟨s1,s2,s3,sI,sA,hg⟩;refine wt sA ?_;refine uU sA (hwd _ _) ?_;refine xG 36 sA ?_;refine⟨?_⟩;refine a_genX (fun S H=>S 1= .cptr [sPV dn,.imm 2 (pmRows dt),.imm 2 (pmRows dc),.imm 2 (prRows dp),.imm 4 (fuRows df),.imm 10 (acRows da),.imm 23 (duRows dd)]∧S 2= .ptr h.next 0 0∧S 3=q∧S 10= .sc (.int .i64 k)∧S 11= .cptr [sPV xn,.imm 2 (pmRows xp),.sc (.int .i64 xc),sPV gop,sPV gna,.imm 1 (strRows gar),.imm 2 (pmRows gpa),.imm 5 (Ex.rows gex),.imm 6 (Fm.rows gki),sPV kop,sPV kna,.imm 1 (strRows kar),.imm 2 (pmRows kpa),.imm 5 (Ex.rows kex),.imm 6 (Fm.rows kki),sPV lop,sPV lna,.imm 1 (strRows lar),.imm 2 (pmRows lpa),.imm 5 (Ex.rows lex),.imm 6 (Fm.rows lki),.imm 15 (chRows xch),.imm 15 (chRows ych)]∧ ∃ j,S 4= .own j 0 ([wordM xn]).length∧SmI H0 j ([wordM xn]) H) ⟨by simp only[Ty.w,simprocAttr,s1],by simp only[Ty.w,simprocAttr,s2],by simp only[Ty.w,simprocAttr,s3],by simp only[Ty.w,simprocAttr,sI],by simp only[Ty.w,simprocAttr,sA],H.next,by simp only[Ty.w,simprocAttr]<;>rfl,hg.new _,hg.le,by simp only[Heap.new];omega,by simp only[Heap.new,if_true,wordM,Sx.cells,Sx.rows]⟩ ?_;try clear zz
  clear s1 s2 s3 sI sA hg;rintro S H ⟨s1,s2,s3,sI,sA,j,s4,hS⟩;generalize hM0:[wordM xn]=M0 at s4 hS;have hm0:M0.length≤1:=by rw[← hM0];exact Nat.le_refl _
  have hso:=some_c (h:=H) (j:=j) (L:=M0) (kw:=opPar) (v:=listM (paramsW xp)) (m:=(xp.length:Int)==0) hS.oj (by omega);obtain⟨j2,e2,hS2⟩:=hS.some opPar (listM (paramsW xp)) ((xp.length:Int)==0);rw[e2]at hso;generalize(if((xp.length:Int)==0)=true then H else someH H j (M0++[wordM opPar,listM (paramsW xp)]))=H2 at hso hS2;generalize hM1:ifP M0 ((xp.length:Int)==0) opPar (listM (paramsW xp))=M1 at hso hS2;have hm1:M1.length≤3:=by rw[← hM1];exact ifP_len2 hm0
  have hoj:=hS.oj;simp only[listM,Sx.cells]at hso;replace zz:=uu6 s1 s3 s4 sI sA hlq;refine wy zz ?_;replace zz:=uu7 s1 s3 s4 sI sA hlq hoj;refine uZ zz (hwq _) ?_;refine wy zz ?_;replace zz:=uu7 s1 s3 s4 sI sA hlq hoj;refine uZ zz (hso) ?_;refine xM 37 zz ?_;refine⟨?_⟩;refine a_genX (fun S H=>S 1= .cptr [sPV dn,.imm 2 (pmRows dt),.imm 2 (pmRows dc),.imm 2 (prRows dp),.imm 4 (fuRows df),.imm 10 (acRows da),.imm 23 (duRows dd)]∧S 2= .ptr h.next 0 0∧S 3=q∧S 10= .sc (.int .i64 k)∧S 11= .cptr [sPV xn,.imm 2 (pmRows xp),.sc (.int .i64 xc),sPV gop,sPV gna,.imm 1 (strRows gar),.imm 2 (pmRows gpa),.imm 5 (Ex.rows gex),.imm 6 (Fm.rows gki),sPV kop,sPV kna,.imm 1 (strRows kar),.imm 2 (pmRows kpa),.imm 5 (Ex.rows kex),.imm 6 (Fm.rows kki),sPV lop,sPV lna,.imm 1 (strRows lar),.imm 2 (pmRows lpa),.imm 5 (Ex.rows lex),.imm 6 (Fm.rows lki),.imm 15 (chRows xch),.imm 15 (chRows ych)]∧ ∃ j,S 4= .own j 0 (M1).length∧SmI H0 j (M1) H) ⟨by simp only[Ty.w,simprocAttr,s1],by simp only[Ty.w,simprocAttr,s2],by simp only[Ty.w,simprocAttr,s3],by simp only[Ty.w,simprocAttr,sI],by simp only[Ty.w,simprocAttr,sA],j2,by simp only[Ty.w,simprocAttr],hS2⟩ ?_;try clear zz
  clear s1 s2 s3 sI sA s4 hS hS2 hso hoj e2 hm0;rintro S H ⟨s1,s2,s3,sI,sA,j,s4,hS⟩;have hso:=some_c (h:=H) (j:=j) (L:=M1) (kw:=opDtn) (v:=numM xc) (m:=xc==1) hS.oj (by omega);obtain⟨j2,e2,hS2⟩:=hS.some opDtn (numM xc) (xc==1);rw[e2]at hso;generalize(if(xc==1)=true then H else someH H j (M1++[wordM opDtn,numM xc]))=H2 at hso hS2;generalize hM2:ifP M1 (xc==1) opDtn (numM xc)=M2 at hso hS2;have hm2:M2.length≤5:=by rw[← hM2];exact ifP_len2 hm1
  have hoj:=hS.oj;simp only[numM,Sx.cells,Sx.rows]at hso;replace zz:=uu5 s1 s3 s4 sI sA;refine wy zz ?_;replace zz:=uu6 s1 s3 s4 sI sA hoj;first|refine uV zz (hnq _) ?_|refine uJ zz hnq ?_
  refine wy zz ?_;replace zz:=uu6 s1 s3 s4 sI sA hoj;refine uZ zz (hso) ?_;refine xM 38 zz ?_;refine⟨?_⟩;refine a_genX (fun S H=>S 1= .cptr [sPV dn,.imm 2 (pmRows dt),.imm 2 (pmRows dc),.imm 2 (prRows dp),.imm 4 (fuRows df),.imm 10 (acRows da),.imm 23 (duRows dd)]∧S 2= .ptr h.next 0 0∧S 3=q∧S 10= .sc (.int .i64 k)∧S 11= .cptr [sPV xn,.imm 2 (pmRows xp),.sc (.int .i64 xc),sPV gop,sPV gna,.imm 1 (strRows gar),.imm 2 (pmRows gpa),.imm 5 (Ex.rows gex),.imm 6 (Fm.rows gki),sPV kop,sPV kna,.imm 1 (strRows kar),.imm 2 (pmRows kpa),.imm 5 (Ex.rows kex),.imm 6 (Fm.rows kki),sPV lop,sPV lna,.imm 1 (strRows lar),.imm 2 (pmRows lpa),.imm 5 (Ex.rows lex),.imm 6 (Fm.rows lki),.imm 15 (chRows xch),.imm 15 (chRows ych)]∧ ∃ j,S 4= .own j 0 (M2).length∧SmI H0 j (M2) H) ⟨by simp only[Ty.w,simprocAttr,s1],by simp only[Ty.w,simprocAttr,s2],by simp only[Ty.w,simprocAttr,s3],by simp only[Ty.w,simprocAttr,sI],by simp only[Ty.w,simprocAttr,sA],j2,by simp only[Ty.w,simprocAttr],hS2⟩ ?_;try clear zz
  clear s1 s2 s3 sI sA s4 hS hS2 hso hoj e2 hm1;rintro S H ⟨s1,s2,s3,sI,sA,j,s4,hS⟩;have hso:=some_c (h:=H) (j:=j) (L:=M2) (kw:=opSta) (v:=V3) (m:=T3) hS.oj (by omega);obtain⟨j2,e2,hS2⟩:=hS.some opSta (V3) (T3);rw[e2]at hso;generalize(if(T3)=true then H else someH H j (M2++[wordM opSta,V3]))=H2 at hso hS2;generalize hM3:ifP M2 (T3) opSta (V3)=M3 at hso hS2;have hm3:M3.length≤7:=by rw[← hM3];exact ifP_len2 hm2
  have hoj:=hS.oj;obtain⟨yk,yv,yl,yc,yt,ys⟩:=V3;simp only[Sx.cells]at hso hF3;replace zz:=uu5 s1 s3 s4 sI sA;refine wy zz ?_;replace zz:=uu6 s1 s3 s4 sI sA hoj;first|refine uV zz (hT3 _) ?_|refine uJ zz hT3 ?_
  refine wy zz ?_;replace zz:=uu6 s1 s3 s4 sI sA hoj;first|refine uV zz (hF3 _) ?_|refine uJ zz hF3 ?_
  refine wy zz ?_;replace zz:=uu6 s1 s3 s4 sI sA hoj;refine uZ zz (hso) ?_;refine xM 39 zz ?_;refine⟨?_⟩;refine a_genX (fun S H=>S 1= .cptr [sPV dn,.imm 2 (pmRows dt),.imm 2 (pmRows dc),.imm 2 (prRows dp),.imm 4 (fuRows df),.imm 10 (acRows da),.imm 23 (duRows dd)]∧S 2= .ptr h.next 0 0∧S 3=q∧S 10= .sc (.int .i64 k)∧S 11= .cptr [sPV xn,.imm 2 (pmRows xp),.sc (.int .i64 xc),sPV gop,sPV gna,.imm 1 (strRows gar),.imm 2 (pmRows gpa),.imm 5 (Ex.rows gex),.imm 6 (Fm.rows gki),sPV kop,sPV kna,.imm 1 (strRows kar),.imm 2 (pmRows kpa),.imm 5 (Ex.rows kex),.imm 6 (Fm.rows kki),sPV lop,sPV lna,.imm 1 (strRows lar),.imm 2 (pmRows lpa),.imm 5 (Ex.rows lex),.imm 6 (Fm.rows lki),.imm 15 (chRows xch),.imm 15 (chRows ych)]∧ ∃ j,S 4= .own j 0 (M3).length∧SmI H0 j (M3) H) ⟨by simp only[Ty.w,simprocAttr,s1],by simp only[Ty.w,simprocAttr,s2],by simp only[Ty.w,simprocAttr,s3],by simp only[Ty.w,simprocAttr,sI],by simp only[Ty.w,simprocAttr,sA],j2,by simp only[Ty.w,simprocAttr],hS2⟩ ?_;try clear zz
  clear s1 s2 s3 sI sA s4 hS hS2 hso hoj e2 hm2;rintro S H ⟨s1,s2,s3,sI,sA,j,s4,hS⟩;have hso:=some_c (h:=H) (j:=j) (L:=M3) (kw:=opOve) (v:=V4) (m:=T4) hS.oj (by omega);obtain⟨j2,e2,hS2⟩:=hS.some opOve (V4) (T4);rw[e2]at hso;generalize(if(T4)=true then H else someH H j (M3++[wordM opOve,V4]))=H2 at hso hS2;generalize hM4:ifP M3 (T4) opOve (V4)=M4 at hso hS2;have hm4:M4.length≤9:=by rw[← hM4];exact ifP_len2 hm3
  have hoj:=hS.oj;obtain⟨yk,yv,yl,yc,yt,ys⟩:=V4;simp only[Sx.cells]at hso hF4;replace zz:=uu5 s1 s3 s4 sI sA;refine wy zz ?_;replace zz:=uu6 s1 s3 s4 sI sA hoj;first|refine uV zz (hT4 _) ?_|refine uJ zz hT4 ?_
  refine wy zz ?_;replace zz:=uu6 s1 s3 s4 sI sA hoj;first|refine uV zz (hF4 _) ?_|refine uJ zz hF4 ?_
  refine wy zz ?_;replace zz:=uu6 s1 s3 s4 sI sA hoj;refine uZ zz (hso) ?_;refine xM 40 zz ?_;refine⟨?_⟩;refine a_genX (fun S H=>S 1= .cptr [sPV dn,.imm 2 (pmRows dt),.imm 2 (pmRows dc),.imm 2 (prRows dp),.imm 4 (fuRows df),.imm 10 (acRows da),.imm 23 (duRows dd)]∧S 2= .ptr h.next 0 0∧S 3=q∧S 10= .sc (.int .i64 k)∧S 11= .cptr [sPV xn,.imm 2 (pmRows xp),.sc (.int .i64 xc),sPV gop,sPV gna,.imm 1 (strRows gar),.imm 2 (pmRows gpa),.imm 5 (Ex.rows gex),.imm 6 (Fm.rows gki),sPV kop,sPV kna,.imm 1 (strRows kar),.imm 2 (pmRows kpa),.imm 5 (Ex.rows kex),.imm 6 (Fm.rows kki),sPV lop,sPV lna,.imm 1 (strRows lar),.imm 2 (pmRows lpa),.imm 5 (Ex.rows lex),.imm 6 (Fm.rows lki),.imm 15 (chRows xch),.imm 15 (chRows ych)]∧ ∃ j,S 4= .own j 0 (M4).length∧SmI H0 j (M4) H) ⟨by simp only[Ty.w,simprocAttr,s1],by simp only[Ty.w,simprocAttr,s2],by simp only[Ty.w,simprocAttr,s3],by simp only[Ty.w,simprocAttr,sI],by simp only[Ty.w,simprocAttr,sA],j2,by simp only[Ty.w,simprocAttr],hS2⟩ ?_;try clear zz
  clear s1 s2 s3 sI sA s4 hS hS2 hso hoj e2 hm3;rintro S H ⟨s1,s2,s3,sI,sA,j,s4,hS⟩;have hso:=some_c (h:=H) (j:=j) (L:=M4) (kw:=opEnd) (v:=V5) (m:=T5) hS.oj (by omega);obtain⟨j2,e2,hS2⟩:=hS.some opEnd (V5) (T5);rw[e2]at hso;generalize(if(T5)=true then H else someH H j (M4++[wordM opEnd,V5]))=H2 at hso hS2;generalize hM5:ifP M4 (T5) opEnd (V5)=M5 at hso hS2;have hm5:M5.length≤11:=by rw[← hM5];exact ifP_len2 hm4
  have hoj:=hS.oj;obtain⟨yk,yv,yl,yc,yt,ys⟩:=V5;simp only[Sx.cells]at hso hF5;replace zz:=uu5 s1 s3 s4 sI sA;refine wy zz ?_;replace zz:=uu6 s1 s3 s4 sI sA hoj;first|refine uV zz (hT5 _) ?_|refine uJ zz hT5 ?_
  refine wy zz ?_;replace zz:=uu6 s1 s3 s4 sI sA hoj;first|refine uV zz (hF5 _) ?_|refine uJ zz hF5 ?_
  refine wy zz ?_;replace zz:=uu6 s1 s3 s4 sI sA hoj;refine uZ zz (hso) ?_;refine xM 41 zz ?_;refine⟨?_⟩;refine a_genX (fun S H=>S 1= .cptr [sPV dn,.imm 2 (pmRows dt),.imm 2 (pmRows dc),.imm 2 (prRows dp),.imm 4 (fuRows df),.imm 10 (acRows da),.imm 23 (duRows dd)]∧S 2= .ptr h.next 0 0∧S 3=q∧S 10= .sc (.int .i64 k)∧S 11= .cptr [sPV xn,.imm 2 (pmRows xp),.sc (.int .i64 xc),sPV gop,sPV gna,.imm 1 (strRows gar),.imm 2 (pmRows gpa),.imm 5 (Ex.rows gex),.imm 6 (Fm.rows gki),sPV kop,sPV kna,.imm 1 (strRows kar),.imm 2 (pmRows kpa),.imm 5 (Ex.rows kex),.imm 6 (Fm.rows kki),sPV lop,sPV lna,.imm 1 (strRows lar),.imm 2 (pmRows lpa),.imm 5 (Ex.rows lex),.imm 6 (Fm.rows lki),.imm 15 (chRows xch),.imm 15 (chRows ych)]∧ ∃ j,S 4= .own j 0 (M5).length∧SmI H0 j (M5) H) ⟨by simp only[Ty.w,simprocAttr,s1],by simp only[Ty.w,simprocAttr,s2],by simp only[Ty.w,simprocAttr,s3],by simp only[Ty.w,simprocAttr,sI],by simp only[Ty.w,simprocAttr,sA],j2,by simp only[Ty.w,simprocAttr],hS2⟩ ?_;try clear zz
  clear s1 s2 s3 sI sA s4 hS hS2 hso hoj e2 hm4;rintro S H ⟨s1,s2,s3,sI,sA,j,s4,hS⟩;have hso:=some_c (h:=H) (j:=j) (L:=M5) (kw:=opAtS) (v:=V6) (m:=(xch.length:Int)==0) hS.oj (by omega);obtain⟨j2,e2,hS2⟩:=hS.some opAtS (V6) ((xch.length:Int)==0);rw[e2]at hso;generalize(if((xch.length:Int)==0)=true then H else someH H j (M5++[wordM opAtS,V6]))=H2 at hso hS2;generalize hM6:ifP M5 ((xch.length:Int)==0) opAtS (V6)=M6 at hso hS2;have hm6:M6.length≤13:=by rw[← hM6];exact ifP_len2 hm5
  have hoj:=hS.oj;obtain⟨yk,yv,yl,yc,yt,ys⟩:=V6;simp only[Sx.cells]at hso hE6;replace zz:=uu6 s1 s3 s4 sI sA hc6;refine wy zz ?_;replace zz:=uu7 s1 s3 s4 sI sA hc6 hoj;first|refine uV zz (hE6 _) ?_|refine uJ zz hE6 ?_
  refine wy zz ?_;replace zz:=uu7 s1 s3 s4 sI sA hc6 hoj;refine uZ zz (hso) ?_;refine xM 42 zz ?_;refine⟨?_⟩;refine a_genX (fun S H=>S 1= .cptr [sPV dn,.imm 2 (pmRows dt),.imm 2 (pmRows dc),.imm 2 (prRows dp),.imm 4 (fuRows df),.imm 10 (acRows da),.imm 23 (duRows dd)]∧S 2= .ptr h.next 0 0∧S 3=q∧S 10= .sc (.int .i64 k)∧S 11= .cptr [sPV xn,.imm 2 (pmRows xp),.sc (.int .i64 xc),sPV gop,sPV gna,.imm 1 (strRows gar),.imm 2 (pmRows gpa),.imm 5 (Ex.rows gex),.imm 6 (Fm.rows gki),sPV kop,sPV kna,.imm 1 (strRows kar),.imm 2 (pmRows kpa),.imm 5 (Ex.rows kex),.imm 6 (Fm.rows kki),sPV lop,sPV lna,.imm 1 (strRows lar),.imm 2 (pmRows lpa),.imm 5 (Ex.rows lex),.imm 6 (Fm.rows lki),.imm 15 (chRows xch),.imm 15 (chRows ych)]∧ ∃ j,S 4= .own j 0 (M6).length∧SmI H0 j (M6) H) ⟨by simp only[Ty.w,simprocAttr,s1],by simp only[Ty.w,simprocAttr,s2],by simp only[Ty.w,simprocAttr,s3],by simp only[Ty.w,simprocAttr,sI],by simp only[Ty.w,simprocAttr,sA],j2,by simp only[Ty.w,simprocAttr],hS2⟩ ?_;try clear zz
  clear s1 s2 s3 sI sA s4 hS hS2 hso hoj e2 hm5;rintro S H ⟨s1,s2,s3,sI,sA,j,s4,hS⟩;have hso:=some_c (h:=H) (j:=j) (L:=M6) (kw:=opAtE) (v:=V7) (m:=(ych.length:Int)==0) hS.oj (by omega);obtain⟨j2,e2,hS2⟩:=hS.some opAtE (V7) ((ych.length:Int)==0);rw[e2]at hso;generalize(if((ych.length:Int)==0)=true then H else someH H j (M6++[wordM opAtE,V7]))=H2 at hso hS2;generalize hM7:ifP M6 ((ych.length:Int)==0) opAtE (V7)=M7 at hso hS2;have hm7:M7.length≤15:=by rw[← hM7];exact ifP_len2 hm6
  have hoj:=hS.oj;have hlo:=d9listO_c (s:=opDur) (l:=M7) (j:=j2) (by omega) hS2.oj hS2.hi;have hX:duW ⟨xn,xp,xc,⟨gop,gna,gar,gpa,gex,gki⟩,⟨kop,kna,kar,kpa,kex,kki⟩,⟨lop,lna,lar,lpa,lex,lki⟩,xch,ych⟩=listM (wordM opDur::M7):=by
   unfold duW duGL;simp only;rw[hU3,hV3,hU4,hV4,hU5,hV5,hV6,hV7,hM0,hM1,hM2,hM3,hM4,hM5,hM6,hM7]
  rw[← hX]at hlo;generalize duW ⟨xn,xp,xc,⟨gop,gna,gar,gpa,gex,gki⟩,⟨kop,kna,kar,kpa,kex,kki⟩,⟨lop,lna,lar,lpa,lex,lki⟩,xch,ych⟩=X at hlo hta;obtain⟨Hk,t1,t2,t3,hI2⟩:=(hI.up hS2.grow).push X;have hb:(LA.length+1)*72≤140737488355328:=by omega
  have hbr:(Sx.rows LA).length=LA.length:=hRl LA;try clear zz
  clear hX hS2;obtain⟨yk,yv,yl,yc,yt,ys⟩:=V7;simp only[Sx.cells]at hso hE7;replace zz:=uu6 s1 s3 s4 sI sA hc7;refine wy zz ?_;replace zz:=uu7 s1 s3 s4 sI sA hc7 hoj;first|refine uV zz (hE7 _) ?_|refine uJ zz hE7 ?_
  refine wy zz ?_;replace zz:=uu7 s1 s3 s4 sI sA hc7 hoj;refine uZ zz (hso) ?_;refine wy zz ?_;obtain⟨zk,zv,zl',zc',zt',zs⟩:=X;simp only[Sx.cells]at hlo hI2;replace zz:=uu8 s1 s2 s3 sI t1 t2 hbr hb;refine uU zz (hlo) ?_;replace zz:=uu9 s1 s2 s3 sI t1 t2 hbr hb w7;refine wt zz ?_;exact⟨dd.length-(k+1),by omega,k+1,_,rfl,rfl,by omega,rfl,by rw[hta];exact hI2⟩
 have hd:decide ((k:Int)<(dd.length:Int))=false:=by simp;omega
 obtain rfl:k=dd.length:=by omega
 rw[List.take_length]at hI;replace zz:=uu6 s1 s2 s3 sI hlD hd;refine xG 44 zz ?_;refine⟨?_⟩;refine a_drop (h.next+1) [(3,.imm 6 (Sx.rows (L5++dd.map duW)))] rfl hI.lt ?_ ?_
 ·intro x hx;simp only[List.mem_cons,List.not_mem_nil,or_false]at hx;subst hx;show FrzTo (h.next+1) _ _ (S 3);rw[s3];exact tl_frzX hI.tl
 refine a_genX (fun S H=>S 2= .ptr h.next 0 0∧S 3= .imm 6 (Sx.rows (L5++dd.map duW))∧Grow h H∧H.obj h.next=some (.arr 6 [sxZd])) ⟨by simp only[frzS,Ty.w,simprocAttr,s2],by simp only[frzS,Ty.w,simprocAttr],⟨hI.grow.le,fun j hj=>by simp only[below];rw[if_pos (by omega)];exact hI.grow.old j hj⟩,by simp only[below];rw[if_pos (by omega)];exact hI.ores⟩ ?_;have hl6:(L5++dd.map duW).length≤1099511627776:=by
  rw[List.length_append,List.length_map];have:=zd.1;omega
 have hP:=hli opDef9 _ hl6;generalize L5++dd.map duW=L6 at hP hW;rw[hW];try clear zz
 clear s1 s2 s3 sI hI hl6;rintro S H ⟨s2,s3,hg,o2⟩;have hfz:=fun n h=>sx_frz n h (listM (wordM opDef9::L6));generalize listM (wordM opDef9::L6)=X at hP hfz;obtain⟨xk,xv,xl,xc,xt,xs⟩:=X;simp only[Sx.cells]at hP hfz⊢;refine wt (uu s2 s3) ?_;refine uU (uu3 s2 s3 o2) (hP _) ?_;refine wt (uu3 s2 s3 o2) ?_;refine⟨?_,hg.set (Nat.le_refl _) _⟩;simp only[FrzTo];exact⟨_,rfl,hfz _ _⟩
end Go.Proofs.YtblgchkahpgdjaaGreat
namespace Go.Proofs.YtblgchkahpgdjaaGreat
open Go.AM
set_option maxHeartbeats 8000000
set_option maxRecDepth 20000
theorem rsd_dp{dn:ByteArray}{dt dc:List Pm}{dp:List Pr}{df:List Fu}{da:List Ac}{dd:List Du}(hok:Dm.ok ⟨dn,dt,dc,dp,df,da,dd⟩){k0 k1 k2 k3 k4 k5 k6:Code}(hb:Tryz.f48.body=some (.seq k0 (.seq k1 (.seq k2 (.seq k3 (.seq k4 (.seq k5 k6))))))){Q:Post}{h:Heap}
  (hQ:dp.all prR=false→ ∀ (S:Slots)(H:Heap),S 2= .sc (.bool false)→Grow h H→Q .ret S H){S:Slots}{H:Heap}(s1:S 1= .cptr [sPV dn,.imm 2 (pmRows dt),.imm 2 (pmRows dc),.imm 2 (prRows dp),.imm 4 (fuRows df),.imm 10 (acRows da),.imm 23 (duRows dd)])(hg:Grow h H):
  awp Tryz.prog (fun _=>false) (fun _=>false) Tryz.f48.ntmps k2 (Post.seq (fun S H=>S 1= .cptr [sPV dn,.imm 2 (pmRows dt),.imm 2 (pmRows dc),.imm 2 (prRows dp),.imm 4 (fuRows df),.imm 10 (acRows da),.imm 23 (duRows dd)]∧Grow h H∧dp.all prR=true) Q) S H:=by
 simp only[Tryz.f48,Option.some.injEq,Code.seq.injEq]at hb;obtain⟨-,-,hb⟩:=hb;obtain⟨rfl,hb⟩:=hb;try clear zz
 clear hb;have hns: ∀ s:ByteArray,s.size≤bigN→ ∀ h:Heap,PCall Tryz.prog 78 [sPV s] h fun r h'=>r= .sc (.bool (nameB s))∧h'=h:=fun s hs h=>rname_c (by unfold bigN at hs;omega);rw[Tryz.ntmps48];have hlen:=prRows_len dp;refine wt (uu s1 hlen) ?_;refine a_loop (fun m S H=>S 1= .cptr [sPV dn,.imm 2 (pmRows dt),.imm 2 (pmRows dc),.imm 2 (prRows dp),.imm 4 (fuRows df),.imm 10 (acRows da),.imm 23 (duRows dd)]∧ ∃ k:Nat,S 3= .sc (.int .i64 k)∧k≤dp.length∧m=dp.length-k∧Grow h H∧dp.all prR=(dp.drop k).all prR) dp.length ?_ ?_
 ·simp only[Ty.w,simprocAttr,s1];first|exact⟨0,rfl,Nat.zero_le _,rfl,hg,rfl⟩|exact⟨trivial,0,rfl,Nat.zero_le _,rfl,hg,rfl⟩
 ·try clear zz
  clear s1 hg;rintro m S H ⟨s1,k,sI,hk,rfl,hg,hinv⟩;by_cases hlt:k<dp.length
  ·have hd:decide ((k:Int)<(dp.length:Int))=true:=(by simp;omega);have hbl:dp.length≤1152921504606846976:=(by have:=hok.predicates.1;unfold bigN at this;exact this);have w7:IntKind.i64.wrap ((k:Int)+1)=((k+1:Nat):Int):=(by rw[wrap64 (by omega) (by omega)];omega);obtain⟨a,hx⟩: ∃ a,dp[k]? =some a:=⟨_,List.getElem?_eq_getElem hlt⟩;have hr:=prRows_get hx;have hco:=hok.predicates.2 a (List.mem_of_getElem? hx);have c0:=hns a.name hco.name;have c1:=fun h:Heap=>rshapedPs_c (v:=true) hco.params.1 hco.params.2 h;rw[drop_of_get hx,List.all_cons]at hinv;generalize hF2:(dp.drop (k+1)).all prR=F2 at hinv;simp only[prR]at hinv;(try clear zz);clear hco hx;obtain⟨an,ap⟩:=a;simp only at c0 hinv;generalize nameB an=b0 at c0 hinv;simp only at c1 hinv;generalize ap.all (pmR true)=b1 at c1 hinv;simp only[prRow]at hr c0 c1;replace zz:=uu6 s1 sI hlen hd hr yT;refine wt zz ?_;cases b0 with
   |false=>
    have hf:dp.all prR=false:=(by rw[hinv];simp);replace zz:=uu6 s1 sI hlen hd hr yF;refine uU zz (c0 _) ?_;replace zz:=uu7 s1 sI hlen hd hr yF yT;refine wt zz ?_;exact hQ hf _ _ (by simp only[Ty.w,simprocAttr]) (hg)
   |true=>
    replace zz:=uu6 s1 sI hlen hd hr yT;refine uU zz (c0 _) ?_;refine wt zz ?_;cases b1 with
    |false=>
     have hf:dp.all prR=false:=(by rw[hinv];simp);replace zz:=uu6 s1 sI hlen hd hr yF;refine uU zz (c1 _) ?_;replace zz:=uu7 s1 sI hlen hd hr yF yT;refine wt zz ?_;exact hQ hf _ _ (by simp only[Ty.w,simprocAttr]) (hg)
    |true=>
     replace zz:=uu6 s1 sI hlen hd hr yT;refine uU zz (c1 _) ?_;simp only[Bool.not_false,Bool.true_and]at hinv;replace zz:=uu7 s1 sI hlen hd hr w7 yT;refine wt zz ?_;first
      |exact⟨dp.length-(k+1),by omega,k+1,rfl,by omega,rfl,hg,by rw[hF2];exact hinv⟩
      |exact⟨dp.length-(k+1),by omega,by simp only[Ty.w,simprocAttr,s1],k+1,by simp only[Ty.w,simprocAttr],by omega,rfl,hg,by rw[hF2];exact hinv⟩
  ·have hd:decide ((k:Int)<(dp.length:Int))=false:=(by simp;omega);rw[List.drop_eq_nil_of_le (by omega)]at hinv;simp only[List.all_nil]at hinv;replace zz:=uu4 s1 sI hlen hd;refine wt zz ?_;first|exact⟨hg,hinv⟩|exact⟨s1,hg,hinv⟩|exact⟨by simp only[Ty.w,simprocAttr,s1],hg,hinv⟩
end Go.Proofs.YtblgchkahpgdjaaGreat
namespace Go.Proofs.YtblgchkahpgdjaaGreat
open Go.AM
set_option maxHeartbeats 8000000
set_option maxRecDepth 20000
theorem rsd_df{dn:ByteArray}{dt dc:List Pm}{dp:List Pr}{df:List Fu}{da:List Ac}{dd:List Du}(hok:Dm.ok ⟨dn,dt,dc,dp,df,da,dd⟩){k0 k1 k2 k3 k4 k5 k6:Code}(hb:Tryz.f48.body=some (.seq k0 (.seq k1 (.seq k2 (.seq k3 (.seq k4 (.seq k5 k6))))))){Q:Post}{h:Heap}
  (hQ:df.all fuR=false→ ∀ (S:Slots)(H:Heap),S 2= .sc (.bool false)→Grow h H→Q .ret S H){S:Slots}{H:Heap}(s1:S 1= .cptr [sPV dn,.imm 2 (pmRows dt),.imm 2 (pmRows dc),.imm 2 (prRows dp),.imm 4 (fuRows df),.imm 10 (acRows da),.imm 23 (duRows dd)])(hg:Grow h H):
  awp Tryz.prog (fun _=>false) (fun _=>false) Tryz.f48.ntmps k3 (Post.seq (fun S H=>S 1= .cptr [sPV dn,.imm 2 (pmRows dt),.imm 2 (pmRows dc),.imm 2 (prRows dp),.imm 4 (fuRows df),.imm 10 (acRows da),.imm 23 (duRows dd)]∧Grow h H∧df.all fuR=true) Q) S H:=by
 simp only[Tryz.f48,Option.some.injEq,Code.seq.injEq]at hb;obtain⟨-,-,hb⟩:=hb;obtain⟨-,hb⟩:=hb;obtain⟨rfl,hb⟩:=hb;try clear zz
 clear hb;have hns: ∀ s:ByteArray,s.size≤bigN→ ∀ h:Heap,PCall Tryz.prog 78 [sPV s] h fun r h'=>r= .sc (.bool (nameB s))∧h'=h:=fun s hs h=>rname_c (by unfold bigN at hs;omega);rw[Tryz.ntmps48];have hlen:=fuRows_len df;refine wt (uu s1 hlen) ?_;refine a_loop (fun m S H=>S 1= .cptr [sPV dn,.imm 2 (pmRows dt),.imm 2 (pmRows dc),.imm 2 (prRows dp),.imm 4 (fuRows df),.imm 10 (acRows da),.imm 23 (duRows dd)]∧ ∃ k:Nat,S 4= .sc (.int .i64 k)∧k≤df.length∧m=df.length-k∧Grow h H∧df.all fuR=(df.drop k).all fuR) df.length ?_ ?_
 ·simp only[Ty.w,simprocAttr,s1];first|exact⟨0,rfl,Nat.zero_le _,rfl,hg,rfl⟩|exact⟨trivial,0,rfl,Nat.zero_le _,rfl,hg,rfl⟩
 ·try clear zz
  clear s1 hg;rintro m S H ⟨s1,k,sI,hk,rfl,hg,hinv⟩;by_cases hlt:k<df.length
  ·have hd:decide ((k:Int)<(df.length:Int))=true:=(by simp;omega);have hbl:df.length≤1152921504606846976:=(by have:=hok.functions.1;unfold bigN at this;exact this);have w7:IntKind.i64.wrap ((k:Int)+1)=((k+1:Nat):Int):=(by rw[wrap64 (by omega) (by omega)];omega);obtain⟨a,hx⟩: ∃ a,df[k]? =some a:=⟨_,List.getElem?_eq_getElem hlt⟩;have hr:=fuRows_get hx;have hco:=hok.functions.2 a (List.mem_of_getElem? hx);have c0:=hns a.name hco.name;have c1:=fun h:Heap=>rshapedPs_c (v:=true) hco.params.1 hco.params.2 h;have c2:=fun h:Heap=>d9small_c (h:=h) (n:=a.lo);have c3:=fun h:Heap=>d9small_c (h:=h) (n:=a.hi);rw[drop_of_get hx,List.all_cons]at hinv;generalize hF2:(df.drop (k+1)).all fuR=F2 at hinv;simp only[fuR]at hinv;(try clear zz);clear hco hx;obtain⟨an,ap,alo,ahi⟩:=a;simp only at c0 hinv;generalize nameB an=b0 at c0 hinv;simp only at c1 hinv;generalize ap.all (pmR true)=b1 at c1 hinv;simp only at c2 hinv;generalize smB alo=b2 at c2 hinv;simp only at c3 hinv;generalize smB ahi=b3 at c3 hinv;simp only[fuRow]at hr c0 c1 c2 c3;replace zz:=uu6 s1 sI hlen hd hr yT;refine wt zz ?_;cases b0 with
   |false=>
    have hf:df.all fuR=false:=(by rw[hinv];simp);replace zz:=uu6 s1 sI hlen hd hr yF;refine uU zz (c0 _) ?_;replace zz:=uu7 s1 sI hlen hd hr yF yT;refine wt zz ?_;exact hQ hf _ _ (by simp only[Ty.w,simprocAttr]) ((hg.new _).set hg.le _)
   |true=>
    replace zz:=uu6 s1 sI hlen hd hr yT;refine uU zz (c0 _) ?_;refine wt zz ?_;cases b1 with
    |false=>
     have hf:df.all fuR=false:=(by rw[hinv];simp);replace zz:=uu6 s1 sI hlen hd hr yF;refine uU zz (c1 _) ?_;replace zz:=uu7 s1 sI hlen hd hr yF yT;refine wt zz ?_;exact hQ hf _ _ (by simp only[Ty.w,simprocAttr]) ((hg.new _).set hg.le _)
    |true=>
     replace zz:=uu6 s1 sI hlen hd hr yT;refine uU zz (c1 _) ?_;refine wt zz ?_;cases b2 with
     |false=>
      have hf:df.all fuR=false:=(by rw[hinv];simp);replace zz:=uu6 s1 sI hlen hd hr yF;refine uU zz (c2 _) ?_;replace zz:=uu7 s1 sI hlen hd hr yF yT;refine wt zz ?_;exact hQ hf _ _ (by simp only[Ty.w,simprocAttr]) ((hg.new _).set hg.le _)
     |true=>
      replace zz:=uu6 s1 sI hlen hd hr yT;refine uU zz (c2 _) ?_;refine wt zz ?_;cases b3 with
      |false=>
       have hf:df.all fuR=false:=(by rw[hinv];simp);replace zz:=uu6 s1 sI hlen hd hr yF;refine uU zz (c3 _) ?_;replace zz:=uu7 s1 sI hlen hd hr yF yT;refine wt zz ?_;exact hQ hf _ _ (by simp only[Ty.w,simprocAttr]) ((hg.new _).set hg.le _)
      |true=>
       replace zz:=uu6 s1 sI hlen hd hr yT;refine uU zz (c3 _) ?_;simp only[Bool.not_false,Bool.true_and]at hinv;replace zz:=uu7 s1 sI hlen hd hr w7 yT;refine wt zz ?_;first
        |exact⟨df.length-(k+1),by omega,k+1,rfl,by omega,rfl,(hg.new _).set hg.le _,by rw[hF2];exact hinv⟩
        |exact⟨df.length-(k+1),by omega,by simp only[Ty.w,simprocAttr,s1],k+1,by simp only[Ty.w,simprocAttr],by omega,rfl,(hg.new _).set hg.le _,by rw[hF2];exact hinv⟩
  ·have hd:decide ((k:Int)<(df.length:Int))=false:=(by simp;omega);rw[List.drop_eq_nil_of_le (by omega)]at hinv;simp only[List.all_nil]at hinv;replace zz:=uu4 s1 sI hlen hd;refine wt zz ?_;first|exact⟨hg,hinv⟩|exact⟨s1,hg,hinv⟩|exact⟨by simp only[Ty.w,simprocAttr,s1],hg,hinv⟩
end Go.Proofs.YtblgchkahpgdjaaGreat
namespace Go.Proofs.YtblgchkahpgdjaaGreat
open Go.AM
set_option maxHeartbeats 8000000
set_option maxRecDepth 20000
theorem rsd_da{dn:ByteArray}{dt dc:List Pm}{dp:List Pr}{df:List Fu}{da:List Ac}{dd:List Du}(hok:Dm.ok ⟨dn,dt,dc,dp,df,da,dd⟩){k0 k1 k2 k3 k4 k5 k6:Code}(hb:Tryz.f48.body=some (.seq k0 (.seq k1 (.seq k2 (.seq k3 (.seq k4 (.seq k5 k6))))))){Q:Post}{h:Heap}
  (hQ:da.all acR=false→ ∀ (S:Slots)(H:Heap),S 2= .sc (.bool false)→Grow h H→Q .ret S H){S:Slots}{H:Heap}(s1:S 1= .cptr [sPV dn,.imm 2 (pmRows dt),.imm 2 (pmRows dc),.imm 2 (prRows dp),.imm 4 (fuRows df),.imm 10 (acRows da),.imm 23 (duRows dd)])(hg:Grow h H):
  awp Tryz.prog (fun _=>false) (fun _=>false) Tryz.f48.ntmps k4 (Post.seq (fun S H=>S 1= .cptr [sPV dn,.imm 2 (pmRows dt),.imm 2 (pmRows dc),.imm 2 (prRows dp),.imm 4 (fuRows df),.imm 10 (acRows da),.imm 23 (duRows dd)]∧Grow h H∧da.all acR=true) Q) S H:=by
 simp only[Tryz.f48,Option.some.injEq,Code.seq.injEq]at hb;obtain⟨-,-,hb⟩:=hb;obtain⟨-,hb⟩:=hb;obtain⟨-,hb⟩:=hb;obtain⟨rfl,hb⟩:=hb;try clear zz
 clear hb;have hns: ∀ s:ByteArray,s.size≤bigN→ ∀ h:Heap,PCall Tryz.prog 78 [sPV s] h fun r h'=>r= .sc (.bool (nameB s))∧h'=h:=fun s hs h=>rname_c (by unfold bigN at hs;omega);rw[Tryz.ntmps48];have hlen:=acRows_len da;refine wt (uu s1 hlen) ?_;refine a_loop (fun m S H=>S 1= .cptr [sPV dn,.imm 2 (pmRows dt),.imm 2 (pmRows dc),.imm 2 (prRows dp),.imm 4 (fuRows df),.imm 10 (acRows da),.imm 23 (duRows dd)]∧ ∃ k:Nat,S 6= .sc (.int .i64 k)∧k≤da.length∧m=da.length-k∧Grow h H∧da.all acR=(da.drop k).all acR) da.length ?_ ?_
 ·simp only[Ty.w,simprocAttr,s1];first|exact⟨0,rfl,Nat.zero_le _,rfl,hg,rfl⟩|exact⟨trivial,0,rfl,Nat.zero_le _,rfl,hg,rfl⟩
 ·try clear zz
  clear s1 hg;rintro m S H ⟨s1,k,sI,hk,rfl,hg,hinv⟩;by_cases hlt:k<da.length
  ·have hd:decide ((k:Int)<(da.length:Int))=true:=(by simp;omega);have hbl:da.length≤1152921504606846976:=(by have:=hok.actions.1;unfold bigN at this;exact this);have w7:IntKind.i64.wrap ((k:Int)+1)=((k+1:Nat):Int):=(by rw[wrap64 (by omega) (by omega)];omega);obtain⟨a,hx⟩: ∃ a,da[k]? =some a:=⟨_,List.getElem?_eq_getElem hlt⟩;have hr:=acRows_get hx;have hco:=hok.actions.2 a (List.mem_of_getElem? hx);have c0:=hns a.name hco.name;have c1:=fun h:Heap=>rshapedPs_c (v:=true) hco.params.1 hco.params.2 h;have c3:=fun h:Heap=>d9small_c (h:=h) (n:=a.cost);have c4:=fun h:Heap=>rshapedF_c a.pre hco.pre h;have c5:=fun h:Heap=>rshapedC_c (l:=a.changes) hco.changes.1 hco.changes.2 h;rw[drop_of_get hx,List.all_cons]at hinv;generalize hF2:(da.drop (k+1)).all acR=F2 at hinv;simp only[acR]at hinv;(try clear zz);clear hco hx;obtain⟨an,ap,ac,pre,ach⟩:=a;simp only at c0 hinv;generalize nameB an=b0 at c0 hinv;simp only at c1 hinv;generalize ap.all (pmR true)=b1 at c1 hinv;simp only at c3 hinv;generalize smB ac=b3 at c3 hinv;simp only at c4 hinv;generalize shapedF pre=b4 at c4 hinv;simp only at c5 hinv;generalize ach.all chR=b5 at c5 hinv;obtain⟨gop,gna,gar,gpa,gex,gki⟩:=pre;simp only[acRow,Fm.cells,List.cons_append,List.nil_append]at hr c0 c1 c3 c4 c5;generalize q2:decide (ac<0)=b2 at hinv;cases b2 with
   |true=>
    have hf:da.all acR=false:=(by rw[hinv];simp);replace zz:=uu7 s1 sI hlen hd hr q2 yT;refine wt zz ?_;cases b0 with
    |false=>
     replace zz:=uu7 s1 sI hlen hd hr q2 yF;refine uU zz (c0 _) ?_;replace zz:=uu8 s1 sI hlen hd hr q2 yF yT;refine wt zz ?_;exact hQ hf _ _ (by simp only[Ty.w,simprocAttr]) ((hg.new _).set hg.le _)
    |true=>
     replace zz:=uu7 s1 sI hlen hd hr q2 yT;refine uU zz (c0 _) ?_;refine wt zz ?_;cases b1 with
     |false=>
      replace zz:=uu7 s1 sI hlen hd hr q2 yF;refine uU zz (c1 _) ?_;replace zz:=uu8 s1 sI hlen hd hr q2 yF yT;refine wt zz ?_;exact hQ hf _ _ (by simp only[Ty.w,simprocAttr]) ((hg.new _).set hg.le _)
     |true=>
      replace zz:=uu7 s1 sI hlen hd hr q2 yT;refine uU zz (c1 _) ?_;replace zz:=uu8 s1 sI hlen hd hr q2 yF yT;refine wt zz ?_;exact hQ hf _ _ (by simp only[Ty.w,simprocAttr]) ((hg.new _).set hg.le _)
   |false=>
    replace zz:=uu7 s1 sI hlen hd hr q2 yT;refine wt zz ?_;cases b0 with
    |false=>
     replace zz:=uu7 s1 sI hlen hd hr q2 yF;refine uU zz (c0 _) ?_;have hf:da.all acR=false:=(by rw[hinv];simp);replace zz:=uu8 s1 sI hlen hd hr q2 yF yT;refine wt zz ?_;exact hQ hf _ _ (by simp only[Ty.w,simprocAttr]) ((hg.new _).set hg.le _)
    |true=>
     replace zz:=uu7 s1 sI hlen hd hr q2 yT;refine uU zz (c0 _) ?_;refine wt zz ?_;cases b1 with
     |false=>
      replace zz:=uu7 s1 sI hlen hd hr q2 yF;refine uU zz (c1 _) ?_;have hf:da.all acR=false:=(by rw[hinv];simp);replace zz:=uu8 s1 sI hlen hd hr q2 yF yT;refine wt zz ?_;exact hQ hf _ _ (by simp only[Ty.w,simprocAttr]) ((hg.new _).set hg.le _)
     |true=>
      replace zz:=uu7 s1 sI hlen hd hr q2 yT;refine uU zz (c1 _) ?_;refine wt zz ?_;cases b3 with
      |false=>
       replace zz:=uu7 s1 sI hlen hd hr q2 yF;refine uU zz (c3 _) ?_;have hf:da.all acR=false:=(by rw[hinv];simp);replace zz:=uu8 s1 sI hlen hd hr q2 yF yT;refine wt zz ?_;exact hQ hf _ _ (by simp only[Ty.w,simprocAttr]) ((hg.new _).set hg.le _)
      |true=>
       replace zz:=uu7 s1 sI hlen hd hr q2 yT;refine uU zz (c3 _) ?_;refine wt zz ?_;cases b4 with
       |false=>
        replace zz:=uu7 s1 sI hlen hd hr q2 yF;refine uU zz (c4 _) ?_;have hf:da.all acR=false:=(by rw[hinv];simp);replace zz:=uu8 s1 sI hlen hd hr q2 yF yT;refine wt zz ?_;exact hQ hf _ _ (by simp only[Ty.w,simprocAttr]) ((hg.new _).set hg.le _)
       |true=>
        replace zz:=uu7 s1 sI hlen hd hr q2 yT;refine uU zz (c4 _) ?_;refine wt zz ?_;cases b5 with
        |false=>
         replace zz:=uu7 s1 sI hlen hd hr q2 yF;refine uU zz (c5 _) ?_;have hf:da.all acR=false:=(by rw[hinv];simp);replace zz:=uu8 s1 sI hlen hd hr q2 yF yT;refine wt zz ?_;exact hQ hf _ _ (by simp only[Ty.w,simprocAttr]) ((hg.new _).set hg.le _)
        |true=>
         replace zz:=uu7 s1 sI hlen hd hr q2 yT;refine uU zz (c5 _) ?_;simp only[Bool.not_false,Bool.true_and]at hinv;replace zz:=uu8 s1 sI hlen hd hr q2 w7 yT;refine wt zz ?_;exact⟨da.length-(k+1),by omega,k+1,rfl,by omega,rfl,(hg.new _).set hg.le _,by rw[hF2];exact hinv⟩
  ·have hd:decide ((k:Int)<(da.length:Int))=false:=(by simp;omega);rw[List.drop_eq_nil_of_le (by omega)]at hinv;simp only[List.all_nil]at hinv;replace zz:=uu4 s1 sI hlen hd;refine wt zz ?_;first|exact⟨hg,hinv⟩|exact⟨s1,hg,hinv⟩|exact⟨by simp only[Ty.w,simprocAttr,s1],hg,hinv⟩
end Go.Proofs.YtblgchkahpgdjaaGreat
namespace Go.Proofs.YtblgchkahpgdjaaGreat
open Go.AM
set_option maxHeartbeats 8000000
set_option maxRecDepth 20000
theorem rsd_dd{dn:ByteArray}{dt dc:List Pm}{dp:List Pr}{df:List Fu}{da:List Ac}{dd:List Du}(hok:Dm.ok ⟨dn,dt,dc,dp,df,da,dd⟩){k0 k1 k2 k3 k4 k5 k6:Code}(hb:Tryz.f48.body=some (.seq k0 (.seq k1 (.seq k2 (.seq k3 (.seq k4 (.seq k5 k6))))))){Q:Post}{h:Heap}
  (hQ:dd.all duR=false→ ∀ (S:Slots)(H:Heap),S 2= .sc (.bool false)→Grow h H→Q .ret S H){S:Slots}{H:Heap}(s1:S 1= .cptr [sPV dn,.imm 2 (pmRows dt),.imm 2 (pmRows dc),.imm 2 (prRows dp),.imm 4 (fuRows df),.imm 10 (acRows da),.imm 23 (duRows dd)])(hg:Grow h H):
  awp Tryz.prog (fun _=>false) (fun _=>false) Tryz.f48.ntmps k5 (Post.seq (fun S H=>S 1= .cptr [sPV dn,.imm 2 (pmRows dt),.imm 2 (pmRows dc),.imm 2 (prRows dp),.imm 4 (fuRows df),.imm 10 (acRows da),.imm 23 (duRows dd)]∧Grow h H∧dd.all duR=true) Q) S H:=by
 simp only[Tryz.f48,Option.some.injEq,Code.seq.injEq]at hb;obtain⟨-,-,hb⟩:=hb;obtain⟨-,hb⟩:=hb;obtain⟨-,hb⟩:=hb;obtain⟨-,hb⟩:=hb;obtain⟨rfl,-⟩:=hb;have hns: ∀ s:ByteArray,s.size≤bigN→ ∀ h:Heap,PCall Tryz.prog 78 [sPV s] h fun r h'=>r= .sc (.bool (nameB s))∧h'=h:=fun s hs h=>rname_c (by unfold bigN at hs;omega);rw[Tryz.ntmps48];have hlen:=duRows_len dd;refine wt (uu s1 hlen) ?_;refine a_loop (fun m S H=>S 1= .cptr [sPV dn,.imm 2 (pmRows dt),.imm 2 (pmRows dc),.imm 2 (prRows dp),.imm 4 (fuRows df),.imm 10 (acRows da),.imm 23 (duRows dd)]∧ ∃ k:Nat,S 8= .sc (.int .i64 k)∧k≤dd.length∧m=dd.length-k∧Grow h H∧dd.all duR=(dd.drop k).all duR) dd.length ?_ ?_
 ·simp only[Ty.w,simprocAttr,s1];first|exact⟨0,rfl,Nat.zero_le _,rfl,hg,rfl⟩|exact⟨trivial,0,rfl,Nat.zero_le _,rfl,hg,rfl⟩
 ·try clear zz
  clear s1 hg;rintro m S H ⟨s1,k,sI,hk,rfl,hg,hinv⟩;by_cases hlt:k<dd.length
  ·have hd:decide ((k:Int)<(dd.length:Int))=true:=(by simp;omega);have hbl:dd.length≤1152921504606846976:=(by have:=hok.duratives.1;unfold bigN at this;exact this);have w7:IntKind.i64.wrap ((k:Int)+1)=((k+1:Nat):Int):=(by rw[wrap64 (by omega) (by omega)];omega);obtain⟨a,hx⟩: ∃ a,dd[k]? =some a:=⟨_,List.getElem?_eq_getElem hlt⟩;have hr:=duRows_get hx;have hco:=hok.duratives.2 a (List.mem_of_getElem? hx);have c0:=hns a.name hco.name;have c1:=fun h:Heap=>rshapedPs_c (v:=true) hco.params.1 hco.params.2 h;have c2:=fun h:Heap=>d9small_c (h:=h) (n:=a.duration);have c3:=fun h:Heap=>rshapedC_c (l:=a.atStart) hco.atStart.1 hco.atStart.2 h;have c4:=fun h:Heap=>rshapedC_c (l:=a.atStop) hco.atStop.1 hco.atStop.2 h;have c5:=fun h:Heap=>rshapedF_c a.start hco.start h;have c6:=fun h:Heap=>rshapedF_c a.over hco.over h;have c7:=fun h:Heap=>rshapedF_c a.stop hco.stop h;rw[drop_of_get hx,List.all_cons]at hinv;generalize hF2:(dd.drop (k+1)).all duR=F2 at hinv;simp only[duR]at hinv;(try clear zz);clear hco hx;obtain⟨an,ap,ac,sta,ove,sto,ach,bch⟩:=a;simp only at c0 hinv;generalize nameB an=b0 at c0 hinv;simp only at c1 hinv;generalize ap.all (pmR true)=b1 at c1 hinv;simp only at c2 hinv;generalize smB ac=b2 at c2 hinv;simp only at c3 hinv;generalize ach.all chR=b3 at c3 hinv;simp only at c4 hinv;generalize bch.all chR=b4 at c4 hinv;simp only at c5 hinv;generalize shapedF sta=b5 at c5 hinv;simp only at c6 hinv;generalize shapedF ove=b6 at c6 hinv;simp only at c7 hinv;generalize shapedF sto=b7 at c7 hinv;obtain⟨gop,gna,gar,gpa,gex,gki⟩:=sta;obtain⟨kop,kna,kar,kpa,kex,kki⟩:=ove;obtain⟨lop,lna,lar,lpa,lex,lki⟩:=sto;simp only[duRow,Fm.cells,List.cons_append,List.nil_append]at hr c0 c1 c2 c3 c4 c5 c6 c7;replace zz:=uu6 s1 sI hlen hd hr yT;refine wt zz ?_;cases b0 with
   |false=>
    have hf:dd.all duR=false:=(by rw[hinv];simp);replace zz:=uu6 s1 sI hlen hd hr yF;refine uU zz (c0 _) ?_;replace zz:=uu7 s1 sI hlen hd hr yF yT;refine wt zz ?_;exact hQ hf _ _ (by simp only[Ty.w,simprocAttr]) ((hg.new _).set hg.le _)
   |true=>
    replace zz:=uu6 s1 sI hlen hd hr yT;refine uU zz (c0 _) ?_;refine wt zz ?_;cases b1 with
    |false=>
     have hf:dd.all duR=false:=(by rw[hinv];simp);replace zz:=uu6 s1 sI hlen hd hr yF;refine uU zz (c1 _) ?_;replace zz:=uu7 s1 sI hlen hd hr yF yT;refine wt zz ?_;exact hQ hf _ _ (by simp only[Ty.w,simprocAttr]) ((hg.new _).set hg.le _)
    |true=>
     replace zz:=uu6 s1 sI hlen hd hr yT;refine uU zz (c1 _) ?_;refine wt zz ?_;cases b2 with
     |false=>
      have hf:dd.all duR=false:=(by rw[hinv];simp);replace zz:=uu6 s1 sI hlen hd hr yF;refine uU zz (c2 _) ?_;replace zz:=uu7 s1 sI hlen hd hr yF yT;refine wt zz ?_;exact hQ hf _ _ (by simp only[Ty.w,simprocAttr]) ((hg.new _).set hg.le _)
     |true=>
      replace zz:=uu6 s1 sI hlen hd hr yT;refine uU zz (c2 _) ?_;refine wt zz ?_;cases b3 with
      |false=>
       have hf:dd.all duR=false:=(by rw[hinv];simp);replace zz:=uu6 s1 sI hlen hd hr yF;refine uU zz (c3 _) ?_;replace zz:=uu7 s1 sI hlen hd hr yF yT;refine wt zz ?_;exact hQ hf _ _ (by simp only[Ty.w,simprocAttr]) ((hg.new _).set hg.le _)
      |true=>
       replace zz:=uu6 s1 sI hlen hd hr yT;refine uU zz (c3 _) ?_;refine wt zz ?_;cases b4 with
       |false=>
        have hf:dd.all duR=false:=(by rw[hinv];simp);replace zz:=uu6 s1 sI hlen hd hr yF;refine uU zz (c4 _) ?_;replace zz:=uu7 s1 sI hlen hd hr yF yT;refine wt zz ?_;exact hQ hf _ _ (by simp only[Ty.w,simprocAttr]) ((hg.new _).set hg.le _)
       |true=>
        replace zz:=uu6 s1 sI hlen hd hr yT;refine uU zz (c4 _) ?_;refine wt zz ?_;cases b5 with
        |false=>
         have hf:dd.all duR=false:=(by rw[hinv];simp);replace zz:=uu6 s1 sI hlen hd hr yF;refine uU zz (c5 _) ?_;replace zz:=uu7 s1 sI hlen hd hr yF yT;refine wt zz ?_;exact hQ hf _ _ (by simp only[Ty.w,simprocAttr]) ((hg.new _).set hg.le _)
        |true=>
         replace zz:=uu6 s1 sI hlen hd hr yT;refine uU zz (c5 _) ?_;refine wt zz ?_;cases b6 with
         |false=>
          have hf:dd.all duR=false:=(by rw[hinv];simp);replace zz:=uu6 s1 sI hlen hd hr yF;refine uU zz (c6 _) ?_;replace zz:=uu7 s1 sI hlen hd hr yF yT;refine wt zz ?_;exact hQ hf _ _ (by simp only[Ty.w,simprocAttr]) ((hg.new _).set hg.le _)
         |true=>
          replace zz:=uu6 s1 sI hlen hd hr yT;refine uU zz (c6 _) ?_;refine wt zz ?_;cases b7 with
          |false=>
           have hf:dd.all duR=false:=(by rw[hinv];simp);replace zz:=uu6 s1 sI hlen hd hr yF;refine uU zz (c7 _) ?_;replace zz:=uu7 s1 sI hlen hd hr yF yT;refine wt zz ?_;exact hQ hf _ _ (by simp only[Ty.w,simprocAttr]) ((hg.new _).set hg.le _)
          |true=>
           replace zz:=uu6 s1 sI hlen hd hr yT;refine uU zz (c7 _) ?_;simp only[Bool.not_false,Bool.true_and]at hinv;replace zz:=uu7 s1 sI hlen hd hr w7 yT;refine wt zz ?_;first
            |exact⟨dd.length-(k+1),by omega,k+1,rfl,by omega,rfl,(hg.new _).set hg.le _,by rw[hF2];exact hinv⟩
            |exact⟨dd.length-(k+1),by omega,by simp only[Ty.w,simprocAttr,s1],k+1,by simp only[Ty.w,simprocAttr],by omega,rfl,(hg.new _).set hg.le _,by rw[hF2];exact hinv⟩
  ·have hd:decide ((k:Int)<(dd.length:Int))=false:=(by simp;omega);rw[List.drop_eq_nil_of_le (by omega)]at hinv;simp only[List.all_nil]at hinv;replace zz:=uu4 s1 sI hlen hd;refine wt zz ?_;first|exact⟨hg,hinv⟩|exact⟨s1,hg,hinv⟩|exact⟨by simp only[Ty.w,simprocAttr,s1],hg,hinv⟩
end Go.Proofs.YtblgchkahpgdjaaGreat
namespace Go.Proofs.YtblgchkahpgdjaaGreat
open Go.AM
set_option maxHeartbeats 8000000
set_option maxRecDepth 20000
theorem rshapedDm_c{d:Dm}(hok:d.ok)(h:Heap):PCall Tryz.prog 48 [.agg d.cells] h fun r h'=>r= .sc (.bool (dmR d))∧h'=h:=by
 refine PCall.quiet Ty.hb_48 ?_;obtain⟨dn,dt,dc,dp,df,da,dd⟩:=d;have hns: ∀ s:ByteArray,s.size≤bigN→ ∀ h:Heap,PCall Tryz.prog 78 [sPV s] h fun r h'=>r= .sc (.bool (nameB s))∧h'=h:=fun s hs h=>rname_c (by unfold bigN at hs;omega);have hc1:=hns dn hok.name;have hc2:=fun h:Heap=>rshapedPs_c (v:=false) hok.types.1 hok.types.2 h;have hc3:=fun h:Heap=>rshapedPs_c (v:=false) hok.constants.1 hok.constants.2 h;simp only at hc1 hc2 hc3;generalize hF:dmR ⟨dn,dt,dc,dp,df,da,dd⟩=F;unfold dmR at hF;simp only at hF;generalize nameB dn=b1 at hc1 hF;generalize dt.all (pmR false)=b2 at hc2 hF;generalize dc.all (pmR false)=b3 at hc3 hF;simp only[Dm.cells];refine uG0 Tryz.func48 Tryz.ntmps48 Tryz.results48 Ty.hb_48 ?_;refine wt trivial ?_;refine uU trivial (hc1 _) ?_;cases b1 with
 |false=>
  subst hF;repeat'(first|refine cK ?_|refine nK ?_|refine a_seq fun K hK=>?_|refine uR yF ?_|refine uT yF ?_|(with_reducible refine ite_in (fun hb=>?_) (fun hb=>?_)<;>(try simp only[Decidable.not_not]at hb)<;>(try simp only[hb,if_true,if_false,not_false_eq_true,not_true_eq_false, ↓reduceIte])<;>(try simp only[hb0,simprocAttr]at hb)<;>(try(exfalso;omega)))|(refine uN hK ?_;clear hK)|apply zI)
  all_goals first|exact Grow.refl _|exact⟨rfl,Grow.refl _⟩
 |true=>
  repeat'(first|refine cK ?_|refine nK ?_|(with_reducible refine ite_in (fun hb=>?_) (fun hb=>?_)<;>(try simp only[Decidable.not_not]at hb)<;>(try simp only[hb,if_true,if_false,not_false_eq_true,not_true_eq_false, ↓reduceIte])<;>(try simp only[hb0,simprocAttr]at hb)<;>(try(exfalso;omega)))|apply zI)
  refine uU yT (hc2 _) ?_;cases b2 with
  |false=>
   subst hF;(repeat'(first|refine cK ?_|refine nK ?_|refine a_seq fun K hK=>?_|refine uR yF ?_|refine uT yF ?_|(with_reducible refine ite_in (fun hb=>?_) (fun hb=>?_)<;>(try simp only[Decidable.not_not]at hb)<;>(try simp only[hb,if_true,if_false,not_false_eq_true,not_true_eq_false, ↓reduceIte])<;>(try simp only[hb0,simprocAttr]at hb)<;>(try(exfalso;omega)))|(refine uN hK ?_;clear hK)|apply zI));all_goals first|exact Grow.refl _|exact⟨rfl,Grow.refl _⟩
  |true=>
   (repeat'(first|refine cK ?_|refine nK ?_|(with_reducible refine ite_in (fun hb=>?_) (fun hb=>?_)<;>(try simp only[Decidable.not_not]at hb)<;>(try simp only[hb,if_true,if_false,not_false_eq_true,not_true_eq_false, ↓reduceIte])<;>(try simp only[hb0,simprocAttr]at hb)<;>(try(exfalso;omega)))|apply zI));refine uU yT (hc3 _) ?_;cases b3 with
   |false=>
    subst hF;refine wm yF ?_;try exact zI
    all_goals first|exact Grow.refl _|exact⟨rfl,Grow.refl _⟩
   |true=>
    simp only[Bool.true_and]at hF;refine xH 3 yT ?_;refine⟨?_⟩;refine a_genX (fun S H=>S 1= .cptr [sPV dn,.imm 2 (pmRows dt),.imm 2 (pmRows dc),.imm 2 (prRows dp),.imm 4 (fuRows df),.imm 10 (acRows da),.imm 23 (duRows dd)]∧Grow h H) ⟨by simp only[Ty.w,simprocAttr],Grow.refl h⟩ ?_;(try clear zz);clear hc1 hc2 hc3 hns;rintro S H ⟨s1,hg⟩;refine a_cut (fun S H=>S 1= .cptr [sPV dn,.imm 2 (pmRows dt),.imm 2 (pmRows dc),.imm 2 (prRows dp),.imm 4 (fuRows df),.imm 10 (acRows da),.imm 23 (duRows dd)]∧Grow h H∧dp.all prR=true) (rsd_dp hok rfl (fun hf S H e g=>?_) s1 hg) ?_
    ·rw [hf]at hF;have hF:F=false:=(by rw[← hF]<;>simp);subst hF;simp only[Ty.w,simprocAttr,e];all_goals first|exact g|exact⟨rfl,g⟩
    (try clear zz);clear s1 hg;rintro S H ⟨s1,hg,e1⟩;rw[e1]at hF;(try simp only[Bool.true_and]at hF);(try clear zz);clear e1;refine a_cut (fun S H=>S 1= .cptr [sPV dn,.imm 2 (pmRows dt),.imm 2 (pmRows dc),.imm 2 (prRows dp),.imm 4 (fuRows df),.imm 10 (acRows da),.imm 23 (duRows dd)]∧Grow h H∧df.all fuR=true) (rsd_df hok rfl (fun hf S H e g=>?_) s1 hg) ?_
    ·rw [hf]at hF;have hF:F=false:=(by rw[← hF]<;>simp);subst hF;simp only[Ty.w,simprocAttr,e];all_goals first|exact g|exact⟨rfl,g⟩
    (try clear zz);clear s1 hg;rintro S H ⟨s1,hg,e1⟩;rw[e1]at hF;(try simp only[Bool.true_and]at hF);(try clear zz);clear e1;refine a_cut (fun S H=>S 1= .cptr [sPV dn,.imm 2 (pmRows dt),.imm 2 (pmRows dc),.imm 2 (prRows dp),.imm 4 (fuRows df),.imm 10 (acRows da),.imm 23 (duRows dd)]∧Grow h H∧da.all acR=true) (rsd_da hok rfl (fun hf S H e g=>?_) s1 hg) ?_
    ·rw [hf]at hF;have hF:F=false:=(by rw[← hF]<;>simp);subst hF;simp only[Ty.w,simprocAttr,e];all_goals first|exact g|exact⟨rfl,g⟩
    (try clear zz);clear s1 hg;rintro S H ⟨s1,hg,e1⟩;rw[e1]at hF;(try simp only[Bool.true_and]at hF);(try clear zz);clear e1;refine a_cut (fun S H=>S 1= .cptr [sPV dn,.imm 2 (pmRows dt),.imm 2 (pmRows dc),.imm 2 (prRows dp),.imm 4 (fuRows df),.imm 10 (acRows da),.imm 23 (duRows dd)]∧Grow h H∧dd.all duR=true) (rsd_dd hok rfl (fun hf S H e g=>?_) s1 hg) ?_
    ·rw [hf]at hF;have hF:F=false:=(by rw[← hF]<;>simp);subst hF;simp only[Ty.w,simprocAttr,e];all_goals first|exact g|exact⟨rfl,g⟩
    (try clear zz);clear s1 hg;rintro S H ⟨s1,hg,e1⟩;rw[e1]at hF;(try simp only[Bool.true_and]at hF);(try clear zz);clear e1;subst hF;refine wm s1 ?_;try exact zI
    all_goals first|exact hg|exact⟨rfl,hg⟩
end Go.Proofs.YtblgchkahpgdjaaGreat
namespace Go.Proofs.YtblgchkahpgdjaaGreat
open Go.AM
set_option maxHeartbeats 4000000
set_option maxRecDepth 20000
theorem rdWrite_c{d:Dm}(hok:d.ok)(hb:PV.bulkL d.cells≤1048576)(h:Heap):PCall Tryz.prog 13 [.agg d.cells] h fun r h'=>r=(if writeDR d then .tup [.agg (dmW d).cells,.sc (.bool true)]else .tup [.agg zeroSx.cells,.sc (.bool false)])∧h'=h:=by
 refine PCall.frz Ty.hb_13 ?_;have hsm:=dm_small hb;have hsh:=fun h:Heap=>rshapedDm_c hok h;unfold writeDR;cases b:dmR d with
 |false=>
  rw[b]at hsh;simp only[Bool.false_and,Bool.false_eq_true,if_false];try clear zz
  clear hok hb hsm b;obtain⟨dn,dt,dc,dp,df,da,dd⟩:=d;simp only[Dm.cells]at hsh⊢;refine uG0 Tryz.func13 Tryz.ntmps13 Tryz.results13 Ty.hb_13 ?_;refine wt trivial ?_;refine uU trivial (hsh _) ?_;refine wt yF ?_;exact⟨tupB_frz zeroSx_frz _,((Grow.refl h).new _).set (Nat.le_refl _) _⟩
 |true=>
  have x1:=dmW_ok b hok hsm;obtain⟨x2,x3⟩:=dmW_nodes hb;have hE:=fun h:Heap=>rDomain_c hok hsm b h;have hV:=fun h:Heap=>rvalidS_c x1 x2 x3 h;rw[b]at hsh;try clear zz
  clear x1 x2 x3 hok hsm hb b;simp only[Bool.true_and];generalize dmW d=X at*;generalize(svalid X 0 0).1=v at*;obtain⟨dn,dt,dc,dp,df,da,dd⟩:=d;obtain⟨xk,xv,xl,xc,xt,xs⟩:=X;simp only[Dm.cells,Sx.cells]at hsh hE hV⊢;cases v with
  |false=>
   simp only[Bool.false_eq_true,if_false];refine uG0 Tryz.func13 Tryz.ntmps13 Tryz.results13 Ty.hb_13 ?_;refine wt trivial ?_;refine uU trivial (hsh _) ?_;refine wt yT ?_;refine uU trivial (hE _) ?_;refine wt yT ?_;refine uU trivial (hV _) ?_;refine wt yF ?_;exact⟨tupB_frz zeroSx_frz _,((Grow.refl h).new _).set (Nat.le_refl _) _⟩
  |true=>
   simp only[if_true];refine uG0 Tryz.func13 Tryz.ntmps13 Tryz.results13 Ty.hb_13 ?_;refine wt trivial ?_;refine uU trivial (hsh _) ?_;refine wt yT ?_;refine uU trivial (hE _) ?_;refine wt yT ?_;refine uU trivial (hV _) ?_;refine wt yT ?_;refine uU trivial (hE _) ?_;refine wt trivial ?_;exact⟨tupB_frz (sxA_frz _ _ (.mk xk xv xl xc xt xs)) _,((Grow.refl h).new _).set (Nat.le_refl _) _⟩
theorem domainWrites_c{d:Dm}(hok:d.ok)(hb:PV.bulkL d.cells≤1048576):PCall Tryz.prog 3 [.agg d.cells] Heap.nil fun r _=>r= .sc (.bool true):=by
 have hsm:=dm_small hb;have hL:=dlarge_c d hok;have hW:=fun h:Heap=>Write_c hok hsm (dmX_ok hok hsm) h;have hR:=fun h:Heap=>rdWrite_c hok hb h;have e0:(dmB d&&(svalid (dmX d) 0 0).1)=writeDR d:=writeD_same d;rw[e0]at hW;generalize largeD d=big at hL;cases big with
 |true=>
  try clear zz
  clear hW hR hok hsm hb e0;obtain⟨dn,dt,dc,dp,df,da,dd⟩:=d;simp only[Dm.cells]at hL⊢;refine uG0 Tryz.func3 Tryz.ntmps3 Tryz.results3 Ty.hb_3 ?_;refine wt trivial ?_;refine uU trivial (hL _) ?_;refine wt trivial ?_;refine uU trivial (dmAwake_c) ?_;exact wz trivial
 |false=>
  cases hw:writeDR d with
  |false=>
   simp only[hw,Bool.false_eq_true,if_false]at hW hR;have hS:=fun h:Heap=>lsame9_c zeroSx zSx_ok h;have e0:posX zeroSx=true:=rfl;rw[e0]at hS;have hS2: ∀ h:Heap,PCall Tryz.prog 14 [.agg [.sc (.int .i64 0),.sc (.int .i64 0),.sc (.int .i64 0),.sc (.int .i64 0),sPV ⟨#[]⟩,.imm 6 []],.agg [.sc (.int .i64 0),.sc (.int .i64 0),.sc (.int .i64 0),.sc (.int .i64 0),.sc (.string ⟨#[]⟩),.sc (.slice none 0 0)]] h fun r h'=>r= .sc (.bool true)∧h'=h:=fun h=>
    PCall.nz (hS h) (nz_cons (Nz.refl _) (nz_cons (nz_agg (nz_cons (Nz.refl _) (nz_cons (Nz.refl _) (nz_cons (Nz.refl _) (nz_cons (Nz.refl _) (nz_cons (Nz.refl _) (nz_cons nz_nil (NzL.refl _)))))))) (NzL.refl _)))
   have hI:=fun h:Heap=>fis_c (h:=h) (n:=2) (m:=2);(try clear zz);clear hok hsm hb hw hS;obtain⟨dn,dt,dc,dp,df,da,dd⟩:=d;simp only[Dm.cells,zeroSx,Sx.cells,Sx.rows,errV]at hL hW hR hI⊢;refine uG0 Tryz.func3 Tryz.ntmps3 Tryz.results3 Ty.hb_3 ?_;refine wt trivial ?_;refine uU trivial (hL _) ?_;refine wt trivial ?_;refine uU yT (dmAwake_c) ?_;refine wt yT ?_;refine uU trivial (hW _) ?_;refine wt trivial ?_;refine uU trivial (hR _) ?_;refine wt (uu @nsucc yF) ?_;refine uU @nsucc (hS2 _) ?_;refine wt @nsucc ?_;refine uU @nsucc (hI _) ?_;exact wz @nsucc
  |true=>
   have hx:=writeD_eq hw;have hxo:(dmW d).ok:=(by rw[← hx];exact dmX_ok hok hsm);rw[hx]at hW;simp only[hw,if_true]at hW hR;have hS:=fun h:Heap=>lsame9_c (dmW d) hxo h;rw[dmW_pos]at hS;generalize dmW d=X at hW hR hS;(try clear zz);clear hok hsm hb hw hx hxo e0;obtain⟨dn,dt,dc,dp,df,da,dd⟩:=d;obtain⟨xk,xv,xl,xc,xt,xs⟩:=X;simp only[Dm.cells,Sx.cells]at hL hW hR hS⊢;refine uG0 Tryz.func3 Tryz.ntmps3 Tryz.results3 Ty.hb_3 ?_;refine wt trivial ?_;refine uU trivial (hL _) ?_;refine wt trivial ?_;refine uU yT (dmAwake_c) ?_;refine wt yT ?_;refine uU trivial (hW _) ?_;refine wt trivial ?_;refine uU trivial (hR _) ?_;refine wt (uu @nsucc yT) ?_;refine uU @nsucc (hS _) ?_;exact wz @nsucc
end Go.Proofs.YtblgchkahpgdjaaGreat
namespace Go.Proofs.YtblgchkahpgdjaaGreat
open Go.AM
set_option maxHeartbeats 1000000
set_option maxRecDepth 20000
def dmTs:List TypeId:=recTs++[28,77,43,94,23,96,24,83,25,85,26]
theorem coChs:Tryz.prog.cellsOf 43=1:=by kernel_rfl
theorem partsCh:partsT Tryz.prog 77=[(0,3),(1,22),(2,67),(8,9),(9,64),(10,75)]:=by kernel_rfl
theorem coCh:Tryz.prog.cellsOf 77=15:=by kernel_rfl
theorem byCh:0<Tryz.prog.bytesOf 77:=by rw[show Tryz.prog.bytesOf 77=288 by kernel_rfl];omega
theorem arg_ch{c:Nat}{ps:List PV}(h:Arg Tryz.prog c 77 ps): ∃ a:Ch,a.ok∧ps=chRow a:=by
 cases c with
 |zero=>simp[Arg]at h
 |succ c=>
  obtain⟨h1,h2⟩:=Arg_struct Tryz.underlying77 h;rw[coCh]at h1;rw[partsCh]at h2
  match ps,h1,h2 with
  |[p0,p1,p2,p3,p4,p5,p6,p7,p8,p9,p10,p11,p12,p13,p14],_,h2=>
   have a0:=h2 (0,3) (by simp);have a1:=h2 (1,22) (by simp);have a2:=h2 (2,67) (by simp);have a3:=h2 (8,9) (by simp);have a4:=h2 (9,64) (by simp);have a5:=h2 (10,75) (by simp);simp only[co24,co25,co29,co3,co57,co9,List.drop_zero,List.drop_succ_cons,List.take_succ_cons,List.take_zero]at a0 a1 a2 a3 a4 a5;obtain⟨kind,hkind,e0⟩:=arg_i64 a0;obtain⟨params,hparams,e1⟩:=arg_pms a1;obtain⟨cond,hcond,e2⟩:=arg_fm _ a2;obtain⟨name,hname,e3⟩:=arg_str a3;obtain⟨args,hargs,e4⟩:=arg_strs a4;obtain⟨value,hvalue,e5⟩:=arg_ex _ a5;simp at e0 e1 e3 e4;refine⟨⟨kind,params,cond,name,args,value⟩,⟨hparams,hcond,hargs,hvalue,hname,hkind⟩,?_⟩;simp only[chRow,e0,e1,e3,e4, ← e2, ← e5,List.cons_append,List.nil_append]
theorem arg_chs{c:Nat}{ps:List PV}(h:Arg Tryz.prog c 43 ps): ∃ l:List Ch,Chs.ok l∧ps=[.imm 15 (chRows l)]:=by
 cases c with
 |zero=>simp[Arg]at h
 |succ c=>
  obtain⟨rows,rfl,h1,_,h2⟩:=Arg_slice Tryz.underlying43 h;obtain⟨xs,rfl,h3⟩:=rows_map (Q:=Ch.ok) (f:=chRow) rows (fun r hr=>arg_ch (h2 r hr).2);refine⟨xs,⟨len_le (by simpa using h1) byCh,h3⟩,?_⟩;rw[coCh];try rfl
theorem partsPr:partsT Tryz.prog 94=[(0,9),(1,22)]:=by kernel_rfl
theorem coPr:Tryz.prog.cellsOf 94=2:=by kernel_rfl
theorem byPr:0<Tryz.prog.bytesOf 94:=by rw[show Tryz.prog.bytesOf 94=40 by kernel_rfl];omega
theorem coPrs:Tryz.prog.cellsOf 23=1:=by kernel_rfl
theorem arg_pr{c:Nat}{ps:List PV}(h:Arg Tryz.prog c 94 ps): ∃ a:Pr,a.ok∧ps=prRow a:=by
 cases c with
 |zero=>simp[Arg]at h
 |succ c=>
  obtain⟨h1,h2⟩:=Arg_struct Tryz.underlying94 h;rw[coPr]at h1;rw[partsPr]at h2
  match ps,h1,h2 with
  |[p0,p1],_,h2=>
   have a0:=h2 (0,9) (by simp);have a1:=h2 (1,22) (by simp);simp only[co25,co9,List.drop_zero,List.drop_succ_cons,List.take_succ_cons,List.take_zero]at a0 a1;obtain⟨name,hname,e0⟩:=arg_str a0;obtain⟨params,hparams,e1⟩:=arg_pms a1;simp at e0 e1;refine⟨⟨name,params⟩,⟨hname,hparams⟩,?_⟩;simp only[prRow,e0,e1,List.cons_append,List.nil_append]
theorem arg_prs{c:Nat}{ps:List PV}(h:Arg Tryz.prog c 23 ps): ∃ l:List Pr,(l.length≤bigN∧ ∀ a∈l,a.ok)∧ps=[.imm 2 (prRows l)]:=by
 cases c with
 |zero=>simp[Arg]at h
 |succ c=>
  obtain⟨rows,rfl,h1,_,h2⟩:=Arg_slice Tryz.underlying23 h;obtain⟨xs,rfl,h3⟩:=rows_map (Q:=Pr.ok) (f:=prRow) rows (fun r hr=>arg_pr (h2 r hr).2);refine⟨xs,⟨len_le (by simpa using h1) byPr,h3⟩,?_⟩;rw[coPr];try rfl
theorem partsFu:partsT Tryz.prog 96=[(0,9),(1,22),(2,3),(3,3)]:=by kernel_rfl
theorem coFu:Tryz.prog.cellsOf 96=4:=by kernel_rfl
theorem byFu:0<Tryz.prog.bytesOf 96:=by rw[show Tryz.prog.bytesOf 96=56 by kernel_rfl];omega
theorem coFus:Tryz.prog.cellsOf 24=1:=by kernel_rfl
theorem arg_fu{c:Nat}{ps:List PV}(h:Arg Tryz.prog c 96 ps): ∃ a:Fu,a.ok∧ps=fuRow a:=by
 cases c with
 |zero=>simp[Arg]at h
 |succ c=>
  obtain⟨h1,h2⟩:=Arg_struct Tryz.underlying96 h;rw[coFu]at h1;rw[partsFu]at h2
  match ps,h1,h2 with
  |[p0,p1,p2,p3],_,h2=>
   have a0:=h2 (0,9) (by simp);have a1:=h2 (1,22) (by simp);have a2:=h2 (2,3) (by simp);have a3:=h2 (3,3) (by simp);simp only[co25,co3,co9,List.drop_zero,List.drop_succ_cons,List.take_succ_cons,List.take_zero]at a0 a1 a2 a3;obtain⟨name,hname,e0⟩:=arg_str a0;obtain⟨params,hparams,e1⟩:=arg_pms a1;obtain⟨lo,hlo,e2⟩:=arg_i64 a2;obtain⟨hi,hhi,e3⟩:=arg_i64 a3;simp at e0 e1 e2 e3;refine⟨⟨name,params,lo,hi⟩,⟨hname,hparams,hlo,hhi⟩,?_⟩;simp only[fuRow,e0,e1,e2,e3,List.cons_append,List.nil_append]
theorem arg_fus{c:Nat}{ps:List PV}(h:Arg Tryz.prog c 24 ps): ∃ l:List Fu,(l.length≤bigN∧ ∀ a∈l,a.ok)∧ps=[.imm 4 (fuRows l)]:=by
 cases c with
 |zero=>simp[Arg]at h
 |succ c=>
  obtain⟨rows,rfl,h1,_,h2⟩:=Arg_slice Tryz.underlying24 h;obtain⟨xs,rfl,h3⟩:=rows_map (Q:=Fu.ok) (f:=fuRow) rows (fun r hr=>arg_fu (h2 r hr).2);refine⟨xs,⟨len_le (by simpa using h1) byFu,h3⟩,?_⟩;rw[coFu];try rfl
theorem partsAc:partsT Tryz.prog 83=[(0,9),(1,22),(2,3),(3,67),(9,43)]:=by kernel_rfl
theorem coAc:Tryz.prog.cellsOf 83=10:=by kernel_rfl
theorem byAc:0<Tryz.prog.bytesOf 83:=by rw[show Tryz.prog.bytesOf 83=200 by kernel_rfl];omega
theorem coAcs:Tryz.prog.cellsOf 25=1:=by kernel_rfl
theorem arg_ac{c:Nat}{ps:List PV}(h:Arg Tryz.prog c 83 ps): ∃ a:Ac,a.ok∧ps=acRow a:=by
 cases c with
 |zero=>simp[Arg]at h
 |succ c=>
  obtain⟨h1,h2⟩:=Arg_struct Tryz.underlying83 h;rw[coAc]at h1;rw[partsAc]at h2
  match ps,h1,h2 with
  |[p0,p1,p2,p3,p4,p5,p6,p7,p8,p9],_,h2=>
   have a0:=h2 (0,9) (by simp);have a1:=h2 (1,22) (by simp);have a2:=h2 (2,3) (by simp);have a3:=h2 (3,67) (by simp);have a4:=h2 (9,43) (by simp);simp only[co25,co29,co3,co9,coChs,List.drop_zero,List.drop_succ_cons,List.take_succ_cons,List.take_zero]at a0 a1 a2 a3 a4;obtain⟨name,hname,e0⟩:=arg_str a0;obtain⟨params,hparams,e1⟩:=arg_pms a1;obtain⟨cost,hcost,e2⟩:=arg_i64 a2;obtain⟨pre,hpre,e3⟩:=arg_fm _ a3;obtain⟨changes,hchanges,e4⟩:=arg_chs a4;simp at e0 e1 e2 e4;refine⟨⟨name,params,cost,pre,changes⟩,⟨hname,hparams,hcost,hpre,hchanges⟩,?_⟩;simp only[acRow,e0,e1,e2,e4, ← e3,List.cons_append,List.nil_append]
theorem arg_acs{c:Nat}{ps:List PV}(h:Arg Tryz.prog c 25 ps): ∃ l:List Ac,(l.length≤bigN∧ ∀ a∈l,a.ok)∧ps=[.imm 10 (acRows l)]:=by
 cases c with
 |zero=>simp[Arg]at h
 |succ c=>
  obtain⟨rows,rfl,h1,_,h2⟩:=Arg_slice Tryz.underlying25 h;obtain⟨xs,rfl,h3⟩:=rows_map (Q:=Ac.ok) (f:=acRow) rows (fun r hr=>arg_ac (h2 r hr).2);refine⟨xs,⟨len_le (by simpa using h1) byAc,h3⟩,?_⟩;rw[coAc];try rfl
theorem partsDu:partsT Tryz.prog 85=[(0,9),(1,22),(2,3),(3,67),(9,67),(15,67),(21,43),(22,43)]:=by kernel_rfl
theorem coDu:Tryz.prog.cellsOf 85=23:=by kernel_rfl
theorem byDu:0<Tryz.prog.bytesOf 85:=by rw[show Tryz.prog.bytesOf 85=480 by kernel_rfl];omega
theorem coDus:Tryz.prog.cellsOf 26=1:=by kernel_rfl
theorem arg_du{c:Nat}{ps:List PV}(h:Arg Tryz.prog c 85 ps): ∃ a:Du,a.ok∧ps=duRow a:=by
 cases c with
 |zero=>simp[Arg]at h
 |succ c=>
  obtain⟨h1,h2⟩:=Arg_struct Tryz.underlying85 h;rw[coDu]at h1;rw[partsDu]at h2
  match ps,h1,h2 with
  |[p0,p1,p2,p3,p4,p5,p6,p7,p8,p9,p10,p11,p12,p13,p14,p15,p16,p17,p18,p19,p20,p21,p22],_,h2=>
   have a0:=h2 (0,9) (by simp);have a1:=h2 (1,22) (by simp);have a2:=h2 (2,3) (by simp);have a3:=h2 (3,67) (by simp);have a4:=h2 (9,67) (by simp);have a5:=h2 (15,67) (by simp);have a6:=h2 (21,43) (by simp);have a7:=h2 (22,43) (by simp);simp only[co25,co29,co3,co9,coChs,List.drop_zero,List.drop_succ_cons,List.take_succ_cons,List.take_zero]at a0 a1 a2 a3 a4 a5 a6 a7;obtain⟨name,hname,e0⟩:=arg_str a0;obtain⟨params,hparams,e1⟩:=arg_pms a1;obtain⟨duration,hduration,e2⟩:=arg_i64 a2;obtain⟨start,hstart,e3⟩:=arg_fm _ a3;obtain⟨over,hover,e4⟩:=arg_fm _ a4;obtain⟨stop,hstop,e5⟩:=arg_fm _ a5;obtain⟨atStart,hatStart,e6⟩:=arg_chs a6;obtain⟨atStop,hatStop,e7⟩:=arg_chs a7;simp at e0 e1 e2 e6 e7;refine⟨⟨name,params,duration,start,over,stop,atStart,atStop⟩,⟨hname,hparams,hduration,hstart,hover,hstop,hatStart,hatStop⟩,?_⟩;simp only[duRow,e0,e1,e2,e6,e7, ← e3, ← e4, ← e5,List.cons_append,List.nil_append]
theorem arg_dus{c:Nat}{ps:List PV}(h:Arg Tryz.prog c 26 ps): ∃ l:List Du,(l.length≤bigN∧ ∀ a∈l,a.ok)∧ps=[.imm 23 (duRows l)]:=by
 cases c with
 |zero=>simp[Arg]at h
 |succ c=>
  obtain⟨rows,rfl,h1,_,h2⟩:=Arg_slice Tryz.underlying26 h;obtain⟨xs,rfl,h3⟩:=rows_map (Q:=Du.ok) (f:=duRow) rows (fun r hr=>arg_du (h2 r hr).2);refine⟨xs,⟨len_le (by simpa using h1) byDu,h3⟩,?_⟩;rw[coDu];try rfl
theorem partsDm:partsT Tryz.prog 28=[(0,9),(1,22),(2,22),(3,23),(4,24),(5,25),(6,26)]:=by kernel_rfl
theorem coDm:Tryz.prog.cellsOf 28=7:=by kernel_rfl
theorem arg_dm(c:Nat){ps:List PV}(h:Arg Tryz.prog c 28 ps): ∃ d:Dm,d.ok∧ps=d.cells:=by
 cases c with
 |zero=>simp[Arg]at h
 |succ c=>
  obtain⟨h1,h2⟩:=Arg_struct Tryz.underlying28 h;rw[coDm]at h1;rw[partsDm]at h2
  match ps,h1,h2 with
  |[p0,p1,p2,p3,p4,p5,p6],_,h2=>
   have a0:=h2 (0,9) (by simp);have a1:=h2 (1,22) (by simp);have a2:=h2 (2,22) (by simp);have a3:=h2 (3,23) (by simp);have a4:=h2 (4,24) (by simp);have a5:=h2 (5,25) (by simp);have a6:=h2 (6,26) (by simp);simp only[co9,co25,coPrs,coFus,coAcs,coDus,List.drop_zero,List.drop_succ_cons,List.take_succ_cons,List.take_zero]at a0 a1 a2 a3 a4 a5 a6;obtain⟨name,hname,e0⟩:=arg_str a0;obtain⟨types,htypes,e1⟩:=arg_pms a1;obtain⟨constants,hconstants,e2⟩:=arg_pms a2;obtain⟨predicates,hpredicates,e3⟩:=arg_prs a3;obtain⟨functions,hfunctions,e4⟩:=arg_fus a4;obtain⟨actions,hactions,e5⟩:=arg_acs a5;obtain⟨duratives,hduratives,e6⟩:=arg_dus a6;simp at e0 e1 e2 e3 e4 e5 e6;exact⟨⟨name,types,constants,predicates,functions,actions,duratives⟩,⟨hname,htypes,hconstants,hpredicates,hfunctions,hactions,hduratives⟩,by simp only[Dm.cells,e0,e1,e2,e3,e4,e5,e6]⟩
end Go.Proofs.YtblgchkahpgdjaaGreat
