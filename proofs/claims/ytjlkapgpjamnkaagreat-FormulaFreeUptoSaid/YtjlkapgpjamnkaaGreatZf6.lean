/- What the claim rests on, part 6: the abstract machine, contracts of the functions, plain data. -/
import Derived.OpenShut
import Derived.ChangeShapes
import Derived.SizedLaws
import Derived.Test.YtjlkapgpjamnkaaGreatRows
import Derived.Shelf.Slices.In.CompactS
import Derived.Shelf.Slices.In.SortAlone
import Derived.Shelf.Slices.In.SortNone
import Derived.Sort.EveryDepth
import Derived.Test.YtjlkapgpjamnkaaGreatZf5
set_option linter.unusedVariables false
set_option linter.unusedSimpArgs false
set_option linter.unusedSectionVars false
namespace Go.Proofs.YtjlkapgpjamnkaaGreat
open Go.AM
theorem list_depth{l:List Sx}{k:Sx}(h:k∈l):k.depth+1≤(listM l).depth:=by
 have:=Sx.depths_mem 0 h
 simp only[listM,Sx.depth,if_true];omega
theorem fmW_rest{op name:ByteArray}{args:List ByteArray}{params:List Pm}{exprs:List Ex}{kids:List Fm}(h1:bEq op opAtom=false)(h2:bEq op opSame=false)(h3:isCmp op=false): ∃ pre,fmW (.mk op name args params exprs kids)=listM (pre++kids.map fmW):=by
 unfold fmW
 rw[h1,h2,h3,fmWs_map]
 exact⟨_,rfl⟩
theorem fmW_parts: ∀ f,shapedF f=true→match f with
  | .mk _ _ _ _ exprs kids=>1+Sx.nodess (exprs.map exW)+Sx.nodess (kids.map fmW)≤(fmW f).nodes∧1≤(fmW f).depth∧(∀ e∈exprs,(exW e).depth+1≤(fmW f).depth)∧(∀ k∈kids,(fmW k).depth+1≤(fmW f).depth):=by
 intro f hf
 have d1: ∀ l:List Sx,1≤(listM l).depth:=fun l=>by simp only[listM,Sx.depth,if_true];omega
 have rest: ∀ {op:ByteArray}{params:List Pm}{kids:List Fm}{pre:List Sx},fmW (.mk op ⟨#[]⟩ [] params [] kids)=listM (pre++kids.map fmW)→
   1+Sx.nodess (([]:List Ex).map exW)+Sx.nodess (kids.map fmW)≤(fmW (.mk op ⟨#[]⟩ [] params [] kids)).nodes∧1≤(fmW (.mk op ⟨#[]⟩ [] params [] kids)).depth∧(∀ e∈([]:List Ex),(exW e).depth+1≤(fmW (.mk op ⟨#[]⟩ [] params [] kids)).depth)∧(∀ k∈kids,(fmW k).depth+1≤(fmW (.mk op ⟨#[]⟩ [] params [] kids)).depth):=by
  intro op params kids pre e
  rw[e]
  refine⟨?_,d1 _,by simp,fun k hk=>list_depth (List.mem_append.2 (.inr (List.mem_map.2 ⟨k,hk,rfl⟩)))⟩
  rw[list_nodes,nodess_append];simp only[List.map_nil,Sx.nodess];omega
 refine sf_cases (C:=fun f=>match f with
  | .mk _ _ _ _ exprs kids=>1+Sx.nodess (exprs.map exW)+Sx.nodess (kids.map fmW)≤(fmW f).nodes∧1≤(fmW f).depth∧(∀ e∈exprs,(exW e).depth+1≤(fmW f).depth)∧(∀ k∈kids,(fmW k).depth+1≤(fmW f).depth)) f hf ?_ ?_ ?_ ?_ ?_ ?_ ?_
 ·intro name args _ _
  have e:fmW (.mk opAtom name args [] [] [])=wordsM name args:=rfl
  simp only[e]
  exact⟨by simp only[wordsM,list_nodes,List.map_nil,Sx.nodess];omega,d1 _,by simp,by simp⟩
 ·intro args _ _
  have e:fmW (.mk opSame ⟨#[]⟩ args [] [] [])=wordsM opEq args:=rfl
  simp only[e]
  exact⟨by simp only[wordsM,list_nodes,List.map_nil,Sx.nodess];omega,d1 _,by simp,by simp⟩
 ·intro op a b ho _ _
  have e:fmW (.mk op ⟨#[]⟩ [] [] [a,b] [])=listM [wordM op,exW a,exW b]:=by rcases ho with rfl|rfl|rfl<;>rfl
  simp only[e]
  refine⟨?_,d1 _,?_,by simp⟩
  ·simp only[list_nodes,List.map_cons,List.map_nil,Sx.nodess,word_nodes];omega
  ·intro x hx
   simp only[List.mem_cons,List.not_mem_nil,or_false]at hx
   rcases hx with rfl|rfl<;>exact list_depth (by simp)
 ·intro op kids ho _
  obtain⟨pre,e⟩: ∃ pre,fmW (.mk op ⟨#[]⟩ [] [] [] kids)=listM (pre++kids.map fmW):=by rcases ho with rfl|rfl<;>exact fmW_rest rfl rfl rfl
  exact rest e
 ·intro k _
  obtain⟨pre,e⟩: ∃ pre,fmW (.mk opNot ⟨#[]⟩ [] [] [] [k])=listM (pre++[k].map fmW):=fmW_rest rfl rfl rfl
  exact rest e
 ·intro a b _ _
  obtain⟨pre,e⟩: ∃ pre,fmW (.mk opImp ⟨#[]⟩ [] [] [] [a,b])=listM (pre++[a,b].map fmW):=fmW_rest rfl rfl rfl
  exact rest e
 ·intro op params k ho _ _
  obtain⟨pre,e⟩: ∃ pre,fmW (.mk op ⟨#[]⟩ [] params [] [k])=listM (pre++[k].map fmW):=by rcases ho with rfl|rfl<;>exact fmW_rest rfl rfl rfl
  exact rest e
theorem formeds_of: ∀ (l:List Ex),(∀ e∈l,shapedE e=true)→ ∀ (d n:Nat),(∀ e∈l,d+(exW e).depth≤32)→n+Sx.nodess (l.map exW)≤4096→(formedMs l d n).1=true∧(formedMs l d n).2≤n+Sx.nodess (l.map exW)
 |[],_,d,n,_,hn=>by simp[formedMs,Sx.nodess]
 |e::l,hs,d,n,hd,hn=>by
  simp only[List.map_cons,Sx.nodess]at hn⊢
  obtain⟨f1,f2⟩:=formed_of e (hs e (by simp)) d n (hd e (by simp)) (by omega)
  unfold formedMs
  cases hw:formedM e d n with
  |mk x c=>
   rw[hw]at f1 f2
   simp only at f1 f2
   subst f1
   simp only
   obtain⟨g1,g2⟩:=formeds_of l (fun q hq=>hs q (by simp[hq])) d c (fun q hq=>hd q (by simp[hq])) (by omega)
   exact⟨g1,by omega⟩
theorem shapeds_of: ∀ (l:List Fm)(d:Nat),(∀ k∈l, ∀ n,n+(fmW k).nodes≤4096→(shapedM k d n).1=true∧(shapedM k d n).2≤n+(fmW k).nodes)→ ∀ n,n+Sx.nodess (l.map fmW)≤4096→(shapedMs l d n).1=true∧(shapedMs l d n).2≤n+Sx.nodess (l.map fmW)
 |[],_,_,n,hn=>by simp[shapedMs,Sx.nodess]
 |k::l,d,h,n,hn=>by
  simp only[List.map_cons,Sx.nodess]at hn⊢
  obtain⟨f1,f2⟩:=h k (by simp) n (by omega)
  unfold shapedMs
  cases hw:shapedM k d n with
  |mk x c=>
   rw[hw]at f1 f2
   simp only at f1 f2
   subst f1
   simp only
   obtain⟨g1,g2⟩:=shapeds_of l d (fun q hq=>h q (by simp[hq])) c (by omega)
   exact⟨g1,by omega⟩
theorem shaped_of: ∀ (f:Fm),shapedF f=true→ ∀ (d n:Nat),d+(fmW f).depth≤32→n+(fmW f).nodes≤4096→(shapedM f d n).1=true∧(shapedM f d n).2≤n+(fmW f).nodes:=by
 refine Fm.ind ?_
 intro op name args params exprs kids ih hs d n hd hn
 have hp:=fmW_parts _ hs
 simp only at hp
 obtain⟨p1,p2,p3,p4⟩:=hp
 have hs2:=hs
 simp only[shapedF,Bool.and_eq_true,List.all_eq_true]at hs2
 obtain⟨⟨h1,h2⟩,h3⟩:=hs2
 rw[shapedFs_iff]at h3
 generalize fmW (.mk op name args params exprs kids)=X at*
 unfold shapedM
 rw[if_pos ⟨by omega,by omega⟩,if_pos h1]
 obtain⟨f1,f2⟩:=formeds_of exprs h2 (d+1) (n+1) (fun e he=>by have:=p3 e he;omega) (by omega)
 cases hw:formedMs exprs (d+1) (n+1)with
 |mk x c=>
  rw[hw]at f1 f2
  simp only at f1 f2
  subst f1
  simp only
  obtain⟨g1,g2⟩:=shapeds_of kids (d+1) (fun k hk m hm=>ih k hk (h3 k hk) (d+1) m (by have:=p4 k hk;omega) hm) c (by omega)
  exact⟨g1,by omega⟩
theorem validF_same{f:Fm}(hn:(fmW f).nodes≤bigN):validF f=(shapedF f&&rvalidB (fmW f)):=by
 unfold validF
 rw[valid_same hn]
 cases hs:shapedF f with
 |false=>
  have:(shapedM f 0 0).1=false:=by
   cases h:(shapedM f 0 0).1 with
   |false=>rfl
   |true=>rw[shapedM_F f 0 0 h]at hs;simp at hs
  simp only[this,Bool.false_and]
 |true=>
  cases hv:rvalidB (fmW f)with
  |false=>simp
  |true=>
   have h1:=(svalid_iff (fmW f) 0 0 (by omega) (by omega)).1.1 (by rw[valid_same hn];exact hv)
   rw[(shaped_of f hs 0 0 h1.2.1 h1.2.2).1]
end Go.Proofs.YtjlkapgpjamnkaaGreat
namespace Go.Proofs.YtjlkapgpjamnkaaGreat
open Go.AM
theorem nameW{s:ByteArray}(h:nameB s=true):wordR s=true:=by rw[← word_same];exact name_word h
theorem varW{s:ByteArray}(h:varB s=true):wordR s=true:=by rw[← word_same];exact(var_word h).1
theorem term_word{s:ByteArray}(h:termB s=true):wordR s=true:=by
 simp only[termB,Bool.or_eq_true]at h
 exact h.elim nameW varW
theorem ss_word{s:ByteArray}(h:wordR s=true):shapedS (wordM s)=true:=by simp[wordM,shapedS,h]
theorem shapedSs_iff: ∀ {l:List Sx},(shapedSs l=true↔ ∀ k∈l,shapedS k=true)
 |[]=>by simp[shapedSs]
 |k::l=>by simp[shapedSs,shapedSs_iff (l:=l)]
theorem ss_list{l:List Sx}(h: ∀ k∈l,shapedS k=true):shapedS (listM l)=true:=by
 unfold listM shapedS
 rw[if_neg (by decide),if_neg (by decide),if_pos rfl,shapedSs_iff.2 h];try rfl
theorem ss_words{first:ByteArray}{l:List ByteArray}(h0:wordR first=true)(h:l.all termB=true):shapedS (wordsM first l)=true:=by
 refine ss_list fun k hk=>?_
 simp only[List.map_cons,List.mem_cons,List.mem_map]at hk
 rcases hk with rfl|⟨s,hs,rfl⟩
 ·exact ss_word h0
 ·exact ss_word (term_word (List.all_eq_true.1 h s hs))
theorem exW_ss: ∀ e:Ex,shapedE e=true→shapedS (exW e)=true:=by
 refine Ex.ind ?_
 intro op name n args kids ih h
 unfold shapedE at h
 unfold exW
 split at h
 ·rename_i c
  rw[if_pos c]
  simp only[Bool.and_eq_true]at h
  have:=h.2
  simp only[inNum,Bool.and_eq_true,decide_eq_true_eq]at this
  simp[shapedS,this.1,this.2]
 ·rename_i c
  rw[if_neg c]
  split at h
  ·rename_i c2
   rw[if_pos c2]
   simp only[Bool.and_eq_true]at h
   exact ss_words (nameW h.1.2) h.2
  ·rename_i c2
   rw[if_neg c2]
   split at h
   case isFalse=>simp at h
   rename_i c3
   simp only[Bool.and_eq_true]at h
   obtain⟨_,h4⟩:=h
   split at h4
   case h_2=>simp at h4
   rename_i a b
   simp only[Bool.and_eq_true]at h4
   have hop:wordR op=true:=by
    simp only[Bool.or_eq_true]at c3
    rcases c3 with(h|h)|h<;>rw[bEq_eq h]<;>decide
   refine ss_list fun k hk=>?_
   simp only[List.mem_cons,List.not_mem_nil,or_false]at hk
   rcases hk with rfl|rfl|rfl
   ·exact ss_word hop
   ·exact ih a (by simp) h4.1
   ·exact ih b (by simp) h4.2
theorem params_ss: ∀ l:List Pm,l.all pmOk=true→ ∀ k∈paramsW l,shapedS k=true
 |[],_=>by simp[paramsW]
 |p::l,h=>by
  simp only[List.all_cons,Bool.and_eq_true,pmOk]at h
  obtain⟨⟨h1,h2⟩,h3⟩:=h
  have ht:wordR p.type=true:=by
   simp only[typedB,Bool.or_eq_true]at h2
   rcases h2 with h2|h2
   ·exact nameW h2
   ·rw [bEq_eq h2];decide
  intro k hk
  simp only[paramsW,List.mem_cons]at hk
  rcases hk with rfl|rfl|rfl|hk
  ·exact ss_word (varW h1)
  ·exact ss_word (by decide)
  ·exact ss_word ht
  ·exact params_ss l h3 k hk
theorem fmW_ss: ∀ f:Fm,shapedF f=true→shapedS (fmW f)=true:=by
 refine sf_ind ?_ ?_ ?_ ?_ ?_ ?_ ?_
 ·intro name args h1 h2
  exact ss_words (nameW h1) h2
 ·intro args _ h2
  exact ss_words (by decide) h2
 ·intro op a b ho ha hb
  have e:fmW (.mk op ⟨#[]⟩ [] [] [a,b] [])=listM [wordM op,exW a,exW b]:=by rcases ho with rfl|rfl|rfl<;>rfl
  have hop:wordR op=true:=by rcases ho with rfl|rfl|rfl<;>decide
  rw[e]
  refine ss_list fun k hk=>?_
  simp only[List.mem_cons,List.not_mem_nil,or_false]at hk
  rcases hk with rfl|rfl|rfl
  ·exact ss_word hop
  ·exact exW_ss a ha
  ·exact exW_ss b hb
 ·intro op kids ho _ ih
  have e: ∃ pre,(∀ k∈pre,shapedS k=true)∧fmW (.mk op ⟨#[]⟩ [] [] [] kids)=listM (pre++kids.map fmW):=by
   have hop:wordR op=true:=by rcases ho with rfl|rfl<;>decide
   have hx:fmW (.mk op ⟨#[]⟩ [] [] [] kids)=listM ((if(bEq op opAnd&&kids.isEmpty)=true then[]else[wordM op])++kids.map fmW):=by
    unfold fmW
    rw[fmWs_map]
    rcases ho with rfl|rfl
    ·rw [if_neg (by decide),if_neg (by decide),if_neg (by decide),if_neg (show ¬ isQ opAnd=true by decide),List.append_nil]
    ·rw [if_neg (by decide),if_neg (by decide),if_neg (by decide),if_neg (show ¬ isQ opOr=true by decide),List.append_nil]
   refine⟨_,?_,hx⟩
   intro k hk
   split at hk
   ·simp at hk
   ·simp only[List.mem_singleton]at hk;subst hk;exact ss_word hop
  obtain⟨pre,hp,e⟩:=e
  rw[e]
  refine ss_list fun k hk=>?_
  rcases List.mem_append.1 hk with hk|hk
  ·exact hp k hk
  ·obtain ⟨y,hy,rfl⟩:=List.mem_map.1 hk;exact ih y hy
 ·intro k _ ih
  exact ss_list (l:=[wordM opNot,fmW k]) fun y hy=>by
   simp only[List.mem_cons,List.not_mem_nil,or_false]at hy
   rcases hy with rfl|rfl
   ·exact ss_word (by decide)
   ·exact ih
 ·intro a b _ _ iha ihb
  exact ss_list (l:=[wordM opImp,fmW a,fmW b]) fun y hy=>by
   simp only[List.mem_cons,List.not_mem_nil,or_false]at hy
   rcases hy with rfl|rfl|rfl
   ·exact ss_word (by decide)
   ·exact iha
   ·exact ihb
 ·intro op params k ho hp _ ih
  have e:fmW (.mk op ⟨#[]⟩ [] params [] [k])=listM [wordM op,listM (paramsW params),fmW k]:=by rcases ho with rfl|rfl<;>rfl
  have hop:wordR op=true:=by rcases ho with rfl|rfl<;>decide
  rw[e]
  refine ss_list fun y hy=>?_
  simp only[List.mem_cons,List.not_mem_nil,or_false]at hy
  rcases hy with rfl|rfl|rfl
  ·exact ss_word hop
  ·exact ss_list (params_ss params hp)
  ·exact ih
theorem validF_iff{f:Fm}:validF f=true↔shapedF f=true∧(fmW f).depth≤32∧(fmW f).nodes≤4096:=by
 constructor
 ·intro h
  have hs:shapedF f=true:=by
   unfold validF at h
   simp only[Bool.and_eq_true]at h
   exact shapedM_F f 0 0 h.1
  unfold validF at h
  simp only[Bool.and_eq_true]at h
  have:=(svalid_iff (fmW f) 0 0 (by omega) (by omega)).1.1 h.2
  exact⟨hs,by omega,by omega⟩
 ·rintro ⟨hs,hd,hn⟩
  unfold validF
  rw[(shaped_of f hs 0 0 (by omega) (by omega)).1,(svalid_iff (fmW f) 0 0 (by omega) (by omega)).1.2 ⟨fmW_ss f hs,by omega,by omega⟩];try rfl
end Go.Proofs.YtjlkapgpjamnkaaGreat
namespace Go.Proofs.YtjlkapgpjamnkaaGreat
open Go.AM Go.Lib
def qB(s:ByteArray):Bool:=match s.data.toList with
 |c::_=>decide (c.toNat=63)
 |[]=>false
def varsR(out:List (List UInt8)):List ByteArray→List (List UInt8)
 |[]=>out
 |s::l=>varsR (if qB s=true then addR out (key s)else out) l
mutual
def freeExR(out:List (List UInt8)):Ex→List (List UInt8)
 | .mk _ _ _ args kids=>freeExsR (varsR out args) kids
def freeExsR(out:List (List UInt8)):List Ex→List (List UInt8)
 |[]=>out
 |k::l=>freeExsR (freeExR out k) l
end
def putR(params:List Pm)(out:List (List UInt8)):List (List UInt8)→List (List UInt8)
 |[]=>out
 |s::l=>putR params (if(params.any fun p=>key p.name==s)=true then out else addR out s) l
mutual
def freeR:Fm→List (List UInt8)
 | .mk _ _ args params exprs kids=>freesR params (freeExsR (varsR [] args) exprs) kids
def freesR(params:List Pm)(out:List (List UInt8)):List Fm→List (List UInt8)
 |[]=>out
 |k::l=>freesR params (putR params out (freeR k)) l
end
theorem varsR_ok: ∀ (l:List ByteArray)(out:List (List UInt8)),out.Pairwise (·<·)→(varsR out l).Pairwise (·<·)∧ ∀ s,key s∈varsR out l↔key s∈out∨(s∈l∧qB s=true)
 |[],out,h=>⟨h,fun s=>by simp[varsR]⟩
 |a::l,out,h=>by
  simp only[varsR]
  by_cases hq:qB a=true
  ·rw [if_pos hq]
   obtain⟨h1,h2⟩:=varsR_ok l (addR out (key a)) (addR_asc h)
   refine⟨h1,fun s=>?_⟩
   rw[h2,addR_mem]
   constructor
   ·rintro ((e|e)|⟨e,q⟩)
    ·rw [key_inj e];exact .inr ⟨by simp,hq⟩
    ·exact .inl e
    ·exact .inr ⟨by simp[e],q⟩
   ·rintro (e|⟨e,q⟩)
    ·exact .inl (.inr e)
    ·rcases List.mem_cons.1 e with e|e
     ·rw [e];exact .inl (.inl rfl)
     ·exact .inr ⟨e,q⟩
  ·rw [if_neg hq]
   obtain⟨h1,h2⟩:=varsR_ok l out h
   refine⟨h1,fun s=>?_⟩
   rw[h2]
   constructor
   ·rintro (e|⟨e,q⟩)
    ·exact .inl e
    ·exact .inr ⟨by simp[e],q⟩
   ·rintro (e|⟨e,q⟩)
    ·exact .inl e
    ·rcases List.mem_cons.1 e with e|e
     ·rw [e]at q;exact absurd q hq
     ·exact .inr ⟨e,q⟩
mutual
theorem freeExR_ok: ∀ (e:Ex)(out:List (List UInt8)),out.Pairwise (·<·)→(freeExR out e).Pairwise (·<·)∧ ∀ s,key s∈freeExR out e↔key s∈out∨e.occ qB s
 | .mk _ _ _ args kids,out,h=>by
  obtain⟨h1,h2⟩:=varsR_ok args out h
  obtain⟨h3,h4⟩:=freeExsR_ok kids (varsR out args) h1
  simp only[freeExR,Ex.occ]
  exact⟨h3,fun s=>by rw[h4,h2,or_assoc]⟩
theorem freeExsR_ok: ∀ (l:List Ex)(out:List (List UInt8)),out.Pairwise (·<·)→(freeExsR out l).Pairwise (·<·)∧ ∀ s,key s∈freeExsR out l↔key s∈out∨Ex.occs qB s l
 |[],out,h=>⟨h,fun s=>by simp[freeExsR,Ex.occs]⟩
 |k::l,out,h=>by
  obtain⟨h1,h2⟩:=freeExR_ok k out h
  obtain⟨h3,h4⟩:=freeExsR_ok l (freeExR out k) h1
  simp only[freeExsR,Ex.occs]
  exact⟨h3,fun s=>by rw[h4,h2,or_assoc]⟩
end
theorem bound_iff{params:List Pm}{s:ByteArray}:(params.any fun p=>key p.name==key s)=true↔s∈params.map Pm.name:=by
 simp only[List.any_eq_true,List.mem_map]
 constructor
 ·rintro ⟨p,hp,h⟩;exact⟨p,hp,key_inj (eq_of_beq h)⟩
 ·rintro ⟨p,hp,h⟩;exact⟨p,hp,by rw[h];simp⟩
theorem putR_ok(params:List Pm): ∀ (l out:List (List UInt8)),out.Pairwise (·<·)→(putR params out l).Pairwise (·<·)∧ ∀ s:ByteArray,key s∈putR params out l↔key s∈out∨(key s∈l∧s ∉ params.map Pm.name)
 |[],out,h=>⟨h,fun s=>by simp[putR]⟩
 |a::l,out,h=>by
  simp only[putR]
  by_cases hq:(params.any fun p=>key p.name==a)=true
  ·rw [if_pos hq]
   obtain⟨h1,h2⟩:=putR_ok params l out h
   refine⟨h1,fun s=>?_⟩
   rw[h2]
   constructor
   ·rintro (e|⟨e,q⟩)
    ·exact .inl e
    ·exact .inr ⟨by simp[e],q⟩
   ·rintro (e|⟨e,q⟩)
    ·exact .inl e
    ·rcases List.mem_cons.1 e with e|e
     ·rw [← e]at hq;exact absurd (bound_iff.1 hq) q
     ·exact .inr ⟨e,q⟩
  ·rw [if_neg hq]
   obtain⟨h1,h2⟩:=putR_ok params l (addR out a) (addR_asc h)
   refine⟨h1,fun s=>?_⟩
   rw[h2,addR_mem]
   constructor
   ·rintro ((e|e)|⟨e,q⟩)
    ·refine .inr ⟨by simp[e],fun hb=>hq ?_⟩
     rw[← e];exact bound_iff.2 hb
    ·exact .inl e
    ·exact .inr ⟨by simp[e],q⟩
   ·rintro (e|⟨e,q⟩)
    ·exact .inl (.inr e)
    ·rcases List.mem_cons.1 e with e|e
     ·exact .inl (.inl e)
     ·exact .inr ⟨e,q⟩
mutual
theorem freeR_ok: ∀ f:Fm,(freeR f).Pairwise (·<·)∧ ∀ s,key s∈freeR f↔f.occ qB s
 | .mk _ _ args params exprs kids=>by
  obtain⟨h1,h2⟩:=varsR_ok args [] (by simp)
  obtain⟨h3,h4⟩:=freeExsR_ok exprs _ h1
  obtain⟨h5,h6⟩:=freesR_ok params kids _ h3
  simp only[freeR,Fm.occ]
  refine⟨h5,fun s=>?_⟩
  rw[h6,h4,h2]
  simp[or_assoc]
theorem freesR_ok(params:List Pm): ∀ (l:List Fm)(out:List (List UInt8)),out.Pairwise (·<·)→(freesR params out l).Pairwise (·<·)∧ ∀ s:ByteArray,key s∈freesR params out l↔key s∈out∨(Fm.occs qB s l∧s ∉ params.map Pm.name)
 |[],out,h=>⟨h,fun s=>by simp[freesR,Fm.occs]⟩
 |k::l,out,h=>by
  obtain⟨h0,h0'⟩:=freeR_ok k
  obtain⟨h1,h2⟩:=putR_ok params (freeR k) out h
  obtain⟨h3,h4⟩:=freesR_ok params l _ h1
  simp only[freesR,Fm.occs]
  refine⟨h3,fun s=>?_⟩
  rw[h4,h2,h0']
  constructor
  ·rintro ((e|⟨e,p⟩)|⟨e,p⟩)
   ·exact .inl e
   ·exact .inr ⟨.inl e,p⟩
   ·exact .inr ⟨.inr e,p⟩
  ·rintro (e|⟨e|e,p⟩)
   ·exact .inl (.inl e)
   ·exact .inl (.inr ⟨e,p⟩)
   ·exact .inr ⟨e,p⟩
end
theorem term_q{s:ByteArray}(h:termB s=true):qB s=varB s:=by
 cases hv:varB s with
 |true=>
  simp only[varB,Bool.and_eq_true]at hv
  obtain⟨⟨_,h3⟩,_⟩:=hv
  unfold qB
  generalize s.data.toList=l at h3
  cases l with
  |nil=>simp at h3
  |cons c l=>simpa using h3
 |false=>
  have hn:nameB s=true:=by simpa[termB,hv]using h
  simp only[nameB,Bool.and_eq_true]at hn
  obtain⟨⟨⟨h1,_⟩,_⟩,_⟩:=hn
  unfold qB
  generalize s.data.toList=l at h1
  cases l with
  |nil=>rfl
  |cons c l=>
   simp only[bytesOkB,Bool.and_eq_true,letB,decide_eq_true_eq]at h1
   simp only[decide_eq_false_iff_not];omega
theorem args_q{l:List ByteArray}(h:l.all termB=true){s:ByteArray}:(s∈l∧qB s=true)↔(s∈l∧varB s=true):=by
 constructor
 ·rintro ⟨h1,h2⟩;exact⟨h1,by rw[← term_q (List.all_eq_true.1 h s h1)];exact h2⟩
 ·rintro ⟨h1,h2⟩;exact⟨h1,by rw[term_q (List.all_eq_true.1 h s h1)];exact h2⟩
theorem ex_q{s:ByteArray}: ∀ e:Ex,shapedE e=true→(e.occ qB s↔e.occ varB s):=by
 refine Ex.ind ?_
 intro op name n args kids ih h
 unfold shapedE at h
 simp only[Ex.occ,Ex.occs_iff]
 split at h
 ·simp only[Bool.and_eq_true,List.isEmpty_iff]at h
  obtain⟨⟨⟨_,rfl⟩,rfl⟩,_⟩:=h
  simp
 ·split at h
  ·simp only[Bool.and_eq_true,List.isEmpty_iff]at h
   obtain⟨⟨⟨_,rfl⟩,_⟩,h4⟩:=h
   rw[args_q h4];simp
  ·split at h
   case isFalse=>simp at h
   simp only[Bool.and_eq_true,List.isEmpty_iff]at h
   obtain⟨⟨_,rfl⟩,h4⟩:=h
   split at h4
   case h_2=>simp at h4
   rename_i a b
   simp only[Bool.and_eq_true]at h4
   simp[ih a (by simp) h4.1,ih b (by simp) h4.2]
theorem fm_q{s:ByteArray}: ∀ f,shapedF f=true→(f.occ qB s↔f.occ varB s):=by
 refine sf_ind ?_ ?_ ?_ ?_ ?_ ?_ ?_
 ·intro name args _ h2
  simp only[Fm.occ,Ex.occs,Fm.occs,args_q h2]
 ·intro args _ h2
  simp only[Fm.occ,Ex.occs,Fm.occs,args_q h2]
 ·intro op a b _ ha hb
  simp[Fm.occ,Ex.occs,Fm.occs,ex_q a ha,ex_q b hb]
 ·intro op kids _ hk ih
  rw[occ_plain,occ_plain]
  constructor
  ·rintro ⟨k,h1,h2⟩;exact⟨k,h1,(ih k h1).1 h2⟩
  ·rintro ⟨k,h1,h2⟩;exact⟨k,h1,(ih k h1).2 h2⟩
 ·intro k _ ih
  rw[occ_plain,occ_plain];simp[ih]
 ·intro a b _ _ iha ihb
  rw[occ_plain,occ_plain];simp[iha,ihb]
 ·intro op params k _ _ _ ih
  simp[Fm.occ,Ex.occs,Fm.occs,ih]
theorem free_same{f:Fm}(hf:shapedF f=true):compact (((freeFm f []).map key).mergeSort fun x y=>decide (x≤y))=freeR f:=by
 obtain⟨h1,h2⟩:=sorted_compact ((freeFm f []).map key)
 obtain⟨h3,h4⟩:=freeR_ok f
 refine asc_eq h1 h3 fun x=>?_
 rw[h2]
 have hx: ∃ s:ByteArray,key s=x:=⟨⟨x.toArray⟩,rfl⟩
 obtain⟨s,rfl⟩:=hx
 rw[h4,fm_q f hf]
 simp only[List.mem_map]
 constructor
 ·rintro ⟨y,hy,e⟩
  rw[← key_inj e]
  exact((freeFm_mem f []).1 hy).1
 ·intro h;exact⟨s,(freeFm_mem f []).2 ⟨h,by simp⟩,rfl⟩
end Go.Proofs.YtjlkapgpjamnkaaGreat
namespace Go.AM
section
variable {P:Program}{f:FuncId}{z:Nat}{h:Heap}{K:PV→Heap→Prop}
theorem RepL.nil_split{β:Env}{n:Nat}{F:Nat→Prop}{w:World}{z:Nat}: ∀ {pre post:List PV}{vals:List Value},RepL β n F w (pre++ .imm z []::post) vals→ ∃ a cap,RepL β n F w (pre++ .sc (.slice a 0 cap)::post) vals
 |[],post,[],h=>by simp[RepL]at h
 |[],post,v::vals,h=>by
  simp only[List.nil_append,RepL,Rep]at h⊢
  obtain⟨⟨a,cap,hv,_⟩,h2⟩:=h
  exact⟨a,cap,by simpa using hv,h2⟩
 |p::pre,post,[],h=>by simp[RepL]at h
 |p::pre,post,v::vals,h=>by
  simp only[List.cons_append,RepL]at h⊢
  obtain⟨a,cap,hx⟩:=RepL.nil_split h.2
  exact⟨a,cap,h.1,hx⟩
theorem PCall.nil_split{pre post:List PV}(h0: ∀ a cap,PCall P f (pre++ .sc (.slice a 0 cap)::post) h K):PCall P f (pre++ .imm z []::post) h K:=by
 intro β w vals sm hr
 obtain⟨a,cap,hx⟩:=RepL.nil_split hr
 exact h0 a cap β w vals sm hx
theorem PCall.nil1(h0: ∀ a cap,PCall P f [.sc (.slice a 0 cap)] h K):PCall P f [.imm z []] h K:=PCall.nil_split (pre:=[]) (post:=[]) h0
theorem peq_none(c:Bool)(cap:Nat):peq 5 c (.sc (.slice none 0 cap)) (.sc (.slice none 0 0))=some true:=rfl
theorem peq_some(c:Bool)(x:Addr)(cap:Nat):peq 5 c (.sc (.slice (some x) 0 cap)) (.sc (.slice none 0 0))=some false:=rfl
theorem view_some(h:Heap)(x:Option Addr)(cap:Nat):view h (.sc (.slice x 0 cap))=some []:=by
 unfold view
 split<;>first|rfl|(simp_all;done)|(simp_all)
theorem zOk_some(h:Heap)(z:Nat)(x:Option Addr)(cap:Nat):zOk h z (.sc (.slice x 0 cap))=true:=by
 unfold zOk
 split<;>first|rfl|(simp_all;done)|(simp_all)
end
end Go.AM
namespace Go.Proofs.YtjlkapgpjamnkaaGreat
open Go.AM
set_option maxHeartbeats 2000000
set_option maxRecDepth 20000
theorem cloneS_c{l:List ByteArray}(hl:l.length≤1099511627776)(h:Heap):PCall Tryz.prog 76 [.imm 1 (strRows l)] h fun r h'=>Grow h h'∧Tl h' h.next 1 r (strRows l):=by
 have hll:=strRows_len l
 cases l with
 |nil=>
  have e0:strRows []=[]:=rfl
  rw[e0]
  refine PCall.nil1 fun a cap=>?_
  cases a with
  |none=>
   refine pcall_body (ow:=fun _=>false) (wf:=fun _=>false) Ty.mixed Tryz.func76 rfl Ty.hb_76 (by rw[Tryz.ntmps76];simp) ?_
   rw[Tryz.ntmps76,Tryz.results76]
   repeat'(first|refine a_seq fun K hK=>?_|((first|refine a_regionS ?_|refine a_ret ?_);simp(maxSteps:=2000000) only[Ty.w,simprocAttr,peq_none])|(refine hK _ _ ?_;clear hK;try simp only[pst0,simprocAttr]))
   exact⟨Grow.refl _,Tl.nil⟩
  |some x=>
   refine pcall_body (ow:=fun _=>false) (wf:=fun _=>false) Ty.mixed Tryz.func76 rfl Ty.hb_76 (by rw[Tryz.ntmps76];simp) ?_
   rw[Tryz.ntmps76,Tryz.results76]
   repeat'(first|refine a_seq fun K hK=>?_|((first|refine a_regionS ?_|refine a_ret ?_);simp(maxSteps:=2000000) only[Ty.w,simprocAttr,peq_some,view_some,zOk_some])|(refine a_skip ?_;try simp only[pst0,simprocAttr])|(refine a_cond _ (by(try simp(maxSteps:=2000000) only[Ty.w,simprocAttr,peq_some,view_some,zOk_some]);rfl) (fun hb=>?_) (fun hb=>?_)<;>(try simp only[hb0,decide_eq_true_eq,decide_eq_false_iff_not,simprocAttr]at hb)<;>(try(exfalso;omega)))|(refine hK _ _ ?_;clear hK;try simp only[pst0,simprocAttr]))
   exact⟨(Grow.refl h).new _,Tl.grow (Nat.le_refl _) rfl⟩
 |cons x l=>
  have h0:(0<(strRows (x::l)).length)=True:=by rw[hll];simp
  have hb:((x::l).length)*16≤140737488355328:=by omega
  have hz:0+(strRows (x::l)).length=(x::l).length:=by omega
  generalize strRows (x::l)=R at hll h0 hz
  refine pcall_body (ow:=fun _=>false) (wf:=fun _=>false) Ty.mixed Tryz.func76 rfl Ty.hb_76 (by rw[Tryz.ntmps76];simp) ?_
  rw[Tryz.ntmps76,Tryz.results76]
  repeat'(first|refine a_seq fun K hK=>?_|((first|refine a_regionS ?_|refine a_ret ?_);simp(maxSteps:=2000000) only[Ty.w,simprocAttr,h0,hll,hb])|(refine a_skip ?_;try simp only[pst0,simprocAttr])|(refine a_cond _ (by(try simp(maxSteps:=2000000) only[Ty.w,simprocAttr,h0,hll,hb]);rfl) (fun hb=>?_) (fun hb=>?_)<;>(try simp only[hb0,decide_eq_true_eq,decide_eq_false_iff_not,simprocAttr]at hb)<;>(try(exfalso;omega)))|(refine hK _ _ ?_;clear hK;try simp only[pst0,simprocAttr])|(rw[if_pos];rotate_left 1;omega;simp(maxSteps:=2000000) only[Ty.w,simprocAttr,h0,hll,hb]))
  exact⟨(Grow.refl h).new _,Tl.grow (Nat.le_refl _) (by simp[hll])⟩
end Go.Proofs.YtjlkapgpjamnkaaGreat
namespace Go.AM
theorem pcall_weakA{P:Program}{f:FuncId}{xs ys:List PV}{h:Heap}{K:PV→Heap→Prop}(hab: ∀ (β:Env)(n:Nat)(F:Nat→Prop)(w:World)(vals:List Value),RepL β n F w xs vals→RepL β n F w ys vals)(hc:PCall P f ys h K):PCall P f xs h K:=
 fun β w vals sm hr=>hc β w vals sm (hab _ _ _ _ _ hr)
theorem repl_nil_imm{β:Env}{n:Nat}{F:Nat→Prop}{w:World}{z:Nat}: ∀ {pre post:List PV}{vals:List Value},RepL β n F w (pre++ .sc (.slice none 0 0)::post) vals→RepL β n F w (pre++ .imm z []::post) vals
 |[],post,[],h=>by simp[RepL]at h
 |[],post,v::vals,h=>by
  simp only[List.nil_append,RepL,Rep]at h⊢
  exact⟨⟨none,0,h.1,Nat.le_refl _,Nat.zero_le _,.inl trivial⟩,h.2⟩
 |p::pre,post,[],h=>by simp[RepL]at h
 |p::pre,post,v::vals,h=>by
  simp only[List.cons_append,RepL]at h⊢
  exact⟨h.1,repl_nil_imm h.2⟩
theorem PCall.nil_imm{P:Program}{f:FuncId}{z:Nat}{pre post:List PV}{h:Heap}{K:PV→Heap→Prop}(hc:PCall P f (pre++ .imm z []::post) h K):PCall P f (pre++ .sc (.slice none 0 0)::post) h K:=
 pcall_weakA (fun _ _ _ _ _ hr=>repl_nil_imm hr) hc
end Go.AM
namespace Go.Proofs.YtjlkapgpjamnkaaGreat
open Go.AM
set_option maxHeartbeats 4000000
set_option maxRecDepth 20000
theorem memB_any(l:List ByteArray)(s:ByteArray):(l.any fun w=>bEq s w)=memB l s:=by
 unfold memB
 congr 1
 funext w
 exact BEq.comm
theorem inner_g{a b:ByteArray}{c e f:PV}{params:List Pm}{bound:List ByteArray}(hc:c.cells=[c]∧oneC c=true)(he:e.cells=[e]∧oneC e=true)(hf:f.cells=[f]∧oneC f=true)(hb:bound.length+params.length≤1099511627776)(h:Heap):
  PCall Tryz.prog 45 [.agg [sPV a,sPV b,c,.imm 2 (pmRows params),e,f],.imm 1 (strRows bound)] h fun r h'=>r= .imm 1 (strRows (bound++params.map Pm.name))∧h'=h:=by
 refine PCall.frz Ty.hb_45 ?_
 have hlP:=pmRows_len params
 refine pcall_body (ow:=fun _=>false) (wf:=fun _=>false) Ty.mixed Tryz.func45 rfl Ty.hb_45 (by rw[Tryz.ntmps45];simp) ?_
 rw[Tryz.ntmps45,Tryz.results45]
 obtain⟨hc1,hc2⟩:=hc
 obtain⟨he1,he2⟩:=he
 obtain⟨hf1,hf2⟩:=hf
 repeat'(first|refine a_seq fun K hK=>?_|(refine a_regionS ?_;simp(maxSteps:=2000000) only[Ty.w,simprocAttr,hc1,hc2,he1,he2,hf1,hf2])|(refine hK _ _ ?_;clear hK;try simp only[pst0,simprocAttr]))
 refine owp_useL (cloneS_c (l:=bound) (by omega) _) (by(try simp only[Ty.w,simprocAttr]);try rfl) ?_
 rintro r h1 ⟨hg1,tl1⟩
 simp(maxSteps:=2000000) only[Ty.w,simprocAttr,Ty.all]
 repeat'(first|refine a_seq fun K hK=>?_|(refine a_block ?_)|(refine a_regionS ?_;simp(maxSteps:=2000000) only[Ty.w,simprocAttr,hlP])|(refine hK _ _ ?_;clear hK;try simp only[pst0,simprocAttr]))
 refine a_loop (fun m S h'=>S 11= .imm 2 (pmRows params)∧S 12= .sc (.int .i64 params.length)∧ ∃ (k:Nat)(o:PV),S 13= .sc (.int .i64 k)∧S 5=o∧k≤params.length∧m=params.length-k∧Grow h h'∧Tl h' h.next 1 o (strRows (bound++(params.take k).map Pm.name))) params.length ?_ ?_
 ·simp only[Ty.w,simprocAttr]
  exact⟨0,r,rfl,rfl,by omega,rfl,hg1,by simpa using tl1⟩
 ·clear hg1 tl1
  rintro m S h' ⟨g11,g12,k,o,g13,g5,hk,rfl,hg,tl⟩
  by_cases hlt:k<params.length
  ·have hd:decide ((k:Int)<(params.length:Int))=true:=by simp;omega
   have w7:IntKind.i64.wrap ((k:Int)+1)=k+1:=by rw[wrap64 (by omega) (by omega)]
   obtain⟨p,hx⟩: ∃ p,params[k]? =some p:=⟨_,List.getElem?_eq_getElem hlt⟩
   have hr:=pmRows_get hx
   have hR:strRows (bound++(params.take (k+1)).map Pm.name)=strRows (bound++(params.take k).map Pm.name)++[[sPV p.name]]:=by
    rw[List.take_add_one,hx];simp[strRows]
   have hlen:(strRows (bound++(params.take k).map Pm.name)).length=bound.length+k:=by rw[strRows_len];simp;omega
   have tl2:=tl.up (h':=(h'.new (.arr 2 [[.sc (.string ⟨#[]⟩),.sc (.string ⟨#[]⟩)]])).set h'.next (.arr 2 [[sPV p.name,sPV p.type]])) (by simp[Heap.new,Heap.set]) (fun j _ hj=>by simp only[Heap.new,Heap.set];rw[if_neg (by omega),if_neg (by omega)])
   have hg2:Grow h ((h'.new (.arr 2 [[.sc (.string ⟨#[]⟩),.sc (.string ⟨#[]⟩)]])).set h'.next (.arr 2 [[sPV p.name,sPV p.type]])):=(hg.new _).set hg.le _
   generalize strRows (bound++(params.take k).map Pm.name)=R at tl tl2 hR hlen
   obtain⟨H,t1,t2,t3,t4,t5⟩:=tl2.tail
   have hbb:(bound.length+k+1)*16≤140737488355328:=by omega
   repeat'(first|refine a_seq fun K hK=>?_|((first|refine a_regionS ?_|refine a_region (fun K hK=>?_));simp(maxSteps:=2000000) only[Ty.w,simprocAttr,g11,g12,g13,g5,hd,hr,hlP])|(refine a_skip ?_;try simp only[pst0,simprocAttr])|(refine a_cond _ (by(try simp(maxSteps:=2000000) only[Ty.w,simprocAttr,g11,g12,g13,g5,hd,hr,hlP]);rfl) (fun hb=>?_) (fun hb=>?_)<;>(try simp only[hb0,decide_eq_true_eq,decide_eq_false_iff_not,simprocAttr]at hb)<;>(try(exfalso;omega)))|(refine hK _ _ ?_;clear hK;try simp only[pst0,simprocAttr]))
   repeat'(first|(refine a_regionS ?_;simp(maxSteps:=2000000) only[Ty.w,simprocAttr,g11,g12,g13,g5,w7,t1,t2,hlen,hbb,nsucc])|(refine hK _ _ ?_;clear hK;try simp only[pst0,simprocAttr])|(rw[if_pos];rotate_left 1;omega;simp(maxSteps:=2000000) only[Ty.w,simprocAttr,g11,g12,g13,g5,w7,t1,t2,hlen,hbb,nsucc]))
   have hkp:=t5 h ⟨hg2.le,hg2.old⟩ (Nat.le_refl _)
   have hgH:Grow h H:=⟨hkp.1,hkp.2⟩
   have t3':H.next=h'.next+1:=by rw[t3];simp[Heap.new,Heap.set]
   rw[← hR]
   exact⟨params.length-(k+1),by omega,k+1,.own H.next 0 (bound.length+k+1),by simp,by first|rfl|rw[t3'],by omega,rfl,hgH.new _,Tl.grow hkp.1 (by rw[strRows_len];simp;omega)⟩
  ·have hd:decide ((k:Int)<(params.length:Int))=false:=by simp;omega
   have hke:k=params.length:=by omega
   subst hke
   rw[List.take_length]at tl
   repeat'(first|refine a_seq fun K hK=>?_|((first|refine a_regionS ?_|refine a_ret ?_);simp(maxSteps:=2000000) only[Ty.w,simprocAttr,g11,g12,g13,g5,hd])|(refine a_exit ?_;try simp only[pst0,simprocAttr])|(refine a_cond _ (by(try simp(maxSteps:=2000000) only[Ty.w,simprocAttr,g11,g12,g13,g5,hd]);rfl) (fun hb=>?_) (fun hb=>?_)<;>(try simp only[hb0,decide_eq_true_eq,decide_eq_false_iff_not,simprocAttr]at hb)<;>(try(exfalso;omega)))|((first|refine hK _ _ ?_|(clear hK;refine hK _ _ ?_));clear hK;try simp only[pst0,simprocAttr]))
   exact⟨tl_frzS tl,hg⟩
theorem inner_c{op name:ByteArray}{args:List ByteArray}{params:List Pm}{exprs:List Ex}{kids:List Fm}{bound:List ByteArray}(hb:bound.length+params.length≤1099511627776)(h:Heap):
  PCall Tryz.prog 45 [.agg (Fm.mk op name args params exprs kids).cells,.imm 1 (strRows bound)] h fun r h'=>r= .imm 1 (strRows (bound++params.map Pm.name))∧h'=h:=inner_g ⟨rfl,rfl⟩ ⟨rfl,rfl⟩ ⟨rfl,rfl⟩ hb h
end Go.Proofs.YtjlkapgpjamnkaaGreat
namespace Go.Proofs.YtjlkapgpjamnkaaGreat
open Go.AM
set_option maxHeartbeats 4000000
set_option maxRecDepth 20000
def exprs2:List Sx→List Ex × Int
 |[a,b]=>(match exprP a with
  | (ea, ca) => bif ca == 0 then (match exprP b with
   |(eb,cb)=>bif cb==0 then([ea,eb],0)else([],cb))else([],ca))
 |_=>([],2)
theorem frz_nilslice{n z:Nat}{H:Heap}:FrzTo n H (.imm z []) (.sc (.slice none 0 0)):=by
 unfold FrzTo;exact .inr (.inl ⟨rfl,.inr rfl⟩)
end Go.Proofs.YtjlkapgpjamnkaaGreat
namespace Go.AM
open Go.ChangeShapes Go.WideShapes
def partsT(P:Program)(t:TypeId):List (Nat × TypeId):=match P.underlying t with
 |some (.struct fs)=>fs.toList.map fun f=>(f.offset,f.type)
 |some (.array n e)=>(List.range n).map fun i=>(i*P.cellsOf e,e)
 |_=>[]
def inRow(P:Program)(e:Nat):Nat→List (Nat × TypeId)→Bool
 |o,[]=>o==e
 |o,p::l=>p.1==o&&inRow P e (o+P.cellsOf p.2) l
def covB(P:Program):Nat→TypeId→Bool
 |0,_=>false
 |f+1,t=>match P.underlying t with
  |some .bool=>true
  |some (.int _)=>true
  |some .string=>true
  |some (.slice e)=>decide (0<P.cellsOf e)&&covB P f e
  |some (.struct _)=>inRow P (P.cellsOf t) 0 (partsT P t)&&(partsT P t).all fun p=>covB P f p.2
  |some (.array _ _)=>inRow P (P.cellsOf t) 0 (partsT P t)&&(partsT P t).all fun p=>covB P f p.2
  |_=>false
def Arg(P:Program):Nat→TypeId→List PV→Prop
 |0,_,_=>False
 |f+1,t,ps=>match P.underlying t with
  |some .bool=> ∃ b,ps=[.sc (.bool b)]
  |some (.int k)=> ∃ n,(Lit.int k n).wf=true∧ps=[.sc (.int k n)]
  |some .string=> ∃ s:ByteArray,s.size≤reachBytes∧ps=[.sc (.string s)]
  |some (.slice e)=> ∃ rows,ps=[.imm (P.cellsOf e) rows]∧rows.length*P.bytesOf e≤reachBytes∧rows.length≤maxLen∧ ∀ r∈rows,r.length=P.cellsOf e∧Arg P f e r
  |some (.struct _)=>ps.length=P.cellsOf t∧ ∀ p∈partsT P t,Arg P f p.2 ((ps.drop p.1).take (P.cellsOf p.2))
  |some (.array _ _)=>ps.length=P.cellsOf t∧ ∀ p∈partsT P t,Arg P f p.2 ((ps.drop p.1).take (P.cellsOf p.2))
  |_=>False
section
variable {H:Type}{enc:TypeId × Value→H}{P:Program}{w:World}{sp:Nat→Bool}{held:Bool}
def RA(w:World)(ps:List PV)(cs:List Value):Prop:=(∀ v∈cs,v.oneCell'=true)∧ ∀ β n,RepL β n (fun b=>b<w.heap.size) w ps cs
theorem RA.len{ps:List PV}{cs:List Value}(h:RA w ps cs):ps.length=cs.length:=(h.2 ⟨fun _=>⟨none,0,0,0⟩,fun _=>False⟩ 0).len
theorem RA.append{ps ps':List PV}{cs cs':List Value}(h:RA w ps cs)(k:RA w ps' cs'):RA w (ps++ps') (cs++cs'):=
 ⟨fun v hv=>by exact(List.mem_append.1 hv).elim (h.1 v) (k.1 v),fun β n=>(h.2 β n).append (k.2 β n)⟩
theorem inRow_le{e:Nat}:(l:List (Nat × TypeId))→(o:Nat)→inRow P e o l=true→o≤e∧ ∀ p∈l,o≤p.1∧p.1+P.cellsOf p.2≤e
 |[],o,h=>by simp[inRow]at h;simp[h]
 |p::l,o,h=>by
  simp only[inRow,Bool.and_eq_true,beq_iff_eq]at h
  obtain⟨h1,h2⟩:=inRow_le l _ h.2
  refine⟨by omega,fun q hq=>?_⟩
  rcases List.mem_cons.1 hq with rfl|hq
  ·omega
  ·have:=h2 q hq;omega
theorem exists_list{α:Type}{R:Nat→α→Prop}:(n:Nat)→(∀ i,i<n→ ∃ x,R i x)→ ∃ l:List α,l.length=n∧ ∀ i x,l[i]? =some x→R i x
 |0,_=>⟨[],rfl,by simp⟩
 |n+1,h=>by
  obtain⟨l,h1,h2⟩:=exists_list n (fun i hi=>h i (by omega))
  obtain⟨x,hx⟩:=h n (by omega)
  refine⟨l++[x],by simp[h1],fun i y hy=>?_⟩
  rw[List.getElem?_append]at hy
  split at hy
  ·exact h2 i y hy
  ·rename_i hi
   have:i=n:=by
    have:=(List.getElem?_eq_some_iff.1 hy).1
    simp at this;omega
   subst this
   rw[h1]at hy
   simp at hy
   subst hy;exact hx
theorem weightsAll_mem{e:TypeId}{n:Nat}:{ds:List (DataW H)}→{i:Nat}→{d:DataW H}→ds[i]? =some d→n∈d.weights P e→n∈DataW.weightsAll P e ds
 |[],_,_,h,_=>by simp at h
 |d0::ds,0,d,h,hn=>by
  simp at h;subst h
  simp only[DataW.weightsAll,List.mem_append];exact .inl hn
 |d0::ds,i+1,d,h,hn=>by
  simp at h
  simp only[DataW.weightsAll,List.mem_append];exact .inr (weightsAll_mem h hn)
theorem sc_RA{v:Value}(h:v.oneCell'=true):RA w [.sc v] [v]:=
 ⟨fun u hu=>by simp at hu;subst hu;exact h,fun β n=>by simp only[RepL,Rep];exact⟨trivial,trivial⟩⟩
end
end Go.AM
namespace Go.AM
open Go.ChangeShapes Go.WideShapes
section
variable {H:Type}{enc:TypeId × Value→H}{P:Program}{w:World}{sp:Nat→Bool}{held:Bool}
def covC(P:Program)(Ts:List TypeId):Bool:=Ts.all fun t=>match P.underlying t with
 |some .bool=>true
 |some (.int _)=>true
 |some .string=>true
 |some (.slice e)=>decide (0<P.cellsOf e)&&Ts.contains e
 |some (.struct _)=>inRow P (P.cellsOf t) 0 (partsT P t)&&(partsT P t).all fun p=>Ts.contains p.2
 |some (.array _ _)=>inRow P (P.cellsOf t) 0 (partsT P t)&&(partsT P t).all fun p=>Ts.contains p.2
 |_=>false
end
end Go.AM
namespace Go.AM
open Go.ChangeShapes Go.WideShapes
open Go.Proofs.YtjlkapgpjamnkaaGreat
mutual
def PV.bulk:PV→Nat
 | .sc (.string s)=>s.size+1
 | .imm _ rows=>PV.bulkR rows+1
 |_=>1
def PV.bulkL:List PV→Nat
 |[]=>0
 |p::ps=>p.bulk+PV.bulkL ps
def PV.bulkR:List (List PV)→Nat
 |[]=>0
 |r::rs=>PV.bulkL r+PV.bulkR rs
end
theorem PV.bulkL_append: ∀ l m:List PV,PV.bulkL (l++m)=PV.bulkL l+PV.bulkL m
 |[],m=>by simp[PV.bulkL]
 |p::l,m=>by simp only[List.cons_append,PV.bulkL,PV.bulkL_append l m];omega
theorem List.getElem?_range_some{k i j:Nat}(h:(List.range k)[i]? =some j):i<k∧i=j:=by
 have h1:=(List.getElem?_eq_some_iff.1 h).1
 simp at h1
 rw[List.getElem?_range h1]at h
 simp at h
 exact⟨h1,h⟩
section
variable {H:Type}{enc:TypeId × Value→H}{P:Program}{w:World}{sp:Nat→Bool}{held:Bool}
theorem bulkR_le: ∀ (rows:List (List PV))(ds:List (DataW H)),rows.length=ds.length→(∀ (i:Nat)(r:List PV),rows[i]? =some r→ ∃ d,ds[i]? =some d∧PV.bulkL r≤Rows.uptoBulk d)→PV.bulkR rows≤Rows.uptoBulkAll ds
 |[],_,_,_=>by simp[PV.bulkR]
 |r::rows,[],h,_=>by simp at h
 |r::rows,d::ds,h,hb=>by
  have h1:=bulkR_le rows ds (by simpa using h) fun i q hq=>by simpa using hb (i+1) q (by simpa using hq)
  obtain⟨d',h2,h3⟩:=hb 0 r rfl
  simp at h2;subst h2
  simp only[PV.bulkR,Rows.uptoBulkAll];omega
theorem parts_rep5{c:Nat}{cs:List Value}:(l:List (Nat × TypeId))→(ds:List (DataW H))→(o:Nat)→inRow P cs.length o l=true→
  (∀ (i:Nat)(p:Nat × TypeId),l[i]? =some p→ ∃ d,ds[i]? =some d∧ ∃ ps,Arg P c p.2 ps∧RA w ps ((cs.drop p.1).take (P.cellsOf p.2))∧PV.bulkL ps≤Rows.uptoBulk d)→
  ∃ ps,RA w ps (cs.drop o)∧(∀ p∈l,Arg P c p.2 ((ps.drop (p.1-o)).take (P.cellsOf p.2)))∧PV.bulkL ps≤Rows.uptoBulkAll ds
 |[],ds,o,h,_=>by
  simp[inRow]at h
  refine⟨[],⟨?_,fun β n=>?_⟩,by simp,by simp[PV.bulkL]⟩
  ·rw [List.drop_of_length_le (by omega)];simp
  ·rw [List.drop_of_length_le (by omega)];simp[RepL]
 |p::l,[],o,h,hp=>by
  obtain⟨d,hd,_⟩:=hp 0 p rfl
  simp at hd
 |p::l,d::ds,o,h,hp=>by
  have hle:=(inRow_le (p::l) o h).2 p (by simp)
  simp only[inRow,Bool.and_eq_true,beq_iff_eq]at h
  obtain⟨ps,h1,h2,h20⟩:=parts_rep5 l ds _ h.2 (fun i q hq=>by simpa using hp (i+1) q (by simpa using hq))
  obtain⟨d',hd,ps0,h3,h4,h40⟩:=hp 0 p rfl
  simp at hd;subst hd
  have hl2:=(inRow_le l _ h.2).2
  have e0:p.1=o:=h.1
  have l0:ps0.length=P.cellsOf p.2:=by rw[h4.len,List.length_take,List.length_drop];omega
  refine⟨ps0++ps,?_,fun q hq=>?_,by rw[PV.bulkL_append];simp only[Rows.uptoBulkAll];omega⟩
  ·have:cs.drop o=(cs.drop p.1).take (P.cellsOf p.2)++cs.drop (o+P.cellsOf p.2):=by
    rw[e0, ← List.drop_drop,List.take_append_drop]
   rw[this]
   exact h4.append h1
  ·rcases List.mem_cons.1 hq with rfl|hq
   ·rw [e0,Nat.sub_self,List.drop_zero,List.take_append_of_le_length (by omega),List.take_of_length_le (by omega)]
    exact h3
   ·have h5:=hl2 q hq
    have:q.1-o=ps0.length+(q.1-(o+P.cellsOf p.2)):=by omega
    rw[this, ← List.drop_drop,List.drop_left]
    exact h2 q hq
theorem arg_rec5{Ts:List TypeId}(hT:covC P Ts=true): ∀ (fuel:Nat)(t:TypeId),Ts.contains t=true→ ∀ (cs:List Value)(x:DataW H × List MemPlace),DataW.trod enc P w 0 sp held fuel t cs=some x→(∀ n∈x.1.weights P t,n≤reachBytes)→
  ∃ ps,Arg P fuel t ps∧RA w ps cs∧PV.bulkL ps≤Rows.uptoBulk x.1
 |0,_,_,_,_,hx,_=>by simp[DataW.trod]at hx
 |c+1,t,ht,cs,x,hx,hw=>by
  have h:=List.all_eq_true.1 hT t (by simpa using ht)
  split at h
  ·rename_i hu
   obtain⟨b,rfl,rfl⟩:=DataW.trod_bool hu hx
   refine⟨[.sc (.bool b)],?_,sc_RA rfl,by simp[PV.bulkL,PV.bulk,Rows.uptoBulk]⟩
   unfold Arg;rw[hu];exact⟨b,rfl⟩
  ·rename_i k hu
   obtain⟨n,rfl,rfl,hwf⟩:=DataW.trod_int hu hx
   refine⟨[.sc (.int k n)],?_,sc_RA rfl,by simp[PV.bulkL,PV.bulk,Rows.uptoBulk]⟩
   unfold Arg;rw[hu];exact⟨n,hwf,rfl⟩
  ·rename_i hu
   obtain⟨s,rfl,rfl,hs⟩:=DataW.trod_string hu hx
   refine⟨[.sc (.string s)],?_,sc_RA rfl,by have e:s.data.toList.length=s.size:=by{rw[Array.length_toList];try rfl};simp only[PV.bulkL,PV.bulk,Rows.uptoBulk];omega⟩
   unfold Arg;rw[hu]
   refine⟨s,?_,rfl⟩
   have:=hw s.data.toList.length (by simp[DataW.weights])
   simpa using this
  ·rename_i e hu
   simp only[Bool.and_eq_true,decide_eq_true_eq]at h
   obtain⟨hpos,hcov⟩:=h
   rcases DataW.trod_slice hu hx with⟨rfl,rfl⟩|⟨a,len,cap,elems,rest,n,hfu,rfl,rfl,hb,hl,hm,hlen,hel,hsp,hns⟩
   ·refine ⟨[.imm (P.cellsOf e) []],?_,⟨fun v hv=>?_,fun β n=>?_⟩,by simp[PV.bulkL,PV.bulk,PV.bulkR,Rows.uptoBulk]⟩
    ·unfold Arg;rw[hu];exact⟨[],rfl,by simp,by simp,by simp⟩
    ·simp at hv;subst hv;rfl
    ·simp only[RepL,Rep]
     exact⟨⟨none,0,rfl,Nat.le_refl _,Nat.zero_le _,.inl (by trivial)⟩,trivial⟩
   ·obtain rfl:c=n:=by omega
    have each: ∀ i,i<len→ ∃ r:List PV,(r.length=P.cellsOf e∧Arg P c e r∧ ∃ d,(elems.map (·.1))[i]? =some d∧PV.bulkL r≤Rows.uptoBulk d)∧ ∃ ci,RA w r ci∧ci.length=P.cellsOf e∧ ∀ j,j<P.cellsOf e→w.cell? ((a.add (i*P.cellsOf e)).add j)=ci[j]?:=by
     intro i hi
     have h1:=hel i hi
     have h2:elems[i]? =some (elems[i]'(by omega)):=List.getElem?_eq_getElem _
     rw[h2,Option.bind_eq_some_iff]at h1
     obtain⟨ci,h3,h4⟩:=h1
     obtain⟨_,h5,h6⟩:=World.cells?_some h3
     obtain⟨r,h7,h8,h80⟩:=arg_rec5 hT c e hcov ci _ h4 (fun m hm=>hw m (by
      simp only[DataW.weights,hu,List.mem_cons,List.mem_append]
      exact .inr (.inl (weightsAll_mem (i:=i) (by rw[List.getElem?_map,h2];try rfl) hm))))
     exact⟨r,⟨by rw[h8.len,h5],h7,_,by rw[List.getElem?_map,h2];try rfl,h80⟩,ci,h8,h5,h6⟩
    obtain⟨rows,hrl,hrows⟩:=exists_list len each
    refine⟨[.imm (P.cellsOf e) rows],?_,⟨fun v hv=>?_,fun β m=>?_⟩,?_⟩
    ·unfold Arg;rw[hu]
     refine⟨rows,rfl,?_,by omega,fun r hr=>?_⟩
     ·have:=hw ((elems.map (·.1)).length*P.bytesOf e+(rest.map (·.1)).length*P.bytesOf e) (by
       simp only[DataW.weights,hu,List.mem_cons,Nat.add_mul,true_or])
      have h9:rows.length=(elems.map (·.1)).length:=by simp[hrl,hlen]
      rw[h9]
      exact Nat.le_trans (Nat.le_add_right _ _) this
     ·obtain ⟨i,hi⟩:=List.getElem?_of_mem hr
      exact⟨(hrows i r hi).1.1,(hrows i r hi).1.2.1⟩
    ·simp at hv;subst hv;rfl
    ·simp only[RepL,Rep]
     refine⟨⟨some a,cap,by rw[hrl],by omega,hm,?_⟩,trivial⟩
     by_cases h0:len=0
     ·left;exact List.length_eq_zero_iff.1 (by omega)
     ·right
      obtain⟨_,_,c0,_,hc0,hcell0⟩:=each 0 (by omega)
      have h10:=hcell0 0 hpos
      rw[List.getElem?_eq_getElem (by omega)]at h10
      simp only[Nat.zero_mul,Addr.add,if_true]at h10
      have hs:a.spot=none:=by
       unfold World.cell? at h10
       split at h10
       ·split at h10
        ·simp at h10
        ·rename_i hsp;simpa using hsp
       ·simp at h10
      have hblk:a.block<w.heap.size:=by
       unfold World.cell? at h10
       split at h10
       ·rename_i hh;exact(Array.getElem?_eq_some_iff.1 hh).1
       ·simp at h10
      refine⟨a.block,a.off,hblk,by cases a;simp only at hs;subst hs;rfl,?_⟩
      rw[RepR_iff]
      intro i r hr
      obtain⟨⟨g1,_⟩,ci,g2,g3,g4⟩:=hrows i r hr
      refine⟨g1,?_⟩
      rw[RepS_iff]
      intro j p hp
      obtain⟨v,hv,hrep⟩:=(g2.2 β m).get hp
      have hj:j<P.cellsOf e:=by rw[← g3];exact(List.getElem?_eq_some_iff.1 hv).1
      refine⟨v,?_,g2.1 v (List.mem_of_getElem? hv),hrep⟩
      rw[← hv, ← g4 j hj]
      congr 1
      cases a
      simp only at hs;subst hs
      simp only[Addr.add]
      split<;>split<;>simp_all<;>omega
    ·have hb5:=bulkR_le rows (elems.map (·.1)) (by simp[hrl,hlen]) fun i r hr=>(hrows i r hr).1.2.2
     simp only[PV.bulkL,PV.bulk,Rows.uptoBulk]
     omega
  ·rename_i fs hu
   simp only[Bool.and_eq_true,List.all_eq_true]at h
   obtain⟨xs,n,hfu,rfl,hcl,hxl,hp⟩:=DataW.trod_struct hu hx
   obtain rfl:c=n:=by omega
   have hpt:partsT P t=fs.toList.map fun f=>(f.offset,f.type):=by unfold partsT;rw[hu]
   obtain⟨ps,h1,h2,h30⟩:=parts_rep5 (w:=w) (c:=c) (cs:=cs) (partsT P t) (xs.map (·.1)) 0 (by rw[hcl];exact h.1) (fun i p hi=>by
    have hcv:=h.2 p (List.mem_of_getElem? hi)
    rw[hpt]at hi
    rw[List.getElem?_map,Option.map_eq_some_iff]at hi
    obtain⟨f,hf,rfl⟩:=hi
    have hf':fs[i]? =some f:=by simpa using hf
    have hi':i<xs.length:=by
     rw[hxl]
     exact(Array.getElem?_eq_some_iff.1 hf').1
    have h3:=hp i f hf'
    rw[List.getElem?_eq_getElem hi']at h3
    exact⟨xs[i].1,by rw[List.getElem?_map,List.getElem?_eq_getElem hi'];try rfl,arg_rec5 hT c f.type hcv _ _ h3 (fun m hm=>hw m (by
     simp only[DataW.weights,hu]
     exact DataW.weights_mem_each (j:=i) (t:=f.type) (d:=xs[i].1) (by rw[List.getElem?_map,hf];try rfl) (by rw[List.getElem?_map,List.getElem?_eq_getElem hi'];try rfl) m hm))⟩)
   refine⟨ps,?_,by simpa using h1,by simp only[Rows.uptoBulk];omega⟩
   unfold Arg;rw[hu]
   exact⟨by rw[h1.len,List.drop_zero,hcl],fun p hpm=>by simpa using h2 p hpm⟩
  ·rename_i k e hu
   simp only[Bool.and_eq_true,List.all_eq_true]at h
   obtain⟨xs,n,hfu,rfl,hcl,hxl,hp⟩:=DataW.trod_array hu hx
   obtain rfl:c=n:=by omega
   have hpt:partsT P t=(List.range k).map fun i=>(i*P.cellsOf e,e):=by unfold partsT;rw[hu]
   obtain⟨ps,h1,h2,h30⟩:=parts_rep5 (w:=w) (c:=c) (cs:=cs) (partsT P t) (xs.map (·.1)) 0 (by rw[hcl];exact h.1) (fun i p hi=>by
    have hcv:=h.2 p (List.mem_of_getElem? hi)
    rw[hpt,List.getElem?_map,Option.map_eq_some_iff]at hi
    obtain⟨j,hj,rfl⟩:=hi
    obtain⟨hjk,rfl⟩:=List.getElem?_range_some hj
    have hi':i<xs.length:=by rw[hxl];exact hjk
    have h3:=hp i hjk
    rw[List.getElem?_eq_getElem hi']at h3
    exact⟨xs[i].1,by rw[List.getElem?_map,List.getElem?_eq_getElem hi'];try rfl,arg_rec5 hT c e hcv _ _ h3 (fun m hm=>hw m (by
     simp only[DataW.weights,hu]
     exact weightsAll_mem (i:=i) (d:=xs[i].1) (by rw[List.getElem?_map,List.getElem?_eq_getElem hi'];try rfl) hm))⟩)
   refine⟨ps,?_,by simpa using h1,by simp only[Rows.uptoBulk];omega⟩
   unfold Arg;rw[hu]
   exact⟨by rw[h1.len,List.drop_zero,hcl],fun p hpm=>by simpa using h2 p hpm⟩
  ·simp at h
theorem arg_value5{Ts:List TypeId}(hT:covC P Ts=true){t:TypeId}(ht:Ts.contains t=true){fs:Array Field}(hu:P.underlying t=some (.struct fs)){v:Value}{d:DataW H}{pl:List MemPlace}
  (h:DataW.Trod enc P w 0 sp held t v d pl)(hv: ∃ base,Value.okWide P w .any base t v)(hw: ∀ n∈d.weights P t,n≤reachBytes):
  ∃ c ps,Arg P c t ps∧(∀ β n,Rep β n (fun b=>b<w.heap.size) w (.agg ps) v)∧PV.bulkL ps≤Rows.uptoBulk d:=by
 obtain⟨fuel,hf⟩:=h
 obtain⟨ps,h1,h2,h3⟩:=arg_rec5 hT fuel t ht _ _ hf hw
 obtain⟨base,hv⟩:=hv
 unfold Value.okWide at hv
 simp only[hu]at hv
 obtain⟨cs,rfl,_⟩:=hv
 refine⟨fuel,ps,h1,fun β n=>?_,h3⟩
 simp only[Rep]
 exact⟨cs.toList,by simp,h2.1,h2.2 β n⟩
end
end Go.AM
namespace Go.AM
theorem bulkR_strs: ∀ l:List ByteArray,l.length≤PV.bulkR (strRows l)
 |[]=>by simp
 |s::l=>by
  have:=bulkR_strs l
  simp only[strRows,List.map_cons,PV.bulkR,PV.bulkL,PV.bulk,List.length_cons]at this⊢
  omega
mutual
theorem Ex.small_bulk: ∀ (e:Ex),PV.bulkL e.cells≤1048576→e.small
 | .mk op name n args kids,h=>by
  simp only[Ex.cells,PV.bulkL,PV.bulk]at h
  simp only[Ex.small]
  have:=bulkR_strs args
  exact⟨by omega,Ex.smalls_bulk kids (by omega)⟩
theorem Ex.smalls_bulk: ∀ (l:List Ex),PV.bulkR (Ex.rows l)≤1048576→Ex.smalls l
 |[],_=>by simp[Ex.smalls]
 |k::ks,h=>by
  simp only[Ex.rows,PV.bulkR]at h
  simp only[Ex.smalls]
  exact⟨Ex.small_bulk k (by omega),Ex.smalls_bulk ks (by omega)⟩
end
mutual
theorem Sx.depth_nodes: ∀ (x:Sx),x.depth≤x.nodes
 | .mk kind _ _ _ _ kids=>by
  have:=Sx.depths_nodes kids 0
  simp only[Sx.depth,Sx.nodes]
  split<;>omega
theorem Sx.depths_nodes: ∀ (l:List Sx)(m:Nat),Sx.depths m l≤max m (Sx.nodess l)
 |[],m=>by simp[Sx.depths,Sx.nodess]
 |k::ks,m=>by
  have h1:=Sx.depth_nodes k
  have h2:=Sx.depths_nodes ks (max m k.depth)
  simp only[Sx.depths,Sx.nodess]
  omega
end
end Go.AM
namespace Go.Proofs.YtjlkapgpjamnkaaGreat
open Go.AM
theorem nodess_words: ∀ l:List ByteArray,Sx.nodess (l.map wordM)=l.length
 |[]=>rfl
 |s::l=>by simp only[List.map_cons,Sx.nodess,word_nodes,nodess_words l,List.length_cons];omega
theorem words_nodes(first:ByteArray)(l:List ByteArray):(wordsM first l).nodes=l.length+2:=by
 simp only[wordsM,list_nodes,nodess_words,List.length_cons]
theorem exW_nodes: ∀ e:Ex,(exW e).nodes≤PV.bulkL e.cells:=by
 refine Ex.ind ?_
 intro op name n args kids ih
 have h1:=bulkR_strs args
 simp only[Ex.cells,PV.bulkL,PV.bulk]
 unfold exW
 split
 ·simp only[Sx.nodes,Sx.nodess];omega
 ·split
  ·rw [words_nodes];omega
  ·split
   ·rename_i a b
    have ha:=ih a (by simp)
    have hb:=ih b (by simp)
    simp only[Ex.rows,PV.bulkR,list_nodes,Sx.nodess,word_nodes]
    omega
   ·simp only[list_nodes,Sx.nodess,word_nodes];omega
end Go.Proofs.YtjlkapgpjamnkaaGreat
namespace Go.AM
theorem bulkR_pms: ∀ l:List Pm,2*l.length≤PV.bulkR (pmRows l)
 |[]=>by simp
 |s::l=>by
  have:=bulkR_pms l
  simp only[pmRows,pmRow,List.map_cons,PV.bulkR,PV.bulkL,PV.bulk,List.length_cons]at this⊢
  omega
theorem bulkR_fms: ∀ l:List Fm,l.length≤PV.bulkR (Fm.rows l)
 |[]=>by simp
 |s::l=>by
  have:=bulkR_fms l
  cases s
  simp only[Fm.rows,Fm.cells,PV.bulkR,PV.bulkL,PV.bulk,List.length_cons]at this⊢
  omega
mutual
theorem Fm.small_bulk: ∀ (f:Fm),PV.bulkL f.cells≤1048576→f.small
 | .mk op name args params exprs kids,h=>by
  simp only[Fm.cells,PV.bulkL,PV.bulk]at h
  simp only[Fm.small]
  have:=bulkR_strs args
  have:=bulkR_pms params
  have:=bulkR_fms kids
  exact⟨by omega,by omega,Ex.smalls_bulk exprs (by omega),by omega,Fm.smalls_bulk kids (by omega)⟩
theorem Fm.smalls_bulk: ∀ (l:List Fm),PV.bulkR (Fm.rows l)≤1048576→Fm.smalls l
 |[],_=>by simp[Fm.smalls]
 |k::ks,h=>by
  simp only[Fm.rows,PV.bulkR]at h
  simp only[Fm.smalls]
  exact⟨Fm.small_bulk k (by omega),Fm.smalls_bulk ks (by omega)⟩
end
end Go.AM
namespace Go.Proofs.YtjlkapgpjamnkaaGreat
open Go.AM
theorem nodess_params: ∀ l:List Pm,Sx.nodess (paramsW l)=3*l.length
 |[]=>rfl
 |s::l=>by simp only[paramsW,Sx.nodess,word_nodes,nodess_params l,List.length_cons];omega
theorem exWs_nodes: ∀ l:List Ex,Sx.nodess (l.map exW)≤PV.bulkR (Ex.rows l)
 |[]=>by simp[Sx.nodess]
 |e::l=>by
  have h1:=exWs_nodes l
  have h2:=exW_nodes e
  simp only[List.map_cons,Sx.nodess,Ex.rows,PV.bulkR]
  omega
mutual
theorem fmW_nodes: ∀ f:Fm,(fmW f).nodes≤2*PV.bulkL f.cells
 | .mk op name args params exprs kids=>by
  have h1:=bulkR_strs args
  have h2:=bulkR_pms params
  have h3:=exWs_nodes exprs
  have h4:=fmWs_nodes kids
  simp only[Fm.cells,PV.bulkL,PV.bulk]
  unfold fmW
  split
  ·rw [words_nodes];omega
  ·split
   ·rw [words_nodes];omega
   ·split
    ·simp only[list_nodes,Sx.nodess,word_nodes];omega
    ·simp only[list_nodes,nodess_append]
     split<;>split<;>simp only[Sx.nodess,word_nodes,list_nodes,nodess_params]<;>omega
theorem fmWs_nodes: ∀ l:List Fm,Sx.nodess (fmWs l)≤2*PV.bulkR (Fm.rows l)
 |[]=>by simp[fmWs,Sx.nodess]
 |k::l=>by
  have h1:=fmW_nodes k
  have h2:=fmWs_nodes l
  simp only[fmWs,Sx.nodess,Fm.rows,PV.bulkR]
  omega
end
theorem fmW_nodes_big{f:Fm}(h:PV.bulkL f.cells≤1048576):(fmW f).nodes≤bigN:=by
 have:=fmW_nodes f
 unfold bigN;omega
theorem fmW_depth_big{f:Fm}(h:PV.bulkL f.cells≤1048576):(fmW f).depth≤bigN:=by
 have:=fmW_nodes f
 have:=Sx.depth_nodes (fmW f)
 unfold bigN;omega
end Go.Proofs.YtjlkapgpjamnkaaGreat
namespace Go.Proofs.YtjlkapgpjamnkaaGreat
open Go.AM
def opF(op name:ByteArray)(args:List ByteArray)(params:List Pm)(ne nk:Nat):Bool:=
 if bEq op opAtom then nameB name&&(args.all termB&&((((params.length:Int)+ne)+nk)==0))
 else if bEq op opSame then bEq name ⟨#[]⟩&&(((args.length:Int)==2)&&(args.all termB&&((((params.length:Int)+ne)+nk)==0)))
 else if(bEq op opLt||(bEq op opLe||bEq op opEq))then bEq name ⟨#[]⟩&&(((((args.length:Int)+params.length)+nk)==0)&&((ne:Int)==2))
 else if(bEq op opAnd||bEq op opOr)then bEq name ⟨#[]⟩&&((((args.length:Int)+params.length)+ne)==0)
 else if bEq op opNot then bEq name ⟨#[]⟩&&(((((args.length:Int)+params.length)+ne)==0)&&((nk:Int)==1))
 else if bEq op opImp then bEq name ⟨#[]⟩&&(((((args.length:Int)+params.length)+ne)==0)&&((nk:Int)==2))
 else if(bEq op opAll||bEq op opSome)then bEq name ⟨#[]⟩&&((((args.length:Int)+ne)==0)&&(((nk:Int)==1)&&params.all pmOk))
 else false
theorem partsOk_opF(op name:ByteArray)(args:List ByteArray)(params:List Pm)(ne nk:Nat):partsOk op name args params ne nk=opF op name args params ne nk:=by
 have ea:args.isEmpty=decide (args.length=0):=by cases args<;>simp
 have ep:params.isEmpty=decide (params.length=0):=by cases params<;>simp
 have ep2:params.length=0→params.all pmOk=true:=fun h=>by rw[List.length_eq_zero_iff.1 h];try rfl
 have en:emptyB name=bEq name ⟨#[]⟩:=rfl
 unfold partsOk shapeOf termsOk opF
 rw[ea,en,ep]
 generalize args.all termB=ta
 generalize params.all pmOk=pa at ep2
 generalize bEq name ⟨#[]⟩=nm
 generalize nameB name=nn
 generalize args.length=la
 generalize params.length=lp at ep2
 cases k1:bEq op opAtom
 ·cases k2:bEq op opSame
  ·cases k3:bEq op opLt
   ·cases k4:bEq op opLe
    ·cases k5:bEq op opEq
     ·cases k6:bEq op opAnd
      ·cases k7:bEq op opOr
       ·cases k8:bEq op opNot
        ·cases k9:bEq op opImp
         ·cases k10:bEq op opAll
          ·cases k11:bEq op opSome
           ·simp
           ·rw [Bool.eq_iff_iff];simp;cases nm<;>cases pa<;>simp<;>omega
          ·rw [Bool.eq_iff_iff];simp;cases nm<;>cases pa<;>simp<;>omega
         ·rw [Bool.eq_iff_iff];simp;cases nm<;>cases pa<;>simp at ep2⊢ <;>omega
        ·rw [Bool.eq_iff_iff];simp;cases nm<;>cases pa<;>simp at ep2⊢ <;>omega
       ·rw [Bool.eq_iff_iff];simp;cases nm<;>cases pa<;>simp at ep2⊢ <;>omega
      ·rw [Bool.eq_iff_iff];simp;cases nm<;>cases pa<;>simp at ep2⊢ <;>omega
     ·rw [Bool.eq_iff_iff];simp;cases nm<;>cases pa<;>simp at ep2⊢ <;>omega
    ·rw [Bool.eq_iff_iff];simp;cases nm<;>cases pa<;>simp at ep2⊢ <;>omega
   ·rw [Bool.eq_iff_iff];simp;cases nm<;>cases pa<;>simp at ep2⊢ <;>omega
  ·rw [Bool.eq_iff_iff];simp;cases nm<;>cases pa<;>cases ta<;>simp at ep2⊢ <;>omega
 ·rw [Bool.eq_iff_iff];simp;cases nn<;>cases pa<;>cases ta<;>simp at ep2⊢ <;>omega
theorem shapedF_op{op name:ByteArray}{args:List ByteArray}{params:List Pm}{exprs:List Ex}{kids:List Fm}(hE: ∀ e∈exprs,shapedE e=true)(hK: ∀ k∈kids,shapedF k=true):
  shapedF (.mk op name args params exprs kids)=opF op name args params exprs.length kids.length:=by
 have h1:exprs.all shapedE=true:=List.all_eq_true.2 hE
 have h2:shapedFs kids=true:=shapedFs_iff.2 hK
 simp only[shapedF,h1,h2,Bool.and_true,partsOk_opF]
theorem shapedF_kid{op name:ByteArray}{args:List ByteArray}{params:List Pm}{exprs:List Ex}{kids:List Fm}(h:shapedF (.mk op name args params exprs kids)=true):(∀ e∈exprs,shapedE e=true)∧ ∀ k∈kids,shapedF k=true:=by
 simp only[shapedF,Bool.and_eq_true]at h
 exact⟨List.all_eq_true.1 h.1.2,shapedFs_iff.1 h.2⟩
end Go.Proofs.YtjlkapgpjamnkaaGreat
namespace Go.Proofs.YtjlkapgpjamnkaaGreat
open Go.AM
set_option maxHeartbeats 4000000
set_option maxRecDepth 20000
theorem bulkR_exs: ∀ l:List Ex,l.length≤PV.bulkR (Ex.rows l)
 |[]=>by simp
 |s::l=>by
  have:=bulkR_exs l
  cases s
  simp only[Ex.rows,Ex.cells,PV.bulkR,PV.bulkL,PV.bulk,List.length_cons]at this⊢
  omega
end Go.Proofs.YtjlkapgpjamnkaaGreat
namespace Go.AM
mutual
def Nz:PV→PV→Prop
 | .imm z rows,p=>(∃ rows',p= .imm z rows'∧NzR rows rows')∨(rows=[]∧(p= .emp∨p= .sc (.slice none 0 0)))
 | .agg l,p=> ∃ l',p= .agg l'∧NzL l l'
 |q,p=>p=q
def NzL:List PV→List PV→Prop
 |[],[]=>True
 |p::ps,q::qs=>Nz p q∧NzL ps qs
 |_,_=>False
def NzR:List (List PV)→List (List PV)→Prop
 |[],[]=>True
 |p::ps,q::qs=>NzL p q∧NzR ps qs
 |_,_=>False
end
theorem NzL.len:(l l':List PV)→NzL l l'→l.length=l'.length
 |[],[],_=>rfl
 |[],_::_,h=>by simp[NzL]at h
 |_::_,[],h=>by simp[NzL]at h
 |p::l,q::l',h=>by
  unfold NzL at h
  simp only[List.length_cons,NzL.len l l' h.2]
theorem NzR.len:(l l':List (List PV))→NzR l l'→l.length=l'.length
 |[],[],_=>rfl
 |[],_::_,h=>by simp[NzR]at h
 |_::_,[],h=>by simp[NzR]at h
 |p::l,q::l',h=>by
  unfold NzR at h
  simp only[List.length_cons,NzR.len l l' h.2]
mutual
theorem Nz.refl:(p:PV)→Nz p p
 | .imm z rows=>by unfold Nz;exact .inl ⟨rows,rfl,NzR.refl rows⟩
 | .agg l=>by unfold Nz;exact⟨l,rfl,NzL.refl l⟩
 | .sc v=>by unfold Nz;rfl
 | .ptr _ _ _=>by unfold Nz;rfl
 | .cptr _=>by unfold Nz;rfl
 | .own _ _ _=>by unfold Nz;rfl
 | .emp=>by unfold Nz;rfl
 | .mp _=>by unfold Nz;rfl
 | .tup _=>by unfold Nz;rfl
 | .fn _ _ _=>by unfold Nz;rfl
 | .ab _ _ _ _ _=>by unfold Nz;rfl
theorem NzL.refl:(l:List PV)→NzL l l
 |[]=>by unfold NzL;trivial
 |p::l=>by unfold NzL;exact⟨Nz.refl p,NzL.refl l⟩
theorem NzR.refl:(l:List (List PV))→NzR l l
 |[]=>by unfold NzR;trivial
 |p::l=>by unfold NzR;exact⟨NzL.refl p,NzR.refl l⟩
end
section
variable {β:Env}{n:Nat}{F:Nat→Prop}{w:World}
mutual
theorem Nz.rep:(q p:PV)→(x:Value)→Nz q p→Rep β n F w p x→Rep β n F w q x
 | .imm z rows,p,x,h,hr=>by
  unfold Nz at h
  rcases h with⟨rows',rfl,hR⟩|⟨rfl,rfl|rfl⟩
  ·simp only[Rep]at hr⊢
   have hl:=NzR.len rows rows' hR
   obtain⟨a,cap,rfl,g1,g2,g3⟩:=hr
   refine⟨a,cap,by rw[hl],by omega,g2,?_⟩
   rcases g3 with g3|⟨b,o,hF,ha,hRR⟩
   ·left
    rw[g3]at hl
    exact List.length_eq_zero_iff.1 hl
   ·exact .inr ⟨b,o,hF,ha,NzR.rep z rows rows' b o hR hRR⟩
  ·simp only[Rep]at hr⊢
   obtain⟨a,rfl⟩:=hr
   exact⟨a,0,rfl,Nat.le_refl _,Nat.zero_le _,.inl trivial⟩
  ·simp only[Rep]at hr⊢
   exact⟨none,0,hr,Nat.le_refl _,Nat.zero_le _,.inl trivial⟩
 | .agg l,p,x,h,hr=>by
  unfold Nz at h
  obtain⟨l',rfl,hl⟩:=h
  simp only[Rep]at hr⊢
  obtain⟨xs,rfl,h1,h2⟩:=hr
  exact⟨xs,rfl,h1,NzL.rep l l' xs hl h2⟩
 | .sc _,p,x,h,hr=>by unfold Nz at h;subst h;exact hr
 | .ptr _ _ _,p,x,h,hr=>by unfold Nz at h;subst h;exact hr
 | .cptr _,p,x,h,hr=>by unfold Nz at h;subst h;exact hr
 | .own _ _ _,p,x,h,hr=>by unfold Nz at h;subst h;exact hr
 | .emp,p,x,h,hr=>by unfold Nz at h;subst h;exact hr
 | .mp _,p,x,h,hr=>by unfold Nz at h;subst h;exact hr
 | .tup _,p,x,h,hr=>by unfold Nz at h;subst h;exact hr
 | .fn _ _ _,p,x,h,hr=>by unfold Nz at h;subst h;exact hr
 | .ab _ _ _ _ _,p,x,h,hr=>by unfold Nz at h;subst h;exact hr
theorem NzL.rep:(l l':List PV)→(xs:List Value)→NzL l l'→RepL β n F w l' xs→RepL β n F w l xs
 |[],[],xs,_,hr=>hr
 |[],_::_,_,h,_=>by simp[NzL]at h
 |_::_,[],_,h,_=>by simp[NzL]at h
 |p::l,q::l',[],_,hr=>by simp[RepL]at hr
 |p::l,q::l',v::xs,h,hr=>by
  unfold NzL at h
  unfold RepL at hr⊢
  exact⟨Nz.rep p q v h.1 hr.1,NzL.rep l l' xs h.2 hr.2⟩
theorem NzS.rep:(l l':List PV)→(b o:Nat)→NzL l l'→RepS β n F w l' b o→RepS β n F w l b o
 |[],[],_,_,_,_=>by unfold RepS;trivial
 |[],_::_,_,_,h,_=>by simp[NzL]at h
 |_::_,[],_,_,h,_=>by simp[NzL]at h
 |p::l,q::l',b,o,h,hr=>by
  unfold NzL at h
  unfold RepS at hr⊢
  obtain⟨⟨v,h1,h2,h3⟩,h4⟩:=hr
  exact⟨⟨v,h1,h2,Nz.rep p q v h.1 h3⟩,NzS.rep l l' b (o+1) h.2 h4⟩
theorem NzR.rep(z:Nat):(l l':List (List PV))→(b o:Nat)→NzR l l'→RepR β n F w z l' b o→RepR β n F w z l b o
 |[],[],_,_,_,_=>by unfold RepR;trivial
 |[],_::_,_,_,h,_=>by simp[NzR]at h
 |_::_,[],_,_,h,_=>by simp[NzR]at h
 |p::l,q::l',b,o,h,hr=>by
  unfold NzR at h
  unfold RepR at hr⊢
  exact⟨⟨by rw[NzL.len p q h.1];exact hr.1.1,NzS.rep p q b o h.1 hr.1.2⟩,NzR.rep z l l' b (o+z) h.2 hr.2⟩
end
end
theorem PCall.nz{P:Program}{f:FuncId}{ys xs:List PV}{h:Heap}{K:PV→Heap→Prop}(hc:PCall P f ys h K)(hz:NzL ys xs):PCall P f xs h K:=
 fun β w vals sm hr=>hc β w vals sm (NzL.rep ys xs vals hz hr)
theorem nz_nil{z:Nat}:Nz (.imm z []) (.sc (.slice none 0 0)):=by unfold Nz;exact .inr ⟨rfl,.inr rfl⟩
theorem nz_cons{p q:PV}{l m:List PV}(h:Nz p q)(h2:NzL l m):NzL (p::l) (q::m):=by unfold NzL;exact⟨h,h2⟩
end Go.AM
namespace Go.Proofs.YtjlkapgpjamnkaaGreat
open Go.AM
set_option maxHeartbeats 4000000
set_option maxRecDepth 20000
theorem sr_nil:strRows []=[]:=rfl
end Go.Proofs.YtjlkapgpjamnkaaGreat
namespace Go.Proofs.YtjlkapgpjamnkaaGreat
open Go.AM
set_option maxHeartbeats 4000000
set_option maxRecDepth 20000
structure VI(h:Heap)(id0:Nat)(L:List ByteArray)(p:PV)(h':Heap):Prop where
 le:h.next≤h'.next
 old: ∀ j,j<id0→h'.obj j=h.obj j
 tl:Tl h' id0 1 p (strRows L)
theorem VI.up{h h' H:Heap}{id0:Nat}{L:List ByteArray}{p:PV}(i:VI h id0 L p h')(h0:id0≤h'.next)(hn:h'.next≤H.next)(ho: ∀ j,j<h'.next→H.obj j=h'.obj j):VI h id0 L p H:=
 ⟨Nat.le_trans i.le hn,fun j hj=>(ho j (by omega)).trans (i.old j hj),i.tl.up hn fun j _ hj=>ho j hj⟩
theorem VI.trans{h h1 h2:Heap}{id0:Nat}{L:List ByteArray}{p:PV}(hn:h.next≤h1.next)(ho: ∀ j,j<id0→h1.obj j=h.obj j)(i:VI h1 id0 L p h2):VI h id0 L p h2:=
 ⟨Nat.le_trans hn i.le,fun j hj=>(i.old j hj).trans (ho j hj),i.tl⟩
theorem varsL_take{bound l:List ByteArray}{k:Nat}{s:ByteArray}(h:l[k]? =some s):varsL bound (l.take (k+1))=varsL bound (l.take k)++(if(varB s&&!memB bound s)=true then[s]else[]):=by
 rw[List.take_add_one,h]
 simp only[varsL,List.filter_append,Option.toList_some,List.filter_cons,List.filter_nil]
theorem varsL_le(bound l:List ByteArray)(k:Nat):(varsL bound (l.take k)).length≤l.length:=by
 have h1:=List.length_filter_le (fun s=>varB s&&!memB bound s) (l.take k)
 have h2:=List.length_take_le k l
 simp only[varsL]
 have h3:(l.take k).length≤l.length:=by rw[List.length_take];omega
 omega
theorem variables_c{l bound L:List ByteArray}(hs: ∀ s∈l,s.size≤bigN)(hb:bound.length≤bigN)(hl:L.length+l.length≤1099511627776){o:PV}{id0:Nat}{h:Heap}(h0:id0≤h.next)(tl:Tl h id0 1 o (strRows L)):
  PCall Tryz.prog 43 [o,.imm 1 (strRows l),.imm 1 (strRows bound)] h fun r h'=>VI h id0 (L++varsL bound l) r h':=by
 have hb':bound.length≤9223372036854775807:=by unfold bigN at hb;omega
 have hlA:=strRows_len l
 refine pcall_body (ow:=fun _=>false) (wf:=fun _=>false) Ty.mixed Tryz.func43 rfl Ty.hb_43 (by rw[Tryz.ntmps43];simp) ?_
 rw[Tryz.ntmps43,Tryz.results43]
 repeat'(first|refine a_seq fun K hK=>?_|(refine a_block ?_)|(refine a_regionS ?_;simp(maxSteps:=2000000) only[Ty.w,simprocAttr,hlA])|(refine hK _ _ ?_;clear hK;try simp only[pst0,simprocAttr]))
 refine a_loop (fun m S h'=>S 2= .imm 1 (strRows bound)∧S 9= .imm 1 (strRows l)∧S 10= .sc (.int .i64 l.length)∧ ∃ (k:Nat)(p:PV),S 11= .sc (.int .i64 k)∧S 0=p∧k≤l.length∧m=l.length-k∧VI h id0 (L++varsL bound (l.take k)) p h') l.length ?_ ?_
 ·simp only[Ty.w,simprocAttr]
  exact⟨0,o,rfl,rfl,by omega,rfl,Nat.le_refl _,fun _ _=>rfl,by simpa[varsL]using tl⟩
 ·rintro m S h' ⟨g2,g9,g10,k,p,g11,g0,hk,rfl,hI⟩
  by_cases hlt:k<l.length
  ·have hd:decide ((k:Int)<(l.length:Int))=true:=by simp;omega
   have w7:IntKind.i64.wrap ((k:Int)+1)=k+1:=by rw[wrap64 (by omega) (by omega)]
   obtain⟨s,hx⟩: ∃ s,l[k]? =some s:=⟨_,List.getElem?_eq_getElem hlt⟩
   have hr:=strRows_get hx
   have hsz:=hs s (List.mem_of_getElem? hx)
   have hv:=fun h:Heap=>fvariable_c (h:=h) (s:=s) (by unfold bigN at hsz;omega)
   have hc:=fun h:Heap=>contains_c (h:=h) (l:=bound) (s:=s) hb'
   rw[memB_any]at hc
   have hT:=varsL_take (bound:=bound) hx
   have hle:=varsL_le bound l k
   have hlen:(L++varsL bound (l.take k)).length≤2199023255552:=by rw[List.length_append];omega
   have same:varB s=false∨memB bound s=true→VI h id0 (L++varsL bound (l.take (k+1))) p h':=fun hq=>by
    rw[hT,if_neg (by rcases hq with hq|hq<;>simp[hq]),List.append_nil];exact hI
   cases q1:varB s with
   |false=>
    have fin:=same (.inl q1)
    rw[q1]at hv
    repeat'(first|refine a_seq fun K hK=>?_|(refine a_regionS ?_;simp(maxSteps:=2000000) only[Ty.w,simprocAttr,g2,g9,g10,g11,g0,hd,hr])|(refine a_skip ?_;try simp only[pst0,simprocAttr])|(refine a_cond _ (by(try simp(maxSteps:=2000000) only[Ty.w,simprocAttr,g2,g9,g10,g11,g0,hd,hr]);rfl) (fun hb=>?_) (fun hb=>?_)<;>(try simp only[hb0,decide_eq_true_eq,decide_eq_false_iff_not,simprocAttr]at hb)<;>(try(exfalso;omega)))|(refine hK _ _ ?_;clear hK;try simp only[pst0,simprocAttr]))
    refine owp_useQ (hv _) (by(try simp only[Ty.w,simprocAttr,g2,g9,g10,g11,g0]);try rfl) ?_;simp(maxSteps:=2000000) only[Ty.w,simprocAttr,g2,g9,g10,g11,g0]
    repeat'(first|(refine a_block ?_)|(refine a_regionS ?_;simp(maxSteps:=2000000) only[Ty.w,simprocAttr,g2,g9,g10,g11,g0,w7])|(refine a_skip ?_;try simp only[pst0,simprocAttr])|(refine hK _ _ ?_;clear hK;try simp only[pst0,simprocAttr]))
    exact⟨l.length-(k+1),by omega,k+1,p,by simp,rfl,by omega,rfl,fin⟩
   |true=>
    rw[q1]at hv
    cases q2:memB bound s with
    |true=>
     have fin:=same (.inr q2)
     rw[q2]at hc
     have W:=And.intro g2 (And.intro g9 (And.intro g10 (And.intro g11 g0)))
     repeat'(first|refine a_seq fun K hK=>?_|(refine a_regionS ?_;simp(maxSteps:=2000000) only[Ty.w,simprocAttr,W,hd,hr])|(refine a_skip ?_;try simp only[pst0,simprocAttr])|(refine a_cond _ (by(try simp(maxSteps:=2000000) only[Ty.w,simprocAttr,W,hd,hr]);rfl) (fun hb=>?_) (fun hb=>?_)<;>(try simp only[hb0,decide_eq_true_eq,decide_eq_false_iff_not,simprocAttr]at hb)<;>(try(exfalso;omega)))|(refine hK _ _ ?_;clear hK;try simp only[pst0,simprocAttr]))
     refine owp_useQ (hv _) (by(try simp only[Ty.w,simprocAttr,W]);try rfl) ?_;simp(maxSteps:=2000000) only[Ty.w,simprocAttr,W]
     skip
     refine owp_useQ (hc _) (by(try simp only[Ty.w,simprocAttr,W,Bool.not_true]);try rfl) ?_;simp(maxSteps:=2000000) only[Ty.w,simprocAttr,W,Bool.not_true]
     repeat'(first|(refine a_block ?_)|(refine a_regionS ?_;simp(maxSteps:=2000000) only[Ty.w,simprocAttr,W,w7,Bool.not_true])|(refine a_skip ?_;try simp only[pst0,simprocAttr])|(refine hK _ _ ?_;clear hK;try simp only[pst0,simprocAttr]))
     exact⟨l.length-(k+1),by omega,k+1,p,by simp,rfl,by omega,rfl,fin⟩
    |false=>
     rw[q2]at hc
     have hT2:L++varsL bound (l.take (k+1))=L++varsL bound (l.take k)++[s]:=by rw[hT,if_pos (by simp[q1,q2]),List.append_assoc]
     clear hT same
     generalize L++varsL bound (l.take k)=L2 at hI hT2 hlen
     obtain⟨H,t1,t2,t3,t4,t5⟩:=hI.tl.tail
     have hpr:=strRows_len L2
     have hbb:(L2.length+1)*16≤140737488355328:=by omega
     have hR:strRows (L2++[s])=strRows L2++[[sPV s]]:=by simp[strRows]
     have hle2:=hI.le
     have fin:VI h id0 (L2++[s]) (.own h'.next 0 (L2.length+1)) (H.new (.arr 1 (strRows L2++[[sPV s]]))):=by
      refine⟨by simp only[Heap.new];omega,fun j hj=>?_,?_⟩
      ·simp only[Heap.new];rw[if_neg (by omega),t4 j hj];exact hI.old j hj
      ·rw [← hR, ← t3];exact Tl.grow (by omega) (by rw[strRows_len];simp)
     rw[← hT2]at fin
     have W:=And.intro g2 (And.intro g9 (And.intro g10 (And.intro g11 g0)))
     repeat'(first|refine a_seq fun K hK=>?_|(refine a_regionS ?_;simp(maxSteps:=2000000) only[Ty.w,simprocAttr,W,hd,hr])|(refine a_skip ?_;try simp only[pst0,simprocAttr])|(refine a_cond _ (by(try simp(maxSteps:=2000000) only[Ty.w,simprocAttr,W,hd,hr]);rfl) (fun hb=>?_) (fun hb=>?_)<;>(try simp only[hb0,decide_eq_true_eq,decide_eq_false_iff_not,simprocAttr]at hb)<;>(try(exfalso;omega)))|(refine hK _ _ ?_;clear hK;try simp only[pst0,simprocAttr]))
     refine owp_useQ (hv _) (by(try simp only[Ty.w,simprocAttr,W]);try rfl) ?_;simp(maxSteps:=2000000) only[Ty.w,simprocAttr,W]
     skip
     refine owp_useQ (hc _) (by(try simp only[Ty.w,simprocAttr,W,Bool.not_false]);try rfl) ?_;simp(maxSteps:=2000000) only[Ty.w,simprocAttr,W,Bool.not_false]
     repeat'(first|(refine a_block ?_)|((first|refine a_regionS ?_|refine a_region (fun K hK=>?_));simp(maxSteps:=2000000) only[Ty.w,simprocAttr,W,w7,t1,t2,hpr,hbb,Bool.not_false])|(refine hK _ _ ?_;clear hK;try simp only[pst0,simprocAttr]))
     exact⟨l.length-(k+1),by omega,k+1,_,by simp,rfl,by omega,rfl,fin⟩
  ·have hd:decide ((k:Int)<(l.length:Int))=false:=by simp;omega
   have hke:k=l.length:=by omega
   subst hke
   rw[List.take_length]at hI
   repeat'(first|refine a_seq fun K hK=>?_|((first|refine a_regionS ?_|refine a_ret ?_);simp(maxSteps:=2000000) only[Ty.w,simprocAttr,g2,g9,g10,g11,g0,hd])|(refine a_exit ?_;try simp only[pst0,simprocAttr])|(refine a_cond _ (by(try simp(maxSteps:=2000000) only[Ty.w,simprocAttr,g2,g9,g10,g11,g0,hd]);rfl) (fun hb=>?_) (fun hb=>?_)<;>(try simp only[hb0,decide_eq_true_eq,decide_eq_false_iff_not,simprocAttr]at hb)<;>(try(exfalso;omega)))|((first|refine hK _ _ ?_|(clear hK;refine hK _ _ ?_));clear hK;try simp only[pst0,simprocAttr]))
   exact hI
theorem varsL_len(bound l:List ByteArray):(varsL bound l).length≤l.length:=List.length_filter_le _ _
mutual
theorem freeEx_len(bound:List ByteArray): ∀ e:Ex,(freeEx bound e).length≤PV.bulkL e.cells
 | .mk op name n args kids=>by
  have h1:=varsL_len bound args
  have h2:=freeExs_len bound kids
  have h3:=bulkR_strs args
  simp only[freeEx,List.length_append,Ex.cells,PV.bulkL,PV.bulk]
  omega
theorem freeExs_len(bound:List ByteArray): ∀ l:List Ex,(freeExs bound l).length≤PV.bulkR (Ex.rows l)
 |[]=>by simp[freeExs]
 |k::l=>by
  have h1:=freeEx_len bound k
  have h2:=freeExs_len bound l
  simp only[freeExs,List.length_append,Ex.rows,PV.bulkR]
  omega
end
theorem freeExs_append(bound:List ByteArray): ∀ l m:List Ex,freeExs bound (l++m)=freeExs bound l++freeExs bound m
 |[],m=>by simp[freeExs]
 |k::l,m=>by simp only[List.cons_append,freeExs,freeExs_append bound l m,List.append_assoc]
theorem freeExs_take{bound:List ByteArray}{l:List Ex}{k:Nat}{x:Ex}(h:l[k]? =some x):freeExs bound (l.take (k+1))=freeExs bound (l.take k)++freeEx bound x:=by
 rw[List.take_add_one,h,freeExs_append];simp[freeExs]
theorem bulk_memE: ∀ {l:List Ex}{k:Nat}{x:Ex},l[k]? =some x→PV.bulkR (Ex.rows (l.take k))+PV.bulkL x.cells≤PV.bulkR (Ex.rows l)
 |[],k,x,h=>by simp at h
 |a::l,0,x,h=>by
  simp only[List.getElem?_cons_zero,Option.some.injEq]at h
  subst h
  simp only[List.take_zero,Ex.rows,PV.bulkR];omega
 |a::l,k+1,x,h=>by
  have:=bulk_memE (l:=l) (k:=k) (x:=x) (by simpa using h)
  simp only[List.take_succ_cons,Ex.rows,PV.bulkR];omega
theorem freeE_c: ∀ e:Ex,e.ok→ ∀ {bound L:List ByteArray},bound.length≤bigN→L.length+PV.bulkL e.cells≤1099511627776→ ∀ {o:PV}{id0:Nat}{h:Heap},id0≤h.next→Tl h id0 1 o (strRows L)→
  PCall Tryz.prog 44 [o,.agg e.cells,.imm 1 (strRows bound)] h fun r h'=>VI h id0 (L++freeEx bound e) r h':=by
 refine Ex.ind ?_
 intro op name n args kids ih hok bound L hb hl o id0 h h0 tl
 simp only[Ex.ok]at hok
 obtain⟨_,_,_,⟨_,hargs⟩,_,hks⟩:=hok
 rw[Ex.oks_iff]at hks
 have hA:=bulkR_strs args
 have hE:=bulkR_exs kids
 simp only[Ex.cells,PV.bulkL,PV.bulk]at hl
 have hc0:=variables_c (l:=args) (bound:=bound) (L:=L) hargs hb (by omega) h0 tl
 have hlK:=Ex.rows_len kids
 have hv:=varsL_len bound args
 have hF:freeEx bound (.mk op name n args kids)=varsL bound args++freeExs bound kids:=by simp only[freeEx]
 rw[hF, ← List.append_assoc]
 have hl2:(L++varsL bound args).length+PV.bulkR (Ex.rows kids)≤1099511627776:=by rw[List.length_append];omega
 generalize L++varsL bound args=L1 at hl2 hc0⊢
 simp only[Ex.cells]
 refine pcall_body (ow:=fun _=>false) (wf:=fun _=>false) Ty.mixed Tryz.func44 rfl Ty.hb_44 (by rw[Tryz.ntmps44];simp) ?_
 rw[Tryz.ntmps44,Tryz.results44]
 repeat'(first|refine a_seq fun K hK=>?_|(refine a_regionS ?_;simp(maxSteps:=2000000) only[Ty.w,simprocAttr])|(refine hK _ _ ?_;clear hK;try simp only[pst0,simprocAttr]))
 refine owp_useL hc0 (by(try simp only[Ty.w,simprocAttr]);try rfl) ?_
 clear hc0 tl hF hv
 rintro r h1 hI
 simp(maxSteps:=2000000) only[Ty.w,simprocAttr,Ty.all]
 repeat'(first|refine a_seq fun K hK=>?_|(refine a_block ?_)|(refine a_regionS ?_;simp(maxSteps:=2000000) only[Ty.w,simprocAttr,hlK])|(refine hK _ _ ?_;clear hK;try simp only[pst0,simprocAttr]))
 refine a_loop (fun m S h'=>S 2= .imm 1 (strRows bound)∧S 15= .imm 5 (Ex.rows kids)∧S 16= .sc (.int .i64 kids.length)∧ ∃ (k:Nat)(p:PV),S 17= .sc (.int .i64 k)∧S 0=p∧k≤kids.length∧m=kids.length-k∧VI h id0 (L1++freeExs bound (kids.take k)) p h') kids.length ?_ ?_
 ·simp only[Ty.w,simprocAttr]
  exact⟨0,r,rfl,rfl,by omega,rfl,by simpa[freeExs]using hI⟩
 ·clear hI
  rintro m S h' ⟨g2,g15,g16,k,p,g17,g0,hk,rfl,hI⟩
  by_cases hlt:k<kids.length
  ·have hd:decide ((k:Int)<(kids.length:Int))=true:=by simp;omega
   have w7:IntKind.i64.wrap ((k:Int)+1)=k+1:=by rw[wrap64 (by omega) (by omega)]
   obtain⟨x,hx⟩: ∃ x,kids[k]? =some x:=⟨_,List.getElem?_eq_getElem hlt⟩
   have hr:=Ex.rows_get hx
   have hmem:=List.mem_of_getElem? hx
   have hT:=freeExs_take (bound:=bound) hx
   have hbx:=bulk_memE hx
   have hfl:=freeExs_len bound (kids.take k)
   have hlx:(L1++freeExs bound (kids.take k)).length+PV.bulkL x.cells≤1099511627776:=by rw[List.length_append];omega
   have hT2:L1++freeExs bound (kids.take (k+1))=L1++freeExs bound (kids.take k)++freeEx bound x:=by rw[hT,List.append_assoc]
   have ihx:= @ih x hmem (hks x hmem) bound (L1++freeExs bound (kids.take k)) hb hlx p id0
   rw[← hT2]at ihx
   clear hT hT2 hlx hfl ih
   have h00:id0≤h'.next:=Nat.le_trans h0 hI.le
   obtain⟨xo,xn,xv,xa,xk⟩:=x
   simp only[Ex.cells]at hr ihx
   have hup: ∀ o2,(∀ j,j<h'.next→((h'.new (.arr 5 [[.sc (.string ⟨#[]⟩),.sc (.string ⟨#[]⟩),.sc (.int .i64 0),.sc (.slice none 0 0),.sc (.slice none 0 0)]])).set h'.next o2).obj j=h'.obj j):=fun o2 j hj=>by simp only[Heap.new,Heap.set];rw[if_neg (by omega),if_neg (by omega)]
   have hI2:=fun o2=>hI.up (H:=(h'.new (.arr 5 [[.sc (.string ⟨#[]⟩),.sc (.string ⟨#[]⟩),.sc (.int .i64 0),.sc (.slice none 0 0),.sc (.slice none 0 0)]])).set h'.next o2) h00 (by simp[Heap.new,Heap.set]) (hup o2)
   have hcx:=fun o2=> @ihx ((h'.new (.arr 5 [[.sc (.string ⟨#[]⟩),.sc (.string ⟨#[]⟩),.sc (.int .i64 0),.sc (.slice none 0 0),.sc (.slice none 0 0)]])).set h'.next o2) (by simp only[Heap.new,Heap.set];omega) (hI2 o2).tl
   repeat'(first|refine a_seq fun K hK=>?_|((first|refine a_regionS ?_|refine a_region (fun K hK=>?_));simp(maxSteps:=2000000) only[Ty.w,simprocAttr,g2,g15,g16,g17,g0,hd,hr,nsucc])|(refine a_skip ?_;try simp only[pst0,simprocAttr])|(refine a_cond _ (by(try simp(maxSteps:=2000000) only[Ty.w,simprocAttr,g2,g15,g16,g17,g0,hd,hr,nsucc]);rfl) (fun hb=>?_) (fun hb=>?_)<;>(try simp only[hb0,decide_eq_true_eq,decide_eq_false_iff_not,simprocAttr]at hb)<;>(try(exfalso;omega)))|(refine hK _ _ ?_;clear hK;try simp only[pst0,simprocAttr]))
   refine owp_useL (hcx _) (by(try simp only[Ty.w,simprocAttr,g2,g15,g16,g17,g0]);try rfl) ?_
   rintro r2 h2 hV
   simp(maxSteps:=2000000) only[Ty.w,simprocAttr,Ty.all]
   repeat'(first|(refine a_regionS ?_;simp(maxSteps:=2000000) only[Ty.w,simprocAttr,g2,g15,g16,g17,w7])|(refine hK _ _ ?_;clear hK;try simp only[pst0,simprocAttr]))
   exact⟨kids.length-(k+1),by omega,k+1,r2,by simp,rfl,by omega,rfl,VI.trans (hI2 _).le (hI2 _).old hV⟩
  ·have hd:decide ((k:Int)<(kids.length:Int))=false:=by simp;omega
   have hke:k=kids.length:=by omega
   subst hke
   rw[List.take_length]at hI
   repeat'(first|refine a_seq fun K hK=>?_|((first|refine a_regionS ?_|refine a_ret ?_);simp(maxSteps:=2000000) only[Ty.w,simprocAttr,g2,g15,g16,g17,g0,hd])|(refine a_exit ?_;try simp only[pst0,simprocAttr])|(refine a_cond _ (by(try simp(maxSteps:=2000000) only[Ty.w,simprocAttr,g2,g15,g16,g17,g0,hd]);rfl) (fun hb=>?_) (fun hb=>?_)<;>(try simp only[hb0,decide_eq_true_eq,decide_eq_false_iff_not,simprocAttr]at hb)<;>(try(exfalso;omega)))|((first|refine hK _ _ ?_|(clear hK;refine hK _ _ ?_));clear hK;try simp only[pst0,simprocAttr]))
   exact hI
end Go.Proofs.YtjlkapgpjamnkaaGreat
namespace Go.Proofs.YtjlkapgpjamnkaaGreat
open Go.AM
set_option maxHeartbeats 4000000
set_option maxRecDepth 20000
mutual
theorem freeFm_len: ∀ (f:Fm)(bound:List ByteArray),(freeFm f bound).length≤PV.bulkL f.cells
 | .mk op name args params exprs kids,bound=>by
  have h1:=varsL_len bound args
  have h2:=freeExs_len bound exprs
  have h3:=bulkR_strs args
  have h4:=freeFms_len kids (bound++params.map Pm.name)
  simp only[freeFm,List.length_append,Fm.cells,PV.bulkL,PV.bulk]
  omega
theorem freeFms_len: ∀ (l:List Fm)(bound:List ByteArray),(freeFms l bound).length≤PV.bulkR (Fm.rows l)
 |[],_=>by simp[freeFms]
 |k::l,bound=>by
  have h1:=freeFm_len k bound
  have h2:=freeFms_len l bound
  simp only[freeFms,List.length_append,Fm.rows,PV.bulkR]
  omega
end
theorem freeFms_append(bound:List ByteArray): ∀ l m:List Fm,freeFms (l++m) bound=freeFms l bound++freeFms m bound
 |[],m=>by simp[freeFms]
 |k::l,m=>by simp only[List.cons_append,freeFms,freeFms_append bound l m,List.append_assoc]
theorem freeFms_take{bound:List ByteArray}{l:List Fm}{k:Nat}{x:Fm}(h:l[k]? =some x):freeFms (l.take (k+1)) bound=freeFms (l.take k) bound++freeFm x bound:=by
 rw[List.take_add_one,h,freeFms_append];simp[freeFms]
theorem bulk_memF2: ∀ {l:List Fm}{k:Nat}{x:Fm},l[k]? =some x→PV.bulkR (Fm.rows (l.take k))+PV.bulkL x.cells≤PV.bulkR (Fm.rows l)
 |[],k,x,h=>by simp at h
 |a::l,0,x,h=>by
  simp only[List.getElem?_cons_zero,Option.some.injEq]at h
  subst h
  simp only[List.take_zero,Fm.rows,PV.bulkR];omega
 |a::l,k+1,x,h=>by
  have:=bulk_memF2 (l:=l) (k:=k) (x:=x) (by simpa using h)
  simp only[List.take_succ_cons,Fm.rows,PV.bulkR];omega
theorem free_c: ∀ f:Fm,f.ok→ ∀ {bound L:List ByteArray},bound.length+PV.bulkL f.cells≤1099511627776→L.length+PV.bulkL f.cells≤1099511627776→ ∀ {o:PV}{id0:Nat}{h:Heap},id0≤h.next→Tl h id0 1 o (strRows L)→
  PCall Tryz.prog 18 [o,.agg f.cells,.imm 1 (strRows bound)] h fun r h'=>VI h id0 (L++freeFm f bound) r h':=by
 refine Fm.ind ?_
 intro op name args params exprs kids ih hok bound L hb hl o id0 h h0 tl
 simp only[Fm.ok]at hok
 obtain⟨_,_,⟨_,hargs⟩,_,⟨_,hes⟩,_,hks⟩:=hok
 rw[Ex.oks_iff]at hes
 rw[Fm.oks_iff]at hks
 have hA:=bulkR_strs args
 have hE:=bulkR_exs exprs
 have hF:=bulkR_fms kids
 have hP:=bulkR_pms params
 simp only[Fm.cells,PV.bulkL,PV.bulk]at hl hb
 have hbb:bound.length≤bigN:=by unfold bigN;omega
 have hc0:=variables_c (l:=args) (bound:=bound) (L:=L) hargs hbb (by omega) h0 tl
 have hlE:=Ex.rows_len exprs
 have hlK:=Fm.rows_len kids
 have hv:=varsL_len bound args
 have hFF:freeFm (.mk op name args params exprs kids) bound=varsL bound args++freeExs bound exprs++freeFms kids (bound++params.map Pm.name):=by simp only[freeFm]
 rw[hFF, ← List.append_assoc, ← List.append_assoc]
 have hl2:(L++varsL bound args).length+PV.bulkR (Ex.rows exprs)+PV.bulkR (Fm.rows kids)≤1099511627776:=by rw[List.length_append];omega
 have hb2:(bound++params.map Pm.name).length+PV.bulkR (Fm.rows kids)≤1099511627776:=by simp only[List.length_append,List.length_map];omega
 have hin:=fun H=>inner_c (op:=op) (name:=name) (args:=args) (exprs:=exprs) (kids:=kids) (params:=params) (bound:=bound) (by omega) H
 generalize L++varsL bound args=L1 at hl2 hc0⊢
 generalize hB2:bound++params.map Pm.name=bound2 at hb2 hin⊢
 clear hFF tl hB2 hl hb
 simp only[Fm.cells]at hin⊢
 refine pcall_body (ow:=fun _=>false) (wf:=fun _=>false) Ty.mixed Tryz.func18 rfl Ty.hb_18 (by rw[Tryz.ntmps18];simp) ?_
 rw[Tryz.ntmps18,Tryz.results18]
 repeat'(first|refine a_seq fun K hK=>?_|(refine a_regionS ?_;simp(maxSteps:=2000000) only[Ty.w,simprocAttr])|(refine hK _ _ ?_;clear hK;try simp only[pst0,simprocAttr]))
 refine owp_useL hc0 (by(try simp only[Ty.w,simprocAttr]);try rfl) ?_
 clear hc0
 rintro r h1 hI
 simp(maxSteps:=2000000) only[Ty.w,simprocAttr,Ty.all]
 repeat'(first|refine a_seq fun K hK=>?_|(refine a_block ?_)|(refine a_regionS ?_;simp(maxSteps:=2000000) only[Ty.w,simprocAttr,hlE])|(refine hK _ _ ?_;clear hK;try simp only[pst0,simprocAttr]))
 refine a_loop (fun m S h'=>S 2= .imm 1 (strRows bound)∧S 4= .cptr [sPV op,sPV name,.imm 1 (strRows args),.imm 2 (pmRows params),.imm 5 (Ex.rows exprs),.imm 6 (Fm.rows kids)]∧S 17= .imm 5 (Ex.rows exprs)∧S 18= .sc (.int .i64 exprs.length)∧ ∃ (k:Nat)(p:PV),S 19= .sc (.int .i64 k)∧S 0=p∧k≤exprs.length∧m=exprs.length-k∧VI h id0 (L1++freeExs bound (exprs.take k)) p h') exprs.length ?_ ?_
 ·simp only[Ty.w,simprocAttr]
  exact⟨0,r,rfl,rfl,by omega,rfl,by simpa[freeExs]using hI⟩
 ·clear hI
  rintro m S h' ⟨g2,g4,g17,g18,k,p,g19,g0,hk,rfl,hI⟩
  by_cases hlt:k<exprs.length
  ·have hd:decide ((k:Int)<(exprs.length:Int))=true:=by simp;omega
   have w7:IntKind.i64.wrap ((k:Int)+1)=k+1:=by rw[wrap64 (by omega) (by omega)]
   obtain⟨x,hx⟩: ∃ x,exprs[k]? =some x:=⟨_,List.getElem?_eq_getElem hlt⟩
   have hr:=Ex.rows_get hx
   have hmem:=List.mem_of_getElem? hx
   have hT:=freeExs_take (bound:=bound) hx
   have hbx:=bulk_memE hx
   have hfl:=freeExs_len bound (exprs.take k)
   have hlx:(L1++freeExs bound (exprs.take k)).length+PV.bulkL x.cells≤1099511627776:=by rw[List.length_append];omega
   have hT2:L1++freeExs bound (exprs.take (k+1))=L1++freeExs bound (exprs.take k)++freeEx bound x:=by rw[hT];simp only[List.append_assoc]
   have ihx:= @freeE_c x (hes x hmem) bound (L1++freeExs bound (exprs.take k)) hbb hlx p id0
   rw[← hT2]at ihx
   clear hT hT2 hlx hfl
   have h00:id0≤h'.next:=Nat.le_trans h0 hI.le
   obtain⟨xo,xn,xv,xa,xk⟩:=x
   simp only[Ex.cells]at hr ihx
   have hup: ∀ o2,(∀ j,j<h'.next→((h'.new (.arr 5 [[.sc (.string ⟨#[]⟩),.sc (.string ⟨#[]⟩),.sc (.int .i64 0),.sc (.slice none 0 0),.sc (.slice none 0 0)]])).set h'.next o2).obj j=h'.obj j):=fun o2 j hj=>by simp only[Heap.new,Heap.set];rw[if_neg (by omega),if_neg (by omega)]
   have hI2:=fun o2=>hI.up (H:=(h'.new (.arr 5 [[.sc (.string ⟨#[]⟩),.sc (.string ⟨#[]⟩),.sc (.int .i64 0),.sc (.slice none 0 0),.sc (.slice none 0 0)]])).set h'.next o2) h00 (by simp[Heap.new,Heap.set]) (hup o2)
   have hcx:=fun o2=> @ihx ((h'.new (.arr 5 [[.sc (.string ⟨#[]⟩),.sc (.string ⟨#[]⟩),.sc (.int .i64 0),.sc (.slice none 0 0),.sc (.slice none 0 0)]])).set h'.next o2) (by simp only[Heap.new,Heap.set];omega) (hI2 o2).tl
   repeat'(first|refine a_seq fun K hK=>?_|((first|refine a_regionS ?_|refine a_region (fun K hK=>?_));simp(maxSteps:=2000000) only[Ty.w,simprocAttr,g2,g4,g17,g18,g19,g0,hd,hr,nsucc])|(refine a_skip ?_;try simp only[pst0,simprocAttr])|(refine a_cond _ (by(try simp(maxSteps:=2000000) only[Ty.w,simprocAttr,g2,g4,g17,g18,g19,g0,hd,hr,nsucc]);rfl) (fun hb=>?_) (fun hb=>?_)<;>(try simp only[hb0,decide_eq_true_eq,decide_eq_false_iff_not,simprocAttr]at hb)<;>(try(exfalso;omega)))|(refine hK _ _ ?_;clear hK;try simp only[pst0,simprocAttr]))
   refine owp_useL (hcx _) (by(try simp only[Ty.w,simprocAttr,g2,g4,g17,g18,g19,g0]);try rfl) ?_
   rintro r2 h2 hV
   simp(maxSteps:=2000000) only[Ty.w,simprocAttr,Ty.all]
   repeat'(first|(refine a_regionS ?_;simp(maxSteps:=2000000) only[Ty.w,simprocAttr,g2,g4,g17,g18,g19,w7])|(refine hK _ _ ?_;clear hK;try simp only[pst0,simprocAttr]))
   exact⟨exprs.length-(k+1),by omega,k+1,r2,by simp,rfl,by omega,rfl,VI.trans (hI2 _).le (hI2 _).old hV⟩
  ·have hd:decide ((k:Int)<(exprs.length:Int))=false:=by simp;omega
   have hke:k=exprs.length:=by omega
   subst hke
   rw[List.take_length]at hI
   have hfl:=freeExs_len bound exprs
   have hl3:(L1++freeExs bound exprs).length+PV.bulkR (Fm.rows kids)≤1099511627776:=by rw[List.length_append];omega
   repeat'(first|refine a_seq fun K hK=>?_|(refine a_regionS ?_;simp(maxSteps:=2000000) only[Ty.w,simprocAttr,g2,g4,g17,g18,g19,g0,hd])|(refine a_exit ?_;try simp only[pst0,simprocAttr])|(refine a_cond _ (by(try simp(maxSteps:=2000000) only[Ty.w,simprocAttr,g2,g4,g17,g18,g19,g0,hd]);rfl) (fun hb=>?_) (fun hb=>?_)<;>(try simp only[hb0,decide_eq_true_eq,decide_eq_false_iff_not,simprocAttr]at hb)<;>(try(exfalso;omega)))|((first|refine hK _ _ ?_|(clear hK;refine hK _ _ ?_));clear hK;try simp only[pst0,simprocAttr]))
   refine owp_useQ (hin _) (by(try simp only[Ty.w,simprocAttr,g2,g4,g0]);try rfl) ?_;simp(maxSteps:=2000000) only[Ty.w,simprocAttr,g2,g4,g0]
   clear hin
   repeat'(first|refine a_seq fun K hK=>?_|(refine a_block ?_)|(refine a_regionS ?_;simp(maxSteps:=2000000) only[Ty.w,simprocAttr,g4,g0,hlK])|(refine hK _ _ ?_;clear hK;try simp only[pst0,simprocAttr]))
   refine a_loop (fun m S h'=>S 2= .imm 1 (strRows bound2)∧S 32= .imm 6 (Fm.rows kids)∧S 33= .sc (.int .i64 kids.length)∧ ∃ (k:Nat)(p:PV),S 34= .sc (.int .i64 k)∧S 0=p∧k≤kids.length∧m=kids.length-k∧VI h id0 (L1++freeExs bound exprs++freeFms (kids.take k) bound2) p h') kids.length ?_ ?_
   ·simp only[Ty.w,simprocAttr]
    exact⟨0,p,rfl,g0,by omega,rfl,by simpa[freeFms]using hI⟩
   ·clear hI g0 g2 g4
    rintro m S h' ⟨g2,g32,g33,k,p,g34,g0,hk,rfl,hI⟩
    by_cases hlt:k<kids.length
    ·have hd:decide ((k:Int)<(kids.length:Int))=true:=by simp;omega
     have w7:IntKind.i64.wrap ((k:Int)+1)=k+1:=by rw[wrap64 (by omega) (by omega)]
     obtain⟨x,hx⟩: ∃ x,kids[k]? =some x:=⟨_,List.getElem?_eq_getElem hlt⟩
     have hr:=Fm.rows_get hx
     have hmem:=List.mem_of_getElem? hx
     have hT:=freeFms_take (bound:=bound2) hx
     have hbx:=bulk_memF2 hx
     have hfl:=freeFms_len (kids.take k) bound2
     have hlx:(L1++freeExs bound exprs++freeFms (kids.take k) bound2).length+PV.bulkL x.cells≤1099511627776:=by rw[List.length_append];omega
     have hT2:L1++freeExs bound exprs++freeFms (kids.take (k+1)) bound2=L1++freeExs bound exprs++freeFms (kids.take k) bound2++freeFm x bound2:=by rw[hT];simp only[List.append_assoc]
     have ihx:= @ih x hmem (hks x hmem) bound2 (L1++freeExs bound exprs++freeFms (kids.take k) bound2) (by omega) hlx p id0
     rw[← hT2]at ihx
     clear hT hT2 hlx hfl ih
     have h00:id0≤h'.next:=Nat.le_trans h0 hI.le
     obtain⟨xo,xn,xa,xp,xe,xk⟩:=x
     simp only[Fm.cells]at hr ihx
     have hup: ∀ o2,(∀ j,j<h'.next→((h'.new (.arr 6 [[.sc (.string ⟨#[]⟩),.sc (.string ⟨#[]⟩),.sc (.slice none 0 0),.sc (.slice none 0 0),.sc (.slice none 0 0),.sc (.slice none 0 0)]])).set h'.next o2).obj j=h'.obj j):=fun o2 j hj=>by simp only[Heap.new,Heap.set];rw[if_neg (by omega),if_neg (by omega)]
     have hI2:=fun o2=>hI.up (H:=(h'.new (.arr 6 [[.sc (.string ⟨#[]⟩),.sc (.string ⟨#[]⟩),.sc (.slice none 0 0),.sc (.slice none 0 0),.sc (.slice none 0 0),.sc (.slice none 0 0)]])).set h'.next o2) h00 (by simp[Heap.new,Heap.set]) (hup o2)
     have hcx:=fun o2=> @ihx ((h'.new (.arr 6 [[.sc (.string ⟨#[]⟩),.sc (.string ⟨#[]⟩),.sc (.slice none 0 0),.sc (.slice none 0 0),.sc (.slice none 0 0),.sc (.slice none 0 0)]])).set h'.next o2) (by simp only[Heap.new,Heap.set];omega) (hI2 o2).tl
     repeat'(first|refine a_seq fun K hK=>?_|((first|refine a_regionS ?_|refine a_region (fun K hK=>?_));simp(maxSteps:=2000000) only[Ty.w,simprocAttr,g2,g32,g33,g34,g0,hd,hr,nsucc])|(refine a_skip ?_;try simp only[pst0,simprocAttr])|(refine a_cond _ (by(try simp(maxSteps:=2000000) only[Ty.w,simprocAttr,g2,g32,g33,g34,g0,hd,hr,nsucc]);rfl) (fun hb=>?_) (fun hb=>?_)<;>(try simp only[hb0,decide_eq_true_eq,decide_eq_false_iff_not,simprocAttr]at hb)<;>(try(exfalso;omega)))|(refine hK _ _ ?_;clear hK;try simp only[pst0,simprocAttr]))
     refine owp_useL (hcx _) (by(try simp only[Ty.w,simprocAttr,g2,g32,g33,g34,g0]);try rfl) ?_
     rintro r2 h2 hV
     simp(maxSteps:=2000000) only[Ty.w,simprocAttr,Ty.all]
     repeat'(first|(refine a_regionS ?_;simp(maxSteps:=2000000) only[Ty.w,simprocAttr,g2,g32,g33,g34,w7])|(refine hK _ _ ?_;clear hK;try simp only[pst0,simprocAttr]))
     exact⟨kids.length-(k+1),by omega,k+1,r2,by simp,rfl,by omega,rfl,VI.trans (hI2 _).le (hI2 _).old hV⟩
    ·have hd:decide ((k:Int)<(kids.length:Int))=false:=by simp;omega
     have hke:k=kids.length:=by omega
     subst hke
     rw[List.take_length]at hI
     repeat'(first|refine a_seq fun K hK=>?_|((first|refine a_regionS ?_|refine a_ret ?_);simp(maxSteps:=2000000) only[Ty.w,simprocAttr,g2,g32,g33,g34,g0,hd])|(refine a_exit ?_;try simp only[pst0,simprocAttr])|(refine a_cond _ (by(try simp(maxSteps:=2000000) only[Ty.w,simprocAttr,g2,g32,g33,g34,g0,hd]);rfl) (fun hb=>?_) (fun hb=>?_)<;>(try simp only[hb0,decide_eq_true_eq,decide_eq_false_iff_not,simprocAttr]at hb)<;>(try(exfalso;omega)))|((first|refine hK _ _ ?_|(clear hK;refine hK _ _ ?_));clear hK;try simp only[pst0,simprocAttr]))
     exact hI
end Go.Proofs.YtjlkapgpjamnkaaGreat
namespace Go.Proofs.YtjlkapgpjamnkaaGreat
open Go.AM Go.Lib
def freeL(f:Fm):List (List UInt8):=if validF f=true then compact (((freeFm f []).map key).mergeSort fun x y=>decide (x≤y))else[]
end Go.Proofs.YtjlkapgpjamnkaaGreat
namespace Go.Proofs.YtjlkapgpjamnkaaGreat
open Go.AM Go.Shelf Go.Sort
set_option maxHeartbeats 4000000
set_option maxRecDepth 20000
def laysSort_ren:Ren:=⟨fun x=>match x with|190=>19|125=>47|258=>46|128=>86|129=>87|302=>77|303=>78|304=>79|305=>80|306=>81|307=>82|308=>83|309=>84|310=>85|333=>100|329=>101|330=>102|334=>103|335=>104|336=>105|344=>110|n=>n,fun x=>match x with|31=>22|9=>9|3=>3|46=>73|0=>0|51=>108|53=>110|4=>4|183=>100|182=>99|131=>105|5=>5|218=>123|222=>77|228=>131|229=>132|n=>n,fun x=>x⟩
theorem laysSort:Lays.n190 Tryz.prog laysSort_ren where
 mixed:=by kernel_rfl
 f125:=Tryz.func47.trans (congrArg some (by kernel_rfl))
 f128:=Tryz.func86.trans (congrArg some (by kernel_rfl))
 f129:=Tryz.func87.trans (congrArg some (by kernel_rfl))
 f190:=Tryz.func19.trans (congrArg some (by kernel_rfl))
 f258:=Tryz.func46.trans (congrArg some (by kernel_rfl))
 f302:=Tryz.func77.trans (congrArg some (by kernel_rfl))
 f303:=Tryz.func78.trans (congrArg some (by kernel_rfl))
 f304:=Tryz.func79.trans (congrArg some (by kernel_rfl))
 f305:=Tryz.func80.trans (congrArg some (by kernel_rfl))
 f306:=Tryz.func81.trans (congrArg some (by kernel_rfl))
 f307:=Tryz.func82.trans (congrArg some (by kernel_rfl))
 f308:=Tryz.func83.trans (congrArg some (by kernel_rfl))
 f309:=Tryz.func84.trans (congrArg some (by kernel_rfl))
 f310:=Tryz.func85.trans (congrArg some (by kernel_rfl))
 f329:=Tryz.func101.trans (congrArg some (by kernel_rfl))
 f330:=Tryz.func102.trans (congrArg some (by kernel_rfl))
 f333:=Tryz.func100.trans (congrArg some (by kernel_rfl))
 f334:=Tryz.func103.trans (congrArg some (by kernel_rfl))
 f335:=Tryz.func104.trans (congrArg some (by kernel_rfl))
 f336:=Tryz.func105.trans (congrArg some (by kernel_rfl))
 f344:=Tryz.func110.trans (congrArg some (by kernel_rfl))
 t0:=Tryz.underlying0
 a0:=Tryz.isAgg0
 z0:=Tryz.sizeOf0
 v0:=Tryz.zeroValue0
 t3:=Tryz.underlying3
 a3:=Tryz.isAgg3
 z3:=Tryz.sizeOf3
 v3:=Tryz.zeroValue3
 t4:=Tryz.underlying4
 a4:=Tryz.isAgg4
 z4:=Tryz.sizeOf4
 v4:=Tryz.zeroValue4
 t5:=Tryz.underlying5
 a5:=Tryz.isAgg5
 z5:=Tryz.sizeOf5
 v5:=Tryz.zeroValue5
 t9:=Tryz.underlying9
 a9:=Tryz.isAgg9
 z9:=Tryz.sizeOf9
 v9:=Tryz.zeroValue9
 t31:=Tryz.underlying22
 a31:=Tryz.isAgg22
 z31:=Tryz.sizeOf22
 v31:=Tryz.zeroValue22
 t46:=Tryz.underlying73
 a46:=Tryz.isAgg73
 z46:=Tryz.sizeOf73
 v46:=Tryz.zeroValue73
 t51:=Tryz.underlying108
 a51:=Tryz.isAgg108
 z51:=Tryz.sizeOf108
 v51:=Tryz.zeroValue108
 t53:=Tryz.underlying110
 a53:=Tryz.isAgg110
 z53:=Tryz.sizeOf110
 v53:=Tryz.zeroValue110
 t131:=Tryz.underlying105
 a131:=Tryz.isAgg105
 z131:=Tryz.sizeOf105
 v131:=Tryz.zeroValue105
 t182:=Tryz.underlying99
 a182:=Tryz.isAgg99
 z182:=Tryz.sizeOf99
 v182:=Tryz.zeroValue99
 t183:=Tryz.underlying100
 a183:=Tryz.isAgg100
 z183:=Tryz.sizeOf100
 v183:=Tryz.zeroValue100
 t218:=Tryz.underlying123
 a218:=Tryz.isAgg123
 z218:=Tryz.sizeOf123
 v218:=Tryz.zeroValue123
 t222:=Tryz.underlying77
 a222:=Tryz.isAgg77
 z222:=Tryz.sizeOf77
 v222:=Tryz.zeroValue77
 t228:=Tryz.underlying131
 a228:=Tryz.isAgg131
 z228:=Tryz.sizeOf131
 v228:=Tryz.zeroValue131
 t229:=Tryz.underlying132
 a229:=Tryz.isAgg132
 z229:=Tryz.sizeOf132
 v229:=Tryz.zeroValue132
def laysCompact_ren:Ren:=⟨fun x=>match x with|194=>20|n=>n,fun x=>match x with|31=>22|9=>9|3=>3|4=>4|0=>0|n=>n,fun x=>x⟩
theorem laysCompact:Lays.n194 Tryz.prog laysCompact_ren where
 mixed:=by kernel_rfl
 f194:=Tryz.func20.trans (congrArg some (by kernel_rfl))
 t0:=Tryz.underlying0
 a0:=Tryz.isAgg0
 z0:=Tryz.sizeOf0
 v0:=Tryz.zeroValue0
 t3:=Tryz.underlying3
 a3:=Tryz.isAgg3
 z3:=Tryz.sizeOf3
 v3:=Tryz.zeroValue3
 t4:=Tryz.underlying4
 a4:=Tryz.isAgg4
 z4:=Tryz.sizeOf4
 v4:=Tryz.zeroValue4
 t9:=Tryz.underlying9
 a9:=Tryz.isAgg9
 z9:=Tryz.sizeOf9
 v9:=Tryz.zeroValue9
 t31:=Tryz.underlying22
 a31:=Tryz.isAgg22
 z31:=Tryz.sizeOf22
 v31:=Tryz.zeroValue22
def keyS(l:List UInt8):ByteArray:=⟨l.toArray⟩
theorem keyS_key(s:ByteArray):keyS (key s)=s:=by simp[keyS,key]
theorem key_keyS(l:List UInt8):key (keyS l)=l:=by simp[keyS,key]
section
variable {β:Env}{h:Heap}{w:World}
theorem putRow_at(w:World)(b o n:Nat)(D:List (List UInt8))(os:Array Obj){c:Array Value}{e:TypeId}{fr:Nat × Nat}(hw:w.heap[b]? =some (.cells c e fr)):
  (grow (putRow encStr (Sort.ahead w n) b o D.toArray) os).heap[b]? =some (.cells (putCells encStr o D.toArray c) e fr):=by
 have hlt:b<w.heap.size:=(Array.getElem?_eq_some_iff.1 hw).1
 simp only[grow,putRow,mapBlock,Sort.ahead]
 rw[Array.getElem?_append_left (by simpa using hlt),Array.getElem?_modify,if_pos rfl,hw]
 try rfl
theorem sim_putRow(sm:Sim β h w){id b:Nat}{L:List ByteArray}(ho:h.obj id=some (.arr 1 (strRows L)))(hb:(β id).b=some b)(hL:L≠[]){D:List (List UInt8)}(hD:D.length=L.length)(n:Nat)(os:Array Obj):
  Sim β (h.set id (.arr 1 (strRows (D.map keyS)))) (grow (putRow encStr (Sort.ahead w n) b (β id).o D.toArray) os)∧Ext β h w β (h.set id (.arr 1 (strRows (D.map keyS)))) (grow (putRow encStr (Sort.ahead w n) b (β id).o D.toArray) os):=by
 have hok:=sm.ok id _ ho
 simp only[ObjOk]at hok
 obtain⟨hz,hok⟩:=hok
 rcases hok with⟨_,h2⟩|⟨b',c,e,fr,h5,h6,h7,h8,h9,h10⟩
 ·exact absurd (by simpa[strRows]using h2) hL
 rw[hb]at h5
 simp only[Option.some.injEq]at h5
 subst h5
 have hsz:(grow (putRow encStr (Sort.ahead w n) b (β id).o D.toArray) os).heap.size=w.heap.size+os.size:=by
  simp[grow,putRow,mapBlock,Sort.ahead]
 have hpw:=putRow_at w b (β id).o n D os h6
 refine Sim.step sm id (.arr 1 (strRows (D.map keyS))) rfl rfl rfl (by rw[hsz];omega) (Nat.le_refl _) (fun _ _=>rfl) (by simp[Heap.set]) (sm.lt id (by rw[ho];try rfl)) (fun id' hne=> .inr (by simp[Heap.set,hne])) (fun b' hb'=> .inr ⟨id,by rw[ho];try rfl,hb',.inl rfl⟩) (fun b' hlt hb'=>?_) (fun m=>?_)
 ·have hne:b≠b':=fun e=>hb' (by rw[← e];exact hb)
  simp only[grow,putRow,mapBlock,Sort.ahead]
  rw[Array.getElem?_append_left (by simpa using hlt),Array.getElem?_modify,if_neg hne]
 ·simp only[ObjOk]
  have hcs:(putCells encStr (β id).o D.toArray c).size=c.size:=by simp[putCells]
  refine⟨hz,.inr ⟨b,_,e,fr,hb,hpw,by rw[hcs];exact h7,?_,by rw[hcs];exact h9,?_⟩⟩
  ·rw [strRows_len]at h8⊢
   simp only[List.length_map,hD];exact h8
  ·rw [RepR_iff]
   intro i r hr
   have hi:i<D.length:=by
    have:=(List.getElem?_eq_some_iff.1 hr).1
    rw[strRows_len]at this
    simpa using this
   have hr2:r=[sPV (keyS D[i])]:=by
    have h1:(D.map keyS)[i]? =some (keyS D[i]):=by simp[hi]
    rw[strRows_get h1]at hr
    exact(Option.some.injEq _ _ ▸ hr).symm
   subst hr2
   refine⟨rfl,?_⟩
   rw[strRows_len]at h8
   unfold RepS
   refine⟨⟨.string (keyS D[i]),?_,rfl,by simp only[Rep]⟩,by unfold RepS;trivial⟩
   rw[cell_of_row _ _ _ _ _ _ hpw]
   simp only[putCells,Array.getElem?_mapIdx,Nat.mul_one]
   have hlt:(β id).o+i<c.size:=by rw[h7];omega
   rw[Array.getElem?_eq_getElem hlt]
   simp only[Option.map_some,List.size_toArray]
   rw[if_pos ⟨by omega,by omega⟩,show(β id).o+i-(β id).o=i by omega]
   have:D.toArray[i]! =D[i]:=by simp[hi]
   rw[this]
   try rfl
theorem sim_holds(sm:Sim β h w){id b:Nat}{L:List ByteArray}(ho:h.obj id=some (.arr 1 (strRows L)))(hb:(β id).b=some b)(hL:L≠[]):Holds encStr w b (β id).o (L.map key).toArray∧b<w.heap.size:=by
 have hok:=sm.ok id _ ho
 simp only[ObjOk]at hok
 obtain⟨hz,hok⟩:=hok
 rcases hok with⟨_,h2⟩|⟨b',c,e,fr,h5,h6,h7,h8,h9,h10⟩
 ·exact absurd (by simpa[strRows]using h2) hL
 rw[hb]at h5
 simp only[Option.some.injEq]at h5
 subst h5
 refine⟨fun j hj=>?_,(Array.getElem?_eq_some_iff.1 h6).1⟩
 have hj':j<L.length:=by simpa using hj
 rw[strRows_len]at h8
 have hr:=(RepR_iff.1 h10) j [sPV L[j]] (strRows_get (by simp[hj']))
 have h1:=hr.2
 unfold RepS at h1
 obtain⟨⟨v,c1,_,c3⟩,_⟩:=h1
 simp only[Rep]at c3
 subst c3
 rw[Nat.mul_one]at c1
 refine⟨?_,?_⟩
 ·rw [c1]
  have:(L.map key).toArray[j]! =key L[j]:=by simp[hj']
  rw[this]
 ·simp only[World.frozen?,h6]
  have:=h9 ((β id).o+j) (by rw[h7];omega)
  simpa using this
end
theorem frz_strs{n:Nat}{H:Heap}: ∀ l:List ByteArray,FrzR n H (strRows l) (strRows l)
 |[]=>by simp only[strRows,List.map_nil,FrzR]
 |s::l=>by
  have:=frz_strs (n:=n) (H:=H) l
  simp only[strRows,List.map_cons]at this⊢
  unfold FrzR
  exact⟨by unfold FrzL;exact⟨by simp only[FrzTo],by simp only[FrzL]⟩,this⟩
def sortK(L:List ByteArray):List (List UInt8):=(L.map key).mergeSort fun x y=>decide (x≤y)
theorem sortK_len(L:List ByteArray):(sortK L).length=L.length:=by simp[sortK]
theorem heap_same{h:Heap}{id:Nat}{o:AObj}(ho:h.obj id=some o):h.set id o=h:=by
 cases h with
 |mk n f=>
  simp only[Heap.set,Heap.mk.injEq,true_and]
  funext i
  by_cases e:i=id
  ·subst e;simp only[if_true];exact ho.symm
  ·simp only[e,if_false]
theorem sort_own{L:List ByteArray}{id:Nat}{h:Heap}(ho:h.obj id=some (.arr 1 (strRows L)))(hl:L.length≤1099511627776):
  PCall Tryz.prog 19 [.own id 0 L.length] h fun r h'=>r= .tup []∧h'=h.set id (.arr 1 (strRows ((sortK L).map keyS))):=by
 intro β w vals sm hr
 obtain⟨x,rfl⟩: ∃ x,vals=[x]:=by
  match vals,hr with
  |[x],_=>exact⟨x,rfl⟩
 simp only[RepL,Rep,and_true]at hr
 obtain⟨hid,a,cap,rfl,hc1,hc2,hc3⟩:=hr
 by_cases hL:L=[]
 ·subst hL
  refine Or.inl ⟨Ty.hb_19,(Any.slices_Sort_string_none laysSort a cap w).mono ?_⟩
  rintro e w' ⟨rfl,rfl⟩
  refine⟨.tup [],_,β,_,rfl,⟨rfl,rfl⟩,?_⟩
  have e1:h.set id (.arr 1 (strRows ((sortK []).map keyS)))=h:=heap_same (by rw[ho];simp[sortK,strRows])
  rw[e1]
  exact⟨sm,by simp only[RepH,Rep];exact⟨[],rfl,by simp only[RepL]⟩,Ext.refl⟩
 ·have hpos:0<L.length:=List.length_pos_iff.2 hL
  rcases hc3 with hc3|⟨b,hb,rfl,_⟩
  ·omega
  obtain⟨hH,hblt⟩:=sim_holds sm ho hb hL
  have hlen:(L.map key).length=L.length:=by simp
  have hs:=calls_of_every_depth fun D=>AnyS.slices_Sort_string_alone laysSort D b (β id).o cap (L.map key) w hH hblt (by rw[hlen];omega)
  rw[hlen]at hs
  simp only[Nat.zero_mul,Nat.add_zero]
  refine Or.inl ⟨Ty.hb_19,hs.mono ?_⟩
  rintro e w' ⟨rfl,n,os,rfl⟩
  obtain⟨s1,s2⟩:=sim_putRow sm ho hb hL (D:=sortK L) (sortK_len L) n os
  exact⟨.tup [],_,β,_,rfl,⟨rfl,rfl⟩,s1,by simp only[RepH,Rep];exact⟨[],rfl,by simp only[RepL]⟩,s2⟩
theorem sort_nil{p:PV}(hp:p= .emp∨p= .sc (.slice none 0 0)){h:Heap}:PCall Tryz.prog 19 [p] h fun r h'=>r= .tup []∧h'=h:=by
 intro β w vals sm hr
 obtain⟨x,rfl⟩: ∃ x,vals=[x]:=by
  match vals,hr with
  |[x],_=>exact⟨x,rfl⟩
 simp only[RepL,and_true]at hr
 obtain⟨a,rfl⟩: ∃ a,x= .slice a 0 0:=by
  rcases hp with rfl|rfl
  ·simp only[Rep]at hr;exact hr
  ·simp only[Rep]at hr;exact⟨_,hr⟩
 refine Or.inl ⟨Ty.hb_19,(Any.slices_Sort_string_none laysSort a 0 w).mono ?_⟩
 rintro e w' ⟨rfl,rfl⟩
 exact⟨.tup [],h,β,_,rfl,⟨rfl,rfl⟩,sm,by simp only[RepH,Rep];exact⟨[],rfl,by simp only[RepL]⟩,Ext.refl⟩
theorem compact_nil{p:PV}(hp:p= .emp∨p= .sc (.slice none 0 0)){h:Heap}:PCall Tryz.prog 20 [p] h fun r h'=>r=p∧h'=h:=by
 intro β w vals sm hr
 obtain⟨x,rfl⟩: ∃ x,vals=[x]:=by
  match vals,hr with
  |[x],_=>exact⟨x,rfl⟩
 simp only[RepL,and_true]at hr
 obtain⟨a,rfl⟩: ∃ a,x= .slice a 0 0:=by
  rcases hp with rfl|rfl
  ·simp only[Rep]at hr;exact hr
  ·simp only[Rep]at hr;exact⟨_,hr⟩
 refine Or.inl ⟨Ty.hb_20,(Any.slices_Compact_string_empty laysCompact a 0 w).mono ?_⟩
 rintro e w' ⟨rfl,rfl⟩
 exact⟨p,h,β,_,rfl,⟨rfl,rfl⟩,sm,hr,Ext.refl⟩
theorem compact_len(D:List (List UInt8)):(Lib.compact D).length≤D.length:=by
 simp only[Lib.compact,Lib.compactUpTo,List.length_map]
 have:=List.length_filter_le (Lib.keeps D.toArray) (List.range D.length)
 simpa using this
def compK(D:List (List UInt8)):List (List UInt8):=Lib.compact D++List.replicate (D.length-(Lib.compact D).length) []
theorem compK_len(D:List (List UInt8)):(compK D).length=D.length:=by
 have:=compact_len D
 simp only[compK,List.length_append,List.length_replicate];omega
theorem compact_own{D:List (List UInt8)}{id:Nat}{h:Heap}(ho:h.obj id=some (.arr 1 (strRows (D.map keyS))))(hl:D.length≤1099511627776):
  PCall Tryz.prog 20 [.own id 0 D.length] h fun r h'=>r= .own id 0 (Lib.compact D).length∧h'=h.set id (.arr 1 (strRows ((compK D).map keyS))):=by
 intro β w vals sm hr
 obtain⟨x,rfl⟩: ∃ x,vals=[x]:=by
  match vals,hr with
  |[x],_=>exact⟨x,rfl⟩
 have hcl:=compact_len D
 simp only[RepL,Rep,and_true]at hr
 obtain⟨hid,a,cap,rfl,hc1,hc2,hc3⟩:=hr
 by_cases hL:D=[]
 ·subst hL
  refine Or.inl ⟨Ty.hb_20,(Any.slices_Compact_string_empty laysCompact a cap w).mono ?_⟩
  rintro e w' ⟨rfl,rfl⟩
  refine⟨.own id 0 0,_,β,_,rfl,⟨rfl,rfl⟩,?_⟩
  have e1:h.set id (.arr 1 (strRows ((compK []).map keyS)))=h:=heap_same (by rw[ho];try rfl)
  rw[e1]
  exact⟨sm,by simp only[RepH,Rep];exact⟨hid,a,cap,rfl,hc1,hc2,hc3⟩,Ext.refl⟩
 ·have hpos:0<D.length:=List.length_pos_iff.2 hL
  have hL2:D.map keyS≠[]:=by simpa using hL
  have hlen2:(D.map keyS).length=D.length:=by simp
  rcases hc3 with hc3|⟨b,hb,rfl,hfit⟩
  ·omega
  obtain⟨hH,hblt⟩:=sim_holds sm ho hb hL2
  have hk:(D.map keyS).map key=D:=by rw[List.map_map];simp[Function.comp_def,key_keyS]
  rw[hk]at hH
  have hs:=Any.slices_Compact_string laysCompact b (β id).o cap D w hH (by omega) (by omega)
  simp only[Nat.zero_mul,Nat.add_zero]
  refine Or.inl ⟨Ty.hb_20,hs.mono ?_⟩
  rintro e w' ⟨rfl,n,rfl⟩
  obtain⟨s1,s2⟩:=sim_putRow sm ho hb hL2 (D:=compK D) (by rw[compK_len,hlen2]) n #[]
  rw[grow_empty]at s1 s2
  refine⟨.own id 0 (Lib.compact D).length,_,β,_,rfl,⟨rfl,rfl⟩,s1,?_,s2⟩
  simp only[RepH,Rep]
  exact⟨hid,_,cap,rfl,by omega,hc2,.inr ⟨b,hb,by simp,hfit⟩⟩
theorem freeNil_c{f:Fm}(hok:f.ok)(hb:PV.bulkL f.cells≤1099511627776)(h:Heap):
  PCall Tryz.prog 18 [.sc (.slice none 0 0),.agg f.cells,.sc (.slice none 0 0)] h fun r h'=>VI h h.next (freeFm f []) r h':=by
 refine PCall.nil_imm (z:=1) (pre:=[.sc (.slice none 0 0),.agg f.cells]) (post:=[]) ?_
 have:=free_c f hok (bound:=[]) (L:=[]) (by simpa using hb) (by simpa using hb) (o:= .sc (.slice none 0 0)) (id0:=h.next) (h:=h) (Nat.le_refl _) Tl.nil
 simpa[sr_nil]using this
theorem Free_c{f:Fm}(hok:f.ok)(hsm:f.small)(hb:PV.bulkL f.cells≤1099511627776)(h:Heap):
  PCall Tryz.prog 7 [.agg f.cells] h fun r h'=>r= .imm 1 (strRows ((freeL f).map keyS))∧h'=h:=by
 have hv:=fun H=>fvalid_c hok hsm H
 have hfr:=freeNil_c hok hb h
 have hfl:=freeFm_len f []
 refine PCall.frz Ty.hb_7 ?_
 cases q:validF f with
 |false=>
  rw[show freeL f=[]from if_neg (by rw[q];simp)]
  rw[q]at hv
  obtain⟨op,name,args,params,exprs,kids⟩:=f
  simp only[Fm.cells,List.map_nil,sr_nil]at hv⊢
  refine pcall_body (ow:=fun _=>false) (wf:=fun g=>g==18||g==19||g==20) Ty.mixed Tryz.func7 rfl Ty.hb_7 (by rw[Tryz.ntmps7];simp) ?_
  rw[Tryz.ntmps7,Tryz.results7]
  repeat'(first|refine a_seq fun K hK=>?_|(refine a_regionS ?_;simp(maxSteps:=2000000) only[Ty.w,simprocAttr])|(refine hK _ _ ?_;clear hK;try simp only[pst0,simprocAttr]))
  refine owp_useQ (hv _) (by(try simp only[Ty.w,simprocAttr,Bool.not_false]);try rfl) ?_;simp(maxSteps:=2000000) only[Ty.w,simprocAttr,Bool.not_false]
  repeat'(first|refine a_seq fun K hK=>?_|((first|refine a_regionS ?_|refine a_ret ?_);simp(maxSteps:=2000000) only[Ty.w,simprocAttr,Bool.not_false])|(refine hK _ _ ?_;clear hK;try simp only[pst0,simprocAttr]))
  exact⟨frz_nilslice,Grow.refl _⟩
 |true=>
  have hL:freeL f=Lib.compact (sortK (freeFm f [])):=if_pos q
  rw[hL]
  clear hL
  rw[q]at hv
  generalize freeFm f []=L at hfr hfl⊢
  obtain⟨op,name,args,params,exprs,kids⟩:=f
  simp only[Fm.cells]at hv hfr⊢
  refine pcall_body (ow:=fun _=>false) (wf:=fun g=>g==18||g==19||g==20) Ty.mixed Tryz.func7 rfl Ty.hb_7 (by rw[Tryz.ntmps7];simp) ?_
  rw[Tryz.ntmps7,Tryz.results7]
  repeat'(first|refine a_seq fun K hK=>?_|(refine a_regionS ?_;simp(maxSteps:=2000000) only[Ty.w,simprocAttr])|(refine hK _ _ ?_;clear hK;try simp only[pst0,simprocAttr]))
  refine owp_useQ (hv _) (by(try simp only[Ty.w,simprocAttr,Bool.not_true]);try rfl) ?_;simp(maxSteps:=2000000) only[Ty.w,simprocAttr,Bool.not_true]
  repeat'(first|refine a_seq fun K hK=>?_|(refine a_regionS ?_;simp(maxSteps:=2000000) only[Ty.w,simprocAttr,Bool.not_true])|(refine a_skip ?_;try simp only[pst0,simprocAttr])|(refine a_cond _ (by(try simp(maxSteps:=2000000) only[Ty.w,simprocAttr,Bool.not_true]);rfl) (fun hb=>?_) (fun hb=>?_)<;>(try simp only[hb0,decide_eq_true_eq,decide_eq_false_iff_not,simprocAttr]at hb)<;>(try(exfalso;omega)))|(refine hK _ _ ?_;clear hK;try simp only[pst0,simprocAttr]))
  refine owp_useL hfr (by(try simp only[Ty.w,simprocAttr]);try rfl) ?_
  rintro r h1 hV
  simp(maxSteps:=2000000) only[Ty.w,simprocAttr,Ty.all]
  have hgr:Grow h h1:=⟨hV.le,hV.old⟩
  rcases hV.tl with⟨hn,hp⟩|⟨id,i1,i2,rfl,i4⟩
  ·have hLn:L=[]:=by simpa[strRows]using hn
   subst hLn
   have hp':r= .emp∨r= .sc (.slice none 0 0):=hp.symm
   have c1:=fun H:Heap=>sort_nil hp' (h:=H)
   have c2:=fun H:Heap=>compact_nil hp' (h:=H)
   repeat'(first|refine a_seq fun K hK=>?_|(refine a_regionS ?_;simp(maxSteps:=2000000) only[Ty.w,simprocAttr])|(refine hK _ _ ?_;clear hK;try simp only[pst0,simprocAttr]))
   refine owp_useH (c1 _) (by(try simp only[Ty.w,simprocAttr,reduceCtorEq]);try rfl) ?_;simp(maxSteps:=2000000) only[Ty.w,simprocAttr,reduceCtorEq]
   repeat'(first|refine a_seq fun K hK=>?_|(refine a_regionS ?_;simp(maxSteps:=2000000) only[Ty.w,simprocAttr])|(refine hK _ _ ?_;clear hK;try simp only[pst0,simprocAttr]))
   refine owp_useQ (c2 _) (by(try simp only[Ty.w,simprocAttr,reduceCtorEq]);try rfl) ?_;simp(maxSteps:=2000000) only[Ty.w,simprocAttr,reduceCtorEq]
   repeat'(first|(refine a_ret ?_;simp(maxSteps:=2000000) only[Ty.w,simprocAttr])|(refine hK _ _ ?_;clear hK;try simp only[pst0,simprocAttr]))
   refine⟨?_,hgr⟩
   unfold FrzTo
   exact .inr (.inl ⟨by simp[sortK,Lib.compact,Lib.compactUpTo,strRows],hp'⟩)
  ·rw [strRows_len]at*
   have c1:=sort_own i4 (by omega)
   have c2:=compact_own (D:=sortK L) (id:=id) (h:=h1.set id (.arr 1 (strRows ((sortK L).map keyS)))) (by simp[Heap.set]) (by rw[sortK_len];omega)
   rw[sortK_len]at c2
   have hcl:=compact_len (sortK L)
   rw[sortK_len]at hcl
   repeat'(first|refine a_seq fun K hK=>?_|(refine a_regionS ?_;simp(maxSteps:=2000000) only[Ty.w,simprocAttr])|(refine hK _ _ ?_;clear hK;try simp only[pst0,simprocAttr]))
   refine owp_useH (c1) (by(try simp only[Ty.w,simprocAttr,reduceCtorEq]);try rfl) ?_;simp(maxSteps:=2000000) only[Ty.w,simprocAttr,reduceCtorEq]
   repeat'(first|refine a_seq fun K hK=>?_|(refine a_regionS ?_;simp(maxSteps:=2000000) only[Ty.w,simprocAttr])|(refine hK _ _ ?_;clear hK;try simp only[pst0,simprocAttr]))
   refine owp_useH (c2) (by(try simp only[Ty.w,simprocAttr,reduceCtorEq]);try rfl) ?_;simp(maxSteps:=2000000) only[Ty.w,simprocAttr,reduceCtorEq]
   repeat'(first|(refine a_ret ?_;simp(maxSteps:=2000000) only[Ty.w,simprocAttr])|(refine hK _ _ ?_;clear hK;try simp only[pst0,simprocAttr]))
   refine⟨?_,(hgr.set i1 _).set i1 _⟩
   unfold FrzTo
   refine .inr (.inr ⟨id,0,_,strRows ((compK (sortK L)).map keyS),rfl,i1,by simp only[Heap.set,if_true],?_,?_⟩)
   ·rw [strRows_len];simp only[List.length_map,compK_len,sortK_len];omega
   ·rw [List.drop_zero]
    have e1:(strRows ((compK (sortK L)).map keyS)).take (Lib.compact (sortK L)).length=strRows ((Lib.compact (sortK L)).map keyS):=by
     simp[strRows,compK,List.take_append]
    rw[e1]
    exact frz_strs _
end Go.Proofs.YtjlkapgpjamnkaaGreat
namespace Go.Proofs.YtjlkapgpjamnkaaGreat
open Go.AM
set_option maxHeartbeats 2000000
set_option maxRecDepth 20000
theorem rsizeE_c: ∀ (e:Ex),e.ok→ ∀ h:Heap,PCall Tryz.prog 25 [.agg e.cells] h fun r h'=>r= .sc (.int .i64 e.size)∧h'=h:=by
 refine Ex.ind ?_
 intro op name n args kids ih hok h
 simp only[Ex.ok]at hok
 obtain⟨_,_,_,_,hk,hks⟩:=hok
 rw[Ex.oks_iff]at hks
 have hlen:=Ex.rows_len kids
 simp only[Ex.cells,Ex.size]
 refine pcall_body (ow:=fun _=>false) (wf:=fun _=>false) Ty.mixed Tryz.func25 rfl Ty.hb_25 (by rw[Tryz.ntmps25];simp) ?_
 rw[Tryz.ntmps25,Tryz.results25]
 repeat'(first|refine a_seq fun K hK=>?_|(refine a_block ?_)|(refine a_regionS ?_;simp(maxSteps:=2000000) only[Ty.w,simprocAttr,hlen])|(refine hK _ _ ?_;clear hK;try simp only[pst0,simprocAttr]))
 refine a_loop (fun m S h'=>h'=h∧S 1= .cptr (Ex.mk op name n args kids).cells∧ ∃ k:Nat,S 4= .sc (.int .i64 k)∧k≤kids.length∧m=kids.length-k∧S 3= .sc (.int .i64 (Ex.sizes 1 (kids.take k)))) kids.length ?_ ?_
 ·simp only[Ty.w,simprocAttr]
  exact⟨rfl,0,rfl,by omega,rfl,by simp[Ex.sizes]⟩
 ·rintro m S h' ⟨rfl,g1,k,g4,hkl,rfl,g3⟩
  simp only[Ex.cells]at g1
  by_cases hlt:k<kids.length
  ·have hd:decide ((k:Int)<(kids.length:Int))=true:=by simp;omega
   have w7:IntKind.i64.wrap ((k:Int)+1)=k+1:=by unfold bigN at hk;rw[wrap64 (by omega) (by omega)]
   obtain⟨e,hx⟩: ∃ e,kids[k]? =some e:=⟨_,List.getElem?_eq_getElem hlt⟩
   have hmem:=List.mem_of_getElem? hx
   have hc:=ih e hmem (hks e hmem)
   have hsz:=Ex.sizes_take 1 hx
   have hr:=Ex.rows_get hx
   obtain⟨op2,name2,n2,args2,kids2⟩:=e
   simp only[Ex.cells]at hr hc
   repeat'(first|refine a_seq fun K hK=>?_|(refine a_block ?_)|((first|refine a_regionS ?_|refine a_region (fun K hK=>?_));simp(maxSteps:=2000000) only[Ty.w,simprocAttr,g1,g3,g4,hlen,hd,hr,w7])|(refine a_skip ?_;try simp only[pst0,simprocAttr])|(refine a_cond _ (by(try simp(maxSteps:=2000000) only[Ty.w,simprocAttr,g1,g3,g4,hlen,hd,hr,w7]);rfl) (fun hb=>?_) (fun hb=>?_)<;>(try simp only[hb0,decide_eq_true_eq,decide_eq_false_iff_not,simprocAttr]at hb)<;>(try(exfalso;omega)))|(refine hK _ _ ?_;clear hK;try simp only[pst0,simprocAttr]))
   refine owp_useQ (hc _) (by(try simp only[Ty.w,simprocAttr,g1,g3,g4,hlen,hd,hr]);try rfl) ?_;simp(maxSteps:=2000000) only[Ty.w,simprocAttr,g1,g3,g4,hlen,hd,hr]
   repeat'(first|(refine a_regionS ?_;simp(maxSteps:=2000000) only[Ty.w,simprocAttr,g1,g3,g4,w7])|(refine hK _ _ ?_;clear hK;try simp only[pst0,simprocAttr]))
   exact⟨kids.length-(k+1),by omega,rfl,k+1,by simp,by omega,rfl,by rw[hsz]⟩
  ·have hd:decide ((k:Int)<(kids.length:Int))=false:=by simp;omega
   have hke:k=kids.length:=by omega
   subst hke
   rw[List.take_length]at g3
   repeat'(first|refine a_seq fun K hK=>?_|((first|refine a_regionS ?_|refine a_ret ?_);simp(maxSteps:=2000000) only[Ty.w,simprocAttr,g1,g3,g4,hlen,hd])|(refine a_exit ?_;try simp only[pst0,simprocAttr])|(refine a_cond _ (by(try simp(maxSteps:=2000000) only[Ty.w,simprocAttr,g1,g3,g4,hlen,hd]);rfl) (fun hb=>?_) (fun hb=>?_)<;>(try simp only[hb0,decide_eq_true_eq,decide_eq_false_iff_not,simprocAttr]at hb)<;>(try(exfalso;omega)))|((first|refine hK _ _ ?_|(clear hK;refine hK _ _ ?_));clear hK;try simp only[pst0,simprocAttr]))
theorem rsize_c: ∀ (f:Fm),f.ok→ ∀ h:Heap,PCall Tryz.prog 10 [.agg f.cells] h fun r h'=>r= .sc (.int .i64 f.size)∧h'=h:=by
 refine Fm.ind ?_
 intro op name args params exprs kids ih hok h
 simp only[Fm.ok]at hok
 obtain⟨_,_,_,_,⟨he,hes⟩,hk,hks⟩:=hok
 rw[Ex.oks_iff]at hes
 rw[Fm.oks_iff]at hks
 have hlen:=Fm.rows_len kids
 have hlene:=Ex.rows_len exprs
 simp only[Fm.cells,Fm.size]
 refine pcall_body (ow:=fun _=>false) (wf:=fun _=>false) Ty.mixed Tryz.func10 rfl Ty.hb_10 (by rw[Tryz.ntmps10];simp) ?_
 rw[Tryz.ntmps10,Tryz.results10]
 repeat'(first|refine a_seq fun K hK=>?_|(refine a_block ?_)|(refine a_regionS ?_;simp(maxSteps:=2000000) only[Ty.w,simprocAttr,hlen])|(refine hK _ _ ?_;clear hK;try simp only[pst0,simprocAttr]))
 refine a_loop (fun m S h'=>h'=h∧S 1= .cptr (Fm.mk op name args params exprs kids).cells∧ ∃ k:Nat,S 4= .sc (.int .i64 k)∧k≤exprs.length∧m=exprs.length-k∧S 3= .sc (.int .i64 (Ex.sizes 1 (exprs.take k)))) exprs.length ?_ ?_
 ·simp only[Ty.w,simprocAttr]
  exact⟨rfl,0,rfl,by omega,rfl,by simp[Ex.sizes]⟩
 ·rintro m S h' ⟨rfl,g1,k,g4,hkl,rfl,g3⟩
  simp only[Fm.cells]at g1
  by_cases hlt:k<exprs.length
  ·have hd:decide ((k:Int)<(exprs.length:Int))=true:=by simp;omega
   have w7:IntKind.i64.wrap ((k:Int)+1)=k+1:=by unfold bigN at he;rw[wrap64 (by omega) (by omega)]
   obtain⟨e,hx⟩: ∃ e,exprs[k]? =some e:=⟨_,List.getElem?_eq_getElem hlt⟩
   have hmem:=List.mem_of_getElem? hx
   have hc:=rsizeE_c e (hes e hmem)
   have hsz:=Ex.sizes_take 1 hx
   have hr:=Ex.rows_get hx
   obtain⟨op2,name2,n2,args2,kids2⟩:=e
   simp only[Ex.cells]at hr hc
   repeat'(first|refine a_seq fun K hK=>?_|(refine a_block ?_)|((first|refine a_regionS ?_|refine a_region (fun K hK=>?_));simp(maxSteps:=2000000) only[Ty.w,simprocAttr,g1,g3,g4,hlene,hd,hr,w7])|(refine a_skip ?_;try simp only[pst0,simprocAttr])|(refine a_cond _ (by(try simp(maxSteps:=2000000) only[Ty.w,simprocAttr,g1,g3,g4,hlene,hd,hr,w7]);rfl) (fun hb=>?_) (fun hb=>?_)<;>(try simp only[hb0,decide_eq_true_eq,decide_eq_false_iff_not,simprocAttr]at hb)<;>(try(exfalso;omega)))|(refine hK _ _ ?_;clear hK;try simp only[pst0,simprocAttr]))
   refine owp_useQ (hc _) (by(try simp only[Ty.w,simprocAttr,g1,g3,g4,hlene,hd,hr]);try rfl) ?_;simp(maxSteps:=2000000) only[Ty.w,simprocAttr,g1,g3,g4,hlene,hd,hr]
   repeat'(first|(refine a_regionS ?_;simp(maxSteps:=2000000) only[Ty.w,simprocAttr,g1,g3,g4,w7])|(refine hK _ _ ?_;clear hK;try simp only[pst0,simprocAttr]))
   exact⟨exprs.length-(k+1),by omega,by simp only[Fm.cells],k+1,by simp,by omega,rfl,by rw[hsz]⟩
  ·have hd:decide ((k:Int)<(exprs.length:Int))=false:=by simp;omega
   have hke:k=exprs.length:=by omega
   subst hke
   rw[List.take_length]at g3
   repeat'(first|refine a_seq fun K hK=>?_|(refine a_block ?_)|(refine a_regionS ?_;simp(maxSteps:=2000000) only[Ty.w,simprocAttr,g1,g3,g4,hlene,hd])|(refine a_exit ?_;try simp only[pst0,simprocAttr])|(refine a_cond _ (by(try simp(maxSteps:=2000000) only[Ty.w,simprocAttr,g1,g3,g4,hlene,hd]);rfl) (fun hb=>?_) (fun hb=>?_)<;>(try simp only[hb0,decide_eq_true_eq,decide_eq_false_iff_not,simprocAttr]at hb)<;>(try(exfalso;omega)))|((first|refine hK _ _ ?_|(clear hK;refine hK _ _ ?_));clear hK;try simp only[pst0,simprocAttr]))
   refine a_loop (fun m S h2=>h2=h'∧S 1= .cptr (Fm.mk op name args params exprs kids).cells∧ ∃ k:Nat,S 5= .sc (.int .i64 k)∧k≤kids.length∧m=kids.length-k∧S 3= .sc (.int .i64 (Fm.sizes (Ex.sizes 1 exprs) (kids.take k)))) kids.length ?_ ?_
   ·simp only[Ty.w,simprocAttr,g1,g3]
    exact⟨by simp only[Fm.cells],0,rfl,by omega,rfl,by simp[Fm.sizes]⟩
   ·clear g1 g3 g4
    rintro m S h' ⟨rfl,g1,k,g5,hkl,rfl,g3⟩
    simp only[Fm.cells]at g1
    by_cases hlt:k<kids.length
    ·have hd:decide ((k:Int)<(kids.length:Int))=true:=by simp;omega
     have w7:IntKind.i64.wrap ((k:Int)+1)=k+1:=by unfold bigN at hk;rw[wrap64 (by omega) (by omega)]
     obtain⟨e,hx⟩: ∃ e,kids[k]? =some e:=⟨_,List.getElem?_eq_getElem hlt⟩
     have hmem:=List.mem_of_getElem? hx
     have hc:=ih e hmem (hks e hmem)
     have hsz:=Fm.sizes_take (Ex.sizes 1 exprs) hx
     have hr:=Fm.rows_get hx
     obtain⟨op2,name2,args2,params2,exprs2,kids2⟩:=e
     simp only[Fm.cells]at hr hc
     repeat'(first|refine a_seq fun K hK=>?_|(refine a_block ?_)|((first|refine a_regionS ?_|refine a_region (fun K hK=>?_));simp(maxSteps:=2000000) only[Ty.w,simprocAttr,g1,g3,g5,hlen,hd,hr,w7])|(refine a_skip ?_;try simp only[pst0,simprocAttr])|(refine a_cond _ (by(try simp(maxSteps:=2000000) only[Ty.w,simprocAttr,g1,g3,g5,hlen,hd,hr,w7]);rfl) (fun hb=>?_) (fun hb=>?_)<;>(try simp only[hb0,decide_eq_true_eq,decide_eq_false_iff_not,simprocAttr]at hb)<;>(try(exfalso;omega)))|(refine hK _ _ ?_;clear hK;try simp only[pst0,simprocAttr]))
     refine owp_useQ (hc _) (by(try simp only[Ty.w,simprocAttr,g1,g3,g5,hlen,hd,hr]);try rfl) ?_;simp(maxSteps:=2000000) only[Ty.w,simprocAttr,g1,g3,g5,hlen,hd,hr]
     repeat'(first|(refine a_regionS ?_;simp(maxSteps:=2000000) only[Ty.w,simprocAttr,g1,g3,g5,w7])|(refine hK _ _ ?_;clear hK;try simp only[pst0,simprocAttr]))
     exact⟨kids.length-(k+1),by omega,by simp only[Fm.cells],k+1,by simp,by omega,rfl,by rw[hsz]⟩
    ·have hd:decide ((k:Int)<(kids.length:Int))=false:=by simp;omega
     have hke:k=kids.length:=by omega
     subst hke
     rw[List.take_length]at g3
     repeat'(first|refine a_seq fun K hK=>?_|((first|refine a_regionS ?_|refine a_ret ?_);simp(maxSteps:=2000000) only[Ty.w,simprocAttr,g1,g3,g5,hlen,hd])|(refine a_exit ?_;try simp only[pst0,simprocAttr])|(refine a_cond _ (by(try simp(maxSteps:=2000000) only[Ty.w,simprocAttr,g1,g3,g5,hlen,hd]);rfl) (fun hb=>?_) (fun hb=>?_)<;>(try simp only[hb0,decide_eq_true_eq,decide_eq_false_iff_not,simprocAttr]at hb)<;>(try(exfalso;omega)))|((first|refine hK _ _ ?_|(clear hK;refine hK _ _ ?_));clear hK;try simp only[pst0,simprocAttr]))
theorem large_c{f:Fm}(hf:f.ok)(h:Heap):PCall Tryz.prog 4 [.agg f.cells] h fun r h'=>r= .sc (.bool (decide (f.size>5000)))∧h'=h:=by
 have hc:=rsize_c f hf
 obtain⟨op,name,args,params,exprs,kids⟩:=f
 simp only[Fm.cells]at hc⊢
 refine pcall_body (ow:=fun _=>false) (wf:=fun _=>false) Ty.mixed Tryz.func4 rfl Ty.hb_4 (by rw[Tryz.ntmps4];simp) ?_
 rw[Tryz.ntmps4,Tryz.results4]
 repeat'(first|refine a_seq fun K hK=>?_|(refine a_regionS ?_;simp(maxSteps:=2000000) only[Ty.w,simprocAttr])|(refine hK _ _ ?_;clear hK;try simp only[pst0,simprocAttr]))
 refine owp_useQ (hc _) (by(try simp only[Ty.w,simprocAttr,]);try rfl) ?_;simp(maxSteps:=2000000) only[Ty.w,simprocAttr,]
 repeat'(first|(refine a_ret ?_;simp(maxSteps:=2000000) only[Ty.w,simprocAttr])|(refine hK _ _ ?_;clear hK;try simp only[pst0,simprocAttr]))
end Go.Proofs.YtjlkapgpjamnkaaGreat
namespace Go.Proofs.YtjlkapgpjamnkaaGreat
open Go.AM
set_option maxHeartbeats 4000000
set_option maxRecDepth 20000
theorem texts_c{A B:List ByteArray}{p q:PV}{h:Heap}(hp:Sl h 1 p (strRows A))(hq:Sl h 1 q (strRows B))(hA:A.length≤1099511627776)(hB:B.length≤1099511627776):
  PCall Tryz.prog 8 [p,q] h fun r h'=>r= .sc (.bool (bsEq A B))∧h'=h:=by
 refine pcall_wf Ty.hb_8 fun hwf=>?_
 have hlA: ∀ H,lenP H p=some A.length:=fun H=>by rw[lenP_sl hp H,strRows_len]
 have hlB: ∀ H,lenP H q=some B.length:=fun H=>by rw[lenP_sl hq H,strRows_len]
 have hkA:=hp.lk
 have hkB:=hq.lk
 by_cases hl:A.length=B.length
 rotate_left
 ·have e1:((A.length:Int)==(B.length:Int))=false:=by simpa using (by omega:¬ (A.length:Int)=B.length)
  have e2:((A.length:Int)=(B.length:Int))=False:=by simp;omega
  have hf:bsEq A B=false:=by
   cases hb:bsEq A B with
   |false=>rfl
   |true=>
    exfalso
    have: ∀ (l m:List ByteArray),bsEq l m=true→l.length=m.length:=by
     intro l
     induction l with
     |nil=>intro m hm;cases m with
      |nil=>rfl
      |cons a m=>simp[bsEq]at hm
     |cons a l ih=>intro m hm;cases m with
      |nil=>simp[bsEq]at hm
      |cons b m=>simp only[bsEq,Bool.and_eq_true]at hm;simp only[List.length_cons,ih m hm.2]
    exact hl (this A B hb)
  rw[hf]
  refine pcall_body (ow:=fun _=>false) (wf:=fun _=>false) Ty.mixed Tryz.func8 rfl Ty.hb_8 (by rw[Tryz.ntmps8];simp) ?_
  rw[Tryz.ntmps8,Tryz.results8]
  repeat'(first|refine a_seq fun K hK=>?_|((first|refine a_regionS ?_|refine a_ret ?_);simp(maxSteps:=2000000) only[Ty.w,simprocAttr,hlA,hlB,hkA,hkB,e1,e2,bne,Bool.not_false])|(refine hK _ _ ?_;clear hK;try simp only[pst0,simprocAttr]))
 ·have e1:((A.length:Int)==(B.length:Int))=true:=by simpa using (by omega:(A.length:Int)=B.length)
  have e2:((A.length:Int)=(B.length:Int))=True:=by simp;omega
  generalize hR:bsEq A B=R
  refine pcall_body (ow:=fun _=>false) (wf:=fun _=>false) Ty.mixed Tryz.func8 rfl Ty.hb_8 (by rw[Tryz.ntmps8];simp) ?_
  rw[Tryz.ntmps8,Tryz.results8]
  repeat'(first|refine a_seq fun K hK=>?_|(refine a_block ?_)|(refine a_regionS ?_;simp(maxSteps:=2000000) only[Ty.w,simprocAttr,hlA,hlB,hkA,hkB,e1,e2,bne,Bool.not_true])|(refine a_skip ?_;try simp only[pst0,simprocAttr])|(refine a_cond _ (by(try simp(maxSteps:=2000000) only[Ty.w,simprocAttr,hlA,hlB,hkA,hkB,e1,e2,bne,Bool.not_true]);rfl) (fun hb=>?_) (fun hb=>?_)<;>(try simp only[hb0,decide_eq_true_eq,decide_eq_false_iff_not,simprocAttr]at hb)<;>(try(exfalso;omega)))|(refine hK _ _ ?_;clear hK;try simp only[pst0,simprocAttr]))
  refine a_loop (fun c S h'=>S 0=p∧S 1=q∧S 12= .sc (.int .i64 A.length)∧ ∃ k:Nat,S 13= .sc (.int .i64 k)∧k≤A.length∧c=A.length-k∧h'=h∧R=bsEq (A.drop k) (B.drop k)) A.length ?_ ?_
  ·simp only[Ty.w,simprocAttr]
   exact⟨0,rfl,by omega,rfl,by rw[List.drop_zero,List.drop_zero];exact hR.symm⟩
  ·rintro c S h' ⟨g0,g1,g12,k,g13,hk,rfl,rfl,hinv⟩
   by_cases hlt:k<A.length
   ·have hd:decide ((k:Int)<(A.length:Int))=true:=by simp;omega
    have w7:IntKind.i64.wrap ((k:Int)+1)=k+1:=by rw[wrap64 (by omega) (by omega)]
    obtain⟨s,hx⟩: ∃ s,A[k]? =some s:=⟨_,List.getElem?_eq_getElem hlt⟩
    obtain⟨t,hy⟩: ∃ t,B[k]? =some t:=⟨_,List.getElem?_eq_getElem (by omega)⟩
    rw[drop_get hx,drop_get hy]at hinv
    simp only[bsEq]at hinv
    obtain⟨px,hpx,hrx⟩:=hp.get _ _ (strRows_get hx)
    obtain⟨py,hpy,hry⟩:=hq.get _ _ (strRows_get hy)
    cases q1:(s.data.toList==t.data.toList)with
    |true=>
     rw[show bEq s t=true from q1,Bool.true_and]at hinv
     repeat'(first|refine a_seq fun K hK=>?_|(refine a_block ?_)|((first|refine a_regionS ?_|refine a_drawS (by decide+kernel) ?_);simp(maxSteps:=2000000) only[Ty.w,simprocAttr,g0,g1,g12,g13,hd,hpx,hrx,hpy,hry,q1,w7,Bool.not_true])|(refine a_skip ?_;try simp only[pst0,simprocAttr])|(refine a_cond _ (by(try simp(maxSteps:=2000000) only[Ty.w,simprocAttr,g0,g1,g12,g13,hd,hpx,hrx,hpy,hry,q1,w7,Bool.not_true]);rfl) (fun hb=>?_) (fun hb=>?_)<;>(try simp only[hb0,decide_eq_true_eq,decide_eq_false_iff_not,simprocAttr]at hb)<;>(try(exfalso;omega)))|(refine hK _ _ ?_;clear hK;try simp only[pst0,simprocAttr]))
     exact⟨A.length-(k+1),by omega,k+1,by simp,by omega,rfl,hinv⟩
    |false=>
     rw[show bEq s t=false from q1,Bool.false_and]at hinv
     subst hinv
     repeat'(first|refine a_seq fun K hK=>?_|((first|refine a_regionS ?_|refine a_drawS (by decide+kernel) ?_|refine a_ret ?_);simp(maxSteps:=2000000) only[Ty.w,simprocAttr,g0,g1,g12,g13,hd,hpx,hrx,hpy,hry,q1,Bool.not_false])|(refine a_skip ?_;try simp only[pst0,simprocAttr])|(refine a_cond _ (by(try simp(maxSteps:=2000000) only[Ty.w,simprocAttr,g0,g1,g12,g13,hd,hpx,hrx,hpy,hry,q1,Bool.not_false]);rfl) (fun hb=>?_) (fun hb=>?_)<;>(try simp only[hb0,decide_eq_true_eq,decide_eq_false_iff_not,simprocAttr]at hb)<;>(try(exfalso;omega)))|(refine hK _ _ ?_;clear hK;try simp only[pst0,simprocAttr]))
   ·have hd:decide ((k:Int)<(A.length:Int))=false:=by simp;omega
    rw[List.drop_eq_nil_of_le (by omega),List.drop_eq_nil_of_le (by omega)]at hinv
    simp only[bsEq]at hinv
    subst hinv
    repeat'(first|refine a_seq fun K hK=>?_|((first|refine a_regionS ?_|refine a_ret ?_);simp(maxSteps:=2000000) only[Ty.w,simprocAttr,g0,g1,g12,g13,hd])|(refine a_exit ?_;try simp only[pst0,simprocAttr])|(refine a_cond _ (by(try simp(maxSteps:=2000000) only[Ty.w,simprocAttr,g0,g1,g12,g13,hd]);rfl) (fun hb=>?_) (fun hb=>?_)<;>(try simp only[hb0,decide_eq_true_eq,decide_eq_false_iff_not,simprocAttr]at hb)<;>(try(exfalso;omega)))|((first|refine hK _ _ ?_|(clear hK;refine hK _ _ ?_));clear hK;try simp only[pst0,simprocAttr]))
def freeS(f:Fm):List ByteArray:=(freeL f).map keyS
theorem bsEq_self: ∀ l:List ByteArray,bsEq l l=true
 |[]=>rfl
 |a::l=>by simp[bsEq,bEq,bsEq_self l]
end Go.Proofs.YtjlkapgpjamnkaaGreat
namespace Go.Proofs.YtjlkapgpjamnkaaGreat
open Go.AM
set_option maxHeartbeats 4000000
set_option maxRecDepth 20000
theorem bl_eq: ∀ x y:List UInt8,Op.bytesLess x y=decide (x<y)
 |[],[]=>by simp[Op.bytesLess]
 |_::_,[]=>by simp[Op.bytesLess]
 |[],_::_=>by simp[Op.bytesLess]
 |a::x,b::y=>by
  have ih:=bl_eq x y
  unfold Op.bytesLess
  rw[ih]
  by_cases h1:a<b
  ·simp [h1,List.cons_lt_cons_iff]
  ·by_cases h2:a=b
   ·subst h2
    simp
   ·simp [h1,h2,List.cons_lt_cons_iff]
def kRows(l:List (List UInt8)):List (List PV):=strRows (l.map keyS)
theorem kRows_len(l:List (List UInt8)):(kRows l).length=l.length:=by simp[kRows,strRows]
theorem kRows_get{l:List (List UInt8)}{i:Nat}{a:List UInt8}(h:l[i]? =some a):(kRows l)[i]? =some [sPV (keyS a)]:=strRows_get (by simp[h])
theorem kRows_app(l:List (List UInt8))(a:List UInt8):kRows (l++[a])=kRows l++[[sPV (keyS a)]]:=by simp[kRows,strRows]
theorem keyS_list(a:List UInt8):(keyS a).data.toList=a:=by simp[keyS]
theorem addR_len(s:List UInt8): ∀ l:List (List UInt8),(addR l s).length≤l.length+1
 |[]=>by simp[addR]
 |a::l=>by
  have:=addR_len s l
  unfold addR
  split
  ·simp
  ·split
   ·simp
   ·simp only[List.length_cons];omega
theorem radd_c{l:List (List UInt8)}{s:ByteArray}(hasc:l.Pairwise (·<·))(hl:l.length≤1099511627776)(h:Heap):
  PCall Tryz.prog 24 [.imm 1 (kRows l),sPV s] h fun r h'=>r= .imm 1 (kRows (addR l (key s)))∧h'=h:=by
 refine PCall.frz Ty.hb_24 ?_
 have hlL:=kRows_len l
 have ks:key s=s.data.toList:=rfl
 generalize hR:addR l (key s)=R
 refine pcall_body (ow:=fun _=>false) (wf:=fun _=>false) Ty.mixed Tryz.func24 rfl Ty.hb_24 (by rw[Tryz.ntmps24];simp) ?_
 rw[Tryz.ntmps24,Tryz.results24]
 repeat'(first|refine a_seq fun K hK=>?_|(refine a_block ?_)|(refine a_regionS ?_;simp(maxSteps:=2000000) only[Ty.w,simprocAttr])|(refine hK _ _ ?_;clear hK;try simp only[pst0,simprocAttr]))
 refine a_loop (fun m S h'=>S 0= .imm 1 (kRows l)∧S 1=sPV s∧ ∃ (k:Nat)(o:PV)(put:Bool)(X:List (List UInt8)),S 7= .sc (.int .i64 k)∧S 5=o∧S 6= .sc (.bool put)∧k≤l.length∧m=l.length-k∧Grow h h'∧Tl h' h.next 1 o (kRows X)∧X.length≤k+1∧
  (put=false→X=l.take k∧(∀ a∈l.take k,a<key s)∧R=l.take k++addR (l.drop k) (key s))∧(put=true→R=X++l.drop k∧ ∀ a∈l.drop k,¬ a=key s)) l.length ?_ ?_
 ·simp only[Ty.w,simprocAttr]
  exact⟨0,_,false,[],rfl,rfl,rfl,by omega,rfl,Grow.refl _,Tl.nil,by simp,fun _=>⟨by simp,by simp,by simp[hR]⟩,fun h=>by cases h⟩
 ·rintro m S h' ⟨g0,g1,k,o,put,X,g7,rfl,g6,hk,rfl,hg,tl,hX,hF,hT⟩
  by_cases hlt:k<l.length
  ·have hd:decide ((k:Int)<(l.length:Int))=true:=by simp;omega
   have w7:IntKind.i64.wrap ((k:Int)+1)=k+1:=by rw[wrap64 (by omega) (by omega)]
   obtain⟨a,hx⟩: ∃ a,l[k]? =some a:=⟨_,List.getElem?_eq_getElem hlt⟩
   have hr:=kRows_get hx
   have hdr:=drop_get hx
   have htk:l.take (k+1)=l.take k++[a]:=by rw[List.take_add_one,hx];try rfl
   have hlate: ∀ b∈l.drop (k+1),a<b:=by
    have:(l.drop k).Pairwise (·<·):=hasc.sublist (List.drop_sublist _ _)
    rw[hdr,List.pairwise_cons]at this
    exact this.1
   have ka:(keyS a).data.toList=a:=keyS_list a
   have hlen:(kRows X).length=X.length:=kRows_len X
   obtain⟨H,t1,t2,t3,t4,t5⟩:=tl.tail
   have hkp:=t5 h ⟨hg.le,hg.old⟩ (Nat.le_refl _)
   have hgH:Grow h H:=⟨hkp.1,hkp.2⟩
   have hbb:(X.length+1)*16≤140737488355328:=by omega
   have fin:Tl (H.new (.arr 1 (kRows X++[[sPV (keyS a)]]))) h.next 1 (.own h'.next 0 (X.length+1)) (kRows (X++[a])):=by
    rw[kRows_app, ← t3]
    exact Tl.grow hkp.1 (by simp[hlen])
   cases put with
   |true=>
    obtain⟨hRX,hne⟩:=hT rfl
    rw[hdr]at hRX hne
    have q1:(a==s.data.toList)=false:=by
     have:=hne a (List.mem_cons_self ..)
     simpa using this
    repeat'(first|refine a_seq fun K hK=>?_|((first|refine a_regionS ?_|refine a_region (fun K hK=>?_));simp(maxSteps:=2000000) only[Ty.w,simprocAttr,g0,g1,g6,g7,hlL,hd,hr,ka,q1,Bool.not_true])|(refine a_skip ?_;try simp only[pst0,simprocAttr])|(refine a_cond _ (by(try simp(maxSteps:=2000000) only[Ty.w,simprocAttr,g0,g1,g6,g7,hlL,hd,hr,ka,q1,Bool.not_true]);rfl) (fun hb=>?_) (fun hb=>?_)<;>(try simp only[hb0,decide_eq_true_eq,decide_eq_false_iff_not,simprocAttr]at hb)<;>(try(exfalso;omega)))|(refine hK _ _ ?_;clear hK;try simp only[pst0,simprocAttr]))
    repeat'(first|(refine a_regionS ?_;simp(maxSteps:=2000000) only[Ty.w,simprocAttr,g0,g1,g7,hr,t1,t2,hlen,hbb,w7])|(refine hK _ _ ?_;clear hK;try simp only[pst0,simprocAttr])|(rw[if_pos];rotate_left 1;omega;simp(maxSteps:=2000000) only[Ty.w,simprocAttr,g0,g1,g7,hr,t1,t2,hlen,hbb,w7]))
    refine⟨l.length-(k+1),by omega,k+1,_,true,X++[a],by simp,rfl,g6,by omega,rfl,hgH.new _,fin,by simp;omega,fun h=>(by cases h),fun _=>⟨?_,fun b hb=>hne b (List.mem_cons_of_mem _ hb)⟩⟩
    rw[hRX];simp
   |false=>
    obtain⟨hXk,hlo,hRX⟩:=hF rfl
    rw[hdr]at hRX
    by_cases e1:a=key s
    ·have q1:(a==s.data.toList)=true:=by rw[e1];exact beq_self_eq_true _
     have hRl:R=l:=by
      rw[hRX,addR,if_pos e1]
      conv=>rhs;rw[← List.take_append_drop k l,hdr]
     subst hRl
     repeat'(first|refine a_seq fun K hK=>?_|((first|refine a_regionS ?_|refine a_ret ?_);simp(maxSteps:=2000000) only[Ty.w,simprocAttr,g0,g1,g6,g7,hlL,hd,hr,ka,q1])|(refine a_skip ?_;try simp only[pst0,simprocAttr])|(refine a_cond _ (by(try simp(maxSteps:=2000000) only[Ty.w,simprocAttr,g0,g1,g6,g7,hlL,hd,hr,ka,q1]);rfl) (fun hb=>?_) (fun hb=>?_)<;>(try simp only[hb0,decide_eq_true_eq,decide_eq_false_iff_not,simprocAttr]at hb)<;>(try(exfalso;omega)))|(refine hK _ _ ?_;clear hK;try simp only[pst0,simprocAttr]))
     refine⟨?_,hg⟩
     unfold FrzTo
     exact .inl ⟨rfl,strs_in _ _⟩
    ·have q1:(a==s.data.toList)=false:=by simpa using e1
     by_cases e2:key s<a
     ·have q2:Op.bytesLess a s.data.toList=false:=by
       rw[bl_eq]
       exact decide_eq_false fun h=>List.lt_irrefl _ (List.lt_trans h e2)
      rw[addR,if_neg e1,if_pos e2]at hRX
      have fin1:Tl (H.new (.arr 1 (kRows X++[[sPV s]]))) h.next 1 (.own h'.next 0 (X.length+1)) (kRows (X++[key s])):=by
       rw[kRows_app,keyS_key, ← t3]
       exact Tl.grow hkp.1 (by simp[hlen])
      obtain⟨H2,u1,u2,u3,u4,u5⟩:=fin1.tail
      have hkp2:=u5 h ⟨(hgH.new _).le,(hgH.new _).old⟩ (Nat.le_refl _)
      have hgH2:Grow h H2:=⟨hkp2.1,hkp2.2⟩
      have hlen2:(kRows (X++[key s])).length=X.length+1:=by rw[kRows_len];simp
      have hbb2:(X.length+1+1)*16≤140737488355328:=by omega
      have fin2:Tl (H2.new (.arr 1 (kRows (X++[key s])++[[sPV (keyS a)]]))) h.next 1 (.own (H.new (.arr 1 (kRows X++[[sPV s]]))).next 0 (X.length+1+1)) (kRows ((X++[key s])++[a])):=by
       rw[kRows_app (X++[key s]), ← u3]
       exact Tl.grow hkp2.1 (by simp[hlen2])
      repeat'(first|refine a_seq fun K hK=>?_|(refine a_regionS ?_;simp(maxSteps:=2000000) only[Ty.w,simprocAttr,g0,g1,g6,g7,hlL,hd,hr,ka,q1,q2,Bool.not_false,Bool.or_false])|(refine a_skip ?_;try simp only[pst0,simprocAttr])|(refine a_cond _ (by(try simp(maxSteps:=2000000) only[Ty.w,simprocAttr,g0,g1,g6,g7,hlL,hd,hr,ka,q1,q2,Bool.not_false,Bool.or_false]);rfl) (fun hb=>?_) (fun hb=>?_)<;>(try simp only[hb0,decide_eq_true_eq,decide_eq_false_iff_not,simprocAttr]at hb)<;>(try(exfalso;omega)))|(refine hK _ _ ?_;clear hK;try simp only[pst0,simprocAttr]))
      have n3:(h'.next=H.next)=True:=by simp[t3]
      repeat'(first|((first|refine a_regionS ?_|refine a_region (fun K hK=>?_));simp(maxSteps:=2000000) only[Ty.w,simprocAttr,g0,g1,g7,hr,t1,t2,hlen,hbb,u1,u2,hlen2,hbb2,w7,n3])|(refine hK _ _ ?_;clear hK;try simp only[pst0,simprocAttr])|(rw[if_pos];rotate_left 1;omega;simp(maxSteps:=2000000) only[Ty.w,simprocAttr,g0,g1,g7,hr,t1,t2,hlen,hbb,u1,u2,hlen2,hbb2,w7,n3]))
      have hXk2:X.length≤k:=by rw[hXk];simp;omega
      refine⟨l.length-(k+1),by omega,k+1,_,true,(X++[key s])++[a],by simp,rfl,rfl,by omega,rfl,hgH2.new _,fin2,by simp;omega,fun h=>(by cases h),fun _=>⟨?_,fun b hb e=>?_⟩⟩
      ·rw [hRX,hXk];simp
      ·subst e
       exact List.lt_irrefl _ (List.lt_trans e2 (hlate _ hb))
     ·have e3:a<key s:=by
       rcases List.le_iff_lt_or_eq.1 (List.not_lt.1 e2)with h|h
       ·exact h
       ·exact absurd h e1
      have q2:Op.bytesLess a s.data.toList=true:=by
       rw[bl_eq]
       exact decide_eq_true e3
      rw[addR,if_neg e1,if_neg e2]at hRX
      repeat'(first|refine a_seq fun K hK=>?_|((first|refine a_regionS ?_|refine a_region (fun K hK=>?_));simp(maxSteps:=2000000) only[Ty.w,simprocAttr,g0,g1,g6,g7,hlL,hd,hr,ka,q1,q2,Bool.not_false,Bool.not_true,Bool.true_or])|(refine a_skip ?_;try simp only[pst0,simprocAttr])|(refine a_cond _ (by(try simp(maxSteps:=2000000) only[Ty.w,simprocAttr,g0,g1,g6,g7,hlL,hd,hr,ka,q1,q2,Bool.not_false,Bool.not_true,Bool.true_or]);rfl) (fun hb=>?_) (fun hb=>?_)<;>(try simp only[hb0,decide_eq_true_eq,decide_eq_false_iff_not,simprocAttr]at hb)<;>(try(exfalso;omega)))|(refine hK _ _ ?_;clear hK;try simp only[pst0,simprocAttr]))
      repeat'(first|(refine a_regionS ?_;simp(maxSteps:=2000000) only[Ty.w,simprocAttr,g0,g1,g7,hr,t1,t2,hlen,hbb,w7])|(refine hK _ _ ?_;clear hK;try simp only[pst0,simprocAttr])|(rw[if_pos];rotate_left 1;omega;simp(maxSteps:=2000000) only[Ty.w,simprocAttr,g0,g1,g7,hr,t1,t2,hlen,hbb,w7]))
      refine⟨l.length-(k+1),by omega,k+1,_,false,X++[a],by simp,rfl,g6,by omega,rfl,hgH.new _,fin,by simp;omega,fun _=>⟨by rw[htk,hXk],fun b hb=>?_,by rw[hRX,htk];simp⟩,fun h=>by cases h⟩
      rw[htk]at hb
      rcases List.mem_append.1 hb with hb|hb
      ·exact hlo b hb
      ·simp only[List.mem_singleton]at hb;subst hb;exact e3
  ·have hd:decide ((k:Int)<(l.length:Int))=false:=by simp;omega
   have e0:l.drop k=[]:=List.drop_eq_nil_of_le (by omega)
   cases put with
   |true=>
    obtain⟨hRX,_⟩:=hT rfl
    rw[e0,List.append_nil]at hRX
    subst hRX
    repeat'(first|refine a_seq fun K hK=>?_|((first|refine a_regionS ?_|refine a_ret ?_);simp(maxSteps:=2000000) only[Ty.w,simprocAttr,g0,g1,g6,g7,hlL,hd,Bool.not_true])|((first|refine a_skip ?_|refine a_exit ?_);try simp only[pst0,simprocAttr])|(refine a_cond _ (by(try simp(maxSteps:=2000000) only[Ty.w,simprocAttr,g0,g1,g6,g7,hlL,hd,Bool.not_true]);rfl) (fun hb=>?_) (fun hb=>?_)<;>(try simp only[hb0,decide_eq_true_eq,decide_eq_false_iff_not,simprocAttr]at hb)<;>(try(exfalso;omega)))|((first|refine hK _ _ ?_|(clear hK;refine hK _ _ ?_));clear hK;try simp only[pst0,simprocAttr]))
    exact⟨tl_frzS tl,hg⟩
   |false=>
    obtain⟨hXk,_,hRX⟩:=hF rfl
    rw[e0]at hRX
    have hlen:(kRows X).length=X.length:=kRows_len X
    obtain⟨H,t1,t2,t3,t4,t5⟩:=tl.tail
    have hkp:=t5 h ⟨hg.le,hg.old⟩ (Nat.le_refl _)
    have hgH:Grow h H:=⟨hkp.1,hkp.2⟩
    have hbb:(X.length+1)*16≤140737488355328:=by omega
    have fin:Tl (H.new (.arr 1 (kRows X++[[sPV s]]))) h.next 1 (.own h'.next 0 (X.length+1)) (kRows (X++[key s])):=by
     rw[kRows_app,keyS_key, ← t3]
     exact Tl.grow hkp.1 (by simp[hlen])
    have hRf:R=X++[key s]:=by rw[hRX,hXk];try rfl
    subst hRf
    repeat'(first|refine a_seq fun K hK=>?_|(refine a_regionS ?_;simp(maxSteps:=2000000) only[Ty.w,simprocAttr,g0,g1,g6,g7,hlL,hd,Bool.not_false])|(refine a_exit ?_;try simp only[pst0,simprocAttr])|(refine a_cond _ (by(try simp(maxSteps:=2000000) only[Ty.w,simprocAttr,g0,g1,g6,g7,hlL,hd,Bool.not_false]);rfl) (fun hb=>?_) (fun hb=>?_)<;>(try simp only[hb0,decide_eq_true_eq,decide_eq_false_iff_not,simprocAttr]at hb)<;>(try(exfalso;omega)))|((first|refine hK _ _ ?_|(clear hK;refine hK _ _ ?_));clear hK;try simp only[pst0,simprocAttr]))
    repeat'(first|refine a_seq fun K hK=>?_|((first|refine a_regionS ?_|refine a_ret ?_);simp(maxSteps:=2000000) only[Ty.w,simprocAttr,g0,g1,g7,t1,t2,hlen,hbb])|(refine hK _ _ ?_;clear hK;try simp only[pst0,simprocAttr])|(rw[if_pos];rotate_left 1;omega;simp(maxSteps:=2000000) only[Ty.w,simprocAttr,g0,g1,g7,t1,t2,hlen,hbb]))
    exact⟨tl_frzS fin,hgH.new _⟩
end Go.Proofs.YtjlkapgpjamnkaaGreat
namespace Go.Proofs.YtjlkapgpjamnkaaGreat
open Go.AM
set_option maxHeartbeats 4000000
set_option maxRecDepth 20000
theorem varsR_len: ∀ (l:List ByteArray)(out:List (List UInt8)),(varsR out l).length≤out.length+l.length
 |[],out=>by simp[varsR]
 |s::l,out=>by
  simp only[varsR]
  split
  ·have h1:=varsR_len l (addR out (key s))
   have h2:=addR_len (key s) out
   simp only[List.length_cons];omega
  ·have h1:=varsR_len l out
   simp only[List.length_cons];omega
mutual
theorem freeExR_len: ∀ (e:Ex)(out:List (List UInt8)),(freeExR out e).length≤out.length+PV.bulkL e.cells
 | .mk op name n args kids,out=>by
  have h1:=varsR_len args out
  have h2:=freeExsR_len kids (varsR out args)
  have h3:=bulkR_strs args
  simp only[freeExR,Ex.cells,PV.bulkL,PV.bulk]
  omega
theorem freeExsR_len: ∀ (l:List Ex)(out:List (List UInt8)),(freeExsR out l).length≤out.length+PV.bulkR (Ex.rows l)
 |[],out=>by simp[freeExsR]
 |k::l,out=>by
  have h1:=freeExR_len k out
  have h2:=freeExsR_len l (freeExR out k)
  simp only[freeExsR,Ex.rows,PV.bulkR]
  omega
end
theorem putR_len(params:List Pm): ∀ (l out:List (List UInt8)),(putR params out l).length≤out.length+l.length
 |[],out=>by simp[putR]
 |s::l,out=>by
  simp only[putR]
  split
  ·have:=putR_len params l out
   simp only[List.length_cons];omega
  ·have h1:=putR_len params l (addR out s)
   have h2:=addR_len s out
   simp only[List.length_cons];omega
mutual
theorem freeR_len: ∀ f:Fm,(freeR f).length≤PV.bulkL f.cells
 | .mk op name args params exprs kids=>by
  have h1:=varsR_len args []
  have h2:=freeExsR_len exprs (varsR [] args)
  have h3:=freesR_len params kids (freeExsR (varsR [] args) exprs)
  have h4:=bulkR_strs args
  simp only[freeR,Fm.cells,PV.bulkL,PV.bulk]
  simp only[List.length_nil]at h1
  omega
theorem freesR_len(params:List Pm): ∀ (l:List Fm)(out:List (List UInt8)),(freesR params out l).length≤out.length+PV.bulkR (Fm.rows l)
 |[],out=>by simp[freesR]
 |k::l,out=>by
  have h1:=freeR_len k
  have h2:=putR_len params (freeR k) out
  have h3:=freesR_len params l (putR params out (freeR k))
  simp only[freesR,Fm.rows,PV.bulkR]
  omega
end
theorem bulkR_takeE1{l:List Ex}{k:Nat}{e:Ex}(h:l[k]? =some e):PV.bulkR (Ex.rows (l.take (k+1)))=PV.bulkR (Ex.rows (l.take k))+PV.bulkL e.cells:=by
 induction l generalizing k with
 |nil=>simp at h
 |cons a l ih=>
  cases k with
  |zero=>simp at h;subst h;simp[Ex.rows,PV.bulkR]
  |succ k=>
   simp only[List.getElem?_cons_succ]at h
   simp only[List.take_succ_cons,Ex.rows,PV.bulkR,ih h]
   omega
theorem bulkR_takeE{l:List Ex}{k:Nat}{e:Ex}(h:l[k]? =some e):PV.bulkR (Ex.rows (l.take k))+PV.bulkL e.cells≤PV.bulkR (Ex.rows l):=by
 induction l generalizing k with
 |nil=>simp at h
 |cons a l ih=>
  cases k with
  |zero=>simp at h;subst h;simp[Ex.rows,PV.bulkR]
  |succ k=>
   simp only[List.getElem?_cons_succ]at h
   have:=ih h
   simp only[List.take_succ_cons,Ex.rows,PV.bulkR]
   omega
theorem bulkR_takeF1{l:List Fm}{k:Nat}{e:Fm}(h:l[k]? =some e):PV.bulkR (Fm.rows (l.take (k+1)))=PV.bulkR (Fm.rows (l.take k))+PV.bulkL e.cells:=by
 induction l generalizing k with
 |nil=>simp at h
 |cons a l ih=>
  cases k with
  |zero=>simp at h;subst h;simp[Fm.rows,PV.bulkR]
  |succ k=>
   simp only[List.getElem?_cons_succ]at h
   simp only[List.take_succ_cons,Fm.rows,PV.bulkR,ih h]
   omega
theorem bulkR_takeF{l:List Fm}{k:Nat}{e:Fm}(h:l[k]? =some e):PV.bulkR (Fm.rows (l.take k))+PV.bulkL e.cells≤PV.bulkR (Fm.rows l):=by
 induction l generalizing k with
 |nil=>simp at h
 |cons a l ih=>
  cases k with
  |zero=>simp at h;subst h;simp[Fm.rows,PV.bulkR]
  |succ k=>
   simp only[List.getElem?_cons_succ]at h
   have:=ih h
   simp only[List.take_succ_cons,Fm.rows,PV.bulkR]
   omega
theorem rvars_c{out:List (List UInt8)}{l:List ByteArray}(hasc:out.Pairwise (·<·))(hl:out.length+l.length≤1099511627776)(h:Heap):
  PCall Tryz.prog 21 [.imm 1 (kRows out),.imm 1 (strRows l)] h fun r h'=>r= .imm 1 (kRows (varsR out l))∧h'=h:=by
 have hlL:=strRows_len l
 generalize hR:varsR out l=R
 refine pcall_body (ow:=fun _=>false) (wf:=fun _=>false) Ty.mixed Tryz.func21 rfl Ty.hb_21 (by rw[Tryz.ntmps21];simp) ?_
 rw[Tryz.ntmps21,Tryz.results21]
 repeat'(first|refine a_seq fun K hK=>?_|(refine a_block ?_)|(refine a_regionS ?_;simp(maxSteps:=2000000) only[Ty.w,simprocAttr])|(refine hK _ _ ?_;clear hK;try simp only[pst0,simprocAttr]))
 refine a_loop (fun m S h'=>S 1= .imm 1 (strRows l)∧h'=h∧ ∃ (k:Nat)(X:List (List UInt8)),S 5= .sc (.int .i64 k)∧S 0= .imm 1 (kRows X)∧k≤l.length∧m=l.length-k∧X.Pairwise (·<·)∧X.length≤out.length+k∧R=varsR X (l.drop k)) l.length ?_ ?_
 ·simp only[Ty.w,simprocAttr]
  exact⟨0,out,rfl,rfl,by omega,rfl,hasc,by omega,by rw[List.drop_zero];exact hR.symm⟩
 ·rintro m S h' ⟨g1,rfl,k,X,g5,g0,hk,rfl,hX,hXl,hRX⟩
  by_cases hlt:k<l.length
  ·have hd:decide ((k:Int)<(l.length:Int))=true:=by simp;omega
   have w7:IntKind.i64.wrap ((k:Int)+1)=k+1:=by rw[wrap64 (by omega) (by omega)]
   obtain⟨s,hx⟩: ∃ s,l[k]? =some s:=⟨_,List.getElem?_eq_getElem hlt⟩
   have hr:=strRows_get hx
   rw[drop_get hx]at hRX
   simp only[varsR]at hRX
   cases hs:s.data.toList with
   |nil=>
    have q1:(s.data.toList==(#[]:Array UInt8).toList)=true:=by rw[hs];try rfl
    rw[show qB s=false by unfold qB;rw[hs]]at hRX
    simp only[Bool.false_eq_true,if_false]at hRX
    repeat'(first|refine a_seq fun K hK=>?_|(refine a_block ?_)|(refine a_regionS ?_;simp(maxSteps:=2000000) only[Ty.w,simprocAttr,g0,g1,g5,hlL,hd,hr,q1,Bool.not_true,w7])|(refine a_skip ?_;try simp only[pst0,simprocAttr])|(refine a_cond _ (by(try simp(maxSteps:=2000000) only[Ty.w,simprocAttr,g0,g1,g5,hlL,hd,hr,q1,Bool.not_true,w7]);rfl) (fun hb=>?_) (fun hb=>?_)<;>(try simp only[hb0,decide_eq_true_eq,decide_eq_false_iff_not,simprocAttr]at hb)<;>(try(exfalso;omega)))|(refine hK _ _ ?_;clear hK;try simp only[pst0,simprocAttr]))
    exact⟨l.length-(k+1),by omega,k+1,X,by simp,rfl,by omega,rfl,hX,by omega,hRX⟩
   |cons c t=>
    have q1:(s.data.toList==(#[]:Array UInt8).toList)=false:=by rw[hs];try rfl
    have hc0:s[0]? =some c:=by rw[ba_get,hs];try rfl
    by_cases e:c.toNat=63
    ·have q2:((c.toNat:Int)==63)=true:=by rw[e];try rfl
     rw[show qB s=true by unfold qB;rw[hs];exact decide_eq_true e]at hRX
     simp only[if_true]at hRX
     have hc:=radd_c (s:=s) hX (by omega)
     have hA:=addR_asc (s:=key s) hX
     have hAl:=addR_len (key s) X
     repeat'(first|refine a_seq fun K hK=>?_|(refine a_block ?_)|((first|refine a_regionS ?_|refine a_region (fun K hK=>?_));simp(maxSteps:=2000000) only[Ty.w,simprocAttr,g0,g1,g5,hlL,hd,hr,q1,q2,hc0,Bool.not_false])|(refine a_skip ?_;try simp only[pst0,simprocAttr])|(refine a_cond _ (by(try simp(maxSteps:=2000000) only[Ty.w,simprocAttr,g0,g1,g5,hlL,hd,hr,q1,q2,hc0,Bool.not_false]);rfl) (fun hb=>?_) (fun hb=>?_)<;>(try simp only[hb0,decide_eq_true_eq,decide_eq_false_iff_not,simprocAttr]at hb)<;>(try(exfalso;omega)))|(refine hK _ _ ?_;clear hK;try simp only[pst0,simprocAttr]))
     refine owp_useQ (hc _) (by(try simp only[Ty.w,simprocAttr,g0,g1,g5,hr]);try rfl) ?_;simp(maxSteps:=2000000) only[Ty.w,simprocAttr,g0,g1,g5,hr]
     repeat'(first|(refine a_regionS ?_;simp(maxSteps:=2000000) only[Ty.w,simprocAttr,g1,g5,w7])|(refine hK _ _ ?_;clear hK;try simp only[pst0,simprocAttr]))
     exact⟨l.length-(k+1),by omega,k+1,_,by simp,rfl,by omega,rfl,hA,by omega,hRX⟩
    ·have q2:((c.toNat:Int)==63)=false:=by simp;omega
     rw[show qB s=false by unfold qB;rw[hs];exact decide_eq_false e]at hRX
     simp only[Bool.false_eq_true,if_false]at hRX
     repeat'(first|refine a_seq fun K hK=>?_|(refine a_block ?_)|(refine a_regionS ?_;simp(maxSteps:=2000000) only[Ty.w,simprocAttr,g0,g1,g5,hlL,hd,hr,q1,q2,hc0,Bool.not_false,w7])|(refine a_skip ?_;try simp only[pst0,simprocAttr])|(refine a_cond _ (by(try simp(maxSteps:=2000000) only[Ty.w,simprocAttr,g0,g1,g5,hlL,hd,hr,q1,q2,hc0,Bool.not_false,w7]);rfl) (fun hb=>?_) (fun hb=>?_)<;>(try simp only[hb0,decide_eq_true_eq,decide_eq_false_iff_not,simprocAttr]at hb)<;>(try(exfalso;omega)))|(refine hK _ _ ?_;clear hK;try simp only[pst0,simprocAttr]))
     exact⟨l.length-(k+1),by omega,k+1,X,by simp,rfl,by omega,rfl,hX,by omega,hRX⟩
  ·have hd:decide ((k:Int)<(l.length:Int))=false:=by simp;omega
   rw[List.drop_eq_nil_of_le (by omega)]at hRX
   simp only[varsR]at hRX
   subst hRX
   repeat'(first|refine a_seq fun K hK=>?_|((first|refine a_regionS ?_|refine a_ret ?_);simp(maxSteps:=2000000) only[Ty.w,simprocAttr,g0,g1,g5,hlL,hd])|(refine a_exit ?_;try simp only[pst0,simprocAttr])|(refine a_cond _ (by(try simp(maxSteps:=2000000) only[Ty.w,simprocAttr,g0,g1,g5,hlL,hd]);rfl) (fun hb=>?_) (fun hb=>?_)<;>(try simp only[hb0,decide_eq_true_eq,decide_eq_false_iff_not,simprocAttr]at hb)<;>(try(exfalso;omega)))|((first|refine hK _ _ ?_|(clear hK;refine hK _ _ ?_));clear hK;try simp only[pst0,simprocAttr]))
theorem rfreeE_c: ∀ (e:Ex){out:List (List UInt8)},out.Pairwise (·<·)→out.length+PV.bulkL e.cells≤1099511627776→ ∀ h:Heap,
  PCall Tryz.prog 22 [.imm 1 (kRows out),.agg e.cells] h fun r h'=>r= .imm 1 (kRows (freeExR out e))∧h'=h:=by
 refine Ex.ind ?_
 intro op name n args kids ih out hasc hl h
 simp only[Ex.cells,PV.bulkL,PV.bulk]at hl
 have hb1:=bulkR_strs args
 have hb2:=bulkR_exs kids
 have hlK:=Ex.rows_len kids
 have hv:=rvars_c (l:=args) hasc (by omega)
 have hA:=(varsR_ok args out hasc).1
 have hAl:=varsR_len args out
 have hbk: ∀ (k:Nat)(e:Ex),kids[k]? =some e→PV.bulkR (Ex.rows (kids.take k))+PV.bulkL e.cells≤PV.bulkR (Ex.rows kids):=fun k e hx=>bulkR_takeE hx
 simp only[freeExR,Ex.cells]
 generalize varsR out args=Y at hv hA hAl
 generalize hR:freeExsR Y kids=R
 refine pcall_body (ow:=fun _=>false) (wf:=fun _=>false) Ty.mixed Tryz.func22 rfl Ty.hb_22 (by rw[Tryz.ntmps22];simp) ?_
 rw[Tryz.ntmps22,Tryz.results22]
 repeat'(first|refine a_seq fun K hK=>?_|(refine a_regionS ?_;simp(maxSteps:=2000000) only[Ty.w,simprocAttr])|(refine hK _ _ ?_;clear hK;try simp only[pst0,simprocAttr]))
 refine owp_useQ (hv _) (by(try simp only[Ty.w,simprocAttr,]);try rfl) ?_;simp(maxSteps:=2000000) only[Ty.w,simprocAttr,]
 repeat'(first|refine a_seq fun K hK=>?_|(refine a_block ?_)|(refine a_regionS ?_;simp(maxSteps:=2000000) only[Ty.w,simprocAttr])|(refine hK _ _ ?_;clear hK;try simp only[pst0,simprocAttr]))
 refine a_loop (fun m S h'=>S 3= .cptr [sPV op,sPV name,.sc (.int .i64 n),.imm 1 (strRows args),.imm 5 (Ex.rows kids)]∧h'=h∧ ∃ (k:Nat)(X:List (List UInt8)),S 5= .sc (.int .i64 k)∧S 0= .imm 1 (kRows X)∧k≤kids.length∧m=kids.length-k∧X.Pairwise (·<·)∧X.length≤Y.length+PV.bulkR (Ex.rows (kids.take k))∧R=freeExsR X (kids.drop k)) kids.length ?_ ?_
 ·simp only[Ty.w,simprocAttr]
  exact⟨0,Y,rfl,rfl,by omega,rfl,hA,by omega,by rw[List.drop_zero];exact hR.symm⟩
 ·rintro m S h' ⟨g3,rfl,k,X,g5,g0,hk,rfl,hX,hXl,hRX⟩
  by_cases hlt:k<kids.length
  ·have hd:decide ((k:Int)<(kids.length:Int))=true:=by simp;omega
   have w7:IntKind.i64.wrap ((k:Int)+1)=k+1:=by rw[wrap64 (by omega) (by omega)]
   obtain⟨x,hx⟩: ∃ x,kids[k]? =some x:=⟨_,List.getElem?_eq_getElem hlt⟩
   have hr:=Ex.rows_get hx
   have hbx:=hbk k x hx
   have hc:=ih x (List.mem_of_getElem? hx) hX (by omega)
   have hnA:=(freeExR_ok x X hX).1
   have hnl:=freeExR_len x X
   have hT:PV.bulkR (Ex.rows (kids.take (k+1)))=PV.bulkR (Ex.rows (kids.take k))+PV.bulkL x.cells:=bulkR_takeE1 hx
   rw[drop_get hx]at hRX
   simp only[freeExsR]at hRX
   clear ih hv
   generalize freeExR X x=Z at hc hnA hnl hRX
   generalize PV.bulkL x.cells=bx at hbx hnl hT
   obtain⟨xo,xn,xv,xa,xk⟩:=x
   simp only[Ex.cells]at hr hc
   repeat'(first|refine a_seq fun K hK=>?_|(refine a_block ?_)|((first|refine a_regionS ?_|refine a_region (fun K hK=>?_));simp(maxSteps:=2000000) only[Ty.w,simprocAttr,g0,g3,g5,hlK,hd,hr])|(refine a_skip ?_;try simp only[pst0,simprocAttr])|(refine a_cond _ (by(try simp(maxSteps:=2000000) only[Ty.w,simprocAttr,g0,g3,g5,hlK,hd,hr]);rfl) (fun hb=>?_) (fun hb=>?_)<;>(try simp only[hb0,decide_eq_true_eq,decide_eq_false_iff_not,simprocAttr]at hb)<;>(try(exfalso;omega)))|(refine hK _ _ ?_;clear hK;try simp only[pst0,simprocAttr]))
   refine owp_useQ (hc _) (by(try simp only[Ty.w,simprocAttr,g0,g3,g5,hr]);try rfl) ?_;simp(maxSteps:=2000000) only[Ty.w,simprocAttr,g0,g3,g5,hr]
   repeat'(first|(refine a_regionS ?_;simp(maxSteps:=2000000) only[Ty.w,simprocAttr,g3,g5,w7])|(refine hK _ _ ?_;clear hK;try simp only[pst0,simprocAttr]))
   exact⟨kids.length-(k+1),by omega,k+1,Z,by simp,rfl,by omega,rfl,hnA,by omega,hRX⟩
  ·have hd:decide ((k:Int)<(kids.length:Int))=false:=by simp;omega
   rw[List.drop_eq_nil_of_le (by omega)]at hRX
   simp only[freeExsR]at hRX
   subst hRX
   repeat'(first|refine a_seq fun K hK=>?_|((first|refine a_regionS ?_|refine a_ret ?_);simp(maxSteps:=2000000) only[Ty.w,simprocAttr,g0,g3,g5,hlK,hd])|(refine a_exit ?_;try simp only[pst0,simprocAttr])|(refine a_cond _ (by(try simp(maxSteps:=2000000) only[Ty.w,simprocAttr,g0,g3,g5,hlK,hd]);rfl) (fun hb=>?_) (fun hb=>?_)<;>(try simp only[hb0,decide_eq_true_eq,decide_eq_false_iff_not,simprocAttr]at hb)<;>(try(exfalso;omega)))|((first|refine hK _ _ ?_|(clear hK;refine hK _ _ ?_));clear hK;try simp only[pst0,simprocAttr]))
end Go.Proofs.YtjlkapgpjamnkaaGreat
namespace Go.Proofs.YtjlkapgpjamnkaaGreat
open Go.AM
set_option maxHeartbeats 8000000
set_option maxRecDepth 20000
def pmR(v:Bool)(p:Pm):Bool:=(if v=true then varB p.name else nameB p.name)&&typedB p.type
theorem pmR_ok:pmR true=pmOk:=rfl
theorem a_genR{P:Program}{ow:Nat→Bool}{wf:FuncId→Bool}{n:Nat}{Q:Post}{s:Slots}{h:Heap}{c:Code}(I:Slots→Heap→Prop)(hi:I s h)(hh: ∀ s h,I s h→awp P ow wf n c Q s h):awp P ow wf n c Q s h:=hh _ _ hi
theorem rshapedPs_c{v:Bool}{l:List Pm}(hl:l.length≤bigN)(hp: ∀ p∈l,p.ok)(h:Heap):PCall Tryz.prog 33 [.imm 2 (pmRows l),.sc (.bool v)] h fun r h'=>r= .sc (.bool (l.all (pmR v)))∧h'=h:=by
 unfold bigN at hl
 have hlen:=pmRows_len l
 cases v with
 |true=>
  refine pcall_body (ow:=fun _=>false) (wf:=fun _=>false) Ty.mixed Tryz.func33 rfl Ty.hb_33 (by rw[Tryz.ntmps33];simp) ?_
  rw[Tryz.ntmps33,Tryz.results33]
  repeat'(first|refine a_seq fun K hK=>?_|(refine a_block ?_)|(refine a_regionS ?_;simp(maxSteps:=2000000) only[Ty.w,simprocAttr,hlen])|(refine hK _ _ ?_;clear hK;try simp only[pst0,simprocAttr]))
  refine a_loop (fun m S h'=>h'=h∧S 0= .imm 2 (pmRows l)∧S 1= .sc (.bool true)∧ ∃ k:Nat,S 5= .sc (.int .i64 k)∧k≤l.length∧m=l.length-k∧l.all (pmR true)=(l.drop k).all (pmR true)) l.length ?_ ?_
  ·simp only[Ty.w,simprocAttr]
   exact⟨0,rfl,by omega,rfl,by simp⟩
  ·rintro m S h' ⟨rfl,g0,g1,k,g5,hk,rfl,hinv⟩
   by_cases hlt:k<l.length
   ·have hd:decide ((k:Int)<(l.length:Int))=true:=by simp;omega
    have w7:IntKind.i64.wrap ((k:Int)+1)=k+1:=by rw[wrap64 (by omega) (by omega)]
    obtain⟨p,hx⟩: ∃ p,l[k]? =some p:=⟨l[k],List.getElem?_eq_getElem hlt⟩
    have hr:=pmRows_get hx
    have hpo:=hp p (List.mem_of_getElem? hx)
    have h1:p.name.size≤9223372036854775807:=by have:=hpo.1;unfold bigN at this;omega
    have h2:p.type.size≤9223372036854775807:=by have:=hpo.2;unfold bigN at this;omega
    have hc:=fun h:Heap=>rvariable_c (h:=h) (s:=p.name) h1
    have hc2:=fun h:Heap=>rname_c (h:=h) (s:=p.type) h2
    rw[drop_of_get hx,List.all_cons]at hinv
    have hq:pmR true p=(varB p.name&&(nameB p.type||(p.type.data.toList==(#[111,98,106,101,99,116]:Array UInt8).toList))):=rfl
    rw[hq]at hinv
    clear hq
    generalize varB p.name=b at hc hinv
    generalize nameB p.type=b2 at hc2 hinv
    cases b with
    |false=>
     simp only[Bool.false_and]at hinv
     repeat'(first|refine a_seq fun K hK=>?_|(refine a_regionS ?_;simp(maxSteps:=2000000) only[Ty.w,simprocAttr,g0,g1,g5,hd,hr,bne,Bool.not_true,Bool.not_false])|(refine a_skip ?_;try simp only[pst0,simprocAttr])|(refine a_cond _ (by(try simp(maxSteps:=2000000) only[Ty.w,simprocAttr,g0,g1,g5,hd,hr,bne,Bool.not_true,Bool.not_false]);rfl) (fun hb=>?_) (fun hb=>?_)<;>(try simp only[hb0,decide_eq_true_eq,decide_eq_false_iff_not,simprocAttr]at hb)<;>(try(exfalso;omega)))|(refine hK _ _ ?_;clear hK;try simp only[pst0,simprocAttr]))
     refine owp_useQ (hc _) (by(try simp only[Ty.w,simprocAttr,g0,g1,g5,hd,hr,bne,Bool.not_true,Bool.not_false]);try rfl) ?_;simp(maxSteps:=2000000) only[Ty.w,simprocAttr,g0,g1,g5,hd,hr,bne,Bool.not_true,Bool.not_false]
     repeat'(first|refine a_seq fun K hK=>?_|((first|refine a_regionS ?_|refine a_ret ?_);simp(maxSteps:=2000000) only[Ty.w,simprocAttr,g0,g1,g5,hd,hr,bne,Bool.not_true,Bool.not_false])|(refine hK _ _ ?_;clear hK;try simp only[pst0,simprocAttr]))
     rw[hinv]
    |true=>
     cases q:(p.type.data.toList==(#[111,98,106,101,99,116]:Array UInt8).toList)with
     |true=>
      simp only[q,Bool.or_true,Bool.true_and]at hinv
      repeat'(first|refine a_seq fun K hK=>?_|(refine a_regionS ?_;simp(maxSteps:=2000000) only[Ty.w,simprocAttr,g0,g1,g5,hd,hr,bne,Bool.not_true,Bool.not_false,q])|(refine a_skip ?_;try simp only[pst0,simprocAttr])|(refine a_cond _ (by(try simp(maxSteps:=2000000) only[Ty.w,simprocAttr,g0,g1,g5,hd,hr,bne,Bool.not_true,Bool.not_false,q]);rfl) (fun hb=>?_) (fun hb=>?_)<;>(try simp only[hb0,decide_eq_true_eq,decide_eq_false_iff_not,simprocAttr]at hb)<;>(try(exfalso;omega)))|(refine hK _ _ ?_;clear hK;try simp only[pst0,simprocAttr]))
      refine owp_useQ (hc _) (by(try simp only[Ty.w,simprocAttr,g0,g1,g5,hd,hr,bne,Bool.not_true,Bool.not_false,q]);try rfl) ?_;simp(maxSteps:=2000000) only[Ty.w,simprocAttr,g0,g1,g5,hd,hr,bne,Bool.not_true,Bool.not_false,q]
      repeat'(first|(refine a_block ?_)|(refine a_regionS ?_;simp(maxSteps:=2000000) only[Ty.w,simprocAttr,g0,g1,g5,hd,hr,bne,Bool.not_true,Bool.not_false,q,w7])|(refine a_skip ?_;try simp only[pst0,simprocAttr])|(refine hK _ _ ?_;clear hK;try simp only[pst0,simprocAttr]))
      exact⟨l.length-(k+1),by omega,k+1,by simp,by omega,rfl,hinv⟩
     |false=>
      cases b2 with
      |false=>
       simp only[q,Bool.or_false,Bool.false_and,Bool.and_false]at hinv
       have W:=And.intro g0 (And.intro g1 (And.intro g5 (And.intro hd (And.intro hr q))))
       repeat'(first|refine a_seq fun K hK=>?_|(refine a_regionS ?_;simp(maxSteps:=2000000) only[Ty.w,simprocAttr,W,bne,Bool.not_true,Bool.not_false])|(refine a_skip ?_;try simp only[pst0,simprocAttr])|(refine a_cond _ (by(try simp(maxSteps:=2000000) only[Ty.w,simprocAttr,W,bne,Bool.not_true,Bool.not_false]);rfl) (fun hb=>?_) (fun hb=>?_)<;>(try simp only[hb0,decide_eq_true_eq,decide_eq_false_iff_not,simprocAttr]at hb)<;>(try(exfalso;omega)))|(refine hK _ _ ?_;clear hK;try simp only[pst0,simprocAttr]))
       refine owp_useQ (hc _) (by(try simp only[Ty.w,simprocAttr,W,bne,Bool.not_true,Bool.not_false]);try rfl) ?_;simp(maxSteps:=2000000) only[Ty.w,simprocAttr,W,bne,Bool.not_true,Bool.not_false]
       skip
       refine owp_useQ (hc2 _) (by(try simp only[Ty.w,simprocAttr,W,bne,Bool.not_true,Bool.not_false]);try rfl) ?_;simp(maxSteps:=2000000) only[Ty.w,simprocAttr,W,bne,Bool.not_true,Bool.not_false]
       repeat'(first|refine a_seq fun K hK=>?_|((first|refine a_regionS ?_|refine a_ret ?_);simp(maxSteps:=2000000) only[Ty.w,simprocAttr,W,bne,Bool.not_true,Bool.not_false])|(refine hK _ _ ?_;clear hK;try simp only[pst0,simprocAttr]))
       rw[hinv]
      |true=>
       simp only[q,Bool.or_false,Bool.true_and]at hinv
       have W:=And.intro g0 (And.intro g1 (And.intro g5 (And.intro hd (And.intro hr q))))
       repeat'(first|refine a_seq fun K hK=>?_|(refine a_regionS ?_;simp(maxSteps:=2000000) only[Ty.w,simprocAttr,W,bne,Bool.not_true,Bool.not_false])|(refine a_skip ?_;try simp only[pst0,simprocAttr])|(refine a_cond _ (by(try simp(maxSteps:=2000000) only[Ty.w,simprocAttr,W,bne,Bool.not_true,Bool.not_false]);rfl) (fun hb=>?_) (fun hb=>?_)<;>(try simp only[hb0,decide_eq_true_eq,decide_eq_false_iff_not,simprocAttr]at hb)<;>(try(exfalso;omega)))|(refine hK _ _ ?_;clear hK;try simp only[pst0,simprocAttr]))
       refine owp_useQ (hc _) (by(try simp only[Ty.w,simprocAttr,W,bne,Bool.not_true,Bool.not_false]);try rfl) ?_;simp(maxSteps:=2000000) only[Ty.w,simprocAttr,W,bne,Bool.not_true,Bool.not_false]
       skip
       refine owp_useQ (hc2 _) (by(try simp only[Ty.w,simprocAttr,W,bne,Bool.not_true,Bool.not_false]);try rfl) ?_;simp(maxSteps:=2000000) only[Ty.w,simprocAttr,W,bne,Bool.not_true,Bool.not_false]
       repeat'(first|(refine a_block ?_)|(refine a_regionS ?_;simp(maxSteps:=2000000) only[Ty.w,simprocAttr,W,bne,Bool.not_true,Bool.not_false,w7])|(refine a_skip ?_;try simp only[pst0,simprocAttr])|(refine hK _ _ ?_;clear hK;try simp only[pst0,simprocAttr]))
       exact⟨l.length-(k+1),by omega,k+1,by simp,by omega,rfl,hinv⟩
   ·have hd:decide ((k:Int)<(l.length:Int))=false:=by simp;omega
    rw[List.drop_eq_nil_of_le (by omega)]at hinv
    repeat'(first|refine a_seq fun K hK=>?_|((first|refine a_regionS ?_|refine a_ret ?_);simp(maxSteps:=2000000) only[Ty.w,simprocAttr,g0,g1,g5,hlen,hd])|(refine a_exit ?_;try simp only[pst0,simprocAttr])|(refine a_cond _ (by(try simp(maxSteps:=2000000) only[Ty.w,simprocAttr,g0,g1,g5,hlen,hd]);rfl) (fun hb=>?_) (fun hb=>?_)<;>(try simp only[hb0,decide_eq_true_eq,decide_eq_false_iff_not,simprocAttr]at hb)<;>(try(exfalso;omega)))|((first|refine hK _ _ ?_|(clear hK;refine hK _ _ ?_));clear hK;try simp only[pst0,simprocAttr]))
    rw[hinv];try rfl
 |false=>
  refine pcall_body (ow:=fun _=>false) (wf:=fun _=>false) Ty.mixed Tryz.func33 rfl Ty.hb_33 (by rw[Tryz.ntmps33];simp) ?_
  rw[Tryz.ntmps33,Tryz.results33]
  repeat'(first|refine a_seq fun K hK=>?_|(refine a_block ?_)|(refine a_regionS ?_;simp(maxSteps:=2000000) only[Ty.w,simprocAttr,hlen])|(refine hK _ _ ?_;clear hK;try simp only[pst0,simprocAttr]))
  refine a_loop (fun m S h'=>h'=h∧S 0= .imm 2 (pmRows l)∧S 1= .sc (.bool false)∧ ∃ k:Nat,S 5= .sc (.int .i64 k)∧k≤l.length∧m=l.length-k∧l.all (pmR false)=(l.drop k).all (pmR false)) l.length ?_ ?_
  ·simp only[Ty.w,simprocAttr]
   exact⟨0,rfl,by omega,rfl,by simp⟩
  ·rintro m S h' ⟨rfl,g0,g1,k,g5,hk,rfl,hinv⟩
   by_cases hlt:k<l.length
   ·have hd:decide ((k:Int)<(l.length:Int))=true:=by simp;omega
    have w7:IntKind.i64.wrap ((k:Int)+1)=k+1:=by rw[wrap64 (by omega) (by omega)]
    obtain⟨p,hx⟩: ∃ p,l[k]? =some p:=⟨l[k],List.getElem?_eq_getElem hlt⟩
    have hr:=pmRows_get hx
    have hpo:=hp p (List.mem_of_getElem? hx)
    have h1:p.name.size≤9223372036854775807:=by have:=hpo.1;unfold bigN at this;omega
    have h2:p.type.size≤9223372036854775807:=by have:=hpo.2;unfold bigN at this;omega
    have hc:=fun h:Heap=>rname_c (h:=h) (s:=p.name) h1
    have hc2:=fun h:Heap=>rname_c (h:=h) (s:=p.type) h2
    rw[drop_of_get hx,List.all_cons]at hinv
    have hq:pmR false p=(nameB p.name&&(nameB p.type||(p.type.data.toList==(#[111,98,106,101,99,116]:Array UInt8).toList))):=rfl
    rw[hq]at hinv
    clear hq
    generalize nameB p.name=b at hc hinv
    generalize nameB p.type=b2 at hc2 hinv
    cases b with
    |false=>
     simp only[Bool.false_and]at hinv
     repeat'(first|refine a_seq fun K hK=>?_|(refine a_regionS ?_;simp(maxSteps:=2000000) only[Ty.w,simprocAttr,g0,g1,g5,hd,hr,bne,Bool.not_true,Bool.not_false])|(refine a_skip ?_;try simp only[pst0,simprocAttr])|(refine a_cond _ (by(try simp(maxSteps:=2000000) only[Ty.w,simprocAttr,g0,g1,g5,hd,hr,bne,Bool.not_true,Bool.not_false]);rfl) (fun hb=>?_) (fun hb=>?_)<;>(try simp only[hb0,decide_eq_true_eq,decide_eq_false_iff_not,simprocAttr]at hb)<;>(try(exfalso;omega)))|(refine hK _ _ ?_;clear hK;try simp only[pst0,simprocAttr]))
     refine owp_useQ (hc _) (by(try simp only[Ty.w,simprocAttr,g0,g1,g5,hd,hr,bne,Bool.not_true,Bool.not_false]);try rfl) ?_;simp(maxSteps:=2000000) only[Ty.w,simprocAttr,g0,g1,g5,hd,hr,bne,Bool.not_true,Bool.not_false]
     repeat'(first|refine a_seq fun K hK=>?_|((first|refine a_regionS ?_|refine a_ret ?_);simp(maxSteps:=2000000) only[Ty.w,simprocAttr,g0,g1,g5,hd,hr,bne,Bool.not_true,Bool.not_false])|(refine hK _ _ ?_;clear hK;try simp only[pst0,simprocAttr]))
     rw[hinv]
    |true=>
     cases q:(p.type.data.toList==(#[111,98,106,101,99,116]:Array UInt8).toList)with
     |true=>
      simp only[q,Bool.or_true,Bool.true_and]at hinv
      repeat'(first|refine a_seq fun K hK=>?_|(refine a_regionS ?_;simp(maxSteps:=2000000) only[Ty.w,simprocAttr,g0,g1,g5,hd,hr,bne,Bool.not_true,Bool.not_false,q])|(refine a_skip ?_;try simp only[pst0,simprocAttr])|(refine a_cond _ (by(try simp(maxSteps:=2000000) only[Ty.w,simprocAttr,g0,g1,g5,hd,hr,bne,Bool.not_true,Bool.not_false,q]);rfl) (fun hb=>?_) (fun hb=>?_)<;>(try simp only[hb0,decide_eq_true_eq,decide_eq_false_iff_not,simprocAttr]at hb)<;>(try(exfalso;omega)))|(refine hK _ _ ?_;clear hK;try simp only[pst0,simprocAttr]))
      refine owp_useQ (hc _) (by(try simp only[Ty.w,simprocAttr,g0,g1,g5,hd,hr,bne,Bool.not_true,Bool.not_false,q]);try rfl) ?_;simp(maxSteps:=2000000) only[Ty.w,simprocAttr,g0,g1,g5,hd,hr,bne,Bool.not_true,Bool.not_false,q]
      repeat'(first|(refine a_block ?_)|(refine a_regionS ?_;simp(maxSteps:=2000000) only[Ty.w,simprocAttr,g0,g1,g5,hd,hr,bne,Bool.not_true,Bool.not_false,q,w7])|(refine a_skip ?_;try simp only[pst0,simprocAttr])|(refine hK _ _ ?_;clear hK;try simp only[pst0,simprocAttr]))
      exact⟨l.length-(k+1),by omega,k+1,by simp,by omega,rfl,hinv⟩
     |false=>
      cases b2 with
      |false=>
       simp only[q,Bool.or_false,Bool.false_and,Bool.and_false]at hinv
       have W:=And.intro g0 (And.intro g1 (And.intro g5 (And.intro hd (And.intro hr q))))
       repeat'(first|refine a_seq fun K hK=>?_|(refine a_regionS ?_;simp(maxSteps:=2000000) only[Ty.w,simprocAttr,W,bne,Bool.not_true,Bool.not_false])|(refine a_skip ?_;try simp only[pst0,simprocAttr])|(refine a_cond _ (by(try simp(maxSteps:=2000000) only[Ty.w,simprocAttr,W,bne,Bool.not_true,Bool.not_false]);rfl) (fun hb=>?_) (fun hb=>?_)<;>(try simp only[hb0,decide_eq_true_eq,decide_eq_false_iff_not,simprocAttr]at hb)<;>(try(exfalso;omega)))|(refine hK _ _ ?_;clear hK;try simp only[pst0,simprocAttr]))
       refine owp_useQ (hc _) (by(try simp only[Ty.w,simprocAttr,W,bne,Bool.not_true,Bool.not_false]);try rfl) ?_;simp(maxSteps:=2000000) only[Ty.w,simprocAttr,W,bne,Bool.not_true,Bool.not_false]
       skip
       refine owp_useQ (hc2 _) (by(try simp only[Ty.w,simprocAttr,W,bne,Bool.not_true,Bool.not_false]);try rfl) ?_;simp(maxSteps:=2000000) only[Ty.w,simprocAttr,W,bne,Bool.not_true,Bool.not_false]
       repeat'(first|refine a_seq fun K hK=>?_|((first|refine a_regionS ?_|refine a_ret ?_);simp(maxSteps:=2000000) only[Ty.w,simprocAttr,W,bne,Bool.not_true,Bool.not_false])|(refine hK _ _ ?_;clear hK;try simp only[pst0,simprocAttr]))
       rw[hinv]
      |true=>
       simp only[q,Bool.or_false,Bool.true_and]at hinv
       have W:=And.intro g0 (And.intro g1 (And.intro g5 (And.intro hd (And.intro hr q))))
       repeat'(first|refine a_seq fun K hK=>?_|(refine a_regionS ?_;simp(maxSteps:=2000000) only[Ty.w,simprocAttr,W,bne,Bool.not_true,Bool.not_false])|(refine a_skip ?_;try simp only[pst0,simprocAttr])|(refine a_cond _ (by(try simp(maxSteps:=2000000) only[Ty.w,simprocAttr,W,bne,Bool.not_true,Bool.not_false]);rfl) (fun hb=>?_) (fun hb=>?_)<;>(try simp only[hb0,decide_eq_true_eq,decide_eq_false_iff_not,simprocAttr]at hb)<;>(try(exfalso;omega)))|(refine hK _ _ ?_;clear hK;try simp only[pst0,simprocAttr]))
       refine owp_useQ (hc _) (by(try simp only[Ty.w,simprocAttr,W,bne,Bool.not_true,Bool.not_false]);try rfl) ?_;simp(maxSteps:=2000000) only[Ty.w,simprocAttr,W,bne,Bool.not_true,Bool.not_false]
       skip
       refine owp_useQ (hc2 _) (by(try simp only[Ty.w,simprocAttr,W,bne,Bool.not_true,Bool.not_false]);try rfl) ?_;simp(maxSteps:=2000000) only[Ty.w,simprocAttr,W,bne,Bool.not_true,Bool.not_false]
       repeat'(first|(refine a_block ?_)|(refine a_regionS ?_;simp(maxSteps:=2000000) only[Ty.w,simprocAttr,W,bne,Bool.not_true,Bool.not_false,w7])|(refine a_skip ?_;try simp only[pst0,simprocAttr])|(refine hK _ _ ?_;clear hK;try simp only[pst0,simprocAttr]))
       exact⟨l.length-(k+1),by omega,k+1,by simp,by omega,rfl,hinv⟩
   ·have hd:decide ((k:Int)<(l.length:Int))=false:=by simp;omega
    rw[List.drop_eq_nil_of_le (by omega)]at hinv
    repeat'(first|refine a_seq fun K hK=>?_|((first|refine a_regionS ?_|refine a_ret ?_);simp(maxSteps:=2000000) only[Ty.w,simprocAttr,g0,g1,g5,hlen,hd])|(refine a_exit ?_;try simp only[pst0,simprocAttr])|(refine a_cond _ (by(try simp(maxSteps:=2000000) only[Ty.w,simprocAttr,g0,g1,g5,hlen,hd]);rfl) (fun hb=>?_) (fun hb=>?_)<;>(try simp only[hb0,decide_eq_true_eq,decide_eq_false_iff_not,simprocAttr]at hb)<;>(try(exfalso;omega)))|((first|refine hK _ _ ?_|(clear hK;refine hK _ _ ?_));clear hK;try simp only[pst0,simprocAttr]))
    rw[hinv];try rfl
theorem rshapedF_c: ∀ f:Fm,f.ok→ ∀ h:Heap,PCall Tryz.prog 14 [.agg f.cells] h fun r h'=>r= .sc (.bool (shapedF f))∧h'=h:=by
 refine Fm.ind ?_
 intro op name args params exprs kids ih hok h
 simp only[Fm.ok]at hok
 obtain⟨_,hnm,⟨hal,hargs⟩,⟨hpl,hps⟩,⟨hel,hes⟩,hkl,hks⟩:=hok
 rw[Ex.oks_iff]at hes
 rw[Fm.oks_iff]at hks
 have hnm':name.size≤9223372036854775807:=by unfold bigN at hnm;omega
 have hP:=fun h:Heap=>rshapedPs_c (v:=true) hpl hps h
 rw[pmR_ok]at hP
 have hA:=fun h:Heap=>rall_c (h:=h) hal hargs
 have hN:=fun h:Heap=>rname_c (h:=h) (s:=name) hnm'
 unfold bigN at hal hpl hel hkl
 have hlA:=strRows_len args
 have hlP:=pmRows_len params
 have hlE:=Ex.rows_len exprs
 have hlK:=Fm.rows_len kids
 have hbK: ∀ k∈kids,shapedF k=false→shapedF (.mk op name args params exprs kids)=false:=fun k hk hf=>by
  cases hh:shapedF (.mk op name args params exprs kids)with
  |false=>rfl
  |true=>rw[(shapedF_kid hh).2 k hk]at hf;simp at hf
 have hbE: ∀ e∈exprs,shapedE e=false→shapedF (.mk op name args params exprs kids)=false:=fun k hk hf=>by
  cases hh:shapedF (.mk op name args params exprs kids)with
  |false=>rfl
  |true=>rw[(shapedF_kid hh).1 k hk]at hf;simp at hf
 have hop:(∀ e∈exprs,shapedE e=true)→(∀ k∈kids,shapedF k=true)→shapedF (.mk op name args params exprs kids)=opF op name args params exprs.length kids.length:=shapedF_op
 generalize shapedF (.mk op name args params exprs kids)=F at hbK hbE hop
 simp only[Fm.cells]
 refine pcall_body (ow:=fun _=>false) (wf:=fun _=>false) Ty.mixed Tryz.func14 rfl Ty.hb_14 (by rw[Tryz.ntmps14];simp) ?_
 rw[Tryz.ntmps14,Tryz.results14]
 repeat'(first|refine a_seq fun K hK=>?_|(refine a_block ?_)|(refine a_regionS ?_;simp(maxSteps:=2000000) only[Ty.w,simprocAttr,hlK])|(refine hK _ _ ?_;clear hK;try simp only[pst0,simprocAttr]))
 refine a_loop (fun m S h'=>h'=h∧S 1= .cptr (Fm.mk op name args params exprs kids).cells∧ ∃ k:Nat,S 3= .sc (.int .i64 k)∧k≤kids.length∧m=kids.length-k∧ ∀ (i:Nat)(e:Fm),i<k→kids[i]? =some e→shapedF e=true) kids.length ?_ ?_
 ·simp only[Ty.w,simprocAttr]
  exact⟨rfl,0,rfl,by omega,rfl,by omega⟩
 ·rintro m S h' ⟨rfl,g1,k,g3,hkk,rfl,hall⟩
  simp only[Fm.cells]at g1
  by_cases hlt:k<kids.length
  ·clear hop hbE
   have hd:decide ((k:Int)<(kids.length:Int))=true:=by simp;omega
   have w7:IntKind.i64.wrap ((k:Int)+1)=k+1:=by rw[wrap64 (by omega) (by omega)]
   obtain⟨e,hx⟩: ∃ e,kids[k]? =some e:=⟨_,List.getElem?_eq_getElem hlt⟩
   have hmem:=List.mem_of_getElem? hx
   have hc:=ih e hmem (hks e hmem)
   have hr:=Fm.rows_get hx
   have hbad:=hbK e hmem
   have hgood:shapedF e=true→ ∀ (i:Nat)(e:Fm),i<k+1→kids[i]? =some e→shapedF e=true:=fun h1 i e2 hi hw=>by
    by_cases hik:i=k
    ·subst hik;rw[hx]at hw;simp at hw;rw[← hw];exact h1
    ·exact hall i e2 (by omega) hw
   generalize shapedF e=b at hc hbad hgood
   clear hbK hall
   obtain⟨o2,n2,a2,p2,e2,k2⟩:=e
   simp only[Fm.cells]at hr hc
   cases b with
   |false=>
    have:=hbad rfl
    subst this
    repeat'(first|refine a_seq fun K hK=>?_|(refine a_regionS ?_;simp(maxSteps:=2000000) only[Ty.w,simprocAttr,g1,g3,hlK,hd,hr,w7])|(refine a_skip ?_;try simp only[pst0,simprocAttr])|(refine a_cond _ (by(try simp(maxSteps:=2000000) only[Ty.w,simprocAttr,g1,g3,hlK,hd,hr,w7]);rfl) (fun hb=>?_) (fun hb=>?_)<;>(try simp only[hb0,decide_eq_true_eq,decide_eq_false_iff_not,simprocAttr]at hb)<;>(try(exfalso;omega)))|(refine hK _ _ ?_;clear hK;try simp only[pst0,simprocAttr]))
    refine owp_useQ (hc _) (by(try simp only[Ty.w,simprocAttr,g1,g3,hlK,hd,hr,Bool.not_false]);try rfl) ?_;simp(maxSteps:=2000000) only[Ty.w,simprocAttr,g1,g3,hlK,hd,hr,Bool.not_false]
    repeat'(first|refine a_seq fun K hK=>?_|((first|refine a_regionS ?_|refine a_ret ?_);simp(maxSteps:=2000000) only[Ty.w,simprocAttr,g1,g3,w7,Bool.not_false])|(refine hK _ _ ?_;clear hK;try simp only[pst0,simprocAttr]))
   |true=>
    repeat'(first|refine a_seq fun K hK=>?_|(refine a_regionS ?_;simp(maxSteps:=2000000) only[Ty.w,simprocAttr,g1,g3,hlK,hd,hr,w7])|(refine a_skip ?_;try simp only[pst0,simprocAttr])|(refine a_cond _ (by(try simp(maxSteps:=2000000) only[Ty.w,simprocAttr,g1,g3,hlK,hd,hr,w7]);rfl) (fun hb=>?_) (fun hb=>?_)<;>(try simp only[hb0,decide_eq_true_eq,decide_eq_false_iff_not,simprocAttr]at hb)<;>(try(exfalso;omega)))|(refine hK _ _ ?_;clear hK;try simp only[pst0,simprocAttr]))
    refine owp_useQ (hc _) (by(try simp only[Ty.w,simprocAttr,g1,g3,hlK,hd,hr,Bool.not_true]);try rfl) ?_;simp(maxSteps:=2000000) only[Ty.w,simprocAttr,g1,g3,hlK,hd,hr,Bool.not_true]
    repeat'(first|(refine a_block ?_)|(refine a_regionS ?_;simp(maxSteps:=2000000) only[Ty.w,simprocAttr,g1,g3,w7,Bool.not_true])|(refine a_skip ?_;try simp only[pst0,simprocAttr])|(refine hK _ _ ?_;clear hK;try simp only[pst0,simprocAttr]))
    exact⟨kids.length-(k+1),by omega,rfl,k+1,by simp,by omega,rfl,hgood rfl⟩
  ·have hd:decide ((k:Int)<(kids.length:Int))=false:=by simp;omega
   have hop2:=fun hE=>hop hE fun e he=>by
    obtain⟨i,hi⟩:=List.getElem?_of_mem he
    exact hall i e (by have:=(List.getElem?_eq_some_iff.1 hi).1;omega) hi
   clear hop hall hbK ih
   repeat'(first|refine a_seq fun K hK=>?_|(refine a_block ?_)|(refine a_regionS ?_;simp(maxSteps:=2000000) only[Ty.w,simprocAttr,g1,g3,hlK,hd])|(refine a_exit ?_;try simp only[pst0,simprocAttr])|(refine a_cond _ (by(try simp(maxSteps:=2000000) only[Ty.w,simprocAttr,g1,g3,hlK,hd]);rfl) (fun hb=>?_) (fun hb=>?_)<;>(try simp only[hb0,decide_eq_true_eq,decide_eq_false_iff_not,simprocAttr]at hb)<;>(try(exfalso;omega)))|((first|refine hK _ _ ?_|(clear hK;refine hK _ _ ?_));clear hK;try simp only[pst0,simprocAttr]))
   clear g3 hd
   refine a_loop (fun m S h2=>h2=h'∧S 1= .cptr (Fm.mk op name args params exprs kids).cells∧ ∃ k:Nat,S 4= .sc (.int .i64 k)∧k≤exprs.length∧m=exprs.length-k∧ ∀ (i:Nat)(e:Ex),i<k→exprs[i]? =some e→shapedE e=true) exprs.length ?_ ?_
   ·simp only[Ty.w,simprocAttr,g1]
    exact⟨rfl,0,rfl,by omega,rfl,by omega⟩
   ·clear g1 S
    rintro m S h2 ⟨rfl,g1,k,g3,hkk,rfl,hall⟩
    simp only[Fm.cells]at g1
    by_cases hlt:k<exprs.length
    ·clear hop2
     have hd:decide ((k:Int)<(exprs.length:Int))=true:=by simp;omega
     have w7:IntKind.i64.wrap ((k:Int)+1)=k+1:=by rw[wrap64 (by omega) (by omega)]
     obtain⟨e,hx⟩: ∃ e,exprs[k]? =some e:=⟨_,List.getElem?_eq_getElem hlt⟩
     have hmem:=List.mem_of_getElem? hx
     have hc:=rshapedE_c e (hes e hmem)
     have hr:=Ex.rows_get hx
     have hbad:=hbE e hmem
     have hgood:shapedE e=true→ ∀ (i:Nat)(e:Ex),i<k+1→exprs[i]? =some e→shapedE e=true:=fun h1 i e2 hi hw=>by
      by_cases hik:i=k
      ·subst hik;rw[hx]at hw;simp at hw;rw[← hw];exact h1
      ·exact hall i e2 (by omega) hw
     generalize shapedE e=b at hc hbad hgood
     clear hbE hall
     obtain⟨o2,n2,v2,a2,k2⟩:=e
     simp only[Ex.cells]at hr hc
     cases b with
     |false=>
      have:=hbad rfl
      subst this
      repeat'(first|refine a_seq fun K hK=>?_|(refine a_regionS ?_;simp(maxSteps:=2000000) only[Ty.w,simprocAttr,g1,g3,hlE,hd,hr,w7])|(refine a_skip ?_;try simp only[pst0,simprocAttr])|(refine a_cond _ (by(try simp(maxSteps:=2000000) only[Ty.w,simprocAttr,g1,g3,hlE,hd,hr,w7]);rfl) (fun hb=>?_) (fun hb=>?_)<;>(try simp only[hb0,decide_eq_true_eq,decide_eq_false_iff_not,simprocAttr]at hb)<;>(try(exfalso;omega)))|(refine hK _ _ ?_;clear hK;try simp only[pst0,simprocAttr]))
      refine owp_useQ (hc _) (by(try simp only[Ty.w,simprocAttr,g1,g3,hlE,hd,hr,Bool.not_false]);try rfl) ?_;simp(maxSteps:=2000000) only[Ty.w,simprocAttr,g1,g3,hlE,hd,hr,Bool.not_false]
      repeat'(first|refine a_seq fun K hK=>?_|((first|refine a_regionS ?_|refine a_ret ?_);simp(maxSteps:=2000000) only[Ty.w,simprocAttr,g1,g3,w7,Bool.not_false])|(refine hK _ _ ?_;clear hK;try simp only[pst0,simprocAttr]))
     |true=>
      repeat'(first|refine a_seq fun K hK=>?_|(refine a_regionS ?_;simp(maxSteps:=2000000) only[Ty.w,simprocAttr,g1,g3,hlE,hd,hr,w7])|(refine a_skip ?_;try simp only[pst0,simprocAttr])|(refine a_cond _ (by(try simp(maxSteps:=2000000) only[Ty.w,simprocAttr,g1,g3,hlE,hd,hr,w7]);rfl) (fun hb=>?_) (fun hb=>?_)<;>(try simp only[hb0,decide_eq_true_eq,decide_eq_false_iff_not,simprocAttr]at hb)<;>(try(exfalso;omega)))|(refine hK _ _ ?_;clear hK;try simp only[pst0,simprocAttr]))
      refine owp_useQ (hc _) (by(try simp only[Ty.w,simprocAttr,g1,g3,hlE,hd,hr,Bool.not_true]);try rfl) ?_;simp(maxSteps:=2000000) only[Ty.w,simprocAttr,g1,g3,hlE,hd,hr,Bool.not_true]
      repeat'(first|(refine a_block ?_)|(refine a_regionS ?_;simp(maxSteps:=2000000) only[Ty.w,simprocAttr,g1,g3,w7,Bool.not_true])|(refine a_skip ?_;try simp only[pst0,simprocAttr])|(refine hK _ _ ?_;clear hK;try simp only[pst0,simprocAttr]))
      exact⟨exprs.length-(k+1),by omega,rfl,k+1,by simp,by omega,rfl,hgood rfl⟩
    ·have hd:decide ((k:Int)<(exprs.length:Int))=false:=by simp;omega
     have hF:=hop2 fun e he=>by
      obtain⟨i,hi⟩:=List.getElem?_of_mem he
      exact hall i e (by have:=(List.getElem?_eq_some_iff.1 hi).1;omega) hi
     clear hop2 hall hbE
     have wa:IntKind.i64.wrap ((params.length:Int)+exprs.length)=(params.length:Int)+exprs.length:=by rw[wrap64 (by omega) (by omega)]
     have wb:IntKind.i64.wrap (((params.length:Int)+exprs.length)+kids.length)=((params.length:Int)+exprs.length)+kids.length:=by rw[wrap64 (by omega) (by omega)]
     have wc:IntKind.i64.wrap ((args.length:Int)+params.length)=(args.length:Int)+params.length:=by rw[wrap64 (by omega) (by omega)]
     have wd:IntKind.i64.wrap (((args.length:Int)+params.length)+kids.length)=((args.length:Int)+params.length)+kids.length:=by rw[wrap64 (by omega) (by omega)]
     have we:IntKind.i64.wrap (((args.length:Int)+params.length)+exprs.length)=((args.length:Int)+params.length)+exprs.length:=by rw[wrap64 (by omega) (by omega)]
     have wf:IntKind.i64.wrap ((args.length:Int)+exprs.length)=(args.length:Int)+exprs.length:=by rw[wrap64 (by omega) (by omega)]
     unfold opF at hF
     simp only[opAtom,opSame,opLt,opLe,opEq,opAnd,opOr,opNot,opImp,opAll,opSome,bEq]at hF
     repeat'(first|(with_reducible refine a_hold 12 ?_)|(first|refine a_seq fun K hK=>?_|((first|refine a_regionS ?_|refine a_drawS (by decide+kernel) ?_);simp(maxSteps:=2000000) only[Ty.w,simprocAttr,g1,g3,hd,hlA,hlP,hlE,hlK,bne])|(refine a_exit ?_;try simp only[pst0,simprocAttr])|(refine a_cond _ (by(try simp(maxSteps:=2000000) only[Ty.w,simprocAttr,g1,g3,hd,hlA,hlP,hlE,hlK,bne]);rfl) (fun hb=>?_) (fun hb=>?_)<;>(try simp only[hb0,decide_eq_true_eq,decide_eq_false_iff_not,simprocAttr]at hb)<;>(try(exfalso;omega)))|((first|refine hK _ _ ?_|(clear hK;refine hK _ _ ?_));clear hK;try simp only[pst0,simprocAttr])))
     refine⟨?_⟩
     refine a_genR (fun S h3=>S 1= .cptr (Fm.mk op name args params exprs kids).cells∧S 5= .sc (.bool (!(name.data.toList==(#[]:Array UInt8).toList)))∧S 6= .sc (.int .i64 args.length)∧S 7= .sc (.int .i64 params.length)∧S 8= .sc (.int .i64 exprs.length)∧S 9= .sc (.int .i64 kids.length)∧h3=h2) ?_ ?_
     ·simp only[Ty.w,simprocAttr,g1,Fm.cells]
      try trivial
     clear g1 g3 hd S hlA hlP hlE hlK
     rintro S h2 ⟨g1,g5,g6,g7,g8,g9,rfl⟩
     simp only[Fm.cells]at g1
     cases k1:(op.data.toList==(#[97,116,111,109]:Array UInt8).toList)with
     |true=>
      simp only[k1,Bool.true_or,Bool.or_true,Bool.false_or,if_true,Bool.false_eq_true,if_false]at hF
      generalize nameB name=bN at hN hF
      cases bN with
      |false=>
       try simp only[Bool.false_and,Bool.and_false]at hF
       subst hF
       repeat'(first|refine a_seq fun K hK=>?_|(refine a_regionS ?_;simp(maxSteps:=2000000) only[Ty.w,simprocAttr,g1,g5,g6,g7,g8,g9,Bool.not_true,Bool.not_false,wa,wb,wc,wd,we,wf,k1])|(refine hK _ _ ?_;clear hK;try simp only[pst0,simprocAttr]))
       refine owp_useQ (hN _) (by(try simp only[Ty.w,simprocAttr,g1,g5,g6,g7,g8,g9,Bool.not_true,Bool.not_false,wa,wb,wc,wd,we,wf,k1]);try rfl) ?_;simp(maxSteps:=2000000) only[Ty.w,simprocAttr,g1,g5,g6,g7,g8,g9,Bool.not_true,Bool.not_false,wa,wb,wc,wd,we,wf,k1]
       repeat'(first|(refine a_ret ?_;simp(maxSteps:=2000000) only[Ty.w,simprocAttr,g1,g5,g6,g7,g8,g9,Bool.not_true,Bool.not_false,wa,wb,wc,wd,we,wf,k1])|(refine hK _ _ ?_;clear hK;try simp only[pst0,simprocAttr]))
       all_goals rfl
      |true=>
       try simp only[Bool.true_and,Bool.and_true]at hF
       generalize args.all termB=bA at hA hF
       cases bA with
       |false=>
        try simp only[Bool.false_and,Bool.and_false]at hF
        subst hF
        have W:=And.intro g1 (And.intro g5 (And.intro g6 (And.intro g7 (And.intro g8 (And.intro g9 (And.intro wa (And.intro wb (And.intro wc (And.intro wd (And.intro we (And.intro wf k1)))))))))))
        repeat'(first|refine a_seq fun K hK=>?_|(refine a_regionS ?_;simp(maxSteps:=2000000) only[Ty.w,simprocAttr,W,Bool.not_true,Bool.not_false])|(refine hK _ _ ?_;clear hK;try simp only[pst0,simprocAttr]))
        refine owp_useQ (hN _) (by(try simp only[Ty.w,simprocAttr,W,Bool.not_true,Bool.not_false]);try rfl) ?_;simp(maxSteps:=2000000) only[Ty.w,simprocAttr,W,Bool.not_true,Bool.not_false]
        skip
        refine owp_useQ (hA _) (by(try simp only[Ty.w,simprocAttr,W,Bool.not_true,Bool.not_false]);try rfl) ?_;simp(maxSteps:=2000000) only[Ty.w,simprocAttr,W,Bool.not_true,Bool.not_false]
        repeat'(first|(refine a_ret ?_;simp(maxSteps:=2000000) only[Ty.w,simprocAttr,W,Bool.not_true,Bool.not_false])|(refine hK _ _ ?_;clear hK;try simp only[pst0,simprocAttr]))
        all_goals rfl
       |true=>
        try simp only[Bool.true_and,Bool.and_true]at hF
        cases q2:((((params.length:Int)+exprs.length)+kids.length)==0)with
        |false=>
         simp only[q2,Bool.false_and,Bool.and_false]at hF
         subst hF
         have W:=And.intro g1 (And.intro g5 (And.intro g6 (And.intro g7 (And.intro g8 (And.intro g9 (And.intro wa (And.intro wb (And.intro wc (And.intro wd (And.intro we (And.intro wf (And.intro k1 q2))))))))))))
         repeat'(first|refine a_seq fun K hK=>?_|(refine a_regionS ?_;simp(maxSteps:=2000000) only[Ty.w,simprocAttr,W,Bool.not_true,Bool.not_false])|(refine hK _ _ ?_;clear hK;try simp only[pst0,simprocAttr]))
         refine owp_useQ (hN _) (by(try simp only[Ty.w,simprocAttr,W,Bool.not_true,Bool.not_false]);try rfl) ?_;simp(maxSteps:=2000000) only[Ty.w,simprocAttr,W,Bool.not_true,Bool.not_false]
         skip
         refine owp_useQ (hA _) (by(try simp only[Ty.w,simprocAttr,W,Bool.not_true,Bool.not_false]);try rfl) ?_;simp(maxSteps:=2000000) only[Ty.w,simprocAttr,W,Bool.not_true,Bool.not_false]
         repeat'(first|(refine a_ret ?_;simp(maxSteps:=2000000) only[Ty.w,simprocAttr,W,Bool.not_true,Bool.not_false])|(refine hK _ _ ?_;clear hK;try simp only[pst0,simprocAttr]))
         all_goals rfl
        |true=>
         simp only[q2,Bool.true_and,Bool.and_true]at hF
         subst hF
         have W:=And.intro g1 (And.intro g5 (And.intro g6 (And.intro g7 (And.intro g8 (And.intro g9 (And.intro wa (And.intro wb (And.intro wc (And.intro wd (And.intro we (And.intro wf (And.intro k1 q2))))))))))))
         repeat'(first|refine a_seq fun K hK=>?_|(refine a_regionS ?_;simp(maxSteps:=2000000) only[Ty.w,simprocAttr,W,Bool.not_true,Bool.not_false])|(refine hK _ _ ?_;clear hK;try simp only[pst0,simprocAttr]))
         refine owp_useQ (hN _) (by(try simp only[Ty.w,simprocAttr,W,Bool.not_true,Bool.not_false]);try rfl) ?_;simp(maxSteps:=2000000) only[Ty.w,simprocAttr,W,Bool.not_true,Bool.not_false]
         skip
         refine owp_useQ (hA _) (by(try simp only[Ty.w,simprocAttr,W,Bool.not_true,Bool.not_false]);try rfl) ?_;simp(maxSteps:=2000000) only[Ty.w,simprocAttr,W,Bool.not_true,Bool.not_false]
         repeat'(first|(refine a_ret ?_;simp(maxSteps:=2000000) only[Ty.w,simprocAttr,W,Bool.not_true,Bool.not_false])|(refine hK _ _ ?_;clear hK;try simp only[pst0,simprocAttr]))
         all_goals rfl
     |false=>
      simp only[k1,Bool.true_or,Bool.or_true,Bool.false_or,if_true,Bool.false_eq_true,if_false]at hF
      cases k2:(op.data.toList==(#[115,97,109,101]:Array UInt8).toList)with
      |true=>
       simp only[k2,Bool.true_or,Bool.or_true,Bool.false_or,if_true,Bool.false_eq_true,if_false]at hF
       cases q0:(name.data.toList==(#[]:Array UInt8).toList)with
       |false=>
        simp only[q0,Bool.false_and,Bool.and_false]at hF
        subst hF
        repeat'(first|refine a_seq fun K hK=>?_|((first|refine a_regionS ?_|refine a_ret ?_);simp(maxSteps:=2000000) only[Ty.w,simprocAttr,g1,g5,g6,g7,g8,g9,Bool.not_true,Bool.not_false,wa,wb,wc,wd,we,wf,k1,k2,q0])|(refine hK _ _ ?_;clear hK;try simp only[pst0,simprocAttr]))
        all_goals rfl
       |true=>
        simp only[q0,Bool.true_and,Bool.and_true]at hF
        cases q1:((args.length:Int)==2)with
        |false=>
         simp only[q1,Bool.false_and,Bool.and_false]at hF
         subst hF
         repeat'(first|refine a_seq fun K hK=>?_|((first|refine a_regionS ?_|refine a_ret ?_);simp(maxSteps:=2000000) only[Ty.w,simprocAttr,g1,g5,g6,g7,g8,g9,Bool.not_true,Bool.not_false,wa,wb,wc,wd,we,wf,k1,k2,q0,q1])|(refine hK _ _ ?_;clear hK;try simp only[pst0,simprocAttr]))
         all_goals rfl
        |true=>
         simp only[q1,Bool.true_and,Bool.and_true]at hF
         generalize args.all termB=bA at hA hF
         cases bA with
         |false=>
          try simp only[Bool.false_and,Bool.and_false]at hF
          subst hF
          repeat'(first|refine a_seq fun K hK=>?_|(refine a_regionS ?_;simp(maxSteps:=2000000) only[Ty.w,simprocAttr,g1,g5,g6,g7,g8,g9,Bool.not_true,Bool.not_false,wa,wb,wc,wd,we,wf,k1,k2,q0,q1])|(refine hK _ _ ?_;clear hK;try simp only[pst0,simprocAttr]))
          refine owp_useQ (hA _) (by(try simp only[Ty.w,simprocAttr,g1,g5,g6,g7,g8,g9,Bool.not_true,Bool.not_false,wa,wb,wc,wd,we,wf,k1,k2,q0,q1]);try rfl) ?_;simp(maxSteps:=2000000) only[Ty.w,simprocAttr,g1,g5,g6,g7,g8,g9,Bool.not_true,Bool.not_false,wa,wb,wc,wd,we,wf,k1,k2,q0,q1]
          repeat'(first|(refine a_ret ?_;simp(maxSteps:=2000000) only[Ty.w,simprocAttr,g1,g5,g6,g7,g8,g9,Bool.not_true,Bool.not_false,wa,wb,wc,wd,we,wf,k1,k2,q0,q1])|(refine hK _ _ ?_;clear hK;try simp only[pst0,simprocAttr]))
          all_goals rfl
         |true=>
          try simp only[Bool.true_and,Bool.and_true]at hF
          cases q3:((((params.length:Int)+exprs.length)+kids.length)==0)with
          |false=>
           simp only[q3,Bool.false_and,Bool.and_false]at hF
           subst hF
           repeat'(first|refine a_seq fun K hK=>?_|(refine a_regionS ?_;simp(maxSteps:=2000000) only[Ty.w,simprocAttr,g1,g5,g6,g7,g8,g9,Bool.not_true,Bool.not_false,wa,wb,wc,wd,we,wf,k1,k2,q0,q1,q3])|(refine hK _ _ ?_;clear hK;try simp only[pst0,simprocAttr]))
           refine owp_useQ (hA _) (by(try simp only[Ty.w,simprocAttr,g1,g5,g6,g7,g8,g9,Bool.not_true,Bool.not_false,wa,wb,wc,wd,we,wf,k1,k2,q0,q1,q3]);try rfl) ?_;simp(maxSteps:=2000000) only[Ty.w,simprocAttr,g1,g5,g6,g7,g8,g9,Bool.not_true,Bool.not_false,wa,wb,wc,wd,we,wf,k1,k2,q0,q1,q3]
           repeat'(first|(refine a_ret ?_;simp(maxSteps:=2000000) only[Ty.w,simprocAttr,g1,g5,g6,g7,g8,g9,Bool.not_true,Bool.not_false,wa,wb,wc,wd,we,wf,k1,k2,q0,q1,q3])|(refine hK _ _ ?_;clear hK;try simp only[pst0,simprocAttr]))
           all_goals rfl
          |true=>
           simp only[q3,Bool.true_and,Bool.and_true]at hF
           subst hF
           repeat'(first|refine a_seq fun K hK=>?_|(refine a_regionS ?_;simp(maxSteps:=2000000) only[Ty.w,simprocAttr,g1,g5,g6,g7,g8,g9,Bool.not_true,Bool.not_false,wa,wb,wc,wd,we,wf,k1,k2,q0,q1,q3])|(refine hK _ _ ?_;clear hK;try simp only[pst0,simprocAttr]))
           refine owp_useQ (hA _) (by(try simp only[Ty.w,simprocAttr,g1,g5,g6,g7,g8,g9,Bool.not_true,Bool.not_false,wa,wb,wc,wd,we,wf,k1,k2,q0,q1,q3]);try rfl) ?_;simp(maxSteps:=2000000) only[Ty.w,simprocAttr,g1,g5,g6,g7,g8,g9,Bool.not_true,Bool.not_false,wa,wb,wc,wd,we,wf,k1,k2,q0,q1,q3]
           repeat'(first|(refine a_ret ?_;simp(maxSteps:=2000000) only[Ty.w,simprocAttr,g1,g5,g6,g7,g8,g9,Bool.not_true,Bool.not_false,wa,wb,wc,wd,we,wf,k1,k2,q0,q1,q3])|(refine hK _ _ ?_;clear hK;try simp only[pst0,simprocAttr]))
           all_goals rfl
      |false=>
       simp only[k2,Bool.true_or,Bool.or_true,Bool.false_or,if_true,Bool.false_eq_true,if_false]at hF
       cases k3:(op.data.toList==(#[60]:Array UInt8).toList)with
       |true=>
        simp only[k3,Bool.true_or,Bool.or_true,Bool.false_or,if_true,Bool.false_eq_true,if_false]at hF
        cases q0:(name.data.toList==(#[]:Array UInt8).toList)with
        |false=>
         simp only[q0,Bool.false_and,Bool.and_false]at hF
         subst hF
         repeat'(first|refine a_seq fun K hK=>?_|((first|refine a_regionS ?_|refine a_ret ?_);simp(maxSteps:=2000000) only[Ty.w,simprocAttr,g1,g5,g6,g7,g8,g9,Bool.not_true,Bool.not_false,wa,wb,wc,wd,we,wf,k1,k2,k3,q0])|(refine a_skip ?_;try simp only[pst0,simprocAttr])|(refine a_cond _ (by(try simp(maxSteps:=2000000) only[Ty.w,simprocAttr,g1,g5,g6,g7,g8,g9,Bool.not_true,Bool.not_false,wa,wb,wc,wd,we,wf,k1,k2,k3,q0]);rfl) (fun hb=>?_) (fun hb=>?_)<;>(try simp only[hb0,decide_eq_true_eq,decide_eq_false_iff_not,simprocAttr]at hb)<;>(try(exfalso;omega)))|(refine hK _ _ ?_;clear hK;try simp only[pst0,simprocAttr]))
         all_goals rfl
        |true=>
         simp only[q0,Bool.true_and,Bool.and_true]at hF
         cases q1:((((args.length:Int)+params.length)+kids.length)==0)with
         |false=>
          simp only[q1,Bool.false_and,Bool.and_false]at hF
          subst hF
          repeat'(first|refine a_seq fun K hK=>?_|((first|refine a_regionS ?_|refine a_ret ?_);simp(maxSteps:=2000000) only[Ty.w,simprocAttr,g1,g5,g6,g7,g8,g9,Bool.not_true,Bool.not_false,wa,wb,wc,wd,we,wf,k1,k2,k3,q0,q1])|(refine a_skip ?_;try simp only[pst0,simprocAttr])|(refine a_cond _ (by(try simp(maxSteps:=2000000) only[Ty.w,simprocAttr,g1,g5,g6,g7,g8,g9,Bool.not_true,Bool.not_false,wa,wb,wc,wd,we,wf,k1,k2,k3,q0,q1]);rfl) (fun hb=>?_) (fun hb=>?_)<;>(try simp only[hb0,decide_eq_true_eq,decide_eq_false_iff_not,simprocAttr]at hb)<;>(try(exfalso;omega)))|(refine hK _ _ ?_;clear hK;try simp only[pst0,simprocAttr]))
          all_goals rfl
         |true=>
          simp only[q1,Bool.true_and,Bool.and_true]at hF
          cases q2:((exprs.length:Int)==2)with
          |false=>
           simp only[q2,Bool.false_and,Bool.and_false]at hF
           subst hF
           repeat'(first|refine a_seq fun K hK=>?_|((first|refine a_regionS ?_|refine a_ret ?_);simp(maxSteps:=2000000) only[Ty.w,simprocAttr,g1,g5,g6,g7,g8,g9,Bool.not_true,Bool.not_false,wa,wb,wc,wd,we,wf,k1,k2,k3,q0,q1,q2])|(refine a_skip ?_;try simp only[pst0,simprocAttr])|(refine a_cond _ (by(try simp(maxSteps:=2000000) only[Ty.w,simprocAttr,g1,g5,g6,g7,g8,g9,Bool.not_true,Bool.not_false,wa,wb,wc,wd,we,wf,k1,k2,k3,q0,q1,q2]);rfl) (fun hb=>?_) (fun hb=>?_)<;>(try simp only[hb0,decide_eq_true_eq,decide_eq_false_iff_not,simprocAttr]at hb)<;>(try(exfalso;omega)))|(refine hK _ _ ?_;clear hK;try simp only[pst0,simprocAttr]))
           all_goals rfl
          |true=>
           simp only[q2,Bool.true_and,Bool.and_true]at hF
           subst hF
           repeat'(first|refine a_seq fun K hK=>?_|((first|refine a_regionS ?_|refine a_ret ?_);simp(maxSteps:=2000000) only[Ty.w,simprocAttr,g1,g5,g6,g7,g8,g9,Bool.not_true,Bool.not_false,wa,wb,wc,wd,we,wf,k1,k2,k3,q0,q1,q2])|(refine a_skip ?_;try simp only[pst0,simprocAttr])|(refine a_cond _ (by(try simp(maxSteps:=2000000) only[Ty.w,simprocAttr,g1,g5,g6,g7,g8,g9,Bool.not_true,Bool.not_false,wa,wb,wc,wd,we,wf,k1,k2,k3,q0,q1,q2]);rfl) (fun hb=>?_) (fun hb=>?_)<;>(try simp only[hb0,decide_eq_true_eq,decide_eq_false_iff_not,simprocAttr]at hb)<;>(try(exfalso;omega)))|(refine hK _ _ ?_;clear hK;try simp only[pst0,simprocAttr]))
           all_goals rfl
       |false=>
        simp only[k3,Bool.true_or,Bool.or_true,Bool.false_or,if_true,Bool.false_eq_true,if_false]at hF
        cases k4:(op.data.toList==(#[60,61]:Array UInt8).toList)with
        |true=>
         simp only[k4,Bool.true_or,Bool.or_true,Bool.false_or,if_true,Bool.false_eq_true,if_false]at hF
         cases q0:(name.data.toList==(#[]:Array UInt8).toList)with
         |false=>
          simp only[q0,Bool.false_and,Bool.and_false]at hF
          subst hF
          repeat'(first|refine a_seq fun K hK=>?_|((first|refine a_regionS ?_|refine a_ret ?_);simp(maxSteps:=2000000) only[Ty.w,simprocAttr,g1,g5,g6,g7,g8,g9,Bool.not_true,Bool.not_false,wa,wb,wc,wd,we,wf,k1,k2,k3,k4,q0])|(refine a_skip ?_;try simp only[pst0,simprocAttr])|(refine a_cond _ (by(try simp(maxSteps:=2000000) only[Ty.w,simprocAttr,g1,g5,g6,g7,g8,g9,Bool.not_true,Bool.not_false,wa,wb,wc,wd,we,wf,k1,k2,k3,k4,q0]);rfl) (fun hb=>?_) (fun hb=>?_)<;>(try simp only[hb0,decide_eq_true_eq,decide_eq_false_iff_not,simprocAttr]at hb)<;>(try(exfalso;omega)))|(refine hK _ _ ?_;clear hK;try simp only[pst0,simprocAttr]))
          all_goals rfl
         |true=>
          simp only[q0,Bool.true_and,Bool.and_true]at hF
          cases q1:((((args.length:Int)+params.length)+kids.length)==0)with
          |false=>
           simp only[q1,Bool.false_and,Bool.and_false]at hF
           subst hF
           repeat'(first|refine a_seq fun K hK=>?_|((first|refine a_regionS ?_|refine a_ret ?_);simp(maxSteps:=2000000) only[Ty.w,simprocAttr,g1,g5,g6,g7,g8,g9,Bool.not_true,Bool.not_false,wa,wb,wc,wd,we,wf,k1,k2,k3,k4,q0,q1])|(refine a_skip ?_;try simp only[pst0,simprocAttr])|(refine a_cond _ (by(try simp(maxSteps:=2000000) only[Ty.w,simprocAttr,g1,g5,g6,g7,g8,g9,Bool.not_true,Bool.not_false,wa,wb,wc,wd,we,wf,k1,k2,k3,k4,q0,q1]);rfl) (fun hb=>?_) (fun hb=>?_)<;>(try simp only[hb0,decide_eq_true_eq,decide_eq_false_iff_not,simprocAttr]at hb)<;>(try(exfalso;omega)))|(refine hK _ _ ?_;clear hK;try simp only[pst0,simprocAttr]))
           all_goals rfl
          |true=>
           simp only[q1,Bool.true_and,Bool.and_true]at hF
           cases q2:((exprs.length:Int)==2)with
           |false=>
            simp only[q2,Bool.false_and,Bool.and_false]at hF
            subst hF
            repeat'(first|refine a_seq fun K hK=>?_|((first|refine a_regionS ?_|refine a_ret ?_);simp(maxSteps:=2000000) only[Ty.w,simprocAttr,g1,g5,g6,g7,g8,g9,Bool.not_true,Bool.not_false,wa,wb,wc,wd,we,wf,k1,k2,k3,k4,q0,q1,q2])|(refine a_skip ?_;try simp only[pst0,simprocAttr])|(refine a_cond _ (by(try simp(maxSteps:=2000000) only[Ty.w,simprocAttr,g1,g5,g6,g7,g8,g9,Bool.not_true,Bool.not_false,wa,wb,wc,wd,we,wf,k1,k2,k3,k4,q0,q1,q2]);rfl) (fun hb=>?_) (fun hb=>?_)<;>(try simp only[hb0,decide_eq_true_eq,decide_eq_false_iff_not,simprocAttr]at hb)<;>(try(exfalso;omega)))|(refine hK _ _ ?_;clear hK;try simp only[pst0,simprocAttr]))
            all_goals rfl
           |true=>
            simp only[q2,Bool.true_and,Bool.and_true]at hF
            subst hF
            repeat'(first|refine a_seq fun K hK=>?_|((first|refine a_regionS ?_|refine a_ret ?_);simp(maxSteps:=2000000) only[Ty.w,simprocAttr,g1,g5,g6,g7,g8,g9,Bool.not_true,Bool.not_false,wa,wb,wc,wd,we,wf,k1,k2,k3,k4,q0,q1,q2])|(refine a_skip ?_;try simp only[pst0,simprocAttr])|(refine a_cond _ (by(try simp(maxSteps:=2000000) only[Ty.w,simprocAttr,g1,g5,g6,g7,g8,g9,Bool.not_true,Bool.not_false,wa,wb,wc,wd,we,wf,k1,k2,k3,k4,q0,q1,q2]);rfl) (fun hb=>?_) (fun hb=>?_)<;>(try simp only[hb0,decide_eq_true_eq,decide_eq_false_iff_not,simprocAttr]at hb)<;>(try(exfalso;omega)))|(refine hK _ _ ?_;clear hK;try simp only[pst0,simprocAttr]))
            all_goals rfl
        |false=>
         simp only[k4,Bool.true_or,Bool.or_true,Bool.false_or,if_true,Bool.false_eq_true,if_false]at hF
         cases k5:(op.data.toList==(#[61]:Array UInt8).toList)with
         |true=>
          simp only[k5,Bool.true_or,Bool.or_true,Bool.false_or,if_true,Bool.false_eq_true,if_false]at hF
          cases q0:(name.data.toList==(#[]:Array UInt8).toList)with
          |false=>
           simp only[q0,Bool.false_and,Bool.and_false]at hF
           subst hF
           repeat'(first|refine a_seq fun K hK=>?_|((first|refine a_regionS ?_|refine a_ret ?_);simp(maxSteps:=2000000) only[Ty.w,simprocAttr,g1,g5,g6,g7,g8,g9,Bool.not_true,Bool.not_false,wa,wb,wc,wd,we,wf,k1,k2,k3,k4,k5,q0])|(refine a_cond _ (by(try simp(maxSteps:=2000000) only[Ty.w,simprocAttr,g1,g5,g6,g7,g8,g9,Bool.not_true,Bool.not_false,wa,wb,wc,wd,we,wf,k1,k2,k3,k4,k5,q0]);rfl) (fun hb=>?_) (fun hb=>?_)<;>(try simp only[hb0,decide_eq_true_eq,decide_eq_false_iff_not,simprocAttr]at hb)<;>(try(exfalso;omega)))|(refine hK _ _ ?_;clear hK;try simp only[pst0,simprocAttr]))
           all_goals rfl
          |true=>
           simp only[q0,Bool.true_and,Bool.and_true]at hF
           cases q1:((((args.length:Int)+params.length)+kids.length)==0)with
           |false=>
            simp only[q1,Bool.false_and,Bool.and_false]at hF
            subst hF
            repeat'(first|refine a_seq fun K hK=>?_|((first|refine a_regionS ?_|refine a_ret ?_);simp(maxSteps:=2000000) only[Ty.w,simprocAttr,g1,g5,g6,g7,g8,g9,Bool.not_true,Bool.not_false,wa,wb,wc,wd,we,wf,k1,k2,k3,k4,k5,q0,q1])|(refine a_cond _ (by(try simp(maxSteps:=2000000) only[Ty.w,simprocAttr,g1,g5,g6,g7,g8,g9,Bool.not_true,Bool.not_false,wa,wb,wc,wd,we,wf,k1,k2,k3,k4,k5,q0,q1]);rfl) (fun hb=>?_) (fun hb=>?_)<;>(try simp only[hb0,decide_eq_true_eq,decide_eq_false_iff_not,simprocAttr]at hb)<;>(try(exfalso;omega)))|(refine hK _ _ ?_;clear hK;try simp only[pst0,simprocAttr]))
            all_goals rfl
           |true=>
            simp only[q1,Bool.true_and,Bool.and_true]at hF
            cases q2:((exprs.length:Int)==2)with
            |false=>
             simp only[q2,Bool.false_and,Bool.and_false]at hF
             subst hF
             repeat'(first|refine a_seq fun K hK=>?_|((first|refine a_regionS ?_|refine a_ret ?_);simp(maxSteps:=2000000) only[Ty.w,simprocAttr,g1,g5,g6,g7,g8,g9,Bool.not_true,Bool.not_false,wa,wb,wc,wd,we,wf,k1,k2,k3,k4,k5,q0,q1,q2])|(refine a_cond _ (by(try simp(maxSteps:=2000000) only[Ty.w,simprocAttr,g1,g5,g6,g7,g8,g9,Bool.not_true,Bool.not_false,wa,wb,wc,wd,we,wf,k1,k2,k3,k4,k5,q0,q1,q2]);rfl) (fun hb=>?_) (fun hb=>?_)<;>(try simp only[hb0,decide_eq_true_eq,decide_eq_false_iff_not,simprocAttr]at hb)<;>(try(exfalso;omega)))|(refine hK _ _ ?_;clear hK;try simp only[pst0,simprocAttr]))
             all_goals rfl
            |true=>
             simp only[q2,Bool.true_and,Bool.and_true]at hF
             subst hF
             repeat'(first|refine a_seq fun K hK=>?_|((first|refine a_regionS ?_|refine a_ret ?_);simp(maxSteps:=2000000) only[Ty.w,simprocAttr,g1,g5,g6,g7,g8,g9,Bool.not_true,Bool.not_false,wa,wb,wc,wd,we,wf,k1,k2,k3,k4,k5,q0,q1,q2])|(refine a_cond _ (by(try simp(maxSteps:=2000000) only[Ty.w,simprocAttr,g1,g5,g6,g7,g8,g9,Bool.not_true,Bool.not_false,wa,wb,wc,wd,we,wf,k1,k2,k3,k4,k5,q0,q1,q2]);rfl) (fun hb=>?_) (fun hb=>?_)<;>(try simp only[hb0,decide_eq_true_eq,decide_eq_false_iff_not,simprocAttr]at hb)<;>(try(exfalso;omega)))|(refine hK _ _ ?_;clear hK;try simp only[pst0,simprocAttr]))
             all_goals rfl
         |false=>
          simp only[k5,Bool.true_or,Bool.or_true,Bool.false_or,if_true,Bool.false_eq_true,if_false]at hF
          cases k6:(op.data.toList==(#[97,110,100]:Array UInt8).toList)with
          |true=>
           simp only[k6,Bool.true_or,Bool.or_true,Bool.false_or,if_true,Bool.false_eq_true,if_false]at hF
           cases q0:(name.data.toList==(#[]:Array UInt8).toList)with
           |false=>
            simp only[q0,Bool.false_and,Bool.and_false]at hF
            subst hF
            repeat'(first|refine a_seq fun K hK=>?_|((first|refine a_regionS ?_|refine a_ret ?_);simp(maxSteps:=2000000) only[Ty.w,simprocAttr,g1,g5,g6,g7,g8,g9,Bool.not_true,Bool.not_false,wa,wb,wc,wd,we,wf,k1,k2,k3,k4,k5,k6,q0])|(refine a_skip ?_;try simp only[pst0,simprocAttr])|(refine a_cond _ (by(try simp(maxSteps:=2000000) only[Ty.w,simprocAttr,g1,g5,g6,g7,g8,g9,Bool.not_true,Bool.not_false,wa,wb,wc,wd,we,wf,k1,k2,k3,k4,k5,k6,q0]);rfl) (fun hb=>?_) (fun hb=>?_)<;>(try simp only[hb0,decide_eq_true_eq,decide_eq_false_iff_not,simprocAttr]at hb)<;>(try(exfalso;omega)))|(refine hK _ _ ?_;clear hK;try simp only[pst0,simprocAttr]))
            all_goals rfl
           |true=>
            simp only[q0,Bool.true_and,Bool.and_true]at hF
            cases q1:((((args.length:Int)+params.length)+exprs.length)==0)with
            |false=>
             simp only[q1,Bool.false_and,Bool.and_false]at hF
             subst hF
             repeat'(first|refine a_seq fun K hK=>?_|((first|refine a_regionS ?_|refine a_ret ?_);simp(maxSteps:=2000000) only[Ty.w,simprocAttr,g1,g5,g6,g7,g8,g9,Bool.not_true,Bool.not_false,wa,wb,wc,wd,we,wf,k1,k2,k3,k4,k5,k6,q0,q1])|(refine a_skip ?_;try simp only[pst0,simprocAttr])|(refine a_cond _ (by(try simp(maxSteps:=2000000) only[Ty.w,simprocAttr,g1,g5,g6,g7,g8,g9,Bool.not_true,Bool.not_false,wa,wb,wc,wd,we,wf,k1,k2,k3,k4,k5,k6,q0,q1]);rfl) (fun hb=>?_) (fun hb=>?_)<;>(try simp only[hb0,decide_eq_true_eq,decide_eq_false_iff_not,simprocAttr]at hb)<;>(try(exfalso;omega)))|(refine hK _ _ ?_;clear hK;try simp only[pst0,simprocAttr]))
             all_goals rfl
            |true=>
             simp only[q1,Bool.true_and,Bool.and_true]at hF
             subst hF
             repeat'(first|refine a_seq fun K hK=>?_|((first|refine a_regionS ?_|refine a_ret ?_);simp(maxSteps:=2000000) only[Ty.w,simprocAttr,g1,g5,g6,g7,g8,g9,Bool.not_true,Bool.not_false,wa,wb,wc,wd,we,wf,k1,k2,k3,k4,k5,k6,q0,q1])|(refine a_skip ?_;try simp only[pst0,simprocAttr])|(refine a_cond _ (by(try simp(maxSteps:=2000000) only[Ty.w,simprocAttr,g1,g5,g6,g7,g8,g9,Bool.not_true,Bool.not_false,wa,wb,wc,wd,we,wf,k1,k2,k3,k4,k5,k6,q0,q1]);rfl) (fun hb=>?_) (fun hb=>?_)<;>(try simp only[hb0,decide_eq_true_eq,decide_eq_false_iff_not,simprocAttr]at hb)<;>(try(exfalso;omega)))|(refine hK _ _ ?_;clear hK;try simp only[pst0,simprocAttr]))
             all_goals rfl
          |false=>
           simp only[k6,Bool.true_or,Bool.or_true,Bool.false_or,if_true,Bool.false_eq_true,if_false]at hF
           cases k7:(op.data.toList==(#[111,114]:Array UInt8).toList)with
           |true=>
            simp only[k7,Bool.true_or,Bool.or_true,Bool.false_or,if_true,Bool.false_eq_true,if_false]at hF
            cases q0:(name.data.toList==(#[]:Array UInt8).toList)with
            |false=>
             simp only[q0,Bool.false_and,Bool.and_false]at hF
             subst hF
             repeat'(first|refine a_seq fun K hK=>?_|((first|refine a_regionS ?_|refine a_ret ?_);simp(maxSteps:=2000000) only[Ty.w,simprocAttr,g1,g5,g6,g7,g8,g9,Bool.not_true,Bool.not_false,wa,wb,wc,wd,we,wf,k1,k2,k3,k4,k5,k6,k7,q0])|(refine a_cond _ (by(try simp(maxSteps:=2000000) only[Ty.w,simprocAttr,g1,g5,g6,g7,g8,g9,Bool.not_true,Bool.not_false,wa,wb,wc,wd,we,wf,k1,k2,k3,k4,k5,k6,k7,q0]);rfl) (fun hb=>?_) (fun hb=>?_)<;>(try simp only[hb0,decide_eq_true_eq,decide_eq_false_iff_not,simprocAttr]at hb)<;>(try(exfalso;omega)))|(refine hK _ _ ?_;clear hK;try simp only[pst0,simprocAttr]))
             all_goals rfl
            |true=>
             simp only[q0,Bool.true_and,Bool.and_true]at hF
             cases q1:((((args.length:Int)+params.length)+exprs.length)==0)with
             |false=>
              simp only[q1,Bool.false_and,Bool.and_false]at hF
              subst hF
              repeat'(first|refine a_seq fun K hK=>?_|((first|refine a_regionS ?_|refine a_ret ?_);simp(maxSteps:=2000000) only[Ty.w,simprocAttr,g1,g5,g6,g7,g8,g9,Bool.not_true,Bool.not_false,wa,wb,wc,wd,we,wf,k1,k2,k3,k4,k5,k6,k7,q0,q1])|(refine a_cond _ (by(try simp(maxSteps:=2000000) only[Ty.w,simprocAttr,g1,g5,g6,g7,g8,g9,Bool.not_true,Bool.not_false,wa,wb,wc,wd,we,wf,k1,k2,k3,k4,k5,k6,k7,q0,q1]);rfl) (fun hb=>?_) (fun hb=>?_)<;>(try simp only[hb0,decide_eq_true_eq,decide_eq_false_iff_not,simprocAttr]at hb)<;>(try(exfalso;omega)))|(refine hK _ _ ?_;clear hK;try simp only[pst0,simprocAttr]))
              all_goals rfl
             |true=>
              simp only[q1,Bool.true_and,Bool.and_true]at hF
              subst hF
              repeat'(first|refine a_seq fun K hK=>?_|((first|refine a_regionS ?_|refine a_ret ?_);simp(maxSteps:=2000000) only[Ty.w,simprocAttr,g1,g5,g6,g7,g8,g9,Bool.not_true,Bool.not_false,wa,wb,wc,wd,we,wf,k1,k2,k3,k4,k5,k6,k7,q0,q1])|(refine a_cond _ (by(try simp(maxSteps:=2000000) only[Ty.w,simprocAttr,g1,g5,g6,g7,g8,g9,Bool.not_true,Bool.not_false,wa,wb,wc,wd,we,wf,k1,k2,k3,k4,k5,k6,k7,q0,q1]);rfl) (fun hb=>?_) (fun hb=>?_)<;>(try simp only[hb0,decide_eq_true_eq,decide_eq_false_iff_not,simprocAttr]at hb)<;>(try(exfalso;omega)))|(refine hK _ _ ?_;clear hK;try simp only[pst0,simprocAttr]))
              all_goals rfl
           |false=>
            simp only[k7,Bool.true_or,Bool.or_true,Bool.false_or,if_true,Bool.false_eq_true,if_false]at hF
            cases k8:(op.data.toList==(#[110,111,116]:Array UInt8).toList)with
            |true=>
             simp only[k8,Bool.true_or,Bool.or_true,Bool.false_or,if_true,Bool.false_eq_true,if_false]at hF
             cases q0:(name.data.toList==(#[]:Array UInt8).toList)with
             |false=>
              simp only[q0,Bool.false_and,Bool.and_false]at hF
              subst hF
              repeat'(first|refine a_seq fun K hK=>?_|((first|refine a_regionS ?_|refine a_ret ?_);simp(maxSteps:=2000000) only[Ty.w,simprocAttr,g1,g5,g6,g7,g8,g9,Bool.not_true,Bool.not_false,wa,wb,wc,wd,we,wf,k1,k2,k3,k4,k5,k6,k7,k8,q0])|(refine a_cond _ (by(try simp(maxSteps:=2000000) only[Ty.w,simprocAttr,g1,g5,g6,g7,g8,g9,Bool.not_true,Bool.not_false,wa,wb,wc,wd,we,wf,k1,k2,k3,k4,k5,k6,k7,k8,q0]);rfl) (fun hb=>?_) (fun hb=>?_)<;>(try simp only[hb0,decide_eq_true_eq,decide_eq_false_iff_not,simprocAttr]at hb)<;>(try(exfalso;omega)))|(refine hK _ _ ?_;clear hK;try simp only[pst0,simprocAttr]))
              all_goals rfl
             |true=>
              simp only[q0,Bool.true_and,Bool.and_true]at hF
              cases q1:((((args.length:Int)+params.length)+exprs.length)==0)with
              |false=>
               simp only[q1,Bool.false_and,Bool.and_false]at hF
               subst hF
               repeat'(first|refine a_seq fun K hK=>?_|((first|refine a_regionS ?_|refine a_ret ?_);simp(maxSteps:=2000000) only[Ty.w,simprocAttr,g1,g5,g6,g7,g8,g9,Bool.not_true,Bool.not_false,wa,wb,wc,wd,we,wf,k1,k2,k3,k4,k5,k6,k7,k8,q0,q1])|(refine a_cond _ (by(try simp(maxSteps:=2000000) only[Ty.w,simprocAttr,g1,g5,g6,g7,g8,g9,Bool.not_true,Bool.not_false,wa,wb,wc,wd,we,wf,k1,k2,k3,k4,k5,k6,k7,k8,q0,q1]);rfl) (fun hb=>?_) (fun hb=>?_)<;>(try simp only[hb0,decide_eq_true_eq,decide_eq_false_iff_not,simprocAttr]at hb)<;>(try(exfalso;omega)))|(refine hK _ _ ?_;clear hK;try simp only[pst0,simprocAttr]))
               all_goals rfl
              |true=>
               simp only[q1,Bool.true_and,Bool.and_true]at hF
               cases q2:((kids.length:Int)==1)with
               |false=>
                simp only[q2,Bool.false_and,Bool.and_false]at hF
                subst hF
                repeat'(first|refine a_seq fun K hK=>?_|((first|refine a_regionS ?_|refine a_ret ?_);simp(maxSteps:=2000000) only[Ty.w,simprocAttr,g1,g5,g6,g7,g8,g9,Bool.not_true,Bool.not_false,wa,wb,wc,wd,we,wf,k1,k2,k3,k4,k5,k6,k7,k8,q0,q1,q2])|(refine a_cond _ (by(try simp(maxSteps:=2000000) only[Ty.w,simprocAttr,g1,g5,g6,g7,g8,g9,Bool.not_true,Bool.not_false,wa,wb,wc,wd,we,wf,k1,k2,k3,k4,k5,k6,k7,k8,q0,q1,q2]);rfl) (fun hb=>?_) (fun hb=>?_)<;>(try simp only[hb0,decide_eq_true_eq,decide_eq_false_iff_not,simprocAttr]at hb)<;>(try(exfalso;omega)))|(refine hK _ _ ?_;clear hK;try simp only[pst0,simprocAttr]))
                all_goals rfl
               |true=>
                simp only[q2,Bool.true_and,Bool.and_true]at hF
                subst hF
                repeat'(first|refine a_seq fun K hK=>?_|((first|refine a_regionS ?_|refine a_ret ?_);simp(maxSteps:=2000000) only[Ty.w,simprocAttr,g1,g5,g6,g7,g8,g9,Bool.not_true,Bool.not_false,wa,wb,wc,wd,we,wf,k1,k2,k3,k4,k5,k6,k7,k8,q0,q1,q2])|(refine a_cond _ (by(try simp(maxSteps:=2000000) only[Ty.w,simprocAttr,g1,g5,g6,g7,g8,g9,Bool.not_true,Bool.not_false,wa,wb,wc,wd,we,wf,k1,k2,k3,k4,k5,k6,k7,k8,q0,q1,q2]);rfl) (fun hb=>?_) (fun hb=>?_)<;>(try simp only[hb0,decide_eq_true_eq,decide_eq_false_iff_not,simprocAttr]at hb)<;>(try(exfalso;omega)))|(refine hK _ _ ?_;clear hK;try simp only[pst0,simprocAttr]))
                all_goals rfl
            |false=>
             simp only[k8,Bool.true_or,Bool.or_true,Bool.false_or,if_true,Bool.false_eq_true,if_false]at hF
             cases k9:(op.data.toList==(#[105,109,112,108,121]:Array UInt8).toList)with
             |true=>
              simp only[k9,Bool.true_or,Bool.or_true,Bool.false_or,if_true,Bool.false_eq_true,if_false]at hF
              cases q0:(name.data.toList==(#[]:Array UInt8).toList)with
              |false=>
               simp only[q0,Bool.false_and,Bool.and_false]at hF
               subst hF
               repeat'(first|refine a_seq fun K hK=>?_|((first|refine a_regionS ?_|refine a_ret ?_);simp(maxSteps:=2000000) only[Ty.w,simprocAttr,g1,g5,g6,g7,g8,g9,Bool.not_true,Bool.not_false,wa,wb,wc,wd,we,wf,k1,k2,k3,k4,k5,k6,k7,k8,k9,q0])|(refine a_cond _ (by(try simp(maxSteps:=2000000) only[Ty.w,simprocAttr,g1,g5,g6,g7,g8,g9,Bool.not_true,Bool.not_false,wa,wb,wc,wd,we,wf,k1,k2,k3,k4,k5,k6,k7,k8,k9,q0]);rfl) (fun hb=>?_) (fun hb=>?_)<;>(try simp only[hb0,decide_eq_true_eq,decide_eq_false_iff_not,simprocAttr]at hb)<;>(try(exfalso;omega)))|(refine hK _ _ ?_;clear hK;try simp only[pst0,simprocAttr]))
               all_goals rfl
              |true=>
               simp only[q0,Bool.true_and,Bool.and_true]at hF
               cases q1:((((args.length:Int)+params.length)+exprs.length)==0)with
               |false=>
                simp only[q1,Bool.false_and,Bool.and_false]at hF
                subst hF
                repeat'(first|refine a_seq fun K hK=>?_|((first|refine a_regionS ?_|refine a_ret ?_);simp(maxSteps:=2000000) only[Ty.w,simprocAttr,g1,g5,g6,g7,g8,g9,Bool.not_true,Bool.not_false,wa,wb,wc,wd,we,wf,k1,k2,k3,k4,k5,k6,k7,k8,k9,q0,q1])|(refine a_cond _ (by(try simp(maxSteps:=2000000) only[Ty.w,simprocAttr,g1,g5,g6,g7,g8,g9,Bool.not_true,Bool.not_false,wa,wb,wc,wd,we,wf,k1,k2,k3,k4,k5,k6,k7,k8,k9,q0,q1]);rfl) (fun hb=>?_) (fun hb=>?_)<;>(try simp only[hb0,decide_eq_true_eq,decide_eq_false_iff_not,simprocAttr]at hb)<;>(try(exfalso;omega)))|(refine hK _ _ ?_;clear hK;try simp only[pst0,simprocAttr]))
                all_goals rfl
               |true=>
                simp only[q1,Bool.true_and,Bool.and_true]at hF
                cases q2:((kids.length:Int)==2)with
                |false=>
                 simp only[q2,Bool.false_and,Bool.and_false]at hF
                 subst hF
                 repeat'(first|refine a_seq fun K hK=>?_|((first|refine a_regionS ?_|refine a_ret ?_);simp(maxSteps:=2000000) only[Ty.w,simprocAttr,g1,g5,g6,g7,g8,g9,Bool.not_true,Bool.not_false,wa,wb,wc,wd,we,wf,k1,k2,k3,k4,k5,k6,k7,k8,k9,q0,q1,q2])|(refine a_cond _ (by(try simp(maxSteps:=2000000) only[Ty.w,simprocAttr,g1,g5,g6,g7,g8,g9,Bool.not_true,Bool.not_false,wa,wb,wc,wd,we,wf,k1,k2,k3,k4,k5,k6,k7,k8,k9,q0,q1,q2]);rfl) (fun hb=>?_) (fun hb=>?_)<;>(try simp only[hb0,decide_eq_true_eq,decide_eq_false_iff_not,simprocAttr]at hb)<;>(try(exfalso;omega)))|(refine hK _ _ ?_;clear hK;try simp only[pst0,simprocAttr]))
                 all_goals rfl
                |true=>
                 simp only[q2,Bool.true_and,Bool.and_true]at hF
                 subst hF
                 repeat'(first|refine a_seq fun K hK=>?_|((first|refine a_regionS ?_|refine a_ret ?_);simp(maxSteps:=2000000) only[Ty.w,simprocAttr,g1,g5,g6,g7,g8,g9,Bool.not_true,Bool.not_false,wa,wb,wc,wd,we,wf,k1,k2,k3,k4,k5,k6,k7,k8,k9,q0,q1,q2])|(refine a_cond _ (by(try simp(maxSteps:=2000000) only[Ty.w,simprocAttr,g1,g5,g6,g7,g8,g9,Bool.not_true,Bool.not_false,wa,wb,wc,wd,we,wf,k1,k2,k3,k4,k5,k6,k7,k8,k9,q0,q1,q2]);rfl) (fun hb=>?_) (fun hb=>?_)<;>(try simp only[hb0,decide_eq_true_eq,decide_eq_false_iff_not,simprocAttr]at hb)<;>(try(exfalso;omega)))|(refine hK _ _ ?_;clear hK;try simp only[pst0,simprocAttr]))
                 all_goals rfl
             |false=>
              simp only[k9,Bool.true_or,Bool.or_true,Bool.false_or,if_true,Bool.false_eq_true,if_false]at hF
              cases k10:(op.data.toList==(#[102,111,114,97,108,108]:Array UInt8).toList)with
              |true=>
               simp only[k10,Bool.true_or,Bool.or_true,Bool.false_or,if_true,Bool.false_eq_true,if_false]at hF
               cases q0:(name.data.toList==(#[]:Array UInt8).toList)with
               |false=>
                simp only[q0,Bool.false_and,Bool.and_false]at hF
                subst hF
                repeat'(first|refine a_seq fun K hK=>?_|((first|refine a_regionS ?_|refine a_ret ?_);simp(maxSteps:=2000000) only[Ty.w,simprocAttr,g1,g5,g6,g7,g8,g9,Bool.not_true,Bool.not_false,wa,wb,wc,wd,we,wf,k1,k2,k3,k4,k5,k6,k7,k8,k9,k10,q0])|(refine a_skip ?_;try simp only[pst0,simprocAttr])|(refine a_cond _ (by(try simp(maxSteps:=2000000) only[Ty.w,simprocAttr,g1,g5,g6,g7,g8,g9,Bool.not_true,Bool.not_false,wa,wb,wc,wd,we,wf,k1,k2,k3,k4,k5,k6,k7,k8,k9,k10,q0]);rfl) (fun hb=>?_) (fun hb=>?_)<;>(try simp only[hb0,decide_eq_true_eq,decide_eq_false_iff_not,simprocAttr]at hb)<;>(try(exfalso;omega)))|(refine hK _ _ ?_;clear hK;try simp only[pst0,simprocAttr]))
                all_goals rfl
               |true=>
                simp only[q0,Bool.true_and,Bool.and_true]at hF
                cases q1:(((args.length:Int)+exprs.length)==0)with
                |false=>
                 simp only[q1,Bool.false_and,Bool.and_false]at hF
                 subst hF
                 repeat'(first|refine a_seq fun K hK=>?_|((first|refine a_regionS ?_|refine a_ret ?_);simp(maxSteps:=2000000) only[Ty.w,simprocAttr,g1,g5,g6,g7,g8,g9,Bool.not_true,Bool.not_false,wa,wb,wc,wd,we,wf,k1,k2,k3,k4,k5,k6,k7,k8,k9,k10,q0,q1])|(refine a_skip ?_;try simp only[pst0,simprocAttr])|(refine a_cond _ (by(try simp(maxSteps:=2000000) only[Ty.w,simprocAttr,g1,g5,g6,g7,g8,g9,Bool.not_true,Bool.not_false,wa,wb,wc,wd,we,wf,k1,k2,k3,k4,k5,k6,k7,k8,k9,k10,q0,q1]);rfl) (fun hb=>?_) (fun hb=>?_)<;>(try simp only[hb0,decide_eq_true_eq,decide_eq_false_iff_not,simprocAttr]at hb)<;>(try(exfalso;omega)))|(refine hK _ _ ?_;clear hK;try simp only[pst0,simprocAttr]))
                 all_goals rfl
                |true=>
                 simp only[q1,Bool.true_and,Bool.and_true]at hF
                 cases q2:((kids.length:Int)==1)with
                 |false=>
                  simp only[q2,Bool.false_and,Bool.and_false]at hF
                  subst hF
                  repeat'(first|refine a_seq fun K hK=>?_|((first|refine a_regionS ?_|refine a_ret ?_);simp(maxSteps:=2000000) only[Ty.w,simprocAttr,g1,g5,g6,g7,g8,g9,Bool.not_true,Bool.not_false,wa,wb,wc,wd,we,wf,k1,k2,k3,k4,k5,k6,k7,k8,k9,k10,q0,q1,q2])|(refine a_skip ?_;try simp only[pst0,simprocAttr])|(refine a_cond _ (by(try simp(maxSteps:=2000000) only[Ty.w,simprocAttr,g1,g5,g6,g7,g8,g9,Bool.not_true,Bool.not_false,wa,wb,wc,wd,we,wf,k1,k2,k3,k4,k5,k6,k7,k8,k9,k10,q0,q1,q2]);rfl) (fun hb=>?_) (fun hb=>?_)<;>(try simp only[hb0,decide_eq_true_eq,decide_eq_false_iff_not,simprocAttr]at hb)<;>(try(exfalso;omega)))|(refine hK _ _ ?_;clear hK;try simp only[pst0,simprocAttr]))
                  all_goals rfl
                 |true=>
                  simp only[q2,Bool.true_and,Bool.and_true]at hF
                  generalize params.all pmOk=bP at hP hF
                  cases bP with
                  |false=>
                   try simp only[Bool.false_and,Bool.and_false]at hF
                   subst hF
                   have W:=And.intro g1 (And.intro g5 (And.intro g6 (And.intro g7 (And.intro g8 (And.intro g9 (And.intro wa (And.intro wb (And.intro wc (And.intro wd (And.intro we (And.intro wf (And.intro k1 (And.intro k2 (And.intro k3 (And.intro k4 (And.intro k5 (And.intro k6 (And.intro k7 (And.intro k8 (And.intro k9 (And.intro k10 (And.intro q0 (And.intro q1 q2)))))))))))))))))))))))
                   repeat'(first|refine a_seq fun K hK=>?_|(refine a_regionS ?_;simp(maxSteps:=2000000) only[Ty.w,simprocAttr,W,Bool.not_true,Bool.not_false])|(refine a_skip ?_;try simp only[pst0,simprocAttr])|(refine a_cond _ (by(try simp(maxSteps:=2000000) only[Ty.w,simprocAttr,W,Bool.not_true,Bool.not_false]);rfl) (fun hb=>?_) (fun hb=>?_)<;>(try simp only[hb0,decide_eq_true_eq,decide_eq_false_iff_not,simprocAttr]at hb)<;>(try(exfalso;omega)))|(refine hK _ _ ?_;clear hK;try simp only[pst0,simprocAttr]))
                   refine owp_useQ (hP _) (by(try simp only[Ty.w,simprocAttr,W,Bool.not_true,Bool.not_false]);try rfl) ?_;simp(maxSteps:=2000000) only[Ty.w,simprocAttr,W,Bool.not_true,Bool.not_false]
                   repeat'(first|(refine a_ret ?_;simp(maxSteps:=2000000) only[Ty.w,simprocAttr,W,Bool.not_true,Bool.not_false])|(refine hK _ _ ?_;clear hK;try simp only[pst0,simprocAttr]))
                   all_goals rfl
                  |true=>
                   try simp only[Bool.true_and,Bool.and_true]at hF
                   subst hF
                   have W:=And.intro g1 (And.intro g5 (And.intro g6 (And.intro g7 (And.intro g8 (And.intro g9 (And.intro wa (And.intro wb (And.intro wc (And.intro wd (And.intro we (And.intro wf (And.intro k1 (And.intro k2 (And.intro k3 (And.intro k4 (And.intro k5 (And.intro k6 (And.intro k7 (And.intro k8 (And.intro k9 (And.intro k10 (And.intro q0 (And.intro q1 q2)))))))))))))))))))))))
                   repeat'(first|refine a_seq fun K hK=>?_|(refine a_regionS ?_;simp(maxSteps:=2000000) only[Ty.w,simprocAttr,W,Bool.not_true,Bool.not_false])|(refine a_skip ?_;try simp only[pst0,simprocAttr])|(refine a_cond _ (by(try simp(maxSteps:=2000000) only[Ty.w,simprocAttr,W,Bool.not_true,Bool.not_false]);rfl) (fun hb=>?_) (fun hb=>?_)<;>(try simp only[hb0,decide_eq_true_eq,decide_eq_false_iff_not,simprocAttr]at hb)<;>(try(exfalso;omega)))|(refine hK _ _ ?_;clear hK;try simp only[pst0,simprocAttr]))
                   refine owp_useQ (hP _) (by(try simp only[Ty.w,simprocAttr,W,Bool.not_true,Bool.not_false]);try rfl) ?_;simp(maxSteps:=2000000) only[Ty.w,simprocAttr,W,Bool.not_true,Bool.not_false]
                   repeat'(first|(refine a_ret ?_;simp(maxSteps:=2000000) only[Ty.w,simprocAttr,W,Bool.not_true,Bool.not_false])|(refine hK _ _ ?_;clear hK;try simp only[pst0,simprocAttr]))
                   all_goals rfl
              |false=>
               simp only[k10,Bool.true_or,Bool.or_true,Bool.false_or,if_true,Bool.false_eq_true,if_false]at hF
               cases k11:(op.data.toList==(#[101,120,105,115,116,115]:Array UInt8).toList)with
               |true=>
                simp only[k11,Bool.true_or,Bool.or_true,Bool.false_or,if_true,Bool.false_eq_true,if_false]at hF
                cases q0:(name.data.toList==(#[]:Array UInt8).toList)with
                |false=>
                 simp only[q0,Bool.false_and,Bool.and_false]at hF
                 subst hF
                 repeat'(first|refine a_seq fun K hK=>?_|((first|refine a_regionS ?_|refine a_ret ?_);simp(maxSteps:=2000000) only[Ty.w,simprocAttr,g1,g5,g6,g7,g8,g9,Bool.not_true,Bool.not_false,wa,wb,wc,wd,we,wf,k1,k2,k3,k4,k5,k6,k7,k8,k9,k10,k11,q0])|(refine a_cond _ (by(try simp(maxSteps:=2000000) only[Ty.w,simprocAttr,g1,g5,g6,g7,g8,g9,Bool.not_true,Bool.not_false,wa,wb,wc,wd,we,wf,k1,k2,k3,k4,k5,k6,k7,k8,k9,k10,k11,q0]);rfl) (fun hb=>?_) (fun hb=>?_)<;>(try simp only[hb0,decide_eq_true_eq,decide_eq_false_iff_not,simprocAttr]at hb)<;>(try(exfalso;omega)))|(refine hK _ _ ?_;clear hK;try simp only[pst0,simprocAttr]))
                 all_goals rfl
                |true=>
                 simp only[q0,Bool.true_and,Bool.and_true]at hF
                 cases q1:(((args.length:Int)+exprs.length)==0)with
                 |false=>
                  simp only[q1,Bool.false_and,Bool.and_false]at hF
                  subst hF
                  repeat'(first|refine a_seq fun K hK=>?_|((first|refine a_regionS ?_|refine a_ret ?_);simp(maxSteps:=2000000) only[Ty.w,simprocAttr,g1,g5,g6,g7,g8,g9,Bool.not_true,Bool.not_false,wa,wb,wc,wd,we,wf,k1,k2,k3,k4,k5,k6,k7,k8,k9,k10,k11,q0,q1])|(refine a_cond _ (by(try simp(maxSteps:=2000000) only[Ty.w,simprocAttr,g1,g5,g6,g7,g8,g9,Bool.not_true,Bool.not_false,wa,wb,wc,wd,we,wf,k1,k2,k3,k4,k5,k6,k7,k8,k9,k10,k11,q0,q1]);rfl) (fun hb=>?_) (fun hb=>?_)<;>(try simp only[hb0,decide_eq_true_eq,decide_eq_false_iff_not,simprocAttr]at hb)<;>(try(exfalso;omega)))|(refine hK _ _ ?_;clear hK;try simp only[pst0,simprocAttr]))
                  all_goals rfl
                 |true=>
                  simp only[q1,Bool.true_and,Bool.and_true]at hF
                  cases q2:((kids.length:Int)==1)with
                  |false=>
                   simp only[q2,Bool.false_and,Bool.and_false]at hF
                   subst hF
                   repeat'(first|refine a_seq fun K hK=>?_|((first|refine a_regionS ?_|refine a_ret ?_);simp(maxSteps:=2000000) only[Ty.w,simprocAttr,g1,g5,g6,g7,g8,g9,Bool.not_true,Bool.not_false,wa,wb,wc,wd,we,wf,k1,k2,k3,k4,k5,k6,k7,k8,k9,k10,k11,q0,q1,q2])|(refine a_cond _ (by(try simp(maxSteps:=2000000) only[Ty.w,simprocAttr,g1,g5,g6,g7,g8,g9,Bool.not_true,Bool.not_false,wa,wb,wc,wd,we,wf,k1,k2,k3,k4,k5,k6,k7,k8,k9,k10,k11,q0,q1,q2]);rfl) (fun hb=>?_) (fun hb=>?_)<;>(try simp only[hb0,decide_eq_true_eq,decide_eq_false_iff_not,simprocAttr]at hb)<;>(try(exfalso;omega)))|(refine hK _ _ ?_;clear hK;try simp only[pst0,simprocAttr]))
                   all_goals rfl
                  |true=>
                   simp only[q2,Bool.true_and,Bool.and_true]at hF
                   generalize params.all pmOk=bP at hP hF
                   cases bP with
                   |false=>
                    try simp only[Bool.false_and,Bool.and_false]at hF
                    subst hF
                    have W:=And.intro g1 (And.intro g5 (And.intro g6 (And.intro g7 (And.intro g8 (And.intro g9 (And.intro wa (And.intro wb (And.intro wc (And.intro wd (And.intro we (And.intro wf (And.intro k1 (And.intro k2 (And.intro k3 (And.intro k4 (And.intro k5 (And.intro k6 (And.intro k7 (And.intro k8 (And.intro k9 (And.intro k10 (And.intro k11 (And.intro q0 (And.intro q1 q2))))))))))))))))))))))))
                    repeat'(first|refine a_seq fun K hK=>?_|(refine a_regionS ?_;simp(maxSteps:=2000000) only[Ty.w,simprocAttr,W,Bool.not_true,Bool.not_false])|(refine a_cond _ (by(try simp(maxSteps:=2000000) only[Ty.w,simprocAttr,W,Bool.not_true,Bool.not_false]);rfl) (fun hb=>?_) (fun hb=>?_)<;>(try simp only[hb0,decide_eq_true_eq,decide_eq_false_iff_not,simprocAttr]at hb)<;>(try(exfalso;omega)))|(refine hK _ _ ?_;clear hK;try simp only[pst0,simprocAttr]))
                    refine owp_useQ (hP _) (by(try simp only[Ty.w,simprocAttr,W,Bool.not_true,Bool.not_false]);try rfl) ?_;simp(maxSteps:=2000000) only[Ty.w,simprocAttr,W,Bool.not_true,Bool.not_false]
                    repeat'(first|(refine a_ret ?_;simp(maxSteps:=2000000) only[Ty.w,simprocAttr,W,Bool.not_true,Bool.not_false])|(refine hK _ _ ?_;clear hK;try simp only[pst0,simprocAttr]))
                    all_goals rfl
                   |true=>
                    try simp only[Bool.true_and,Bool.and_true]at hF
                    subst hF
                    have W:=And.intro g1 (And.intro g5 (And.intro g6 (And.intro g7 (And.intro g8 (And.intro g9 (And.intro wa (And.intro wb (And.intro wc (And.intro wd (And.intro we (And.intro wf (And.intro k1 (And.intro k2 (And.intro k3 (And.intro k4 (And.intro k5 (And.intro k6 (And.intro k7 (And.intro k8 (And.intro k9 (And.intro k10 (And.intro k11 (And.intro q0 (And.intro q1 q2))))))))))))))))))))))))
                    repeat'(first|refine a_seq fun K hK=>?_|(refine a_regionS ?_;simp(maxSteps:=2000000) only[Ty.w,simprocAttr,W,Bool.not_true,Bool.not_false])|(refine a_cond _ (by(try simp(maxSteps:=2000000) only[Ty.w,simprocAttr,W,Bool.not_true,Bool.not_false]);rfl) (fun hb=>?_) (fun hb=>?_)<;>(try simp only[hb0,decide_eq_true_eq,decide_eq_false_iff_not,simprocAttr]at hb)<;>(try(exfalso;omega)))|(refine hK _ _ ?_;clear hK;try simp only[pst0,simprocAttr]))
                    refine owp_useQ (hP _) (by(try simp only[Ty.w,simprocAttr,W,Bool.not_true,Bool.not_false]);try rfl) ?_;simp(maxSteps:=2000000) only[Ty.w,simprocAttr,W,Bool.not_true,Bool.not_false]
                    repeat'(first|(refine a_ret ?_;simp(maxSteps:=2000000) only[Ty.w,simprocAttr,W,Bool.not_true,Bool.not_false])|(refine hK _ _ ?_;clear hK;try simp only[pst0,simprocAttr]))
                    all_goals rfl
               |false=>
                simp only[k11,Bool.true_or,Bool.or_true,Bool.false_or,if_true,Bool.false_eq_true,if_false]at hF
                subst hF
                repeat'(first|refine a_seq fun K hK=>?_|(refine a_block ?_)|((first|refine a_regionS ?_|refine a_ret ?_);simp(maxSteps:=2000000) only[Ty.w,simprocAttr,g1,g5,g6,g7,g8,g9,Bool.not_true,Bool.not_false,wa,wb,wc,wd,we,wf,k1,k2,k3,k4,k5,k6,k7,k8,k9,k10,k11])|(refine a_skip ?_;try simp only[pst0,simprocAttr])|(refine a_cond _ (by(try simp(maxSteps:=2000000) only[Ty.w,simprocAttr,g1,g5,g6,g7,g8,g9,Bool.not_true,Bool.not_false,wa,wb,wc,wd,we,wf,k1,k2,k3,k4,k5,k6,k7,k8,k9,k10,k11]);rfl) (fun hb=>?_) (fun hb=>?_)<;>(try simp only[hb0,decide_eq_true_eq,decide_eq_false_iff_not,simprocAttr]at hb)<;>(try(exfalso;omega)))|(refine hK _ _ ?_;clear hK;try simp only[pst0,simprocAttr]))
end Go.Proofs.YtjlkapgpjamnkaaGreat
