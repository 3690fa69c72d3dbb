/- What the claim rests on, part 6: the abstract machine, contracts of the functions, plain data. -/
import Derived.Test.YtjeolbgpllbemaaGreatRows
import Derived.Test.YtjeolbgpllbemaaGreatZw5
set_option linter.unusedVariables false
set_option linter.unusedSimpArgs false
set_option linter.unusedSectionVars false
namespace Go.AM
def Vl.okS(v:Vl):Prop:=v.at_.ok
structure Pb.okS(p:Pb):Prop where
 objects:p.objects.length≤bigN
 init:p.init.length≤bigN∧ ∀ a∈p.init,a.ok
 values:p.values.length≤bigN∧ ∀ v∈p.values,v.okS
 goal:p.goal.ok
end Go.AM
namespace Go.Proofs.YtjeolbgpllbemaaGreat
open Go.AM
set_option maxHeartbeats 4000000
set_option maxRecDepth 20000
end Go.Proofs.YtjeolbgpllbemaaGreat
namespace Go.Proofs.YtjeolbgpllbemaaGreat
open Go.AM
set_option maxHeartbeats 1000000
set_option maxRecDepth 20000
def pbTs:List TypeId:=recTs++[31,59,23,61,24]
theorem partsAt:partsT Tryz.prog 59=[(0,9),(1,25)]:=by kernel_rfl
theorem partsVl:partsT Tryz.prog 61=[(0,59),(2,3)]:=by kernel_rfl
theorem partsPb:partsT Tryz.prog 31=[(0,9),(1,9),(2,22),(3,23),(4,24),(5,29)]:=by kernel_rfl
theorem coAt:Tryz.prog.cellsOf 59=2:=by kernel_rfl
theorem coVl:Tryz.prog.cellsOf 61=3:=by kernel_rfl
theorem coPb:Tryz.prog.cellsOf 31=11:=by kernel_rfl
theorem coAts:Tryz.prog.cellsOf 23=1:=by kernel_rfl
theorem coVls:Tryz.prog.cellsOf 24=1:=by kernel_rfl
theorem byAt:0<Tryz.prog.bytesOf 59:=by rw[show Tryz.prog.bytesOf 59=40 by kernel_rfl];omega
theorem byVl:0<Tryz.prog.bytesOf 61:=by rw[show Tryz.prog.bytesOf 61=48 by kernel_rfl];omega
theorem arg_at{c:Nat}{ps:List PV}(h:Arg Tryz.prog c 59 ps): ∃ a:At,a.ok∧ps=atRow a:=by
 cases c with
 |zero=>simp[Arg]at h
 |succ c=>
  obtain⟨h1,h2⟩:=Arg_struct Tryz.underlying59 h
  rw[coAt]at h1
  rw[partsAt]at h2
  match ps,h1,h2 with
  |[p0,p1],_,h2=>
   have a0:=h2 (0,9) (by simp)
   have a1:=h2 (1,25) (by simp)
   simp only[co9,co24,List.drop_zero,List.drop_succ_cons,List.take_succ_cons,List.take_zero]at a0 a1
   obtain⟨s,hs,e1⟩:=arg_str a0
   obtain⟨t,ht,e2⟩:=arg_strs a1
   simp at e1 e2
   exact⟨⟨s,t⟩,⟨hs,ht⟩,by simp[atRow,e1,e2]⟩
theorem arg_ats{c:Nat}{ps:List PV}(h:Arg Tryz.prog c 23 ps): ∃ l:List At,(l.length≤bigN∧ ∀ a∈l,a.ok)∧ps=[.imm 2 (atRows l)]:=by
 cases c with
 |zero=>simp[Arg]at h
 |succ c=>
  obtain⟨rows,rfl,h1,_,h2⟩:=Arg_slice Tryz.underlying23 h
  obtain⟨xs,rfl,h3⟩:=rows_map (Q:=At.ok) (f:=atRow) rows (fun r hr=>arg_at (h2 r hr).2)
  refine⟨xs,⟨len_le (by simpa using h1) byAt,h3⟩,?_⟩
  rw[coAt];try rfl
end Go.Proofs.YtjeolbgpllbemaaGreat
namespace Go.AM
open Go.ChangeShapes Go.WideShapes
open Go.Proofs.YtjeolbgpllbemaaGreat
mutual
def PV.bulk:PV→Nat
 | .sc (.string s)=>s.size+1
 | .imm _ rows=>PV.bulkR rows+1
 |_=>1
def PV.bulkL:List PV→Nat
 |[]=>0
 |p::ps=>p.bulk+PV.bulkL ps
def PV.bulkR:List (List PV)→Nat
 |[]=>0
 |r::rs=>PV.bulkL r+PV.bulkR rs
end
theorem PV.bulkL_append: ∀ l m:List PV,PV.bulkL (l++m)=PV.bulkL l+PV.bulkL m
 |[],m=>by simp[PV.bulkL]
 |p::l,m=>by simp only[List.cons_append,PV.bulkL,PV.bulkL_append l m];omega
theorem List.getElem?_range_some{k i j:Nat}(h:(List.range k)[i]? =some j):i<k∧i=j:=by
 have h1:=(List.getElem?_eq_some_iff.1 h).1
 simp at h1
 rw[List.getElem?_range h1]at h
 simp at h
 exact⟨h1,h⟩
section
variable {H:Type}{enc:TypeId × Value→H}{P:Program}{w:World}{sp:Nat→Bool}{held:Bool}
theorem bulkR_le: ∀ (rows:List (List PV))(ds:List (DataW H)),rows.length=ds.length→(∀ (i:Nat)(r:List PV),rows[i]? =some r→ ∃ d,ds[i]? =some d∧PV.bulkL r≤Rows.uptoBulk d)→PV.bulkR rows≤Rows.uptoBulkAll ds
 |[],_,_,_=>by simp[PV.bulkR]
 |r::rows,[],h,_=>by simp at h
 |r::rows,d::ds,h,hb=>by
  have h1:=bulkR_le rows ds (by simpa using h) fun i q hq=>by simpa using hb (i+1) q (by simpa using hq)
  obtain⟨d',h2,h3⟩:=hb 0 r rfl
  simp at h2;subst h2
  simp only[PV.bulkR,Rows.uptoBulkAll];omega
theorem parts_rep5{c:Nat}{cs:List Value}:(l:List (Nat × TypeId))→(ds:List (DataW H))→(o:Nat)→inRow P cs.length o l=true→
  (∀ (i:Nat)(p:Nat × TypeId),l[i]? =some p→ ∃ d,ds[i]? =some d∧ ∃ ps,Arg P c p.2 ps∧RA w ps ((cs.drop p.1).take (P.cellsOf p.2))∧PV.bulkL ps≤Rows.uptoBulk d)→
  ∃ ps,RA w ps (cs.drop o)∧(∀ p∈l,Arg P c p.2 ((ps.drop (p.1-o)).take (P.cellsOf p.2)))∧PV.bulkL ps≤Rows.uptoBulkAll ds
 |[],ds,o,h,_=>by
  simp[inRow]at h
  refine⟨[],⟨?_,fun β n=>?_⟩,by simp,by simp[PV.bulkL]⟩
  ·rw [List.drop_of_length_le (by omega)];simp
  ·rw [List.drop_of_length_le (by omega)];simp[RepL]
 |p::l,[],o,h,hp=>by
  obtain⟨d,hd,_⟩:=hp 0 p rfl
  simp at hd
 |p::l,d::ds,o,h,hp=>by
  have hle:=(inRow_le (p::l) o h).2 p (by simp)
  simp only[inRow,Bool.and_eq_true,beq_iff_eq]at h
  obtain⟨ps,h1,h2,h20⟩:=parts_rep5 l ds _ h.2 (fun i q hq=>by simpa using hp (i+1) q (by simpa using hq))
  obtain⟨d',hd,ps0,h3,h4,h40⟩:=hp 0 p rfl
  simp at hd;subst hd
  have hl2:=(inRow_le l _ h.2).2
  have e0:p.1=o:=h.1
  have l0:ps0.length=P.cellsOf p.2:=by rw[h4.len,List.length_take,List.length_drop];omega
  refine⟨ps0++ps,?_,fun q hq=>?_,by rw[PV.bulkL_append];simp only[Rows.uptoBulkAll];omega⟩
  ·have:cs.drop o=(cs.drop p.1).take (P.cellsOf p.2)++cs.drop (o+P.cellsOf p.2):=by
    rw[e0, ← List.drop_drop,List.take_append_drop]
   rw[this]
   exact h4.append h1
  ·rcases List.mem_cons.1 hq with rfl|hq
   ·rw [e0,Nat.sub_self,List.drop_zero,List.take_append_of_le_length (by omega),List.take_of_length_le (by omega)]
    exact h3
   ·have h5:=hl2 q hq
    have:q.1-o=ps0.length+(q.1-(o+P.cellsOf p.2)):=by omega
    rw[this, ← List.drop_drop,List.drop_left]
    exact h2 q hq
theorem arg_rec5{Ts:List TypeId}(hT:covC P Ts=true): ∀ (fuel:Nat)(t:TypeId),Ts.contains t=true→ ∀ (cs:List Value)(x:DataW H × List MemPlace),DataW.trod enc P w 0 sp held fuel t cs=some x→(∀ n∈x.1.weights P t,n≤reachBytes)→
  ∃ ps,Arg P fuel t ps∧RA w ps cs∧PV.bulkL ps≤Rows.uptoBulk x.1
 |0,_,_,_,_,hx,_=>by simp[DataW.trod]at hx
 |c+1,t,ht,cs,x,hx,hw=>by
  have h:=List.all_eq_true.1 hT t (by simpa using ht)
  split at h
  ·rename_i hu
   obtain⟨b,rfl,rfl⟩:=DataW.trod_bool hu hx
   refine⟨[.sc (.bool b)],?_,sc_RA rfl,by simp[PV.bulkL,PV.bulk,Rows.uptoBulk]⟩
   unfold Arg;rw[hu];exact⟨b,rfl⟩
  ·rename_i k hu
   obtain⟨n,rfl,rfl,hwf⟩:=DataW.trod_int hu hx
   refine⟨[.sc (.int k n)],?_,sc_RA rfl,by simp[PV.bulkL,PV.bulk,Rows.uptoBulk]⟩
   unfold Arg;rw[hu];exact⟨n,hwf,rfl⟩
  ·rename_i hu
   obtain⟨s,rfl,rfl,hs⟩:=DataW.trod_string hu hx
   refine⟨[.sc (.string s)],?_,sc_RA rfl,by have e:s.data.toList.length=s.size:=by{rw[Array.length_toList];try rfl};simp only[PV.bulkL,PV.bulk,Rows.uptoBulk];omega⟩
   unfold Arg;rw[hu]
   refine⟨s,?_,rfl⟩
   have:=hw s.data.toList.length (by simp[DataW.weights])
   simpa using this
  ·rename_i e hu
   simp only[Bool.and_eq_true,decide_eq_true_eq]at h
   obtain⟨hpos,hcov⟩:=h
   rcases DataW.trod_slice hu hx with⟨rfl,rfl⟩|⟨a,len,cap,elems,rest,n,hfu,rfl,rfl,hb,hl,hm,hlen,hel,hsp,hns⟩
   ·refine ⟨[.imm (P.cellsOf e) []],?_,⟨fun v hv=>?_,fun β n=>?_⟩,by simp[PV.bulkL,PV.bulk,PV.bulkR,Rows.uptoBulk]⟩
    ·unfold Arg;rw[hu];exact⟨[],rfl,by simp,by simp,by simp⟩
    ·simp at hv;subst hv;rfl
    ·simp only[RepL,Rep]
     exact⟨⟨none,0,rfl,Nat.le_refl _,Nat.zero_le _,.inl (by trivial)⟩,trivial⟩
   ·obtain rfl:c=n:=by omega
    have each: ∀ i,i<len→ ∃ r:List PV,(r.length=P.cellsOf e∧Arg P c e r∧ ∃ d,(elems.map (·.1))[i]? =some d∧PV.bulkL r≤Rows.uptoBulk d)∧ ∃ ci,RA w r ci∧ci.length=P.cellsOf e∧ ∀ j,j<P.cellsOf e→w.cell? ((a.add (i*P.cellsOf e)).add j)=ci[j]?:=by
     intro i hi
     have h1:=hel i hi
     have h2:elems[i]? =some (elems[i]'(by omega)):=List.getElem?_eq_getElem _
     rw[h2,Option.bind_eq_some_iff]at h1
     obtain⟨ci,h3,h4⟩:=h1
     obtain⟨_,h5,h6⟩:=World.cells?_some h3
     obtain⟨r,h7,h8,h80⟩:=arg_rec5 hT c e hcov ci _ h4 (fun m hm=>hw m (by
      simp only[DataW.weights,hu,List.mem_cons,List.mem_append]
      exact .inr (.inl (weightsAll_mem (i:=i) (by rw[List.getElem?_map,h2];try rfl) hm))))
     exact⟨r,⟨by rw[h8.len,h5],h7,_,by rw[List.getElem?_map,h2];try rfl,h80⟩,ci,h8,h5,h6⟩
    obtain⟨rows,hrl,hrows⟩:=exists_list len each
    refine⟨[.imm (P.cellsOf e) rows],?_,⟨fun v hv=>?_,fun β m=>?_⟩,?_⟩
    ·unfold Arg;rw[hu]
     refine⟨rows,rfl,?_,by omega,fun r hr=>?_⟩
     ·have:=hw ((elems.map (·.1)).length*P.bytesOf e+(rest.map (·.1)).length*P.bytesOf e) (by
       simp only[DataW.weights,hu,List.mem_cons,Nat.add_mul,true_or])
      have h9:rows.length=(elems.map (·.1)).length:=by simp[hrl,hlen]
      rw[h9]
      exact Nat.le_trans (Nat.le_add_right _ _) this
     ·obtain ⟨i,hi⟩:=List.getElem?_of_mem hr
      exact⟨(hrows i r hi).1.1,(hrows i r hi).1.2.1⟩
    ·simp at hv;subst hv;rfl
    ·simp only[RepL,Rep]
     refine⟨⟨some a,cap,by rw[hrl],by omega,hm,?_⟩,trivial⟩
     by_cases h0:len=0
     ·left;exact List.length_eq_zero_iff.1 (by omega)
     ·right
      obtain⟨_,_,c0,_,hc0,hcell0⟩:=each 0 (by omega)
      have h10:=hcell0 0 hpos
      rw[List.getElem?_eq_getElem (by omega)]at h10
      simp only[Nat.zero_mul,Addr.add,if_true]at h10
      have hs:a.spot=none:=by
       unfold World.cell? at h10
       split at h10
       ·split at h10
        ·simp at h10
        ·rename_i hsp;simpa using hsp
       ·simp at h10
      have hblk:a.block<w.heap.size:=by
       unfold World.cell? at h10
       split at h10
       ·rename_i hh;exact(Array.getElem?_eq_some_iff.1 hh).1
       ·simp at h10
      refine⟨a.block,a.off,hblk,by cases a;simp only at hs;subst hs;rfl,?_⟩
      rw[RepR_iff]
      intro i r hr
      obtain⟨⟨g1,_⟩,ci,g2,g3,g4⟩:=hrows i r hr
      refine⟨g1,?_⟩
      rw[RepS_iff]
      intro j p hp
      obtain⟨v,hv,hrep⟩:=(g2.2 β m).get hp
      have hj:j<P.cellsOf e:=by rw[← g3];exact(List.getElem?_eq_some_iff.1 hv).1
      refine⟨v,?_,g2.1 v (List.mem_of_getElem? hv),hrep⟩
      rw[← hv, ← g4 j hj]
      congr 1
      cases a
      simp only at hs;subst hs
      simp only[Addr.add]
      split<;>split<;>simp_all<;>omega
    ·have hb5:=bulkR_le rows (elems.map (·.1)) (by simp[hrl,hlen]) fun i r hr=>(hrows i r hr).1.2.2
     simp only[PV.bulkL,PV.bulk,Rows.uptoBulk]
     omega
  ·rename_i fs hu
   simp only[Bool.and_eq_true,List.all_eq_true]at h
   obtain⟨xs,n,hfu,rfl,hcl,hxl,hp⟩:=DataW.trod_struct hu hx
   obtain rfl:c=n:=by omega
   have hpt:partsT P t=fs.toList.map fun f=>(f.offset,f.type):=by unfold partsT;rw[hu]
   obtain⟨ps,h1,h2,h30⟩:=parts_rep5 (w:=w) (c:=c) (cs:=cs) (partsT P t) (xs.map (·.1)) 0 (by rw[hcl];exact h.1) (fun i p hi=>by
    have hcv:=h.2 p (List.mem_of_getElem? hi)
    rw[hpt]at hi
    rw[List.getElem?_map,Option.map_eq_some_iff]at hi
    obtain⟨f,hf,rfl⟩:=hi
    have hf':fs[i]? =some f:=by simpa using hf
    have hi':i<xs.length:=by
     rw[hxl]
     exact(Array.getElem?_eq_some_iff.1 hf').1
    have h3:=hp i f hf'
    rw[List.getElem?_eq_getElem hi']at h3
    exact⟨xs[i].1,by rw[List.getElem?_map,List.getElem?_eq_getElem hi'];try rfl,arg_rec5 hT c f.type hcv _ _ h3 (fun m hm=>hw m (by
     simp only[DataW.weights,hu]
     exact DataW.weights_mem_each (j:=i) (t:=f.type) (d:=xs[i].1) (by rw[List.getElem?_map,hf];try rfl) (by rw[List.getElem?_map,List.getElem?_eq_getElem hi'];try rfl) m hm))⟩)
   refine⟨ps,?_,by simpa using h1,by simp only[Rows.uptoBulk];omega⟩
   unfold Arg;rw[hu]
   exact⟨by rw[h1.len,List.drop_zero,hcl],fun p hpm=>by simpa using h2 p hpm⟩
  ·rename_i k e hu
   simp only[Bool.and_eq_true,List.all_eq_true]at h
   obtain⟨xs,n,hfu,rfl,hcl,hxl,hp⟩:=DataW.trod_array hu hx
   obtain rfl:c=n:=by omega
   have hpt:partsT P t=(List.range k).map fun i=>(i*P.cellsOf e,e):=by unfold partsT;rw[hu]
   obtain⟨ps,h1,h2,h30⟩:=parts_rep5 (w:=w) (c:=c) (cs:=cs) (partsT P t) (xs.map (·.1)) 0 (by rw[hcl];exact h.1) (fun i p hi=>by
    have hcv:=h.2 p (List.mem_of_getElem? hi)
    rw[hpt,List.getElem?_map,Option.map_eq_some_iff]at hi
    obtain⟨j,hj,rfl⟩:=hi
    obtain⟨hjk,rfl⟩:=List.getElem?_range_some hj
    have hi':i<xs.length:=by rw[hxl];exact hjk
    have h3:=hp i hjk
    rw[List.getElem?_eq_getElem hi']at h3
    exact⟨xs[i].1,by rw[List.getElem?_map,List.getElem?_eq_getElem hi'];try rfl,arg_rec5 hT c e hcv _ _ h3 (fun m hm=>hw m (by
     simp only[DataW.weights,hu]
     exact weightsAll_mem (i:=i) (d:=xs[i].1) (by rw[List.getElem?_map,List.getElem?_eq_getElem hi'];try rfl) hm))⟩)
   refine⟨ps,?_,by simpa using h1,by simp only[Rows.uptoBulk];omega⟩
   unfold Arg;rw[hu]
   exact⟨by rw[h1.len,List.drop_zero,hcl],fun p hpm=>by simpa using h2 p hpm⟩
  ·simp at h
theorem arg_value5{Ts:List TypeId}(hT:covC P Ts=true){t:TypeId}(ht:Ts.contains t=true){fs:Array Field}(hu:P.underlying t=some (.struct fs)){v:Value}{d:DataW H}{pl:List MemPlace}
  (h:DataW.Trod enc P w 0 sp held t v d pl)(hv: ∃ base,Value.okWide P w .any base t v)(hw: ∀ n∈d.weights P t,n≤reachBytes):
  ∃ c ps,Arg P c t ps∧(∀ β n,Rep β n (fun b=>b<w.heap.size) w (.agg ps) v)∧PV.bulkL ps≤Rows.uptoBulk d:=by
 obtain⟨fuel,hf⟩:=h
 obtain⟨ps,h1,h2,h3⟩:=arg_rec5 hT fuel t ht _ _ hf hw
 obtain⟨base,hv⟩:=hv
 unfold Value.okWide at hv
 simp only[hu]at hv
 obtain⟨cs,rfl,_⟩:=hv
 refine⟨fuel,ps,h1,fun β n=>?_,h3⟩
 simp only[Rep]
 exact⟨cs.toList,by simp,h2.1,h2.2 β n⟩
end
end Go.AM
namespace Go.AM
theorem bulkR_strs: ∀ l:List ByteArray,l.length≤PV.bulkR (strRows l)
 |[]=>by simp
 |s::l=>by
  have:=bulkR_strs l
  simp only[strRows,List.map_cons,PV.bulkR,PV.bulkL,PV.bulk,List.length_cons]at this⊢
  omega
mutual
theorem Ex.small_bulk: ∀ (e:Ex),PV.bulkL e.cells≤1048576→e.small
 | .mk op name n args kids,h=>by
  simp only[Ex.cells,PV.bulkL,PV.bulk]at h
  simp only[Ex.small]
  have:=bulkR_strs args
  exact⟨by omega,Ex.smalls_bulk kids (by omega)⟩
theorem Ex.smalls_bulk: ∀ (l:List Ex),PV.bulkR (Ex.rows l)≤1048576→Ex.smalls l
 |[],_=>by simp[Ex.smalls]
 |k::ks,h=>by
  simp only[Ex.rows,PV.bulkR]at h
  simp only[Ex.smalls]
  exact⟨Ex.small_bulk k (by omega),Ex.smalls_bulk ks (by omega)⟩
end
mutual
theorem Sx.depth_nodes: ∀ (x:Sx),x.depth≤x.nodes
 | .mk kind _ _ _ _ kids=>by
  have:=Sx.depths_nodes kids 0
  simp only[Sx.depth,Sx.nodes]
  split<;>omega
theorem Sx.depths_nodes: ∀ (l:List Sx)(m:Nat),Sx.depths m l≤max m (Sx.nodess l)
 |[],m=>by simp[Sx.depths,Sx.nodess]
 |k::ks,m=>by
  have h1:=Sx.depth_nodes k
  have h2:=Sx.depths_nodes ks (max m k.depth)
  simp only[Sx.depths,Sx.nodess]
  omega
end
end Go.AM
namespace Go.Proofs.YtjeolbgpllbemaaGreat
open Go.AM
theorem nodess_words: ∀ l:List ByteArray,Sx.nodess (l.map wordM)=l.length
 |[]=>rfl
 |s::l=>by simp only[List.map_cons,Sx.nodess,word_nodes,nodess_words l,List.length_cons];omega
theorem words_nodes(first:ByteArray)(l:List ByteArray):(wordsM first l).nodes=l.length+2:=by
 simp only[wordsM,list_nodes,nodess_words,List.length_cons]
theorem exW_nodes: ∀ e:Ex,(exW e).nodes≤PV.bulkL e.cells:=by
 refine Ex.ind ?_
 intro op name n args kids ih
 have h1:=bulkR_strs args
 simp only[Ex.cells,PV.bulkL,PV.bulk]
 unfold exW
 split
 ·simp only[Sx.nodes,Sx.nodess];omega
 ·split
  ·rw [words_nodes];omega
  ·split
   ·rename_i a b
    have ha:=ih a (by simp)
    have hb:=ih b (by simp)
    simp only[Ex.rows,PV.bulkR,list_nodes,Sx.nodess,word_nodes]
    omega
   ·simp only[list_nodes,Sx.nodess,word_nodes];omega
end Go.Proofs.YtjeolbgpllbemaaGreat
namespace Go.AM
theorem bulkR_pms: ∀ l:List Pm,2*l.length≤PV.bulkR (pmRows l)
 |[]=>by simp
 |s::l=>by
  have:=bulkR_pms l
  simp only[pmRows,pmRow,List.map_cons,PV.bulkR,PV.bulkL,PV.bulk,List.length_cons]at this⊢
  omega
theorem bulkR_fms: ∀ l:List Fm,l.length≤PV.bulkR (Fm.rows l)
 |[]=>by simp
 |s::l=>by
  have:=bulkR_fms l
  cases s
  simp only[Fm.rows,Fm.cells,PV.bulkR,PV.bulkL,PV.bulk,List.length_cons]at this⊢
  omega
mutual
theorem Fm.small_bulk: ∀ (f:Fm),PV.bulkL f.cells≤1048576→f.small
 | .mk op name args params exprs kids,h=>by
  simp only[Fm.cells,PV.bulkL,PV.bulk]at h
  simp only[Fm.small]
  have:=bulkR_strs args
  have:=bulkR_pms params
  have:=bulkR_fms kids
  exact⟨by omega,by omega,Ex.smalls_bulk exprs (by omega),by omega,Fm.smalls_bulk kids (by omega)⟩
theorem Fm.smalls_bulk: ∀ (l:List Fm),PV.bulkR (Fm.rows l)≤1048576→Fm.smalls l
 |[],_=>by simp[Fm.smalls]
 |k::ks,h=>by
  simp only[Fm.rows,PV.bulkR]at h
  simp only[Fm.smalls]
  exact⟨Fm.small_bulk k (by omega),Fm.smalls_bulk ks (by omega)⟩
end
end Go.AM
namespace Go.Proofs.YtjeolbgpllbemaaGreat
open Go.AM
theorem nodess_params: ∀ l:List Pm,Sx.nodess (paramsW l)=3*l.length
 |[]=>rfl
 |s::l=>by simp only[paramsW,Sx.nodess,word_nodes,nodess_params l,List.length_cons];omega
theorem exWs_nodes: ∀ l:List Ex,Sx.nodess (l.map exW)≤PV.bulkR (Ex.rows l)
 |[]=>by simp[Sx.nodess]
 |e::l=>by
  have h1:=exWs_nodes l
  have h2:=exW_nodes e
  simp only[List.map_cons,Sx.nodess,Ex.rows,PV.bulkR]
  omega
mutual
theorem fmW_nodes: ∀ f:Fm,(fmW f).nodes≤2*PV.bulkL f.cells
 | .mk op name args params exprs kids=>by
  have h1:=bulkR_strs args
  have h2:=bulkR_pms params
  have h3:=exWs_nodes exprs
  have h4:=fmWs_nodes kids
  simp only[Fm.cells,PV.bulkL,PV.bulk]
  unfold fmW
  split
  ·rw [words_nodes];omega
  ·split
   ·rw [words_nodes];omega
   ·split
    ·simp only[list_nodes,Sx.nodess,word_nodes];omega
    ·simp only[list_nodes,nodess_append]
     split<;>split<;>simp only[Sx.nodess,word_nodes,list_nodes,nodess_params]<;>omega
theorem fmWs_nodes: ∀ l:List Fm,Sx.nodess (fmWs l)≤2*PV.bulkR (Fm.rows l)
 |[]=>by simp[fmWs,Sx.nodess]
 |k::l=>by
  have h1:=fmW_nodes k
  have h2:=fmWs_nodes l
  simp only[fmWs,Sx.nodess,Fm.rows,PV.bulkR]
  omega
end
end Go.Proofs.YtjeolbgpllbemaaGreat
namespace Go.Proofs.YtjeolbgpllbemaaGreat
open Go.AM
set_option maxHeartbeats 4000000
set_option maxRecDepth 20000
theorem arg_vlO{c:Nat}{ps:List PV}(h:Arg Tryz.prog c 61 ps): ∃ a:Vl,a.ok∧ps=vlRow a:=by
 cases c with
 |zero=>simp[Arg]at h
 |succ c=>
  obtain⟨h1,h2⟩:=Arg_struct Tryz.underlying61 h
  rw[coVl]at h1
  rw[partsVl]at h2
  match ps,h1,h2 with
  |[p0,p1,p2],_,h2=>
   have a0:=h2 (0,59) (by simp)
   have a1:=h2 (2,3) (by simp)
   simp only[coAt,co3,List.drop_zero,List.drop_succ_cons,List.take_succ_cons,List.take_zero]at a0 a1
   obtain⟨s,hs,e1⟩:=arg_at a0
   obtain⟨n,hn,e2⟩:=arg_i64 a1
   simp[atRow]at e1 e2
   exact⟨⟨s,n⟩,⟨hs,hn⟩,by simp[vlRow,e1,e2]⟩
theorem arg_vlsO{c:Nat}{ps:List PV}(h:Arg Tryz.prog c 24 ps): ∃ l:List Vl,(l.length≤bigN∧ ∀ a∈l,a.ok)∧ps=[.imm 3 (vlRows l)]:=by
 cases c with
 |zero=>simp[Arg]at h
 |succ c=>
  obtain⟨rows,rfl,h1,_,h2⟩:=Arg_slice Tryz.underlying24 h
  obtain⟨xs,rfl,h3⟩:=rows_map (Q:=Vl.ok) (f:=vlRow) rows (fun r hr=>arg_vlO (h2 r hr).2)
  refine⟨xs,⟨len_le (by simpa using h1) byVl,h3⟩,?_⟩
  rw[coVl];try rfl
theorem arg_pbO(c:Nat){ps:List PV}(h:Arg Tryz.prog c 31 ps): ∃ p:Pb,p.ok∧ps=p.cells:=by
 cases c with
 |zero=>simp[Arg]at h
 |succ c=>
  obtain⟨h1,h2⟩:=Arg_struct Tryz.underlying31 h
  rw[coPb]at h1
  rw[partsPb]at h2
  match ps,h1,h2 with
  |[p0,p1,p2,p3,p4,p5,p6,p7,p8,p9,p10],_,h2=>
   have a0:=h2 (0,9) (by simp)
   have a1:=h2 (1,9) (by simp)
   have a2:=h2 (2,22) (by simp)
   have a3:=h2 (3,23) (by simp)
   have a4:=h2 (4,24) (by simp)
   have a5:=h2 (5,29) (by simp)
   simp only[co9,co25,coAts,coVls,co29,List.drop_zero,List.drop_succ_cons,List.take_succ_cons,List.take_zero]at a0 a1 a2 a3 a4 a5
   obtain⟨name,hname,e0⟩:=arg_str a0
   obtain⟨domain,hdomain,e1⟩:=arg_str a1
   obtain⟨objects,hobjects,e2⟩:=arg_pms a2
   obtain⟨init,hinit,e3⟩:=arg_ats a3
   obtain⟨values,hvalues,e4⟩:=arg_vlsO a4
   obtain⟨goal,hgoal,e5⟩:=arg_fm _ a5
   simp at e0 e1 e2 e3 e4
   refine⟨⟨name,domain,objects,init,values,goal⟩,⟨hname,hdomain,hobjects,hinit,hvalues,hgoal⟩,?_⟩
   simp only[Pb.cells,e0,e1,e2,e3,e4,List.cons_append,List.nil_append]
   rw[← e5]
theorem bulkR_ats: ∀ l:List At,l.length≤PV.bulkR (atRows l)∧ ∀ a∈l,a.args.length≤PV.bulkR (atRows l)
 |[]=>by simp
 |a::l=>by
  have ih:=bulkR_ats l
  have hs:=bulkR_strs a.args
  have e:PV.bulkR (atRows (a::l))=PV.bulkL (atRow a)+PV.bulkR (atRows l):=rfl
  have e2:PV.bulkR (strRows a.args)+1≤PV.bulkL (atRow a):=by simp only[atRow,PV.bulkL,PV.bulk];omega
  rw[e]
  refine⟨by simp only[List.length_cons];omega,?_⟩
  intro b hb
  rcases List.mem_cons.1 hb with rfl|hb
  ·omega
  ·have:=ih.2 b hb;omega
theorem bulkR_vls: ∀ l:List Vl,l.length≤PV.bulkR (vlRows l)∧ ∀ a∈l,a.at_.args.length≤PV.bulkR (vlRows l)
 |[]=>by simp
 |a::l=>by
  have ih:=bulkR_vls l
  have hs:=bulkR_strs a.at_.args
  have e:PV.bulkR (vlRows (a::l))=PV.bulkL (vlRow a)+PV.bulkR (vlRows l):=rfl
  have e2:PV.bulkR (strRows a.at_.args)+1≤PV.bulkL (vlRow a):=by simp only[vlRow,PV.bulkL,PV.bulk];omega
  rw[e]
  refine⟨by simp only[List.length_cons];omega,?_⟩
  intro b hb
  rcases List.mem_cons.1 hb with rfl|hb
  ·omega
  ·have:=ih.2 b hb;omega
theorem pb_small{p:Pb}(hb:PV.bulkL p.cells≤1048576):PbSm p:=by
 obtain⟨name,domain,objects,init,values,goal⟩:=p
 have h1:=bulkR_pms objects
 have h2:=bulkR_ats init
 have h3:=bulkR_vls values
 have hg:PV.bulkL goal.cells+PV.bulkR (pmRows objects)+PV.bulkR (atRows init)+PV.bulkR (vlRows values)≤PV.bulkL (Pb.cells ⟨name,domain,objects,init,values,goal⟩):=by
  obtain⟨op,gn,ga,gp,ge,gk⟩:=goal
  simp only[Pb.cells,Fm.cells,List.cons_append,List.nil_append,PV.bulkL,PV.bulk]
  omega
 exact⟨Fm.small_bulk goal (by omega),by simp only;omega,by simp only;omega,by simp only;omega,fun a ha=>by have:=h2.2 a ha;omega,fun a ha=>by have:=h3.2 a ha;omega⟩
end Go.Proofs.YtjeolbgpllbemaaGreat
namespace Go.Proofs.YtjeolbgpllbemaaGreat
open Go.AM
def opF(op name:ByteArray)(args:List ByteArray)(params:List Pm)(ne nk:Nat):Bool:=
 if bEq op opAtom then nameB name&&(args.all termB&&((((params.length:Int)+ne)+nk)==0))
 else if bEq op opSame then bEq name ⟨#[]⟩&&(((args.length:Int)==2)&&(args.all termB&&((((params.length:Int)+ne)+nk)==0)))
 else if(bEq op opLt||(bEq op opLe||bEq op opEq))then bEq name ⟨#[]⟩&&(((((args.length:Int)+params.length)+nk)==0)&&((ne:Int)==2))
 else if(bEq op opAnd||bEq op opOr)then bEq name ⟨#[]⟩&&((((args.length:Int)+params.length)+ne)==0)
 else if bEq op opNot then bEq name ⟨#[]⟩&&(((((args.length:Int)+params.length)+ne)==0)&&((nk:Int)==1))
 else if bEq op opImp then bEq name ⟨#[]⟩&&(((((args.length:Int)+params.length)+ne)==0)&&((nk:Int)==2))
 else if(bEq op opAll||bEq op opSome)then bEq name ⟨#[]⟩&&((((args.length:Int)+ne)==0)&&(((nk:Int)==1)&&params.all pmOk))
 else false
theorem partsOk_opF(op name:ByteArray)(args:List ByteArray)(params:List Pm)(ne nk:Nat):partsOk op name args params ne nk=opF op name args params ne nk:=by
 have ea:args.isEmpty=decide (args.length=0):=by cases args<;>simp
 have ep:params.isEmpty=decide (params.length=0):=by cases params<;>simp
 have ep2:params.length=0→params.all pmOk=true:=fun h=>by rw[List.length_eq_zero_iff.1 h];try rfl
 have en:emptyB name=bEq name ⟨#[]⟩:=rfl
 unfold partsOk shapeOf termsOk opF
 rw[ea,en,ep]
 generalize args.all termB=ta
 generalize params.all pmOk=pa at ep2
 generalize bEq name ⟨#[]⟩=nm
 generalize nameB name=nn
 generalize args.length=la
 generalize params.length=lp at ep2
 cases k1:bEq op opAtom
 ·cases k2:bEq op opSame
  ·cases k3:bEq op opLt
   ·cases k4:bEq op opLe
    ·cases k5:bEq op opEq
     ·cases k6:bEq op opAnd
      ·cases k7:bEq op opOr
       ·cases k8:bEq op opNot
        ·cases k9:bEq op opImp
         ·cases k10:bEq op opAll
          ·cases k11:bEq op opSome
           ·simp
           ·rw [Bool.eq_iff_iff];simp;cases nm<;>cases pa<;>simp<;>omega
          ·rw [Bool.eq_iff_iff];simp;cases nm<;>cases pa<;>simp<;>omega
         ·rw [Bool.eq_iff_iff];simp;cases nm<;>cases pa<;>simp at ep2⊢ <;>omega
        ·rw [Bool.eq_iff_iff];simp;cases nm<;>cases pa<;>simp at ep2⊢ <;>omega
       ·rw [Bool.eq_iff_iff];simp;cases nm<;>cases pa<;>simp at ep2⊢ <;>omega
      ·rw [Bool.eq_iff_iff];simp;cases nm<;>cases pa<;>simp at ep2⊢ <;>omega
     ·rw [Bool.eq_iff_iff];simp;cases nm<;>cases pa<;>simp at ep2⊢ <;>omega
    ·rw [Bool.eq_iff_iff];simp;cases nm<;>cases pa<;>simp at ep2⊢ <;>omega
   ·rw [Bool.eq_iff_iff];simp;cases nm<;>cases pa<;>simp at ep2⊢ <;>omega
  ·rw [Bool.eq_iff_iff];simp;cases nm<;>cases pa<;>cases ta<;>simp at ep2⊢ <;>omega
 ·rw [Bool.eq_iff_iff];simp;cases nn<;>cases pa<;>cases ta<;>simp at ep2⊢ <;>omega
theorem shapedF_op{op name:ByteArray}{args:List ByteArray}{params:List Pm}{exprs:List Ex}{kids:List Fm}(hE: ∀ e∈exprs,shapedE e=true)(hK: ∀ k∈kids,shapedF k=true):
  shapedF (.mk op name args params exprs kids)=opF op name args params exprs.length kids.length:=by
 have h1:exprs.all shapedE=true:=List.all_eq_true.2 hE
 have h2:shapedFs kids=true:=shapedFs_iff.2 hK
 simp only[shapedF,h1,h2,Bool.and_true,partsOk_opF]
theorem shapedF_kid{op name:ByteArray}{args:List ByteArray}{params:List Pm}{exprs:List Ex}{kids:List Fm}(h:shapedF (.mk op name args params exprs kids)=true):(∀ e∈exprs,shapedE e=true)∧ ∀ k∈kids,shapedF k=true:=by
 simp only[shapedF,Bool.and_eq_true]at h
 exact⟨List.all_eq_true.1 h.1.2,shapedFs_iff.1 h.2⟩
end Go.Proofs.YtjeolbgpllbemaaGreat
namespace Go.Proofs.YtjeolbgpllbemaaGreat
open Go.AM
set_option maxHeartbeats 8000000
set_option maxRecDepth 20000
def pmR(v:Bool)(p:Pm):Bool:=(if v=true then varB p.name else nameB p.name)&&typedB p.type
theorem pmR_ok:pmR true=pmOk:=rfl
theorem a_genR{P:Program}{ow:Nat→Bool}{wf:FuncId→Bool}{n:Nat}{Q:Post}{s:Slots}{h:Heap}{c:Code}(I:Slots→Heap→Prop)(hi:I s h)(hh: ∀ s h,I s h→awp P ow wf n c Q s h):awp P ow wf n c Q s h:=hh _ _ hi
theorem rshapedPs_c{v:Bool}{l:List Pm}(hl:l.length≤bigN)(hp: ∀ p∈l,p.ok)(h:Heap):PCall Tryz.prog 32 [.imm 2 (pmRows l),.sc (.bool v)] h fun r h'=>r= .sc (.bool (l.all (pmR v)))∧h'=h:=by
 unfold bigN at hl
 have hlen:=pmRows_len l
 cases v with
 |true=>
  refine pcall_body (ow:=fun _=>false) (wf:=fun _=>false) Ty.mixed Tryz.func32 rfl Ty.hb_32 (by rw[Tryz.ntmps32];simp) ?_
  rw[Tryz.ntmps32,Tryz.results32]
  repeat'(first|refine a_seq fun K hK=>?_|(refine a_block ?_)|(refine a_regionS ?_;simp(maxSteps:=2000000) only[Ty.w,simprocAttr,hlen])|(refine hK _ _ ?_;clear hK;try simp only[pst0,simprocAttr]))
  refine a_loop (fun m S h'=>h'=h∧S 0= .imm 2 (pmRows l)∧S 1= .sc (.bool true)∧ ∃ k:Nat,S 5= .sc (.int .i64 k)∧k≤l.length∧m=l.length-k∧l.all (pmR true)=(l.drop k).all (pmR true)) l.length ?_ ?_
  ·simp only[Ty.w,simprocAttr]
   exact⟨0,rfl,by omega,rfl,by simp⟩
  ·rintro m S h' ⟨rfl,g0,g1,k,g5,hk,rfl,hinv⟩
   by_cases hlt:k<l.length
   ·have hd:decide ((k:Int)<(l.length:Int))=true:=by simp;omega
    have w7:IntKind.i64.wrap ((k:Int)+1)=k+1:=by rw[wrap64 (by omega) (by omega)]
    obtain⟨p,hx⟩: ∃ p,l[k]? =some p:=⟨l[k],List.getElem?_eq_getElem hlt⟩
    have hr:=pmRows_get hx
    have hpo:=hp p (List.mem_of_getElem? hx)
    have h1:p.name.size≤9223372036854775807:=by have:=hpo.1;unfold bigN at this;omega
    have h2:p.type.size≤9223372036854775807:=by have:=hpo.2;unfold bigN at this;omega
    have hc:=fun h:Heap=>rvariable_c (h:=h) (s:=p.name) h1
    have hc2:=fun h:Heap=>rname_c (h:=h) (s:=p.type) h2
    rw[drop_of_get hx,List.all_cons]at hinv
    have hq:pmR true p=(varB p.name&&(nameB p.type||(p.type.data.toList==(#[111,98,106,101,99,116]:Array UInt8).toList))):=rfl
    rw[hq]at hinv
    clear hq
    generalize varB p.name=b at hc hinv
    generalize nameB p.type=b2 at hc2 hinv
    cases b with
    |false=>
     simp only[Bool.false_and]at hinv
     repeat'(first|refine a_seq fun K hK=>?_|(refine a_regionS ?_;simp(maxSteps:=2000000) only[Ty.w,simprocAttr,g0,g1,g5,hd,hr,bne,Bool.not_true,Bool.not_false])|(refine a_skip ?_;try simp only[pst0,simprocAttr])|(refine a_cond _ (by(try simp(maxSteps:=2000000) only[Ty.w,simprocAttr,g0,g1,g5,hd,hr,bne,Bool.not_true,Bool.not_false]);rfl) (fun hb=>?_) (fun hb=>?_)<;>(try simp only[hb0,decide_eq_true_eq,decide_eq_false_iff_not,simprocAttr]at hb)<;>(try(exfalso;omega)))|(refine hK _ _ ?_;clear hK;try simp only[pst0,simprocAttr]))
     refine owp_useQ (hc _) (by(try simp only[Ty.w,simprocAttr,g0,g1,g5,hd,hr,bne,Bool.not_true,Bool.not_false]);try rfl) ?_;simp(maxSteps:=2000000) only[Ty.w,simprocAttr,g0,g1,g5,hd,hr,bne,Bool.not_true,Bool.not_false]
     repeat'(first|refine a_seq fun K hK=>?_|((first|refine a_regionS ?_|refine a_ret ?_);simp(maxSteps:=2000000) only[Ty.w,simprocAttr,g0,g1,g5,hd,hr,bne,Bool.not_true,Bool.not_false])|(refine hK _ _ ?_;clear hK;try simp only[pst0,simprocAttr]))
     rw[hinv]
    |true=>
     cases q:(p.type.data.toList==(#[111,98,106,101,99,116]:Array UInt8).toList)with
     |true=>
      simp only[q,Bool.or_true,Bool.true_and]at hinv
      repeat'(first|refine a_seq fun K hK=>?_|(refine a_regionS ?_;simp(maxSteps:=2000000) only[Ty.w,simprocAttr,g0,g1,g5,hd,hr,bne,Bool.not_true,Bool.not_false,q])|(refine a_skip ?_;try simp only[pst0,simprocAttr])|(refine a_cond _ (by(try simp(maxSteps:=2000000) only[Ty.w,simprocAttr,g0,g1,g5,hd,hr,bne,Bool.not_true,Bool.not_false,q]);rfl) (fun hb=>?_) (fun hb=>?_)<;>(try simp only[hb0,decide_eq_true_eq,decide_eq_false_iff_not,simprocAttr]at hb)<;>(try(exfalso;omega)))|(refine hK _ _ ?_;clear hK;try simp only[pst0,simprocAttr]))
      refine owp_useQ (hc _) (by(try simp only[Ty.w,simprocAttr,g0,g1,g5,hd,hr,bne,Bool.not_true,Bool.not_false,q]);try rfl) ?_;simp(maxSteps:=2000000) only[Ty.w,simprocAttr,g0,g1,g5,hd,hr,bne,Bool.not_true,Bool.not_false,q]
      repeat'(first|(refine a_block ?_)|(refine a_regionS ?_;simp(maxSteps:=2000000) only[Ty.w,simprocAttr,g0,g1,g5,hd,hr,bne,Bool.not_true,Bool.not_false,q,w7])|(refine a_skip ?_;try simp only[pst0,simprocAttr])|(refine hK _ _ ?_;clear hK;try simp only[pst0,simprocAttr]))
      exact⟨l.length-(k+1),by omega,k+1,by simp,by omega,rfl,hinv⟩
     |false=>
      cases b2 with
      |false=>
       simp only[q,Bool.or_false,Bool.false_and,Bool.and_false]at hinv
       have W:=And.intro g0 (And.intro g1 (And.intro g5 (And.intro hd (And.intro hr q))))
       repeat'(first|refine a_seq fun K hK=>?_|(refine a_regionS ?_;simp(maxSteps:=2000000) only[Ty.w,simprocAttr,W,bne,Bool.not_true,Bool.not_false])|(refine a_skip ?_;try simp only[pst0,simprocAttr])|(refine a_cond _ (by(try simp(maxSteps:=2000000) only[Ty.w,simprocAttr,W,bne,Bool.not_true,Bool.not_false]);rfl) (fun hb=>?_) (fun hb=>?_)<;>(try simp only[hb0,decide_eq_true_eq,decide_eq_false_iff_not,simprocAttr]at hb)<;>(try(exfalso;omega)))|(refine hK _ _ ?_;clear hK;try simp only[pst0,simprocAttr]))
       refine owp_useQ (hc _) (by(try simp only[Ty.w,simprocAttr,W,bne,Bool.not_true,Bool.not_false]);try rfl) ?_;simp(maxSteps:=2000000) only[Ty.w,simprocAttr,W,bne,Bool.not_true,Bool.not_false]
       skip
       refine owp_useQ (hc2 _) (by(try simp only[Ty.w,simprocAttr,W,bne,Bool.not_true,Bool.not_false]);try rfl) ?_;simp(maxSteps:=2000000) only[Ty.w,simprocAttr,W,bne,Bool.not_true,Bool.not_false]
       repeat'(first|refine a_seq fun K hK=>?_|((first|refine a_regionS ?_|refine a_ret ?_);simp(maxSteps:=2000000) only[Ty.w,simprocAttr,W,bne,Bool.not_true,Bool.not_false])|(refine hK _ _ ?_;clear hK;try simp only[pst0,simprocAttr]))
       rw[hinv]
      |true=>
       simp only[q,Bool.or_false,Bool.true_and]at hinv
       have W:=And.intro g0 (And.intro g1 (And.intro g5 (And.intro hd (And.intro hr q))))
       repeat'(first|refine a_seq fun K hK=>?_|(refine a_regionS ?_;simp(maxSteps:=2000000) only[Ty.w,simprocAttr,W,bne,Bool.not_true,Bool.not_false])|(refine a_skip ?_;try simp only[pst0,simprocAttr])|(refine a_cond _ (by(try simp(maxSteps:=2000000) only[Ty.w,simprocAttr,W,bne,Bool.not_true,Bool.not_false]);rfl) (fun hb=>?_) (fun hb=>?_)<;>(try simp only[hb0,decide_eq_true_eq,decide_eq_false_iff_not,simprocAttr]at hb)<;>(try(exfalso;omega)))|(refine hK _ _ ?_;clear hK;try simp only[pst0,simprocAttr]))
       refine owp_useQ (hc _) (by(try simp only[Ty.w,simprocAttr,W,bne,Bool.not_true,Bool.not_false]);try rfl) ?_;simp(maxSteps:=2000000) only[Ty.w,simprocAttr,W,bne,Bool.not_true,Bool.not_false]
       skip
       refine owp_useQ (hc2 _) (by(try simp only[Ty.w,simprocAttr,W,bne,Bool.not_true,Bool.not_false]);try rfl) ?_;simp(maxSteps:=2000000) only[Ty.w,simprocAttr,W,bne,Bool.not_true,Bool.not_false]
       repeat'(first|(refine a_block ?_)|(refine a_regionS ?_;simp(maxSteps:=2000000) only[Ty.w,simprocAttr,W,bne,Bool.not_true,Bool.not_false,w7])|(refine a_skip ?_;try simp only[pst0,simprocAttr])|(refine hK _ _ ?_;clear hK;try simp only[pst0,simprocAttr]))
       exact⟨l.length-(k+1),by omega,k+1,by simp,by omega,rfl,hinv⟩
   ·have hd:decide ((k:Int)<(l.length:Int))=false:=by simp;omega
    rw[List.drop_eq_nil_of_le (by omega)]at hinv
    repeat'(first|refine a_seq fun K hK=>?_|((first|refine a_regionS ?_|refine a_ret ?_);simp(maxSteps:=2000000) only[Ty.w,simprocAttr,g0,g1,g5,hlen,hd])|(refine a_exit ?_;try simp only[pst0,simprocAttr])|(refine a_cond _ (by(try simp(maxSteps:=2000000) only[Ty.w,simprocAttr,g0,g1,g5,hlen,hd]);rfl) (fun hb=>?_) (fun hb=>?_)<;>(try simp only[hb0,decide_eq_true_eq,decide_eq_false_iff_not,simprocAttr]at hb)<;>(try(exfalso;omega)))|((first|refine hK _ _ ?_|(clear hK;refine hK _ _ ?_));clear hK;try simp only[pst0,simprocAttr]))
    rw[hinv];try rfl
 |false=>
  refine pcall_body (ow:=fun _=>false) (wf:=fun _=>false) Ty.mixed Tryz.func32 rfl Ty.hb_32 (by rw[Tryz.ntmps32];simp) ?_
  rw[Tryz.ntmps32,Tryz.results32]
  repeat'(first|refine a_seq fun K hK=>?_|(refine a_block ?_)|(refine a_regionS ?_;simp(maxSteps:=2000000) only[Ty.w,simprocAttr,hlen])|(refine hK _ _ ?_;clear hK;try simp only[pst0,simprocAttr]))
  refine a_loop (fun m S h'=>h'=h∧S 0= .imm 2 (pmRows l)∧S 1= .sc (.bool false)∧ ∃ k:Nat,S 5= .sc (.int .i64 k)∧k≤l.length∧m=l.length-k∧l.all (pmR false)=(l.drop k).all (pmR false)) l.length ?_ ?_
  ·simp only[Ty.w,simprocAttr]
   exact⟨0,rfl,by omega,rfl,by simp⟩
  ·rintro m S h' ⟨rfl,g0,g1,k,g5,hk,rfl,hinv⟩
   by_cases hlt:k<l.length
   ·have hd:decide ((k:Int)<(l.length:Int))=true:=by simp;omega
    have w7:IntKind.i64.wrap ((k:Int)+1)=k+1:=by rw[wrap64 (by omega) (by omega)]
    obtain⟨p,hx⟩: ∃ p,l[k]? =some p:=⟨l[k],List.getElem?_eq_getElem hlt⟩
    have hr:=pmRows_get hx
    have hpo:=hp p (List.mem_of_getElem? hx)
    have h1:p.name.size≤9223372036854775807:=by have:=hpo.1;unfold bigN at this;omega
    have h2:p.type.size≤9223372036854775807:=by have:=hpo.2;unfold bigN at this;omega
    have hc:=fun h:Heap=>rname_c (h:=h) (s:=p.name) h1
    have hc2:=fun h:Heap=>rname_c (h:=h) (s:=p.type) h2
    rw[drop_of_get hx,List.all_cons]at hinv
    have hq:pmR false p=(nameB p.name&&(nameB p.type||(p.type.data.toList==(#[111,98,106,101,99,116]:Array UInt8).toList))):=rfl
    rw[hq]at hinv
    clear hq
    generalize nameB p.name=b at hc hinv
    generalize nameB p.type=b2 at hc2 hinv
    cases b with
    |false=>
     simp only[Bool.false_and]at hinv
     repeat'(first|refine a_seq fun K hK=>?_|(refine a_regionS ?_;simp(maxSteps:=2000000) only[Ty.w,simprocAttr,g0,g1,g5,hd,hr,bne,Bool.not_true,Bool.not_false])|(refine a_skip ?_;try simp only[pst0,simprocAttr])|(refine a_cond _ (by(try simp(maxSteps:=2000000) only[Ty.w,simprocAttr,g0,g1,g5,hd,hr,bne,Bool.not_true,Bool.not_false]);rfl) (fun hb=>?_) (fun hb=>?_)<;>(try simp only[hb0,decide_eq_true_eq,decide_eq_false_iff_not,simprocAttr]at hb)<;>(try(exfalso;omega)))|(refine hK _ _ ?_;clear hK;try simp only[pst0,simprocAttr]))
     refine owp_useQ (hc _) (by(try simp only[Ty.w,simprocAttr,g0,g1,g5,hd,hr,bne,Bool.not_true,Bool.not_false]);try rfl) ?_;simp(maxSteps:=2000000) only[Ty.w,simprocAttr,g0,g1,g5,hd,hr,bne,Bool.not_true,Bool.not_false]
     repeat'(first|refine a_seq fun K hK=>?_|((first|refine a_regionS ?_|refine a_ret ?_);simp(maxSteps:=2000000) only[Ty.w,simprocAttr,g0,g1,g5,hd,hr,bne,Bool.not_true,Bool.not_false])|(refine hK _ _ ?_;clear hK;try simp only[pst0,simprocAttr]))
     rw[hinv]
    |true=>
     cases q:(p.type.data.toList==(#[111,98,106,101,99,116]:Array UInt8).toList)with
     |true=>
      simp only[q,Bool.or_true,Bool.true_and]at hinv
      repeat'(first|refine a_seq fun K hK=>?_|(refine a_regionS ?_;simp(maxSteps:=2000000) only[Ty.w,simprocAttr,g0,g1,g5,hd,hr,bne,Bool.not_true,Bool.not_false,q])|(refine a_skip ?_;try simp only[pst0,simprocAttr])|(refine a_cond _ (by(try simp(maxSteps:=2000000) only[Ty.w,simprocAttr,g0,g1,g5,hd,hr,bne,Bool.not_true,Bool.not_false,q]);rfl) (fun hb=>?_) (fun hb=>?_)<;>(try simp only[hb0,decide_eq_true_eq,decide_eq_false_iff_not,simprocAttr]at hb)<;>(try(exfalso;omega)))|(refine hK _ _ ?_;clear hK;try simp only[pst0,simprocAttr]))
      refine owp_useQ (hc _) (by(try simp only[Ty.w,simprocAttr,g0,g1,g5,hd,hr,bne,Bool.not_true,Bool.not_false,q]);try rfl) ?_;simp(maxSteps:=2000000) only[Ty.w,simprocAttr,g0,g1,g5,hd,hr,bne,Bool.not_true,Bool.not_false,q]
      repeat'(first|(refine a_block ?_)|(refine a_regionS ?_;simp(maxSteps:=2000000) only[Ty.w,simprocAttr,g0,g1,g5,hd,hr,bne,Bool.not_true,Bool.not_false,q,w7])|(refine a_skip ?_;try simp only[pst0,simprocAttr])|(refine hK _ _ ?_;clear hK;try simp only[pst0,simprocAttr]))
      exact⟨l.length-(k+1),by omega,k+1,by simp,by omega,rfl,hinv⟩
     |false=>
      cases b2 with
      |false=>
       simp only[q,Bool.or_false,Bool.false_and,Bool.and_false]at hinv
       have W:=And.intro g0 (And.intro g1 (And.intro g5 (And.intro hd (And.intro hr q))))
       repeat'(first|refine a_seq fun K hK=>?_|(refine a_regionS ?_;simp(maxSteps:=2000000) only[Ty.w,simprocAttr,W,bne,Bool.not_true,Bool.not_false])|(refine a_skip ?_;try simp only[pst0,simprocAttr])|(refine a_cond _ (by(try simp(maxSteps:=2000000) only[Ty.w,simprocAttr,W,bne,Bool.not_true,Bool.not_false]);rfl) (fun hb=>?_) (fun hb=>?_)<;>(try simp only[hb0,decide_eq_true_eq,decide_eq_false_iff_not,simprocAttr]at hb)<;>(try(exfalso;omega)))|(refine hK _ _ ?_;clear hK;try simp only[pst0,simprocAttr]))
       refine owp_useQ (hc _) (by(try simp only[Ty.w,simprocAttr,W,bne,Bool.not_true,Bool.not_false]);try rfl) ?_;simp(maxSteps:=2000000) only[Ty.w,simprocAttr,W,bne,Bool.not_true,Bool.not_false]
       skip
       refine owp_useQ (hc2 _) (by(try simp only[Ty.w,simprocAttr,W,bne,Bool.not_true,Bool.not_false]);try rfl) ?_;simp(maxSteps:=2000000) only[Ty.w,simprocAttr,W,bne,Bool.not_true,Bool.not_false]
       repeat'(first|refine a_seq fun K hK=>?_|((first|refine a_regionS ?_|refine a_ret ?_);simp(maxSteps:=2000000) only[Ty.w,simprocAttr,W,bne,Bool.not_true,Bool.not_false])|(refine hK _ _ ?_;clear hK;try simp only[pst0,simprocAttr]))
       rw[hinv]
      |true=>
       simp only[q,Bool.or_false,Bool.true_and]at hinv
       have W:=And.intro g0 (And.intro g1 (And.intro g5 (And.intro hd (And.intro hr q))))
       repeat'(first|refine a_seq fun K hK=>?_|(refine a_regionS ?_;simp(maxSteps:=2000000) only[Ty.w,simprocAttr,W,bne,Bool.not_true,Bool.not_false])|(refine a_skip ?_;try simp only[pst0,simprocAttr])|(refine a_cond _ (by(try simp(maxSteps:=2000000) only[Ty.w,simprocAttr,W,bne,Bool.not_true,Bool.not_false]);rfl) (fun hb=>?_) (fun hb=>?_)<;>(try simp only[hb0,decide_eq_true_eq,decide_eq_false_iff_not,simprocAttr]at hb)<;>(try(exfalso;omega)))|(refine hK _ _ ?_;clear hK;try simp only[pst0,simprocAttr]))
       refine owp_useQ (hc _) (by(try simp only[Ty.w,simprocAttr,W,bne,Bool.not_true,Bool.not_false]);try rfl) ?_;simp(maxSteps:=2000000) only[Ty.w,simprocAttr,W,bne,Bool.not_true,Bool.not_false]
       skip
       refine owp_useQ (hc2 _) (by(try simp only[Ty.w,simprocAttr,W,bne,Bool.not_true,Bool.not_false]);try rfl) ?_;simp(maxSteps:=2000000) only[Ty.w,simprocAttr,W,bne,Bool.not_true,Bool.not_false]
       repeat'(first|(refine a_block ?_)|(refine a_regionS ?_;simp(maxSteps:=2000000) only[Ty.w,simprocAttr,W,bne,Bool.not_true,Bool.not_false,w7])|(refine a_skip ?_;try simp only[pst0,simprocAttr])|(refine hK _ _ ?_;clear hK;try simp only[pst0,simprocAttr]))
       exact⟨l.length-(k+1),by omega,k+1,by simp,by omega,rfl,hinv⟩
   ·have hd:decide ((k:Int)<(l.length:Int))=false:=by simp;omega
    rw[List.drop_eq_nil_of_le (by omega)]at hinv
    repeat'(first|refine a_seq fun K hK=>?_|((first|refine a_regionS ?_|refine a_ret ?_);simp(maxSteps:=2000000) only[Ty.w,simprocAttr,g0,g1,g5,hlen,hd])|(refine a_exit ?_;try simp only[pst0,simprocAttr])|(refine a_cond _ (by(try simp(maxSteps:=2000000) only[Ty.w,simprocAttr,g0,g1,g5,hlen,hd]);rfl) (fun hb=>?_) (fun hb=>?_)<;>(try simp only[hb0,decide_eq_true_eq,decide_eq_false_iff_not,simprocAttr]at hb)<;>(try(exfalso;omega)))|((first|refine hK _ _ ?_|(clear hK;refine hK _ _ ?_));clear hK;try simp only[pst0,simprocAttr]))
    rw[hinv];try rfl
theorem rshapedF_c: ∀ f:Fm,f.ok→ ∀ h:Heap,PCall Tryz.prog 33 [.agg f.cells] h fun r h'=>r= .sc (.bool (shapedF f))∧h'=h:=by
 refine Fm.ind ?_
 intro op name args params exprs kids ih hok h
 simp only[Fm.ok]at hok
 obtain⟨_,hnm,⟨hal,hargs⟩,⟨hpl,hps⟩,⟨hel,hes⟩,hkl,hks⟩:=hok
 rw[Ex.oks_iff]at hes
 rw[Fm.oks_iff]at hks
 have hnm':name.size≤9223372036854775807:=by unfold bigN at hnm;omega
 have hP:=fun h:Heap=>rshapedPs_c (v:=true) hpl hps h
 rw[pmR_ok]at hP
 have hA:=fun h:Heap=>rall_c (h:=h) hal hargs
 have hN:=fun h:Heap=>rname_c (h:=h) (s:=name) hnm'
 unfold bigN at hal hpl hel hkl
 have hlA:=strRows_len args
 have hlP:=pmRows_len params
 have hlE:=Ex.rows_len exprs
 have hlK:=Fm.rows_len kids
 have hbK: ∀ k∈kids,shapedF k=false→shapedF (.mk op name args params exprs kids)=false:=fun k hk hf=>by
  cases hh:shapedF (.mk op name args params exprs kids)with
  |false=>rfl
  |true=>rw[(shapedF_kid hh).2 k hk]at hf;simp at hf
 have hbE: ∀ e∈exprs,shapedE e=false→shapedF (.mk op name args params exprs kids)=false:=fun k hk hf=>by
  cases hh:shapedF (.mk op name args params exprs kids)with
  |false=>rfl
  |true=>rw[(shapedF_kid hh).1 k hk]at hf;simp at hf
 have hop:(∀ e∈exprs,shapedE e=true)→(∀ k∈kids,shapedF k=true)→shapedF (.mk op name args params exprs kids)=opF op name args params exprs.length kids.length:=shapedF_op
 generalize shapedF (.mk op name args params exprs kids)=F at hbK hbE hop
 simp only[Fm.cells]
 refine pcall_body (ow:=fun _=>false) (wf:=fun _=>false) Ty.mixed Tryz.func33 rfl Ty.hb_33 (by rw[Tryz.ntmps33];simp) ?_
 rw[Tryz.ntmps33,Tryz.results33]
 repeat'(first|refine a_seq fun K hK=>?_|(refine a_block ?_)|(refine a_regionS ?_;simp(maxSteps:=2000000) only[Ty.w,simprocAttr,hlK])|(refine hK _ _ ?_;clear hK;try simp only[pst0,simprocAttr]))
 refine a_loop (fun m S h'=>h'=h∧S 1= .cptr (Fm.mk op name args params exprs kids).cells∧ ∃ k:Nat,S 3= .sc (.int .i64 k)∧k≤kids.length∧m=kids.length-k∧ ∀ (i:Nat)(e:Fm),i<k→kids[i]? =some e→shapedF e=true) kids.length ?_ ?_
 ·simp only[Ty.w,simprocAttr]
  exact⟨rfl,0,rfl,by omega,rfl,by omega⟩
 ·rintro m S h' ⟨rfl,g1,k,g3,hkk,rfl,hall⟩
  simp only[Fm.cells]at g1
  by_cases hlt:k<kids.length
  ·clear hop hbE
   have hd:decide ((k:Int)<(kids.length:Int))=true:=by simp;omega
   have w7:IntKind.i64.wrap ((k:Int)+1)=k+1:=by rw[wrap64 (by omega) (by omega)]
   obtain⟨e,hx⟩: ∃ e,kids[k]? =some e:=⟨_,List.getElem?_eq_getElem hlt⟩
   have hmem:=List.mem_of_getElem? hx
   have hc:=ih e hmem (hks e hmem)
   have hr:=Fm.rows_get hx
   have hbad:=hbK e hmem
   have hgood:shapedF e=true→ ∀ (i:Nat)(e:Fm),i<k+1→kids[i]? =some e→shapedF e=true:=fun h1 i e2 hi hw=>by
    by_cases hik:i=k
    ·subst hik;rw[hx]at hw;simp at hw;rw[← hw];exact h1
    ·exact hall i e2 (by omega) hw
   generalize shapedF e=b at hc hbad hgood
   clear hbK hall
   obtain⟨o2,n2,a2,p2,e2,k2⟩:=e
   simp only[Fm.cells]at hr hc
   cases b with
   |false=>
    have:=hbad rfl
    subst this
    repeat'(first|refine a_seq fun K hK=>?_|(refine a_regionS ?_;simp(maxSteps:=2000000) only[Ty.w,simprocAttr,g1,g3,hlK,hd,hr,w7])|(refine a_skip ?_;try simp only[pst0,simprocAttr])|(refine a_cond _ (by(try simp(maxSteps:=2000000) only[Ty.w,simprocAttr,g1,g3,hlK,hd,hr,w7]);rfl) (fun hb=>?_) (fun hb=>?_)<;>(try simp only[hb0,decide_eq_true_eq,decide_eq_false_iff_not,simprocAttr]at hb)<;>(try(exfalso;omega)))|(refine hK _ _ ?_;clear hK;try simp only[pst0,simprocAttr]))
    refine owp_useQ (hc _) (by(try simp only[Ty.w,simprocAttr,g1,g3,hlK,hd,hr,Bool.not_false]);try rfl) ?_;simp(maxSteps:=2000000) only[Ty.w,simprocAttr,g1,g3,hlK,hd,hr,Bool.not_false]
    repeat'(first|refine a_seq fun K hK=>?_|((first|refine a_regionS ?_|refine a_ret ?_);simp(maxSteps:=2000000) only[Ty.w,simprocAttr,g1,g3,w7,Bool.not_false])|(refine hK _ _ ?_;clear hK;try simp only[pst0,simprocAttr]))
   |true=>
    repeat'(first|refine a_seq fun K hK=>?_|(refine a_regionS ?_;simp(maxSteps:=2000000) only[Ty.w,simprocAttr,g1,g3,hlK,hd,hr,w7])|(refine a_skip ?_;try simp only[pst0,simprocAttr])|(refine a_cond _ (by(try simp(maxSteps:=2000000) only[Ty.w,simprocAttr,g1,g3,hlK,hd,hr,w7]);rfl) (fun hb=>?_) (fun hb=>?_)<;>(try simp only[hb0,decide_eq_true_eq,decide_eq_false_iff_not,simprocAttr]at hb)<;>(try(exfalso;omega)))|(refine hK _ _ ?_;clear hK;try simp only[pst0,simprocAttr]))
    refine owp_useQ (hc _) (by(try simp only[Ty.w,simprocAttr,g1,g3,hlK,hd,hr,Bool.not_true]);try rfl) ?_;simp(maxSteps:=2000000) only[Ty.w,simprocAttr,g1,g3,hlK,hd,hr,Bool.not_true]
    repeat'(first|(refine a_block ?_)|(refine a_regionS ?_;simp(maxSteps:=2000000) only[Ty.w,simprocAttr,g1,g3,w7,Bool.not_true])|(refine a_skip ?_;try simp only[pst0,simprocAttr])|(refine hK _ _ ?_;clear hK;try simp only[pst0,simprocAttr]))
    exact⟨kids.length-(k+1),by omega,rfl,k+1,by simp,by omega,rfl,hgood rfl⟩
  ·have hd:decide ((k:Int)<(kids.length:Int))=false:=by simp;omega
   have hop2:=fun hE=>hop hE fun e he=>by
    obtain⟨i,hi⟩:=List.getElem?_of_mem he
    exact hall i e (by have:=(List.getElem?_eq_some_iff.1 hi).1;omega) hi
   clear hop hall hbK ih
   repeat'(first|refine a_seq fun K hK=>?_|(refine a_block ?_)|(refine a_regionS ?_;simp(maxSteps:=2000000) only[Ty.w,simprocAttr,g1,g3,hlK,hd])|(refine a_exit ?_;try simp only[pst0,simprocAttr])|(refine a_cond _ (by(try simp(maxSteps:=2000000) only[Ty.w,simprocAttr,g1,g3,hlK,hd]);rfl) (fun hb=>?_) (fun hb=>?_)<;>(try simp only[hb0,decide_eq_true_eq,decide_eq_false_iff_not,simprocAttr]at hb)<;>(try(exfalso;omega)))|((first|refine hK _ _ ?_|(clear hK;refine hK _ _ ?_));clear hK;try simp only[pst0,simprocAttr]))
   clear g3 hd
   refine a_loop (fun m S h2=>h2=h'∧S 1= .cptr (Fm.mk op name args params exprs kids).cells∧ ∃ k:Nat,S 4= .sc (.int .i64 k)∧k≤exprs.length∧m=exprs.length-k∧ ∀ (i:Nat)(e:Ex),i<k→exprs[i]? =some e→shapedE e=true) exprs.length ?_ ?_
   ·simp only[Ty.w,simprocAttr,g1]
    exact⟨rfl,0,rfl,by omega,rfl,by omega⟩
   ·clear g1 S
    rintro m S h2 ⟨rfl,g1,k,g3,hkk,rfl,hall⟩
    simp only[Fm.cells]at g1
    by_cases hlt:k<exprs.length
    ·clear hop2
     have hd:decide ((k:Int)<(exprs.length:Int))=true:=by simp;omega
     have w7:IntKind.i64.wrap ((k:Int)+1)=k+1:=by rw[wrap64 (by omega) (by omega)]
     obtain⟨e,hx⟩: ∃ e,exprs[k]? =some e:=⟨_,List.getElem?_eq_getElem hlt⟩
     have hmem:=List.mem_of_getElem? hx
     have hc:=rshapedE_c e (hes e hmem)
     have hr:=Ex.rows_get hx
     have hbad:=hbE e hmem
     have hgood:shapedE e=true→ ∀ (i:Nat)(e:Ex),i<k+1→exprs[i]? =some e→shapedE e=true:=fun h1 i e2 hi hw=>by
      by_cases hik:i=k
      ·subst hik;rw[hx]at hw;simp at hw;rw[← hw];exact h1
      ·exact hall i e2 (by omega) hw
     generalize shapedE e=b at hc hbad hgood
     clear hbE hall
     obtain⟨o2,n2,v2,a2,k2⟩:=e
     simp only[Ex.cells]at hr hc
     cases b with
     |false=>
      have:=hbad rfl
      subst this
      repeat'(first|refine a_seq fun K hK=>?_|(refine a_regionS ?_;simp(maxSteps:=2000000) only[Ty.w,simprocAttr,g1,g3,hlE,hd,hr,w7])|(refine a_skip ?_;try simp only[pst0,simprocAttr])|(refine a_cond _ (by(try simp(maxSteps:=2000000) only[Ty.w,simprocAttr,g1,g3,hlE,hd,hr,w7]);rfl) (fun hb=>?_) (fun hb=>?_)<;>(try simp only[hb0,decide_eq_true_eq,decide_eq_false_iff_not,simprocAttr]at hb)<;>(try(exfalso;omega)))|(refine hK _ _ ?_;clear hK;try simp only[pst0,simprocAttr]))
      refine owp_useQ (hc _) (by(try simp only[Ty.w,simprocAttr,g1,g3,hlE,hd,hr,Bool.not_false]);try rfl) ?_;simp(maxSteps:=2000000) only[Ty.w,simprocAttr,g1,g3,hlE,hd,hr,Bool.not_false]
      repeat'(first|refine a_seq fun K hK=>?_|((first|refine a_regionS ?_|refine a_ret ?_);simp(maxSteps:=2000000) only[Ty.w,simprocAttr,g1,g3,w7,Bool.not_false])|(refine hK _ _ ?_;clear hK;try simp only[pst0,simprocAttr]))
     |true=>
      repeat'(first|refine a_seq fun K hK=>?_|(refine a_regionS ?_;simp(maxSteps:=2000000) only[Ty.w,simprocAttr,g1,g3,hlE,hd,hr,w7])|(refine a_skip ?_;try simp only[pst0,simprocAttr])|(refine a_cond _ (by(try simp(maxSteps:=2000000) only[Ty.w,simprocAttr,g1,g3,hlE,hd,hr,w7]);rfl) (fun hb=>?_) (fun hb=>?_)<;>(try simp only[hb0,decide_eq_true_eq,decide_eq_false_iff_not,simprocAttr]at hb)<;>(try(exfalso;omega)))|(refine hK _ _ ?_;clear hK;try simp only[pst0,simprocAttr]))
      refine owp_useQ (hc _) (by(try simp only[Ty.w,simprocAttr,g1,g3,hlE,hd,hr,Bool.not_true]);try rfl) ?_;simp(maxSteps:=2000000) only[Ty.w,simprocAttr,g1,g3,hlE,hd,hr,Bool.not_true]
      repeat'(first|(refine a_block ?_)|(refine a_regionS ?_;simp(maxSteps:=2000000) only[Ty.w,simprocAttr,g1,g3,w7,Bool.not_true])|(refine a_skip ?_;try simp only[pst0,simprocAttr])|(refine hK _ _ ?_;clear hK;try simp only[pst0,simprocAttr]))
      exact⟨exprs.length-(k+1),by omega,rfl,k+1,by simp,by omega,rfl,hgood rfl⟩
    ·have hd:decide ((k:Int)<(exprs.length:Int))=false:=by simp;omega
     have hF:=hop2 fun e he=>by
      obtain⟨i,hi⟩:=List.getElem?_of_mem he
      exact hall i e (by have:=(List.getElem?_eq_some_iff.1 hi).1;omega) hi
     clear hop2 hall hbE
     have wa:IntKind.i64.wrap ((params.length:Int)+exprs.length)=(params.length:Int)+exprs.length:=by rw[wrap64 (by omega) (by omega)]
     have wb:IntKind.i64.wrap (((params.length:Int)+exprs.length)+kids.length)=((params.length:Int)+exprs.length)+kids.length:=by rw[wrap64 (by omega) (by omega)]
     have wc:IntKind.i64.wrap ((args.length:Int)+params.length)=(args.length:Int)+params.length:=by rw[wrap64 (by omega) (by omega)]
     have wd:IntKind.i64.wrap (((args.length:Int)+params.length)+kids.length)=((args.length:Int)+params.length)+kids.length:=by rw[wrap64 (by omega) (by omega)]
     have we:IntKind.i64.wrap (((args.length:Int)+params.length)+exprs.length)=((args.length:Int)+params.length)+exprs.length:=by rw[wrap64 (by omega) (by omega)]
     have wf:IntKind.i64.wrap ((args.length:Int)+exprs.length)=(args.length:Int)+exprs.length:=by rw[wrap64 (by omega) (by omega)]
     unfold opF at hF
     simp only[opAtom,opSame,opLt,opLe,opEq,opAnd,opOr,opNot,opImp,opAll,opSome,bEq]at hF
     repeat'(first|(with_reducible refine a_hold 12 ?_)|(first|refine a_seq fun K hK=>?_|((first|refine a_regionS ?_|refine a_drawS (by decide+kernel) ?_);simp(maxSteps:=2000000) only[Ty.w,simprocAttr,g1,g3,hd,hlA,hlP,hlE,hlK,bne])|(refine a_exit ?_;try simp only[pst0,simprocAttr])|(refine a_cond _ (by(try simp(maxSteps:=2000000) only[Ty.w,simprocAttr,g1,g3,hd,hlA,hlP,hlE,hlK,bne]);rfl) (fun hb=>?_) (fun hb=>?_)<;>(try simp only[hb0,decide_eq_true_eq,decide_eq_false_iff_not,simprocAttr]at hb)<;>(try(exfalso;omega)))|((first|refine hK _ _ ?_|(clear hK;refine hK _ _ ?_));clear hK;try simp only[pst0,simprocAttr])))
     refine⟨?_⟩
     refine a_genR (fun S h3=>S 1= .cptr (Fm.mk op name args params exprs kids).cells∧S 5= .sc (.bool (!(name.data.toList==(#[]:Array UInt8).toList)))∧S 6= .sc (.int .i64 args.length)∧S 7= .sc (.int .i64 params.length)∧S 8= .sc (.int .i64 exprs.length)∧S 9= .sc (.int .i64 kids.length)∧h3=h2) ?_ ?_
     ·simp only[Ty.w,simprocAttr,g1,Fm.cells]
      try trivial
     clear g1 g3 hd S hlA hlP hlE hlK
     rintro S h2 ⟨g1,g5,g6,g7,g8,g9,rfl⟩
     simp only[Fm.cells]at g1
     cases k1:(op.data.toList==(#[97,116,111,109]:Array UInt8).toList)with
     |true=>
      simp only[k1,Bool.true_or,Bool.or_true,Bool.false_or,if_true,Bool.false_eq_true,if_false]at hF
      generalize nameB name=bN at hN hF
      cases bN with
      |false=>
       try simp only[Bool.false_and,Bool.and_false]at hF
       subst hF
       repeat'(first|refine a_seq fun K hK=>?_|(refine a_regionS ?_;simp(maxSteps:=2000000) only[Ty.w,simprocAttr,g1,g5,g6,g7,g8,g9,Bool.not_true,Bool.not_false,wa,wb,wc,wd,we,wf,k1])|(refine hK _ _ ?_;clear hK;try simp only[pst0,simprocAttr]))
       refine owp_useQ (hN _) (by(try simp only[Ty.w,simprocAttr,g1,g5,g6,g7,g8,g9,Bool.not_true,Bool.not_false,wa,wb,wc,wd,we,wf,k1]);try rfl) ?_;simp(maxSteps:=2000000) only[Ty.w,simprocAttr,g1,g5,g6,g7,g8,g9,Bool.not_true,Bool.not_false,wa,wb,wc,wd,we,wf,k1]
       repeat'(first|(refine a_ret ?_;simp(maxSteps:=2000000) only[Ty.w,simprocAttr,g1,g5,g6,g7,g8,g9,Bool.not_true,Bool.not_false,wa,wb,wc,wd,we,wf,k1])|(refine hK _ _ ?_;clear hK;try simp only[pst0,simprocAttr]))
       all_goals rfl
      |true=>
       try simp only[Bool.true_and,Bool.and_true]at hF
       generalize args.all termB=bA at hA hF
       cases bA with
       |false=>
        try simp only[Bool.false_and,Bool.and_false]at hF
        subst hF
        have W:=And.intro g1 (And.intro g5 (And.intro g6 (And.intro g7 (And.intro g8 (And.intro g9 (And.intro wa (And.intro wb (And.intro wc (And.intro wd (And.intro we (And.intro wf k1)))))))))))
        repeat'(first|refine a_seq fun K hK=>?_|(refine a_regionS ?_;simp(maxSteps:=2000000) only[Ty.w,simprocAttr,W,Bool.not_true,Bool.not_false])|(refine hK _ _ ?_;clear hK;try simp only[pst0,simprocAttr]))
        refine owp_useQ (hN _) (by(try simp only[Ty.w,simprocAttr,W,Bool.not_true,Bool.not_false]);try rfl) ?_;simp(maxSteps:=2000000) only[Ty.w,simprocAttr,W,Bool.not_true,Bool.not_false]
        skip
        refine owp_useQ (hA _) (by(try simp only[Ty.w,simprocAttr,W,Bool.not_true,Bool.not_false]);try rfl) ?_;simp(maxSteps:=2000000) only[Ty.w,simprocAttr,W,Bool.not_true,Bool.not_false]
        repeat'(first|(refine a_ret ?_;simp(maxSteps:=2000000) only[Ty.w,simprocAttr,W,Bool.not_true,Bool.not_false])|(refine hK _ _ ?_;clear hK;try simp only[pst0,simprocAttr]))
        all_goals rfl
       |true=>
        try simp only[Bool.true_and,Bool.and_true]at hF
        cases q2:((((params.length:Int)+exprs.length)+kids.length)==0)with
        |false=>
         simp only[q2,Bool.false_and,Bool.and_false]at hF
         subst hF
         have W:=And.intro g1 (And.intro g5 (And.intro g6 (And.intro g7 (And.intro g8 (And.intro g9 (And.intro wa (And.intro wb (And.intro wc (And.intro wd (And.intro we (And.intro wf (And.intro k1 q2))))))))))))
         repeat'(first|refine a_seq fun K hK=>?_|(refine a_regionS ?_;simp(maxSteps:=2000000) only[Ty.w,simprocAttr,W,Bool.not_true,Bool.not_false])|(refine hK _ _ ?_;clear hK;try simp only[pst0,simprocAttr]))
         refine owp_useQ (hN _) (by(try simp only[Ty.w,simprocAttr,W,Bool.not_true,Bool.not_false]);try rfl) ?_;simp(maxSteps:=2000000) only[Ty.w,simprocAttr,W,Bool.not_true,Bool.not_false]
         skip
         refine owp_useQ (hA _) (by(try simp only[Ty.w,simprocAttr,W,Bool.not_true,Bool.not_false]);try rfl) ?_;simp(maxSteps:=2000000) only[Ty.w,simprocAttr,W,Bool.not_true,Bool.not_false]
         repeat'(first|(refine a_ret ?_;simp(maxSteps:=2000000) only[Ty.w,simprocAttr,W,Bool.not_true,Bool.not_false])|(refine hK _ _ ?_;clear hK;try simp only[pst0,simprocAttr]))
         all_goals rfl
        |true=>
         simp only[q2,Bool.true_and,Bool.and_true]at hF
         subst hF
         have W:=And.intro g1 (And.intro g5 (And.intro g6 (And.intro g7 (And.intro g8 (And.intro g9 (And.intro wa (And.intro wb (And.intro wc (And.intro wd (And.intro we (And.intro wf (And.intro k1 q2))))))))))))
         repeat'(first|refine a_seq fun K hK=>?_|(refine a_regionS ?_;simp(maxSteps:=2000000) only[Ty.w,simprocAttr,W,Bool.not_true,Bool.not_false])|(refine hK _ _ ?_;clear hK;try simp only[pst0,simprocAttr]))
         refine owp_useQ (hN _) (by(try simp only[Ty.w,simprocAttr,W,Bool.not_true,Bool.not_false]);try rfl) ?_;simp(maxSteps:=2000000) only[Ty.w,simprocAttr,W,Bool.not_true,Bool.not_false]
         skip
         refine owp_useQ (hA _) (by(try simp only[Ty.w,simprocAttr,W,Bool.not_true,Bool.not_false]);try rfl) ?_;simp(maxSteps:=2000000) only[Ty.w,simprocAttr,W,Bool.not_true,Bool.not_false]
         repeat'(first|(refine a_ret ?_;simp(maxSteps:=2000000) only[Ty.w,simprocAttr,W,Bool.not_true,Bool.not_false])|(refine hK _ _ ?_;clear hK;try simp only[pst0,simprocAttr]))
         all_goals rfl
     |false=>
      simp only[k1,Bool.true_or,Bool.or_true,Bool.false_or,if_true,Bool.false_eq_true,if_false]at hF
      cases k2:(op.data.toList==(#[115,97,109,101]:Array UInt8).toList)with
      |true=>
       simp only[k2,Bool.true_or,Bool.or_true,Bool.false_or,if_true,Bool.false_eq_true,if_false]at hF
       cases q0:(name.data.toList==(#[]:Array UInt8).toList)with
       |false=>
        simp only[q0,Bool.false_and,Bool.and_false]at hF
        subst hF
        repeat'(first|refine a_seq fun K hK=>?_|((first|refine a_regionS ?_|refine a_ret ?_);simp(maxSteps:=2000000) only[Ty.w,simprocAttr,g1,g5,g6,g7,g8,g9,Bool.not_true,Bool.not_false,wa,wb,wc,wd,we,wf,k1,k2,q0])|(refine hK _ _ ?_;clear hK;try simp only[pst0,simprocAttr]))
        all_goals rfl
       |true=>
        simp only[q0,Bool.true_and,Bool.and_true]at hF
        cases q1:((args.length:Int)==2)with
        |false=>
         simp only[q1,Bool.false_and,Bool.and_false]at hF
         subst hF
         repeat'(first|refine a_seq fun K hK=>?_|((first|refine a_regionS ?_|refine a_ret ?_);simp(maxSteps:=2000000) only[Ty.w,simprocAttr,g1,g5,g6,g7,g8,g9,Bool.not_true,Bool.not_false,wa,wb,wc,wd,we,wf,k1,k2,q0,q1])|(refine hK _ _ ?_;clear hK;try simp only[pst0,simprocAttr]))
         all_goals rfl
        |true=>
         simp only[q1,Bool.true_and,Bool.and_true]at hF
         generalize args.all termB=bA at hA hF
         cases bA with
         |false=>
          try simp only[Bool.false_and,Bool.and_false]at hF
          subst hF
          repeat'(first|refine a_seq fun K hK=>?_|(refine a_regionS ?_;simp(maxSteps:=2000000) only[Ty.w,simprocAttr,g1,g5,g6,g7,g8,g9,Bool.not_true,Bool.not_false,wa,wb,wc,wd,we,wf,k1,k2,q0,q1])|(refine hK _ _ ?_;clear hK;try simp only[pst0,simprocAttr]))
          refine owp_useQ (hA _) (by(try simp only[Ty.w,simprocAttr,g1,g5,g6,g7,g8,g9,Bool.not_true,Bool.not_false,wa,wb,wc,wd,we,wf,k1,k2,q0,q1]);try rfl) ?_;simp(maxSteps:=2000000) only[Ty.w,simprocAttr,g1,g5,g6,g7,g8,g9,Bool.not_true,Bool.not_false,wa,wb,wc,wd,we,wf,k1,k2,q0,q1]
          repeat'(first|(refine a_ret ?_;simp(maxSteps:=2000000) only[Ty.w,simprocAttr,g1,g5,g6,g7,g8,g9,Bool.not_true,Bool.not_false,wa,wb,wc,wd,we,wf,k1,k2,q0,q1])|(refine hK _ _ ?_;clear hK;try simp only[pst0,simprocAttr]))
          all_goals rfl
         |true=>
          try simp only[Bool.true_and,Bool.and_true]at hF
          cases q3:((((params.length:Int)+exprs.length)+kids.length)==0)with
          |false=>
           simp only[q3,Bool.false_and,Bool.and_false]at hF
           subst hF
           repeat'(first|refine a_seq fun K hK=>?_|(refine a_regionS ?_;simp(maxSteps:=2000000) only[Ty.w,simprocAttr,g1,g5,g6,g7,g8,g9,Bool.not_true,Bool.not_false,wa,wb,wc,wd,we,wf,k1,k2,q0,q1,q3])|(refine hK _ _ ?_;clear hK;try simp only[pst0,simprocAttr]))
           refine owp_useQ (hA _) (by(try simp only[Ty.w,simprocAttr,g1,g5,g6,g7,g8,g9,Bool.not_true,Bool.not_false,wa,wb,wc,wd,we,wf,k1,k2,q0,q1,q3]);try rfl) ?_;simp(maxSteps:=2000000) only[Ty.w,simprocAttr,g1,g5,g6,g7,g8,g9,Bool.not_true,Bool.not_false,wa,wb,wc,wd,we,wf,k1,k2,q0,q1,q3]
           repeat'(first|(refine a_ret ?_;simp(maxSteps:=2000000) only[Ty.w,simprocAttr,g1,g5,g6,g7,g8,g9,Bool.not_true,Bool.not_false,wa,wb,wc,wd,we,wf,k1,k2,q0,q1,q3])|(refine hK _ _ ?_;clear hK;try simp only[pst0,simprocAttr]))
           all_goals rfl
          |true=>
           simp only[q3,Bool.true_and,Bool.and_true]at hF
           subst hF
           repeat'(first|refine a_seq fun K hK=>?_|(refine a_regionS ?_;simp(maxSteps:=2000000) only[Ty.w,simprocAttr,g1,g5,g6,g7,g8,g9,Bool.not_true,Bool.not_false,wa,wb,wc,wd,we,wf,k1,k2,q0,q1,q3])|(refine hK _ _ ?_;clear hK;try simp only[pst0,simprocAttr]))
           refine owp_useQ (hA _) (by(try simp only[Ty.w,simprocAttr,g1,g5,g6,g7,g8,g9,Bool.not_true,Bool.not_false,wa,wb,wc,wd,we,wf,k1,k2,q0,q1,q3]);try rfl) ?_;simp(maxSteps:=2000000) only[Ty.w,simprocAttr,g1,g5,g6,g7,g8,g9,Bool.not_true,Bool.not_false,wa,wb,wc,wd,we,wf,k1,k2,q0,q1,q3]
           repeat'(first|(refine a_ret ?_;simp(maxSteps:=2000000) only[Ty.w,simprocAttr,g1,g5,g6,g7,g8,g9,Bool.not_true,Bool.not_false,wa,wb,wc,wd,we,wf,k1,k2,q0,q1,q3])|(refine hK _ _ ?_;clear hK;try simp only[pst0,simprocAttr]))
           all_goals rfl
      |false=>
       simp only[k2,Bool.true_or,Bool.or_true,Bool.false_or,if_true,Bool.false_eq_true,if_false]at hF
       cases k3:(op.data.toList==(#[60]:Array UInt8).toList)with
       |true=>
        simp only[k3,Bool.true_or,Bool.or_true,Bool.false_or,if_true,Bool.false_eq_true,if_false]at hF
        cases q0:(name.data.toList==(#[]:Array UInt8).toList)with
        |false=>
         simp only[q0,Bool.false_and,Bool.and_false]at hF
         subst hF
         repeat'(first|refine a_seq fun K hK=>?_|((first|refine a_regionS ?_|refine a_ret ?_);simp(maxSteps:=2000000) only[Ty.w,simprocAttr,g1,g5,g6,g7,g8,g9,Bool.not_true,Bool.not_false,wa,wb,wc,wd,we,wf,k1,k2,k3,q0])|(refine a_skip ?_;try simp only[pst0,simprocAttr])|(refine a_cond _ (by(try simp(maxSteps:=2000000) only[Ty.w,simprocAttr,g1,g5,g6,g7,g8,g9,Bool.not_true,Bool.not_false,wa,wb,wc,wd,we,wf,k1,k2,k3,q0]);rfl) (fun hb=>?_) (fun hb=>?_)<;>(try simp only[hb0,decide_eq_true_eq,decide_eq_false_iff_not,simprocAttr]at hb)<;>(try(exfalso;omega)))|(refine hK _ _ ?_;clear hK;try simp only[pst0,simprocAttr]))
         all_goals rfl
        |true=>
         simp only[q0,Bool.true_and,Bool.and_true]at hF
         cases q1:((((args.length:Int)+params.length)+kids.length)==0)with
         |false=>
          simp only[q1,Bool.false_and,Bool.and_false]at hF
          subst hF
          repeat'(first|refine a_seq fun K hK=>?_|((first|refine a_regionS ?_|refine a_ret ?_);simp(maxSteps:=2000000) only[Ty.w,simprocAttr,g1,g5,g6,g7,g8,g9,Bool.not_true,Bool.not_false,wa,wb,wc,wd,we,wf,k1,k2,k3,q0,q1])|(refine a_skip ?_;try simp only[pst0,simprocAttr])|(refine a_cond _ (by(try simp(maxSteps:=2000000) only[Ty.w,simprocAttr,g1,g5,g6,g7,g8,g9,Bool.not_true,Bool.not_false,wa,wb,wc,wd,we,wf,k1,k2,k3,q0,q1]);rfl) (fun hb=>?_) (fun hb=>?_)<;>(try simp only[hb0,decide_eq_true_eq,decide_eq_false_iff_not,simprocAttr]at hb)<;>(try(exfalso;omega)))|(refine hK _ _ ?_;clear hK;try simp only[pst0,simprocAttr]))
          all_goals rfl
         |true=>
          simp only[q1,Bool.true_and,Bool.and_true]at hF
          cases q2:((exprs.length:Int)==2)with
          |false=>
           simp only[q2,Bool.false_and,Bool.and_false]at hF
           subst hF
           repeat'(first|refine a_seq fun K hK=>?_|((first|refine a_regionS ?_|refine a_ret ?_);simp(maxSteps:=2000000) only[Ty.w,simprocAttr,g1,g5,g6,g7,g8,g9,Bool.not_true,Bool.not_false,wa,wb,wc,wd,we,wf,k1,k2,k3,q0,q1,q2])|(refine a_skip ?_;try simp only[pst0,simprocAttr])|(refine a_cond _ (by(try simp(maxSteps:=2000000) only[Ty.w,simprocAttr,g1,g5,g6,g7,g8,g9,Bool.not_true,Bool.not_false,wa,wb,wc,wd,we,wf,k1,k2,k3,q0,q1,q2]);rfl) (fun hb=>?_) (fun hb=>?_)<;>(try simp only[hb0,decide_eq_true_eq,decide_eq_false_iff_not,simprocAttr]at hb)<;>(try(exfalso;omega)))|(refine hK _ _ ?_;clear hK;try simp only[pst0,simprocAttr]))
           all_goals rfl
          |true=>
           simp only[q2,Bool.true_and,Bool.and_true]at hF
           subst hF
           repeat'(first|refine a_seq fun K hK=>?_|((first|refine a_regionS ?_|refine a_ret ?_);simp(maxSteps:=2000000) only[Ty.w,simprocAttr,g1,g5,g6,g7,g8,g9,Bool.not_true,Bool.not_false,wa,wb,wc,wd,we,wf,k1,k2,k3,q0,q1,q2])|(refine a_skip ?_;try simp only[pst0,simprocAttr])|(refine a_cond _ (by(try simp(maxSteps:=2000000) only[Ty.w,simprocAttr,g1,g5,g6,g7,g8,g9,Bool.not_true,Bool.not_false,wa,wb,wc,wd,we,wf,k1,k2,k3,q0,q1,q2]);rfl) (fun hb=>?_) (fun hb=>?_)<;>(try simp only[hb0,decide_eq_true_eq,decide_eq_false_iff_not,simprocAttr]at hb)<;>(try(exfalso;omega)))|(refine hK _ _ ?_;clear hK;try simp only[pst0,simprocAttr]))
           all_goals rfl
       |false=>
        simp only[k3,Bool.true_or,Bool.or_true,Bool.false_or,if_true,Bool.false_eq_true,if_false]at hF
        cases k4:(op.data.toList==(#[60,61]:Array UInt8).toList)with
        |true=>
         simp only[k4,Bool.true_or,Bool.or_true,Bool.false_or,if_true,Bool.false_eq_true,if_false]at hF
         cases q0:(name.data.toList==(#[]:Array UInt8).toList)with
         |false=>
          simp only[q0,Bool.false_and,Bool.and_false]at hF
          subst hF
          repeat'(first|refine a_seq fun K hK=>?_|((first|refine a_regionS ?_|refine a_ret ?_);simp(maxSteps:=2000000) only[Ty.w,simprocAttr,g1,g5,g6,g7,g8,g9,Bool.not_true,Bool.not_false,wa,wb,wc,wd,we,wf,k1,k2,k3,k4,q0])|(refine a_skip ?_;try simp only[pst0,simprocAttr])|(refine a_cond _ (by(try simp(maxSteps:=2000000) only[Ty.w,simprocAttr,g1,g5,g6,g7,g8,g9,Bool.not_true,Bool.not_false,wa,wb,wc,wd,we,wf,k1,k2,k3,k4,q0]);rfl) (fun hb=>?_) (fun hb=>?_)<;>(try simp only[hb0,decide_eq_true_eq,decide_eq_false_iff_not,simprocAttr]at hb)<;>(try(exfalso;omega)))|(refine hK _ _ ?_;clear hK;try simp only[pst0,simprocAttr]))
          all_goals rfl
         |true=>
          simp only[q0,Bool.true_and,Bool.and_true]at hF
          cases q1:((((args.length:Int)+params.length)+kids.length)==0)with
          |false=>
           simp only[q1,Bool.false_and,Bool.and_false]at hF
           subst hF
           repeat'(first|refine a_seq fun K hK=>?_|((first|refine a_regionS ?_|refine a_ret ?_);simp(maxSteps:=2000000) only[Ty.w,simprocAttr,g1,g5,g6,g7,g8,g9,Bool.not_true,Bool.not_false,wa,wb,wc,wd,we,wf,k1,k2,k3,k4,q0,q1])|(refine a_skip ?_;try simp only[pst0,simprocAttr])|(refine a_cond _ (by(try simp(maxSteps:=2000000) only[Ty.w,simprocAttr,g1,g5,g6,g7,g8,g9,Bool.not_true,Bool.not_false,wa,wb,wc,wd,we,wf,k1,k2,k3,k4,q0,q1]);rfl) (fun hb=>?_) (fun hb=>?_)<;>(try simp only[hb0,decide_eq_true_eq,decide_eq_false_iff_not,simprocAttr]at hb)<;>(try(exfalso;omega)))|(refine hK _ _ ?_;clear hK;try simp only[pst0,simprocAttr]))
           all_goals rfl
          |true=>
           simp only[q1,Bool.true_and,Bool.and_true]at hF
           cases q2:((exprs.length:Int)==2)with
           |false=>
            simp only[q2,Bool.false_and,Bool.and_false]at hF
            subst hF
            repeat'(first|refine a_seq fun K hK=>?_|((first|refine a_regionS ?_|refine a_ret ?_);simp(maxSteps:=2000000) only[Ty.w,simprocAttr,g1,g5,g6,g7,g8,g9,Bool.not_true,Bool.not_false,wa,wb,wc,wd,we,wf,k1,k2,k3,k4,q0,q1,q2])|(refine a_skip ?_;try simp only[pst0,simprocAttr])|(refine a_cond _ (by(try simp(maxSteps:=2000000) only[Ty.w,simprocAttr,g1,g5,g6,g7,g8,g9,Bool.not_true,Bool.not_false,wa,wb,wc,wd,we,wf,k1,k2,k3,k4,q0,q1,q2]);rfl) (fun hb=>?_) (fun hb=>?_)<;>(try simp only[hb0,decide_eq_true_eq,decide_eq_false_iff_not,simprocAttr]at hb)<;>(try(exfalso;omega)))|(refine hK _ _ ?_;clear hK;try simp only[pst0,simprocAttr]))
            all_goals rfl
           |true=>
            simp only[q2,Bool.true_and,Bool.and_true]at hF
            subst hF
            repeat'(first|refine a_seq fun K hK=>?_|((first|refine a_regionS ?_|refine a_ret ?_);simp(maxSteps:=2000000) only[Ty.w,simprocAttr,g1,g5,g6,g7,g8,g9,Bool.not_true,Bool.not_false,wa,wb,wc,wd,we,wf,k1,k2,k3,k4,q0,q1,q2])|(refine a_skip ?_;try simp only[pst0,simprocAttr])|(refine a_cond _ (by(try simp(maxSteps:=2000000) only[Ty.w,simprocAttr,g1,g5,g6,g7,g8,g9,Bool.not_true,Bool.not_false,wa,wb,wc,wd,we,wf,k1,k2,k3,k4,q0,q1,q2]);rfl) (fun hb=>?_) (fun hb=>?_)<;>(try simp only[hb0,decide_eq_true_eq,decide_eq_false_iff_not,simprocAttr]at hb)<;>(try(exfalso;omega)))|(refine hK _ _ ?_;clear hK;try simp only[pst0,simprocAttr]))
            all_goals rfl
        |false=>
         simp only[k4,Bool.true_or,Bool.or_true,Bool.false_or,if_true,Bool.false_eq_true,if_false]at hF
         cases k5:(op.data.toList==(#[61]:Array UInt8).toList)with
         |true=>
          simp only[k5,Bool.true_or,Bool.or_true,Bool.false_or,if_true,Bool.false_eq_true,if_false]at hF
          cases q0:(name.data.toList==(#[]:Array UInt8).toList)with
          |false=>
           simp only[q0,Bool.false_and,Bool.and_false]at hF
           subst hF
           repeat'(first|refine a_seq fun K hK=>?_|((first|refine a_regionS ?_|refine a_ret ?_);simp(maxSteps:=2000000) only[Ty.w,simprocAttr,g1,g5,g6,g7,g8,g9,Bool.not_true,Bool.not_false,wa,wb,wc,wd,we,wf,k1,k2,k3,k4,k5,q0])|(refine a_cond _ (by(try simp(maxSteps:=2000000) only[Ty.w,simprocAttr,g1,g5,g6,g7,g8,g9,Bool.not_true,Bool.not_false,wa,wb,wc,wd,we,wf,k1,k2,k3,k4,k5,q0]);rfl) (fun hb=>?_) (fun hb=>?_)<;>(try simp only[hb0,decide_eq_true_eq,decide_eq_false_iff_not,simprocAttr]at hb)<;>(try(exfalso;omega)))|(refine hK _ _ ?_;clear hK;try simp only[pst0,simprocAttr]))
           all_goals rfl
          |true=>
           simp only[q0,Bool.true_and,Bool.and_true]at hF
           cases q1:((((args.length:Int)+params.length)+kids.length)==0)with
           |false=>
            simp only[q1,Bool.false_and,Bool.and_false]at hF
            subst hF
            repeat'(first|refine a_seq fun K hK=>?_|((first|refine a_regionS ?_|refine a_ret ?_);simp(maxSteps:=2000000) only[Ty.w,simprocAttr,g1,g5,g6,g7,g8,g9,Bool.not_true,Bool.not_false,wa,wb,wc,wd,we,wf,k1,k2,k3,k4,k5,q0,q1])|(refine a_cond _ (by(try simp(maxSteps:=2000000) only[Ty.w,simprocAttr,g1,g5,g6,g7,g8,g9,Bool.not_true,Bool.not_false,wa,wb,wc,wd,we,wf,k1,k2,k3,k4,k5,q0,q1]);rfl) (fun hb=>?_) (fun hb=>?_)<;>(try simp only[hb0,decide_eq_true_eq,decide_eq_false_iff_not,simprocAttr]at hb)<;>(try(exfalso;omega)))|(refine hK _ _ ?_;clear hK;try simp only[pst0,simprocAttr]))
            all_goals rfl
           |true=>
            simp only[q1,Bool.true_and,Bool.and_true]at hF
            cases q2:((exprs.length:Int)==2)with
            |false=>
             simp only[q2,Bool.false_and,Bool.and_false]at hF
             subst hF
             repeat'(first|refine a_seq fun K hK=>?_|((first|refine a_regionS ?_|refine a_ret ?_);simp(maxSteps:=2000000) only[Ty.w,simprocAttr,g1,g5,g6,g7,g8,g9,Bool.not_true,Bool.not_false,wa,wb,wc,wd,we,wf,k1,k2,k3,k4,k5,q0,q1,q2])|(refine a_cond _ (by(try simp(maxSteps:=2000000) only[Ty.w,simprocAttr,g1,g5,g6,g7,g8,g9,Bool.not_true,Bool.not_false,wa,wb,wc,wd,we,wf,k1,k2,k3,k4,k5,q0,q1,q2]);rfl) (fun hb=>?_) (fun hb=>?_)<;>(try simp only[hb0,decide_eq_true_eq,decide_eq_false_iff_not,simprocAttr]at hb)<;>(try(exfalso;omega)))|(refine hK _ _ ?_;clear hK;try simp only[pst0,simprocAttr]))
             all_goals rfl
            |true=>
             simp only[q2,Bool.true_and,Bool.and_true]at hF
             subst hF
             repeat'(first|refine a_seq fun K hK=>?_|((first|refine a_regionS ?_|refine a_ret ?_);simp(maxSteps:=2000000) only[Ty.w,simprocAttr,g1,g5,g6,g7,g8,g9,Bool.not_true,Bool.not_false,wa,wb,wc,wd,we,wf,k1,k2,k3,k4,k5,q0,q1,q2])|(refine a_cond _ (by(try simp(maxSteps:=2000000) only[Ty.w,simprocAttr,g1,g5,g6,g7,g8,g9,Bool.not_true,Bool.not_false,wa,wb,wc,wd,we,wf,k1,k2,k3,k4,k5,q0,q1,q2]);rfl) (fun hb=>?_) (fun hb=>?_)<;>(try simp only[hb0,decide_eq_true_eq,decide_eq_false_iff_not,simprocAttr]at hb)<;>(try(exfalso;omega)))|(refine hK _ _ ?_;clear hK;try simp only[pst0,simprocAttr]))
             all_goals rfl
         |false=>
          simp only[k5,Bool.true_or,Bool.or_true,Bool.false_or,if_true,Bool.false_eq_true,if_false]at hF
          cases k6:(op.data.toList==(#[97,110,100]:Array UInt8).toList)with
          |true=>
           simp only[k6,Bool.true_or,Bool.or_true,Bool.false_or,if_true,Bool.false_eq_true,if_false]at hF
           cases q0:(name.data.toList==(#[]:Array UInt8).toList)with
           |false=>
            simp only[q0,Bool.false_and,Bool.and_false]at hF
            subst hF
            repeat'(first|refine a_seq fun K hK=>?_|((first|refine a_regionS ?_|refine a_ret ?_);simp(maxSteps:=2000000) only[Ty.w,simprocAttr,g1,g5,g6,g7,g8,g9,Bool.not_true,Bool.not_false,wa,wb,wc,wd,we,wf,k1,k2,k3,k4,k5,k6,q0])|(refine a_skip ?_;try simp only[pst0,simprocAttr])|(refine a_cond _ (by(try simp(maxSteps:=2000000) only[Ty.w,simprocAttr,g1,g5,g6,g7,g8,g9,Bool.not_true,Bool.not_false,wa,wb,wc,wd,we,wf,k1,k2,k3,k4,k5,k6,q0]);rfl) (fun hb=>?_) (fun hb=>?_)<;>(try simp only[hb0,decide_eq_true_eq,decide_eq_false_iff_not,simprocAttr]at hb)<;>(try(exfalso;omega)))|(refine hK _ _ ?_;clear hK;try simp only[pst0,simprocAttr]))
            all_goals rfl
           |true=>
            simp only[q0,Bool.true_and,Bool.and_true]at hF
            cases q1:((((args.length:Int)+params.length)+exprs.length)==0)with
            |false=>
             simp only[q1,Bool.false_and,Bool.and_false]at hF
             subst hF
             repeat'(first|refine a_seq fun K hK=>?_|((first|refine a_regionS ?_|refine a_ret ?_);simp(maxSteps:=2000000) only[Ty.w,simprocAttr,g1,g5,g6,g7,g8,g9,Bool.not_true,Bool.not_false,wa,wb,wc,wd,we,wf,k1,k2,k3,k4,k5,k6,q0,q1])|(refine a_skip ?_;try simp only[pst0,simprocAttr])|(refine a_cond _ (by(try simp(maxSteps:=2000000) only[Ty.w,simprocAttr,g1,g5,g6,g7,g8,g9,Bool.not_true,Bool.not_false,wa,wb,wc,wd,we,wf,k1,k2,k3,k4,k5,k6,q0,q1]);rfl) (fun hb=>?_) (fun hb=>?_)<;>(try simp only[hb0,decide_eq_true_eq,decide_eq_false_iff_not,simprocAttr]at hb)<;>(try(exfalso;omega)))|(refine hK _ _ ?_;clear hK;try simp only[pst0,simprocAttr]))
             all_goals rfl
            |true=>
             simp only[q1,Bool.true_and,Bool.and_true]at hF
             subst hF
             repeat'(first|refine a_seq fun K hK=>?_|((first|refine a_regionS ?_|refine a_ret ?_);simp(maxSteps:=2000000) only[Ty.w,simprocAttr,g1,g5,g6,g7,g8,g9,Bool.not_true,Bool.not_false,wa,wb,wc,wd,we,wf,k1,k2,k3,k4,k5,k6,q0,q1])|(refine a_skip ?_;try simp only[pst0,simprocAttr])|(refine a_cond _ (by(try simp(maxSteps:=2000000) only[Ty.w,simprocAttr,g1,g5,g6,g7,g8,g9,Bool.not_true,Bool.not_false,wa,wb,wc,wd,we,wf,k1,k2,k3,k4,k5,k6,q0,q1]);rfl) (fun hb=>?_) (fun hb=>?_)<;>(try simp only[hb0,decide_eq_true_eq,decide_eq_false_iff_not,simprocAttr]at hb)<;>(try(exfalso;omega)))|(refine hK _ _ ?_;clear hK;try simp only[pst0,simprocAttr]))
             all_goals rfl
          |false=>
           simp only[k6,Bool.true_or,Bool.or_true,Bool.false_or,if_true,Bool.false_eq_true,if_false]at hF
           cases k7:(op.data.toList==(#[111,114]:Array UInt8).toList)with
           |true=>
            simp only[k7,Bool.true_or,Bool.or_true,Bool.false_or,if_true,Bool.false_eq_true,if_false]at hF
            cases q0:(name.data.toList==(#[]:Array UInt8).toList)with
            |false=>
             simp only[q0,Bool.false_and,Bool.and_false]at hF
             subst hF
             repeat'(first|refine a_seq fun K hK=>?_|((first|refine a_regionS ?_|refine a_ret ?_);simp(maxSteps:=2000000) only[Ty.w,simprocAttr,g1,g5,g6,g7,g8,g9,Bool.not_true,Bool.not_false,wa,wb,wc,wd,we,wf,k1,k2,k3,k4,k5,k6,k7,q0])|(refine a_cond _ (by(try simp(maxSteps:=2000000) only[Ty.w,simprocAttr,g1,g5,g6,g7,g8,g9,Bool.not_true,Bool.not_false,wa,wb,wc,wd,we,wf,k1,k2,k3,k4,k5,k6,k7,q0]);rfl) (fun hb=>?_) (fun hb=>?_)<;>(try simp only[hb0,decide_eq_true_eq,decide_eq_false_iff_not,simprocAttr]at hb)<;>(try(exfalso;omega)))|(refine hK _ _ ?_;clear hK;try simp only[pst0,simprocAttr]))
             all_goals rfl
            |true=>
             simp only[q0,Bool.true_and,Bool.and_true]at hF
             cases q1:((((args.length:Int)+params.length)+exprs.length)==0)with
             |false=>
              simp only[q1,Bool.false_and,Bool.and_false]at hF
              subst hF
              repeat'(first|refine a_seq fun K hK=>?_|((first|refine a_regionS ?_|refine a_ret ?_);simp(maxSteps:=2000000) only[Ty.w,simprocAttr,g1,g5,g6,g7,g8,g9,Bool.not_true,Bool.not_false,wa,wb,wc,wd,we,wf,k1,k2,k3,k4,k5,k6,k7,q0,q1])|(refine a_cond _ (by(try simp(maxSteps:=2000000) only[Ty.w,simprocAttr,g1,g5,g6,g7,g8,g9,Bool.not_true,Bool.not_false,wa,wb,wc,wd,we,wf,k1,k2,k3,k4,k5,k6,k7,q0,q1]);rfl) (fun hb=>?_) (fun hb=>?_)<;>(try simp only[hb0,decide_eq_true_eq,decide_eq_false_iff_not,simprocAttr]at hb)<;>(try(exfalso;omega)))|(refine hK _ _ ?_;clear hK;try simp only[pst0,simprocAttr]))
              all_goals rfl
             |true=>
              simp only[q1,Bool.true_and,Bool.and_true]at hF
              subst hF
              repeat'(first|refine a_seq fun K hK=>?_|((first|refine a_regionS ?_|refine a_ret ?_);simp(maxSteps:=2000000) only[Ty.w,simprocAttr,g1,g5,g6,g7,g8,g9,Bool.not_true,Bool.not_false,wa,wb,wc,wd,we,wf,k1,k2,k3,k4,k5,k6,k7,q0,q1])|(refine a_cond _ (by(try simp(maxSteps:=2000000) only[Ty.w,simprocAttr,g1,g5,g6,g7,g8,g9,Bool.not_true,Bool.not_false,wa,wb,wc,wd,we,wf,k1,k2,k3,k4,k5,k6,k7,q0,q1]);rfl) (fun hb=>?_) (fun hb=>?_)<;>(try simp only[hb0,decide_eq_true_eq,decide_eq_false_iff_not,simprocAttr]at hb)<;>(try(exfalso;omega)))|(refine hK _ _ ?_;clear hK;try simp only[pst0,simprocAttr]))
              all_goals rfl
           |false=>
            simp only[k7,Bool.true_or,Bool.or_true,Bool.false_or,if_true,Bool.false_eq_true,if_false]at hF
            cases k8:(op.data.toList==(#[110,111,116]:Array UInt8).toList)with
            |true=>
             simp only[k8,Bool.true_or,Bool.or_true,Bool.false_or,if_true,Bool.false_eq_true,if_false]at hF
             cases q0:(name.data.toList==(#[]:Array UInt8).toList)with
             |false=>
              simp only[q0,Bool.false_and,Bool.and_false]at hF
              subst hF
              repeat'(first|refine a_seq fun K hK=>?_|((first|refine a_regionS ?_|refine a_ret ?_);simp(maxSteps:=2000000) only[Ty.w,simprocAttr,g1,g5,g6,g7,g8,g9,Bool.not_true,Bool.not_false,wa,wb,wc,wd,we,wf,k1,k2,k3,k4,k5,k6,k7,k8,q0])|(refine a_cond _ (by(try simp(maxSteps:=2000000) only[Ty.w,simprocAttr,g1,g5,g6,g7,g8,g9,Bool.not_true,Bool.not_false,wa,wb,wc,wd,we,wf,k1,k2,k3,k4,k5,k6,k7,k8,q0]);rfl) (fun hb=>?_) (fun hb=>?_)<;>(try simp only[hb0,decide_eq_true_eq,decide_eq_false_iff_not,simprocAttr]at hb)<;>(try(exfalso;omega)))|(refine hK _ _ ?_;clear hK;try simp only[pst0,simprocAttr]))
              all_goals rfl
             |true=>
              simp only[q0,Bool.true_and,Bool.and_true]at hF
              cases q1:((((args.length:Int)+params.length)+exprs.length)==0)with
              |false=>
               simp only[q1,Bool.false_and,Bool.and_false]at hF
               subst hF
               repeat'(first|refine a_seq fun K hK=>?_|((first|refine a_regionS ?_|refine a_ret ?_);simp(maxSteps:=2000000) only[Ty.w,simprocAttr,g1,g5,g6,g7,g8,g9,Bool.not_true,Bool.not_false,wa,wb,wc,wd,we,wf,k1,k2,k3,k4,k5,k6,k7,k8,q0,q1])|(refine a_cond _ (by(try simp(maxSteps:=2000000) only[Ty.w,simprocAttr,g1,g5,g6,g7,g8,g9,Bool.not_true,Bool.not_false,wa,wb,wc,wd,we,wf,k1,k2,k3,k4,k5,k6,k7,k8,q0,q1]);rfl) (fun hb=>?_) (fun hb=>?_)<;>(try simp only[hb0,decide_eq_true_eq,decide_eq_false_iff_not,simprocAttr]at hb)<;>(try(exfalso;omega)))|(refine hK _ _ ?_;clear hK;try simp only[pst0,simprocAttr]))
               all_goals rfl
              |true=>
               simp only[q1,Bool.true_and,Bool.and_true]at hF
               cases q2:((kids.length:Int)==1)with
               |false=>
                simp only[q2,Bool.false_and,Bool.and_false]at hF
                subst hF
                repeat'(first|refine a_seq fun K hK=>?_|((first|refine a_regionS ?_|refine a_ret ?_);simp(maxSteps:=2000000) only[Ty.w,simprocAttr,g1,g5,g6,g7,g8,g9,Bool.not_true,Bool.not_false,wa,wb,wc,wd,we,wf,k1,k2,k3,k4,k5,k6,k7,k8,q0,q1,q2])|(refine a_cond _ (by(try simp(maxSteps:=2000000) only[Ty.w,simprocAttr,g1,g5,g6,g7,g8,g9,Bool.not_true,Bool.not_false,wa,wb,wc,wd,we,wf,k1,k2,k3,k4,k5,k6,k7,k8,q0,q1,q2]);rfl) (fun hb=>?_) (fun hb=>?_)<;>(try simp only[hb0,decide_eq_true_eq,decide_eq_false_iff_not,simprocAttr]at hb)<;>(try(exfalso;omega)))|(refine hK _ _ ?_;clear hK;try simp only[pst0,simprocAttr]))
                all_goals rfl
               |true=>
                simp only[q2,Bool.true_and,Bool.and_true]at hF
                subst hF
                repeat'(first|refine a_seq fun K hK=>?_|((first|refine a_regionS ?_|refine a_ret ?_);simp(maxSteps:=2000000) only[Ty.w,simprocAttr,g1,g5,g6,g7,g8,g9,Bool.not_true,Bool.not_false,wa,wb,wc,wd,we,wf,k1,k2,k3,k4,k5,k6,k7,k8,q0,q1,q2])|(refine a_cond _ (by(try simp(maxSteps:=2000000) only[Ty.w,simprocAttr,g1,g5,g6,g7,g8,g9,Bool.not_true,Bool.not_false,wa,wb,wc,wd,we,wf,k1,k2,k3,k4,k5,k6,k7,k8,q0,q1,q2]);rfl) (fun hb=>?_) (fun hb=>?_)<;>(try simp only[hb0,decide_eq_true_eq,decide_eq_false_iff_not,simprocAttr]at hb)<;>(try(exfalso;omega)))|(refine hK _ _ ?_;clear hK;try simp only[pst0,simprocAttr]))
                all_goals rfl
            |false=>
             simp only[k8,Bool.true_or,Bool.or_true,Bool.false_or,if_true,Bool.false_eq_true,if_false]at hF
             cases k9:(op.data.toList==(#[105,109,112,108,121]:Array UInt8).toList)with
             |true=>
              simp only[k9,Bool.true_or,Bool.or_true,Bool.false_or,if_true,Bool.false_eq_true,if_false]at hF
              cases q0:(name.data.toList==(#[]:Array UInt8).toList)with
              |false=>
               simp only[q0,Bool.false_and,Bool.and_false]at hF
               subst hF
               repeat'(first|refine a_seq fun K hK=>?_|((first|refine a_regionS ?_|refine a_ret ?_);simp(maxSteps:=2000000) only[Ty.w,simprocAttr,g1,g5,g6,g7,g8,g9,Bool.not_true,Bool.not_false,wa,wb,wc,wd,we,wf,k1,k2,k3,k4,k5,k6,k7,k8,k9,q0])|(refine a_cond _ (by(try simp(maxSteps:=2000000) only[Ty.w,simprocAttr,g1,g5,g6,g7,g8,g9,Bool.not_true,Bool.not_false,wa,wb,wc,wd,we,wf,k1,k2,k3,k4,k5,k6,k7,k8,k9,q0]);rfl) (fun hb=>?_) (fun hb=>?_)<;>(try simp only[hb0,decide_eq_true_eq,decide_eq_false_iff_not,simprocAttr]at hb)<;>(try(exfalso;omega)))|(refine hK _ _ ?_;clear hK;try simp only[pst0,simprocAttr]))
               all_goals rfl
              |true=>
               simp only[q0,Bool.true_and,Bool.and_true]at hF
               cases q1:((((args.length:Int)+params.length)+exprs.length)==0)with
               |false=>
                simp only[q1,Bool.false_and,Bool.and_false]at hF
                subst hF
                repeat'(first|refine a_seq fun K hK=>?_|((first|refine a_regionS ?_|refine a_ret ?_);simp(maxSteps:=2000000) only[Ty.w,simprocAttr,g1,g5,g6,g7,g8,g9,Bool.not_true,Bool.not_false,wa,wb,wc,wd,we,wf,k1,k2,k3,k4,k5,k6,k7,k8,k9,q0,q1])|(refine a_cond _ (by(try simp(maxSteps:=2000000) only[Ty.w,simprocAttr,g1,g5,g6,g7,g8,g9,Bool.not_true,Bool.not_false,wa,wb,wc,wd,we,wf,k1,k2,k3,k4,k5,k6,k7,k8,k9,q0,q1]);rfl) (fun hb=>?_) (fun hb=>?_)<;>(try simp only[hb0,decide_eq_true_eq,decide_eq_false_iff_not,simprocAttr]at hb)<;>(try(exfalso;omega)))|(refine hK _ _ ?_;clear hK;try simp only[pst0,simprocAttr]))
                all_goals rfl
               |true=>
                simp only[q1,Bool.true_and,Bool.and_true]at hF
                cases q2:((kids.length:Int)==2)with
                |false=>
                 simp only[q2,Bool.false_and,Bool.and_false]at hF
                 subst hF
                 repeat'(first|refine a_seq fun K hK=>?_|((first|refine a_regionS ?_|refine a_ret ?_);simp(maxSteps:=2000000) only[Ty.w,simprocAttr,g1,g5,g6,g7,g8,g9,Bool.not_true,Bool.not_false,wa,wb,wc,wd,we,wf,k1,k2,k3,k4,k5,k6,k7,k8,k9,q0,q1,q2])|(refine a_cond _ (by(try simp(maxSteps:=2000000) only[Ty.w,simprocAttr,g1,g5,g6,g7,g8,g9,Bool.not_true,Bool.not_false,wa,wb,wc,wd,we,wf,k1,k2,k3,k4,k5,k6,k7,k8,k9,q0,q1,q2]);rfl) (fun hb=>?_) (fun hb=>?_)<;>(try simp only[hb0,decide_eq_true_eq,decide_eq_false_iff_not,simprocAttr]at hb)<;>(try(exfalso;omega)))|(refine hK _ _ ?_;clear hK;try simp only[pst0,simprocAttr]))
                 all_goals rfl
                |true=>
                 simp only[q2,Bool.true_and,Bool.and_true]at hF
                 subst hF
                 repeat'(first|refine a_seq fun K hK=>?_|((first|refine a_regionS ?_|refine a_ret ?_);simp(maxSteps:=2000000) only[Ty.w,simprocAttr,g1,g5,g6,g7,g8,g9,Bool.not_true,Bool.not_false,wa,wb,wc,wd,we,wf,k1,k2,k3,k4,k5,k6,k7,k8,k9,q0,q1,q2])|(refine a_cond _ (by(try simp(maxSteps:=2000000) only[Ty.w,simprocAttr,g1,g5,g6,g7,g8,g9,Bool.not_true,Bool.not_false,wa,wb,wc,wd,we,wf,k1,k2,k3,k4,k5,k6,k7,k8,k9,q0,q1,q2]);rfl) (fun hb=>?_) (fun hb=>?_)<;>(try simp only[hb0,decide_eq_true_eq,decide_eq_false_iff_not,simprocAttr]at hb)<;>(try(exfalso;omega)))|(refine hK _ _ ?_;clear hK;try simp only[pst0,simprocAttr]))
                 all_goals rfl
             |false=>
              simp only[k9,Bool.true_or,Bool.or_true,Bool.false_or,if_true,Bool.false_eq_true,if_false]at hF
              cases k10:(op.data.toList==(#[102,111,114,97,108,108]:Array UInt8).toList)with
              |true=>
               simp only[k10,Bool.true_or,Bool.or_true,Bool.false_or,if_true,Bool.false_eq_true,if_false]at hF
               cases q0:(name.data.toList==(#[]:Array UInt8).toList)with
               |false=>
                simp only[q0,Bool.false_and,Bool.and_false]at hF
                subst hF
                repeat'(first|refine a_seq fun K hK=>?_|((first|refine a_regionS ?_|refine a_ret ?_);simp(maxSteps:=2000000) only[Ty.w,simprocAttr,g1,g5,g6,g7,g8,g9,Bool.not_true,Bool.not_false,wa,wb,wc,wd,we,wf,k1,k2,k3,k4,k5,k6,k7,k8,k9,k10,q0])|(refine a_skip ?_;try simp only[pst0,simprocAttr])|(refine a_cond _ (by(try simp(maxSteps:=2000000) only[Ty.w,simprocAttr,g1,g5,g6,g7,g8,g9,Bool.not_true,Bool.not_false,wa,wb,wc,wd,we,wf,k1,k2,k3,k4,k5,k6,k7,k8,k9,k10,q0]);rfl) (fun hb=>?_) (fun hb=>?_)<;>(try simp only[hb0,decide_eq_true_eq,decide_eq_false_iff_not,simprocAttr]at hb)<;>(try(exfalso;omega)))|(refine hK _ _ ?_;clear hK;try simp only[pst0,simprocAttr]))
                all_goals rfl
               |true=>
                simp only[q0,Bool.true_and,Bool.and_true]at hF
                cases q1:(((args.length:Int)+exprs.length)==0)with
                |false=>
                 simp only[q1,Bool.false_and,Bool.and_false]at hF
                 subst hF
                 repeat'(first|refine a_seq fun K hK=>?_|((first|refine a_regionS ?_|refine a_ret ?_);simp(maxSteps:=2000000) only[Ty.w,simprocAttr,g1,g5,g6,g7,g8,g9,Bool.not_true,Bool.not_false,wa,wb,wc,wd,we,wf,k1,k2,k3,k4,k5,k6,k7,k8,k9,k10,q0,q1])|(refine a_skip ?_;try simp only[pst0,simprocAttr])|(refine a_cond _ (by(try simp(maxSteps:=2000000) only[Ty.w,simprocAttr,g1,g5,g6,g7,g8,g9,Bool.not_true,Bool.not_false,wa,wb,wc,wd,we,wf,k1,k2,k3,k4,k5,k6,k7,k8,k9,k10,q0,q1]);rfl) (fun hb=>?_) (fun hb=>?_)<;>(try simp only[hb0,decide_eq_true_eq,decide_eq_false_iff_not,simprocAttr]at hb)<;>(try(exfalso;omega)))|(refine hK _ _ ?_;clear hK;try simp only[pst0,simprocAttr]))
                 all_goals rfl
                |true=>
                 simp only[q1,Bool.true_and,Bool.and_true]at hF
                 cases q2:((kids.length:Int)==1)with
                 |false=>
                  simp only[q2,Bool.false_and,Bool.and_false]at hF
                  subst hF
                  repeat'(first|refine a_seq fun K hK=>?_|((first|refine a_regionS ?_|refine a_ret ?_);simp(maxSteps:=2000000) only[Ty.w,simprocAttr,g1,g5,g6,g7,g8,g9,Bool.not_true,Bool.not_false,wa,wb,wc,wd,we,wf,k1,k2,k3,k4,k5,k6,k7,k8,k9,k10,q0,q1,q2])|(refine a_skip ?_;try simp only[pst0,simprocAttr])|(refine a_cond _ (by(try simp(maxSteps:=2000000) only[Ty.w,simprocAttr,g1,g5,g6,g7,g8,g9,Bool.not_true,Bool.not_false,wa,wb,wc,wd,we,wf,k1,k2,k3,k4,k5,k6,k7,k8,k9,k10,q0,q1,q2]);rfl) (fun hb=>?_) (fun hb=>?_)<;>(try simp only[hb0,decide_eq_true_eq,decide_eq_false_iff_not,simprocAttr]at hb)<;>(try(exfalso;omega)))|(refine hK _ _ ?_;clear hK;try simp only[pst0,simprocAttr]))
                  all_goals rfl
                 |true=>
                  simp only[q2,Bool.true_and,Bool.and_true]at hF
                  generalize params.all pmOk=bP at hP hF
                  cases bP with
                  |false=>
                   try simp only[Bool.false_and,Bool.and_false]at hF
                   subst hF
                   have W:=And.intro g1 (And.intro g5 (And.intro g6 (And.intro g7 (And.intro g8 (And.intro g9 (And.intro wa (And.intro wb (And.intro wc (And.intro wd (And.intro we (And.intro wf (And.intro k1 (And.intro k2 (And.intro k3 (And.intro k4 (And.intro k5 (And.intro k6 (And.intro k7 (And.intro k8 (And.intro k9 (And.intro k10 (And.intro q0 (And.intro q1 q2)))))))))))))))))))))))
                   repeat'(first|refine a_seq fun K hK=>?_|(refine a_regionS ?_;simp(maxSteps:=2000000) only[Ty.w,simprocAttr,W,Bool.not_true,Bool.not_false])|(refine a_skip ?_;try simp only[pst0,simprocAttr])|(refine a_cond _ (by(try simp(maxSteps:=2000000) only[Ty.w,simprocAttr,W,Bool.not_true,Bool.not_false]);rfl) (fun hb=>?_) (fun hb=>?_)<;>(try simp only[hb0,decide_eq_true_eq,decide_eq_false_iff_not,simprocAttr]at hb)<;>(try(exfalso;omega)))|(refine hK _ _ ?_;clear hK;try simp only[pst0,simprocAttr]))
                   refine owp_useQ (hP _) (by(try simp only[Ty.w,simprocAttr,W,Bool.not_true,Bool.not_false]);try rfl) ?_;simp(maxSteps:=2000000) only[Ty.w,simprocAttr,W,Bool.not_true,Bool.not_false]
                   repeat'(first|(refine a_ret ?_;simp(maxSteps:=2000000) only[Ty.w,simprocAttr,W,Bool.not_true,Bool.not_false])|(refine hK _ _ ?_;clear hK;try simp only[pst0,simprocAttr]))
                   all_goals rfl
                  |true=>
                   try simp only[Bool.true_and,Bool.and_true]at hF
                   subst hF
                   have W:=And.intro g1 (And.intro g5 (And.intro g6 (And.intro g7 (And.intro g8 (And.intro g9 (And.intro wa (And.intro wb (And.intro wc (And.intro wd (And.intro we (And.intro wf (And.intro k1 (And.intro k2 (And.intro k3 (And.intro k4 (And.intro k5 (And.intro k6 (And.intro k7 (And.intro k8 (And.intro k9 (And.intro k10 (And.intro q0 (And.intro q1 q2)))))))))))))))))))))))
                   repeat'(first|refine a_seq fun K hK=>?_|(refine a_regionS ?_;simp(maxSteps:=2000000) only[Ty.w,simprocAttr,W,Bool.not_true,Bool.not_false])|(refine a_skip ?_;try simp only[pst0,simprocAttr])|(refine a_cond _ (by(try simp(maxSteps:=2000000) only[Ty.w,simprocAttr,W,Bool.not_true,Bool.not_false]);rfl) (fun hb=>?_) (fun hb=>?_)<;>(try simp only[hb0,decide_eq_true_eq,decide_eq_false_iff_not,simprocAttr]at hb)<;>(try(exfalso;omega)))|(refine hK _ _ ?_;clear hK;try simp only[pst0,simprocAttr]))
                   refine owp_useQ (hP _) (by(try simp only[Ty.w,simprocAttr,W,Bool.not_true,Bool.not_false]);try rfl) ?_;simp(maxSteps:=2000000) only[Ty.w,simprocAttr,W,Bool.not_true,Bool.not_false]
                   repeat'(first|(refine a_ret ?_;simp(maxSteps:=2000000) only[Ty.w,simprocAttr,W,Bool.not_true,Bool.not_false])|(refine hK _ _ ?_;clear hK;try simp only[pst0,simprocAttr]))
                   all_goals rfl
              |false=>
               simp only[k10,Bool.true_or,Bool.or_true,Bool.false_or,if_true,Bool.false_eq_true,if_false]at hF
               cases k11:(op.data.toList==(#[101,120,105,115,116,115]:Array UInt8).toList)with
               |true=>
                simp only[k11,Bool.true_or,Bool.or_true,Bool.false_or,if_true,Bool.false_eq_true,if_false]at hF
                cases q0:(name.data.toList==(#[]:Array UInt8).toList)with
                |false=>
                 simp only[q0,Bool.false_and,Bool.and_false]at hF
                 subst hF
                 repeat'(first|refine a_seq fun K hK=>?_|((first|refine a_regionS ?_|refine a_ret ?_);simp(maxSteps:=2000000) only[Ty.w,simprocAttr,g1,g5,g6,g7,g8,g9,Bool.not_true,Bool.not_false,wa,wb,wc,wd,we,wf,k1,k2,k3,k4,k5,k6,k7,k8,k9,k10,k11,q0])|(refine a_cond _ (by(try simp(maxSteps:=2000000) only[Ty.w,simprocAttr,g1,g5,g6,g7,g8,g9,Bool.not_true,Bool.not_false,wa,wb,wc,wd,we,wf,k1,k2,k3,k4,k5,k6,k7,k8,k9,k10,k11,q0]);rfl) (fun hb=>?_) (fun hb=>?_)<;>(try simp only[hb0,decide_eq_true_eq,decide_eq_false_iff_not,simprocAttr]at hb)<;>(try(exfalso;omega)))|(refine hK _ _ ?_;clear hK;try simp only[pst0,simprocAttr]))
                 all_goals rfl
                |true=>
                 simp only[q0,Bool.true_and,Bool.and_true]at hF
                 cases q1:(((args.length:Int)+exprs.length)==0)with
                 |false=>
                  simp only[q1,Bool.false_and,Bool.and_false]at hF
                  subst hF
                  repeat'(first|refine a_seq fun K hK=>?_|((first|refine a_regionS ?_|refine a_ret ?_);simp(maxSteps:=2000000) only[Ty.w,simprocAttr,g1,g5,g6,g7,g8,g9,Bool.not_true,Bool.not_false,wa,wb,wc,wd,we,wf,k1,k2,k3,k4,k5,k6,k7,k8,k9,k10,k11,q0,q1])|(refine a_cond _ (by(try simp(maxSteps:=2000000) only[Ty.w,simprocAttr,g1,g5,g6,g7,g8,g9,Bool.not_true,Bool.not_false,wa,wb,wc,wd,we,wf,k1,k2,k3,k4,k5,k6,k7,k8,k9,k10,k11,q0,q1]);rfl) (fun hb=>?_) (fun hb=>?_)<;>(try simp only[hb0,decide_eq_true_eq,decide_eq_false_iff_not,simprocAttr]at hb)<;>(try(exfalso;omega)))|(refine hK _ _ ?_;clear hK;try simp only[pst0,simprocAttr]))
                  all_goals rfl
                 |true=>
                  simp only[q1,Bool.true_and,Bool.and_true]at hF
                  cases q2:((kids.length:Int)==1)with
                  |false=>
                   simp only[q2,Bool.false_and,Bool.and_false]at hF
                   subst hF
                   repeat'(first|refine a_seq fun K hK=>?_|((first|refine a_regionS ?_|refine a_ret ?_);simp(maxSteps:=2000000) only[Ty.w,simprocAttr,g1,g5,g6,g7,g8,g9,Bool.not_true,Bool.not_false,wa,wb,wc,wd,we,wf,k1,k2,k3,k4,k5,k6,k7,k8,k9,k10,k11,q0,q1,q2])|(refine a_cond _ (by(try simp(maxSteps:=2000000) only[Ty.w,simprocAttr,g1,g5,g6,g7,g8,g9,Bool.not_true,Bool.not_false,wa,wb,wc,wd,we,wf,k1,k2,k3,k4,k5,k6,k7,k8,k9,k10,k11,q0,q1,q2]);rfl) (fun hb=>?_) (fun hb=>?_)<;>(try simp only[hb0,decide_eq_true_eq,decide_eq_false_iff_not,simprocAttr]at hb)<;>(try(exfalso;omega)))|(refine hK _ _ ?_;clear hK;try simp only[pst0,simprocAttr]))
                   all_goals rfl
                  |true=>
                   simp only[q2,Bool.true_and,Bool.and_true]at hF
                   generalize params.all pmOk=bP at hP hF
                   cases bP with
                   |false=>
                    try simp only[Bool.false_and,Bool.and_false]at hF
                    subst hF
                    have W:=And.intro g1 (And.intro g5 (And.intro g6 (And.intro g7 (And.intro g8 (And.intro g9 (And.intro wa (And.intro wb (And.intro wc (And.intro wd (And.intro we (And.intro wf (And.intro k1 (And.intro k2 (And.intro k3 (And.intro k4 (And.intro k5 (And.intro k6 (And.intro k7 (And.intro k8 (And.intro k9 (And.intro k10 (And.intro k11 (And.intro q0 (And.intro q1 q2))))))))))))))))))))))))
                    repeat'(first|refine a_seq fun K hK=>?_|(refine a_regionS ?_;simp(maxSteps:=2000000) only[Ty.w,simprocAttr,W,Bool.not_true,Bool.not_false])|(refine a_cond _ (by(try simp(maxSteps:=2000000) only[Ty.w,simprocAttr,W,Bool.not_true,Bool.not_false]);rfl) (fun hb=>?_) (fun hb=>?_)<;>(try simp only[hb0,decide_eq_true_eq,decide_eq_false_iff_not,simprocAttr]at hb)<;>(try(exfalso;omega)))|(refine hK _ _ ?_;clear hK;try simp only[pst0,simprocAttr]))
                    refine owp_useQ (hP _) (by(try simp only[Ty.w,simprocAttr,W,Bool.not_true,Bool.not_false]);try rfl) ?_;simp(maxSteps:=2000000) only[Ty.w,simprocAttr,W,Bool.not_true,Bool.not_false]
                    repeat'(first|(refine a_ret ?_;simp(maxSteps:=2000000) only[Ty.w,simprocAttr,W,Bool.not_true,Bool.not_false])|(refine hK _ _ ?_;clear hK;try simp only[pst0,simprocAttr]))
                    all_goals rfl
                   |true=>
                    try simp only[Bool.true_and,Bool.and_true]at hF
                    subst hF
                    have W:=And.intro g1 (And.intro g5 (And.intro g6 (And.intro g7 (And.intro g8 (And.intro g9 (And.intro wa (And.intro wb (And.intro wc (And.intro wd (And.intro we (And.intro wf (And.intro k1 (And.intro k2 (And.intro k3 (And.intro k4 (And.intro k5 (And.intro k6 (And.intro k7 (And.intro k8 (And.intro k9 (And.intro k10 (And.intro k11 (And.intro q0 (And.intro q1 q2))))))))))))))))))))))))
                    repeat'(first|refine a_seq fun K hK=>?_|(refine a_regionS ?_;simp(maxSteps:=2000000) only[Ty.w,simprocAttr,W,Bool.not_true,Bool.not_false])|(refine a_cond _ (by(try simp(maxSteps:=2000000) only[Ty.w,simprocAttr,W,Bool.not_true,Bool.not_false]);rfl) (fun hb=>?_) (fun hb=>?_)<;>(try simp only[hb0,decide_eq_true_eq,decide_eq_false_iff_not,simprocAttr]at hb)<;>(try(exfalso;omega)))|(refine hK _ _ ?_;clear hK;try simp only[pst0,simprocAttr]))
                    refine owp_useQ (hP _) (by(try simp only[Ty.w,simprocAttr,W,Bool.not_true,Bool.not_false]);try rfl) ?_;simp(maxSteps:=2000000) only[Ty.w,simprocAttr,W,Bool.not_true,Bool.not_false]
                    repeat'(first|(refine a_ret ?_;simp(maxSteps:=2000000) only[Ty.w,simprocAttr,W,Bool.not_true,Bool.not_false])|(refine hK _ _ ?_;clear hK;try simp only[pst0,simprocAttr]))
                    all_goals rfl
               |false=>
                simp only[k11,Bool.true_or,Bool.or_true,Bool.false_or,if_true,Bool.false_eq_true,if_false]at hF
                subst hF
                repeat'(first|refine a_seq fun K hK=>?_|(refine a_block ?_)|((first|refine a_regionS ?_|refine a_ret ?_);simp(maxSteps:=2000000) only[Ty.w,simprocAttr,g1,g5,g6,g7,g8,g9,Bool.not_true,Bool.not_false,wa,wb,wc,wd,we,wf,k1,k2,k3,k4,k5,k6,k7,k8,k9,k10,k11])|(refine a_skip ?_;try simp only[pst0,simprocAttr])|(refine a_cond _ (by(try simp(maxSteps:=2000000) only[Ty.w,simprocAttr,g1,g5,g6,g7,g8,g9,Bool.not_true,Bool.not_false,wa,wb,wc,wd,we,wf,k1,k2,k3,k4,k5,k6,k7,k8,k9,k10,k11]);rfl) (fun hb=>?_) (fun hb=>?_)<;>(try simp only[hb0,decide_eq_true_eq,decide_eq_false_iff_not,simprocAttr]at hb)<;>(try(exfalso;omega)))|(refine hK _ _ ?_;clear hK;try simp only[pst0,simprocAttr]))
end Go.Proofs.YtjeolbgpllbemaaGreat
namespace Go.Proofs.YtjeolbgpllbemaaGreat
open Go.AM
mutual
def posX:Sx→Bool
 | .mk _ _ li co _ ks=>(li==0)&&(co==0)&&posXs ks
def posXs:List Sx→Bool
 |[]=>true
 |k::ks=>posX k&&posXs ks
end
theorem posXs_iff: ∀ {l:List Sx},(posXs l=true↔ ∀ k∈l,posX k=true)
 |[]=>by simp[posXs]
 |k::l=>by simp[posXs,posXs_iff (l:=l)]
theorem pos_word(s:ByteArray):posX (wordM s)=true:=by simp[wordM,posX,posXs]
theorem pos_list{l:List Sx}(h: ∀ k∈l,posX k=true):posX (listM l)=true:=by
 simp only[listM,posX,posXs_iff.2 h,beq_self_eq_true,Bool.and_true]
theorem pos_words(s:ByteArray)(l:List ByteArray):posX (wordsM s l)=true:=by
 refine pos_list fun k hk=>?_
 obtain⟨x,_,rfl⟩:=List.mem_map.1 hk
 exact pos_word x
theorem exW_pos: ∀ e:Ex,posX (exW e)=true:=by
 refine Ex.ind ?_
 intro op name n args kids ih
 unfold exW
 split
 ·simp [posX,posXs]
 ·split
  ·exact pos_words _ _
  ·split
   ·rename_i a b
    refine pos_list fun k hk=>?_
    simp only[List.mem_cons,List.not_mem_nil,or_false]at hk
    rcases hk with rfl|rfl|rfl
    ·exact pos_word _
    ·exact ih a (by simp)
    ·exact ih b (by simp)
   ·refine pos_list fun k hk=>?_
    simp only[List.mem_cons,List.not_mem_nil,or_false]at hk
    rw[hk];exact pos_word _
theorem params_pos: ∀ l:List Pm, ∀ k∈paramsW l,posX k=true
 |[],k,h=>by simp[paramsW]at h
 |p::l,k,h=>by
  simp only[paramsW,List.mem_cons]at h
  rcases h with rfl|rfl|rfl|h
  ·exact pos_word _
  ·exact pos_word _
  ·exact pos_word _
  ·exact params_pos l k h
theorem fmW_pos: ∀ f:Fm,posX (fmW f)=true:=by
 refine Fm.ind ?_
 intro op name args params exprs kids ih
 unfold fmW
 split
 ·exact pos_words _ _
 ·split
  ·exact pos_words _ _
  ·split
   ·refine pos_list fun k hk=>?_
    rcases List.mem_cons.1 hk with rfl|hk
    ·exact pos_word _
    ·obtain ⟨x,_,rfl⟩:=List.mem_map.1 hk
     exact exW_pos x
   ·refine pos_list fun k hk=>?_
    rcases List.mem_append.1 hk with hk|hk
    ·rcases List.mem_append.1 hk with hk|hk
     ·split at hk
      ·simp at hk
      ·simp only[List.mem_cons,List.not_mem_nil,or_false]at hk
       rw[hk];exact pos_word _
     ·split at hk
      ·simp only[List.mem_cons,List.not_mem_nil,or_false]at hk
       rw[hk];exact pos_list (params_pos _)
      ·simp at hk
    ·rw [fmWs_map]at hk
     obtain⟨x,hx,rfl⟩:=List.mem_map.1 hk
     exact ih x hx
end Go.Proofs.YtjeolbgpllbemaaGreat
namespace Go.Proofs.YtjeolbgpllbemaaGreat
open Go.AM
theorem and_fmW{g:Fm}(h:goalE g=true):(fmW g).depth≤32∧(fmW g).nodes≤4096:=by
 obtain⟨op,name,args,params,exprs,kids⟩:=g
 simp only[goalE,Bool.and_eq_true,List.isEmpty_iff]at h
 obtain⟨e1,rfl⟩:=h
 obtain rfl:=bEq_eq e1
 have e:fmW (.mk opAnd name args params exprs [])=listM []:=by
  unfold fmW
  rw[if_neg (by decide),if_neg (by decide),if_neg (by decide),if_pos (by decide),if_neg (by decide)]
  try rfl
 rw[e]
 exact⟨by decide,by decide⟩
theorem obj_pmR(o:Pm):objB o=pmR false o:=by simp[objB,pmR]
theorem mem_nodes{x:Sx}: ∀ {l:List Sx},x∈l→x.nodes≤Sx.nodess l
 |[],h=>by cases h
 |a::l,h=>by
  simp only[Sx.nodess]
  rcases List.mem_cons.1 h with rfl|h
  ·omega
  ·have:=mem_nodes h;omega
theorem list_depthN{x:Sx}{l:List Sx}(h:x∈l):x.depth≤(listM l).depth∧x.nodes≤(listM l).nodes:=by
 have h1:=Sx.depths_mem 0 h
 have h2:=mem_nodes h
 simp only[listM,Sx.depth,Sx.nodes,if_true]
 omega
theorem goal_valid{p:Pb}(hs:shapedF p.goal=true)(hv:(svalid (pbW p) 0 0).1=true):validF p.goal=true:=by
 have h:=(svalid_iff (pbW p) 0 0 (by omega) (by omega)).1.1 hv
 rw[validF_iff]
 refine⟨hs,?_⟩
 cases he:goalE p.goal with
 |true=>exact and_fmW he
 |false=>
  have h1:fmW p.goal∈[wordM opGoal,fmW p.goal]:=by simp
  have h2:goalS p.goal∈[wordM opDef,nameS opPrb p.name,nameS opDom p.domain]++(objsW p.objects++(initW p.init p.values++goalW p.goal)):=by
   simp[goalW,he]
  have a1:=list_depthN h1
  have a2:=list_depthN h2
  have e1:goalS p.goal=listM [wordM opGoal,fmW p.goal]:=rfl
  have e2:pbW p=listM ([wordM opDef,nameS opPrb p.name,nameS opDom p.domain]++(objsW p.objects++(initW p.init p.values++goalW p.goal))):=rfl
  rw[e1]at a2
  rw[e2]at h
  omega
theorem writeB_q(p:Pb):writeB p=(nameB p.name&&nameB p.domain&&p.objects.all (pmR false)&&shapedF p.goal&&p.init.all rightA&&p.values.all vlB&&(svalid (pbW p) 0 0).1):=by
 rw[Bool.eq_iff_iff]
 unfold writeB
 simp only[Bool.and_eq_true,List.all_eq_true]
 rw[expressB_iff]
 constructor
 ·rintro ⟨⟨h1,h2,h3,h4,h5,h6⟩,h7⟩
  exact⟨⟨⟨⟨⟨⟨h2,h3⟩,fun o ho=>by rw[← obj_pmR];exact h4 o ho⟩,validF_shaped h1⟩,h6⟩,h5⟩,h7⟩
 ·rintro ⟨⟨⟨⟨⟨⟨h1,h2⟩,h3⟩,h4⟩,h5⟩,h6⟩,h7⟩
  exact⟨⟨goal_valid h4 h7,h1,h2,fun o ho=>by rw[obj_pmR];exact h3 o ho,h6,h5⟩,h7⟩
theorem ats_nodes: ∀ l:List At,Sx.nodess (l.map atW)≤PV.bulkR (atRows l)
 |[]=>by simp[Sx.nodess]
 |a::l=>by
  have ih:=ats_nodes l
  have hs:=bulkR_strs a.args
  have e:PV.bulkR (atRows (a::l))=PV.bulkL (atRow a)+PV.bulkR (atRows l):=rfl
  have e2:PV.bulkL (atRow a)≥PV.bulkR (strRows a.args)+2:=by simp only[atRow,PV.bulkL,PV.bulk];omega
  rw[List.map_cons,e]
  simp only[Sx.nodess,atW,words_nodes]
  omega
theorem vls_nodes: ∀ l:List Vl,Sx.nodess (l.map vlW)≤2*PV.bulkR (vlRows l)
 |[]=>by simp[Sx.nodess]
 |a::l=>by
  have ih:=vls_nodes l
  have hs:=bulkR_strs a.at_.args
  have e:PV.bulkR (vlRows (a::l))=PV.bulkL (vlRow a)+PV.bulkR (vlRows l):=rfl
  have e2:PV.bulkL (vlRow a)≥PV.bulkR (strRows a.at_.args)+3:=by simp only[vlRow,PV.bulkL,PV.bulk];omega
  have e3:(numM a.n).nodes=1:=rfl
  rw[List.map_cons,e]
  simp only[Sx.nodess,vlW,list_nodes,word_nodes,atW,words_nodes,e3]
  omega
theorem pbW_nodes{p:Pb}(hb:PV.bulkL p.cells≤1048576):(pbW p).nodes≤bigN∧(pbW p).depth≤bigN:=by
 have hd:=Sx.depth_nodes (pbW p)
 have key:(pbW p).nodes≤bigN:=by
  obtain⟨name,domain,objects,init,values,goal⟩:=p
  have h1:=bulkR_pms objects
  have h2:=ats_nodes init
  have h3:=vls_nodes values
  have h4:=fmW_nodes goal
  have hg:PV.bulkL goal.cells+PV.bulkR (pmRows objects)+PV.bulkR (atRows init)+PV.bulkR (vlRows values)≤PV.bulkL (Pb.cells ⟨name,domain,objects,init,values,goal⟩):=by
   obtain⟨op,gn,ga,gp,ge,gk⟩:=goal
   simp only[Pb.cells,Fm.cells,List.cons_append,List.nil_append,PV.bulkL,PV.bulk]
   omega
  have k1:Sx.nodess (objsW objects)≤3*objects.length+2:=by
   unfold objsW
   split
   ·simp [Sx.nodess]
   ·simp only[objsS,Sx.nodess,list_nodes,word_nodes,nodess_params];omega
  have k2:Sx.nodess (initW init values)≤Sx.nodess (init.map atW)+Sx.nodess (values.map vlW)+2:=by
   unfold initW
   split
   ·simp [Sx.nodess]
   ·simp only[initS,Sx.nodess,list_nodes,word_nodes,nodess_append];omega
  have k3:Sx.nodess (goalW goal)≤(fmW goal).nodes+2:=by
   unfold goalW
   split
   ·simp [Sx.nodess]
   ·simp only[goalS,Sx.nodess,list_nodes,word_nodes];omega
  have e:pbW ⟨name,domain,objects,init,values,goal⟩=listM ([wordM opDef,nameS opPrb name,nameS opDom domain]++(objsW objects++(initW init values++goalW goal))):=rfl
  rw[e]
  simp only[list_nodes,nodess_append,Sx.nodess,nameS,word_nodes,bigN]
  omega
 exact⟨key,by omega⟩
theorem pbW_pos(p:Pb):posX (pbW p)=true:=by
 refine pos_list ?_
 have hn: ∀ a b:ByteArray,posX (nameS a b)=true:=fun a b=>pos_list (by intro k hk;simp only[List.mem_cons,List.not_mem_nil,or_false]at hk;rcases hk with rfl|rfl<;>exact pos_word _)
 intro x hx
 simp only[List.mem_append,List.mem_cons,List.not_mem_nil,or_false]at hx
 rcases hx with(rfl|rfl|rfl)|hx|hx|hx
 ·exact pos_word _
 ·exact hn _ _
 ·exact hn _ _
 ·unfold objsW at hx
  split at hx
  ·cases hx
  ·simp only[List.mem_singleton]at hx
   subst hx
   refine pos_list ?_
   intro y hy
   rcases List.mem_cons.1 hy with rfl|hy
   ·exact pos_word _
   ·exact params_pos _ _ hy
 ·unfold initW at hx
  split at hx
  ·cases hx
  ·simp only[List.mem_singleton]at hx
   subst hx
   refine pos_list ?_
   intro y hy
   simp only[List.mem_cons,List.mem_append,List.mem_map]at hy
   rcases hy with rfl|⟨a,_,rfl⟩|⟨v,_,rfl⟩
   ·exact pos_word _
   ·exact pos_words _ _
   ·refine pos_list ?_
    intro z hz
    simp only[List.mem_cons,List.not_mem_nil,or_false]at hz
    rcases hz with rfl|rfl|rfl
    ·exact pos_word _
    ·exact pos_words _ _
    ·rfl
 ·unfold goalW at hx
  split at hx
  ·cases hx
  ·simp only[List.mem_singleton]at hx
   subst hx
   refine pos_list ?_
   intro y hy
   simp only[List.mem_cons,List.not_mem_nil,or_false]at hy
   rcases hy with rfl|rfl
   ·exact pos_word _
   ·exact fmW_pos _
end Go.Proofs.YtjeolbgpllbemaaGreat
namespace Go.Proofs.YtjeolbgpllbemaaGreat
open Go.AM
set_option maxHeartbeats 4000000
set_option maxRecDepth 20000
theorem bne_selfI(a:Int):(a !=a)=false:=by simp
theorem dsame_of{ki va li co:Int}{te:ByteArray}{l:List Sx}(hl:l.length≤bigN)(hf: ∀ x∈l, ∀ h:Heap,PCall Tryz.prog 11 [.agg x.cells,.agg x.cells] h fun r h'=>r= .sc (.bool (posX x))∧h'=h)(h:Heap):
  PCall Tryz.prog 11 [.agg (Sx.mk ki va li co te l).cells,.agg (Sx.mk ki va li co te l).cells] h fun r h'=>r= .sc (.bool (posX (.mk ki va li co te l)))∧h'=h:=by
 unfold bigN at hl
 have hll:=Sx.rows_len l
 have hz:posX (.mk ki va li co te l)=((li==0)&&(co==0)&&posXs l):=by simp only[posX]
 rw[hz]
 clear hz
 simp only[Sx.cells]
 have e1:(te.data.toList==te.data.toList)=true:=by simp
 have e2:=bne_selfI ki
 have e3:=bne_selfI va
 have e4:=bne_selfI (l.length:Int)
 have e5:(li !=0)=!(li==0):=rfl
 have e6:(co !=0)=!(co==0):=rfl
 cases q1:(li==0)with
 |false=>
  refine pcall_body (ow:=fun _=>false) (wf:=fun _=>false) Ty.mixed Tryz.func11 rfl Ty.hb_11 (by rw[Tryz.ntmps11];simp) ?_
  rw[Tryz.ntmps11,Tryz.results11]
  repeat'(first|refine a_seq fun K hK=>?_|((first|refine a_regionS ?_|refine a_ret ?_);simp(maxSteps:=2000000) only[Ty.w,simprocAttr,e1,e2,e3,e4,e5,q1,hll,Bool.not_true,Bool.not_false])|(refine hK _ _ ?_;clear hK;try simp only[pst0,simprocAttr]))
  all_goals simp
 |true=>
  cases q2:(co==0)with
  |false=>
   refine pcall_body (ow:=fun _=>false) (wf:=fun _=>false) Ty.mixed Tryz.func11 rfl Ty.hb_11 (by rw[Tryz.ntmps11];simp) ?_
   rw[Tryz.ntmps11,Tryz.results11]
   repeat'(first|refine a_seq fun K hK=>?_|((first|refine a_regionS ?_|refine a_ret ?_);simp(maxSteps:=2000000) only[Ty.w,simprocAttr,e1,e2,e3,e4,e5,e6,q1,q2,hll,Bool.not_true,Bool.not_false])|(refine hK _ _ ?_;clear hK;try simp only[pst0,simprocAttr]))
   all_goals simp
  |true=>
   simp only[Bool.true_and]
   refine pcall_body (ow:=fun _=>false) (wf:=fun _=>false) Ty.mixed Tryz.func11 rfl Ty.hb_11 (by rw[Tryz.ntmps11];simp) ?_
   rw[Tryz.ntmps11,Tryz.results11]
   repeat'(first|refine a_seq fun K hK=>?_|(refine a_block ?_)|(refine a_regionS ?_;simp(maxSteps:=2000000) only[Ty.w,simprocAttr,e1,e2,e3,e4,e5,e6,q1,q2,hll,Bool.not_true,Bool.not_false])|(refine a_skip ?_;try simp only[pst0,simprocAttr])|(refine a_cond _ (by(try simp(maxSteps:=2000000) only[Ty.w,simprocAttr,e1,e2,e3,e4,e5,e6,q1,q2,hll,Bool.not_true,Bool.not_false]);rfl) (fun hb=>?_) (fun hb=>?_)<;>(try simp only[hb0,decide_eq_true_eq,decide_eq_false_iff_not,simprocAttr]at hb)<;>(try(exfalso;omega)))|(refine hK _ _ ?_;clear hK;try simp only[pst0,simprocAttr]))
   refine a_loop (fun c S h'=>h'=h∧S 2= .cptr [.sc (.int .i64 ki),.sc (.int .i64 va),.sc (.int .i64 li),.sc (.int .i64 co),sPV te,.imm 6 (Sx.rows l)]∧S 3= .cptr [.sc (.int .i64 ki),.sc (.int .i64 va),.sc (.int .i64 li),.sc (.int .i64 co),sPV te,.imm 6 (Sx.rows l)]∧ ∃ k:Nat,S 5= .sc (.int .i64 k)∧k≤l.length∧c=l.length-k∧posXs l=posXs (l.drop k)) l.length ?_ ?_
   ·simp only[Ty.w,simprocAttr]
    exact⟨0,rfl,by omega,rfl,by simp⟩
   ·rintro c S h' ⟨rfl,g2,g3,k,g5,hkl,rfl,hinv⟩
    by_cases hlt:k<l.length
    ·have hd:decide ((k:Int)<(l.length:Int))=true:=by simp;omega
     have w7:IntKind.i64.wrap ((k:Int)+1)=k+1:=by rw[wrap64 (by omega) (by omega)]
     obtain⟨x,hx⟩: ∃ x,l[k]? =some x:=⟨_,List.getElem?_eq_getElem hlt⟩
     have hc:=hf x (List.mem_of_getElem? hx)
     rw[drop_of_get hx]at hinv
     simp only[posXs]at hinv
     have hr:=Sx.rows_get hx
     generalize posX x=b at hc hinv
     obtain⟨xk,xv,xl,xc,xt,xs⟩:=x
     simp only[Sx.cells]at hr hc
     cases b with
     |false=>
      simp only[Bool.false_and]at hinv
      repeat'(first|refine a_seq fun K hK=>?_|((first|refine a_regionS ?_|refine a_drawS (by decide+kernel) ?_);simp(maxSteps:=2000000) only[Ty.w,simprocAttr,g2,g3,g5,hll,hd,hr])|(refine a_skip ?_;try simp only[pst0,simprocAttr])|(refine a_cond _ (by(try simp(maxSteps:=2000000) only[Ty.w,simprocAttr,g2,g3,g5,hll,hd,hr]);rfl) (fun hb=>?_) (fun hb=>?_)<;>(try simp only[hb0,decide_eq_true_eq,decide_eq_false_iff_not,simprocAttr]at hb)<;>(try(exfalso;omega)))|(refine hK _ _ ?_;clear hK;try simp only[pst0,simprocAttr]))
      (first|refine a_dcall0 (hc _) (by(try simp only[Ty.w,simprocAttr,g2,g3,g5,hr,Bool.not_false]);try rfl) ?_|refine a_dcallA (hc _) (by(try simp only[Ty.w,simprocAttr,g2,g3,g5,hr,Bool.not_false]);try rfl) (by simp only[Ty.w,simprocAttr,g2,g3,g5,hr,Bool.not_false];try trivial) ?_);simp(maxSteps:=2000000) only[Ty.w,simprocAttr,Option.getD_some,g2,g3,g5,hr,Bool.not_false]
      repeat'(first|refine a_seq fun K hK=>?_|((first|refine a_regionS ?_|refine a_ret ?_);simp(maxSteps:=2000000) only[Ty.w,simprocAttr,g2,g3,g5,hr,Bool.not_false])|(refine hK _ _ ?_;clear hK;try simp only[pst0,simprocAttr]))
      rw[hinv]
     |true=>
      simp only[Bool.true_and]at hinv
      repeat'(first|refine a_seq fun K hK=>?_|((first|refine a_regionS ?_|refine a_drawS (by decide+kernel) ?_);simp(maxSteps:=2000000) only[Ty.w,simprocAttr,g2,g3,g5,hll,hd,hr])|(refine a_skip ?_;try simp only[pst0,simprocAttr])|(refine a_cond _ (by(try simp(maxSteps:=2000000) only[Ty.w,simprocAttr,g2,g3,g5,hll,hd,hr]);rfl) (fun hb=>?_) (fun hb=>?_)<;>(try simp only[hb0,decide_eq_true_eq,decide_eq_false_iff_not,simprocAttr]at hb)<;>(try(exfalso;omega)))|(refine hK _ _ ?_;clear hK;try simp only[pst0,simprocAttr]))
      (first|refine a_dcall0 (hc _) (by(try simp only[Ty.w,simprocAttr,g2,g3,g5,hr,Bool.not_true]);try rfl) ?_|refine a_dcallA (hc _) (by(try simp only[Ty.w,simprocAttr,g2,g3,g5,hr,Bool.not_true]);try rfl) (by simp only[Ty.w,simprocAttr,g2,g3,g5,hr,Bool.not_true];try trivial) ?_);simp(maxSteps:=2000000) only[Ty.w,simprocAttr,Option.getD_some,g2,g3,g5,hr,Bool.not_true]
      repeat'(first|(refine a_block ?_)|(refine a_regionS ?_;simp(maxSteps:=2000000) only[Ty.w,simprocAttr,g2,g3,g5,hr,w7,Bool.not_true])|(refine a_skip ?_;try simp only[pst0,simprocAttr])|(refine hK _ _ ?_;clear hK;try simp only[pst0,simprocAttr]))
      exact⟨l.length-(k+1),by omega,k+1,by simp,by omega,rfl,hinv⟩
    ·have hd:decide ((k:Int)<(l.length:Int))=false:=by simp;omega
     rw[List.drop_eq_nil_of_le (by omega)]at hinv
     simp only[posXs]at hinv
     repeat'(first|refine a_seq fun K hK=>?_|((first|refine a_regionS ?_|refine a_ret ?_);simp(maxSteps:=2000000) only[Ty.w,simprocAttr,g2,g3,g5,hll,hd])|(refine a_exit ?_;try simp only[pst0,simprocAttr])|(refine a_cond _ (by(try simp(maxSteps:=2000000) only[Ty.w,simprocAttr,g2,g3,g5,hll,hd]);rfl) (fun hb=>?_) (fun hb=>?_)<;>(try simp only[hb0,decide_eq_true_eq,decide_eq_false_iff_not,simprocAttr]at hb)<;>(try(exfalso;omega)))|((first|refine hK _ _ ?_|(clear hK;refine hK _ _ ?_));clear hK;try simp only[pst0,simprocAttr]))
     rw[hinv]
theorem dsame_c: ∀ x:Sx,x.ok→ ∀ h:Heap,PCall Tryz.prog 11 [.agg x.cells,.agg x.cells] h fun r h'=>r= .sc (.bool (posX x))∧h'=h:=
 Sx.ind fun kind value line col text kids ih hx h=>by
  simp only[Sx.ok]at hx
  exact dsame_of hx.2.2.2.1 (fun x hx2 h=>ih x hx2 (Sx.oks_iff.1 hx.2.2.2.2 x hx2) h) h
end Go.Proofs.YtjeolbgpllbemaaGreat
namespace Go.Proofs.YtjeolbgpllbemaaGreat
open Go.AM
set_option maxHeartbeats 2000000
set_option maxRecDepth 20000
theorem fnum_c{h:Heap}{n:Int}:PCall Tryz.prog 16 [errV n] h fun r h'=>r= .sc (.int .i64 n)∧h'=h:=by
 unfold errV
 refine pcall_body (ow:=fun _=>false) (wf:=fun _=>false) Ty.mixed Tryz.func16 rfl Ty.hb_16 (by rw[Tryz.ntmps16];simp) ?_
 rw[Tryz.ntmps16,Tryz.results16]
 repeat'(first|refine a_seq fun K hK=>?_|((first|refine a_regionS ?_|refine a_ret ?_);simp(maxSteps:=2000000) only[Ty.w,simprocAttr])|(refine a_skip ?_;try simp only[pst0,simprocAttr])|(refine a_cond _ (by(try simp(maxSteps:=2000000) only[Ty.w,simprocAttr]);rfl) (fun hb=>?_) (fun hb=>?_)<;>(try simp only[hb0,decide_eq_true_eq,decide_eq_false_iff_not,simprocAttr]at hb)<;>(try(exfalso;omega)))|(refine hK _ _ ?_;clear hK;try simp only[pst0,simprocAttr]))
 all_goals rfl
theorem fis_c{h:Heap}{n m:Int}:PCall Tryz.prog 12 [errV n,.sc (.int .i64 m)] h fun r h'=>r= .sc (.bool (n==m))∧h'=h:=by
 have hn:=fun h:Heap=>fnum_c (h:=h) (n:=n)
 unfold errV at hn⊢
 refine pcall_body (ow:=fun _=>false) (wf:=fun _=>false) Ty.mixed Tryz.func12 rfl Ty.hb_12 (by rw[Tryz.ntmps12];simp) ?_
 rw[Tryz.ntmps12,Tryz.results12]
 repeat'(first|refine a_seq fun K hK=>?_|(refine a_regionS ?_;simp(maxSteps:=2000000) only[Ty.w,simprocAttr])|(refine hK _ _ ?_;clear hK;try simp only[pst0,simprocAttr]))
 refine owp_useQ (hn _) (by(try simp only[Ty.w,simprocAttr,eq_self]);try rfl) ?_;simp(maxSteps:=2000000) only[Ty.w,simprocAttr,eq_self]
 repeat'(first|(refine a_ret ?_;simp(maxSteps:=2000000) only[Ty.w,simprocAttr])|(refine hK _ _ ?_;clear hK;try simp only[pst0,simprocAttr]))
end Go.Proofs.YtjeolbgpllbemaaGreat
namespace Go.Proofs.YtjeolbgpllbemaaGreat
open Go.AM
set_option maxHeartbeats 4000000
set_option maxRecDepth 20000
def exprs2:List Sx→List Ex × Int
 |[a,b]=>(match exprP a with
  | (ea, ca) => bif ca == 0 then (match exprP b with
   |(eb,cb)=>bif cb==0 then([ea,eb],0)else([],cb))else([],ca))
 |_=>([],2)
end Go.Proofs.YtjeolbgpllbemaaGreat
namespace Go.Proofs.YtjeolbgpllbemaaGreat
open Go.AM
set_option maxHeartbeats 4000000
set_option maxRecDepth 20000
theorem rvalidS_c{x:Sx}(hok:x.ok)(hn:x.nodes≤bigN)(hd:x.depth≤bigN)(h:Heap):PCall Tryz.prog 21 [.agg x.cells] h fun r h'=>r= .sc (.bool (svalid x 0 0).1)∧h'=h:=by
 rw[valid_same hn]
 exact rvalid_c hok hd h
end Go.Proofs.YtjeolbgpllbemaaGreat
namespace Go.Proofs.YtjeolbgpllbemaaGreat
open Go.AM
set_option maxHeartbeats 4000000
set_option maxRecDepth 20000
def argSumA(n:Int):List At→Int
 |[]=>n
 |a::l=>argSumA (IntKind.i64.wrap (n+a.args.length)) l
def argSumV(n:Int):List Vl→Int
 |[]=>n
 |v::l=>argSumV (IntKind.i64.wrap (n+v.at_.args.length)) l
def largeP(p:Pb):Bool:=decide (argSumV (argSumA (IntKind.i64.wrap (IntKind.i64.wrap ((p.objects.length:Int)+p.init.length)+p.values.length)) p.init) p.values>1000)||decide (p.goal.size>2000)
theorem plarge_c(p:Pb)(hp:p.okS)(h:Heap):PCall Tryz.prog 7 [.agg p.cells] h fun r h'=>r= .sc (.bool (largeP p))∧h'=h:=by
 obtain⟨ho,⟨hi,hia⟩,⟨hv,hva⟩,hg⟩:=hp
 obtain⟨name,domain,objects,init,values,goal⟩:=p
 simp only at ho hi hia hv hva hg
 have hz:=rsize_c goal hg
 unfold largeP
 simp only
 generalize goal.size=gs at hz⊢
 clear hg
 obtain⟨gop,gname,gargs,gparams,gexprs,gkids⟩:=goal
 have hlo:=pmRows_len objects
 have hli:=atRows_len init
 have hlv:=vlRows_len values
 unfold bigN at ho hi hv
 simp only[Fm.cells]at hz
 generalize hN0:IntKind.i64.wrap (IntKind.i64.wrap ((objects.length:Int)+init.length)+values.length)=n0
 generalize hNA:argSumA n0 init=nA
 generalize hNV:argSumV nA values=nV
 have hC: ∀ r,r=(Pb.mk name domain objects init values (.mk gop gname gargs gparams gexprs gkids)).cells→r=[sPV name,sPV domain,.imm 2 (pmRows objects),.imm 2 (atRows init),.imm 3 (vlRows values),sPV gop,sPV gname,.imm 1 (strRows gargs),.imm 2 (pmRows gparams),.imm 5 (Ex.rows gexprs),.imm 6 (Fm.rows gkids)]:=fun r e=>e
 have hC2:=hC _ rfl
 rw[hC2]
 refine pcall_body (ow:=fun _=>false) (wf:=fun _=>false) Ty.mixed Tryz.func7 rfl Ty.hb_7 (by rw[Tryz.ntmps7];simp) ?_
 rw[Tryz.ntmps7,Tryz.results7]
 repeat'(first|(with_reducible refine a_hold 2 ?_)|refine a_seq fun K hK=>?_|(refine a_regionS ?_;simp(maxSteps:=2000000) only[Ty.w,simprocAttr,hlo,hli,hlv,hN0])|(refine hK _ _ ?_;clear hK;try simp only[pst0,simprocAttr]))
 refine⟨?_⟩
 refine a_cut (fun S h'=>h'=h∧S 1= .cptr (Pb.mk name domain objects init values (.mk gop gname gargs gparams gexprs gkids)).cells∧S 3= .sc (.int .i64 nA)) ?_ ?_
 ·rw [hC2]
  repeat'(first|refine a_seq fun K hK=>?_|(refine a_block ?_)|(refine a_regionS ?_;simp(maxSteps:=2000000) only[Ty.w,simprocAttr])|(refine hK _ _ ?_;clear hK;try simp only[pst0,simprocAttr]))
  refine a_loop (fun c S h'=>h'=h∧S 1= .cptr (Pb.mk name domain objects init values (.mk gop gname gargs gparams gexprs gkids)).cells∧ ∃ (k:Nat)(n:Int),S 4= .sc (.int .i64 k)∧S 3= .sc (.int .i64 n)∧k≤init.length∧c=init.length-k∧nA=argSumA n (init.drop k)) init.length ?_ ?_
  ·simp only[Ty.w,simprocAttr,hC2]
   exact⟨0,n0,rfl,rfl,by omega,rfl,by rw[← hNA];try rfl⟩
  ·rintro c S h' ⟨rfl,g1,k,n,g4,g3,hk,rfl,hinv⟩
   rw[hC2]at g1
   by_cases hlt:k<init.length
   ·have hd:decide ((k:Int)<(init.length:Int))=true:=by simp;omega
    have w7:IntKind.i64.wrap ((k:Int)+1)=k+1:=by rw[wrap64 (by omega) (by omega)]
    obtain⟨a,hx⟩: ∃ a,init[k]? =some a:=⟨_,List.getElem?_eq_getElem hlt⟩
    have hr:=atRows_get hx
    have hls:=strRows_len a.args
    rw[drop_of_get hx]at hinv
    simp only[argSumA]at hinv
    repeat'(first|refine a_seq fun K hK=>?_|(refine a_block ?_)|((first|refine a_regionS ?_|refine a_region (fun K hK=>?_));simp(maxSteps:=2000000) only[Ty.w,simprocAttr,g1,g3,g4,hli,hd,hr,hls,w7])|(refine a_skip ?_;try simp only[pst0,simprocAttr])|(refine a_cond _ (by(try simp(maxSteps:=2000000) only[Ty.w,simprocAttr,g1,g3,g4,hli,hd,hr,hls,w7]);rfl) (fun hb=>?_) (fun hb=>?_)<;>(try simp only[hb0,decide_eq_true_eq,decide_eq_false_iff_not,simprocAttr]at hb)<;>(try(exfalso;omega)))|(refine hK _ _ ?_;clear hK;try simp only[pst0,simprocAttr]))
    exact⟨init.length-(k+1),by omega,by rw[hC2],k+1,_,by simp,rfl,by omega,rfl,hinv⟩
   ·have hd:decide ((k:Int)<(init.length:Int))=false:=by simp;omega
    rw[List.drop_eq_nil_of_le (by omega)]at hinv
    simp only[argSumA]at hinv
    repeat'(first|refine a_seq fun K hK=>?_|(refine a_regionS ?_;simp(maxSteps:=2000000) only[Ty.w,simprocAttr,g1,g3,g4,hli,hd])|(refine a_exit ?_;try simp only[pst0,simprocAttr])|(refine a_cond _ (by(try simp(maxSteps:=2000000) only[Ty.w,simprocAttr,g1,g3,g4,hli,hd]);rfl) (fun hb=>?_) (fun hb=>?_)<;>(try simp only[hb0,decide_eq_true_eq,decide_eq_false_iff_not,simprocAttr]at hb)<;>(try(exfalso;omega)))|(refine hK _ _ ?_;clear hK;try simp only[pst0,simprocAttr]))
    simp only[Ty.w,simprocAttr,g1,g3,hinv,hC2]
 ·rintro S h' ⟨rfl,g1,g3⟩
  rw[hC2]at g1
  clear hNA hN0
  repeat'(with_reducible refine a_hold 6 ?_)
  refine⟨?_⟩
  refine a_cut (fun S h2=>h2=h'∧S 1= .cptr (Pb.mk name domain objects init values (.mk gop gname gargs gparams gexprs gkids)).cells∧S 3= .sc (.int .i64 nV)) ?_ ?_
  ·rw [hC2]
   repeat'(first|refine a_seq fun K hK=>?_|(refine a_block ?_)|(refine a_regionS ?_;simp(maxSteps:=2000000) only[Ty.w,simprocAttr,g1,g3])|(refine hK _ _ ?_;clear hK;try simp only[pst0,simprocAttr]))
   refine a_loop (fun c S h2=>h2=h'∧S 1= .cptr (Pb.mk name domain objects init values (.mk gop gname gargs gparams gexprs gkids)).cells∧ ∃ (k:Nat)(n:Int),S 5= .sc (.int .i64 k)∧S 3= .sc (.int .i64 n)∧k≤values.length∧c=values.length-k∧nV=argSumV n (values.drop k)) values.length ?_ ?_
   ·simp only[Ty.w,simprocAttr,g1,g3,hC2]
    exact⟨0,nA,rfl,rfl,by omega,rfl,by rw[← hNV];try rfl⟩
   ·clear g1 g3
    rintro c S h2 ⟨rfl,g1,k,n,g5,g3,hk,rfl,hinv⟩
    rw[hC2]at g1
    by_cases hlt:k<values.length
    ·have hd:decide ((k:Int)<(values.length:Int))=true:=by simp;omega
     have w7:IntKind.i64.wrap ((k:Int)+1)=k+1:=by rw[wrap64 (by omega) (by omega)]
     obtain⟨a,hx⟩: ∃ a,values[k]? =some a:=⟨_,List.getElem?_eq_getElem hlt⟩
     have hr:=vlRows_get hx
     have hls:=strRows_len a.at_.args
     rw[drop_of_get hx]at hinv
     simp only[argSumV]at hinv
     repeat'(first|refine a_seq fun K hK=>?_|(refine a_block ?_)|((first|refine a_regionS ?_|refine a_region (fun K hK=>?_));simp(maxSteps:=2000000) only[Ty.w,simprocAttr,g1,g3,g5,hlv,hd,hr,hls,w7])|(refine a_skip ?_;try simp only[pst0,simprocAttr])|(refine a_cond _ (by(try simp(maxSteps:=2000000) only[Ty.w,simprocAttr,g1,g3,g5,hlv,hd,hr,hls,w7]);rfl) (fun hb=>?_) (fun hb=>?_)<;>(try simp only[hb0,decide_eq_true_eq,decide_eq_false_iff_not,simprocAttr]at hb)<;>(try(exfalso;omega)))|(refine hK _ _ ?_;clear hK;try simp only[pst0,simprocAttr]))
     exact⟨values.length-(k+1),by omega,by rw[hC2],k+1,_,by simp,rfl,by omega,rfl,hinv⟩
    ·have hd:decide ((k:Int)<(values.length:Int))=false:=by simp;omega
     rw[List.drop_eq_nil_of_le (by omega)]at hinv
     simp only[argSumV]at hinv
     repeat'(first|refine a_seq fun K hK=>?_|(refine a_regionS ?_;simp(maxSteps:=2000000) only[Ty.w,simprocAttr,g1,g3,g5,hlv,hd])|(refine a_exit ?_;try simp only[pst0,simprocAttr])|(refine a_cond _ (by(try simp(maxSteps:=2000000) only[Ty.w,simprocAttr,g1,g3,g5,hlv,hd]);rfl) (fun hb=>?_) (fun hb=>?_)<;>(try simp only[hb0,decide_eq_true_eq,decide_eq_false_iff_not,simprocAttr]at hb)<;>(try(exfalso;omega)))|(refine hK _ _ ?_;clear hK;try simp only[pst0,simprocAttr]))
     simp only[Ty.w,simprocAttr,g1,g3,hinv,hC2]
  ·clear g1 g3
   rintro S h2 ⟨rfl,g1,g3⟩
   rw[hC2]at g1
   cases l1:decide (nV>1000)with
   |true=>
    repeat'(first|refine a_seq fun K hK=>?_|((first|refine a_regionS ?_|refine a_ret ?_);simp(maxSteps:=2000000) only[Ty.w,simprocAttr,g1,g3,l1])|(refine hK _ _ ?_;clear hK;try simp only[pst0,simprocAttr]))
    all_goals simp only[Bool.true_or]
   |false=>
    repeat'(first|refine a_seq fun K hK=>?_|(refine a_regionS ?_;simp(maxSteps:=2000000) only[Ty.w,simprocAttr,g1,g3,l1]))
    refine owp_useQ (hz _) (by(try simp only[Ty.w,simprocAttr,g1,g3,l1]);try rfl) ?_;simp(maxSteps:=2000000) only[Ty.w,simprocAttr,g1,g3,l1]
    repeat'(first|(refine a_ret ?_;simp(maxSteps:=2000000) only[Ty.w,simprocAttr,g1,g3,l1])|(refine hK _ _ ?_;clear hK;try simp only[pst0,simprocAttr]))
    all_goals simp only[Bool.false_or]
end Go.Proofs.YtjeolbgpllbemaaGreat
namespace Go.AM
def mnO:Option Nat→Option Nat→Option Nat
 |none,b=>b
 |some a,none=>some a
 |some a,some b=>if a≤b then some a else some b
def Tch(q:Option Nat)(h h':Heap):Prop:=match q with
 |none=>h'=h
 |some m=>h.next≤h'.next∧ ∀ id,id<m→h'.obj id=h.obj id
theorem Tch.trans{q q':Option Nat}{h h1 h':Heap}(a:Tch q h h1)(b:Tch q' h1 h'):Tch (mnO q q') h h':=by
 cases q with
 |none=>simp only[Tch]at a;subst a;simpa only[mnO]using b
 |some m=>
  cases q' with
  |none=>simp only[Tch]at b;subst b;simpa only[mnO]using a
  |some m'=>
   simp only[Tch]at a b
   simp only[mnO]
   split<;>simp only[Tch]<;>refine⟨by omega,fun id hid=>?_⟩
   ·rw [b.2 id (by omega),a.2 id hid]
   ·rw [b.2 id hid,a.2 id (by omega)]
def ptrOf:PV→Nat
 | .ptr id _ _=>id
 |_=>0
def mapOf:PV→Nat
 | .mp id=>id
 |_=>0
def ownOf(n:Nat):PV→Nat
 | .own id _ _=>if id≤n then id else n
 |_=>n
def tchO(op:Op)(ρ:Operand→PV)(h:Heap):Nat:=match op with
 | .store _ a _=>ptrOf (ρ a)
 | .mapUpdate _ x _ _=>mapOf (ρ x)
 | .call {callee:= .builtin .append,args:=args,.. }=>(match args.toList with
  |x::_=>ownOf h.next (ρ x)
  |[]=>0)
 |_=>h.next
theorem tch_new{h:Heap}{o:AObj}:Tch (some h.next) h (h.new o):=by
 simp only[Tch,new_next]
 exact⟨by omega,fun id hid=>by rw[new_obj,if_neg (by omega)]⟩
theorem tch_set{h:Heap}{i:Nat}{o:AObj}:Tch (some i) h (h.set i o):=by
 simp only[Tch,set_next]
 exact⟨by omega,fun id hid=>by rw[set_obj,if_neg (by omega)]⟩
theorem tch_id{h:Heap}{m:Nat}:Tch (some m) h h:=⟨Nat.le_refl _,fun _ _=>rfl⟩
theorem app_tch{z bytes:Nat}{h h':Heap}{x y v:PV}(ha:app z bytes h x y=some (v,h')):Tch (some (ownOf h.next x)) h h':=by
 unfold app at ha
 split at ha
 case isFalse=>simp at ha
 split at ha
 case h_2=>simp at ha
 rename_i nw h1 old hv ht
 split at ha
 case isFalse=>simp at ha
 simp only[Option.some.injEq,Prod.mk.injEq]at ha
 obtain⟨_,rfl⟩:=ha
 unfold isTail at ht
 split at ht
 ·simp only[Option.some.injEq,Prod.mk.injEq]at ht;obtain⟨rfl,rfl⟩:=ht;exact tch_new
 ·simp only[Option.some.injEq,Prod.mk.injEq]at ht;obtain⟨rfl,rfl⟩:=ht;exact tch_new
 ·split at ht
  case h_2=>simp at ht
  split at ht
  case isFalse=>simp at ht
  simp only[Option.some.injEq,Prod.mk.injEq]at ht;obtain⟨rfl,rfl⟩:=ht
  simp only[Tch,new_next,kill_next,ownOf]
  refine⟨by omega,fun id hid=>?_⟩
  rw[new_obj,kill_next]
  split at hid
  ·rw [if_neg (by omega),kill_obj,if_neg (by omega)]
  ·rw [if_neg (by omega),kill_obj,if_neg (by omega)]
 ·simp at ht
theorem wr_tch{h h':Heap}{vc:List PV}{p:PV}(hw:wr h vc p=some h'):Tch (some (ptrOf p)) h h':=by
 cases p with
 |ptr id i f=>
  simp only[wr]at hw
  split at hw
  ·split at hw
   ·split at hw
    ·simp at hw;subst hw;exact tch_set
    ·simp at hw
   ·simp at hw
  ·simp at hw
 |_=>simp[wr]at hw
theorem eff_tch{P:Program}{ow:Bool}{op:Op}{ρ:Operand→PV}{h h':Heap}{v:PV}(he:eff P ow op ρ h=some (v,h')):Tch (some (tchO op ρ h)) h h':=by
  unfold eff at he
  split at he
  all_goals(repeat'(split at he))
  all_goals first
    |(simp[Option.bind_eq_some_iff,Option.map_eq_some_iff]at he;done)
    |(simp only[Option.some.injEq,Prod.mk.injEq]at he;obtain⟨_,rfl⟩:=he;exact tch_id)
    |(simp only[Option.some.injEq,Prod.mk.injEq]at he;obtain⟨_,rfl⟩:=he;exact tch_new)
    |(simp only[Option.map_eq_some_iff,Prod.mk.injEq]at he;obtain⟨_,_,_,rfl⟩:=he;exact tch_id)
    |(simp[Option.bind_eq_some_iff,Option.map_eq_some_iff]at he;grind [tch_id,tch_new,tch_set])
    | (simp only [Option.bind_eq_some_iff] at he
       obtain⟨_,_,he⟩:=he
       (first
         | (split at he
            · simp only[Option.some.injEq,Prod.mk.injEq]at he;obtain⟨_,rfl⟩:=he;exact tch_new
            · simp at he)
         | (obtain ⟨_, _, he⟩ := he
            split at he
            · simp only [Option.bind_eq_some_iff] at he
              obtain⟨_,_,he⟩:=he
              simp only[Option.some.injEq,Prod.mk.injEq]at he;obtain⟨_,rfl⟩:=he;exact tch_new
            · simp at he)
         | (obtain ⟨_, _, _, _, _, _, he⟩ := he
            split at he
            · simp only[Option.some.injEq,Prod.mk.injEq]at he;obtain⟨_,rfl⟩:=he;exact tch_new
            · simp at he)
         | (split at he
            · simp only [Option.map_eq_some_iff, Prod.mk.injEq] at he
              obtain⟨_,hw,_,rfl⟩:=he
              exact wr_tch hw
            · simp at he)))
    |skip
  · rename_i hid _ _ _ _
    simp only[Option.bind_eq_some_iff]at he
    obtain⟨_,_,he⟩:=he
    split at he
    · simp only [Option.map_eq_some_iff, Prod.mk.injEq] at he
      obtain⟨es',_,_,rfl⟩:=he
      simp only[tchO]
      simp only[*,mapOf]
      exact tch_set
    · simp at he
  · rename_i hl htu
    simp only[Option.bind_eq_some_iff]at he
    obtain⟨_,_,he⟩:=he
    have:=app_tch he
    simp only[tchO]
    simp only[*]
mutual
def inNb(n:Nat):PV→Bool
 | .sc _=>true
 | .ptr id _ _=>decide (id<n)
 | .cptr cs=>inNLb n cs
 | .own id _ _=>decide (id<n)
 | .imm _ rows=>inNRb n rows
 | .emp=>true
 | .mp id=>decide (id<n)
 | .agg cs=>inNLb n cs
 | .tup cs=>inNLb n cs
 | .fn _ a b=>inNLb n a&&inNLb n b
 | .ab _ _ _ _ _=>true
def inNLb(n:Nat):List PV→Bool
 |[]=>true
 |p::ps=>inNb n p&&inNLb n ps
def inNRb(n:Nat):List (List PV)→Bool
 |[]=>true
 |r::rs=>inNLb n r&&inNRb n rs
end
mutual
theorem inNb_ok{n:Nat}:(p:PV)→inNb n p=true→inN n p
 | .sc _,_=>by simp only[inN]
 | .ptr _ _ _,h=>by simp only[inNb,decide_eq_true_eq]at h;simpa only[inN]using h
 | .cptr cs,h=>by simp only[inNb]at h;simp only[inN];exact inNLb_ok cs h
 | .own _ _ _,h=>by simp only[inNb,decide_eq_true_eq]at h;simpa only[inN]using h
 | .imm _ rows,h=>by simp only[inNb]at h;simp only[inN];exact inNRb_ok rows h
 | .emp,_=>by simp only[inN]
 | .mp _,h=>by simp only[inNb,decide_eq_true_eq]at h;simpa only[inN]using h
 | .agg cs,h=>by simp only[inNb]at h;simp only[inN];exact inNLb_ok cs h
 | .tup cs,h=>by simp only[inNb]at h;simp only[inN];exact inNLb_ok cs h
 | .fn _ a b,h=>by simp only[inNb,Bool.and_eq_true]at h;simp only[inN];exact⟨inNLb_ok a h.1,inNLb_ok b h.2⟩
 | .ab _ _ _ _ _,_=>by simp only[inN]
theorem inNLb_ok{n:Nat}:(l:List PV)→inNLb n l=true→inNL n l
 |[],_=>by simp only[inNL]
 |p::ps,h=>by simp only[inNLb,Bool.and_eq_true]at h;simp only[inNL];exact⟨inNb_ok p h.1,inNLb_ok ps h.2⟩
theorem inNRb_ok{n:Nat}:(l:List (List PV))→inNRb n l=true→inNR n l
 |[],_=>by simp only[inNR]
 |p::ps,h=>by simp only[inNRb,Bool.and_eq_true]at h;simp only[inNR];exact⟨inNLb_ok p h.1,inNRb_ok ps h.2⟩
end
mutual
def frzP(h':Heap)(n:Nat):Nat→PV→Option PV
 |0,_=>none
 |k+1,p=>match p with
  | .sc v=>some (.sc v)
  | .ptr id i f=>if id<n then some (.ptr id i f)else match h'.obj id with
   |some (.arr _ rows)=>(match rows[i]? with
    |some q=>(frzL h' n k (q.drop f)).map .cptr
    |none=>none)
   |_=>none
  | .own id off len=>if id<n then some (.own id off len)else match h'.obj id with
   |some (.arr z rows)=>if off+len≤rows.length then(frzR h' n k ((rows.drop off).take len)).map (.imm z)else none
   |_=>none
  | .imm z rows=>if inNRb n rows=true then some (.imm z rows)else none
  | .cptr cs=>if inNLb n cs=true then some (.cptr cs)else none
  | .emp=>some .emp
  | .mp id=>if id<n then some (.mp id)else none
  | .agg cs=>(frzL h' n k cs).map .agg
  | .tup cs=>(frzL h' n k cs).map .tup
  | .fn f a b=>if(inNLb n a&&inNLb n b)=true then some (.fn f a b)else none
  | .ab k lo hi m r=>some (.ab k lo hi m r)
def frzL(h':Heap)(n:Nat):Nat→List PV→Option (List PV)
 |0,_=>none
 |_+1,[]=>some []
 |k+1,p::ps=>match frzP h' n k p with
  |some q=>(frzL h' n k ps).map (q::·)
  |none=>none
def frzR(h':Heap)(n:Nat):Nat→List (List PV)→Option (List (List PV))
 |0,_=>none
 |_+1,[]=>some []
 |k+1,p::ps=>match frzL h' n k p with
  |some q=>(frzR h' n k ps).map (q::·)
  |none=>none
end
mutual
theorem frzP_ok{h':Heap}{n:Nat}: ∀ (k:Nat)(p:PV){r:PV},frzP h' n k p=some r→FrzTo n h' r p
 |0,_,_,h=>by simp[frzP]at h
 |k+1,p,r,h=>by
  unfold frzP at h
  split at h
  ·simp at h;subst h;simp only[FrzTo]
  ·split at h
   ·rename_i hid;simp at h;subst h;simp only[FrzTo];exact⟨trivial,hid⟩
   ·rename_i id i f hid
    split at h
    ·rename_i z rows hob
     split at h
     ·rename_i q hq
      simp only[Option.map_eq_some_iff]at h
      obtain⟨cs,hc,rfl⟩:=h
      simp only[FrzTo]
      exact .inr ⟨id,i,f,z,rows,q,rfl,by omega,hob,hq,frzL_ok k _ hc⟩
     ·simp at h
    ·simp at h
  ·split at h
   ·rename_i hid;simp at h;subst h;simp only[FrzTo];exact⟨trivial,hid⟩
   ·rename_i id off len hid
    split at h
    ·rename_i z rows hob
     split at h
     ·rename_i hle
      simp only[Option.map_eq_some_iff]at h
      obtain⟨rs,hc,rfl⟩:=h
      simp only[FrzTo]
      exact .inr (.inr ⟨id,off,len,rows,rfl,by omega,hob,hle,frzR_ok k _ hc⟩)
     ·simp at h
    ·simp at h
  ·split at h
   ·rename_i hi;simp at h;subst h;simp only[FrzTo];exact .inl ⟨trivial,inNRb_ok _ hi⟩
   ·simp at h
  ·split at h
   ·rename_i hi;simp at h;subst h;simp only[FrzTo];exact .inl ⟨trivial,inNLb_ok _ hi⟩
   ·simp at h
  ·simp at h;subst h;simp only[FrzTo]
  ·split at h
   ·rename_i hid;simp at h;subst h;simp only[FrzTo];exact⟨trivial,hid⟩
   ·simp at h
  ·simp only[Option.map_eq_some_iff]at h
   obtain⟨cs,hc,rfl⟩:=h
   simp only[FrzTo]
   exact⟨_,rfl,frzL_ok k _ hc⟩
  ·simp only[Option.map_eq_some_iff]at h
   obtain⟨cs,hc,rfl⟩:=h
   simp only[FrzTo]
   exact⟨_,rfl,frzL_ok k _ hc⟩
  ·split at h
   ·rename_i hi
    simp only[Bool.and_eq_true]at hi
    simp at h;subst h;simp only[FrzTo];exact⟨trivial,inNLb_ok _ hi.1,inNLb_ok _ hi.2⟩
   ·simp at h
  ·simp at h;subst h;simp only[FrzTo]
theorem frzL_ok{h':Heap}{n:Nat}: ∀ (k:Nat)(l:List PV){r:List PV},frzL h' n k l=some r→FrzL n h' r l
 |0,_,_,h=>by simp[frzL]at h
 |k+1,[],r,h=>by simp[frzL]at h;subst h;simp only[FrzL]
 |k+1,p::ps,r,h=>by
  unfold frzL at h
  split at h
  ·rename_i q hq
   simp only[Option.map_eq_some_iff]at h
   obtain⟨qs,hc,rfl⟩:=h
   simp only[FrzL]
   exact⟨frzP_ok k p hq,frzL_ok k ps hc⟩
  ·simp at h
theorem frzR_ok{h':Heap}{n:Nat}: ∀ (k:Nat)(l:List (List PV)){r:List (List PV)},frzR h' n k l=some r→FrzR n h' r l
 |0,_,_,h=>by simp[frzR]at h
 |k+1,[],r,h=>by simp[frzR]at h;subst h;simp only[FrzR]
 |k+1,p::ps,r,h=>by
  unfold frzR at h
  split at h
  ·rename_i q hq
   simp only[Option.map_eq_some_iff]at h
   obtain⟨qs,hc,rfl⟩:=h
   simp only[FrzR]
   exact⟨frzL_ok k p hq,frzR_ok k ps hc⟩
  ·simp at h
end
def dropB(q:Option Nat)(n:Nat):Bool:=match q with
 |none=>true
 |some t=>decide (n≤t)
def endS:Option (Exit × Slots × Option Nat × Heap)→Option (Slots × Option Nat × Heap)
 |some (.normal,r)=>some r
 |some (.ret,r)=>some r
 |_=>none
theorem endS_some{x:Option (Exit × Slots × Option Nat × Heap)}{r:Slots × Option Nat × Heap}(h:endS x=some r): ∃ e,(e= .normal∨e= .ret)∧x=some (e,r):=by
 unfold endS at h
 split at h
 ·simp at h;subst h;exact⟨_,.inl rfl,rfl⟩
 ·simp at h;subst h;exact⟨_,.inr rfl,rfl⟩
 ·simp at h
abbrev CallR2:=FuncId→List PV→Heap→Option (PV × Option Nat × Heap)
section
variable (P:Program)(wf:FuncId→Bool)(own:FuncId→Nat→Bool)(ext:FuncId→List PV→Heap→Option PV)
def xop2(call:CallR2)(ow:Nat→Bool)(o:Oper)(ρ:Operand→PV)(h:Heap):Option (PV × Option Nat × Heap):=
 match callee ρ o.op with
 |some (f,args)=>call f args h
 |none=>match eff P (o.dst.any ow) o.op ρ h with
  |some (v,h')=>some (v,(if isW ow wf o=true then some (tchO o.op ρ h)else none),h')
  |none=>none
def xagain2(call:CallR2)(ow:Nat→Bool)(o:Oper)(ρ:Operand→PV)(h:Heap)(v:PV):Bool:=
 match xop2 P wf call ow o ρ h with
 |some (v',q,_)=>q.isNone&&pvEq v' v
 |none=>false
def xl2(call:CallR2)(ow:Nat→Bool)(n:Nat)(ops:List Oper):List Oper→Slots→Option Nat→Heap→Option (Slots × Option Nat × Heap)
 |[],s,q,h=>some (s,q,h)
 | o :: rest, s, q, h => if o.dst.all (fun d => decide (d < n)) = true then
   match wantedB ops s o with
   |none=>none
   |some false=>xl2 call ow n ops rest (updO s o.dst (.sc undef)) q h
   |some true=>match xop2 P wf call ow o (pev s) h with
    |some (v,q',h')=>xl2 call ow n ops rest (updO s o.dst v) (mnO q q') h'
    |none=>none
  else none
def xopR(call:CallR2)(ow:Nat→Bool)(id:Nat)(o:Oper)(ρ:Operand→PV)(h:Heap):Option (PV × Option Nat × Heap):=
 match o.op with
 | .alloc t=>match zeroT P t with
  |some zs=>if 0<zs.length then some (.ptr id 0 0,some id,h.set id (.arr zs.length [zs.map .sc]))else none
  |none=>none
 |_=>xop2 P wf call ow o ρ h
def xd2(call:CallR2)(ow:Nat→Bool)(n:Nat)(ops:List Oper):Nat→List Oper→List (Nat × Oper × Slots × PV)→List (Nat × Heap)→Slots→Option Nat→Heap→Option (Slots × Option Nat × Heap)
 |_,[],_,_,s,q,h=>some (s,q,h)
 | k, o :: rest, past, hist, s, q, h => if o.dst.all (fun d => decide (d < n)) = true then
   match wantedB ops s o with
   |none=>none
   |some false=>xd2 call ow n ops (k+1) rest past hist (updO s o.dst (.sc undef)) q h
   |some true=>match xop2 P wf call ow o (pev s) h with
    |none=>none
    |some (v,q',h')=>
     if isW ow wf o=true then
      (if past.all (fun x=>pre ops x.1 k||xagain2 P wf call ow x.2.1 (pev x.2.2.1) h' x.2.2.2)=true then xd2 call ow n ops (k+1) rest past ((k,h)::hist) (updO s o.dst v) (mnO q q') h' else none)
     else if q'.isNone=true then
      (if hist.all (fun x=>pre ops x.1 k||xagain2 P wf call ow o (pev s) x.2 v)=true then xd2 call ow n ops (k+1) rest ((k,o,s,v)::past) hist (updO s o.dst v) q h else none)
     else none
  else none
def xd3(call:CallR2)(ow:Nat→Bool)(n:Nat)(ops:List Oper)(base:Nat):Nat→List Oper→List (Nat × Oper × Slots × PV)→List (Nat × Heap)→Slots→Option Nat→Heap→Option (Slots × Option Nat × Heap)
 |_,[],_,_,s,q,h=>some (s,q,h)
 | k, o :: rest, past, hist, s, q, h => if o.dst.all (fun d => decide (d < n)) = true then
   match wantedB ops s o with
   |none=>none
   |some false=>xd3 call ow n ops base (k+1) rest past hist (updO s o.dst (.sc undef)) q h
   |some true=>match xopR P wf call ow (base+k) o (pev s) h with
    |none=>none
    |some (v,q',h')=>
     if isW ow wf o=true then
      (if(past.all (fun x=>pre ops x.1 k||xagain2 P wf call ow x.2.1 (pev x.2.2.1) h' x.2.2.2)&&((List.range ops.length).all fun f=>!(decide (k<f)&&alB ops f)||(h'.obj (base+f)).isNone))=true then xd3 call ow n ops base (k+1) rest past ((k,h)::hist) (updO s o.dst v) (mnO q q') h' else none)
     else if q'.isNone=true then
      (if hist.all (fun x=>pre ops x.1 k||xagain2 P wf call ow o (pev s) x.2 v)=true then xd3 call ow n ops base (k+1) rest ((k,o,s,v)::past) hist (updO s o.dst v) q h else none)
     else none
  else none
def xc2(call:CallR2)(ow:Nat→Bool)(n:Nat):Nat→Code→Slots→Option Nat→Heap→Option (Exit × Slots × Option Nat × Heap)
 |0,_,_,_,_=>none
 |k+1,c,s,q,h=>match c with
  | .skip=>some (.normal,s,q,h)
  | .region _ ops true => if dOk ow wf ops.toList = true then (xd2 P wf call ow n ops.toList 0 ops.toList [] [] s q h).map (Exit.normal, ·)
    else if dOk2 ow wf ops.toList=true then(xd3 P wf call ow n ops.toList h.next 0 ops.toList [] [] s (mnO q (some h.next)) ⟨h.next+ops.toList.length,h.obj⟩).map (Exit.normal,·)
    else none
  | .region _ ops false=>(xl2 P wf call ow n ops.toList ops.toList s q h).map (Exit.normal,·)
  | .seq a b=>match xc2 call ow n k a s q h with
   |some (.normal,s',q',h')=>xc2 call ow n k b s' q' h'
   |r=>r
  | .cond c x y=>match pev s c with
   | .sc (.bool true)=>xc2 call ow n k x s q h
   | .sc (.bool false)=>xc2 call ow n k y s q h
   |_=>none
  | .block id c=>match xc2 call ow n k c s q h with
   |some (.exit id',s',q',h')=>some (if id'=id then .normal else .exit id',s',q',h')
   |r=>r
  | .loop c=>match xc2 call ow n k c s q h with
   |some (.normal,s',q',h')=>xc2 call ow n k (.loop c) s' q' h'
   |r=>r
  | .exit id=>some (.exit id,s,q,h)
  | .ret=>some (.ret,s,q,h)
  |_=>none
def xf2(keep:FuncId→Bool)(m:Nat):Nat→CallR2
  |0,_,_,_=>none
  |k+1,f,args,h=>match ext f args h with
   |some r=>some (r,none,h)
   |none=>match P.funcs[f]? with
    |none=>none
    |some fn=>if hasBody P f=true∧args.length≤fn.ntmps then match fn.body with
        |none=>none
        |some c=>match endS (xc2 P wf (xf2 keep m k) (own f) fn.ntmps m c (slots0 args) none h)with
          |some (s,q,h')=>match resAll P s h' fn.results.toList with
            |none=>none
            |some vs=>if(!(keep f)&&dropB q h.next)=true then(match frzP h' h.next 1000 (resV vs)with
                |some r=>some (r,none,h)
                |none=>some (resV vs,q,h'))else some (resV vs,q,h')
          |none=>none
      else none
end
section
variable {P:Program}{wf:FuncId→Bool}{own:FuncId→Nat→Bool}
def ExtOk2(P:Program)(ext:FuncId→List PV→Heap→Option PV):Prop:= ∀ f args r h,ext f args h=some r→PCall P f args h (fun r' h'=>r'=r∧h'=h)
def CallOk2(P:Program)(call:CallR2):Prop:= ∀ f args h v q h',call f args h=some (v,q,h')→PCall P f args h (fun r h''=>r=v∧h''=h')∧Tch q h h'
theorem xop_ok2{call:CallR2}(hk:CallOk2 P call){ow:Nat→Bool}{o:Oper}{ρ:Operand→PV}{h h':Heap}{v:PV}{q:Option Nat}(hx:xop2 P wf call ow o ρ h=some (v,q,h')):Does P ow o ρ h v h'∧Tch q h h':=by
 unfold xop2 at hx
 unfold Does
 split at hx
 ·rename_i f args hc
  rw[hc]
  exact hk _ _ _ _ _ _ hx
 ·rename_i hc
  rw[hc]
  split at hx
  ·rename_i v1 h1 he
   simp only[Option.some.injEq,Prod.mk.injEq]at hx
   obtain⟨rfl,rfl,rfl⟩:=hx
   refine⟨he,?_⟩
   split
   ·exact eff_tch he
   ·rename_i hw;exact eff_same (by simpa using hw) hc he
  ·simp at hx
theorem xagain_ok2{call:CallR2}(hk:CallOk2 P call){ow:Nat→Bool}{o:Oper}{ρ:Operand→PV}{h:Heap}{v:PV}(hx:xagain2 P wf call ow o ρ h v=true):Does P ow o ρ h v h:=by
 unfold xagain2 at hx
 split at hx
 ·rename_i v' q h' hp
  simp only[Bool.and_eq_true,Option.isNone_iff_eq_none]at hx
  obtain⟨rfl,hx⟩:=hx
  obtain⟨h1,h2⟩:=xop_ok2 hk hp
  simp only[Tch]at h2
  rw[h2,pvEq_eq _ _ hx]at h1
  exact h1
 ·simp at hx
theorem xl_ok2{call:CallR2}(hk:CallOk2 P call){ow:Nat→Bool}{n:Nat}{ops:List Oper}{K:Slots→Heap→Prop}: ∀ (l:List Oper){s s':Slots}{q q':Option Nat}{h h':Heap},xl2 P wf call ow n ops l s q h=some (s',q',h')→
  (K s' h'→lwp P ow n ops l K s h)∧(∀ h0,Tch q h0 h→Tch q' h0 h')
 |[],s,s',q,q',h,h',hx=>by
  simp only[xl2,Option.some.injEq,Prod.mk.injEq]at hx
  obtain⟨rfl,rfl,rfl⟩:=hx
  exact⟨fun hK=>hK,fun h0 hq=>hq⟩
 |o::rest,s,s',q,q',h,h',hx=>by
  unfold xl2 at hx
  split at hx
  ·rename_i hd
   unfold lwp
   split at hx
   ·simp at hx
   ·rename_i hw
    obtain⟨h1,h2⟩:=xl_ok2 hk rest hx
    rw[hw]
    exact⟨fun hK=>⟨hd,by simpa using h1 hK⟩,h2⟩
   ·rename_i hw
    split at hx
    ·rename_i v q1 h1 hp
     obtain⟨d1,d2⟩:=xop_ok2 hk hp
     obtain⟨g1,g2⟩:=xl_ok2 hk rest hx
     rw[hw]
     exact⟨fun hK=>⟨hd,by simpa using d1.owp (g1 hK)⟩,fun h0 hq=>g2 h0 (hq.trans d2)⟩
    ·simp at hx
  ·simp at hx
theorem xd_ok2{call:CallR2}(hk:CallOk2 P call){ow:Nat→Bool}{n:Nat}{ops:List Oper}{K:Slots→Heap→Prop}: ∀ (l:List Oper)(k:Nat){past:List (Nat × Oper × Slots × PV)}{hist:List (Nat × Heap)}{s s':Slots}{q q':Option Nat}{h h':Heap},xd2 P wf call ow n ops k l past hist s q h=some (s',q',h')→
  (K s' h'→drun P ow wf n ops k l (past.map fun x=>(x.1,fun h2=>Does P ow x.2.1 (pev x.2.2.1) h2 x.2.2.2 h2)) hist K s h)∧(∀ h0,Tch q h0 h→Tch q' h0 h')
 |[],k,past,hist,s,s',q,q',h,h',hx=>by
  simp only[xd2,Option.some.injEq,Prod.mk.injEq]at hx
  obtain⟨rfl,rfl,rfl⟩:=hx
  exact⟨fun hK=>hK,fun h0 hq=>hq⟩
 |o::rest,k,past,hist,s,s',q,q',h,h',hx=>by
  unfold xd2 at hx
  split at hx
  ·rename_i hd
   unfold drun
   split at hx
   ·simp at hx
   ·rename_i hw
    obtain⟨h1,h2⟩:=xd_ok2 hk rest (k+1) hx
    rw[hw]
    exact⟨fun hK=>⟨hd,by simpa using h1 hK⟩,h2⟩
   ·rename_i hw
    split at hx
    ·simp at hx
    ·rename_i v q1 h1 hp
     obtain⟨d1,d2⟩:=xop_ok2 hk hp
     rw[hw]
     split at hx
     ·rename_i hiw
      split at hx
      ·rename_i hpast
       obtain⟨g1,g2⟩:=xd_ok2 hk rest (k+1) hx
       refine⟨fun hK=>⟨hd,?_⟩,fun h0 hq=>g2 h0 (hq.trans d2)⟩
       ·simp only[hiw,if_true]
        refine⟨v,h1,d1,?_,g1 hK⟩
        intro x hx1
        obtain⟨y,hy,rfl⟩:=List.mem_map.1 hx1
        have:=List.all_eq_true.1 hpast y hy
        simp only[Bool.or_eq_true]at this
        exact this.imp id (fun t=>xagain_ok2 hk t)
      ·simp at hx
     ·rename_i hiw
      split at hx
      ·rename_i hq1
       split at hx
       ·rename_i hhist
        obtain⟨g1,g2⟩:=xd_ok2 hk rest (k+1) hx
        refine⟨fun hK=>⟨hd,?_⟩,g2⟩
        simp only[hiw,if_true,Bool.false_eq_true,if_false]
        have e1:h1=h:=by rw[Option.isNone_iff_eq_none]at hq1;subst hq1;exact d2
        subst e1
        refine⟨v,d1,?_,g1 hK⟩
        intro x hx1
        have:=List.all_eq_true.1 hhist x hx1
        simp only[Bool.or_eq_true]at this
        exact this.imp id (fun t=>xagain_ok2 hk t)
       ·simp at hx
      ·simp at hx
  ·simp at hx
theorem xopR_ok{call:CallR2}(hk:CallOk2 P call){ow:Nat→Bool}{id:Nat}{o:Oper}{ρ:Operand→PV}{h h':Heap}{v:PV}{q:Option Nat}(hx:xopR P wf call ow id o ρ h=some (v,q,h')):DoesR P ow id o ρ h v h'∧Tch q h h':=by
 unfold xopR at hx
 unfold DoesR
 split at hx
 ·rename_i t hop
  simp only[hop]
  split at hx
  ·rename_i zs hz
   split at hx
   ·rename_i hpos
    simp only[Option.some.injEq,Prod.mk.injEq]at hx
    obtain⟨rfl,rfl,rfl⟩:=hx
    exact⟨⟨zs,hz,hpos,rfl,rfl⟩,tch_set⟩
   ·simp at hx
  ·simp at hx
 ·rename_i hop
  obtain⟨d1,d2⟩:=xop_ok2 hk hx
  refine⟨?_,d2⟩
  split
  ·rename_i t he;exact(hop t he).elim
  ·exact d1
theorem xd_ok3{call:CallR2}(hk:CallOk2 P call){ow:Nat→Bool}{n base:Nat}{ops:List Oper}{K:Slots→Heap→Prop}: ∀ (l:List Oper)(k:Nat){past:List (Nat × Oper × Slots × PV)}{hist:List (Nat × Heap)}{s s':Slots}{q q':Option Nat}{h h':Heap},xd3 P wf call ow n ops base k l past hist s q h=some (s',q',h')→
  (K s' h'→drun2 P ow wf n ops base k l (past.map fun x=>(x.1,fun h2=>Does P ow x.2.1 (pev x.2.2.1) h2 x.2.2.2 h2)) hist K s h)∧(∀ h0,Tch q h0 h→Tch q' h0 h')
 |[],k,past,hist,s,s',q,q',h,h',hx=>by
  simp only[xd3,Option.some.injEq,Prod.mk.injEq]at hx
  obtain⟨rfl,rfl,rfl⟩:=hx
  exact⟨fun hK=>hK,fun h0 hq=>hq⟩
 |o::rest,k,past,hist,s,s',q,q',h,h',hx=>by
  unfold xd3 at hx
  split at hx
  ·rename_i hd
   unfold drun2
   split at hx
   ·simp at hx
   ·rename_i hw
    obtain⟨h1,h2⟩:=xd_ok3 hk rest (k+1) hx
    rw[hw]
    exact⟨fun hK=>⟨hd,by simpa using h1 hK⟩,h2⟩
   ·rename_i hw
    split at hx
    ·simp at hx
    ·rename_i v q1 h1 hp
     obtain⟨d1,d2⟩:=xopR_ok hk hp
     rw[hw]
     split at hx
     ·rename_i hiw
      split at hx
      ·rename_i hpn
       simp only[Bool.and_eq_true]at hpn
       obtain⟨hpast,hnone⟩:=hpn
       obtain⟨g1,g2⟩:=xd_ok3 hk rest (k+1) hx
       refine⟨fun hK=>⟨hd,?_⟩,fun h0 hq=>g2 h0 (hq.trans d2)⟩
       ·simp only[hiw,if_true]
        refine⟨v,h1,d1,fun f hf ha=>?_,?_,g1 hK⟩
        ·have hfl:f<ops.length:=by
          unfold alB at ha
          split at ha
          ·rename_i hq;exact(List.getElem?_eq_some_iff.1 hq).1
          ·simp at ha
         have:=List.all_eq_true.1 hnone f (List.mem_range.2 hfl)
         simpa[hf,ha]using this
        intro x hx1
        obtain⟨y,hy,rfl⟩:=List.mem_map.1 hx1
        have:=List.all_eq_true.1 hpast y hy
        simp only[Bool.or_eq_true]at this
        exact this.imp id (fun t=>xagain_ok2 hk t)
      ·simp at hx
     ·rename_i hiw
      split at hx
      ·rename_i hq1
       split at hx
       ·rename_i hhist
        obtain⟨g1,g2⟩:=xd_ok3 hk rest (k+1) hx
        refine⟨fun hK=>⟨hd,?_⟩,g2⟩
        simp only[hiw,if_true,Bool.false_eq_true,if_false]
        have e1:h1=h:=by rw[Option.isNone_iff_eq_none]at hq1;subst hq1;exact d2
        subst e1
        refine⟨v,(doesR_of (by simpa using hiw)).1 d1,?_,g1 hK⟩
        intro x hx1
        have:=List.all_eq_true.1 hhist x hx1
        simp only[Bool.or_eq_true]at this
        exact this.imp id (fun t=>xagain_ok2 hk t)
       ·simp at hx
      ·simp at hx
  ·simp at hx
theorem xc_ok2{call:CallR2}(hk:CallOk2 P call){ow:Nat→Bool}{n:Nat}: ∀ (m:Nat)(c:Code){s s':Slots}{q q':Option Nat}{h h':Heap}{e:Exit},xc2 P wf call ow n m c s q h=some (e,s',q',h')→
  (∀ Q:Post,Q e s' h'→awp P ow wf n c Q s h)∧(∀ h0,Tch q h0 h→Tch q' h0 h')
 |0,c,s,s',q,q',h,h',e,hx=>by simp[xc2]at hx
 |m+1,c,s,s',q,q',h,h',e,hx=>by
  unfold xc2 at hx
  split at hx
  ·simp only[Option.some.injEq,Prod.mk.injEq]at hx
   obtain⟨rfl,rfl,rfl,rfl⟩:=hx
   exact⟨fun Q hQ=>by simpa only[awp]using hQ,fun h0 hq=>hq⟩
  ·rename_i id ops
   split at hx
   ·rename_i hdo
    simp only[Option.map_eq_some_iff,Prod.mk.injEq]at hx
    obtain⟨⟨s1,q1,h1⟩,hx,rfl,rfl,rfl,rfl⟩:=hx
    have:=fun(Q:Post)=>xd_ok2 (K:=Q .normal) hk _ _ hx
    exact⟨fun Q hQ=>by simp only[awp,if_true];exact⟨_,_,.refl,.inl ⟨hdo,(this Q).1 hQ⟩⟩,(this (fun _ _ _=>True)).2⟩
   ·split at hx
    ·rename_i hdo
     simp only[Option.map_eq_some_iff,Prod.mk.injEq]at hx
     obtain⟨⟨s1,q1,h1⟩,hx,rfl,rfl,rfl,rfl⟩:=hx
     have:=fun(Q:Post)=>xd_ok3 (K:=Q .normal) hk _ _ hx
     refine⟨fun Q hQ=>by simp only[awp,if_true];exact⟨_,_,.refl,.inr (.inl ⟨hdo,(this Q).1 hQ⟩)⟩,fun h0 hq=>(this (fun _ _ _=>True)).2 h0 (hq.trans ?_)⟩
     exact⟨Nat.le_add_right _ _,fun _ _=>rfl⟩
    ·simp at hx
  ·rename_i id ops
   simp only[Option.map_eq_some_iff,Prod.mk.injEq]at hx
   obtain⟨⟨s1,q1,h1⟩,hx,rfl,rfl,rfl,rfl⟩:=hx
   have:=fun(Q:Post)=>xl_ok2 (K:=Q .normal) hk _ hx
   exact⟨fun Q hQ=>by simp only[awp,Bool.false_eq_true,if_false];exact⟨_,_,.refl,(this Q).1 hQ⟩,(this (fun _ _ _=>True)).2⟩
  ·rename_i a b
   split at hx
   ·rename_i s1 q1 h1 ha
    obtain⟨a1,a2⟩:=xc_ok2 hk m a ha
    obtain⟨b1,b2⟩:=xc_ok2 hk m b hx
    exact⟨fun Q hQ=>by simp only[awp];exact a1 _ (b1 Q hQ),fun h0 hq=>b2 h0 (a2 h0 hq)⟩
   ·rename_i hne
    obtain⟨a1,a2⟩:=xc_ok2 hk m a hx
    refine⟨fun Q hQ=>?_,a2⟩
    simp only[awp]
    refine a1 _ ?_
    cases e<;>simp only[Post.seq]<;>first|exact hQ|exact(hne _ _ _ hx).elim
  ·rename_i c x y
   split at hx
   ·rename_i hc
    obtain⟨a1,a2⟩:=xc_ok2 hk m x hx
    exact⟨fun Q hQ=>by simp only[awp,hc,if_true];exact a1 Q hQ,a2⟩
   ·rename_i hc
    obtain⟨a1,a2⟩:=xc_ok2 hk m y hx
    exact⟨fun Q hQ=>by simp only[awp,hc,Bool.false_eq_true,if_false];exact a1 Q hQ,a2⟩
   ·simp at hx
  ·rename_i id c
   split at hx
   ·rename_i id' s1 q1 h1 ha
    obtain⟨a1,a2⟩:=xc_ok2 hk m c ha
    simp only[Option.some.injEq,Prod.mk.injEq]at hx
    obtain⟨rfl,rfl,rfl,rfl⟩:=hx
    refine⟨fun Q hQ=>?_,a2⟩
    simp only[awp]
    refine a1 _ ?_
    simp only[Post.block]
    split<;>rename_i hid<;>simpa only[hid,if_true,if_false]using hQ
   ·rename_i hne
    obtain⟨a1,a2⟩:=xc_ok2 hk m c hx
    refine⟨fun Q hQ=>?_,a2⟩
    simp only[awp]
    refine a1 _ ?_
    cases e<;>simp only[Post.block]<;>first|exact hQ|exact(hne _ _ _ _ hx).elim
  ·rename_i c
   split at hx
   ·rename_i s1 q1 h1 ha
    obtain⟨a1,a2⟩:=xc_ok2 hk m c ha
    obtain⟨b1,b2⟩:=xc_ok2 hk m (.loop c) hx
    refine⟨fun Q hQ=>?_,fun h0 hq=>b2 h0 (a2 h0 hq)⟩
    have:=b1 Q hQ
    simp only[awp]at this⊢
    obtain⟨j,hj⟩:=this
    exact⟨j+1,a1 _ hj⟩
   ·rename_i hne
    obtain⟨a1,a2⟩:=xc_ok2 hk m c hx
    refine⟨fun Q hQ=>?_,a2⟩
    simp only[awp]
    refine⟨1,a1 _ ?_⟩
    cases e<;>simp only[Post.seq]<;>first|exact hQ|exact(hne _ _ _ hx).elim
  ·simp only[Option.some.injEq,Prod.mk.injEq]at hx
   obtain⟨rfl,rfl,rfl,rfl⟩:=hx
   exact⟨fun Q hQ=>by simpa only[awp]using hQ,fun h0 hq=>hq⟩
  ·simp only[Option.some.injEq,Prod.mk.injEq]at hx
   obtain⟨rfl,rfl,rfl,rfl⟩:=hx
   exact⟨fun Q hQ=>by simpa only[awp]using hQ,fun h0 hq=>hq⟩
  ·simp at hx
theorem xf_ok2(hm:P.follows .mixedOrders=true){ext:FuncId→List PV→Heap→Option PV}(hext:ExtOk2 P ext){keep:FuncId→Bool}{m:Nat}: ∀ k,CallOk2 P (xf2 P wf own ext keep m k)
 |0,f,args,h,v,q,h',hx=>by simp[xf2]at hx
 |k+1,f,args,h,v,q,h',hx=>by
  unfold xf2 at hx
  split at hx
  ·rename_i r hr
   simp only[Option.some.injEq,Prod.mk.injEq]at hx
   obtain⟨rfl,rfl,rfl⟩:=hx
   exact⟨hext _ _ _ _ hr,rfl⟩
  split at hx
  ·simp at hx
  ·rename_i fn hf
   split at hx
   case isFalse=>simp at hx
   rename_i hh
   split at hx
   ·simp at hx
   ·rename_i c hb
    split at hx
    case h_2=>simp at hx
    rename_i s q1 h1 hc
    split at hx
    ·simp at hx
    ·rename_i vs hr
     have main:PCall P f args h (fun r h2=>r=resV vs∧h2=h1)∧Tch q1 h h1:=by
      obtain⟨e,he,hc⟩:=endS_some hc
      obtain⟨a1,a2⟩:=xc_ok2 (xf_ok2 hm hext k) m c hc
      refine⟨pcall_body hm hf hb hh.1 hh.2 (a1 _ ?_),a2 h rfl⟩
      rcases he with rfl|rfl<;>simp only[retPost,hr]<;>exact⟨trivial,trivial⟩
     split at hx
     ·rename_i hkp
      simp only[Bool.and_eq_true]at hkp
      split at hx
      ·rename_i r hfr
       simp only[Option.some.injEq,Prod.mk.injEq]at hx
       obtain⟨rfl,rfl,rfl⟩:=hx
       refine⟨pcall_wf hh.1 fun hwf=>PCall.drop (main.1.mono ?_),rfl⟩
       rintro r' h' ⟨rfl,rfl⟩
       have hold: ∀ id,id<h.next→h'.obj id=h.obj id:=by
        intro id hid
        have ht:=main.2
        cases q1 with
        |none=>simp only[Tch]at ht;rw[ht]
        |some t=>
         simp only[Tch]at ht
         have:=hkp.2
         simp[dropB]at this
         exact ht.2 id (by omega)
       refine⟨r,h,⟨rfl,rfl⟩,frzP_ok _ _ hfr,Nat.le_refl _,fun id o ho=>?_⟩
       have hid:=hwf id (by rw[ho];try rfl)
       exact⟨by rw[hold id hid];exact ho,hid,.inl ho⟩
      ·simp only[Option.some.injEq,Prod.mk.injEq]at hx
       obtain⟨rfl,rfl,rfl⟩:=hx
       exact main
     ·simp only[Option.some.injEq,Prod.mk.injEq]at hx
      obtain⟨rfl,rfl,rfl⟩:=hx
      exact main
def xgives2(r:Option (PV × Option Nat × Heap))(v:PV):Bool:=match r with
 |some (u,_,_)=>pvEq u v
 |none=>false
theorem pcall_run2(hm:P.follows .mixedOrders=true){ext:FuncId→List PV→Heap→Option PV}(hext:ExtOk2 P ext){keep:FuncId→Bool}{m k:Nat}{f:FuncId}{args:List PV}{h:Heap}{v:PV}(hx:xgives2 (xf2 P wf own ext keep m k f args h) v=true):PCall P f args h (fun r _=>r=v):=by
 unfold xgives2 at hx
 split at hx
 ·rename_i u q h' hr
  refine((xf_ok2 hm hext k _ _ _ _ _ _ hr).1).mono (fun r h'' hr=>?_)
  rw[hr.1,pvEq_eq _ _ hx]
 ·simp at hx
end
end Go.AM
namespace Go.Proofs.YtjeolbgpllbemaaGreat
open Go.AM
set_option maxHeartbeats 2000000
set_option maxRecDepth 100000
def pbOwn(f t:Nat):Bool:=([(57,5),(98,10),(999999,5),(9,40),(9,49),(9,67),(29,9)]:List (Nat × Nat)).contains (f,t)
def pbWf(f:Nat):Bool:=false
def pbExt(f:FuncId)(args:List PV)(_:Heap):Option PV:=ext f args
theorem pbExt_ok:ExtOk2 Tryz.prog pbExt:=fun f args r h hr=>ext_ok f args r h hr
theorem pbAwake_c:PCall Tryz.prog 8 [] Heap.nil fun r h'=>r= .sc (.bool true)∧h'=Heap.nil:=by
 have h1:PCall Tryz.prog 8 [] Heap.nil fun r _=>r= .sc (.bool true):=pcall_run2 (wf:=pbWf) (own:=pbOwn) (keep:=fun _=>false) Ty.mixed pbExt_ok (m:=2000) (k:=60) (by kernel_rfl)
 refine PCall.drop (h1.mono ?_)
 rintro r h' rfl
 refine⟨.sc (.bool true),Heap.nil,⟨rfl,rfl⟩,?_,Nat.le_refl _,fun id o ho=>by simp[Heap.nil]at ho⟩
 simp only[FrzTo]
end Go.Proofs.YtjeolbgpllbemaaGreat
namespace Go.Proofs.YtjeolbgpllbemaaGreat
open Go.AM
set_option maxHeartbeats 4000000
set_option maxRecDepth 20000
theorem okS_of{p:Pb}(h:p.ok):p.okS:=⟨h.2.2.1.1,h.2.2.2.1,⟨h.2.2.2.2.1.1,fun v hv=>(h.2.2.2.2.1.2 v hv).1⟩,h.2.2.2.2.2⟩
theorem writeB_goal{p:Pb}(h:writeB p=true):validF p.goal=true:=by
 unfold writeB at h
 simp only[Bool.and_eq_true]at h
 exact h.1.1
end Go.Proofs.YtjeolbgpllbemaaGreat
namespace Go.Proofs.YtjeolbgpllbemaaGreat
open Go.AM
set_option maxHeartbeats 8000000
set_option maxRecDepth 20000
theorem q10Write_c{p:Pb}(hok:p.ok)(hb:PV.bulkL p.cells≤1048576)(h:Heap):PCall Tryz.prog 10 [.agg p.cells] h fun r h'=>r=(if writeB p=true then .tup [.agg (pbW p).cells,.sc (.bool true)]else .tup [.agg zeroSx.cells,.sc (.bool false)])∧h'=h:=by
 refine PCall.frz Ty.hb_10 ?_
 have hsm:=pb_small hb
 rw[writeB_q]
 have hok0:=hok
 obtain⟨k1,k2,⟨k3,k4⟩,⟨k5,k6⟩,⟨k7,k8⟩,k9⟩:=hok0
 have hn1:=fun h:Heap=>rname_c (h:=h) (s:=p.name) (by unfold bigN at k1;omega)
 have hn2:=fun h:Heap=>rname_c (h:=h) (s:=p.domain) (by unfold bigN at k2;omega)
 have hps:=rshapedPs_c (v:=false) (l:=p.objects) k3 k4
 have hsh:=rshapedF_c p.goal k9
 have hgI: ∀ a∈p.init, ∀ h:Heap,PCall Tryz.prog 34 [.agg (atRow a)] h fun r h'=>r= .sc (.bool (rightA a))∧h'=h:=fun a ha h=>qground_c (k6 a ha) h
 have hgV: ∀ a∈p.values, ∀ h:Heap,PCall Tryz.prog 34 [.agg (atRow a.at_)] h fun r h'=>r= .sc (.bool (rightA a.at_))∧h'=h:=fun a ha h=>qground_c (k8 a ha).1 h
 have hPr:nameB p.name=true→nameB p.domain=true→p.objects.all (pmR false)=true→shapedF p.goal=true→p.init.all rightA=true→p.values.all vlB=true→ ∀ h:Heap,PCall Tryz.prog 35 [.agg p.cells] h fun r h'=>r= .agg (pbW p).cells∧h'=h:=fun h1 h2 h3 h4 h5 h6 h=>qproblem_c hok hsm (expressB_iff.2 ⟨h1,h2,fun o ho=>by rw[obj_pmR];exact List.all_eq_true.1 h3 o ho,List.all_eq_true.1 h6,List.all_eq_true.1 h5⟩) h4 h
 have hVl:shapedF p.goal=true→ ∀ h:Heap,PCall Tryz.prog 21 [.agg (pbW p).cells] h fun r h'=>r= .sc (.bool (svalid (pbW p) 0 0).1)∧h'=h:=fun hs h=>rvalidS_c (pbW_okS hok hsm hs) (pbW_nodes hb).1 (pbW_nodes hb).2 h
 have hlI:=atRows_len p.init
 have hlV:=vlRows_len p.values
 have hi:=hsm.i
 have hv:=hsm.v
 have hfz:=fun n h=>sx_frz n h (pbW p)
 generalize hF:(nameB p.name&&nameB p.domain&&p.objects.all (pmR false)&&shapedF p.goal&&p.init.all rightA&&p.values.all vlB&&(svalid (pbW p) 0 0).1)=F
 have bad: ∀ (h':Heap),F=false→FrzTo h.next h' (if F=true then .tup [.agg (pbW p).cells,.sc (.bool true)]else .tup [.agg zeroSx.cells,.sc (.bool false)]) (.tup [.agg [.sc (.int .i64 0),.sc (.int .i64 0),.sc (.int .i64 0),.sc (.int .i64 0),sPV ⟨#[]⟩,.sc (.slice none 0 0)],.sc (.bool false)]):=by
  intro h' hf
  rw[hf,if_neg (by simp)]
  simp only[zeroSx,Sx.cells,Sx.rows,FrzTo,FrzL]
  exact⟨_,rfl,⟨_,rfl,rfl,rfl,rfl,rfl,rfl,.inr (.inl ⟨rfl,.inr rfl⟩),trivial⟩,rfl,trivial⟩
 generalize(svalid (pbW p) 0 0).1=sv at hVl hF
 generalize hAI:p.init.all rightA=AI at hPr hF
 generalize hAV:p.values.all vlB=AV at hPr hF
 generalize nameB p.name=n1 at hn1 hPr hF
 generalize nameB p.domain=n2 at hn2 hPr hF
 generalize p.objects.all (pmR false)=ob at hps hPr hF
 generalize shapedF p.goal=g at hsh hPr hVl hF
 generalize pbW p=X at hPr hVl hfz bad⊢
 clear hok hsm k1 k2 k3 k4 k5 k6 k7 k8 k9 hb
 obtain⟨name,domain,objects,init,values,⟨gop,gname,gargs,gparams,gexprs,gkids⟩⟩:=p
 obtain⟨xk,xv,xl,xc,xt,xs⟩:=X
 simp only[Pb.cells,Fm.cells,List.cons_append,List.nil_append,Sx.cells]at hn1 hn2 hps hsh hgI hgV hPr hVl hlI hlV hi hv hfz bad hAI hAV⊢
 cases n1 with
 |false=>
  refine pcall_body (ow:=fun _=>false) (wf:=fun _=>false) Ty.mixed Tryz.func10 rfl Ty.hb_10 (by rw[Tryz.ntmps10];simp) ?_
  rw[Tryz.ntmps10,Tryz.results10]
  repeat'(first|refine a_seq fun K hK=>?_|(refine a_regionS ?_;simp(maxSteps:=2000000) only[Ty.w,simprocAttr])|(refine hK _ _ ?_;clear hK;try simp only[pst0,simprocAttr]))
  refine owp_useQ (hn1 _) (by(try simp only[Ty.w,simprocAttr,Bool.not_true,Bool.not_false]);try rfl) ?_;simp(maxSteps:=2000000) only[Ty.w,simprocAttr,Bool.not_true,Bool.not_false]
  repeat'(first|refine a_seq fun K hK=>?_|((first|refine a_regionS ?_|refine a_ret ?_);simp(maxSteps:=2000000) only[Ty.w,simprocAttr,Bool.not_true,Bool.not_false,nsucc])|(refine hK _ _ ?_;clear hK;try simp only[pst0,simprocAttr]))
  exact⟨bad _ (by rw[← hF];simp),(((Grow.refl h).new _).set (Nat.le_refl _) _)⟩
 |true=>
  cases n2 with
  |false=>
   refine pcall_body (ow:=fun _=>false) (wf:=fun _=>false) Ty.mixed Tryz.func10 rfl Ty.hb_10 (by rw[Tryz.ntmps10];simp) ?_
   rw[Tryz.ntmps10,Tryz.results10]
   repeat'(first|refine a_seq fun K hK=>?_|(refine a_regionS ?_;simp(maxSteps:=2000000) only[Ty.w,simprocAttr])|(refine hK _ _ ?_;clear hK;try simp only[pst0,simprocAttr]))
   refine owp_useQ (hn1 _) (by(try simp only[Ty.w,simprocAttr,Bool.not_true,Bool.not_false]);try rfl) ?_;simp(maxSteps:=2000000) only[Ty.w,simprocAttr,Bool.not_true,Bool.not_false]
   skip
   refine owp_useQ (hn2 _) (by(try simp only[Ty.w,simprocAttr,Bool.not_true,Bool.not_false]);try rfl) ?_;simp(maxSteps:=2000000) only[Ty.w,simprocAttr,Bool.not_true,Bool.not_false]
   repeat'(first|refine a_seq fun K hK=>?_|((first|refine a_regionS ?_|refine a_ret ?_);simp(maxSteps:=2000000) only[Ty.w,simprocAttr,Bool.not_true,Bool.not_false,nsucc])|(refine hK _ _ ?_;clear hK;try simp only[pst0,simprocAttr]))
   exact⟨bad _ (by rw[← hF];simp),(((Grow.refl h).new _).set (Nat.le_refl _) _)⟩
  |true=>
   cases ob with
   |false=>
    refine pcall_body (ow:=fun _=>false) (wf:=fun _=>false) Ty.mixed Tryz.func10 rfl Ty.hb_10 (by rw[Tryz.ntmps10];simp) ?_
    rw[Tryz.ntmps10,Tryz.results10]
    repeat'(first|refine a_seq fun K hK=>?_|(refine a_regionS ?_;simp(maxSteps:=2000000) only[Ty.w,simprocAttr])|(refine hK _ _ ?_;clear hK;try simp only[pst0,simprocAttr]))
    refine owp_useQ (hn1 _) (by(try simp only[Ty.w,simprocAttr,Bool.not_true,Bool.not_false]);try rfl) ?_;simp(maxSteps:=2000000) only[Ty.w,simprocAttr,Bool.not_true,Bool.not_false]
    skip
    refine owp_useQ (hn2 _) (by(try simp only[Ty.w,simprocAttr,Bool.not_true,Bool.not_false]);try rfl) ?_;simp(maxSteps:=2000000) only[Ty.w,simprocAttr,Bool.not_true,Bool.not_false]
    skip
    refine owp_useQ (hps _) (by(try simp only[Ty.w,simprocAttr,Bool.not_true,Bool.not_false]);try rfl) ?_;simp(maxSteps:=2000000) only[Ty.w,simprocAttr,Bool.not_true,Bool.not_false]
    repeat'(first|refine a_seq fun K hK=>?_|((first|refine a_regionS ?_|refine a_ret ?_);simp(maxSteps:=2000000) only[Ty.w,simprocAttr,Bool.not_true,Bool.not_false,nsucc])|(refine hK _ _ ?_;clear hK;try simp only[pst0,simprocAttr]))
    exact⟨bad _ (by rw[← hF];simp),(((Grow.refl h).new _).set (Nat.le_refl _) _)⟩
   |true=>
    cases g with
    |false=>
     refine pcall_body (ow:=fun _=>false) (wf:=fun _=>false) Ty.mixed Tryz.func10 rfl Ty.hb_10 (by rw[Tryz.ntmps10];simp) ?_
     rw[Tryz.ntmps10,Tryz.results10]
     repeat'(first|refine a_seq fun K hK=>?_|(refine a_regionS ?_;simp(maxSteps:=2000000) only[Ty.w,simprocAttr])|(refine hK _ _ ?_;clear hK;try simp only[pst0,simprocAttr]))
     refine owp_useQ (hn1 _) (by(try simp only[Ty.w,simprocAttr,Bool.not_true,Bool.not_false]);try rfl) ?_;simp(maxSteps:=2000000) only[Ty.w,simprocAttr,Bool.not_true,Bool.not_false]
     skip
     refine owp_useQ (hn2 _) (by(try simp only[Ty.w,simprocAttr,Bool.not_true,Bool.not_false]);try rfl) ?_;simp(maxSteps:=2000000) only[Ty.w,simprocAttr,Bool.not_true,Bool.not_false]
     skip
     refine owp_useQ (hps _) (by(try simp only[Ty.w,simprocAttr,Bool.not_true,Bool.not_false]);try rfl) ?_;simp(maxSteps:=2000000) only[Ty.w,simprocAttr,Bool.not_true,Bool.not_false]
     skip
     refine owp_useQ (hsh _) (by(try simp only[Ty.w,simprocAttr,Bool.not_true,Bool.not_false]);try rfl) ?_;simp(maxSteps:=2000000) only[Ty.w,simprocAttr,Bool.not_true,Bool.not_false]
     repeat'(first|refine a_seq fun K hK=>?_|((first|refine a_regionS ?_|refine a_ret ?_);simp(maxSteps:=2000000) only[Ty.w,simprocAttr,Bool.not_true,Bool.not_false,nsucc])|(refine hK _ _ ?_;clear hK;try simp only[pst0,simprocAttr]))
     exact⟨bad _ (by rw[← hF];simp),(((Grow.refl h).new _).set (Nat.le_refl _) _)⟩
    |true=>
     have hVl:=hVl rfl
     have hPr:=hPr rfl rfl rfl rfl
     simp only[Bool.true_and]at hF
     refine pcall_body (ow:=fun _=>false) (wf:=fun _=>false) Ty.mixed Tryz.func10 rfl Ty.hb_10 (by rw[Tryz.ntmps10];simp) ?_
     rw[Tryz.ntmps10,Tryz.results10]
     repeat'(first|refine a_seq fun K hK=>?_|(refine a_regionS ?_;simp(maxSteps:=2000000) only[Ty.w,simprocAttr])|(refine hK _ _ ?_;clear hK;try simp only[pst0,simprocAttr]))
     refine owp_useQ (hn1 _) (by(try simp only[Ty.w,simprocAttr,Bool.not_true,Bool.not_false]);try rfl) ?_;simp(maxSteps:=2000000) only[Ty.w,simprocAttr,Bool.not_true,Bool.not_false]
     skip
     refine owp_useQ (hn2 _) (by(try simp only[Ty.w,simprocAttr,Bool.not_true,Bool.not_false]);try rfl) ?_;simp(maxSteps:=2000000) only[Ty.w,simprocAttr,Bool.not_true,Bool.not_false]
     skip
     refine owp_useQ (hps _) (by(try simp only[Ty.w,simprocAttr,Bool.not_true,Bool.not_false]);try rfl) ?_;simp(maxSteps:=2000000) only[Ty.w,simprocAttr,Bool.not_true,Bool.not_false]
     skip
     refine owp_useQ (hsh _) (by(try simp only[Ty.w,simprocAttr,Bool.not_true,Bool.not_false]);try rfl) ?_;simp(maxSteps:=2000000) only[Ty.w,simprocAttr,Bool.not_true,Bool.not_false]
     repeat'(first|refine a_seq fun K hK=>?_|(refine a_block ?_)|(refine a_regionS ?_;simp(maxSteps:=2000000) only[Ty.w,simprocAttr,Bool.not_true,Bool.not_false,nsucc])|(refine a_skip ?_;try simp only[pst0,simprocAttr])|(refine a_cond _ (by(try simp(maxSteps:=2000000) only[Ty.w,simprocAttr,Bool.not_true,Bool.not_false,nsucc]);rfl) (fun hb=>?_) (fun hb=>?_)<;>(try simp only[hb0,decide_eq_true_eq,decide_eq_false_iff_not,simprocAttr]at hb)<;>(try(exfalso;omega)))|(refine hK _ _ ?_;clear hK;try simp only[pst0,simprocAttr]))
     refine a_loop (fun m S H=>S 1= .cptr [sPV name,sPV domain,.imm 2 (pmRows objects),.imm 2 (atRows init),.imm 3 (vlRows values),sPV gop,sPV gname,.imm 1 (strRows gargs),.imm 2 (pmRows gparams),.imm 5 (Ex.rows gexprs),.imm 6 (Fm.rows gkids)]∧S 2= .ptr h.next 0 0∧H=h.new (.arr 6 [sxZ])∧ ∃ k:Nat,S 4= .sc (.int .i64 k)∧k≤init.length∧m=init.length-k∧AI=(init.drop k).all rightA) init.length ?_ ?_
     ·simp only[Ty.w,simprocAttr]
      exact⟨0,rfl,Nat.zero_le _,rfl,by rw[List.drop_zero];exact hAI.symm⟩
     clear hn1 hn2 hps hsh hAI
     rintro m S H ⟨s1,s2,rfl,k,s4,hk,rfl,hinv⟩
     have o2:(h.new (.arr 6 [sxZ])).obj h.next=some (.arr 6 [sxZ]):=by simp only[Heap.new,if_true]
     by_cases hlt:k<init.length
     ·have hd:decide ((k:Int)<(init.length:Int))=true:=by simp;omega
      have w7:IntKind.i64.wrap ((k:Int)+1)=((k+1:Nat):Int):=by rw[wrap64 (by omega) (by omega)];omega
      obtain⟨x,hx⟩: ∃ x,init[k]? =some x:=⟨_,List.getElem?_eq_getElem hlt⟩
      have hr:=atRows_get hx
      have hc:=hgI x (List.mem_of_getElem? hx)
      rw[drop_of_get hx,List.all_cons]at hinv
      simp only[atRow]at hc
      cases q:rightA x with
      |false=>
       rw[q]at hc hinv
       simp only[Bool.false_and]at hinv
       repeat'(first|refine a_seq fun K hK=>?_|(refine a_regionS ?_;simp(maxSteps:=2000000) only[Ty.w,simprocAttr,s1,s2,s4,hlI,hd,hr])|(refine a_skip ?_;try simp only[pst0,simprocAttr])|(refine a_cond _ (by(try simp(maxSteps:=2000000) only[Ty.w,simprocAttr,s1,s2,s4,hlI,hd,hr]);rfl) (fun hb=>?_) (fun hb=>?_)<;>(try simp only[hb0,decide_eq_true_eq,decide_eq_false_iff_not,simprocAttr]at hb)<;>(try(exfalso;omega)))|(refine hK _ _ ?_;clear hK;try simp only[pst0,simprocAttr]))
       refine owp_useQ (hc _) (by(try simp only[Ty.w,simprocAttr,s1,s2,s4,hr,Bool.not_false]);try rfl) ?_;simp(maxSteps:=2000000) only[Ty.w,simprocAttr,s1,s2,s4,hr,Bool.not_false]
       repeat'(first|refine a_seq fun K hK=>?_|((first|refine a_regionS ?_|refine a_ret ?_);simp(maxSteps:=2000000) only[Ty.w,simprocAttr,s1,s2,s4,Bool.not_false])|(refine hK _ _ ?_;clear hK;try simp only[pst0,simprocAttr]))
       exact⟨bad _ (by rw[← hF,hinv];simp),(((Grow.refl h).new _).set (Nat.le_refl _) _)⟩
      |true=>
       rw[q]at hc hinv
       simp only[Bool.true_and]at hinv
       repeat'(first|refine a_seq fun K hK=>?_|(refine a_regionS ?_;simp(maxSteps:=2000000) only[Ty.w,simprocAttr,s1,s2,s4,hlI,hd,hr])|(refine a_skip ?_;try simp only[pst0,simprocAttr])|(refine a_cond _ (by(try simp(maxSteps:=2000000) only[Ty.w,simprocAttr,s1,s2,s4,hlI,hd,hr]);rfl) (fun hb=>?_) (fun hb=>?_)<;>(try simp only[hb0,decide_eq_true_eq,decide_eq_false_iff_not,simprocAttr]at hb)<;>(try(exfalso;omega)))|(refine hK _ _ ?_;clear hK;try simp only[pst0,simprocAttr]))
       refine owp_useQ (hc _) (by(try simp only[Ty.w,simprocAttr,s1,s2,s4,hr,Bool.not_true]);try rfl) ?_;simp(maxSteps:=2000000) only[Ty.w,simprocAttr,s1,s2,s4,hr,Bool.not_true]
       repeat'(first|(refine a_block ?_)|(refine a_regionS ?_;simp(maxSteps:=2000000) only[Ty.w,simprocAttr,s1,s2,s4,Bool.not_true,w7])|(refine a_skip ?_;try simp only[pst0,simprocAttr])|(refine hK _ _ ?_;clear hK;try simp only[pst0,simprocAttr]))
       exact⟨init.length-(k+1),by omega,k+1,rfl,by omega,rfl,hinv⟩
     have hd:decide ((k:Int)<(init.length:Int))=false:=by simp;omega
     rw[List.drop_eq_nil_of_le (by omega),List.all_nil]at hinv
     subst hinv
     simp only[Bool.true_and]at hF
     have hPr:=hPr rfl
     clear hgI
     repeat'(first|refine a_seq fun K hK=>?_|(refine a_block ?_)|(refine a_regionS ?_;simp(maxSteps:=2000000) only[Ty.w,simprocAttr,s1,s2,s4,hlI,hd])|(refine a_exit ?_;try simp only[pst0,simprocAttr])|(refine a_cond _ (by(try simp(maxSteps:=2000000) only[Ty.w,simprocAttr,s1,s2,s4,hlI,hd]);rfl) (fun hb=>?_) (fun hb=>?_)<;>(try simp only[hb0,decide_eq_true_eq,decide_eq_false_iff_not,simprocAttr]at hb)<;>(try(exfalso;omega)))|((first|refine hK _ _ ?_|(clear hK;refine hK _ _ ?_));clear hK;try simp only[pst0,simprocAttr]))
     refine a_loop (fun m S H=>S 1= .cptr [sPV name,sPV domain,.imm 2 (pmRows objects),.imm 2 (atRows init),.imm 3 (vlRows values),sPV gop,sPV gname,.imm 1 (strRows gargs),.imm 2 (pmRows gparams),.imm 5 (Ex.rows gexprs),.imm 6 (Fm.rows gkids)]∧S 2= .ptr h.next 0 0∧H=h.new (.arr 6 [sxZ])∧ ∃ k:Nat,S 5= .sc (.int .i64 k)∧k≤values.length∧m=values.length-k∧AV=(values.drop k).all vlB) values.length ?_ ?_
     ·simp only[Ty.w,simprocAttr,s1,s2]
      exact⟨0,rfl,Nat.zero_le _,rfl,by rw[List.drop_zero];exact hAV.symm⟩
     clear s1 s2 s4 hd hlt hk hAV S k
     rintro m S H ⟨s1,s2,rfl,k,s5,hk,rfl,hinv⟩
     by_cases hlt:k<values.length
     ·have hd:decide ((k:Int)<(values.length:Int))=true:=by simp;omega
      have w7:IntKind.i64.wrap ((k:Int)+1)=((k+1:Nat):Int):=by rw[wrap64 (by omega) (by omega)];omega
      obtain⟨x,hx⟩: ∃ x,values[k]? =some x:=⟨_,List.getElem?_eq_getElem hlt⟩
      have hr:=vlRows_get hx
      have hc:=hgV x (List.mem_of_getElem? hx)
      rw[drop_of_get hx,List.all_cons]at hinv
      have hvb:vlB x=(rightA x.at_&&inNum x.n):=rfl
      rw[hvb]at hinv
      simp only[atRow]at hc
      cases q:rightA x.at_ with
      |false=>
       rw[q]at hc hinv
       simp only[Bool.false_and]at hinv
       repeat'(first|refine a_seq fun K hK=>?_|(refine a_regionS ?_;simp(maxSteps:=2000000) only[Ty.w,simprocAttr,s1,s2,s5,hlV,hd,hr])|(refine a_skip ?_;try simp only[pst0,simprocAttr])|(refine a_cond _ (by(try simp(maxSteps:=2000000) only[Ty.w,simprocAttr,s1,s2,s5,hlV,hd,hr]);rfl) (fun hb=>?_) (fun hb=>?_)<;>(try simp only[hb0,decide_eq_true_eq,decide_eq_false_iff_not,simprocAttr]at hb)<;>(try(exfalso;omega)))|(refine hK _ _ ?_;clear hK;try simp only[pst0,simprocAttr]))
       refine owp_useQ (hc _) (by(try simp only[Ty.w,simprocAttr,s1,s2,s5,hr,Bool.not_false]);try rfl) ?_;simp(maxSteps:=2000000) only[Ty.w,simprocAttr,s1,s2,s5,hr,Bool.not_false]
       repeat'(first|refine a_seq fun K hK=>?_|((first|refine a_regionS ?_|refine a_ret ?_);simp(maxSteps:=2000000) only[Ty.w,simprocAttr,s1,s2,s5,Bool.not_false])|(refine hK _ _ ?_;clear hK;try simp only[pst0,simprocAttr]))
       exact⟨bad _ (by rw[← hF,hinv];simp),(((Grow.refl h).new _).set (Nat.le_refl _) _)⟩
      |true=>
       rw[q]at hc hinv
       simp only[Bool.true_and]at hinv
       cases q1:decide (x.n< -1099511627776)with
       |true=>
        have hin:inNum x.n=false:=by unfold inNum;simp at q1⊢;omega
        rw[hin,Bool.false_and]at hinv
        repeat'(first|refine a_seq fun K hK=>?_|(refine a_regionS ?_;simp(maxSteps:=2000000) only[Ty.w,simprocAttr,s1,s2,s5,hlV,hd,hr])|(refine a_skip ?_;try simp only[pst0,simprocAttr])|(refine a_cond _ (by(try simp(maxSteps:=2000000) only[Ty.w,simprocAttr,s1,s2,s5,hlV,hd,hr]);rfl) (fun hb=>?_) (fun hb=>?_)<;>(try simp only[hb0,decide_eq_true_eq,decide_eq_false_iff_not,simprocAttr]at hb)<;>(try(exfalso;omega)))|(refine hK _ _ ?_;clear hK;try simp only[pst0,simprocAttr]))
        refine owp_useQ (hc _) (by(try simp only[Ty.w,simprocAttr,s1,s2,s5,hr,Bool.not_true,q1]);try rfl) ?_;simp(maxSteps:=2000000) only[Ty.w,simprocAttr,s1,s2,s5,hr,Bool.not_true,q1]
        repeat'(first|refine a_seq fun K hK=>?_|((first|refine a_regionS ?_|refine a_ret ?_);simp(maxSteps:=2000000) only[Ty.w,simprocAttr,s1,s2,s5,hr,Bool.not_true,q1])|(refine hK _ _ ?_;clear hK;try simp only[pst0,simprocAttr]))
        exact⟨bad _ (by rw[← hF,hinv];simp),(((Grow.refl h).new _).set (Nat.le_refl _) _)⟩
       |false=>
        cases q2:decide (x.n>1099511627776)with
        |true=>
         have hin:inNum x.n=false:=by unfold inNum;simp at q2⊢;omega
         rw[hin,Bool.false_and]at hinv
         repeat'(first|refine a_seq fun K hK=>?_|(refine a_regionS ?_;simp(maxSteps:=2000000) only[Ty.w,simprocAttr,s1,s2,s5,hlV,hd,hr])|(refine a_skip ?_;try simp only[pst0,simprocAttr])|(refine a_cond _ (by(try simp(maxSteps:=2000000) only[Ty.w,simprocAttr,s1,s2,s5,hlV,hd,hr]);rfl) (fun hb=>?_) (fun hb=>?_)<;>(try simp only[hb0,decide_eq_true_eq,decide_eq_false_iff_not,simprocAttr]at hb)<;>(try(exfalso;omega)))|(refine hK _ _ ?_;clear hK;try simp only[pst0,simprocAttr]))
         refine owp_useQ (hc _) (by(try simp only[Ty.w,simprocAttr,s1,s2,s5,hr,Bool.not_true,q1,q2]);try rfl) ?_;simp(maxSteps:=2000000) only[Ty.w,simprocAttr,s1,s2,s5,hr,Bool.not_true,q1,q2]
         repeat'(first|refine a_seq fun K hK=>?_|((first|refine a_regionS ?_|refine a_ret ?_);simp(maxSteps:=2000000) only[Ty.w,simprocAttr,s1,s2,s5,hr,Bool.not_true,q1,q2])|(refine hK _ _ ?_;clear hK;try simp only[pst0,simprocAttr]))
         exact⟨bad _ (by rw[← hF,hinv];simp),(((Grow.refl h).new _).set (Nat.le_refl _) _)⟩
        |false=>
         have hin:inNum x.n=true:=by unfold inNum;simp at q1 q2⊢;omega
         rw[hin,Bool.true_and]at hinv
         repeat'(first|refine a_seq fun K hK=>?_|(refine a_regionS ?_;simp(maxSteps:=2000000) only[Ty.w,simprocAttr,s1,s2,s5,hlV,hd,hr])|(refine a_skip ?_;try simp only[pst0,simprocAttr])|(refine a_cond _ (by(try simp(maxSteps:=2000000) only[Ty.w,simprocAttr,s1,s2,s5,hlV,hd,hr]);rfl) (fun hb=>?_) (fun hb=>?_)<;>(try simp only[hb0,decide_eq_true_eq,decide_eq_false_iff_not,simprocAttr]at hb)<;>(try(exfalso;omega)))|(refine hK _ _ ?_;clear hK;try simp only[pst0,simprocAttr]))
         refine owp_useQ (hc _) (by(try simp only[Ty.w,simprocAttr,s1,s2,s5,hr,Bool.not_true,q1,q2]);try rfl) ?_;simp(maxSteps:=2000000) only[Ty.w,simprocAttr,s1,s2,s5,hr,Bool.not_true,q1,q2]
         repeat'(first|(refine a_block ?_)|(refine a_regionS ?_;simp(maxSteps:=2000000) only[Ty.w,simprocAttr,s1,s2,s5,hr,Bool.not_true,q1,q2,w7])|(refine a_skip ?_;try simp only[pst0,simprocAttr])|(refine hK _ _ ?_;clear hK;try simp only[pst0,simprocAttr]))
         exact⟨values.length-(k+1),by omega,k+1,rfl,by omega,rfl,hinv⟩
     have hd:decide ((k:Int)<(values.length:Int))=false:=by simp;omega
     rw[List.drop_eq_nil_of_le (by omega),List.all_nil]at hinv
     subst hinv
     simp only[Bool.true_and]at hF
     have hPr:=hPr rfl
     clear hgV
     cases sv with
     |false=>
      repeat'(first|refine a_seq fun K hK=>?_|(refine a_regionS ?_;simp(maxSteps:=2000000) only[Ty.w,simprocAttr,s1,s2,s5,hlV,hd])|(refine a_exit ?_;try simp only[pst0,simprocAttr])|(refine a_cond _ (by(try simp(maxSteps:=2000000) only[Ty.w,simprocAttr,s1,s2,s5,hlV,hd]);rfl) (fun hb=>?_) (fun hb=>?_)<;>(try simp only[hb0,decide_eq_true_eq,decide_eq_false_iff_not,simprocAttr]at hb)<;>(try(exfalso;omega)))|((first|refine hK _ _ ?_|(clear hK;refine hK _ _ ?_));clear hK;try simp only[pst0,simprocAttr]))
      refine owp_useQ (hPr _) (by(try simp only[Ty.w,simprocAttr,s1,s2]);try rfl) ?_;simp(maxSteps:=2000000) only[Ty.w,simprocAttr,s1,s2]
      skip
      refine owp_useQ (hVl _) (by(try simp only[Ty.w,simprocAttr,s1,s2,Bool.not_false]);try rfl) ?_;simp(maxSteps:=2000000) only[Ty.w,simprocAttr,s1,s2,Bool.not_false]
      repeat'(first|refine a_seq fun K hK=>?_|((first|refine a_regionS ?_|refine a_ret ?_);simp(maxSteps:=2000000) only[Ty.w,simprocAttr,s1,s2,Bool.not_false])|(refine hK _ _ ?_;clear hK;try simp only[pst0,simprocAttr]))
      exact⟨bad _ hF.symm,(((Grow.refl h).new _).set (Nat.le_refl _) _)⟩
     |true=>
      subst hF
      simp only[if_true]
      repeat'(first|refine a_seq fun K hK=>?_|(refine a_regionS ?_;simp(maxSteps:=2000000) only[Ty.w,simprocAttr,s1,s2,s5,hlV,hd])|(refine a_exit ?_;try simp only[pst0,simprocAttr])|(refine a_cond _ (by(try simp(maxSteps:=2000000) only[Ty.w,simprocAttr,s1,s2,s5,hlV,hd]);rfl) (fun hb=>?_) (fun hb=>?_)<;>(try simp only[hb0,decide_eq_true_eq,decide_eq_false_iff_not,simprocAttr]at hb)<;>(try(exfalso;omega)))|((first|refine hK _ _ ?_|(clear hK;refine hK _ _ ?_));clear hK;try simp only[pst0,simprocAttr]))
      refine owp_useQ (hPr _) (by(try simp only[Ty.w,simprocAttr,s1,s2]);try rfl) ?_;simp(maxSteps:=2000000) only[Ty.w,simprocAttr,s1,s2]
      skip
      refine owp_useQ (hVl _) (by(try simp only[Ty.w,simprocAttr,s1,s2,Bool.not_true]);try rfl) ?_;simp(maxSteps:=2000000) only[Ty.w,simprocAttr,s1,s2,Bool.not_true]
      repeat'(first|refine a_seq fun K hK=>?_|(refine a_regionS ?_;simp(maxSteps:=2000000) only[Ty.w,simprocAttr,s1,s2,Bool.not_true])|(refine a_skip ?_;try simp only[pst0,simprocAttr])|(refine a_cond _ (by(try simp(maxSteps:=2000000) only[Ty.w,simprocAttr,s1,s2,Bool.not_true]);rfl) (fun hb=>?_) (fun hb=>?_)<;>(try simp only[hb0,decide_eq_true_eq,decide_eq_false_iff_not,simprocAttr]at hb)<;>(try(exfalso;omega)))|(refine hK _ _ ?_;clear hK;try simp only[pst0,simprocAttr]))
      refine owp_useQ (hPr _) (by(try simp only[Ty.w,simprocAttr,s1,s2,o2]);try rfl) ?_;simp(maxSteps:=2000000) only[Ty.w,simprocAttr,s1,s2,o2]
      repeat'(first|(refine a_ret ?_;simp(maxSteps:=2000000) only[Ty.w,simprocAttr,s1,s2,o2])|(refine hK _ _ ?_;clear hK;try simp only[pst0,simprocAttr]))
      refine⟨?_,(((Grow.refl h).new _).set (Nat.le_refl _) _)⟩
      simp only[FrzTo,FrzL]
      exact⟨_,rfl,⟨_,rfl,hfz _ _⟩,rfl,trivial⟩
theorem problemWrites_c{p:Pb}(hok:p.ok)(hb:PV.bulkL p.cells≤1048576):
  PCall Tryz.prog 3 [.agg p.cells] Heap.nil fun r _=>r= .sc (.bool true):=by
 have hsm:=pb_small hb
 have hL:=plarge_c p (okS_of hok)
 have hW:=fun h:Heap=>pWrite_c hok hsm h
 have hR:=fun h:Heap=>q10Write_c hok hb h
 generalize largeP p=big at hL
 cases big with
 |true=>
  clear hW hR hok hsm hb
  obtain⟨name,domain,objects,init,values,⟨gop,gname,gargs,gparams,gexprs,gkids⟩⟩:=p
  simp only[Pb.cells,Fm.cells,List.cons_append,List.nil_append]at hL⊢
  refine pcall_body (ow:=fun _=>false) (wf:=fun _=>false) Ty.mixed Tryz.func3 rfl Ty.hb_3 (by rw[Tryz.ntmps3];simp) ?_
  rw[Tryz.ntmps3,Tryz.results3]
  repeat'(first|refine a_seq fun K hK=>?_|(refine a_regionS ?_;simp(maxSteps:=2000000) only[Ty.w,simprocAttr])|(refine hK _ _ ?_;clear hK;try simp only[pst0,simprocAttr]))
  refine owp_useQ (hL _) (by(try simp only[Ty.w,simprocAttr,]);try rfl) ?_;simp(maxSteps:=2000000) only[Ty.w,simprocAttr,]
  repeat'(first|refine a_seq fun K hK=>?_|(refine a_regionS ?_;simp(maxSteps:=2000000) only[Ty.w,simprocAttr])|(refine hK _ _ ?_;clear hK;try simp only[pst0,simprocAttr]))
  refine owp_useQ (pbAwake_c) (by(try simp only[Ty.w,simprocAttr,]);try rfl) ?_;simp(maxSteps:=2000000) only[Ty.w,simprocAttr,]
  repeat'(first|(refine a_ret ?_;simp(maxSteps:=2000000) only[Ty.w,simprocAttr])|(refine hK _ _ ?_;clear hK;try simp only[pst0,simprocAttr]))
 |false=>
  cases hw:writeB p with
  |false=>
   simp only[hw,Bool.false_eq_true,if_false]at hW hR
   have hS:=fun h:Heap=>dsame_c zeroSx (by simp only[zeroSx,Sx.ok,Sx.oks,List.length_nil];exact⟨by omega,by omega,by simp[bigN,ByteArray.size],by simp,trivial⟩) h
   have e0:posX zeroSx=true:=rfl
   rw[e0]at hS
   have hS2: ∀ h:Heap,PCall Tryz.prog 11 [.agg [.sc (.int .i64 0),.sc (.int .i64 0),.sc (.int .i64 0),.sc (.int .i64 0),sPV ⟨#[]⟩,.imm 6 []],.agg [.sc (.int .i64 0),.sc (.int .i64 0),.sc (.int .i64 0),.sc (.int .i64 0),sPV ⟨#[]⟩,.sc (.slice none 0 0)]] h fun r h'=>r= .sc (.bool true)∧h'=h:=fun h=>PCall.nz (hS h) (nz_cons (Nz.refl _) (nz_cons (nz_agg (nz_cons (Nz.refl _) (nz_cons (Nz.refl _) (nz_cons (Nz.refl _) (nz_cons (Nz.refl _) (nz_cons (Nz.refl _) (nz_cons nz_nil (NzL.refl [])))))))) (NzL.refl [])))
   have hI:=fun h:Heap=>fis_c (h:=h) (n:=2) (m:=2)
   clear hok hsm hb hw hS
   obtain⟨name,domain,objects,init,values,⟨gop,gname,gargs,gparams,gexprs,gkids⟩⟩:=p
   simp only[Pb.cells,Fm.cells,List.cons_append,List.nil_append,zeroSx,Sx.cells,Sx.rows,errV]at hL hW hR hI⊢
   refine pcall_body (ow:=fun _=>false) (wf:=fun _=>false) Ty.mixed Tryz.func3 rfl Ty.hb_3 (by rw[Tryz.ntmps3];simp) ?_
   rw[Tryz.ntmps3,Tryz.results3]
   repeat'(first|refine a_seq fun K hK=>?_|(refine a_regionS ?_;simp(maxSteps:=2000000) only[Ty.w,simprocAttr])|(refine hK _ _ ?_;clear hK;try simp only[pst0,simprocAttr]))
   refine owp_useQ (hL _) (by(try simp only[Ty.w,simprocAttr,]);try rfl) ?_;simp(maxSteps:=2000000) only[Ty.w,simprocAttr,]
   skip
   refine owp_useQ (pbAwake_c) (by(try simp only[Ty.w,simprocAttr,Bool.not_true]);try rfl) ?_;simp(maxSteps:=2000000) only[Ty.w,simprocAttr,Bool.not_true]
   repeat'(first|refine a_seq fun K hK=>?_|(refine a_regionS ?_;simp(maxSteps:=2000000) only[Ty.w,simprocAttr,Bool.not_true])|(refine a_skip ?_;try simp only[pst0,simprocAttr])|(refine a_cond _ (by(try simp(maxSteps:=2000000) only[Ty.w,simprocAttr,Bool.not_true]);rfl) (fun hb=>?_) (fun hb=>?_)<;>(try simp only[hb0,decide_eq_true_eq,decide_eq_false_iff_not,simprocAttr]at hb)<;>(try(exfalso;omega)))|(refine hK _ _ ?_;clear hK;try simp only[pst0,simprocAttr]))
   refine owp_useQ (hW _) (by(try simp only[Ty.w,simprocAttr,]);try rfl) ?_;simp(maxSteps:=2000000) only[Ty.w,simprocAttr,]
   repeat'(first|refine a_seq fun K hK=>?_|(refine a_regionS ?_;simp(maxSteps:=2000000) only[Ty.w,simprocAttr])|(refine hK _ _ ?_;clear hK;try simp only[pst0,simprocAttr]))
   refine owp_useQ (hR _) (by(try simp only[Ty.w,simprocAttr,]);try rfl) ?_;simp(maxSteps:=2000000) only[Ty.w,simprocAttr,]
   repeat'(first|refine a_seq fun K hK=>?_|(refine a_regionS ?_;simp(maxSteps:=2000000) only[Ty.w,simprocAttr,nsucc,Bool.not_false])|(refine hK _ _ ?_;clear hK;try simp only[pst0,simprocAttr]))
   refine owp_useQ (hS2 _) (by(try simp only[Ty.w,simprocAttr,nsucc]);try rfl) ?_;simp(maxSteps:=2000000) only[Ty.w,simprocAttr,nsucc]
   skip
   refine owp_useQ (hI _) (by(try simp only[Ty.w,simprocAttr,nsucc]);try rfl) ?_;simp(maxSteps:=2000000) only[Ty.w,simprocAttr,nsucc]
   repeat'(first|(refine a_ret ?_;simp(maxSteps:=2000000) only[Ty.w,simprocAttr,nsucc])|(refine hK _ _ ?_;clear hK;try simp only[pst0,simprocAttr]))
  |true=>
   simp only[hw,if_true]at hW hR
   have hS:=dsame_c (pbW p) (pbW_ok hok hsm (writeB_goal hw))
   rw[pbW_pos]at hS
   generalize pbW p=X at hW hR hS
   clear hok hsm hb hw
   obtain⟨name,domain,objects,init,values,⟨gop,gname,gargs,gparams,gexprs,gkids⟩⟩:=p
   obtain⟨xk,xv,xl,xc,xt,xs⟩:=X
   simp only[Pb.cells,Fm.cells,List.cons_append,List.nil_append,Sx.cells]at hL hW hR hS⊢
   refine pcall_body (ow:=fun _=>false) (wf:=fun _=>false) Ty.mixed Tryz.func3 rfl Ty.hb_3 (by rw[Tryz.ntmps3];simp) ?_
   rw[Tryz.ntmps3,Tryz.results3]
   repeat'(first|refine a_seq fun K hK=>?_|(refine a_regionS ?_;simp(maxSteps:=2000000) only[Ty.w,simprocAttr])|(refine hK _ _ ?_;clear hK;try simp only[pst0,simprocAttr]))
   refine owp_useQ (hL _) (by(try simp only[Ty.w,simprocAttr,]);try rfl) ?_;simp(maxSteps:=2000000) only[Ty.w,simprocAttr,]
   skip
   refine owp_useQ (pbAwake_c) (by(try simp only[Ty.w,simprocAttr,Bool.not_true]);try rfl) ?_;simp(maxSteps:=2000000) only[Ty.w,simprocAttr,Bool.not_true]
   repeat'(first|refine a_seq fun K hK=>?_|(refine a_regionS ?_;simp(maxSteps:=2000000) only[Ty.w,simprocAttr,Bool.not_true])|(refine a_skip ?_;try simp only[pst0,simprocAttr])|(refine a_cond _ (by(try simp(maxSteps:=2000000) only[Ty.w,simprocAttr,Bool.not_true]);rfl) (fun hb=>?_) (fun hb=>?_)<;>(try simp only[hb0,decide_eq_true_eq,decide_eq_false_iff_not,simprocAttr]at hb)<;>(try(exfalso;omega)))|(refine hK _ _ ?_;clear hK;try simp only[pst0,simprocAttr]))
   refine owp_useQ (hW _) (by(try simp only[Ty.w,simprocAttr,]);try rfl) ?_;simp(maxSteps:=2000000) only[Ty.w,simprocAttr,]
   repeat'(first|refine a_seq fun K hK=>?_|(refine a_regionS ?_;simp(maxSteps:=2000000) only[Ty.w,simprocAttr])|(refine hK _ _ ?_;clear hK;try simp only[pst0,simprocAttr]))
   refine owp_useQ (hR _) (by(try simp only[Ty.w,simprocAttr,]);try rfl) ?_;simp(maxSteps:=2000000) only[Ty.w,simprocAttr,]
   repeat'(first|refine a_seq fun K hK=>?_|(refine a_regionS ?_;simp(maxSteps:=2000000) only[Ty.w,simprocAttr,nsucc,Bool.not_true])|(refine a_skip ?_;try simp only[pst0,simprocAttr])|(refine a_cond _ (by(try simp(maxSteps:=2000000) only[Ty.w,simprocAttr,nsucc,Bool.not_true]);rfl) (fun hb=>?_) (fun hb=>?_)<;>(try simp only[hb0,decide_eq_true_eq,decide_eq_false_iff_not,simprocAttr]at hb)<;>(try(exfalso;omega)))|(refine hK _ _ ?_;clear hK;try simp only[pst0,simprocAttr]))
   refine owp_useQ (hS _) (by(try simp only[Ty.w,simprocAttr,nsucc]);try rfl) ?_;simp(maxSteps:=2000000) only[Ty.w,simprocAttr,nsucc]
   repeat'(first|(refine a_ret ?_;simp(maxSteps:=2000000) only[Ty.w,simprocAttr,nsucc])|(refine hK _ _ ?_;clear hK;try simp only[pst0,simprocAttr]))
end Go.Proofs.YtjeolbgpllbemaaGreat
