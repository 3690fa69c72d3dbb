/- What the claim rests on, part 7: the abstract machine, contracts of the functions, plain data. -/
import Derived.Test.YtjeolbgpllbemaaGreatRows
import Derived.Test.YtjeolbgpllbemaaGreatZp6
set_option linter.unusedVariables false
set_option linter.unusedSimpArgs false
set_option linter.unusedSectionVars false
namespace Go.AM
open Go.ChangeShapes Go.WideShapes
open Go.Proofs.YtjeolbgpllbemaaGreat
mutual
def PV.bulk:PV→Nat
 | .sc (.string s)=>s.size+1
 | .imm _ rows=>PV.bulkR rows+1
 |_=>1
def PV.bulkL:List PV→Nat
 |[]=>0
 |p::ps=>p.bulk+PV.bulkL ps
def PV.bulkR:List (List PV)→Nat
 |[]=>0
 |r::rs=>PV.bulkL r+PV.bulkR rs
end
theorem PV.bulkL_append: ∀ l m:List PV,PV.bulkL (l++m)=PV.bulkL l+PV.bulkL m
 |[],m=>by simp[PV.bulkL]
 |p::l,m=>by simp only[List.cons_append,PV.bulkL,PV.bulkL_append l m];omega
theorem List.getElem?_range_some{k i j:Nat}(h:(List.range k)[i]? =some j):i<k∧i=j:=by
 have h1:=(List.getElem?_eq_some_iff.1 h).1
 simp at h1
 rw[List.getElem?_range h1]at h
 simp at h
 exact⟨h1,h⟩
section
variable {H:Type}{enc:TypeId × Value→H}{P:Program}{w:World}{sp:Nat→Bool}{held:Bool}
theorem bulkR_le: ∀ (rows:List (List PV))(ds:List (DataW H)),rows.length=ds.length→(∀ (i:Nat)(r:List PV),rows[i]? =some r→ ∃ d,ds[i]? =some d∧PV.bulkL r≤Rows.uptoBulk d)→PV.bulkR rows≤Rows.uptoBulkAll ds
 |[],_,_,_=>by simp[PV.bulkR]
 |r::rows,[],h,_=>by simp at h
 |r::rows,d::ds,h,hb=>by
  have h1:=bulkR_le rows ds (by simpa using h) fun i q hq=>by simpa using hb (i+1) q (by simpa using hq)
  obtain⟨d',h2,h3⟩:=hb 0 r rfl
  simp at h2;subst h2
  simp only[PV.bulkR,Rows.uptoBulkAll];omega
theorem parts_rep5{c:Nat}{cs:List Value}:(l:List (Nat × TypeId))→(ds:List (DataW H))→(o:Nat)→inRow P cs.length o l=true→
  (∀ (i:Nat)(p:Nat × TypeId),l[i]? =some p→ ∃ d,ds[i]? =some d∧ ∃ ps,Arg P c p.2 ps∧RA w ps ((cs.drop p.1).take (P.cellsOf p.2))∧PV.bulkL ps≤Rows.uptoBulk d)→
  ∃ ps,RA w ps (cs.drop o)∧(∀ p∈l,Arg P c p.2 ((ps.drop (p.1-o)).take (P.cellsOf p.2)))∧PV.bulkL ps≤Rows.uptoBulkAll ds
 |[],ds,o,h,_=>by
  simp[inRow]at h
  refine⟨[],⟨?_,fun β n=>?_⟩,by simp,by simp[PV.bulkL]⟩
  ·rw [List.drop_of_length_le (by omega)];simp
  ·rw [List.drop_of_length_le (by omega)];simp[RepL]
 |p::l,[],o,h,hp=>by
  obtain⟨d,hd,_⟩:=hp 0 p rfl
  simp at hd
 |p::l,d::ds,o,h,hp=>by
  have hle:=(inRow_le (p::l) o h).2 p (by simp)
  simp only[inRow,Bool.and_eq_true,beq_iff_eq]at h
  obtain⟨ps,h1,h2,h20⟩:=parts_rep5 l ds _ h.2 (fun i q hq=>by simpa using hp (i+1) q (by simpa using hq))
  obtain⟨d',hd,ps0,h3,h4,h40⟩:=hp 0 p rfl
  simp at hd;subst hd
  have hl2:=(inRow_le l _ h.2).2
  have e0:p.1=o:=h.1
  have l0:ps0.length=P.cellsOf p.2:=by rw[h4.len,List.length_take,List.length_drop];omega
  refine⟨ps0++ps,?_,fun q hq=>?_,by rw[PV.bulkL_append];simp only[Rows.uptoBulkAll];omega⟩
  ·have:cs.drop o=(cs.drop p.1).take (P.cellsOf p.2)++cs.drop (o+P.cellsOf p.2):=by
    rw[e0, ← List.drop_drop,List.take_append_drop]
   rw[this]
   exact h4.append h1
  ·rcases List.mem_cons.1 hq with rfl|hq
   ·rw [e0,Nat.sub_self,List.drop_zero,List.take_append_of_le_length (by omega),List.take_of_length_le (by omega)]
    exact h3
   ·have h5:=hl2 q hq
    have:q.1-o=ps0.length+(q.1-(o+P.cellsOf p.2)):=by omega
    rw[this, ← List.drop_drop,List.drop_left]
    exact h2 q hq
theorem arg_rec5{Ts:List TypeId}(hT:covC P Ts=true): ∀ (fuel:Nat)(t:TypeId),Ts.contains t=true→ ∀ (cs:List Value)(x:DataW H × List MemPlace),DataW.trod enc P w 0 sp held fuel t cs=some x→(∀ n∈x.1.weights P t,n≤reachBytes)→
  ∃ ps,Arg P fuel t ps∧RA w ps cs∧PV.bulkL ps≤Rows.uptoBulk x.1
 |0,_,_,_,_,hx,_=>by simp[DataW.trod]at hx
 |c+1,t,ht,cs,x,hx,hw=>by
  have h:=List.all_eq_true.1 hT t (by simpa using ht)
  split at h
  ·rename_i hu
   obtain⟨b,rfl,rfl⟩:=DataW.trod_bool hu hx
   refine⟨[.sc (.bool b)],?_,sc_RA rfl,by simp[PV.bulkL,PV.bulk,Rows.uptoBulk]⟩
   unfold Arg;rw[hu];exact⟨b,rfl⟩
  ·rename_i k hu
   obtain⟨n,rfl,rfl,hwf⟩:=DataW.trod_int hu hx
   refine⟨[.sc (.int k n)],?_,sc_RA rfl,by simp[PV.bulkL,PV.bulk,Rows.uptoBulk]⟩
   unfold Arg;rw[hu];exact⟨n,hwf,rfl⟩
  ·rename_i hu
   obtain⟨s,rfl,rfl,hs⟩:=DataW.trod_string hu hx
   refine⟨[.sc (.string s)],?_,sc_RA rfl,by have e:s.data.toList.length=s.size:=by{rw[Array.length_toList];try rfl};simp only[PV.bulkL,PV.bulk,Rows.uptoBulk];omega⟩
   unfold Arg;rw[hu]
   refine⟨s,?_,rfl⟩
   have:=hw s.data.toList.length (by simp[DataW.weights])
   simpa using this
  ·rename_i e hu
   simp only[Bool.and_eq_true,decide_eq_true_eq]at h
   obtain⟨hpos,hcov⟩:=h
   rcases DataW.trod_slice hu hx with⟨rfl,rfl⟩|⟨a,len,cap,elems,rest,n,hfu,rfl,rfl,hb,hl,hm,hlen,hel,hsp,hns⟩
   ·refine ⟨[.imm (P.cellsOf e) []],?_,⟨fun v hv=>?_,fun β n=>?_⟩,by simp[PV.bulkL,PV.bulk,PV.bulkR,Rows.uptoBulk]⟩
    ·unfold Arg;rw[hu];exact⟨[],rfl,by simp,by simp,by simp⟩
    ·simp at hv;subst hv;rfl
    ·simp only[RepL,Rep]
     exact⟨⟨none,0,rfl,Nat.le_refl _,Nat.zero_le _,.inl (by trivial)⟩,trivial⟩
   ·obtain rfl:c=n:=by omega
    have each: ∀ i,i<len→ ∃ r:List PV,(r.length=P.cellsOf e∧Arg P c e r∧ ∃ d,(elems.map (·.1))[i]? =some d∧PV.bulkL r≤Rows.uptoBulk d)∧ ∃ ci,RA w r ci∧ci.length=P.cellsOf e∧ ∀ j,j<P.cellsOf e→w.cell? ((a.add (i*P.cellsOf e)).add j)=ci[j]?:=by
     intro i hi
     have h1:=hel i hi
     have h2:elems[i]? =some (elems[i]'(by omega)):=List.getElem?_eq_getElem _
     rw[h2,Option.bind_eq_some_iff]at h1
     obtain⟨ci,h3,h4⟩:=h1
     obtain⟨_,h5,h6⟩:=World.cells?_some h3
     obtain⟨r,h7,h8,h80⟩:=arg_rec5 hT c e hcov ci _ h4 (fun m hm=>hw m (by
      simp only[DataW.weights,hu,List.mem_cons,List.mem_append]
      exact .inr (.inl (weightsAll_mem (i:=i) (by rw[List.getElem?_map,h2];try rfl) hm))))
     exact⟨r,⟨by rw[h8.len,h5],h7,_,by rw[List.getElem?_map,h2];try rfl,h80⟩,ci,h8,h5,h6⟩
    obtain⟨rows,hrl,hrows⟩:=exists_list len each
    refine⟨[.imm (P.cellsOf e) rows],?_,⟨fun v hv=>?_,fun β m=>?_⟩,?_⟩
    ·unfold Arg;rw[hu]
     refine⟨rows,rfl,?_,by omega,fun r hr=>?_⟩
     ·have:=hw ((elems.map (·.1)).length*P.bytesOf e+(rest.map (·.1)).length*P.bytesOf e) (by
       simp only[DataW.weights,hu,List.mem_cons,Nat.add_mul,true_or])
      have h9:rows.length=(elems.map (·.1)).length:=by simp[hrl,hlen]
      rw[h9]
      exact Nat.le_trans (Nat.le_add_right _ _) this
     ·obtain ⟨i,hi⟩:=List.getElem?_of_mem hr
      exact⟨(hrows i r hi).1.1,(hrows i r hi).1.2.1⟩
    ·simp at hv;subst hv;rfl
    ·simp only[RepL,Rep]
     refine⟨⟨some a,cap,by rw[hrl],by omega,hm,?_⟩,trivial⟩
     by_cases h0:len=0
     ·left;exact List.length_eq_zero_iff.1 (by omega)
     ·right
      obtain⟨_,_,c0,_,hc0,hcell0⟩:=each 0 (by omega)
      have h10:=hcell0 0 hpos
      rw[List.getElem?_eq_getElem (by omega)]at h10
      simp only[Nat.zero_mul,Addr.add,if_true]at h10
      have hs:a.spot=none:=by
       unfold World.cell? at h10
       split at h10
       ·split at h10
        ·simp at h10
        ·rename_i hsp;simpa using hsp
       ·simp at h10
      have hblk:a.block<w.heap.size:=by
       unfold World.cell? at h10
       split at h10
       ·rename_i hh;exact(Array.getElem?_eq_some_iff.1 hh).1
       ·simp at h10
      refine⟨a.block,a.off,hblk,by cases a;simp only at hs;subst hs;rfl,?_⟩
      rw[RepR_iff]
      intro i r hr
      obtain⟨⟨g1,_⟩,ci,g2,g3,g4⟩:=hrows i r hr
      refine⟨g1,?_⟩
      rw[RepS_iff]
      intro j p hp
      obtain⟨v,hv,hrep⟩:=(g2.2 β m).get hp
      have hj:j<P.cellsOf e:=by rw[← g3];exact(List.getElem?_eq_some_iff.1 hv).1
      refine⟨v,?_,g2.1 v (List.mem_of_getElem? hv),hrep⟩
      rw[← hv, ← g4 j hj]
      congr 1
      cases a
      simp only at hs;subst hs
      simp only[Addr.add]
      split<;>split<;>simp_all<;>omega
    ·have hb5:=bulkR_le rows (elems.map (·.1)) (by simp[hrl,hlen]) fun i r hr=>(hrows i r hr).1.2.2
     simp only[PV.bulkL,PV.bulk,Rows.uptoBulk]
     omega
  ·rename_i fs hu
   simp only[Bool.and_eq_true,List.all_eq_true]at h
   obtain⟨xs,n,hfu,rfl,hcl,hxl,hp⟩:=DataW.trod_struct hu hx
   obtain rfl:c=n:=by omega
   have hpt:partsT P t=fs.toList.map fun f=>(f.offset,f.type):=by unfold partsT;rw[hu]
   obtain⟨ps,h1,h2,h30⟩:=parts_rep5 (w:=w) (c:=c) (cs:=cs) (partsT P t) (xs.map (·.1)) 0 (by rw[hcl];exact h.1) (fun i p hi=>by
    have hcv:=h.2 p (List.mem_of_getElem? hi)
    rw[hpt]at hi
    rw[List.getElem?_map,Option.map_eq_some_iff]at hi
    obtain⟨f,hf,rfl⟩:=hi
    have hf':fs[i]? =some f:=by simpa using hf
    have hi':i<xs.length:=by
     rw[hxl]
     exact(Array.getElem?_eq_some_iff.1 hf').1
    have h3:=hp i f hf'
    rw[List.getElem?_eq_getElem hi']at h3
    exact⟨xs[i].1,by rw[List.getElem?_map,List.getElem?_eq_getElem hi'];try rfl,arg_rec5 hT c f.type hcv _ _ h3 (fun m hm=>hw m (by
     simp only[DataW.weights,hu]
     exact DataW.weights_mem_each (j:=i) (t:=f.type) (d:=xs[i].1) (by rw[List.getElem?_map,hf];try rfl) (by rw[List.getElem?_map,List.getElem?_eq_getElem hi'];try rfl) m hm))⟩)
   refine⟨ps,?_,by simpa using h1,by simp only[Rows.uptoBulk];omega⟩
   unfold Arg;rw[hu]
   exact⟨by rw[h1.len,List.drop_zero,hcl],fun p hpm=>by simpa using h2 p hpm⟩
  ·rename_i k e hu
   simp only[Bool.and_eq_true,List.all_eq_true]at h
   obtain⟨xs,n,hfu,rfl,hcl,hxl,hp⟩:=DataW.trod_array hu hx
   obtain rfl:c=n:=by omega
   have hpt:partsT P t=(List.range k).map fun i=>(i*P.cellsOf e,e):=by unfold partsT;rw[hu]
   obtain⟨ps,h1,h2,h30⟩:=parts_rep5 (w:=w) (c:=c) (cs:=cs) (partsT P t) (xs.map (·.1)) 0 (by rw[hcl];exact h.1) (fun i p hi=>by
    have hcv:=h.2 p (List.mem_of_getElem? hi)
    rw[hpt,List.getElem?_map,Option.map_eq_some_iff]at hi
    obtain⟨j,hj,rfl⟩:=hi
    obtain⟨hjk,rfl⟩:=List.getElem?_range_some hj
    have hi':i<xs.length:=by rw[hxl];exact hjk
    have h3:=hp i hjk
    rw[List.getElem?_eq_getElem hi']at h3
    exact⟨xs[i].1,by rw[List.getElem?_map,List.getElem?_eq_getElem hi'];try rfl,arg_rec5 hT c e hcv _ _ h3 (fun m hm=>hw m (by
     simp only[DataW.weights,hu]
     exact weightsAll_mem (i:=i) (d:=xs[i].1) (by rw[List.getElem?_map,List.getElem?_eq_getElem hi'];try rfl) hm))⟩)
   refine⟨ps,?_,by simpa using h1,by simp only[Rows.uptoBulk];omega⟩
   unfold Arg;rw[hu]
   exact⟨by rw[h1.len,List.drop_zero,hcl],fun p hpm=>by simpa using h2 p hpm⟩
  ·simp at h
theorem arg_value5{Ts:List TypeId}(hT:covC P Ts=true){t:TypeId}(ht:Ts.contains t=true){fs:Array Field}(hu:P.underlying t=some (.struct fs)){v:Value}{d:DataW H}{pl:List MemPlace}
  (h:DataW.Trod enc P w 0 sp held t v d pl)(hv: ∃ base,Value.okWide P w .any base t v)(hw: ∀ n∈d.weights P t,n≤reachBytes):
  ∃ c ps,Arg P c t ps∧(∀ β n,Rep β n (fun b=>b<w.heap.size) w (.agg ps) v)∧PV.bulkL ps≤Rows.uptoBulk d:=by
 obtain⟨fuel,hf⟩:=h
 obtain⟨ps,h1,h2,h3⟩:=arg_rec5 hT fuel t ht _ _ hf hw
 obtain⟨base,hv⟩:=hv
 unfold Value.okWide at hv
 simp only[hu]at hv
 obtain⟨cs,rfl,_⟩:=hv
 refine⟨fuel,ps,h1,fun β n=>?_,h3⟩
 simp only[Rep]
 exact⟨cs.toList,by simp,h2.1,h2.2 β n⟩
end
end Go.AM
namespace Go.AM
theorem bulkR_strs: ∀ l:List ByteArray,l.length≤PV.bulkR (strRows l)
 |[]=>by simp
 |s::l=>by
  have:=bulkR_strs l
  simp only[strRows,List.map_cons,PV.bulkR,PV.bulkL,PV.bulk,List.length_cons]at this⊢
  omega
mutual
theorem Ex.small_bulk: ∀ (e:Ex),PV.bulkL e.cells≤1048576→e.small
 | .mk op name n args kids,h=>by
  simp only[Ex.cells,PV.bulkL,PV.bulk]at h
  simp only[Ex.small]
  have:=bulkR_strs args
  exact⟨by omega,Ex.smalls_bulk kids (by omega)⟩
theorem Ex.smalls_bulk: ∀ (l:List Ex),PV.bulkR (Ex.rows l)≤1048576→Ex.smalls l
 |[],_=>by simp[Ex.smalls]
 |k::ks,h=>by
  simp only[Ex.rows,PV.bulkR]at h
  simp only[Ex.smalls]
  exact⟨Ex.small_bulk k (by omega),Ex.smalls_bulk ks (by omega)⟩
end
mutual
theorem Sx.depth_nodes: ∀ (x:Sx),x.depth≤x.nodes
 | .mk kind _ _ _ _ kids=>by
  have:=Sx.depths_nodes kids 0
  simp only[Sx.depth,Sx.nodes]
  split<;>omega
theorem Sx.depths_nodes: ∀ (l:List Sx)(m:Nat),Sx.depths m l≤max m (Sx.nodess l)
 |[],m=>by simp[Sx.depths,Sx.nodess]
 |k::ks,m=>by
  have h1:=Sx.depth_nodes k
  have h2:=Sx.depths_nodes ks (max m k.depth)
  simp only[Sx.depths,Sx.nodess]
  omega
end
end Go.AM
namespace Go.Proofs.YtjeolbgpllbemaaGreat
open Go.AM
end Go.Proofs.YtjeolbgpllbemaaGreat
namespace Go.AM
theorem bulkR_pms: ∀ l:List Pm,2*l.length≤PV.bulkR (pmRows l)
 |[]=>by simp
 |s::l=>by
  have:=bulkR_pms l
  simp only[pmRows,pmRow,List.map_cons,PV.bulkR,PV.bulkL,PV.bulk,List.length_cons]at this⊢
  omega
theorem bulkR_fms: ∀ l:List Fm,l.length≤PV.bulkR (Fm.rows l)
 |[]=>by simp
 |s::l=>by
  have:=bulkR_fms l
  cases s
  simp only[Fm.rows,Fm.cells,PV.bulkR,PV.bulkL,PV.bulk,List.length_cons]at this⊢
  omega
mutual
theorem Fm.small_bulk: ∀ (f:Fm),PV.bulkL f.cells≤1048576→f.small
 | .mk op name args params exprs kids,h=>by
  simp only[Fm.cells,PV.bulkL,PV.bulk]at h
  simp only[Fm.small]
  have:=bulkR_strs args
  have:=bulkR_pms params
  have:=bulkR_fms kids
  exact⟨by omega,by omega,Ex.smalls_bulk exprs (by omega),by omega,Fm.smalls_bulk kids (by omega)⟩
theorem Fm.smalls_bulk: ∀ (l:List Fm),PV.bulkR (Fm.rows l)≤1048576→Fm.smalls l
 |[],_=>by simp[Fm.smalls]
 |k::ks,h=>by
  simp only[Fm.rows,PV.bulkR]at h
  simp only[Fm.smalls]
  exact⟨Fm.small_bulk k (by omega),Fm.smalls_bulk ks (by omega)⟩
end
end Go.AM
namespace Go.Proofs.YtjeolbgpllbemaaGreat
open Go.AM
end Go.Proofs.YtjeolbgpllbemaaGreat
namespace Go.Proofs.YtjeolbgpllbemaaGreat
open Go.AM
set_option maxHeartbeats 4000000
set_option maxRecDepth 20000
theorem arg_vlO{c:Nat}{ps:List PV}(h:Arg Tryz.prog c 61 ps): ∃ a:Vl,a.ok∧ps=vlRow a:=by
 cases c with
 |zero=>simp[Arg]at h
 |succ c=>
  obtain⟨h1,h2⟩:=Arg_struct Tryz.underlying61 h
  rw[coVl]at h1
  rw[partsVl]at h2
  match ps,h1,h2 with
  |[p0,p1,p2],_,h2=>
   have a0:=h2 (0,59) (by simp)
   have a1:=h2 (2,3) (by simp)
   simp only[coAt,co3,List.drop_zero,List.drop_succ_cons,List.take_succ_cons,List.take_zero]at a0 a1
   obtain⟨s,hs,e1⟩:=arg_at a0
   obtain⟨n,hn,e2⟩:=arg_i64 a1
   simp[atRow]at e1 e2
   exact⟨⟨s,n⟩,⟨hs,hn⟩,by simp[vlRow,e1,e2]⟩
theorem arg_vlsO{c:Nat}{ps:List PV}(h:Arg Tryz.prog c 24 ps): ∃ l:List Vl,(l.length≤bigN∧ ∀ a∈l,a.ok)∧ps=[.imm 3 (vlRows l)]:=by
 cases c with
 |zero=>simp[Arg]at h
 |succ c=>
  obtain⟨rows,rfl,h1,_,h2⟩:=Arg_slice Tryz.underlying24 h
  obtain⟨xs,rfl,h3⟩:=rows_map (Q:=Vl.ok) (f:=vlRow) rows (fun r hr=>arg_vlO (h2 r hr).2)
  refine⟨xs,⟨len_le (by simpa using h1) byVl,h3⟩,?_⟩
  rw[coVl];try rfl
theorem arg_pbO(c:Nat){ps:List PV}(h:Arg Tryz.prog c 31 ps): ∃ p:Pb,p.ok∧ps=p.cells:=by
 cases c with
 |zero=>simp[Arg]at h
 |succ c=>
  obtain⟨h1,h2⟩:=Arg_struct Tryz.underlying31 h
  rw[coPb]at h1
  rw[partsPb]at h2
  match ps,h1,h2 with
  |[p0,p1,p2,p3,p4,p5,p6,p7,p8,p9,p10],_,h2=>
   have a0:=h2 (0,9) (by simp)
   have a1:=h2 (1,9) (by simp)
   have a2:=h2 (2,22) (by simp)
   have a3:=h2 (3,23) (by simp)
   have a4:=h2 (4,24) (by simp)
   have a5:=h2 (5,29) (by simp)
   simp only[co9,co25,coAts,coVls,co29,List.drop_zero,List.drop_succ_cons,List.take_succ_cons,List.take_zero]at a0 a1 a2 a3 a4 a5
   obtain⟨name,hname,e0⟩:=arg_str a0
   obtain⟨domain,hdomain,e1⟩:=arg_str a1
   obtain⟨objects,hobjects,e2⟩:=arg_pms a2
   obtain⟨init,hinit,e3⟩:=arg_ats a3
   obtain⟨values,hvalues,e4⟩:=arg_vlsO a4
   obtain⟨goal,hgoal,e5⟩:=arg_fm _ a5
   simp at e0 e1 e2 e3 e4
   refine⟨⟨name,domain,objects,init,values,goal⟩,⟨hname,hdomain,hobjects,hinit,hvalues,hgoal⟩,?_⟩
   simp only[Pb.cells,e0,e1,e2,e3,e4,List.cons_append,List.nil_append]
   rw[← e5]
theorem bulkR_ats: ∀ l:List At,l.length≤PV.bulkR (atRows l)∧ ∀ a∈l,a.args.length≤PV.bulkR (atRows l)
 |[]=>by simp
 |a::l=>by
  have ih:=bulkR_ats l
  have hs:=bulkR_strs a.args
  have e:PV.bulkR (atRows (a::l))=PV.bulkL (atRow a)+PV.bulkR (atRows l):=rfl
  have e2:PV.bulkR (strRows a.args)+1≤PV.bulkL (atRow a):=by simp only[atRow,PV.bulkL,PV.bulk];omega
  rw[e]
  refine⟨by simp only[List.length_cons];omega,?_⟩
  intro b hb
  rcases List.mem_cons.1 hb with rfl|hb
  ·omega
  ·have:=ih.2 b hb;omega
theorem bulkR_vls: ∀ l:List Vl,l.length≤PV.bulkR (vlRows l)∧ ∀ a∈l,a.at_.args.length≤PV.bulkR (vlRows l)
 |[]=>by simp
 |a::l=>by
  have ih:=bulkR_vls l
  have hs:=bulkR_strs a.at_.args
  have e:PV.bulkR (vlRows (a::l))=PV.bulkL (vlRow a)+PV.bulkR (vlRows l):=rfl
  have e2:PV.bulkR (strRows a.at_.args)+1≤PV.bulkL (vlRow a):=by simp only[vlRow,PV.bulkL,PV.bulk];omega
  rw[e]
  refine⟨by simp only[List.length_cons];omega,?_⟩
  intro b hb
  rcases List.mem_cons.1 hb with rfl|hb
  ·omega
  ·have:=ih.2 b hb;omega
theorem pb_small{p:Pb}(hb:PV.bulkL p.cells≤1048576):PbSm p:=by
 obtain⟨name,domain,objects,init,values,goal⟩:=p
 have h1:=bulkR_pms objects
 have h2:=bulkR_ats init
 have h3:=bulkR_vls values
 have hg:PV.bulkL goal.cells+PV.bulkR (pmRows objects)+PV.bulkR (atRows init)+PV.bulkR (vlRows values)≤PV.bulkL (Pb.cells ⟨name,domain,objects,init,values,goal⟩):=by
  obtain⟨op,gn,ga,gp,ge,gk⟩:=goal
  simp only[Pb.cells,Fm.cells,List.cons_append,List.nil_append,PV.bulkL,PV.bulk]
  omega
 exact⟨Fm.small_bulk goal (by omega),by simp only;omega,by simp only;omega,by simp only;omega,fun a ha=>by have:=h2.2 a ha;omega,fun a ha=>by have:=h3.2 a ha;omega⟩
end Go.Proofs.YtjeolbgpllbemaaGreat
namespace Go.Proofs.YtjeolbgpllbemaaGreat
open Go.AM
set_option maxHeartbeats 4000000
set_option maxRecDepth 20000
def argSumA(n:Int):List At→Int
 |[]=>n
 |a::l=>argSumA (IntKind.i64.wrap (n+a.args.length)) l
def argSumV(n:Int):List Vl→Int
 |[]=>n
 |v::l=>argSumV (IntKind.i64.wrap (n+v.at_.args.length)) l
def largeP(p:Pb):Bool:=decide (argSumV (argSumA (IntKind.i64.wrap (IntKind.i64.wrap ((p.objects.length:Int)+p.init.length)+p.values.length)) p.init) p.values>1000)||decide (p.goal.size>2000)
theorem plarge_c(p:Pb)(hp:p.okS)(h:Heap):PCall Tryz.prog 7 [.agg p.cells] h fun r h'=>r= .sc (.bool (largeP p))∧h'=h:=by
 obtain⟨ho,⟨hi,hia⟩,⟨hv,hva⟩,hg⟩:=hp
 obtain⟨name,domain,objects,init,values,goal⟩:=p
 simp only at ho hi hia hv hva hg
 have hz:=rsize_c goal hg
 unfold largeP
 simp only
 generalize goal.size=gs at hz⊢
 clear hg
 obtain⟨gop,gname,gargs,gparams,gexprs,gkids⟩:=goal
 have hlo:=pmRows_len objects
 have hli:=atRows_len init
 have hlv:=vlRows_len values
 unfold bigN at ho hi hv
 simp only[Fm.cells]at hz
 generalize hN0:IntKind.i64.wrap (IntKind.i64.wrap ((objects.length:Int)+init.length)+values.length)=n0
 generalize hNA:argSumA n0 init=nA
 generalize hNV:argSumV nA values=nV
 have hC: ∀ r,r=(Pb.mk name domain objects init values (.mk gop gname gargs gparams gexprs gkids)).cells→r=[sPV name,sPV domain,.imm 2 (pmRows objects),.imm 2 (atRows init),.imm 3 (vlRows values),sPV gop,sPV gname,.imm 1 (strRows gargs),.imm 2 (pmRows gparams),.imm 5 (Ex.rows gexprs),.imm 6 (Fm.rows gkids)]:=fun r e=>e
 have hC2:=hC _ rfl
 rw[hC2]
 refine pcall_body (ow:=fun _=>false) (wf:=fun _=>false) Ty.mixed Tryz.func7 rfl Ty.hb_7 (by rw[Tryz.ntmps7];simp) ?_
 rw[Tryz.ntmps7,Tryz.results7]
 repeat'(first|(with_reducible refine a_hold 2 ?_)|refine a_seq fun K hK=>?_|(refine a_regionS ?_;simp(maxSteps:=2000000) only[Ty.w,simprocAttr,hlo,hli,hlv,hN0])|(refine hK _ _ ?_;clear hK;try simp only[pst0,simprocAttr]))
 refine⟨?_⟩
 refine a_cut (fun S h'=>h'=h∧S 1= .cptr (Pb.mk name domain objects init values (.mk gop gname gargs gparams gexprs gkids)).cells∧S 3= .sc (.int .i64 nA)) ?_ ?_
 ·rw [hC2]
  repeat'(first|refine a_seq fun K hK=>?_|(refine a_block ?_)|(refine a_regionS ?_;simp(maxSteps:=2000000) only[Ty.w,simprocAttr])|(refine hK _ _ ?_;clear hK;try simp only[pst0,simprocAttr]))
  refine a_loop (fun c S h'=>h'=h∧S 1= .cptr (Pb.mk name domain objects init values (.mk gop gname gargs gparams gexprs gkids)).cells∧ ∃ (k:Nat)(n:Int),S 4= .sc (.int .i64 k)∧S 3= .sc (.int .i64 n)∧k≤init.length∧c=init.length-k∧nA=argSumA n (init.drop k)) init.length ?_ ?_
  ·simp only[Ty.w,simprocAttr,hC2]
   exact⟨0,n0,rfl,rfl,by omega,rfl,by rw[← hNA];try rfl⟩
  ·rintro c S h' ⟨rfl,g1,k,n,g4,g3,hk,rfl,hinv⟩
   rw[hC2]at g1
   by_cases hlt:k<init.length
   ·have hd:decide ((k:Int)<(init.length:Int))=true:=by simp;omega
    have w7:IntKind.i64.wrap ((k:Int)+1)=k+1:=by rw[wrap64 (by omega) (by omega)]
    obtain⟨a,hx⟩: ∃ a,init[k]? =some a:=⟨_,List.getElem?_eq_getElem hlt⟩
    have hr:=atRows_get hx
    have hls:=strRows_len a.args
    rw[drop_of_get hx]at hinv
    simp only[argSumA]at hinv
    repeat'(first|refine a_seq fun K hK=>?_|(refine a_block ?_)|((first|refine a_regionS ?_|refine a_region (fun K hK=>?_));simp(maxSteps:=2000000) only[Ty.w,simprocAttr,g1,g3,g4,hli,hd,hr,hls,w7])|(refine a_skip ?_;try simp only[pst0,simprocAttr])|(refine a_cond _ (by(try simp(maxSteps:=2000000) only[Ty.w,simprocAttr,g1,g3,g4,hli,hd,hr,hls,w7]);rfl) (fun hb=>?_) (fun hb=>?_)<;>(try simp only[hb0,decide_eq_true_eq,decide_eq_false_iff_not,simprocAttr]at hb)<;>(try(exfalso;omega)))|(refine hK _ _ ?_;clear hK;try simp only[pst0,simprocAttr]))
    exact⟨init.length-(k+1),by omega,by rw[hC2],k+1,_,by simp,rfl,by omega,rfl,hinv⟩
   ·have hd:decide ((k:Int)<(init.length:Int))=false:=by simp;omega
    rw[List.drop_eq_nil_of_le (by omega)]at hinv
    simp only[argSumA]at hinv
    repeat'(first|refine a_seq fun K hK=>?_|(refine a_regionS ?_;simp(maxSteps:=2000000) only[Ty.w,simprocAttr,g1,g3,g4,hli,hd])|(refine a_exit ?_;try simp only[pst0,simprocAttr])|(refine a_cond _ (by(try simp(maxSteps:=2000000) only[Ty.w,simprocAttr,g1,g3,g4,hli,hd]);rfl) (fun hb=>?_) (fun hb=>?_)<;>(try simp only[hb0,decide_eq_true_eq,decide_eq_false_iff_not,simprocAttr]at hb)<;>(try(exfalso;omega)))|(refine hK _ _ ?_;clear hK;try simp only[pst0,simprocAttr]))
    simp only[Ty.w,simprocAttr,g1,g3,hinv,hC2]
 ·rintro S h' ⟨rfl,g1,g3⟩
  rw[hC2]at g1
  clear hNA hN0
  repeat'(with_reducible refine a_hold 6 ?_)
  refine⟨?_⟩
  refine a_cut (fun S h2=>h2=h'∧S 1= .cptr (Pb.mk name domain objects init values (.mk gop gname gargs gparams gexprs gkids)).cells∧S 3= .sc (.int .i64 nV)) ?_ ?_
  ·rw [hC2]
   repeat'(first|refine a_seq fun K hK=>?_|(refine a_block ?_)|(refine a_regionS ?_;simp(maxSteps:=2000000) only[Ty.w,simprocAttr,g1,g3])|(refine hK _ _ ?_;clear hK;try simp only[pst0,simprocAttr]))
   refine a_loop (fun c S h2=>h2=h'∧S 1= .cptr (Pb.mk name domain objects init values (.mk gop gname gargs gparams gexprs gkids)).cells∧ ∃ (k:Nat)(n:Int),S 5= .sc (.int .i64 k)∧S 3= .sc (.int .i64 n)∧k≤values.length∧c=values.length-k∧nV=argSumV n (values.drop k)) values.length ?_ ?_
   ·simp only[Ty.w,simprocAttr,g1,g3,hC2]
    exact⟨0,nA,rfl,rfl,by omega,rfl,by rw[← hNV];try rfl⟩
   ·clear g1 g3
    rintro c S h2 ⟨rfl,g1,k,n,g5,g3,hk,rfl,hinv⟩
    rw[hC2]at g1
    by_cases hlt:k<values.length
    ·have hd:decide ((k:Int)<(values.length:Int))=true:=by simp;omega
     have w7:IntKind.i64.wrap ((k:Int)+1)=k+1:=by rw[wrap64 (by omega) (by omega)]
     obtain⟨a,hx⟩: ∃ a,values[k]? =some a:=⟨_,List.getElem?_eq_getElem hlt⟩
     have hr:=vlRows_get hx
     have hls:=strRows_len a.at_.args
     rw[drop_of_get hx]at hinv
     simp only[argSumV]at hinv
     repeat'(first|refine a_seq fun K hK=>?_|(refine a_block ?_)|((first|refine a_regionS ?_|refine a_region (fun K hK=>?_));simp(maxSteps:=2000000) only[Ty.w,simprocAttr,g1,g3,g5,hlv,hd,hr,hls,w7])|(refine a_skip ?_;try simp only[pst0,simprocAttr])|(refine a_cond _ (by(try simp(maxSteps:=2000000) only[Ty.w,simprocAttr,g1,g3,g5,hlv,hd,hr,hls,w7]);rfl) (fun hb=>?_) (fun hb=>?_)<;>(try simp only[hb0,decide_eq_true_eq,decide_eq_false_iff_not,simprocAttr]at hb)<;>(try(exfalso;omega)))|(refine hK _ _ ?_;clear hK;try simp only[pst0,simprocAttr]))
     exact⟨values.length-(k+1),by omega,by rw[hC2],k+1,_,by simp,rfl,by omega,rfl,hinv⟩
    ·have hd:decide ((k:Int)<(values.length:Int))=false:=by simp;omega
     rw[List.drop_eq_nil_of_le (by omega)]at hinv
     simp only[argSumV]at hinv
     repeat'(first|refine a_seq fun K hK=>?_|(refine a_regionS ?_;simp(maxSteps:=2000000) only[Ty.w,simprocAttr,g1,g3,g5,hlv,hd])|(refine a_exit ?_;try simp only[pst0,simprocAttr])|(refine a_cond _ (by(try simp(maxSteps:=2000000) only[Ty.w,simprocAttr,g1,g3,g5,hlv,hd]);rfl) (fun hb=>?_) (fun hb=>?_)<;>(try simp only[hb0,decide_eq_true_eq,decide_eq_false_iff_not,simprocAttr]at hb)<;>(try(exfalso;omega)))|(refine hK _ _ ?_;clear hK;try simp only[pst0,simprocAttr]))
     simp only[Ty.w,simprocAttr,g1,g3,hinv,hC2]
  ·clear g1 g3
   rintro S h2 ⟨rfl,g1,g3⟩
   rw[hC2]at g1
   cases l1:decide (nV>1000)with
   |true=>
    repeat'(first|refine a_seq fun K hK=>?_|((first|refine a_regionS ?_|refine a_ret ?_);simp(maxSteps:=2000000) only[Ty.w,simprocAttr,g1,g3,l1])|(refine hK _ _ ?_;clear hK;try simp only[pst0,simprocAttr]))
    all_goals simp only[Bool.true_or]
   |false=>
    repeat'(first|refine a_seq fun K hK=>?_|(refine a_regionS ?_;simp(maxSteps:=2000000) only[Ty.w,simprocAttr,g1,g3,l1]))
    refine owp_useQ (hz _) (by(try simp only[Ty.w,simprocAttr,g1,g3,l1]);try rfl) ?_;simp(maxSteps:=2000000) only[Ty.w,simprocAttr,g1,g3,l1]
    repeat'(first|(refine a_ret ?_;simp(maxSteps:=2000000) only[Ty.w,simprocAttr,g1,g3,l1])|(refine hK _ _ ?_;clear hK;try simp only[pst0,simprocAttr]))
    all_goals simp only[Bool.false_or]
end Go.Proofs.YtjeolbgpllbemaaGreat
namespace Go.AM
def mnO:Option Nat→Option Nat→Option Nat
 |none,b=>b
 |some a,none=>some a
 |some a,some b=>if a≤b then some a else some b
def Tch(q:Option Nat)(h h':Heap):Prop:=match q with
 |none=>h'=h
 |some m=>h.next≤h'.next∧ ∀ id,id<m→h'.obj id=h.obj id
theorem Tch.trans{q q':Option Nat}{h h1 h':Heap}(a:Tch q h h1)(b:Tch q' h1 h'):Tch (mnO q q') h h':=by
 cases q with
 |none=>simp only[Tch]at a;subst a;simpa only[mnO]using b
 |some m=>
  cases q' with
  |none=>simp only[Tch]at b;subst b;simpa only[mnO]using a
  |some m'=>
   simp only[Tch]at a b
   simp only[mnO]
   split<;>simp only[Tch]<;>refine⟨by omega,fun id hid=>?_⟩
   ·rw [b.2 id (by omega),a.2 id hid]
   ·rw [b.2 id hid,a.2 id (by omega)]
def ptrOf:PV→Nat
 | .ptr id _ _=>id
 |_=>0
def mapOf:PV→Nat
 | .mp id=>id
 |_=>0
def ownOf(n:Nat):PV→Nat
 | .own id _ _=>if id≤n then id else n
 |_=>n
def tchO(op:Op)(ρ:Operand→PV)(h:Heap):Nat:=match op with
 | .store _ a _=>ptrOf (ρ a)
 | .mapUpdate _ x _ _=>mapOf (ρ x)
 | .call {callee:= .builtin .append,args:=args,.. }=>(match args.toList with
  |x::_=>ownOf h.next (ρ x)
  |[]=>0)
 |_=>h.next
theorem tch_new{h:Heap}{o:AObj}:Tch (some h.next) h (h.new o):=by
 simp only[Tch,new_next]
 exact⟨by omega,fun id hid=>by rw[new_obj,if_neg (by omega)]⟩
theorem tch_set{h:Heap}{i:Nat}{o:AObj}:Tch (some i) h (h.set i o):=by
 simp only[Tch,set_next]
 exact⟨by omega,fun id hid=>by rw[set_obj,if_neg (by omega)]⟩
theorem tch_id{h:Heap}{m:Nat}:Tch (some m) h h:=⟨Nat.le_refl _,fun _ _=>rfl⟩
theorem app_tch{z bytes:Nat}{h h':Heap}{x y v:PV}(ha:app z bytes h x y=some (v,h')):Tch (some (ownOf h.next x)) h h':=by
 unfold app at ha
 split at ha
 case isFalse=>simp at ha
 split at ha
 case h_2=>simp at ha
 rename_i nw h1 old hv ht
 split at ha
 case isFalse=>simp at ha
 simp only[Option.some.injEq,Prod.mk.injEq]at ha
 obtain⟨_,rfl⟩:=ha
 unfold isTail at ht
 split at ht
 ·simp only[Option.some.injEq,Prod.mk.injEq]at ht;obtain⟨rfl,rfl⟩:=ht;exact tch_new
 ·simp only[Option.some.injEq,Prod.mk.injEq]at ht;obtain⟨rfl,rfl⟩:=ht;exact tch_new
 ·split at ht
  case h_2=>simp at ht
  split at ht
  case isFalse=>simp at ht
  simp only[Option.some.injEq,Prod.mk.injEq]at ht;obtain⟨rfl,rfl⟩:=ht
  simp only[Tch,new_next,kill_next,ownOf]
  refine⟨by omega,fun id hid=>?_⟩
  rw[new_obj,kill_next]
  split at hid
  ·rw [if_neg (by omega),kill_obj,if_neg (by omega)]
  ·rw [if_neg (by omega),kill_obj,if_neg (by omega)]
 ·simp at ht
theorem wr_tch{h h':Heap}{vc:List PV}{p:PV}(hw:wr h vc p=some h'):Tch (some (ptrOf p)) h h':=by
 cases p with
 |ptr id i f=>
  simp only[wr]at hw
  split at hw
  ·split at hw
   ·split at hw
    ·simp at hw;subst hw;exact tch_set
    ·simp at hw
   ·simp at hw
  ·simp at hw
 |_=>simp[wr]at hw
theorem eff_tch{P:Program}{ow:Bool}{op:Op}{ρ:Operand→PV}{h h':Heap}{v:PV}(he:eff P ow op ρ h=some (v,h')):Tch (some (tchO op ρ h)) h h':=by
  unfold eff at he
  split at he
  all_goals(repeat'(split at he))
  all_goals first
    |(simp[Option.bind_eq_some_iff,Option.map_eq_some_iff]at he;done)
    |(simp only[Option.some.injEq,Prod.mk.injEq]at he;obtain⟨_,rfl⟩:=he;exact tch_id)
    |(simp only[Option.some.injEq,Prod.mk.injEq]at he;obtain⟨_,rfl⟩:=he;exact tch_new)
    |(simp only[Option.map_eq_some_iff,Prod.mk.injEq]at he;obtain⟨_,_,_,rfl⟩:=he;exact tch_id)
    |(simp[Option.bind_eq_some_iff,Option.map_eq_some_iff]at he;grind [tch_id,tch_new,tch_set])
    | (simp only [Option.bind_eq_some_iff] at he
       obtain⟨_,_,he⟩:=he
       (first
         | (split at he
            · simp only[Option.some.injEq,Prod.mk.injEq]at he;obtain⟨_,rfl⟩:=he;exact tch_new
            · simp at he)
         | (obtain ⟨_, _, he⟩ := he
            split at he
            · simp only [Option.bind_eq_some_iff] at he
              obtain⟨_,_,he⟩:=he
              simp only[Option.some.injEq,Prod.mk.injEq]at he;obtain⟨_,rfl⟩:=he;exact tch_new
            · simp at he)
         | (obtain ⟨_, _, _, _, _, _, he⟩ := he
            split at he
            · simp only[Option.some.injEq,Prod.mk.injEq]at he;obtain⟨_,rfl⟩:=he;exact tch_new
            · simp at he)
         | (split at he
            · simp only [Option.map_eq_some_iff, Prod.mk.injEq] at he
              obtain⟨_,hw,_,rfl⟩:=he
              exact wr_tch hw
            · simp at he)))
    |skip
  · rename_i hid _ _ _ _
    simp only[Option.bind_eq_some_iff]at he
    obtain⟨_,_,he⟩:=he
    split at he
    · simp only [Option.map_eq_some_iff, Prod.mk.injEq] at he
      obtain⟨es',_,_,rfl⟩:=he
      simp only[tchO]
      simp only[*,mapOf]
      exact tch_set
    · simp at he
  · rename_i hl htu
    simp only[Option.bind_eq_some_iff]at he
    obtain⟨_,_,he⟩:=he
    have:=app_tch he
    simp only[tchO]
    simp only[*]
mutual
def inNb(n:Nat):PV→Bool
 | .sc _=>true
 | .ptr id _ _=>decide (id<n)
 | .cptr cs=>inNLb n cs
 | .own id _ _=>decide (id<n)
 | .imm _ rows=>inNRb n rows
 | .emp=>true
 | .mp id=>decide (id<n)
 | .agg cs=>inNLb n cs
 | .tup cs=>inNLb n cs
 | .fn _ a b=>inNLb n a&&inNLb n b
 | .ab _ _ _ _ _=>true
def inNLb(n:Nat):List PV→Bool
 |[]=>true
 |p::ps=>inNb n p&&inNLb n ps
def inNRb(n:Nat):List (List PV)→Bool
 |[]=>true
 |r::rs=>inNLb n r&&inNRb n rs
end
mutual
theorem inNb_ok{n:Nat}:(p:PV)→inNb n p=true→inN n p
 | .sc _,_=>by simp only[inN]
 | .ptr _ _ _,h=>by simp only[inNb,decide_eq_true_eq]at h;simpa only[inN]using h
 | .cptr cs,h=>by simp only[inNb]at h;simp only[inN];exact inNLb_ok cs h
 | .own _ _ _,h=>by simp only[inNb,decide_eq_true_eq]at h;simpa only[inN]using h
 | .imm _ rows,h=>by simp only[inNb]at h;simp only[inN];exact inNRb_ok rows h
 | .emp,_=>by simp only[inN]
 | .mp _,h=>by simp only[inNb,decide_eq_true_eq]at h;simpa only[inN]using h
 | .agg cs,h=>by simp only[inNb]at h;simp only[inN];exact inNLb_ok cs h
 | .tup cs,h=>by simp only[inNb]at h;simp only[inN];exact inNLb_ok cs h
 | .fn _ a b,h=>by simp only[inNb,Bool.and_eq_true]at h;simp only[inN];exact⟨inNLb_ok a h.1,inNLb_ok b h.2⟩
 | .ab _ _ _ _ _,_=>by simp only[inN]
theorem inNLb_ok{n:Nat}:(l:List PV)→inNLb n l=true→inNL n l
 |[],_=>by simp only[inNL]
 |p::ps,h=>by simp only[inNLb,Bool.and_eq_true]at h;simp only[inNL];exact⟨inNb_ok p h.1,inNLb_ok ps h.2⟩
theorem inNRb_ok{n:Nat}:(l:List (List PV))→inNRb n l=true→inNR n l
 |[],_=>by simp only[inNR]
 |p::ps,h=>by simp only[inNRb,Bool.and_eq_true]at h;simp only[inNR];exact⟨inNLb_ok p h.1,inNRb_ok ps h.2⟩
end
mutual
def frzP(h':Heap)(n:Nat):Nat→PV→Option PV
 |0,_=>none
 |k+1,p=>match p with
  | .sc v=>some (.sc v)
  | .ptr id i f=>if id<n then some (.ptr id i f)else match h'.obj id with
   |some (.arr _ rows)=>(match rows[i]? with
    |some q=>(frzL h' n k (q.drop f)).map .cptr
    |none=>none)
   |_=>none
  | .own id off len=>if id<n then some (.own id off len)else match h'.obj id with
   |some (.arr z rows)=>if off+len≤rows.length then(frzR h' n k ((rows.drop off).take len)).map (.imm z)else none
   |_=>none
  | .imm z rows=>if inNRb n rows=true then some (.imm z rows)else none
  | .cptr cs=>if inNLb n cs=true then some (.cptr cs)else none
  | .emp=>some .emp
  | .mp id=>if id<n then some (.mp id)else none
  | .agg cs=>(frzL h' n k cs).map .agg
  | .tup cs=>(frzL h' n k cs).map .tup
  | .fn f a b=>if(inNLb n a&&inNLb n b)=true then some (.fn f a b)else none
  | .ab k lo hi m r=>some (.ab k lo hi m r)
def frzL(h':Heap)(n:Nat):Nat→List PV→Option (List PV)
 |0,_=>none
 |_+1,[]=>some []
 |k+1,p::ps=>match frzP h' n k p with
  |some q=>(frzL h' n k ps).map (q::·)
  |none=>none
def frzR(h':Heap)(n:Nat):Nat→List (List PV)→Option (List (List PV))
 |0,_=>none
 |_+1,[]=>some []
 |k+1,p::ps=>match frzL h' n k p with
  |some q=>(frzR h' n k ps).map (q::·)
  |none=>none
end
mutual
theorem frzP_ok{h':Heap}{n:Nat}: ∀ (k:Nat)(p:PV){r:PV},frzP h' n k p=some r→FrzTo n h' r p
 |0,_,_,h=>by simp[frzP]at h
 |k+1,p,r,h=>by
  unfold frzP at h
  split at h
  ·simp at h;subst h;simp only[FrzTo]
  ·split at h
   ·rename_i hid;simp at h;subst h;simp only[FrzTo];exact⟨trivial,hid⟩
   ·rename_i id i f hid
    split at h
    ·rename_i z rows hob
     split at h
     ·rename_i q hq
      simp only[Option.map_eq_some_iff]at h
      obtain⟨cs,hc,rfl⟩:=h
      simp only[FrzTo]
      exact .inr ⟨id,i,f,z,rows,q,rfl,by omega,hob,hq,frzL_ok k _ hc⟩
     ·simp at h
    ·simp at h
  ·split at h
   ·rename_i hid;simp at h;subst h;simp only[FrzTo];exact⟨trivial,hid⟩
   ·rename_i id off len hid
    split at h
    ·rename_i z rows hob
     split at h
     ·rename_i hle
      simp only[Option.map_eq_some_iff]at h
      obtain⟨rs,hc,rfl⟩:=h
      simp only[FrzTo]
      exact .inr (.inr ⟨id,off,len,rows,rfl,by omega,hob,hle,frzR_ok k _ hc⟩)
     ·simp at h
    ·simp at h
  ·split at h
   ·rename_i hi;simp at h;subst h;simp only[FrzTo];exact .inl ⟨trivial,inNRb_ok _ hi⟩
   ·simp at h
  ·split at h
   ·rename_i hi;simp at h;subst h;simp only[FrzTo];exact .inl ⟨trivial,inNLb_ok _ hi⟩
   ·simp at h
  ·simp at h;subst h;simp only[FrzTo]
  ·split at h
   ·rename_i hid;simp at h;subst h;simp only[FrzTo];exact⟨trivial,hid⟩
   ·simp at h
  ·simp only[Option.map_eq_some_iff]at h
   obtain⟨cs,hc,rfl⟩:=h
   simp only[FrzTo]
   exact⟨_,rfl,frzL_ok k _ hc⟩
  ·simp only[Option.map_eq_some_iff]at h
   obtain⟨cs,hc,rfl⟩:=h
   simp only[FrzTo]
   exact⟨_,rfl,frzL_ok k _ hc⟩
  ·split at h
   ·rename_i hi
    simp only[Bool.and_eq_true]at hi
    simp at h;subst h;simp only[FrzTo];exact⟨trivial,inNLb_ok _ hi.1,inNLb_ok _ hi.2⟩
   ·simp at h
  ·simp at h;subst h;simp only[FrzTo]
theorem frzL_ok{h':Heap}{n:Nat}: ∀ (k:Nat)(l:List PV){r:List PV},frzL h' n k l=some r→FrzL n h' r l
 |0,_,_,h=>by simp[frzL]at h
 |k+1,[],r,h=>by simp[frzL]at h;subst h;simp only[FrzL]
 |k+1,p::ps,r,h=>by
  unfold frzL at h
  split at h
  ·rename_i q hq
   simp only[Option.map_eq_some_iff]at h
   obtain⟨qs,hc,rfl⟩:=h
   simp only[FrzL]
   exact⟨frzP_ok k p hq,frzL_ok k ps hc⟩
  ·simp at h
theorem frzR_ok{h':Heap}{n:Nat}: ∀ (k:Nat)(l:List (List PV)){r:List (List PV)},frzR h' n k l=some r→FrzR n h' r l
 |0,_,_,h=>by simp[frzR]at h
 |k+1,[],r,h=>by simp[frzR]at h;subst h;simp only[FrzR]
 |k+1,p::ps,r,h=>by
  unfold frzR at h
  split at h
  ·rename_i q hq
   simp only[Option.map_eq_some_iff]at h
   obtain⟨qs,hc,rfl⟩:=h
   simp only[FrzR]
   exact⟨frzL_ok k p hq,frzR_ok k ps hc⟩
  ·simp at h
end
def dropB(q:Option Nat)(n:Nat):Bool:=match q with
 |none=>true
 |some t=>decide (n≤t)
def endS:Option (Exit × Slots × Option Nat × Heap)→Option (Slots × Option Nat × Heap)
 |some (.normal,r)=>some r
 |some (.ret,r)=>some r
 |_=>none
theorem endS_some{x:Option (Exit × Slots × Option Nat × Heap)}{r:Slots × Option Nat × Heap}(h:endS x=some r): ∃ e,(e= .normal∨e= .ret)∧x=some (e,r):=by
 unfold endS at h
 split at h
 ·simp at h;subst h;exact⟨_,.inl rfl,rfl⟩
 ·simp at h;subst h;exact⟨_,.inr rfl,rfl⟩
 ·simp at h
abbrev CallR2:=FuncId→List PV→Heap→Option (PV × Option Nat × Heap)
section
variable (P:Program)(wf:FuncId→Bool)(own:FuncId→Nat→Bool)(ext:FuncId→List PV→Heap→Option PV)
def xop2(call:CallR2)(ow:Nat→Bool)(o:Oper)(ρ:Operand→PV)(h:Heap):Option (PV × Option Nat × Heap):=
 match callee ρ o.op with
 |some (f,args)=>call f args h
 |none=>match eff P (o.dst.any ow) o.op ρ h with
  |some (v,h')=>some (v,(if isW ow wf o=true then some (tchO o.op ρ h)else none),h')
  |none=>none
def xagain2(call:CallR2)(ow:Nat→Bool)(o:Oper)(ρ:Operand→PV)(h:Heap)(v:PV):Bool:=
 match xop2 P wf call ow o ρ h with
 |some (v',q,_)=>q.isNone&&pvEq v' v
 |none=>false
def xl2(call:CallR2)(ow:Nat→Bool)(n:Nat)(ops:List Oper):List Oper→Slots→Option Nat→Heap→Option (Slots × Option Nat × Heap)
 |[],s,q,h=>some (s,q,h)
 | o :: rest, s, q, h => if o.dst.all (fun d => decide (d < n)) = true then
   match wantedB ops s o with
   |none=>none
   |some false=>xl2 call ow n ops rest (updO s o.dst (.sc undef)) q h
   |some true=>match xop2 P wf call ow o (pev s) h with
    |some (v,q',h')=>xl2 call ow n ops rest (updO s o.dst v) (mnO q q') h'
    |none=>none
  else none
def xopR(call:CallR2)(ow:Nat→Bool)(id:Nat)(o:Oper)(ρ:Operand→PV)(h:Heap):Option (PV × Option Nat × Heap):=
 match o.op with
 | .alloc t=>match zeroT P t with
  |some zs=>if 0<zs.length then some (.ptr id 0 0,some id,h.set id (.arr zs.length [zs.map .sc]))else none
  |none=>none
 |_=>xop2 P wf call ow o ρ h
def xd2(call:CallR2)(ow:Nat→Bool)(n:Nat)(ops:List Oper):Nat→List Oper→List (Nat × Oper × Slots × PV)→List (Nat × Heap)→Slots→Option Nat→Heap→Option (Slots × Option Nat × Heap)
 |_,[],_,_,s,q,h=>some (s,q,h)
 | k, o :: rest, past, hist, s, q, h => if o.dst.all (fun d => decide (d < n)) = true then
   match wantedB ops s o with
   |none=>none
   |some false=>xd2 call ow n ops (k+1) rest past hist (updO s o.dst (.sc undef)) q h
   |some true=>match xop2 P wf call ow o (pev s) h with
    |none=>none
    |some (v,q',h')=>
     if isW ow wf o=true then
      (if past.all (fun x=>pre ops x.1 k||xagain2 P wf call ow x.2.1 (pev x.2.2.1) h' x.2.2.2)=true then xd2 call ow n ops (k+1) rest past ((k,h)::hist) (updO s o.dst v) (mnO q q') h' else none)
     else if q'.isNone=true then
      (if hist.all (fun x=>pre ops x.1 k||xagain2 P wf call ow o (pev s) x.2 v)=true then xd2 call ow n ops (k+1) rest ((k,o,s,v)::past) hist (updO s o.dst v) q h else none)
     else none
  else none
def xd3(call:CallR2)(ow:Nat→Bool)(n:Nat)(ops:List Oper)(base:Nat):Nat→List Oper→List (Nat × Oper × Slots × PV)→List (Nat × Heap)→Slots→Option Nat→Heap→Option (Slots × Option Nat × Heap)
 |_,[],_,_,s,q,h=>some (s,q,h)
 | k, o :: rest, past, hist, s, q, h => if o.dst.all (fun d => decide (d < n)) = true then
   match wantedB ops s o with
   |none=>none
   |some false=>xd3 call ow n ops base (k+1) rest past hist (updO s o.dst (.sc undef)) q h
   |some true=>match xopR P wf call ow (base+k) o (pev s) h with
    |none=>none
    |some (v,q',h')=>
     if isW ow wf o=true then
      (if(past.all (fun x=>pre ops x.1 k||xagain2 P wf call ow x.2.1 (pev x.2.2.1) h' x.2.2.2)&&((List.range ops.length).all fun f=>!(decide (k<f)&&alB ops f)||(h'.obj (base+f)).isNone))=true then xd3 call ow n ops base (k+1) rest past ((k,h)::hist) (updO s o.dst v) (mnO q q') h' else none)
     else if q'.isNone=true then
      (if hist.all (fun x=>pre ops x.1 k||xagain2 P wf call ow o (pev s) x.2 v)=true then xd3 call ow n ops base (k+1) rest ((k,o,s,v)::past) hist (updO s o.dst v) q h else none)
     else none
  else none
def xc2(call:CallR2)(ow:Nat→Bool)(n:Nat):Nat→Code→Slots→Option Nat→Heap→Option (Exit × Slots × Option Nat × Heap)
 |0,_,_,_,_=>none
 |k+1,c,s,q,h=>match c with
  | .skip=>some (.normal,s,q,h)
  | .region _ ops true => if dOk ow wf ops.toList = true then (xd2 P wf call ow n ops.toList 0 ops.toList [] [] s q h).map (Exit.normal, ·)
    else if dOk2 ow wf ops.toList=true then(xd3 P wf call ow n ops.toList h.next 0 ops.toList [] [] s (mnO q (some h.next)) ⟨h.next+ops.toList.length,h.obj⟩).map (Exit.normal,·)
    else none
  | .region _ ops false=>(xl2 P wf call ow n ops.toList ops.toList s q h).map (Exit.normal,·)
  | .seq a b=>match xc2 call ow n k a s q h with
   |some (.normal,s',q',h')=>xc2 call ow n k b s' q' h'
   |r=>r
  | .cond c x y=>match pev s c with
   | .sc (.bool true)=>xc2 call ow n k x s q h
   | .sc (.bool false)=>xc2 call ow n k y s q h
   |_=>none
  | .block id c=>match xc2 call ow n k c s q h with
   |some (.exit id',s',q',h')=>some (if id'=id then .normal else .exit id',s',q',h')
   |r=>r
  | .loop c=>match xc2 call ow n k c s q h with
   |some (.normal,s',q',h')=>xc2 call ow n k (.loop c) s' q' h'
   |r=>r
  | .exit id=>some (.exit id,s,q,h)
  | .ret=>some (.ret,s,q,h)
  |_=>none
def xf2(keep:FuncId→Bool)(m:Nat):Nat→CallR2
  |0,_,_,_=>none
  |k+1,f,args,h=>match ext f args h with
   |some r=>some (r,none,h)
   |none=>match P.funcs[f]? with
    |none=>none
    |some fn=>if hasBody P f=true∧args.length≤fn.ntmps then match fn.body with
        |none=>none
        |some c=>match endS (xc2 P wf (xf2 keep m k) (own f) fn.ntmps m c (slots0 args) none h)with
          |some (s,q,h')=>match resAll P s h' fn.results.toList with
            |none=>none
            |some vs=>if(!(keep f)&&dropB q h.next)=true then(match frzP h' h.next 1000 (resV vs)with
                |some r=>some (r,none,h)
                |none=>some (resV vs,q,h'))else some (resV vs,q,h')
          |none=>none
      else none
end
section
variable {P:Program}{wf:FuncId→Bool}{own:FuncId→Nat→Bool}
def ExtOk2(P:Program)(ext:FuncId→List PV→Heap→Option PV):Prop:= ∀ f args r h,ext f args h=some r→PCall P f args h (fun r' h'=>r'=r∧h'=h)
def CallOk2(P:Program)(call:CallR2):Prop:= ∀ f args h v q h',call f args h=some (v,q,h')→PCall P f args h (fun r h''=>r=v∧h''=h')∧Tch q h h'
theorem xop_ok2{call:CallR2}(hk:CallOk2 P call){ow:Nat→Bool}{o:Oper}{ρ:Operand→PV}{h h':Heap}{v:PV}{q:Option Nat}(hx:xop2 P wf call ow o ρ h=some (v,q,h')):Does P ow o ρ h v h'∧Tch q h h':=by
 unfold xop2 at hx
 unfold Does
 split at hx
 ·rename_i f args hc
  rw[hc]
  exact hk _ _ _ _ _ _ hx
 ·rename_i hc
  rw[hc]
  split at hx
  ·rename_i v1 h1 he
   simp only[Option.some.injEq,Prod.mk.injEq]at hx
   obtain⟨rfl,rfl,rfl⟩:=hx
   refine⟨he,?_⟩
   split
   ·exact eff_tch he
   ·rename_i hw;exact eff_same (by simpa using hw) hc he
  ·simp at hx
theorem xagain_ok2{call:CallR2}(hk:CallOk2 P call){ow:Nat→Bool}{o:Oper}{ρ:Operand→PV}{h:Heap}{v:PV}(hx:xagain2 P wf call ow o ρ h v=true):Does P ow o ρ h v h:=by
 unfold xagain2 at hx
 split at hx
 ·rename_i v' q h' hp
  simp only[Bool.and_eq_true,Option.isNone_iff_eq_none]at hx
  obtain⟨rfl,hx⟩:=hx
  obtain⟨h1,h2⟩:=xop_ok2 hk hp
  simp only[Tch]at h2
  rw[h2,pvEq_eq _ _ hx]at h1
  exact h1
 ·simp at hx
theorem xl_ok2{call:CallR2}(hk:CallOk2 P call){ow:Nat→Bool}{n:Nat}{ops:List Oper}{K:Slots→Heap→Prop}: ∀ (l:List Oper){s s':Slots}{q q':Option Nat}{h h':Heap},xl2 P wf call ow n ops l s q h=some (s',q',h')→
  (K s' h'→lwp P ow n ops l K s h)∧(∀ h0,Tch q h0 h→Tch q' h0 h')
 |[],s,s',q,q',h,h',hx=>by
  simp only[xl2,Option.some.injEq,Prod.mk.injEq]at hx
  obtain⟨rfl,rfl,rfl⟩:=hx
  exact⟨fun hK=>hK,fun h0 hq=>hq⟩
 |o::rest,s,s',q,q',h,h',hx=>by
  unfold xl2 at hx
  split at hx
  ·rename_i hd
   unfold lwp
   split at hx
   ·simp at hx
   ·rename_i hw
    obtain⟨h1,h2⟩:=xl_ok2 hk rest hx
    rw[hw]
    exact⟨fun hK=>⟨hd,by simpa using h1 hK⟩,h2⟩
   ·rename_i hw
    split at hx
    ·rename_i v q1 h1 hp
     obtain⟨d1,d2⟩:=xop_ok2 hk hp
     obtain⟨g1,g2⟩:=xl_ok2 hk rest hx
     rw[hw]
     exact⟨fun hK=>⟨hd,by simpa using d1.owp (g1 hK)⟩,fun h0 hq=>g2 h0 (hq.trans d2)⟩
    ·simp at hx
  ·simp at hx
theorem xd_ok2{call:CallR2}(hk:CallOk2 P call){ow:Nat→Bool}{n:Nat}{ops:List Oper}{K:Slots→Heap→Prop}: ∀ (l:List Oper)(k:Nat){past:List (Nat × Oper × Slots × PV)}{hist:List (Nat × Heap)}{s s':Slots}{q q':Option Nat}{h h':Heap},xd2 P wf call ow n ops k l past hist s q h=some (s',q',h')→
  (K s' h'→drun P ow wf n ops k l (past.map fun x=>(x.1,fun h2=>Does P ow x.2.1 (pev x.2.2.1) h2 x.2.2.2 h2)) hist K s h)∧(∀ h0,Tch q h0 h→Tch q' h0 h')
 |[],k,past,hist,s,s',q,q',h,h',hx=>by
  simp only[xd2,Option.some.injEq,Prod.mk.injEq]at hx
  obtain⟨rfl,rfl,rfl⟩:=hx
  exact⟨fun hK=>hK,fun h0 hq=>hq⟩
 |o::rest,k,past,hist,s,s',q,q',h,h',hx=>by
  unfold xd2 at hx
  split at hx
  ·rename_i hd
   unfold drun
   split at hx
   ·simp at hx
   ·rename_i hw
    obtain⟨h1,h2⟩:=xd_ok2 hk rest (k+1) hx
    rw[hw]
    exact⟨fun hK=>⟨hd,by simpa using h1 hK⟩,h2⟩
   ·rename_i hw
    split at hx
    ·simp at hx
    ·rename_i v q1 h1 hp
     obtain⟨d1,d2⟩:=xop_ok2 hk hp
     rw[hw]
     split at hx
     ·rename_i hiw
      split at hx
      ·rename_i hpast
       obtain⟨g1,g2⟩:=xd_ok2 hk rest (k+1) hx
       refine⟨fun hK=>⟨hd,?_⟩,fun h0 hq=>g2 h0 (hq.trans d2)⟩
       ·simp only[hiw,if_true]
        refine⟨v,h1,d1,?_,g1 hK⟩
        intro x hx1
        obtain⟨y,hy,rfl⟩:=List.mem_map.1 hx1
        have:=List.all_eq_true.1 hpast y hy
        simp only[Bool.or_eq_true]at this
        exact this.imp id (fun t=>xagain_ok2 hk t)
      ·simp at hx
     ·rename_i hiw
      split at hx
      ·rename_i hq1
       split at hx
       ·rename_i hhist
        obtain⟨g1,g2⟩:=xd_ok2 hk rest (k+1) hx
        refine⟨fun hK=>⟨hd,?_⟩,g2⟩
        simp only[hiw,if_true,Bool.false_eq_true,if_false]
        have e1:h1=h:=by rw[Option.isNone_iff_eq_none]at hq1;subst hq1;exact d2
        subst e1
        refine⟨v,d1,?_,g1 hK⟩
        intro x hx1
        have:=List.all_eq_true.1 hhist x hx1
        simp only[Bool.or_eq_true]at this
        exact this.imp id (fun t=>xagain_ok2 hk t)
       ·simp at hx
      ·simp at hx
  ·simp at hx
theorem xopR_ok{call:CallR2}(hk:CallOk2 P call){ow:Nat→Bool}{id:Nat}{o:Oper}{ρ:Operand→PV}{h h':Heap}{v:PV}{q:Option Nat}(hx:xopR P wf call ow id o ρ h=some (v,q,h')):DoesR P ow id o ρ h v h'∧Tch q h h':=by
 unfold xopR at hx
 unfold DoesR
 split at hx
 ·rename_i t hop
  simp only[hop]
  split at hx
  ·rename_i zs hz
   split at hx
   ·rename_i hpos
    simp only[Option.some.injEq,Prod.mk.injEq]at hx
    obtain⟨rfl,rfl,rfl⟩:=hx
    exact⟨⟨zs,hz,hpos,rfl,rfl⟩,tch_set⟩
   ·simp at hx
  ·simp at hx
 ·rename_i hop
  obtain⟨d1,d2⟩:=xop_ok2 hk hx
  refine⟨?_,d2⟩
  split
  ·rename_i t he;exact(hop t he).elim
  ·exact d1
theorem xd_ok3{call:CallR2}(hk:CallOk2 P call){ow:Nat→Bool}{n base:Nat}{ops:List Oper}{K:Slots→Heap→Prop}: ∀ (l:List Oper)(k:Nat){past:List (Nat × Oper × Slots × PV)}{hist:List (Nat × Heap)}{s s':Slots}{q q':Option Nat}{h h':Heap},xd3 P wf call ow n ops base k l past hist s q h=some (s',q',h')→
  (K s' h'→drun2 P ow wf n ops base k l (past.map fun x=>(x.1,fun h2=>Does P ow x.2.1 (pev x.2.2.1) h2 x.2.2.2 h2)) hist K s h)∧(∀ h0,Tch q h0 h→Tch q' h0 h')
 |[],k,past,hist,s,s',q,q',h,h',hx=>by
  simp only[xd3,Option.some.injEq,Prod.mk.injEq]at hx
  obtain⟨rfl,rfl,rfl⟩:=hx
  exact⟨fun hK=>hK,fun h0 hq=>hq⟩
 |o::rest,k,past,hist,s,s',q,q',h,h',hx=>by
  unfold xd3 at hx
  split at hx
  ·rename_i hd
   unfold drun2
   split at hx
   ·simp at hx
   ·rename_i hw
    obtain⟨h1,h2⟩:=xd_ok3 hk rest (k+1) hx
    rw[hw]
    exact⟨fun hK=>⟨hd,by simpa using h1 hK⟩,h2⟩
   ·rename_i hw
    split at hx
    ·simp at hx
    ·rename_i v q1 h1 hp
     obtain⟨d1,d2⟩:=xopR_ok hk hp
     rw[hw]
     split at hx
     ·rename_i hiw
      split at hx
      ·rename_i hpn
       simp only[Bool.and_eq_true]at hpn
       obtain⟨hpast,hnone⟩:=hpn
       obtain⟨g1,g2⟩:=xd_ok3 hk rest (k+1) hx
       refine⟨fun hK=>⟨hd,?_⟩,fun h0 hq=>g2 h0 (hq.trans d2)⟩
       ·simp only[hiw,if_true]
        refine⟨v,h1,d1,fun f hf ha=>?_,?_,g1 hK⟩
        ·have hfl:f<ops.length:=by
          unfold alB at ha
          split at ha
          ·rename_i hq;exact(List.getElem?_eq_some_iff.1 hq).1
          ·simp at ha
         have:=List.all_eq_true.1 hnone f (List.mem_range.2 hfl)
         simpa[hf,ha]using this
        intro x hx1
        obtain⟨y,hy,rfl⟩:=List.mem_map.1 hx1
        have:=List.all_eq_true.1 hpast y hy
        simp only[Bool.or_eq_true]at this
        exact this.imp id (fun t=>xagain_ok2 hk t)
      ·simp at hx
     ·rename_i hiw
      split at hx
      ·rename_i hq1
       split at hx
       ·rename_i hhist
        obtain⟨g1,g2⟩:=xd_ok3 hk rest (k+1) hx
        refine⟨fun hK=>⟨hd,?_⟩,g2⟩
        simp only[hiw,if_true,Bool.false_eq_true,if_false]
        have e1:h1=h:=by rw[Option.isNone_iff_eq_none]at hq1;subst hq1;exact d2
        subst e1
        refine⟨v,(doesR_of (by simpa using hiw)).1 d1,?_,g1 hK⟩
        intro x hx1
        have:=List.all_eq_true.1 hhist x hx1
        simp only[Bool.or_eq_true]at this
        exact this.imp id (fun t=>xagain_ok2 hk t)
       ·simp at hx
      ·simp at hx
  ·simp at hx
theorem xc_ok2{call:CallR2}(hk:CallOk2 P call){ow:Nat→Bool}{n:Nat}: ∀ (m:Nat)(c:Code){s s':Slots}{q q':Option Nat}{h h':Heap}{e:Exit},xc2 P wf call ow n m c s q h=some (e,s',q',h')→
  (∀ Q:Post,Q e s' h'→awp P ow wf n c Q s h)∧(∀ h0,Tch q h0 h→Tch q' h0 h')
 |0,c,s,s',q,q',h,h',e,hx=>by simp[xc2]at hx
 |m+1,c,s,s',q,q',h,h',e,hx=>by
  unfold xc2 at hx
  split at hx
  ·simp only[Option.some.injEq,Prod.mk.injEq]at hx
   obtain⟨rfl,rfl,rfl,rfl⟩:=hx
   exact⟨fun Q hQ=>by simpa only[awp]using hQ,fun h0 hq=>hq⟩
  ·rename_i id ops
   split at hx
   ·rename_i hdo
    simp only[Option.map_eq_some_iff,Prod.mk.injEq]at hx
    obtain⟨⟨s1,q1,h1⟩,hx,rfl,rfl,rfl,rfl⟩:=hx
    have:=fun(Q:Post)=>xd_ok2 (K:=Q .normal) hk _ _ hx
    exact⟨fun Q hQ=>by simp only[awp,if_true];exact⟨_,_,.refl,.inl ⟨hdo,(this Q).1 hQ⟩⟩,(this (fun _ _ _=>True)).2⟩
   ·split at hx
    ·rename_i hdo
     simp only[Option.map_eq_some_iff,Prod.mk.injEq]at hx
     obtain⟨⟨s1,q1,h1⟩,hx,rfl,rfl,rfl,rfl⟩:=hx
     have:=fun(Q:Post)=>xd_ok3 (K:=Q .normal) hk _ _ hx
     refine⟨fun Q hQ=>by simp only[awp,if_true];exact⟨_,_,.refl,.inr (.inl ⟨hdo,(this Q).1 hQ⟩)⟩,fun h0 hq=>(this (fun _ _ _=>True)).2 h0 (hq.trans ?_)⟩
     exact⟨Nat.le_add_right _ _,fun _ _=>rfl⟩
    ·simp at hx
  ·rename_i id ops
   simp only[Option.map_eq_some_iff,Prod.mk.injEq]at hx
   obtain⟨⟨s1,q1,h1⟩,hx,rfl,rfl,rfl,rfl⟩:=hx
   have:=fun(Q:Post)=>xl_ok2 (K:=Q .normal) hk _ hx
   exact⟨fun Q hQ=>by simp only[awp,Bool.false_eq_true,if_false];exact⟨_,_,.refl,(this Q).1 hQ⟩,(this (fun _ _ _=>True)).2⟩
  ·rename_i a b
   split at hx
   ·rename_i s1 q1 h1 ha
    obtain⟨a1,a2⟩:=xc_ok2 hk m a ha
    obtain⟨b1,b2⟩:=xc_ok2 hk m b hx
    exact⟨fun Q hQ=>by simp only[awp];exact a1 _ (b1 Q hQ),fun h0 hq=>b2 h0 (a2 h0 hq)⟩
   ·rename_i hne
    obtain⟨a1,a2⟩:=xc_ok2 hk m a hx
    refine⟨fun Q hQ=>?_,a2⟩
    simp only[awp]
    refine a1 _ ?_
    cases e<;>simp only[Post.seq]<;>first|exact hQ|exact(hne _ _ _ hx).elim
  ·rename_i c x y
   split at hx
   ·rename_i hc
    obtain⟨a1,a2⟩:=xc_ok2 hk m x hx
    exact⟨fun Q hQ=>by simp only[awp,hc,if_true];exact a1 Q hQ,a2⟩
   ·rename_i hc
    obtain⟨a1,a2⟩:=xc_ok2 hk m y hx
    exact⟨fun Q hQ=>by simp only[awp,hc,Bool.false_eq_true,if_false];exact a1 Q hQ,a2⟩
   ·simp at hx
  ·rename_i id c
   split at hx
   ·rename_i id' s1 q1 h1 ha
    obtain⟨a1,a2⟩:=xc_ok2 hk m c ha
    simp only[Option.some.injEq,Prod.mk.injEq]at hx
    obtain⟨rfl,rfl,rfl,rfl⟩:=hx
    refine⟨fun Q hQ=>?_,a2⟩
    simp only[awp]
    refine a1 _ ?_
    simp only[Post.block]
    split<;>rename_i hid<;>simpa only[hid,if_true,if_false]using hQ
   ·rename_i hne
    obtain⟨a1,a2⟩:=xc_ok2 hk m c hx
    refine⟨fun Q hQ=>?_,a2⟩
    simp only[awp]
    refine a1 _ ?_
    cases e<;>simp only[Post.block]<;>first|exact hQ|exact(hne _ _ _ _ hx).elim
  ·rename_i c
   split at hx
   ·rename_i s1 q1 h1 ha
    obtain⟨a1,a2⟩:=xc_ok2 hk m c ha
    obtain⟨b1,b2⟩:=xc_ok2 hk m (.loop c) hx
    refine⟨fun Q hQ=>?_,fun h0 hq=>b2 h0 (a2 h0 hq)⟩
    have:=b1 Q hQ
    simp only[awp]at this⊢
    obtain⟨j,hj⟩:=this
    exact⟨j+1,a1 _ hj⟩
   ·rename_i hne
    obtain⟨a1,a2⟩:=xc_ok2 hk m c hx
    refine⟨fun Q hQ=>?_,a2⟩
    simp only[awp]
    refine⟨1,a1 _ ?_⟩
    cases e<;>simp only[Post.seq]<;>first|exact hQ|exact(hne _ _ _ hx).elim
  ·simp only[Option.some.injEq,Prod.mk.injEq]at hx
   obtain⟨rfl,rfl,rfl,rfl⟩:=hx
   exact⟨fun Q hQ=>by simpa only[awp]using hQ,fun h0 hq=>hq⟩
  ·simp only[Option.some.injEq,Prod.mk.injEq]at hx
   obtain⟨rfl,rfl,rfl,rfl⟩:=hx
   exact⟨fun Q hQ=>by simpa only[awp]using hQ,fun h0 hq=>hq⟩
  ·simp at hx
theorem xf_ok2(hm:P.follows .mixedOrders=true){ext:FuncId→List PV→Heap→Option PV}(hext:ExtOk2 P ext){keep:FuncId→Bool}{m:Nat}: ∀ k,CallOk2 P (xf2 P wf own ext keep m k)
 |0,f,args,h,v,q,h',hx=>by simp[xf2]at hx
 |k+1,f,args,h,v,q,h',hx=>by
  unfold xf2 at hx
  split at hx
  ·rename_i r hr
   simp only[Option.some.injEq,Prod.mk.injEq]at hx
   obtain⟨rfl,rfl,rfl⟩:=hx
   exact⟨hext _ _ _ _ hr,rfl⟩
  split at hx
  ·simp at hx
  ·rename_i fn hf
   split at hx
   case isFalse=>simp at hx
   rename_i hh
   split at hx
   ·simp at hx
   ·rename_i c hb
    split at hx
    case h_2=>simp at hx
    rename_i s q1 h1 hc
    split at hx
    ·simp at hx
    ·rename_i vs hr
     have main:PCall P f args h (fun r h2=>r=resV vs∧h2=h1)∧Tch q1 h h1:=by
      obtain⟨e,he,hc⟩:=endS_some hc
      obtain⟨a1,a2⟩:=xc_ok2 (xf_ok2 hm hext k) m c hc
      refine⟨pcall_body hm hf hb hh.1 hh.2 (a1 _ ?_),a2 h rfl⟩
      rcases he with rfl|rfl<;>simp only[retPost,hr]<;>exact⟨trivial,trivial⟩
     split at hx
     ·rename_i hkp
      simp only[Bool.and_eq_true]at hkp
      split at hx
      ·rename_i r hfr
       simp only[Option.some.injEq,Prod.mk.injEq]at hx
       obtain⟨rfl,rfl,rfl⟩:=hx
       refine⟨pcall_wf hh.1 fun hwf=>PCall.drop (main.1.mono ?_),rfl⟩
       rintro r' h' ⟨rfl,rfl⟩
       have hold: ∀ id,id<h.next→h'.obj id=h.obj id:=by
        intro id hid
        have ht:=main.2
        cases q1 with
        |none=>simp only[Tch]at ht;rw[ht]
        |some t=>
         simp only[Tch]at ht
         have:=hkp.2
         simp[dropB]at this
         exact ht.2 id (by omega)
       refine⟨r,h,⟨rfl,rfl⟩,frzP_ok _ _ hfr,Nat.le_refl _,fun id o ho=>?_⟩
       have hid:=hwf id (by rw[ho];try rfl)
       exact⟨by rw[hold id hid];exact ho,hid,.inl ho⟩
      ·simp only[Option.some.injEq,Prod.mk.injEq]at hx
       obtain⟨rfl,rfl,rfl⟩:=hx
       exact main
     ·simp only[Option.some.injEq,Prod.mk.injEq]at hx
      obtain⟨rfl,rfl,rfl⟩:=hx
      exact main
def xgives2(r:Option (PV × Option Nat × Heap))(v:PV):Bool:=match r with
 |some (u,_,_)=>pvEq u v
 |none=>false
theorem pcall_run2(hm:P.follows .mixedOrders=true){ext:FuncId→List PV→Heap→Option PV}(hext:ExtOk2 P ext){keep:FuncId→Bool}{m k:Nat}{f:FuncId}{args:List PV}{h:Heap}{v:PV}(hx:xgives2 (xf2 P wf own ext keep m k f args h) v=true):PCall P f args h (fun r _=>r=v):=by
 unfold xgives2 at hx
 split at hx
 ·rename_i u q h' hr
  refine((xf_ok2 hm hext k _ _ _ _ _ _ hr).1).mono (fun r h'' hr=>?_)
  rw[hr.1,pvEq_eq _ _ hx]
 ·simp at hx
end
end Go.AM
namespace Go.Proofs.YtjeolbgpllbemaaGreat
open Go.AM
set_option maxHeartbeats 2000000
set_option maxRecDepth 100000
def pbOwn(f t:Nat):Bool:=([(57,5),(98,10),(999999,5),(9,40),(9,49),(9,67),(29,9)]:List (Nat × Nat)).contains (f,t)
def pbWf(f:Nat):Bool:=false
def pbExt(f:FuncId)(args:List PV)(_:Heap):Option PV:=ext f args
theorem pbExt_ok:ExtOk2 Tryz.prog pbExt:=fun f args r h hr=>ext_ok f args r h hr
theorem pbAwake_c:PCall Tryz.prog 8 [] Heap.nil fun r h'=>r= .sc (.bool true)∧h'=Heap.nil:=by
 have h1:PCall Tryz.prog 8 [] Heap.nil fun r _=>r= .sc (.bool true):=pcall_run2 (wf:=pbWf) (own:=pbOwn) (keep:=fun _=>false) Ty.mixed pbExt_ok (m:=2000) (k:=60) (by kernel_rfl)
 refine PCall.drop (h1.mono ?_)
 rintro r h' rfl
 refine⟨.sc (.bool true),Heap.nil,⟨rfl,rfl⟩,?_,Nat.le_refl _,fun id o ho=>by simp[Heap.nil]at ho⟩
 simp only[FrzTo]
end Go.Proofs.YtjeolbgpllbemaaGreat
namespace Go.Proofs.YtjeolbgpllbemaaGreat
open Go.AM
set_option maxHeartbeats 2000000
set_option maxRecDepth 20000
theorem bEq_refl(a:ByteArray):bEq a a=true:=by simp[bEq]
theorem bsEq_refl: ∀ l:List ByteArray,bsEq l l=true
 |[]=>rfl
 |a::l=>by simp[bsEq,bEq_refl,bsEq_refl l]
theorem pmsEq_refl: ∀ l:List Pm,pmsEq l l=true
 |[]=>rfl
 |a::l=>by simp[pmsEq,pmEq,bEq_refl,pmsEq_refl l]
theorem exs_refl: ∀ {l:List Ex},(∀ e∈l,e.same e=true)→Ex.sames l l=true
 |[],_=>rfl
 |a::l,h=>by rw[Ex.sames,h a (List.mem_cons_self ..),exs_refl (l:=l) fun e he=>h e (List.mem_cons_of_mem _ he)];try rfl
theorem ex_refl: ∀ e:Ex,e.same e=true:=by
 refine Ex.ind ?_
 intro op name n args kids ih
 simp only[Ex.same,bEq_refl,bsEq_refl,exs_refl ih,beq_self_eq_true,Bool.and_true]
theorem fms_refl: ∀ {l:List Fm},(∀ e∈l,e.same e=true)→Fm.sames l l=true
 |[],_=>rfl
 |a::l,h=>by rw[Fm.sames,h a (List.mem_cons_self ..),fms_refl (l:=l) fun e he=>h e (List.mem_cons_of_mem _ he)];try rfl
theorem fm_refl: ∀ f:Fm,f.same f=true:=by
 refine Fm.ind ?_
 intro op name args params exprs kids ih
 simp only[Fm.same,bEq_refl,bsEq_refl,pmsEq_refl,exs_refl (fun e _=>ex_refl e),fms_refl ih,Bool.and_true]
end Go.Proofs.YtjeolbgpllbemaaGreat
namespace Go.Proofs.YtjeolbgpllbemaaGreat
open Go.AM
set_option maxHeartbeats 4000000
set_option maxRecDepth 20000
theorem at_refl(a:At):a.same a=true:=by simp[At.same,bEq_refl,bsEq_refl]
theorem ats_refl: ∀ l:List At,atsEq l l=true
 |[]=>rfl
 |a::l=>by simp[atsEq,at_refl,ats_refl l]
theorem vls_refl: ∀ l:List Vl,vlsEq l l=true
 |[]=>rfl
 |a::l=>by simp[vlsEq,Vl.same,at_refl,vls_refl l]
theorem pb_refl(p:Pb):p.same p=true:=by simp[Pb.same,bEq_refl,pmsEq_refl,ats_refl,vls_refl,fm_refl]
end Go.Proofs.YtjeolbgpllbemaaGreat
namespace Go.Proofs.YtjeolbgpllbemaaGreat
open Go.AM
set_option maxHeartbeats 4000000
set_option maxRecDepth 20000
theorem okS_of{p:Pb}(h:p.ok):p.okS:=⟨h.2.2.1.1,h.2.2.2.1,⟨h.2.2.2.2.1.1,fun v hv=>(h.2.2.2.2.1.2 v hv).1⟩,h.2.2.2.2.2⟩
theorem writeB_goal{p:Pb}(h:writeB p=true):validF p.goal=true:=by
 unfold writeB at h
 simp only[Bool.and_eq_true]at h
 exact h.1.1
end Go.Proofs.YtjeolbgpllbemaaGreat
namespace Go.Proofs.YtjeolbgpllbemaaGreat
open Go.AM
set_option maxHeartbeats 4000000
set_option maxRecDepth 20000
def exprs2:List Sx→List Ex × Int
 |[a,b]=>(match exprP a with
  | (ea, ca) => bif ca == 0 then (match exprP b with
   |(eb,cb)=>bif cb==0 then([ea,eb],0)else([],cb))else([],ca))
 |_=>([],2)
end Go.Proofs.YtjeolbgpllbemaaGreat
namespace Go.Proofs.YtjeolbgpllbemaaGreat
open Go.AM
set_option maxHeartbeats 4000000
set_option maxRecDepth 20000
theorem rvalidS_c{x:Sx}(hok:x.ok)(hn:x.nodes≤bigN)(hd:x.depth≤bigN)(h:Heap):PCall Tryz.prog 21 [.agg x.cells] h fun r h'=>r= .sc (.bool (svalid x 0 0).1)∧h'=h:=by
 rw[valid_same hn]
 exact rvalid_c hok hd h
end Go.Proofs.YtjeolbgpllbemaaGreat
namespace Go.Proofs.YtjeolbgpllbemaaGreat
open Go.AM
set_option maxHeartbeats 8000000
set_option maxRecDepth 20000
theorem lword_c{s:ByteArray}(h:Heap):PCall Tryz.prog 20 [sPV s] h fun r h'=>r= .agg (wordM s).cells∧h'=h:=by
 refine PCall.frz Ty.hb_20 ?_
 refine pcall_body (ow:=fun _=>false) (wf:=fun _=>false) Ty.mixed Tryz.func20 rfl Ty.hb_20 (by rw[Tryz.ntmps20];simp) ?_
 rw[Tryz.ntmps20,Tryz.results20]
 repeat'(first|refine a_seq fun K hK=>?_|((first|refine a_regionS ?_|refine a_ret ?_);simp(maxSteps:=2000000) only[Ty.w,simprocAttr])|(refine hK _ _ ?_;clear hK;try simp only[pst0,simprocAttr]))
 refine⟨?_,((Grow.refl h).new _).set (Nat.le_refl _) _⟩
 simp only[wordM,Sx.cells,Sx.rows,FrzTo,FrzL]
 exact⟨_,rfl,rfl,rfl,rfl,rfl,rfl,.inr (.inl ⟨rfl,.inr rfl⟩),trivial⟩
theorem llist_c(l:List Sx){z:PV}(hz:z= .imm 6 (Sx.rows l)∨(l=[]∧z= .sc (.slice none 0 0)))(h:Heap):PCall Tryz.prog 19 [z] h fun r h'=>r= .agg (listM l).cells∧h'=h:=by
 refine PCall.frz Ty.hb_19 ?_
 rcases hz with rfl|⟨rfl,rfl⟩
 ·refine pcall_body (ow:=fun _=>false) (wf:=fun _=>false) Ty.mixed Tryz.func19 rfl Ty.hb_19 (by rw[Tryz.ntmps19];simp) ?_
  rw[Tryz.ntmps19,Tryz.results19]
  repeat'(first|refine a_seq fun K hK=>?_|((first|refine a_regionS ?_|refine a_ret ?_);simp(maxSteps:=2000000) only[Ty.w,simprocAttr])|(refine hK _ _ ?_;clear hK;try simp only[pst0,simprocAttr]))
  refine⟨?_,((Grow.refl h).new _).set (Nat.le_refl _) _⟩
  simp only[listM,Sx.cells,FrzTo,FrzL]
  exact⟨_,rfl,rfl,rfl,rfl,rfl,rfl,.inl ⟨rfl,sxs_in _ _⟩,trivial⟩
 ·refine pcall_body (ow:=fun _=>false) (wf:=fun _=>false) Ty.mixed Tryz.func19 rfl Ty.hb_19 (by rw[Tryz.ntmps19];simp) ?_
  rw[Tryz.ntmps19,Tryz.results19]
  repeat'(first|refine a_seq fun K hK=>?_|((first|refine a_regionS ?_|refine a_ret ?_);simp(maxSteps:=2000000) only[Ty.w,simprocAttr])|(refine hK _ _ ?_;clear hK;try simp only[pst0,simprocAttr]))
  refine⟨?_,((Grow.refl h).new _).set (Nat.le_refl _) _⟩
  simp only[listM,Sx.cells,Sx.rows,FrzTo,FrzL]
  exact⟨_,rfl,rfl,rfl,rfl,rfl,rfl,.inr (.inl ⟨rfl,.inr rfl⟩),trivial⟩
theorem problemParts_c{p:Pb}(hok:p.ok)(hsm:PbSm p){T:List Bool}:
  PCall Tryz.prog 6 [.agg p.cells,.imm 1 (T.map fun b=>[.sc (.bool b)])] Heap.nil fun r _=>r= .sc (.bool true):=by
 have hL:=plarge_c p (okS_of hok)
 have hW:=fun h:Heap=>pWrite_c hok hsm h
 have hTl:(T.map fun b=>[PV.sc (.bool b)]).length=T.length:=List.length_map ..
 cases l1:largeP p with
 |true=>
  rw[l1]at hL
  generalize(T.map fun b=>[PV.sc (.bool b)])=TT at hTl
  clear hW hok hsm l1
  obtain⟨pn,pd,po,pi,pv,⟨gop,gna,gar,gpa,gex,gki⟩⟩:=p
  simp only[Pb.cells,Fm.cells,List.cons_append,List.nil_append]at hL⊢
  refine pcall_body (ow:=fun _=>false) (wf:=fun _=>false) Ty.mixed Tryz.func6 rfl Ty.hb_6 (by rw[Tryz.ntmps6];simp) ?_
  rw[Tryz.ntmps6,Tryz.results6]
  repeat'(first|refine a_seq fun K hK=>?_|(refine a_regionS ?_;simp(maxSteps:=2000000) only[Ty.w,simprocAttr])|(refine hK _ _ ?_;clear hK;try simp only[pst0,simprocAttr]))
  refine owp_useQ (hL _) (by(try simp only[Ty.w,simprocAttr,]);try rfl) ?_;simp(maxSteps:=2000000) only[Ty.w,simprocAttr,]
  repeat'(first|refine a_seq fun K hK=>?_|(refine a_regionS ?_;simp(maxSteps:=2000000) only[Ty.w,simprocAttr])|(refine hK _ _ ?_;clear hK;try simp only[pst0,simprocAttr]))
  refine owp_useQ (pbAwake_c) (by(try simp only[Ty.w,simprocAttr,]);try rfl) ?_;simp(maxSteps:=2000000) only[Ty.w,simprocAttr,]
  repeat'(first|(refine a_ret ?_;simp(maxSteps:=2000000) only[Ty.w,simprocAttr])|(refine hK _ _ ?_;clear hK;try simp only[pst0,simprocAttr]))
 |false=>
  rw[l1]at hL
  cases l2:decide ((T.length:Int)>1000)with
  |true=>
   generalize(T.map fun b=>[PV.sc (.bool b)])=TT at hTl
   clear hW hok hsm l1
   obtain⟨pn,pd,po,pi,pv,⟨gop,gna,gar,gpa,gex,gki⟩⟩:=p
   simp only[Pb.cells,Fm.cells,List.cons_append,List.nil_append]at hL⊢
   refine pcall_body (ow:=fun _=>false) (wf:=fun _=>false) Ty.mixed Tryz.func6 rfl Ty.hb_6 (by rw[Tryz.ntmps6];simp) ?_
   rw[Tryz.ntmps6,Tryz.results6]
   repeat'(first|refine a_seq fun K hK=>?_|(refine a_regionS ?_;simp(maxSteps:=2000000) only[Ty.w,simprocAttr])|(refine hK _ _ ?_;clear hK;try simp only[pst0,simprocAttr]))
   refine owp_useQ (hL _) (by(try simp only[Ty.w,simprocAttr,hTl,l2]);try rfl) ?_;simp(maxSteps:=2000000) only[Ty.w,simprocAttr,hTl,l2]
   repeat'(first|refine a_seq fun K hK=>?_|(refine a_regionS ?_;simp(maxSteps:=2000000) only[Ty.w,simprocAttr,hTl,l2])|(refine hK _ _ ?_;clear hK;try simp only[pst0,simprocAttr]))
   refine owp_useQ (pbAwake_c) (by(try simp only[Ty.w,simprocAttr,]);try rfl) ?_;simp(maxSteps:=2000000) only[Ty.w,simprocAttr,]
   repeat'(first|(refine a_ret ?_;simp(maxSteps:=2000000) only[Ty.w,simprocAttr])|(refine hK _ _ ?_;clear hK;try simp only[pst0,simprocAttr]))
  |false=>
   cases hw:writeB p with
   |false=>
    generalize(T.map fun b=>[PV.sc (.bool b)])=TT at hTl
    simp only[hw,Bool.false_eq_true,if_false]at hW
    clear hok hsm l1 hw
    obtain⟨pn,pd,po,pi,pv,⟨gop,gna,gar,gpa,gex,gki⟩⟩:=p
    simp only[Pb.cells,Fm.cells,List.cons_append,List.nil_append,zeroSx,Sx.cells,Sx.rows,errV]at hL hW⊢
    refine pcall_body (ow:=fun _=>false) (wf:=fun _=>false) Ty.mixed Tryz.func6 rfl Ty.hb_6 (by rw[Tryz.ntmps6];simp) ?_
    rw[Tryz.ntmps6,Tryz.results6]
    repeat'(first|refine a_seq fun K hK=>?_|(refine a_regionS ?_;simp(maxSteps:=2000000) only[Ty.w,simprocAttr])|(refine hK _ _ ?_;clear hK;try simp only[pst0,simprocAttr]))
    refine owp_useQ (hL _) (by(try simp only[Ty.w,simprocAttr,hTl,l2]);try rfl) ?_;simp(maxSteps:=2000000) only[Ty.w,simprocAttr,hTl,l2]
    skip
    refine owp_useQ (pbAwake_c) (by(try simp only[Ty.w,simprocAttr,Bool.not_true]);try rfl) ?_;simp(maxSteps:=2000000) only[Ty.w,simprocAttr,Bool.not_true]
    repeat'(first|refine a_seq fun K hK=>?_|(refine a_regionS ?_;simp(maxSteps:=2000000) only[Ty.w,simprocAttr,Bool.not_true])|(refine a_skip ?_;try simp only[pst0,simprocAttr])|(refine a_cond _ (by(try simp(maxSteps:=2000000) only[Ty.w,simprocAttr,Bool.not_true]);rfl) (fun hb=>?_) (fun hb=>?_)<;>(try simp only[hb0,decide_eq_true_eq,decide_eq_false_iff_not,simprocAttr]at hb)<;>(try(exfalso;omega)))|(refine hK _ _ ?_;clear hK;try simp only[pst0,simprocAttr]))
    refine owp_useQ (hW _) (by(try simp only[Ty.w,simprocAttr,]);try rfl) ?_;simp(maxSteps:=2000000) only[Ty.w,simprocAttr,]
    repeat'(first|refine a_seq fun K hK=>?_|((first|refine a_regionS ?_|refine a_ret ?_);simp(maxSteps:=2000000) only[Ty.w,simprocAttr])|(refine hK _ _ ?_;clear hK;try simp only[pst0,simprocAttr]))
   |true=>
    simp only[hw,if_true]at hW
    have hXo:=pbW_ok hok hsm (writeB_goal hw)
    have hcnt:=rcount_c _ hXo
    rw[pbW_eq]at hW hcnt
    have hfold:=fold_parts p
    have hhead:=rest_head (p:=p)
    have hrl:=restOf_len p
    have hsec:secsOf p=nameS opDom p.domain::restOf p:=rfl
    rw[hsec]at hW hcnt
    have hpn:=fun m hm=>parts_nodes (p:=p) (m:=m) hw hm
    have hpo:=fun m hm=>parts_ok (p:=p) (m:=m) hXo hm
    have hpp:=fun m hm hv=>parse_parts (p:=p) (m:=m) hw hm hv
    have hS:=psame_c p p (okS_of hok) (okS_of hok)
    rw[pb_refl]at hS
    have hnd: ∀ m,(partsS p m).nodes≤bigN→(partsS p m).ok→ ∀ h:Heap,PCall Tryz.prog 21 [.agg (partsS p m).cells] h fun r h'=>r= .sc (.bool (svalid (partsS p m) 0 0).1)∧h'=h:=
     fun m h1 h2 h=>rvalidS_c h2 h1 (Nat.le_trans (Sx.depth_nodes _) h1) h
    obtain⟨hno,hni,hng⟩:=parts_ok3 hXo
    have hIl:=(listM_kids hni).1
    have hY: ∀ m,partsS p m=listM [wordM opDef,nameS opPrb p.name,nameS opDom p.domain,objsS p.objects,listM (wordM opInit::m),goalF p.goal]:=fun _=>rfl
    have hI:initS p.init p.values=listM (wordM opInit::(p.init.map atW++p.values.map vlW)):=rfl
    rw[hI]at hfold
    have hLs:(p.init.map atW).length≤1048576:=by rw[List.length_map];exact hsm.i
    have hVs:(p.values.map vlW).length≤1048576:=by rw[List.length_map];exact hsm.v
    have hil:(p.init.map atW).length=p.init.length:=List.length_map ..
    have hvl:(p.values.map vlW).length=p.values.length:=List.length_map ..
    generalize p.init.map atW=L at hLs hfold hIl hpn hpo hpp hil hI
    generalize p.values.map vlW=V at hVs hfold hIl hpn hpo hpp hvl hI
    generalize objsS p.objects=O at hfold hY
    generalize goalF p.goal=G at hfold hY
    generalize restOf p=S0 at hW hcnt hfold hhead hrl
    generalize nameS opPrb p.name=B at hW hcnt hY
    generalize nameS opDom p.domain=D at hW hcnt hY
    generalize hA:wordM opDef=A at hW hcnt hY
    generalize(listM (A::B::D::S0)).count=n at hcnt
    have hR:=Sx.rows_len (A::B::D::S0)
    have hRl:((Sx.rows (A::B::D::S0)).length:Int)=(S0.length:Int)+3:=by rw[hR];simp;omega
    clear hok hsm l1 hw hXo hI
    simp only[listM,Sx.cells]at hW hcnt
    cases l3:decide (n>4000)with
    |true=>
     have l4:decide ((S0.length:Int)+3≥3)=true:=by simp;omega
     generalize(T.map fun b=>[PV.sc (.bool b)])=TT at hTl
     generalize Sx.rows (A::B::D::S0)=R at hW hcnt hRl
     obtain⟨pn,pd,po,pi,pv,⟨gop,gna,gar,gpa,gex,gki⟩⟩:=p
     simp only[Pb.cells,Fm.cells,List.cons_append,List.nil_append]at hL hW⊢
     refine pcall_body (ow:=fun _=>false) (wf:=fun _=>false) Ty.mixed Tryz.func6 rfl Ty.hb_6 (by rw[Tryz.ntmps6];simp) ?_
     rw[Tryz.ntmps6,Tryz.results6]
     repeat'(first|refine a_seq fun K hK=>?_|(refine a_regionS ?_;simp(maxSteps:=2000000) only[Ty.w,simprocAttr])|(refine hK _ _ ?_;clear hK;try simp only[pst0,simprocAttr]))
     refine owp_useQ (hL _) (by(try simp only[Ty.w,simprocAttr,hTl,l2]);try rfl) ?_;simp(maxSteps:=2000000) only[Ty.w,simprocAttr,hTl,l2]
     skip
     refine owp_useQ (pbAwake_c) (by(try simp only[Ty.w,simprocAttr,Bool.not_true]);try rfl) ?_;simp(maxSteps:=2000000) only[Ty.w,simprocAttr,Bool.not_true]
     repeat'(first|refine a_seq fun K hK=>?_|(refine a_regionS ?_;simp(maxSteps:=2000000) only[Ty.w,simprocAttr,Bool.not_true])|(refine a_skip ?_;try simp only[pst0,simprocAttr])|(refine a_cond _ (by(try simp(maxSteps:=2000000) only[Ty.w,simprocAttr,Bool.not_true]);rfl) (fun hb=>?_) (fun hb=>?_)<;>(try simp only[hb0,decide_eq_true_eq,decide_eq_false_iff_not,simprocAttr]at hb)<;>(try(exfalso;omega)))|(refine hK _ _ ?_;clear hK;try simp only[pst0,simprocAttr]))
     refine owp_useQ (hW _) (by(try simp only[Ty.w,simprocAttr,]);try rfl) ?_;simp(maxSteps:=2000000) only[Ty.w,simprocAttr,]
     repeat'(first|refine a_seq fun K hK=>?_|(refine a_regionS ?_;simp(maxSteps:=2000000) only[Ty.w,simprocAttr,nsucc])|(refine hK _ _ ?_;clear hK;try simp only[pst0,simprocAttr]))
     refine owp_useQ (hcnt _) (by(try simp only[Ty.w,simprocAttr,nsucc,l3]);try rfl) ?_;simp(maxSteps:=2000000) only[Ty.w,simprocAttr,nsucc,l3]
     repeat'(first|refine a_seq fun K hK=>?_|((first|refine a_regionS ?_|refine a_ret ?_);simp(maxSteps:=2000000) only[Ty.w,simprocAttr,nsucc,l3,hRl,l4])|(refine hK _ _ ?_;clear hK;try simp only[pst0,simprocAttr]))
    |false=>
     have l4:decide ((S0.length:Int)+3<3)=false:=by simp;omega
     have hw1:=fun h=>lword_c (s:=opObjs) h
     have hw2:=fun h=>lword_c (s:=opInit) h
     have hw3:=fun h=>lword_c (s:=opGoal) h
     have hl1:=fun h=>llist_c [wordM opObjs] (.inl rfl) h
     have hl2:=fun h=>llist_c [wordM opInit] (.inl rfl) h
     have hl3:=fun h=>llist_c [] (.inr ⟨rfl,rfl⟩) h
     have hl4:=fun h=>llist_c [wordM opGoal,listM []] (.inl rfl) h
     have hl5:=fun(l:List Sx) h=>llist_c l (.inl rfl) h
     simp only[opObjs,opInit,opGoal,sPV,wordM,listM,Sx.cells,Sx.rows]at hw1 hw2 hw3 hl1 hl2 hl3 hl4
     have hLf:=fun n h=>sx_frz n h (listM (A::B::D::S0))
     simp only[listM,Sx.cells]at hLf
     have hget: ∀ (k:Nat)(x:Sx),S0[k]? =some x→(Sx.rows (A::B::D::S0))[k+3]? =some x.cells:=fun k x hx=>Sx.rows_get (by simpa using hx)
     have hgA:(Sx.rows (A::B::D::S0))[0]? =some A.cells:=Sx.rows_get rfl
     have hgB:(Sx.rows (A::B::D::S0))[1]? =some B.cells:=Sx.rows_get rfl
     have hgD:(Sx.rows (A::B::D::S0))[2]? =some D.cells:=Sx.rows_get rfl
     generalize hTT:(T.map fun b=>[PV.sc (.bool b)])=TT at hTl
     generalize Sx.rows (A::B::D::S0)=R at hW hcnt hRl hLf hget hgA hgB hgD
     obtain⟨pn,pd,po,pi,pv,⟨gop,gna,gar,gpa,gex,gki⟩⟩:=p
     simp only[Pb.cells,Fm.cells,List.cons_append,List.nil_append]at hL hW hS hil hvl⊢
     refine pcall_body (ow:=fun t=>t==125) (wf:=fun _=>false) Ty.mixed Tryz.func6 rfl Ty.hb_6 (by rw[Tryz.ntmps6];simp) ?_
     rw[Tryz.ntmps6,Tryz.results6]
     repeat'(first|refine a_seq fun K hK=>?_|(refine a_regionS ?_;simp(maxSteps:=2000000) only[Ty.w,simprocAttr])|(refine hK _ _ ?_;clear hK;try simp only[pst0,simprocAttr]))
     refine owp_useQ (hL _) (by(try simp only[Ty.w,simprocAttr,hTl,l2]);try rfl) ?_;simp(maxSteps:=2000000) only[Ty.w,simprocAttr,hTl,l2]
     skip
     refine owp_useQ (pbAwake_c) (by(try simp only[Ty.w,simprocAttr,Bool.not_true]);try rfl) ?_;simp(maxSteps:=2000000) only[Ty.w,simprocAttr,Bool.not_true]
     repeat'(first|refine a_seq fun K hK=>?_|(refine a_regionS ?_;simp(maxSteps:=2000000) only[Ty.w,simprocAttr,Bool.not_true])|(refine a_skip ?_;try simp only[pst0,simprocAttr])|(refine a_cond _ (by(try simp(maxSteps:=2000000) only[Ty.w,simprocAttr,Bool.not_true]);rfl) (fun hb=>?_) (fun hb=>?_)<;>(try simp only[hb0,decide_eq_true_eq,decide_eq_false_iff_not,simprocAttr]at hb)<;>(try(exfalso;omega)))|(refine hK _ _ ?_;clear hK;try simp only[pst0,simprocAttr]))
     refine owp_useQ (hW _) (by(try simp only[Ty.w,simprocAttr,]);try rfl) ?_;simp(maxSteps:=2000000) only[Ty.w,simprocAttr,]
     repeat'(first|(with_reducible refine a_hold 4 ?_)|(refine hK _ _ ?_;clear hK;try simp only[pst0,simprocAttr]))
     refine⟨?_⟩
     refine a_drop 0 [(5,.cptr [.sc (.int .i64 3),.sc (.int .i64 0),.sc (.int .i64 0),.sc (.int .i64 0),sPV ⟨#[]⟩,.imm 6 R])] rfl (Nat.zero_le _) ?_ ?_
     ·intro x hx
      simp only[List.mem_cons,List.not_mem_nil,or_false]at hx
      subst hx
      simp only[FrzTo]
      exact .inr ⟨0,0,0,6,_,_,by(simp only[Ty.w,simprocAttr];try rfl),Nat.le_refl _,obj_at,rfl,hLf 0 _⟩
     refine a_gen (fun S H=>S 1= .imm 1 TT∧S 2= .cptr [sPV pn,sPV pd,.imm 2 (pmRows po),.imm 2 (atRows pi),.imm 3 (vlRows pv),sPV gop,sPV gna,.imm 1 (strRows gar),.imm 2 (pmRows gpa),.imm 5 (Ex.rows gex),.imm 6 (Fm.rows gki)]∧S 5= .cptr [.sc (.int .i64 3),.sc (.int .i64 0),.sc (.int .i64 0),.sc (.int .i64 0),sPV ⟨#[]⟩,.imm 6 R]∧S 6= .sc .nilIface) ⟨by simp only[frzS,Ty.w,simprocAttr],by simp only[frzS,Ty.w,simprocAttr],by simp only[frzS,Ty.w,simprocAttr],by simp only[frzS,Ty.w,simprocAttr]⟩ ?_
     clear hL hW
     rintro S H ⟨s1,s2,s5,s6⟩
     repeat'(first|refine a_seq fun K hK=>?_|(refine a_regionS ?_;simp(maxSteps:=2000000) only[Ty.w,simprocAttr,s1,s2,s5,s6]))
     refine owp_useQ (hcnt _) (by(try simp only[Ty.w,simprocAttr,l3]);try rfl) ?_;simp(maxSteps:=2000000) only[Ty.w,simprocAttr,l3]
     repeat'(first|refine a_seq fun K hK=>?_|(refine a_regionS ?_;simp(maxSteps:=2000000) only[Ty.w,simprocAttr,s1,s2,s5,s6,hRl,l3,l4])|(refine a_skip ?_;try simp only[pst0,simprocAttr])|(refine a_cond _ (by(try simp(maxSteps:=2000000) only[Ty.w,simprocAttr,s1,s2,s5,s6,hRl,l3,l4]);rfl) (fun hb=>?_) (fun hb=>?_)<;>(try simp only[hb0,decide_eq_true_eq,decide_eq_false_iff_not,simprocAttr]at hb)<;>(try(exfalso;omega)))|(refine hK _ _ ?_;clear hK;try simp only[pst0,simprocAttr]))
     refine owp_useQ (hw1 _) (by(try simp only[Ty.w,simprocAttr,]);try rfl) ?_;simp(maxSteps:=2000000) only[Ty.w,simprocAttr,]
     skip
     refine owp_useQ (hl1 _) (by(try simp only[Ty.w,simprocAttr,]);try rfl) ?_;simp(maxSteps:=2000000) only[Ty.w,simprocAttr,]
     skip
     refine owp_useQ (hw2 _) (by(try simp only[Ty.w,simprocAttr,]);try rfl) ?_;simp(maxSteps:=2000000) only[Ty.w,simprocAttr,]
     skip
     refine owp_useQ (hl2 _) (by(try simp only[Ty.w,simprocAttr,]);try rfl) ?_;simp(maxSteps:=2000000) only[Ty.w,simprocAttr,]
     skip
     refine owp_useQ (hw3 _) (by(try simp only[Ty.w,simprocAttr,]);try rfl) ?_;simp(maxSteps:=2000000) only[Ty.w,simprocAttr,]
     skip
     refine owp_useQ (hl3 _) (by(try simp only[Ty.w,simprocAttr,]);try rfl) ?_;simp(maxSteps:=2000000) only[Ty.w,simprocAttr,]
     skip
     have n1:(H.next=H.next+1)=False:=by simp
     have n2:(H.next=H.next+1+1)=False:=by simp;omega
     have n3:(H.next+1=H.next+1+1)=False:=by simp
     have n4:(H.next+1=H.next)=False:=by simp
     have n5:(H.next+1+1=H.next)=False:=by simp;omega
     have n6:(H.next+1+1=H.next+1)=False:=by simp
     refine owp_useQ (hl4 _) (by(try simp only[Ty.w,simprocAttr,nsucc,n1,n2,n3,n4,n5,n6]);try rfl) ?_;simp(maxSteps:=2000000) only[Ty.w,simprocAttr,nsucc,n1,n2,n3,n4,n5,n6]
     repeat'(first|refine a_seq fun K hK=>?_|(refine a_block ?_)|(refine a_regionS ?_;simp(maxSteps:=2000000) only[Ty.w,simprocAttr,s1,s2,s5,s6,nsucc,n1,n2,n3,n4,n5,n6])|(refine hK _ _ ?_;clear hK;try simp only[pst0,simprocAttr]))
     refine a_loop (fun m S h'=>S 1= .imm 1 TT∧S 2= .cptr [sPV pn,sPV pd,.imm 2 (pmRows po),.imm 2 (atRows pi),.imm 3 (vlRows pv),sPV gop,sPV gna,.imm 1 (strRows gar),.imm 2 (pmRows gpa),.imm 5 (Ex.rows gex),.imm 6 (Fm.rows gki)]∧S 5= .cptr [.sc (.int .i64 3),.sc (.int .i64 0),.sc (.int .i64 0),.sc (.int .i64 0),sPV ⟨#[]⟩,.imm 6 R]∧S 7= .ptr H.next 0 0∧S 8= .ptr (H.next+1) 0 0∧S 9= .ptr (H.next+2) 0 0∧ ∃ (k:Nat)(a:Sx × Sx × Sx),S 10= .sc (.int .i64 ((k+3:Nat):Int))∧k≤S0.length∧m=S0.length-k∧(S0.drop k).foldl stpP a=(O,listM (wordM opInit::(L++V)),G)∧
      h'.obj H.next=some (.arr 6 [a.1.cells])∧h'.obj (H.next+1)=some (.arr 6 [a.2.1.cells])∧h'.obj (H.next+2)=some (.arr 6 [a.2.2.cells])) S0.length ?_ ?_
     ·simp only[Ty.w,simprocAttr,s1,s2,s5]
      refine⟨0,dftP,rfl,Nat.zero_le _,rfl,hfold,?_,?_,?_⟩
      all_goals first|rfl|(rw[if_neg (by omega),if_neg (by omega)];try rfl)|(rw[if_neg (by omega)];try rfl)
     ·clear s1 s2 s5 s6
      have l6: ∀ x:Sx,(6≤x.cells.length)=True:=fun x=>by obtain⟨_,_,_,_,_,_⟩:=x;simp[Sx.cells]
      have d6: ∀ x:Sx,List.drop 6 x.cells=[]:=fun x=>by obtain⟨_,_,_,_,_,_⟩:=x;rfl
      rintro m S h' ⟨s1,s2,s5,s7,s8,s9,k,a,s10,hk,rfl,hf,o7,o8,o9⟩
      by_cases hlt:k<S0.length
      ·have hd:decide ((((k+3:Nat)):Int)<(S0.length:Int)+3)=true:=by simp;omega
       have w1:IntKind.i64.wrap (((k+3:Nat):Int)+1)=((k+1+3:Nat):Int):=by rw[wrap64 (by omega) (by omega)];omega
       obtain⟨x,hx⟩: ∃ x,S0[k]? =some x:=⟨_,List.getElem?_eq_getElem hlt⟩
       obtain⟨w,l,rfl⟩:=hhead x (List.mem_of_getElem? hx)
       have hgk:=hget k _ hx
       rw[drop_get hx]at hf
       simp only[List.foldl_cons,stpP,hW_list]at hf
       have hg0:(Sx.rows (wordM w::l))[0]? =some (wordM w).cells:=Sx.rows_get rfl
       have hl0:(((Sx.rows (wordM w::l)).length:Int)==0)=false:=by rw[Sx.rows_len];simp;omega
       have hxc:(listM (wordM w::l)).cells=[.sc (.int .i64 3),.sc (.int .i64 0),.sc (.int .i64 0),.sc (.int .i64 0),sPV ⟨#[]⟩,.imm 6 (Sx.rows (wordM w::l))]:=rfl
       have hwc:(wordM w).cells=[.sc (.int .i64 1),.sc (.int .i64 0),.sc (.int .i64 0),.sc (.int .i64 0),sPV w,.imm 6 []]:=rfl
       rw[hxc]at hgk
       rw[hwc]at hg0
       generalize hx0:listM (wordM w::l)=X at hf hxc
       generalize Sx.rows (wordM w::l)=RW at hgk hg0 hl0 hxc
       cases q1:(w.data.toList==(#[58,111,98,106,101,99,116,115]:Array UInt8).toList)with
       |true=>
        rw[show bEq w opObjs=true from q1]at hf
        simp only[cond_true]at hf
        repeat'(first|refine a_seq fun K hK=>?_|(refine a_block ?_)|((first|refine a_regionS ?_|refine a_region (fun K hK=>?_));simp(maxSteps:=2000000) only[Ty.w,simprocAttr,s1,s2,s5,s7,s8,s9,s10,hRl,hd,hgk,hl0,hg0,q1,o7,o8,o9,w1,l6,d6])|(refine a_skip ?_;try simp only[pst0,simprocAttr])|(refine a_cond _ (by(try simp(maxSteps:=2000000) only[Ty.w,simprocAttr,s1,s2,s5,s7,s8,s9,s10,hRl,hd,hgk,hl0,hg0,q1,o7,o8,o9,w1,l6,d6]);rfl) (fun hb=>?_) (fun hb=>?_)<;>(try simp only[hb0,decide_eq_true_eq,decide_eq_false_iff_not,simprocAttr]at hb)<;>(try(exfalso;omega)))|(refine hK _ _ ?_;clear hK;try simp only[pst0,simprocAttr]))
        refine⟨S0.length-(k+1),by omega,k+1,(X,a.2.1,a.2.2),rfl,by omega,rfl,hf,?_,?_,?_⟩
        all_goals first|(simp only[hxc];done)|rw[if_neg (by omega)]
       |false=>
        rw[show bEq w opObjs=false from q1]at hf
        simp only[cond_false]at hf
        cases q2:(w.data.toList==(#[58,105,110,105,116]:Array UInt8).toList)with
        |true=>
         rw[show bEq w opInit=true from q2]at hf
         simp only[cond_true]at hf
         repeat'(first|refine a_seq fun K hK=>?_|(refine a_block ?_)|((first|refine a_regionS ?_|refine a_region (fun K hK=>?_));simp(maxSteps:=2000000) only[Ty.w,simprocAttr,s1,s2,s5,s7,s8,s9,s10,hRl,hd,hgk,hl0,hg0,q1,q2,o7,o8,o9,w1,l6,d6])|(refine a_skip ?_;try simp only[pst0,simprocAttr])|(refine a_cond _ (by(try simp(maxSteps:=2000000) only[Ty.w,simprocAttr,s1,s2,s5,s7,s8,s9,s10,hRl,hd,hgk,hl0,hg0,q1,q2,o7,o8,o9,w1,l6,d6]);rfl) (fun hb=>?_) (fun hb=>?_)<;>(try simp only[hb0,decide_eq_true_eq,decide_eq_false_iff_not,simprocAttr]at hb)<;>(try(exfalso;omega)))|(refine hK _ _ ?_;clear hK;try simp only[pst0,simprocAttr]))
         refine⟨S0.length-(k+1),by omega,k+1,(a.1,X,a.2.2),rfl,by omega,rfl,hf,?_,?_,?_⟩
         all_goals first|(simp only[hxc];done)|rw[if_neg (by omega)]
        |false=>
         rw[show bEq w opInit=false from q2]at hf
         simp only[cond_false]at hf
         repeat'(first|refine a_seq fun K hK=>?_|(refine a_block ?_)|((first|refine a_regionS ?_|refine a_region (fun K hK=>?_));simp(maxSteps:=2000000) only[Ty.w,simprocAttr,s1,s2,s5,s7,s8,s9,s10,hRl,hd,hgk,hl0,hg0,q1,q2,o7,o8,o9,w1,l6,d6])|(refine a_skip ?_;try simp only[pst0,simprocAttr])|(refine a_cond _ (by(try simp(maxSteps:=2000000) only[Ty.w,simprocAttr,s1,s2,s5,s7,s8,s9,s10,hRl,hd,hgk,hl0,hg0,q1,q2,o7,o8,o9,w1,l6,d6]);rfl) (fun hb=>?_) (fun hb=>?_)<;>(try simp only[hb0,decide_eq_true_eq,decide_eq_false_iff_not,simprocAttr]at hb)<;>(try(exfalso;omega)))|(refine hK _ _ ?_;clear hK;try simp only[pst0,simprocAttr]))
         refine⟨S0.length-(k+1),by omega,k+1,(a.1,a.2.1,X),rfl,by omega,rfl,hf,?_,?_,?_⟩
         all_goals first|(simp only[hxc];done)|rw[if_neg (by omega)]
      ·have hd:decide ((((k+3:Nat)):Int)<(S0.length:Int)+3)=false:=by simp;omega
       have hke:k=S0.length:=by omega
       rw[hke,List.drop_length,List.foldl_nil]at hf
       subst hf
       simp only at o7 o8 o9
       clear hget hhead
       repeat'(first|(with_reducible refine a_holdR 20 ?_)|refine a_seq fun K hK=>?_|(refine a_regionS ?_;simp(maxSteps:=2000000) only[Ty.w,simprocAttr,s1,s2,s5,s7,s8,s9,s10,hRl,hd])|(refine a_exit ?_;try simp only[pst0,simprocAttr])|(refine a_cond _ (by(try simp(maxSteps:=2000000) only[Ty.w,simprocAttr,s1,s2,s5,s7,s8,s9,s10,hRl,hd]);rfl) (fun hb=>?_) (fun hb=>?_)<;>(try simp only[hb0,decide_eq_true_eq,decide_eq_false_iff_not,simprocAttr]at hb)<;>(try(exfalso;omega)))|((first|refine hK _ _ ?_|(clear hK;refine hK _ _ ?_));clear hK;try simp only[pst0,simprocAttr]))
       refine⟨?_⟩
       refine a_drop 0 [(7,.cptr O.cells),(8,.cptr (listM (wordM opInit::(L++V))).cells),(9,.cptr G.cells)] rfl (Nat.zero_le _) ?_ ?_
       ·intro x hx
        simp only[List.mem_cons,List.not_mem_nil,or_false]at hx
        rcases hx with rfl|rfl|rfl
        ·simp only[FrzTo];exact .inr ⟨_,0,0,6,_,_,s7,Nat.zero_le _,o7,rfl,sx_frz _ _ _⟩
        ·simp only[FrzTo];exact .inr ⟨_,0,0,6,_,_,s8,Nat.zero_le _,o8,rfl,sx_frz _ _ _⟩
        ·simp only[FrzTo];exact .inr ⟨_,0,0,6,_,_,s9,Nat.zero_le _,o9,rfl,sx_frz _ _ _⟩
       have hRI:=Sx.rows_len (wordM opInit::(L++V))
       have hgi: ∀ (x:Sx)(k:Nat),(L++V)[k]? =some x→(Sx.rows (wordM opInit::(L++V)))[k+1]? =some x.cells:=fun x k hx=>Sx.rows_get (by simpa using hx)
       have hic:(listM (wordM opInit::(L++V))).cells=[.sc (.int .i64 3),.sc (.int .i64 0),.sc (.int .i64 0),.sc (.int .i64 0),sPV ⟨#[]⟩,.imm 6 (Sx.rows (wordM opInit::(L++V)))]:=rfl
       rw[hic]
       simp only[List.length_cons,List.length_append]at hRI hIl
       generalize Sx.rows (wordM opInit::(L++V))=RI at hRI hgi hic
       refine a_gen (fun S H=>S 1= .imm 1 TT∧S 2= .cptr [sPV pn,sPV pd,.imm 2 (pmRows po),.imm 2 (atRows pi),.imm 3 (vlRows pv),sPV gop,sPV gna,.imm 1 (strRows gar),.imm 2 (pmRows gpa),.imm 5 (Ex.rows gex),.imm 6 (Fm.rows gki)]∧S 5= .cptr [.sc (.int .i64 3),.sc (.int .i64 0),.sc (.int .i64 0),.sc (.int .i64 0),sPV ⟨#[]⟩,.imm 6 R]∧S 7= .cptr O.cells∧S 8= .cptr [.sc (.int .i64 3),.sc (.int .i64 0),.sc (.int .i64 0),.sc (.int .i64 0),sPV ⟨#[]⟩,.imm 6 RI]∧S 9= .cptr G.cells) ⟨by simp only[frzS,Ty.w,simprocAttr,s1],by simp only[frzS,Ty.w,simprocAttr,s2],by simp only[frzS,Ty.w,simprocAttr,s5],by simp only[frzS,Ty.w,simprocAttr],by simp only[frzS,Ty.w,simprocAttr],by simp only[frzS,Ty.w,simprocAttr]⟩ ?_
       clear s1 s2 s5 s7 s8 s9 s10 o7 o8 o9
       rintro S H ⟨s1,s2,s5,s7,s8,s9⟩
       have hRIl:(RI.length:Int)=((L.length+V.length+1:Nat):Int):=by rw[hRI]
       have hpl:((atRows pi).length:Int)=(L.length:Int):=by simp[atRows,hil]
       have hql:((vlRows pv).length:Int)=(V.length:Int):=by simp[vlRows,hvl]
       have wn:IntKind.i64.wrap (1+(L.length:Int))=((L.length+1:Nat):Int):=by rw[wrap64 (by unfold bigN at hIl;omega) (by unfold bigN at hIl;omega)];omega
       have wv:IntKind.i64.wrap (((L.length+1:Nat):Int)+(V.length:Int))=((L.length+V.length+1:Nat):Int):=by rw[wrap64 (by unfold bigN at hIl;omega) (by unfold bigN at hIl;omega)];omega
       repeat'(first|refine a_seq fun K hK=>?_|(refine a_regionS ?_;simp(maxSteps:=2000000) only[Ty.w,simprocAttr,s1,s2,s5,s7,s8,s9,hRIl,hpl,hql,wn,wv])|(refine a_skip ?_;try simp only[pst0,simprocAttr])|(refine a_cond _ (by(try simp(maxSteps:=2000000) only[Ty.w,simprocAttr,s1,s2,s5,s7,s8,s9,hRIl,hpl,hql,wn,wv]);rfl) (fun hb=>?_) (fun hb=>?_)<;>(try simp only[hb0,decide_eq_true_eq,decide_eq_false_iff_not,simprocAttr]at hb)<;>(try(exfalso;omega)))|(refine hK _ _ ?_;clear hK;try simp only[pst0,simprocAttr]))
       refine owp_useQ (hw2 _) (by(try simp only[Ty.w,simprocAttr,]);try rfl) ?_;simp(maxSteps:=2000000) only[Ty.w,simprocAttr,]
       repeat'(first|refine a_seq fun K hK=>?_|(refine a_block ?_)|(refine a_regionS ?_;simp(maxSteps:=2000000) only[Ty.w,simprocAttr,s1,s2,s5,s7,s8,s9,hRIl,hpl,hql,wn,wv])|(refine hK _ _ ?_;clear hK;try simp only[pst0,simprocAttr]))
       refine a_loop (fun m S h'=>S 1= .imm 1 TT∧S 2= .cptr [sPV pn,sPV pd,.imm 2 (pmRows po),.imm 2 (atRows pi),.imm 3 (vlRows pv),sPV gop,sPV gna,.imm 1 (strRows gar),.imm 2 (pmRows gpa),.imm 5 (Ex.rows gex),.imm 6 (Fm.rows gki)]∧S 5= .cptr [.sc (.int .i64 3),.sc (.int .i64 0),.sc (.int .i64 0),.sc (.int .i64 0),sPV ⟨#[]⟩,.imm 6 R]∧S 7= .cptr O.cells∧S 8= .cptr [.sc (.int .i64 3),.sc (.int .i64 0),.sc (.int .i64 0),.sc (.int .i64 0),sPV ⟨#[]⟩,.imm 6 RI]∧S 9= .cptr G.cells∧S 12= .sc (.int .i64 ((L.length+1:Nat):Int))∧ ∃ (j k:Nat)(q:PV)(M:List Sx),S 14= .sc (.int .i64 ((j+1:Nat):Int))∧S 15= .sc (.int .i64 ((L.length+k+1:Nat):Int))∧S 16= .sc (.int .i64 ((j+k:Nat):Int))∧S 13=q∧j≤L.length∧k≤V.length∧m=L.length+V.length-(j+k)∧
        Tl h' 0 6 q (Sx.rows (wordM opInit::M))∧Mix (L.take j) (V.take k) M) (L.length+V.length) ?_ ?_
       ·simp only[Ty.w,simprocAttr,s1,s2,s5,s7,s8,s9]
        refine⟨0,0,_,[],rfl,rfl,rfl,rfl,Nat.zero_le _,Nat.zero_le _,rfl,?_,Mix.nil⟩
        exact Tl.grow (Nat.zero_le _) rfl
       ·clear s1 s2 s5 s7 s8 s9
        rintro m S h' ⟨s1,s2,s5,s7,s8,s9,s12,j,k,q,M,s14,s15,s16,s13,hj,hk,rfl,tl,mx⟩
        have hML:=mx.nodes.2
        rw[List.length_take,List.length_take,Nat.min_eq_left hj,Nat.min_eq_left hk]at hML
        have hRMl:(Sx.rows (wordM opInit::M)).length=j+k+1:=by rw[Sx.rows_len,List.length_cons,hML]
        by_cases hend:j=L.length∧k=V.length
        ·obtain ⟨rfl,rfl⟩:=hend
         rw[List.take_length,List.take_length]at mx
         have d1:decide (((L.length+1:Nat):Int)<((L.length+1:Nat):Int))=false:=by simp
         have d2:decide (((L.length+V.length+1:Nat):Int)<((L.length+V.length+1:Nat):Int))=false:=by simp
         repeat'(first|(with_reducible refine a_holdR 33 ?_)|refine a_seq fun K hK=>?_|(refine a_regionS ?_;simp(maxSteps:=2000000) only[Ty.w,simprocAttr,s1,s2,s5,s7,s8,s9,s12,s13,s14,s15,s16,hRIl,d1,d2])|(refine a_exit ?_;try simp only[pst0,simprocAttr])|(refine a_cond _ (by(try simp(maxSteps:=2000000) only[Ty.w,simprocAttr,s1,s2,s5,s7,s8,s9,s12,s13,s14,s15,s16,hRIl,d1,d2]);rfl) (fun hb=>?_) (fun hb=>?_)<;>(try simp only[hb0,decide_eq_true_eq,decide_eq_false_iff_not,simprocAttr]at hb)<;>(try(exfalso;omega)))|((first|refine hK _ _ ?_|(clear hK;refine hK _ _ ?_));clear hK;try simp only[pst0,simprocAttr]))
         refine⟨?_⟩
         refine a_drop 0 [(13,.imm 6 (Sx.rows (wordM opInit::M)))] rfl (Nat.zero_le _) ?_ ?_
         ·intro x hx
          simp only[List.mem_cons,List.not_mem_nil,or_false]at hx
          subst hx
          show FrzTo 0 _ _ (S 13)
          rw[s13]
          exact tl_frzX tl
         refine a_gen (fun S H=>S 2= .cptr [sPV pn,sPV pd,.imm 2 (pmRows po),.imm 2 (atRows pi),.imm 3 (vlRows pv),sPV gop,sPV gna,.imm 1 (strRows gar),.imm 2 (pmRows gpa),.imm 5 (Ex.rows gex),.imm 6 (Fm.rows gki)]∧S 5= .cptr [.sc (.int .i64 3),.sc (.int .i64 0),.sc (.int .i64 0),.sc (.int .i64 0),sPV ⟨#[]⟩,.imm 6 R]∧S 7= .cptr O.cells∧S 9= .cptr G.cells∧S 13= .imm 6 (Sx.rows (wordM opInit::M))) ⟨by simp only[frzS,Ty.w,simprocAttr,s2],by simp only[frzS,Ty.w,simprocAttr,s5],by simp only[frzS,Ty.w,simprocAttr,s7],by simp only[frzS,Ty.w,simprocAttr,s9],by simp only[frzS,Ty.w,simprocAttr]⟩ ?_
         have g6: ∀ x:Sx,x.cells.length=6:=fun x=>by obtain⟨_,_,_,_,_,_⟩:=x;rfl
         have t6: ∀ x:Sx,x.cells.take 6=x.cells:=fun x=>by obtain⟨_,_,_,_,_,_⟩:=x;rfl
         have a6: ∀ x:Sx,x.cells.all oneC=true:=fun x=>by obtain⟨_,_,_,_,_,_⟩:=x;rfl
         have hL6: ∀ h:Heap,PCall Tryz.prog 19 [.imm 6 [A.cells,B.cells,D.cells,O.cells,[.sc (.int .i64 3),.sc (.int .i64 0),.sc (.int .i64 0),.sc (.int .i64 0),sPV ⟨#[]⟩,.imm 6 (Sx.rows (wordM opInit::M))],G.cells]] h fun r h'=>r= .agg [.sc (.int .i64 3),.sc (.int .i64 0),.sc (.int .i64 0),.sc (.int .i64 0),sPV ⟨#[]⟩,.imm 6 [A.cells,B.cells,D.cells,O.cells,[.sc (.int .i64 3),.sc (.int .i64 0),.sc (.int .i64 0),.sc (.int .i64 0),sPV ⟨#[]⟩,.imm 6 (Sx.rows (wordM opInit::M))],G.cells]]∧h'=h:=fun h=>llist_c [A,B,D,O,listM (wordM opInit::M),G] (.inl rfl) h
         have hv:=hnd M (hpn M mx) (hpo M mx)
         have hpr:=fun h:Heap=>pParse_c (hpo M mx) h
         have hpe:=hpp M mx
         rw[hY M]at hv hpr hpe
         generalize(svalid (listM [A,B,D,O,listM (wordM opInit::M),G]) 0 0).1=b at hv hpe
         have hv2: ∀ h:Heap,PCall Tryz.prog 21 [.agg [.sc (.int .i64 3),.sc (.int .i64 0),.sc (.int .i64 0),.sc (.int .i64 0),sPV ⟨#[]⟩,.imm 6 [A.cells,B.cells,D.cells,O.cells,[.sc (.int .i64 3),.sc (.int .i64 0),.sc (.int .i64 0),.sc (.int .i64 0),sPV ⟨#[]⟩,.imm 6 (Sx.rows (wordM opInit::M))],G.cells]]] h fun r h'=>r= .sc (.bool b)∧h'=h:=fun h=>hv h
         clear hv hpn hpo hpp hY hnd tl mx
         rintro S H ⟨s2,s5,s7,s9,s13⟩
         cases b with
         |false=>
          generalize Sx.rows (wordM opInit::M)=RM at s13 hL6 hv2
          clear hpr hpe
          have W:=And.intro s5 (And.intro s7 (And.intro s9 (And.intro s13 (And.intro hgA (And.intro hgB (And.intro hgD (And.intro g6 (And.intro t6 a6))))))))
          repeat'(first|refine a_seq fun K hK=>?_|(refine a_drawS (by decide+kernel) ?_;simp(maxSteps:=2000000) only[Ty.w,simprocAttr,W,Nat.le_refl]))
          (first|refine a_dcall0 (hL6 _) (by(try simp only[Ty.w,simprocAttr,W,Nat.le_refl]);try rfl) ?_|refine a_dcallA (hL6 _) (by(try simp only[Ty.w,simprocAttr,W,Nat.le_refl]);try rfl) (by simp only[Ty.w,simprocAttr,W,Nat.le_refl];try trivial) ?_);simp(maxSteps:=2000000) only[Ty.w,simprocAttr,W,Option.getD_some,Nat.le_refl]
          refine a_past2 (by simp(maxSteps:=4000000) only[List.forall_mem_cons,Ty.w,simprocAttr,Ty.all,s5,s7,s9,s13,hgA,hgB,hgD,g6,t6,a6,Nat.le_refl];exact .inr (Does_use (hL6 _) (by(try simp only[Ty.w,simprocAttr,W,Nat.le_refl]);try rfl))) ?_
          try simp(maxSteps:=2000000) only[Ty.w,simprocAttr,W,Ty.all,Nat.le_refl]
          repeat'(first|refine a_seq fun K hK=>?_|(refine a_regionS ?_;simp(maxSteps:=2000000) only[Ty.w,simprocAttr,W,Nat.le_refl])|(refine hK _ _ ?_;clear hK;try simp only[pst0,simprocAttr])|(with_reducible refine a_past2 (by simp only[List.forall_mem_cons,Ty.w,simprocAttr,s5,s7,s9,s13,hgA,hgB,hgD,g6,t6,a6,Nat.le_refl]<;>(repeat' apply And.intro)<;>first|trivial|exact .inl (by decide+kernel)) ?_;try simp(maxSteps:=2000000) only[Ty.w,simprocAttr,W,Nat.le_refl]))
          refine owp_useQ (hv2 _) (by(try simp only[Ty.w,simprocAttr,Bool.not_false]);try rfl) ?_;simp(maxSteps:=2000000) only[Ty.w,simprocAttr,Bool.not_false]
          repeat'(first|refine a_seq fun K hK=>?_|((first|refine a_regionS ?_|refine a_ret ?_);simp(maxSteps:=2000000) only[Ty.w,simprocAttr,Bool.not_false])|(refine hK _ _ ?_;clear hK;try simp only[pst0,simprocAttr]))
         |true=>
          have hpr2: ∀ h:Heap,PCall Tryz.prog 14 [.agg [.sc (.int .i64 3),.sc (.int .i64 0),.sc (.int .i64 0),.sc (.int .i64 0),sPV ⟨#[]⟩,.imm 6 [A.cells,B.cells,D.cells,O.cells,[.sc (.int .i64 3),.sc (.int .i64 0),.sc (.int .i64 0),.sc (.int .i64 0),sPV ⟨#[]⟩,.imm 6 (Sx.rows (wordM opInit::M))],G.cells]]] h fun r h'=>r= .tup [.agg [sPV pn,sPV pd,.imm 2 (pmRows po),.imm 2 (atRows pi),.imm 3 (vlRows pv),sPV gop,sPV gna,.imm 1 (strRows gar),.imm 2 (pmRows gpa),.imm 5 (Ex.rows gex),.imm 6 (Fm.rows gki)],.sc .nilIface]∧h'=h:=fun h=>by
           have:=hpr h
           rw[hpe rfl]at this
           exact this
          generalize Sx.rows (wordM opInit::M)=RM at s13 hL6 hv2 hpr2
          clear hpr hpe
          have W:=And.intro s5 (And.intro s7 (And.intro s9 (And.intro s13 (And.intro hgA (And.intro hgB (And.intro hgD (And.intro g6 (And.intro t6 a6))))))))
          repeat'(first|refine a_seq fun K hK=>?_|(refine a_drawS (by decide+kernel) ?_;simp(maxSteps:=2000000) only[Ty.w,simprocAttr,W,Nat.le_refl]))
          (first|refine a_dcall0 (hL6 _) (by(try simp only[Ty.w,simprocAttr,W,Nat.le_refl]);try rfl) ?_|refine a_dcallA (hL6 _) (by(try simp only[Ty.w,simprocAttr,W,Nat.le_refl]);try rfl) (by simp only[Ty.w,simprocAttr,W,Nat.le_refl];try trivial) ?_);simp(maxSteps:=2000000) only[Ty.w,simprocAttr,W,Option.getD_some,Nat.le_refl]
          refine a_past2 (by simp(maxSteps:=4000000) only[List.forall_mem_cons,Ty.w,simprocAttr,Ty.all,s5,s7,s9,s13,hgA,hgB,hgD,g6,t6,a6,Nat.le_refl];exact .inr (Does_use (hL6 _) (by(try simp only[Ty.w,simprocAttr,W,Nat.le_refl]);try rfl))) ?_
          try simp(maxSteps:=2000000) only[Ty.w,simprocAttr,W,Ty.all,Nat.le_refl]
          repeat'(first|refine a_seq fun K hK=>?_|(refine a_regionS ?_;simp(maxSteps:=2000000) only[Ty.w,simprocAttr,W,Nat.le_refl])|(refine hK _ _ ?_;clear hK;try simp only[pst0,simprocAttr])|(with_reducible refine a_past2 (by simp only[List.forall_mem_cons,Ty.w,simprocAttr,s5,s7,s9,s13,hgA,hgB,hgD,g6,t6,a6,Nat.le_refl]<;>(repeat' apply And.intro)<;>first|trivial|exact .inl (by decide+kernel)) ?_;try simp(maxSteps:=2000000) only[Ty.w,simprocAttr,W,Nat.le_refl]))
          refine owp_useQ (hv2 _) (by(try simp only[Ty.w,simprocAttr,Bool.not_true]);try rfl) ?_;simp(maxSteps:=2000000) only[Ty.w,simprocAttr,Bool.not_true]
          repeat'(first|refine a_seq fun K hK=>?_|(refine a_regionS ?_;simp(maxSteps:=2000000) only[Ty.w,simprocAttr,Bool.not_true])|(refine a_skip ?_;try simp only[pst0,simprocAttr])|(refine a_cond _ (by(try simp(maxSteps:=2000000) only[Ty.w,simprocAttr,Bool.not_true]);rfl) (fun hb=>?_) (fun hb=>?_)<;>(try simp only[hb0,decide_eq_true_eq,decide_eq_false_iff_not,simprocAttr]at hb)<;>(try(exfalso;omega)))|(refine hK _ _ ?_;clear hK;try simp only[pst0,simprocAttr]))
          refine owp_useQ (hpr2 _) (by(try simp only[Ty.w,simprocAttr,]);try rfl) ?_;simp(maxSteps:=2000000) only[Ty.w,simprocAttr,]
          repeat'(first|refine a_seq fun K hK=>?_|(refine a_regionS ?_;simp(maxSteps:=2000000) only[Ty.w,simprocAttr,s2])|(refine hK _ _ ?_;clear hK;try simp only[pst0,simprocAttr]))
          refine owp_useQ (hS _) (by(try simp only[Ty.w,simprocAttr,]);try rfl) ?_;simp(maxSteps:=2000000) only[Ty.w,simprocAttr,]
          repeat'(first|(refine a_ret ?_;simp(maxSteps:=2000000) only[Ty.w,simprocAttr])|(refine hK _ _ ?_;clear hK;try simp only[pst0,simprocAttr]))
        ·clear hS hgA hgB hgD hpn hpo hpp hY hnd
         have hbb:(j+k+1+1)*72≤140737488355328:=by omega
         have w16:IntKind.i64.wrap (((j+k:Nat):Int)+1)=((j+k+1:Nat):Int):=by unfold bigN at hIl;rw[wrap64 (by omega) (by omega)];omega
         obtain⟨H1,t1,t2,t3,t4,t5⟩:=tl.tail
         have hR1: ∀ x:Sx,Sx.rows (wordM opInit::(M++[x]))=Sx.rows (wordM opInit::M)++[x.cells]:=fun x=>by
          simp only[Sx.rows_map,List.map_cons,List.map_append,List.map_nil,List.cons_append]
         generalize Sx.rows (wordM opInit::M)=RM at hRMl t1 t2 hR1
         by_cases hjl:j<L.length
         ·obtain ⟨x,hx⟩: ∃ x,L[j]? =some x:=⟨_,List.getElem?_eq_getElem hjl⟩
          have hgx:=hgi x j (by rw[List.getElem?_append_left hjl];exact hx)
          have d1:decide (((j+1:Nat):Int)<((L.length+1:Nat):Int))=true:=by simp;omega
          have w14:IntKind.i64.wrap (((j+1:Nat):Int)+1)=((j+1+1:Nat):Int):=by rw[wrap64 (by omega) (by omega)];omega
          have hl: ∀ R',R'=RM++[x.cells]→Tl (H1.new (.arr 6 R')) 0 6 (.own h'.next 0 (j+k+1+1)) (Sx.rows (wordM opInit::(M++[x])))∧Mix (L.take (j+1)) (V.take k) (M++[x]):=by
           rintro R' rfl
           rw[hR1, ← t3]
           exact⟨Tl.grow (Nat.zero_le _) (by simp[hRMl]),by rw[List.take_add_one,hx];exact mx.left x⟩
          obtain⟨xk,xv,xl,xc,xt,xs⟩:=x
          simp only[Sx.cells]at hgx hl
          by_cases hkv:k=V.length
          ·have d2:(((L.length+k+1:Nat):Int)==((L.length+V.length+1:Nat):Int))=true:=by simp;omega
           repeat'(first|refine a_seq fun K hK=>?_|((first|refine a_regionS ?_|refine a_region (fun K hK=>?_));simp(maxSteps:=2000000) only[Ty.w,simprocAttr,s1,s2,s5,s7,s8,s9,s12,s13,s14,s15,s16,hRIl,d1,d2,hgx,t1,t2,hRMl,hbb,w14,w16])|(refine a_skip ?_;try simp only[pst0,simprocAttr])|(refine a_cond _ (by(try simp(maxSteps:=2000000) only[Ty.w,simprocAttr,s1,s2,s5,s7,s8,s9,s12,s13,s14,s15,s16,hRIl,d1,d2,hgx,t1,t2,hRMl,hbb,w14,w16]);rfl) (fun hb=>?_) (fun hb=>?_)<;>(try simp only[hb0,decide_eq_true_eq,decide_eq_false_iff_not,simprocAttr]at hb)<;>(try(exfalso;omega)))|(refine hK _ _ ?_;clear hK;try simp only[pst0,simprocAttr]))
           exact⟨L.length+V.length-(j+1+k),by omega,j+1,k,_,M++[.mk xk xv xl xc xt xs],rfl,rfl,by simp;omega,rfl,by omega,hk,rfl,(hl _ rfl).1,(hl _ rfl).2⟩
          ·have hklt:k<V.length:=by omega
           obtain⟨y,hy⟩: ∃ y,V[k]? =some y:=⟨_,List.getElem?_eq_getElem hklt⟩
           have hgy:=hgi y (L.length+k) (by rw[List.getElem?_append_right (by omega),Nat.add_sub_cancel_left];exact hy)
           have w15:IntKind.i64.wrap (((L.length+k+1:Nat):Int)+1)=((L.length+k+1+1:Nat):Int):=by unfold bigN at hIl;rw[wrap64 (by omega) (by omega)];omega
           have d2:(((L.length+k+1:Nat):Int)==((L.length+V.length+1:Nat):Int))=false:=by simp;omega
           have hr: ∀ R',R'=RM++[y.cells]→Tl (H1.new (.arr 6 R')) 0 6 (.own h'.next 0 (j+k+1+1)) (Sx.rows (wordM opInit::(M++[y])))∧Mix (L.take j) (V.take (k+1)) (M++[y]):=by
            rintro R' rfl
            rw[hR1, ← t3]
            exact⟨Tl.grow (Nat.zero_le _) (by simp[hRMl]),by rw[List.take_add_one,hy];exact mx.right y⟩
           obtain⟨yk,yv,yl,yc,yt,ys⟩:=y
           simp only[Sx.cells]at hgy hr
           by_cases hit:j+k<T.length
           ·have d3:decide (((j+k:Nat):Int)<(T.length:Int))=true:=by simp;omega
            obtain⟨b,hb⟩: ∃ b,T[j+k]? =some b:=⟨_,List.getElem?_eq_getElem hit⟩
            have hgb:TT[j+k]? =some [.sc (.bool b)]:=by rw[← hTT,List.getElem?_map,hb];try rfl
            cases b with
            |true=>
             repeat'(first|refine a_seq fun K hK=>?_|((first|refine a_regionS ?_|refine a_region (fun K hK=>?_));simp(maxSteps:=2000000) only[Ty.w,simprocAttr,s1,s2,s5,s7,s8,s9,s12,s13,s14,s15,s16,hRIl,d1,d2,d3,hTl,hgb,hgx,t1,t2,hRMl,hbb,w14,w16])|(refine a_skip ?_;try simp only[pst0,simprocAttr])|(refine a_cond _ (by(try simp(maxSteps:=2000000) only[Ty.w,simprocAttr,s1,s2,s5,s7,s8,s9,s12,s13,s14,s15,s16,hRIl,d1,d2,d3,hTl,hgb,hgx,t1,t2,hRMl,hbb,w14,w16]);rfl) (fun hb=>?_) (fun hb=>?_)<;>(try simp only[hb0,decide_eq_true_eq,decide_eq_false_iff_not,simprocAttr]at hb)<;>(try(exfalso;omega)))|(refine hK _ _ ?_;clear hK;try simp only[pst0,simprocAttr]))
             exact⟨L.length+V.length-(j+1+k),by omega,j+1,k,_,M++[.mk xk xv xl xc xt xs],rfl,rfl,by simp;omega,rfl,by omega,hk,rfl,(hl _ rfl).1,(hl _ rfl).2⟩
            |false=>
             repeat'(first|refine a_seq fun K hK=>?_|((first|refine a_regionS ?_|refine a_region (fun K hK=>?_));simp(maxSteps:=2000000) only[Ty.w,simprocAttr,s1,s2,s5,s7,s8,s9,s12,s13,s14,s15,s16,hRIl,d1,d2,d3,hTl,hgb,hgy,t1,t2,hRMl,hbb,w15,w16])|(refine a_skip ?_;try simp only[pst0,simprocAttr])|(refine a_cond _ (by(try simp(maxSteps:=2000000) only[Ty.w,simprocAttr,s1,s2,s5,s7,s8,s9,s12,s13,s14,s15,s16,hRIl,d1,d2,d3,hTl,hgb,hgy,t1,t2,hRMl,hbb,w15,w16]);rfl) (fun hb=>?_) (fun hb=>?_)<;>(try simp only[hb0,decide_eq_true_eq,decide_eq_false_iff_not,simprocAttr]at hb)<;>(try(exfalso;omega)))|(refine hK _ _ ?_;clear hK;try simp only[pst0,simprocAttr]))
             exact⟨L.length+V.length-(j+(k+1)),by omega,j,k+1,_,M++[.mk yk yv yl yc yt ys],rfl,rfl,by simp;omega,rfl,hj,by omega,rfl,(hr _ rfl).1,(hr _ rfl).2⟩
           ·have d3:decide (((j+k:Nat):Int)<(T.length:Int))=false:=by simp;omega
            repeat'(first|refine a_seq fun K hK=>?_|((first|refine a_regionS ?_|refine a_region (fun K hK=>?_));simp(maxSteps:=2000000) only[Ty.w,simprocAttr,s1,s2,s5,s7,s8,s9,s12,s13,s14,s15,s16,hRIl,d1,d2,d3,hTl,hgy,t1,t2,hRMl,hbb,w15,w16])|(refine a_skip ?_;try simp only[pst0,simprocAttr])|(refine a_cond _ (by(try simp(maxSteps:=2000000) only[Ty.w,simprocAttr,s1,s2,s5,s7,s8,s9,s12,s13,s14,s15,s16,hRIl,d1,d2,d3,hTl,hgy,t1,t2,hRMl,hbb,w15,w16]);rfl) (fun hb=>?_) (fun hb=>?_)<;>(try simp only[hb0,decide_eq_true_eq,decide_eq_false_iff_not,simprocAttr]at hb)<;>(try(exfalso;omega)))|(refine hK _ _ ?_;clear hK;try simp only[pst0,simprocAttr]))
            exact⟨L.length+V.length-(j+(k+1)),by omega,j,k+1,_,M++[.mk yk yv yl yc yt ys],rfl,rfl,by simp;omega,rfl,hj,by omega,rfl,(hr _ rfl).1,(hr _ rfl).2⟩
         ·have hje:j=L.length:=by omega
          subst hje
          have hklt:k<V.length:=by omega
          obtain⟨y,hy⟩: ∃ y,V[k]? =some y:=⟨_,List.getElem?_eq_getElem hklt⟩
          have hgy:=hgi y (L.length+k) (by rw[List.getElem?_append_right (by omega),Nat.add_sub_cancel_left];exact hy)
          have w15:IntKind.i64.wrap (((L.length+k+1:Nat):Int)+1)=((L.length+k+1+1:Nat):Int):=by unfold bigN at hIl;rw[wrap64 (by omega) (by omega)];omega
          have hr: ∀ R',R'=RM++[y.cells]→Tl (H1.new (.arr 6 R')) 0 6 (.own h'.next 0 (L.length+k+1+1)) (Sx.rows (wordM opInit::(M++[y])))∧Mix (L.take L.length) (V.take (k+1)) (M++[y]):=by
           rintro R' rfl
           rw[hR1, ← t3]
           exact⟨Tl.grow (Nat.zero_le _) (by simp[hRMl]),by rw[List.take_add_one,hy];exact mx.right y⟩
          obtain⟨yk,yv,yl,yc,yt,ys⟩:=y
          simp only[Sx.cells]at hgy hr
          have d1:decide (((L.length+1:Nat):Int)<((L.length+1:Nat):Int))=false:=by simp
          have d2:decide (((L.length+k+1:Nat):Int)<((L.length+V.length+1:Nat):Int))=true:=by simp;omega
          repeat'(first|refine a_seq fun K hK=>?_|((first|refine a_regionS ?_|refine a_region (fun K hK=>?_));simp(maxSteps:=2000000) only[Ty.w,simprocAttr,s1,s2,s5,s7,s8,s9,s12,s13,s14,s15,s16,hRIl,d1,d2,hgy,t1,t2,hRMl,hbb,w15,w16])|(refine a_skip ?_;try simp only[pst0,simprocAttr])|(refine a_cond _ (by(try simp(maxSteps:=2000000) only[Ty.w,simprocAttr,s1,s2,s5,s7,s8,s9,s12,s13,s14,s15,s16,hRIl,d1,d2,hgy,t1,t2,hRMl,hbb,w15,w16]);rfl) (fun hb=>?_) (fun hb=>?_)<;>(try simp only[hb0,decide_eq_true_eq,decide_eq_false_iff_not,simprocAttr]at hb)<;>(try(exfalso;omega)))|(refine hK _ _ ?_;clear hK;try simp only[pst0,simprocAttr]))
          exact⟨L.length+V.length-(L.length+(k+1)),by omega,L.length,k+1,_,M++[.mk yk yv yl yc yt ys],rfl,rfl,by simp;omega,rfl,hj,by omega,rfl,(hr _ rfl).1,(hr _ rfl).2⟩
end Go.Proofs.YtjeolbgpllbemaaGreat
namespace Go.Proofs.YtjeolbgpllbemaaGreat
open Go.AM
set_option maxHeartbeats 1000000
set_option maxRecDepth 20000
theorem argV_bools{c:Nat}{a:PV}(h:ArgV Tryz.prog (c+2) 54 a): ∃ T:List Bool,a= .imm 1 (T.map fun b=>[.sc (.bool b)]):=by
 obtain⟨rows,h2,_,_,h5⟩:=Arg_slice Tryz.underlying54 (argV_slice Tryz.underlying54 h)
 obtain⟨T,h6,_⟩:=rows_map (Q:=fun _:Bool=>True) (f:=fun b=>[.sc (.bool b)]) rows (fun r hr=>by
  have:=(h5 r hr).2
  unfold Arg at this
  rw[Tryz.underlying4]at this
  obtain⟨b,hb⟩:=this
  exact⟨b,trivial,hb⟩)
 subst h6
 have e:Tryz.prog.cellsOf 4=1:=by kernel_rfl
 rw[e]at h2
 simp at h2
 exact⟨T,h2⟩
end Go.Proofs.YtjeolbgpllbemaaGreat
