/- What the claim rests on, part 9: the abstract machine, contracts of the functions, plain data. -/
import Derived.OpenShut
import Derived.ChangeShapes
import Derived.SizedLaws
import Derived.Test.YtdbmemfnjnkefaaGreatRows
import Derived.HandedShaped
import Derived.JoinedCond
import Derived.Test.YtdbmemfnjnkefaaGreatZs8
set_option linter.unusedVariables false
set_option linter.unusedSimpArgs false
set_option linter.unusedSectionVars false
namespace Go.AM
open Go.ChangeShapes Go.WideShapes
def partsT(P:Program)(t:TypeId):List (Nat × TypeId):=match P.underlying t with
 |some (.struct fs)=>fs.toList.map fun f=>(f.offset,f.type)
 |some (.array n e)=>(List.range n).map fun i=>(i*P.cellsOf e,e)
 |_=>[]
def inRow(P:Program)(e:Nat):Nat→List (Nat × TypeId)→Bool
 |o,[]=>o==e
 |o,p::l=>p.1==o&&inRow P e (o+P.cellsOf p.2) l
def covB(P:Program):Nat→TypeId→Bool
 |0,_=>false
 |f+1,t=>match P.underlying t with
  |some .bool=>true
  |some (.int _)=>true
  |some .string=>true
  |some (.slice e)=>decide (0<P.cellsOf e)&&covB P f e
  |some (.struct _)=>inRow P (P.cellsOf t) 0 (partsT P t)&&(partsT P t).all fun p=>covB P f p.2
  |some (.array _ _)=>inRow P (P.cellsOf t) 0 (partsT P t)&&(partsT P t).all fun p=>covB P f p.2
  |_=>false
def Arg(P:Program):Nat→TypeId→List PV→Prop
 |0,_,_=>False
 |f+1,t,ps=>match P.underlying t with
  |some .bool=> ∃ b,ps=[.sc (.bool b)]
  |some (.int k)=> ∃ n,(Lit.int k n).wf=true∧ps=[.sc (.int k n)]
  |some .string=> ∃ s:ByteArray,s.size≤reachBytes∧ps=[.sc (.string s)]
  |some (.slice e)=> ∃ rows,ps=[.imm (P.cellsOf e) rows]∧rows.length*P.bytesOf e≤reachBytes∧rows.length≤maxLen∧ ∀ r∈rows,r.length=P.cellsOf e∧Arg P f e r
  |some (.struct _)=>ps.length=P.cellsOf t∧ ∀ p∈partsT P t,Arg P f p.2 ((ps.drop p.1).take (P.cellsOf p.2))
  |some (.array _ _)=>ps.length=P.cellsOf t∧ ∀ p∈partsT P t,Arg P f p.2 ((ps.drop p.1).take (P.cellsOf p.2))
  |_=>False
section
variable {H:Type}{enc:TypeId × Value→H}{P:Program}{w:World}{sp:Nat→Bool}{held:Bool}
def RA(w:World)(ps:List PV)(cs:List Value):Prop:=(∀ v∈cs,v.oneCell'=true)∧ ∀ β n,RepL β n (fun b=>b<w.heap.size) w ps cs
theorem RA.len{ps:List PV}{cs:List Value}(h:RA w ps cs):ps.length=cs.length:=(h.2 ⟨fun _=>⟨none,0,0,0⟩,fun _=>False⟩ 0).len
theorem RA.append{ps ps':List PV}{cs cs':List Value}(h:RA w ps cs)(k:RA w ps' cs'):RA w (ps++ps') (cs++cs'):=
 ⟨fun v hv=>by exact(List.mem_append.1 hv).elim (h.1 v) (k.1 v),fun β n=>(h.2 β n).append (k.2 β n)⟩
theorem inRow_le{e:Nat}:(l:List (Nat × TypeId))→(o:Nat)→inRow P e o l=true→o≤e∧ ∀ p∈l,o≤p.1∧p.1+P.cellsOf p.2≤e
 |[],o,h=>by simp[inRow]at h;simp[h]
 |p::l,o,h=>by
  simp only[inRow,Bool.and_eq_true,beq_iff_eq]at h
  obtain⟨h1,h2⟩:=inRow_le l _ h.2
  refine⟨by omega,fun q hq=>?_⟩
  rcases List.mem_cons.1 hq with rfl|hq
  ·omega
  ·have:=h2 q hq;omega
theorem exists_list{α:Type}{R:Nat→α→Prop}:(n:Nat)→(∀ i,i<n→ ∃ x,R i x)→ ∃ l:List α,l.length=n∧ ∀ i x,l[i]? =some x→R i x
 |0,_=>⟨[],rfl,by simp⟩
 |n+1,h=>by
  obtain⟨l,h1,h2⟩:=exists_list n (fun i hi=>h i (by omega))
  obtain⟨x,hx⟩:=h n (by omega)
  refine⟨l++[x],by simp[h1],fun i y hy=>?_⟩
  rw[List.getElem?_append]at hy
  split at hy
  ·exact h2 i y hy
  ·rename_i hi
   have:i=n:=by
    have:=(List.getElem?_eq_some_iff.1 hy).1
    simp at this;omega
   subst this
   rw[h1]at hy
   simp at hy
   subst hy;exact hx
theorem weightsAll_mem{e:TypeId}{n:Nat}:{ds:List (DataW H)}→{i:Nat}→{d:DataW H}→ds[i]? =some d→n∈d.weights P e→n∈DataW.weightsAll P e ds
 |[],_,_,h,_=>by simp at h
 |d0::ds,0,d,h,hn=>by
  simp at h;subst h
  simp only[DataW.weightsAll,List.mem_append];exact .inl hn
 |d0::ds,i+1,d,h,hn=>by
  simp at h
  simp only[DataW.weightsAll,List.mem_append];exact .inr (weightsAll_mem h hn)
theorem sc_RA{v:Value}(h:v.oneCell'=true):RA w [.sc v] [v]:=
 ⟨fun u hu=>by simp at hu;subst hu;exact h,fun β n=>by simp only[RepL,Rep];exact⟨trivial,trivial⟩⟩
end
end Go.AM
namespace Go.AM
open Go.ChangeShapes Go.WideShapes
section
variable {H:Type}{enc:TypeId × Value→H}{P:Program}{w:World}{sp:Nat→Bool}{held:Bool}
def covC(P:Program)(Ts:List TypeId):Bool:=Ts.all fun t=>match P.underlying t with
 |some .bool=>true
 |some (.int _)=>true
 |some .string=>true
 |some (.slice e)=>decide (0<P.cellsOf e)&&Ts.contains e
 |some (.struct _)=>inRow P (P.cellsOf t) 0 (partsT P t)&&(partsT P t).all fun p=>Ts.contains p.2
 |some (.array _ _)=>inRow P (P.cellsOf t) 0 (partsT P t)&&(partsT P t).all fun p=>Ts.contains p.2
 |_=>false
end
end Go.AM
namespace Go.AM
open Go.ChangeShapes Go.WideShapes
section
variable {P:Program}{c:Nat}{t e:TypeId}{ps:List PV}{a:PV}
theorem Arg_int{k:IntKind}(hu:P.underlying t=some (.int k))(h:Arg P (c+1) t ps): ∃ n,(Lit.int k n).wf=true∧ps=[.sc (.int k n)]:=by
 unfold Arg at h;rw[hu]at h;exact h
theorem Arg_slice(hu:P.underlying t=some (.slice e))(h:Arg P (c+1) t ps): ∃ rows,ps=[.imm (P.cellsOf e) rows]∧rows.length*P.bytesOf e≤reachBytes∧rows.length≤maxLen∧ ∀ r∈rows,r.length=P.cellsOf e∧Arg P c e r:=by
 unfold Arg at h;rw[hu]at h;exact h
theorem Arg_struct{fs:Array Field}(hu:P.underlying t=some (.struct fs))(h:Arg P (c+1) t ps):ps.length=P.cellsOf t∧ ∀ p∈partsT P t,Arg P c p.2 ((ps.drop p.1).take (P.cellsOf p.2)):=by
 unfold Arg at h;rw[hu]at h;exact h
theorem rows_map{α:Type}{Q:α→Prop}{f:α→List PV}:(rows:List (List PV))→(∀ r∈rows, ∃ x,Q x∧r=f x)→ ∃ xs:List α,rows=xs.map f∧ ∀ x∈xs,Q x
 |[],_=>⟨[],rfl,by simp⟩
 |r::rows,h=>by
  obtain⟨xs,h1,h2⟩:=rows_map rows (fun q hq=>h q (by simp[hq]))
  obtain⟨x,h3,h4⟩:=h r (by simp)
  refine⟨x::xs,by simp[h1,h4],fun y hy=>?_⟩
  rcases List.mem_cons.1 hy with rfl|hy
  ·exact h3
  ·exact h2 y hy
theorem i64_in{n:Int}(h:(Lit.int .i64 n).wf=true): -9223372036854775808≤n∧n≤9223372036854775807:=by
 simp[Lit.wf,IntKind.min,IntKind.max,IntKind.bits,IntKind.signed]at h
 omega
end
end Go.AM
namespace Go.Proofs.YtdbmemfnjnkefaaGreat
open Go.AM
set_option maxHeartbeats 1000000
set_option maxRecDepth 20000
def recTs:List TypeId:=[39,42,135,9,3,29,32,36,37]
theorem co9:Tryz.prog.cellsOf 9=1:=by kernel_rfl
theorem co3:Tryz.prog.cellsOf 3=1:=by kernel_rfl
theorem co24:Tryz.prog.cellsOf 29=1:=by kernel_rfl
theorem by9:0<Tryz.prog.bytesOf 9:=by rw[show Tryz.prog.bytesOf 9=16 by kernel_rfl];omega
theorem len_le{n b:Nat}(h:n*b≤reachBytes)(hb:0<b):n≤bigN:=by
 have:=Nat.le_mul_of_pos_right n hb
 unfold reachBytes at h
 unfold bigN
 omega
theorem arg_str{c:Nat}{ps:List PV}(h:Arg Tryz.prog c 9 ps): ∃ s:ByteArray,s.size≤bigN∧ps=[sPV s]:=by
 cases c with
 |zero=>simp[Arg]at h
 |succ c=>
  unfold Arg at h
  rw[Tryz.underlying9]at h
  obtain⟨s,h1,h2⟩:=h
  exact⟨s,by unfold reachBytes at h1;unfold bigN;omega,h2⟩
theorem arg_i64{c:Nat}{ps:List PV}(h:Arg Tryz.prog c 3 ps): ∃ n:Int,(-9223372036854775808≤n∧n≤9223372036854775807)∧ps=[.sc (.int .i64 n)]:=by
 cases c with
 |zero=>simp[Arg]at h
 |succ c=>
  obtain⟨n,h1,h2⟩:=Arg_int Tryz.underlying3 h
  exact⟨n,i64_in h1,h2⟩
theorem arg_strs{c:Nat}{ps:List PV}(h:Arg Tryz.prog c 29 ps): ∃ l:List ByteArray,(l.length≤bigN∧ ∀ a∈l,a.size≤bigN)∧ps=[.imm 1 (strRows l)]:=by
 cases c with
 |zero=>simp[Arg]at h
 |succ c=>
  obtain⟨rows,rfl,h1,_,h2⟩:=Arg_slice Tryz.underlying29 h
  obtain⟨xs,rfl,h3⟩:=rows_map (Q:=fun s:ByteArray=>s.size≤bigN) (f:=fun s=>[sPV s]) rows (fun r hr=>arg_str (h2 r hr).2)
  refine⟨xs,⟨len_le (by simpa using h1) by9,h3⟩,?_⟩
  rw[co9];try rfl
end Go.Proofs.YtdbmemfnjnkefaaGreat
namespace Go.Proofs.YtdbmemfnjnkefaaGreat
open Go.AM
set_option maxHeartbeats 1000000
set_option maxRecDepth 20000
theorem partsAt:partsT Tryz.prog 31=[(0,9),(1,29)]:=by kernel_rfl
theorem partsVl:partsT Tryz.prog 79=[(0,31),(2,3)]:=by kernel_rfl
theorem coAt:Tryz.prog.cellsOf 31=2:=by kernel_rfl
theorem coVl:Tryz.prog.cellsOf 79=3:=by kernel_rfl
theorem coAts:Tryz.prog.cellsOf 22=1:=by kernel_rfl
theorem coVls:Tryz.prog.cellsOf 23=1:=by kernel_rfl
theorem byAt:0<Tryz.prog.bytesOf 31:=by rw[show Tryz.prog.bytesOf 31=40 by kernel_rfl];omega
theorem byVl:0<Tryz.prog.bytesOf 79:=by rw[show Tryz.prog.bytesOf 79=48 by kernel_rfl];omega
theorem arg_at{c:Nat}{ps:List PV}(h:Arg Tryz.prog c 31 ps): ∃ a:At,a.ok∧ps=atRow a:=by
 cases c with
 |zero=>simp[Arg]at h
 |succ c=>
  obtain⟨h1,h2⟩:=Arg_struct Tryz.underlying31 h
  rw[coAt]at h1
  rw[partsAt]at h2
  match ps,h1,h2 with
  |[p0,p1],_,h2=>
   have a0:=h2 (0,9) (by simp)
   have a1:=h2 (1,29) (by simp)
   simp only[co9,co24,List.drop_zero,List.drop_succ_cons,List.take_succ_cons,List.take_zero]at a0 a1
   obtain⟨s,hs,e1⟩:=arg_str a0
   obtain⟨t,ht,e2⟩:=arg_strs a1
   simp at e1 e2
   exact⟨⟨s,t⟩,⟨hs,ht⟩,by simp[atRow,e1,e2]⟩
theorem arg_ats{c:Nat}{ps:List PV}(h:Arg Tryz.prog c 22 ps): ∃ l:List At,(l.length≤bigN∧ ∀ a∈l,a.ok)∧ps=[.imm 2 (atRows l)]:=by
 cases c with
 |zero=>simp[Arg]at h
 |succ c=>
  obtain⟨rows,rfl,h1,_,h2⟩:=Arg_slice Tryz.underlying22 h
  obtain⟨xs,rfl,h3⟩:=rows_map (Q:=At.ok) (f:=atRow) rows (fun r hr=>arg_at (h2 r hr).2)
  refine⟨xs,⟨len_le (by simpa using h1) byAt,h3⟩,?_⟩
  rw[coAt];try rfl
theorem arg_vl{c:Nat}{ps:List PV}(h:Arg Tryz.prog c 79 ps): ∃ a:Vl,a.okS∧ps=vlRow a:=by
 cases c with
 |zero=>simp[Arg]at h
 |succ c=>
  obtain⟨h1,h2⟩:=Arg_struct Tryz.underlying79 h
  rw[coVl]at h1
  rw[partsVl]at h2
  match ps,h1,h2 with
  |[p0,p1,p2],_,h2=>
   have a0:=h2 (0,31) (by simp)
   have a1:=h2 (2,3) (by simp)
   simp only[coAt,co3,List.drop_zero,List.drop_succ_cons,List.take_succ_cons,List.take_zero]at a0 a1
   obtain⟨s,hs,e1⟩:=arg_at a0
   obtain⟨n,hn,e2⟩:=arg_i64 a1
   simp[atRow]at e1 e2
   exact⟨⟨s,n⟩,hs,by simp[vlRow,e1,e2]⟩
theorem arg_vls{c:Nat}{ps:List PV}(h:Arg Tryz.prog c 23 ps): ∃ l:List Vl,(l.length≤bigN∧ ∀ a∈l,a.okS)∧ps=[.imm 3 (vlRows l)]:=by
 cases c with
 |zero=>simp[Arg]at h
 |succ c=>
  obtain⟨rows,rfl,h1,_,h2⟩:=Arg_slice Tryz.underlying23 h
  obtain⟨xs,rfl,h3⟩:=rows_map (Q:=Vl.okS) (f:=vlRow) rows (fun r hr=>arg_vl (h2 r hr).2)
  refine⟨xs,⟨len_le (by simpa using h1) byVl,h3⟩,?_⟩
  rw[coVl];try rfl
end Go.Proofs.YtdbmemfnjnkefaaGreat
namespace Go.AM
open Go.ChangeShapes Go.WideShapes
open Go.Proofs.YtdbmemfnjnkefaaGreat
mutual
def PV.bulk:PV→Nat
 | .sc (.string s)=>s.size+1
 | .imm _ rows=>PV.bulkR rows+1
 |_=>1
def PV.bulkL:List PV→Nat
 |[]=>0
 |p::ps=>p.bulk+PV.bulkL ps
def PV.bulkR:List (List PV)→Nat
 |[]=>0
 |r::rs=>PV.bulkL r+PV.bulkR rs
end
theorem PV.bulkL_append: ∀ l m:List PV,PV.bulkL (l++m)=PV.bulkL l+PV.bulkL m
 |[],m=>by simp[PV.bulkL]
 |p::l,m=>by simp only[List.cons_append,PV.bulkL,PV.bulkL_append l m];omega
theorem List.getElem?_range_some{k i j:Nat}(h:(List.range k)[i]? =some j):i<k∧i=j:=by
 have h1:=(List.getElem?_eq_some_iff.1 h).1
 simp at h1
 rw[List.getElem?_range h1]at h
 simp at h
 exact⟨h1,h⟩
section
variable {H:Type}{enc:TypeId × Value→H}{P:Program}{w:World}{sp:Nat→Bool}{held:Bool}
theorem bulkR_le: ∀ (rows:List (List PV))(ds:List (DataW H)),rows.length=ds.length→(∀ (i:Nat)(r:List PV),rows[i]? =some r→ ∃ d,ds[i]? =some d∧PV.bulkL r≤Rows.uptoBulk d)→PV.bulkR rows≤Rows.uptoBulkAll ds
 |[],_,_,_=>by simp[PV.bulkR]
 |r::rows,[],h,_=>by simp at h
 |r::rows,d::ds,h,hb=>by
  have h1:=bulkR_le rows ds (by simpa using h) fun i q hq=>by simpa using hb (i+1) q (by simpa using hq)
  obtain⟨d',h2,h3⟩:=hb 0 r rfl
  simp at h2;subst h2
  simp only[PV.bulkR,Rows.uptoBulkAll];omega
theorem parts_rep5{c:Nat}{cs:List Value}:(l:List (Nat × TypeId))→(ds:List (DataW H))→(o:Nat)→inRow P cs.length o l=true→
  (∀ (i:Nat)(p:Nat × TypeId),l[i]? =some p→ ∃ d,ds[i]? =some d∧ ∃ ps,Arg P c p.2 ps∧RA w ps ((cs.drop p.1).take (P.cellsOf p.2))∧PV.bulkL ps≤Rows.uptoBulk d)→
  ∃ ps,RA w ps (cs.drop o)∧(∀ p∈l,Arg P c p.2 ((ps.drop (p.1-o)).take (P.cellsOf p.2)))∧PV.bulkL ps≤Rows.uptoBulkAll ds
 |[],ds,o,h,_=>by
  simp[inRow]at h
  refine⟨[],⟨?_,fun β n=>?_⟩,by simp,by simp[PV.bulkL]⟩
  ·rw [List.drop_of_length_le (by omega)];simp
  ·rw [List.drop_of_length_le (by omega)];simp[RepL]
 |p::l,[],o,h,hp=>by
  obtain⟨d,hd,_⟩:=hp 0 p rfl
  simp at hd
 |p::l,d::ds,o,h,hp=>by
  have hle:=(inRow_le (p::l) o h).2 p (by simp)
  simp only[inRow,Bool.and_eq_true,beq_iff_eq]at h
  obtain⟨ps,h1,h2,h20⟩:=parts_rep5 l ds _ h.2 (fun i q hq=>by simpa using hp (i+1) q (by simpa using hq))
  obtain⟨d',hd,ps0,h3,h4,h40⟩:=hp 0 p rfl
  simp at hd;subst hd
  have hl2:=(inRow_le l _ h.2).2
  have e0:p.1=o:=h.1
  have l0:ps0.length=P.cellsOf p.2:=by rw[h4.len,List.length_take,List.length_drop];omega
  refine⟨ps0++ps,?_,fun q hq=>?_,by rw[PV.bulkL_append];simp only[Rows.uptoBulkAll];omega⟩
  ·have:cs.drop o=(cs.drop p.1).take (P.cellsOf p.2)++cs.drop (o+P.cellsOf p.2):=by
    rw[e0, ← List.drop_drop,List.take_append_drop]
   rw[this]
   exact h4.append h1
  ·rcases List.mem_cons.1 hq with rfl|hq
   ·rw [e0,Nat.sub_self,List.drop_zero,List.take_append_of_le_length (by omega),List.take_of_length_le (by omega)]
    exact h3
   ·have h5:=hl2 q hq
    have:q.1-o=ps0.length+(q.1-(o+P.cellsOf p.2)):=by omega
    rw[this, ← List.drop_drop,List.drop_left]
    exact h2 q hq
theorem arg_rec5{Ts:List TypeId}(hT:covC P Ts=true): ∀ (fuel:Nat)(t:TypeId),Ts.contains t=true→ ∀ (cs:List Value)(x:DataW H × List MemPlace),DataW.trod enc P w 0 sp held fuel t cs=some x→(∀ n∈x.1.weights P t,n≤reachBytes)→
  ∃ ps,Arg P fuel t ps∧RA w ps cs∧PV.bulkL ps≤Rows.uptoBulk x.1
 |0,_,_,_,_,hx,_=>by simp[DataW.trod]at hx
 |c+1,t,ht,cs,x,hx,hw=>by
  have h:=List.all_eq_true.1 hT t (by simpa using ht)
  split at h
  ·rename_i hu
   obtain⟨b,rfl,rfl⟩:=DataW.trod_bool hu hx
   refine⟨[.sc (.bool b)],?_,sc_RA rfl,by simp[PV.bulkL,PV.bulk,Rows.uptoBulk]⟩
   unfold Arg;rw[hu];exact⟨b,rfl⟩
  ·rename_i k hu
   obtain⟨n,rfl,rfl,hwf⟩:=DataW.trod_int hu hx
   refine⟨[.sc (.int k n)],?_,sc_RA rfl,by simp[PV.bulkL,PV.bulk,Rows.uptoBulk]⟩
   unfold Arg;rw[hu];exact⟨n,hwf,rfl⟩
  ·rename_i hu
   obtain⟨s,rfl,rfl,hs⟩:=DataW.trod_string hu hx
   refine⟨[.sc (.string s)],?_,sc_RA rfl,by have e:s.data.toList.length=s.size:=by{rw[Array.length_toList];try rfl};simp only[PV.bulkL,PV.bulk,Rows.uptoBulk];omega⟩
   unfold Arg;rw[hu]
   refine⟨s,?_,rfl⟩
   have:=hw s.data.toList.length (by simp[DataW.weights])
   simpa using this
  ·rename_i e hu
   simp only[Bool.and_eq_true,decide_eq_true_eq]at h
   obtain⟨hpos,hcov⟩:=h
   rcases DataW.trod_slice hu hx with⟨rfl,rfl⟩|⟨a,len,cap,elems,rest,n,hfu,rfl,rfl,hb,hl,hm,hlen,hel,hsp,hns⟩
   ·refine ⟨[.imm (P.cellsOf e) []],?_,⟨fun v hv=>?_,fun β n=>?_⟩,by simp[PV.bulkL,PV.bulk,PV.bulkR,Rows.uptoBulk]⟩
    ·unfold Arg;rw[hu];exact⟨[],rfl,by simp,by simp,by simp⟩
    ·simp at hv;subst hv;rfl
    ·simp only[RepL,Rep]
     exact⟨⟨none,0,rfl,Nat.le_refl _,Nat.zero_le _,.inl (by trivial)⟩,trivial⟩
   ·obtain rfl:c=n:=by omega
    have each: ∀ i,i<len→ ∃ r:List PV,(r.length=P.cellsOf e∧Arg P c e r∧ ∃ d,(elems.map (·.1))[i]? =some d∧PV.bulkL r≤Rows.uptoBulk d)∧ ∃ ci,RA w r ci∧ci.length=P.cellsOf e∧ ∀ j,j<P.cellsOf e→w.cell? ((a.add (i*P.cellsOf e)).add j)=ci[j]?:=by
     intro i hi
     have h1:=hel i hi
     have h2:elems[i]? =some (elems[i]'(by omega)):=List.getElem?_eq_getElem _
     rw[h2,Option.bind_eq_some_iff]at h1
     obtain⟨ci,h3,h4⟩:=h1
     obtain⟨_,h5,h6⟩:=World.cells?_some h3
     obtain⟨r,h7,h8,h80⟩:=arg_rec5 hT c e hcov ci _ h4 (fun m hm=>hw m (by
      simp only[DataW.weights,hu,List.mem_cons,List.mem_append]
      exact .inr (.inl (weightsAll_mem (i:=i) (by rw[List.getElem?_map,h2];try rfl) hm))))
     exact⟨r,⟨by rw[h8.len,h5],h7,_,by rw[List.getElem?_map,h2];try rfl,h80⟩,ci,h8,h5,h6⟩
    obtain⟨rows,hrl,hrows⟩:=exists_list len each
    refine⟨[.imm (P.cellsOf e) rows],?_,⟨fun v hv=>?_,fun β m=>?_⟩,?_⟩
    ·unfold Arg;rw[hu]
     refine⟨rows,rfl,?_,by omega,fun r hr=>?_⟩
     ·have:=hw ((elems.map (·.1)).length*P.bytesOf e+(rest.map (·.1)).length*P.bytesOf e) (by
       simp only[DataW.weights,hu,List.mem_cons,Nat.add_mul,true_or])
      have h9:rows.length=(elems.map (·.1)).length:=by simp[hrl,hlen]
      rw[h9]
      exact Nat.le_trans (Nat.le_add_right _ _) this
     ·obtain ⟨i,hi⟩:=List.getElem?_of_mem hr
      exact⟨(hrows i r hi).1.1,(hrows i r hi).1.2.1⟩
    ·simp at hv;subst hv;rfl
    ·simp only[RepL,Rep]
     refine⟨⟨some a,cap,by rw[hrl],by omega,hm,?_⟩,trivial⟩
     by_cases h0:len=0
     ·left;exact List.length_eq_zero_iff.1 (by omega)
     ·right
      obtain⟨_,_,c0,_,hc0,hcell0⟩:=each 0 (by omega)
      have h10:=hcell0 0 hpos
      rw[List.getElem?_eq_getElem (by omega)]at h10
      simp only[Nat.zero_mul,Addr.add,if_true]at h10
      have hs:a.spot=none:=by
       unfold World.cell? at h10
       split at h10
       ·split at h10
        ·simp at h10
        ·rename_i hsp;simpa using hsp
       ·simp at h10
      have hblk:a.block<w.heap.size:=by
       unfold World.cell? at h10
       split at h10
       ·rename_i hh;exact(Array.getElem?_eq_some_iff.1 hh).1
       ·simp at h10
      refine⟨a.block,a.off,hblk,by cases a;simp only at hs;subst hs;rfl,?_⟩
      rw[RepR_iff]
      intro i r hr
      obtain⟨⟨g1,_⟩,ci,g2,g3,g4⟩:=hrows i r hr
      refine⟨g1,?_⟩
      rw[RepS_iff]
      intro j p hp
      obtain⟨v,hv,hrep⟩:=(g2.2 β m).get hp
      have hj:j<P.cellsOf e:=by rw[← g3];exact(List.getElem?_eq_some_iff.1 hv).1
      refine⟨v,?_,g2.1 v (List.mem_of_getElem? hv),hrep⟩
      rw[← hv, ← g4 j hj]
      congr 1
      cases a
      simp only at hs;subst hs
      simp only[Addr.add]
      split<;>split<;>simp_all<;>omega
    ·have hb5:=bulkR_le rows (elems.map (·.1)) (by simp[hrl,hlen]) fun i r hr=>(hrows i r hr).1.2.2
     simp only[PV.bulkL,PV.bulk,Rows.uptoBulk]
     omega
  ·rename_i fs hu
   simp only[Bool.and_eq_true,List.all_eq_true]at h
   obtain⟨xs,n,hfu,rfl,hcl,hxl,hp⟩:=DataW.trod_struct hu hx
   obtain rfl:c=n:=by omega
   have hpt:partsT P t=fs.toList.map fun f=>(f.offset,f.type):=by unfold partsT;rw[hu]
   obtain⟨ps,h1,h2,h30⟩:=parts_rep5 (w:=w) (c:=c) (cs:=cs) (partsT P t) (xs.map (·.1)) 0 (by rw[hcl];exact h.1) (fun i p hi=>by
    have hcv:=h.2 p (List.mem_of_getElem? hi)
    rw[hpt]at hi
    rw[List.getElem?_map,Option.map_eq_some_iff]at hi
    obtain⟨f,hf,rfl⟩:=hi
    have hf':fs[i]? =some f:=by simpa using hf
    have hi':i<xs.length:=by
     rw[hxl]
     exact(Array.getElem?_eq_some_iff.1 hf').1
    have h3:=hp i f hf'
    rw[List.getElem?_eq_getElem hi']at h3
    exact⟨xs[i].1,by rw[List.getElem?_map,List.getElem?_eq_getElem hi'];try rfl,arg_rec5 hT c f.type hcv _ _ h3 (fun m hm=>hw m (by
     simp only[DataW.weights,hu]
     exact DataW.weights_mem_each (j:=i) (t:=f.type) (d:=xs[i].1) (by rw[List.getElem?_map,hf];try rfl) (by rw[List.getElem?_map,List.getElem?_eq_getElem hi'];try rfl) m hm))⟩)
   refine⟨ps,?_,by simpa using h1,by simp only[Rows.uptoBulk];omega⟩
   unfold Arg;rw[hu]
   exact⟨by rw[h1.len,List.drop_zero,hcl],fun p hpm=>by simpa using h2 p hpm⟩
  ·rename_i k e hu
   simp only[Bool.and_eq_true,List.all_eq_true]at h
   obtain⟨xs,n,hfu,rfl,hcl,hxl,hp⟩:=DataW.trod_array hu hx
   obtain rfl:c=n:=by omega
   have hpt:partsT P t=(List.range k).map fun i=>(i*P.cellsOf e,e):=by unfold partsT;rw[hu]
   obtain⟨ps,h1,h2,h30⟩:=parts_rep5 (w:=w) (c:=c) (cs:=cs) (partsT P t) (xs.map (·.1)) 0 (by rw[hcl];exact h.1) (fun i p hi=>by
    have hcv:=h.2 p (List.mem_of_getElem? hi)
    rw[hpt,List.getElem?_map,Option.map_eq_some_iff]at hi
    obtain⟨j,hj,rfl⟩:=hi
    obtain⟨hjk,rfl⟩:=List.getElem?_range_some hj
    have hi':i<xs.length:=by rw[hxl];exact hjk
    have h3:=hp i hjk
    rw[List.getElem?_eq_getElem hi']at h3
    exact⟨xs[i].1,by rw[List.getElem?_map,List.getElem?_eq_getElem hi'];try rfl,arg_rec5 hT c e hcv _ _ h3 (fun m hm=>hw m (by
     simp only[DataW.weights,hu]
     exact weightsAll_mem (i:=i) (d:=xs[i].1) (by rw[List.getElem?_map,List.getElem?_eq_getElem hi'];try rfl) hm))⟩)
   refine⟨ps,?_,by simpa using h1,by simp only[Rows.uptoBulk];omega⟩
   unfold Arg;rw[hu]
   exact⟨by rw[h1.len,List.drop_zero,hcl],fun p hpm=>by simpa using h2 p hpm⟩
  ·simp at h
theorem arg_value5{Ts:List TypeId}(hT:covC P Ts=true){t:TypeId}(ht:Ts.contains t=true){fs:Array Field}(hu:P.underlying t=some (.struct fs)){v:Value}{d:DataW H}{pl:List MemPlace}
  (h:DataW.Trod enc P w 0 sp held t v d pl)(hv: ∃ base,Value.okWide P w .any base t v)(hw: ∀ n∈d.weights P t,n≤reachBytes):
  ∃ c ps,Arg P c t ps∧(∀ β n,Rep β n (fun b=>b<w.heap.size) w (.agg ps) v)∧PV.bulkL ps≤Rows.uptoBulk d:=by
 obtain⟨fuel,hf⟩:=h
 obtain⟨ps,h1,h2,h3⟩:=arg_rec5 hT fuel t ht _ _ hf hw
 obtain⟨base,hv⟩:=hv
 unfold Value.okWide at hv
 simp only[hu]at hv
 obtain⟨cs,rfl,_⟩:=hv
 refine⟨fuel,ps,h1,fun β n=>?_,h3⟩
 simp only[Rep]
 exact⟨cs.toList,by simp,h2.1,h2.2 β n⟩
end
end Go.AM
namespace Go
section
variable {H:Type}{enc:TypeId × Value→H}
theorem returnsInHanded_of_cond_shaped{a:Assume}{C:Checked}{os:Os}{f:FuncId}{fn:Func}{s:OpenSpec}{k:(H:Type)→List (DataW H)→Bool}(hk:s.cond=some k){F:Stop.Interp}{conds:List PathCond}{apart fresh handsOn again:Bool}
  (own:ownKnob C.prog.godebug=none)(started:os.Started)(noInit:C.prog.inits.idxOf? f=none)(hfn:C.prog.funcs[f]? =some fn)
  (witness : ∃ (w : World) (tape : Tape) (i : Input), w.os = os ∧ (w.forCall tape i).Shaped C.prog ∧ i.vars = [] ∧ Input.okWide C.prog (w.forCall tape i) .any w.heap.size f i ∧
   s.pre6 enc C.prog fn conds apart (w.forCall tape i).memory i.args∧a.holds C.prog (lone (Frame.enter C.prog f i.args .normal) [] (w.forCall tape i)))
  (contract : ∀ (W : World) (base : Nat) (args : Array Value) (ds gs : List (DataW H)) (before : List MemPlace),
   (∀ (j:Nat) t v,fn.params[j]? =some t→args[j]? =some v→Value.okWide C.prog W .any base t v)→
   DataW.Whole enc C.prog fn.params.toList s.vars apart W args.toList ds gs before→
   k H (ds++gs)=true→
   (DataW.weightsEach C.prog (fn.params.toList++s.bare.plain.varTypes C.prog) (ds++gs)).all (·≤reachBytes)=true→
   W.ShapedOpen C.prog→
   Calls C.prog f args W fun e W'=> ∃ v,e= .returned v∧(s.at F).post enc C.prog fn apart fresh handsOn again W args v W'):
  ReturnsInHanded a C os f .any (s.pre6 enc C.prog fn conds apart) ((s.at F).post enc C.prog fn apart fresh handsOn again):=by
 refine returnsInHanded_of_calls own started noInit witness ?_
 intro w tape i _ hsh _ hok hpre _
 obtain⟨_,_,_,fn',hfn',_,_,_,_,hval⟩:=hok
 have e:fn'=fn:=Option.some.inj (hfn'.symm.trans hfn)
 subst e
 obtain⟨ds,gs,before,hw,hc,hkk⟩:=(OpenSpec.pre_some hk conds apart _ _).1 hpre.1
 have hw':=DataW.Whole.of_heap (w':=w.forCall tape i) (by rfl) hw
 refine(contract (w.forCall tape i) w.heap.size i.args ds gs before hval hw' hkk (hpre.2.weights hw) hsh).mono fun e W' ⟨v,he,hp⟩=>?_
 subst he
 exact ChangeSpec.post_blind hp
end
end Go
namespace Go.Proofs.YtdbmemfnjnkefaaGreat
open Go.AM
set_option maxHeartbeats 1000000
set_option maxRecDepth 20000
def wdTs:List TypeId:=recTs++[25,31,22,79,23]
theorem partsWd:partsT Tryz.prog 25=[(0,22),(1,23)]:=by kernel_rfl
theorem coWd:Tryz.prog.cellsOf 25=2:=by kernel_rfl
theorem arg_wd(c:Nat){ps:List PV}(h:Arg Tryz.prog c 25 ps): ∃ p:Wo,p.ok∧ps=p.cells:=by
 cases c with
 |zero=>simp[Arg]at h
 |succ c=>
  obtain⟨h1,h2⟩:=Arg_struct Tryz.underlying25 h
  rw[coWd]at h1
  rw[partsWd]at h2
  match ps,h1,h2 with
  |[p0,p1],_,h2=>
   have a0:=h2 (0,22) (by simp)
   have a1:=h2 (1,23) (by simp)
   simp only[coAts,coVls,List.drop_zero,List.drop_succ_cons,List.take_succ_cons,List.take_zero]at a0 a1
   obtain⟨atoms,ha,e0⟩:=arg_ats a0
   obtain⟨values,hv,e1⟩:=arg_vls a1
   simp at e0 e1
   exact⟨⟨atoms,values⟩,⟨ha,hv⟩,by simp only[Wo.cells,e0,e1]⟩
theorem bulkR_len1: ∀ l:List At,l.length≤PV.bulkR (atRows l)
 |[]=>by simp
 |a::l=>by
  have ih:=bulkR_len1 l
  have e:PV.bulkR (atRows (a::l))=PV.bulkL (atRow a)+PV.bulkR (atRows l):=rfl
  have e2:1≤PV.bulkL (atRow a):=by simp only[atRow,PV.bulkL,PV.bulk];omega
  rw[e];simp only[List.length_cons];omega
theorem bulkR_len2: ∀ l:List Vl,l.length≤PV.bulkR (vlRows l)
 |[]=>by simp
 |a::l=>by
  have ih:=bulkR_len2 l
  have e:PV.bulkR (vlRows (a::l))=PV.bulkL (vlRow a)+PV.bulkR (vlRows l):=rfl
  have e2:1≤PV.bulkL (vlRow a):=by simp only[vlRow,PV.bulkL,PV.bulk];omega
  rw[e];simp only[List.length_cons];omega
theorem wd_small{p:Wo}(hb:PV.bulkL p.cells≤1048576):p.atoms.length≤1048576∧p.values.length≤1048576:=by
 have h1:=bulkR_len1 p.atoms
 have h2:=bulkR_len2 p.values
 simp only[Wo.cells,PV.bulkL,PV.bulk]at hb
 omega
end Go.Proofs.YtdbmemfnjnkefaaGreat
namespace Go.AM
section
variable {P:Program}{ow:Nat→Bool}{wf:FuncId→Bool}{n:Nat}{Q:Post}{s:Slots}{h:Heap}
def alIdx(ops:List Oper):List Nat:=(List.range ops.length).filter (alB ops)
def drn2(P:Program)(ow:Nat→Bool)(wf:FuncId→Bool)(n:Nat)(ops:List Oper)(al:List Nat)(base:Nat):Nat→List Oper→Past→List (Nat × Heap)→(Slots→Heap→Prop)→Slots→Heap→Prop
 |_,[],_,_,K,s,h=>K s h
 |k,o::rest,past,hist,K,s,h=>(o.dst.all (fun d=>decide (d<n))=true)∧match wantedB ops s o with
  |none=>False
  | some b => if b = true then
    (match o.op with
    | .alloc t=>(match zeroT P t with
     | some zs => 0 < zs.length ∧ (∀ f ∈ al, k < f → (h.set (base + k) (.arr zs.length [zs.map .sc])).obj (base + f) = none) ∧ (∀ x ∈ past, pre ops x.1 k = true ∨ Does P ow x.2.1 (pev x.2.2.1) (h.set (base + k) (.arr zs.length [zs.map .sc])) x.2.2.2 (h.set (base + k) (.arr zs.length [zs.map .sc]))) ∧
       drn2 P ow wf n ops al base (k+1) rest past ((k,h)::hist) K (updO s o.dst (.ptr (base+k) 0 0)) (h.set (base+k) (.arr zs.length [zs.map .sc]))
     |none=>False)
    |_=>(match callee (pev s) o.op with
     |none=>(match eff P (o.dst.any ow) o.op (pev s) h with
      |some (v,h1)=>if isW ow wf o=true then(∀ f∈al,k<f→h1.obj (base+f)=none)∧(∀ x∈past,pre ops x.1 k=true∨Does P ow x.2.1 (pev x.2.2.1) h1 x.2.2.2 h1)∧drn2 P ow wf n ops al base (k+1) rest past ((k,h)::hist) K (updO s o.dst v) h1
       else h1=h∧(∀ x∈hist,pre ops x.1 k=true∨Does P ow o (pev s) x.2 v x.2)∧drn2 P ow wf n ops al base (k+1) rest ((k,o,s,v)::past) hist K (updO s o.dst v) h
      |none=>False)
     |some _=>(if isW ow wf o=true then ∃ v h',Does P ow o (pev s) h v h'∧((∀ f∈al,k<f→h'.obj (base+f)=none)∧ ∀ x∈pastC P ow past,pre ops x.1 k=true∨x.2 h')∧drun2 P ow wf n ops base (k+1) rest (pastC P ow past) ((k,h)::hist) K (updO s o.dst v) h'
      else ∃ v,Does P ow o (pev s) h v h∧(∀ x∈hist,pre ops x.1 k=true∨Does P ow o (pev s) x.2 v x.2)∧drun2 P ow wf n ops base (k+1) rest (pastC P ow ((k,o,s,v)::past)) hist K (updO s o.dst v) h)))
   else drn2 P ow wf n ops al base (k+1) rest past hist K (updO s o.dst (.sc undef)) h
theorem mem_alIdx{ops:List Oper}{f:Nat}(h:alB ops f=true):f∈alIdx ops:=by
 simp only[alIdx,List.mem_filter,List.mem_range]
 refine⟨?_,h⟩
 unfold alB at h
 split at h
 ·rename_i o ho
  exact(List.getElem?_eq_some_iff.1 ho).1
 ·simp at h
theorem drn2_drun2{ops:List Oper}{al:List Nat}(hal:alIdx ops=al){base:Nat}{K:Slots→Heap→Prop}:(rest:List Oper)→(k:Nat)→(past:Past)→(hist:List (Nat × Heap))→(s:Slots)→(h:Heap)→drn2 P ow wf n ops al base k rest past hist K s h→drun2 P ow wf n ops base k rest (pastC P ow past) hist K s h
 |[],_,_,_,_,_,hh=>by simpa only[drn2,drun2]using hh
 |o::rest,k,past,hist,s,h,hh=>by
  simp only[drn2]at hh
  simp only[drun2]
  refine⟨hh.1,?_⟩
  have h2:=hh.2
  clear hh
  have pc: ∀ h1,(∀ x∈past,pre ops x.1 k=true∨Does P ow x.2.1 (pev x.2.2.1) h1 x.2.2.2 h1)→ ∀ x∈pastC P ow past,pre ops x.1 k=true∨x.2 h1:=by
   intro h1 hp x hx
   obtain⟨y,hy,rfl⟩:=List.mem_map.1 hx
   exact hp y hy
  have alc: ∀ h1:Heap,(∀ f∈al,k<f→h1.obj (base+f)=none)→ ∀ f,k<f→alB ops f=true→h1.obj (base+f)=none:=fun h1 hp f hf ha=>hp f (by rw[← hal];exact mem_alIdx ha) hf
  cases hw:wantedB ops s o with
  |none=>rw[hw]at h2;exact h2
  |some b=>
   rw[hw]at h2
   simp only at h2⊢
   split at h2
   ·rename_i hb
    rw[if_pos hb]
    split at h2
    ·rename_i t hop
     split at h2
     ·rename_i zs hz
      obtain⟨a1,a2,a3,a4⟩:=h2
      have hi:isW ow wf o=true:=by unfold isW;rw[hop]
      rw[if_pos hi]
      exact⟨_,_,by unfold DoesR;rw[hop];exact⟨zs,hz,a1,rfl,rfl⟩,alc _ a2,pc _ a3,drn2_drun2 hal rest (k+1) _ _ _ _ a4⟩
     ·exact h2.elim
    ·rename_i hne
     cases hc:callee (pev s) o.op with
     |none=>
      rw[hc]at h2
      simp only at h2
      cases he:eff P (o.dst.any ow) o.op (pev s) h with
      |none=>rw[he]at h2;exact h2.elim
      |some r=>
       obtain⟨v,h1⟩:=r
       rw[he]at h2
       simp only at h2
       have hd:Does P ow o (pev s) h v h1:=by unfold Does;rw[hc];exact he
       split at h2
       ·rename_i hi
        rw[if_pos hi]
        have hdr:DoesR P ow (base+k) o (pev s) h v h1:=by
         unfold DoesR
         split
         ·rename_i t hop;exact absurd hop (hne t)
         ·exact hd
        exact⟨v,h1,hdr,alc h1 h2.1,pc h1 h2.2.1,drn2_drun2 hal rest (k+1) _ _ _ _ h2.2.2⟩
       ·rename_i hi
        rw[if_neg hi]
        obtain⟨rfl,h3,h4⟩:=h2
        exact⟨v,hd,h3,drn2_drun2 hal rest (k+1) _ _ _ _ h4⟩
     |some f=>
      rw[hc]at h2
      simp only at h2
      have dr: ∀ {v:PV}{h1:Heap},Does P ow o (pev s) h v h1→DoesR P ow (base+k) o (pev s) h v h1:=fun hd=>by
       unfold DoesR
       split
       ·rename_i t hop;exact absurd hop (hne t)
       ·exact hd
      split at h2
      ·rename_i hi
       rw[if_pos hi]
       obtain⟨v,h1,hd,h3,h4⟩:=h2
       exact⟨v,h1,dr hd,alc h1 h3.1,h3.2,h4⟩
      ·rename_i hi
       rw[if_neg hi]
       obtain⟨v,hd,h3,h4⟩:=h2
       exact⟨v,hd,h3,h4⟩
   ·rename_i hb
    rw[if_neg hb]
    exact drn2_drun2 hal rest (k+1) _ _ _ _ h2
theorem a_draw2S{id:Nat}{ops:List Oper}{K:Slots→Heap→Prop}(al:List Nat)(hd:dOk2 ow wf ops=true)(ha:alIdx ops=al)(hk:drn2 P ow wf n ops al h.next 0 ops [] [] K s ⟨h.next+ops.length,h.obj⟩):awp P ow wf n (.region id ops.toArray true) (Post.seq K Q) s h:=by
 simp only[awp,if_true];exact⟨_,_,.refl,.inr (.inl ⟨hd,drn2_drun2 ha ops 0 _ _ _ _ hk⟩)⟩
end
end Go.AM
namespace Go.Proofs.YtdbmemfnjnkefaaGreat
open Go.AM
set_option maxHeartbeats 8000000
set_option maxRecDepth 20000
theorem a_genW{P:Program}{ow:Nat→Bool}{wf:FuncId→Bool}{n:Nat}{Q:Post}{s:Slots}{h:Heap}{c:Code}(I:Slots→Heap→Prop)(hi:I s h)(hh: ∀ s h,I s h→awp P ow wf n c Q s h):awp P ow wf n c Q s h:=hh _ _ hi
theorem str_inW(n:Nat)(l:List ByteArray):inNR n (strRows l):=by
 induction l with
 |nil=>simp only[strRows,List.map_nil,inNR]
 |cons s l ih=>simp only[strRows,List.map_cons,inNR,inNL,inN,and_true,true_and]at ih⊢;exact ih
theorem ats_frzW(n:Nat)(h:Heap): ∀ l:List At,FrzR n h (atRows l) (atRows l)
 |[]=>by simp only[atRows,List.map_nil,FrzR]
 |a::l=>by
  have:=ats_frzW n h l
  simp only[atRows,List.map_cons,FrzR,atRow,FrzL,FrzTo,and_true,true_and]at this⊢
  exact⟨.inl (str_inW _ _),this⟩
theorem vls_frzW(n:Nat)(h:Heap): ∀ l:List Vl,FrzR n h (vlRows l) (vlRows l)
 |[]=>by simp only[vlRows,List.map_nil,FrzR]
 |a::l=>by
  have:=vls_frzW n h l
  simp only[vlRows,List.map_cons,FrzR,vlRow,FrzL,FrzTo,and_true,true_and]at this⊢
  exact⟨.inl (str_inW _ _),this⟩
theorem twice_ok{a:Wo}(ha:a.ok)(h1:a.atoms.length≤1048576)(h2:a.values.length≤1048576):a.twice.ok:=by
 refine⟨⟨?_,?_⟩,⟨?_,?_⟩⟩
 ·simp only[Wo.twice,List.length_append,bigN];omega
 ·intro x hx;simp only[Wo.twice,List.mem_append,or_self]at hx;exact ha.atoms.2 x hx
 ·simp only[Wo.twice,List.length_append,bigN];omega
 ·intro x hx;simp only[Wo.twice,List.mem_append,or_self]at hx;exact ha.values.2 x hx
theorem semSame_c{a b:Wo}(ha:a.ok)(hb:b.ok)(sa:a.atoms.length≤1048576)(sv:a.values.length≤1048576){h:Heap}(hob:h.obj 0=some (.glb 0 minI maxI))(hno: ∀ j,h.next≤j→h.obj j=none):
  PCall Tryz.prog 3 [.agg a.cells,.agg b.cells] h fun r _=>r= .sc (.bool true):=by
 have hA:=swAwake_c hob
 have wA:=rwide_c ha h
 have wB:=rwide_c hb h
 have hR:=rSameW_c ha hb h
 rw[rsame_eq]at hR
 have h1:=fun h:Heap=>sSame_c ha hb h
 have h2:=fun h:Heap=>sSame_c hb ha h
 rw[Wo.same_comm b a]at h2
 have h3:=fun h:Heap=>sSame_c ha (twice_ok ha sa sv) h
 rw[same_twice]at h3
 have h4:=fun h:Heap=>sSame_c (twice_ok ha sa sv) hb h
 rw[twice_same]at h4
 have hll:=atRows_len a.atoms
 have hvl:=vlRows_len a.values
 have haa:atRows (a.atoms++a.atoms)=atRows a.atoms++atRows a.atoms:=by simp[atRows]
 have hvv:vlRows (a.values++a.values)=vlRows a.values++vlRows a.values:=by simp[vlRows]
 simp only[Wo.twice,Wo.cells,haa,hvv]at h3 h4
 unfold Wo.cells at wA wB hR h1 h2⊢
 generalize a.same b=e at hR h1 h2 h4
 have hin1: ∀ n H,FrzR n H (atRows a.atoms++atRows a.atoms) (atRows a.atoms++atRows a.atoms):=fun n H=>by rw[← haa];exact ats_frzW n H _
 have hin2: ∀ n H,FrzR n H (vlRows a.values++vlRows a.values) (vlRows a.values++vlRows a.values):=fun n H=>by rw[← hvv];exact vls_frzW n H _
 obtain⟨l,v⟩:=a
 obtain⟨m,u⟩:=b
 simp only at*
 have hb1:l.length*40≤140737488355328:=by omega
 have hb2:(l.length+l.length)*40≤140737488355328:=by omega
 have hb3:v.length*48≤140737488355328:=by omega
 have hb4:(v.length+v.length)*48≤140737488355328:=by omega
 generalize atRows l=L at*
 generalize atRows m=M at*
 generalize vlRows v=V at*
 generalize vlRows u=U at*
 rw[← hll]at hb1 hb2
 rw[← hvl]at hb3 hb4
 clear hll hvl haa hvv sa sv ha hb hob
 refine pcall_body (ow:=fun _=>false) (wf:=fun _=>false) Ty.mixed Tryz.func3 rfl Ty.hb_3 (by rw[Tryz.ntmps3];simp) ?_
 rw[Tryz.ntmps3,Tryz.results3]
 repeat'(first
  |refine a_seq fun K hK=>?_
  |(refine a_block ?_)
  |((first|refine a_regionS ?_|refine a_region (fun K hK=>?_)|refine a_ret ?_);simp(maxSteps:=2000000) only[undef,am0,am1,am2,am3,amb0,amb1,amb2,amb3,amb4,lwn,drn,callee,wantedB,isW,eff,pev,pst0,retPost,resAll,resP,resV,intP,mkV,putC,pbin,sbin,strsEq,peq,pint,pshift,pstr,pun,pconv,isShift,isConstB,app,subS,lay,rowsOf,lkV,keyKind,keyEq,mfind,mput,oInt,isZeroInt,forall_const,exists_eq_left',implies_true,IntKind.bits, ↓reduceIte,Nat.reduceEqDiff,Nat.reduceAdd,Nat.reduceSub,Nat.reduceMul,Nat.reduceLT,Nat.reduceLeDiff,Nat.reduceBEq,Int.reduceLE,Int.reduceLT,Int.reduceToNat,reduceCtorEq,Ty.all])
  |(refine a_skip ?_;try simp only[pst0, ↓reduceIte,Nat.reduceEqDiff])
  |(refine a_exit ?_;try simp only[pst0, ↓reduceIte,Nat.reduceEqDiff])
  |(refine a_cond _ (by(try simp(maxSteps:=2000000) only[undef,am0,am1,am2,am3,amb0,amb1,amb2,amb3,amb4,lwn,drn,callee,wantedB,isW,eff,pev,pst0,retPost,resAll,resP,resV,intP,mkV,putC,pbin,sbin,strsEq,peq,pint,pshift,pstr,pun,pconv,isShift,isConstB,app,subS,lay,rowsOf,lkV,keyKind,keyEq,mfind,mput,oInt,isZeroInt,forall_const,exists_eq_left',implies_true,IntKind.bits, ↓reduceIte,Nat.reduceEqDiff,Nat.reduceAdd,Nat.reduceSub,Nat.reduceMul,Nat.reduceLT,Nat.reduceLeDiff,Nat.reduceBEq,Int.reduceLE,Int.reduceLT,Int.reduceToNat,reduceCtorEq,Ty.all]);rfl) (fun hb=>?_) (fun hb=>?_)<;>(try simp only[hb0,decide_eq_true_eq,decide_eq_false_iff_not,reduceCtorEq]at hb)<;>(try(exfalso;omega)))
  |(with_reducible refine ite_in (fun hb=>?_) (fun hb=>?_)<;>(try simp only[Decidable.not_not]at hb)<;>(try simp only[hb,if_true,if_false,not_false_eq_true,not_true_eq_false, ↓reduceIte])<;>(try simp only[hb0,decide_eq_true_eq,decide_eq_false_iff_not,reduceCtorEq]at hb)<;>(try(exfalso;omega)))
  |(refine hK _ _ ?_;clear hK;try simp only[pst0, ↓reduceIte,Nat.reduceEqDiff])
  |(clear hK;refine hK _ _ ?_;clear hK;try simp only[pst0, ↓reduceIte,Nat.reduceEqDiff])
  |(clear hK;clear hK;refine hK _ _ ?_;clear hK;try simp only[pst0, ↓reduceIte,Nat.reduceEqDiff])
  |(clear hK;clear hK;clear hK;refine hK _ _ ?_;clear hK;try simp only[pst0, ↓reduceIte,Nat.reduceEqDiff])
  |(rw[if_pos];rotate_left 1;omega;simp(maxSteps:=2000000) only[undef,am0,am1,am2,am3,amb0,amb1,amb2,amb3,amb4,lwn,drn,callee,wantedB,isW,eff,pev,pst0,retPost,resAll,resP,resV,intP,mkV,putC,pbin,sbin,strsEq,peq,pint,pshift,pstr,pun,pconv,isShift,isConstB,app,subS,lay,rowsOf,lkV,keyKind,keyEq,mfind,mput,oInt,isZeroInt,forall_const,exists_eq_left',implies_true,IntKind.bits, ↓reduceIte,Nat.reduceEqDiff,Nat.reduceAdd,Nat.reduceSub,Nat.reduceMul,Nat.reduceLT,Nat.reduceLeDiff,Nat.reduceBEq,Int.reduceLE,Int.reduceLT,Int.reduceToNat,reduceCtorEq,Ty.all]))
 refine owp_useL wA (by(try simp only[undef,am0,am1,am2,am3,amb0,amb1,amb2,amb3,amb4,lwn,drn,callee,wantedB,isW,eff,pev,pst0,retPost,resAll,resP,resV,intP,mkV,putC,pbin,sbin,strsEq,peq,pint,pshift,pstr,pun,pconv,isShift,isConstB,app,subS,lay,rowsOf,lkV,keyKind,keyEq,mfind,mput,oInt,isZeroInt,forall_const,exists_eq_left',implies_true,IntKind.bits, ↓reduceIte,Nat.reduceEqDiff,Nat.reduceAdd,Nat.reduceSub,Nat.reduceMul,Nat.reduceLT,Nat.reduceLeDiff,Nat.reduceBEq,Int.reduceLE,Int.reduceLT,Int.reduceToNat,reduceCtorEq]);try rfl) ?_
 rintro r h' ⟨⟨b1,rfl⟩,rfl⟩
 simp(maxSteps:=2000000) only[undef,am0,am1,am2,am3,amb0,amb1,amb2,amb3,amb4,lwn,drn,callee,wantedB,isW,eff,pev,pst0,retPost,resAll,resP,resV,intP,mkV,putC,pbin,sbin,strsEq,peq,pint,pshift,pstr,pun,pconv,isShift,isConstB,app,subS,lay,rowsOf,lkV,keyKind,keyEq,mfind,mput,oInt,isZeroInt,forall_const,exists_eq_left',implies_true,IntKind.bits, ↓reduceIte,Nat.reduceEqDiff,Nat.reduceAdd,Nat.reduceSub,Nat.reduceMul,Nat.reduceLT,Nat.reduceLeDiff,Nat.reduceBEq,Int.reduceLE,Int.reduceLT,Int.reduceToNat,reduceCtorEq,Ty.all]
 cases b1 with
 |true=>
  repeat'(first
   |refine a_seq fun K hK=>?_
   |(refine a_block ?_)
   |((first|refine a_regionS ?_|refine a_region (fun K hK=>?_)|refine a_ret ?_);simp(maxSteps:=2000000) only[undef,am0,am1,am2,am3,amb0,amb1,amb2,amb3,amb4,lwn,drn,callee,wantedB,isW,eff,pev,pst0,retPost,resAll,resP,resV,intP,mkV,putC,pbin,sbin,strsEq,peq,pint,pshift,pstr,pun,pconv,isShift,isConstB,app,subS,lay,rowsOf,lkV,keyKind,keyEq,mfind,mput,oInt,isZeroInt,forall_const,exists_eq_left',implies_true,IntKind.bits, ↓reduceIte,Nat.reduceEqDiff,Nat.reduceAdd,Nat.reduceSub,Nat.reduceMul,Nat.reduceLT,Nat.reduceLeDiff,Nat.reduceBEq,Int.reduceLE,Int.reduceLT,Int.reduceToNat,reduceCtorEq,Ty.all])
   |(refine a_skip ?_;try simp only[pst0, ↓reduceIte,Nat.reduceEqDiff])
   |(refine a_exit ?_;try simp only[pst0, ↓reduceIte,Nat.reduceEqDiff])
   |(refine a_cond _ (by(try simp(maxSteps:=2000000) only[undef,am0,am1,am2,am3,amb0,amb1,amb2,amb3,amb4,lwn,drn,callee,wantedB,isW,eff,pev,pst0,retPost,resAll,resP,resV,intP,mkV,putC,pbin,sbin,strsEq,peq,pint,pshift,pstr,pun,pconv,isShift,isConstB,app,subS,lay,rowsOf,lkV,keyKind,keyEq,mfind,mput,oInt,isZeroInt,forall_const,exists_eq_left',implies_true,IntKind.bits, ↓reduceIte,Nat.reduceEqDiff,Nat.reduceAdd,Nat.reduceSub,Nat.reduceMul,Nat.reduceLT,Nat.reduceLeDiff,Nat.reduceBEq,Int.reduceLE,Int.reduceLT,Int.reduceToNat,reduceCtorEq,Ty.all]);rfl) (fun hb=>?_) (fun hb=>?_)<;>(try simp only[hb0,decide_eq_true_eq,decide_eq_false_iff_not,reduceCtorEq]at hb)<;>(try(exfalso;omega)))
   |(with_reducible refine ite_in (fun hb=>?_) (fun hb=>?_)<;>(try simp only[Decidable.not_not]at hb)<;>(try simp only[hb,if_true,if_false,not_false_eq_true,not_true_eq_false, ↓reduceIte])<;>(try simp only[hb0,decide_eq_true_eq,decide_eq_false_iff_not,reduceCtorEq]at hb)<;>(try(exfalso;omega)))
   |(refine hK _ _ ?_;clear hK;try simp only[pst0, ↓reduceIte,Nat.reduceEqDiff])
   |(clear hK;refine hK _ _ ?_;clear hK;try simp only[pst0, ↓reduceIte,Nat.reduceEqDiff])
   |(clear hK;clear hK;refine hK _ _ ?_;clear hK;try simp only[pst0, ↓reduceIte,Nat.reduceEqDiff])
   |(clear hK;clear hK;clear hK;refine hK _ _ ?_;clear hK;try simp only[pst0, ↓reduceIte,Nat.reduceEqDiff])
   |(rw[if_pos];rotate_left 1;omega;simp(maxSteps:=2000000) only[undef,am0,am1,am2,am3,amb0,amb1,amb2,amb3,amb4,lwn,drn,callee,wantedB,isW,eff,pev,pst0,retPost,resAll,resP,resV,intP,mkV,putC,pbin,sbin,strsEq,peq,pint,pshift,pstr,pun,pconv,isShift,isConstB,app,subS,lay,rowsOf,lkV,keyKind,keyEq,mfind,mput,oInt,isZeroInt,forall_const,exists_eq_left',implies_true,IntKind.bits, ↓reduceIte,Nat.reduceEqDiff,Nat.reduceAdd,Nat.reduceSub,Nat.reduceMul,Nat.reduceLT,Nat.reduceLeDiff,Nat.reduceBEq,Int.reduceLE,Int.reduceLT,Int.reduceToNat,reduceCtorEq,Ty.all]))
  refine owp_useQ (hA) (by(try simp only[undef,am0,am1,am2,am3,amb0,amb1,amb2,amb3,amb4,lwn,drn,callee,wantedB,isW,eff,pev,pst0,retPost,resAll,resP,resV,intP,mkV,putC,pbin,sbin,strsEq,peq,pint,pshift,pstr,pun,pconv,isShift,isConstB,app,subS,lay,rowsOf,lkV,keyKind,keyEq,mfind,mput,oInt,isZeroInt,forall_const,exists_eq_left',implies_true,IntKind.bits, ↓reduceIte,Nat.reduceEqDiff,Nat.reduceAdd,Nat.reduceSub,Nat.reduceMul,Nat.reduceLT,Nat.reduceLeDiff,Nat.reduceBEq,Int.reduceLE,Int.reduceLT,Int.reduceToNat,reduceCtorEq,]);try rfl) ?_
  simp(maxSteps:=2000000) only[undef,am0,am1,am2,am3,amb0,amb1,amb2,amb3,amb4,lwn,drn,callee,wantedB,isW,eff,pev,pst0,retPost,resAll,resP,resV,intP,mkV,putC,pbin,sbin,strsEq,peq,pint,pshift,pstr,pun,pconv,isShift,isConstB,app,subS,lay,rowsOf,lkV,keyKind,keyEq,mfind,mput,oInt,isZeroInt,forall_const,exists_eq_left',implies_true,IntKind.bits, ↓reduceIte,Nat.reduceEqDiff,Nat.reduceAdd,Nat.reduceSub,Nat.reduceMul,Nat.reduceLT,Nat.reduceLeDiff,Nat.reduceBEq,Int.reduceLE,Int.reduceLT,Int.reduceToNat,reduceCtorEq,Ty.all,]
  repeat'(first
   |refine a_seq fun K hK=>?_
   |(refine a_block ?_)
   |((first|refine a_regionS ?_|refine a_region (fun K hK=>?_)|refine a_ret ?_);simp(maxSteps:=2000000) only[undef,am0,am1,am2,am3,amb0,amb1,amb2,amb3,amb4,lwn,drn,callee,wantedB,isW,eff,pev,pst0,retPost,resAll,resP,resV,intP,mkV,putC,pbin,sbin,strsEq,peq,pint,pshift,pstr,pun,pconv,isShift,isConstB,app,subS,lay,rowsOf,lkV,keyKind,keyEq,mfind,mput,oInt,isZeroInt,forall_const,exists_eq_left',implies_true,IntKind.bits, ↓reduceIte,Nat.reduceEqDiff,Nat.reduceAdd,Nat.reduceSub,Nat.reduceMul,Nat.reduceLT,Nat.reduceLeDiff,Nat.reduceBEq,Int.reduceLE,Int.reduceLT,Int.reduceToNat,reduceCtorEq,Ty.all])
   |(refine a_skip ?_;try simp only[pst0, ↓reduceIte,Nat.reduceEqDiff])
   |(refine a_exit ?_;try simp only[pst0, ↓reduceIte,Nat.reduceEqDiff])
   |(refine a_cond _ (by(try simp(maxSteps:=2000000) only[undef,am0,am1,am2,am3,amb0,amb1,amb2,amb3,amb4,lwn,drn,callee,wantedB,isW,eff,pev,pst0,retPost,resAll,resP,resV,intP,mkV,putC,pbin,sbin,strsEq,peq,pint,pshift,pstr,pun,pconv,isShift,isConstB,app,subS,lay,rowsOf,lkV,keyKind,keyEq,mfind,mput,oInt,isZeroInt,forall_const,exists_eq_left',implies_true,IntKind.bits, ↓reduceIte,Nat.reduceEqDiff,Nat.reduceAdd,Nat.reduceSub,Nat.reduceMul,Nat.reduceLT,Nat.reduceLeDiff,Nat.reduceBEq,Int.reduceLE,Int.reduceLT,Int.reduceToNat,reduceCtorEq,Ty.all]);rfl) (fun hb=>?_) (fun hb=>?_)<;>(try simp only[hb0,decide_eq_true_eq,decide_eq_false_iff_not,reduceCtorEq]at hb)<;>(try(exfalso;omega)))
   |(with_reducible refine ite_in (fun hb=>?_) (fun hb=>?_)<;>(try simp only[Decidable.not_not]at hb)<;>(try simp only[hb,if_true,if_false,not_false_eq_true,not_true_eq_false, ↓reduceIte])<;>(try simp only[hb0,decide_eq_true_eq,decide_eq_false_iff_not,reduceCtorEq]at hb)<;>(try(exfalso;omega)))
   |(refine hK _ _ ?_;clear hK;try simp only[pst0, ↓reduceIte,Nat.reduceEqDiff])
   |(clear hK;refine hK _ _ ?_;clear hK;try simp only[pst0, ↓reduceIte,Nat.reduceEqDiff])
   |(clear hK;clear hK;refine hK _ _ ?_;clear hK;try simp only[pst0, ↓reduceIte,Nat.reduceEqDiff])
   |(clear hK;clear hK;clear hK;refine hK _ _ ?_;clear hK;try simp only[pst0, ↓reduceIte,Nat.reduceEqDiff])
   |(rw[if_pos];rotate_left 1;omega;simp(maxSteps:=2000000) only[undef,am0,am1,am2,am3,amb0,amb1,amb2,amb3,amb4,lwn,drn,callee,wantedB,isW,eff,pev,pst0,retPost,resAll,resP,resV,intP,mkV,putC,pbin,sbin,strsEq,peq,pint,pshift,pstr,pun,pconv,isShift,isConstB,app,subS,lay,rowsOf,lkV,keyKind,keyEq,mfind,mput,oInt,isZeroInt,forall_const,exists_eq_left',implies_true,IntKind.bits, ↓reduceIte,Nat.reduceEqDiff,Nat.reduceAdd,Nat.reduceSub,Nat.reduceMul,Nat.reduceLT,Nat.reduceLeDiff,Nat.reduceBEq,Int.reduceLE,Int.reduceLT,Int.reduceToNat,reduceCtorEq,Ty.all]))
 |false=>
  repeat'(first
   |refine a_seq fun K hK=>?_
   |(refine a_block ?_)
   |((first|refine a_regionS ?_|refine a_region (fun K hK=>?_)|refine a_ret ?_);simp(maxSteps:=2000000) only[undef,am0,am1,am2,am3,amb0,amb1,amb2,amb3,amb4,lwn,drn,callee,wantedB,isW,eff,pev,pst0,retPost,resAll,resP,resV,intP,mkV,putC,pbin,sbin,strsEq,peq,pint,pshift,pstr,pun,pconv,isShift,isConstB,app,subS,lay,rowsOf,lkV,keyKind,keyEq,mfind,mput,oInt,isZeroInt,forall_const,exists_eq_left',implies_true,IntKind.bits, ↓reduceIte,Nat.reduceEqDiff,Nat.reduceAdd,Nat.reduceSub,Nat.reduceMul,Nat.reduceLT,Nat.reduceLeDiff,Nat.reduceBEq,Int.reduceLE,Int.reduceLT,Int.reduceToNat,reduceCtorEq,Ty.all])
   |(refine a_skip ?_;try simp only[pst0, ↓reduceIte,Nat.reduceEqDiff])
   |(refine a_exit ?_;try simp only[pst0, ↓reduceIte,Nat.reduceEqDiff])
   |(refine a_cond _ (by(try simp(maxSteps:=2000000) only[undef,am0,am1,am2,am3,amb0,amb1,amb2,amb3,amb4,lwn,drn,callee,wantedB,isW,eff,pev,pst0,retPost,resAll,resP,resV,intP,mkV,putC,pbin,sbin,strsEq,peq,pint,pshift,pstr,pun,pconv,isShift,isConstB,app,subS,lay,rowsOf,lkV,keyKind,keyEq,mfind,mput,oInt,isZeroInt,forall_const,exists_eq_left',implies_true,IntKind.bits, ↓reduceIte,Nat.reduceEqDiff,Nat.reduceAdd,Nat.reduceSub,Nat.reduceMul,Nat.reduceLT,Nat.reduceLeDiff,Nat.reduceBEq,Int.reduceLE,Int.reduceLT,Int.reduceToNat,reduceCtorEq,Ty.all]);rfl) (fun hb=>?_) (fun hb=>?_)<;>(try simp only[hb0,decide_eq_true_eq,decide_eq_false_iff_not,reduceCtorEq]at hb)<;>(try(exfalso;omega)))
   |(with_reducible refine ite_in (fun hb=>?_) (fun hb=>?_)<;>(try simp only[Decidable.not_not]at hb)<;>(try simp only[hb,if_true,if_false,not_false_eq_true,not_true_eq_false, ↓reduceIte])<;>(try simp only[hb0,decide_eq_true_eq,decide_eq_false_iff_not,reduceCtorEq]at hb)<;>(try(exfalso;omega)))
   |(refine hK _ _ ?_;clear hK;try simp only[pst0, ↓reduceIte,Nat.reduceEqDiff])
   |(clear hK;refine hK _ _ ?_;clear hK;try simp only[pst0, ↓reduceIte,Nat.reduceEqDiff])
   |(clear hK;clear hK;refine hK _ _ ?_;clear hK;try simp only[pst0, ↓reduceIte,Nat.reduceEqDiff])
   |(clear hK;clear hK;clear hK;refine hK _ _ ?_;clear hK;try simp only[pst0, ↓reduceIte,Nat.reduceEqDiff])
   |(rw[if_pos];rotate_left 1;omega;simp(maxSteps:=2000000) only[undef,am0,am1,am2,am3,amb0,amb1,amb2,amb3,amb4,lwn,drn,callee,wantedB,isW,eff,pev,pst0,retPost,resAll,resP,resV,intP,mkV,putC,pbin,sbin,strsEq,peq,pint,pshift,pstr,pun,pconv,isShift,isConstB,app,subS,lay,rowsOf,lkV,keyKind,keyEq,mfind,mput,oInt,isZeroInt,forall_const,exists_eq_left',implies_true,IntKind.bits, ↓reduceIte,Nat.reduceEqDiff,Nat.reduceAdd,Nat.reduceSub,Nat.reduceMul,Nat.reduceLT,Nat.reduceLeDiff,Nat.reduceBEq,Int.reduceLE,Int.reduceLT,Int.reduceToNat,reduceCtorEq,Ty.all]))
  refine owp_useL wB (by(try simp only[undef,am0,am1,am2,am3,amb0,amb1,amb2,amb3,amb4,lwn,drn,callee,wantedB,isW,eff,pev,pst0,retPost,resAll,resP,resV,intP,mkV,putC,pbin,sbin,strsEq,peq,pint,pshift,pstr,pun,pconv,isShift,isConstB,app,subS,lay,rowsOf,lkV,keyKind,keyEq,mfind,mput,oInt,isZeroInt,forall_const,exists_eq_left',implies_true,IntKind.bits, ↓reduceIte,Nat.reduceEqDiff,Nat.reduceAdd,Nat.reduceSub,Nat.reduceMul,Nat.reduceLT,Nat.reduceLeDiff,Nat.reduceBEq,Int.reduceLE,Int.reduceLT,Int.reduceToNat,reduceCtorEq]);try rfl) ?_
  rintro r h' ⟨⟨b2,rfl⟩,rfl⟩
  simp(maxSteps:=2000000) only[undef,am0,am1,am2,am3,amb0,amb1,amb2,amb3,amb4,lwn,drn,callee,wantedB,isW,eff,pev,pst0,retPost,resAll,resP,resV,intP,mkV,putC,pbin,sbin,strsEq,peq,pint,pshift,pstr,pun,pconv,isShift,isConstB,app,subS,lay,rowsOf,lkV,keyKind,keyEq,mfind,mput,oInt,isZeroInt,forall_const,exists_eq_left',implies_true,IntKind.bits, ↓reduceIte,Nat.reduceEqDiff,Nat.reduceAdd,Nat.reduceSub,Nat.reduceMul,Nat.reduceLT,Nat.reduceLeDiff,Nat.reduceBEq,Int.reduceLE,Int.reduceLT,Int.reduceToNat,reduceCtorEq,Ty.all]
  cases b2 with
  |true=>
   repeat'(first
    |refine a_seq fun K hK=>?_
    |(refine a_block ?_)
    |((first|refine a_regionS ?_|refine a_region (fun K hK=>?_)|refine a_ret ?_);simp(maxSteps:=2000000) only[undef,am0,am1,am2,am3,amb0,amb1,amb2,amb3,amb4,lwn,drn,callee,wantedB,isW,eff,pev,pst0,retPost,resAll,resP,resV,intP,mkV,putC,pbin,sbin,strsEq,peq,pint,pshift,pstr,pun,pconv,isShift,isConstB,app,subS,lay,rowsOf,lkV,keyKind,keyEq,mfind,mput,oInt,isZeroInt,forall_const,exists_eq_left',implies_true,IntKind.bits, ↓reduceIte,Nat.reduceEqDiff,Nat.reduceAdd,Nat.reduceSub,Nat.reduceMul,Nat.reduceLT,Nat.reduceLeDiff,Nat.reduceBEq,Int.reduceLE,Int.reduceLT,Int.reduceToNat,reduceCtorEq,Ty.all])
    |(refine a_skip ?_;try simp only[pst0, ↓reduceIte,Nat.reduceEqDiff])
    |(refine a_exit ?_;try simp only[pst0, ↓reduceIte,Nat.reduceEqDiff])
    |(refine a_cond _ (by(try simp(maxSteps:=2000000) only[undef,am0,am1,am2,am3,amb0,amb1,amb2,amb3,amb4,lwn,drn,callee,wantedB,isW,eff,pev,pst0,retPost,resAll,resP,resV,intP,mkV,putC,pbin,sbin,strsEq,peq,pint,pshift,pstr,pun,pconv,isShift,isConstB,app,subS,lay,rowsOf,lkV,keyKind,keyEq,mfind,mput,oInt,isZeroInt,forall_const,exists_eq_left',implies_true,IntKind.bits, ↓reduceIte,Nat.reduceEqDiff,Nat.reduceAdd,Nat.reduceSub,Nat.reduceMul,Nat.reduceLT,Nat.reduceLeDiff,Nat.reduceBEq,Int.reduceLE,Int.reduceLT,Int.reduceToNat,reduceCtorEq,Ty.all]);rfl) (fun hb=>?_) (fun hb=>?_)<;>(try simp only[hb0,decide_eq_true_eq,decide_eq_false_iff_not,reduceCtorEq]at hb)<;>(try(exfalso;omega)))
    |(with_reducible refine ite_in (fun hb=>?_) (fun hb=>?_)<;>(try simp only[Decidable.not_not]at hb)<;>(try simp only[hb,if_true,if_false,not_false_eq_true,not_true_eq_false, ↓reduceIte])<;>(try simp only[hb0,decide_eq_true_eq,decide_eq_false_iff_not,reduceCtorEq]at hb)<;>(try(exfalso;omega)))
    |(refine hK _ _ ?_;clear hK;try simp only[pst0, ↓reduceIte,Nat.reduceEqDiff])
    |(clear hK;refine hK _ _ ?_;clear hK;try simp only[pst0, ↓reduceIte,Nat.reduceEqDiff])
    |(clear hK;clear hK;refine hK _ _ ?_;clear hK;try simp only[pst0, ↓reduceIte,Nat.reduceEqDiff])
    |(clear hK;clear hK;clear hK;refine hK _ _ ?_;clear hK;try simp only[pst0, ↓reduceIte,Nat.reduceEqDiff])
    |(rw[if_pos];rotate_left 1;omega;simp(maxSteps:=2000000) only[undef,am0,am1,am2,am3,amb0,amb1,amb2,amb3,amb4,lwn,drn,callee,wantedB,isW,eff,pev,pst0,retPost,resAll,resP,resV,intP,mkV,putC,pbin,sbin,strsEq,peq,pint,pshift,pstr,pun,pconv,isShift,isConstB,app,subS,lay,rowsOf,lkV,keyKind,keyEq,mfind,mput,oInt,isZeroInt,forall_const,exists_eq_left',implies_true,IntKind.bits, ↓reduceIte,Nat.reduceEqDiff,Nat.reduceAdd,Nat.reduceSub,Nat.reduceMul,Nat.reduceLT,Nat.reduceLeDiff,Nat.reduceBEq,Int.reduceLE,Int.reduceLT,Int.reduceToNat,reduceCtorEq,Ty.all]))
   refine owp_useQ (hA) (by(try simp only[undef,am0,am1,am2,am3,amb0,amb1,amb2,amb3,amb4,lwn,drn,callee,wantedB,isW,eff,pev,pst0,retPost,resAll,resP,resV,intP,mkV,putC,pbin,sbin,strsEq,peq,pint,pshift,pstr,pun,pconv,isShift,isConstB,app,subS,lay,rowsOf,lkV,keyKind,keyEq,mfind,mput,oInt,isZeroInt,forall_const,exists_eq_left',implies_true,IntKind.bits, ↓reduceIte,Nat.reduceEqDiff,Nat.reduceAdd,Nat.reduceSub,Nat.reduceMul,Nat.reduceLT,Nat.reduceLeDiff,Nat.reduceBEq,Int.reduceLE,Int.reduceLT,Int.reduceToNat,reduceCtorEq,]);try rfl) ?_
   simp(maxSteps:=2000000) only[undef,am0,am1,am2,am3,amb0,amb1,amb2,amb3,amb4,lwn,drn,callee,wantedB,isW,eff,pev,pst0,retPost,resAll,resP,resV,intP,mkV,putC,pbin,sbin,strsEq,peq,pint,pshift,pstr,pun,pconv,isShift,isConstB,app,subS,lay,rowsOf,lkV,keyKind,keyEq,mfind,mput,oInt,isZeroInt,forall_const,exists_eq_left',implies_true,IntKind.bits, ↓reduceIte,Nat.reduceEqDiff,Nat.reduceAdd,Nat.reduceSub,Nat.reduceMul,Nat.reduceLT,Nat.reduceLeDiff,Nat.reduceBEq,Int.reduceLE,Int.reduceLT,Int.reduceToNat,reduceCtorEq,Ty.all,]
   repeat'(first
    |refine a_seq fun K hK=>?_
    |(refine a_block ?_)
    |((first|refine a_regionS ?_|refine a_region (fun K hK=>?_)|refine a_ret ?_);simp(maxSteps:=2000000) only[undef,am0,am1,am2,am3,amb0,amb1,amb2,amb3,amb4,lwn,drn,callee,wantedB,isW,eff,pev,pst0,retPost,resAll,resP,resV,intP,mkV,putC,pbin,sbin,strsEq,peq,pint,pshift,pstr,pun,pconv,isShift,isConstB,app,subS,lay,rowsOf,lkV,keyKind,keyEq,mfind,mput,oInt,isZeroInt,forall_const,exists_eq_left',implies_true,IntKind.bits, ↓reduceIte,Nat.reduceEqDiff,Nat.reduceAdd,Nat.reduceSub,Nat.reduceMul,Nat.reduceLT,Nat.reduceLeDiff,Nat.reduceBEq,Int.reduceLE,Int.reduceLT,Int.reduceToNat,reduceCtorEq,Ty.all])
    |(refine a_skip ?_;try simp only[pst0, ↓reduceIte,Nat.reduceEqDiff])
    |(refine a_exit ?_;try simp only[pst0, ↓reduceIte,Nat.reduceEqDiff])
    |(refine a_cond _ (by(try simp(maxSteps:=2000000) only[undef,am0,am1,am2,am3,amb0,amb1,amb2,amb3,amb4,lwn,drn,callee,wantedB,isW,eff,pev,pst0,retPost,resAll,resP,resV,intP,mkV,putC,pbin,sbin,strsEq,peq,pint,pshift,pstr,pun,pconv,isShift,isConstB,app,subS,lay,rowsOf,lkV,keyKind,keyEq,mfind,mput,oInt,isZeroInt,forall_const,exists_eq_left',implies_true,IntKind.bits, ↓reduceIte,Nat.reduceEqDiff,Nat.reduceAdd,Nat.reduceSub,Nat.reduceMul,Nat.reduceLT,Nat.reduceLeDiff,Nat.reduceBEq,Int.reduceLE,Int.reduceLT,Int.reduceToNat,reduceCtorEq,Ty.all]);rfl) (fun hb=>?_) (fun hb=>?_)<;>(try simp only[hb0,decide_eq_true_eq,decide_eq_false_iff_not,reduceCtorEq]at hb)<;>(try(exfalso;omega)))
    |(with_reducible refine ite_in (fun hb=>?_) (fun hb=>?_)<;>(try simp only[Decidable.not_not]at hb)<;>(try simp only[hb,if_true,if_false,not_false_eq_true,not_true_eq_false, ↓reduceIte])<;>(try simp only[hb0,decide_eq_true_eq,decide_eq_false_iff_not,reduceCtorEq]at hb)<;>(try(exfalso;omega)))
    |(refine hK _ _ ?_;clear hK;try simp only[pst0, ↓reduceIte,Nat.reduceEqDiff])
    |(clear hK;refine hK _ _ ?_;clear hK;try simp only[pst0, ↓reduceIte,Nat.reduceEqDiff])
    |(clear hK;clear hK;refine hK _ _ ?_;clear hK;try simp only[pst0, ↓reduceIte,Nat.reduceEqDiff])
    |(clear hK;clear hK;clear hK;refine hK _ _ ?_;clear hK;try simp only[pst0, ↓reduceIte,Nat.reduceEqDiff])
    |(rw[if_pos];rotate_left 1;omega;simp(maxSteps:=2000000) only[undef,am0,am1,am2,am3,amb0,amb1,amb2,amb3,amb4,lwn,drn,callee,wantedB,isW,eff,pev,pst0,retPost,resAll,resP,resV,intP,mkV,putC,pbin,sbin,strsEq,peq,pint,pshift,pstr,pun,pconv,isShift,isConstB,app,subS,lay,rowsOf,lkV,keyKind,keyEq,mfind,mput,oInt,isZeroInt,forall_const,exists_eq_left',implies_true,IntKind.bits, ↓reduceIte,Nat.reduceEqDiff,Nat.reduceAdd,Nat.reduceSub,Nat.reduceMul,Nat.reduceLT,Nat.reduceLeDiff,Nat.reduceBEq,Int.reduceLE,Int.reduceLT,Int.reduceToNat,reduceCtorEq,Ty.all]))
  |false=>
   repeat'(first
    |refine a_seq fun K hK=>?_
    |(refine a_block ?_)
    |((first|refine a_regionS ?_|refine a_region (fun K hK=>?_)|refine a_ret ?_);simp(maxSteps:=2000000) only[undef,am0,am1,am2,am3,amb0,amb1,amb2,amb3,amb4,lwn,drn,callee,wantedB,isW,eff,pev,pst0,retPost,resAll,resP,resV,intP,mkV,putC,pbin,sbin,strsEq,peq,pint,pshift,pstr,pun,pconv,isShift,isConstB,app,subS,lay,rowsOf,lkV,keyKind,keyEq,mfind,mput,oInt,isZeroInt,forall_const,exists_eq_left',implies_true,IntKind.bits, ↓reduceIte,Nat.reduceEqDiff,Nat.reduceAdd,Nat.reduceSub,Nat.reduceMul,Nat.reduceLT,Nat.reduceLeDiff,Nat.reduceBEq,Int.reduceLE,Int.reduceLT,Int.reduceToNat,reduceCtorEq,Ty.all])
    |(refine a_skip ?_;try simp only[pst0, ↓reduceIte,Nat.reduceEqDiff])
    |(refine a_exit ?_;try simp only[pst0, ↓reduceIte,Nat.reduceEqDiff])
    |(refine a_cond _ (by(try simp(maxSteps:=2000000) only[undef,am0,am1,am2,am3,amb0,amb1,amb2,amb3,amb4,lwn,drn,callee,wantedB,isW,eff,pev,pst0,retPost,resAll,resP,resV,intP,mkV,putC,pbin,sbin,strsEq,peq,pint,pshift,pstr,pun,pconv,isShift,isConstB,app,subS,lay,rowsOf,lkV,keyKind,keyEq,mfind,mput,oInt,isZeroInt,forall_const,exists_eq_left',implies_true,IntKind.bits, ↓reduceIte,Nat.reduceEqDiff,Nat.reduceAdd,Nat.reduceSub,Nat.reduceMul,Nat.reduceLT,Nat.reduceLeDiff,Nat.reduceBEq,Int.reduceLE,Int.reduceLT,Int.reduceToNat,reduceCtorEq,Ty.all]);rfl) (fun hb=>?_) (fun hb=>?_)<;>(try simp only[hb0,decide_eq_true_eq,decide_eq_false_iff_not,reduceCtorEq]at hb)<;>(try(exfalso;omega)))
    |(with_reducible refine ite_in (fun hb=>?_) (fun hb=>?_)<;>(try simp only[Decidable.not_not]at hb)<;>(try simp only[hb,if_true,if_false,not_false_eq_true,not_true_eq_false, ↓reduceIte])<;>(try simp only[hb0,decide_eq_true_eq,decide_eq_false_iff_not,reduceCtorEq]at hb)<;>(try(exfalso;omega)))
    |(refine hK _ _ ?_;clear hK;try simp only[pst0, ↓reduceIte,Nat.reduceEqDiff])
    |(clear hK;refine hK _ _ ?_;clear hK;try simp only[pst0, ↓reduceIte,Nat.reduceEqDiff])
    |(clear hK;clear hK;refine hK _ _ ?_;clear hK;try simp only[pst0, ↓reduceIte,Nat.reduceEqDiff])
    |(clear hK;clear hK;clear hK;refine hK _ _ ?_;clear hK;try simp only[pst0, ↓reduceIte,Nat.reduceEqDiff])
    |(rw[if_pos];rotate_left 1;omega;simp(maxSteps:=2000000) only[undef,am0,am1,am2,am3,amb0,amb1,amb2,amb3,amb4,lwn,drn,callee,wantedB,isW,eff,pev,pst0,retPost,resAll,resP,resV,intP,mkV,putC,pbin,sbin,strsEq,peq,pint,pshift,pstr,pun,pconv,isShift,isConstB,app,subS,lay,rowsOf,lkV,keyKind,keyEq,mfind,mput,oInt,isZeroInt,forall_const,exists_eq_left',implies_true,IntKind.bits, ↓reduceIte,Nat.reduceEqDiff,Nat.reduceAdd,Nat.reduceSub,Nat.reduceMul,Nat.reduceLT,Nat.reduceLeDiff,Nat.reduceBEq,Int.reduceLE,Int.reduceLT,Int.reduceToNat,reduceCtorEq,Ty.all]))
   refine owp_useQ (hA) (by(try simp only[undef,am0,am1,am2,am3,amb0,amb1,amb2,amb3,amb4,lwn,drn,callee,wantedB,isW,eff,pev,pst0,retPost,resAll,resP,resV,intP,mkV,putC,pbin,sbin,strsEq,peq,pint,pshift,pstr,pun,pconv,isShift,isConstB,app,subS,lay,rowsOf,lkV,keyKind,keyEq,mfind,mput,oInt,isZeroInt,forall_const,exists_eq_left',implies_true,IntKind.bits, ↓reduceIte,Nat.reduceEqDiff,Nat.reduceAdd,Nat.reduceSub,Nat.reduceMul,Nat.reduceLT,Nat.reduceLeDiff,Nat.reduceBEq,Int.reduceLE,Int.reduceLT,Int.reduceToNat,reduceCtorEq,Bool.not_true]);try rfl) ?_
   simp(maxSteps:=2000000) only[undef,am0,am1,am2,am3,amb0,amb1,amb2,amb3,amb4,lwn,drn,callee,wantedB,isW,eff,pev,pst0,retPost,resAll,resP,resV,intP,mkV,putC,pbin,sbin,strsEq,peq,pint,pshift,pstr,pun,pconv,isShift,isConstB,app,subS,lay,rowsOf,lkV,keyKind,keyEq,mfind,mput,oInt,isZeroInt,forall_const,exists_eq_left',implies_true,IntKind.bits, ↓reduceIte,Nat.reduceEqDiff,Nat.reduceAdd,Nat.reduceSub,Nat.reduceMul,Nat.reduceLT,Nat.reduceLeDiff,Nat.reduceBEq,Int.reduceLE,Int.reduceLT,Int.reduceToNat,reduceCtorEq,Ty.all,Bool.not_true]
   repeat'(first
    |refine a_seq fun K hK=>?_
    |(refine a_block ?_)
    |((first|refine a_regionS ?_|refine a_region (fun K hK=>?_)|refine a_ret ?_);simp(maxSteps:=2000000) only[undef,am0,am1,am2,am3,amb0,amb1,amb2,amb3,amb4,lwn,drn,callee,wantedB,isW,eff,pev,pst0,retPost,resAll,resP,resV,intP,mkV,putC,pbin,sbin,strsEq,peq,pint,pshift,pstr,pun,pconv,isShift,isConstB,app,subS,lay,rowsOf,lkV,keyKind,keyEq,mfind,mput,oInt,isZeroInt,forall_const,exists_eq_left',implies_true,IntKind.bits, ↓reduceIte,Nat.reduceEqDiff,Nat.reduceAdd,Nat.reduceSub,Nat.reduceMul,Nat.reduceLT,Nat.reduceLeDiff,Nat.reduceBEq,Int.reduceLE,Int.reduceLT,Int.reduceToNat,reduceCtorEq,Ty.all,Bool.not_true])
    |(refine a_skip ?_;try simp only[pst0, ↓reduceIte,Nat.reduceEqDiff])
    |(refine a_exit ?_;try simp only[pst0, ↓reduceIte,Nat.reduceEqDiff])
    |(refine a_cond _ (by(try simp(maxSteps:=2000000) only[undef,am0,am1,am2,am3,amb0,amb1,amb2,amb3,amb4,lwn,drn,callee,wantedB,isW,eff,pev,pst0,retPost,resAll,resP,resV,intP,mkV,putC,pbin,sbin,strsEq,peq,pint,pshift,pstr,pun,pconv,isShift,isConstB,app,subS,lay,rowsOf,lkV,keyKind,keyEq,mfind,mput,oInt,isZeroInt,forall_const,exists_eq_left',implies_true,IntKind.bits, ↓reduceIte,Nat.reduceEqDiff,Nat.reduceAdd,Nat.reduceSub,Nat.reduceMul,Nat.reduceLT,Nat.reduceLeDiff,Nat.reduceBEq,Int.reduceLE,Int.reduceLT,Int.reduceToNat,reduceCtorEq,Ty.all,Bool.not_true]);rfl) (fun hb=>?_) (fun hb=>?_)<;>(try simp only[hb0,decide_eq_true_eq,decide_eq_false_iff_not,reduceCtorEq]at hb)<;>(try(exfalso;omega)))
    |(with_reducible refine ite_in (fun hb=>?_) (fun hb=>?_)<;>(try simp only[Decidable.not_not]at hb)<;>(try simp only[hb,if_true,if_false,not_false_eq_true,not_true_eq_false, ↓reduceIte])<;>(try simp only[hb0,decide_eq_true_eq,decide_eq_false_iff_not,reduceCtorEq]at hb)<;>(try(exfalso;omega)))
    |(refine hK _ _ ?_;clear hK;try simp only[pst0, ↓reduceIte,Nat.reduceEqDiff])
    |(clear hK;refine hK _ _ ?_;clear hK;try simp only[pst0, ↓reduceIte,Nat.reduceEqDiff])
    |(clear hK;clear hK;refine hK _ _ ?_;clear hK;try simp only[pst0, ↓reduceIte,Nat.reduceEqDiff])
    |(clear hK;clear hK;clear hK;refine hK _ _ ?_;clear hK;try simp only[pst0, ↓reduceIte,Nat.reduceEqDiff])
    |(rw[if_pos];rotate_left 1;omega;simp(maxSteps:=2000000) only[undef,am0,am1,am2,am3,amb0,amb1,amb2,amb3,amb4,lwn,drn,callee,wantedB,isW,eff,pev,pst0,retPost,resAll,resP,resV,intP,mkV,putC,pbin,sbin,strsEq,peq,pint,pshift,pstr,pun,pconv,isShift,isConstB,app,subS,lay,rowsOf,lkV,keyKind,keyEq,mfind,mput,oInt,isZeroInt,forall_const,exists_eq_left',implies_true,IntKind.bits, ↓reduceIte,Nat.reduceEqDiff,Nat.reduceAdd,Nat.reduceSub,Nat.reduceMul,Nat.reduceLT,Nat.reduceLeDiff,Nat.reduceBEq,Int.reduceLE,Int.reduceLT,Int.reduceToNat,reduceCtorEq,Ty.all,Bool.not_true]))
   refine owp_useQ (hR) (by(try simp only[undef,am0,am1,am2,am3,amb0,amb1,amb2,amb3,amb4,lwn,drn,callee,wantedB,isW,eff,pev,pst0,retPost,resAll,resP,resV,intP,mkV,putC,pbin,sbin,strsEq,peq,pint,pshift,pstr,pun,pconv,isShift,isConstB,app,subS,lay,rowsOf,lkV,keyKind,keyEq,mfind,mput,oInt,isZeroInt,forall_const,exists_eq_left',implies_true,IntKind.bits, ↓reduceIte,Nat.reduceEqDiff,Nat.reduceAdd,Nat.reduceSub,Nat.reduceMul,Nat.reduceLT,Nat.reduceLeDiff,Nat.reduceBEq,Int.reduceLE,Int.reduceLT,Int.reduceToNat,reduceCtorEq,]);try rfl) ?_
   simp(maxSteps:=2000000) only[undef,am0,am1,am2,am3,amb0,amb1,amb2,amb3,amb4,lwn,drn,callee,wantedB,isW,eff,pev,pst0,retPost,resAll,resP,resV,intP,mkV,putC,pbin,sbin,strsEq,peq,pint,pshift,pstr,pun,pconv,isShift,isConstB,app,subS,lay,rowsOf,lkV,keyKind,keyEq,mfind,mput,oInt,isZeroInt,forall_const,exists_eq_left',implies_true,IntKind.bits, ↓reduceIte,Nat.reduceEqDiff,Nat.reduceAdd,Nat.reduceSub,Nat.reduceMul,Nat.reduceLT,Nat.reduceLeDiff,Nat.reduceBEq,Int.reduceLE,Int.reduceLT,Int.reduceToNat,reduceCtorEq,Ty.all,]
   repeat'(first
    |refine a_seq fun K hK=>?_
    |(refine a_block ?_)
    |((first|refine a_regionS ?_|refine a_region (fun K hK=>?_)|refine a_ret ?_);simp(maxSteps:=2000000) only[undef,am0,am1,am2,am3,amb0,amb1,amb2,amb3,amb4,lwn,drn,callee,wantedB,isW,eff,pev,pst0,retPost,resAll,resP,resV,intP,mkV,putC,pbin,sbin,strsEq,peq,pint,pshift,pstr,pun,pconv,isShift,isConstB,app,subS,lay,rowsOf,lkV,keyKind,keyEq,mfind,mput,oInt,isZeroInt,forall_const,exists_eq_left',implies_true,IntKind.bits, ↓reduceIte,Nat.reduceEqDiff,Nat.reduceAdd,Nat.reduceSub,Nat.reduceMul,Nat.reduceLT,Nat.reduceLeDiff,Nat.reduceBEq,Int.reduceLE,Int.reduceLT,Int.reduceToNat,reduceCtorEq,Ty.all,nsucc])
    |(refine a_skip ?_;try simp only[pst0, ↓reduceIte,Nat.reduceEqDiff])
    |(refine a_exit ?_;try simp only[pst0, ↓reduceIte,Nat.reduceEqDiff])
    |(refine a_cond _ (by(try simp(maxSteps:=2000000) only[undef,am0,am1,am2,am3,amb0,amb1,amb2,amb3,amb4,lwn,drn,callee,wantedB,isW,eff,pev,pst0,retPost,resAll,resP,resV,intP,mkV,putC,pbin,sbin,strsEq,peq,pint,pshift,pstr,pun,pconv,isShift,isConstB,app,subS,lay,rowsOf,lkV,keyKind,keyEq,mfind,mput,oInt,isZeroInt,forall_const,exists_eq_left',implies_true,IntKind.bits, ↓reduceIte,Nat.reduceEqDiff,Nat.reduceAdd,Nat.reduceSub,Nat.reduceMul,Nat.reduceLT,Nat.reduceLeDiff,Nat.reduceBEq,Int.reduceLE,Int.reduceLT,Int.reduceToNat,reduceCtorEq,Ty.all,nsucc]);rfl) (fun hb=>?_) (fun hb=>?_)<;>(try simp only[hb0,decide_eq_true_eq,decide_eq_false_iff_not,reduceCtorEq]at hb)<;>(try(exfalso;omega)))
    |(with_reducible refine ite_in (fun hb=>?_) (fun hb=>?_)<;>(try simp only[Decidable.not_not]at hb)<;>(try simp only[hb,if_true,if_false,not_false_eq_true,not_true_eq_false, ↓reduceIte])<;>(try simp only[hb0,decide_eq_true_eq,decide_eq_false_iff_not,reduceCtorEq]at hb)<;>(try(exfalso;omega)))
    |(refine hK _ _ ?_;clear hK;try simp only[pst0, ↓reduceIte,Nat.reduceEqDiff])
    |(clear hK;refine hK _ _ ?_;clear hK;try simp only[pst0, ↓reduceIte,Nat.reduceEqDiff])
    |(clear hK;clear hK;refine hK _ _ ?_;clear hK;try simp only[pst0, ↓reduceIte,Nat.reduceEqDiff])
    |(clear hK;clear hK;clear hK;refine hK _ _ ?_;clear hK;try simp only[pst0, ↓reduceIte,Nat.reduceEqDiff])
    |(rw[if_pos];rotate_left 1;omega;simp(maxSteps:=2000000) only[undef,am0,am1,am2,am3,amb0,amb1,amb2,amb3,amb4,lwn,drn,callee,wantedB,isW,eff,pev,pst0,retPost,resAll,resP,resV,intP,mkV,putC,pbin,sbin,strsEq,peq,pint,pshift,pstr,pun,pconv,isShift,isConstB,app,subS,lay,rowsOf,lkV,keyKind,keyEq,mfind,mput,oInt,isZeroInt,forall_const,exists_eq_left',implies_true,IntKind.bits, ↓reduceIte,Nat.reduceEqDiff,Nat.reduceAdd,Nat.reduceSub,Nat.reduceMul,Nat.reduceLT,Nat.reduceLeDiff,Nat.reduceBEq,Int.reduceLE,Int.reduceLT,Int.reduceToNat,reduceCtorEq,Ty.all,nsucc]))
   refine a_genW (fun S H=>S 2= .cptr [.imm 2 L,.imm 3 V]∧S 3= .cptr [.imm 2 M,.imm 3 U]∧S 5= .sc (.bool e)∧H=h') ⟨by simp only[undef,am0,am1,am2,am3,amb0,amb1,amb2,amb3,amb4,lwn,drn,callee,wantedB,isW,eff,pev,pst0,retPost,resAll,resP,resV,intP,mkV,putC,pbin,sbin,strsEq,peq,pint,pshift,pstr,pun,pconv,isShift,isConstB,app,subS,lay,rowsOf,lkV,keyKind,keyEq,mfind,mput,oInt,isZeroInt,forall_const,exists_eq_left',implies_true,IntKind.bits, ↓reduceIte,Nat.reduceEqDiff,Nat.reduceAdd,Nat.reduceSub,Nat.reduceMul,Nat.reduceLT,Nat.reduceLeDiff,Nat.reduceBEq,Int.reduceLE,Int.reduceLT,Int.reduceToNat,reduceCtorEq],by simp only[undef,am0,am1,am2,am3,amb0,amb1,amb2,amb3,amb4,lwn,drn,callee,wantedB,isW,eff,pev,pst0,retPost,resAll,resP,resV,intP,mkV,putC,pbin,sbin,strsEq,peq,pint,pshift,pstr,pun,pconv,isShift,isConstB,app,subS,lay,rowsOf,lkV,keyKind,keyEq,mfind,mput,oInt,isZeroInt,forall_const,exists_eq_left',implies_true,IntKind.bits, ↓reduceIte,Nat.reduceEqDiff,Nat.reduceAdd,Nat.reduceSub,Nat.reduceMul,Nat.reduceLT,Nat.reduceLeDiff,Nat.reduceBEq,Int.reduceLE,Int.reduceLT,Int.reduceToNat,reduceCtorEq],by simp only[undef,am0,am1,am2,am3,amb0,amb1,amb2,amb3,amb4,lwn,drn,callee,wantedB,isW,eff,pev,pst0,retPost,resAll,resP,resV,intP,mkV,putC,pbin,sbin,strsEq,peq,pint,pshift,pstr,pun,pconv,isShift,isConstB,app,subS,lay,rowsOf,lkV,keyKind,keyEq,mfind,mput,oInt,isZeroInt,forall_const,exists_eq_left',implies_true,IntKind.bits, ↓reduceIte,Nat.reduceEqDiff,Nat.reduceAdd,Nat.reduceSub,Nat.reduceMul,Nat.reduceLT,Nat.reduceLeDiff,Nat.reduceBEq,Int.reduceLE,Int.reduceLT,Int.reduceToNat,reduceCtorEq],rfl⟩ ?_
   clear hA wA wB hR
   rintro S H ⟨s2,s3,s5,rfl⟩
   refine a_draw2S [15] (by decide+kernel) (by decide+kernel) ?_
   have hn15:H.obj (H.next+15)=none:=hno _ (by omega)
   have u1:(H.next=H.next+2)=False:=eq_false (by omega)
   have u4:(H.next=H.next+3)=False:=eq_false (by omega)
   have u5:(H.next=H.next+4)=False:=eq_false (by omega)
   have u6:(H.next=H.next+5)=False:=eq_false (by omega)
   have u3: ∀ l:List (List PV),(l.length≤l.length)=True:=fun l=>eq_true (Nat.le_refl _)
   simp(maxSteps:=4000000) only[drn2,undef,am0,am1,am2,am3,amb0,amb1,amb2,amb3,amb4,lwn,drn,callee,wantedB,isW,eff,pev,pst0,retPost,resAll,resP,resV,intP,mkV,putC,pbin,sbin,strsEq,peq,pint,pshift,pstr,pun,pconv,isShift,isConstB,app,subS,lay,rowsOf,lkV,keyKind,keyEq,mfind,mput,oInt,isZeroInt,forall_const,exists_eq_left',implies_true,IntKind.bits, ↓reduceIte,Nat.reduceEqDiff,Nat.reduceAdd,Nat.reduceSub,Nat.reduceMul,Nat.reduceLT,Nat.reduceLeDiff,Nat.reduceBEq,Int.reduceLE,Int.reduceLT,Int.reduceToNat,reduceCtorEq,Ty.all,List.forall_mem_cons,List.nil_append,s2,s3,s5,hn15,hb1,hb2,hb3,hb4,u1,u3,u4,u5,u6,List.take_length]
   refine hK _ _ ?_
   clear hK
   refine a_drop H.next [(6,.cptr [.imm 2 (L++L),.imm 3 (V++V)])] rfl (by simp[Heap.new,Heap.set,Heap.kill];omega) ?_ ?_
   ·intro x hx
    simp only[List.mem_cons,List.not_mem_nil,or_false]at hx
    subst hx
    simp only[FrzTo]
    refine .inr ⟨H.next+15,0,0,2,[[PV.own (H.next+17+1) 0 (L.length+L.length),PV.own (H.next+17+1+1+1) 0 (V.length+V.length)]],[PV.own (H.next+17+1) 0 (L.length+L.length),PV.own (H.next+17+1+1+1) 0 (V.length+V.length)],by simp only[undef,am0,am1,am2,am3,amb0,amb1,amb2,amb3,amb4,lwn,drn,callee,wantedB,isW,eff,pev,pst0,retPost,resAll,resP,resV,intP,mkV,putC,pbin,sbin,strsEq,peq,pint,pshift,pstr,pun,pconv,isShift,isConstB,app,subS,lay,rowsOf,lkV,keyKind,keyEq,mfind,mput,oInt,isZeroInt,forall_const,exists_eq_left',implies_true,IntKind.bits, ↓reduceIte,Nat.reduceEqDiff,Nat.reduceAdd,Nat.reduceSub,Nat.reduceMul,Nat.reduceLT,Nat.reduceLeDiff,Nat.reduceBEq,Int.reduceLE,Int.reduceLT,Int.reduceToNat,reduceCtorEq],by omega,?_,rfl,?_⟩
    ·simp only[Heap.set,if_true]
    ·simp only[List.drop_zero,FrzL,and_true]
     refine⟨?_,?_⟩
     ·simp only[FrzTo]
      refine .inr (.inr ⟨H.next+17+1,0,L.length+L.length,L++L,rfl,by omega,?_,?_,?_⟩)
      ·simp only[Heap.set,Heap.new,Heap.kill]
       repeat(first|rw[if_neg (by omega)]|rw[if_pos (by omega)])
      ·rw [List.length_append];omega
      ·rw [List.drop_zero,List.take_of_length_le (by rw[List.length_append];omega)]
       exact hin1 _ _
     ·simp only[FrzTo]
      refine .inr (.inr ⟨H.next+17+1+1+1,0,V.length+V.length,V++V,rfl,by omega,?_,?_,?_⟩)
      ·simp only[Heap.set,Heap.new,Heap.kill]
       repeat(first|rw[if_neg (by omega)]|rw[if_pos (by omega)])
      ·rw [List.length_append];omega
      ·rw [List.drop_zero,List.take_of_length_le (by rw[List.length_append];omega)]
       exact hin2 _ _
   refine a_genW (fun S _=>S 2= .cptr [.imm 2 L,.imm 3 V]∧S 3= .cptr [.imm 2 M,.imm 3 U]∧S 5= .sc (.bool e)∧S 6= .cptr [.imm 2 (L++L),.imm 3 (V++V)]) ⟨by simp only[frzS,undef,am0,am1,am2,am3,amb0,amb1,amb2,amb3,amb4,lwn,drn,callee,wantedB,isW,eff,pev,pst0,retPost,resAll,resP,resV,intP,mkV,putC,pbin,sbin,strsEq,peq,pint,pshift,pstr,pun,pconv,isShift,isConstB,app,subS,lay,rowsOf,lkV,keyKind,keyEq,mfind,mput,oInt,isZeroInt,forall_const,exists_eq_left',implies_true,IntKind.bits, ↓reduceIte,Nat.reduceEqDiff,Nat.reduceAdd,Nat.reduceSub,Nat.reduceMul,Nat.reduceLT,Nat.reduceLeDiff,Nat.reduceBEq,Int.reduceLE,Int.reduceLT,Int.reduceToNat,reduceCtorEq,s2],by simp only[frzS,undef,am0,am1,am2,am3,amb0,amb1,amb2,amb3,amb4,lwn,drn,callee,wantedB,isW,eff,pev,pst0,retPost,resAll,resP,resV,intP,mkV,putC,pbin,sbin,strsEq,peq,pint,pshift,pstr,pun,pconv,isShift,isConstB,app,subS,lay,rowsOf,lkV,keyKind,keyEq,mfind,mput,oInt,isZeroInt,forall_const,exists_eq_left',implies_true,IntKind.bits, ↓reduceIte,Nat.reduceEqDiff,Nat.reduceAdd,Nat.reduceSub,Nat.reduceMul,Nat.reduceLT,Nat.reduceLeDiff,Nat.reduceBEq,Int.reduceLE,Int.reduceLT,Int.reduceToNat,reduceCtorEq,s3],by simp only[frzS,undef,am0,am1,am2,am3,amb0,amb1,amb2,amb3,amb4,lwn,drn,callee,wantedB,isW,eff,pev,pst0,retPost,resAll,resP,resV,intP,mkV,putC,pbin,sbin,strsEq,peq,pint,pshift,pstr,pun,pconv,isShift,isConstB,app,subS,lay,rowsOf,lkV,keyKind,keyEq,mfind,mput,oInt,isZeroInt,forall_const,exists_eq_left',implies_true,IntKind.bits, ↓reduceIte,Nat.reduceEqDiff,Nat.reduceAdd,Nat.reduceSub,Nat.reduceMul,Nat.reduceLT,Nat.reduceLeDiff,Nat.reduceBEq,Int.reduceLE,Int.reduceLT,Int.reduceToNat,reduceCtorEq,s5],by simp only[frzS,undef,am0,am1,am2,am3,amb0,amb1,amb2,amb3,amb4,lwn,drn,callee,wantedB,isW,eff,pev,pst0,retPost,resAll,resP,resV,intP,mkV,putC,pbin,sbin,strsEq,peq,pint,pshift,pstr,pun,pconv,isShift,isConstB,app,subS,lay,rowsOf,lkV,keyKind,keyEq,mfind,mput,oInt,isZeroInt,forall_const,exists_eq_left',implies_true,IntKind.bits, ↓reduceIte,Nat.reduceEqDiff,Nat.reduceAdd,Nat.reduceSub,Nat.reduceMul,Nat.reduceLT,Nat.reduceLeDiff,Nat.reduceBEq,Int.reduceLE,Int.reduceLT,Int.reduceToNat,reduceCtorEq]⟩ ?_
   clear s2 s3 s5 hn15 u1 u3 u4 u5 u6 hno hb1 hb2 hb3 hb4 hin1 hin2
   rintro S H ⟨s2,s3,s5,s6⟩
   have ee:(e==e)=true:=by simp
   repeat'(first
    |refine a_seq fun K hK=>?_
    |(refine a_block ?_)
    |((first|refine a_regionS ?_|refine a_region (fun K hK=>?_)|refine a_ret ?_);simp(maxSteps:=2000000) only[undef,am0,am1,am2,am3,amb0,amb1,amb2,amb3,amb4,lwn,drn,callee,wantedB,isW,eff,pev,pst0,retPost,resAll,resP,resV,intP,mkV,putC,pbin,sbin,strsEq,peq,pint,pshift,pstr,pun,pconv,isShift,isConstB,app,subS,lay,rowsOf,lkV,keyKind,keyEq,mfind,mput,oInt,isZeroInt,forall_const,exists_eq_left',implies_true,IntKind.bits, ↓reduceIte,Nat.reduceEqDiff,Nat.reduceAdd,Nat.reduceSub,Nat.reduceMul,Nat.reduceLT,Nat.reduceLeDiff,Nat.reduceBEq,Int.reduceLE,Int.reduceLT,Int.reduceToNat,reduceCtorEq,Ty.all,s2,s3,s5,s6])
    |(refine a_skip ?_;try simp only[pst0, ↓reduceIte,Nat.reduceEqDiff])
    |(refine a_exit ?_;try simp only[pst0, ↓reduceIte,Nat.reduceEqDiff])
    |(refine a_cond _ (by(try simp(maxSteps:=2000000) only[undef,am0,am1,am2,am3,amb0,amb1,amb2,amb3,amb4,lwn,drn,callee,wantedB,isW,eff,pev,pst0,retPost,resAll,resP,resV,intP,mkV,putC,pbin,sbin,strsEq,peq,pint,pshift,pstr,pun,pconv,isShift,isConstB,app,subS,lay,rowsOf,lkV,keyKind,keyEq,mfind,mput,oInt,isZeroInt,forall_const,exists_eq_left',implies_true,IntKind.bits, ↓reduceIte,Nat.reduceEqDiff,Nat.reduceAdd,Nat.reduceSub,Nat.reduceMul,Nat.reduceLT,Nat.reduceLeDiff,Nat.reduceBEq,Int.reduceLE,Int.reduceLT,Int.reduceToNat,reduceCtorEq,Ty.all,s2,s3,s5,s6]);rfl) (fun hb=>?_) (fun hb=>?_)<;>(try simp only[hb0,decide_eq_true_eq,decide_eq_false_iff_not,reduceCtorEq]at hb)<;>(try(exfalso;omega)))
    |(with_reducible refine ite_in (fun hb=>?_) (fun hb=>?_)<;>(try simp only[Decidable.not_not]at hb)<;>(try simp only[hb,if_true,if_false,not_false_eq_true,not_true_eq_false, ↓reduceIte])<;>(try simp only[hb0,decide_eq_true_eq,decide_eq_false_iff_not,reduceCtorEq]at hb)<;>(try(exfalso;omega)))
    |(refine hK _ _ ?_;clear hK;try simp only[pst0, ↓reduceIte,Nat.reduceEqDiff])
    |(clear hK;refine hK _ _ ?_;clear hK;try simp only[pst0, ↓reduceIte,Nat.reduceEqDiff])
    |(clear hK;clear hK;refine hK _ _ ?_;clear hK;try simp only[pst0, ↓reduceIte,Nat.reduceEqDiff])
    |(clear hK;clear hK;clear hK;refine hK _ _ ?_;clear hK;try simp only[pst0, ↓reduceIte,Nat.reduceEqDiff])
    |(rw[if_pos];rotate_left 1;omega;simp(maxSteps:=2000000) only[undef,am0,am1,am2,am3,amb0,amb1,amb2,amb3,amb4,lwn,drn,callee,wantedB,isW,eff,pev,pst0,retPost,resAll,resP,resV,intP,mkV,putC,pbin,sbin,strsEq,peq,pint,pshift,pstr,pun,pconv,isShift,isConstB,app,subS,lay,rowsOf,lkV,keyKind,keyEq,mfind,mput,oInt,isZeroInt,forall_const,exists_eq_left',implies_true,IntKind.bits, ↓reduceIte,Nat.reduceEqDiff,Nat.reduceAdd,Nat.reduceSub,Nat.reduceMul,Nat.reduceLT,Nat.reduceLeDiff,Nat.reduceBEq,Int.reduceLE,Int.reduceLT,Int.reduceToNat,reduceCtorEq,Ty.all,s2,s3,s5,s6]))
   refine owp_useQ (h1 _) (by(try simp only[undef,am0,am1,am2,am3,amb0,amb1,amb2,amb3,amb4,lwn,drn,callee,wantedB,isW,eff,pev,pst0,retPost,resAll,resP,resV,intP,mkV,putC,pbin,sbin,strsEq,peq,pint,pshift,pstr,pun,pconv,isShift,isConstB,app,subS,lay,rowsOf,lkV,keyKind,keyEq,mfind,mput,oInt,isZeroInt,forall_const,exists_eq_left',implies_true,IntKind.bits, ↓reduceIte,Nat.reduceEqDiff,Nat.reduceAdd,Nat.reduceSub,Nat.reduceMul,Nat.reduceLT,Nat.reduceLeDiff,Nat.reduceBEq,Int.reduceLE,Int.reduceLT,Int.reduceToNat,reduceCtorEq,s2,s3,s5,s6,ee]);try rfl) ?_
   simp(maxSteps:=2000000) only[undef,am0,am1,am2,am3,amb0,amb1,amb2,amb3,amb4,lwn,drn,callee,wantedB,isW,eff,pev,pst0,retPost,resAll,resP,resV,intP,mkV,putC,pbin,sbin,strsEq,peq,pint,pshift,pstr,pun,pconv,isShift,isConstB,app,subS,lay,rowsOf,lkV,keyKind,keyEq,mfind,mput,oInt,isZeroInt,forall_const,exists_eq_left',implies_true,IntKind.bits, ↓reduceIte,Nat.reduceEqDiff,Nat.reduceAdd,Nat.reduceSub,Nat.reduceMul,Nat.reduceLT,Nat.reduceLeDiff,Nat.reduceBEq,Int.reduceLE,Int.reduceLT,Int.reduceToNat,reduceCtorEq,Ty.all,s2,s3,s5,s6,ee]
   repeat'(first
    |refine a_seq fun K hK=>?_
    |(refine a_block ?_)
    |((first|refine a_regionS ?_|refine a_region (fun K hK=>?_)|refine a_ret ?_);simp(maxSteps:=2000000) only[undef,am0,am1,am2,am3,amb0,amb1,amb2,amb3,amb4,lwn,drn,callee,wantedB,isW,eff,pev,pst0,retPost,resAll,resP,resV,intP,mkV,putC,pbin,sbin,strsEq,peq,pint,pshift,pstr,pun,pconv,isShift,isConstB,app,subS,lay,rowsOf,lkV,keyKind,keyEq,mfind,mput,oInt,isZeroInt,forall_const,exists_eq_left',implies_true,IntKind.bits, ↓reduceIte,Nat.reduceEqDiff,Nat.reduceAdd,Nat.reduceSub,Nat.reduceMul,Nat.reduceLT,Nat.reduceLeDiff,Nat.reduceBEq,Int.reduceLE,Int.reduceLT,Int.reduceToNat,reduceCtorEq,Ty.all,s2,s3,s5,s6,ee])
    |(refine a_skip ?_;try simp only[pst0, ↓reduceIte,Nat.reduceEqDiff])
    |(refine a_exit ?_;try simp only[pst0, ↓reduceIte,Nat.reduceEqDiff])
    |(refine a_cond _ (by(try simp(maxSteps:=2000000) only[undef,am0,am1,am2,am3,amb0,amb1,amb2,amb3,amb4,lwn,drn,callee,wantedB,isW,eff,pev,pst0,retPost,resAll,resP,resV,intP,mkV,putC,pbin,sbin,strsEq,peq,pint,pshift,pstr,pun,pconv,isShift,isConstB,app,subS,lay,rowsOf,lkV,keyKind,keyEq,mfind,mput,oInt,isZeroInt,forall_const,exists_eq_left',implies_true,IntKind.bits, ↓reduceIte,Nat.reduceEqDiff,Nat.reduceAdd,Nat.reduceSub,Nat.reduceMul,Nat.reduceLT,Nat.reduceLeDiff,Nat.reduceBEq,Int.reduceLE,Int.reduceLT,Int.reduceToNat,reduceCtorEq,Ty.all,s2,s3,s5,s6,ee]);rfl) (fun hb=>?_) (fun hb=>?_)<;>(try simp only[hb0,decide_eq_true_eq,decide_eq_false_iff_not,reduceCtorEq]at hb)<;>(try(exfalso;omega)))
    |(with_reducible refine ite_in (fun hb=>?_) (fun hb=>?_)<;>(try simp only[Decidable.not_not]at hb)<;>(try simp only[hb,if_true,if_false,not_false_eq_true,not_true_eq_false, ↓reduceIte])<;>(try simp only[hb0,decide_eq_true_eq,decide_eq_false_iff_not,reduceCtorEq]at hb)<;>(try(exfalso;omega)))
    |(refine hK _ _ ?_;clear hK;try simp only[pst0, ↓reduceIte,Nat.reduceEqDiff])
    |(clear hK;refine hK _ _ ?_;clear hK;try simp only[pst0, ↓reduceIte,Nat.reduceEqDiff])
    |(clear hK;clear hK;refine hK _ _ ?_;clear hK;try simp only[pst0, ↓reduceIte,Nat.reduceEqDiff])
    |(clear hK;clear hK;clear hK;refine hK _ _ ?_;clear hK;try simp only[pst0, ↓reduceIte,Nat.reduceEqDiff])
    |(rw[if_pos];rotate_left 1;omega;simp(maxSteps:=2000000) only[undef,am0,am1,am2,am3,amb0,amb1,amb2,amb3,amb4,lwn,drn,callee,wantedB,isW,eff,pev,pst0,retPost,resAll,resP,resV,intP,mkV,putC,pbin,sbin,strsEq,peq,pint,pshift,pstr,pun,pconv,isShift,isConstB,app,subS,lay,rowsOf,lkV,keyKind,keyEq,mfind,mput,oInt,isZeroInt,forall_const,exists_eq_left',implies_true,IntKind.bits, ↓reduceIte,Nat.reduceEqDiff,Nat.reduceAdd,Nat.reduceSub,Nat.reduceMul,Nat.reduceLT,Nat.reduceLeDiff,Nat.reduceBEq,Int.reduceLE,Int.reduceLT,Int.reduceToNat,reduceCtorEq,Ty.all,s2,s3,s5,s6,ee]))
   refine owp_useQ (h2 _) (by(try simp only[undef,am0,am1,am2,am3,amb0,amb1,amb2,amb3,amb4,lwn,drn,callee,wantedB,isW,eff,pev,pst0,retPost,resAll,resP,resV,intP,mkV,putC,pbin,sbin,strsEq,peq,pint,pshift,pstr,pun,pconv,isShift,isConstB,app,subS,lay,rowsOf,lkV,keyKind,keyEq,mfind,mput,oInt,isZeroInt,forall_const,exists_eq_left',implies_true,IntKind.bits, ↓reduceIte,Nat.reduceEqDiff,Nat.reduceAdd,Nat.reduceSub,Nat.reduceMul,Nat.reduceLT,Nat.reduceLeDiff,Nat.reduceBEq,Int.reduceLE,Int.reduceLT,Int.reduceToNat,reduceCtorEq,s2,s3,s5,s6,ee]);try rfl) ?_
   simp(maxSteps:=2000000) only[undef,am0,am1,am2,am3,amb0,amb1,amb2,amb3,amb4,lwn,drn,callee,wantedB,isW,eff,pev,pst0,retPost,resAll,resP,resV,intP,mkV,putC,pbin,sbin,strsEq,peq,pint,pshift,pstr,pun,pconv,isShift,isConstB,app,subS,lay,rowsOf,lkV,keyKind,keyEq,mfind,mput,oInt,isZeroInt,forall_const,exists_eq_left',implies_true,IntKind.bits, ↓reduceIte,Nat.reduceEqDiff,Nat.reduceAdd,Nat.reduceSub,Nat.reduceMul,Nat.reduceLT,Nat.reduceLeDiff,Nat.reduceBEq,Int.reduceLE,Int.reduceLT,Int.reduceToNat,reduceCtorEq,Ty.all,s2,s3,s5,s6,ee]
   repeat'(first
    |refine a_seq fun K hK=>?_
    |(refine a_block ?_)
    |((first|refine a_regionS ?_|refine a_region (fun K hK=>?_)|refine a_ret ?_);simp(maxSteps:=2000000) only[undef,am0,am1,am2,am3,amb0,amb1,amb2,amb3,amb4,lwn,drn,callee,wantedB,isW,eff,pev,pst0,retPost,resAll,resP,resV,intP,mkV,putC,pbin,sbin,strsEq,peq,pint,pshift,pstr,pun,pconv,isShift,isConstB,app,subS,lay,rowsOf,lkV,keyKind,keyEq,mfind,mput,oInt,isZeroInt,forall_const,exists_eq_left',implies_true,IntKind.bits, ↓reduceIte,Nat.reduceEqDiff,Nat.reduceAdd,Nat.reduceSub,Nat.reduceMul,Nat.reduceLT,Nat.reduceLeDiff,Nat.reduceBEq,Int.reduceLE,Int.reduceLT,Int.reduceToNat,reduceCtorEq,Ty.all,s2,s3,s5,s6,ee])
    |(refine a_skip ?_;try simp only[pst0, ↓reduceIte,Nat.reduceEqDiff])
    |(refine a_exit ?_;try simp only[pst0, ↓reduceIte,Nat.reduceEqDiff])
    |(refine a_cond _ (by(try simp(maxSteps:=2000000) only[undef,am0,am1,am2,am3,amb0,amb1,amb2,amb3,amb4,lwn,drn,callee,wantedB,isW,eff,pev,pst0,retPost,resAll,resP,resV,intP,mkV,putC,pbin,sbin,strsEq,peq,pint,pshift,pstr,pun,pconv,isShift,isConstB,app,subS,lay,rowsOf,lkV,keyKind,keyEq,mfind,mput,oInt,isZeroInt,forall_const,exists_eq_left',implies_true,IntKind.bits, ↓reduceIte,Nat.reduceEqDiff,Nat.reduceAdd,Nat.reduceSub,Nat.reduceMul,Nat.reduceLT,Nat.reduceLeDiff,Nat.reduceBEq,Int.reduceLE,Int.reduceLT,Int.reduceToNat,reduceCtorEq,Ty.all,s2,s3,s5,s6,ee]);rfl) (fun hb=>?_) (fun hb=>?_)<;>(try simp only[hb0,decide_eq_true_eq,decide_eq_false_iff_not,reduceCtorEq]at hb)<;>(try(exfalso;omega)))
    |(with_reducible refine ite_in (fun hb=>?_) (fun hb=>?_)<;>(try simp only[Decidable.not_not]at hb)<;>(try simp only[hb,if_true,if_false,not_false_eq_true,not_true_eq_false, ↓reduceIte])<;>(try simp only[hb0,decide_eq_true_eq,decide_eq_false_iff_not,reduceCtorEq]at hb)<;>(try(exfalso;omega)))
    |(refine hK _ _ ?_;clear hK;try simp only[pst0, ↓reduceIte,Nat.reduceEqDiff])
    |(clear hK;refine hK _ _ ?_;clear hK;try simp only[pst0, ↓reduceIte,Nat.reduceEqDiff])
    |(clear hK;clear hK;refine hK _ _ ?_;clear hK;try simp only[pst0, ↓reduceIte,Nat.reduceEqDiff])
    |(clear hK;clear hK;clear hK;refine hK _ _ ?_;clear hK;try simp only[pst0, ↓reduceIte,Nat.reduceEqDiff])
    |(rw[if_pos];rotate_left 1;omega;simp(maxSteps:=2000000) only[undef,am0,am1,am2,am3,amb0,amb1,amb2,amb3,amb4,lwn,drn,callee,wantedB,isW,eff,pev,pst0,retPost,resAll,resP,resV,intP,mkV,putC,pbin,sbin,strsEq,peq,pint,pshift,pstr,pun,pconv,isShift,isConstB,app,subS,lay,rowsOf,lkV,keyKind,keyEq,mfind,mput,oInt,isZeroInt,forall_const,exists_eq_left',implies_true,IntKind.bits, ↓reduceIte,Nat.reduceEqDiff,Nat.reduceAdd,Nat.reduceSub,Nat.reduceMul,Nat.reduceLT,Nat.reduceLeDiff,Nat.reduceBEq,Int.reduceLE,Int.reduceLT,Int.reduceToNat,reduceCtorEq,Ty.all,s2,s3,s5,s6,ee]))
   refine owp_useQ (h3 _) (by(try simp only[undef,am0,am1,am2,am3,amb0,amb1,amb2,amb3,amb4,lwn,drn,callee,wantedB,isW,eff,pev,pst0,retPost,resAll,resP,resV,intP,mkV,putC,pbin,sbin,strsEq,peq,pint,pshift,pstr,pun,pconv,isShift,isConstB,app,subS,lay,rowsOf,lkV,keyKind,keyEq,mfind,mput,oInt,isZeroInt,forall_const,exists_eq_left',implies_true,IntKind.bits, ↓reduceIte,Nat.reduceEqDiff,Nat.reduceAdd,Nat.reduceSub,Nat.reduceMul,Nat.reduceLT,Nat.reduceLeDiff,Nat.reduceBEq,Int.reduceLE,Int.reduceLT,Int.reduceToNat,reduceCtorEq,s2,s3,s5,s6,ee]);try rfl) ?_
   simp(maxSteps:=2000000) only[undef,am0,am1,am2,am3,amb0,amb1,amb2,amb3,amb4,lwn,drn,callee,wantedB,isW,eff,pev,pst0,retPost,resAll,resP,resV,intP,mkV,putC,pbin,sbin,strsEq,peq,pint,pshift,pstr,pun,pconv,isShift,isConstB,app,subS,lay,rowsOf,lkV,keyKind,keyEq,mfind,mput,oInt,isZeroInt,forall_const,exists_eq_left',implies_true,IntKind.bits, ↓reduceIte,Nat.reduceEqDiff,Nat.reduceAdd,Nat.reduceSub,Nat.reduceMul,Nat.reduceLT,Nat.reduceLeDiff,Nat.reduceBEq,Int.reduceLE,Int.reduceLT,Int.reduceToNat,reduceCtorEq,Ty.all,s2,s3,s5,s6,ee]
   repeat'(first
    |refine a_seq fun K hK=>?_
    |(refine a_block ?_)
    |((first|refine a_regionS ?_|refine a_region (fun K hK=>?_)|refine a_ret ?_);simp(maxSteps:=2000000) only[undef,am0,am1,am2,am3,amb0,amb1,amb2,amb3,amb4,lwn,drn,callee,wantedB,isW,eff,pev,pst0,retPost,resAll,resP,resV,intP,mkV,putC,pbin,sbin,strsEq,peq,pint,pshift,pstr,pun,pconv,isShift,isConstB,app,subS,lay,rowsOf,lkV,keyKind,keyEq,mfind,mput,oInt,isZeroInt,forall_const,exists_eq_left',implies_true,IntKind.bits, ↓reduceIte,Nat.reduceEqDiff,Nat.reduceAdd,Nat.reduceSub,Nat.reduceMul,Nat.reduceLT,Nat.reduceLeDiff,Nat.reduceBEq,Int.reduceLE,Int.reduceLT,Int.reduceToNat,reduceCtorEq,Ty.all,s2,s3,s5,s6,ee])
    |(refine a_skip ?_;try simp only[pst0, ↓reduceIte,Nat.reduceEqDiff])
    |(refine a_exit ?_;try simp only[pst0, ↓reduceIte,Nat.reduceEqDiff])
    |(refine a_cond _ (by(try simp(maxSteps:=2000000) only[undef,am0,am1,am2,am3,amb0,amb1,amb2,amb3,amb4,lwn,drn,callee,wantedB,isW,eff,pev,pst0,retPost,resAll,resP,resV,intP,mkV,putC,pbin,sbin,strsEq,peq,pint,pshift,pstr,pun,pconv,isShift,isConstB,app,subS,lay,rowsOf,lkV,keyKind,keyEq,mfind,mput,oInt,isZeroInt,forall_const,exists_eq_left',implies_true,IntKind.bits, ↓reduceIte,Nat.reduceEqDiff,Nat.reduceAdd,Nat.reduceSub,Nat.reduceMul,Nat.reduceLT,Nat.reduceLeDiff,Nat.reduceBEq,Int.reduceLE,Int.reduceLT,Int.reduceToNat,reduceCtorEq,Ty.all,s2,s3,s5,s6,ee]);rfl) (fun hb=>?_) (fun hb=>?_)<;>(try simp only[hb0,decide_eq_true_eq,decide_eq_false_iff_not,reduceCtorEq]at hb)<;>(try(exfalso;omega)))
    |(with_reducible refine ite_in (fun hb=>?_) (fun hb=>?_)<;>(try simp only[Decidable.not_not]at hb)<;>(try simp only[hb,if_true,if_false,not_false_eq_true,not_true_eq_false, ↓reduceIte])<;>(try simp only[hb0,decide_eq_true_eq,decide_eq_false_iff_not,reduceCtorEq]at hb)<;>(try(exfalso;omega)))
    |(refine hK _ _ ?_;clear hK;try simp only[pst0, ↓reduceIte,Nat.reduceEqDiff])
    |(clear hK;refine hK _ _ ?_;clear hK;try simp only[pst0, ↓reduceIte,Nat.reduceEqDiff])
    |(clear hK;clear hK;refine hK _ _ ?_;clear hK;try simp only[pst0, ↓reduceIte,Nat.reduceEqDiff])
    |(clear hK;clear hK;clear hK;refine hK _ _ ?_;clear hK;try simp only[pst0, ↓reduceIte,Nat.reduceEqDiff])
    |(rw[if_pos];rotate_left 1;omega;simp(maxSteps:=2000000) only[undef,am0,am1,am2,am3,amb0,amb1,amb2,amb3,amb4,lwn,drn,callee,wantedB,isW,eff,pev,pst0,retPost,resAll,resP,resV,intP,mkV,putC,pbin,sbin,strsEq,peq,pint,pshift,pstr,pun,pconv,isShift,isConstB,app,subS,lay,rowsOf,lkV,keyKind,keyEq,mfind,mput,oInt,isZeroInt,forall_const,exists_eq_left',implies_true,IntKind.bits, ↓reduceIte,Nat.reduceEqDiff,Nat.reduceAdd,Nat.reduceSub,Nat.reduceMul,Nat.reduceLT,Nat.reduceLeDiff,Nat.reduceBEq,Int.reduceLE,Int.reduceLT,Int.reduceToNat,reduceCtorEq,Ty.all,s2,s3,s5,s6,ee]))
   refine owp_useQ (h4 _) (by(try simp only[undef,am0,am1,am2,am3,amb0,amb1,amb2,amb3,amb4,lwn,drn,callee,wantedB,isW,eff,pev,pst0,retPost,resAll,resP,resV,intP,mkV,putC,pbin,sbin,strsEq,peq,pint,pshift,pstr,pun,pconv,isShift,isConstB,app,subS,lay,rowsOf,lkV,keyKind,keyEq,mfind,mput,oInt,isZeroInt,forall_const,exists_eq_left',implies_true,IntKind.bits, ↓reduceIte,Nat.reduceEqDiff,Nat.reduceAdd,Nat.reduceSub,Nat.reduceMul,Nat.reduceLT,Nat.reduceLeDiff,Nat.reduceBEq,Int.reduceLE,Int.reduceLT,Int.reduceToNat,reduceCtorEq,s2,s3,s5,s6,ee]);try rfl) ?_
   simp(maxSteps:=2000000) only[undef,am0,am1,am2,am3,amb0,amb1,amb2,amb3,amb4,lwn,drn,callee,wantedB,isW,eff,pev,pst0,retPost,resAll,resP,resV,intP,mkV,putC,pbin,sbin,strsEq,peq,pint,pshift,pstr,pun,pconv,isShift,isConstB,app,subS,lay,rowsOf,lkV,keyKind,keyEq,mfind,mput,oInt,isZeroInt,forall_const,exists_eq_left',implies_true,IntKind.bits, ↓reduceIte,Nat.reduceEqDiff,Nat.reduceAdd,Nat.reduceSub,Nat.reduceMul,Nat.reduceLT,Nat.reduceLeDiff,Nat.reduceBEq,Int.reduceLE,Int.reduceLT,Int.reduceToNat,reduceCtorEq,Ty.all,s2,s3,s5,s6,ee]
   repeat'(first
    |refine a_seq fun K hK=>?_
    |(refine a_block ?_)
    |((first|refine a_regionS ?_|refine a_region (fun K hK=>?_)|refine a_ret ?_);simp(maxSteps:=2000000) only[undef,am0,am1,am2,am3,amb0,amb1,amb2,amb3,amb4,lwn,drn,callee,wantedB,isW,eff,pev,pst0,retPost,resAll,resP,resV,intP,mkV,putC,pbin,sbin,strsEq,peq,pint,pshift,pstr,pun,pconv,isShift,isConstB,app,subS,lay,rowsOf,lkV,keyKind,keyEq,mfind,mput,oInt,isZeroInt,forall_const,exists_eq_left',implies_true,IntKind.bits, ↓reduceIte,Nat.reduceEqDiff,Nat.reduceAdd,Nat.reduceSub,Nat.reduceMul,Nat.reduceLT,Nat.reduceLeDiff,Nat.reduceBEq,Int.reduceLE,Int.reduceLT,Int.reduceToNat,reduceCtorEq,Ty.all,s2,s3,s5,s6,ee])
    |(refine a_skip ?_;try simp only[pst0, ↓reduceIte,Nat.reduceEqDiff])
    |(refine a_exit ?_;try simp only[pst0, ↓reduceIte,Nat.reduceEqDiff])
    |(refine a_cond _ (by(try simp(maxSteps:=2000000) only[undef,am0,am1,am2,am3,amb0,amb1,amb2,amb3,amb4,lwn,drn,callee,wantedB,isW,eff,pev,pst0,retPost,resAll,resP,resV,intP,mkV,putC,pbin,sbin,strsEq,peq,pint,pshift,pstr,pun,pconv,isShift,isConstB,app,subS,lay,rowsOf,lkV,keyKind,keyEq,mfind,mput,oInt,isZeroInt,forall_const,exists_eq_left',implies_true,IntKind.bits, ↓reduceIte,Nat.reduceEqDiff,Nat.reduceAdd,Nat.reduceSub,Nat.reduceMul,Nat.reduceLT,Nat.reduceLeDiff,Nat.reduceBEq,Int.reduceLE,Int.reduceLT,Int.reduceToNat,reduceCtorEq,Ty.all,s2,s3,s5,s6,ee]);rfl) (fun hb=>?_) (fun hb=>?_)<;>(try simp only[hb0,decide_eq_true_eq,decide_eq_false_iff_not,reduceCtorEq]at hb)<;>(try(exfalso;omega)))
    |(with_reducible refine ite_in (fun hb=>?_) (fun hb=>?_)<;>(try simp only[Decidable.not_not]at hb)<;>(try simp only[hb,if_true,if_false,not_false_eq_true,not_true_eq_false, ↓reduceIte])<;>(try simp only[hb0,decide_eq_true_eq,decide_eq_false_iff_not,reduceCtorEq]at hb)<;>(try(exfalso;omega)))
    |(refine hK _ _ ?_;clear hK;try simp only[pst0, ↓reduceIte,Nat.reduceEqDiff])
    |(clear hK;refine hK _ _ ?_;clear hK;try simp only[pst0, ↓reduceIte,Nat.reduceEqDiff])
    |(clear hK;clear hK;refine hK _ _ ?_;clear hK;try simp only[pst0, ↓reduceIte,Nat.reduceEqDiff])
    |(clear hK;clear hK;clear hK;refine hK _ _ ?_;clear hK;try simp only[pst0, ↓reduceIte,Nat.reduceEqDiff])
    |(rw[if_pos];rotate_left 1;omega;simp(maxSteps:=2000000) only[undef,am0,am1,am2,am3,amb0,amb1,amb2,amb3,amb4,lwn,drn,callee,wantedB,isW,eff,pev,pst0,retPost,resAll,resP,resV,intP,mkV,putC,pbin,sbin,strsEq,peq,pint,pshift,pstr,pun,pconv,isShift,isConstB,app,subS,lay,rowsOf,lkV,keyKind,keyEq,mfind,mput,oInt,isZeroInt,forall_const,exists_eq_left',implies_true,IntKind.bits, ↓reduceIte,Nat.reduceEqDiff,Nat.reduceAdd,Nat.reduceSub,Nat.reduceMul,Nat.reduceLT,Nat.reduceLeDiff,Nat.reduceBEq,Int.reduceLE,Int.reduceLT,Int.reduceToNat,reduceCtorEq,Ty.all,s2,s3,s5,s6,ee]))
end Go.Proofs.YtdbmemfnjnkefaaGreat
namespace Go.AM
section
variable {P:Program}{w:World}
theorem glb_of_shape{g:Nat}{t:TypeId}{zero:Array Value}(h:w.ShapedOpen P)(hg:g<P.globals.size)(h0:((begin P (fun _ _=>0) default).world.heap[g]?).bind Obj.row? =some (zero,t))(hz:zero.size=1)
  (hb:P.buildable t=true)(hc:P.cellTypes P.depth t=some [t])(hu:P.underlying t=some (.int .i64)): ∃ i:Int,w.cell? ⟨g,0,none⟩=some (.int .i64 i)∧ -9223372036854775808≤i∧i≤9223372036854775807:=by
 obtain⟨cs,hh,hs,hr⟩:=h.1 g zero t hg h0
 obtain⟨ts,hts,_,all⟩:=hr hb
 obtain rfl:=Option.some.inj (hc.symm.trans hts)
 have h1:0<cs.size:=by omega
 obtain⟨u,hu',ok⟩:=all 0 cs[0] (by simp[h1])
 obtain rfl:u=t:=by simpa using hu'.symm
 have hcell:w.cell? ⟨g,0,none⟩=some cs[0]:=by simp[World.cell?,hh,h1]
 rw[hcell]
 unfold Cell.ok at ok
 rw[hu]at ok
 generalize cs[0]=c at ok
 cases c<;>simp at ok
 rename_i k n
 obtain⟨rfl,hn⟩:=ok
 unfold IntKind.has at hn
 exact⟨n,rfl,hn⟩
end
end Go.AM
