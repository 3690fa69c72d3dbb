/- What the claim rests on, part 9: the abstract machine, contracts of the functions, plain data. -/
import Derived.Test.YtblgchkahpgdjaaGreatRows
import Derived.Test.YtblgchkahpgdjaaGreatZs8
set_option linter.unusedVariables false
set_option linter.unusedSimpArgs false
set_option linter.unusedSectionVars false
namespace Go.AM
open Go.ChangeShapes Go.WideShapes
open Go.Proofs.YtblgchkahpgdjaaGreat
mutual
def PV.bulk:PV->Nat
 | .sc (.string s)=>s.size+1
 | .A2 _ rows=>PV.D2 rows+1
 |_=>1
def PV.bulkL:List PV->Nat
 |[]=>0
 |p::ps=>p.bulk+PV.bulkL ps
def PV.D2:List (List PV)->Nat
 |[]=>0
 |r::rs=>PV.bulkL r+PV.D2 rs
end
theorem PV.Ox: ∀ l m:List PV,PV.bulkL (l++m)=PV.bulkL l+PV.bulkL m
 |[],m=>by simp[PV.bulkL]
 |p::l,m=>by simp only[List.cons_append,PV.bulkL,PV.Ox l m];omega
theorem List.pI{k i j:Nat}(h:(List.range k)[i]? =some j):i<k/\i=j:=by
 have h1:=(List.getElem?_eq_some_iff.1 h).1;simp at h1;rw[List.getElem?_range h1]at h;simp at h;exact⟨h1,h⟩
section
variable {H:Type}{enc:TypeId × Value->H}{P:Program}{w:World}{sp:Nat->Bool}{held:Bool}
theorem WU: ∀ (rows:List (List PV))(ds:List (DataW H)),rows.length=ds.length->(∀ (i:Nat)(r:List PV),rows[i]? =some r-> ∃ d,ds[i]? =some d/\PV.bulkL r<=Rows.uptoBulk d)->PV.D2 rows<=Rows.uptoBulkAll ds
 |[],_,_,_=>by simp[PV.D2]
 |r::rows,[],h,_=>by simp at h
 |r::rows,d::ds,h,hb=>by
  have h1:=WU rows ds (by simpa using h) λi q hq=>by simpa using hb (i+1) q (by simpa using hq)
  obtain⟨d',h2,h3⟩:=hb 0 r rfl;simp at h2;subst h2;simp only[PV.D2,Rows.uptoBulkAll];omega
theorem SU{c:Nat}{cs:List Value}:(l:List (Nat × TypeId))->(ds:List (DataW H))->(o:Nat)->HP P cs.length o l=true->
  (∀ (i:Nat)(p:Nat × TypeId),l[i]? =some p-> ∃ d,ds[i]? =some d/\ ∃ ps,B7 P c p.2 ps/\RA w ps ((cs.drop p.1).take (P.cellsOf p.2))/\PV.bulkL ps<=Rows.uptoBulk d)->
  ∃ ps,RA w ps (cs.drop o)/\(∀ p∈l,B7 P c p.2 ((ps.drop (p.1-o)).take (P.cellsOf p.2)))/\PV.bulkL ps<=Rows.uptoBulkAll ds
 |[],ds,o,h,_=>by
  simp[HP]at h;refine⟨[],⟨?_,λβ n=>?_⟩,by simp,by simp[PV.bulkL]⟩
  ·rw [List.drop_of_length_le (by omega)];simp
  ·rw [List.drop_of_length_le (by omega)];simp[AU]
 |p::l,[],o,h,hp=>by
  obtain⟨d,hd,_⟩:=hp 0 p rfl;simp at hd
 |p::l,d::ds,o,h,hp=>by
  have hle:=(O7 (p::l) o h).2 p (by simp);simp only[HP,AV,Eg]at h;obtain⟨ps,h1,h2,h20⟩:=SU l ds _ h.2 (λi q hq=>by simpa using hp (i+1) q (by simpa using hq));obtain⟨d',hd,ps0,h3,h4,h40⟩:=hp 0 p rfl;simp at hd;subst hd;have hl2:=(O7 l _ h.2).2;have e0:p.1=o:=h.1;have l0:ps0.length=P.cellsOf p.2:=by rw[h4.len,List.length_take,List.length_drop];omega
  refine⟨ps0++ps,?_,λq hq=>?_,by rw[PV.Ox];simp only[Rows.uptoBulkAll];omega⟩
  ·have:cs.drop o=(cs.drop p.1).take (P.cellsOf p.2)++cs.drop (o+P.cellsOf p.2):=by
    rw[e0, ← List.drop_drop,List.take_append_drop]
   rw[this];exact h4.append h1
  ·rcases List.mem_cons.1 hq with rfl|hq
   ·rw [e0,KV,List.drop_zero,List.take_append_of_le_length (by omega),List.take_of_length_le (by omega)];exact h3
   ·have h5:=hl2 q hq;have:q.1-o=ps0.length+(q.1-(o+P.cellsOf p.2)):=(by omega);rw[this, ← List.drop_drop,List.drop_left];exact h2 q hq
theorem QA{Ts:List TypeId}(hT:Vk P Ts=true): ∀ (fuel:Nat)(t:TypeId),Ts.contains t=true-> ∀ (cs:List Value)(x:DataW H × List MemPlace),DataW.trod enc P w 0 sp held fuel t cs=some x->(∀ n∈x.1.weights P t,n<=reachBytes)->
  ∃ ps,B7 P fuel t ps/\RA w ps cs/\PV.bulkL ps<=Rows.uptoBulk x.1
 |0,_,_,_,_,hx,_=>by simp[DataW.trod]at hx
 |c+1,t,ht,cs,x,hx,hw=>by
  have h:=List.all_eq_true.1 hT t (by simpa using ht);split at h
  ·rename_i hu;obtain⟨b,rfl,rfl⟩:=DataW.trod_bool hu hx;refine⟨[.sc (.bool b)],?_,Mu rfl,by simp[PV.bulkL,PV.bulk,Rows.uptoBulk]⟩;unfold B7;rw[hu];exact⟨b,rfl⟩
  ·rename_i k hu;obtain⟨n,rfl,rfl,hwf⟩:=DataW.trod_int hu hx;refine⟨[.sc (.int k n)],?_,Mu rfl,by simp[PV.bulkL,PV.bulk,Rows.uptoBulk]⟩;unfold B7;rw[hu];exact⟨n,hwf,rfl⟩
  ·rename_i hu;obtain⟨s,rfl,rfl,hs⟩:=DataW.trod_string hu hx;refine⟨[.sc (.string s)],?_,Mu rfl,by have e:s.data.toList.length=s.size:=by{rw[F7];try rfl};simp only[PV.bulkL,PV.bulk,Rows.uptoBulk];omega⟩;unfold B7;rw[hu];refine⟨s,?_,rfl⟩;have:=hw s.data.toList.length (by simp[DataW.weights]);simpa using this
  ·rename_i e hu;simp only[AV,Bg]at h;obtain⟨hpos,hcov⟩:=h;rcases DataW.trod_slice hu hx with⟨rfl,rfl⟩|⟨a,len,cap,elems,rest,n,hfu,rfl,rfl,hb,hl,hm,hlen,hel,hsp,hns⟩
   ·refine ⟨[.A2 (P.cellsOf e) []],?_,⟨λv hv=>?_,λβ n=>?_⟩,by simp[PV.bulkL,PV.bulk,PV.D2,Rows.uptoBulk]⟩
    ·unfold B7;rw[hu];exact⟨[],rfl,by simp,by simp,by simp⟩
    ·simp at hv;subst hv;rfl
    ·simp only[AU,AA];exact⟨⟨none,0,rfl,AG _,BY _,.inl (by trivial)⟩,trivial⟩
   ·obtain rfl:c=n:=(by omega);have each: ∀ i,i<len-> ∃ r:List PV,(r.length=P.cellsOf e/\B7 P c e r/\ ∃ d,(elems.map (·.1))[i]? =some d/\PV.bulkL r<=Rows.uptoBulk d)/\ ∃ ci,RA w r ci/\ci.length=P.cellsOf e/\ ∀ j,j<P.cellsOf e->w.cell? ((a.add (i*P.cellsOf e)).add j)=ci[j]?:=by
     intro i hi;have h1:=hel i hi;have h2:elems[i]? =some (elems[i]'(by omega)):=List.getElem?_eq_getElem _;rw[h2,oU]at h1;obtain⟨ci,h3,h4⟩:=h1;obtain⟨_,h5,h6⟩:=World.cells?_some h3;obtain⟨r,h7,h8,h80⟩:=QA hT c e hcov ci _ h4 (λm hm=>hw m (by
      simp only[DataW.weights,hu,List.mem_cons,List.mem_append];exact .inr (.inl (O8 (i:=i) (by rw[List.getElem?_map,h2];try rfl) hm))))
     exact⟨r,⟨by rw[h8.len,h5],h7,_,by rw[List.getElem?_map,h2];try rfl,h80⟩,ci,h8,h5,h6⟩
    obtain⟨rows,hrl,hrows⟩:=SA len each;refine⟨[.A2 (P.cellsOf e) rows],?_,⟨λv hv=>?_,λβ m=>?_⟩,?_⟩
    ·unfold B7;rw[hu];refine⟨rows,rfl,?_,by omega,λr hr=>?_⟩
     ·have:=hw ((elems.map (·.1)).length*P.bytesOf e+(rest.map (·.1)).length*P.bytesOf e) (by
       simp only[DataW.weights,hu,List.mem_cons,KP,true_or])
      have h9:rows.length=(elems.map (·.1)).length:=(by simp[hrl,hlen]);rw[h9];exact ES (Qe _ _) this
     ·obtain ⟨i,hi⟩:=List.getElem?_of_mem hr;exact⟨(hrows i r hi).1.1,(hrows i r hi).1.2.1⟩
    ·simp at hv;subst hv;rfl
    ·simp only[AU,AA];refine⟨⟨some a,cap,by rw[hrl],by omega,hm,?_⟩,trivial⟩;by_cases h0:len=0
     ·left;exact List.length_eq_zero_iff.1 (by omega)
     ·right;obtain⟨_,_,c0,_,hc0,hcell0⟩:=each 0 (by omega);have h10:=hcell0 0 hpos;rw[List.getElem?_eq_getElem (by omega)]at h10;simp only[Yb,Addr.add,AO]at h10;have hs:a.spot=none:=by
       unfold World.cell? at h10;split at h10
       ·split at h10
        ·simp at h10
        ·rename_i hsp;simpa using hsp
       ·simp at h10
      have hblk:a.block<w.heap.size:=by
       unfold World.cell? at h10;split at h10
       ·rename_i hh;exact(I5.1 hh).1
       ·simp at h10
      refine⟨a.block,a.off,hblk,by cases a;simp only at hs;subst hs;rfl,?_⟩;rw[HG];intro i r hr;obtain⟨⟨g1,_⟩,ci,g2,g3,g4⟩:=hrows i r hr;refine⟨g1,?_⟩;rw[HF];intro j p hp;obtain⟨v,hv,hrep⟩:=(g2.2 β m).get hp;have hj:j<P.cellsOf e:=(by rw[← g3];exact(List.getElem?_eq_some_iff.1 hv).1);refine⟨v,?_,g2.1 v (List.mem_of_getElem? hv),hrep⟩;rw[← hv, ← g4 j hj];congr 1;cases a;simp only at hs;subst hs;simp only[Addr.add];split<;>split<;>simp_all<;>omega
    ·have hb5:=WU rows (elems.map (·.1)) (by simp[hrl,hlen]) λi r hr=>(hrows i r hr).1.2.2;simp only[PV.bulkL,PV.bulk,Rows.uptoBulk];omega
  ·rename_i fs hu;simp only[AV,List.all_eq_true]at h;obtain⟨xs,n,hfu,rfl,hcl,hxl,hp⟩:=DataW.trod_struct hu hx;obtain rfl:c=n:=(by omega);have hpt:Dd P t=fs.toList.map λf=>(f.offset,f.type):=(by unfold Dd;rw[hu]);obtain⟨ps,h1,h2,h30⟩:=SU (w:=w) (c:=c) (cs:=cs) (Dd P t) (xs.map (·.1)) 0 (by rw[hcl];exact h.1) (λi p hi=>by
    have hcv:=h.2 p (List.mem_of_getElem? hi);rw[hpt]at hi;rw[List.getElem?_map,KR]at hi;obtain⟨f,hf,rfl⟩:=hi;have hf':fs[i]? =some f:=(by simpa using hf);have hi':i<xs.length:=by
     rw[hxl];exact(I5.1 hf').1
    have h3:=hp i f hf';rw[List.getElem?_eq_getElem hi']at h3;exact⟨xs[i].1,by rw[List.getElem?_map,List.getElem?_eq_getElem hi'];try rfl,QA hT c f.type hcv _ _ h3 (λm hm=>hw m (by
     simp only[DataW.weights,hu];exact DataW.weights_mem_each (j:=i) (t:=f.type) (d:=xs[i].1) (by rw[List.getElem?_map,hf];try rfl) (by rw[List.getElem?_map,List.getElem?_eq_getElem hi'];try rfl) m hm))⟩)
   refine⟨ps,?_,by simpa using h1,by simp only[Rows.uptoBulk];omega⟩;unfold B7;rw[hu];exact⟨by rw[h1.len,List.drop_zero,hcl],λp hpm=>by simpa using h2 p hpm⟩
  ·rename_i k e hu;simp only[AV,List.all_eq_true]at h;obtain⟨xs,n,hfu,rfl,hcl,hxl,hp⟩:=DataW.trod_array hu hx;obtain rfl:c=n:=(by omega);have hpt:Dd P t=(List.range k).map λi=>(i*P.cellsOf e,e):=(by unfold Dd;rw[hu]);obtain⟨ps,h1,h2,h30⟩:=SU (w:=w) (c:=c) (cs:=cs) (Dd P t) (xs.map (·.1)) 0 (by rw[hcl];exact h.1) (λi p hi=>by
    have hcv:=h.2 p (List.mem_of_getElem? hi);rw[hpt,List.getElem?_map,KR]at hi;obtain⟨j,hj,rfl⟩:=hi;obtain⟨hjk,rfl⟩:=List.pI hj;have hi':i<xs.length:=(by rw[hxl];exact hjk);have h3:=hp i hjk;rw[List.getElem?_eq_getElem hi']at h3;exact⟨xs[i].1,by rw[List.getElem?_map,List.getElem?_eq_getElem hi'];try rfl,QA hT c e hcv _ _ h3 (λm hm=>hw m (by
     simp only[DataW.weights,hu];exact O8 (i:=i) (d:=xs[i].1) (by rw[List.getElem?_map,List.getElem?_eq_getElem hi'];try rfl) hm))⟩)
   refine⟨ps,?_,by simpa using h1,by simp only[Rows.uptoBulk];omega⟩;unfold B7;rw[hu];exact⟨by rw[h1.len,List.drop_zero,hcl],λp hpm=>by simpa using h2 p hpm⟩
  ·simp at h
theorem jd{Ts:List TypeId}(hT:Vk P Ts=true){t:TypeId}(ht:Ts.contains t=true){fs:Array Field}(hu:P.underlying t=some (.struct fs)){v:Value}{d:DataW H}{pl:List MemPlace}
  (h:DataW.Trod enc P w 0 sp held t v d pl)(hv: ∃ base,Value.okWide P w .any base t v)(hw: ∀ n∈d.weights P t,n<=reachBytes):
  ∃ c ps,B7 P c t ps/\(∀ β n,AA β n (λb=>b<w.heap.size) w (.agg ps) v)/\PV.bulkL ps<=Rows.uptoBulk d:=by
 obtain⟨fuel,hf⟩:=h;obtain⟨ps,h1,h2,h3⟩:=QA hT fuel t ht _ _ hf hw;obtain⟨base,hv⟩:=hv;unfold Value.okWide at hv;simp only[hu]at hv;obtain⟨cs,rfl,_⟩:=hv;refine⟨fuel,ps,h1,λβ n=>?_,h3⟩;simp only[AA];exact⟨cs.toList,by simp,h2.1,h2.2 β n⟩
end
end Go.AM
namespace Go.AM
theorem QB: ∀ l:List ByteArray,l.length<=PV.D2 (AN l)
 |[]=>by simp
 |s::l=>by
  have:=QB l;simp only[AN,List.map_cons,PV.D2,PV.bulkL,PV.bulk,List.length_cons]at this⊢;omega
mutual
theorem Ex.KY: ∀ (e:Ex),PV.bulkL e.cells<=1048576->e.small
 | .mk op name n args kids,h=>by
  simp only[Ex.cells,PV.bulkL,PV.bulk]at h;simp only[Ex.small];have:=QB args;exact⟨by omega,Ex.NM kids (by omega)⟩
theorem Ex.NM: ∀ (l:List Ex),PV.D2 (Ex.rows l)<=1048576->Ex.DY l
 |[],_=>by simp[Ex.DY]
 |k::ks,h=>by
  simp only[Ex.rows,PV.D2]at h;simp only[Ex.DY];exact⟨Ex.KY k (by omega),Ex.NM ks (by omega)⟩
end
end Go.AM
namespace Go.Proofs.YtblgchkahpgdjaaGreat
open Go.AM Go.Proofs.Tryz
end Go.Proofs.YtblgchkahpgdjaaGreat
namespace Go.AM
theorem JW{P:Program}{ow:Nat->Bool}{n:Nat}{s:AD}{h:A1}{f:FuncId}{first caps:List PV}{fo:Operand}{dst:Option Tmp}{args:List Operand}{ts:Array TypeId}{ty:TypeId}{pos:String}{af:Array Edge}{gd:Option (Nat × Bool)}{av:List PV}{v:PV}{K:AD->A1->Prop}{ops rest:List Oper}
  (hf:AB s fo= .fn f first caps)(hc:A6 P f av h λr h'=>r=v/\h'=h)(ha:first++(args.map (AB s)++caps)=av)(hk:E7 P ow n ops rest K (Ai s dst v) h):
  CY P ow {dst:=dst,op:= .call {callee:= .value fo,args:=args.toArray,argTypes:=ts},type:=ty,pos:=pos,after:=af,guard:=gd} (Ei P ow n ops rest K) s h:=by
 unfold CY;simp only[callee,hf];rw[ha];exact hc.mono λr h' hr=>by rw[hr.1,hr.2];exact Jy _ _ _ hk
def J4{α:Type}(q:α->Bool)(l:List α):Int:=match l.findIdx? q with
 |some i=>i
 |none=> -1
theorem SV{α:Type}(q:α->Bool)(l:List α):decide (J4 q l>=0)=l.any q:=by
 unfold J4;cases h:l.findIdx? q with
 |none=>
  rw[List.findIdx?_eq_none_iff]at h;have:l.any q=false:=by
   rw[List.any_eq_false];intro s hs;simpa using h s hs
  rw[this];try rfl
 |some i=>
  rw[List.findIdx?_eq_some_iff_getElem]at h;obtain⟨hi,h1,_⟩:=h;have:l.any q=true:=by
   rw[List.any_eq_true];exact⟨l[i],List.getElem_mem hi,by simpa using h1⟩
  rw[this];simp
end Go.AM
namespace Go.Proofs.YtblgchkahpgdjaaGreat
open Go.AM Go.Proofs.Tryz
set_option maxHeartbeats 4000000
set_option maxRecDepth 20000
def GU(name:ByteArray)(l:List Ch):Bool:=l.any λc=>(c.kind==1||c.kind==2)&&A3 c.name name
theorem je{h:A1}{g:FuncId}{cp:PV}{l:List Ch}{q:Ch->Bool}(hl:l.length<=AI)(hf: ∀ s∈l,A6 prog g [.agg (CZ s),cp] h λr h'=>r= .sc (.bool (q s))/\h'=h):
  A6 prog 132 [.A2 15 (Ae l),.fn g [] [cp]] h λr h'=>r= .sc (.int .i64 (J4 q l))/\h'=h:=by
 unfold AI at hl;have hlen:=Ko l;refine AF func132 ntmps132 results132 Ty.fm ?_;refine wt hlen ?_;refine CG (λm S h'=>h'=h/\S 0= .A2 15 (Ae l)/\S 1= .fn g [] [cp]/\S 7= .sc (.int .i64 l.length)/\ ∃ k:Nat,S 8= .sc (.int .i64 k)/\k<=l.length/\m=l.length-k/\ ∀ (i:Nat)(w:Ch),i<k->l[i]? =some w->q w=false) l.length ?_ ?_
 ·simp only[Ty.w,simprocAttr];exact⟨0,rfl,by omega,rfl,by omega⟩
 ·rintro m S h' ⟨rfl,g0,g1,g7,k,g8,hk,rfl,hall⟩;by_cases hlt:k<l.length
  ·have hd:decide ((k:Int)<(l.length:Int))=true:=(by simp;omega);have w7:IntKind.i64.wrap ((k:Int)+1)=k+1:=(by rw[BZ (by omega) (by omega)]);obtain⟨w,hx⟩: ∃ w,l[k]? =some w:=⟨l[k],List.getElem?_eq_getElem hlt⟩;have hr:=No hx;have hc:=hf w (List.mem_of_getElem? hx);have hlr:(CZ w).length=15:=(by rcases w with⟨_,_,⟨_,_,_,_,_,_⟩,_,_,⟨_,_,_,_,_⟩⟩;rfl);generalize hR:CZ w=R at hr hc hlr;obtain⟨p0,p1,p2,p3,p4,p5,p6,p7,p8,p9,p10,p11,p12,p13,p14,rfl⟩: ∃ p0 p1 p2 p3 p4 p5 p6 p7 p8 p9 p10 p11 p12 p13 p14,R=[p0,p1,p2,p3,p4,p5,p6,p7,p8,p9,p10,p11,p12,p13,p14]:=by
    match R,hlr with
    |[p0,p1,p2,p3,p4,p5,p6,p7,p8,p9,p10,p11,p12,p13,p14],_=>exact⟨p0,p1,p2,p3,p4,p5,p6,p7,p8,p9,p10,p11,p12,p13,p14,rfl⟩
   clear hlr;cases he:q w with
   |true=>
    rw[he]at hc;replace zz:=Al g0 g1 g7 g8 hd hr;refine wt zz ?_;refine JW (by simp only[Ty.w,simprocAttr,g1];rfl) hc (by simp only[Ty.w,simprocAttr,g0,g1,g7,g8];try rfl) ?_;simp only[Ty.w,simprocAttr,Ty.AW];replace zz:=Aa g0 g1 g7 g8;refine wt zz ?_;have:l.findIdx? q=some k:=by
     rw[List.findIdx?_eq_some_iff_getElem];refine⟨hlt,?_,λj hj=>?_⟩
     ·rw [List.getElem?_eq_getElem hlt]at hx;simp only[BD]at hx;rw[hx,he]
     ·rw [hall j l[j] hj (List.getElem?_eq_getElem (by omega))];simp
    simp only[J4,this]
   |false=>
    rw[he]at hc;replace zz:=Al g0 g1 g7 g8 hd hr;refine wt zz ?_;refine JW (by simp only[Ty.w,simprocAttr,g1];rfl) hc (by simp only[Ty.w,simprocAttr,g0,g1,g7,g8];try rfl) ?_;simp only[Ty.w,simprocAttr,Ty.AW];replace zz:=Ak g0 g1 g7 g8 w7;refine wt zz ?_;refine⟨l.length-(k+1),by omega,k+1,by simp,by omega,rfl,λi w2 hi hw=>?_⟩;by_cases hik:i=k
    ·subst hik;rw[hx]at hw;simp at hw;rw[← hw];exact he
    ·exact hall i w2 (by omega) hw
  ·have hd:decide ((k:Int)<(l.length:Int))=false:=(by simp;omega);replace zz:=Ak g0 g1 g7 g8 hd;refine wt zz ?_;have:l.findIdx? q=none:=by
    rw[List.findIdx?_eq_none_iff];intro w hw;obtain⟨i,hi⟩:=List.getElem?_of_mem hw;have:i<l.length:=(List.getElem?_eq_some_iff.1 hi).1;rw[hall i w (by omega) hi]
   simp only[J4,this]
theorem jf{h:A1}{g:FuncId}{cp:PV}{l:List Ch}{q:Ch->Bool}(hl:l.length<=AI)(hf: ∀ s∈l,A6 prog g [.agg (CZ s),cp] h λr h'=>r= .sc (.bool (q s))/\h'=h):
  A6 prog 88 [.A2 15 (Ae l),.fn g [] [cp]] h λr h'=>r= .sc (.bool (l.any q))/\h'=h:=by
 refine AF func88 ntmps88 results88 Ty.fj ?_;refine wt A5 ?_;refine uU A5 (je (l:=l) (g:=g) hl hf) ?_;refine wt A5 ?_;rw[← SV]
theorem jg{h:A1}{g:FuncId}{cp:PV}{l:List Ac}{q:Ac->Bool}(hl:l.length<=AI)(hf: ∀ s∈l,A6 prog g [.agg (DE s),cp] h λr h'=>r= .sc (.bool (q s))/\h'=h):
  A6 prog 133 [.A2 10 (BP l),.fn g [] [cp]] h λr h'=>r= .sc (.int .i64 (J4 q l))/\h'=h:=by
 unfold AI at hl;have hlen:=Ll l;refine AF func133 ntmps133 results133 Ty.fp ?_;refine wt hlen ?_;refine CG (λm S h'=>h'=h/\S 0= .A2 10 (BP l)/\S 1= .fn g [] [cp]/\S 7= .sc (.int .i64 l.length)/\ ∃ k:Nat,S 8= .sc (.int .i64 k)/\k<=l.length/\m=l.length-k/\ ∀ (i:Nat)(w:Ac),i<k->l[i]? =some w->q w=false) l.length ?_ ?_
 ·simp only[Ty.w,simprocAttr];exact⟨0,rfl,by omega,rfl,by omega⟩
 ·rintro m S h' ⟨rfl,g0,g1,g7,k,g8,hk,rfl,hall⟩;by_cases hlt:k<l.length
  ·have hd:decide ((k:Int)<(l.length:Int))=true:=(by simp;omega);have w7:IntKind.i64.wrap ((k:Int)+1)=k+1:=(by rw[BZ (by omega) (by omega)]);obtain⟨w,hx⟩: ∃ w,l[k]? =some w:=⟨l[k],List.getElem?_eq_getElem hlt⟩;have hr:=Np hx;have hc:=hf w (List.mem_of_getElem? hx);have hlr:(DE w).length=10:=(by rcases w with⟨_,_,_,⟨_,_,_,_,_,_⟩,_⟩;rfl);generalize hR:DE w=R at hr hc hlr;obtain⟨p0,p1,p2,p3,p4,p5,p6,p7,p8,p9,rfl⟩: ∃ p0 p1 p2 p3 p4 p5 p6 p7 p8 p9,R=[p0,p1,p2,p3,p4,p5,p6,p7,p8,p9]:=by
    match R,hlr with
    |[p0,p1,p2,p3,p4,p5,p6,p7,p8,p9],_=>exact⟨p0,p1,p2,p3,p4,p5,p6,p7,p8,p9,rfl⟩
   clear hlr;cases he:q w with
   |true=>
    rw[he]at hc;replace zz:=Al g0 g1 g7 g8 hd hr;refine wt zz ?_;refine JW (by simp only[Ty.w,simprocAttr,g1];rfl) hc (by simp only[Ty.w,simprocAttr,g0,g1,g7,g8];try rfl) ?_;simp only[Ty.w,simprocAttr,Ty.AW];replace zz:=Aa g0 g1 g7 g8;refine wt zz ?_;have:l.findIdx? q=some k:=by
     rw[List.findIdx?_eq_some_iff_getElem];refine⟨hlt,?_,λj hj=>?_⟩
     ·rw [List.getElem?_eq_getElem hlt]at hx;simp only[BD]at hx;rw[hx,he]
     ·rw [hall j l[j] hj (List.getElem?_eq_getElem (by omega))];simp
    simp only[J4,this]
   |false=>
    rw[he]at hc;replace zz:=Al g0 g1 g7 g8 hd hr;refine wt zz ?_;refine JW (by simp only[Ty.w,simprocAttr,g1];rfl) hc (by simp only[Ty.w,simprocAttr,g0,g1,g7,g8];try rfl) ?_;simp only[Ty.w,simprocAttr,Ty.AW];replace zz:=Ak g0 g1 g7 g8 w7;refine wt zz ?_;refine⟨l.length-(k+1),by omega,k+1,by simp,by omega,rfl,λi w2 hi hw=>?_⟩;by_cases hik:i=k
    ·subst hik;rw[hx]at hw;simp at hw;rw[← hw];exact he
    ·exact hall i w2 (by omega) hw
  ·have hd:decide ((k:Int)<(l.length:Int))=false:=(by simp;omega);replace zz:=Ak g0 g1 g7 g8 hd;refine wt zz ?_;have:l.findIdx? q=none:=by
    rw[List.findIdx?_eq_none_iff];intro w hw;obtain⟨i,hi⟩:=List.getElem?_of_mem hw;have:i<l.length:=(List.getElem?_eq_some_iff.1 hi).1;rw[hall i w (by omega) hi]
   simp only[J4,this]
theorem jh{h:A1}{g:FuncId}{cp:PV}{l:List Ac}{q:Ac->Bool}(hl:l.length<=AI)(hf: ∀ s∈l,A6 prog g [.agg (DE s),cp] h λr h'=>r= .sc (.bool (q s))/\h'=h):
  A6 prog 90 [.A2 10 (BP l),.fn g [] [cp]] h λr h'=>r= .sc (.bool (l.any q))/\h'=h:=by
 refine AF func90 ntmps90 results90 Ty.fY ?_;refine wt A5 ?_;refine uU A5 (jg (l:=l) (g:=g) hl hf) ?_;refine wt A5 ?_;rw[← SV]
theorem ji{h:A1}{g:FuncId}{cp:PV}{l:List Du}{q:Du->Bool}(hl:l.length<=AI)(hf: ∀ s∈l,A6 prog g [.agg (DF s),cp] h λr h'=>r= .sc (.bool (q s))/\h'=h):
  A6 prog 134 [.A2 23 (BU l),.fn g [] [cp]] h λr h'=>r= .sc (.int .i64 (J4 q l))/\h'=h:=by
 unfold AI at hl;have hlen:=Lm l;refine AF func134 ntmps134 results134 Ty.fq ?_;refine wt hlen ?_;refine CG (λm S h'=>h'=h/\S 0= .A2 23 (BU l)/\S 1= .fn g [] [cp]/\S 7= .sc (.int .i64 l.length)/\ ∃ k:Nat,S 8= .sc (.int .i64 k)/\k<=l.length/\m=l.length-k/\ ∀ (i:Nat)(w:Du),i<k->l[i]? =some w->q w=false) l.length ?_ ?_
 ·simp only[Ty.w,simprocAttr];exact⟨0,rfl,by omega,rfl,by omega⟩
 ·rintro m S h' ⟨rfl,g0,g1,g7,k,g8,hk,rfl,hall⟩;by_cases hlt:k<l.length
  ·have hd:decide ((k:Int)<(l.length:Int))=true:=(by simp;omega);have w7:IntKind.i64.wrap ((k:Int)+1)=k+1:=(by rw[BZ (by omega) (by omega)]);obtain⟨w,hx⟩: ∃ w,l[k]? =some w:=⟨l[k],List.getElem?_eq_getElem hlt⟩;have hr:=Nq hx;have hc:=hf w (List.mem_of_getElem? hx);have hlr:(DF w).length=23:=(by rcases w with⟨_,_,_,⟨_,_,_,_,_,_⟩,⟨_,_,_,_,_,_⟩,⟨_,_,_,_,_,_⟩,_,_⟩;rfl);generalize hR:DF w=R at hr hc hlr;obtain⟨p0,p1,p2,p3,p4,p5,p6,p7,p8,p9,p10,p11,p12,p13,p14,p15,p16,p17,p18,p19,p20,p21,p22,rfl⟩: ∃ p0 p1 p2 p3 p4 p5 p6 p7 p8 p9 p10 p11 p12 p13 p14 p15 p16 p17 p18 p19 p20 p21 p22,R=[p0,p1,p2,p3,p4,p5,p6,p7,p8,p9,p10,p11,p12,p13,p14,p15,p16,p17,p18,p19,p20,p21,p22]:=by
    match R,hlr with
    |[p0,p1,p2,p3,p4,p5,p6,p7,p8,p9,p10,p11,p12,p13,p14,p15,p16,p17,p18,p19,p20,p21,p22],_=>exact⟨p0,p1,p2,p3,p4,p5,p6,p7,p8,p9,p10,p11,p12,p13,p14,p15,p16,p17,p18,p19,p20,p21,p22,rfl⟩
   clear hlr;cases he:q w with
   |true=>
    rw[he]at hc;replace zz:=Al g0 g1 g7 g8 hd hr;refine wt zz ?_;refine JW (by simp only[Ty.w,simprocAttr,g1];rfl) hc (by simp only[Ty.w,simprocAttr,g0,g1,g7,g8];try rfl) ?_;simp only[Ty.w,simprocAttr,Ty.AW];replace zz:=Aa g0 g1 g7 g8;refine wt zz ?_;have:l.findIdx? q=some k:=by
     rw[List.findIdx?_eq_some_iff_getElem];refine⟨hlt,?_,λj hj=>?_⟩
     ·rw [List.getElem?_eq_getElem hlt]at hx;simp only[BD]at hx;rw[hx,he]
     ·rw [hall j l[j] hj (List.getElem?_eq_getElem (by omega))];simp
    simp only[J4,this]
   |false=>
    rw[he]at hc;replace zz:=Al g0 g1 g7 g8 hd hr;refine wt zz ?_;refine JW (by simp only[Ty.w,simprocAttr,g1];rfl) hc (by simp only[Ty.w,simprocAttr,g0,g1,g7,g8];try rfl) ?_;simp only[Ty.w,simprocAttr,Ty.AW];replace zz:=Ak g0 g1 g7 g8 w7;refine wt zz ?_;refine⟨l.length-(k+1),by omega,k+1,by simp,by omega,rfl,λi w2 hi hw=>?_⟩;by_cases hik:i=k
    ·subst hik;rw[hx]at hw;simp at hw;rw[← hw];exact he
    ·exact hall i w2 (by omega) hw
  ·have hd:decide ((k:Int)<(l.length:Int))=false:=(by simp;omega);replace zz:=Ak g0 g1 g7 g8 hd;refine wt zz ?_;have:l.findIdx? q=none:=by
    rw[List.findIdx?_eq_none_iff];intro w hw;obtain⟨i,hi⟩:=List.getElem?_of_mem hw;have:i<l.length:=(List.getElem?_eq_some_iff.1 hi).1;rw[hall i w (by omega) hi]
   simp only[J4,this]
theorem jj{h:A1}{g:FuncId}{cp:PV}{l:List Du}{q:Du->Bool}(hl:l.length<=AI)(hf: ∀ s∈l,A6 prog g [.agg (DF s),cp] h λr h'=>r= .sc (.bool (q s))/\h'=h):
  A6 prog 92 [.A2 23 (BU l),.fn g [] [cp]] h λr h'=>r= .sc (.bool (l.any q))/\h'=h:=by
 refine AF func92 ntmps92 results92 Ty.fZ ?_;refine wt A5 ?_;refine uU A5 (ji (l:=l) (g:=g) hl hf) ?_;refine wt A5 ?_;rw[← SV]
theorem jk{h:A1}{name:ByteArray}(c:Ch):A6 prog 89 [.agg (CZ c),.Ag [A4 name]] h λr h'=>r= .sc (.bool ((c.kind==1||c.kind==2)&&A3 c.name name))/\h'=h:=by
 obtain⟨kind,params,⟨fop,fna,far,fpa,fex,fki⟩,cname,args,⟨eop,ena,en,ear,eki⟩⟩:=c;simp only[CZ,Fm.cells,Ex.cells,List.cons_append,List.nil_append,A3];cases k1:(kind==1)with
 |true=>
  refine AF func89 ntmps89 results89 Ty.Rf ?_;refine wm k1 ?_;try exact zI
  all_goals rfl
 |false=>
  cases k2:(kind==2)with
  |true=>
   refine AF func89 ntmps89 results89 Ty.Rf ?_;refine wm (uu k1 k2) ?_;try exact zI
   all_goals rfl
  |false=>
   refine AF func89 ntmps89 results89 Ty.Rf ?_;refine wm (uu k1 k2) ?_;try exact zI
   all_goals rfl
theorem SW{h:A1}{name:ByteArray}{l:List Ch}(hl:Chs.ok l):A6 prog 87 [.A2 15 (Ae l),.Ag [A4 name]] h λr h'=>r= .sc (.bool (GU name l))/\h'=h:=by
 have hc:=λh:A1=>jf (h:=h) (g:=89) (cp:= .Ag [A4 name]) (l:=l) (q:=λc=>(c.kind==1||c.kind==2)&&A3 c.name name) hl.1 (λs _=>jk s);unfold GU;generalize l.any (λc=>(c.kind==1||c.kind==2)&&A3 c.name name)=b at hc⊢;refine AF func87 ntmps87 results87 Ty.gJ ?_;refine wt A5 ?_;refine uU A5 (hc _) ?_;exact wz A5
def JX(name:ByteArray):An:= .arr 1 [[.fn 87 [] [.Ag [A4 name]]]]
theorem jl{h:A1}{id:Nat}{name:ByteArray}(ho:h.obj id=some (JX name))(a:Ac)(ha:Chs.ok a.changes):A6 prog 91 [.agg (DE a),.ptr id 0 0] h λr h'=>r= .sc (.bool (GU name a.changes))/\h'=h:=by
 have hc:=SW (h:=h) (name:=name) ha;generalize GU name a.changes=b at hc⊢;obtain⟨aname,params,cost,⟨fop,fna,far,fpa,fex,fki⟩,changes⟩:=a;simp only[DE,Fm.cells,List.cons_append,List.nil_append]at hc⊢;simp only[JX]at ho;refine AF func91 ntmps91 results91 Ty.gK ?_;refine wt ho ?_;refine JW (by simp only[Ty.w,simprocAttr];rfl) hc (by simp only[Ty.w,simprocAttr];try rfl) ?_;simp only[Ty.w,simprocAttr,Ty.AW];exact wz ho
theorem jm{h:A1}{id:Nat}{name:ByteArray}(ho:h.obj id=some (JX name))(a:Du)(ha:Chs.ok a.Bp)(ha2:Chs.ok a.Bq):A6 prog 93 [.agg (DF a),.ptr id 0 0] h λr h'=>r= .sc (.bool (GU name a.Bp||GU name a.Bq))/\h'=h:=by
 have hc:=SW (h:=h) (name:=name) ha;have hc2:=SW (h:=h) (name:=name) ha2;generalize GU name a.Bp=b at hc⊢;generalize GU name a.Bq=b2 at hc2⊢;obtain⟨aname,params,dur,⟨fop,fna,far,fpa,fex,fki⟩,⟨fop2,fna2,far2,fpa2,fex2,fki2⟩,⟨fop3,fna3,far3,fpa3,fex3,fki3⟩,Bp,Bq⟩:=a;simp only[DF,Fm.cells,List.cons_append,List.nil_append]at hc hc2⊢;simp only[JX]at ho;refine AF func93 ntmps93 results93 Ty.gM ?_;cases b with
 |true=>
  refine wt ho ?_;refine JW (by simp only[Ty.w,simprocAttr];rfl) hc (by simp only[Ty.w,simprocAttr];try rfl) ?_;simp only[Ty.w,simprocAttr,Ty.AW];refine wm ho ?_;try exact zI
  all_goals rfl
 |false=>
  refine wt ho ?_;refine JW (by simp only[Ty.w,simprocAttr];rfl) hc (by simp only[Ty.w,simprocAttr];try rfl) ?_;simp only[Ty.w,simprocAttr,Ty.AW,ho];refine wt ho ?_;refine JW (by simp only[Ty.w,simprocAttr];rfl) hc2 (by simp only[Ty.w,simprocAttr];try rfl) ?_;simp only[Ty.w,simprocAttr,Ty.AW];refine wm ho ?_;try exact zI
  all_goals rfl
def SX(d:Dm)(name:ByteArray):Bool:=!(d.At.any λa=>GU name a.changes)&&!(d.duratives.any λa=>GU name a.Bp||GU name a.Bq)
theorem jn{d:Dm}(hd:d.ok)(name:ByteArray)(h:A1):A6 prog 38 [.agg d.cells,A4 name] h λr h'=>r= .sc (.bool (SX d name))/\h'=h:=by
 obtain⟨_,_,_,_,_,⟨hal,hao⟩,⟨hul,huo⟩⟩:=hd;refine A6.quiet Ty.RT ?_;unfold SX;have ho:((h.new (.arr 1 [[.sc .nilFunc]])).set h.next (JX name)).obj h.next=some (JX name):=by simp[A1.set]
 have h2:=jh (h:=(h.new (.arr 1 [[.sc .nilFunc]])).set h.next (JX name)) (g:=91) (cp:= .ptr h.next 0 0) (l:=d.At) (q:=λa=>GU name a.changes) hal (λs hs=>jl ho s (hao s hs).changes);have h3:=jj (h:=(h.new (.arr 1 [[.sc .nilFunc]])).set h.next (JX name)) (g:=93) (cp:= .ptr h.next 0 0) (l:=d.duratives) (q:=λa=>GU name a.Bp||GU name a.Bq) hul (λs hs=>jm ho s (huo s hs).Bp (huo s hs).Bq);have hg:AH h ((h.new (.arr 1 [[.sc .nilFunc]])).set h.next (JX name)):=((AH.refl h).new _).set (AG _) _;generalize d.At.any (λa=>GU name a.changes)=b at h2⊢;generalize d.duratives.any (λa=>GU name a.Bp||GU name a.Bq)=b2 at h3⊢
 clear ho hao huo hal hul;obtain⟨dname,types,constants,B5,Ay,At,duratives⟩:=d;simp only[Dm.cells]at h2 h3⊢;simp only[JX]at h2 h3 hg;cases b with
 |true=>
  refine AF func38 ntmps38 results38 Ty.RT ?_;refine wt A5 ?_;refine uU A5 (h2) ?_;refine wm yT ?_;try exact zI
  all_goals first|exact hg|exact⟨rfl,hg⟩
 |false=>
  refine AF func38 ntmps38 results38 Ty.RT ?_;refine wt A5 ?_;refine uU yF (h2) ?_;refine wt yF ?_;refine uU yF (h3) ?_;refine wm yF ?_;try exact zI
  all_goals first|exact hg|exact⟨rfl,hg⟩
end Go.Proofs.YtblgchkahpgdjaaGreat
namespace Go.Proofs.YtblgchkahpgdjaaGreat
open Go.AM Go.Proofs.Tryz
set_option maxHeartbeats 1000000
set_option maxRecDepth 20000
def jo:List TypeId:=iY++[28,77,43,94,23,96,24,83,25,85,26]
theorem WV:Tryz.prog.cellsOf 43=1:=by kernel_rfl
theorem jq:Dd prog 77=[(0,3),(1,22),(2,67),(8,9),(9,64),(10,75)]:=by kernel_rfl
theorem WW:Tryz.prog.cellsOf 77=15:=by kernel_rfl
theorem jr:0<Tryz.prog.bytesOf 77:=by rw[show Tryz.prog.bytesOf 77=288 by kernel_rfl];omega
theorem js{c:Nat}{ps:List PV}(h:B7 prog c 77 ps): ∃ a:Ch,a.ok/\ps=CZ a:=by
 cases c with
 |zero=>simp[B7]at h
 |succ c=>
  obtain⟨h1,h2⟩:=K5 Tryz.underlying77 h;rw[WW]at h1;rw[jq]at h2
  match ps,h1,h2 with
  |[p0,p1,p2,p3,p4,p5,p6,p7,p8,p9,p10,p11,p12,p13,p14],_,h2=>
   have a0:=h2 (0,3) (by simp);have a1:=h2 (1,22) (by simp);have a2:=h2 (2,67) (by simp);have a3:=h2 (8,9) (by simp);have a4:=h2 (9,64) (by simp);have a5:=h2 (10,75) (by simp);simp only[SB,M1,OA,O9,Q0,JT,List.drop_zero,List.drop_succ_cons,List.take_succ_cons,List.take_zero]at a0 a1 a2 a3 a4 a5;obtain⟨kind,hkind,e0⟩:=Mw a0;obtain⟨params,hparams,e1⟩:=Ky a1;obtain⟨cond,hcond,e2⟩:=OB _ a2;obtain⟨name,hname,e3⟩:=Ho a3;obtain⟨args,hargs,e4⟩:=SC a4;obtain⟨value,hvalue,e5⟩:=Vp _ a5;simp at e0 e1 e3 e4;refine⟨⟨kind,params,cond,name,args,value⟩,⟨hparams,hcond,hargs,hvalue,hname,hkind⟩,?_⟩;simp only[CZ,e0,e1,e3,e4, ← e2, ← e5,List.cons_append,List.nil_append]
theorem SY{c:Nat}{ps:List PV}(h:B7 prog c 43 ps): ∃ l:List Ch,Chs.ok l/\ps=[.A2 15 (Ae l)]:=by
 cases c with
 |zero=>simp[B7]at h
 |succ c=>
  obtain⟨rows,rfl,h1,_,h2⟩:=JS Tryz.underlying43 h;obtain⟨xs,rfl,h3⟩:=J2 (Q:=Ch.ok) (f:=CZ) rows (λr hr=>js (h2 r hr).2);refine⟨xs,⟨JU (by simpa using h1) jr,h3⟩,?_⟩;rw[WW];try rfl
theorem jt:Dd prog 94=[(0,9),(1,22)]:=by kernel_rfl
theorem WX:Tryz.prog.cellsOf 94=2:=by kernel_rfl
theorem ju:0<Tryz.prog.bytesOf 94:=by rw[show Tryz.prog.bytesOf 94=40 by kernel_rfl];omega
theorem jv:Tryz.prog.cellsOf 23=1:=by kernel_rfl
theorem jw{c:Nat}{ps:List PV}(h:B7 prog c 94 ps): ∃ a:Pr,a.ok/\ps=Dr a:=by
 cases c with
 |zero=>simp[B7]at h
 |succ c=>
  obtain⟨h1,h2⟩:=K5 Tryz.underlying94 h;rw[WX]at h1;rw[jt]at h2
  match ps,h1,h2 with
  |[p0,p1],_,h2=>
   have a0:=h2 (0,9) (by simp);have a1:=h2 (1,22) (by simp);simp only[M1,JT,List.drop_zero,List.drop_succ_cons,List.take_succ_cons,List.take_zero]at a0 a1;obtain⟨name,hname,e0⟩:=Ho a0;obtain⟨params,hparams,e1⟩:=Ky a1;simp at e0 e1;refine⟨⟨name,params⟩,⟨hname,hparams⟩,?_⟩;simp only[Dr,e0,e1,List.cons_append,List.nil_append]
theorem jx{c:Nat}{ps:List PV}(h:B7 prog c 23 ps): ∃ l:List Pr,(l.length<=AI/\ ∀ a∈l,a.ok)/\ps=[.A2 2 (Ba l)]:=by
 cases c with
 |zero=>simp[B7]at h
 |succ c=>
  obtain⟨rows,rfl,h1,_,h2⟩:=JS Tryz.underlying23 h;obtain⟨xs,rfl,h3⟩:=J2 (Q:=Pr.ok) (f:=Dr) rows (λr hr=>jw (h2 r hr).2);refine⟨xs,⟨JU (by simpa using h1) ju,h3⟩,?_⟩;rw[WX];try rfl
theorem jy:Dd prog 96=[(0,9),(1,22),(2,3),(3,3)]:=by kernel_rfl
theorem WY:Tryz.prog.cellsOf 96=4:=by kernel_rfl
theorem jz:0<Tryz.prog.bytesOf 96:=by rw[show Tryz.prog.bytesOf 96=56 by kernel_rfl];omega
theorem kA:Tryz.prog.cellsOf 24=1:=by kernel_rfl
theorem kC{c:Nat}{ps:List PV}(h:B7 prog c 96 ps): ∃ a:Fu,a.ok/\ps=Ds a:=by
 cases c with
 |zero=>simp[B7]at h
 |succ c=>
  obtain⟨h1,h2⟩:=K5 Tryz.underlying96 h;rw[WY]at h1;rw[jy]at h2
  match ps,h1,h2 with
  |[p0,p1,p2,p3],_,h2=>
   have a0:=h2 (0,9) (by simp);have a1:=h2 (1,22) (by simp);have a2:=h2 (2,3) (by simp);have a3:=h2 (3,3) (by simp);simp only[M1,O9,JT,List.drop_zero,List.drop_succ_cons,List.take_succ_cons,List.take_zero]at a0 a1 a2 a3;obtain⟨name,hname,e0⟩:=Ho a0;obtain⟨params,hparams,e1⟩:=Ky a1;obtain⟨lo,hlo,e2⟩:=Mw a2;obtain⟨hi,hhi,e3⟩:=Mw a3;simp at e0 e1 e2 e3;refine⟨⟨name,params,lo,hi⟩,⟨hname,hparams,hlo,hhi⟩,?_⟩;simp only[Ds,e0,e1,e2,e3,List.cons_append,List.nil_append]
theorem kD{c:Nat}{ps:List PV}(h:B7 prog c 24 ps): ∃ l:List Fu,(l.length<=AI/\ ∀ a∈l,a.ok)/\ps=[.A2 4 (BX l)]:=by
 cases c with
 |zero=>simp[B7]at h
 |succ c=>
  obtain⟨rows,rfl,h1,_,h2⟩:=JS Tryz.underlying24 h;obtain⟨xs,rfl,h3⟩:=J2 (Q:=Fu.ok) (f:=Ds) rows (λr hr=>kC (h2 r hr).2);refine⟨xs,⟨JU (by simpa using h1) jz,h3⟩,?_⟩;rw[WY];try rfl
theorem kE:Dd prog 83=[(0,9),(1,22),(2,3),(3,67),(9,43)]:=by kernel_rfl
theorem WZ:Tryz.prog.cellsOf 83=10:=by kernel_rfl
theorem kF:0<Tryz.prog.bytesOf 83:=by rw[show Tryz.prog.bytesOf 83=200 by kernel_rfl];omega
theorem kG:Tryz.prog.cellsOf 25=1:=by kernel_rfl
theorem kH{c:Nat}{ps:List PV}(h:B7 prog c 83 ps): ∃ a:Ac,a.ok/\ps=DE a:=by
 cases c with
 |zero=>simp[B7]at h
 |succ c=>
  obtain⟨h1,h2⟩:=K5 Tryz.underlying83 h;rw[WZ]at h1;rw[kE]at h2
  match ps,h1,h2 with
  |[p0,p1,p2,p3,p4,p5,p6,p7,p8,p9],_,h2=>
   have a0:=h2 (0,9) (by simp);have a1:=h2 (1,22) (by simp);have a2:=h2 (2,3) (by simp);have a3:=h2 (3,67) (by simp);have a4:=h2 (9,43) (by simp);simp only[M1,OA,O9,JT,WV,List.drop_zero,List.drop_succ_cons,List.take_succ_cons,List.take_zero]at a0 a1 a2 a3 a4;obtain⟨name,hname,e0⟩:=Ho a0;obtain⟨params,hparams,e1⟩:=Ky a1;obtain⟨cost,hcost,e2⟩:=Mw a2;obtain⟨pre,hpre,e3⟩:=OB _ a3;obtain⟨changes,hchanges,e4⟩:=SY a4;simp at e0 e1 e2 e4;refine⟨⟨name,params,cost,pre,changes⟩,⟨hname,hparams,hcost,hpre,hchanges⟩,?_⟩;simp only[DE,e0,e1,e2,e4, ← e3,List.cons_append,List.nil_append]
theorem kI{c:Nat}{ps:List PV}(h:B7 prog c 25 ps): ∃ l:List Ac,(l.length<=AI/\ ∀ a∈l,a.ok)/\ps=[.A2 10 (BP l)]:=by
 cases c with
 |zero=>simp[B7]at h
 |succ c=>
  obtain⟨rows,rfl,h1,_,h2⟩:=JS Tryz.underlying25 h;obtain⟨xs,rfl,h3⟩:=J2 (Q:=Ac.ok) (f:=DE) rows (λr hr=>kH (h2 r hr).2);refine⟨xs,⟨JU (by simpa using h1) kF,h3⟩,?_⟩;rw[WZ];try rfl
theorem kJ:Dd prog 85=[(0,9),(1,22),(2,3),(3,67),(9,67),(15,67),(21,43),(22,43)]:=by kernel_rfl
theorem Wa:Tryz.prog.cellsOf 85=23:=by kernel_rfl
theorem kK:0<Tryz.prog.bytesOf 85:=by rw[show Tryz.prog.bytesOf 85=480 by kernel_rfl];omega
theorem kL:Tryz.prog.cellsOf 26=1:=by kernel_rfl
theorem kM{c:Nat}{ps:List PV}(h:B7 prog c 85 ps): ∃ a:Du,a.ok/\ps=DF a:=by
 cases c with
 |zero=>simp[B7]at h
 |succ c=>
  obtain⟨h1,h2⟩:=K5 Tryz.underlying85 h;rw[Wa]at h1;rw[kJ]at h2
  match ps,h1,h2 with
  |[p0,p1,p2,p3,p4,p5,p6,p7,p8,p9,p10,p11,p12,p13,p14,p15,p16,p17,p18,p19,p20,p21,p22],_,h2=>
   have a0:=h2 (0,9) (by simp);have a1:=h2 (1,22) (by simp);have a2:=h2 (2,3) (by simp);have a3:=h2 (3,67) (by simp);have a4:=h2 (9,67) (by simp);have a5:=h2 (15,67) (by simp);have a6:=h2 (21,43) (by simp);have a7:=h2 (22,43) (by simp);simp only[M1,OA,O9,JT,WV,List.drop_zero,List.drop_succ_cons,List.take_succ_cons,List.take_zero]at a0 a1 a2 a3 a4 a5 a6 a7;obtain⟨name,hname,e0⟩:=Ho a0;obtain⟨params,hparams,e1⟩:=Ky a1;obtain⟨Dp,hduration,e2⟩:=Mw a2;obtain⟨start,hstart,e3⟩:=OB _ a3;obtain⟨over,hover,e4⟩:=OB _ a4;obtain⟨stop,hstop,e5⟩:=OB _ a5;obtain⟨Bp,hatStart,e6⟩:=SY a6;obtain⟨Bq,hatStop,e7⟩:=SY a7;simp at e0 e1 e2 e6 e7;refine⟨⟨name,params,Dp,start,over,stop,Bp,Bq⟩,⟨hname,hparams,hduration,hstart,hover,hstop,hatStart,hatStop⟩,?_⟩;simp only[DF,e0,e1,e2,e6,e7, ← e3, ← e4, ← e5,List.cons_append,List.nil_append]
theorem kN{c:Nat}{ps:List PV}(h:B7 prog c 26 ps): ∃ l:List Du,(l.length<=AI/\ ∀ a∈l,a.ok)/\ps=[.A2 23 (BU l)]:=by
 cases c with
 |zero=>simp[B7]at h
 |succ c=>
  obtain⟨rows,rfl,h1,_,h2⟩:=JS Tryz.underlying26 h;obtain⟨xs,rfl,h3⟩:=J2 (Q:=Du.ok) (f:=DF) rows (λr hr=>kM (h2 r hr).2);refine⟨xs,⟨JU (by simpa using h1) kK,h3⟩,?_⟩;rw[Wa];try rfl
theorem kO:Dd prog 28=[(0,9),(1,22),(2,22),(3,23),(4,24),(5,25),(6,26)]:=by kernel_rfl
theorem kP:Tryz.prog.cellsOf 28=7:=by kernel_rfl
theorem kQ(c:Nat){ps:List PV}(h:B7 prog c 28 ps): ∃ d:Dm,d.ok/\ps=d.cells:=by
 cases c with
 |zero=>simp[B7]at h
 |succ c=>
  obtain⟨h1,h2⟩:=K5 Tryz.underlying28 h;rw[kP]at h1;rw[kO]at h2
  match ps,h1,h2 with
  |[p0,p1,p2,p3,p4,p5,p6],_,h2=>
   have a0:=h2 (0,9) (by simp);have a1:=h2 (1,22) (by simp);have a2:=h2 (2,22) (by simp);have a3:=h2 (3,23) (by simp);have a4:=h2 (4,24) (by simp);have a5:=h2 (5,25) (by simp);have a6:=h2 (6,26) (by simp);simp only[JT,M1,jv,kA,kG,kL,List.drop_zero,List.drop_succ_cons,List.take_succ_cons,List.take_zero]at a0 a1 a2 a3 a4 a5 a6;obtain⟨name,hname,e0⟩:=Ho a0;obtain⟨types,htypes,e1⟩:=Ky a1;obtain⟨constants,hconstants,e2⟩:=Ky a2;obtain⟨B5,hpredicates,e3⟩:=jx a3;obtain⟨Ay,hfunctions,e4⟩:=kD a4;obtain⟨At,hactions,e5⟩:=kI a5;obtain⟨duratives,hduratives,e6⟩:=kN a6;simp at e0 e1 e2 e3 e4 e5 e6;exact⟨⟨name,types,constants,B5,Ay,At,duratives⟩,⟨hname,htypes,hconstants,hpredicates,hfunctions,hactions,hduratives⟩,by simp only[Dm.cells,e0,e1,e2,e3,e4,e5,e6]⟩
end Go.Proofs.YtblgchkahpgdjaaGreat
