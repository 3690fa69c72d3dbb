/- What the claim rests on, part 9: the abstract machine, contracts of the functions, plain data. -/
import Derived.Test.YtblgchkahpgdjaaGreatRows
import Derived.Test.YtblgchkahpgdjaaGreatZm8
set_option linter.unusedVariables false
set_option linter.unusedSimpArgs false
set_option linter.unusedSectionVars false
namespace Go.Proofs.YtblgchkahpgdjaaGreat
open Go.AM Go.Proofs.Tryz
set_option maxHeartbeats 4000000
set_option maxRecDepth 20000
def IT(n:Int):List Ch->Int
 |[]=>n
 |c::l=>IT (IntKind.i64.wrap (n+IntKind.i64.wrap (IntKind.i64.wrap (IntKind.i64.wrap (IntKind.i64.wrap (1+(c.params.length:Int))+(c.args.length:Int))+c.cond.size)+c.value.size))) l
theorem SX{l:List Ch}(hl:Chs.ok l)(h:A0):A6 prog 16 [.A1 15 (Ag l)] h λr h'=>r= qK (IT 0 l)/\h'=h:=by
 obtain⟨hll,hlo⟩:=hl;unfold AF at hll;have hlen:=Kp l;generalize hF:IT 0 l=F;refine AD func16 ntmps16 results16 Ty.fw ?_;refine wt A4 ?_;refine By (λc S h'=>h'=h/\S 0= .A1 15 (Ag l)/\ ∃ (k:Nat)(n:Int),S 4= qK k/\S 3= qK n/\k<=l.length/\c=l.length-k/\F=IT n (l.drop k)) l.length ?_ ?_
 ·simp only[Ty.w,simprocAttr];exact⟨0,0,rfl,rfl,by omega,rfl,by rw[← hF];try rfl⟩
 ·clear hF;rintro c S h' ⟨rfl,g0,k,n,g4,g3,hk,rfl,hinv⟩;by_cases hlt:k<l.length
  ·have hd:decide ((k:Int)<(l.length:Int))=true:=(by simp;omega);have w7:IntKind.i64.wrap ((k:Int)+1)=k+1:=(by rw[BM (by omega) (by omega)]);obtain⟨a,hx⟩: ∃ a,l[k]? =some a:=⟨_,List.getElem?_eq_getElem hlt⟩;have hr:=Ns hx;have ha:=hlo a (List.mem_of_getElem? hx);rw[Ca hx]at hinv;simp only[IT]at hinv;have c1:=OH a.cond ha.cond;have c2:=W4 a.value ha.value;have hp:=Gz a.params;have hs:=GI a.args;clear ha;obtain⟨kind,params,cond,name,args,value⟩:=a;simp only at hinv c1 c2 hp hs;generalize cond.size=s1 at hinv c1;generalize value.size=s2 at hinv c2;obtain⟨fop,fna,far,fpa,fex,fki⟩:=cond;obtain⟨eop,ena,en,ear,eki⟩:=value;simp only[CZ,Fm.cells,Ex.cells,List.cons_append,List.nil_append]at hr c1 c2;replace zz:=BJ g0 g3 g4 hlen hd hr hp hs;refine wy zz ?_;replace zz:=Ad g0 g3 g4 hlen hr hp hs;(first|refine uV zz (c1 _) ?_|refine uA zz (c1 _) ?_);refine wy zz ?_;replace zz:=Ad g0 g3 g4 hlen hr hp hs;(first|refine uV zz (c2 _) ?_|refine uA zz (c2 _) ?_);replace zz:=BJ g0 g3 g4 hlen hr hp hs w7;refine wy zz ?_;exact⟨l.length-(k+1),by omega,k+1,_,by simp,rfl,by omega,rfl,hinv⟩
  ·have hd:decide ((k:Int)<(l.length:Int))=false:=(by simp;omega);rw[List.drop_eq_nil_of_le (by omega)]at hinv;simp only[IT]at hinv;replace zz:=Ae g0 g3 g4 hlen hd;refine wm zz ?_;try exact zI
   all_goals rw[hinv]
def N0(n:Int):List Ac->Int
 |[]=>n
 |a::l=>N0 (IntKind.i64.wrap (n+IntKind.i64.wrap (IntKind.i64.wrap (1+a.pre.size)+IT 0 a.changes))) l
def N1(n:Int):List Du->Int
 |[]=>n
 |a::l=>N1 (IntKind.i64.wrap (n+IntKind.i64.wrap (IntKind.i64.wrap (IntKind.i64.wrap (IntKind.i64.wrap (IntKind.i64.wrap (1+a.start.size)+a.over.size)+a.stop.size)+IT 0 a.Bm)+IT 0 a.Bn))) l
def SY(d:Dm):Bool:=decide (N1 (N0 (IntKind.i64.wrap (IntKind.i64.wrap (IntKind.i64.wrap ((d.types.length:Int)+d.constants.length)+d.Ay.length)+d.Au.length)) d.Av) d.B0>3000)
theorem jv(d:Dm)(hd0:d.ok)(h:A0):A6 prog 10 [.agg d.cells] h λr h'=>r= .sc (.bool (SY d))/\h'=h:=by
 obtain⟨_,_,_,_,_,⟨hal,hao⟩,⟨hul,huo⟩⟩:=hd0;obtain⟨name,types,constants,Ay,Au,Av,B0⟩:=d;simp only at hal hao hul huo;refine A6.quiet Ty.UX ?_;unfold SY;simp only;have l1:=Gz types;have l2:=Gz constants;have l3:=Mm Ay;have l4:=Mn Au;have l5:=Ln Av;have l6:=Lo B0;unfold AF at hal hul;generalize hN0:IntKind.i64.wrap (IntKind.i64.wrap (IntKind.i64.wrap ((types.length:Int)+constants.length)+Ay.length)+Au.length)=n0;generalize hNA:N0 n0 Av=nA;generalize hNV:N1 nA B0=nV;have hC:(Dm.mk name types constants Ay Au Av B0).cells=[A3 name,.A1 2 (A8 types),.A1 2 (A8 constants),.A1 2 (Bd Ay),.A1 4 (BY Au),.A1 10 (BV Av),.A1 23 (BW B0)]:=rfl;rw[hC];refine AD func10 ntmps10 results10 Ty.UX ?_;replace zz:=Ae l1 l2 l3 l4 hN0;refine xH 2 zz ?_;refine⟨?_⟩;refine D0 (λS h'=>h'=h/\S 1= .Aj (Dm.mk name types constants Ay Au Av B0).cells/\S 3= qK nA) ?_ ?_
 ·rw [hC];refine wt A4 ?_;refine By (λc S h'=>h'=h/\S 1= .Aj (Dm.mk name types constants Ay Au Av B0).cells/\ ∃ (k:Nat)(n:Int),S 4= qK k/\S 3= qK n/\k<=Av.length/\c=Av.length-k/\nA=N0 n (Av.drop k)) Av.length ?_ ?_
  ·simp only[Ty.w,simprocAttr,hC];exact⟨0,n0,rfl,rfl,by omega,rfl,by rw[← hNA];try rfl⟩
  ·rintro c S h' ⟨rfl,g1,k,n,g4,g3,hk,rfl,hinv⟩;rw[hC]at g1;by_cases hlt:k<Av.length
   ·have hd:decide ((k:Int)<(Av.length:Int))=true:=(by simp;omega);have w7:IntKind.i64.wrap ((k:Int)+1)=k+1:=(by rw[BM (by omega) (by omega)]);obtain⟨a,hx⟩: ∃ a,Av[k]? =some a:=⟨_,List.getElem?_eq_getElem hlt⟩;have hr:=Nt hx;have ha:=hao a (List.mem_of_getElem? hx);rw[Ca hx]at hinv;simp only[N0]at hinv;have c1:=OH a.pre ha.pre;have c2:=λh:A0=>SX ha.changes h;clear ha;obtain⟨aname,aparams,acost,pre,changes⟩:=a;simp only at hinv c1 c2;generalize pre.size=s1 at hinv c1;generalize IT 0 changes=s2 at hinv c2;obtain⟨fop,fna,far,fpa,fex,fki⟩:=pre;simp only[DF,Fm.cells,List.cons_append,List.nil_append]at hr c1;replace zz:=Ah g1 g3 g4 l5 hd hr;refine wy zz ?_;replace zz:=Ae g1 g3 g4 l5 hr;(first|refine uV zz (c1 _) ?_|refine uA zz (c1 _) ?_);refine wy zz ?_;replace zz:=Ae g1 g3 g4 l5 hr;(first|refine uV zz (c2 _) ?_|refine uA zz (c2 _) ?_);replace zz:=Ah g1 g3 g4 l5 hr w7;refine wy zz ?_;exact⟨Av.length-(k+1),by omega,by rw[hC],k+1,_,by simp,rfl,by omega,rfl,hinv⟩
   ·have hd:decide ((k:Int)<(Av.length:Int))=false:=(by simp;omega);rw[List.drop_eq_nil_of_le (by omega)]at hinv;simp only[N0]at hinv;replace zz:=Ae g1 g3 g4 l5 hd;refine wt zz ?_;simp only[Ty.w,simprocAttr,g1,g3,hinv,hC]
 ·rintro S h' ⟨rfl,g1,g3⟩;rw[hC]at g1
  clear hNA hN0;refine xH 6 (uu g1 g3) ?_;refine⟨?_⟩;refine D0 (λS h2=>AH h' h2/\S 3= qK nV) ?_ ?_
  ·refine wt (uu g1 g3) ?_;refine By (λc S h2=>AH h' h2/\S 1= .Aj (Dm.mk name types constants Ay Au Av B0).cells/\ ∃ (k:Nat)(n:Int),S 5= qK k/\S 3= qK n/\k<=B0.length/\c=B0.length-k/\nV=N1 n (B0.drop k)) B0.length ?_ ?_
   ·simp only[Ty.w,simprocAttr,g1,g3,hC];exact⟨AH.refl _,0,nA,rfl,rfl,by omega,rfl,by rw[← hNV];try rfl⟩
   ·clear g1 g3;rintro c S h2 ⟨hg,g1,k,n,g5,g3,hk,rfl,hinv⟩;rw[hC]at g1;by_cases hlt:k<B0.length
    ·have hd:decide ((k:Int)<(B0.length:Int))=true:=(by simp;omega);have w7:IntKind.i64.wrap ((k:Int)+1)=k+1:=(by rw[BM (by omega) (by omega)]);obtain⟨a,hx⟩: ∃ a,B0[k]? =some a:=⟨_,List.getElem?_eq_getElem hlt⟩;have hr:=Nu hx;have ha:=huo a (List.mem_of_getElem? hx);rw[Ca hx]at hinv;simp only[N1]at hinv;have c1:=OH a.start ha.start;have c2:=OH a.over ha.over;have c3:=OH a.stop ha.stop;have c4:=λh:A0=>SX ha.Bm h;have c5:=λh:A0=>SX ha.Bn h;clear ha;obtain⟨aname,aparams,adur,start,over,stop,Bm,Bn⟩:=a;simp only at hinv c1 c2 c3 c4 c5;generalize start.size=s1 at hinv c1;generalize over.size=s2 at hinv c2;generalize stop.size=s3 at hinv c3;generalize IT 0 Bm=s4 at hinv c4;generalize IT 0 Bn=s5 at hinv c5;obtain⟨fop,fna,far,fpa,fex,fki⟩:=start;obtain⟨fop2,fna2,far2,fpa2,fex2,fki2⟩:=over;obtain⟨fop3,fna3,far3,fpa3,fex3,fki3⟩:=stop;simp only[DG,Fm.cells,List.cons_append,List.nil_append]at hr c1 c2 c3;replace zz:=Ah g1 g3 g5 l6 hd hr;refine wy zz ?_;replace zz:=Ae g1 g3 g5 l6 hr;(first|refine uV zz (c1 _) ?_|refine uA zz (c1 _) ?_);refine wy zz ?_;replace zz:=Ae g1 g3 g5 l6 hr;(first|refine uV zz (c2 _) ?_|refine uA zz (c2 _) ?_);refine wy zz ?_;replace zz:=Ae g1 g3 g5 l6 hr;(first|refine uV zz (c3 _) ?_|refine uA zz (c3 _) ?_);refine wy zz ?_;replace zz:=Ae g1 g3 g5 l6 hr;(first|refine uV zz (c4 _) ?_|refine uA zz (c4 _) ?_);refine wy zz ?_;replace zz:=Ae g1 g3 g5 l6 hr;(first|refine uV zz (c5 _) ?_|refine uA zz (c5 _) ?_);replace zz:=Ah g1 g3 g5 l6 hr w7;refine wy zz ?_;exact⟨B0.length-(k+1),by omega,(hg.new _).set hg.le _,by rw[hC],k+1,_,by simp,rfl,by omega,rfl,hinv⟩
    ·have hd:decide ((k:Int)<(B0.length:Int))=false:=(by simp;omega);rw[List.drop_eq_nil_of_le (by omega)]at hinv;simp only[N1]at hinv;replace zz:=Ae g1 g3 g5 l6 hd;refine wt zz ?_;simp only[Ty.w,simprocAttr,g1,g3,hinv];exact hg
  ·clear g1 g3;rintro S h2 ⟨hg,g3⟩;refine wm g3 ?_;try exact zI
   all_goals first|exact hg|exact⟨rfl,hg⟩
end Go.Proofs.YtblgchkahpgdjaaGreat
namespace Go.AM
def jw:PV->Nat
 | .ptr id _ _=>id
 |_=>0
def jx:PV->Nat
 | .mp id=>id
 |_=>0
def jy(n:Nat):PV->Nat
 | .own id _ _=>if id<=n then id else n
 |_=>n
def jz(op:Op)(ρ:Operand->PV)(h:A0):Nat:=match op with
 | .store _ a _=>jw (ρ a)
 | .mapUpdate _ x _ _=>jx (ρ x)
 | .call {callee:= .builtin .append,args:=args,.. }=>(match args.toList with
  |x::_=>jy h.next (ρ x)
  |[]=>0)
 |_=>h.next
mutual
def kA(n:Nat):PV->Bool
 | .sc _=>true
 | .ptr id _ _=>decide (id<n)
 | .Aj cs=>JU n cs
 | .own id _ _=>decide (id<n)
 | .A1 _ rows=>SZ n rows
 | .emp=>true
 | .mp id=>decide (id<n)
 | .agg cs=>JU n cs
 | .Al cs=>JU n cs
 | .fn _ a b=>JU n a&&JU n b
 | .ab _ _ _ _ _=>true
def JU(n:Nat):List PV->Bool
 |[]=>true
 |p::ps=>kA n p&&JU n ps
def SZ(n:Nat):List (List PV)->Bool
 |[]=>true
 |r::rs=>JU n r&&SZ n rs
end
mutual
def kC(h':A0)(n:Nat):Nat->PV->Option PV
 |0,_=>none
 |k+1,p=>match p with
  | .sc v=>some (.sc v)
  | .ptr id i f=>if id<n then some (.ptr id i f)else match h'.obj id with
   |some (.arr _ rows)=>(match rows[i]? with
    |some q=>(OK h' n k (q.drop f)).map .Aj
    |none=>none)
   |_=>none
  | .own id off len=>if id<n then some (.own id off len)else match h'.obj id with
   |some (.arr z rows)=>if off+len<=rows.length then(Wc h' n k ((rows.drop off).take len)).map (.A1 z)else none
   |_=>none
  | .A1 z rows=>if SZ n rows=true then some (.A1 z rows)else none
  | .Aj cs=>if JU n cs=true then some (.Aj cs)else none
  | .emp=>some .emp
  | .mp id=>if id<n then some (.mp id)else none
  | .agg cs=>(OK h' n k cs).map .agg
  | .Al cs=>(OK h' n k cs).map .Al
  | .fn f a b=>if(JU n a&&JU n b)=true then some (.fn f a b)else none
  | .ab k lo hi m r=>some (.ab k lo hi m r)
def OK(h':A0)(n:Nat):Nat->List PV->Option (List PV)
 |0,_=>none
 |_+1,[]=>some []
 |k+1,p::ps=>match kC h' n k p with
  |some q=>(OK h' n k ps).map (q::·)
  |none=>none
def Wc(h':A0)(n:Nat):Nat->List (List PV)->Option (List (List PV))
 |0,_=>none
 |_+1,[]=>some []
 |k+1,p::ps=>match OK h' n k p with
  |some q=>(Wc h' n k ps).map (q::·)
  |none=>none
end
abbrev We:=FuncId->List PV->A0->Option (PV × Option Nat × A0)
section
variable (P:Program)(wf:FuncId->Bool)(own:FuncId->Nat->Bool)(CS:FuncId->List PV->A0->Option PV)
def Wg(call:We)(ow:Nat->Bool)(o:Oper)(ρ:Operand->PV)(h:A0):Option (PV × Option Nat × A0):=
 match callee ρ o.op with
 |some (f,args)=>call f args h
 |none=>match AZ P (o.dst.any ow) o.op ρ h with
  |some (v,h')=>some (v,(if BL ow wf o=true then some (jz o.op ρ h)else none),h')
  |none=>none
def kD(ops:List Oper)(x f:Nat):Bool:=!(x==f)&&!(pre ops x f)&&!(pre ops f x)
def Wh(ow:Nat->Bool)(ops:List Oper)(k:Nat):List Nat:=(List.range ops.length).filter λf=>decide (k<f)&&(ops[f]?).any (Ce ow)
def QE(ow:Nat->Bool)(ops:List Oper)(base k:Nat)(ls:List (Nat × Nat)):List Nat:=(ls.filterMap λp=>if kD ops k p.1=true then some p.2 else none)++(Wh ow ops k).map (base+·)
def x4(call:We)(ow:Nat->Bool)(ops:List Oper)(base k:Nat)(ls:List (Nat × Nat))(o:Oper)(s:AE)(h:A0):Option (PV × Option Nat × A0 × Option (Nat × Am)× Bool):=
 if BL ow wf o=true then
  (if Ce ow o = true then (match F5 P ow (base + k) o (A9 s) with
   |some (v,ob)=>some (v,some (base+k),h.set (base+k) ob,some (base+k,ob),false)
   |none=>none)
  else match o.op with
   | .store t x y=>(match A9 s x with
    | .ptr id _ _=>(match AZ P (o.dst.any ow) (.store t x y) (A9 s) h with
     |some (v,h')=>(match h'.obj id with
      |some ob=>some (v,some id,h.set id ob,some (id,ob),false)
      |none=>none)
     |none=>none)
    |_=>none)
   |_=>(match Wg P wf call ow o (A9 s) (BE h (QE ow ops base k ls))with
    |some (v,q,h')=>if((QE ow ops base k ls).all (λid=>(h'.obj id).isNone)&&(Wh ow ops k).all (λf=>(h.obj (base+f)).isNone))=true then some (v,q,Cd h' h (QE ow ops base k ls),none,true)else none
    |none=>none))
 else match Wg P wf call ow o (A9 s) (BE h (QE ow ops base k ls))with
  |some (v,q,_)=>if q.isNone=true then some (v,none,h,none,false)else none
  |none=>none
end
section
variable {P:Program}{wf:FuncId->Bool}{own:FuncId->Nat->Bool}
end
end Go.AM
namespace Go.AM
open Go.ChangeShapes Go.WideShapes
open Go.Proofs.YtblgchkahpgdjaaGreat
mutual
def PV.bulk:PV->Nat
 | .sc (.string s)=>s.size+1
 | .A1 _ rows=>PV.D3 rows+1
 |_=>1
def PV.bulkL:List PV->Nat
 |[]=>0
 |p::ps=>p.bulk+PV.bulkL ps
def PV.D3:List (List PV)->Nat
 |[]=>0
 |r::rs=>PV.bulkL r+PV.D3 rs
end
theorem PV.P8: ∀ l m:List PV,PV.bulkL (l++m)=PV.bulkL l+PV.bulkL m
 |[],m=>by simp[PV.bulkL]
 |p::l,m=>by simp only[List.cons_append,PV.bulkL,PV.P8 l m];omega
theorem List.qC{k i j:Nat}(h:(List.range k)[i]? =some j):i<k/\i=j:=by
 have h1:=(List.getElem?_eq_some_iff.1 h).1;simp at h1;rw[List.getElem?_range h1]at h;simp at h;exact⟨h1,h⟩
section
variable {H:Type}{enc:TypeId × Value->H}{P:Program}{w:World}{sp:Nat->Bool}{held:Bool}
theorem Wi: ∀ (rows:List (List PV))(ds:List (DataW H)),rows.length=ds.length->(∀ (i:Nat)(r:List PV),rows[i]? =some r-> ∃ d,ds[i]? =some d/\PV.bulkL r<=Rows.uptoBulk d)->PV.D3 rows<=Rows.uptoBulkAll ds
 |[],_,_,_=>by simp[PV.D3]
 |r::rows,[],h,_=>by simp at h
 |r::rows,d::ds,h,hb=>by
  have h1:=Wi rows ds (by simpa using h) λi q hq=>by simpa using hb (i+1) q (by simpa using hq)
  obtain⟨d',h2,h3⟩:=hb 0 r rfl;simp at h2;subst h2;simp only[PV.D3,Rows.uptoBulkAll];omega
theorem Sa{c:Nat}{cs:List Value}:(l:List (Nat × TypeId))->(ds:List (DataW H))->(o:Nat)->K7 P cs.length o l=true->
  (∀ (i:Nat)(p:Nat × TypeId),l[i]? =some p-> ∃ d,ds[i]? =some d/\ ∃ ps,Be P c p.2 ps/\RA w ps ((cs.drop p.1).take (P.cellsOf p.2))/\PV.bulkL ps<=Rows.uptoBulk d)->
  ∃ ps,RA w ps (cs.drop o)/\(∀ p∈l,Be P c p.2 ((ps.drop (p.1-o)).take (P.cellsOf p.2)))/\PV.bulkL ps<=Rows.uptoBulkAll ds
 |[],ds,o,h,_=>by
  simp[K7]at h;refine⟨[],⟨?_,λβ n=>?_⟩,by simp,by simp[PV.bulkL]⟩
  ·rw [List.drop_of_length_le (by omega)];simp
  ·rw [List.drop_of_length_le (by omega)];simp[AT]
 |p::l,[],o,h,hp=>by
  obtain⟨d,hd,_⟩:=hp 0 p rfl;simp at hd
 |p::l,d::ds,o,h,hp=>by
  have hle:=(SE (p::l) o h).2 p (by simp);simp only[K7,AV,F0]at h;obtain⟨ps,h1,h2,h20⟩:=Sa l ds _ h.2 (λi q hq=>by simpa using hp (i+1) q (by simpa using hq));obtain⟨d',hd,ps0,h3,h4,h40⟩:=hp 0 p rfl;simp at hd;subst hd;have hl2:=(SE l _ h.2).2;have e0:p.1=o:=h.1;have l0:ps0.length=P.cellsOf p.2:=by rw[h4.len,List.length_take,List.length_drop];omega
  refine⟨ps0++ps,?_,λq hq=>?_,by rw[PV.P8];simp only[Rows.uptoBulkAll];omega⟩
  ·have:cs.drop o=(cs.drop p.1).take (P.cellsOf p.2)++cs.drop (o+P.cellsOf p.2):=by
    rw[e0, ← List.drop_drop,List.take_append_drop]
   rw[this];exact h4.append h1
  ·rcases List.mem_cons.1 hq with rfl|hq
   ·rw [e0,LU,List.drop_zero,List.take_append_of_le_length (by omega),List.take_of_length_le (by omega)];exact h3
   ·have h5:=hl2 q hq;have:q.1-o=ps0.length+(q.1-(o+P.cellsOf p.2)):=(by omega);rw[this, ← List.drop_drop,List.drop_left];exact h2 q hq
theorem QF{Ts:List TypeId}(hT:Vx P Ts=true): ∀ (fuel:Nat)(t:TypeId),Ts.contains t=true-> ∀ (cs:List Value)(x:DataW H × List MemPlace),DataW.trod enc P w 0 sp held fuel t cs=some x->(∀ n∈x.1.weights P t,n<=reachBytes)->
  ∃ ps,Be P fuel t ps/\RA w ps cs/\PV.bulkL ps<=Rows.uptoBulk x.1
 |0,_,_,_,_,hx,_=>by simp[DataW.trod]at hx
 |c+1,t,ht,cs,x,hx,hw=>by
  have h:=List.all_eq_true.1 hT t (by simpa using ht);split at h
  ·rename_i hu;obtain⟨b,rfl,rfl⟩:=DataW.trod_bool hu hx;refine⟨[.sc (.bool b)],?_,SG rfl,by simp[PV.bulkL,PV.bulk,Rows.uptoBulk]⟩;unfold Be;rw[hu];exact⟨b,rfl⟩
  ·rename_i k hu;obtain⟨n,rfl,rfl,hwf⟩:=DataW.trod_int hu hx;refine⟨[.sc (.int k n)],?_,SG rfl,by simp[PV.bulkL,PV.bulk,Rows.uptoBulk]⟩;unfold Be;rw[hu];exact⟨n,hwf,rfl⟩
  ·rename_i hu;obtain⟨s,rfl,rfl,hs⟩:=DataW.trod_string hu hx;refine⟨[.sc (.string s)],?_,SG rfl,by have e:s.data.toList.length=s.size:=by{rw[Ed];try rfl};simp only[PV.bulkL,PV.bulk,Rows.uptoBulk];omega⟩;unfold Be;rw[hu];refine⟨s,?_,rfl⟩;have:=hw s.data.toList.length (by simp[DataW.weights]);simpa using this
  ·rename_i e hu;simp only[AV,Ba]at h;obtain⟨hpos,hcov⟩:=h;rcases DataW.trod_slice hu hx with⟨rfl,rfl⟩|⟨a,len,cap,elems,rest,n,hfu,rfl,rfl,hb,hl,hm,hlen,hel,hsp,hns⟩
   ·refine ⟨[.A1 (P.cellsOf e) []],?_,⟨λv hv=>?_,λβ n=>?_⟩,by simp[PV.bulkL,PV.bulk,PV.D3,Rows.uptoBulk]⟩
    ·unfold Be;rw[hu];exact⟨[],rfl,by simp,by simp,by simp⟩
    ·simp at hv;subst hv;rfl
    ·simp only[AT,AA];exact⟨⟨none,0,rfl,AG _,Bj _,.inl (by trivial)⟩,trivial⟩
   ·obtain rfl:c=n:=(by omega);have each: ∀ i,i<len-> ∃ r:List PV,(r.length=P.cellsOf e/\Be P c e r/\ ∃ d,(elems.map (·.1))[i]? =some d/\PV.bulkL r<=Rows.uptoBulk d)/\ ∃ ci,RA w r ci/\ci.length=P.cellsOf e/\ ∀ j,j<P.cellsOf e->w.cell? ((a.add (i*P.cellsOf e)).add j)=ci[j]?:=by
     intro i hi;have h1:=hel i hi;have h2:elems[i]? =some (elems[i]'(by omega)):=List.getElem?_eq_getElem _;rw[h2,Option.bind_eq_some_iff]at h1;obtain⟨ci,h3,h4⟩:=h1;obtain⟨_,h5,h6⟩:=World.cells?_some h3;obtain⟨r,h7,h8,h80⟩:=QF hT c e hcov ci _ h4 (λm hm=>hw m (by
      simp only[DataW.weights,hu,List.mem_cons,List.mem_append];exact .inr (.inl (SF (i:=i) (by rw[List.getElem?_map,h2];try rfl) hm))))
     exact⟨r,⟨by rw[h8.len,h5],h7,_,by rw[List.getElem?_map,h2];try rfl,h80⟩,ci,h8,h5,h6⟩
    obtain⟨rows,hrl,hrows⟩:=Vw len each;refine⟨[.A1 (P.cellsOf e) rows],?_,⟨λv hv=>?_,λβ m=>?_⟩,?_⟩
    ·unfold Be;rw[hu];refine⟨rows,rfl,?_,by omega,λr hr=>?_⟩
     ·have:=hw ((elems.map (·.1)).length*P.bytesOf e+(rest.map (·.1)).length*P.bytesOf e) (by
       simp only[DataW.weights,hu,List.mem_cons,LN,true_or])
      have h9:rows.length=(elems.map (·.1)).length:=(by simp[hrl,hlen]);rw[h9];exact ER (TO _ _) this
     ·obtain ⟨i,hi⟩:=List.getElem?_of_mem hr;exact⟨(hrows i r hi).1.1,(hrows i r hi).1.2.1⟩
    ·simp at hv;subst hv;rfl
    ·simp only[AT,AA];refine⟨⟨some a,cap,by rw[hrl],by omega,hm,?_⟩,trivial⟩;by_cases h0:len=0
     ·left;exact List.length_eq_zero_iff.1 (by omega)
     ·right;obtain⟨_,_,c0,_,hc0,hcell0⟩:=each 0 (by omega);have h10:=hcell0 0 hpos;rw[List.getElem?_eq_getElem (by omega)]at h10;simp only[Nat.zero_mul,Addr.add,AO]at h10;have hs:a.spot=none:=by
       unfold World.cell? at h10;split at h10
       ·split at h10
        ·simp at h10
        ·rename_i hsp;simpa using hsp
       ·simp at h10
      have hblk:a.block<w.heap.size:=by
       unfold World.cell? at h10;split at h10
       ·rename_i hh;exact(JB.1 hh).1
       ·simp at h10
      refine⟨a.block,a.off,hblk,by cases a;simp only at hs;subst hs;rfl,?_⟩;rw[Hi];intro i r hr;obtain⟨⟨g1,_⟩,ci,g2,g3,g4⟩:=hrows i r hr;refine⟨g1,?_⟩;rw[Hh];intro j p hp;obtain⟨v,hv,hrep⟩:=(g2.2 β m).get hp;have hj:j<P.cellsOf e:=(by rw[← g3];exact(List.getElem?_eq_some_iff.1 hv).1);refine⟨v,?_,g2.1 v (List.mem_of_getElem? hv),hrep⟩;rw[← hv, ← g4 j hj];congr 1;cases a;simp only at hs;subst hs;simp only[Addr.add];split<;>split<;>simp_all<;>omega
    ·have hb5:=Wi rows (elems.map (·.1)) (by simp[hrl,hlen]) λi r hr=>(hrows i r hr).1.2.2;simp only[PV.bulkL,PV.bulk,Rows.uptoBulk];omega
  ·rename_i fs hu;simp only[AV,List.all_eq_true]at h;obtain⟨xs,n,hfu,rfl,hcl,hxl,hp⟩:=DataW.trod_struct hu hx;obtain rfl:c=n:=(by omega);have hpt:FM P t=fs.toList.map λf=>(f.offset,f.type):=(by unfold FM;rw[hu]);obtain⟨ps,h1,h2,h30⟩:=Sa (w:=w) (c:=c) (cs:=cs) (FM P t) (xs.map (·.1)) 0 (by rw[hcl];exact h.1) (λi p hi=>by
    have hcv:=h.2 p (List.mem_of_getElem? hi);rw[hpt]at hi;rw[List.getElem?_map,LP]at hi;obtain⟨f,hf,rfl⟩:=hi;have hf':fs[i]? =some f:=(by simpa using hf);have hi':i<xs.length:=by
     rw[hxl];exact(JB.1 hf').1
    have h3:=hp i f hf';rw[List.getElem?_eq_getElem hi']at h3;exact⟨xs[i].1,by rw[List.getElem?_map,List.getElem?_eq_getElem hi'];try rfl,QF hT c f.type hcv _ _ h3 (λm hm=>hw m (by
     simp only[DataW.weights,hu];exact DataW.weights_mem_each (j:=i) (t:=f.type) (d:=xs[i].1) (by rw[List.getElem?_map,hf];try rfl) (by rw[List.getElem?_map,List.getElem?_eq_getElem hi'];try rfl) m hm))⟩)
   refine⟨ps,?_,by simpa using h1,by simp only[Rows.uptoBulk];omega⟩;unfold Be;rw[hu];exact⟨by rw[h1.len,List.drop_zero,hcl],λp hpm=>by simpa using h2 p hpm⟩
  ·rename_i k e hu;simp only[AV,List.all_eq_true]at h;obtain⟨xs,n,hfu,rfl,hcl,hxl,hp⟩:=DataW.trod_array hu hx;obtain rfl:c=n:=(by omega);have hpt:FM P t=(List.range k).map λi=>(i*P.cellsOf e,e):=(by unfold FM;rw[hu]);obtain⟨ps,h1,h2,h30⟩:=Sa (w:=w) (c:=c) (cs:=cs) (FM P t) (xs.map (·.1)) 0 (by rw[hcl];exact h.1) (λi p hi=>by
    have hcv:=h.2 p (List.mem_of_getElem? hi);rw[hpt,List.getElem?_map,LP]at hi;obtain⟨j,hj,rfl⟩:=hi;obtain⟨hjk,rfl⟩:=List.qC hj;have hi':i<xs.length:=(by rw[hxl];exact hjk);have h3:=hp i hjk;rw[List.getElem?_eq_getElem hi']at h3;exact⟨xs[i].1,by rw[List.getElem?_map,List.getElem?_eq_getElem hi'];try rfl,QF hT c e hcv _ _ h3 (λm hm=>hw m (by
     simp only[DataW.weights,hu];exact SF (i:=i) (d:=xs[i].1) (by rw[List.getElem?_map,List.getElem?_eq_getElem hi'];try rfl) hm))⟩)
   refine⟨ps,?_,by simpa using h1,by simp only[Rows.uptoBulk];omega⟩;unfold Be;rw[hu];exact⟨by rw[h1.len,List.drop_zero,hcl],λp hpm=>by simpa using h2 p hpm⟩
  ·simp at h
theorem kE{Ts:List TypeId}(hT:Vx P Ts=true){t:TypeId}(ht:Ts.contains t=true){fs:Array Field}(hu:P.underlying t=some (.struct fs)){v:Value}{d:DataW H}{pl:List MemPlace}
  (h:DataW.Trod enc P w 0 sp held t v d pl)(hv: ∃ base,Value.okWide P w .any base t v)(hw: ∀ n∈d.weights P t,n<=reachBytes):
  ∃ c ps,Be P c t ps/\(∀ β n,AA β n (λb=>b<w.heap.size) w (.agg ps) v)/\PV.bulkL ps<=Rows.uptoBulk d:=by
 obtain⟨fuel,hf⟩:=h;obtain⟨ps,h1,h2,h3⟩:=QF hT fuel t ht _ _ hf hw;obtain⟨base,hv⟩:=hv;unfold Value.okWide at hv;simp only[hu]at hv;obtain⟨cs,rfl,_⟩:=hv;refine⟨fuel,ps,h1,λβ n=>?_,h3⟩;simp only[AA];exact⟨cs.toList,by simp,h2.1,h2.2 β n⟩
end
end Go.AM
namespace Go.AM
theorem QG: ∀ l:List ByteArray,l.length<=PV.D3 (AL l)
 |[]=>by simp
 |s::l=>by
  have:=QG l;simp only[AL,List.map_cons,PV.D3,PV.bulkL,PV.bulk,List.length_cons]at this⊢;omega
mutual
theorem Ex.KZ: ∀ (e:Ex),PV.bulkL e.cells<=1048576->e.small
 | .mk op name n args kids,h=>by
  simp only[Ex.cells,PV.bulkL,PV.bulk]at h;simp only[Ex.small];have:=QG args;exact⟨by omega,Ex.NR kids (by omega)⟩
theorem Ex.NR: ∀ (l:List Ex),PV.D3 (Ex.rows l)<=1048576->Ex.Db l
 |[],_=>by simp[Ex.Db]
 |k::ks,h=>by
  simp only[Ex.rows,PV.D3]at h;simp only[Ex.Db];exact⟨Ex.KZ k (by omega),Ex.NR ks (by omega)⟩
end
mutual
theorem Sx.ZI: ∀ (x:Sx),x.depth<=x.nodes
 | .mk kind _ _ _ _ kids=>by
  have:=Sx.ZJ kids 0;simp only[Sx.depth,Sx.nodes];split<;>omega
theorem Sx.ZJ: ∀ (l:List Sx)(m:Nat),Sx.DW m l<=max m (Sx.Aq l)
 |[],m=>by simp[Sx.DW,Sx.Aq]
 |k::ks,m=>by
  have h1:=Sx.ZI k;have h2:=Sx.ZJ ks (max m k.depth);simp only[Sx.DW,Sx.Aq];omega
end
end Go.AM
namespace Go.Proofs.YtblgchkahpgdjaaGreat
open Go.AM Go.Proofs.Tryz
end Go.Proofs.YtblgchkahpgdjaaGreat
namespace Go.AM
theorem JV{P:Program}{ow:Nat->Bool}{n:Nat}{s:AE}{h:A0}{f:FuncId}{first caps:List PV}{fo:Operand}{dst:Option Tmp}{args:List Operand}{ts:Array TypeId}{ty:TypeId}{pos:String}{af:Array Edge}{gd:Option (Nat × Bool)}{av:List PV}{v:PV}{K:AE->A0->Prop}{ops rest:List Oper}
  (hf:A9 s fo= .fn f first caps)(hc:A6 P f av h λr h'=>r=v/\h'=h)(ha:first++(args.map (A9 s)++caps)=av)(hk:EN P ow n ops rest K (Ak s dst v) h):
  CY P ow {dst:=dst,op:= .call {callee:= .value fo,args:=args.toArray,argTypes:=ts},type:=ty,pos:=pos,after:=af,guard:=gd} (Et P ow n ops rest K) s h:=by
 unfold CY;simp only[callee,hf];rw[ha];exact hc.mono λr h' hr=>by rw[hr.1,hr.2];exact Jy _ _ _ hk
def J4{α:Type}(q:α->Bool)(l:List α):Int:=match l.findIdx? q with
 |some i=>i
 |none=> -1
theorem Sb{α:Type}(q:α->Bool)(l:List α):decide (J4 q l>=0)=l.any q:=by
 unfold J4;cases h:l.findIdx? q with
 |none=>
  rw[List.findIdx?_eq_none_iff]at h;have:l.any q=false:=by
   rw[List.any_eq_false];intro s hs;simpa using h s hs
  rw[this];try rfl
 |some i=>
  rw[List.findIdx?_eq_some_iff_getElem]at h;obtain⟨hi,h1,_⟩:=h;have:l.any q=true:=by
   rw[List.any_eq_true];exact⟨l[i],List.getElem_mem hi,by simpa using h1⟩
  rw[this];simp
end Go.AM
namespace Go.Proofs.YtblgchkahpgdjaaGreat
open Go.AM Go.Proofs.Tryz
set_option maxHeartbeats 4000000
set_option maxRecDepth 20000
variable {cp:PV}{g:FuncId}{h:A0}{l:List Ch}{name:ByteArray}
def GY(name:ByteArray)(l:List Ch):Bool:=l.any λc=>(c.kind==1||c.kind==2)&&A2 c.name name
theorem kF{q:Ch->Bool}(hl:l.length<=AF)(hf: ∀ s∈l,A6 prog g [.agg (CZ s),cp] h λr h'=>r= .sc (.bool (q s))/\h'=h):
  A6 prog 132 [.A1 15 (Ag l),.fn g [] [cp]] h λr h'=>r= qK (J4 q l)/\h'=h:=by
 unfold AF at hl;have hlen:=Kp l;refine AD func132 ntmps132 results132 Ty.gN ?_;refine wt hlen ?_;refine By (λm S h'=>h'=h/\S 0= .A1 15 (Ag l)/\S 1= .fn g [] [cp]/\S 7= qK l.length/\ ∃ k:Nat,S 8= qK k/\k<=l.length/\m=l.length-k/\ ∀ (i:Nat)(w:Ch),i<k->l[i]? =some w->q w=false) l.length ?_ ?_
 ·simp only[Ty.w,simprocAttr];exact⟨0,rfl,by omega,rfl,by omega⟩
 ·rintro m S h' ⟨rfl,g0,g1,g7,k,g8,hk,rfl,hall⟩;by_cases hlt:k<l.length
  ·have hd:decide ((k:Int)<(l.length:Int))=true:=(by simp;omega);have w7:IntKind.i64.wrap ((k:Int)+1)=k+1:=(by rw[BM (by omega) (by omega)]);obtain⟨w,hx⟩: ∃ w,l[k]? =some w:=⟨l[k],List.getElem?_eq_getElem hlt⟩;have hr:=Ns hx;have hc:=hf w (List.mem_of_getElem? hx);have hlr:(CZ w).length=15:=(by rcases w with⟨_,_,⟨_,_,_,_,_,_⟩,_,_,⟨_,_,_,_,_⟩⟩;rfl);generalize hR:CZ w=R at hr hc hlr;obtain⟨p0,p1,p2,p3,p4,p5,p6,p7,p8,p9,p10,p11,p12,p13,p14,rfl⟩: ∃ p0 p1 p2 p3 p4 p5 p6 p7 p8 p9 p10 p11 p12 p13 p14,R=[p0,p1,p2,p3,p4,p5,p6,p7,p8,p9,p10,p11,p12,p13,p14]:=by
    match R,hlr with
    |[p0,p1,p2,p3,p4,p5,p6,p7,p8,p9,p10,p11,p12,p13,p14],_=>exact⟨p0,p1,p2,p3,p4,p5,p6,p7,p8,p9,p10,p11,p12,p13,p14,rfl⟩
   clear hlr;cases he:q w with
   |true=>
    rw[he]at hc;replace zz:=Ah g0 g1 g7 g8 hd hr;refine wt zz ?_;refine JV (by simp only[Ty.w,simprocAttr,g1];rfl) hc (by simp only[Ty.w,simprocAttr,g0,g1,g7,g8];try rfl) ?_;simp only[Ty.w,simprocAttr,Ty.AX];replace zz:=AW g0 g1 g7 g8;refine wt zz ?_;have:l.findIdx? q=some k:=by
     rw[List.findIdx?_eq_some_iff_getElem];refine⟨hlt,?_,λj hj=>?_⟩
     ·rw [List.getElem?_eq_getElem hlt]at hx;simp only[BC]at hx;rw[hx,he]
     ·rw [hall j l[j] hj (List.getElem?_eq_getElem (by omega))];simp
    simp only[J4,this]
   |false=>
    rw[he]at hc;replace zz:=Ah g0 g1 g7 g8 hd hr;refine wt zz ?_;refine JV (by simp only[Ty.w,simprocAttr,g1];rfl) hc (by simp only[Ty.w,simprocAttr,g0,g1,g7,g8];try rfl) ?_;simp only[Ty.w,simprocAttr,Ty.AX];replace zz:=Ae g0 g1 g7 g8 w7;refine wt zz ?_;refine⟨l.length-(k+1),by omega,k+1,by simp,by omega,rfl,λi w2 hi hw=>?_⟩;by_cases hik:i=k
    ·subst hik;rw[hx]at hw;simp at hw;rw[← hw];exact he
    ·exact hall i w2 (by omega) hw
  ·have hd:decide ((k:Int)<(l.length:Int))=false:=(by simp;omega);replace zz:=Ae g0 g1 g7 g8 hd;refine wt zz ?_;have:l.findIdx? q=none:=by
    rw[List.findIdx?_eq_none_iff];intro w hw;obtain⟨i,hi⟩:=List.getElem?_of_mem hw;have:i<l.length:=(List.getElem?_eq_some_iff.1 hi).1;rw[hall i w (by omega) hi]
   simp only[J4,this]
theorem kG{q:Ch->Bool}(hl:l.length<=AF)(hf: ∀ s∈l,A6 prog g [.agg (CZ s),cp] h λr h'=>r= .sc (.bool (q s))/\h'=h):
  A6 prog 88 [.A1 15 (Ag l),.fn g [] [cp]] h λr h'=>r= .sc (.bool (l.any q))/\h'=h:=by
 refine AD func88 ntmps88 results88 Ty.gM ?_;refine wt A4 ?_;refine uU A4 (kF (l:=l) (g:=g) hl hf) ?_;refine wt A4 ?_;rw[← Sb]
theorem kH{l:List Ac}{q:Ac->Bool}(hl:l.length<=AF)(hf: ∀ s∈l,A6 prog g [.agg (DF s),cp] h λr h'=>r= .sc (.bool (q s))/\h'=h):
  A6 prog 133 [.A1 10 (BV l),.fn g [] [cp]] h λr h'=>r= qK (J4 q l)/\h'=h:=by
 unfold AF at hl;have hlen:=Ln l;refine AD func133 ntmps133 results133 Ty.gO ?_;refine wt hlen ?_;refine By (λm S h'=>h'=h/\S 0= .A1 10 (BV l)/\S 1= .fn g [] [cp]/\S 7= qK l.length/\ ∃ k:Nat,S 8= qK k/\k<=l.length/\m=l.length-k/\ ∀ (i:Nat)(w:Ac),i<k->l[i]? =some w->q w=false) l.length ?_ ?_
 ·simp only[Ty.w,simprocAttr];exact⟨0,rfl,by omega,rfl,by omega⟩
 ·rintro m S h' ⟨rfl,g0,g1,g7,k,g8,hk,rfl,hall⟩;by_cases hlt:k<l.length
  ·have hd:decide ((k:Int)<(l.length:Int))=true:=(by simp;omega);have w7:IntKind.i64.wrap ((k:Int)+1)=k+1:=(by rw[BM (by omega) (by omega)]);obtain⟨w,hx⟩: ∃ w,l[k]? =some w:=⟨l[k],List.getElem?_eq_getElem hlt⟩;have hr:=Nt hx;have hc:=hf w (List.mem_of_getElem? hx);have hlr:(DF w).length=10:=(by rcases w with⟨_,_,_,⟨_,_,_,_,_,_⟩,_⟩;rfl);generalize hR:DF w=R at hr hc hlr;obtain⟨p0,p1,p2,p3,p4,p5,p6,p7,p8,p9,rfl⟩: ∃ p0 p1 p2 p3 p4 p5 p6 p7 p8 p9,R=[p0,p1,p2,p3,p4,p5,p6,p7,p8,p9]:=by
    match R,hlr with
    |[p0,p1,p2,p3,p4,p5,p6,p7,p8,p9],_=>exact⟨p0,p1,p2,p3,p4,p5,p6,p7,p8,p9,rfl⟩
   clear hlr;cases he:q w with
   |true=>
    rw[he]at hc;replace zz:=Ah g0 g1 g7 g8 hd hr;refine wt zz ?_;refine JV (by simp only[Ty.w,simprocAttr,g1];rfl) hc (by simp only[Ty.w,simprocAttr,g0,g1,g7,g8];try rfl) ?_;simp only[Ty.w,simprocAttr,Ty.AX];replace zz:=AW g0 g1 g7 g8;refine wt zz ?_;have:l.findIdx? q=some k:=by
     rw[List.findIdx?_eq_some_iff_getElem];refine⟨hlt,?_,λj hj=>?_⟩
     ·rw [List.getElem?_eq_getElem hlt]at hx;simp only[BC]at hx;rw[hx,he]
     ·rw [hall j l[j] hj (List.getElem?_eq_getElem (by omega))];simp
    simp only[J4,this]
   |false=>
    rw[he]at hc;replace zz:=Ah g0 g1 g7 g8 hd hr;refine wt zz ?_;refine JV (by simp only[Ty.w,simprocAttr,g1];rfl) hc (by simp only[Ty.w,simprocAttr,g0,g1,g7,g8];try rfl) ?_;simp only[Ty.w,simprocAttr,Ty.AX];replace zz:=Ae g0 g1 g7 g8 w7;refine wt zz ?_;refine⟨l.length-(k+1),by omega,k+1,by simp,by omega,rfl,λi w2 hi hw=>?_⟩;by_cases hik:i=k
    ·subst hik;rw[hx]at hw;simp at hw;rw[← hw];exact he
    ·exact hall i w2 (by omega) hw
  ·have hd:decide ((k:Int)<(l.length:Int))=false:=(by simp;omega);replace zz:=Ae g0 g1 g7 g8 hd;refine wt zz ?_;have:l.findIdx? q=none:=by
    rw[List.findIdx?_eq_none_iff];intro w hw;obtain⟨i,hi⟩:=List.getElem?_of_mem hw;have:i<l.length:=(List.getElem?_eq_some_iff.1 hi).1;rw[hall i w (by omega) hi]
   simp only[J4,this]
theorem kI{l:List Ac}{q:Ac->Bool}(hl:l.length<=AF)(hf: ∀ s∈l,A6 prog g [.agg (DF s),cp] h λr h'=>r= .sc (.bool (q s))/\h'=h):
  A6 prog 90 [.A1 10 (BV l),.fn g [] [cp]] h λr h'=>r= .sc (.bool (l.any q))/\h'=h:=by
 refine AD func90 ntmps90 results90 Ty.gE ?_;refine wt A4 ?_;refine uU A4 (kH (l:=l) (g:=g) hl hf) ?_;refine wt A4 ?_;rw[← Sb]
theorem kJ{l:List Du}{q:Du->Bool}(hl:l.length<=AF)(hf: ∀ s∈l,A6 prog g [.agg (DG s),cp] h λr h'=>r= .sc (.bool (q s))/\h'=h):
  A6 prog 134 [.A1 23 (BW l),.fn g [] [cp]] h λr h'=>r= qK (J4 q l)/\h'=h:=by
 unfold AF at hl;have hlen:=Lo l;refine AD func134 ntmps134 results134 Ty.gP ?_;refine wt hlen ?_;refine By (λm S h'=>h'=h/\S 0= .A1 23 (BW l)/\S 1= .fn g [] [cp]/\S 7= qK l.length/\ ∃ k:Nat,S 8= qK k/\k<=l.length/\m=l.length-k/\ ∀ (i:Nat)(w:Du),i<k->l[i]? =some w->q w=false) l.length ?_ ?_
 ·simp only[Ty.w,simprocAttr];exact⟨0,rfl,by omega,rfl,by omega⟩
 ·rintro m S h' ⟨rfl,g0,g1,g7,k,g8,hk,rfl,hall⟩;by_cases hlt:k<l.length
  ·have hd:decide ((k:Int)<(l.length:Int))=true:=(by simp;omega);have w7:IntKind.i64.wrap ((k:Int)+1)=k+1:=(by rw[BM (by omega) (by omega)]);obtain⟨w,hx⟩: ∃ w,l[k]? =some w:=⟨l[k],List.getElem?_eq_getElem hlt⟩;have hr:=Nu hx;have hc:=hf w (List.mem_of_getElem? hx);have hlr:(DG w).length=23:=(by rcases w with⟨_,_,_,⟨_,_,_,_,_,_⟩,⟨_,_,_,_,_,_⟩,⟨_,_,_,_,_,_⟩,_,_⟩;rfl);generalize hR:DG w=R at hr hc hlr;obtain⟨p0,p1,p2,p3,p4,p5,p6,p7,p8,p9,p10,p11,p12,p13,p14,p15,p16,p17,p18,p19,p20,p21,p22,rfl⟩: ∃ p0 p1 p2 p3 p4 p5 p6 p7 p8 p9 p10 p11 p12 p13 p14 p15 p16 p17 p18 p19 p20 p21 p22,R=[p0,p1,p2,p3,p4,p5,p6,p7,p8,p9,p10,p11,p12,p13,p14,p15,p16,p17,p18,p19,p20,p21,p22]:=by
    match R,hlr with
    |[p0,p1,p2,p3,p4,p5,p6,p7,p8,p9,p10,p11,p12,p13,p14,p15,p16,p17,p18,p19,p20,p21,p22],_=>exact⟨p0,p1,p2,p3,p4,p5,p6,p7,p8,p9,p10,p11,p12,p13,p14,p15,p16,p17,p18,p19,p20,p21,p22,rfl⟩
   clear hlr;cases he:q w with
   |true=>
    rw[he]at hc;replace zz:=Ah g0 g1 g7 g8 hd hr;refine wt zz ?_;refine JV (by simp only[Ty.w,simprocAttr,g1];rfl) hc (by simp only[Ty.w,simprocAttr,g0,g1,g7,g8];try rfl) ?_;simp only[Ty.w,simprocAttr,Ty.AX];replace zz:=AW g0 g1 g7 g8;refine wt zz ?_;have:l.findIdx? q=some k:=by
     rw[List.findIdx?_eq_some_iff_getElem];refine⟨hlt,?_,λj hj=>?_⟩
     ·rw [List.getElem?_eq_getElem hlt]at hx;simp only[BC]at hx;rw[hx,he]
     ·rw [hall j l[j] hj (List.getElem?_eq_getElem (by omega))];simp
    simp only[J4,this]
   |false=>
    rw[he]at hc;replace zz:=Ah g0 g1 g7 g8 hd hr;refine wt zz ?_;refine JV (by simp only[Ty.w,simprocAttr,g1];rfl) hc (by simp only[Ty.w,simprocAttr,g0,g1,g7,g8];try rfl) ?_;simp only[Ty.w,simprocAttr,Ty.AX];replace zz:=Ae g0 g1 g7 g8 w7;refine wt zz ?_;refine⟨l.length-(k+1),by omega,k+1,by simp,by omega,rfl,λi w2 hi hw=>?_⟩;by_cases hik:i=k
    ·subst hik;rw[hx]at hw;simp at hw;rw[← hw];exact he
    ·exact hall i w2 (by omega) hw
  ·have hd:decide ((k:Int)<(l.length:Int))=false:=(by simp;omega);replace zz:=Ae g0 g1 g7 g8 hd;refine wt zz ?_;have:l.findIdx? q=none:=by
    rw[List.findIdx?_eq_none_iff];intro w hw;obtain⟨i,hi⟩:=List.getElem?_of_mem hw;have:i<l.length:=(List.getElem?_eq_some_iff.1 hi).1;rw[hall i w (by omega) hi]
   simp only[J4,this]
theorem kK{l:List Du}{q:Du->Bool}(hl:l.length<=AF)(hf: ∀ s∈l,A6 prog g [.agg (DG s),cp] h λr h'=>r= .sc (.bool (q s))/\h'=h):
  A6 prog 92 [.A1 23 (BW l),.fn g [] [cp]] h λr h'=>r= .sc (.bool (l.any q))/\h'=h:=by
 refine AD func92 ntmps92 results92 Ty.gF ?_;refine wt A4 ?_;refine uU A4 (kJ (l:=l) (g:=g) hl hf) ?_;refine wt A4 ?_;rw[← Sb]
theorem kL(c:Ch):A6 prog 89 [.agg (CZ c),.Aj [A3 name]] h λr h'=>r= .sc (.bool ((c.kind==1||c.kind==2)&&A2 c.name name))/\h'=h:=by
 obtain⟨kind,params,⟨fop,fna,far,fpa,fex,fki⟩,cname,args,⟨eop,ena,en,ear,eki⟩⟩:=c;simp only[CZ,Fm.cells,Ex.cells,List.cons_append,List.nil_append,A2];cases k1:(kind==1)with
 |true=>
  refine AD func89 ntmps89 results89 Ty.Rm ?_;refine wm k1 ?_;try exact zI
  all_goals rfl
 |false=>
  cases k2:(kind==2)with
  |true=>
   refine AD func89 ntmps89 results89 Ty.Rm ?_;refine wm (uu k1 k2) ?_;try exact zI
   all_goals rfl
  |false=>
   refine AD func89 ntmps89 results89 Ty.Rm ?_;refine wm (uu k1 k2) ?_;try exact zI
   all_goals rfl
theorem Sc(hl:Chs.ok l):A6 prog 87 [.A1 15 (Ag l),.Aj [A3 name]] h λr h'=>r= .sc (.bool (GY name l))/\h'=h:=by
 have hc:=λh:A0=>kG (h:=h) (g:=89) (cp:= .Aj [A3 name]) (l:=l) (q:=λc=>(c.kind==1||c.kind==2)&&A2 c.name name) hl.1 (λs _=>kL s);unfold GY;generalize l.any (λc=>(c.kind==1||c.kind==2)&&A2 c.name name)=b at hc⊢;refine AD func87 ntmps87 results87 Ty.gj ?_;refine wt A4 ?_;refine uU A4 (hc _) ?_;exact wz A4
def JW(name:ByteArray):Am:= .arr 1 [[.fn 87 [] [.Aj [A3 name]]]]
theorem kM{id:Nat}(ho:h.obj id=some (JW name))(a:Ac)(ha:Chs.ok a.changes):A6 prog 91 [.agg (DF a),.ptr id 0 0] h λr h'=>r= .sc (.bool (GY name a.changes))/\h'=h:=by
 have hc:=Sc (h:=h) (name:=name) ha;generalize GY name a.changes=b at hc⊢;obtain⟨aname,params,cost,⟨fop,fna,far,fpa,fex,fki⟩,changes⟩:=a;simp only[DF,Fm.cells,List.cons_append,List.nil_append]at hc⊢;simp only[JW]at ho;refine AD func91 ntmps91 results91 Ty.gl ?_;refine wt ho ?_;refine JV (by simp only[Ty.w,simprocAttr];rfl) hc (by simp only[Ty.w,simprocAttr];try rfl) ?_;simp only[Ty.w,simprocAttr,Ty.AX];exact wz ho
theorem kN{id:Nat}(ho:h.obj id=some (JW name))(a:Du)(ha:Chs.ok a.Bm)(ha2:Chs.ok a.Bn):A6 prog 93 [.agg (DG a),.ptr id 0 0] h λr h'=>r= .sc (.bool (GY name a.Bm||GY name a.Bn))/\h'=h:=by
 have hc:=Sc (h:=h) (name:=name) ha;have hc2:=Sc (h:=h) (name:=name) ha2;generalize GY name a.Bm=b at hc⊢;generalize GY name a.Bn=b2 at hc2⊢;obtain⟨aname,params,dur,⟨fop,fna,far,fpa,fex,fki⟩,⟨fop2,fna2,far2,fpa2,fex2,fki2⟩,⟨fop3,fna3,far3,fpa3,fex3,fki3⟩,Bm,Bn⟩:=a;simp only[DG,Fm.cells,List.cons_append,List.nil_append]at hc hc2⊢;simp only[JW]at ho;refine AD func93 ntmps93 results93 Ty.gm ?_;cases b with
 |true=>
  refine wt ho ?_;refine JV (by simp only[Ty.w,simprocAttr];rfl) hc (by simp only[Ty.w,simprocAttr];try rfl) ?_;simp only[Ty.w,simprocAttr,Ty.AX];refine wm ho ?_;try exact zI
  all_goals rfl
 |false=>
  refine wt ho ?_;refine JV (by simp only[Ty.w,simprocAttr];rfl) hc (by simp only[Ty.w,simprocAttr];try rfl) ?_;simp only[Ty.w,simprocAttr,Ty.AX,ho];refine wt ho ?_;refine JV (by simp only[Ty.w,simprocAttr];rfl) hc2 (by simp only[Ty.w,simprocAttr];try rfl) ?_;simp only[Ty.w,simprocAttr,Ty.AX];refine wm ho ?_;try exact zI
  all_goals rfl
def Sd(d:Dm)(name:ByteArray):Bool:=!(d.Av.any λa=>GY name a.changes)&&!(d.B0.any λa=>GY name a.Bm||GY name a.Bn)
theorem kO{d:Dm}(hd:d.ok)(name:ByteArray)(h:A0):A6 prog 38 [.agg d.cells,A3 name] h λr h'=>r= .sc (.bool (Sd d name))/\h'=h:=by
 obtain⟨_,_,_,_,_,⟨hal,hao⟩,⟨hul,huo⟩⟩:=hd;refine A6.quiet Ty.Ra ?_;unfold Sd;have ho:((h.new (.arr 1 [[.sc .nilFunc]])).set h.next (JW name)).obj h.next=some (JW name):=by simp[A0.set]
 have h2:=kI (h:=(h.new (.arr 1 [[.sc .nilFunc]])).set h.next (JW name)) (g:=91) (cp:= .ptr h.next 0 0) (l:=d.Av) (q:=λa=>GY name a.changes) hal (λs hs=>kM ho s (hao s hs).changes);have h3:=kK (h:=(h.new (.arr 1 [[.sc .nilFunc]])).set h.next (JW name)) (g:=93) (cp:= .ptr h.next 0 0) (l:=d.B0) (q:=λa=>GY name a.Bm||GY name a.Bn) hul (λs hs=>kN ho s (huo s hs).Bm (huo s hs).Bn);have hg:AH h ((h.new (.arr 1 [[.sc .nilFunc]])).set h.next (JW name)):=((AH.refl h).new _).set (AG _) _;generalize d.Av.any (λa=>GY name a.changes)=b at h2⊢;generalize d.B0.any (λa=>GY name a.Bm||GY name a.Bn)=b2 at h3⊢
 clear ho hao huo hal hul;obtain⟨dname,types,constants,Ay,Au,Av,B0⟩:=d;simp only[Dm.cells]at h2 h3⊢;simp only[JW]at h2 h3 hg;cases b with
 |true=>
  refine AD func38 ntmps38 results38 Ty.Ra ?_;refine wt A4 ?_;refine uU A4 (h2) ?_;refine wm yT ?_;try exact zI
  all_goals first|exact hg|exact⟨rfl,hg⟩
 |false=>
  refine AD func38 ntmps38 results38 Ty.Ra ?_;refine wt A4 ?_;refine uU yF (h2) ?_;refine wt yF ?_;refine uU yF (h3) ?_;refine wm yF ?_;try exact zI
  all_goals first|exact hg|exact⟨rfl,hg⟩
end Go.Proofs.YtblgchkahpgdjaaGreat
namespace Go.Proofs.YtblgchkahpgdjaaGreat
open Go.AM Go.Proofs.Tryz
set_option maxHeartbeats 1000000
set_option maxRecDepth 20000
variable {ps:List PV}{c:Nat}
def kP:List TypeId:=jC++[28,77,43,94,23,96,24,83,25,85,26]
theorem Wj:Tryz.prog.cellsOf 43=1:=by kernel_rfl
theorem kQ:FM prog 77=[(0,3),(1,22),(2,67),(8,9),(9,64),(10,75)]:=by kernel_rfl
theorem Wl:Tryz.prog.cellsOf 77=15:=by kernel_rfl
theorem kR:0<Tryz.prog.bytesOf 77:=by rw[show Tryz.prog.bytesOf 77=288 by kernel_rfl];omega
theorem kS(h:Be prog c 77 ps): ∃ a:Ch,a.ok/\ps=CZ a:=by
 cases c with
 |zero=>simp[Be]at h
 |succ c=>
  obtain⟨h1,h2⟩:=K8 Tryz.underlying77 h;rw[Wl]at h1;rw[kQ]at h2
  match ps,h1,h2 with
  |[p0,p1,p2,p3,p4,p5,p6,p7,p8,p9,p10,p11,p12,p13,p14],_,h2=>
   have a0:=h2 (0,3) (by simp);have a1:=h2 (1,22) (by simp);have a2:=h2 (2,67) (by simp);have a3:=h2 (8,9) (by simp);have a4:=h2 (9,64) (by simp);have a5:=h2 (10,75) (by simp);simp only[SH,M6,OF,OE,Q5,JR,List.drop_zero,List.drop_succ_cons,List.take_succ_cons,List.take_zero]at a0 a1 a2 a3 a4 a5;obtain⟨kind,hkind,e0⟩:=Mx a0;obtain⟨params,hparams,e1⟩:=Ky a1;obtain⟨cond,hcond,e2⟩:=OG _ a2;obtain⟨name,hname,e3⟩:=Ht a3;obtain⟨args,hargs,e4⟩:=SI a4;obtain⟨value,hvalue,e5⟩:=W1 _ a5;simp at e0 e1 e3 e4;refine⟨⟨kind,params,cond,name,args,value⟩,⟨hparams,hcond,hargs,hvalue,hname,hkind⟩,?_⟩;simp only[CZ,e0,e1,e3,e4, ← e2, ← e5,List.cons_append,List.nil_append]
theorem Se(h:Be prog c 43 ps): ∃ l:List Ch,Chs.ok l/\ps=[.A1 15 (Ag l)]:=by
 cases c with
 |zero=>simp[Be]at h
 |succ c=>
  obtain⟨rows,rfl,h1,_,h2⟩:=JQ Tryz.underlying43 h;obtain⟨xs,rfl,h3⟩:=J2 (Q:=Ch.ok) (f:=CZ) rows (λr hr=>kS (h2 r hr).2);refine⟨xs,⟨JS (by simpa using h1) kR,h3⟩,?_⟩;rw[Wl];try rfl
theorem kU:FM prog 94=[(0,9),(1,22)]:=by kernel_rfl
theorem Wm:Tryz.prog.cellsOf 94=2:=by kernel_rfl
theorem kV:0<Tryz.prog.bytesOf 94:=by rw[show Tryz.prog.bytesOf 94=40 by kernel_rfl];omega
theorem kX:Tryz.prog.cellsOf 23=1:=by kernel_rfl
theorem kY(h:Be prog c 94 ps): ∃ a:Pr,a.ok/\ps=E0 a:=by
 cases c with
 |zero=>simp[Be]at h
 |succ c=>
  obtain⟨h1,h2⟩:=K8 Tryz.underlying94 h;rw[Wm]at h1;rw[kU]at h2
  match ps,h1,h2 with
  |[p0,p1],_,h2=>
   have a0:=h2 (0,9) (by simp);have a1:=h2 (1,22) (by simp);simp only[M6,JR,List.drop_zero,List.drop_succ_cons,List.take_succ_cons,List.take_zero]at a0 a1;obtain⟨name,hname,e0⟩:=Ht a0;obtain⟨params,hparams,e1⟩:=Ky a1;simp at e0 e1;refine⟨⟨name,params⟩,⟨hname,hparams⟩,?_⟩;simp only[E0,e0,e1,List.cons_append,List.nil_append]
theorem kZ(h:Be prog c 23 ps): ∃ l:List Pr,(l.length<=AF/\ ∀ a∈l,a.ok)/\ps=[.A1 2 (Bd l)]:=by
 cases c with
 |zero=>simp[Be]at h
 |succ c=>
  obtain⟨rows,rfl,h1,_,h2⟩:=JQ Tryz.underlying23 h;obtain⟨xs,rfl,h3⟩:=J2 (Q:=Pr.ok) (f:=E0) rows (λr hr=>kY (h2 r hr).2);refine⟨xs,⟨JS (by simpa using h1) kV,h3⟩,?_⟩;rw[Wm];try rfl
theorem kb:FM prog 96=[(0,9),(1,22),(2,3),(3,3)]:=by kernel_rfl
theorem Wn:Tryz.prog.cellsOf 96=4:=by kernel_rfl
theorem kc:0<Tryz.prog.bytesOf 96:=by rw[show Tryz.prog.bytesOf 96=56 by kernel_rfl];omega
theorem ke:Tryz.prog.cellsOf 24=1:=by kernel_rfl
theorem kf(h:Be prog c 96 ps): ∃ a:Fu,a.ok/\ps=E1 a:=by
 cases c with
 |zero=>simp[Be]at h
 |succ c=>
  obtain⟨h1,h2⟩:=K8 Tryz.underlying96 h;rw[Wn]at h1;rw[kb]at h2
  match ps,h1,h2 with
  |[p0,p1,p2,p3],_,h2=>
   have a0:=h2 (0,9) (by simp);have a1:=h2 (1,22) (by simp);have a2:=h2 (2,3) (by simp);have a3:=h2 (3,3) (by simp);simp only[M6,OE,JR,List.drop_zero,List.drop_succ_cons,List.take_succ_cons,List.take_zero]at a0 a1 a2 a3;obtain⟨name,hname,e0⟩:=Ht a0;obtain⟨params,hparams,e1⟩:=Ky a1;obtain⟨lo,hlo,e2⟩:=Mx a2;obtain⟨hi,hhi,e3⟩:=Mx a3;simp at e0 e1 e2 e3;refine⟨⟨name,params,lo,hi⟩,⟨hname,hparams,hlo,hhi⟩,?_⟩;simp only[E1,e0,e1,e2,e3,List.cons_append,List.nil_append]
theorem kg(h:Be prog c 24 ps): ∃ l:List Fu,(l.length<=AF/\ ∀ a∈l,a.ok)/\ps=[.A1 4 (BY l)]:=by
 cases c with
 |zero=>simp[Be]at h
 |succ c=>
  obtain⟨rows,rfl,h1,_,h2⟩:=JQ Tryz.underlying24 h;obtain⟨xs,rfl,h3⟩:=J2 (Q:=Fu.ok) (f:=E1) rows (λr hr=>kf (h2 r hr).2);refine⟨xs,⟨JS (by simpa using h1) kc,h3⟩,?_⟩;rw[Wn];try rfl
theorem kh:FM prog 83=[(0,9),(1,22),(2,3),(3,67),(9,43)]:=by kernel_rfl
theorem Wo:Tryz.prog.cellsOf 83=10:=by kernel_rfl
theorem kj:0<Tryz.prog.bytesOf 83:=by rw[show Tryz.prog.bytesOf 83=200 by kernel_rfl];omega
theorem km:Tryz.prog.cellsOf 25=1:=by kernel_rfl
theorem ko(h:Be prog c 83 ps): ∃ a:Ac,a.ok/\ps=DF a:=by
 cases c with
 |zero=>simp[Be]at h
 |succ c=>
  obtain⟨h1,h2⟩:=K8 Tryz.underlying83 h;rw[Wo]at h1;rw[kh]at h2
  match ps,h1,h2 with
  |[p0,p1,p2,p3,p4,p5,p6,p7,p8,p9],_,h2=>
   have a0:=h2 (0,9) (by simp);have a1:=h2 (1,22) (by simp);have a2:=h2 (2,3) (by simp);have a3:=h2 (3,67) (by simp);have a4:=h2 (9,43) (by simp);simp only[M6,OF,OE,JR,Wj,List.drop_zero,List.drop_succ_cons,List.take_succ_cons,List.take_zero]at a0 a1 a2 a3 a4;obtain⟨name,hname,e0⟩:=Ht a0;obtain⟨params,hparams,e1⟩:=Ky a1;obtain⟨cost,hcost,e2⟩:=Mx a2;obtain⟨pre,hpre,e3⟩:=OG _ a3;obtain⟨changes,hchanges,e4⟩:=Se a4;simp at e0 e1 e2 e4;refine⟨⟨name,params,cost,pre,changes⟩,⟨hname,hparams,hcost,hpre,hchanges⟩,?_⟩;simp only[DF,e0,e1,e2,e4, ← e3,List.cons_append,List.nil_append]
theorem kp(h:Be prog c 25 ps): ∃ l:List Ac,(l.length<=AF/\ ∀ a∈l,a.ok)/\ps=[.A1 10 (BV l)]:=by
 cases c with
 |zero=>simp[Be]at h
 |succ c=>
  obtain⟨rows,rfl,h1,_,h2⟩:=JQ Tryz.underlying25 h;obtain⟨xs,rfl,h3⟩:=J2 (Q:=Ac.ok) (f:=DF) rows (λr hr=>ko (h2 r hr).2);refine⟨xs,⟨JS (by simpa using h1) kj,h3⟩,?_⟩;rw[Wo];try rfl
theorem kq:FM prog 85=[(0,9),(1,22),(2,3),(3,67),(9,67),(15,67),(21,43),(22,43)]:=by kernel_rfl
theorem Wp:Tryz.prog.cellsOf 85=23:=by kernel_rfl
theorem kr:0<Tryz.prog.bytesOf 85:=by rw[show Tryz.prog.bytesOf 85=480 by kernel_rfl];omega
theorem ku:Tryz.prog.cellsOf 26=1:=by kernel_rfl
theorem l7(h:Be prog c 85 ps): ∃ a:Du,a.ok/\ps=DG a:=by
 cases c with
 |zero=>simp[Be]at h
 |succ c=>
  obtain⟨h1,h2⟩:=K8 Tryz.underlying85 h;rw[Wp]at h1;rw[kq]at h2
  match ps,h1,h2 with
  |[p0,p1,p2,p3,p4,p5,p6,p7,p8,p9,p10,p11,p12,p13,p14,p15,p16,p17,p18,p19,p20,p21,p22],_,h2=>
   have a0:=h2 (0,9) (by simp);have a1:=h2 (1,22) (by simp);have a2:=h2 (2,3) (by simp);have a3:=h2 (3,67) (by simp);have a4:=h2 (9,67) (by simp);have a5:=h2 (15,67) (by simp);have a6:=h2 (21,43) (by simp);have a7:=h2 (22,43) (by simp);simp only[M6,OF,OE,JR,Wj,List.drop_zero,List.drop_succ_cons,List.take_succ_cons,List.take_zero]at a0 a1 a2 a3 a4 a5 a6 a7;obtain⟨name,hname,e0⟩:=Ht a0;obtain⟨params,hparams,e1⟩:=Ky a1;obtain⟨Dw,hduration,e2⟩:=Mx a2;obtain⟨start,hstart,e3⟩:=OG _ a3;obtain⟨over,hover,e4⟩:=OG _ a4;obtain⟨stop,hstop,e5⟩:=OG _ a5;obtain⟨Bm,hatStart,e6⟩:=Se a6;obtain⟨Bn,hatStop,e7⟩:=Se a7;simp at e0 e1 e2 e6 e7;refine⟨⟨name,params,Dw,start,over,stop,Bm,Bn⟩,⟨hname,hparams,hduration,hstart,hover,hstop,hatStart,hatStop⟩,?_⟩;simp only[DG,e0,e1,e2,e6,e7, ← e3, ← e4, ← e5,List.cons_append,List.nil_append]
theorem l8(h:Be prog c 26 ps): ∃ l:List Du,(l.length<=AF/\ ∀ a∈l,a.ok)/\ps=[.A1 23 (BW l)]:=by
 cases c with
 |zero=>simp[Be]at h
 |succ c=>
  obtain⟨rows,rfl,h1,_,h2⟩:=JQ Tryz.underlying26 h;obtain⟨xs,rfl,h3⟩:=J2 (Q:=Du.ok) (f:=DG) rows (λr hr=>l7 (h2 r hr).2);refine⟨xs,⟨JS (by simpa using h1) kr,h3⟩,?_⟩;rw[Wp];try rfl
theorem l9:FM prog 28=[(0,9),(1,22),(2,22),(3,23),(4,24),(5,25),(6,26)]:=by kernel_rfl
theorem lA:Tryz.prog.cellsOf 28=7:=by kernel_rfl
theorem lB(c:Nat){ps:List PV}(h:Be prog c 28 ps): ∃ d:Dm,d.ok/\ps=d.cells:=by
 cases c with
 |zero=>simp[Be]at h
 |succ c=>
  obtain⟨h1,h2⟩:=K8 Tryz.underlying28 h;rw[lA]at h1;rw[l9]at h2
  match ps,h1,h2 with
  |[p0,p1,p2,p3,p4,p5,p6],_,h2=>
   have a0:=h2 (0,9) (by simp);have a1:=h2 (1,22) (by simp);have a2:=h2 (2,22) (by simp);have a3:=h2 (3,23) (by simp);have a4:=h2 (4,24) (by simp);have a5:=h2 (5,25) (by simp);have a6:=h2 (6,26) (by simp);simp only[JR,M6,kX,ke,km,ku,List.drop_zero,List.drop_succ_cons,List.take_succ_cons,List.take_zero]at a0 a1 a2 a3 a4 a5 a6;obtain⟨name,hname,e0⟩:=Ht a0;obtain⟨types,htypes,e1⟩:=Ky a1;obtain⟨constants,hconstants,e2⟩:=Ky a2;obtain⟨Ay,hpredicates,e3⟩:=kZ a3;obtain⟨Au,hfunctions,e4⟩:=kg a4;obtain⟨Av,hactions,e5⟩:=kp a5;obtain⟨B0,hduratives,e6⟩:=l8 a6;simp at e0 e1 e2 e3 e4 e5 e6;exact⟨⟨name,types,constants,Ay,Au,Av,B0⟩,⟨hname,htypes,hconstants,hpredicates,hfunctions,hactions,hduratives⟩,by simp only[Dm.cells,e0,e1,e2,e3,e4,e5,e6]⟩
end Go.Proofs.YtblgchkahpgdjaaGreat
