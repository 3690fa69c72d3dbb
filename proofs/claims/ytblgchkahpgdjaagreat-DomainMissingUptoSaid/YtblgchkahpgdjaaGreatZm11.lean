/- What the claim rests on, part 11: the abstract machine, contracts of the functions, plain data. -/
import Derived.Test.YtblgchkahpgdjaaGreatZm9
import Derived.Test.YtblgchkahpgdjaaGreatZm10
set_option linter.unusedVariables false
set_option linter.unusedSimpArgs false
set_option linter.unusedSectionVars false
namespace Go.AM
mutual
def Fm.small:Fm->Prop
 | .mk _ _ args params exprs kids=>args.length<=1048576/\params.length<=1048576/\Ex.Db exprs/\kids.length<=1048576/\Fm.Db kids
def Fm.Db:List Fm->Prop
 |[]=>True
 |k::ks=>k.small/\Fm.Db ks
end
theorem Fm.Es:{l:List Fm}->(Fm.Db l↔ ∀ k∈l,k.small)
 |[]=>by simp[Fm.Db]
 |k::ks=>by simp[Fm.Db,Fm.Es (l:=ks)]
end Go.AM
namespace Go.Proofs.YtblgchkahpgdjaaGreat
open Go.AM Go.Proofs.Tryz
set_option maxHeartbeats 4000000
set_option maxRecDepth 20000
variable {h:A0}
structure H8(h:A0)(L:List Sx)(h':A0):Prop where
 grow:AH h h'
 ex: ∃ p H,h.next+1<h'.next/\h'.obj h.next=some (.arr 6 [[qK 0,qK 0,qK 0,qK 0,.sc (.string ⟨#[]⟩),.sc (.slice none 0 0)]])/\
  h'.obj (h.next+1)=some (.arr 6 [[qK 3,qK 0,qK 0,qK 0,.sc (.string ⟨#[]⟩),p]])/\Tl h' (h.next+2) 6 p (Sx.rows L)/\
  F3 h' p=some (H,Sx.rows L)/\Dx h' 6 p=true/\H.next=h'.next/\(∀ j,j<h.next+2->H.obj j=h'.obj j)/\AH h H/\p.cells=[p]/\Cs p=true
theorem H8.Ii{h':A0}{L:List Sx}{p:PV}(g:AH h h')(hn:h.next+1<h'.next)(o1:h'.obj h.next=some (.arr 6 [[qK 0,qK 0,qK 0,qK 0,.sc (.string ⟨#[]⟩),.sc (.slice none 0 0)]]))(o2:h'.obj (h.next+1)=some (.arr 6 [[qK 3,qK 0,qK 0,qK 0,.sc (.string ⟨#[]⟩),p]]))(tl:Tl h' (h.next+2) 6 p (Sx.rows L)):H8 h L h':=by
 obtain⟨H,t1,t2,t3,t4,t5⟩:=tl.tail;have hk:=t5 h ⟨g.le,g.B1⟩ (by omega);refine⟨g,p,H,hn,o1,o2,tl,t1,t2,t3,t4,⟨hk.1,hk.2⟩,?_,?_⟩
 ·rcases tl with⟨_,rfl|rfl⟩|⟨_,_,_,rfl,_⟩<;>rfl
 ·rcases tl with⟨_,rfl|rfl⟩|⟨_,_,_,rfl,_⟩<;>rfl
theorem Tl.low{a b z:Nat}{p:PV}{rows:List (List PV)}(t:Tl h a z p rows)(hab:b<=a):Tl h b z p rows:=by
 rcases t with ht|⟨id,h1,h2⟩
 ·exact .inl ht
 ·exact .inr ⟨id,by omega,h2⟩
theorem H8.push{h' H:A0}{L:List Sx}{X:Sx}{m:Nat}(hn:h.next+1<h'.next)(o1:h'.obj h.next=some (.arr 6 [[qK 0,qK 0,qK 0,qK 0,.sc (.string ⟨#[]⟩),.sc (.slice none 0 0)]]))(t3:H.next=h'.next)(t4: ∀ j,j<h.next+2->H.obj j=h'.obj j)(g:AH h H)(hm:m=L.length+1):
  H8 h (L++[X]) ((H.new (.arr 6 (Sx.rows L++[X.cells]))).set (h.next+1) (.arr 6 [[qK 3,qK 0,qK 0,qK 0,.sc (.string ⟨#[]⟩),.own h'.next 0 m]])):=by
 have e1:Sx.rows (L++[X])=Sx.rows L++[X.cells]:=by simp[Sx.rows_map]
 have n1:¬ h.next=h.next+1:=by omega
 have n2:¬ h.next=H.next:=by omega
 refine H8.Ii (p:= .own h'.next 0 m) ((g.new _).set (by omega) _) (by simp only[A0.set,A0.new];omega) ?_ ?_ ?_;rotate_left
 ·simp only[A0.set,AO]
 ·rw [e1, ← t3];have:Tl (H.new (.arr 6 (Sx.rows L++[X.cells]))) (h.next+2) 6 (.own H.next 0 m) (Sx.rows L++[X.cells]):=Tl.grow (by omega) (by rw[hm];simp[Sx.B3]);exact this.up (AG _) (λj hj _=>by simp only[A0.set];rw[A7 (by omega)])
 ·simp only[A0.set,A0.new,n1,n2,AP];rw[t4 _ (by omega)];exact o1
theorem lE{P:Program}{ow:Nat->Bool}{wf:FuncId->Bool}{n:Nat}{Q:BU}{s:AE}{h0:A0}{c:Code}(I:A0->Prop)(hi:I h0)(hh: ∀ h',I h'->Ar P ow wf n c Q s h'):Ar P ow wf n c Q s h0:=hh _ hi
theorem Wt: ∀ f:Fm,f.small->DI f=true-> ∀ h:A0,A6 prog 162 [.agg f.cells] h λr h'=>r= .agg (Ao f).cells/\h'=h:=by
 refine Fm.ind ?_;intro op name args params exprs kids ih hsm hsh h;simp only[Fm.small]at hsm;obtain⟨hal,hpl,hes,hkl,hks⟩:=hsm;rw[Ex.Es]at hes;rw[Fm.Es]at hks;simp only[DI,AV]at hsh;obtain⟨⟨hpo,hse⟩,hsk⟩:=hsh;rw[Mr]at hsk;rw[List.all_eq_true]at hse;have hlK:=Fm.B3 kids;unfold Ao;refine A6.CD Ty.Lu ?_;cases k1:(op.data.toList==(#[97,116,111,109]:Array UInt8).toList)with
 |true=>
  rw[AK (show A2 op Bz=true from k1)];have hw: ∀ h:A0,A6 prog 174 [A3 name,.A1 1 (AL args)] h λr h'=>r= .agg (Cu name args).cells/\h'=h:=λh=>Rr hal;have hfz:=λ(n:Nat)(h:A0)=>FZ n h (Cu name args);simp only[Fm.cells];generalize Cu name args=X at hw hfz⊢;obtain⟨ki,va,li,co,te,ks⟩:=X;simp only[Sx.cells]at hw hfz⊢;refine AD func162 ntmps162 results162 Ty.Lu ?_;refine wt k1 ?_;refine uU k1 (hw _) ?_;refine wt A4 ?_;refine⟨?_,((AH.refl h).new _).set (AG _) _⟩;simp only[AI];exact⟨_,rfl,hfz _ _⟩
 |false=>
  cases k2:(op.data.toList==(#[115,97,109,101]:Array UInt8).toList)with
  |true=>
   rw[A7 (by rw[(show A2 op Bz=false from k1)];simp)];rw[AK (show A2 op CI=true from k2)];have hw: ∀ h:A0,A6 prog 174 [A3 ⟨#[61]⟩,.A1 1 (AL args)] h λr h'=>r= .agg (Cu Cb args).cells/\h'=h:=λh=>Rr hal;have hfz:=λ(n:Nat)(h:A0)=>FZ n h (Cu Cb args);simp only[Fm.cells];generalize Cu Cb args=X at hw hfz⊢;obtain⟨ki,va,li,co,te,ks⟩:=X;simp only[Sx.cells]at hw hfz⊢;refine AD func162 ntmps162 results162 Ty.Lu ?_;refine wt (uu k1 k2) ?_;refine uU (uu k1 k2) (hw _) ?_;refine wt A4 ?_;refine⟨?_,((AH.refl h).new _).set (AG _) _⟩;simp only[AI];exact⟨_,rfl,hfz _ _⟩
  |false=>
   rw[A7 (by rw[(show A2 op Bz=false from k1)];simp),A7 (by rw[(show A2 op CI=false from k2)];simp)];cases k3:(op.data.toList==(#[60]:Array UInt8).toList)with
   |true=>
    rw[AK (by simp[Fa,(show A2 op Bz=false from k1),(show A2 op CI=false from k2),(show A2 op DH=true from k3)])];have hx2:exprs.length=2:=(by have q:=hpo;simp[Fb,EC,(show A2 op Bz=false from k1),(show A2 op CI=false from k2),(show A2 op DH=true from k3)]at q;omega);obtain⟨a,b,rfl⟩: ∃ a b,exprs=[a,b]:=by
     match exprs,hx2 with
     |[a,b],_=>exact⟨a,b,rfl⟩
    have ca:=Kv a (hes a (by simp)) (hse a (by simp));have cb:=Kv b (hes b (by simp)) (hse b (by simp));have hw:=λh:A0=>Kt (h:=h) (s:=op);simp only[List.map_cons,List.map_nil];have hfz:=λ(n:Nat)(h:A0)=>FZ n h (AC [A5 op,BG a,BG b]);have hl:=λh:A0=>Ku (h:=h) (p:= .A1 6 (Sx.rows [A5 op,BG a,BG b])) rfl (λ_=>K5 (HL _ _));generalize BG a=xa at ca hfz hl⊢;generalize BG b=xb at cb hfz hl⊢;clear ih hks hpo hse hsk hes;obtain⟨F5,aname,an,aargs,akids⟩:=a;obtain⟨bop,bname,bn,bargs,bkids⟩:=b;obtain⟨ki,va,li,co,te,ks⟩:=xa;obtain⟨ki2,va2,li2,co2,te2,ks2⟩:=xb;simp only[Fm.cells,Ex.cells,Ex.rows,AC,Sx.cells,Sx.rows,A5]at ca cb hw hfz hl⊢;refine AD func162 ntmps162 results162 Ty.Lu ?_;refine wy (AU k1 k2 k3) ?_;(first|refine uV A4 (hw _) ?_|refine uA A4 (hw _) ?_);refine wy A4 ?_;(first|refine uV A4 (ca _) ?_|refine uA A4 (ca _) ?_);refine wy A4 ?_;(first|refine uV A4 (cb _) ?_|refine uA A4 (cb _) ?_);refine wy A4 ?_;(first|refine uV A4 (hl _) ?_|refine uA A4 (hl _) ?_);refine wy A4 ?_;refine⟨?_,((AH.refl h).new _).set (AG _) _⟩;simp only[AI];exact⟨_,rfl,hfz _ _⟩
   |false=>
    cases k4:(op.data.toList==(#[60,61]:Array UInt8).toList)with
    |true=>
     rw[AK (by simp[Fa,(show A2 op Bz=false from k1),(show A2 op CI=false from k2),(show A2 op DH=false from k3),(show A2 op De=true from k4)])];have hx2:exprs.length=2:=(by have q:=hpo;simp[Fb,EC,(show A2 op Bz=false from k1),(show A2 op CI=false from k2),(show A2 op DH=false from k3),(show A2 op De=true from k4)]at q;omega);obtain⟨a,b,rfl⟩: ∃ a b,exprs=[a,b]:=by
      match exprs,hx2 with
      |[a,b],_=>exact⟨a,b,rfl⟩
     have ca:=Kv a (hes a (by simp)) (hse a (by simp));have cb:=Kv b (hes b (by simp)) (hse b (by simp));have hw:=λh:A0=>Kt (h:=h) (s:=op);simp only[List.map_cons,List.map_nil];have hfz:=λ(n:Nat)(h:A0)=>FZ n h (AC [A5 op,BG a,BG b]);have hl:=λh:A0=>Ku (h:=h) (p:= .A1 6 (Sx.rows [A5 op,BG a,BG b])) rfl (λ_=>K5 (HL _ _));generalize BG a=xa at ca hfz hl⊢;generalize BG b=xb at cb hfz hl⊢;clear ih hks hpo hse hsk hes;obtain⟨F5,aname,an,aargs,akids⟩:=a;obtain⟨bop,bname,bn,bargs,bkids⟩:=b;obtain⟨ki,va,li,co,te,ks⟩:=xa;obtain⟨ki2,va2,li2,co2,te2,ks2⟩:=xb;simp only[Fm.cells,Ex.cells,Ex.rows,AC,Sx.cells,Sx.rows,A5]at ca cb hw hfz hl⊢;refine AD func162 ntmps162 results162 Ty.Lu ?_;replace zz:=AW k1 k2 k3 k4;refine wy zz ?_;(first|refine uV A4 (hw _) ?_|refine uA A4 (hw _) ?_);refine wy A4 ?_;(first|refine uV A4 (ca _) ?_|refine uA A4 (ca _) ?_);refine wy A4 ?_;(first|refine uV A4 (cb _) ?_|refine uA A4 (cb _) ?_);refine wy A4 ?_;(first|refine uV A4 (hl _) ?_|refine uA A4 (hl _) ?_);refine wy A4 ?_;refine⟨?_,((AH.refl h).new _).set (AG _) _⟩;simp only[AI];exact⟨_,rfl,hfz _ _⟩
    |false=>
     cases k5:(op.data.toList==(#[61]:Array UInt8).toList)with
     |true=>
      rw[AK (by simp[Fa,(show A2 op Bz=false from k1),(show A2 op CI=false from k2),(show A2 op DH=false from k3),(show A2 op De=false from k4),(show A2 op Cb=true from k5)])];have hx2:exprs.length=2:=(by have q:=hpo;simp[Fb,EC,(show A2 op Bz=false from k1),(show A2 op CI=false from k2),(show A2 op DH=false from k3),(show A2 op De=false from k4),(show A2 op Cb=true from k5)]at q;omega);obtain⟨a,b,rfl⟩: ∃ a b,exprs=[a,b]:=by
       match exprs,hx2 with
       |[a,b],_=>exact⟨a,b,rfl⟩
      have ca:=Kv a (hes a (by simp)) (hse a (by simp));have cb:=Kv b (hes b (by simp)) (hse b (by simp));have hw:=λh:A0=>Kt (h:=h) (s:=op);simp only[List.map_cons,List.map_nil];have hfz:=λ(n:Nat)(h:A0)=>FZ n h (AC [A5 op,BG a,BG b]);have hl:=λh:A0=>Ku (h:=h) (p:= .A1 6 (Sx.rows [A5 op,BG a,BG b])) rfl (λ_=>K5 (HL _ _));generalize BG a=xa at ca hfz hl⊢;generalize BG b=xb at cb hfz hl⊢;clear ih hks hpo hse hsk hes;obtain⟨F5,aname,an,aargs,akids⟩:=a;obtain⟨bop,bname,bn,bargs,bkids⟩:=b;obtain⟨ki,va,li,co,te,ks⟩:=xa;obtain⟨ki2,va2,li2,co2,te2,ks2⟩:=xb;simp only[Fm.cells,Ex.cells,Ex.rows,AC,Sx.cells,Sx.rows,A5]at ca cb hw hfz hl⊢;refine AD func162 ntmps162 results162 Ty.Lu ?_;replace zz:=Ae k1 k2 k3 k4 k5;refine wy zz ?_;(first|refine uV A4 (hw _) ?_|refine uA A4 (hw _) ?_);refine wy A4 ?_;(first|refine uV A4 (ca _) ?_|refine uA A4 (ca _) ?_);refine wy A4 ?_;(first|refine uV A4 (cb _) ?_|refine uA A4 (cb _) ?_);refine wy A4 ?_;(first|refine uV A4 (hl _) ?_|refine uA A4 (hl _) ?_);refine wy A4 ?_;refine⟨?_,((AH.refl h).new _).set (AG _) _⟩;simp only[AI];exact⟨_,rfl,hfz _ _⟩
     |false=>
      rw[A7 (by simp[Fa,(show A2 op DH=false from k3),(show A2 op De=false from k4),(show A2 op Cb=false from k5)])];clear hse hes hpo;simp only[Fm.cells];refine AD func162 ntmps162 results162 Ty.Lu ?_;replace zz:=Ae k1 k2 k3 k4 k5;refine wt zz ?_;refine uU k1 (Ku (p:= .sc (.slice none 0 0)) rfl (λ_=>by simp only[AI])) ?_;refine xH 11 k1 ?_;refine⟨?_⟩;refine lE (H8 h []) ?_ (λH0 hI=>?_)
      ·refine H8.Ii (p:= .sc (.slice none 0 0)) ((((AH.refl h).new _).new _).set (by omega) _) (by simp[A0.new,A0.set]) (by simp[A0.new,A0.set]) (by simp[A0.new,A0.set]) Tl.nil
      refine D0 (λS h'=>S 1= .Aj (Fm.mk op name args params exprs kids).cells/\S 2= .ptr h.next 0 0/\S 3= .ptr (h.next+1) 0 0/\H8 h (if(A2 op Bl&&kids.isEmpty)=true then[]else[A5 op]) h') ?_ ?_
      ·have n6:A2 op Bl=(op.data.toList==(#[97,110,100]:Array UInt8).toList):=rfl;cases k6:(op.data.toList==(#[97,110,100]:Array UInt8).toList)with
       |false=>
        rw[A7 (by rw[n6,k6];simp)];obtain⟨hg,p,H,hn,o1,o2,tl,t1,t2,t3,t4,hgH,hpc,hp1⟩:=hI;have hw: ∀ (s:ByteArray)(h:A0),A6 prog 136 [A3 s] h λr h'=>r= .agg (A5 s).cells/\h'=h:=λs h=>Kt;simp only[A5,Sx.cells,Sx.rows]at hw;have o2H:H.obj (h.next+1)=_:=(t4 _ (by omega)).trans o2;have n2:(h.next+1=H.next)=False:=(by simp;omega);have hpr:(Sx.rows ([]:List Sx)).length=0:=rfl;have hpush:=λX:Sx=>H8.push (L:=[]) (X:=X) (m:=1) hn o1 t3 t4 hgH rfl;generalize Sx.rows []=R at t1 hpr hpush;replace zz:=B6 k6 yF o2 o2H n2 t1 t2 hpr hpc hp1;refine wy zz ?_;replace zz:=AW k6 yF o2 o2H;(first|refine uV zz (hw op _) ?_|refine uA zz (hw op _) ?_);replace zz:=B6 k6 yF o2 o2H n2 t1 t2 hpr hpc hp1;repeat'(first|refine cK ?_|refine nK ?_|refine uB zz ?_|(rw[AK];rotate_left 1;omega;simp only[Ty.w,simprocAttr,k6,CB,o2,o2H,n2,t1,t2,hpr,hpc,hp1])|apply zI)
        (simp only[Ty.w,simprocAttr,Ty.AX,Fm.cells])
        exact hpush (A5 op)
       |true=>
        cases q6:decide ((kids.length:Int)>0)with
        |false=>
         have hk0:kids.isEmpty=true:=(by cases kids with|nil=>rfl|cons a l=>simp at q6);rw[AK (by rw[n6,k6,hk0];try rfl)];replace zz:=AW k6 q6 hlK yT;refine wt zz ?_
         (simp only[Ty.w,simprocAttr,Ty.AX,Fm.cells])
         exact hI
        |true=>
         have hk0:kids.isEmpty=false:=(by cases kids with|nil=>simp at q6|cons a l=>rfl);rw[A7 (by rw[hk0];simp)];obtain⟨hg,p,H,hn,o1,o2,tl,t1,t2,t3,t4,hgH,hpc,hp1⟩:=hI;have hw: ∀ (s:ByteArray)(h:A0),A6 prog 136 [A3 s] h λr h'=>r= .agg (A5 s).cells/\h'=h:=λs h=>Kt;simp only[A5,Sx.cells,Sx.rows]at hw;have o2H:H.obj (h.next+1)=_:=(t4 _ (by omega)).trans o2;have n2:(h.next+1=H.next)=False:=(by simp;omega);have hpr:(Sx.rows ([]:List Sx)).length=0:=rfl;have hpush:=λX:Sx=>H8.push (L:=[]) (X:=X) (m:=1) hn o1 t3 t4 hgH rfl;generalize Sx.rows []=R at t1 hpr hpush;replace zz:=AY k6 q6 hlK yT o2 o2H n2 t1 t2 hpr hpc hp1;refine wy zz ?_;replace zz:=Ah k6 q6 hlK yT o2 o2H;(first|refine uV zz (hw op _) ?_|refine uA zz (hw op _) ?_);replace zz:=AY k6 q6 hlK yT o2 o2H n2 t1 t2 hpr hpc hp1;repeat'(first|refine cK ?_|refine nK ?_|refine uB zz ?_|(rw[AK];rotate_left 1;omega;simp only[Ty.w,simprocAttr,k6,q6,hlK,Ax,o2,o2H,n2,t1,t2,hpr,hpc,hp1])|apply zI)
         (simp only[Ty.w,simprocAttr,Ty.AX,Fm.cells])
         exact hpush (A5 op)
      ·clear hI;obtain⟨L0,hL0,hl0⟩: ∃ L0:List Sx,(if(A2 op Bl&&kids.isEmpty)=true then[]else[A5 op])=L0/\L0.length<=1:=⟨_,rfl,by split<;>simp⟩;rw[hL0];rintro S h' ⟨g1,g2,g3,hI⟩;simp only[Fm.cells]at g1;refine xH 13 (AU g1 g2 g3) ?_;refine⟨?_⟩;refine D0 (λS h'=>S 1= .Aj (Fm.mk op name args params exprs kids).cells/\S 2= .ptr h.next 0 0/\S 3= .ptr (h.next+1) 0 0/\H8 h (L0++(if EO op=true then[AC (Aa params)]else[])) h') ?_ ?_
       ·have n7:A2 op DY=(op.data.toList==(#[102,111,114,97,108,108]:Array UInt8).toList):=rfl;have n8:A2 op HN=(op.data.toList==(#[101,120,105,115,116,115]:Array UInt8).toList):=rfl;cases k7:(op.data.toList==(#[102,111,114,97,108,108]:Array UInt8).toList)with
        |true=>
         rw[AK (by simp[EO,n7,n8,k7])];obtain⟨hg,p,H,hn,o1,o2,tl,t1,t2,t3,t4,hgH,hpc,hp1⟩:=hI;have hwp:=Ry (l:=params) hpl;have hli: ∀ h:A0,A6 prog 175 [.A1 6 (Sx.rows (Aa params))] h λr h'=>r= .agg (AC (Aa params)).cells/\h'=h:=λh=>Ku rfl (λ_=>K5 (HL _ _));generalize hX:AC (Aa params)=X at hli⊢;clear hX;generalize Sx.rows (Aa params)=PR at hwp hli;have o2H:H.obj (h.next+1)=_:=(t4 _ (by omega)).trans o2;have n2:(h.next+1=H.next)=False:=(by simp;omega);have hpr:=Sx.B3 L0;have hpush:=H8.push (L:=L0) (X:=X) (m:=L0.length+1) hn o1 t3 t4 hgH rfl;generalize Sx.rows L0=R at t1 hpr hpush;have hb:(L0.length+1)*72<=140737488355328:=(by omega);obtain⟨ki,va,li,co,te,ks⟩:=X;simp only[Sx.cells]at hli hpush;replace zz:=AY g1 g2 g3 k7 o2 o2H n2 t1 t2 hpr hpc (uu hp1 hb);refine wy zz ?_;replace zz:=Ah g1 g2 g3 k7 o2 o2H;(first|refine uV zz (hwp _) ?_|refine uA zz (hwp _) ?_);replace zz:=AY g1 g2 g3 k7 o2 o2H n2 t1 t2 hpr hpc (uu hp1 hb);refine wy zz ?_;replace zz:=Ah g1 g2 g3 k7 o2 o2H;(first|refine uV zz (hli _) ?_|refine uA zz (hli _) ?_);replace zz:=AY g1 g2 g3 k7 o2 o2H n2 t1 t2 hpr hpc (uu hp1 hb);repeat'(first|refine cK ?_|refine nK ?_|refine uB zz ?_|(rw[AK];rotate_left 1;omega;simp only[Ty.w,simprocAttr,g1,g2,g3,k7,o2,o2H,n2,t1,t2,hpr,hpc,hp1,hb])|apply zI)
         (simp only[Ty.w,simprocAttr,Ty.AX,g1,g2,g3,Fm.cells])
         exact hpush
        |false=>
         cases k8:(op.data.toList==(#[101,120,105,115,116,115]:Array UInt8).toList)with
         |true=>
          rw[AK (by simp[EO,n7,n8,k8])];obtain⟨hg,p,H,hn,o1,o2,tl,t1,t2,t3,t4,hgH,hpc,hp1⟩:=hI;have hwp:=Ry (l:=params) hpl;have hli: ∀ h:A0,A6 prog 175 [.A1 6 (Sx.rows (Aa params))] h λr h'=>r= .agg (AC (Aa params)).cells/\h'=h:=λh=>Ku rfl (λ_=>K5 (HL _ _));generalize hX:AC (Aa params)=X at hli⊢;clear hX;generalize Sx.rows (Aa params)=PR at hwp hli;have o2H:H.obj (h.next+1)=_:=(t4 _ (by omega)).trans o2;have n2:(h.next+1=H.next)=False:=(by simp;omega);have hpr:=Sx.B3 L0;have hpush:=H8.push (L:=L0) (X:=X) (m:=L0.length+1) hn o1 t3 t4 hgH rfl;generalize Sx.rows L0=R at t1 hpr hpush;have hb:(L0.length+1)*72<=140737488355328:=(by omega);obtain⟨ki,va,li,co,te,ks⟩:=X;simp only[Sx.cells]at hli hpush;replace zz:=AY g1 g2 g3 k7 k8 o2 o2H n2 t1 t2 hpr (AU hpc hp1 hb);refine wy zz ?_;replace zz:=Ad g1 g2 g3 k7 k8 o2 o2H;(first|refine uV zz (hwp _) ?_|refine uA zz (hwp _) ?_);replace zz:=AY g1 g2 g3 k7 k8 o2 o2H n2 t1 t2 hpr (AU hpc hp1 hb);refine wy zz ?_;replace zz:=Ad g1 g2 g3 k7 k8 o2 o2H;(first|refine uV zz (hli _) ?_|refine uA zz (hli _) ?_);replace zz:=AY g1 g2 g3 k7 k8 o2 o2H n2 t1 t2 hpr (AU hpc hp1 hb);repeat'(first|refine cK ?_|refine nK ?_|refine uB zz ?_|(rw[AK];rotate_left 1;omega;simp only[Ty.w,simprocAttr,g1,g2,g3,k7,k8,o2,o2H,n2,t1,t2,hpr,hpc,hp1,hb])|apply zI)
          (simp only[Ty.w,simprocAttr,Ty.AX,g1,g2,g3,Fm.cells])
          exact hpush
         |false=>
          rw[A7 (by simp[EO,n7,n8,k7,k8]),List.append_nil];replace zz:=Ae g1 g2 g3 k7 k8;refine wt zz ?_
          (simp only[Ty.w,simprocAttr,Ty.AX,g1,g2,g3,Fm.cells])
          exact hI
       ·clear hI g1 g2 g3;obtain⟨L1,hL1,hl1⟩: ∃ L1:List Sx,L0++(if EO op=true then[AC (Aa params)]else[])=L1/\L1.length<=2:=⟨_,rfl,by split<;>simp<;>omega⟩;rw[hL1];rw[Ms];clear hL1 hL0 hl0;rintro S h' ⟨g1,g2,g3,hI⟩;simp only[Fm.cells]at g1;have hrl: ∀ k,(L1++(kids.take k).map Ao).length<=1048578:=λk=>(by simp;omega);replace zz:=AW g1 g2 g3 hlK;refine wt zz ?_;refine By (λc S h'=>S 2= .ptr h.next 0 0/\S 3= .ptr (h.next+1) 0 0/\S 75= .A1 6 (Fm.rows kids)/\S 76= qK kids.length/\ ∃ k:Nat,S 77= qK k/\k<=kids.length/\c=kids.length-k/\H8 h (L1++(kids.take k).map Ao) h') kids.length ?_ ?_
        ·simp only[Ty.w,simprocAttr,g2,g3];refine⟨0,rfl,by omega,rfl,?_⟩;simpa using hI
        ·clear hI g1 g2 g3;rintro c S h' ⟨g2,g3,g75,g76,k,g77,hk,rfl,hI⟩;by_cases hlt:k<kids.length
         ·have hdk:decide ((k:Int)<(kids.length:Int))=true:=(by simp;omega);have w7:IntKind.i64.wrap ((k:Int)+1)=k+1:=(by rw[BM (by omega) (by omega)]);obtain⟨x,hx⟩: ∃ x,kids[k]? =some x:=⟨_,List.getElem?_eq_getElem hlt⟩;have hmem:=List.mem_of_getElem? hx;have hr:=Fm.CG hx;have hcx:=ih x hmem (hks x hmem) (hsk x hmem);have hL:L1++(kids.take (k+1)).map Ao=L1++(kids.take k).map Ao++[Ao x]:=(by rw[List.take_add_one,hx];simp);have hrk:=hrl k;generalize L1++(kids.take k).map Ao=L2 at hI hrk hL;obtain⟨hg,p,H,hn,o1,o2,tl,t1,t2,t3,t4,hgH,hpc,hp1⟩:=hI;generalize Ao x=X at hcx hL;obtain⟨xo,xn,xa,xp,xe,xk⟩:=x;obtain⟨ki,va,li,co,te,ks⟩:=X;simp only[Fm.cells,Sx.cells]at hr hcx;(try clear zz);clear t1 t2 t3 t4 hgH H;have hG2:AH h ((h'.new (.arr 6 [[.sc (.string ⟨#[]⟩),.sc (.string ⟨#[]⟩),.sc (.slice none 0 0),.sc (.slice none 0 0),.sc (.slice none 0 0),.sc (.slice none 0 0)]])).set h'.next (.arr 6 [[A3 xo,A3 xn,.A1 1 (AL xa),.A1 2 (A8 xp),.A1 5 (Ex.rows xe),.A1 6 (Fm.rows xk)]])):=(hg.new _).set hg.le _;have m1:¬ h.next=h'.next:=by omega
          have m2:¬ h.next+1=h'.next:=by omega
          have m2':(h.next+1=h'.next)=False:=BB m2;have tl2:=tl.up (h':=((h'.new (.arr 6 [[.sc (.string ⟨#[]⟩),.sc (.string ⟨#[]⟩),.sc (.slice none 0 0),.sc (.slice none 0 0),.sc (.slice none 0 0),.sc (.slice none 0 0)]])).set h'.next (.arr 6 [[A3 xo,A3 xn,.A1 1 (AL xa),.A1 2 (A8 xp),.A1 5 (Ex.rows xe),.A1 6 (Fm.rows xk)]]))) (by simp[A0.set,A0.new]) λj _ hj=>(by simp only[A0.set,A0.new];rw[A7 (by omega),A7 (by omega)]);obtain⟨H,t1,t2,t3,t4,t5⟩:=tl2.tail;have hgH:=t5 h ⟨hG2.le,hG2.B1⟩ (by omega);have o1x:((h'.new (.arr 6 [[.sc (.string ⟨#[]⟩),.sc (.string ⟨#[]⟩),.sc (.slice none 0 0),.sc (.slice none 0 0),.sc (.slice none 0 0),.sc (.slice none 0 0)]])).set h'.next (.arr 6 [[A3 xo,A3 xn,.A1 1 (AL xa),.A1 2 (A8 xp),.A1 5 (Ex.rows xe),.A1 6 (Fm.rows xk)]])).obj h.next=some (.arr 6 [[qK 0,qK 0,qK 0,qK 0,.sc (.string ⟨#[]⟩),.sc (.slice none 0 0)]]):=by simp only[A0.set,A0.new,m1,AP];exact o1
          have o2H:H.obj (h.next+1)=_:=(t4 _ (by omega)).trans (show((h'.new (.arr 6 [[.sc (.string ⟨#[]⟩),.sc (.string ⟨#[]⟩),.sc (.slice none 0 0),.sc (.slice none 0 0),.sc (.slice none 0 0),.sc (.slice none 0 0)]])).set h'.next (.arr 6 [[A3 xo,A3 xn,.A1 1 (AL xa),.A1 2 (A8 xp),.A1 5 (Ex.rows xe),.A1 6 (Fm.rows xk)]])).obj (h.next+1)=_ by simp only[A0.set,A0.new,m2,AP];exact o2);have t3':H.next=h'.next+1:=by rw[t3];simp[A0.new,A0.set]
          have n2:(h.next+1=H.next)=False:=(by simp;omega);have hpr:=Sx.B3 L2;have hpush:=H8.push (h':=((h'.new (.arr 6 [[.sc (.string ⟨#[]⟩),.sc (.string ⟨#[]⟩),.sc (.slice none 0 0),.sc (.slice none 0 0),.sc (.slice none 0 0),.sc (.slice none 0 0)]])).set h'.next (.arr 6 [[A3 xo,A3 xn,.A1 1 (AL xa),.A1 2 (A8 xp),.A1 5 (Ex.rows xe),.A1 6 (Fm.rows xk)]]))) (L:=L2) (X:= .mk ki va li co te ks) (m:=L2.length+1) (by simp only[A0.set,A0.new];omega) o1x t3 t4 ⟨hgH.1,hgH.2⟩ rfl;have hb:(L2.length+1)*72<=140737488355328:=(by omega);simp only[Sx.cells]at hpush;clear tl tl2 t5;generalize Sx.rows L2=R at t1 hpr hpush;replace zz:=AY g2 g3 g75 g76 g77 hdk hr m2' o2 o2H n2 (Ah t1 t2 hpr hpc hp1 hb);refine wy zz ?_;replace zz:=BJ g2 g3 g75 g76 g77 m2' o2 o2H;(first|refine uV zz (hcx _) ?_|refine uA zz (hcx _) ?_);replace zz:=AY g2 g3 g75 g76 g77 w7 m2' o2 o2H n2 t1 (Ae t2 hpr hpc hp1 hb);(repeat'(first|refine cK ?_|refine nK ?_|refine uR zz ?_|(refine uN hK ?_;clear hK)|refine uB zz ?_|(rw[AK];rotate_left 1;omega;simp only[Ty.w,simprocAttr,g2,g3,g75,g76,g77,w7,m2',o2,o2H,n2,t1,t2,hpr,hpc,hp1,hb])|apply zI));exact⟨kids.length-(k+1),by omega,k+1,by simp,by omega,rfl,by rw[hL];exact hpush⟩
         ·have hdk:decide ((k:Int)<(kids.length:Int))=false:=(by simp;omega);have hke:k=kids.length:=(by omega);subst hke;rw[List.take_length]at hI;obtain⟨hg,p,H,hn,o1,o2,tl,t1,t2,t3,t4,hgH,hpc,hp1⟩:=hI;replace zz:=BF g2 g3 g75 g76 g77 hdk o1 o2 hpc;(repeat'(first|refine cK ?_|refine nK ?_|refine Ai λK hK=>?_|refine uR zz ?_|refine uT zz ?_|refine uX ?_|refine C3 zz ?_|(refine uN hK ?_;clear hK)|(clear hK;refine uN hK ?_;clear hK)|(rw[AK];rotate_left 1;omega;simp only[Ty.w,simprocAttr,g2,g3,g75,g76,g77,hdk,o1,o2,hpc])|apply zI));refine⟨?_,hg.set (AG _) _⟩;have tl2:Tl (h'.set h.next (.arr 6 [[qK 3,qK 0,qK 0,qK 0,.sc (.string ⟨#[]⟩),p]])) (h.next+2) 6 p (Sx.rows (L1++kids.map Ao)):=tl.up (AG _) λj hj _=>(by simp only[A0.set];rw[A7 (by omega)]);simp only[AC,Sx.cells,AI,AN];exact⟨_,rfl,rfl,rfl,rfl,rfl,rfl,by have:=Rx (Tl.low tl2 (show h.next<=h.next+2 by omega));simpa only[AI]using this,trivial⟩
theorem L8: ∀ l:List Pm,(∀ p∈l,p.ok)->Sx.DK (Aa l)
 |[],_=>by simp[Aa,Sx.DK]
 |p::l,h=>by
  have hp:=h p (by simp);simp only[Aa,Sx.DK];exact⟨DB hp.1,DB (by simp[AF,ByteArray.size]),DB hp.2,L8 l λq hq=>h q (by simp[hq])⟩
theorem lF{op name:ByteArray}{args:List ByteArray}{params:List Pm}{ne nk:Nat}(h1:¬ A2 op Bz=true)(h2:¬ A2 op CI=true)(h3:Fa op=true)(hp:Fb op name args params ne nk=true):ne=2:=by
 unfold Fb EC at hp;rw[A7 h1,A7 h2]at hp;simp only[Fa,EH]at h3;by_cases k1:A2 op DH=true
 ·simp [k1]at hp;omega
 by_cases k2:A2 op De=true
 ·simp [k1,k2]at hp;omega
 have k3:A2 op Cb=true:=by rcases h3 with(h3|h3)|h3<;>simp_all
 simp[k1,k2,k3]at hp;omega
theorem Wu: ∀ f:Fm,f.ok->f.small->DI f=true->(Ao f).ok:=by
 refine Fm.ind ?_;intro op name args params exprs kids ih hok hsm hsh;simp only[Fm.ok]at hok;simp only[Fm.small]at hsm;simp only[DI,AV]at hsh;obtain⟨⟨hpo,_⟩,hsh⟩:=hsh;rw[Mr]at hsh;obtain⟨hop,hname,hargs,⟨_,hps⟩,⟨_,hes⟩,_,hks⟩:=hok;obtain⟨hal,hpl,hse,hkl,hsk⟩:=hsm;rw[Fm.Bs]at hks;rw[Ex.Bs]at hes;have hse:=Ex.Es.1 hse;have hsk:=Fm.Es.1 hsk;unfold Ao;split
 ·exact Q0 hname hal hargs.2
 split
 ·exact Q0 (by simp[Cb,AF,ByteArray.size]) hal hargs.2
 split
 ·rename_i c1 c2 c3;have h2:=lF c1 c2 c3 hpo;refine GK (by simp only[List.length_cons,List.length_map];unfold AF;omega) (Sx.Bs.2 ?_);intro k hk;simp only[List.mem_cons,List.mem_map]at hk;rcases hk with rfl|⟨e,he,rfl⟩
  ·exact DB hop
  ·exact Rv e (hes e he) (hse e he)
 ·rw [Ms];refine GK ?_ (Sx.Bs.2 ?_)
  ·simp only[List.length_append,List.length_map];have a1:(if(A2 op Bl&&kids.isEmpty)=true then[]else[A5 op]).length<=1:=(by split<;>simp);have a2:(if EO op=true then[AC (Aa params)]else[]).length<=1:=(by split<;>simp);unfold AF;omega
  ·intro k hk;simp only[List.mem_append,List.mem_map]at hk;rcases hk with(hk|hk)|⟨e,he,rfl⟩
   ·split at hk
    ·simp at hk
    ·simp only[List.mem_singleton]at hk;subst hk;exact DB hop
   ·split at hk
    ·simp only[List.mem_singleton]at hk;subst hk;exact GK (by rw[H5];unfold AF;omega) (L8 _ hps)
    ·simp at hk
   ·exact ih e he (hks e he) (hsk e he) (hsh e he)
theorem Wv: ∀ (l:List Ex)(d n:Nat),(GW l d n).1=true-> ∀ e∈l,FJ e=true
 |[],_,_,_=>by simp
 |e::l,d,n,h=>by
  unfold GW at h;have h1:=O9 e d n;split at h
  ·rename_i c he;rw[he]at h1;intro x hx;rcases List.mem_cons.1 hx with rfl|hx
   ·exact h1 rfl
   ·exact Wv l d c h x hx
  ·simp at h
mutual
theorem OL: ∀ (f:Fm)(d n:Nat),(FK f d n).1=true->DI f=true
 | .mk op name args params exprs kids,d,n,h=>by
  unfold FK at h;split at h
  ·split at h
   ·rename_i hp;have h1:=Wv exprs (d+1) (n+1);split at h
    ·rename_i c he;rw[he]at h1;simp only[DI,AV,List.all_eq_true];exact⟨⟨hp,h1 rfl⟩,Ww kids (d+1) c h⟩
    ·simp at h
   ·simp at h
  ·simp at h
theorem Ww: ∀ (l:List Fm)(d n:Nat),(GM l d n).1=true->K6 l=true
 |[],_,_,_=>by simp[K6]
 |k::l,d,n,h=>by
  unfold GM at h;have h1:=OL k d n;split at h
  ·rename_i c he;rw[he]at h1;simp only[K6,AV];exact⟨h1 rfl,Ww l d c h⟩
  ·simp at h
end
theorem Wx{f:Fm}(hok:f.ok)(hsm:f.small)(h:A0):A6 prog 161 [.agg f.cells] h λr h'=>r= .sc (.bool (Bf f))/\h'=h:=by
 have hf:=lD f hok 0 0 (by omega) (by omega) h.next (h.new (.arr 1 [[qK 0]])) (by simp[A0.new,D5])
 have hsh:=OL f 0 0;have hx:=Wu f hok hsm;have hw0:=Wt f hsm;have hv:Bf f=((FK f 0 0).1&&(CJ (Ao f) 0 0).1):=rfl;rw[hv];refine A6.quiet Ty.Rk ?_;generalize FK f 0 0=V at hf hsh⊢;obtain⟨b,c⟩:=V;cases b with
 |false=>
  obtain⟨op,name,args,params,exprs,kids⟩:=f;simp only[Fm.cells,Qj]at hf⊢;refine uG (ow:=λt=>t==5) (wf:=λ_=>false) func161 ntmps161 results161 Ty.Rk ?_;refine wt A4 ?_;refine DM (hf) (sr A4) ?_;simp only[Ty.w,simprocAttr];refine wt A4 ?_;exact((AH.refl h).new _).set (AG _) _
 |true=>
  have hw:=hw0 (hsh rfl);have hvv:=JM (hx (hsh rfl))
  clear hw0;generalize Ao f=X at hw hvv⊢;obtain⟨op,name,args,params,exprs,kids⟩:=f;obtain⟨ki,va,li,co,te,ks⟩:=X;simp only[Fm.cells,Sx.cells,Qj]at hf hw hvv⊢;refine uG (ow:=λt=>t==5) (wf:=λ_=>false) func161 ntmps161 results161 Ty.Rk ?_;refine wt A4 ?_;refine DM (hf) (sr A4) ?_;simp only[Ty.w,simprocAttr];refine wt A4 ?_;refine uU A4 (hw _) ?_;refine wt A4 ?_;refine uU A4 (hvv _) ?_;refine wt A4 ?_;exact((AH.refl h).new _).set (AG _) _
theorem lG{f:Fm}(hok:f.ok)(hsm:f.small)(h:A0):A6 prog 141 [.agg f.cells] h λr h'=>r=(if Bf f then .Al [.agg (Ao f).cells,.sc .nilIface]else .Al [.agg Ho.cells,An 2])/\h'=h:=by
 have hv:=Wx hok hsm;refine A6.CD Ty.Rg ?_;cases hb:Bf f with
 |false=>
  rw[hb]at hv;obtain⟨op,name,args,params,exprs,kids⟩:=f;simp only[Fm.cells,BQ,AP]at hv⊢;refine AD func141 ntmps141 results141 Ty.Rg ?_;refine wt A4 ?_;refine uU yF (hv _) ?_;refine wt yF ?_;refine⟨?_,((AH.refl h).new _).set (AG _) _⟩;simp only[Ho,An,Sx.cells,Sx.rows,AI,AN];exact⟨_,rfl,⟨_,rfl,rfl,rfl,rfl,rfl,rfl,.inr (.inl ⟨rfl,.inr rfl⟩),trivial⟩,rfl,trivial⟩
 |true=>
  rw[hb]at hv;have hsh:=OL f 0 0 (by unfold Bf at hb;simp only[AV]at hb;exact hb.1);have hw:=Wt f hsm hsh;have hfz:=λ(n:Nat)(h:A0)=>FZ n h (Ao f);generalize Ao f=X at hw hfz⊢;obtain⟨op,name,args,params,exprs,kids⟩:=f;obtain⟨ki,va,li,co,te,ks⟩:=X;simp only[Fm.cells,Sx.cells,AO]at hv hw hfz⊢;refine AD func141 ntmps141 results141 Ty.Rg ?_;refine wt A4 ?_;refine uU yT (hv _) ?_;refine wt yT ?_;refine uU A4 (hw _) ?_;refine wt A4 ?_;refine⟨?_,((AH.refl h).new _).set (AG _) _⟩;simp only[AI,AN];exact⟨_,rfl,⟨_,rfl,hfz _ _⟩,rfl,trivial⟩
end Go.Proofs.YtblgchkahpgdjaaGreat
namespace Go.AM
end Go.AM
namespace Go.Proofs.YtblgchkahpgdjaaGreat
open Go.AM Go.Proofs.Tryz
set_option maxHeartbeats 4000000
set_option maxRecDepth 20000
def QH(o:Pm):Bool:=As o.name&&Gm o.type
end Go.Proofs.YtblgchkahpgdjaaGreat
namespace Go.AM
end Go.AM
namespace Go.Proofs.YtblgchkahpgdjaaGreat
open Go.AM Go.Proofs.Tryz
variable {x:Sx}
theorem J5{f:Fm}(h:Bf f=true):DI f=true:=by
 unfold Bf at h;simp only[AV]at h;exact OL f 0 0 h.1
theorem GZ:Cn.ok/\Cn.small:=by
 simp only[Cn,Fm.ok,Fm.DK,Ex.DK,Fm.small,Fm.Db,Ex.Db,List.length_nil];refine⟨⟨by simp[AF,ByteArray.size],by simp[AF,ByteArray.size],⟨by simp,by simp⟩,⟨by simp,by simp⟩,⟨by simp,trivial⟩,by simp,trivial⟩,by omega,by omega,trivial,by omega,trivial⟩
theorem OM(h:x.ok):(Af x).size<=AF:=by
 obtain⟨_,_,_,_,t,_⟩:=x;simp only[Sx.ok]at h;exact h.2.2.1
theorem Sg{t:ByteArray}{l:List ByteArray}(ht:t.size<=AF)(hl: ∀ s∈l,s.size<=AF): ∀ p∈Bw t l,p.ok:=by
 intro p hp;simp only[Bw,List.mem_map]at hp;obtain⟨s,hs,rfl⟩:=hp;exact⟨hl s hs,ht⟩
theorem Sh(t:ByteArray)(l:List ByteArray):(Bw t l).length=l.length:=by simp[Bw]
theorem Wy:Dr.size<=AF:=by simp[Dr,AF,ByteArray.size]
theorem Si(vars:Bool): ∀ (n:Nat)(l:List Sx),l.length<=n->(∀ x∈l,x.ok)-> ∀ (don:List Pm)(pen:List ByteArray),(∀ p∈don,p.ok)->(∀ s∈pen,s.size<=AF)->
  (∀ p∈(Ek vars l don pen).1,p.ok)/\(Ek vars l don pen).1.length<=don.length+pen.length+l.length:=by
 intro n
 induction n with
 |zero=>
  intro l hl _ don pen hd hp
  match l,hl with
  |[],_=>
   unfold Ek;simp only[List.mem_append,List.length_append,Sh,List.length_nil];exact⟨λp h=>h.elim (hd p) (Sg Wy hp p),by omega⟩
 |succ n ihn=>
  intro l hl hx don pen hd hp
  match l,hl,hx with
  |[],_,_=>
   unfold Ek;simp only[List.mem_append,List.length_append,Sh,List.length_nil];exact⟨λp h=>h.elim (hd p) (Sg Wy hp p),by omega⟩
  |x::l,hl,hx=>
   have hxo:=hx x (by simp);have hlo: ∀ y∈l,y.ok:=λy hy=>hx y (by simp[hy]);unfold Ek;cases Hq x with
   |false=>simp
   |true=>
    simp only[AB];cases A2 (Af x) GJ with
    |true=>
     simp only[AB];cases l with
     |nil=>simp
     |cons t l'=>
      simp only;cases(!pen.isEmpty&&Hq t)with
      |false=>simp
      |true=>
       cases Gm (Af t)with
       |false=>simp
       |true=>
        simp only[AB];have:=ihn l' (by simp at hl;omega) (λy hy=>hlo y (by simp[hy])) (don++Bw (Af t) pen) [] (λp h=>(List.mem_append.1 h).elim (hd p) (Sg (OM (hlo t (by simp))) hp p)) (by simp);refine⟨this.1,ER this.2 ?_⟩;simp only[List.length_append,Sh,List.length_nil,List.length_cons];omega
    |false=>
     simp only[AJ];cases(bif vars then F9 (Af x)else As (Af x))with
     |false=>simp
     |true=>
      simp only[AB];have:=ihn l (by simp at hl;omega) hlo don (pen++[Af x]) hd (λs h=>(List.mem_append.1 h).elim (hp s) (λh=>by simp at h;rw[h];exact OM hxo));refine⟨this.1,ER this.2 ?_⟩;simp only[List.length_append,List.length_nil,List.length_cons];omega
theorem KD{op name:ByteArray}{args:List ByteArray}{params:List Pm}{exprs:List Ex}{kids:List Fm}(h1:op.size<=AF)(h2:name.size<=AF)(h3:args.length<=1048576)(h4: ∀ s∈args,s.size<=AF)(h5:params.length<=1048576)(h6: ∀ p∈params,p.ok)
  (h7:exprs.length<=2)(h8: ∀ e∈exprs,e.ok/\e.small)(h9:kids.length<=1048576)(h10: ∀ k∈kids,k.ok/\k.small):(Fm.mk op name args params exprs kids).ok/\(Fm.mk op name args params exprs kids).small:=by
 simp only[Fm.ok,Fm.small];rw[Fm.Bs,Ex.Bs,Ex.Es,Fm.Es];refine⟨⟨h1,h2,⟨by unfold AF;omega,h4⟩,⟨by unfold AF;omega,h6⟩,⟨by unfold AF;omega,λe he=>(h8 e he).1⟩,by unfold AF;omega,λk hk=>(h10 k hk).1⟩,h3,h5,λe he=>(h8 e he).2,h9,λk hk=>(h10 k hk).2⟩
theorem ON:(⟨#[]⟩:ByteArray).size<=AF:=by simp[AF,ByteArray.size]
theorem lH{r:Fm × Int}(h:r.1.ok/\r.1.small):(DA r).1.ok/\(DA r).1.small:=by
 unfold DA;cases r.2==0 with
 |true=>exact h
 |false=>exact GZ
theorem lI{w:ByteArray}{y:Sx}(hw:w.size<=AF)(hx:x.ok)(hy:y.ok)(sx:x.small)(sy:y.small):(Hr w x y).1.ok/\(Hr w x y).1.small:=by
 have ex:=Q3 x hx sx;have ey:=Q3 y hy sy;unfold Hr;cases(A2 w Cb&&Az x==1&&Az y==1)with
 |true=>
  have ht:=OC (l:=[x,y]) (by simp[hx,hy]);simp only[List.length_cons,List.length_nil]at ht;exact KD (by simp[CI,AF,ByteArray.size]) ON (by omega) ht.1 (by simp) (by simp) (by simp) (by simp) (by simp) (by simp)
 |false=>
  simp only[AJ];cases(Bg x).2==0 with
  |false=>exact GZ
  |true=>
   cases(Bg y).2==0 with
   |false=>exact GZ
   |true=>
    simp only[AB];have h2: ∀ a b:Ex,(a.ok/\a.small)->(b.ok/\b.small)-> ∀ o:ByteArray,o.size<=AF->(Fm.mk o ⟨#[]⟩ [] [] [a,b] []).ok/\(Fm.mk o ⟨#[]⟩ [] [] [a,b] []).small:=λa b ha hb o ho=>
     KD ho ON (by simp) (by simp) (by simp) (by simp) (by simp) (by simp only[List.mem_cons,List.not_mem_nil,FF];rintro e (rfl|rfl);exact ha;exact hb) (by simp) (by simp)
    split
    ·exact h2 _ _ ey ex _ (by simp[DH,AF,ByteArray.size])
    ·split
     ·exact h2 _ _ ey ex _ (by simp[De,AF,ByteArray.size])
     ·exact h2 _ _ ex ey _ hw
theorem Wz: ∀ (l:List Sx),(∀ k∈l,(Co k).1.ok/\(Co k).1.small)->(∀ f∈(DN l).1,f.ok/\f.small)/\(DN l).1.length<=l.length
 |[],_=>by simp[DN]
 |x::l,h=>by
  have h1:=Wz l λk hk=>h k (by simp[hk]);have h2:=h x (by simp);simp only[DN];generalize Co x=r at h2;obtain⟨f,c⟩:=r;simp only at h2⊢;cases c==0 with
  |false=>simp
  |true=>
   simp only[AB];generalize DN l=r at h1;obtain⟨fs,c'⟩:=r;simp only at h1⊢;cases c'==0 with
   |false=>simp
   |true=>
    simp only[AB,List.mem_cons,List.length_cons];exact⟨λg hg=>hg.elim (λe=>by rw[e];exact h2) (h1.1 g),by omega⟩
theorem X1: ∀ x:Sx,x.ok->x.small->(Co x).1.ok/\(Co x).1.small:=by
 refine Sx.ind ?_;intro kind value line col text kids ih hok hsm;simp only[Sx.ok]at hok;obtain⟨_,_,_,hkl,hks⟩:=hok
 clear hkl;rw[Sx.Bs]at hks;simp only[Sx.small]at hsm;obtain⟨hl,hss⟩:=hsm;rw[Sx.Es]at hss;have sub: ∀ l:List Sx,(∀ k∈l,k∈kids)->(∀ f∈(DN l).1,f.ok/\f.small)/\(DN l).1.length<=l.length:=λl h=>Wz l λk hk=>ih k (h k hk) (hks k (h k hk)) (hss k (h k hk));unfold Co;split
 ·cases kids with
  |nil=>exact KD (by simp[Bl,AF,ByteArray.size]) ON (by simp) (by simp) (by simp) (by simp) (by simp) (by simp) (by simp) (by simp)
  |cons x rest=>
   simp only;have hxt:=OM (hks x (by simp));simp only[List.length_cons]at hl;cases Az x==1 with
   |false=>exact GZ
   |true=>
    simp only[AB];cases(decide (EX (Af x)>=0)&&!(decide (EX (Af x)=rest.length)))with
    |true=>exact GZ
    |false=>
     simp only[AJ];cases EO (Af x)with
     |true=>
      simp only[AB];cases rest with
      |nil=>exact GZ
      |cons p body=>
       simp only;cases Az p==3 with
       |false=>exact GZ
       |true=>
        simp only[AB];have hpo:=hks p (by simp);have hps:=hss p (by simp);have hb:=sub body λk hk=>(by simp[hk]);simp only[List.length_cons]at hl;have hpp:(∀ q∈(C5 true (BS p)).1,q.ok)/\(C5 true (BS p)).1.length<=1048576:=by
         obtain⟨_,_,_,_,_,pk⟩:=p;simp only[Sx.ok]at hpo;simp only[Sx.small]at hps;have:=Si true pk.length pk (AG _) (Sx.Bs.1 hpo.2.2.2.2) [] [] (by simp) (by simp);simp only[List.length_nil]at this;exact⟨this.1,by have:=this.2;simp only[C5,BS];omega⟩
        cases(C5 true (BS p)).2==0 with
        |false=>exact GZ
        |true=>
         simp only[AB];generalize DN body=r at hb;obtain⟨ks,c⟩:=r;simp only at hb⊢;cases c==0 with
         |false=>exact GZ
         |true=>exact KD hxt ON (by simp) (by simp) hpp.2 hpp.1 (by simp) (by simp) (by omega) hb.1
     |false=>
      simp only[AJ];cases Fp (Af x)with
      |true=>
       simp only[AB];have hb:=sub rest λk hk=>(by simp[hk]);generalize DN rest=r at hb;obtain⟨ks,c⟩:=r;simp only at hb⊢;cases c==0 with
       |false=>exact GZ
       |true=>exact KD hxt ON (by simp) (by simp) (by simp) (by simp) (by simp) (by simp) (by omega) hb.1
      |false=>
       simp only[AJ];cases Ew (Af x)with
       |true=>
        simp only[AB];split
        ·rename_i a b;exact lH (lI hxt (hks a (by simp)) (hks b (by simp)) (hss a (by simp)) (hss b (by simp)))
        ·exact GZ
       |false=>
        simp only[AJ];cases As (Af x)with
        |false=>exact GZ
        |true=>
         have ht:=OC (l:=rest) λy hy=>hks y (by simp[hy]);simp only[AB];cases(CM rest).2==0 with
         |false=>exact GZ
         |true=>exact KD (by simp[Bz,AF,ByteArray.size]) hxt (by omega) ht.1 (by simp) (by simp) (by simp) (by simp) (by simp) (by simp)
 ·exact GZ
def Cl(x:Sx):Fm × Int:=
 if(CJ x 0 0).1=true then(if(Co x).2=0 then(if Bf (Co x).1=true then((Co x).1,0)else(Cn,5))else(Cn,(Co x).2))else(Cn,2)
theorem Sj(hok:x.ok):(Cl x).1.ok/\(Cl x).1.small:=by
 unfold Cl;split
 ·rename_i h;split
  ·split
   ·exact X1 x hok (Kx h)
   ·exact GZ
  ·exact GZ
 ·exact GZ
theorem OO{f:Fm}(h:Bf f=true):Cl (Ao f)=(f,0):=by
 have hs:=J5 h;have h2:=h;unfold Bf at h2;simp only[AV]at h2;unfold Cl;rw[AK h2.2,j6 f hs];simp[h]
end Go.Proofs.YtblgchkahpgdjaaGreat
namespace Go.Proofs.YtblgchkahpgdjaaGreat
open Go.AM Go.Proofs.Tryz
def D1(n:Int):Sx:= .mk 2 n 0 0 ⟨#[]⟩ []
def X2(w s:ByteArray):Sx:=AC [A5 w,A5 s]
def L9:Sx->Int
 | .mk _ v _ _ _ _=>v
def HR(x:Sx)(want:ByteArray):ByteArray × Int:=match Br x with
 |some (w,rest)=>bif A2 w want then(match rest with
  |[r]=>bif Az r==1 then(bif As (Af r)then(Af r,0)else(⟨#[]⟩,8))else(⟨#[]⟩,2)
  |_=>(⟨#[]⟩,2))else(⟨#[]⟩,2)
 |none=>(⟨#[]⟩,2)
def Bu:Fm:= .mk Bl ⟨#[]⟩ [] [] [] []
def IU:List ByteArray->ByteArray->Option (List ByteArray)
 |[],_=>none
 |o::l,w=>bif A2 o w then some l else IU l w
theorem kW(s:ByteArray):Az (A5 s)=1:=rfl
theorem tW(s:ByteArray):Af (A5 s)=s:=rfl
theorem N4{w:ByteArray}{l:List Sx}:Br (AC (A5 w::l))=some (w,l):=by
 simp[Br,AC,kW,tW]
theorem Em(s:ByteArray):A2 s s=true:=by simp[A2]
theorem lJ{w s:ByteArray}(h:As s=true):HR (X2 w s) w=(s,0):=by
 unfold HR X2;rw[N4];simp[Em,kW,tW,h]
theorem X3: ∀ (l:List Pm)(don:List Pm),(∀ o∈l,QH o=true)->Ek false (Aa l) don []=(don++l,0)
 |[],don,_=>by simp[Aa,Ek,Bw]
 |p::l,don,h=>by
  have h1:=h p (by simp);have h2: ∀ o∈l,QH o=true:=λo ho=>h o (by simp[ho]);unfold QH at h1;simp only[AV]at h1;have g1:=Vp h1.1;have g2:A2 p.name GJ=false:=IN h1.1 (by decide);have t1: ∀ s:ByteArray,Af (A5 s)=s:=λ_=>rfl;have w1:Hq (A5 ⟨#[45]⟩)=true:=Mw (by decide);have w2:A2 (⟨#[45]⟩:ByteArray) GJ=true:=by decide
  simp only[Aa];rw[Ek,Mw g1,t1,g2,h1.1];simp only[AB,AJ,List.nil_append];rw[Ek,w1,t1,w2];simp only[AB,Mw (Vq h1.2),t1,h1.2];simp only[List.isEmpty_cons,CB,B7,AB,Bw,List.map_cons,List.map_nil];rw[X3 l _ h2];simp
theorem lK{l:List Pm}(h: ∀ o∈l,QH o=true):C5 false (Aa l)=(l,0):=by
 unfold C5;rw[X3 l [] h];rfl
end Go.Proofs.YtblgchkahpgdjaaGreat
namespace Go.Proofs.YtblgchkahpgdjaaGreat
open Go.AM Go.Proofs.Tryz
set_option maxRecDepth 4000
def HS:ByteArray:=⟨#[119,104,101,110]⟩
def JX:ByteArray:=⟨#[97,115,115,105,103,110]⟩
def JY:ByteArray:=⟨#[105,110,99,114,101,97,115,101]⟩
def JZ:ByteArray:=⟨#[100,101,99,114,101,97,115,101]⟩
structure E5 where
 params:List Pm
 Hc:List Fm
def QI:List Fm->Fm
 |[]=>Bu
 |[f]=>f
 |l=> .mk Bl ⟨#[]⟩ [] [] [] l
def FN(S:E5)(k:Int)(n:ByteArray)(a:List ByteArray)(v:Ex):Ch:=⟨k,S.params,QI S.Hc,n,a,v⟩
def Fq(w:ByteArray):Int:=bif A2 w JX then 3 else bif A2 w JY then 4 else bif A2 w JZ then 5 else 0
def Ey(x:Sx):ByteArray × List ByteArray × Int:=match Br x with
 |none=>(⟨#[]⟩,[],2)
 |some (w,rest)=>bif As w then(bif (CM rest).2==0 then(w,(CM rest).1,0)else(⟨#[]⟩,[],(CM rest).2))else(⟨#[]⟩,[],8)
def Ga(S:E5)(k:Int):List Sx->List Ch × Int
 |[a,e]=>bif (Ey a).2.2==0 then(bif (H6 e).2==0 then([FN S k (Ey a).1 (Ey a).2.1 (H6 e).1],0)else([],(H6 e).2))else([],(Ey a).2.2)
 |_=>([],2)
def J6(S:E5)(k:Int)(a:Sx):List Ch × Int:=bif (Ey a).2.2==0 then([FN S k (Ey a).1 (Ey a).2.1 C2],0)else([],(Ey a).2.2)
mutual
def Cp:Sx->E5->List Ch × Int
 | .mk kind v l c t kids,S=>bif kind==3 then(match kids with
   |[]=>([],0)
   | x :: rest => bif Az x == 1 then
     (bif !(Fq (Af x)==0)then Ga S (Fq (Af x)) rest
     else bif A2 (Af x) HS then(match rest with
      |[f,e]=>bif (Cl f).2==0 then Cp e ⟨S.params,S.Hc++[(Cl f).1]⟩else([],(Cl f).2)
      |_=>([],2))
     else bif A2 (Af x) DY then(match rest with
      |[p,e]=>bif Az p==3 then(bif (C5 true (BS p)).2==0 then Cp e ⟨S.params++(C5 true (BS p)).1,S.Hc⟩else([],(C5 true (BS p)).2))else([],2)
      |_=>([],2))
     else bif A2 (Af x) Bl then FB rest S
     else bif A2 (Af x) DU then(match rest with
      |[a]=>J6 S 2 a
      |_=>([],2))
     else J6 S 1 (.mk kind v l c t (x::rest)))
    else([],2))else([],2)
def FB:List Sx->E5->List Ch × Int
 |[],_=>([],0)
 |x::l,S=>match Cp x S with
  | (a, c) => bif c == 0 then (match FB l S with
   |(b,c')=>bif c'==0 then(a++b,0)else([],c'))else([],c)
end
def BX(f:Fm):Bool:=f.same Bu
def BH(f:Fm):Sx:=bif Bf f then Ao f else .mk 0 0 0 0 ⟨#[]⟩ []
def J7(e:Ex):Sx:=bif Ei e then BG e else .mk 0 0 0 0 ⟨#[]⟩ []
def Ja(k:Int):ByteArray:=bif k==3 then JX else bif k==4 then JY else JZ
def IV(c:Ch):Sx:=bif c.kind==1 then Cu c.name c.args else bif c.kind==2 then AC [A5 DU,Cu c.name c.args]
 else bif c.kind==3||c.kind==4||c.kind==5 then AC [A5 (Ja c.kind),Cu c.name c.args,J7 c.value]else Cu c.name c.args
def IW(c:Ch):Sx:=bif BX c.cond then IV c else AC [A5 HS,BH c.cond,IV c]
def FC(c:Ch):Sx:=bif c.params.isEmpty then IW c else AC [A5 DY,AC (Aa c.params),IW c]
def BO(vars:Bool)(p:Pm):Bool:=(bif vars then F9 p.name else As p.name)&&(A2 p.type Dr||As p.type)
def CA(c:Ch):Bool:=As c.name&&c.args.all CH&&(bif c.kind==1||c.kind==2 then c.value.same C2 else(bif c.kind==3||c.kind==4||c.kind==5 then Ei c.value else false))&&(BX c.cond||Bf c.cond)&&c.params.all (BO true)
def Bx(l:List Ch):Sx:=bif l.isEmpty then AC []else AC (A5 Bl::l.map FC)
def Gb(l:List Ch):Bool:=l.all CA&&(CJ (Bx l) 0 0).1
def En(x:Sx):List Ch × Int:=
 if(CJ x 0 0).1=true then(if(Cp x ⟨[],[]⟩).2=0 then(if Gb (Cp x ⟨[],[]⟩).1=true then((Cp x ⟨[],[]⟩).1,0)else([],5))else([],(Cp x ⟨[],[]⟩).2))else([],2)
end Go.Proofs.YtblgchkahpgdjaaGreat
namespace Go.Proofs.YtblgchkahpgdjaaGreat
open Go.AM Go.Proofs.Tryz
set_option maxHeartbeats 8000000
set_option maxRecDepth 20000
def IX(c:Ch):Fm:= .mk Bz c.name c.args [] [] []
def Jb(c:Ch):Bool:=!(decide (c.kind<1))&&(!(decide (5<c.kind))&&(c.params.all (IP true)&&(DI c.cond&&(DI (IX c)&&(bif decide (c.kind<=2)then c.value.same C2 else FJ c.value)))))
end Go.Proofs.YtblgchkahpgdjaaGreat
namespace Go.Proofs.YtblgchkahpgdjaaGreat
open Go.AM Go.Proofs.Tryz
set_option maxHeartbeats 4000000
set_option maxRecDepth 20000
variable {h:A0}{id:Nat}{s:ByteArray}{b:Bool}
theorem A6.LW{P:Program}{f:FuncId}{args:List PV}{v:PV}{o o0:Am}(hb:Ab P f=true)(hid:h.obj id=some o0)(hfl:F7 h.next o)(hc:A6 P f args h λr h'=>AI h.next h' v r/\CP h id o h'):
  A6 P f args h λr h'=>r=v/\h'=h.set id o:=by
 refine JJ hb λhw=>A6.drop (hc.mono ?_);rintro r h' ⟨hf,g⟩;refine⟨v,h.set id o,⟨rfl,rfl⟩,hf,AG _,λi oo ho=>?_⟩;have hlt:=hw id (by rw[hid];try rfl);simp only[A0.set]at ho;split at ho
 ·rename_i hi;subst hi;simp at ho;subst ho;exact⟨g.at_,hlt,.inr hfl⟩
 ·rename_i hi;have h1:=hw i (by rw[ho];try rfl);exact⟨by rw[g.B1 i h1 hi];exact ho,h1,.inl ho⟩
theorem CP.kill{h':A0}{j:Nat}{o:Am}(g:CP h id o h')(hid:id<h.next)(hj:h.next<=j):CP h id o (h'.kill j):=
 ⟨g.le,λi hi hne=>by simp only[A0.kill];rw[A7 (by omega)];exact g.B1 i hi hne,by simp only[A0.kill];rw[A7 (by omega)];exact g.at_⟩
theorem Cf{P:Program}{ow:Nat->Bool}{wf:FuncId->Bool}{n:Nat}{Q:BU}{s:AE}{c:Code}(I:AE->A0->Prop)(hi:I s h)(hh: ∀ s h,I s h->Ar P ow wf n c Q s h):Ar P ow wf n c Q s h:=hh _ _ hi
abbrev wO(b:Bool):Am:= .arr 1 [[.sc (.bool b)]]
theorem LB(n:Nat)(b:Bool):F7 n (wO b):=by simp[wO,F7,B9,Bo,Bc]
theorem KE:A6 prog 40 [A3 s] h λr h'=>r= .agg (A5 s).cells/\h'=h:=by
 refine A6.CD Ty.Ub ?_;refine AD func40 ntmps40 results40 Ty.Ub ?_;refine wt A4 ?_;refine⟨?_,((AH.refl h).new _).set (AG _) _⟩;simp only[A5,Sx.cells,Sx.rows,AI,AN];exact⟨_,rfl,rfl,rfl,rfl,rfl,rfl,.inr (.inl ⟨rfl,.inr rfl⟩),trivial⟩
theorem KF{p:PV}(h1:Cs p=true)(hf: ∀ h',AI h.next h' p p):A6 prog 39 [p] h λr h'=>r= .agg [qK 3,qK 0,qK 0,qK 0,.sc (.string ⟨#[]⟩),p]/\h'=h:=by
 refine A6.CD Ty.Uc ?_;have hc:p.cells=[p]:=by cases p<;>simp[Cs]at h1<;>rfl
 refine AD func39 ntmps39 results39 Ty.Uc ?_;refine wt (uu hc h1) ?_;refine⟨?_,((AH.refl h).new _).set (AG _) _⟩;simp only[AI,AN];exact⟨_,rfl,rfl,rfl,rfl,rfl,rfl,hf _,trivial⟩
theorem Jc(l:List Sx)(h:A0):A6 prog 39 [.A1 6 (Sx.rows l)] h λr h'=>r= .agg (AC l).cells/\h'=h:=KF rfl (λ_=>K5 (HL _ _))
theorem X4(hs:s.size<=9223372036854775807):A6 prog 151 [A3 s] h λr h'=>r= .sc (.bool (CH s))/\h'=h:=by
 have h1:=λh:A0=>FY (h:=h) hs;have h2:=λh:A0=>Lw (h:=h) hs;unfold CH;generalize As s=a at h1⊢;generalize F9 s=b at h2⊢;cases a with
 |true=>
  refine AD func151 ntmps151 results151 Ty.V0 ?_;refine wt A4 ?_;refine uU A4 (h1 _) ?_;refine wm A4 ?_;try exact zI
  all_goals simp only[Dh]
 |false=>
  refine AD func151 ntmps151 results151 Ty.V0 ?_;refine wt A4 ?_;refine uU A4 (h1 _) ?_;refine wt A4 ?_;refine uU A4 (h2 _) ?_;refine wm A4 ?_;try exact zI
  all_goals simp only[Cx]
theorem LC:A6 prog 99 [] h λr h'=>r= .agg Bu.cells/\h'=h:=by
 refine A6.CD Ty.Up ?_;refine AD func99 ntmps99 results99 Ty.Up ?_;refine wt A4 ?_;refine⟨?_,((AH.refl h).new _).set (AG _) _⟩;simp only[Bu,Bl,Fm.cells,A8,Ex.rows,Fm.rows,AL,List.map_nil,AI,AN];exact⟨_,rfl,rfl,rfl,.inr (.inl ⟨rfl,.inr rfl⟩),.inr (.inl ⟨rfl,.inr rfl⟩),.inr (.inl ⟨rfl,.inr rfl⟩),.inr (.inl ⟨rfl,.inr rfl⟩),trivial⟩
theorem N5(hs:s.size<=9223372036854775807)(hid:id<h.next)(ho:h.obj id=some (wO b)):
  A6 prog 41 [.ptr id 0 0,A3 s] h λr h'=>r= .agg (A5 s).cells/\h'=h.set id (wO (b||!As s)):=by
 refine A6.LW Ty.Rb ho (LB _ _) ?_;have h1:=λh:A0=>FY (h:=h) hs;have hw:=λh:A0=>KE (h:=h) (s:=s);have n1:(id=h.next)=False:=BB (by omega);have n2:(h.next=id)=False:=BB (by omega);generalize As s=a at h1⊢;have DA: ∀ (b':Bool)(o:Am),AI h.next (((h.new o).set id (wO b')).set h.next (.arr 6 [(A5 s).cells])) (.agg (A5 s).cells) (.agg (A5 s).cells)/\CP h id (wO b') (((h.new o).set id (wO b')).set h.next (.arr 6 [(A5 s).cells])):=λb' o=>⟨by
  simp only[AI];exact⟨_,rfl,FZ _ _ _⟩,(((CP.refl ho).new hid).put).set hid (AG _)⟩
 simp only[A5,Sx.cells,Sx.rows]at hw DA⊢;cases b with
 |true=>
  refine AD func41 ntmps41 results41 Ty.Rb ?_;refine wt (AU ho n1 n2) ?_;refine uU (AU ho n1 n2) (hw _) ?_;refine wt (AU ho n1 n2) ?_;exact DA _ _
 |false=>
  refine AD func41 ntmps41 results41 Ty.Rb ?_;refine wt (AU ho n1 n2) ?_;refine uU (AU ho n1 n2) (h1 _) ?_;refine wt (AU ho n1 n2) ?_;refine uU (AU ho n1 n2) (hw _) ?_;refine wt (AU ho n1 n2) ?_;exact DA _ _
theorem OP{f:Fm}(hok:f.ok)(hsm:f.small)(hid:id<h.next)(ho:h.obj id=some (wO b)):
  A6 prog 100 [.ptr id 0 0,.agg f.cells] h λr h'=>r= .agg (BH f).cells/\h'=h.set id (wO (b||!Bf f)):=by
 refine A6.LW Ty.Uq ho (LB _ _) ?_;have hW:=λh:A0=>lG hok hsm h;have n1:(id=h.next)=False:=BB (by omega);have n2:(h.next=id)=False:=BB (by omega);have n3:(id=h.next+1)=False:=BB (by omega);have n4:(h.next+1=id)=False:=BB (by omega);have hX:(if Bf f then(PV.Al [.agg (Ao f).cells,.sc .nilIface])else .Al [.agg Ho.cells,An 2])= .Al [.agg (BH f).cells,if Bf f then .sc .nilIface else An 2]:=by
  unfold BH;cases Bf f<;>rfl
 rw[hX]at hW;generalize Bf f=v at hW⊢;generalize BH f=X at hW⊢;obtain⟨ki,va,li,co,te,ks⟩:=X;obtain⟨gop,gna,gar,gpa,gex,gki⟩:=f;have DA: ∀ (b':Bool)(o o1 o2:Am),AI h.next ((((((h.new o).new o1).set (h.next+1) o2).set id (wO b')).set h.next (.arr 6 [(Sx.mk ki va li co te ks).cells]))) (.agg (Sx.mk ki va li co te ks).cells) (.agg (Sx.mk ki va li co te ks).cells)/\CP h id (wO b') ((((h.new o).new o1).set (h.next+1) o2).set id (wO b')|>.set h.next (.arr 6 [(Sx.mk ki va li co te ks).cells])):=λb' o o1 o2=>⟨by
  simp only[AI];exact⟨_,rfl,FZ _ _ _⟩,(((((CP.refl ho).new hid).new hid).set hid (by omega)).put).set hid (AG _)⟩
 simp only[Sx.cells,Fm.cells]at hW DA⊢;cases v<;>simp only[AO,AP,BQ,An]at hW<;>cases b;all_goals
  refine AD func100 ntmps100 results100 Ty.Uq ?_;replace zz:=Ae ho n1 n2 n3 n4;refine wt zz ?_;replace zz:=Ae ho n1 n2 n3 n4;refine uU zz (hW _) ?_;replace zz:=Ah ho n1 n2 n3 n4 @B4;refine wt zz ?_;exact DA _ _ _ _
theorem M9{vars:Bool}{l:List Pm}(hl:l.length<=1048576)(hok: ∀ p∈l,p.ok)(hid:id<h.next)(ho:h.obj id=some (wO b)):
  A6 prog 43 [.ptr id 0 0,.A1 2 (A8 l),.sc (.bool vars)] h λr h'=>r= .A1 6 (Sx.rows (Aa l))/\h'=h.set id (wO (b||!(l.all (BO vars)))):=by
 refine A6.LW Ty.Ud ho (LB _ _) ?_;have hll:=Gz l;have hWP:=λh:A0=>Ry hl h;generalize hF:(b||!(l.all (BO vars)))=F;refine AD func43 ntmps43 results43 Ty.Ud ?_;refine wt hll ?_;refine By (λc S h'=>S 0= .ptr id 0 0/\S 1= .A1 2 (A8 l)/\S 2= .sc (.bool vars)/\S 10= .A1 2 (A8 l)/\S 11= qK l.length/\ ∃ (k:Nat)(b':Bool),S 12= qK k/\k<=l.length/\c=l.length-k/\CP h id (wO b') h'/\F=(b'||!((l.drop k).all (BO vars)))) l.length ?_ ?_
 ·simp only[Ty.w,simprocAttr];exact⟨0,b,rfl,by omega,rfl,CP.refl ho,by rw[List.drop_zero];exact hF.symm⟩
 ·clear hF;rintro c S h' ⟨g0,g1,g2,g10,g11,k,b',g12,hkl,rfl,hG,hinv⟩;by_cases hlt:k<l.length
  ·have hd:decide ((k:Int)<(l.length:Int))=true:=(by simp;omega);have w7:IntKind.i64.wrap ((k:Int)+1)=k+1:=(by rw[BM (by omega) (by omega)]);obtain⟨p,hx⟩: ∃ p,l[k]? =some p:=⟨_,List.getElem?_eq_getElem hlt⟩;rw[Ca hx,List.all_cons]at hinv;have hr:=Nr hx;have hpo:=hok p (List.mem_of_getElem? hx);have hs1:p.name.size<=9223372036854775807:=(by have:=hpo.1;unfold AF at this;omega);have hs2:p.type.size<=9223372036854775807:=(by have:=hpo.2;unfold AF at this;omega);have c1:=λh:A0=>FY (h:=h) hs1;have c2:=λh:A0=>Lw (h:=h) hs1;have c3:=λh:A0=>FY (h:=h) hs2;have hno:=hG.at_;have hle:=hG.le;have n1:(id=h'.next)=False:=BB (by omega);have n2:(h'.next=id)=False:=BB (by omega);have hpar:BO vars p=((bif vars then F9 p.name else As p.name)&&(A2 p.type Dr||As p.type)):=rfl;rw[hpar]at hinv;generalize As p.name=q1 at c1 hinv;generalize F9 p.name=q2 at c2 hinv;generalize As p.type=q3 at c3 hinv;have hne:(p.type.data.toList==Dr.data.toList)=A2 p.type Dr:=rfl;generalize A2 p.type Dr=q4 at hinv hne;have e1:(p.type.data.toList=[111,98,106,101,99,116])=(q4=true):=by
    rw[← hne];exact propext ⟨λe=>by rw[e];try rfl,λe=>eq_of_beq e⟩
   have e2:(p.type.data.toList==[111,98,106,101,99,116])=q4:=hne;clear hne;have hG2: ∀ (z o:Am)(b2:Bool),CP h id (wO b2) (((h'.new z).set h'.next o).set id (wO b2)):=λz o b2=>((hG.new hid).set hid hle).put;have Fx: ∀ b2:Bool,b2=(b'||!((bif vars then q2 else q1)&&(q4||q3)))->F=(b2||!((l.drop (k+1)).all (BO vars))):=by
    intro b2 e;rw[hinv,e];cases b'<;>cases(bif vars then q2 else q1)<;>cases q4<;>cases q3<;>simp
   obtain⟨pn,pt⟩:=p;simp only at hr e1 e2;clear hinv hpar hx hpo hs1 hs2;cases vars with
   |false=>
    simp only[AJ]at Fx;cases b' with
    |true=>
     replace zz:=AY g0 g1 g2 g10 g11 g12 hll hd hr hno n1 n2;refine wt zz ?_;replace zz:=BF g0 g1 g2 g10 g11 g12 hno n1 n2;refine uU zz (c1 _) ?_;(repeat'(first|refine cK ?_|(refine nK ?_;try exact zI)|refine Ai λK hK=>?_|((first|refine Bp ?_|refine FW (λK hK=>?_));simp only[Ty.w,simprocAttr,g0,g1,g2,g10,g11,g12,hno,n1,n2,e1,e2,bne,w7,Ax,CB])|(refine Gk ?_;(try simp only[At,simprocAttr]))|(refine Eg _ (by(try simp only[Ty.w,simprocAttr,g0,g1,g2,g10,g11,g12,hno,n1,n2,e1,e2,bne,w7,Ax,CB]);rfl) (λhb=>?_) (λhb=>?_)<;>(try simp only[DD,Ba,Cw,simprocAttr]at hb)<;>(try(exfalso;omega)))|(refine hK _ _ ?_;clear hK;(try simp only[At,simprocAttr]))));exact⟨l.length-(k+1),by omega,k+1,true,by simp,by omega,rfl,hG2 _ _ _,Fx _ (by simp)⟩
    |false=>
     cases q1 with
     |false=>
      replace zz:=AY g0 g1 g2 g10 g11 g12 hll hd hr hno n1 n2;refine wt zz ?_;replace zz:=BF g0 g1 g2 g10 g11 g12 hno n1 n2;refine uU zz (c1 _) ?_;(repeat'(first|refine cK ?_|(refine nK ?_;try exact zI)|refine Ai λK hK=>?_|((first|refine Bp ?_|refine FW (λK hK=>?_));simp only[Ty.w,simprocAttr,g0,g1,g2,g10,g11,g12,hno,n1,n2,e1,e2,bne,w7,Ax,CB])|(refine Gk ?_;(try simp only[At,simprocAttr]))|(refine Eg _ (by(try simp only[Ty.w,simprocAttr,g0,g1,g2,g10,g11,g12,hno,n1,n2,e1,e2,bne,w7,Ax,CB]);rfl) (λhb=>?_) (λhb=>?_)<;>(try simp only[DD,Ba,Cw,simprocAttr]at hb)<;>(try(exfalso;omega)))|(refine hK _ _ ?_;clear hK;(try simp only[At,simprocAttr]))));exact⟨l.length-(k+1),by omega,k+1,true,by simp,by omega,rfl,hG2 _ _ _,Fx _ (by simp)⟩
     |true=>
      cases q4 with
      |true=>
       simp only[eq_self]at e1;replace zz:=AY g0 g1 g2 g10 g11 g12 hll hd hr hno n1 n2;refine wt zz ?_;replace zz:=BF g0 g1 g2 g10 g11 g12 hno n1 n2;refine uU zz (c1 _) ?_;(repeat'(first|refine cK ?_|(refine nK ?_;try exact zI)|refine Ai λK hK=>?_|((first|refine Bp ?_|refine FW (λK hK=>?_));simp only[Ty.w,simprocAttr,g0,g1,g2,g10,g11,g12,hno,n1,n2,e1,e2,bne,w7,Ax,CB])|(refine Gk ?_;(try simp only[At,simprocAttr]))|(refine Eg _ (by(try simp only[Ty.w,simprocAttr,g0,g1,g2,g10,g11,g12,hno,n1,n2,e1,e2,bne,w7,Ax,CB]);rfl) (λhb=>?_) (λhb=>?_)<;>(try simp only[DD,Ba,Cw,simprocAttr]at hb)<;>(try(exfalso;omega)))|(refine hK _ _ ?_;clear hK;(try simp only[At,simprocAttr]))));exact⟨l.length-(k+1),by omega,k+1,false,by simp,by omega,rfl,hG2 _ _ _,Fx _ (by simp)⟩
      |false=>
       simp only[BQ]at e1;replace zz:=AY g0 g1 g2 g10 g11 g12 hll hd hr hno n1 n2;refine wt zz ?_;replace zz:=BF g0 g1 g2 g10 g11 g12 hno n1 n2;refine uU zz (c1 _) ?_;(repeat'(first|refine cK ?_|(refine nK ?_;try exact zI)|refine Ai λK hK=>?_|((first|refine Bp ?_|refine FW (λK hK=>?_));simp only[Ty.w,simprocAttr,g0,g1,g2,g10,g11,g12,hno,n1,n2,e1,e2,bne,w7,Ax,CB])|(refine Gk ?_;(try simp only[At,simprocAttr]))|(refine Eg _ (by(try simp only[Ty.w,simprocAttr,g0,g1,g2,g10,g11,g12,hno,n1,n2,e1,e2,bne,w7,Ax,CB]);rfl) (λhb=>?_) (λhb=>?_)<;>(try simp only[DD,Ba,Cw,simprocAttr]at hb)<;>(try(exfalso;omega)))|(refine hK _ _ ?_;clear hK;(try simp only[At,simprocAttr]))));refine uU zz (c3 _) ?_;(repeat'(first|refine cK ?_|(refine nK ?_;try exact zI)|(refine Bp ?_;simp only[Ty.w,simprocAttr,g0,g1,g2,g10,g11,g12,hno,n1,n2,e1,e2,bne,w7,Ax,CB])|(refine hK _ _ ?_;clear hK;(try simp only[At,simprocAttr]))));exact⟨l.length-(k+1),by omega,k+1,!q3,by simp,by omega,rfl,hG2 _ _ _,Fx _ (by simp)⟩
   |true=>
    simp only[AB]at Fx;cases b' with
    |true=>
     replace zz:=AY g0 g1 g2 g10 g11 g12 hll hd hr hno n1 n2;refine wt zz ?_;replace zz:=BF g0 g1 g2 g10 g11 g12 hno n1 n2;refine uU zz (c1 _) ?_;(repeat'(first|refine cK ?_|(refine nK ?_;try exact zI)|refine Ai λK hK=>?_|(refine Bp ?_;simp only[Ty.w,simprocAttr,g0,g1,g2,g10,g11,g12,hno,n1,n2,e1,e2,bne,w7,Ax,CB])|(refine Eg _ (by(try simp only[Ty.w,simprocAttr,g0,g1,g2,g10,g11,g12,hno,n1,n2,e1,e2,bne,w7,Ax,CB]);rfl) (λhb=>?_) (λhb=>?_)<;>(try simp only[DD,Ba,Cw,simprocAttr]at hb)<;>(try(exfalso;omega)))|(refine hK _ _ ?_;clear hK;(try simp only[At,simprocAttr]))));refine uU zz (c2 _) ?_;(repeat'(first|refine cK ?_|(refine nK ?_;try exact zI)|((first|refine Bp ?_|refine FW (λK hK=>?_));simp only[Ty.w,simprocAttr,g0,g1,g2,g10,g11,g12,hno,n1,n2,e1,e2,bne,w7,Ax,CB])|(refine hK _ _ ?_;clear hK;(try simp only[At,simprocAttr]))));exact⟨l.length-(k+1),by omega,k+1,true,by simp,by omega,rfl,hG2 _ _ _,Fx _ (by simp)⟩
    |false=>
     cases q2 with
     |false=>
      replace zz:=AY g0 g1 g2 g10 g11 g12 hll hd hr hno n1 n2;refine wt zz ?_;replace zz:=BF g0 g1 g2 g10 g11 g12 hno n1 n2;refine uU zz (c1 _) ?_;(repeat'(first|refine cK ?_|(refine nK ?_;try exact zI)|refine Ai λK hK=>?_|(refine Bp ?_;simp only[Ty.w,simprocAttr,g0,g1,g2,g10,g11,g12,hno,n1,n2,e1,e2,bne,w7,Ax,CB])|(refine Eg _ (by(try simp only[Ty.w,simprocAttr,g0,g1,g2,g10,g11,g12,hno,n1,n2,e1,e2,bne,w7,Ax,CB]);rfl) (λhb=>?_) (λhb=>?_)<;>(try simp only[DD,Ba,Cw,simprocAttr]at hb)<;>(try(exfalso;omega)))|(refine hK _ _ ?_;clear hK;(try simp only[At,simprocAttr]))));refine uU zz (c2 _) ?_;(repeat'(first|refine cK ?_|(refine nK ?_;try exact zI)|((first|refine Bp ?_|refine FW (λK hK=>?_));simp only[Ty.w,simprocAttr,g0,g1,g2,g10,g11,g12,hno,n1,n2,e1,e2,bne,w7,Ax,CB])|(refine hK _ _ ?_;clear hK;(try simp only[At,simprocAttr]))));exact⟨l.length-(k+1),by omega,k+1,true,by simp,by omega,rfl,hG2 _ _ _,Fx _ (by simp)⟩
     |true=>
      cases q4 with
      |true=>
       simp only[eq_self]at e1;replace zz:=AY g0 g1 g2 g10 g11 g12 hll hd hr hno n1 n2;refine wt zz ?_;replace zz:=BF g0 g1 g2 g10 g11 g12 hno n1 n2;refine uU zz (c1 _) ?_;(repeat'(first|refine cK ?_|(refine nK ?_;try exact zI)|refine Ai λK hK=>?_|(refine Bp ?_;simp only[Ty.w,simprocAttr,g0,g1,g2,g10,g11,g12,hno,n1,n2,e1,e2,bne,w7,Ax,CB])|(refine Eg _ (by(try simp only[Ty.w,simprocAttr,g0,g1,g2,g10,g11,g12,hno,n1,n2,e1,e2,bne,w7,Ax,CB]);rfl) (λhb=>?_) (λhb=>?_)<;>(try simp only[DD,Ba,Cw,simprocAttr]at hb)<;>(try(exfalso;omega)))|(refine hK _ _ ?_;clear hK;(try simp only[At,simprocAttr]))));refine uU zz (c2 _) ?_;(repeat'(first|refine cK ?_|(refine nK ?_;try exact zI)|((first|refine Bp ?_|refine FW (λK hK=>?_));simp only[Ty.w,simprocAttr,g0,g1,g2,g10,g11,g12,hno,n1,n2,e1,e2,bne,w7,Ax,CB])|(refine hK _ _ ?_;clear hK;(try simp only[At,simprocAttr]))));exact⟨l.length-(k+1),by omega,k+1,false,by simp,by omega,rfl,hG2 _ _ _,Fx _ (by simp)⟩
      |false=>
       simp only[BQ]at e1;replace zz:=AY g0 g1 g2 g10 g11 g12 hll hd hr hno n1 n2;refine wt zz ?_;replace zz:=BF g0 g1 g2 g10 g11 g12 hno n1 n2;refine uU zz (c1 _) ?_;(repeat'(first|refine cK ?_|(refine nK ?_;try exact zI)|refine Ai λK hK=>?_|(refine Bp ?_;simp only[Ty.w,simprocAttr,g0,g1,g2,g10,g11,g12,hno,n1,n2,e1,e2,bne,w7,Ax,CB])|(refine Eg _ (by(try simp only[Ty.w,simprocAttr,g0,g1,g2,g10,g11,g12,hno,n1,n2,e1,e2,bne,w7,Ax,CB]);rfl) (λhb=>?_) (λhb=>?_)<;>(try simp only[DD,Ba,Cw,simprocAttr]at hb)<;>(try(exfalso;omega)))|(refine hK _ _ ?_;clear hK;(try simp only[At,simprocAttr]))));refine uU zz (c2 _) ?_;(repeat'(first|refine cK ?_|(refine nK ?_;try exact zI)|(refine FW (λK hK=>?_);simp only[Ty.w,simprocAttr,g0,g1,g2,g10,g11,g12,hno,n1,n2,e1,e2,bne,w7,Ax,CB])|(refine hK _ _ ?_;clear hK;(try simp only[At,simprocAttr]))));refine uU zz (c3 _) ?_;(repeat'(first|refine cK ?_|(refine nK ?_;try exact zI)|(refine Bp ?_;simp only[Ty.w,simprocAttr,g0,g1,g2,g10,g11,g12,hno,n1,n2,e1,e2,bne,w7,Ax,CB])|(refine hK _ _ ?_;clear hK;(try simp only[At,simprocAttr]))));exact⟨l.length-(k+1),by omega,k+1,!q3,by simp,by omega,rfl,hG2 _ _ _,Fx _ (by simp)⟩
  ·have hd:decide ((k:Int)<(l.length:Int))=false:=(by simp;omega);rw[List.drop_eq_nil_of_le (by omega),List.all_nil,Ax,GD]at hinv;subst hinv;replace zz:=BJ g0 g1 g2 g10 g11 g12 hll hd;refine wt zz ?_;replace zz:=Ah g0 g1 g2 g10 g11 g12;refine uU zz (hWP _) ?_;refine wt (AU g0 g1 g2) ?_;exact⟨K5 (HL _ _),hG⟩
end Go.Proofs.YtblgchkahpgdjaaGreat
namespace Go.Proofs.YtblgchkahpgdjaaGreat
open Go.AM Go.Proofs.Tryz
set_option maxHeartbeats 8000000
set_option maxRecDepth 20000
def IY(f:Fm):Bool:=match f with| .mk op _ _ _ _ kids=>A2 op Bl&&(((Fm.rows kids).length:Int)==0)
def N6(c:Ch):Sx:=bif c.kind==2 then AC [A5 DU,Ao (IX c)]else bif c.kind==3 then AC [A5 JX,Ao (IX c),BG c.value]else bif c.kind==4 then AC [A5 JY,Ao (IX c),BG c.value]else bif c.kind==5 then AC [A5 JZ,Ao (IX c),BG c.value]else Ao (IX c)
def N7(c:Ch):Sx:=bif IY c.cond then N6 c else AC [A5 HS,Ao c.cond,N6 c]
def N8(c:Ch):Sx:=bif c.params.isEmpty then N7 c else AC [A5 DY,AC (Aa c.params),N7 c]
end Go.Proofs.YtblgchkahpgdjaaGreat
namespace Go.Proofs.YtblgchkahpgdjaaGreat
open Go.AM Go.Proofs.Tryz
set_option maxHeartbeats 4000000
set_option maxRecDepth 20000
structure OQ(h:A0)(id:Nat)(b:Bool)(first:ByteArray)(l:List ByteArray)(k:Nat)(h':A0):Prop where
 grow:CP h id (wO b) h'
 ex: ∃ j,h.next+1+1<h'.next/\j≠h.next+1+1/\h.next<j/\j<h'.next/\
  h'.obj h.next=some (.arr 6 [[qK 0,qK 0,qK 0,qK 0,.sc (.string ⟨#[]⟩),.sc (.slice none 0 0)]])/\
  h'.obj (h.next+1+1)=some (.arr 6 [[qK 3,qK 0,qK 0,qK 0,.sc (.string ⟨#[]⟩),.own j 0 (k+1)]])/\
  h'.obj j=some (.arr 6 (Sx.rows ((first::l.take k).map A5)))
theorem OQ.put{h h':A0}{id:Nat}{b b2:Bool}{first:ByteArray}{l:List ByteArray}{k:Nat}(i:OQ h id b first l k h')(hid:id<h.next):OQ h id b2 first l k (h'.set id (wO b2)):=by
 obtain⟨hg,j,h1,h2,h3,h4,o1,o2,o3⟩:=i;refine⟨hg.put,j,h1,h2,h3,h4,?_,?_,?_⟩
 ·simp only[A0.set];rw[A7 (by omega)];exact o1
 ·simp only[A0.set];rw[A7 (by omega)];exact o2
 ·simp only[A0.set];rw[A7 (by omega)];exact o3
theorem lL{h:A0}{id:Nat}{b:Bool}{first:ByteArray}{l:List ByteArray}(hn:first.size<=9223372036854775807)(hl:l.length<=1048576)(hok: ∀ s∈l,s.size<=AF)(hid:id<h.next)(ho:h.obj id=some (wO b)):
  A6 prog 144 [.ptr id 0 0,A3 first,.A1 1 (AL l)] h λr h'=>r= .agg (Cu first l).cells/\h'=h.set id (wO (b||!(As first&&l.all CH))):=by
 refine A6.LW Ty.Uz ho (LB _ _) ?_;have hll:=GI l;have hw: ∀ (s:ByteArray)(h:A0),A6 prog 40 [A3 s] h λr h'=>r= .agg (A5 s).cells/\h'=h:=λs h=>KE;have c0:=λ(z:Am)=>N5 (h:=h.new z) (b:=b) (s:=first) hn (show id<h.next+1 by omega) ((E4 hid).trans ho);simp only[A5,Sx.cells,Sx.rows]at hw c0;generalize hF:(b||!(As first&&l.all CH))=F;refine uG (ow:=λt=>t==13) (wf:=λ_=>false) func144 ntmps144 results144 Ty.Uz ?_;refine wt A4 ?_;refine DM (c0 _) (sr ho) ?_;simp only[Ty.w,simprocAttr,ho];refine wt ho ?_;refine uU A4 (KF (p:= .own (h.next+1) 0 1) rfl (λ_=>Ks (by simp[A0.new,A0.set]))) ?_;refine wt hll ?_;refine By (λm S h'=>S 0= .ptr id 0 0/\S 6= .ptr h.next 0 0/\S 7= .ptr (h.next+1+1) 0 0/\S 15= .A1 1 (AL l)/\S 16= qK l.length/\ ∃ (k:Nat)(b':Bool),S 17= qK k/\k<=l.length/\m=l.length-k/\OQ h id b' first l k h'/\F=(b'||!((l.drop k).all CH))) l.length ?_ ?_
 ·simp only[Ty.w,simprocAttr];refine⟨0,b||!As first,rfl,by omega,rfl,?_,?_⟩
  ·have e1:¬ h.next=h.next+1+1:=by omega
   refine⟨?_,h.next+1,by simp[A0.new,A0.set],by omega,by omega,by simp[A0.new,A0.set],?_,?_,?_⟩
   ·exact ((((((CP.refl ho).new hid).put).new hid).new hid).set hid (by omega))
   ·simp only[A0.new,A0.set];repeat(first|rw[A7 (by omega)]|rw[AK A4])
   ·simp only[A0.new,A0.set];repeat(first|rw[A7 (by omega)]|rw[AK A4])
   ·simp only[A0.new,A0.set];(repeat(first|rw[A7 (by omega)]|rw[AK A4]));simp[A5,Sx.rows,Sx.cells]
  ·rw [List.drop_zero, ← hF];cases b<;>cases As first<;>simp
 ·clear hF c0;rintro m S h' ⟨g0,g6,g7,g15,g16,k,b',g17,hk,rfl,hI,hinv⟩;by_cases hlt:k<l.length
  ·have hd:decide ((k:Int)<(l.length:Int))=true:=(by simp;omega);have w7:IntKind.i64.wrap ((k:Int)+1)=k+1:=(by rw[BM (by omega) (by omega)]);obtain⟨s,hx⟩: ∃ s,l[k]? =some s:=⟨_,List.getElem?_eq_getElem hlt⟩;have hr:=K3 hx;have hts:=λh:A0=>X4 (h:=h) (s:=s) (by have:=hok s (List.mem_of_getElem? hx);unfold AF at this;omega);rw[Ca hx,List.all_cons]at hinv;have hbo:=hI.grow.at_;generalize CH s=q at hts hinv;have Fx: ∀ b2:Bool,b2=(b'||!q)->F=(b2||!((l.drop (k+1)).all CH)):=λb2 e=>by
    rw[hinv,e];cases b'<;>cases q<;>simp
   clear hinv;replace zz:=BJ g0 g6 g7 g15 g16 g17 hd hr;refine xG 5 zz ?_;refine⟨?_⟩;refine D0 (λS H=>S 0= .ptr id 0 0/\S 6= .ptr h.next 0 0/\S 7= .ptr (h.next+1+1) 0 0/\S 15= .A1 1 (AL l)/\S 16= qK l.length/\S 17= qK k/\S 9=A3 s/\ ∃ b2,OQ h id b2 first l k H/\F=(b2||!((l.drop (k+1)).all CH))) ?_ ?_
   ·cases b' with
    |true=>
     replace zz:=Ad g0 g6 g7 g15 g16 g17 hbo;refine wt zz ?_;exact⟨true,hI.put hid,Fx _ (by simp)⟩
    |false=>
     replace zz:=Ad g0 g6 g7 g15 g16 g17 hbo;refine wt zz ?_;replace zz:=Ad g0 g6 g7 g15 g16 g17 hbo;refine uU zz (hts _) ?_;refine wt zz ?_;exact⟨!q,hI.put hid,Fx _ (by simp)⟩
   ·clear g0 g6 g7 g15 g16 g17 hI hbo hd hr Fx hts;rintro S H ⟨g0,g6,g7,g15,g16,g17,g9,b2,hI,hinv⟩;obtain⟨hg,j,hn2,hne,hlo,hhi,o1,o2,o3⟩:=hI;have hrl:(Sx.rows ((first::l.take k).map A5)).length=k+1:=(by rw[Sx.B3];simp;omega);generalize hR:Sx.rows ((first::l.take k).map A5)=R at o3 hrl;have n1:(h.next+1+1=j)=False:=(by simp;omega);have n2:(h.next+1+1=H.next)=False:=(by simp;omega);have htk:List.take (k+1) R=R:=List.take_of_length_le (by omega);have hb:(k+1+1)*72<=140737488355328:=(by omega);replace zz:=B6 g0 g6 g7 g15 g16 g17 g9 w7 o2 o3;refine wy zz ?_;replace zz:=BF g0 g6 g7 g15 g16 g17 g9 o2 o3;(first|refine uV zz (hw s _) ?_|refine uA zz (hw s _) ?_);replace zz:=AY g0 g6 g7 g15 g16 g17 g9 w7 o2 o3 n1 (AW n2 hrl htk hb);(repeat'(first|refine cK ?_|refine nK ?_|refine uR zz ?_|(refine uN hK ?_;clear hK)|refine uB zz ?_|(rw[AK];rotate_left 1;omega;simp only[Ty.w,simprocAttr,g0,g6,g7,g15,g16,g17,g9,w7,o2,o3,n1,n2,hrl,htk,hb])|apply zI));refine⟨l.length-(k+1),by omega,k+1,b2,by simp,by omega,rfl,⟨((hg.kill hid (by omega)).new hid).set hid (by omega),H.next,?_,?_,?_,?_,?_,?_,?_⟩,hinv⟩
    ·simp only[A0.set,A0.new,A0.kill];omega
    ·omega
    ·omega
    ·simp only[A0.set,A0.new,A0.kill];omega
    ·have a1:¬ h.next=h.next+1+1:=by omega
     have a2:¬ h.next=H.next:=by omega
     have a3:¬ h.next=j:=by omega
     simp only[A0.set,A0.new,A0.kill,a1,a2,a3,AP];exact o1
    ·simp only[A0.set,AO]
    ·have a1:¬ H.next=h.next+1+1:=by omega
     simp only[A0.set,A0.new,A0.kill,a1,AP,AO];rw[List.take_add_one,hx, ← hR];simp only[Sx.rows_map,List.map_cons,List.map_append,List.map_nil,Yy,List.cons_append,A5,Sx.cells]
  ·have hd:decide ((k:Int)<(l.length:Int))=false:=(by simp;omega);have hke:k=l.length:=(by omega);subst hke;obtain⟨hg,j,hn2,hne,hlo,hhi,o1,o2,o3⟩:=hI;rw[List.take_length]at o3;rw[List.drop_length,List.all_nil,Ax,GD]at hinv;subst hinv;have n1:(h.next+1+1=h.next)=False:=(by simp;omega);replace zz:=DX g0 g6 g7 g15 g16 g17 hd o1 o2 o3 n1;refine wt zz ?_;refine⟨?_,hg.set hid (AG _)⟩;simp only[Cu,AC,Sx.cells,AI,AN];refine⟨_,rfl,rfl,rfl,rfl,rfl,rfl,.inr (.inr ⟨j,0,l.length+1,Sx.rows ((first::l).map A5),rfl,by omega,?_,?_,?_⟩),trivial⟩
   ·simp only[A0.set];rw[A7 (by omega)];exact o3
   ·rw [Sx.B3];simp
   ·rw [List.drop_zero,List.take_of_length_le (by rw[Sx.B3];simp)];exact IM _ _ _
end Go.Proofs.YtblgchkahpgdjaaGreat
namespace Go.Proofs.YtblgchkahpgdjaaGreat
open Go.AM Go.Proofs.Tryz
set_option maxHeartbeats 4000000
set_option maxRecDepth 20000
theorem lM: ∀ x:Sx,x.ok->x.small-> ∀ h:A0,A6 prog 169 [.agg x.cells] h λr h'=>r= .Al [.agg (Co x).1.cells,AQ (Co x).2]/\h'=h:=by
 refine Sx.ind ?_;intro kind value line col text kids ih hok hsm h;have hok':=hok;simp only[Sx.ok]at hok';obtain⟨_,_,_,_,hks⟩:=hok';rw[Sx.Bs]at hks;have hsm':=hsm;simp only[Sx.small]at hsm';have hss:=hsm'.2;rw[Sx.Es]at hss;exact js hok hsm (λx hx=>ih x hx (hks x hx) (hss x hx)) h
theorem OR{x:Sx}(hok:x.ok)(h:A0):A6 prog 148 [.agg x.cells] h λr h'=>r= .Al [.agg (Cl x).1.cells,AQ (Cl x).2]/\h'=h:=by
 refine A6.CD Ty.O0 ?_;have hv:=λh:A0=>JM hok h;have hX:Cl x=(if(CJ x 0 0).1=true then(if(Co x).2=0 then(if Bf (Co x).1=true then((Co x).1,0)else(Cn,5))else(Cn,(Co x).2))else(Cn,2)):=rfl;generalize Cl x=F at hX;have bad: ∀ (c:Int)(h':A0),(c==0)=false->AH h h'->F=(Cn,c)->AI h.next h' (.Al [.agg F.1.cells,AQ F.2]) (.Al [.agg [.sc (.string ⟨#[]⟩),.sc (.string ⟨#[]⟩),.sc (.slice none 0 0),.sc (.slice none 0 0),.sc (.slice none 0 0),.sc (.slice none 0 0)],An c])/\AH h h':=by
  intro c h' hc hg hF;subst hF;have:AQ c=An c:=by simp only[AQ,hc,AJ]
  simp only[this];refine⟨?_,hg⟩;simp only[An,Cn,Fm.cells,Ex.rows,Fm.rows,A8,AL,List.map_nil,AI,AN];exact⟨_,rfl,⟨_,rfl,rfl,rfl,.inr (.inl ⟨rfl,.inr rfl⟩),.inr (.inl ⟨rfl,.inr rfl⟩),.inr (.inl ⟨rfl,.inr rfl⟩),.inr (.inl ⟨rfl,.inr rfl⟩),trivial⟩,rfl,trivial⟩
 simp only[An]at bad;have hg1: ∀ r,AH h ((h.new (.arr 6 [[.sc (.string ⟨#[]⟩),.sc (.string ⟨#[]⟩),.sc (.slice none 0 0),.sc (.slice none 0 0),.sc (.slice none 0 0),.sc (.slice none 0 0)]])).set h.next r):=λr=>((AH.refl h).new _).set (AG _) _;have hg2: ∀ o1 o2 r,AH h ((((h.new (.arr 6 [[.sc (.string ⟨#[]⟩),.sc (.string ⟨#[]⟩),.sc (.slice none 0 0),.sc (.slice none 0 0),.sc (.slice none 0 0),.sc (.slice none 0 0)]])).new o1).set (h.next+1) o2).set h.next r):=λo1 o2 r=>((((AH.refl h).new _).new _).set (Oz _) _).set (AG _) _;have n1:(h.next=h.next+1)=False:=by simp
 cases v1:(CJ x 0 0).1 with
 |false=>
  rw[v1]at hv;rw[A7 (by rw[v1];simp)]at hX;obtain⟨kind,value,line,col,text,kids⟩:=x;simp only[Sx.cells]at hv⊢;refine AD func148 ntmps148 results148 Ty.O0 ?_;refine wt A4 ?_;refine uU A4 (hv _) ?_;refine wt yF ?_;exact bad 2 _ rfl (hg1 _) hX
 |true=>
  have hsm:=Kx v1;have hp:=lM x hok hsm;have hfo:=X1 x hok hsm;rw[v1]at hv;rw[AK v1]at hX;have hfz:=λn hh=>SO n hh (Co x).1;generalize Co x=E at hp hfo hX hfz;obtain⟨f,c⟩:=E;simp only at hp hfo hX hfz;obtain⟨kind,value,line,col,text,kids⟩:=x;simp only[Sx.cells]at hv hp⊢;cases hc:c==0 with
  |false=>
   rw[A7 (by simpa using hc)]at hX;have e0:AQ c=An c:=(by simp only[AQ,hc,AJ]);rw[e0]at hp;simp only[An]at hp;obtain⟨fop,fna,far,fpa,fex,fki⟩:=f;simp only[Fm.cells]at hp;refine AD func148 ntmps148 results148 Ty.O0 ?_;refine wt A4 ?_;refine uU A4 (hv _) ?_;refine wt yT ?_;refine uU A4 (hp _) ?_;refine wt (uu n1 @B4) ?_;exact bad c _ hc (hg2 _ _ _) hX
  |true=>
   rw[AK (by simpa using hc)]at hX;have e0:AQ c= .sc .nilIface:=(by simp only[AQ,hc,AB]);rw[e0]at hp;have hV:=λh:A0=>Wx hfo.1 hfo.2 h;cases v2:Bf f with
   |false=>
    rw[v2]at hV;rw[A7 (by rw[v2];simp)]at hX;obtain⟨fop,fna,far,fpa,fex,fki⟩:=f;simp only[Fm.cells]at hp hV;refine AD func148 ntmps148 results148 Ty.O0 ?_;refine wt A4 ?_;refine uU A4 (hv _) ?_;refine wt yT ?_;refine uU A4 (hp _) ?_;refine wt (uu n1 @B4) ?_;refine uU (uu n1 @B4) (hV _) ?_;refine wt (AU n1 @B4 yF) ?_;exact bad 5 _ rfl (hg2 _ _ _) hX
   |true=>
    rw[v2]at hV;rw[AK v2]at hX;subst hX;obtain⟨fop,fna,far,fpa,fex,fki⟩:=f;simp only[Fm.cells]at hp hV hfz;have e2:AQ 0= .sc .nilIface:=rfl;simp only[e2,Fm.cells];refine AD func148 ntmps148 results148 Ty.O0 ?_;refine wt A4 ?_;refine uU A4 (hv _) ?_;refine wt yT ?_;refine uU A4 (hp _) ?_;refine wt (uu n1 @B4) ?_;refine uU (uu n1 @B4) (hV _) ?_;refine wt (AU n1 @B4 yT) ?_;refine⟨?_,hg2 _ _ _⟩;have h1:=λhh=>hfz h.next hh
    unfold AI;refine⟨_,rfl,?_⟩;unfold AN;refine⟨?_,by unfold AN;exact⟨by simp only[AI],by simp only[AN]⟩⟩;unfold AI;exact⟨_,rfl,h1 _⟩
end Go.Proofs.YtblgchkahpgdjaaGreat
namespace Go.Proofs.YtblgchkahpgdjaaGreat
open Go.AM Go.Proofs.Tryz
theorem X5{l:List Sx}{k:Sx}(h:k∈l):k.depth+1<=(AC l).depth:=by
 have:=Sx.depths_mem 0 h;simp only[AC,Sx.depth,AO];omega
theorem QJ{op name:ByteArray}{args:List ByteArray}{params:List Pm}{exprs:List Ex}{kids:List Fm}(h1:A2 op Bz=false)(h2:A2 op CI=false)(h3:Fa op=false): ∃ pre,Ao (.mk op name args params exprs kids)=AC (pre++kids.map Ao):=by
 unfold Ao;rw[h1,h2,h3,Ms];exact⟨_,rfl⟩
theorem lN: ∀ f,DI f=true->match f with
  | .mk _ _ _ _ exprs kids=>1+Sx.Aq (exprs.map BG)+Sx.Aq (kids.map Ao)<=(Ao f).nodes/\1<=(Ao f).depth/\(∀ e∈exprs,(BG e).depth+1<=(Ao f).depth)/\(∀ k∈kids,(Ao k).depth+1<=(Ao f).depth):=by
 intro f hf;have d1: ∀ l:List Sx,1<=(AC l).depth:=λl=>by simp only[AC,Sx.depth,AO];omega
 have rest: ∀ {op:ByteArray}{params:List Pm}{kids:List Fm}{pre:List Sx},Ao (.mk op ⟨#[]⟩ [] params [] kids)=AC (pre++kids.map Ao)->
   1+Sx.Aq (([]:List Ex).map BG)+Sx.Aq (kids.map Ao)<=(Ao (.mk op ⟨#[]⟩ [] params [] kids)).nodes/\1<=(Ao (.mk op ⟨#[]⟩ [] params [] kids)).depth/\(∀ e∈([]:List Ex),(BG e).depth+1<=(Ao (.mk op ⟨#[]⟩ [] params [] kids)).depth)/\(∀ k∈kids,(Ao k).depth+1<=(Ao (.mk op ⟨#[]⟩ [] params [] kids)).depth):=by
  intro op params kids pre e;rw[e];refine⟨?_,d1 _,by simp,λk hk=>X5 (List.mem_append.2 (.inr (List.mem_map.2 ⟨k,hk,rfl⟩)))⟩;rw[JT,Mz];simp only[List.map_nil,Sx.Aq];omega
 refine ju (C:=λf=>match f with
  | .mk _ _ _ _ exprs kids=>1+Sx.Aq (exprs.map BG)+Sx.Aq (kids.map Ao)<=(Ao f).nodes/\1<=(Ao f).depth/\(∀ e∈exprs,(BG e).depth+1<=(Ao f).depth)/\(∀ k∈kids,(Ao k).depth+1<=(Ao f).depth)) f hf ?_ ?_ ?_ ?_ ?_ ?_ ?_
 ·intro name args _ _;have e:Ao (.mk Bz name args [] [] [])=Cu name args:=rfl;simp only[e];exact⟨by simp only[Cu,JT,List.map_nil,Sx.Aq];omega,d1 _,by simp,by simp⟩
 ·intro args _ _;have e:Ao (.mk CI ⟨#[]⟩ args [] [] [])=Cu Cb args:=rfl;simp only[e];exact⟨by simp only[Cu,JT,List.map_nil,Sx.Aq];omega,d1 _,by simp,by simp⟩
 ·intro op a b ho _ _;have e:Ao (.mk op ⟨#[]⟩ [] [] [a,b] [])=AC [A5 op,BG a,BG b]:=by rcases ho with rfl|rfl|rfl<;>rfl
  simp only[e];refine⟨?_,d1 _,?_,by simp⟩
  ·simp only[JT,List.map_cons,List.map_nil,Sx.Aq,SW];omega
  ·intro x hx;simp only[List.mem_cons,List.not_mem_nil,FF]at hx;rcases hx with rfl|rfl<;>exact X5 (by simp)
 ·intro op kids ho _;obtain⟨pre,e⟩: ∃ pre,Ao (.mk op ⟨#[]⟩ [] [] [] kids)=AC (pre++kids.map Ao):=by rcases ho with rfl|rfl<;>exact QJ rfl rfl rfl
  exact rest e
 ·intro k _;obtain⟨pre,e⟩: ∃ pre,Ao (.mk DU ⟨#[]⟩ [] [] [] [k])=AC (pre++[k].map Ao):=QJ rfl rfl rfl;exact rest e
 ·intro a b _ _;obtain⟨pre,e⟩: ∃ pre,Ao (.mk GL ⟨#[]⟩ [] [] [] [a,b])=AC (pre++[a,b].map Ao):=QJ rfl rfl rfl;exact rest e
 ·intro op params k ho _ _;obtain⟨pre,e⟩: ∃ pre,Ao (.mk op ⟨#[]⟩ [] params [] [k])=AC (pre++[k].map Ao):=by rcases ho with rfl|rfl<;>exact QJ rfl rfl rfl
  exact rest e
theorem X6: ∀ (l:List Ex),(∀ e∈l,FJ e=true)-> ∀ (d n:Nat),(∀ e∈l,d+(BG e).depth<=32)->n+Sx.Aq (l.map BG)<=4096->(GW l d n).1=true/\(GW l d n).2<=n+Sx.Aq (l.map BG)
 |[],_,d,n,_,hn=>by simp[GW,Sx.Aq]
 |e::l,hs,d,n,hd,hn=>by
  simp only[List.map_cons,Sx.Aq]at hn⊢;obtain⟨f1,f2⟩:=Wb e (hs e (by simp)) d n (hd e (by simp)) (by omega);unfold GW;cases hw:EW e d n with
  |mk x c=>
   rw[hw]at f1 f2;simp only at f1 f2;subst f1;simp only;obtain⟨g1,g2⟩:=X6 l (λq hq=>hs q (by simp[hq])) d c (λq hq=>hd q (by simp[hq])) (by omega);exact⟨g1,by omega⟩
theorem X7: ∀ (l:List Fm)(d:Nat),(∀ k∈l, ∀ n,n+(Ao k).nodes<=4096->(FK k d n).1=true/\(FK k d n).2<=n+(Ao k).nodes)-> ∀ n,n+Sx.Aq (l.map Ao)<=4096->(GM l d n).1=true/\(GM l d n).2<=n+Sx.Aq (l.map Ao)
 |[],_,_,n,hn=>by simp[GM,Sx.Aq]
 |k::l,d,h,n,hn=>by
  simp only[List.map_cons,Sx.Aq]at hn⊢;obtain⟨f1,f2⟩:=h k (by simp) n (by omega);unfold GM;cases hw:FK k d n with
  |mk x c=>
   rw[hw]at f1 f2;simp only at f1 f2;subst f1;simp only;obtain⟨g1,g2⟩:=X7 l d (λq hq=>h q (by simp[hq])) c (by omega);exact⟨g1,by omega⟩
theorem lO: ∀ (f:Fm),DI f=true-> ∀ (d n:Nat),d+(Ao f).depth<=32->n+(Ao f).nodes<=4096->(FK f d n).1=true/\(FK f d n).2<=n+(Ao f).nodes:=by
 refine Fm.ind ?_;intro op name args params exprs kids ih hs d n hd hn;have hp:=lN _ hs;simp only at hp;obtain⟨p1,p2,p3,p4⟩:=hp;have hs2:=hs;simp only[DI,AV,List.all_eq_true]at hs2;obtain⟨⟨h1,h2⟩,h3⟩:=hs2;rw[Mr]at h3;generalize Ao (.mk op name args params exprs kids)=X at*;unfold FK;rw[AK ⟨by omega,by omega⟩,AK h1];obtain⟨f1,f2⟩:=X6 exprs h2 (d+1) (n+1) (λe he=>by have:=p3 e he;omega) (by omega);cases hw:GW exprs (d+1) (n+1)with
 |mk x c=>
  rw[hw]at f1 f2;simp only at f1 f2;subst f1;simp only;obtain⟨g1,g2⟩:=X7 kids (d+1) (λk hk m hm=>ih k hk (h3 k hk) (d+1) m (by have:=p4 k hk;omega) hm) c (by omega);exact⟨g1,by omega⟩
theorem lP{f:Fm}(hn:(Ao f).nodes<=AF):Bf f=(DI f&&Mu (Ao f)):=by
 unfold Bf;rw[M5 hn];cases hs:DI f with
 |false=>
  have:(FK f 0 0).1=false:=by
   cases h:(FK f 0 0).1 with
   |false=>rfl
   |true=>rw[OL f 0 0 h]at hs;simp at hs
  simp only[this,B5]
 |true=>
  cases hv:Mu (Ao f)with
  |false=>simp
  |true=>
   have h1:=(JO (Ao f) 0 0 (by omega) (by omega)).1.1 (by rw[M5 hn];exact hv);rw[(lO f hs 0 0 h1.2.1 h1.2.2).1]
end Go.Proofs.YtblgchkahpgdjaaGreat
namespace Go.AM
theorem KG: ∀ l:List Pm,2*l.length<=PV.D3 (A8 l)
 |[]=>by simp
 |s::l=>by
  have:=KG l;simp only[A8,Ir,List.map_cons,PV.D3,PV.bulkL,PV.bulk,List.length_cons]at this⊢;omega
theorem X8: ∀ l:List Fm,l.length<=PV.D3 (Fm.rows l)
 |[]=>by simp
 |s::l=>by
  have:=X8 l;cases s;simp only[Fm.rows,Fm.cells,PV.D3,PV.bulkL,PV.bulk,List.length_cons]at this⊢;omega
mutual
theorem Fm.KZ: ∀ (f:Fm),PV.bulkL f.cells<=1048576->f.small
 | .mk op name args params exprs kids,h=>by
  simp only[Fm.cells,PV.bulkL,PV.bulk]at h;simp only[Fm.small];have:=QG args;have:=KG params;have:=X8 kids;exact⟨by omega,by omega,Ex.NR exprs (by omega),by omega,Fm.NR kids (by omega)⟩
theorem Fm.NR: ∀ (l:List Fm),PV.D3 (Fm.rows l)<=1048576->Fm.Db l
 |[],_=>by simp[Fm.Db]
 |k::ks,h=>by
  simp only[Fm.rows,PV.D3]at h;simp only[Fm.Db];exact⟨Fm.KZ k (by omega),Fm.NR ks (by omega)⟩
end
end Go.AM
namespace Go.Proofs.YtblgchkahpgdjaaGreat
open Go.AM Go.Proofs.Tryz
end Go.Proofs.YtblgchkahpgdjaaGreat
namespace Go.Proofs.YtblgchkahpgdjaaGreat
open Go.AM Go.Proofs.Tryz
set_option maxHeartbeats 4000000
set_option maxRecDepth 20000
theorem LD{l:List Sx}(hl:l.length<=AF)(h: ∀ x∈l,x.ok):(AC l).ok:=by
 simp only[AC,Sx.ok];exact⟨by omega,by omega,by simp[AF,ByteArray.size],hl,Sx.Bs.2 h⟩
theorem XA{s:ByteArray}(h:A0):A6 prog 28 [A3 s] h λr h'=>r= .agg (A5 s).cells/\h'=h:=by
 refine A6.CD Ty.UY ?_;refine AD func28 ntmps28 results28 Ty.UY ?_;refine wt A4 ?_;refine⟨?_,((AH.refl h).new _).set (AG _) _⟩;simp only[A5,Sx.cells,Sx.rows,AI,AN];exact⟨_,rfl,rfl,rfl,rfl,rfl,rfl,.inr (.inl ⟨rfl,.inr rfl⟩),trivial⟩
theorem N9(l:List Sx)(h:A0):A6 prog 27 [.A1 6 (Sx.rows l)] h λr h'=>r= .agg (AC l).cells/\h'=h:=by
 refine A6.CD Ty.UZ ?_;refine AD func27 ntmps27 results27 Ty.UZ ?_;refine wt A4 ?_;refine⟨?_,((AH.refl h).new _).set (AG _) _⟩;simp only[AC,Sx.cells,AI,AN];exact⟨_,rfl,rfl,rfl,rfl,rfl,rfl,.inl ⟨rfl,HL _ _⟩,trivial⟩
end Go.Proofs.YtblgchkahpgdjaaGreat
