/- What the claim rests on, part 6: the abstract machine, contracts of the functions, plain data. -/
import Derived.OpenShut
import Derived.ChangeShapes
import Derived.SizedLaws
import Derived.Test.YtjeolbgpllbemaaGreatZp5
set_option linter.unusedVariables false
set_option linter.unusedSimpArgs false
set_option linter.unusedSectionVars false
namespace Go.Proofs.YtjeolbgpllbemaaGreat
open Go.AM
set_option maxHeartbeats 4000000
set_option maxRecDepth 20000
theorem parse_c: ∀ x:Sx,x.ok→x.small→ ∀ h:Heap,PCall Tryz.prog 142 [.agg x.cells] h fun r h'=>r= .tup [.agg (fmP x).1.cells,errP (fmP x).2]∧h'=h:=by
 refine Sx.ind ?_
 intro kind value line col text kids ih hok hsm h
 have hok':=hok
 simp only[Sx.ok]at hok'
 obtain⟨_,_,_,_,hks⟩:=hok'
 rw[Sx.oks_iff]at hks
 have hsm':=hsm
 simp only[Sx.small]at hsm'
 have hss:=hsm'.2
 rw[Sx.smalls_iff]at hss
 exact parse_step hok hsm (fun x hx=>ih x hx (hks x hx) (hss x hx)) h
theorem Parse_c{x:Sx}(hok:x.ok)(h:Heap):PCall Tryz.prog 114 [.agg x.cells] h fun r h'=>r= .tup [.agg (parseF x).1.cells,errP (parseF x).2]∧h'=h:=by
 refine PCall.frz Ty.hb_114 ?_
 have hv:=fun h:Heap=>svalid_c hok h
 have hX:parseF x=(if(svalid x 0 0).1=true then(if(fmP x).2=0 then(if validF (fmP x).1=true then((fmP x).1,0)else(zeroFm,5))else(zeroFm,(fmP x).2))else(zeroFm,2)):=rfl
 generalize parseF x=F at hX
 have bad: ∀ (c:Int)(h':Heap),(c==0)=false→Grow h h'→F=(zeroFm,c)→FrzTo h.next h' (.tup [.agg F.1.cells,errP F.2]) (.tup [.agg [.sc (.string ⟨#[]⟩),.sc (.string ⟨#[]⟩),.sc (.slice none 0 0),.sc (.slice none 0 0),.sc (.slice none 0 0),.sc (.slice none 0 0)],errV c])∧Grow h h':=by
  intro c h' hc hg hF
  subst hF
  have:errP c=errV c:=by simp only[errP,hc,cond_false]
  simp only[this]
  refine⟨?_,hg⟩
  simp only[errV,zeroFm,Fm.cells,Ex.rows,Fm.rows,pmRows,strRows,List.map_nil,FrzTo,FrzL]
  exact⟨_,rfl,⟨_,rfl,rfl,rfl,.inr (.inl ⟨rfl,.inr rfl⟩),.inr (.inl ⟨rfl,.inr rfl⟩),.inr (.inl ⟨rfl,.inr rfl⟩),.inr (.inl ⟨rfl,.inr rfl⟩),trivial⟩,rfl,trivial⟩
 simp only[errV]at bad
 have hg1: ∀ r,Grow h ((h.new (.arr 6 [[.sc (.string ⟨#[]⟩),.sc (.string ⟨#[]⟩),.sc (.slice none 0 0),.sc (.slice none 0 0),.sc (.slice none 0 0),.sc (.slice none 0 0)]])).set h.next r):=fun r=>((Grow.refl h).new _).set (Nat.le_refl _) _
 have hg2: ∀ o1 o2 r,Grow h ((((h.new (.arr 6 [[.sc (.string ⟨#[]⟩),.sc (.string ⟨#[]⟩),.sc (.slice none 0 0),.sc (.slice none 0 0),.sc (.slice none 0 0),.sc (.slice none 0 0)]])).new o1).set (h.next+1) o2).set h.next r):=fun o1 o2 r=>((((Grow.refl h).new _).new _).set (Nat.le_succ _) _).set (Nat.le_refl _) _
 have n1:(h.next=h.next+1)=False:=by simp
 cases v1:(svalid x 0 0).1 with
 |false=>
  rw[v1]at hv
  rw[if_neg (by rw[v1];simp)]at hX
  obtain⟨kind,value,line,col,text,kids⟩:=x
  simp only[Sx.cells]at hv⊢
  refine pcall_body (ow:=fun _=>false) (wf:=fun _=>false) Ty.mixed Tryz.func114 rfl Ty.hb_114 (by rw[Tryz.ntmps114];simp) ?_
  rw[Tryz.ntmps114,Tryz.results114]
  repeat'(first|refine a_seq fun K hK=>?_|(refine a_regionS ?_;simp(maxSteps:=2000000) only[Ty.w,simprocAttr])|(refine hK _ _ ?_;clear hK;try simp only[pst0,simprocAttr]))
  refine owp_useQ (hv _) (by(try simp only[Ty.w,simprocAttr,]);try rfl) ?_;simp(maxSteps:=2000000) only[Ty.w,simprocAttr,]
  repeat'(first|refine a_seq fun K hK=>?_|((first|refine a_regionS ?_|refine a_ret ?_);simp(maxSteps:=2000000) only[Ty.w,simprocAttr,Bool.not_false])|(refine hK _ _ ?_;clear hK;try simp only[pst0,simprocAttr]))
  exact bad 2 _ rfl (hg1 _) hX
 |true=>
  have hsm:=svalid_small v1
  have hp:=parse_c x hok hsm
  have hfo:=fmP_ok x hok hsm
  rw[v1]at hv
  rw[if_pos v1]at hX
  have hfz:=fun n hh=>fm_frz n hh (fmP x).1
  generalize fmP x=E at hp hfo hX hfz
  obtain⟨f,c⟩:=E
  simp only at hp hfo hX hfz
  obtain⟨kind,value,line,col,text,kids⟩:=x
  simp only[Sx.cells]at hv hp⊢
  cases hc:c==0 with
  |false=>
   rw[if_neg (by simpa using hc)]at hX
   have e0:errP c=errV c:=by simp only[errP,hc,cond_false]
   rw[e0]at hp
   simp only[errV]at hp
   obtain⟨fop,fna,far,fpa,fex,fki⟩:=f
   simp only[Fm.cells]at hp
   refine pcall_body (ow:=fun _=>false) (wf:=fun _=>false) Ty.mixed Tryz.func114 rfl Ty.hb_114 (by rw[Tryz.ntmps114];simp) ?_
   rw[Tryz.ntmps114,Tryz.results114]
   repeat'(first|refine a_seq fun K hK=>?_|(refine a_regionS ?_;simp(maxSteps:=2000000) only[Ty.w,simprocAttr])|(refine hK _ _ ?_;clear hK;try simp only[pst0,simprocAttr]))
   refine owp_useQ (hv _) (by(try simp only[Ty.w,simprocAttr,]);try rfl) ?_;simp(maxSteps:=2000000) only[Ty.w,simprocAttr,]
   repeat'(first|refine a_seq fun K hK=>?_|(refine a_regionS ?_;simp(maxSteps:=2000000) only[Ty.w,simprocAttr,Bool.not_true])|(refine a_skip ?_;try simp only[pst0,simprocAttr])|(refine a_cond _ (by(try simp(maxSteps:=2000000) only[Ty.w,simprocAttr,Bool.not_true]);rfl) (fun hb=>?_) (fun hb=>?_)<;>(try simp only[hb0,decide_eq_true_eq,decide_eq_false_iff_not,simprocAttr]at hb)<;>(try(exfalso;omega)))|(refine hK _ _ ?_;clear hK;try simp only[pst0,simprocAttr]))
   refine owp_useQ (hp _) (by(try simp only[Ty.w,simprocAttr,]);try rfl) ?_;simp(maxSteps:=2000000) only[Ty.w,simprocAttr,]
   repeat'(first|refine a_seq fun K hK=>?_|((first|refine a_regionS ?_|refine a_ret ?_);simp(maxSteps:=2000000) only[Ty.w,simprocAttr,n1,nsucc])|(refine hK _ _ ?_;clear hK;try simp only[pst0,simprocAttr]))
   exact bad c _ hc (hg2 _ _ _) hX
  |true=>
   rw[if_pos (by simpa using hc)]at hX
   have e0:errP c= .sc .nilIface:=by simp only[errP,hc,cond_true]
   rw[e0]at hp
   have hV:=fun h:Heap=>fvalid_c hfo.1 hfo.2 h
   cases v2:validF f with
   |false=>
    rw[v2]at hV
    rw[if_neg (by rw[v2];simp)]at hX
    obtain⟨fop,fna,far,fpa,fex,fki⟩:=f
    simp only[Fm.cells]at hp hV
    refine pcall_body (ow:=fun _=>false) (wf:=fun _=>false) Ty.mixed Tryz.func114 rfl Ty.hb_114 (by rw[Tryz.ntmps114];simp) ?_
    rw[Tryz.ntmps114,Tryz.results114]
    repeat'(first|refine a_seq fun K hK=>?_|(refine a_regionS ?_;simp(maxSteps:=2000000) only[Ty.w,simprocAttr])|(refine hK _ _ ?_;clear hK;try simp only[pst0,simprocAttr]))
    refine owp_useQ (hv _) (by(try simp only[Ty.w,simprocAttr,]);try rfl) ?_;simp(maxSteps:=2000000) only[Ty.w,simprocAttr,]
    repeat'(first|refine a_seq fun K hK=>?_|(refine a_regionS ?_;simp(maxSteps:=2000000) only[Ty.w,simprocAttr,Bool.not_true])|(refine a_skip ?_;try simp only[pst0,simprocAttr])|(refine a_cond _ (by(try simp(maxSteps:=2000000) only[Ty.w,simprocAttr,Bool.not_true]);rfl) (fun hb=>?_) (fun hb=>?_)<;>(try simp only[hb0,decide_eq_true_eq,decide_eq_false_iff_not,simprocAttr]at hb)<;>(try(exfalso;omega)))|(refine hK _ _ ?_;clear hK;try simp only[pst0,simprocAttr]))
    refine owp_useQ (hp _) (by(try simp only[Ty.w,simprocAttr,]);try rfl) ?_;simp(maxSteps:=2000000) only[Ty.w,simprocAttr,]
    repeat'(first|refine a_seq fun K hK=>?_|(refine a_regionS ?_;simp(maxSteps:=2000000) only[Ty.w,simprocAttr,n1,nsucc])|(refine a_skip ?_;try simp only[pst0,simprocAttr])|(refine a_cond _ (by(try simp(maxSteps:=2000000) only[Ty.w,simprocAttr,n1,nsucc]);rfl) (fun hb=>?_) (fun hb=>?_)<;>(try simp only[hb0,decide_eq_true_eq,decide_eq_false_iff_not,simprocAttr]at hb)<;>(try(exfalso;omega)))|(refine hK _ _ ?_;clear hK;try simp only[pst0,simprocAttr]))
    refine owp_useQ (hV _) (by(try simp only[Ty.w,simprocAttr,n1,nsucc]);try rfl) ?_;simp(maxSteps:=2000000) only[Ty.w,simprocAttr,n1,nsucc]
    repeat'(first|refine a_seq fun K hK=>?_|((first|refine a_regionS ?_|refine a_ret ?_);simp(maxSteps:=2000000) only[Ty.w,simprocAttr,n1,nsucc,Bool.not_false])|(refine hK _ _ ?_;clear hK;try simp only[pst0,simprocAttr]))
    exact bad 5 _ rfl (hg2 _ _ _) hX
   |true=>
    rw[v2]at hV
    rw[if_pos v2]at hX
    subst hX
    obtain⟨fop,fna,far,fpa,fex,fki⟩:=f
    simp only[Fm.cells]at hp hV hfz
    have e2:errP 0= .sc .nilIface:=rfl
    simp only[e2,Fm.cells]
    refine pcall_body (ow:=fun _=>false) (wf:=fun _=>false) Ty.mixed Tryz.func114 rfl Ty.hb_114 (by rw[Tryz.ntmps114];simp) ?_
    rw[Tryz.ntmps114,Tryz.results114]
    repeat'(first|refine a_seq fun K hK=>?_|(refine a_regionS ?_;simp(maxSteps:=2000000) only[Ty.w,simprocAttr])|(refine hK _ _ ?_;clear hK;try simp only[pst0,simprocAttr]))
    refine owp_useQ (hv _) (by(try simp only[Ty.w,simprocAttr,]);try rfl) ?_;simp(maxSteps:=2000000) only[Ty.w,simprocAttr,]
    repeat'(first|refine a_seq fun K hK=>?_|(refine a_regionS ?_;simp(maxSteps:=2000000) only[Ty.w,simprocAttr,Bool.not_true])|(refine a_skip ?_;try simp only[pst0,simprocAttr])|(refine a_cond _ (by(try simp(maxSteps:=2000000) only[Ty.w,simprocAttr,Bool.not_true]);rfl) (fun hb=>?_) (fun hb=>?_)<;>(try simp only[hb0,decide_eq_true_eq,decide_eq_false_iff_not,simprocAttr]at hb)<;>(try(exfalso;omega)))|(refine hK _ _ ?_;clear hK;try simp only[pst0,simprocAttr]))
    refine owp_useQ (hp _) (by(try simp only[Ty.w,simprocAttr,]);try rfl) ?_;simp(maxSteps:=2000000) only[Ty.w,simprocAttr,]
    repeat'(first|refine a_seq fun K hK=>?_|(refine a_regionS ?_;simp(maxSteps:=2000000) only[Ty.w,simprocAttr,n1,nsucc])|(refine a_skip ?_;try simp only[pst0,simprocAttr])|(refine a_cond _ (by(try simp(maxSteps:=2000000) only[Ty.w,simprocAttr,n1,nsucc]);rfl) (fun hb=>?_) (fun hb=>?_)<;>(try simp only[hb0,decide_eq_true_eq,decide_eq_false_iff_not,simprocAttr]at hb)<;>(try(exfalso;omega)))|(refine hK _ _ ?_;clear hK;try simp only[pst0,simprocAttr]))
    refine owp_useQ (hV _) (by(try simp only[Ty.w,simprocAttr,n1,nsucc]);try rfl) ?_;simp(maxSteps:=2000000) only[Ty.w,simprocAttr,n1,nsucc]
    repeat'(first|refine a_seq fun K hK=>?_|((first|refine a_regionS ?_|refine a_ret ?_);simp(maxSteps:=2000000) only[Ty.w,simprocAttr,n1,nsucc,Bool.not_true])|(refine a_skip ?_;try simp only[pst0,simprocAttr])|(refine a_cond _ (by(try simp(maxSteps:=2000000) only[Ty.w,simprocAttr,n1,nsucc,Bool.not_true]);rfl) (fun hb=>?_) (fun hb=>?_)<;>(try simp only[hb0,decide_eq_true_eq,decide_eq_false_iff_not,simprocAttr]at hb)<;>(try(exfalso;omega)))|(refine hK _ _ ?_;clear hK;try simp only[pst0,simprocAttr]))
    refine⟨?_,hg2 _ _ _⟩
    have h1:=fun hh=>hfz h.next hh
    unfold FrzTo
    refine⟨_,rfl,?_⟩
    unfold FrzL
    refine⟨?_,by unfold FrzL;exact⟨by simp only[FrzTo],by simp only[FrzL]⟩⟩
    unfold FrzTo
    exact⟨_,rfl,h1 _⟩
end Go.Proofs.YtjeolbgpllbemaaGreat
namespace Go.Proofs.YtjeolbgpllbemaaGreat
open Go.AM
set_option maxHeartbeats 8000000
set_option maxRecDepth 20000
theorem headM_small{x:Sx}(hsm:x.small){w:ByteArray}{l:List Sx}(h:headM x=some (w,l)):l.length≤1048576∧ ∀ y∈l,y.small:=by
 obtain⟨kind,value,line,col,text,kids⟩:=x
 simp only[Sx.small]at hsm
 obtain⟨hk,hks⟩:=hsm
 simp only[headM]at h
 split at h
 ·cases kids with
  |nil=>simp at h
  |cons y rest=>
   simp only at h
   rw[Sx.smalls_iff]at hks
   cases hh:kindOf y==1 with
   |false=>rw[hh]at h;simp at h
   |true=>
    rw[hh]at h
    simp only[cond_true,Option.some.injEq,Prod.mk.injEq]at h
    obtain⟨rfl,rfl⟩:=h
    exact⟨by simp at hk;omega,fun z hz=>hks z (by simp[hz])⟩
 ·simp at h
def NilOr(z:Nat)(rows:List (List PV))(q:PV):Prop:=q= .imm z rows∨(rows=[]∧q= .sc (.slice none 0 0))
theorem NilOr.cell{z:Nat}{rows:List (List PV)}{q:PV}(h:NilOr z rows q):q.cells=[q]∧oneC q=true:=by
 rcases h with rfl|⟨_,rfl⟩<;>exact⟨rfl,rfl⟩
theorem NilOr.frz{z n:Nat}{rows:List (List PV)}{q:PV}(h:NilOr z rows q)(H:Heap)(hin:inNR n rows):FrzTo n H (.imm z rows) q:=by
 rcases h with rfl|⟨rfl,rfl⟩
 ·exact frz_imm hin
 ·simp only[FrzTo];exact .inr (.inl ⟨trivial,.inr trivial⟩)
structure PbI(h0:Heap)(id:Nat)(p:Pb)(h:Heap):Prop where
 grow:Grow h0 h
 idl:h0.next≤id∧id<h.next
 ex: ∃ o i v g2 g3 g4 g5 gop gna gar gpa gex gki,p.goal= .mk gop gna gar gpa gex gki∧h.obj id=some (.arr 11 [[sPV p.name,sPV p.domain,o,i,v,sPV gop,sPV gna,g2,g3,g4,g5]])∧
  NilOr 2 (pmRows p.objects) o∧Tl h (id+1) 2 i (atRows p.init)∧Tl h (id+1) 3 v (vlRows p.values)∧
  NilOr 1 (strRows gar) g2∧NilOr 2 (pmRows gpa) g3∧NilOr 5 (Ex.rows gex) g4∧NilOr 6 (Fm.rows gki) g5
theorem PbI.tmp{h0 h:Heap}{id:Nat}{p:Pb}(i:PbI h0 id p h)(o o':AObj):PbI h0 id p (tmpH h o o'):=by
 obtain⟨g,l,o1,i1,v1,g2,g3,g4,g5,gop,gna,gar,gpa,gex,gki,e1,e2,e3,e4,e5,e6⟩:=i
 exact⟨g.tmp o o',⟨l.1,by rw[tmpH_next];omega⟩,o1,i1,v1,g2,g3,g4,g5,gop,gna,gar,gpa,gex,gki,e1,by rw[tmpH_obj l.2];exact e2,e3,e4.tmp o o',e5.tmp o o',e6⟩
theorem atRows_app(l:List At)(a:At):atRows l++[atRow a]=atRows (l++[a]):=by simp[atRows]
theorem vlRows_app(l:List Vl)(a:Vl):vlRows l++[vlRow a]=vlRows (l++[a]):=by simp[vlRows]
theorem Tl.other{h:Heap}{lo z z':Nat}{p q:PV}{R R':List (List PV)}{H:Heap}(tp:Tl h lo z p R)(tq:Tl h lo z' q R')(hz:z≠z')(t1:isTail h p=some (H,R))(t3:H.next=h.next):Tl H lo z' q R':=by
 rcases tq with tq|⟨id',a1,a2,rfl,a3⟩
 ·exact .inl tq
 ·refine .inr ⟨id',a1,by omega,rfl,?_⟩
  rcases tp with⟨rfl,rfl|rfl⟩|⟨id,b1,b2,rfl,b3⟩
  ·simp only[isTail,Option.some.injEq,Prod.mk.injEq]at t1;rw[← t1.1];exact a3
  ·simp only[isTail,Option.some.injEq,Prod.mk.injEq]at t1;rw[← t1.1];exact a3
  ·have hne:id'≠id:=by
    intro e
    subst e
    rw[a3]at b3
    simp only[Option.some.injEq,AObj.arr.injEq]at b3
    exact hz b3.1.symm
   simp only[isTail,b3]at t1
   split at t1
   ·simp only[Option.some.injEq,Prod.mk.injEq]at t1
    rw[← t1.1]
    simp only[Heap.kill]
    rw[if_neg hne];exact a3
   ·cases t1
theorem element_c{h0:Heap}{id:Nat}{p:Pb}{x:Sx}(hok:x.ok)(hsm:x.small)(hb1:p.init.length≤2199023255552)(hb2:p.values.length≤2199023255552)(h:Heap)(hI:PbI h0 id p h):
  PCall Tryz.prog 113 [.ptr id 0 0,.agg x.cells] h fun r h'=>r=errP (elemP p.init p.values x).2.2∧PbI h0 id ⟨p.name,p.domain,p.objects,(elemP p.init p.values x).1,(elemP p.init p.values x).2.1,p.goal⟩ h':=by
 have hc:=phead_c hok
 have ho:=fun w l=>headM_ok2 hok (w:=w) (l:=l)
 have hs:=fun w l=>headM_small hsm (w:=w) (l:=l)
 generalize hF:elemP p.init p.values x=F
 unfold elemP at hF
 have bad: ∀ (c:Int)(h':Heap),(c=2∨c=8)→F=(p.init,p.values,c)→PbI h0 id p h'→errV c=errP F.2.2∧PbI h0 id ⟨p.name,p.domain,p.objects,F.1,F.2.1,p.goal⟩ h':=by
  intro c h' hc hf hI
  subst hf
  exact⟨by rcases hc with rfl|rfl<;>rfl,hI⟩
 simp only[errV]at bad
 obtain⟨kind,value,line,col,text,kids⟩:=x
 simp only[Sx.cells]at hc⊢
 generalize headM (.mk kind value line col text kids)=D at hF hc ho hs
 cases D with
 |none=>
  simp only at hF
  simp only[headV]at hc
  refine pcall_body (ow:=fun _=>false) (wf:=fun _=>false) Ty.mixed Tryz.func113 rfl Ty.hb_113 (by rw[Tryz.ntmps113];simp) ?_
  rw[Tryz.ntmps113,Tryz.results113]
  repeat'(first|refine a_seq fun K hK=>?_|(refine a_regionS ?_;simp(maxSteps:=2000000) only[Ty.w,simprocAttr])|(refine hK _ _ ?_;clear hK;try simp only[pst0,simprocAttr]))
  refine owp_useQ (hc _) (by(try simp only[Ty.w,simprocAttr,]);try rfl) ?_;simp(maxSteps:=2000000) only[Ty.w,simprocAttr,]
  repeat'(first|refine a_seq fun K hK=>?_|((first|refine a_regionS ?_|refine a_ret ?_);simp(maxSteps:=2000000) only[Ty.w,simprocAttr,Bool.not_false])|(refine hK _ _ ?_;clear hK;try simp only[pst0,simprocAttr]))
  exact bad 2 _ (.inl rfl) hF.symm hI
 |some wr=>
  obtain⟨w,rest⟩:=wr
  obtain⟨o1,o2,o3⟩:=ho w rest rfl
  obtain⟨s2,s3⟩:=hs w rest rfl
  clear ho hs
  simp only[headV]at hc
  simp only at hF
  have hl:=Sx.rows_len rest
  cases q1:(w.data.toList==(#[61]:Array UInt8).toList)with
  |false=>
   rw[show bEq w opEq=false from q1]at hF
   simp only[cond_false]at hF
   have ha:=fun h:Heap=>parseAtom_c o1 s2 o3 h
   generalize atomP w rest=A at hF ha
   obtain⟨a,c⟩:=A
   simp only at hF ha
   cases hcc:c==0 with
   |false=>
    rw[hcc]at hF
    simp only[cond_false]at hF
    have e0:errP c=errV c:=by simp only[errP,hcc,cond_false]
    rw[e0]at ha
    simp only[errV,atRow]at ha
    refine pcall_body (ow:=fun _=>false) (wf:=fun _=>false) Ty.mixed Tryz.func113 rfl Ty.hb_113 (by rw[Tryz.ntmps113];simp) ?_
    rw[Tryz.ntmps113,Tryz.results113]
    repeat'(first|refine a_seq fun K hK=>?_|(refine a_regionS ?_;simp(maxSteps:=2000000) only[Ty.w,simprocAttr])|(refine hK _ _ ?_;clear hK;try simp only[pst0,simprocAttr]))
    refine owp_useQ (hc _) (by(try simp only[Ty.w,simprocAttr,]);try rfl) ?_;simp(maxSteps:=2000000) only[Ty.w,simprocAttr,]
    repeat'(first|refine a_seq fun K hK=>?_|(refine a_regionS ?_;simp(maxSteps:=2000000) only[Ty.w,simprocAttr,Bool.not_true,q1])|(refine a_skip ?_;try simp only[pst0,simprocAttr])|(refine a_cond _ (by(try simp(maxSteps:=2000000) only[Ty.w,simprocAttr,Bool.not_true,q1]);rfl) (fun hb=>?_) (fun hb=>?_)<;>(try simp only[hb0,decide_eq_true_eq,decide_eq_false_iff_not,simprocAttr]at hb)<;>(try(exfalso;omega)))|(refine hK _ _ ?_;clear hK;try simp only[pst0,simprocAttr]))
    refine owp_useQ (ha _) (by(try simp only[Ty.w,simprocAttr,]);try rfl) ?_;simp(maxSteps:=2000000) only[Ty.w,simprocAttr,]
    repeat'(first|(with_reducible refine a_hold 6 ?_)|(refine hK _ _ ?_;clear hK;try simp only[pst0,simprocAttr]))
    refine⟨?_⟩
    refine a_tmp 8 rfl (by simp only[Ty.w,simprocAttr]) (fun n H=>by simp only[FrzL,FrzTo,and_true,true_and];exact .inl (strs_in _ _)) ?_
    have hI2:=hI.tmp (.arr 2 [[.sc (.string ⟨#[]⟩),.sc (.slice none 0 0)]]) (.arr 2 [atRow a])
    simp only[atRow]at hI2
    repeat'(first|refine a_seq fun K hK=>?_|((first|refine a_regionS ?_|refine a_ret ?_);simp(maxSteps:=2000000) only[Ty.w,simprocAttr])|(refine hK _ _ ?_;clear hK;try simp only[pst0,simprocAttr]))
    subst hF
    exact⟨e0.symm,hI2⟩
   |true=>
    rw[hcc]at hF
    simp only[cond_true]at hF
    have e0:errP c= .sc .nilIface:=by simp only[errP,hcc,cond_true]
    rw[e0]at ha
    obtain⟨an,aa⟩:=a
    simp only[atRow]at ha
    refine pcall_body (ow:=fun _=>false) (wf:=fun _=>false) Ty.mixed Tryz.func113 rfl Ty.hb_113 (by rw[Tryz.ntmps113];simp) ?_
    rw[Tryz.ntmps113,Tryz.results113]
    repeat'(first|refine a_seq fun K hK=>?_|(refine a_regionS ?_;simp(maxSteps:=2000000) only[Ty.w,simprocAttr])|(refine hK _ _ ?_;clear hK;try simp only[pst0,simprocAttr]))
    refine owp_useQ (hc _) (by(try simp only[Ty.w,simprocAttr,]);try rfl) ?_;simp(maxSteps:=2000000) only[Ty.w,simprocAttr,]
    repeat'(first|refine a_seq fun K hK=>?_|(refine a_regionS ?_;simp(maxSteps:=2000000) only[Ty.w,simprocAttr,Bool.not_true,q1])|(refine a_skip ?_;try simp only[pst0,simprocAttr])|(refine a_cond _ (by(try simp(maxSteps:=2000000) only[Ty.w,simprocAttr,Bool.not_true,q1]);rfl) (fun hb=>?_) (fun hb=>?_)<;>(try simp only[hb0,decide_eq_true_eq,decide_eq_false_iff_not,simprocAttr]at hb)<;>(try(exfalso;omega)))|(refine hK _ _ ?_;clear hK;try simp only[pst0,simprocAttr]))
    refine owp_useQ (ha _) (by(try simp only[Ty.w,simprocAttr,]);try rfl) ?_;simp(maxSteps:=2000000) only[Ty.w,simprocAttr,]
    repeat'(first|(with_reducible refine a_hold 6 ?_)|(refine hK _ _ ?_;clear hK;try simp only[pst0,simprocAttr]))
    refine⟨?_⟩
    refine a_tmp 8 rfl (by simp only[Ty.w,simprocAttr]) (fun n H=>by simp only[FrzL,FrzTo,and_true,true_and];exact .inl (strs_in _ _)) ?_
    refine a_gen (fun S H=>S 0= .ptr id 0 0∧S 8= .cptr [sPV an,.imm 1 (strRows aa)]∧S 9= .sc .nilIface∧PbI h0 id p H) ⟨by simp only[Ty.w,simprocAttr],by simp only[Ty.w,simprocAttr],by simp only[Ty.w,simprocAttr],hI.tmp _ _⟩ ?_
    clear hI
    rintro S h' ⟨g0,g8,g9,hI⟩
    obtain⟨g,idl,o,i,v,g2,g3,g4,g5,gop,gna,gar,gpa,gex,gki,e1,e2,e3,e4,e5,e6⟩:=hI
    obtain⟨H,t1,t2,t3,t4,t5⟩:=e4.tail
    have hk:=t5 h0 ⟨g.le,g.old⟩ (by omega)
    have eo:=Tl.other e4 e5 (by decide) t1 t3
    have hri:=atRows_len p.init
    have hbb:(p.init.length+1)*40≤140737488355328:=by omega
    have n2:(id=H.next)=False:=by simp;omega
    have n3:(id=h'.next)=False:=by simp;omega
    have o2H:H.obj id=_:=(t4 _ (Nat.lt_succ_self _)).trans e2
    have hpc:=e4.cell
    have hap:atRows p.init++[[PV.sc (.string an),.imm 1 (strRows aa)]]=atRows (p.init++[⟨an,aa⟩]):=atRows_app p.init ⟨an,aa⟩
    repeat'(first|refine a_seq fun K hK=>?_|((first|refine a_regionS ?_|refine a_drawS (by decide+kernel) ?_|refine a_ret ?_);simp(maxSteps:=2000000) only[Ty.w,simprocAttr,g0,g8,g9,e2,o2H,n2,n3,t1,t2,t3,hri,hbb,hpc,hap])|(refine a_skip ?_;try simp only[pst0,simprocAttr])|(refine a_cond _ (by(try simp(maxSteps:=2000000) only[Ty.w,simprocAttr,g0,g8,g9,e2,o2H,n2,n3,t1,t2,t3,hri,hbb,hpc,hap]);rfl) (fun hb=>?_) (fun hb=>?_)<;>(try simp only[hb0,decide_eq_true_eq,decide_eq_false_iff_not,simprocAttr]at hb)<;>(try(exfalso;omega)))|(refine hK _ _ ?_;clear hK;try simp only[pst0,simprocAttr])|(with_reducible refine a_past2 (by simp only[List.forall_mem_cons,Ty.w,simprocAttr,g0,g8,g9,e2,o2H,n2,n3,t1,t2,t3,hri,hbb,hpc,hap]<;>(repeat' apply And.intro)<;>first|trivial|exact .inl (by decide+kernel)) ?_;try simp(maxSteps:=2000000) only[Ty.w,simprocAttr,g0,g8,g9,e2,o2H,n2,n3,t1,t2,t3,hri,hbb,hpc,hap]))
    subst hF
    refine⟨rfl,⟨(Grow.new (⟨hk.1,hk.2⟩:Grow h0 H) _).set idl.1 _,⟨idl.1,by simp only[Heap.set,Heap.new];omega⟩,o,.own h'.next 0 (p.init.length+1),v,g2,g3,g4,g5,gop,gna,gar,gpa,gex,gki,e1,by simp only[Heap.set,if_true],e3,?_,?_,e6⟩⟩
    ·rw [← t3]
     exact(Tl.grow (id0:=id+1) (H:=H) (z:=2) (len:=p.init.length+1) (rows:=atRows (p.init++[⟨an,aa⟩])) (by omega) (by simp[atRows_len])).mid (Nat.lt_succ_self _) _
    ·exact eo.up (by simp only[Heap.set,Heap.new];omega) (fun j hj hj2=>by simp only[Heap.set,Heap.new];rw[if_neg (by omega),if_neg (by omega)])
  |true=>
   rw[show bEq w opEq=true from q1]at hF
   simp only[cond_true]at hF
   cases q2:((rest.length:Int) !=2)with
   |true=>
    have e:(p.init,p.values,2)=F:=by
     rw[← hF]
     match rest,q2 with
     |[],_=>rfl
     |[a],_=>rfl
     |[_,_],q=>simp at q
     |_::_::_::_,_=>rfl
    clear hF
    refine pcall_body (ow:=fun _=>false) (wf:=fun _=>false) Ty.mixed Tryz.func113 rfl Ty.hb_113 (by rw[Tryz.ntmps113];simp) ?_
    rw[Tryz.ntmps113,Tryz.results113]
    repeat'(first|refine a_seq fun K hK=>?_|(refine a_regionS ?_;simp(maxSteps:=2000000) only[Ty.w,simprocAttr])|(refine hK _ _ ?_;clear hK;try simp only[pst0,simprocAttr]))
    refine owp_useQ (hc _) (by(try simp only[Ty.w,simprocAttr,]);try rfl) ?_;simp(maxSteps:=2000000) only[Ty.w,simprocAttr,]
    repeat'(first|refine a_seq fun K hK=>?_|((first|refine a_regionS ?_|refine a_ret ?_);simp(maxSteps:=2000000) only[Ty.w,simprocAttr,Bool.not_true,q1,q2,hl])|(refine a_skip ?_;try simp only[pst0,simprocAttr])|(refine a_cond _ (by(try simp(maxSteps:=2000000) only[Ty.w,simprocAttr,Bool.not_true,q1,q2,hl]);rfl) (fun hb=>?_) (fun hb=>?_)<;>(try simp only[hb0,decide_eq_true_eq,decide_eq_false_iff_not,simprocAttr]at hb)<;>(try(exfalso;omega)))|(refine hK _ _ ?_;clear hK;try simp only[pst0,simprocAttr]))
    exact bad 2 _ (.inl rfl) e.symm hI
   |false=>
    obtain⟨f,n,rfl⟩: ∃ f n,rest=[f,n]:=by
     match rest,q2 with
     |[],q=>simp at q
     |[a],q=>simp at q
     |[a,b],_=>exact⟨a,b,rfl⟩
     |_::_::_::l,q=>simp at q;omega
    have hr0:=Sx.rows_get (l:=[f,n]) (i:=0) rfl
    have hr1:=Sx.rows_get (l:=[f,n]) (i:=1) rfl
    have hfo:=o3 f (by simp)
    have hfs:=s3 f (by simp)
    simp only[List.length_cons,List.length_nil,Nat.zero_add,Nat.reduceAdd]at hl q2
    clear o1 o2 o3 s2 s3
    simp only at hF
    generalize Sx.rows [f,n]=R at hc hl hr0 hr1
    have hcf:=phead_c hfo
    have hof:=fun w l=>headM_ok2 hfo (w:=w) (l:=l)
    have hsf:=fun w l=>headM_small hfs (w:=w) (l:=l)
    generalize headM f=D at hF hcf hof hsf
    obtain⟨ki,va,li,co,te,ks⟩:=f
    obtain⟨ki2,va2,li2,co2,te2,ks2⟩:=n
    simp only[Sx.cells,kindOf,valOf]at hr0 hr1 hF hcf
    clear hfo hfs
    cases q3:(ki2 !=2)with
    |true=>
     rw[show(ki2==2)=false by simpa using q3]at hF
     simp only[cond_false]at hF
     refine pcall_body (ow:=fun _=>false) (wf:=fun _=>false) Ty.mixed Tryz.func113 rfl Ty.hb_113 (by rw[Tryz.ntmps113];simp) ?_
     rw[Tryz.ntmps113,Tryz.results113]
     repeat'(first|refine a_seq fun K hK=>?_|(refine a_regionS ?_;simp(maxSteps:=2000000) only[Ty.w,simprocAttr])|(refine hK _ _ ?_;clear hK;try simp only[pst0,simprocAttr]))
     refine owp_useQ (hc _) (by(try simp only[Ty.w,simprocAttr,]);try rfl) ?_;simp(maxSteps:=2000000) only[Ty.w,simprocAttr,]
     repeat'(first|refine a_seq fun K hK=>?_|((first|refine a_regionS ?_|refine a_ret ?_);simp(maxSteps:=2000000) only[Ty.w,simprocAttr,Bool.not_true,q1,q2,q3,hl,hr1])|(refine a_skip ?_;try simp only[pst0,simprocAttr])|(refine a_cond _ (by(try simp(maxSteps:=2000000) only[Ty.w,simprocAttr,Bool.not_true,q1,q2,q3,hl,hr1]);rfl) (fun hb=>?_) (fun hb=>?_)<;>(try simp only[hb0,decide_eq_true_eq,decide_eq_false_iff_not,simprocAttr]at hb)<;>(try(exfalso;omega)))|(refine hK _ _ ?_;clear hK;try simp only[pst0,simprocAttr]))
     exact bad 2 _ (.inl rfl) hF.symm hI
    |false=>
     rw[show(ki2==2)=true by simpa using q3]at hF
     simp only[cond_true]at hF
     cases D with
     |none=>
      simp only at hF
      simp only[headV]at hcf
      refine pcall_body (ow:=fun _=>false) (wf:=fun _=>false) Ty.mixed Tryz.func113 rfl Ty.hb_113 (by rw[Tryz.ntmps113];simp) ?_
      rw[Tryz.ntmps113,Tryz.results113]
      repeat'(first|refine a_seq fun K hK=>?_|(refine a_regionS ?_;simp(maxSteps:=2000000) only[Ty.w,simprocAttr])|(refine hK _ _ ?_;clear hK;try simp only[pst0,simprocAttr]))
      refine owp_useQ (hc _) (by(try simp only[Ty.w,simprocAttr,]);try rfl) ?_;simp(maxSteps:=2000000) only[Ty.w,simprocAttr,]
      repeat'(first|refine a_seq fun K hK=>?_|(refine a_regionS ?_;simp(maxSteps:=2000000) only[Ty.w,simprocAttr,Bool.not_true,q1,q2,q3,hl,hr0,hr1])|(refine a_skip ?_;try simp only[pst0,simprocAttr])|(refine a_cond _ (by(try simp(maxSteps:=2000000) only[Ty.w,simprocAttr,Bool.not_true,q1,q2,q3,hl,hr0,hr1]);rfl) (fun hb=>?_) (fun hb=>?_)<;>(try simp only[hb0,decide_eq_true_eq,decide_eq_false_iff_not,simprocAttr]at hb)<;>(try(exfalso;omega)))|(refine hK _ _ ?_;clear hK;try simp only[pst0,simprocAttr]))
      refine owp_useQ (hcf _) (by(try simp only[Ty.w,simprocAttr,hr0,hr1]);try rfl) ?_;simp(maxSteps:=2000000) only[Ty.w,simprocAttr,hr0,hr1]
      repeat'(first|refine a_seq fun K hK=>?_|((first|refine a_regionS ?_|refine a_ret ?_);simp(maxSteps:=2000000) only[Ty.w,simprocAttr,Bool.not_false])|(refine hK _ _ ?_;clear hK;try simp only[pst0,simprocAttr]))
      exact bad 2 _ (.inl rfl) hF.symm hI
     |some wr=>
      obtain⟨name,args⟩:=wr
      obtain⟨o1,o2,o3⟩:=hof name args rfl
      obtain⟨s2,s3⟩:=hsf name args rfl
      clear hof hsf
      simp only[headV]at hcf
      simp only at hF
      have ha:=fun h:Heap=>parseAtom_c o1 s2 o3 h
      generalize atomP name args=A at hF ha
      obtain⟨a,c⟩:=A
      simp only at hF ha
      cases hcc:c==0 with
      |false=>
       rw[hcc]at hF
       simp only[cond_false]at hF
       have e0:errP c=errV c:=by simp only[errP,hcc,cond_false]
       rw[e0]at ha
       simp only[errV,atRow]at ha
       refine pcall_body (ow:=fun _=>false) (wf:=fun _=>false) Ty.mixed Tryz.func113 rfl Ty.hb_113 (by rw[Tryz.ntmps113];simp) ?_
       rw[Tryz.ntmps113,Tryz.results113]
       repeat'(first|refine a_seq fun K hK=>?_|(refine a_regionS ?_;simp(maxSteps:=2000000) only[Ty.w,simprocAttr])|(refine hK _ _ ?_;clear hK;try simp only[pst0,simprocAttr]))
       refine owp_useQ (hc _) (by(try simp only[Ty.w,simprocAttr,]);try rfl) ?_;simp(maxSteps:=2000000) only[Ty.w,simprocAttr,]
       repeat'(first|refine a_seq fun K hK=>?_|(refine a_regionS ?_;simp(maxSteps:=2000000) only[Ty.w,simprocAttr,Bool.not_true,q1,q2,q3,hl,hr0,hr1])|(refine a_skip ?_;try simp only[pst0,simprocAttr])|(refine a_cond _ (by(try simp(maxSteps:=2000000) only[Ty.w,simprocAttr,Bool.not_true,q1,q2,q3,hl,hr0,hr1]);rfl) (fun hb=>?_) (fun hb=>?_)<;>(try simp only[hb0,decide_eq_true_eq,decide_eq_false_iff_not,simprocAttr]at hb)<;>(try(exfalso;omega)))|(refine hK _ _ ?_;clear hK;try simp only[pst0,simprocAttr]))
       refine owp_useQ (hcf _) (by(try simp only[Ty.w,simprocAttr,hr0,hr1]);try rfl) ?_;simp(maxSteps:=2000000) only[Ty.w,simprocAttr,hr0,hr1]
       repeat'(first|refine a_seq fun K hK=>?_|(refine a_regionS ?_;simp(maxSteps:=2000000) only[Ty.w,simprocAttr,Bool.not_true])|(refine a_skip ?_;try simp only[pst0,simprocAttr])|(refine a_cond _ (by(try simp(maxSteps:=2000000) only[Ty.w,simprocAttr,Bool.not_true]);rfl) (fun hb=>?_) (fun hb=>?_)<;>(try simp only[hb0,decide_eq_true_eq,decide_eq_false_iff_not,simprocAttr]at hb)<;>(try(exfalso;omega)))|(refine hK _ _ ?_;clear hK;try simp only[pst0,simprocAttr]))
       refine owp_useQ (ha _) (by(try simp only[Ty.w,simprocAttr,]);try rfl) ?_;simp(maxSteps:=2000000) only[Ty.w,simprocAttr,]
       repeat'(first|(with_reducible refine a_hold 16 ?_)|(refine hK _ _ ?_;clear hK;try simp only[pst0,simprocAttr]))
       refine⟨?_⟩
       refine a_tmp 12 rfl (by simp only[Ty.w,simprocAttr]) (fun n H=>by simp only[FrzL,FrzTo,and_true,true_and];exact .inl (strs_in _ _)) ?_
       have hI2:=hI.tmp (.arr 2 [[.sc (.string ⟨#[]⟩),.sc (.slice none 0 0)]]) (.arr 2 [atRow a])
       simp only[atRow]at hI2
       repeat'(first|refine a_seq fun K hK=>?_|((first|refine a_regionS ?_|refine a_ret ?_);simp(maxSteps:=2000000) only[Ty.w,simprocAttr])|(refine hK _ _ ?_;clear hK;try simp only[pst0,simprocAttr]))
       subst hF
       exact⟨e0.symm,hI2⟩
      |true=>
       rw[hcc]at hF
       simp only[cond_true]at hF
       have e0:errP c= .sc .nilIface:=by simp only[errP,hcc,cond_true]
       rw[e0]at ha
       obtain⟨an,aa⟩:=a
       simp only[atRow]at ha
       refine pcall_body (ow:=fun _=>false) (wf:=fun _=>false) Ty.mixed Tryz.func113 rfl Ty.hb_113 (by rw[Tryz.ntmps113];simp) ?_
       rw[Tryz.ntmps113,Tryz.results113]
       repeat'(first|refine a_seq fun K hK=>?_|(refine a_regionS ?_;simp(maxSteps:=2000000) only[Ty.w,simprocAttr])|(refine hK _ _ ?_;clear hK;try simp only[pst0,simprocAttr]))
       refine owp_useQ (hc _) (by(try simp only[Ty.w,simprocAttr,]);try rfl) ?_;simp(maxSteps:=2000000) only[Ty.w,simprocAttr,]
       repeat'(first|refine a_seq fun K hK=>?_|(refine a_regionS ?_;simp(maxSteps:=2000000) only[Ty.w,simprocAttr,Bool.not_true,q1,q2,q3,hl,hr0,hr1])|(refine a_skip ?_;try simp only[pst0,simprocAttr])|(refine a_cond _ (by(try simp(maxSteps:=2000000) only[Ty.w,simprocAttr,Bool.not_true,q1,q2,q3,hl,hr0,hr1]);rfl) (fun hb=>?_) (fun hb=>?_)<;>(try simp only[hb0,decide_eq_true_eq,decide_eq_false_iff_not,simprocAttr]at hb)<;>(try(exfalso;omega)))|(refine hK _ _ ?_;clear hK;try simp only[pst0,simprocAttr]))
       refine owp_useQ (hcf _) (by(try simp only[Ty.w,simprocAttr,hr0,hr1]);try rfl) ?_;simp(maxSteps:=2000000) only[Ty.w,simprocAttr,hr0,hr1]
       repeat'(first|refine a_seq fun K hK=>?_|(refine a_regionS ?_;simp(maxSteps:=2000000) only[Ty.w,simprocAttr,Bool.not_true])|(refine a_skip ?_;try simp only[pst0,simprocAttr])|(refine a_cond _ (by(try simp(maxSteps:=2000000) only[Ty.w,simprocAttr,Bool.not_true]);rfl) (fun hb=>?_) (fun hb=>?_)<;>(try simp only[hb0,decide_eq_true_eq,decide_eq_false_iff_not,simprocAttr]at hb)<;>(try(exfalso;omega)))|(refine hK _ _ ?_;clear hK;try simp only[pst0,simprocAttr]))
       refine owp_useQ (ha _) (by(try simp only[Ty.w,simprocAttr,]);try rfl) ?_;simp(maxSteps:=2000000) only[Ty.w,simprocAttr,]
       repeat'(first|(with_reducible refine a_hold 16 ?_)|(refine hK _ _ ?_;clear hK;try simp only[pst0,simprocAttr]))
       refine⟨?_⟩
       refine a_tmp 12 rfl (by simp only[Ty.w,simprocAttr]) (fun n H=>by simp only[FrzL,FrzTo,and_true,true_and];exact .inl (strs_in _ _)) ?_
       refine a_gen (fun S H=>S 0= .ptr id 0 0∧S 6= .imm 6 R∧S 12= .cptr [sPV an,.imm 1 (strRows aa)]∧S 13= .sc .nilIface∧PbI h0 id p H) ⟨by simp only[Ty.w,simprocAttr],by simp only[Ty.w,simprocAttr],by simp only[Ty.w,simprocAttr],by simp only[Ty.w,simprocAttr],hI.tmp _ _⟩ ?_
       clear hI
       rintro S h' ⟨g0,g6,g12,g13,hI⟩
       obtain⟨g,idl,o,i,v,g2,g3,g4,g5,gop,gna,gar,gpa,gex,gki,e1,e2,e3,e4,e5,e6⟩:=hI
       obtain⟨H,t1,t2,t3,t4,t5⟩:=e5.tail
       have hk:=t5 h0 ⟨g.le,g.old⟩ (by omega)
       have eo:=Tl.other e5 e4 (by decide) t1 t3
       have hri:=vlRows_len p.values
       have hbb:(p.values.length+1)*48≤140737488355328:=by omega
       have n2:(id=H.next)=False:=by simp;omega
       have n3:(id=h'.next)=False:=by simp;omega
       have o2H:H.obj id=_:=(t4 _ (Nat.lt_succ_self _)).trans e2
       have hpc:=e5.cell
       have hap:vlRows p.values++[[PV.sc (.string an),.imm 1 (strRows aa),.sc (.int .i64 va2)]]=vlRows (p.values++[⟨⟨an,aa⟩,va2⟩]):=vlRows_app p.values ⟨⟨an,aa⟩,va2⟩
       repeat'(first|refine a_seq fun K hK=>?_|((first|refine a_regionS ?_|refine a_drawS (by decide+kernel) ?_|refine a_ret ?_);simp(maxSteps:=2000000) only[Ty.w,simprocAttr,g0,g6,g12,g13,hr1,e2,o2H,n2,n3,t1,t2,t3,hri,hbb,hpc,hap])|(refine a_skip ?_;try simp only[pst0,simprocAttr])|(refine a_cond _ (by(try simp(maxSteps:=2000000) only[Ty.w,simprocAttr,g0,g6,g12,g13,hr1,e2,o2H,n2,n3,t1,t2,t3,hri,hbb,hpc,hap]);rfl) (fun hb=>?_) (fun hb=>?_)<;>(try simp only[hb0,decide_eq_true_eq,decide_eq_false_iff_not,simprocAttr]at hb)<;>(try(exfalso;omega)))|(refine hK _ _ ?_;clear hK;try simp only[pst0,simprocAttr])|(with_reducible refine a_past2 (by simp only[List.forall_mem_cons,Ty.w,simprocAttr,g0,g6,g12,g13,hr1,e2,o2H,n2,n3,t1,t2,t3,hri,hbb,hpc,hap]<;>(repeat' apply And.intro)<;>first|trivial|exact .inl (by decide+kernel)) ?_;try simp(maxSteps:=2000000) only[Ty.w,simprocAttr,g0,g6,g12,g13,hr1,e2,o2H,n2,n3,t1,t2,t3,hri,hbb,hpc,hap]))
       subst hF
       refine⟨rfl,⟨(Grow.new (⟨hk.1,hk.2⟩:Grow h0 H) _).set idl.1 _,⟨idl.1,by simp only[Heap.set,Heap.new];omega⟩,o,i,.own h'.next 0 (p.values.length+1),g2,g3,g4,g5,gop,gna,gar,gpa,gex,gki,e1,by simp only[Heap.set,if_true],e3,?_,?_,e6⟩⟩
       ·exact eo.up (by simp only[Heap.set,Heap.new];omega) (fun j hj hj2=>by simp only[Heap.set,Heap.new];rw[if_neg (by omega),if_neg (by omega)])
       ·rw [← t3]
        exact(Tl.grow (id0:=id+1) (H:=H) (z:=3) (len:=p.values.length+1) (rows:=vlRows (p.values++[⟨⟨an,aa⟩,va2⟩])) (by omega) (by simp[vlRows_len])).mid (Nat.lt_succ_self _) _
end Go.Proofs.YtjeolbgpllbemaaGreat
namespace Go.Proofs.YtjeolbgpllbemaaGreat
open Go.AM
set_option maxHeartbeats 8000000
set_option maxRecDepth 20000
theorem elemP_len(a:List At)(v:List Vl)(x:Sx):(elemP a v x).1.length≤a.length+1∧(elemP a v x).2.1.length≤v.length+1:=by
 unfold elemP
 split
 ·simp
 ·rename_i w rest _
  cases bEq w opEq with
  |true=>
   simp only[cond_true]
   split
   ·rename_i f n _
    cases kindOf n==2 with
    |false=>simp
    |true=>
     simp only[cond_true]
     split
     ·simp
     ·rename_i name args _
      cases(atomP name args).2==0<;>simp
   ·simp
  |false=>
   simp only[cond_false]
   cases(atomP w rest).2==0<;>simp
theorem elemsP_len: ∀ (l:List Sx)(a:List At)(v:List Vl),(elemsP a v l).1.length≤a.length+l.length∧(elemsP a v l).2.1.length≤v.length+l.length
 |[],a,v=>by simp[elemsP]
 |x::l,a,v=>by
  have h1:=elemP_len a v x
  simp only[elemsP]
  generalize elemP a v x=W at h1⊢
  obtain⟨a',v',c⟩:=W
  simp only at h1⊢
  cases c==0 with
  |true=>
   have h2:=elemsP_len l a' v'
   simp only[cond_true,List.length_cons]
   omega
  |false=>
   simp only[cond_false,List.length_cons]
   omega
theorem elemP_code(a:List At)(v:List Vl)(x:Sx):(elemP a v x).2.2=0∨(elemP a v x).2.2=2∨(elemP a v x).2.2=8:=by
 have hA: ∀ w l,(atomP w l).2=0∨(atomP w l).2=2∨(atomP w l).2=8:=by
  intro w l
  unfold atomP
  have:=namesM_code l
  cases nameB w with
  |false=>simp
  |true=>
   simp only[cond_true]
   cases h:(namesM l).2==0 with
   |true=>simp
   |false=>
    simp only[cond_false]
    rcases this with h2|h2
    ·rw [h2]at h;simp at h
    ·exact .inr h2.2
 unfold elemP
 split
 ·simp
 ·rename_i w rest _
  cases bEq w opEq with
  |true=>
   simp only[cond_true]
   split
   ·rename_i f n _
    cases kindOf n==2 with
    |false=>simp
    |true=>
     simp only[cond_true]
     split
     ·simp
     ·rename_i name args _
      have:=hA name args
      cases h:(atomP name args).2==0 with
      |true=>simp
      |false=>simpa using this
   ·simp
  |false=>
   simp only[cond_false]
   have:=hA w rest
   cases h:(atomP w rest).2==0 with
   |true=>simp
   |false=>simpa using this
theorem section_c{h0:Heap}{id:Nat}{p:Pb}{w:ByteArray}{rest:List Sx}(hl:rest.length≤1048576)(hok: ∀ y∈rest,y.ok)(hsm: ∀ y∈rest,y.small)(hb1:p.init.length≤1099511627776)(hb2:p.values.length≤1099511627776)(h:Heap)(hI:PbI h0 id p h):
  PCall Tryz.prog 78 [.ptr id 0 0,sPV w,.imm 6 (Sx.rows rest)] h fun r h'=>r=errP (sectP p w rest).2∧PbI h0 id (sectP p w rest).1 h':=by
 have hll:=Sx.rows_len rest
 generalize hF:sectP p w rest=F
 unfold sectP at hF
 cases q1:(w.data.toList==(#[58,111,98,106,101,99,116,115]:Array UInt8).toList)with
 |true=>
  rw[show bEq w opObjs=true from q1]at hF
  simp only[cond_true]at hF
  have hp:=fun h:Heap=>parseParams_c (vars:=false) hl hok h
  generalize paramsP false rest=L at hF hp
  obtain⟨l,c⟩:=L
  simp only at hF hp
  subst hF
  obtain⟨g,idl,o,i,v,g2,g3,g4,g5,gop,gna,gar,gpa,gex,gki,e1,e2,e3,e4,e5,e6⟩:=hI
  refine pcall_body (ow:=fun _=>false) (wf:=fun _=>false) Ty.mixed Tryz.func78 rfl Ty.hb_78 (by rw[Tryz.ntmps78];simp) ?_
  rw[Tryz.ntmps78,Tryz.results78]
  repeat'(first|refine a_seq fun K hK=>?_|(refine a_block ?_)|((first|refine a_regionS ?_|refine a_region (fun K hK=>?_));simp(maxSteps:=2000000) only[Ty.w,simprocAttr,q1])|(refine hK _ _ ?_;clear hK;try simp only[pst0,simprocAttr]))
  refine owp_useQ (hp _) (by(try simp only[Ty.w,simprocAttr,e2]);try rfl) ?_;simp(maxSteps:=2000000) only[Ty.w,simprocAttr,e2]
  repeat'(first|refine a_seq fun K hK=>?_|((first|refine a_regionS ?_|refine a_ret ?_);simp(maxSteps:=2000000) only[Ty.w,simprocAttr,e2])|(refine hK _ _ ?_;clear hK;try simp only[pst0,simprocAttr]))
  refine⟨g.set idl.1 _,⟨idl.1,idl.2⟩,.imm 2 (pmRows l),i,v,g2,g3,g4,g5,gop,gna,gar,gpa,gex,gki,e1,by simp only[Heap.set,if_true],.inl rfl,?_,?_,e6⟩
  ·exact e4.up (Nat.le_refl _) (fun j hj hj2=>by simp only[Heap.set];rw[if_neg (by omega)])
  ·exact e5.up (Nat.le_refl _) (fun j hj hj2=>by simp only[Heap.set];rw[if_neg (by omega)])
 |false=>
  rw[show bEq w opObjs=false from q1]at hF
  simp only[cond_false]at hF
  cases q2:(w.data.toList==(#[58,105,110,105,116]:Array UInt8).toList)with
  |false=>
   rw[show bEq w opInit=false from q2]at hF
   simp only[cond_false]at hF
   cases q3:((rest.length:Int) !=1)with
   |true=>
    have e:F=(p,2):=by
     rw[← hF]
     match rest,q3 with
     |[],_=>rfl
     |[a],q=>simp at q
     |_::_::_,_=>rfl
    subst e
    clear hF
    refine pcall_body (ow:=fun _=>false) (wf:=fun _=>false) Ty.mixed Tryz.func78 rfl Ty.hb_78 (by rw[Tryz.ntmps78];simp) ?_
    rw[Tryz.ntmps78,Tryz.results78]
    repeat'(first|refine a_seq fun K hK=>?_|((first|refine a_regionS ?_|refine a_ret ?_);simp(maxSteps:=2000000) only[Ty.w,simprocAttr,q1,q2,q3,hll])|(refine hK _ _ ?_;clear hK;try simp only[pst0,simprocAttr]))
    exact⟨rfl,hI⟩
   |false=>
    obtain⟨x,rfl⟩: ∃ x,rest=[x]:=by
     match rest,q3 with
     |[],q=>simp at q
     |[a],_=>exact⟨a,rfl⟩
     |_::_::l,q=>simp at q;omega
    simp only at hF
    have hr:=Sx.rows_get (l:=[x]) (i:=0) rfl
    have hp:=fun h:Heap=>Parse_c (hok x (by simp)) h
    simp only[List.length_cons,List.length_nil,Nat.zero_add]at hll q3
    generalize Sx.rows [x]=R at hll hr⊢
    generalize parseF x=L at hF hp
    obtain⟨⟨fop,fna,far,fpa,fex,fki⟩,c⟩:=L
    obtain⟨ki,va,li,co,te,ks⟩:=x
    simp only at hF hp
    simp only[Sx.cells,Fm.cells]at hr hp
    subst hF
    obtain⟨g,idl,o,i,v,g2,g3,g4,g5,gop,gna,gar,gpa,gex,gki,e1,e2,e3,e4,e5,e6⟩:=hI
    refine pcall_body (ow:=fun _=>false) (wf:=fun _=>false) Ty.mixed Tryz.func78 rfl Ty.hb_78 (by rw[Tryz.ntmps78];simp) ?_
    rw[Tryz.ntmps78,Tryz.results78]
    repeat'(first|refine a_seq fun K hK=>?_|((first|refine a_regionS ?_|refine a_region (fun K hK=>?_));simp(maxSteps:=2000000) only[Ty.w,simprocAttr,q1,q2,q3,hll,hr])|(refine a_skip ?_;try simp only[pst0,simprocAttr])|(refine a_cond _ (by(try simp(maxSteps:=2000000) only[Ty.w,simprocAttr,q1,q2,q3,hll,hr]);rfl) (fun hb=>?_) (fun hb=>?_)<;>(try simp only[hb0,decide_eq_true_eq,decide_eq_false_iff_not,simprocAttr]at hb)<;>(try(exfalso;omega)))|(refine hK _ _ ?_;clear hK;try simp only[pst0,simprocAttr]))
    refine owp_useQ (hp _) (by(try simp only[Ty.w,simprocAttr,hll,hr,e2]);try rfl) ?_;simp(maxSteps:=2000000) only[Ty.w,simprocAttr,hll,hr,e2]
    repeat'(first|refine a_seq fun K hK=>?_|((first|refine a_regionS ?_|refine a_ret ?_);simp(maxSteps:=2000000) only[Ty.w,simprocAttr,e2])|(refine hK _ _ ?_;clear hK;try simp only[pst0,simprocAttr]))
    refine⟨g.set idl.1 _,⟨idl.1,idl.2⟩,o,i,v,_,_,_,_,fop,fna,far,fpa,fex,fki,rfl,by simp only[Heap.set,if_true],e3,?_,?_,.inl rfl,.inl rfl,.inl rfl,.inl rfl⟩
    ·exact e4.up (Nat.le_refl _) (fun j hj hj2=>by simp only[Heap.set];rw[if_neg (by omega)])
    ·exact e5.up (Nat.le_refl _) (fun j hj hj2=>by simp only[Heap.set];rw[if_neg (by omega)])
  |true=>
   rw[show bEq w opInit=true from q2]at hF
   simp only[cond_true]at hF
   generalize hE:elemsP p.init p.values rest=E at hF
   refine pcall_body (ow:=fun _=>false) (wf:=fun _=>false) Ty.mixed Tryz.func78 rfl Ty.hb_78 (by rw[Tryz.ntmps78];simp) ?_
   rw[Tryz.ntmps78,Tryz.results78]
   repeat'(first|refine a_seq fun K hK=>?_|(refine a_block ?_)|(refine a_regionS ?_;simp(maxSteps:=2000000) only[Ty.w,simprocAttr,q1,q2,hll])|(refine hK _ _ ?_;clear hK;try simp only[pst0,simprocAttr]))
   refine a_loop (fun m S h'=>S 0= .ptr id 0 0∧S 38= .imm 6 (Sx.rows rest)∧S 39= .sc (.int .i64 rest.length)∧S 7= .sc .nilIface∧ ∃ (k:Nat)(a:List At)(v:List Vl),S 40= .sc (.int .i64 k)∧k≤rest.length∧m=rest.length-k∧a.length≤p.init.length+k∧v.length≤p.values.length+k∧
    PbI h0 id ⟨p.name,p.domain,p.objects,a,v,p.goal⟩ h'∧E=elemsP a v (rest.drop k)) rest.length ?_ ?_
   ·simp only[Ty.w,simprocAttr]
    exact⟨0,p.init,p.values,rfl,by omega,rfl,by omega,by omega,hI,by rw[List.drop_zero];exact hE.symm⟩
   ·clear hI hE
    rintro m S h' ⟨gs0,g38,g39,g7,k,a,v,g40,hk,rfl,hal,hvl,hI,hinv⟩
    by_cases hlt:k<rest.length
    ·have hd:decide ((k:Int)<(rest.length:Int))=true:=by simp;omega
     have w7:IntKind.i64.wrap ((k:Int)+1)=k+1:=by rw[wrap64 (by omega) (by omega)]
     obtain⟨x,hx⟩: ∃ x,rest[k]? =some x:=⟨_,List.getElem?_eq_getElem hlt⟩
     have hr:=Sx.rows_get hx
     have hmem:=List.mem_of_getElem? hx
     rw[drop_of_get hx]at hinv
     simp only[elemsP]at hinv
     have hcd:=elemP_code a v x
     have hle:=elemP_len a v x
     have hel:=fun(H:Heap)(hI:PbI h0 id ⟨p.name,p.domain,p.objects,a,v,p.goal⟩ H)=>element_c (hok x hmem) (hsm x hmem) (by simp only;omega) (by simp only;omega) H hI
     simp only at hel
     generalize elemP a v x=W at hinv hcd hle hel
     obtain⟨a2,v2,c⟩:=W
     simp only at hinv hcd hle hel
     obtain⟨ki,va,li,co,te,ks⟩:=x
     simp only[Sx.cells]at hr hel
     repeat'(first|(with_reducible refine a_holdR 12 ?_)|refine a_seq fun K hK=>?_|(refine a_regionS ?_;simp(maxSteps:=2000000) only[Ty.w,simprocAttr,gs0,g7,g38,g39,g40,hd,hr])|(refine a_skip ?_;try simp only[pst0,simprocAttr])|(refine a_cond _ (by(try simp(maxSteps:=2000000) only[Ty.w,simprocAttr,gs0,g7,g38,g39,g40,hd,hr]);rfl) (fun hb=>?_) (fun hb=>?_)<;>(try simp only[hb0,decide_eq_true_eq,decide_eq_false_iff_not,simprocAttr]at hb)<;>(try(exfalso;omega)))|(refine hK _ _ ?_;clear hK;try simp only[pst0,simprocAttr]))
     refine⟨?_⟩
     refine a_tmp 9 rfl (by simp only[Ty.w,simprocAttr]) (sx_frz' · · ki va li co te ks) ?_
     refine a_gen (fun S H=>S 0= .ptr id 0 0∧S 38= .imm 6 (Sx.rows rest)∧S 39= .sc (.int .i64 rest.length)∧S 7= .sc .nilIface∧S 40= .sc (.int .i64 k)∧S 9= .cptr [.sc (.int .i64 ki),.sc (.int .i64 va),.sc (.int .i64 li),.sc (.int .i64 co),sPV te,.imm 6 (Sx.rows ks)]∧PbI h0 id ⟨p.name,p.domain,p.objects,a,v,p.goal⟩ H) ⟨by simp only[Ty.w,simprocAttr,gs0],by simp only[Ty.w,simprocAttr,g38],by simp only[Ty.w,simprocAttr,g39],by simp only[Ty.w,simprocAttr,g7],by simp only[Ty.w,simprocAttr,g40],by simp only[Ty.w,simprocAttr],hI.tmp _ _⟩ ?_
     clear hI gs0 g38 g39 g7 g40 hr hd
     rintro S h' ⟨gs0,g38,g39,g7,g40,g9,hI⟩
     repeat'(first|refine a_seq fun K hK=>?_|(refine a_regionS ?_;simp(maxSteps:=2000000) only[Ty.w,simprocAttr,gs0,g9]))
     refine owp_useL (hel _ hI) (by simp only[Ty.w,simprocAttr,gs0,g9];try rfl) ?_
     rintro r h2 ⟨rfl,hI2⟩
     clear hI
     simp(maxSteps:=2000000) only[Ty.w,simprocAttr,Ty.all]
     cases hcc:c==0 with
     |false=>
      rw[hcc]at hinv
      simp only[cond_false]at hinv
      have e0:errP c=errV c:=by simp only[errP,hcc,cond_false]
      simp only[e0,errV]
      repeat'(first|refine a_seq fun K hK=>?_|((first|refine a_regionS ?_|refine a_ret ?_);simp(maxSteps:=2000000) only[Ty.w,simprocAttr])|(refine hK _ _ ?_;clear hK;try simp only[pst0,simprocAttr]))
      subst hinv;subst hF
      exact⟨e0.symm,hI2⟩
     |true=>
      rw[hcc]at hinv
      simp only[cond_true]at hinv
      have e0:errP c= .sc .nilIface:=by simp only[errP,hcc,cond_true]
      simp only[e0]
      repeat'(first|refine a_seq fun K hK=>?_|(refine a_block ?_)|(refine a_regionS ?_;simp(maxSteps:=2000000) only[Ty.w,simprocAttr,gs0,g38,g39,g7,g40,w7])|(refine a_skip ?_;try simp only[pst0,simprocAttr])|(refine hK _ _ ?_;clear hK;try simp only[pst0,simprocAttr]))
      exact⟨rest.length-(k+1),by omega,k+1,a2,v2,by simp,by omega,rfl,by omega,by omega,hI2,hinv⟩
    ·have hd:decide ((k:Int)<(rest.length:Int))=false:=by simp;omega
     rw[List.drop_eq_nil_of_le (by omega)]at hinv
     simp only[elemsP]at hinv
     subst hinv;subst hF
     repeat'(first|refine a_seq fun K hK=>?_|((first|refine a_regionS ?_|refine a_ret ?_);simp(maxSteps:=2000000) only[Ty.w,simprocAttr,gs0,g7,g38,g39,g40,hd])|(refine a_exit ?_;try simp only[pst0,simprocAttr])|(refine a_cond _ (by(try simp(maxSteps:=2000000) only[Ty.w,simprocAttr,gs0,g7,g38,g39,g40,hd]);rfl) (fun hb=>?_) (fun hb=>?_)<;>(try simp only[hb0,decide_eq_true_eq,decide_eq_false_iff_not,simprocAttr]at hb)<;>(try(exfalso;omega)))|((first|refine hK _ _ ?_|(clear hK;refine hK _ _ ?_));clear hK;try simp only[pst0,simprocAttr]))
     exact⟨rfl,hI⟩
end Go.Proofs.YtjeolbgpllbemaaGreat
namespace Go.Proofs.YtjeolbgpllbemaaGreat
open Go.AM
set_option maxHeartbeats 8000000
set_option maxRecDepth 20000
theorem ats_frz(n:Nat)(h:Heap): ∀ l:List At,FrzR n h (atRows l) (atRows l)
 |[]=>by simp only[atRows,List.map_nil,FrzR]
 |a::l=>by
  have:=ats_frz n h l
  simp only[atRows,List.map_cons,FrzR,atRow,FrzL,FrzTo,and_true,true_and]at this⊢
  exact⟨.inl (strs_in _ _),this⟩
theorem vls_frz(n:Nat)(h:Heap): ∀ l:List Vl,FrzR n h (vlRows l) (vlRows l)
 |[]=>by simp only[vlRows,List.map_nil,FrzR]
 |a::l=>by
  have:=vls_frz n h l
  simp only[vlRows,List.map_cons,FrzR,vlRow,FrzL,FrzTo,and_true,true_and]at this⊢
  exact⟨.inl (strs_in _ _),this⟩
theorem PbI.frz{h:Heap}{id n:Nat}{p:Pb}{o i v g2 g3 g4 g5:PV}{gop gna:ByteArray}{gar:List ByteArray}{gpa:List Pm}{gex:List Ex}{gki:List Fm}{c:Int}(hn:n≤id)(e1:p.goal= .mk gop gna gar gpa gex gki)
  (e3:NilOr 2 (pmRows p.objects) o)(e4:Tl h (id+1) 2 i (atRows p.init))(e5:Tl h (id+1) 3 v (vlRows p.values))(e6:NilOr 1 (strRows gar) g2∧NilOr 2 (pmRows gpa) g3∧NilOr 5 (Ex.rows gex) g4∧NilOr 6 (Fm.rows gki) g5)(ec: ∃ u,errP c= .sc u):
  FrzTo n h (.tup [.agg p.cells,errP c]) (.tup [.agg [sPV p.name,sPV p.domain,o,i,v,sPV gop,sPV gna,g2,g3,g4,g5],errP c]):=by
 obtain⟨u,hu⟩:=ec
 obtain⟨pn,pd,po,pi,pv,pg⟩:=p
 simp only at e1 e3 e4 e5
 subst e1
 simp only[Pb.cells,Fm.cells,List.cons_append,List.nil_append]
 rw[hu]
 simp only[FrzTo,FrzL]
 refine⟨_,rfl,⟨_,rfl,rfl,rfl,?_,?_,?_,rfl,rfl,?_,?_,?_,?_,trivial⟩,rfl,trivial⟩
 ·simpa only[FrzTo]using e3.frz h (pms_in n po)
 ·simpa only[FrzTo]using e4.frzR (by omega) (ats_frz n h pi)
 ·simpa only[FrzTo]using e5.frzR (by omega) (vls_frz n h pv)
 ·simpa only[FrzTo]using e6.1.frz h (strs_in n gar)
 ·simpa only[FrzTo]using e6.2.1.frz h (pms_in n gpa)
 ·simpa only[FrzTo]using e6.2.2.1.frz h (exs_in n gex)
 ·simpa only[FrzTo]using e6.2.2.2.frz h (fms_in n gki)
theorem errP_u(c:Int): ∃ u,errP c= .sc u:=by
 unfold errP errV
 cases c==0<;>exact⟨_,rfl⟩
theorem bEq_comm(a b:ByteArray):bEq a b=bEq b a:=by
 unfold bEq
 exact Bool.beq_comm
theorem after_idx(w:ByteArray): ∀ o:List ByteArray,(afterB o w=none∧idxM o w= -1)∨ ∃ k:Nat,k<o.length∧idxM o w=(k:Int)∧afterB o w=some (o.drop (k+1))
 |[]=> .inl ⟨rfl,rfl⟩
 |a::o=>by
  unfold idxM
  rw[List.findIdx?_cons]
  simp only[afterB,bEq_comm a w]
  cases h:bEq w a with
  |true=>exact .inr ⟨0,by simp,by simp,by simp⟩
  |false=>
   simp only[cond_false]
   rcases after_idx w o with⟨h1,h2⟩|⟨k,h1,h2,h3⟩
   ·left
    refine⟨h1,?_⟩
    unfold idxM at h2
    cases h4:o.findIdx? (fun v=>bEq w v)with
    |none=>simp
    |some i=>rw[h4]at h2;simp only at h2;omega
   ·right
    refine⟨k+1,by simp;omega,?_,by simpa using h3⟩
    unfold idxM at h2
    cases h4:o.findIdx? (fun v=>bEq w v)with
    |none=>rw[h4]at h2;simp only at h2;omega
    |some i=>rw[h4]at h2;simp only at h2;simp;omega
abbrev pbZ:List PV:=[.sc (.string ⟨#[]⟩),.sc (.string ⟨#[]⟩),.sc (.slice none 0 0),.sc (.slice none 0 0),.sc (.slice none 0 0),.sc (.string ⟨#[]⟩),.sc (.string ⟨#[]⟩),.sc (.slice none 0 0),.sc (.slice none 0 0),.sc (.slice none 0 0),.sc (.slice none 0 0)]
theorem pb_fin{h H:Heap}{X:AObj}{q:Pb}{F:Pb × Int}{c:Int}{u o i v g2 g3 g4 g5:PV}{gop gna:ByteArray}{gar:List ByteArray}{gpa:List Pm}{gex:List Ex}{gki:List Fm}(hF:F=(q,c))(hu:errP c=u)(g:Grow (h.new (.arr 11 [pbZ])) H)(e1:q.goal= .mk gop gna gar gpa gex gki)
  (e3:NilOr 2 (pmRows q.objects) o)(e4:Tl H (h.next+1+1) 2 i (atRows q.init))(e5:Tl H (h.next+1+1) 3 v (vlRows q.values))(e6:NilOr 1 (strRows gar) g2∧NilOr 2 (pmRows gpa) g3∧NilOr 5 (Ex.rows gex) g4∧NilOr 6 (Fm.rows gki) g5):
  FrzTo h.next (H.set h.next X) (.tup [.agg F.1.cells,errP F.2]) (.tup [.agg [sPV q.name,sPV q.domain,o,i,v,sPV gop,sPV gna,g2,g3,g4,g5],u])∧Grow h (H.set h.next X):=by
 subst hF;subst hu
 refine⟨PbI.frz (id:=h.next+1) (by omega) e1 e3 (e4.mid (by omega) _) (e5.mid (by omega) _) e6 (errP_u c),(((Grow.refl h).new _).trans g).set (Nat.le_refl _) _⟩
theorem sects_small{x:Sx}{n d:Sx}{l:List Sx}{w:ByteArray}(hok:x.ok)(hsm:x.small)(h:headM x=some (w,n::d::l)):n.ok∧d.ok∧(∀ y∈l,y.ok)∧(∀ y∈l,y.small)∧l.length≤1048576:=by
 obtain⟨_,_,o3⟩:=headM_ok2 hok h
 obtain⟨s2,s3⟩:=headM_small hsm h
 exact⟨o3 n (by simp),o3 d (by simp),fun y hy=>o3 y (by simp[hy]),fun y hy=>s3 y (by simp[hy]),by simp at s2;omega⟩
theorem namedP_err{x:Sx}{want:ByteArray}:((namedP x want).2==0)=false→(namedP x want).1=⟨#[]⟩:=by
 unfold namedP
 split
 ·rename_i w rest _
  cases bEq w want with
  |false=>simp
  |true=>
   simp only[cond_true]
   split
   ·rename_i r _
    cases kindOf r==1 with
    |false=>simp
    |true=>
     simp only[cond_true]
     cases nameB (textOf r)<;>simp
   ·simp
 ·simp
theorem sectP_len(p:Pb)(w:ByteArray)(rest:List Sx):(sectP p w rest).1.init.length≤p.init.length+rest.length∧(sectP p w rest).1.values.length≤p.values.length+rest.length:=by
 unfold sectP
 cases bEq w opObjs with
 |true=>simp
 |false=>
  simp only[cond_false]
  cases bEq w opInit with
  |true=>simp only[cond_true];exact elemsP_len rest p.init p.values
  |false=>
   simp only[cond_false]
   split<;>simp
theorem PbI.setN{h0 H:Heap}{id:Nat}{p:Pb}{o i v g2 g3 g4 g5:PV}{gop gna:ByteArray}{gar:List ByteArray}{gpa:List Pm}{gex:List Ex}{gki:List Fm}{a d:ByteArray}(g:Grow h0 H)(idl:h0.next≤id∧id<H.next)(e1:p.goal= .mk gop gna gar gpa gex gki)
  (e3:NilOr 2 (pmRows p.objects) o)(e4:Tl H (id+1) 2 i (atRows p.init))(e5:Tl H (id+1) 3 v (vlRows p.values))(e6:NilOr 1 (strRows gar) g2∧NilOr 2 (pmRows gpa) g3∧NilOr 5 (Ex.rows gex) g4∧NilOr 6 (Fm.rows gki) g5):
  PbI h0 id ⟨a,d,p.objects,p.init,p.values,p.goal⟩ (H.set id (.arr 11 [[sPV a,sPV d,o,i,v,sPV gop,sPV gna,g2,g3,g4,g5]])):=
 ⟨g.set idl.1 _,⟨idl.1,idl.2⟩,o,i,v,g2,g3,g4,g5,gop,gna,gar,gpa,gex,gki,e1,by simp only[Heap.set,if_true],e3,e4.mid (Nat.lt_succ_self _) _,e5.mid (Nat.lt_succ_self _) _,e6⟩
theorem pparse_c{x:Sx}(hok:x.ok)(hsm:x.small)(h:Heap):PCall Tryz.prog 36 [.agg x.cells] h fun r h'=>r= .tup [.agg (pbP x).1.cells,errP (pbP x).2]∧h'=h:=by
 refine PCall.frz Ty.hb_36 ?_
 have hc:=phead_c hok
 have ho:=fun w l=>headM_ok2 hok (w:=w) (l:=l)
 have hs:=fun n d l w=>sects_small (n:=n) (d:=d) (l:=l) (w:=w) hok hsm
 generalize hF:pbP x=F
 unfold pbP at hF
 have e2:errP 2=errV 2:=rfl
 obtain⟨kind,value,line,col,text,kids⟩:=x
 simp only[Sx.cells]at hc⊢
 generalize headM (.mk kind value line col text kids)=D at hF hc ho hs
 have hI0: ∀ a:AObj,PbI (h.new (.arr 11 [pbZ])) (h.next+1) (pb0 ⟨#[]⟩ ⟨#[]⟩) (((h.new (.arr 11 [pbZ])).new a).set (h.next+1) (.arr 11 [[.sc (.string ⟨#[]⟩),.sc (.string ⟨#[]⟩),.sc (.slice none 0 0),.sc (.slice none 0 0),.sc (.slice none 0 0),.sc (.string ⟨#[97,110,100]⟩),.sc (.string ⟨#[]⟩),.sc (.slice none 0 0),.sc (.slice none 0 0),.sc (.slice none 0 0),.sc (.slice none 0 0)]])):=fun a=>
  ⟨((Grow.refl _).new _).set (Nat.le_refl _) _,⟨Nat.le_refl _,by simp[Heap.set,Heap.new]⟩,.sc (.slice none 0 0),.sc (.slice none 0 0),.sc (.slice none 0 0),.sc (.slice none 0 0),.sc (.slice none 0 0),.sc (.slice none 0 0),.sc (.slice none 0 0),opAnd,⟨#[]⟩,[],[],[],[],rfl,by simp[Heap.set,pb0,opAnd],.inr ⟨rfl,rfl⟩,Tl.nil,Tl.nil,.inr ⟨rfl,rfl⟩,.inr ⟨rfl,rfl⟩,.inr ⟨rfl,rfl⟩,.inr ⟨rfl,rfl⟩⟩
 cases D with
 |none=>
  simp only at hF
  simp only[headV]at hc
  refine pcall_body (ow:=fun _=>false) (wf:=fun _=>false) Ty.mixed Tryz.func36 rfl Ty.hb_36 (by rw[Tryz.ntmps36];simp) ?_
  rw[Tryz.ntmps36,Tryz.results36]
  repeat'(first|(with_reducible refine a_holdR 2 ?_)|refine a_seq fun K hK=>?_|(refine a_regionS ?_;simp(maxSteps:=2000000) only[Ty.w,simprocAttr])|(refine hK _ _ ?_;clear hK;try simp only[pst0,simprocAttr]))
  refine⟨?_⟩
  refine a_heap _ (hI0 _) (fun H hI=>?_)
  obtain⟨g,idl,o,i,v,g2,g3,g4,g5,gop,gna,gar,gpa,gex,gki,e1,eo,e3,e4,e5,e6⟩:=hI
  have o1:H.obj h.next=some (.arr 11 [pbZ]):=by rw[g.old _ (Nat.lt_succ_self _)];simp[Heap.new]
  have c3:=e3.cell
  have c4:=e4.cell
  have c5:=e5.cell
  have c6:=e6.1.cell
  have c7:=e6.2.1.cell
  have c8:=e6.2.2.1.cell
  have c9:=e6.2.2.2.cell
  repeat'(first|refine a_seq fun K hK=>?_|(refine a_regionS ?_;simp(maxSteps:=2000000) only[Ty.w,simprocAttr]))
  refine owp_useQ (hc _) (by(try simp only[Ty.w,simprocAttr,]);try rfl) ?_;simp(maxSteps:=2000000) only[Ty.w,simprocAttr,]
  repeat'(first|refine a_seq fun K hK=>?_|((first|refine a_regionS ?_|refine a_ret ?_);simp(maxSteps:=2000000) only[Ty.w,simprocAttr,Bool.not_false,eo,o1,c3,c4,c5,c6,c7,c8,c9])|(refine hK _ _ ?_;clear hK;try simp only[pst0,simprocAttr]))
  exact pb_fin hF.symm rfl g e1 e3 e4 e5 e6
 |some wr=>
  obtain⟨w,rest⟩:=wr
  have hso:=ho w rest rfl
  simp only[headV]at hc
  simp only at hF
  have hl:=Sx.rows_len rest
  cases q1:(w.data.toList==(#[100,101,102,105,110,101]:Array UInt8).toList)with
  |false=>
   rw[show bEq w opDef=false from q1]at hF
   simp only[cond_false]at hF
   refine pcall_body (ow:=fun _=>false) (wf:=fun _=>false) Ty.mixed Tryz.func36 rfl Ty.hb_36 (by rw[Tryz.ntmps36];simp) ?_
   rw[Tryz.ntmps36,Tryz.results36]
   repeat'(first|(with_reducible refine a_holdR 2 ?_)|refine a_seq fun K hK=>?_|(refine a_regionS ?_;simp(maxSteps:=2000000) only[Ty.w,simprocAttr])|(refine hK _ _ ?_;clear hK;try simp only[pst0,simprocAttr]))
   refine⟨?_⟩
   refine a_heap _ (hI0 _) (fun H hI=>?_)
   obtain⟨g,idl,o,i,v,g2,g3,g4,g5,gop,gna,gar,gpa,gex,gki,e1,eo,e3,e4,e5,e6⟩:=hI
   have o1:H.obj h.next=some (.arr 11 [pbZ]):=by rw[g.old _ (Nat.lt_succ_self _)];simp[Heap.new]
   have c3:=e3.cell
   have c4:=e4.cell
   have c5:=e5.cell
   have c6:=e6.1.cell
   have c7:=e6.2.1.cell
   have c8:=e6.2.2.1.cell
   have c9:=e6.2.2.2.cell
   repeat'(first|refine a_seq fun K hK=>?_|(refine a_regionS ?_;simp(maxSteps:=2000000) only[Ty.w,simprocAttr]))
   refine owp_useQ (hc _) (by(try simp only[Ty.w,simprocAttr,]);try rfl) ?_;simp(maxSteps:=2000000) only[Ty.w,simprocAttr,]
   repeat'(first|refine a_seq fun K hK=>?_|((first|refine a_regionS ?_|refine a_ret ?_);simp(maxSteps:=2000000) only[Ty.w,simprocAttr,Bool.not_true,Bool.not_false,q1,eo,o1,c3,c4,c5,c6,c7,c8,c9])|(refine hK _ _ ?_;clear hK;try simp only[pst0,simprocAttr]))
   exact pb_fin hF.symm rfl g e1 e3 e4 e5 e6
  |true=>
   rw[show bEq w opDef=true from q1]at hF
   simp only[cond_true]at hF
   cases rest with
   |nil=>
    simp only at hF
    have z0:(((Sx.rows []).length:Int)<1)=True:=by rw[hl];simp
    generalize Sx.rows []=R at hc hl z0
    refine pcall_body (ow:=fun _=>false) (wf:=fun _=>false) Ty.mixed Tryz.func36 rfl Ty.hb_36 (by rw[Tryz.ntmps36];simp) ?_
    rw[Tryz.ntmps36,Tryz.results36]
    repeat'(first|(with_reducible refine a_holdR 2 ?_)|refine a_seq fun K hK=>?_|(refine a_regionS ?_;simp(maxSteps:=2000000) only[Ty.w,simprocAttr])|(refine hK _ _ ?_;clear hK;try simp only[pst0,simprocAttr]))
    refine⟨?_⟩
    refine a_heap _ (hI0 _) (fun H hI=>?_)
    obtain⟨g,idl,o,i,v,g2,g3,g4,g5,gop,gna,gar,gpa,gex,gki,e1,eo,e3,e4,e5,e6⟩:=hI
    have o1:H.obj h.next=some (.arr 11 [pbZ]):=by rw[g.old _ (Nat.lt_succ_self _)];simp[Heap.new]
    have c3:=e3.cell
    have c4:=e4.cell
    have c5:=e5.cell
    have c6:=e6.1.cell
    have c7:=e6.2.1.cell
    have c8:=e6.2.2.1.cell
    have c9:=e6.2.2.2.cell
    repeat'(first|refine a_seq fun K hK=>?_|(refine a_regionS ?_;simp(maxSteps:=2000000) only[Ty.w,simprocAttr]))
    refine owp_useQ (hc _) (by(try simp only[Ty.w,simprocAttr,]);try rfl) ?_;simp(maxSteps:=2000000) only[Ty.w,simprocAttr,]
    repeat'(first|refine a_seq fun K hK=>?_|((first|refine a_regionS ?_|refine a_ret ?_);simp(maxSteps:=2000000) only[Ty.w,simprocAttr,Bool.not_true,Bool.not_false,q1,hl,z0,decide_true,eo,o1,c3,c4,c5,c6,c7,c8,c9])|(refine hK _ _ ?_;clear hK;try simp only[pst0,simprocAttr]))
    exact pb_fin hF.symm rfl g e1 e3 e4 e5 e6
   |cons n rest1=>
    simp only at hF
    have hno:=hso.2.2 n (by simp)
    have hn:=fun h:Heap=>pnamed_c (want:=opPrb) hno h
    have hne:=namedP_err (x:=n) (want:=opPrb)
    have r0:=Sx.rows_get (l:=n::rest1) (i:=0) rfl
    have d0:decide (((Sx.rows (n::rest1)).length:Int)<1)=false:=by rw[hl];simp;omega
    have hl1:((Sx.rows (n::rest1)).length:Int)=rest1.length+1:=by rw[hl];simp
    generalize hN:namedP n opPrb=N at hF hn hne
    obtain⟨na,cn⟩:=N
    simp only at hF hn hne
    have hnr: ∃ a b c d e f,n= .mk a b c d e f:=by obtain⟨a,b,c,d,e,f⟩:=n;exact⟨a,b,c,d,e,f,rfl⟩
    cases hcn:cn==0 with
    |false=>
     rw[hcn]at hF
     simp only[cond_false]at hF
     have e0:errP cn=errV cn:=by simp only[errP,hcn,cond_false]
     have:=hne hcn
     subst this
     rw[e0]at hn
     simp only[errV]at hn
     clear hs ho hso hl
     generalize Sx.rows (n::rest1)=R at hc r0 d0 hl1
     obtain⟨ki,va,li,co,te,ks,rfl⟩:=hnr
     simp only[Sx.cells]at r0 hn
     refine pcall_body (ow:=fun _=>false) (wf:=fun _=>false) Ty.mixed Tryz.func36 rfl Ty.hb_36 (by rw[Tryz.ntmps36];simp) ?_
     rw[Tryz.ntmps36,Tryz.results36]
     repeat'(first|(with_reducible refine a_holdR 2 ?_)|refine a_seq fun K hK=>?_|(refine a_regionS ?_;simp(maxSteps:=2000000) only[Ty.w,simprocAttr])|(refine hK _ _ ?_;clear hK;try simp only[pst0,simprocAttr]))
     refine⟨?_⟩
     refine a_heap _ (hI0 _) (fun H hI=>?_)
     obtain⟨g,idl,o,i,v,g2,g3,g4,g5,gop,gna,gar,gpa,gex,gki,e1,eo,e3,e4,e5,e6⟩:=hI
     have o1:H.obj h.next=some (.arr 11 [pbZ]):=by rw[g.old _ (Nat.lt_succ_self _)];simp[Heap.new]
     have c3:=e3.cell
     have c4:=e4.cell
     have c5:=e5.cell
     have c6:=e6.1.cell
     have c7:=e6.2.1.cell
     have c8:=e6.2.2.1.cell
     have c9:=e6.2.2.2.cell
     have n1:(h.next=h.next+1)=False:=by simp
     have hS:=PbI.setN (a:=⟨#[]⟩) (d:=⟨#[]⟩) (p:=pb0 ⟨#[]⟩ ⟨#[]⟩) g idl e1 e3 e4 e5 e6
     repeat'(first|refine a_seq fun K hK=>?_|(refine a_regionS ?_;simp(maxSteps:=2000000) only[Ty.w,simprocAttr]))
     refine owp_useQ (hc _) (by(try simp only[Ty.w,simprocAttr,]);try rfl) ?_;simp(maxSteps:=2000000) only[Ty.w,simprocAttr,]
     repeat'(first|refine a_seq fun K hK=>?_|(refine a_regionS ?_;simp(maxSteps:=2000000) only[Ty.w,simprocAttr,Bool.not_true,q1,d0,r0])|(refine a_skip ?_;try simp only[pst0,simprocAttr])|(refine a_cond _ (by(try simp(maxSteps:=2000000) only[Ty.w,simprocAttr,Bool.not_true,q1,d0,r0]);rfl) (fun hb=>?_) (fun hb=>?_)<;>(try simp only[hb0,decide_eq_true_eq,decide_eq_false_iff_not,simprocAttr]at hb)<;>(try(exfalso;omega)))|(refine hK _ _ ?_;clear hK;try simp only[pst0,simprocAttr]))
     refine owp_useQ (hn _) (by(try simp only[Ty.w,simprocAttr,r0,eo]);try rfl) ?_;simp(maxSteps:=2000000) only[Ty.w,simprocAttr,r0,eo]
     repeat'(first|refine a_seq fun K hK=>?_|((first|refine a_regionS ?_|refine a_ret ?_);simp(maxSteps:=2000000) only[Ty.w,simprocAttr,eo,o1,n1,c3,c4,c5,c6,c7,c8,c9])|(refine hK _ _ ?_;clear hK;try simp only[pst0,simprocAttr]))
     exact pb_fin hF.symm e0 hS.grow e1 e3 (e4.mid (Nat.lt_succ_self _) _) (e5.mid (Nat.lt_succ_self _) _) e6
    |true=>
     rw[hcn]at hF
     simp only[cond_true]at hF
     have e0:errP cn= .sc .nilIface:=by simp only[errP,hcn,cond_true]
     rw[e0]at hn
     cases rest1 with
     |nil=>
      simp only at hF
      have d1:decide (((Sx.rows [n]).length:Int)<2)=true:=by rw[hl];simp
      clear hs ho hso hl
      generalize Sx.rows [n]=R at hc r0 d0 d1
      obtain⟨ki,va,li,co,te,ks,rfl⟩:=hnr
      simp only[Sx.cells]at r0 hn
      refine pcall_body (ow:=fun _=>false) (wf:=fun _=>false) Ty.mixed Tryz.func36 rfl Ty.hb_36 (by rw[Tryz.ntmps36];simp) ?_
      rw[Tryz.ntmps36,Tryz.results36]
      repeat'(first|(with_reducible refine a_holdR 2 ?_)|refine a_seq fun K hK=>?_|(refine a_regionS ?_;simp(maxSteps:=2000000) only[Ty.w,simprocAttr])|(refine hK _ _ ?_;clear hK;try simp only[pst0,simprocAttr]))
      refine⟨?_⟩
      refine a_heap _ (hI0 _) (fun H hI=>?_)
      obtain⟨g,idl,o,i,v,g2,g3,g4,g5,gop,gna,gar,gpa,gex,gki,e1,eo,e3,e4,e5,e6⟩:=hI
      have o1:H.obj h.next=some (.arr 11 [pbZ]):=by rw[g.old _ (Nat.lt_succ_self _)];simp[Heap.new]
      have c3:=e3.cell
      have c4:=e4.cell
      have c5:=e5.cell
      have c6:=e6.1.cell
      have c7:=e6.2.1.cell
      have c8:=e6.2.2.1.cell
      have c9:=e6.2.2.2.cell
      have n1:(h.next=h.next+1)=False:=by simp
      have hS:=PbI.setN (a:=na) (d:=⟨#[]⟩) (p:=pb0 ⟨#[]⟩ ⟨#[]⟩) g idl e1 e3 e4 e5 e6
      repeat'(first|refine a_seq fun K hK=>?_|(refine a_regionS ?_;simp(maxSteps:=2000000) only[Ty.w,simprocAttr]))
      refine owp_useQ (hc _) (by(try simp only[Ty.w,simprocAttr,]);try rfl) ?_;simp(maxSteps:=2000000) only[Ty.w,simprocAttr,]
      repeat'(first|refine a_seq fun K hK=>?_|(refine a_regionS ?_;simp(maxSteps:=2000000) only[Ty.w,simprocAttr,Bool.not_true,q1,d0,r0])|(refine a_skip ?_;try simp only[pst0,simprocAttr])|(refine a_cond _ (by(try simp(maxSteps:=2000000) only[Ty.w,simprocAttr,Bool.not_true,q1,d0,r0]);rfl) (fun hb=>?_) (fun hb=>?_)<;>(try simp only[hb0,decide_eq_true_eq,decide_eq_false_iff_not,simprocAttr]at hb)<;>(try(exfalso;omega)))|(refine hK _ _ ?_;clear hK;try simp only[pst0,simprocAttr]))
      refine owp_useQ (hn _) (by(try simp only[Ty.w,simprocAttr,r0,eo]);try rfl) ?_;simp(maxSteps:=2000000) only[Ty.w,simprocAttr,r0,eo]
      repeat'(first|refine a_seq fun K hK=>?_|((first|refine a_regionS ?_|refine a_ret ?_);simp(maxSteps:=2000000) only[Ty.w,simprocAttr,eo,o1,d1,n1,c3,c4,c5,c6,c7,c8,c9])|(refine a_skip ?_;try simp only[pst0,simprocAttr])|(refine a_cond _ (by(try simp(maxSteps:=2000000) only[Ty.w,simprocAttr,eo,o1,d1,n1,c3,c4,c5,c6,c7,c8,c9]);rfl) (fun hb=>?_) (fun hb=>?_)<;>(try simp only[hb0,decide_eq_true_eq,decide_eq_false_iff_not,simprocAttr]at hb)<;>(try(exfalso;omega)))|(refine hK _ _ ?_;clear hK;try simp only[pst0,simprocAttr]))
      exact pb_fin (q:=pb0 na ⟨#[]⟩) hF.symm e2 hS.grow e1 e3 (e4.mid (Nat.lt_succ_self _) _) (e5.mid (Nat.lt_succ_self _) _) e6
     |cons d secs=>
      simp only at hF
      obtain⟨_,hdo,hsy,hss,hsl⟩:=hs n d secs w rfl
      have hd:=fun h:Heap=>pnamed_c (want:=opDom) hdo h
      have hde:=namedP_err (x:=d) (want:=opDom)
      have r1:=Sx.rows_get (l:=n::d::secs) (i:=1) rfl
      have d1:decide (((Sx.rows (n::d::secs)).length:Int)<2)=false:=by rw[hl];simp;omega
      have ht:List.take (((Sx.rows (n::d::secs)).length:Int)-2).toNat (List.drop 2 (Sx.rows (n::d::secs)))=Sx.rows secs:=by
       simp only[Sx.rows,List.drop_succ_cons,List.drop_zero,List.length_cons]
       rw[List.take_of_length_le (by omega)]
      have q3:(2:Int)≤((Sx.rows (n::d::secs)).length:Int):=by rw[hl];simp;omega
      generalize hD:namedP d opDom=N at hF hd hde
      obtain⟨da,cd⟩:=N
      simp only at hF hd hde
      have hdr: ∃ a b c d2 e f,d= .mk a b c d2 e f:=by obtain⟨a,b,c,d2,e,f⟩:=d;exact⟨a,b,c,d2,e,f,rfl⟩
      clear ho hs hl
      generalize Sx.rows (n::d::secs)=R at hc r0 r1 d0 d1 ht q3
      obtain⟨ki,va,li,co,te,ks,rfl⟩:=hnr
      obtain⟨ki2,va2,li2,co2,te2,ks2,rfl⟩:=hdr
      simp only[Sx.cells]at r0 r1 hn hd
      have n1:(h.next=h.next+1)=False:=by simp
      refine pcall_body (ow:=fun _=>false) (wf:=fun _=>false) Ty.mixed Tryz.func36 rfl Ty.hb_36 (by rw[Tryz.ntmps36];simp) ?_
      rw[Tryz.ntmps36,Tryz.results36]
      repeat'(first|(with_reducible refine a_holdR 2 ?_)|refine a_seq fun K hK=>?_|(refine a_regionS ?_;simp(maxSteps:=2000000) only[Ty.w,simprocAttr])|(refine hK _ _ ?_;clear hK;try simp only[pst0,simprocAttr]))
      refine⟨?_⟩
      refine a_heap _ (hI0 _) (fun H hI=>?_)
      obtain⟨g,idl,o,i,v,g2,g3,g4,g5,gop,gna,gar,gpa,gex,gki,e1,eo,e3,e4,e5,e6⟩:=hI
      have hS:=PbI.setN (a:=na) (d:=⟨#[]⟩) (p:=pb0 ⟨#[]⟩ ⟨#[]⟩) g idl e1 e3 e4 e5 e6
      repeat'(first|refine a_seq fun K hK=>?_|(refine a_regionS ?_;simp(maxSteps:=2000000) only[Ty.w,simprocAttr]))
      refine owp_useQ (hc _) (by(try simp only[Ty.w,simprocAttr,]);try rfl) ?_;simp(maxSteps:=2000000) only[Ty.w,simprocAttr,]
      repeat'(first|refine a_seq fun K hK=>?_|(refine a_regionS ?_;simp(maxSteps:=2000000) only[Ty.w,simprocAttr,Bool.not_true,q1,d0,r0])|(refine a_skip ?_;try simp only[pst0,simprocAttr])|(refine a_cond _ (by(try simp(maxSteps:=2000000) only[Ty.w,simprocAttr,Bool.not_true,q1,d0,r0]);rfl) (fun hb=>?_) (fun hb=>?_)<;>(try simp only[hb0,decide_eq_true_eq,decide_eq_false_iff_not,simprocAttr]at hb)<;>(try(exfalso;omega)))|(refine hK _ _ ?_;clear hK;try simp only[pst0,simprocAttr]))
      refine owp_useQ (hn _) (by(try simp only[Ty.w,simprocAttr,r0,eo]);try rfl) ?_;simp(maxSteps:=2000000) only[Ty.w,simprocAttr,r0,eo]
      repeat'(first|(with_reducible refine a_hold 11 ?_)|refine a_seq fun K hK=>?_|(refine a_regionS ?_;simp(maxSteps:=2000000) only[Ty.w,simprocAttr,eo,d1])|(refine a_skip ?_;try simp only[pst0,simprocAttr])|(refine a_cond _ (by(try simp(maxSteps:=2000000) only[Ty.w,simprocAttr,eo,d1]);rfl) (fun hb=>?_) (fun hb=>?_)<;>(try simp only[hb0,decide_eq_true_eq,decide_eq_false_iff_not,simprocAttr]at hb)<;>(try(exfalso;omega)))|(refine hK _ _ ?_;clear hK;try simp only[pst0,simprocAttr]))
      refine⟨?_⟩
      refine a_gen (fun S H=>S 2= .ptr h.next 0 0∧S 4= .ptr (h.next+1) 0 0∧S 6= .imm 6 R∧PbI (h.new (.arr 11 [pbZ])) (h.next+1) (pb0 na ⟨#[]⟩) H) ⟨by simp only[Ty.w,simprocAttr],by simp only[Ty.w,simprocAttr],by simp only[Ty.w,simprocAttr],hS⟩ ?_
      clear hI0 g eo e1 e3 e4 e5 e6 hS hn hc hne
      rintro S H ⟨s2,s4,s6,hI⟩
      obtain⟨g,idl,o,i,v,g2,g3,g4,g5,gop,gna,gar,gpa,gex,gki,e1,eo,e3,e4,e5,e6⟩:=hI
      have o1:H.obj h.next=some (.arr 11 [pbZ]):=by rw[g.old _ (Nat.lt_succ_self _)];simp[Heap.new]
      have hS:=fun da=>PbI.setN (a:=na) (d:=da) (p:=pb0 na ⟨#[]⟩) g idl e1 e3 e4 e5 e6
      simp only[pb0]at eo
      cases hcd:cd==0 with
      |false=>
       rw[hcd]at hF
       simp only[cond_false]at hF
       have e0:errP cd=errV cd:=by simp only[errP,hcd,cond_false]
       have:=hde hcd
       subst this
       rw[e0]at hd
       simp only[errV]at hd
       have c3:=e3.cell
       have c4:=e4.cell
       have c5:=e5.cell
       have c6:=e6.1.cell
       have c7:=e6.2.1.cell
       have c8:=e6.2.2.1.cell
       have c9:=e6.2.2.2.cell
       repeat'(first|refine a_seq fun K hK=>?_|(refine a_regionS ?_;simp(maxSteps:=2000000) only[Ty.w,simprocAttr,s2,s4,s6,r1]))
       refine owp_useQ (hd _) (by(try simp only[Ty.w,simprocAttr,s2,s4,s6,r1,eo]);try rfl) ?_;simp(maxSteps:=2000000) only[Ty.w,simprocAttr,s2,s4,s6,r1,eo]
       repeat'(first|refine a_seq fun K hK=>?_|((first|refine a_regionS ?_|refine a_ret ?_);simp(maxSteps:=2000000) only[Ty.w,simprocAttr,s2,s4,s6,eo,o1,n1,c3,c4,c5,c6,c7,c8,c9])|(refine hK _ _ ?_;clear hK;try simp only[pst0,simprocAttr]))
       exact pb_fin (q:=pb0 na ⟨#[]⟩) hF.symm e0 (hS ⟨#[]⟩).grow e1 e3 (e4.mid (Nat.lt_succ_self _) _) (e5.mid (Nat.lt_succ_self _) _) e6
      |true=>
       rw[hcd]at hF
       simp only[cond_true]at hF
       have e0:errP cd= .sc .nilIface:=by simp only[errP,hcd,cond_true]
       rw[e0]at hd
       have hll:=Sx.rows_len secs
       have hS:=hS da
       repeat'(first|refine a_seq fun K hK=>?_|(refine a_regionS ?_;simp(maxSteps:=2000000) only[Ty.w,simprocAttr,s2,s4,s6,r1]))
       refine owp_useQ (hd _) (by(try simp only[Ty.w,simprocAttr,s2,s4,s6,r1,eo]);try rfl) ?_;simp(maxSteps:=2000000) only[Ty.w,simprocAttr,s2,s4,s6,r1,eo]
       repeat'(first|(with_reducible refine a_holdR 14 ?_)|refine a_seq fun K hK=>?_|(refine a_regionS ?_;simp(maxSteps:=2000000) only[Ty.w,simprocAttr,s2,s4,s6,eo])|(refine a_skip ?_;try simp only[pst0,simprocAttr])|(refine a_cond _ (by(try simp(maxSteps:=2000000) only[Ty.w,simprocAttr,s2,s4,s6,eo]);rfl) (fun hb=>?_) (fun hb=>?_)<;>(try simp only[hb0,decide_eq_true_eq,decide_eq_false_iff_not,simprocAttr]at hb)<;>(try(exfalso;omega)))|(refine hK _ _ ?_;clear hK;try simp only[pst0,simprocAttr]))
       refine⟨?_⟩
       refine a_gen (fun S H=>S 2= .ptr h.next 0 0∧S 4= .ptr (h.next+1) 0 0∧S 6= .imm 6 R∧PbI (h.new (.arr 11 [pbZ])) (h.next+1) (pb0 na da) H) ⟨by simp only[Ty.w,simprocAttr,s2],by simp only[Ty.w,simprocAttr,s4],by simp only[Ty.w,simprocAttr,s6],hS⟩ ?_
       clear g eo e1 e3 e4 e5 e6 hS hd s2 s4 s6 o1
       rintro S H ⟨s2,s4,s6,hI⟩
       repeat'(first|refine a_seq fun K hK=>?_|(refine a_block ?_)|(refine a_regionS ?_;simp(maxSteps:=2000000) only[Ty.w,simprocAttr,s2,s4,s6,ht,q3,hll,Option.getD_some,Option.getD_none,Int.le_refl,Int.toNat_one])|(refine hK _ _ ?_;clear hK;try simp only[pst0,simprocAttr]))
       refine a_loop (fun m S h'=>S 2= .ptr h.next 0 0∧S 4= .ptr (h.next+1) 0 0∧S 69= .imm 6 (Sx.rows secs)∧S 70= .sc (.int .i64 secs.length)∧ ∃ (k:Nat)(od:List ByteArray)(p:Pb),S 71= .sc (.int .i64 k)∧S 9= .imm 1 (strRows od)∧k≤secs.length∧m=secs.length-k∧od.length≤3∧
        PbI (h.new (.arr 11 [pbZ])) (h.next+1) p h'∧p.init.length≤k*1048576∧p.values.length≤k*1048576∧F=sectsP od p (secs.drop k)) secs.length ?_ ?_
       ·simp only[Ty.w,simprocAttr,s2,s4]
        exact⟨0,pbOrder,pb0 na da,rfl,rfl,by omega,rfl,by decide,hI,by simp[pb0],by simp[pb0],by rw[List.drop_zero];exact hF.symm⟩
       ·clear hI hF s2 s4 s6 ht q3 r0 r1 d0 d1
        rintro m S h' ⟨s2,s4,s69,s70,k,od,p,s71,s9,hk,rfl,hol,hI,hi1,hi2,hinv⟩
        by_cases hlt:k<secs.length
        ·have hdk:decide ((k:Int)<(secs.length:Int))=true:=by simp;omega
         have w7:IntKind.i64.wrap ((k:Int)+1)=k+1:=by rw[wrap64 (by omega) (by omega)]
         obtain⟨y,hx⟩: ∃ y,secs[k]? =some y:=⟨_,List.getElem?_eq_getElem hlt⟩
         have hr:=Sx.rows_get hx
         have hmem:=List.mem_of_getElem? hx
         have hyo:=hsy y hmem
         have hys:=hss y hmem
         have hch:=phead_c hyo
         have hmo:=fun w l=>headM_ok2 hyo (w:=w) (l:=l)
         have hms:=fun w l=>headM_small hys (w:=w) (l:=l)
         rw[drop_of_get hx,sectsP]at hinv
         generalize headM y=Y at hinv hch hmo hms
         obtain⟨ki,va,li,co,te,ks⟩:=y
         simp only[Sx.cells]at hr hch
         repeat'(first|(with_reducible refine a_holdR 18 ?_)|refine a_seq fun K hK=>?_|(refine a_regionS ?_;simp(maxSteps:=2000000) only[Ty.w,simprocAttr,s2,s4,s9,s69,s70,s71,hdk,hr])|(refine a_skip ?_;try simp only[pst0,simprocAttr])|(refine a_cond _ (by(try simp(maxSteps:=2000000) only[Ty.w,simprocAttr,s2,s4,s9,s69,s70,s71,hdk,hr]);rfl) (fun hb=>?_) (fun hb=>?_)<;>(try simp only[hb0,decide_eq_true_eq,decide_eq_false_iff_not,simprocAttr]at hb)<;>(try(exfalso;omega)))|(refine hK _ _ ?_;clear hK;try simp only[pst0,simprocAttr]))
         refine⟨?_⟩
         refine a_tmp 11 rfl (by simp only[Ty.w,simprocAttr]) (sx_frz' · · ki va li co te ks) ?_
         refine a_gen (fun S H=>S 2= .ptr h.next 0 0∧S 4= .ptr (h.next+1) 0 0∧S 9= .imm 1 (strRows od)∧S 69= .imm 6 (Sx.rows secs)∧S 70= .sc (.int .i64 secs.length)∧S 71= .sc (.int .i64 k)∧S 11= .cptr [.sc (.int .i64 ki),.sc (.int .i64 va),.sc (.int .i64 li),.sc (.int .i64 co),sPV te,.imm 6 (Sx.rows ks)]∧PbI (h.new (.arr 11 [pbZ])) (h.next+1) p H) ⟨by simp only[Ty.w,simprocAttr,s2],by simp only[Ty.w,simprocAttr,s4],by simp only[Ty.w,simprocAttr,s9],by simp only[Ty.w,simprocAttr,s69],by simp only[Ty.w,simprocAttr,s70],by simp only[Ty.w,simprocAttr,s71],by simp only[Ty.w,simprocAttr],hI.tmp _ _⟩ ?_
         clear hI s2 s4 s9 s69 s70 s71 hr hdk
         rintro S h' ⟨s2,s4,s9,s69,s70,s71,s11,hI⟩
         cases Y with
         |none=>
          simp only at hinv
          simp only[headV]at hch
          have hix:=fun(s:ByteArray)(H:Heap)=>index_c (h:=H) (l:=od) (s:=s) (by omega)
          obtain⟨g,idl,o,i,v,g2,g3,g4,g5,gop,gna,gar,gpa,gex,gki,e1,eo,e3,e4,e5,e6⟩:=hI
          have o1:h'.obj h.next=some (.arr 11 [pbZ]):=by rw[g.old _ (Nat.lt_succ_self _)];simp[Heap.new]
          have c3:=e3.cell
          have c4:=e4.cell
          have c5:=e5.cell
          have c6:=e6.1.cell
          have c7:=e6.2.1.cell
          have c8:=e6.2.2.1.cell
          have c9:=e6.2.2.2.cell
          repeat'(first|refine a_seq fun K hK=>?_|(refine a_regionS ?_;simp(maxSteps:=2000000) only[Ty.w,simprocAttr,s2,s4,s9,s11]))
          refine owp_useQ (hch _) (by(try simp only[Ty.w,simprocAttr,s2,s4,s9,s11]);try rfl) ?_;simp(maxSteps:=2000000) only[Ty.w,simprocAttr,s2,s4,s9,s11]
          repeat'(first|refine a_seq fun K hK=>?_|(refine a_regionS ?_;simp(maxSteps:=2000000) only[Ty.w,simprocAttr,s2,s4,s9])|(refine hK _ _ ?_;clear hK;try simp only[pst0,simprocAttr]))
          refine owp_useQ (hix _ _) (by(try simp only[Ty.w,simprocAttr,s2,s4,s9]);try rfl) ?_;simp(maxSteps:=2000000) only[Ty.w,simprocAttr,s2,s4,s9]
          repeat'(first|refine a_seq fun K hK=>?_|((first|refine a_regionS ?_|refine a_ret ?_);simp(maxSteps:=2000000) only[Ty.w,simprocAttr,s2,s4,s9,Bool.not_false,eo,o1,n1,c3,c4,c5,c6,c7,c8,c9])|(refine hK _ _ ?_;clear hK;try simp only[pst0,simprocAttr]))
          exact pb_fin hinv rfl g e1 e3 e4 e5 e6
         |some wr=>
          obtain⟨w2,rest2⟩:=wr
          obtain⟨_,_,mo⟩:=hmo w2 rest2 rfl
          obtain⟨ml,ms⟩:=hms w2 rest2 rfl
          clear hmo hms
          simp only at hinv
          simp only[headV]at hch
          have hix:=fun(H:Heap)=>index_c (h:=H) (l:=od) (s:=w2) (by omega)
          rcases after_idx w2 od with⟨a1,a2⟩|⟨j,a1,a2,a3⟩
          ·rw [a1]at hinv
           rw[a2]at hix
           simp only at hinv
           obtain⟨g,idl,o,i,v,g2,g3,g4,g5,gop,gna,gar,gpa,gex,gki,e1,eo,e3,e4,e5,e6⟩:=hI
           have o1:h'.obj h.next=some (.arr 11 [pbZ]):=by rw[g.old _ (Nat.lt_succ_self _)];simp[Heap.new]
           have c3:=e3.cell
           have c4:=e4.cell
           have c5:=e5.cell
           have c6:=e6.1.cell
           have c7:=e6.2.1.cell
           have c8:=e6.2.2.1.cell
           have c9:=e6.2.2.2.cell
           have hneg:decide ((-1:Int)<0)=true:=rfl
           repeat'(first|refine a_seq fun K hK=>?_|(refine a_regionS ?_;simp(maxSteps:=2000000) only[Ty.w,simprocAttr,s2,s4,s9,s11]))
           refine owp_useQ (hch _) (by(try simp only[Ty.w,simprocAttr,s2,s4,s9,s11]);try rfl) ?_;simp(maxSteps:=2000000) only[Ty.w,simprocAttr,s2,s4,s9,s11]
           repeat'(first|refine a_seq fun K hK=>?_|(refine a_regionS ?_;simp(maxSteps:=2000000) only[Ty.w,simprocAttr,s2,s4,s9])|(refine hK _ _ ?_;clear hK;try simp only[pst0,simprocAttr]))
           refine owp_useQ (hix _) (by(try simp only[Ty.w,simprocAttr,s2,s4,s9]);try rfl) ?_;simp(maxSteps:=2000000) only[Ty.w,simprocAttr,s2,s4,s9]
           repeat'(first|refine a_seq fun K hK=>?_|((first|refine a_regionS ?_|refine a_ret ?_);simp(maxSteps:=2000000) only[Ty.w,simprocAttr,s2,s4,s9,Bool.not_true,hneg,eo,o1,n1,c3,c4,c5,c6,c7,c8,c9])|(refine hK _ _ ?_;clear hK;try simp only[pst0,simprocAttr]))
           exact pb_fin hinv rfl g e1 e3 e4 e5 e6
          ·rw [a3]at hinv
           rw[a2]at hix
           simp only at hinv
           have hse:=fun(H:Heap)(hI:PbI (h.new (.arr 11 [pbZ])) (h.next+1) p H)=>section_c (w:=w2) ml mo ms (by omega) (by omega) H hI
           have hsc:=sectP_len p w2 rest2
           generalize sectP p w2 rest2=W at hinv hse hsc
           obtain⟨p2,c⟩:=W
           simp only at hinv hse hsc
           have hnn:decide ((j:Int)<0)=false:=by simp
           have wj:IntKind.i64.wrap ((j:Int)+1)=j+1:=by rw[wrap64 (by omega) (by omega)]
           have hsr:=strRows_len od
           have b1:(0:Int)≤(j:Int)+1:=by omega
           have b2:((j:Int)+1)≤(od.length:Int):=by omega
           have hto:((j:Int)+1).toNat=j+1:=by omega
           have htk:List.take ((od.length:Int)-((j:Int)+1)).toNat (List.drop (j+1) (strRows od))=strRows (od.drop (j+1)):=by
            rw[List.take_of_length_le (by rw[List.length_drop,hsr];omega)]
            simp[strRows,List.map_drop]
           repeat'(first|refine a_seq fun K hK=>?_|(refine a_regionS ?_;simp(maxSteps:=2000000) only[Ty.w,simprocAttr,s2,s4,s9,s11]))
           refine owp_useQ (hch _) (by(try simp only[Ty.w,simprocAttr,s2,s4,s9,s11]);try rfl) ?_;simp(maxSteps:=2000000) only[Ty.w,simprocAttr,s2,s4,s9,s11]
           repeat'(first|refine a_seq fun K hK=>?_|(refine a_regionS ?_;simp(maxSteps:=2000000) only[Ty.w,simprocAttr,s2,s4,s9])|(refine hK _ _ ?_;clear hK;try simp only[pst0,simprocAttr]))
           refine owp_useQ (hix _) (by(try simp only[Ty.w,simprocAttr,s2,s4,s9]);try rfl) ?_;simp(maxSteps:=2000000) only[Ty.w,simprocAttr,s2,s4,s9]
           repeat'(first|refine a_seq fun K hK=>?_|(refine a_regionS ?_;simp(maxSteps:=2000000) only[Ty.w,simprocAttr,s2,s4,s9,Bool.not_true,hnn,wj,hsr,b1,b2,hto,htk,Int.le_refl,Option.getD_some,Option.getD_none])|(refine a_skip ?_;try simp only[pst0,simprocAttr])|(refine a_cond _ (by(try simp(maxSteps:=2000000) only[Ty.w,simprocAttr,s2,s4,s9,Bool.not_true,hnn,wj,hsr,b1,b2,hto,htk,Int.le_refl,Option.getD_some,Option.getD_none]);rfl) (fun hb=>?_) (fun hb=>?_)<;>(try simp only[hb0,decide_eq_true_eq,decide_eq_false_iff_not,simprocAttr]at hb)<;>(try(exfalso;omega)))|(refine hK _ _ ?_;clear hK;try simp only[pst0,simprocAttr]))
           refine owp_useL (hse _ hI) (by simp only[Ty.w,simprocAttr,s4];try rfl) ?_
           rintro r h2 ⟨rfl,hI2⟩
           clear hI hse hch hix
           simp(maxSteps:=2000000) only[Ty.w,simprocAttr,Ty.all]
           cases hcc:c==0 with
           |false=>
            rw[hcc]at hinv
            simp only[cond_false]at hinv
            have e0:errP c=errV c:=by simp only[errP,hcc,cond_false]
            simp only[e0,errV]
            obtain⟨g,idl,o,i,v,g2,g3,g4,g5,gop,gna,gar,gpa,gex,gki,e1,eo,e3,e4,e5,e6⟩:=hI2
            have o1:h2.obj h.next=some (.arr 11 [pbZ]):=by rw[g.old _ (Nat.lt_succ_self _)];simp[Heap.new]
            have c3:=e3.cell
            have c4:=e4.cell
            have c5:=e5.cell
            have c6:=e6.1.cell
            have c7:=e6.2.1.cell
            have c8:=e6.2.2.1.cell
            have c9:=e6.2.2.2.cell
            repeat'(first|refine a_seq fun K hK=>?_|((first|refine a_regionS ?_|refine a_ret ?_);simp(maxSteps:=2000000) only[Ty.w,simprocAttr,s2,s4,eo,o1,n1,c3,c4,c5,c6,c7,c8,c9])|(refine hK _ _ ?_;clear hK;try simp only[pst0,simprocAttr]))
            exact pb_fin hinv e0 g e1 e3 e4 e5 e6
           |true=>
            rw[hcc]at hinv
            simp only[cond_true]at hinv
            have e0:errP c= .sc .nilIface:=by simp only[errP,hcc,cond_true]
            simp only[e0]
            repeat'(first|refine a_seq fun K hK=>?_|(refine a_block ?_)|(refine a_regionS ?_;simp(maxSteps:=2000000) only[Ty.w,simprocAttr,s2,s4,s69,s70,s71,w7])|(refine a_skip ?_;try simp only[pst0,simprocAttr])|(refine hK _ _ ?_;clear hK;try simp only[pst0,simprocAttr]))
            exact⟨secs.length-(k+1),by omega,k+1,od.drop (j+1),p2,by simp,rfl,by omega,rfl,by simp;omega,hI2,by omega,by omega,hinv⟩
        ·have hdk:decide ((k:Int)<(secs.length:Int))=false:=by simp;omega
         rw[List.drop_eq_nil_of_le (by omega)]at hinv
         simp only[sectsP]at hinv
         obtain⟨g,idl,o,i,v,g2,g3,g4,g5,gop,gna,gar,gpa,gex,gki,e1,eo,e3,e4,e5,e6⟩:=hI
         have o1:h'.obj h.next=some (.arr 11 [pbZ]):=by rw[g.old _ (Nat.lt_succ_self _)];simp[Heap.new]
         have c3:=e3.cell
         have c4:=e4.cell
         have c5:=e5.cell
         have c6:=e6.1.cell
         have c7:=e6.2.1.cell
         have c8:=e6.2.2.1.cell
         have c9:=e6.2.2.2.cell
         repeat'(first|refine a_seq fun K hK=>?_|((first|refine a_regionS ?_|refine a_ret ?_);simp(maxSteps:=2000000) only[Ty.w,simprocAttr,s2,s4,s9,s69,s70,s71,hdk,eo,o1,n1,c3,c4,c5,c6,c7,c8,c9])|(refine a_exit ?_;try simp only[pst0,simprocAttr])|(refine a_cond _ (by(try simp(maxSteps:=2000000) only[Ty.w,simprocAttr,s2,s4,s9,s69,s70,s71,hdk,eo,o1,n1,c3,c4,c5,c6,c7,c8,c9]);rfl) (fun hb=>?_) (fun hb=>?_)<;>(try simp only[hb0,decide_eq_true_eq,decide_eq_false_iff_not,simprocAttr]at hb)<;>(try(exfalso;omega)))|((first|refine hK _ _ ?_|(clear hK;refine hK _ _ ?_));clear hK;try simp only[pst0,simprocAttr]))
         exact pb_fin hinv rfl g e1 e3 e4 e5 e6
end Go.Proofs.YtjeolbgpllbemaaGreat
namespace Go.AM
section
variable {P:Program}{ow:Nat→Bool}{wf:FuncId→Bool}{n:Nat}{Q:Post}{s:Slots}{h:Heap}
def alIdx(ops:List Oper):List Nat:=(List.range ops.length).filter (alB ops)
def drn2(P:Program)(ow:Nat→Bool)(wf:FuncId→Bool)(n:Nat)(ops:List Oper)(al:List Nat)(base:Nat):Nat→List Oper→Past→List (Nat × Heap)→(Slots→Heap→Prop)→Slots→Heap→Prop
 |_,[],_,_,K,s,h=>K s h
 |k,o::rest,past,hist,K,s,h=>(o.dst.all (fun d=>decide (d<n))=true)∧match wantedB ops s o with
  |none=>False
  | some b => if b = true then
    (match o.op with
    | .alloc t=>(match zeroT P t with
     | some zs => 0 < zs.length ∧ (∀ f ∈ al, k < f → (h.set (base + k) (.arr zs.length [zs.map .sc])).obj (base + f) = none) ∧ (∀ x ∈ past, pre ops x.1 k = true ∨ Does P ow x.2.1 (pev x.2.2.1) (h.set (base + k) (.arr zs.length [zs.map .sc])) x.2.2.2 (h.set (base + k) (.arr zs.length [zs.map .sc]))) ∧
       drn2 P ow wf n ops al base (k+1) rest past ((k,h)::hist) K (updO s o.dst (.ptr (base+k) 0 0)) (h.set (base+k) (.arr zs.length [zs.map .sc]))
     |none=>False)
    |_=>(match callee (pev s) o.op with
     |none=>(match eff P (o.dst.any ow) o.op (pev s) h with
      |some (v,h1)=>if isW ow wf o=true then(∀ f∈al,k<f→h1.obj (base+f)=none)∧(∀ x∈past,pre ops x.1 k=true∨Does P ow x.2.1 (pev x.2.2.1) h1 x.2.2.2 h1)∧drn2 P ow wf n ops al base (k+1) rest past ((k,h)::hist) K (updO s o.dst v) h1
       else h1=h∧(∀ x∈hist,pre ops x.1 k=true∨Does P ow o (pev s) x.2 v x.2)∧drn2 P ow wf n ops al base (k+1) rest ((k,o,s,v)::past) hist K (updO s o.dst v) h
      |none=>False)
     |some _=>(if isW ow wf o=true then ∃ v h',Does P ow o (pev s) h v h'∧((∀ f∈al,k<f→h'.obj (base+f)=none)∧ ∀ x∈pastC P ow past,pre ops x.1 k=true∨x.2 h')∧drun2 P ow wf n ops base (k+1) rest (pastC P ow past) ((k,h)::hist) K (updO s o.dst v) h'
      else ∃ v,Does P ow o (pev s) h v h∧(∀ x∈hist,pre ops x.1 k=true∨Does P ow o (pev s) x.2 v x.2)∧drun2 P ow wf n ops base (k+1) rest (pastC P ow ((k,o,s,v)::past)) hist K (updO s o.dst v) h)))
   else drn2 P ow wf n ops al base (k+1) rest past hist K (updO s o.dst (.sc undef)) h
theorem mem_alIdx{ops:List Oper}{f:Nat}(h:alB ops f=true):f∈alIdx ops:=by
 simp only[alIdx,List.mem_filter,List.mem_range]
 refine⟨?_,h⟩
 unfold alB at h
 split at h
 ·rename_i o ho
  exact(List.getElem?_eq_some_iff.1 ho).1
 ·simp at h
theorem drn2_drun2{ops:List Oper}{al:List Nat}(hal:alIdx ops=al){base:Nat}{K:Slots→Heap→Prop}:(rest:List Oper)→(k:Nat)→(past:Past)→(hist:List (Nat × Heap))→(s:Slots)→(h:Heap)→drn2 P ow wf n ops al base k rest past hist K s h→drun2 P ow wf n ops base k rest (pastC P ow past) hist K s h
 |[],_,_,_,_,_,hh=>by simpa only[drn2,drun2]using hh
 |o::rest,k,past,hist,s,h,hh=>by
  simp only[drn2]at hh
  simp only[drun2]
  refine⟨hh.1,?_⟩
  have h2:=hh.2
  clear hh
  have pc: ∀ h1,(∀ x∈past,pre ops x.1 k=true∨Does P ow x.2.1 (pev x.2.2.1) h1 x.2.2.2 h1)→ ∀ x∈pastC P ow past,pre ops x.1 k=true∨x.2 h1:=by
   intro h1 hp x hx
   obtain⟨y,hy,rfl⟩:=List.mem_map.1 hx
   exact hp y hy
  have alc: ∀ h1:Heap,(∀ f∈al,k<f→h1.obj (base+f)=none)→ ∀ f,k<f→alB ops f=true→h1.obj (base+f)=none:=fun h1 hp f hf ha=>hp f (by rw[← hal];exact mem_alIdx ha) hf
  cases hw:wantedB ops s o with
  |none=>rw[hw]at h2;exact h2
  |some b=>
   rw[hw]at h2
   simp only at h2⊢
   split at h2
   ·rename_i hb
    rw[if_pos hb]
    split at h2
    ·rename_i t hop
     split at h2
     ·rename_i zs hz
      obtain⟨a1,a2,a3,a4⟩:=h2
      have hi:isW ow wf o=true:=by unfold isW;rw[hop]
      rw[if_pos hi]
      exact⟨_,_,by unfold DoesR;rw[hop];exact⟨zs,hz,a1,rfl,rfl⟩,alc _ a2,pc _ a3,drn2_drun2 hal rest (k+1) _ _ _ _ a4⟩
     ·exact h2.elim
    ·rename_i hne
     cases hc:callee (pev s) o.op with
     |none=>
      rw[hc]at h2
      simp only at h2
      cases he:eff P (o.dst.any ow) o.op (pev s) h with
      |none=>rw[he]at h2;exact h2.elim
      |some r=>
       obtain⟨v,h1⟩:=r
       rw[he]at h2
       simp only at h2
       have hd:Does P ow o (pev s) h v h1:=by unfold Does;rw[hc];exact he
       split at h2
       ·rename_i hi
        rw[if_pos hi]
        have hdr:DoesR P ow (base+k) o (pev s) h v h1:=by
         unfold DoesR
         split
         ·rename_i t hop;exact absurd hop (hne t)
         ·exact hd
        exact⟨v,h1,hdr,alc h1 h2.1,pc h1 h2.2.1,drn2_drun2 hal rest (k+1) _ _ _ _ h2.2.2⟩
       ·rename_i hi
        rw[if_neg hi]
        obtain⟨rfl,h3,h4⟩:=h2
        exact⟨v,hd,h3,drn2_drun2 hal rest (k+1) _ _ _ _ h4⟩
     |some f=>
      rw[hc]at h2
      simp only at h2
      have dr: ∀ {v:PV}{h1:Heap},Does P ow o (pev s) h v h1→DoesR P ow (base+k) o (pev s) h v h1:=fun hd=>by
       unfold DoesR
       split
       ·rename_i t hop;exact absurd hop (hne t)
       ·exact hd
      split at h2
      ·rename_i hi
       rw[if_pos hi]
       obtain⟨v,h1,hd,h3,h4⟩:=h2
       exact⟨v,h1,dr hd,alc h1 h3.1,h3.2,h4⟩
      ·rename_i hi
       rw[if_neg hi]
       obtain⟨v,hd,h3,h4⟩:=h2
       exact⟨v,hd,h3,h4⟩
   ·rename_i hb
    rw[if_neg hb]
    exact drn2_drun2 hal rest (k+1) _ _ _ _ h2
theorem a_draw2S{id:Nat}{ops:List Oper}{K:Slots→Heap→Prop}(al:List Nat)(hd:dOk2 ow wf ops=true)(ha:alIdx ops=al)(hk:drn2 P ow wf n ops al h.next 0 ops [] [] K s ⟨h.next+ops.length,h.obj⟩):awp P ow wf n (.region id ops.toArray true) (Post.seq K Q) s h:=by
 simp only[awp,if_true];exact⟨_,_,.refl,.inr (.inl ⟨hd,drn2_drun2 ha ops 0 _ _ _ _ hk⟩)⟩
theorem a_dcall2{f:FuncId}{d:Nat}{args:List Operand}{ts:Array TypeId}{ty:TypeId}{pos:String}{af:Array Edge}{gd:Option (Nat × Bool)}{aS:List PV}{v:PV}{ops rest:List Oper}{base k k':Nat}{past:Past}{hist:List (Nat × Heap)}{K:Slots→Heap→Prop}(al:List Nat)(ha:alIdx ops=al)
  (hc:PCall P f aS h fun r h'=>r=v∧h'=h)(hs:args.map (pev s)=aS)
  (hk:drn2 P ow wf n ops al base k rest ((k',{dst:=some d,op:= .call {callee:= .value (.func f),args:=args.toArray,argTypes:=ts},type:=ty,pos:=pos,after:=af,guard:=gd},s,v)::past) hist K (upd s d v) h):
  ∃ v,Does P ow {dst:=some d,op:= .call {callee:= .value (.func f),args:=args.toArray,argTypes:=ts},type:=ty,pos:=pos,after:=af,guard:=gd} (pev s) h v h∧
   drun2 P ow wf n ops base k rest (pastC P ow ((k',{dst:=some d,op:= .call {callee:= .value (.func f),args:=args.toArray,argTypes:=ts},type:=ty,pos:=pos,after:=af,guard:=gd},s,v)::past)) hist K (upd s d v) h:=
 ⟨v,Does_use hc hs,drn2_drun2 ha _ _ _ _ _ _ hk⟩
theorem a_dcall2A{f:FuncId}{d:Nat}{args:List Operand}{ts:Array TypeId}{ty:TypeId}{pos:String}{af:Array Edge}{gd:Option (Nat × Bool)}{aS:List PV}{v:PV}{ops rest:List Oper}{base k k':Nat}{past:Past}{hist:List (Nat × Heap)}{K:Slots→Heap→Prop}{A:PV→Prop}(al:List Nat)(ha:alIdx ops=al)
  (hc:PCall P f aS h fun r h'=>r=v∧h'=h)(hs:args.map (pev s)=aS)(hA:A v)
  (hk:drn2 P ow wf n ops al base k rest ((k',{dst:=some d,op:= .call {callee:= .value (.func f),args:=args.toArray,argTypes:=ts},type:=ty,pos:=pos,after:=af,guard:=gd},s,v)::past) hist K (upd s d v) h):
  ∃ v,Does P ow {dst:=some d,op:= .call {callee:= .value (.func f),args:=args.toArray,argTypes:=ts},type:=ty,pos:=pos,after:=af,guard:=gd} (pev s) h v h∧A v∧
   drun2 P ow wf n ops base k rest (pastC P ow ((k',{dst:=some d,op:= .call {callee:= .value (.func f),args:=args.toArray,argTypes:=ts},type:=ty,pos:=pos,after:=af,guard:=gd},s,v)::past)) hist K (upd s d v) h:=
 ⟨v,Does_use hc hs,hA,drn2_drun2 ha _ _ _ _ _ _ hk⟩
end
end Go.AM
namespace Go.AM
mutual
def Nz:PV→PV→Prop
 | .imm z rows,p=>(∃ rows',p= .imm z rows'∧NzR rows rows')∨(rows=[]∧(p= .emp∨p= .sc (.slice none 0 0)))
 | .agg l,p=> ∃ l',p= .agg l'∧NzL l l'
 |q,p=>p=q
def NzL:List PV→List PV→Prop
 |[],[]=>True
 |p::ps,q::qs=>Nz p q∧NzL ps qs
 |_,_=>False
def NzR:List (List PV)→List (List PV)→Prop
 |[],[]=>True
 |p::ps,q::qs=>NzL p q∧NzR ps qs
 |_,_=>False
end
theorem NzL.len:(l l':List PV)→NzL l l'→l.length=l'.length
 |[],[],_=>rfl
 |[],_::_,h=>by simp[NzL]at h
 |_::_,[],h=>by simp[NzL]at h
 |p::l,q::l',h=>by
  unfold NzL at h
  simp only[List.length_cons,NzL.len l l' h.2]
theorem NzR.len:(l l':List (List PV))→NzR l l'→l.length=l'.length
 |[],[],_=>rfl
 |[],_::_,h=>by simp[NzR]at h
 |_::_,[],h=>by simp[NzR]at h
 |p::l,q::l',h=>by
  unfold NzR at h
  simp only[List.length_cons,NzR.len l l' h.2]
mutual
theorem Nz.refl:(p:PV)→Nz p p
 | .imm z rows=>by unfold Nz;exact .inl ⟨rows,rfl,NzR.refl rows⟩
 | .agg l=>by unfold Nz;exact⟨l,rfl,NzL.refl l⟩
 | .sc v=>by unfold Nz;rfl
 | .ptr _ _ _=>by unfold Nz;rfl
 | .cptr _=>by unfold Nz;rfl
 | .own _ _ _=>by unfold Nz;rfl
 | .emp=>by unfold Nz;rfl
 | .mp _=>by unfold Nz;rfl
 | .tup _=>by unfold Nz;rfl
 | .fn _ _ _=>by unfold Nz;rfl
 | .ab _ _ _ _ _=>by unfold Nz;rfl
theorem NzL.refl:(l:List PV)→NzL l l
 |[]=>by unfold NzL;trivial
 |p::l=>by unfold NzL;exact⟨Nz.refl p,NzL.refl l⟩
theorem NzR.refl:(l:List (List PV))→NzR l l
 |[]=>by unfold NzR;trivial
 |p::l=>by unfold NzR;exact⟨NzL.refl p,NzR.refl l⟩
end
section
variable {β:Env}{n:Nat}{F:Nat→Prop}{w:World}
mutual
theorem Nz.rep:(q p:PV)→(x:Value)→Nz q p→Rep β n F w p x→Rep β n F w q x
 | .imm z rows,p,x,h,hr=>by
  unfold Nz at h
  rcases h with⟨rows',rfl,hR⟩|⟨rfl,rfl|rfl⟩
  ·simp only[Rep]at hr⊢
   have hl:=NzR.len rows rows' hR
   obtain⟨a,cap,rfl,g1,g2,g3⟩:=hr
   refine⟨a,cap,by rw[hl],by omega,g2,?_⟩
   rcases g3 with g3|⟨b,o,hF,ha,hRR⟩
   ·left
    rw[g3]at hl
    exact List.length_eq_zero_iff.1 hl
   ·exact .inr ⟨b,o,hF,ha,NzR.rep z rows rows' b o hR hRR⟩
  ·simp only[Rep]at hr⊢
   obtain⟨a,rfl⟩:=hr
   exact⟨a,0,rfl,Nat.le_refl _,Nat.zero_le _,.inl trivial⟩
  ·simp only[Rep]at hr⊢
   exact⟨none,0,hr,Nat.le_refl _,Nat.zero_le _,.inl trivial⟩
 | .agg l,p,x,h,hr=>by
  unfold Nz at h
  obtain⟨l',rfl,hl⟩:=h
  simp only[Rep]at hr⊢
  obtain⟨xs,rfl,h1,h2⟩:=hr
  exact⟨xs,rfl,h1,NzL.rep l l' xs hl h2⟩
 | .sc _,p,x,h,hr=>by unfold Nz at h;subst h;exact hr
 | .ptr _ _ _,p,x,h,hr=>by unfold Nz at h;subst h;exact hr
 | .cptr _,p,x,h,hr=>by unfold Nz at h;subst h;exact hr
 | .own _ _ _,p,x,h,hr=>by unfold Nz at h;subst h;exact hr
 | .emp,p,x,h,hr=>by unfold Nz at h;subst h;exact hr
 | .mp _,p,x,h,hr=>by unfold Nz at h;subst h;exact hr
 | .tup _,p,x,h,hr=>by unfold Nz at h;subst h;exact hr
 | .fn _ _ _,p,x,h,hr=>by unfold Nz at h;subst h;exact hr
 | .ab _ _ _ _ _,p,x,h,hr=>by unfold Nz at h;subst h;exact hr
theorem NzL.rep:(l l':List PV)→(xs:List Value)→NzL l l'→RepL β n F w l' xs→RepL β n F w l xs
 |[],[],xs,_,hr=>hr
 |[],_::_,_,h,_=>by simp[NzL]at h
 |_::_,[],_,h,_=>by simp[NzL]at h
 |p::l,q::l',[],_,hr=>by simp[RepL]at hr
 |p::l,q::l',v::xs,h,hr=>by
  unfold NzL at h
  unfold RepL at hr⊢
  exact⟨Nz.rep p q v h.1 hr.1,NzL.rep l l' xs h.2 hr.2⟩
theorem NzS.rep:(l l':List PV)→(b o:Nat)→NzL l l'→RepS β n F w l' b o→RepS β n F w l b o
 |[],[],_,_,_,_=>by unfold RepS;trivial
 |[],_::_,_,_,h,_=>by simp[NzL]at h
 |_::_,[],_,_,h,_=>by simp[NzL]at h
 |p::l,q::l',b,o,h,hr=>by
  unfold NzL at h
  unfold RepS at hr⊢
  obtain⟨⟨v,h1,h2,h3⟩,h4⟩:=hr
  exact⟨⟨v,h1,h2,Nz.rep p q v h.1 h3⟩,NzS.rep l l' b (o+1) h.2 h4⟩
theorem NzR.rep(z:Nat):(l l':List (List PV))→(b o:Nat)→NzR l l'→RepR β n F w z l' b o→RepR β n F w z l b o
 |[],[],_,_,_,_=>by unfold RepR;trivial
 |[],_::_,_,_,h,_=>by simp[NzR]at h
 |_::_,[],_,_,h,_=>by simp[NzR]at h
 |p::l,q::l',b,o,h,hr=>by
  unfold NzR at h
  unfold RepR at hr⊢
  exact⟨⟨by rw[NzL.len p q h.1];exact hr.1.1,NzS.rep p q b o h.1 hr.1.2⟩,NzR.rep z l l' b (o+z) h.2 hr.2⟩
end
end
theorem PCall.nz{P:Program}{f:FuncId}{ys xs:List PV}{h:Heap}{K:PV→Heap→Prop}(hc:PCall P f ys h K)(hz:NzL ys xs):PCall P f xs h K:=
 fun β w vals sm hr=>hc β w vals sm (NzL.rep ys xs vals hz hr)
theorem nz_nil{z:Nat}:Nz (.imm z []) (.sc (.slice none 0 0)):=by unfold Nz;exact .inr ⟨rfl,.inr rfl⟩
theorem nz_imm{z:Nat}{r r':List (List PV)}(h:NzR r r'):Nz (.imm z r) (.imm z r'):=by unfold Nz;exact .inl ⟨_,rfl,h⟩
theorem nz_cons{p q:PV}{l m:List PV}(h:Nz p q)(h2:NzL l m):NzL (p::l) (q::m):=by unfold NzL;exact⟨h,h2⟩
theorem nzr_cons{p q:List PV}{l m:List (List PV)}(h:NzL p q)(h2:NzR l m):NzR (p::l) (q::m):=by unfold NzR;exact⟨h,h2⟩
end Go.AM
namespace Go.Proofs.YtjeolbgpllbemaaGreat
open Go.AM
set_option maxHeartbeats 8000000
set_option maxRecDepth 20000
abbrev sxZ:List PV:=[.sc (.int .i64 0),.sc (.int .i64 0),.sc (.int .i64 0),.sc (.int .i64 0),.sc (.string ⟨#[]⟩),.sc (.slice none 0 0)]
abbrev sxP:List PV:=[.sc (.int .i64 3),.sc (.int .i64 0),.sc (.int .i64 0),.sc (.int .i64 0),.sc (.string ⟨#[]⟩)]
structure PbSm(p:Pb):Prop where
 g:p.goal.small
 o:p.objects.length≤1048576
 i:p.init.length≤1048576
 v:p.values.length≤1048576
 ia: ∀ a∈p.init,a.args.length≤1048576
 va: ∀ v∈p.values,v.at_.args.length≤1048576
abbrev PwI(h:Heap)(L:List Sx)(H:Heap):Prop:=GrI h h.next (h.next+17) (h.next+18) 6 6 6 sxZ sxP [] (Sx.rows L) H
abbrev PwJ(h:Heap)(L:List Sx)(H:Heap):Prop:=GrJ h h.next (h.next+17) (h.next+18) 6 6 6 sxZ sxP [] (Sx.rows L) H
theorem atW_ok{a:At}(ha:a.ok)(hl:a.args.length≤1048576):(atW a).ok:=wordsM_ok ha.1 hl ha.2.2
theorem listM_okL{l:List Sx}(hl:l.length≤bigN)(h: ∀ x∈l,x.ok):(listM l).ok:=by
 simp only[listM,Sx.ok]
 exact⟨by omega,by omega,by simp[bigN,ByteArray.size],hl,Sx.oks_iff.2 h⟩
theorem nameS_ok{w s:ByteArray}(hw:w.size≤bigN)(hs:s.size≤bigN):(nameS w s).ok:=listM_okL (by simp[bigN]) (by
 intro x hx
 simp only[List.mem_cons,List.not_mem_nil,or_false]at hx
 rcases hx with rfl|rfl
 ·exact wordM_ok hw
 ·exact wordM_ok hs)
theorem pbW_ok{p:Pb}(hok:p.ok)(hsm:PbSm p)(hv:validF p.goal=true):(pbW p).ok:=by
 obtain⟨k1,k2,⟨k3,k4⟩,⟨k5,k6⟩,⟨k7,k8⟩,k9⟩:=hok
 have so:=hsm.o
 have si:=hsm.i
 have sv:=hsm.v
 refine listM_okL ?_ ?_
 ·have h1:(objsW p.objects).length≤1:=by unfold objsW;split<;>simp
  have h2:(initW p.init p.values).length≤1:=by unfold initW;split<;>simp
  have h3:(goalW p.goal).length≤1:=by unfold goalW;split<;>simp
  simp only[List.length_append,List.length_cons,List.length_nil,bigN]
  omega
 ·intro x hx
  simp only[List.mem_append,List.mem_cons,List.not_mem_nil,or_false]at hx
  rcases hx with(rfl|rfl|rfl)|hx|hx|hx
  ·exact wordM_ok (by decide)
  ·exact nameS_ok (by decide) k1
  ·exact nameS_ok (by decide) k2
  ·unfold objsW at hx
   split at hx
   ·cases hx
   ·simp only[List.mem_singleton]at hx
    subst hx
    refine listM_okL (by simp only[List.length_cons,paramsW_len,bigN];omega) ?_
    intro y hy
    rcases List.mem_cons.1 hy with rfl|hy
    ·exact wordM_ok (by decide)
    ·exact Sx.oks_iff.1 (paramsW_ok _ k4) y hy
  ·unfold initW at hx
   split at hx
   ·cases hx
   ·simp only[List.mem_singleton]at hx
    subst hx
    refine listM_okL (by simp only[List.length_cons,List.length_append,List.length_map,bigN];omega) ?_
    intro y hy
    simp only[List.mem_cons,List.mem_append,List.mem_map]at hy
    rcases hy with rfl|⟨a,ha,rfl⟩|⟨v,hv,rfl⟩
    ·exact wordM_ok (by decide)
    ·exact atW_ok (k6 a ha) (hsm.ia a ha)
    ·refine listM_okL (by simp[bigN]) ?_
     intro z hz
     simp only[List.mem_cons,List.not_mem_nil,or_false]at hz
     rcases hz with rfl|rfl|rfl
     ·exact wordM_ok (by decide)
     ·exact atW_ok (k8 v hv).1 (hsm.va v hv)
     ·simp only[numM,Sx.ok,Sx.oks,List.length_nil]
      exact⟨by omega,⟨(k8 v hv).2.1,(k8 v hv).2.2⟩,by simp[bigN,ByteArray.size],by simp[bigN],trivial⟩
  ·unfold goalW at hx
   split at hx
   ·cases hx
   ·simp only[List.mem_singleton]at hx
    subst hx
    refine listM_okL (by simp[bigN]) ?_
    intro y hy
    simp only[List.mem_cons,List.not_mem_nil,or_false]at hy
    rcases hy with rfl|rfl
    ·exact wordM_ok (by decide)
    ·exact fmW_ok _ k9 hsm.g (validF_shaped hv)
theorem pWrite_c{p:Pb}(hok:p.ok)(hsm:PbSm p)(h:Heap):PCall Tryz.prog 9 [.agg p.cells] h fun r h'=>r=(if writeB p then .tup [.agg (pbW p).cells,.sc .nilIface]else .tup [.agg zeroSx.cells,errV 2])∧h'=h:=by
 refine PCall.frz Ty.hb_9 ?_
 have hW:=fun h:Heap=>fWrite_c hok.2.2.2.2.2 hsm.g h
 have hE:=expressible_c hok
 generalize hF:writeB p=F
 unfold writeB at hF
 have bad: ∀ (h':Heap),F=false→FrzTo h.next h' (if F=true then .tup [.agg (pbW p).cells,.sc .nilIface]else .tup [.agg zeroSx.cells,errV 2]) (.tup [.agg sxZ,errV 2]):=by
  intro h' hf
  rw[hf,if_neg (by simp)]
  simp only[zeroSx,errV,Sx.cells,Sx.rows,FrzTo,FrzL]
  exact⟨_,rfl,⟨_,rfl,rfl,rfl,rfl,rfl,rfl,.inr (.inl ⟨rfl,.inr rfl⟩),trivial⟩,rfl,trivial⟩
 simp only[errV]at bad
 have hgW: ∀ a b,Grow h (((h.new a).new b).set h.next a):=fun a b=>(((Grow.refl h).new a).new b).set (Nat.le_refl _) a
 have hlO:=pmRows_len p.objects
 have hlI:=atRows_len p.init
 have hlV:=vlRows_len p.values
 obtain⟨name,domain,objects,init,values,goal⟩:=p
 simp only at hlO hlI hlV
 cases v1:validF goal with
 |false=>
  simp only[v1,Bool.false_eq_true,if_false]at hW
  simp only[v1,Bool.false_and]at hF
  clear hE hok hsm
  obtain⟨gop,gname,gargs,gparams,gexprs,gkids⟩:=goal
  simp only[Pb.cells,Fm.cells,List.cons_append,List.nil_append,zeroSx,Sx.cells,Sx.rows,errV]at hW⊢
  refine pcall_body (ow:=fun t=>t==40||t==49||t==67) (wf:=fun _=>false) Ty.mixed Tryz.func9 rfl Ty.hb_9 (by rw[Tryz.ntmps9];simp) ?_
  rw[Tryz.ntmps9,Tryz.results9]
  repeat'(first|refine a_seq fun K hK=>?_|(refine a_regionS ?_;simp(maxSteps:=2000000) only[Ty.w,simprocAttr])|(refine hK _ _ ?_;clear hK;try simp only[pst0,simprocAttr]))
  refine owp_useQ (hW _) (by(try simp only[Ty.w,simprocAttr,]);try rfl) ?_;simp(maxSteps:=2000000) only[Ty.w,simprocAttr,]
  repeat'(first|refine a_seq fun K hK=>?_|((first|refine a_regionS ?_|refine a_ret ?_);simp(maxSteps:=2000000) only[Ty.w,simprocAttr,nsucc])|(refine hK _ _ ?_;clear hK;try simp only[pst0,simprocAttr]))
  exact⟨bad _ hF.symm,((((Grow.refl h).new _).new _).set (Nat.le_succ _) _).set (Nat.le_refl _) _⟩
 |true=>
  simp only[v1,if_true]at hW
  simp only[v1,Bool.true_and]at hF
  generalize hV2:expressB _=ex at hF hE
  cases ex with
  |false=>
   simp only[Bool.false_and]at hF
   clear hok hsm
   generalize fmW goal=X at hW
   obtain⟨gop,gname,gargs,gparams,gexprs,gkids⟩:=goal
   obtain⟨ki,va,li,co,te,ks⟩:=X
   simp only[Pb.cells,Fm.cells,List.cons_append,List.nil_append,Sx.cells]at hW hE⊢
   refine pcall_body (ow:=fun t=>t==40||t==49||t==67) (wf:=fun _=>false) Ty.mixed Tryz.func9 rfl Ty.hb_9 (by rw[Tryz.ntmps9];simp) ?_
   rw[Tryz.ntmps9,Tryz.results9]
   repeat'(first|refine a_seq fun K hK=>?_|(refine a_regionS ?_;simp(maxSteps:=2000000) only[Ty.w,simprocAttr])|(refine hK _ _ ?_;clear hK;try simp only[pst0,simprocAttr]))
   refine owp_useQ (hW _) (by(try simp only[Ty.w,simprocAttr,]);try rfl) ?_;simp(maxSteps:=2000000) only[Ty.w,simprocAttr,]
   repeat'(first|refine a_seq fun K hK=>?_|(refine a_regionS ?_;simp(maxSteps:=2000000) only[Ty.w,simprocAttr,nsucc])|(refine hK _ _ ?_;clear hK;try simp only[pst0,simprocAttr]))
   refine owp_useQ (hE _) (by(try simp only[Ty.w,simprocAttr,Bool.not_false]);try rfl) ?_;simp(maxSteps:=2000000) only[Ty.w,simprocAttr,Bool.not_false]
   repeat'(first|refine a_seq fun K hK=>?_|((first|refine a_regionS ?_|refine a_ret ?_);simp(maxSteps:=2000000) only[Ty.w,simprocAttr,Bool.not_false,nsucc])|(refine hK _ _ ?_;clear hK;try simp only[pst0,simprocAttr]))
   exact⟨bad _ hF.symm,((((Grow.refl h).new _).new _).set (Nat.le_succ _) _).set (Nat.le_refl _) _⟩
  |true=>
   simp only[Bool.true_and]at hF
   have hpw:pbW ⟨name,domain,objects,init,values,goal⟩=listM ([wordM opDef,nameS opPrb name,nameS opDom domain]++(objsW objects++(initW init values++goalW goal))):=rfl
   have hPWo:=pbW_ok hok hsm v1
   generalize pbW _=PW at hpw hF hPWo⊢
   have hgE:goalW goal=if goalE goal then[]else[listM [wordM opGoal,fmW goal]]:=rfl
   generalize hX:fmW goal=X at hW hgE
   obtain⟨gop,gname,gargs,gparams,gexprs,gkids⟩:=goal
   obtain⟨ki,va,li,co,te,ks⟩:=X
   simp only[Pb.cells,Fm.cells,List.cons_append,List.nil_append,Sx.cells]at hW hE⊢
   have hwd: ∀ (s:ByteArray)(h:Heap),PCall Tryz.prog 27 [sPV s] h fun r h'=>r= .agg (wordM s).cells∧h'=h:=fun s h=>pword_c
   simp only[wordM,Sx.cells,Sx.rows]at hwd
   have hl2:=fun(a b:ByteArray)(h:Heap)=>plist_c (h:=h) (p:= .imm 6 (Sx.rows [wordM a,wordM b])) rfl (fun _=>frz_imm (sxs_in _ _))
   simp only[wordM,Sx.cells,Sx.rows]at hl2
   refine pcall_body (ow:=fun t=>t==40||t==49||t==67) (wf:=fun _=>false) Ty.mixed Tryz.func9 rfl Ty.hb_9 (by rw[Tryz.ntmps9];simp) ?_
   rw[Tryz.ntmps9,Tryz.results9]
   repeat'(first|refine a_seq fun K hK=>?_|(refine a_regionS ?_;simp(maxSteps:=2000000) only[Ty.w,simprocAttr])|(refine hK _ _ ?_;clear hK;try simp only[pst0,simprocAttr]))
   refine owp_useQ (hW _) (by(try simp only[Ty.w,simprocAttr,]);try rfl) ?_;simp(maxSteps:=2000000) only[Ty.w,simprocAttr,]
   repeat'(first|(with_reducible refine a_hold 2 ?_)|(refine hK _ _ ?_;clear hK;try simp only[pst0,simprocAttr]))
   refine⟨?_⟩
   refine a_tmp (h:=h.new (.arr 6 [sxZ])) 4 rfl (by simp only[Ty.w,simprocAttr]) (sx_frz' · · ki va li co te ks) ?_
   refine a_gen (fun S H=>S 1= .cptr [sPV name,sPV domain,.imm 2 (pmRows objects),.imm 2 (atRows init),.imm 3 (vlRows values),sPV gop,sPV gname,.imm 1 (strRows gargs),.imm 2 (pmRows gparams),.imm 5 (Ex.rows gexprs),.imm 6 (Fm.rows gkids)]∧S 2= .ptr h.next 0 0∧S 4= .cptr [.sc (.int .i64 ki),.sc (.int .i64 va),.sc (.int .i64 li),.sc (.int .i64 co),sPV te,.imm 6 (Sx.rows ks)]∧S 5= .sc .nilIface∧H=tmpH (h.new (.arr 6 [sxZ])) (.arr 6 [sxZ]) (.arr 6 [[.sc (.int .i64 ki),.sc (.int .i64 va),.sc (.int .i64 li),.sc (.int .i64 co),sPV te,.imm 6 (Sx.rows ks)]])) ⟨by simp only[Ty.w,simprocAttr],by simp only[Ty.w,simprocAttr],by simp only[Ty.w,simprocAttr],by simp only[Ty.w,simprocAttr],rfl⟩ ?_
   clear hW
   rintro S H ⟨s1,s2,s4,s5,hH⟩
   have hn:H.next=h.next+2:=by rw[hH];try rfl
   have hg:Grow h H:=by rw[hH];exact((Grow.refl h).new _).tmp _ _
   have ho:H.obj h.next=some (.arr 6 [sxZ]):=by rw[hH,tmpH_obj (Nat.lt_succ_self _)];simp[Heap.new]
   have hno: ∀ j,h.next<j→H.obj j=none:=fun j hj=>by
    rw[hH]
    simp only[tmpH,below]
    split
    ·rename_i hjj;simp only[Heap.new]at hjj;omega
    ·rfl
   clear hH
   repeat'(first|refine a_seq fun K hK=>?_|(refine a_regionS ?_;simp(maxSteps:=2000000) only[Ty.w,simprocAttr,s1,s2,s4,s5]))
   refine owp_useQ (hE _) (by(try simp only[Ty.w,simprocAttr,s1,s2,s4,s5,Bool.not_true]);try rfl) ?_;simp(maxSteps:=2000000) only[Ty.w,simprocAttr,s1,s2,s4,s5,Bool.not_true]
   repeat'(first|(with_reducible refine a_holdR 4 ?_)|(refine a_skip ?_;try simp only[pst0,simprocAttr])|(refine a_cond _ (by(try simp(maxSteps:=2000000) only[Ty.w,simprocAttr,s1,s2,s4,s5,Bool.not_true]);rfl) (fun hb=>?_) (fun hb=>?_)<;>(try simp only[hb0,decide_eq_true_eq,decide_eq_false_iff_not,simprocAttr]at hb)<;>(try(exfalso;omega)))|(refine hK _ _ ?_;clear hK;try simp only[pst0,simprocAttr]))
   refine⟨?_⟩
   refine a_gen (fun S H'=>S 1= .cptr [sPV name,sPV domain,.imm 2 (pmRows objects),.imm 2 (atRows init),.imm 3 (vlRows values),sPV gop,sPV gname,.imm 1 (strRows gargs),.imm 2 (pmRows gparams),.imm 5 (Ex.rows gexprs),.imm 6 (Fm.rows gkids)]∧S 2= .ptr h.next 0 0∧S 4= .cptr [.sc (.int .i64 ki),.sc (.int .i64 va),.sc (.int .i64 li),.sc (.int .i64 co),sPV te,.imm 6 (Sx.rows ks)]∧H'=H) ⟨by simp only[Ty.w,simprocAttr,s1],by simp only[Ty.w,simprocAttr,s2],by simp only[Ty.w,simprocAttr,s4],rfl⟩ ?_
   clear s1 s2 s4 s5 hE
   rintro S H' ⟨s1,s2,s4,rfl⟩
   refine a_seq (fun K hK=>?_)
   refine a_draw2S [15] (by decide+kernel) (by decide+kernel) ?_
   have hn15:H'.obj (H'.next+15)=none:=hno _ (by omega)
   have u1:(H'.next=H'.next+2)=False:=eq_false (by omega)
   simp(maxSteps:=4000000) only[drn2,Ty.w,simprocAttr,Ty.all,List.forall_mem_cons,s1,s2,s4,hn15,u1]
   first
    |refine a_dcall2 [15] (by decide+kernel) (hwd _ _) (by(try simp only[Ty.w,simprocAttr,s1,s2,s4,hn15,u1]);try rfl) ?_
    |refine a_dcall2A [15] (by decide+kernel) (hwd _ _) (by(try simp only[Ty.w,simprocAttr,s1,s2,s4,hn15,u1]);try rfl) (by simp only[Ty.w,simprocAttr,Ty.all,s1,s2,s4,hn15,u1];try trivial) ?_
   simp(maxSteps:=4000000) only[drn2,Ty.w,simprocAttr,Ty.all,List.forall_mem_cons,List.nil_append,s1,s2,s4,hn15,u1]
   first
    |refine a_dcall2 [15] (by decide+kernel) (hwd _ _) (by(try simp only[Ty.w,simprocAttr,s1,s2,s4,hn15,u1]);try rfl) ?_
    |refine a_dcall2A [15] (by decide+kernel) (hwd _ _) (by(try simp only[Ty.w,simprocAttr,s1,s2,s4,hn15,u1]);try rfl) (by simp only[Ty.w,simprocAttr,Ty.all,s1,s2,s4,hn15,u1];try trivial) ?_
   simp(maxSteps:=4000000) only[drn2,Ty.w,simprocAttr,Ty.all,List.forall_mem_cons,List.nil_append,s1,s2,s4,hn15,u1]
   first
    |refine a_dcall2 [15] (by decide+kernel) (hwd _ _) (by(try simp only[Ty.w,simprocAttr,s1,s2,s4,hn15,u1]);try rfl) ?_
    |refine a_dcall2A [15] (by decide+kernel) (hwd _ _) (by(try simp only[Ty.w,simprocAttr,s1,s2,s4,hn15,u1]);try rfl) (by simp only[Ty.w,simprocAttr,Ty.all,s1,s2,s4,hn15,u1];try trivial) ?_
   simp(maxSteps:=4000000) only[drn2,Ty.w,simprocAttr,Ty.all,List.forall_mem_cons,List.nil_append,s1,s2,s4,hn15,u1]
   first
    |refine a_dcall2 [15] (by decide+kernel) (hl2 _ _ _) (by(try simp only[Ty.w,simprocAttr,s1,s2,s4,hn15,u1]);try rfl) ?_
    |refine a_dcall2A [15] (by decide+kernel) (hl2 _ _ _) (by(try simp only[Ty.w,simprocAttr,s1,s2,s4,hn15,u1]);try rfl) (by simp only[Ty.w,simprocAttr,Ty.all,s1,s2,s4,hn15,u1];try trivial) ?_
   simp(maxSteps:=4000000) only[drn2,Ty.w,simprocAttr,Ty.all,List.forall_mem_cons,List.nil_append,s1,s2,s4,hn15,u1]
   first
    |refine a_dcall2 [15] (by decide+kernel) (hwd _ _) (by(try simp only[Ty.w,simprocAttr,s1,s2,s4,hn15,u1]);try rfl) ?_
    |refine a_dcall2A [15] (by decide+kernel) (hwd _ _) (by(try simp only[Ty.w,simprocAttr,s1,s2,s4,hn15,u1]);try rfl) (by simp only[Ty.w,simprocAttr,Ty.all,s1,s2,s4,hn15,u1];try trivial) ?_
   simp(maxSteps:=4000000) only[drn2,Ty.w,simprocAttr,Ty.all,List.forall_mem_cons,List.nil_append,s1,s2,s4,hn15,u1]
   first
    |refine a_dcall2 [15] (by decide+kernel) (hwd _ _) (by(try simp only[Ty.w,simprocAttr,s1,s2,s4,hn15,u1]);try rfl) ?_
    |refine a_dcall2A [15] (by decide+kernel) (hwd _ _) (by(try simp only[Ty.w,simprocAttr,s1,s2,s4,hn15,u1]);try rfl) (by simp only[Ty.w,simprocAttr,Ty.all,s1,s2,s4,hn15,u1];try trivial) ?_
   simp(maxSteps:=4000000) only[drn2,Ty.w,simprocAttr,Ty.all,List.forall_mem_cons,List.nil_append,s1,s2,s4,hn15,u1]
   first
    |refine a_dcall2 [15] (by decide+kernel) (hl2 _ _ _) (by(try simp only[Ty.w,simprocAttr,s1,s2,s4,hn15,u1]);try rfl) ?_
    |refine a_dcall2A [15] (by decide+kernel) (hl2 _ _ _) (by(try simp only[Ty.w,simprocAttr,s1,s2,s4,hn15,u1]);try rfl) (by simp only[Ty.w,simprocAttr,Ty.all,s1,s2,s4,hn15,u1];try trivial) ?_
   simp(maxSteps:=4000000) only[drn2,Ty.w,simprocAttr,Ty.all,List.forall_mem_cons,List.nil_append,s1,s2,s4,hn15,u1]
   refine⟨?_,?_⟩
   ·(repeat' apply And.intro)<;>exact .inl (by decide+kernel)
   refine a_dcall2A [15] (by decide+kernel) (plist_c (p:= .own (H'.next+17) 0 3) rfl (fun _=>frz_own (by simp[Heap.new]))) (by(try simp only[Ty.w,simprocAttr,s1,s2,s4,hn15,u1]);try rfl) (.inl (by decide+kernel)) ?_
   simp(maxSteps:=4000000) only[drn2,Ty.w,simprocAttr,Ty.all,List.forall_mem_cons,List.nil_append,s1,s2,s4,hn15,u1]
   have hl3: ∀ h:Heap,H'.next+17<h.next→PCall Tryz.prog 26 [.own (H'.next+17) 0 3] h fun r h'=>r= .agg [.sc (.int .i64 3),.sc (.int .i64 0),.sc (.int .i64 0),.sc (.int .i64 0),.sc (.string ⟨#[]⟩),.own (H'.next+17) 0 3]∧h'=h:=fun h hh=>plist_c rfl (fun _=>frz_own hh)
   refine⟨?_,?_⟩
   ·(repeat' apply And.intro)<;>first
     |exact .inl (by decide+kernel)
     |exact .inr (Does_use (hwd _ _) (by(try simp only[Ty.w,simprocAttr,s1,s2,s4,hn15,u1]);try rfl))
     |exact .inr (Does_use (hl2 _ _ _) (by(try simp only[Ty.w,simprocAttr,s1,s2,s4,hn15,u1]);try rfl))
     |exact .inr (Does_use (hl3 _ (by simp[Heap.new,Heap.set])) (by(try simp only[Ty.w,simprocAttr,s1,s2,s4,hn15,u1]);try rfl))
   refine⟨?_,?_⟩
   ·(repeat' apply And.intro)<;>first
     |exact .inl (by decide+kernel)
     |exact .inr (Does_use (hwd _ _) (by(try simp only[Ty.w,simprocAttr,s1,s2,s4,hn15,u1]);try rfl))
   refine hK _ _ ?_
   clear hK
   have e15:H'.next+15=h.next+17:=by omega
   refine a_gen (fun S H=>S 1= .cptr [sPV name,sPV domain,.imm 2 (pmRows objects),.imm 2 (atRows init),.imm 3 (vlRows values),sPV gop,sPV gname,.imm 1 (strRows gargs),.imm 2 (pmRows gparams),.imm 5 (Ex.rows gexprs),.imm 6 (Fm.rows gkids)]∧S 2= .ptr h.next 0 0∧S 4= .cptr [.sc (.int .i64 ki),.sc (.int .i64 va),.sc (.int .i64 li),.sc (.int .i64 co),sPV te,.imm 6 (Sx.rows ks)]∧S 6= .ptr (h.next+17) 0 0∧PwI h [wordM opDef,nameS opPrb name,nameS opDom domain] H) ⟨by simp only[Ty.w,simprocAttr,s1],by simp only[Ty.w,simprocAttr,s2],by simp only[Ty.w,simprocAttr,s4],by simp only[Ty.w,simprocAttr,e15],?_⟩ ?_
   ·have hgx:Grow h ⟨H'.next+17,H'.obj⟩:=⟨by simp only;omega,hg.old⟩
    refine GrI.mk2 (p:= .own (H'.next+17) 0 3) (((hgx.new _).set (by omega) _).set (by omega) _) ⟨Nat.le_refl _,by omega,by omega,by omega,by simp only[Heap.set,Heap.new];omega,by omega⟩ ?_ ?_ ?_
    ·simp only[Heap.set,Heap.new]
     repeat rw[if_neg (by omega)]
     exact ho
    ·simp only[Heap.set]
     rw[if_pos e15.symm];try rfl
    ·refine .inr ⟨H'.next+17,by omega,by simp[Heap.set,Heap.new],rfl,?_⟩
     simp only[Heap.set,Heap.new]
     repeat rw[if_neg (by omega)]
     rw[if_pos trivial];try rfl
   clear s1 s2 s4 hn15 u1 e15 hn hg ho hno hl3 hl2
   rintro S H ⟨s1,s2,s4,s6,hI⟩
   refine a_cut (fun S H=>S 1= .cptr [sPV name,sPV domain,.imm 2 (pmRows objects),.imm 2 (atRows init),.imm 3 (vlRows values),sPV gop,sPV gname,.imm 1 (strRows gargs),.imm 2 (pmRows gparams),.imm 5 (Ex.rows gexprs),.imm 6 (Fm.rows gkids)]∧S 2= .ptr h.next 0 0∧S 4= .cptr [.sc (.int .i64 ki),.sc (.int .i64 va),.sc (.int .i64 li),.sc (.int .i64 co),sPV te,.imm 6 (Sx.rows ks)]∧S 6= .ptr (h.next+17) 0 0∧(PwI h ([wordM opDef,nameS opPrb name,nameS opDom domain]++objsW objects) H∨PwJ h ([wordM opDef,nameS opPrb name,nameS opDom domain]++objsW objects) H)) ?_ ?_
   ·cases dO:decide ((objects.length:Int)>0)with
    |false=>
     have e:objects=[]:=by
      cases objects with
      |nil=>rfl
      |cons=>simp at dO
     subst e
     repeat'(first|refine a_seq fun K hK=>?_|(refine a_regionS ?_;simp(maxSteps:=2000000) only[Ty.w,simprocAttr,s1,s2,s4,s6,hlO,dO])|(refine a_skip ?_;try simp only[pst0,simprocAttr])|(refine a_cond _ (by(try simp(maxSteps:=2000000) only[Ty.w,simprocAttr,s1,s2,s4,s6,hlO,dO]);rfl) (fun hb=>?_) (fun hb=>?_)<;>(try simp only[hb0,decide_eq_true_eq,decide_eq_false_iff_not,simprocAttr]at hb)<;>(try(exfalso;omega)))|(refine hK _ _ ?_;clear hK;try simp only[pst0,simprocAttr]))
     exact⟨s1,s2,s4,s6,.inl hI⟩
    |true=>
     have hob:objsW objects=[objsS objects]:=by
      cases objects with
      |nil=>simp at dO
      |cons=>rfl
     have hWP:=fun h:Heap=>writeParams_c (l:=objects) hsm.o h
     have hpl:(Sx.rows (paramsW objects)).length=3*objects.length:=by rw[Sx.rows_len,paramsW_len]
     have hos:=hsm.o
     simp only at hos
     rw[hob]
     obtain⟨hg,ids,o1,p,Hk,o2,tl,t1,t2,t3,t4,hgH,hpc,hp1⟩:=hI
     simp only[sxP,List.cons_append,List.nil_append]at o2
     have hrow:objsS objects=listM (wordM opObjs::paramsW objects):=rfl
     generalize hPR:paramsW objects=PR at hWP hpl hrow
     have hb1:(1+3*objects.length)*72≤140737488355328:=by omega
     have n1:(h.next+17=H.next)=False:=eq_false (by omega)
     have n2:(h.next+17=H.next+1)=False:=eq_false (by omega)
     have hwr:(PV.sc (.int .i64 1)::PV.sc (.int .i64 0)::PV.sc (.int .i64 0)::PV.sc (.int .i64 0)::sPV ⟨#[58,111,98,106,101,99,116,115]⟩::[PV.imm 6 []])::Sx.rows PR=Sx.rows (wordM opObjs::PR):=rfl
     obtain⟨RX,hRX⟩: ∃ RX,RX=Sx.rows (wordM opObjs::PR):=⟨_,rfl⟩
     rw[← hRX]at hwr
     have hl5:RX.length=1+3*objects.length:=by rw[hRX,Sx.rows_len,List.length_cons, ← hpl,Sx.rows_len];omega
     have tl2:=fun a=>tl.up (h':=(((H.new a).kill H.next).new (.arr 6 RX))) (show H.next≤H.next+1+1 by omega) (fun j _ hj=>obj_lit hj)
     have hg2:=fun a=>(((hg.new a).kill (show h.next≤H.next by omega)).new (.arr 6 RX))
     have hl3: ∀ (k:Nat)(h:Heap),k<h.next→PCall Tryz.prog 26 [.own k 0 (1+3*objects.length)] h fun r h'=>r= .agg [.sc (.int .i64 3),.sc (.int .i64 0),.sc (.int .i64 0),.sc (.int .i64 0),.sc (.string ⟨#[]⟩),.own k 0 (1+3*objects.length)]∧h'=h:=fun k h hh=>plist_c rfl (fun _=>frz_own hh)
     have hL3:(Sx.rows [wordM opDef,nameS opPrb name,nameS opDom domain]).length=3:=rfl
     generalize hLL:[wordM opDef,nameS opPrb name,nameS opDom domain]=L3 at tl tl2 t1 hL3⊢
     have W:=And.intro s1 (And.intro s2 (And.intro s4 (And.intro s6 (And.intro o2 (And.intro n1 n2)))))
     repeat'(first|refine a_seq fun K hK=>?_|((first|refine a_regionS ?_|refine a_drawS (by decide+kernel) ?_);simp(maxSteps:=2000000) only[Ty.w,simprocAttr,W,hlO,dO])|(refine a_cond _ (by(try simp(maxSteps:=2000000) only[Ty.w,simprocAttr,W,hlO,dO]);rfl) (fun hb=>?_) (fun hb=>?_)<;>(try simp only[hb0,decide_eq_true_eq,decide_eq_false_iff_not,simprocAttr]at hb)<;>(try(exfalso;omega)))|(refine hK _ _ ?_;clear hK;try simp only[pst0,simprocAttr]))
     (first|refine a_dcall0 (hwd _ _) (by(try simp only[Ty.w,simprocAttr,W]);try rfl) ?_|refine a_dcallA (hwd _ _) (by(try simp only[Ty.w,simprocAttr,W]);try rfl) (by simp only[Ty.w,simprocAttr,W];try trivial) ?_);simp(maxSteps:=2000000) only[Ty.w,simprocAttr,W,Option.getD_some]
     repeat'(with_reducible refine a_past2 (by simp only[List.forall_mem_cons,Ty.w,simprocAttr,s1,s2,s4,s6,o2,n1,n2]<;>(repeat' apply And.intro)<;>first|trivial|exact .inl (by decide+kernel)) ?_;try simp(maxSteps:=2000000) only[Ty.w,simprocAttr,W])
     refine a_dcallA (hWP _) (by(try simp only[Ty.w,simprocAttr,W]);try rfl) (by intro x hx;exact .inr (Does_use (hWP _) (by(try simp only[Ty.w,simprocAttr,W]);try rfl))) ?_
     simp(maxSteps:=2000000) only[Ty.w,simprocAttr,W,Ty.all,Option.getD_some,hpl,hb1]
     repeat'(with_reducible refine a_past2 (by simp only[List.forall_mem_cons,Ty.w,simprocAttr,s1,s2,s4,s6,o2,n1,n2,hpl,hb1,hwr]<;>(repeat' apply And.intro)<;>first|trivial|exact .inl (by decide+kernel)) ?_;try simp(maxSteps:=2000000) only[Ty.w,simprocAttr,W,hpl,hb1,hwr])
     generalize hA:AObj.arr 6 [[PV.sc (.int .i64 1),PV.sc (.int .i64 0),PV.sc (.int .i64 0),PV.sc (.int .i64 0),sPV ⟨#[58,111,98,106,101,99,116,115]⟩,PV.imm 6 []]]=A1
     have tl2:=tl2 A1
     have hg2:=hg2 A1
     obtain⟨H3,u1,u2,u3,u4,u5⟩:=tl2.tail
     have hgH3:=u5 h ⟨hg2.le,hg2.old⟩ (by omega)
     have u3':H3.next=H.next+2:=u3
     have o2H:H3.obj (h.next+17)=_:=(u4 _ (by omega)).trans (show _=some (AObj.arr 6 [[.sc (.int .i64 3),.sc (.int .i64 0),.sc (.int .i64 0),.sc (.int .i64 0),.sc (.string ⟨#[]⟩),p]])from(obj_lit (by omega)).trans o2)
     have n3:(h.next+17=H3.next)=False:=eq_false (by omega)
     have n4:(h.next+17=H.next+2)=False:=eq_false (by omega)
     refine a_dcallA (hl3 (H.next+1) _ (Nat.lt_succ_self _)) (by(try simp only[Ty.w,simprocAttr,s1,s2,s4,s6,o2,n1,n2]);try rfl) (by simp only[List.forall_mem_cons];exact⟨.inl (by decide+kernel),.inl (by decide+kernel),fun _ h=>by cases h⟩) ?_
     simp(maxSteps:=2000000) only[Ty.w,simprocAttr,Ty.all,Option.getD_some,s1,s2,s4,s6,o2,n1,n2,hpl,hb1,u1,u2,u3',hL3,o2H,n3,n4,hpc,hp1]
     repeat'(with_reducible refine a_past2 (by simp only[List.forall_mem_cons,Ty.w,simprocAttr,s1,s2,s4,s6,o2,n1,n2,hpl,hb1,u1,u2,u3',hL3,o2H,n3,n4,hpc,hp1]<;>(repeat' apply And.intro)<;>first|trivial|exact .inl (by decide+kernel)) ?_;try simp(maxSteps:=2000000) only[Ty.w,simprocAttr,s1,s2,s4,s6,o2,n1,n2,hpl,hb1,u1,u2,u3',hL3,o2H,n3,n4,hpc,hp1])
     refine .inr (GrJ.push (X:=H.next+1) (z:=6) (RX:=RX) (m:=4) (r':=(objsS objects).cells) ⟨hgH3.1,hgH3.2⟩ ⟨ids.1,ids.2.1,ids.2.2.1,ids.2.2.2.1,by omega,ids.2.2.2.2.2⟩ (by rw[u4 _ (by omega),obj_lit (by omega)];exact o1) ?_ (by omega) (by omega) u3' (by rw[hL3]) (by simp[Sx.rows_map]) ?_)
     ·rw [isTail_keep tl u1 (Nat.le_succ _)]
      simp only[Heap.new,Heap.kill,if_true]
     ·rw [hrow]
      simp only[listM,Sx.cells,GvL]
      exact⟨.inl rfl,.inl rfl,.inl rfl,.inl rfl,.inl rfl,.inr ⟨by rw[hl5],by rw[hRX]⟩,trivial⟩
   ·clear s1 s2 s4 s6 hI
    rintro S H ⟨s1,s2,s4,s6,hI⟩
    refine a_giveO rfl hI ?_
    clear hI
    intro H hI
    generalize hL1:[wordM opDef,nameS opPrb name,nameS opDom domain]++objsW objects=L1 at hI
    have hL1n:L1.length≤4:=by
     rw[← hL1]
     unfold objsW
     split<;>simp
    refine a_cut (fun S H=>S 1= .cptr [sPV name,sPV domain,.imm 2 (pmRows objects),.imm 2 (atRows init),.imm 3 (vlRows values),sPV gop,sPV gname,.imm 1 (strRows gargs),.imm 2 (pmRows gparams),.imm 5 (Ex.rows gexprs),.imm 6 (Fm.rows gkids)]∧S 2= .ptr h.next 0 0∧S 4= .cptr [.sc (.int .i64 ki),.sc (.int .i64 va),.sc (.int .i64 li),.sc (.int .i64 co),sPV te,.imm 6 (Sx.rows ks)]∧S 6= .ptr (h.next+17) 0 0∧PwI h (L1++initW init values) H) ?_ ?_
    ·have wl:IntKind.i64.wrap ((init.length:Int)+values.length)=init.length+values.length:=by
      have h1:=hsm.i
      have h2:=hsm.v
      simp only at h1 h2
      rw[wrap64 (by omega) (by omega)]
     cases dI:decide ((init.length:Int)+values.length>0)with
     |false=>
      have e1:init=[]:=by
       cases init with
       |nil=>rfl
       |cons=>simp at dI;omega
      have e2:values=[]:=by
       cases values with
       |nil=>rfl
       |cons=>simp at dI;omega
      have hin:initW init values=[]:=by rw[e1,e2];try rfl
      repeat'(first|refine a_seq fun K hK=>?_|(refine a_regionS ?_;simp(maxSteps:=2000000) only[Ty.w,simprocAttr,s1,s2,s4,s6,hlI,hlV,wl,dI])|(refine a_skip ?_;try simp only[pst0,simprocAttr])|(refine a_cond _ (by(try simp(maxSteps:=2000000) only[Ty.w,simprocAttr,s1,s2,s4,s6,hlI,hlV,wl,dI]);rfl) (fun hb=>?_) (fun hb=>?_)<;>(try simp only[hb0,decide_eq_true_eq,decide_eq_false_iff_not,simprocAttr]at hb)<;>(try(exfalso;omega)))|(refine hK _ _ ?_;clear hK;try simp only[pst0,simprocAttr]))
      refine⟨s1,s2,s4,s6,?_⟩
      rw[hin,List.append_nil]
      exact hI
     |true=>
      have hin:initW init values=[initS init values]:=by
       unfold initW
       rw[if_neg]
       intro hh
       simp only[Bool.and_eq_true,List.isEmpty_iff]at hh
       obtain⟨rfl,rfl⟩:=hh
       simp at dI
      repeat'(first|refine a_seq fun K hK=>?_|(refine a_regionS ?_;simp(maxSteps:=2000000) only[Ty.w,simprocAttr,s1,s2,s4,s6,hlI,hlV,wl,dI])|(refine hK _ _ ?_;clear hK;try simp only[pst0,simprocAttr]))
      refine owp_useQ (hwd _ _) (by(try simp only[Ty.w,simprocAttr,]);try rfl) ?_;simp(maxSteps:=2000000) only[Ty.w,simprocAttr,]
      skip
      refine owp_useQ (plist_c (p:= .own H.next 0 1) rfl (fun _=>frz_own (Nat.lt_succ_self _))) (by(try simp only[Ty.w,simprocAttr,]);try rfl) ?_;simp(maxSteps:=2000000) only[Ty.w,simprocAttr,]
      repeat'(first|(with_reducible refine a_hold 9 ?_)|(refine hK _ _ ?_;clear hK;try simp only[pst0,simprocAttr]))
      refine⟨?_⟩
      refine a_gen (fun S H'=>S 1= .cptr [sPV name,sPV domain,.imm 2 (pmRows objects),.imm 2 (atRows init),.imm 3 (vlRows values),sPV gop,sPV gname,.imm 1 (strRows gargs),.imm 2 (pmRows gparams),.imm 5 (Ex.rows gexprs),.imm 6 (Fm.rows gkids)]∧S 2= .ptr h.next 0 0∧S 4= .cptr [.sc (.int .i64 ki),.sc (.int .i64 va),.sc (.int .i64 li),.sc (.int .i64 co),sPV te,.imm 6 (Sx.rows ks)]∧S 6= .ptr (h.next+17) 0 0∧S 7= .ptr (H.next+1) 0 0∧GrV H (H.next+1) H.next 6 6 sxP [] (Sx.rows ([wordM opInit])) H') ⟨by simp only[Ty.w,simprocAttr,s1],by simp only[Ty.w,simprocAttr,s2],by simp only[Ty.w,simprocAttr,s4],by simp only[Ty.w,simprocAttr,s6],by simp only[Ty.w,simprocAttr],?_⟩ ?_
      ·refine GrV.mk2 (p:= .own H.next 0 1) ((((Grow.refl H).new _).new _).set (Nat.le_succ _) _) ⟨Nat.le_succ _,Nat.le_refl _,show H.next+1<H.next+2 by omega⟩ obj_at (.inr ⟨H.next,Nat.le_refl _,show H.next<H.next+2 by omega,rfl,?_⟩) ?_
       ·rw [obj_set (by omega),obj_new (show H.next<H.next+1 by omega)]
        simp only[Heap.new,if_true];rfl
       ·intro id he
        simp only[PV.own.injEq]at he
        omega
      clear s1 s2 s4 s6
      rintro S H1 ⟨s1,s2,s4,s6,s7,hV⟩
      repeat'(first|refine a_seq fun K hK=>?_|(refine a_block ?_)|(refine a_regionS ?_;simp(maxSteps:=2000000) only[Ty.w,simprocAttr,s1,hlI])|(refine hK _ _ ?_;clear hK;try simp only[pst0,simprocAttr]))
      refine a_loop (fun m S h'=>S 1= .cptr [sPV name,sPV domain,.imm 2 (pmRows objects),.imm 2 (atRows init),.imm 3 (vlRows values),sPV gop,sPV gname,.imm 1 (strRows gargs),.imm 2 (pmRows gparams),.imm 5 (Ex.rows gexprs),.imm 6 (Fm.rows gkids)]∧S 2= .ptr h.next 0 0∧S 4= .cptr [.sc (.int .i64 ki),.sc (.int .i64 va),.sc (.int .i64 li),.sc (.int .i64 co),sPV te,.imm 6 (Sx.rows ks)]∧S 6= .ptr (h.next+17) 0 0∧S 7= .ptr (H.next+1) 0 0∧S 70= .imm 2 (atRows init)∧S 71= .sc (.int .i64 init.length)∧ ∃ k:Nat,S 72= .sc (.int .i64 k)∧k≤init.length∧m=init.length-k∧GrV H (H.next+1) H.next 6 6 sxP [] (Sx.rows (wordM opInit::(init.take k).map atW)) h') init.length ?_ ?_
      ·simp only[Ty.w,simprocAttr,s1,s2,s4,s6,s7]
       exact⟨0,rfl,by omega,rfl,hV⟩
      ·clear hV s1 s2 s4 s6 s7
       rintro m S h' ⟨s1,s2,s4,s6,s7,s70,s71,k,s72,hk,rfl,hV⟩
       by_cases hlt:k<init.length
       ·have hd:decide ((k:Int)<(init.length:Int))=true:=by simp;omega
        have w7:IntKind.i64.wrap ((k:Int)+1)=k+1:=by have:=hsm.i;simp only at this;rw[wrap64 (by omega) (by omega)]
        obtain⟨a,hx⟩: ∃ a,init[k]? =some a:=⟨_,List.getElem?_eq_getElem hlt⟩
        have hr:=atRows_get hx
        have hwa:=fun h:Heap=>writeAtom_c (h:=h) (first:=a.name) (l:=a.args) (hsm.ia a (List.mem_of_getElem? hx))
        have hR2:Sx.rows (wordM opInit::(init.take (k+1)).map atW)=Sx.rows (wordM opInit::(init.take k).map atW)++[(wordsM a.name a.args).cells]:=by
         rw[List.take_add_one,hx]
         simp[Sx.rows_map,atW]
        have hpr:(Sx.rows (wordM opInit::(init.take k).map atW)).length=k+1:=by rw[Sx.rows_len];simp;omega
        generalize Sx.rows (wordM opInit::(init.take k).map atW)=R at hV hR2 hpr
        generalize wordsM a.name a.args=X at hwa hR2
        obtain⟨ki2,va2,li2,co2,te2,ks2⟩:=X
        simp only[Sx.cells]at hwa hR2
        repeat'(first|(with_reducible refine a_holdB 12 ?_)|refine a_seq fun K hK=>?_|(refine a_regionS ?_;simp(maxSteps:=2000000) only[Ty.w,simprocAttr,s1,s2,s4,s6,s7,s70,s71,s72,hd,hr])|(refine a_skip ?_;try simp only[pst0,simprocAttr])|(refine a_cond _ (by(try simp(maxSteps:=2000000) only[Ty.w,simprocAttr,s1,s2,s4,s6,s7,s70,s71,s72,hd,hr]);rfl) (fun hb=>?_) (fun hb=>?_)<;>(try simp only[hb0,decide_eq_true_eq,decide_eq_false_iff_not,simprocAttr]at hb)<;>(try(exfalso;omega)))|(refine hK _ _ ?_;clear hK;try simp only[pst0,simprocAttr]))
        refine⟨?_⟩
        refine a_tmp 9 rfl (by simp only[Ty.w,simprocAttr]) (fun n H=>by simp only[FrzL,FrzTo,and_true,true_and];exact .inl (strs_in _ _)) ?_
        refine a_gen (fun S H'=>S 1= .cptr [sPV name,sPV domain,.imm 2 (pmRows objects),.imm 2 (atRows init),.imm 3 (vlRows values),sPV gop,sPV gname,.imm 1 (strRows gargs),.imm 2 (pmRows gparams),.imm 5 (Ex.rows gexprs),.imm 6 (Fm.rows gkids)]∧S 2= .ptr h.next 0 0∧S 4= .cptr [.sc (.int .i64 ki),.sc (.int .i64 va),.sc (.int .i64 li),.sc (.int .i64 co),sPV te,.imm 6 (Sx.rows ks)]∧S 6= .ptr (h.next+17) 0 0∧S 7= .ptr (H.next+1) 0 0∧S 70= .imm 2 (atRows init)∧S 71= .sc (.int .i64 init.length)∧S 72= .sc (.int .i64 k)∧S 9= .cptr [sPV a.name,.imm 1 (strRows a.args)]∧GrV H (H.next+1) H.next 6 6 sxP [] R H') ⟨by simp only[Ty.w,simprocAttr,s1],by simp only[Ty.w,simprocAttr,s2],by simp only[Ty.w,simprocAttr,s4],by simp only[Ty.w,simprocAttr,s6],by simp only[Ty.w,simprocAttr,s7],by simp only[Ty.w,simprocAttr,s70],by simp only[Ty.w,simprocAttr,s71],by simp only[Ty.w,simprocAttr,s72],by simp only[Ty.w,simprocAttr],hV.tmp _ _⟩ ?_
        clear hV s1 s2 s4 s6 s7 s70 s71 s72 hr hd
        rintro S h' ⟨s1,s2,s4,s6,s7,s70,s71,s72,s9,hV⟩
        obtain⟨hg,ids,p,Hk,o2,tl,t1,t2,t3,t4,hgH,hpc,hp1⟩:=hV
        simp only[sxP,List.cons_append,List.nil_append]at o2
        have o2H:=t4.trans o2
        have n1:(H.next+1=h'.next)=False:=eq_false (by omega)
        have hb:(k+1+1)*72≤140737488355328:=by have:=hsm.i;simp only at this;omega
        have hpush:=GrV.push (m:=k+1+1) (zo:=6) (zl:=6) (pre:=sxP) (post:=[]) (R:=R) [.sc (.int .i64 ki2),.sc (.int .i64 va2),.sc (.int .i64 li2),.sc (.int .i64 co2),sPV te2,.imm 6 (Sx.rows ks2)] hgH ids (by omega) t3 (by omega)
        rw[← hR2]at hpush
        simp only[sxP,List.cons_append,List.nil_append]at hpush
        have W:=And.intro s1 (And.intro s7 (And.intro s2 (And.intro s9 (And.intro s4 (And.intro s70 (And.intro s6 (And.intro s71 (And.intro s72 (And.intro o2 (And.intro o2H (And.intro n1 (And.intro t1 (And.intro t2 (And.intro t3 (And.intro hpr (And.intro hb (And.intro hpc (And.intro hp1 w7))))))))))))))))))
        repeat'(refine a_draw (by decide+kernel) (fun K hK=>?_);simp(maxSteps:=2000000) only[Ty.w,simprocAttr,W])
        (first|refine a_dcall0 (hwa _) (by(try simp only[Ty.w,simprocAttr,W]);try rfl) ?_|refine a_dcallA (hwa _) (by(try simp only[Ty.w,simprocAttr,W]);try rfl) (by simp only[Ty.w,simprocAttr,W];try trivial) ?_);simp(maxSteps:=2000000) only[Ty.w,simprocAttr,W,Option.getD_some]
        repeat'(first|(refine a_regionS ?_;simp(maxSteps:=2000000) only[Ty.w,simprocAttr,W, ← hR2])|(refine hK _ _ ?_;clear hK;try simp only[pst0,simprocAttr])|(with_reducible refine a_past2 (by simp only[List.forall_mem_cons,Ty.w,simprocAttr,s1,s2,s4,s6,s7,s70,s71,s72,o2,o2H,n1,t1,t2,t3,hpr,hb,hpc,hp1, ← hR2,w7]<;>(repeat' apply And.intro)<;>first|trivial|exact .inl (by decide+kernel)) ?_;try simp(maxSteps:=2000000) only[Ty.w,simprocAttr,W, ← hR2])|(rw[if_pos];rotate_left 1;omega;simp(maxSteps:=2000000) only[Ty.w,simprocAttr,W, ← hR2]))
        exact⟨init.length-(k+1),by omega,k+1,by simp,by omega,rfl,hpush⟩
       ·have hd:decide ((k:Int)<(init.length:Int))=false:=by simp;omega
        have hke:k=init.length:=by omega
        subst hke
        rw[List.take_length]at hV
        repeat'(first|(with_reducible refine a_hold 14 ?_)|refine a_seq fun K hK=>?_|(refine a_regionS ?_;simp(maxSteps:=2000000) only[Ty.w,simprocAttr,s1,s2,s4,s6,s7,s70,s71,s72,hd])|(refine a_exit ?_;try simp only[pst0,simprocAttr])|(refine a_cond _ (by(try simp(maxSteps:=2000000) only[Ty.w,simprocAttr,s1,s2,s4,s6,s7,s70,s71,s72,hd]);rfl) (fun hb=>?_) (fun hb=>?_)<;>(try simp only[hb0,decide_eq_true_eq,decide_eq_false_iff_not,simprocAttr]at hb)<;>(try(exfalso;omega)))|((first|refine hK _ _ ?_|(clear hK;refine hK _ _ ?_));clear hK;try simp only[pst0,simprocAttr]))
        refine⟨?_⟩
        refine a_gen (fun S H'=>S 1= .cptr [sPV name,sPV domain,.imm 2 (pmRows objects),.imm 2 (atRows init),.imm 3 (vlRows values),sPV gop,sPV gname,.imm 1 (strRows gargs),.imm 2 (pmRows gparams),.imm 5 (Ex.rows gexprs),.imm 6 (Fm.rows gkids)]∧S 2= .ptr h.next 0 0∧S 4= .cptr [.sc (.int .i64 ki),.sc (.int .i64 va),.sc (.int .i64 li),.sc (.int .i64 co),sPV te,.imm 6 (Sx.rows ks)]∧S 6= .ptr (h.next+17) 0 0∧S 7= .ptr (H.next+1) 0 0∧H'=h') ⟨by simp only[Ty.w,simprocAttr,s1],by simp only[Ty.w,simprocAttr,s2],by simp only[Ty.w,simprocAttr,s4],by simp only[Ty.w,simprocAttr,s6],by simp only[Ty.w,simprocAttr,s7],rfl⟩ ?_
        clear s1 s2 s4 s6 s7 s70 s71 s72 hd hlt hk
        rintro S h' ⟨s1,s2,s4,s6,s7,rfl⟩
        repeat'(first|refine a_seq fun K hK=>?_|(refine a_block ?_)|(refine a_regionS ?_;simp(maxSteps:=2000000) only[Ty.w,simprocAttr,s1,hlV])|(refine hK _ _ ?_;clear hK;try simp only[pst0,simprocAttr]))
        refine a_loop (fun m S h'=>S 1= .cptr [sPV name,sPV domain,.imm 2 (pmRows objects),.imm 2 (atRows init),.imm 3 (vlRows values),sPV gop,sPV gname,.imm 1 (strRows gargs),.imm 2 (pmRows gparams),.imm 5 (Ex.rows gexprs),.imm 6 (Fm.rows gkids)]∧S 2= .ptr h.next 0 0∧S 4= .cptr [.sc (.int .i64 ki),.sc (.int .i64 va),.sc (.int .i64 li),.sc (.int .i64 co),sPV te,.imm 6 (Sx.rows ks)]∧S 6= .ptr (h.next+17) 0 0∧S 7= .ptr (H.next+1) 0 0∧S 85= .imm 3 (vlRows values)∧S 86= .sc (.int .i64 values.length)∧ ∃ k:Nat,S 87= .sc (.int .i64 k)∧k≤values.length∧m=values.length-k∧GrV H (H.next+1) H.next 6 6 sxP [] (Sx.rows (wordM opInit::(init.map atW++(values.take k).map vlW))) h') values.length ?_ ?_
        ·simp only[Ty.w,simprocAttr,s1,s2,s4,s6,s7]
         exact⟨0,rfl,by omega,rfl,by simpa using hV⟩
        ·clear hV s1 s2 s4 s6 s7
         rintro m S h' ⟨s1,s2,s4,s6,s7,s85,s86,k,s87,hk,rfl,hV⟩
         by_cases hlt:k<values.length
         ·have hd:decide ((k:Int)<(values.length:Int))=true:=by simp;omega
          have w7:IntKind.i64.wrap ((k:Int)+1)=k+1:=by have:=hsm.v;simp only at this;rw[wrap64 (by omega) (by omega)]
          obtain⟨⟨⟨an,aa⟩,vn⟩,hx⟩: ∃ a,values[k]? =some a:=⟨_,List.getElem?_eq_getElem hlt⟩
          have hr:=vlRows_get hx
          have hwa:=fun h:Heap=>writeAtom_c (h:=h) (first:=an) (l:=aa) (hsm.va _ (List.mem_of_getElem? hx))
          have hR2:Sx.rows (wordM opInit::(init.map atW++(values.take (k+1)).map vlW))=Sx.rows (wordM opInit::(init.map atW++(values.take k).map vlW))++[(listM [wordM opEq,wordsM an aa,numM vn]).cells]:=by
           rw[List.take_add_one,hx]
           simp[Sx.rows_map,vlW,atW]
          have hpr:(Sx.rows (wordM opInit::(init.map atW++(values.take k).map vlW))).length=init.length+k+1:=by rw[Sx.rows_len];simp;omega
          generalize Sx.rows (wordM opInit::(init.map atW++(values.take k).map vlW))=R at hV hR2 hpr
          generalize wordsM an aa=X at hwa hR2
          obtain⟨ki2,va2,li2,co2,te2,ks2⟩:=X
          have hl3: ∀ h:Heap,PCall Tryz.prog 26 [.imm 6 [[.sc (.int .i64 1),.sc (.int .i64 0),.sc (.int .i64 0),.sc (.int .i64 0),sPV opEq,.imm 6 []],[.sc (.int .i64 ki2),.sc (.int .i64 va2),.sc (.int .i64 li2),.sc (.int .i64 co2),sPV te2,.imm 6 (Sx.rows ks2)],[.sc (.int .i64 2),.sc (.int .i64 vn),.sc (.int .i64 0),.sc (.int .i64 0),.sc (.string ⟨#[]⟩),.sc (.slice none 0 0)]]] h fun r h'=>r= .agg (listM [wordM opEq,Sx.mk ki2 va2 li2 co2 te2 ks2,numM vn]).cells∧h'=h:=
           fun h=>PCall.nz (plist_c (p:= .imm 6 (Sx.rows [wordM opEq,.mk ki2 va2 li2 co2 te2 ks2,numM vn])) rfl (fun _=>frz_imm (sxs_in _ _))) (nz_cons (nz_imm (nzr_cons (NzL.refl _) (nzr_cons (NzL.refl _) (nzr_cons (nz_cons (Nz.refl _) (nz_cons (Nz.refl _) (nz_cons (Nz.refl _) (nz_cons (Nz.refl _) (nz_cons (Nz.refl _) (nz_cons nz_nil (NzL.refl []))))))) (NzR.refl []))))) (NzL.refl []))
          simp only[Sx.cells,listM,Sx.rows,wordM,numM]at hwa hR2 hl3
          simp only at hr
          repeat'(first|(with_reducible refine a_holdB 17 ?_)|refine a_seq fun K hK=>?_|(refine a_regionS ?_;simp(maxSteps:=2000000) only[Ty.w,simprocAttr,s1,s2,s4,s6,s7,s85,s86,s87,hd,hr])|(refine a_skip ?_;try simp only[pst0,simprocAttr])|(refine a_cond _ (by(try simp(maxSteps:=2000000) only[Ty.w,simprocAttr,s1,s2,s4,s6,s7,s85,s86,s87,hd,hr]);rfl) (fun hb=>?_) (fun hb=>?_)<;>(try simp only[hb0,decide_eq_true_eq,decide_eq_false_iff_not,simprocAttr]at hb)<;>(try(exfalso;omega)))|(refine hK _ _ ?_;clear hK;try simp only[pst0,simprocAttr]))
          refine⟨?_⟩
          refine a_tmp 11 rfl (by simp only[Ty.w,simprocAttr]) (fun n H=>by simp only[FrzL,FrzTo,and_true,true_and];exact .inl (strs_in _ _)) ?_
          refine a_gen (fun S H'=>S 1= .cptr [sPV name,sPV domain,.imm 2 (pmRows objects),.imm 2 (atRows init),.imm 3 (vlRows values),sPV gop,sPV gname,.imm 1 (strRows gargs),.imm 2 (pmRows gparams),.imm 5 (Ex.rows gexprs),.imm 6 (Fm.rows gkids)]∧S 2= .ptr h.next 0 0∧S 4= .cptr [.sc (.int .i64 ki),.sc (.int .i64 va),.sc (.int .i64 li),.sc (.int .i64 co),sPV te,.imm 6 (Sx.rows ks)]∧S 6= .ptr (h.next+17) 0 0∧S 7= .ptr (H.next+1) 0 0∧S 85= .imm 3 (vlRows values)∧S 86= .sc (.int .i64 values.length)∧S 87= .sc (.int .i64 k)∧S 11= .cptr [sPV an,.imm 1 (strRows aa),.sc (.int .i64 vn)]∧GrV H (H.next+1) H.next 6 6 sxP [] R H') ⟨by simp only[Ty.w,simprocAttr,s1],by simp only[Ty.w,simprocAttr,s2],by simp only[Ty.w,simprocAttr,s4],by simp only[Ty.w,simprocAttr,s6],by simp only[Ty.w,simprocAttr,s7],by simp only[Ty.w,simprocAttr,s85],by simp only[Ty.w,simprocAttr,s86],by simp only[Ty.w,simprocAttr,s87],by simp only[Ty.w,simprocAttr],hV.tmp _ _⟩ ?_
          clear hV s1 s2 s4 s6 s7 s85 s86 s87 hr hd
          rintro S h' ⟨s1,s2,s4,s6,s7,s85,s86,s87,s11,hV⟩
          obtain⟨hg,ids,p,Hk,o2,tl,t1,t2,t3,t4,hgH,hpc,hp1⟩:=hV
          simp only[sxP,List.cons_append,List.nil_append]at o2
          have o2H:=t4.trans o2
          have n1:(H.next+1=h'.next)=False:=eq_false (by omega)
          have hb:(init.length+k+1+1)*72≤140737488355328:=by have:=hsm.i;have:=hsm.v;simp only at*;omega
          have hpush:=GrV.push (m:=init.length+k+1+1) (zo:=6) (zl:=6) (pre:=sxP) (post:=[]) (R:=R) [.sc (.int .i64 3),.sc (.int .i64 0),.sc (.int .i64 0),.sc (.int .i64 0),sPV ⟨#[]⟩,.imm 6 [[.sc (.int .i64 1),.sc (.int .i64 0),.sc (.int .i64 0),.sc (.int .i64 0),sPV opEq,.imm 6 []],[.sc (.int .i64 ki2),.sc (.int .i64 va2),.sc (.int .i64 li2),.sc (.int .i64 co2),sPV te2,.imm 6 (Sx.rows ks2)],[.sc (.int .i64 2),.sc (.int .i64 vn),.sc (.int .i64 0),.sc (.int .i64 0),sPV ⟨#[]⟩,.imm 6 []]]] hgH ids (by omega) t3 (by omega)
          rw[← hR2]at hpush
          simp only[sxP,List.cons_append,List.nil_append]at hpush
          have W:=And.intro s1 (And.intro s7 (And.intro s2 (And.intro s11 (And.intro s4 (And.intro s85 (And.intro s6 (And.intro s86 (And.intro s87 (And.intro o2 (And.intro o2H (And.intro n1 (And.intro t1 (And.intro t2 (And.intro t3 (And.intro hpr (And.intro hb (And.intro hpc (And.intro hp1 w7))))))))))))))))))
          repeat'(refine a_draw (by decide+kernel) (fun K hK=>?_);simp(maxSteps:=2000000) only[Ty.w,simprocAttr,W])
          (first|refine a_dcall0 (hwd _ _) (by(try simp only[Ty.w,simprocAttr,W]);try rfl) ?_|refine a_dcallA (hwd _ _) (by(try simp only[Ty.w,simprocAttr,W]);try rfl) (by simp only[Ty.w,simprocAttr,W];try trivial) ?_);simp(maxSteps:=2000000) only[Ty.w,simprocAttr,W,Option.getD_some]
          skip
          (first|refine a_dcall0 (hwa _) (by(try simp only[Ty.w,simprocAttr,W]);try rfl) ?_|refine a_dcallA (hwa _) (by(try simp only[Ty.w,simprocAttr,W]);try rfl) (by simp only[Ty.w,simprocAttr,W];try trivial) ?_);simp(maxSteps:=2000000) only[Ty.w,simprocAttr,W,Option.getD_some]
          skip
          (first|refine a_dcall0 (hl3 _) (by(try simp only[Ty.w,simprocAttr,W]);try rfl) ?_|refine a_dcallA (hl3 _) (by(try simp only[Ty.w,simprocAttr,W]);try rfl) (by simp only[Ty.w,simprocAttr,W];try trivial) ?_);simp(maxSteps:=2000000) only[Ty.w,simprocAttr,W,Option.getD_some]
          repeat'(first|(refine a_regionS ?_;simp(maxSteps:=2000000) only[Ty.w,simprocAttr,W, ← hR2])|(refine hK _ _ ?_;clear hK;try simp only[pst0,simprocAttr])|(with_reducible refine a_past2 (by simp only[List.forall_mem_cons,Ty.w,simprocAttr,s1,s2,s4,s6,s7,s85,s86,s87,o2,o2H,n1,t1,t2,t3,hpr,hb,hpc,hp1, ← hR2,w7]<;>(repeat' apply And.intro)<;>first|trivial|exact .inl (by decide+kernel)) ?_;try simp(maxSteps:=2000000) only[Ty.w,simprocAttr,W, ← hR2])|(rw[if_pos];rotate_left 1;omega;simp(maxSteps:=2000000) only[Ty.w,simprocAttr,W, ← hR2]))
          exact⟨values.length-(k+1),by omega,k+1,by simp,by omega,rfl,hpush⟩
         ·have hd:decide ((k:Int)<(values.length:Int))=false:=by simp;omega
          have hke:k=values.length:=by omega
          subst hke
          rw[List.take_length]at hV
          have hin2:initS init values=listM (wordM opInit::(init.map atW++values.map vlW)):=rfl
          repeat'(first|(with_reducible refine a_holdB 19 ?_)|refine a_seq fun K hK=>?_|(refine a_regionS ?_;simp(maxSteps:=2000000) only[Ty.w,simprocAttr,s1,s2,s4,s6,s7,s85,s86,s87,hd])|(refine a_exit ?_;try simp only[pst0,simprocAttr])|(refine a_cond _ (by(try simp(maxSteps:=2000000) only[Ty.w,simprocAttr,s1,s2,s4,s6,s7,s85,s86,s87,hd]);rfl) (fun hb=>?_) (fun hb=>?_)<;>(try simp only[hb0,decide_eq_true_eq,decide_eq_false_iff_not,simprocAttr]at hb)<;>(try(exfalso;omega)))|((first|refine hK _ _ ?_|(clear hK;refine hK _ _ ?_));clear hK;try simp only[pst0,simprocAttr]))
          refine⟨?_⟩
          refine a_dropV 7 rfl hV (by simp only[Ty.w,simprocAttr,s7]) (fun n H=>sxs_frz n H _) (fun n H p q hpq=>by simp only[sxP,List.cons_append,List.nil_append,FrzL,FrzTo,and_true,true_and];exact hpq) ?_
          refine a_gen (fun S H'=>S 1= .cptr [sPV name,sPV domain,.imm 2 (pmRows objects),.imm 2 (atRows init),.imm 3 (vlRows values),sPV gop,sPV gname,.imm 1 (strRows gargs),.imm 2 (pmRows gparams),.imm 5 (Ex.rows gexprs),.imm 6 (Fm.rows gkids)]∧S 2= .ptr h.next 0 0∧S 4= .cptr [.sc (.int .i64 ki),.sc (.int .i64 va),.sc (.int .i64 li),.sc (.int .i64 co),sPV te,.imm 6 (Sx.rows ks)]∧S 6= .ptr (h.next+17) 0 0∧S 7= .cptr (initS init values).cells∧PwI h L1 H') ⟨by simp only[Ty.w,simprocAttr,s1],by simp only[Ty.w,simprocAttr,s2],by simp only[Ty.w,simprocAttr,s4],by simp only[Ty.w,simprocAttr,s6],by simp only[Ty.w,simprocAttr];rfl,hI.up (below_grow hV.grow)⟩ ?_
          clear hV s1 s2 s4 s6 s7 s85 s86 s87 hd hI
          rintro S H ⟨s1,s2,s4,s6,s7,hI⟩
          obtain⟨hg,ids,o1,p,Hk,o2,tl,t1,t2,t3,t4,hgH,hpc,hp1⟩:=hI
          simp only[sxP,List.cons_append,List.nil_append]at o2
          have o2H:=(t4 _ (show h.next+17<h.next+18 by omega)).trans o2
          have n1:(h.next+17=H.next)=False:=eq_false (by omega)
          have hL1r:=Sx.rows_len L1
          have hb:(L1.length+1)*72≤140737488355328:=by omega
          rw[hin]
          generalize initS init values=X at s7
          obtain⟨ki2,va2,li2,co2,te2,ks2⟩:=X
          simp only[Sx.cells]at s7
          have hpush:=GrI.push (m:=L1.length+1) (zr:=6) (Z:=sxZ) (zo:=6) (zl:=6) (pre:=sxP) (post:=[]) (R:=Sx.rows L1) [.sc (.int .i64 ki2),.sc (.int .i64 va2),.sc (.int .i64 li2),.sc (.int .i64 co2),sPV te2,.imm 6 (Sx.rows ks2)] hgH ids o1 t3 t4 (by rw[hL1r])
          simp only[sxP,List.cons_append,List.nil_append]at hpush
          repeat'(refine a_regionS ?_;simp(maxSteps:=2000000) only[Ty.w,simprocAttr,s1,s2,s4,s6,s7,o2,o2H,n1,t1,t2,t3,hL1r,hb,hpc,hp1])
          have hap:Sx.rows (L1++[Sx.mk ki2 va2 li2 co2 te2 ks2])=Sx.rows L1++[[.sc (.int .i64 ki2),.sc (.int .i64 va2),.sc (.int .i64 li2),.sc (.int .i64 co2),sPV te2,.imm 6 (Sx.rows ks2)]]:=by simp[Sx.rows_map,Sx.cells]
          rw[← hap]at hpush⊢
          exact hpush
    ·clear s1 s2 s4 s6 hI
     rintro S H ⟨s1,s2,s4,s6,hI⟩
     generalize hL2:L1++initW init values=L2 at hI
     have hL2n:L2.length≤5:=by
      rw[← hL2]
      unfold initW
      split<;>simp<;>omega
     refine a_cut (fun S H=>S 2= .ptr h.next 0 0∧S 6= .ptr (h.next+17) 0 0∧PwI h (L2++goalW (.mk gop gname gargs gparams gexprs gkids)) H) ?_ ?_
     ·have hlK:=Fm.rows_len gkids
      have hgE2:goalE (.mk gop gname gargs gparams gexprs gkids)=(bEq gop opAnd&&gkids.isEmpty):=rfl
      rw[hgE,hgE2]
      obtain⟨hg,ids,o1,p,Hk,o2,tl,t1,t2,t3,t4,hgH,hpc,hp1⟩:=id hI
      simp only[sxP,List.cons_append,List.nil_append]at o2
      have o2H:=(t4 _ (show h.next+17<h.next+18 by omega)).trans o2
      have n1:(h.next+17=H.next)=False:=eq_false (by omega)
      have hL1r:=Sx.rows_len L2
      have hb:(L2.length+1)*72≤140737488355328:=by omega
      have hl2:=fun(h:Heap)=>plist_c (h:=h) (p:= .imm 6 (Sx.rows [wordM opGoal,Sx.mk ki va li co te ks])) rfl (fun _=>frz_imm (sxs_in _ _))
      have hpush:=GrI.push (m:=L2.length+1) (zr:=6) (Z:=sxZ) (zo:=6) (zl:=6) (pre:=sxP) (post:=[]) (R:=Sx.rows L2) (listM [wordM opGoal,Sx.mk ki va li co te ks]).cells hgH ids o1 t3 t4 (by rw[hL1r])
      have hap:Sx.rows (L2++[listM [wordM opGoal,Sx.mk ki va li co te ks]])=Sx.rows L2++[(listM [wordM opGoal,Sx.mk ki va li co te ks]).cells]:=by simp[Sx.rows_map]
      rw[← hap]at hpush
      simp only[listM,wordM,Sx.cells,Sx.rows,sxP,List.cons_append,List.nil_append]at hl2 hap hpush
      cases k1:(gop.data.toList==(#[97,110,100]:Array UInt8).toList)with
      |true=>
       rw[show bEq gop opAnd=true from k1,Bool.true_and]
       cases k2:decide ((gkids.length:Int)>0)with
       |false=>
        have e:gkids.isEmpty=true:=by
         cases gkids with
         |nil=>rfl
         |cons=>simp at k2
        rw[e,if_pos rfl,List.append_nil]
        repeat'(first|refine a_seq fun K hK=>?_|(refine a_regionS ?_;simp(maxSteps:=2000000) only[Ty.w,simprocAttr,s1,s2,s4,s6,k1,k2,hlK,Bool.not_true,Bool.not_false])|(refine a_skip ?_;try simp only[pst0,simprocAttr])|(refine a_cond _ (by(try simp(maxSteps:=2000000) only[Ty.w,simprocAttr,s1,s2,s4,s6,k1,k2,hlK,Bool.not_true,Bool.not_false]);rfl) (fun hb=>?_) (fun hb=>?_)<;>(try simp only[hb0,decide_eq_true_eq,decide_eq_false_iff_not,simprocAttr]at hb)<;>(try(exfalso;omega)))|(refine hK _ _ ?_;clear hK;try simp only[pst0,simprocAttr]))
        exact⟨s2,s6,hI⟩
       |true=>
        have e:gkids.isEmpty=false:=by
         cases gkids with
         |nil=>simp at k2
         |cons=>rfl
        rw[e,if_neg (by simp)]
        have W:=And.intro s1 (And.intro s2 (And.intro s4 (And.intro s6 o2)))
        repeat'(first|refine a_seq fun K hK=>?_|((first|refine a_regionS ?_|refine a_drawS (by decide+kernel) ?_);simp(maxSteps:=2000000) only[Ty.w,simprocAttr,W,k1,k2,hlK,Bool.not_true,Bool.not_false])|(refine a_cond _ (by(try simp(maxSteps:=2000000) only[Ty.w,simprocAttr,W,k1,k2,hlK,Bool.not_true,Bool.not_false]);rfl) (fun hb=>?_) (fun hb=>?_)<;>(try simp only[hb0,decide_eq_true_eq,decide_eq_false_iff_not,simprocAttr]at hb)<;>(try(exfalso;omega)))|(refine hK _ _ ?_;clear hK;try simp only[pst0,simprocAttr]))
        (first|refine a_dcall0 (hwd _ _) (by(try simp only[Ty.w,simprocAttr,W]);try rfl) ?_|refine a_dcallA (hwd _ _) (by(try simp only[Ty.w,simprocAttr,W]);try rfl) (by simp only[Ty.w,simprocAttr,W];try trivial) ?_);simp(maxSteps:=2000000) only[Ty.w,simprocAttr,W,Option.getD_some]
        skip
        (first|refine a_dcall0 (hl2 _) (by(try simp only[Ty.w,simprocAttr,W]);try rfl) ?_|refine a_dcallA (hl2 _) (by(try simp only[Ty.w,simprocAttr,W]);try rfl) (by simp only[Ty.w,simprocAttr,W];try trivial) ?_);simp(maxSteps:=2000000) only[Ty.w,simprocAttr,W,Option.getD_some]
        repeat'(first|(with_reducible refine a_past2 (by simp only[List.forall_mem_cons,Ty.w,simprocAttr,s1,s2,s4,s6,o2,o2H,n1,t1,t2,t3,hL1r,hb,hpc,hp1]<;>(repeat' apply And.intro)<;>first|trivial|exact .inl (by decide+kernel)) ?_;try simp(maxSteps:=2000000) only[Ty.w,simprocAttr,W,o2H,n1,t1,t2,t3,hL1r,hb,hpc,hp1])|(rw[if_pos];rotate_left 1;omega;simp(maxSteps:=2000000) only[Ty.w,simprocAttr,W,o2H,n1,t1,t2,t3,hL1r,hb,hpc,hp1]))
        rw[← hap]
        exact hpush
      |false=>
       rw[show bEq gop opAnd=false from k1,Bool.false_and,if_neg (by simp)]
       have W:=And.intro s1 (And.intro s2 (And.intro s4 (And.intro s6 o2)))
       repeat'(first|refine a_seq fun K hK=>?_|((first|refine a_regionS ?_|refine a_drawS (by decide+kernel) ?_);simp(maxSteps:=2000000) only[Ty.w,simprocAttr,W,k1,hlK,Bool.not_true,Bool.not_false])|(refine a_cond _ (by(try simp(maxSteps:=2000000) only[Ty.w,simprocAttr,W,k1,hlK,Bool.not_true,Bool.not_false]);rfl) (fun hb=>?_) (fun hb=>?_)<;>(try simp only[hb0,decide_eq_true_eq,decide_eq_false_iff_not,simprocAttr]at hb)<;>(try(exfalso;omega)))|(refine hK _ _ ?_;clear hK;try simp only[pst0,simprocAttr]))
       (first|refine a_dcall0 (hwd _ _) (by(try simp only[Ty.w,simprocAttr,W]);try rfl) ?_|refine a_dcallA (hwd _ _) (by(try simp only[Ty.w,simprocAttr,W]);try rfl) (by simp only[Ty.w,simprocAttr,W];try trivial) ?_);simp(maxSteps:=2000000) only[Ty.w,simprocAttr,W,Option.getD_some]
       skip
       (first|refine a_dcall0 (hl2 _) (by(try simp only[Ty.w,simprocAttr,W]);try rfl) ?_|refine a_dcallA (hl2 _) (by(try simp only[Ty.w,simprocAttr,W]);try rfl) (by simp only[Ty.w,simprocAttr,W];try trivial) ?_);simp(maxSteps:=2000000) only[Ty.w,simprocAttr,W,Option.getD_some]
       repeat'(first|(with_reducible refine a_past2 (by simp only[List.forall_mem_cons,Ty.w,simprocAttr,s1,s2,s4,s6,o2,o2H,n1,t1,t2,t3,hL1r,hb,hpc,hp1]<;>(repeat' apply And.intro)<;>first|trivial|exact .inl (by decide+kernel)) ?_;try simp(maxSteps:=2000000) only[Ty.w,simprocAttr,W,o2H,n1,t1,t2,t3,hL1r,hb,hpc,hp1])|(rw[if_pos];rotate_left 1;omega;simp(maxSteps:=2000000) only[Ty.w,simprocAttr,W,o2H,n1,t1,t2,t3,hL1r,hb,hpc,hp1]))
       rw[← hap]
       exact hpush
     ·clear s1 s2 s4 s6 hI
      rintro S H ⟨s2,s6,hI⟩
      have hPW:PW=listM (L2++goalW (.mk gop gname gargs gparams gexprs gkids)):=by
       rw[hpw, ← hL2, ← hL1]
       simp[List.append_assoc]
      generalize L2++goalW (.mk gop gname gargs gparams gexprs gkids)=L3 at hI hPW
      have hVal:=fun h:Heap=>svalid_c hPWo h
      rw[hF]at hVal
      obtain⟨hg,ids,o1,p,Hk,o2,tl,t1,t2,t3,t4,hgH,hpc,hp1⟩:=hI
      refine a_drop (h.next+17) [(6,.cptr PW.cells)] rfl (by omega) ?_ ?_
      ·intro x hx
       simp only[List.mem_cons,List.not_mem_nil,or_false]at hx
       subst hx
       rw[hPW]
       simp only[s6,listM,Sx.cells,FrzTo]
       exact .inr ⟨h.next+17,0,0,6,_,_,rfl,Nat.le_refl _,o2,rfl,by simp only[sxP,List.cons_append,List.nil_append,List.drop_zero,FrzL];exact⟨by simp only[FrzTo],by simp only[FrzTo],by simp only[FrzTo],by simp only[FrzTo],by simp only[FrzTo],tl.frzR (Nat.le_succ _) (sxs_frz _ _ _),trivial⟩⟩
      refine a_gen (fun S H=>S 2= .ptr h.next 0 0∧S 6= .cptr PW.cells∧Grow h H∧H.obj h.next=some (.arr 6 [sxZ])) ⟨by simp only[frzS,Ty.w,simprocAttr,s2],by simp only[frzS,Ty.w,simprocAttr],⟨hg.le,fun j hj=>by simp only[below];rw[if_pos (by omega)];exact hg.old j hj⟩,by simp only[below];rw[if_pos (by omega)];exact o1⟩ ?_
      clear hg ids o1 o2 tl t1 t2 t3 t4 hgH hpc hp1 s2 s6 hPW
      rintro S H ⟨s2,s6,hg,o1⟩
      have hfz:=fun n hh=>sx_frz n hh PW
      generalize PW=X at hVal s6 hfz bad⊢
      obtain⟨ki2,va2,li2,co2,te2,ks2⟩:=X
      simp only[Sx.cells]at hVal s6 hfz
      cases F with
      |false=>
       repeat'(first|refine a_seq fun K hK=>?_|(refine a_regionS ?_;simp(maxSteps:=2000000) only[Ty.w,simprocAttr,s2,s6]))
       refine owp_useQ (hVal _) (by(try simp only[Ty.w,simprocAttr,s2,s6]);try rfl) ?_;simp(maxSteps:=2000000) only[Ty.w,simprocAttr,s2,s6]
       repeat'(first|refine a_seq fun K hK=>?_|((first|refine a_regionS ?_|refine a_ret ?_);simp(maxSteps:=2000000) only[Ty.w,simprocAttr,s2,s6,o1,Bool.not_false])|(refine hK _ _ ?_;clear hK;try simp only[pst0,simprocAttr]))
       exact⟨bad _ rfl,hg.set (Nat.le_refl _) _⟩
      |true=>
       repeat'(first|refine a_seq fun K hK=>?_|(refine a_regionS ?_;simp(maxSteps:=2000000) only[Ty.w,simprocAttr,s2,s6]))
       refine owp_useQ (hVal _) (by(try simp only[Ty.w,simprocAttr,s2,s6]);try rfl) ?_;simp(maxSteps:=2000000) only[Ty.w,simprocAttr,s2,s6]
       repeat'(first|refine a_seq fun K hK=>?_|((first|refine a_regionS ?_|refine a_ret ?_);simp(maxSteps:=2000000) only[Ty.w,simprocAttr,s2,s6,o1,Bool.not_true])|(refine a_skip ?_;try simp only[pst0,simprocAttr])|(refine a_cond _ (by(try simp(maxSteps:=2000000) only[Ty.w,simprocAttr,s2,s6,o1,Bool.not_true]);rfl) (fun hb=>?_) (fun hb=>?_)<;>(try simp only[hb0,decide_eq_true_eq,decide_eq_false_iff_not,simprocAttr]at hb)<;>(try(exfalso;omega)))|(refine hK _ _ ?_;clear hK;try simp only[pst0,simprocAttr]))
       refine⟨?_,hg.set (Nat.le_refl _) _⟩
       simp only[if_true,Sx.cells,FrzTo]
       exact⟨_,rfl,by simp only[FrzL,FrzTo,and_true,true_and];exact⟨_,rfl,hfz _ _⟩⟩
end Go.Proofs.YtjeolbgpllbemaaGreat
namespace Go.Proofs.YtjeolbgpllbemaaGreat
open Go.AM
set_option maxHeartbeats 4000000
set_option maxRecDepth 20000
theorem empty_ok:(⟨#[]⟩:ByteArray).size≤bigN:=by decide
theorem zeroAt_ok:zeroAt.ok∧zeroAt.args.length≤1048576:=⟨⟨empty_ok,by decide,by simp[zeroAt]⟩,by decide⟩
theorem len_nodess: ∀ l:List Sx,l.length≤Sx.nodess l
 |[]=>Nat.le_refl _
 |k::l=>by
  have:=len_nodess l
  have h1:1≤k.nodes:=by obtain⟨a,b,c,d,e,f⟩:=k;simp only[Sx.nodes];omega
  simp only[List.length_cons,Sx.nodess];omega
theorem headM_nodes{x:Sx}{w:ByteArray}{l:List Sx}(h:headM x=some (w,l)):Sx.nodess l+2≤x.nodes:=by
 obtain⟨kind,value,line,col,text,kids⟩:=x
 simp only[headM]at h
 split at h
 ·cases kids with
  |nil=>simp at h
  |cons y rest=>
   simp only at h
   cases hh:kindOf y==1 with
   |false=>rw[hh]at h;simp at h
   |true=>
    rw[hh]at h
    simp only[cond_true,Option.some.injEq,Prod.mk.injEq]at h
    obtain⟨rfl,rfl⟩:=h
    have h1:1≤y.nodes:=by obtain⟨a,b,c,d,e,f⟩:=y;simp only[Sx.nodes];omega
    simp only[Sx.nodes,Sx.nodess];omega
 ·simp at h
structure PbG(p:Pb):Prop where
 n:p.name.size≤bigN
 d:p.domain.size≤bigN
 o:p.objects.length≤1048576∧ ∀ o∈p.objects,o.ok
 i: ∀ a∈p.init,a.ok∧a.args.length≤1048576
 v: ∀ v∈p.values,v.ok∧v.at_.args.length≤1048576
 g:p.goal.ok∧p.goal.small
theorem namesM_ok: ∀ l:List Sx,(∀ x∈l,x.ok)→(namesM l).1.length≤l.length∧ ∀ s∈(namesM l).1,s.size≤bigN
 |[],_=>by simp[namesM]
 |x::l,h=>by
  have ih:=namesM_ok l fun y hy=>h y (by simp[hy])
  simp only[namesM]
  cases kindOf x==1 with
  |false=>simp
  |true=>
   cases nameB (textOf x)with
   |false=>simp
   |true=>
    simp only[cond_true]
    cases(namesM l).2==0 with
    |false=>simp
    |true=>
     have hx:=textOf_okQ (h x (by simp))
     simp only[cond_true,List.length_cons,List.mem_cons]
     refine⟨by omega,?_⟩
     rintro s (rfl|hs)
     ·exact hx
     ·exact ih.2 s hs
theorem atomP_ok{w:ByteArray}{l:List Sx}(hw:w.size≤bigN)(hl:l.length≤1048576)(h: ∀ x∈l,x.ok):(atomP w l).1.ok∧(atomP w l).1.args.length≤1048576:=by
 have hn:=namesM_ok l h
 unfold atomP
 cases nameB w with
 |false=>exact zeroAt_ok
 |true=>
  simp only[cond_true]
  cases(namesM l).2==0 with
  |false=>exact zeroAt_ok
  |true=>exact⟨⟨hw,by simp only[cond_true,bigN];omega,hn.2⟩,by simp only[cond_true];omega⟩
theorem valOf_ok{x:Sx}(h:x.ok): -9223372036854775808≤valOf x∧valOf x≤9223372036854775807:=by
 obtain⟨a,b,c,d,e,f⟩:=x
 simp only[Sx.ok]at h
 exact h.2.1
theorem elemP_ok{a:List At}{v:List Vl}{x:Sx}(hok:x.ok)(hsm:x.small)(ha: ∀ q∈a,q.ok∧q.args.length≤1048576)(hv: ∀ q∈v,q.ok∧q.at_.args.length≤1048576):
  (∀ q∈(elemP a v x).1,q.ok∧q.args.length≤1048576)∧ ∀ q∈(elemP a v x).2.1,q.ok∧q.at_.args.length≤1048576:=by
 unfold elemP
 cases h:headM x with
 |none=>exact⟨ha,hv⟩
 |some wr=>
  obtain⟨w,rest⟩:=wr
  obtain⟨o1,o2,o3⟩:=headM_ok2 hok h
  obtain⟨s2,s3⟩:=headM_small hsm h
  simp only
  cases bEq w opEq with
  |true=>
   simp only[cond_true]
   split
   ·rename_i f n
    cases kindOf n==2 with
    |false=>exact⟨ha,hv⟩
    |true=>
     simp only[cond_true]
     cases h2:headM f with
     |none=>exact⟨ha,hv⟩
     |some wr=>
      obtain⟨name,args⟩:=wr
      obtain⟨p1,p2,p3⟩:=headM_ok2 (o3 f (by simp)) h2
      obtain⟨q2,_⟩:=headM_small (s3 f (by simp)) h2
      have hA:=atomP_ok p1 q2 p3
      simp only
      cases(atomP name args).2==0 with
      |false=>exact⟨ha,hv⟩
      |true=>
       refine⟨ha,?_⟩
       intro q hq
       simp only[cond_true,List.mem_append,List.mem_singleton]at hq
       rcases hq with hq|rfl
       ·exact hv q hq
       ·exact ⟨⟨hA.1,valOf_ok (o3 n (by simp))⟩,hA.2⟩
   ·exact ⟨ha,hv⟩
  |false=>
   simp only[cond_false]
   have hA:=atomP_ok o1 s2 o3
   cases(atomP w rest).2==0 with
   |false=>exact⟨ha,hv⟩
   |true=>
    refine⟨?_,hv⟩
    intro q hq
    simp only[cond_true,List.mem_append,List.mem_singleton]at hq
    rcases hq with hq|rfl
    ·exact ha q hq
    ·exact hA
theorem elemsP_ok: ∀ (l:List Sx)(a:List At)(v:List Vl),(∀ x∈l,x.ok)→(∀ x∈l,x.small)→(∀ q∈a,q.ok∧q.args.length≤1048576)→(∀ q∈v,q.ok∧q.at_.args.length≤1048576)→
  (∀ q∈(elemsP a v l).1,q.ok∧q.args.length≤1048576)∧ ∀ q∈(elemsP a v l).2.1,q.ok∧q.at_.args.length≤1048576
 |[],a,v,_,_,ha,hv=>⟨ha,hv⟩
 |x::l,a,v,h1,h2,ha,hv=>by
  have h3:=elemP_ok (h1 x (by simp)) (h2 x (by simp)) ha hv
  simp only[elemsP]
  generalize elemP a v x=W at h3⊢
  obtain⟨a',v',c⟩:=W
  simp only at h3⊢
  cases c==0 with
  |true=>exact elemsP_ok l a' v' (fun y hy=>h1 y (by simp[hy])) (fun y hy=>h2 y (by simp[hy])) h3.1 h3.2
  |false=>exact h3
theorem sectP_ok{p:Pb}{w:ByteArray}{rest:List Sx}(hp:PbG p)(hl:rest.length≤1048576)(h1: ∀ x∈rest,x.ok)(h2: ∀ x∈rest,x.small):PbG (sectP p w rest).1:=by
 unfold sectP
 cases bEq w opObjs with
 |true=>
  simp only[cond_true]
  have hP:=paramsL_ok false rest.length rest (Nat.le_refl _) h1 [] [] (by simp) (by simp)
  refine⟨hp.n,hp.d,?_,hp.i,hp.v,hp.g⟩
  unfold paramsP
  simp only[List.length_nil]at hP
  exact⟨by simp only;omega,hP.1⟩
 |false=>
  simp only[cond_false]
  cases bEq w opInit with
  |true=>
   simp only[cond_true]
   have hE:=elemsP_ok rest p.init p.values h1 h2 hp.i hp.v
   exact⟨hp.n,hp.d,hp.o,hE.1,hE.2,hp.g⟩
  |false=>
   simp only[cond_false]
   split
   ·rename_i g
    exact⟨hp.n,hp.d,hp.o,hp.i,hp.v,parseF_ok (h1 g (by simp))⟩
   ·exact hp
theorem sectsP_ok: ∀ (l:List Sx)(o:List ByteArray)(p:Pb),PbG p→(∀ x∈l,x.ok)→(∀ x∈l,x.small)→PbG (sectsP o p l).1∧(sectsP o p l).1.init.length≤p.init.length+Sx.nodess l∧(sectsP o p l).1.values.length≤p.values.length+Sx.nodess l
 |[],o,p,hp,_,_=>⟨hp,by simp[sectsP],by simp[sectsP]⟩
 |s::l,o,p,hp,h1,h2=>by
  rw[sectsP]
  cases h:headM s with
  |none=>exact⟨hp,Nat.le_add_right _ _,Nat.le_add_right _ _⟩
  |some wr=>
   obtain⟨w,rest⟩:=wr
   simp only
   cases afterB o w with
   |none=>exact⟨hp,Nat.le_add_right _ _,Nat.le_add_right _ _⟩
   |some o'=>
    simp only
    obtain⟨o1,o2,o3⟩:=headM_ok2 (h1 s (by simp)) h
    obtain⟨s2,s3⟩:=headM_small (h2 s (by simp)) h
    have hs:=sectP_ok (w:=w) hp s2 o3 s3
    have hsl:=sectP_len p w rest
    have hn:=headM_nodes h
    have hn2:=len_nodess rest
    simp only[Sx.nodess]
    cases(sectP p w rest).2==0 with
    |false=>exact⟨hs,by simp only[cond_false];omega,by simp only[cond_false];omega⟩
    |true=>
     have ih:=sectsP_ok l o' (sectP p w rest).1 hs (fun y hy=>h1 y (by simp[hy])) (fun y hy=>h2 y (by simp[hy]))
     simp only[cond_true]
     exact⟨ih.1,by omega,by omega⟩
theorem namedP_ok{x:Sx}{want:ByteArray}(hok:x.ok):(namedP x want).1.size≤bigN:=by
 unfold namedP
 cases h:headM x with
 |none=>exact empty_ok
 |some wr=>
  obtain⟨w,rest⟩:=wr
  obtain⟨o1,o2,o3⟩:=headM_ok2 hok h
  simp only
  cases bEq w want with
  |false=>exact empty_ok
  |true=>
   simp only[cond_true]
   split
   ·rename_i r
    have:=textOf_okQ (o3 r (by simp))
    cases kindOf r==1 with
    |false=>exact empty_ok
    |true=>
     simp only[cond_true]
     cases nameB (textOf r)with
     |false=>exact empty_ok
     |true=>exact this
   ·exact empty_ok
theorem andFm_ok:andFm.ok∧andFm.small:=fm_mk_ok (by decide) (by decide) (by simp) (by simp) (by simp) (by simp) (by simp) (by simp) (by simp) (by simp)
theorem pb0_ok{n d:ByteArray}(hn:n.size≤bigN)(hd:d.size≤bigN):PbG (pb0 n d):=⟨hn,hd,⟨by simp[pb0],by simp[pb0]⟩,by simp[pb0],by simp[pb0],andFm_ok⟩
theorem ats_in(n:Nat): ∀ l:List At,inNR n (atRows l)
 |[]=>by simp only[atRows,List.map_nil,inNR]
 |a::l=>by
  have:=ats_in n l
  simp only[atRows,List.map_cons,inNR,atRow,inNL,inN,and_true,true_and]at this⊢
  exact⟨strs_in _ _,this⟩
theorem vls_in(n:Nat): ∀ l:List Vl,inNR n (vlRows l)
 |[]=>by simp only[vlRows,List.map_nil,inNR]
 |a::l=>by
  have:=vls_in n l
  simp only[vlRows,List.map_cons,inNR,vlRow,inNL,inN,and_true,true_and]at this⊢
  exact⟨strs_in _ _,this⟩
theorem pbP_ok{x:Sx}(hok:x.ok)(hsm:x.small):PbG (pbP x).1∧(pbP x).1.init.length≤x.nodes∧(pbP x).1.values.length≤x.nodes:=by
 have z0: ∀ n d:ByteArray,n.size≤bigN→d.size≤bigN→PbG (pb0 n d)∧(pb0 n d).init.length≤x.nodes∧(pb0 n d).values.length≤x.nodes:=fun n d hn hd=>⟨pb0_ok hn hd,by simp[pb0],by simp[pb0]⟩
 unfold pbP
 cases h:headM x with
 |none=>exact z0 _ _ empty_ok empty_ok
 |some wr=>
  obtain⟨w,rest⟩:=wr
  obtain⟨o1,o2,o3⟩:=headM_ok2 hok h
  obtain⟨s2,s3⟩:=headM_small hsm h
  have hnn:=headM_nodes h
  simp only
  cases bEq w opDef with
  |false=>exact z0 _ _ empty_ok empty_ok
  |true=>
   simp only[cond_true]
   cases rest with
   |nil=>exact z0 _ _ empty_ok empty_ok
   |cons n rest1=>
    simp only
    have hn:=namedP_ok (want:=opPrb) (o3 n (by simp))
    cases(namedP n opPrb).2==0 with
    |false=>exact z0 _ _ empty_ok empty_ok
    |true=>
     simp only[cond_true]
     cases rest1 with
     |nil=>exact z0 _ _ hn empty_ok
     |cons d rest2=>
      simp only
      have hd:=namedP_ok (want:=opDom) (o3 d (by simp))
      cases(namedP d opDom).2==0 with
      |false=>exact z0 _ _ hn empty_ok
      |true=>
       simp only[cond_true]
       have hS:=sectsP_ok rest2 pbOrder (pb0 (namedP n opPrb).1 (namedP d opDom).1) (pb0_ok hn hd) (fun y hy=>o3 y (by simp[hy])) (fun y hy=>s3 y (by simp[hy]))
       simp only[Sx.nodess]at hnn
       refine⟨hS.1,?_,?_⟩
       ·have:=hS.2.1;simp only[pb0,List.length_nil]at this⊢;omega
       ·have:=hS.2.2;simp only[pb0,List.length_nil]at this⊢;omega
theorem pbP_small{x:Sx}(hok:x.ok)(hv:(svalid x 0 0).1=true):(pbP x).1.ok∧PbSm (pbP x).1:=by
 obtain⟨h1,h2,h3⟩:=pbP_ok hok (svalid_small hv)
 have hn:x.nodes≤4096:=by
  have:=((svalid_iff x 0 0 (by omega) (by omega)).1.1 hv).2.2
  omega
 refine⟨⟨h1.n,h1.d,⟨by have:=h1.o.1;unfold bigN;omega,h1.o.2⟩,⟨by unfold bigN;omega,fun a ha=>(h1.i a ha).1⟩,⟨by unfold bigN;omega,fun v hv=>(h1.v v hv).1⟩,h1.g.1⟩,⟨h1.g.2,h1.o.1,by omega,by omega,fun a ha=>(h1.i a ha).2,fun v hv=>(h1.v v hv).2⟩⟩
theorem pParse_c{x:Sx}(hok:x.ok)(h:Heap):PCall Tryz.prog 14 [.agg x.cells] h fun r h'=>r= .tup [.agg (parsePb x).1.cells,errP (parsePb x).2]∧h'=h:=by
 refine PCall.frz Ty.hb_14 ?_
 have hv:=fun h:Heap=>svalid_c hok h
 have hX:parsePb x=(if(svalid x 0 0).1=true then(if(pbP x).2=0 then(if writeB (pbP x).1=true then((pbP x).1,0)else(zeroPb,5))else(zeroPb,(pbP x).2))else(zeroPb,2)):=rfl
 generalize parsePb x=F at hX
 have bad: ∀ (c:Int)(h':Heap),(c==0)=false→Grow h h'→F=(zeroPb,c)→FrzTo h.next h' (.tup [.agg F.1.cells,errP F.2]) (.tup [.agg pbZ,errV c])∧Grow h h':=by
  intro c h' hc hg hF
  subst hF
  have:errP c=errV c:=by simp only[errP,hc,cond_false]
  simp only[this]
  refine⟨?_,hg⟩
  simp only[errV,zeroPb,zeroFm,Pb.cells,Fm.cells,Ex.rows,Fm.rows,pmRows,strRows,atRows,vlRows,List.map_nil,List.cons_append,List.nil_append,FrzTo,FrzL]
  exact⟨_,rfl,⟨_,rfl,rfl,rfl,.inr (.inl ⟨rfl,.inr rfl⟩),.inr (.inl ⟨rfl,.inr rfl⟩),.inr (.inl ⟨rfl,.inr rfl⟩),rfl,rfl,.inr (.inl ⟨rfl,.inr rfl⟩),.inr (.inl ⟨rfl,.inr rfl⟩),.inr (.inl ⟨rfl,.inr rfl⟩),.inr (.inl ⟨rfl,.inr rfl⟩),trivial⟩,rfl,trivial⟩
 simp only[errV]at bad
 cases v1:(svalid x 0 0).1 with
 |false=>
  rw[v1]at hv
  rw[if_neg (by rw[v1];simp)]at hX
  obtain⟨kind,value,line,col,text,kids⟩:=x
  simp only[Sx.cells]at hv⊢
  refine pcall_body (ow:=fun _=>false) (wf:=fun _=>false) Ty.mixed Tryz.func14 rfl Ty.hb_14 (by rw[Tryz.ntmps14];simp) ?_
  rw[Tryz.ntmps14,Tryz.results14]
  repeat'(first|refine a_seq fun K hK=>?_|(refine a_regionS ?_;simp(maxSteps:=2000000) only[Ty.w,simprocAttr])|(refine hK _ _ ?_;clear hK;try simp only[pst0,simprocAttr]))
  refine owp_useQ (hv _) (by(try simp only[Ty.w,simprocAttr,]);try rfl) ?_;simp(maxSteps:=2000000) only[Ty.w,simprocAttr,]
  repeat'(first|refine a_seq fun K hK=>?_|((first|refine a_regionS ?_|refine a_ret ?_);simp(maxSteps:=2000000) only[Ty.w,simprocAttr,Bool.not_false])|(refine hK _ _ ?_;clear hK;try simp only[pst0,simprocAttr]))
  exact bad 2 _ rfl (((Grow.refl h).new _).set (Nat.le_refl _) _) hX
 |true=>
  have hp:=pparse_c hok (svalid_small v1)
  obtain⟨gok,gsm⟩:=pbP_small hok v1
  rw[v1]at hv
  rw[if_pos v1]at hX
  generalize pbP x=E at hp hX gok gsm
  obtain⟨p,c⟩:=E
  simp only at hp hX gok gsm
  obtain⟨kind,value,line,col,text,kids⟩:=x
  simp only[Sx.cells]at hv hp⊢
  have n1:(h.next=h.next+1)=False:=by simp
  have n2:(h.next=h.next+1+1)=False:=eq_false (by omega)
  have n3:(h.next+1=h.next+1+1)=False:=by simp
  cases hc:c==0 with
  |false=>
   rw[if_neg (by simpa using hc)]at hX
   have e0:errP c=errV c:=by simp only[errP,hc,cond_false]
   rw[e0]at hp
   simp only[errV]at hp
   obtain⟨pn,pd,po,pi,pv,⟨gop,gna,gar,gpa,gex,gki⟩⟩:=p
   simp only[Pb.cells,Fm.cells,List.cons_append,List.nil_append]at hp
   refine pcall_body (ow:=fun _=>false) (wf:=fun _=>false) Ty.mixed Tryz.func14 rfl Ty.hb_14 (by rw[Tryz.ntmps14];simp) ?_
   rw[Tryz.ntmps14,Tryz.results14]
   repeat'(first|refine a_seq fun K hK=>?_|(refine a_regionS ?_;simp(maxSteps:=2000000) only[Ty.w,simprocAttr])|(refine hK _ _ ?_;clear hK;try simp only[pst0,simprocAttr]))
   refine owp_useQ (hv _) (by(try simp only[Ty.w,simprocAttr,]);try rfl) ?_;simp(maxSteps:=2000000) only[Ty.w,simprocAttr,]
   repeat'(first|refine a_seq fun K hK=>?_|(refine a_regionS ?_;simp(maxSteps:=2000000) only[Ty.w,simprocAttr,Bool.not_true])|(refine a_skip ?_;try simp only[pst0,simprocAttr])|(refine a_cond _ (by(try simp(maxSteps:=2000000) only[Ty.w,simprocAttr,Bool.not_true]);rfl) (fun hb=>?_) (fun hb=>?_)<;>(try simp only[hb0,decide_eq_true_eq,decide_eq_false_iff_not,simprocAttr]at hb)<;>(try(exfalso;omega)))|(refine hK _ _ ?_;clear hK;try simp only[pst0,simprocAttr]))
   refine owp_useQ (hp _) (by(try simp only[Ty.w,simprocAttr,]);try rfl) ?_;simp(maxSteps:=2000000) only[Ty.w,simprocAttr,]
   repeat'(first|refine a_seq fun K hK=>?_|((first|refine a_regionS ?_|refine a_ret ?_);simp(maxSteps:=2000000) only[Ty.w,simprocAttr,n1,n2,n3,nsucc])|(refine hK _ _ ?_;clear hK;try simp only[pst0,simprocAttr]))
   exact bad c _ hc (((((Grow.refl h).new _).new _).set (Nat.le_succ _) _).set (Nat.le_refl _) _) hX
  |true=>
   rw[if_pos (by simpa using hc)]at hX
   have e0:errP c= .sc .nilIface:=by simp only[errP,hc,cond_true]
   rw[e0]at hp
   have hW:=fun h:Heap=>pWrite_c gok gsm h
   cases v2:writeB p with
   |false=>
    rw[if_neg (by rw[v2];simp)]at hX
    simp only[v2,Bool.false_eq_true,if_false]at hW
    obtain⟨pn,pd,po,pi,pv,⟨gop,gna,gar,gpa,gex,gki⟩⟩:=p
    simp only[Pb.cells,Fm.cells,List.cons_append,List.nil_append,zeroSx,Sx.cells,Sx.rows,errV]at hp hW
    refine pcall_body (ow:=fun _=>false) (wf:=fun _=>false) Ty.mixed Tryz.func14 rfl Ty.hb_14 (by rw[Tryz.ntmps14];simp) ?_
    rw[Tryz.ntmps14,Tryz.results14]
    repeat'(first|refine a_seq fun K hK=>?_|(refine a_regionS ?_;simp(maxSteps:=2000000) only[Ty.w,simprocAttr])|(refine hK _ _ ?_;clear hK;try simp only[pst0,simprocAttr]))
    refine owp_useQ (hv _) (by(try simp only[Ty.w,simprocAttr,]);try rfl) ?_;simp(maxSteps:=2000000) only[Ty.w,simprocAttr,]
    repeat'(first|refine a_seq fun K hK=>?_|(refine a_regionS ?_;simp(maxSteps:=2000000) only[Ty.w,simprocAttr,Bool.not_true])|(refine a_skip ?_;try simp only[pst0,simprocAttr])|(refine a_cond _ (by(try simp(maxSteps:=2000000) only[Ty.w,simprocAttr,Bool.not_true]);rfl) (fun hb=>?_) (fun hb=>?_)<;>(try simp only[hb0,decide_eq_true_eq,decide_eq_false_iff_not,simprocAttr]at hb)<;>(try(exfalso;omega)))|(refine hK _ _ ?_;clear hK;try simp only[pst0,simprocAttr]))
    refine owp_useQ (hp _) (by(try simp only[Ty.w,simprocAttr,]);try rfl) ?_;simp(maxSteps:=2000000) only[Ty.w,simprocAttr,]
    repeat'(first|refine a_seq fun K hK=>?_|(refine a_regionS ?_;simp(maxSteps:=2000000) only[Ty.w,simprocAttr,n1,n2,n3,nsucc])|(refine a_skip ?_;try simp only[pst0,simprocAttr])|(refine a_cond _ (by(try simp(maxSteps:=2000000) only[Ty.w,simprocAttr,n1,n2,n3,nsucc]);rfl) (fun hb=>?_) (fun hb=>?_)<;>(try simp only[hb0,decide_eq_true_eq,decide_eq_false_iff_not,simprocAttr]at hb)<;>(try(exfalso;omega)))|(refine hK _ _ ?_;clear hK;try simp only[pst0,simprocAttr]))
    refine owp_useQ (hW _) (by(try simp only[Ty.w,simprocAttr,n1,n2,n3,nsucc]);try rfl) ?_;simp(maxSteps:=2000000) only[Ty.w,simprocAttr,n1,n2,n3,nsucc]
    repeat'(first|refine a_seq fun K hK=>?_|((first|refine a_regionS ?_|refine a_ret ?_);simp(maxSteps:=2000000) only[Ty.w,simprocAttr,n1,n2,n3,nsucc])|(refine hK _ _ ?_;clear hK;try simp only[pst0,simprocAttr]))
    exact bad 5 _ rfl (((((((Grow.refl h).new _).new _).set (Nat.le_succ _) _).new _).set (by omega) _).set (Nat.le_refl _) _) hX
   |true=>
    rw[if_pos v2]at hX
    simp only[v2,if_true]at hW
    have hfz: ∀ n hh,FrzL n hh p.cells p.cells:=fun n hh=>by
     obtain⟨pn,pd,po,pi,pv,g⟩:=p
     obtain⟨gop,gna,gar,gpa,gex,gki⟩:=g
     simp only[Pb.cells,Fm.cells,List.cons_append,List.nil_append,FrzL,FrzTo,true_and,and_true]
     exact⟨.inl (pms_in _ _),.inl (ats_in _ _),.inl (vls_in _ _),.inl (strs_in _ _),.inl (pms_in _ _),.inl (exs_in _ _),.inl (fms_in _ _)⟩
    generalize pbW p=X at hW
    obtain⟨ki,va,li,co,te,ks⟩:=X
    obtain⟨pn,pd,po,pi,pv,⟨gop,gna,gar,gpa,gex,gki⟩⟩:=p
    simp only[Pb.cells,Fm.cells,List.cons_append,List.nil_append,Sx.cells]at hp hW hfz
    refine pcall_body (ow:=fun _=>false) (wf:=fun _=>false) Ty.mixed Tryz.func14 rfl Ty.hb_14 (by rw[Tryz.ntmps14];simp) ?_
    rw[Tryz.ntmps14,Tryz.results14]
    repeat'(first|refine a_seq fun K hK=>?_|(refine a_regionS ?_;simp(maxSteps:=2000000) only[Ty.w,simprocAttr])|(refine hK _ _ ?_;clear hK;try simp only[pst0,simprocAttr]))
    refine owp_useQ (hv _) (by(try simp only[Ty.w,simprocAttr,]);try rfl) ?_;simp(maxSteps:=2000000) only[Ty.w,simprocAttr,]
    repeat'(first|refine a_seq fun K hK=>?_|(refine a_regionS ?_;simp(maxSteps:=2000000) only[Ty.w,simprocAttr,Bool.not_true])|(refine a_skip ?_;try simp only[pst0,simprocAttr])|(refine a_cond _ (by(try simp(maxSteps:=2000000) only[Ty.w,simprocAttr,Bool.not_true]);rfl) (fun hb=>?_) (fun hb=>?_)<;>(try simp only[hb0,decide_eq_true_eq,decide_eq_false_iff_not,simprocAttr]at hb)<;>(try(exfalso;omega)))|(refine hK _ _ ?_;clear hK;try simp only[pst0,simprocAttr]))
    refine owp_useQ (hp _) (by(try simp only[Ty.w,simprocAttr,]);try rfl) ?_;simp(maxSteps:=2000000) only[Ty.w,simprocAttr,]
    repeat'(first|refine a_seq fun K hK=>?_|(refine a_regionS ?_;simp(maxSteps:=2000000) only[Ty.w,simprocAttr,n1,n2,n3,nsucc])|(refine a_skip ?_;try simp only[pst0,simprocAttr])|(refine a_cond _ (by(try simp(maxSteps:=2000000) only[Ty.w,simprocAttr,n1,n2,n3,nsucc]);rfl) (fun hb=>?_) (fun hb=>?_)<;>(try simp only[hb0,decide_eq_true_eq,decide_eq_false_iff_not,simprocAttr]at hb)<;>(try(exfalso;omega)))|(refine hK _ _ ?_;clear hK;try simp only[pst0,simprocAttr]))
    refine owp_useQ (hW _) (by(try simp only[Ty.w,simprocAttr,n1,n2,n3,nsucc]);try rfl) ?_;simp(maxSteps:=2000000) only[Ty.w,simprocAttr,n1,n2,n3,nsucc]
    repeat'(first|refine a_seq fun K hK=>?_|((first|refine a_regionS ?_|refine a_ret ?_);simp(maxSteps:=2000000) only[Ty.w,simprocAttr,n1,n2,n3,nsucc])|(refine a_skip ?_;try simp only[pst0,simprocAttr])|(refine a_cond _ (by(try simp(maxSteps:=2000000) only[Ty.w,simprocAttr,n1,n2,n3,nsucc]);rfl) (fun hb=>?_) (fun hb=>?_)<;>(try simp only[hb0,decide_eq_true_eq,decide_eq_false_iff_not,simprocAttr]at hb)<;>(try(exfalso;omega)))|(refine hK _ _ ?_;clear hK;try simp only[pst0,simprocAttr]))
    refine⟨?_,((((((Grow.refl h).new _).new _).set (Nat.le_succ _) _).new _).set (by omega) _).set (Nat.le_refl _) _⟩
    rw[hX]
    simp only[errP,beq_self_eq_true,cond_true,Pb.cells,Fm.cells,List.cons_append,List.nil_append,FrzTo]
    exact⟨_,rfl,by simp only[FrzL,FrzTo,and_true,true_and];exact⟨_,rfl,hfz _ _⟩⟩
end Go.Proofs.YtjeolbgpllbemaaGreat
namespace Go.Proofs.YtjeolbgpllbemaaGreat
open Go.AM
def hW(x:Sx):ByteArray:=match headM x with
 |some (w,_)=>w
 |none=>⟨#[]⟩
def secsOf(p:Pb):List Sx:=nameS opDom p.domain::(objsW p.objects++(initW p.init p.values++goalW p.goal))
theorem pbW_eq(p:Pb):pbW p=listM (wordM opDef::nameS opPrb p.name::secsOf p):=rfl
theorem hW_list{w:ByteArray}{l:List Sx}:hW (listM (wordM w::l))=w:=by
 unfold hW
 rw[headM_list]
inductive Mix:List Sx→List Sx→List Sx→Prop
 |nil:Mix [] [] []
 |left{a v m:List Sx}(x:Sx):Mix a v m→Mix (a++[x]) v (m++[x])
 |right{a v m:List Sx}(x:Sx):Mix a v m→Mix a (v++[x]) (m++[x])
theorem elemsP_snoc(x:Sx): ∀ (l:List Sx)(a:List At)(v:List Vl),(elemsP a v l).2.2=0→elemsP a v (l++[x])=elemP (elemsP a v l).1 (elemsP a v l).2.1 x
 |[],a,v,_=>by
  simp only[List.nil_append,elemsP]
  cases h:(elemP a v x).2.2==0 with
  |true=>
   have:(elemP a v x).2.2=0:=by simpa using h
   simp only[cond_true]
   rw[← this]
  |false=>simp only[cond_false]
 |y::l,a,v,h=>by
  simp only[List.cons_append,elemsP]at h⊢
  cases h1:(elemP a v y).2.2==0 with
  |true=>
   rw[h1]at h
   simp only[cond_true]at h⊢
   exact elemsP_snoc x l _ _ h
  |false=>
   rw[h1]at h
   simp only[cond_false]at h
   rw[h]at h1
   simp at h1
theorem elemsP_mix{i:List At}{v:List Vl}(hi: ∀ a∈i,rightA a=true)(hv: ∀ x∈v,vlB x=true): ∀ {a w m:List Sx},Mix a w m→ ∀ (j k:Nat),a=(i.take j).map atW→w=(v.take k).map vlW→j≤i.length→k≤v.length→elemsP [] [] m=(i.take j,v.take k,0):=by
 intro a w m hm
 induction hm with
 |nil=>
  intro j k e1 e2 hj hk
  have h1:=congrArg List.length e1
  have h2:=congrArg List.length e2
  simp only[List.length_map,List.length_take,List.length_nil]at h1 h2
  have:j=0:=by omega
  have:k=0:=by omega
  subst j;subst k
  simp[elemsP]
 |left x hm ih=>
  intro j k e1 e2 hj hk
  have h1:=congrArg List.length e1
  simp only[List.length_map,List.length_take,List.length_append,List.length_cons,List.length_nil]at h1
  obtain⟨j,rfl⟩: ∃ j',j=j'+1:=⟨j-1,by omega⟩
  obtain⟨y,hy⟩: ∃ y,i[j]? =some y:=⟨_,List.getElem?_eq_getElem (by omega)⟩
  rw[List.take_add_one,hy,List.map_append]at e1
  obtain⟨e3,e4⟩:=List.append_inj e1 (by simp;omega)
  simp only[Option.toList_some,List.map_cons,List.map_nil,List.cons.injEq,and_true]at e4
  have ih:=ih j k e3 e2 (by omega) hk
  rw[elemsP_snoc _ _ _ _ (by rw[ih]),ih,e4,elemP_at (hi y (List.mem_of_getElem? hy)),List.take_add_one,hy];rfl
 |right x hm ih=>
  intro j k e1 e2 hj hk
  have h1:=congrArg List.length e2
  simp only[List.length_map,List.length_take,List.length_append,List.length_cons,List.length_nil]at h1
  obtain⟨k,rfl⟩: ∃ k',k=k'+1:=⟨k-1,by omega⟩
  obtain⟨y,hy⟩: ∃ y,v[k]? =some y:=⟨_,List.getElem?_eq_getElem (by omega)⟩
  rw[List.take_add_one,hy,List.map_append]at e2
  obtain⟨e3,e4⟩:=List.append_inj e2 (by simp;omega)
  simp only[Option.toList_some,List.map_cons,List.map_nil,List.cons.injEq,and_true]at e4
  have ih:=ih j k e1 e3 hj (by omega)
  have hy2:=hv y (List.mem_of_getElem? hy)
  unfold vlB at hy2
  rw[Bool.and_eq_true]at hy2
  rw[elemsP_snoc _ _ _ _ (by rw[ih]),ih,e4,elemP_vl hy2.1,List.take_add_one,hy];rfl
def goalF(g:Fm):Sx:=if goalE g then listM [wordM opGoal,listM []]else goalS g
def partsS(p:Pb)(m:List Sx):Sx:=listM [wordM opDef,nameS opPrb p.name,nameS opDom p.domain,objsS p.objects,listM (wordM opInit::m),goalF p.goal]
theorem parseF_nil:parseF (listM [])=(andFm,0):=by
 have h1:(svalid (listM []) 0 0).1=true:=by decide+kernel
 have h2:fmP (listM [])=(andFm,0):=by
  unfold listM fmP
  simp[andFm]
 have h3:validF andFm=true:=by decide+kernel
 unfold parseF
 rw[if_pos h1,h2]
 simp[h3]
theorem parse_parts{p:Pb}{m:List Sx}(h:writeB p=true)(hm:Mix (p.init.map atW) (p.values.map vlW) m)(hv:(svalid (partsS p m) 0 0).1=true):parsePb (partsS p m)=(p,0):=by
 have h':=h
 unfold writeB at h'
 simp only[Bool.and_eq_true]at h'
 obtain⟨⟨hg,he⟩,_⟩:=h'
 obtain⟨e1,e2,e3,e4,e5⟩:=expressB_iff.1 he
 have hel:=elemsP_mix e5 e4 hm p.init.length p.values.length (by rw[List.take_length]) (by rw[List.take_length]) (Nat.le_refl _) (Nat.le_refl _)
 rw[List.take_length,List.take_length]at hel
 have hgf: ∃ g,goalF p.goal=listM [wordM opGoal,g]∧parseF g=(p.goal,0):=by
  unfold goalF
  cases hh:goalE p.goal with
  |true=>exact⟨_,rfl,by rw[goalE_eq hg hh];exact parseF_nil⟩
  |false=>exact⟨_,rfl,parseF_fmW hg⟩
 obtain⟨g,hg1,hg2⟩:=hgf
 have hp:pbP (partsS p m)=(p,0):=by
  unfold pbP partsS
  rw[headM_list]
  simp only[bEq_self,cond_true,namedP_S e1,namedP_S e2,beq_self_eq_true,pbOrder,pb0,hg1,objsS]
  rw[sectsP,headM_list]
  simp only[afterB,bEq_self,cond_true,sectP,paramsP_Wn e3,beq_self_eq_true]
  rw[sectsP,headM_list]
  simp only[afterB,bEq_self,cond_true,sectP,show bEq opInit opObjs=false by decide,cond_false,hel,beq_self_eq_true]
  rw[sectsP,headM_list]
  simp only[afterB,bEq_self,cond_true,sectP,show bEq opGoal opObjs=false by decide,show bEq opGoal opInit=false by decide,cond_false,hg2,beq_self_eq_true,sectsP]
 unfold parsePb
 rw[if_pos hv,hp]
 simp[h]
end Go.Proofs.YtjeolbgpllbemaaGreat
namespace Go.Proofs.YtjeolbgpllbemaaGreat
open Go.AM
def stpP(a:Sx × Sx × Sx)(x:Sx):Sx × Sx × Sx:=cond (bEq (hW x) opObjs) (x,a.2.1,a.2.2) (cond (bEq (hW x) opInit) (a.1,x,a.2.2) (a.1,a.2.1,x))
def restOf(p:Pb):List Sx:=objsW p.objects++(initW p.init p.values++goalW p.goal)
def dftP:Sx × Sx × Sx:=(listM [wordM opObjs],listM [wordM opInit],listM [wordM opGoal,listM []])
theorem bEq_oo:bEq opObjs opObjs=true:=by decide
theorem bEq_io:bEq opInit opObjs=false:=by decide
theorem bEq_ii:bEq opInit opInit=true:=by decide
theorem bEq_go:bEq opGoal opObjs=false:=by decide
theorem bEq_gi:bEq opGoal opInit=false:=by decide
theorem fold_parts(p:Pb):(restOf p).foldl stpP dftP=(objsS p.objects,initS p.init p.values,goalF p.goal):=by
 have e1:p.objects.isEmpty=true→listM [wordM opObjs]=objsS p.objects:=by
  intro h
  rw[List.isEmpty_iff.1 h];try rfl
 have e2:(p.init.isEmpty&&p.values.isEmpty)=true→listM [wordM opInit]=initS p.init p.values:=by
  intro h
  simp only[Bool.and_eq_true,List.isEmpty_iff]at h
  rw[h.1,h.2];try rfl
 unfold restOf objsW initW goalW goalF dftP
 cases h1:p.objects.isEmpty<;>cases h2:(p.init.isEmpty&&p.values.isEmpty)<;>cases h3:goalE p.goal<;>
  simp only[Bool.false_eq_true,if_true,if_false,List.nil_append,List.cons_append,List.foldl_cons,List.foldl_nil,stpP,objsS,initS,goalS,hW_list,bEq_oo,bEq_io,bEq_ii,bEq_go,bEq_gi,cond_true,cond_false]<;>
  (try rw[e1 h1])<;>(try rw[e2 h2])<;>rfl
theorem rest_head{p:Pb}: ∀ x∈restOf p, ∃ w l,x=listM (wordM w::l):=by
 intro x hx
 unfold restOf objsW initW goalW at hx
 simp only[List.mem_append]at hx
 rcases hx with hx|hx|hx
 ·split at hx
  ·cases hx
  ·simp only[List.mem_singleton]at hx;exact⟨_,_,hx⟩
 ·split at hx
  ·cases hx
  ·simp only[List.mem_singleton]at hx;exact⟨_,_,hx⟩
 ·split at hx
  ·cases hx
  ·simp only[List.mem_singleton]at hx;exact⟨_,_,hx⟩
theorem restOf_len(p:Pb):(restOf p).length≤3:=by
 have h1:(objsW p.objects).length≤1:=by unfold objsW;split<;>simp
 have h2:(initW p.init p.values).length≤1:=by unfold initW;split<;>simp
 have h3:(goalW p.goal).length≤1:=by unfold goalW;split<;>simp
 simp only[restOf,List.length_append]
 omega
theorem Mix.mem{a v m:List Sx}(h:Mix a v m): ∀ x∈m,x∈a∨x∈v:=by
 induction h with
 |nil=>simp
 |left x _ ih=>
  intro y hy
  rcases List.mem_append.1 hy with hy|hy
  ·rcases ih y hy with h|h
   ·exact .inl (List.mem_append_left _ h)
   ·exact .inr h
  ·exact .inl (List.mem_append_right _ hy)
 |right x _ ih=>
  intro y hy
  rcases List.mem_append.1 hy with hy|hy
  ·rcases ih y hy with h|h
   ·exact .inl h
   ·exact .inr (List.mem_append_left _ h)
  ·exact .inr (List.mem_append_right _ hy)
theorem nodess_app2: ∀ l m:List Sx,Sx.nodess (l++m)=Sx.nodess l+Sx.nodess m
 |[],m=>by simp[Sx.nodess]
 |a::l,m=>by simp only[List.cons_append,Sx.nodess,nodess_app2 l m];omega
theorem Mix.nodes{a v m:List Sx}(h:Mix a v m):Sx.nodess m=Sx.nodess a+Sx.nodess v∧m.length=a.length+v.length:=by
 induction h with
 |nil=>simp[Sx.nodess]
 |left x _ ih=>simp only[nodess_app2,List.length_append,ih.1,ih.2,Sx.nodess,List.length_cons,List.length_nil];omega
 |right x _ ih=>simp only[nodess_app2,List.length_append,ih.1,ih.2,Sx.nodess,List.length_cons,List.length_nil];omega
theorem parts_nodes{p:Pb}{m:List Sx}(hw:writeB p=true)(hm:Mix (p.init.map atW) (p.values.map vlW) m):(partsS p m).nodes≤bigN:=by
 unfold writeB at hw
 simp only[Bool.and_eq_true]at hw
 have h1:=((svalid_iff (pbW p) 0 0 (by omega) (by omega)).1.1 hw.2).2.2
 rw[pbW_eq]at h1
 have e1:(objsS p.objects).nodes≤Sx.nodess (objsW p.objects)+2:=by
  unfold objsW
  cases h:p.objects.isEmpty
  ·simp [Sx.nodess]
  ·rw [List.isEmpty_iff.1 h];simp[objsS,paramsW,listM,wordM,Sx.nodes,Sx.nodess]
 have e2:Sx.nodess (p.init.map atW)+Sx.nodess (p.values.map vlW)+2≤Sx.nodess (initW p.init p.values)+2:=by
  unfold initW
  cases h:(p.init.isEmpty&&p.values.isEmpty)
  ·simp [Sx.nodess,initS,listM,wordM,Sx.nodes,nodess_app2];omega
  ·simp only[Bool.and_eq_true,List.isEmpty_iff]at h
   rw[h.1,h.2];simp[Sx.nodess]
 have e3:(goalF p.goal).nodes≤Sx.nodess (goalW p.goal)+3:=by
  unfold goalF goalW
  cases h:goalE p.goal
  ·simp [Sx.nodess]
  ·simp [listM,wordM,Sx.nodes,Sx.nodess]
 have e4:=hm.nodes.1
 unfold partsS
 simp only[secsOf,listM,Sx.nodes,Sx.nodess,nodess_app2,bigN]at h1 e4⊢
 have e5:(wordM opInit).nodes=1:=rfl
 omega
theorem listM_kids{l:List Sx}(h:(listM l).ok):l.length≤bigN∧ ∀ x∈l,x.ok:=by
 simp only[listM,Sx.ok]at h
 exact⟨h.2.2.2.1,Sx.oks_iff.1 h.2.2.2.2⟩
theorem parts_ok3{p:Pb}(hX:(pbW p).ok):(objsS p.objects).ok∧(initS p.init p.values).ok∧(goalF p.goal).ok:=by
 obtain⟨_,h⟩:=listM_kids hX
 refine⟨?_,?_,?_⟩
 ·cases h1:p.objects.isEmpty
  ·exact h _ (by simp[objsW,h1])
  ·rw [List.isEmpty_iff.1 h1]
   exact listM_okL (by simp[bigN,paramsW]) (by intro x hx;simp only[List.mem_cons,paramsW,List.not_mem_nil,or_false]at hx;subst hx;exact wordM_ok (by decide))
 ·cases h1:(p.init.isEmpty&&p.values.isEmpty)
  ·exact h _ (by simp[initW,h1])
  ·simp only[Bool.and_eq_true,List.isEmpty_iff]at h1
   rw[h1.1,h1.2]
   exact listM_okL (by simp[bigN]) (by intro x hx;simp only[List.map_nil,List.append_nil,List.mem_cons,List.not_mem_nil,or_false]at hx;subst hx;exact wordM_ok (by decide))
 ·unfold goalF
  cases h1:goalE p.goal
  ·exact h _ (by simp[goalW,h1])
  ·refine listM_okL (by simp[bigN]) ?_
   intro x hx
   simp only[List.mem_cons,List.not_mem_nil,or_false,if_true]at hx
   rcases hx with rfl|rfl
   ·exact wordM_ok (by decide)
   ·exact listM_okL (by simp[bigN]) (by simp)
theorem parts_ok{p:Pb}{m:List Sx}(hX:(pbW p).ok)(hm:Mix (p.init.map atW) (p.values.map vlW) m):(partsS p m).ok:=by
 obtain⟨h1,h2,h3⟩:=parts_ok3 hX
 obtain⟨_,h⟩:=listM_kids hX
 obtain⟨l2,k2⟩:=listM_kids h2
 have hl:=hm.nodes.2
 refine listM_okL (by simp[bigN]) ?_
 intro x hx
 simp only[List.mem_cons,List.not_mem_nil,or_false]at hx
 rcases hx with rfl|rfl|rfl|rfl|rfl|rfl
 ·exact h _ (by simp)
 ·exact h _ (by simp)
 ·exact h _ (by simp)
 ·exact h1
 ·refine listM_okL (by simp only[List.length_cons,List.length_append]at l2⊢;omega) ?_
  intro y hy
  rcases List.mem_cons.1 hy with rfl|hy
  ·exact wordM_ok (by decide)
  ·rcases hm.mem y hy with hy|hy
   ·exact k2 _ (List.mem_cons_of_mem _ (List.mem_append_left _ hy))
   ·exact k2 _ (List.mem_cons_of_mem _ (List.mem_append_right _ hy))
 ·exact h3
end Go.Proofs.YtjeolbgpllbemaaGreat
namespace Go.AM
open Go.ChangeShapes Go.WideShapes
def partsT(P:Program)(t:TypeId):List (Nat × TypeId):=match P.underlying t with
 |some (.struct fs)=>fs.toList.map fun f=>(f.offset,f.type)
 |some (.array n e)=>(List.range n).map fun i=>(i*P.cellsOf e,e)
 |_=>[]
def inRow(P:Program)(e:Nat):Nat→List (Nat × TypeId)→Bool
 |o,[]=>o==e
 |o,p::l=>p.1==o&&inRow P e (o+P.cellsOf p.2) l
def covB(P:Program):Nat→TypeId→Bool
 |0,_=>false
 |f+1,t=>match P.underlying t with
  |some .bool=>true
  |some (.int _)=>true
  |some .string=>true
  |some (.slice e)=>decide (0<P.cellsOf e)&&covB P f e
  |some (.struct _)=>inRow P (P.cellsOf t) 0 (partsT P t)&&(partsT P t).all fun p=>covB P f p.2
  |some (.array _ _)=>inRow P (P.cellsOf t) 0 (partsT P t)&&(partsT P t).all fun p=>covB P f p.2
  |_=>false
def Arg(P:Program):Nat→TypeId→List PV→Prop
 |0,_,_=>False
 |f+1,t,ps=>match P.underlying t with
  |some .bool=> ∃ b,ps=[.sc (.bool b)]
  |some (.int k)=> ∃ n,(Lit.int k n).wf=true∧ps=[.sc (.int k n)]
  |some .string=> ∃ s:ByteArray,s.size≤reachBytes∧ps=[.sc (.string s)]
  |some (.slice e)=> ∃ rows,ps=[.imm (P.cellsOf e) rows]∧rows.length*P.bytesOf e≤reachBytes∧rows.length≤maxLen∧ ∀ r∈rows,r.length=P.cellsOf e∧Arg P f e r
  |some (.struct _)=>ps.length=P.cellsOf t∧ ∀ p∈partsT P t,Arg P f p.2 ((ps.drop p.1).take (P.cellsOf p.2))
  |some (.array _ _)=>ps.length=P.cellsOf t∧ ∀ p∈partsT P t,Arg P f p.2 ((ps.drop p.1).take (P.cellsOf p.2))
  |_=>False
section
variable {H:Type}{enc:TypeId × Value→H}{P:Program}{w:World}{sp:Nat→Bool}{held:Bool}
def RA(w:World)(ps:List PV)(cs:List Value):Prop:=(∀ v∈cs,v.oneCell'=true)∧ ∀ β n,RepL β n (fun b=>b<w.heap.size) w ps cs
theorem RA.len{ps:List PV}{cs:List Value}(h:RA w ps cs):ps.length=cs.length:=(h.2 ⟨fun _=>⟨none,0,0,0⟩,fun _=>False⟩ 0).len
theorem RA.append{ps ps':List PV}{cs cs':List Value}(h:RA w ps cs)(k:RA w ps' cs'):RA w (ps++ps') (cs++cs'):=
 ⟨fun v hv=>by exact(List.mem_append.1 hv).elim (h.1 v) (k.1 v),fun β n=>(h.2 β n).append (k.2 β n)⟩
theorem inRow_le{e:Nat}:(l:List (Nat × TypeId))→(o:Nat)→inRow P e o l=true→o≤e∧ ∀ p∈l,o≤p.1∧p.1+P.cellsOf p.2≤e
 |[],o,h=>by simp[inRow]at h;simp[h]
 |p::l,o,h=>by
  simp only[inRow,Bool.and_eq_true,beq_iff_eq]at h
  obtain⟨h1,h2⟩:=inRow_le l _ h.2
  refine⟨by omega,fun q hq=>?_⟩
  rcases List.mem_cons.1 hq with rfl|hq
  ·omega
  ·have:=h2 q hq;omega
theorem parts_rep{c:Nat}{cs:List Value}:(l:List (Nat × TypeId))→(o:Nat)→inRow P cs.length o l=true→
  (∀ p∈l, ∃ ps,Arg P c p.2 ps∧RA w ps ((cs.drop p.1).take (P.cellsOf p.2)))→
  ∃ ps,RA w ps (cs.drop o)∧ ∀ p∈l,Arg P c p.2 ((ps.drop (p.1-o)).take (P.cellsOf p.2))
 |[],o,h,_=>by
  simp[inRow]at h
  refine⟨[],⟨?_,fun β n=>?_⟩,by simp⟩
  ·rw [List.drop_of_length_le (by omega)];simp
  ·rw [List.drop_of_length_le (by omega)];simp[RepL]
 |p::l,o,h,hp=>by
  have hle:=(inRow_le (p::l) o h).2 p (by simp)
  simp only[inRow,Bool.and_eq_true,beq_iff_eq]at h
  obtain⟨ps,h1,h2⟩:=parts_rep l _ h.2 (fun q hq=>hp q (by simp[hq]))
  obtain⟨ps0,h3,h4⟩:=hp p (by simp)
  have hl2:=(inRow_le l _ h.2).2
  have e0:p.1=o:=h.1
  have l0:ps0.length=P.cellsOf p.2:=by rw[h4.len,List.length_take,List.length_drop];omega
  refine⟨ps0++ps,?_,fun q hq=>?_⟩
  ·have:cs.drop o=(cs.drop p.1).take (P.cellsOf p.2)++cs.drop (o+P.cellsOf p.2):=by
    rw[e0, ← List.drop_drop,List.take_append_drop]
   rw[this]
   exact h4.append h1
  ·rcases List.mem_cons.1 hq with rfl|hq
   ·rw [e0,Nat.sub_self,List.drop_zero,List.take_append_of_le_length (by omega),List.take_of_length_le (by omega)]
    exact h3
   ·have h5:=hl2 q hq
    have:q.1-o=ps0.length+(q.1-(o+P.cellsOf p.2)):=by omega
    rw[this, ← List.drop_drop,List.drop_left]
    exact h2 q hq
theorem exists_list{α:Type}{R:Nat→α→Prop}:(n:Nat)→(∀ i,i<n→ ∃ x,R i x)→ ∃ l:List α,l.length=n∧ ∀ i x,l[i]? =some x→R i x
 |0,_=>⟨[],rfl,by simp⟩
 |n+1,h=>by
  obtain⟨l,h1,h2⟩:=exists_list n (fun i hi=>h i (by omega))
  obtain⟨x,hx⟩:=h n (by omega)
  refine⟨l++[x],by simp[h1],fun i y hy=>?_⟩
  rw[List.getElem?_append]at hy
  split at hy
  ·exact h2 i y hy
  ·rename_i hi
   have:i=n:=by
    have:=(List.getElem?_eq_some_iff.1 hy).1
    simp at this;omega
   subst this
   rw[h1]at hy
   simp at hy
   subst hy;exact hx
theorem weightsAll_mem{e:TypeId}{n:Nat}:{ds:List (DataW H)}→{i:Nat}→{d:DataW H}→ds[i]? =some d→n∈d.weights P e→n∈DataW.weightsAll P e ds
 |[],_,_,h,_=>by simp at h
 |d0::ds,0,d,h,hn=>by
  simp at h;subst h
  simp only[DataW.weightsAll,List.mem_append];exact .inl hn
 |d0::ds,i+1,d,h,hn=>by
  simp at h
  simp only[DataW.weightsAll,List.mem_append];exact .inr (weightsAll_mem h hn)
theorem sc_RA{v:Value}(h:v.oneCell'=true):RA w [.sc v] [v]:=
 ⟨fun u hu=>by simp at hu;subst hu;exact h,fun β n=>by simp only[RepL,Rep];exact⟨trivial,trivial⟩⟩
theorem arg_of: ∀ (c:Nat)(t:TypeId),covB P c t=true→ ∀ (fuel:Nat)(cs:List Value)(x:DataW H × List MemPlace),DataW.trod enc P w 0 sp held fuel t cs=some x→(∀ n∈x.1.weights P t,n≤reachBytes)→
  ∃ ps,Arg P c t ps∧RA w ps cs
 |0,_,h,_,_,_,_,_=>by simp[covB]at h
 |c+1,t,h,fuel,cs,x,hx,hw=>by
  unfold covB at h
  split at h
  ·rename_i hu
   obtain⟨b,rfl,rfl⟩:=DataW.trod_bool hu hx
   refine⟨[.sc (.bool b)],?_,sc_RA rfl⟩
   unfold Arg;rw[hu];exact⟨b,rfl⟩
  ·rename_i k hu
   obtain⟨n,rfl,rfl,hwf⟩:=DataW.trod_int hu hx
   refine⟨[.sc (.int k n)],?_,sc_RA rfl⟩
   unfold Arg;rw[hu];exact⟨n,hwf,rfl⟩
  ·rename_i hu
   obtain⟨s,rfl,rfl,hs⟩:=DataW.trod_string hu hx
   refine⟨[.sc (.string s)],?_,sc_RA rfl⟩
   unfold Arg;rw[hu]
   refine⟨s,?_,rfl⟩
   have:=hw s.data.toList.length (by simp[DataW.weights])
   simpa using this
  ·rename_i e hu
   simp only[Bool.and_eq_true,decide_eq_true_eq]at h
   obtain⟨hpos,hcov⟩:=h
   rcases DataW.trod_slice hu hx with⟨rfl,rfl⟩|⟨a,len,cap,elems,rest,n,rfl,rfl,rfl,hb,hl,hm,hlen,hel,hsp,hns⟩
   ·refine ⟨[.imm (P.cellsOf e) []],?_,fun v hv=>?_,fun β n=>?_⟩
    ·unfold Arg;rw[hu];exact⟨[],rfl,by simp,by simp,by simp⟩
    ·simp at hv;subst hv;rfl
    ·simp only[RepL,Rep]
     exact⟨⟨none,0,rfl,Nat.le_refl _,Nat.zero_le _,.inl (by trivial)⟩,trivial⟩
   ·have each: ∀ i,i<len→ ∃ r:List PV,(r.length=P.cellsOf e∧Arg P c e r)∧ ∃ ci,RA w r ci∧ci.length=P.cellsOf e∧ ∀ j,j<P.cellsOf e→w.cell? ((a.add (i*P.cellsOf e)).add j)=ci[j]?:=by
     intro i hi
     have h1:=hel i hi
     have h2:elems[i]? =some (elems[i]'(by omega)):=List.getElem?_eq_getElem _
     rw[h2,Option.bind_eq_some_iff]at h1
     obtain⟨ci,h3,h4⟩:=h1
     obtain⟨_,h5,h6⟩:=World.cells?_some h3
     obtain⟨r,h7,h8⟩:=arg_of c e hcov n ci _ h4 (fun m hm=>hw m (by
      simp only[DataW.weights,hu,List.mem_cons,List.mem_append]
      exact .inr (.inl (weightsAll_mem (i:=i) (by rw[List.getElem?_map,h2];try rfl) hm))))
     exact⟨r,⟨by rw[h8.len,h5],h7⟩,ci,h8,h5,h6⟩
    obtain⟨rows,hrl,hrows⟩:=exists_list len each
    refine⟨[.imm (P.cellsOf e) rows],?_,fun v hv=>?_,fun β m=>?_⟩
    ·unfold Arg;rw[hu]
     refine⟨rows,rfl,?_,by omega,fun r hr=>?_⟩
     ·have:=hw ((elems.map (·.1)).length*P.bytesOf e+(rest.map (·.1)).length*P.bytesOf e) (by
       simp only[DataW.weights,hu,List.mem_cons,Nat.add_mul,true_or])
      have h9:rows.length=(elems.map (·.1)).length:=by simp[hrl,hlen]
      rw[h9]
      exact Nat.le_trans (Nat.le_add_right _ _) this
     ·obtain ⟨i,hi⟩:=List.getElem?_of_mem hr
      exact(hrows i r hi).1
    ·simp at hv;subst hv;rfl
    ·simp only[RepL,Rep]
     refine⟨⟨some a,cap,by rw[hrl],by omega,hm,?_⟩,trivial⟩
     by_cases h0:len=0
     ·left;exact List.length_eq_zero_iff.1 (by omega)
     ·right
      obtain⟨_,_,c0,_,hc0,hcell0⟩:=each 0 (by omega)
      have h10:=hcell0 0 hpos
      rw[List.getElem?_eq_getElem (by omega)]at h10
      simp only[Nat.zero_mul,Addr.add,if_true]at h10
      have hs:a.spot=none:=by
       unfold World.cell? at h10
       split at h10
       ·split at h10
        ·simp at h10
        ·rename_i hsp;simpa using hsp
       ·simp at h10
      have hblk:a.block<w.heap.size:=by
       unfold World.cell? at h10
       split at h10
       ·rename_i hh;exact(Array.getElem?_eq_some_iff.1 hh).1
       ·simp at h10
      refine⟨a.block,a.off,hblk,by cases a;simp only at hs;subst hs;rfl,?_⟩
      rw[RepR_iff]
      intro i r hr
      obtain⟨⟨g1,_⟩,ci,g2,g3,g4⟩:=hrows i r hr
      refine⟨g1,?_⟩
      rw[RepS_iff]
      intro j p hp
      obtain⟨v,hv,hrep⟩:=(g2.2 β m).get hp
      have hj:j<P.cellsOf e:=by rw[← g3];exact(List.getElem?_eq_some_iff.1 hv).1
      refine⟨v,?_,g2.1 v (List.mem_of_getElem? hv),hrep⟩
      rw[← hv, ← g4 j hj]
      congr 1
      cases a
      simp only at hs;subst hs
      simp only[Addr.add]
      split<;>split<;>simp_all<;>omega
  ·rename_i fs hu
   simp only[Bool.and_eq_true,List.all_eq_true]at h
   obtain⟨xs,n,rfl,rfl,hcl,hxl,hp⟩:=DataW.trod_struct hu hx
   have hpt:partsT P t=fs.toList.map fun f=>(f.offset,f.type):=by unfold partsT;rw[hu]
   obtain⟨ps,h1,h2⟩:=parts_rep (w:=w) (c:=c) (cs:=cs) (partsT P t) 0 (by rw[hcl];exact h.1) (fun p hpm=>by
    have hcv:=h.2 p hpm
    rw[hpt]at hpm
    obtain⟨i,hi⟩:=List.getElem?_of_mem hpm
    rw[List.getElem?_map,Option.map_eq_some_iff]at hi
    obtain⟨f,hf,rfl⟩:=hi
    have hf':fs[i]? =some f:=by simpa using hf
    have hi':i<xs.length:=by
     rw[hxl]
     exact(Array.getElem?_eq_some_iff.1 hf').1
    have h3:=hp i f hf'
    rw[List.getElem?_eq_getElem hi']at h3
    exact arg_of c f.type hcv n _ _ h3 (fun m hm=>hw m (by
     simp only[DataW.weights,hu]
     exact DataW.weights_mem_each (j:=i) (t:=f.type) (d:=xs[i].1) (by rw[List.getElem?_map,hf];try rfl) (by rw[List.getElem?_map,List.getElem?_eq_getElem hi'];try rfl) m hm)))
   refine⟨ps,?_,by simpa using h1⟩
   unfold Arg;rw[hu]
   exact⟨by rw[h1.len,List.drop_zero,hcl],fun p hpm=>by simpa using h2 p hpm⟩
  ·rename_i k e hu
   simp only[Bool.and_eq_true,List.all_eq_true]at h
   obtain⟨xs,n,rfl,rfl,hcl,hxl,hp⟩:=DataW.trod_array hu hx
   have hpt:partsT P t=(List.range k).map fun i=>(i*P.cellsOf e,e):=by unfold partsT;rw[hu]
   obtain⟨ps,h1,h2⟩:=parts_rep (w:=w) (c:=c) (cs:=cs) (partsT P t) 0 (by rw[hcl];exact h.1) (fun p hpm=>by
    have hcv:=h.2 p hpm
    rw[hpt]at hpm
    obtain⟨i,hi,rfl⟩:=List.mem_map.1 hpm
    have hi':i<xs.length:=by rw[hxl];simpa using hi
    have h3:=hp i (by simpa using hi)
    rw[List.getElem?_eq_getElem hi']at h3
    exact arg_of c e hcv n _ _ h3 (fun m hm=>hw m (by
     simp only[DataW.weights,hu]
     exact weightsAll_mem (i:=i) (d:=xs[i].1) (by rw[List.getElem?_map,List.getElem?_eq_getElem hi'];try rfl) hm)))
   refine⟨ps,?_,by simpa using h1⟩
   unfold Arg;rw[hu]
   exact⟨by rw[h1.len,List.drop_zero,hcl],fun p hpm=>by simpa using h2 p hpm⟩
  ·simp at h
def ArgV(P:Program)(c:Nat)(t:TypeId)(p:PV):Prop:=match P.underlying t with
 |some (.struct _)=> ∃ ps,p= .agg ps∧Arg P c t ps
 |some (.array _ _)=> ∃ ps,p= .agg ps∧Arg P c t ps
 |_=>Arg P c t [p]
theorem arg_value{c:Nat}{t:TypeId}(hc:covB P c t=true){v:Value}{d:DataW H}{pl:List MemPlace}(h:DataW.Trod enc P w 0 sp held t v d pl)(hv: ∃ base,Value.okWide P w .any base t v)
  (hw: ∀ n∈d.weights P t,n≤reachBytes): ∃ p,ArgV P c t p∧ ∀ β n,Rep β n (fun b=>b<w.heap.size) w p v:=by
 obtain⟨fuel,hf⟩:=h
 obtain⟨ps,h1,h2⟩:=arg_of c t hc fuel _ _ hf hw
 obtain⟨base,hv⟩:=hv
 unfold Value.okWide at hv
 cases c with
 |zero=>simp[covB]at hc
 |succ c=>
  unfold covB at hc
  unfold ArgV
  have one:(∃ q,ps=[q])→(∃ u,v.cells.toList=[u]∧v=u)→ ∃ p,Arg P (c+1) t [p]∧ ∀ β n,Rep β n (fun b=>b<w.heap.size) w p v:=by
   rintro⟨q,rfl⟩ ⟨u,hu,rfl⟩
   refine⟨q,h1,fun β n=>?_⟩
   have:=h2.2 β n
   rw[hu]at this
   simp only[RepL]at this
   exact this.1
  have agg:(∃ cs,v= .agg cs)→ ∃ p,(∃ ps,p= .agg ps∧Arg P (c+1) t ps)∧ ∀ β n,Rep β n (fun b=>b<w.heap.size) w p v:=by
   rintro⟨cs,rfl⟩
   refine⟨.agg ps,⟨ps,rfl,h1⟩,fun β n=>?_⟩
   simp only[Rep]
   exact⟨cs.toList,by simp,h2.1,h2.2 β n⟩
  split at hc
  ·rename_i hu
   obtain⟨b,hb,_⟩:=DataW.trod_bool hu hf
   simp only[hu]at hv⊢
   refine one ?_ ⟨_,hb,?_⟩
   ·unfold Arg at h1;rw[hu]at h1;obtain⟨b,rfl⟩:=h1;exact⟨_,rfl⟩
   ·obtain ⟨b',rfl⟩:=okWide_bool hu (r:= .any) (base:=base) (v:=v) (w:=w) (by unfold Value.okWide;rw[hu];exact hv)
    simpa[Value.cells]using hb
  ·rename_i k hu
   obtain⟨n,hb,_⟩:=DataW.trod_int hu hf
   simp only[hu]at hv⊢
   refine one ?_ ⟨_,hb,?_⟩
   ·unfold Arg at h1;rw[hu]at h1;obtain⟨n,_,rfl⟩:=h1;exact⟨_,rfl⟩
   ·obtain ⟨b',rfl⟩:=okWide_int hu (r:= .any) (base:=base) (v:=v) (w:=w) (by unfold Value.okWide;rw[hu];exact hv)
    simpa[Value.cells]using hb
  ·rename_i hu
   obtain⟨n,hb,_⟩:=DataW.trod_string hu hf
   simp only[hu]at hv⊢
   refine one ?_ ⟨_,hb,?_⟩
   ·unfold Arg at h1;rw[hu]at h1;obtain⟨n,_,rfl⟩:=h1;exact⟨_,rfl⟩
   ·obtain ⟨b',rfl⟩:=okWide_string hu (r:= .any) (base:=base) (v:=v) (w:=w) (by unfold Value.okWide;rw[hu];exact hv)
    simpa[Value.cells]using hb
  ·rename_i e hu
   simp only[hu]at hv⊢
   obtain⟨a,len,cap,rfl⟩:=okWide_slice hu (r:= .any) (base:=base) (v:=v) (w:=w) (by unfold Value.okWide;rw[hu];exact hv)
   refine one ?_ ⟨_,rfl,rfl⟩
   unfold Arg at h1;rw[hu]at h1;obtain⟨n,rfl,_⟩:=h1;exact⟨_,rfl⟩
  ·rename_i fs hu
   simp only[hu]at hv⊢
   obtain⟨cs,rfl,_⟩:=hv
   exact agg ⟨_,rfl⟩
  ·rename_i n e hu
   simp only[hu]at hv⊢
   obtain⟨cs,rfl,_⟩:=hv
   exact agg ⟨_,rfl⟩
  ·simp at hc
end
end Go.AM
namespace Go.AM
open Go.ChangeShapes Go.WideShapes
section
variable {H:Type}{enc:TypeId × Value→H}{P:Program}{w:World}{sp:Nat→Bool}{held:Bool}
def covC(P:Program)(Ts:List TypeId):Bool:=Ts.all fun t=>match P.underlying t with
 |some .bool=>true
 |some (.int _)=>true
 |some .string=>true
 |some (.slice e)=>decide (0<P.cellsOf e)&&Ts.contains e
 |some (.struct _)=>inRow P (P.cellsOf t) 0 (partsT P t)&&(partsT P t).all fun p=>Ts.contains p.2
 |some (.array _ _)=>inRow P (P.cellsOf t) 0 (partsT P t)&&(partsT P t).all fun p=>Ts.contains p.2
 |_=>false
end
end Go.AM
namespace Go.AM
open Go.ChangeShapes Go.WideShapes
section
variable {P:Program}{c:Nat}{t e:TypeId}{ps:List PV}{a:PV}
theorem Arg_int{k:IntKind}(hu:P.underlying t=some (.int k))(h:Arg P (c+1) t ps): ∃ n,(Lit.int k n).wf=true∧ps=[.sc (.int k n)]:=by
 unfold Arg at h;rw[hu]at h;exact h
theorem Arg_slice(hu:P.underlying t=some (.slice e))(h:Arg P (c+1) t ps): ∃ rows,ps=[.imm (P.cellsOf e) rows]∧rows.length*P.bytesOf e≤reachBytes∧rows.length≤maxLen∧ ∀ r∈rows,r.length=P.cellsOf e∧Arg P c e r:=by
 unfold Arg at h;rw[hu]at h;exact h
theorem Arg_struct{fs:Array Field}(hu:P.underlying t=some (.struct fs))(h:Arg P (c+1) t ps):ps.length=P.cellsOf t∧ ∀ p∈partsT P t,Arg P c p.2 ((ps.drop p.1).take (P.cellsOf p.2)):=by
 unfold Arg at h;rw[hu]at h;exact h
theorem rows_map{α:Type}{Q:α→Prop}{f:α→List PV}:(rows:List (List PV))→(∀ r∈rows, ∃ x,Q x∧r=f x)→ ∃ xs:List α,rows=xs.map f∧ ∀ x∈xs,Q x
 |[],_=>⟨[],rfl,by simp⟩
 |r::rows,h=>by
  obtain⟨xs,h1,h2⟩:=rows_map rows (fun q hq=>h q (by simp[hq]))
  obtain⟨x,h3,h4⟩:=h r (by simp)
  refine⟨x::xs,by simp[h1,h4],fun y hy=>?_⟩
  rcases List.mem_cons.1 hy with rfl|hy
  ·exact h3
  ·exact h2 y hy
theorem argV_slice(hu:P.underlying t=some (.slice e))(h:ArgV P c t a):Arg P c t [a]:=by unfold ArgV at h;rw[hu]at h;exact h
theorem i64_in{n:Int}(h:(Lit.int .i64 n).wf=true): -9223372036854775808≤n∧n≤9223372036854775807:=by
 simp[Lit.wf,IntKind.min,IntKind.max,IntKind.bits,IntKind.signed]at h
 omega
end
end Go.AM
namespace Go.Proofs.YtjeolbgpllbemaaGreat
open Go.AM
set_option maxHeartbeats 1000000
set_option maxRecDepth 20000
def recTs:List TypeId:=[29,91,84,9,3,25,22,26,27]
theorem parts57:partsT Tryz.prog 91=[(0,9),(1,9),(2,3),(3,25),(4,26)]:=by kernel_rfl
theorem parts29:partsT Tryz.prog 29=[(0,9),(1,9),(2,25),(3,22),(4,26),(5,27)]:=by kernel_rfl
theorem parts99:partsT Tryz.prog 84=[(0,9),(1,9)]:=by kernel_rfl
theorem co9:Tryz.prog.cellsOf 9=1:=by kernel_rfl
theorem co3:Tryz.prog.cellsOf 3=1:=by kernel_rfl
theorem co24:Tryz.prog.cellsOf 25=1:=by kernel_rfl
theorem co25:Tryz.prog.cellsOf 22=1:=by kernel_rfl
theorem co26:Tryz.prog.cellsOf 26=1:=by kernel_rfl
theorem co27:Tryz.prog.cellsOf 27=1:=by kernel_rfl
theorem co57:Tryz.prog.cellsOf 91=5:=by kernel_rfl
theorem co29:Tryz.prog.cellsOf 29=6:=by kernel_rfl
theorem co99:Tryz.prog.cellsOf 84=2:=by kernel_rfl
theorem by9:0<Tryz.prog.bytesOf 9:=by rw[show Tryz.prog.bytesOf 9=16 by kernel_rfl];omega
theorem by99:0<Tryz.prog.bytesOf 84:=by rw[show Tryz.prog.bytesOf 84=32 by kernel_rfl];omega
theorem by57:0<Tryz.prog.bytesOf 91:=by rw[show Tryz.prog.bytesOf 91=88 by kernel_rfl];omega
theorem by29:0<Tryz.prog.bytesOf 29:=by rw[show Tryz.prog.bytesOf 29=128 by kernel_rfl];omega
theorem len_le{n b:Nat}(h:n*b≤reachBytes)(hb:0<b):n≤bigN:=by
 have:=Nat.le_mul_of_pos_right n hb
 unfold reachBytes at h
 unfold bigN
 omega
theorem arg_str{c:Nat}{ps:List PV}(h:Arg Tryz.prog c 9 ps): ∃ s:ByteArray,s.size≤bigN∧ps=[sPV s]:=by
 cases c with
 |zero=>simp[Arg]at h
 |succ c=>
  unfold Arg at h
  rw[Tryz.underlying9]at h
  obtain⟨s,h1,h2⟩:=h
  exact⟨s,by unfold reachBytes at h1;unfold bigN;omega,h2⟩
theorem arg_i64{c:Nat}{ps:List PV}(h:Arg Tryz.prog c 3 ps): ∃ n:Int,(-9223372036854775808≤n∧n≤9223372036854775807)∧ps=[.sc (.int .i64 n)]:=by
 cases c with
 |zero=>simp[Arg]at h
 |succ c=>
  obtain⟨n,h1,h2⟩:=Arg_int Tryz.underlying3 h
  exact⟨n,i64_in h1,h2⟩
theorem arg_strs{c:Nat}{ps:List PV}(h:Arg Tryz.prog c 25 ps): ∃ l:List ByteArray,(l.length≤bigN∧ ∀ a∈l,a.size≤bigN)∧ps=[.imm 1 (strRows l)]:=by
 cases c with
 |zero=>simp[Arg]at h
 |succ c=>
  obtain⟨rows,rfl,h1,_,h2⟩:=Arg_slice Tryz.underlying25 h
  obtain⟨xs,rfl,h3⟩:=rows_map (Q:=fun s:ByteArray=>s.size≤bigN) (f:=fun s=>[sPV s]) rows (fun r hr=>arg_str (h2 r hr).2)
  refine⟨xs,⟨len_le (by simpa using h1) by9,h3⟩,?_⟩
  rw[co9];try rfl
theorem arg_pm{c:Nat}{ps:List PV}(h:Arg Tryz.prog c 84 ps): ∃ p:Pm,p.ok∧ps=pmRow p:=by
 cases c with
 |zero=>simp[Arg]at h
 |succ c=>
  obtain⟨h1,h2⟩:=Arg_struct Tryz.underlying84 h
  rw[co99]at h1
  rw[parts99]at h2
  match ps,h1,h2 with
  |[p0,p1],_,h2=>
   have a0:=h2 (0,9) (by simp)
   have a1:=h2 (1,9) (by simp)
   simp only[co9,List.drop_zero,List.drop_succ_cons,List.take_succ_cons,List.take_zero]at a0 a1
   obtain⟨s,hs,e1⟩:=arg_str a0
   obtain⟨t,ht,e2⟩:=arg_str a1
   simp at e1 e2
   exact⟨⟨s,t⟩,⟨hs,ht⟩,by simp[pmRow,e1,e2]⟩
theorem arg_pms{c:Nat}{ps:List PV}(h:Arg Tryz.prog c 22 ps): ∃ l:List Pm,(l.length≤bigN∧ ∀ a∈l,a.ok)∧ps=[.imm 2 (pmRows l)]:=by
 cases c with
 |zero=>simp[Arg]at h
 |succ c=>
  obtain⟨rows,rfl,h1,_,h2⟩:=Arg_slice Tryz.underlying22 h
  obtain⟨xs,rfl,h3⟩:=rows_map (Q:=Pm.ok) (f:=pmRow) rows (fun r hr=>arg_pm (h2 r hr).2)
  refine⟨xs,⟨len_le (by simpa using h1) by99,h3⟩,?_⟩
  rw[co99];try rfl
theorem arg_ex: ∀ (c:Nat){ps:List PV},Arg Tryz.prog c 91 ps→ ∃ e:Ex,e.ok∧ps=e.cells:=by
 intro c
 induction c using Nat.strongRecOn with
 |_ c ih=>
  intro ps h
  cases c with
  |zero=>simp[Arg]at h
  |succ c=>
   obtain⟨h1,h2⟩:=Arg_struct Tryz.underlying91 h
   rw[co57]at h1
   rw[parts57]at h2
   match ps,h1,h2 with
   |[p0,p1,p2,p3,p4],_,h2=>
    have a0:=h2 (0,9) (by simp)
    have a1:=h2 (1,9) (by simp)
    have a2:=h2 (2,3) (by simp)
    have a3:=h2 (3,25) (by simp)
    have a4:=h2 (4,26) (by simp)
    simp only[co9,co3,co24,co26,List.drop_zero,List.drop_succ_cons,List.take_succ_cons,List.take_zero]at a0 a1 a2 a3 a4
    obtain⟨op,hop,e0⟩:=arg_str a0
    obtain⟨name,hname,e1⟩:=arg_str a1
    obtain⟨n,hn,e2⟩:=arg_i64 a2
    obtain⟨args,hargs,e3⟩:=arg_strs a3
    cases c with
    |zero=>simp[Arg]at a4
    |succ c=>
     obtain⟨rows,e4,h3,_,h4⟩:=Arg_slice Tryz.underlying26 a4
     obtain⟨xs,rfl,h5⟩:=rows_map (Q:=Ex.ok) (f:=Ex.cells) rows (fun r hr=>ih c (by omega) (h4 r hr).2)
     rw[co57]at e4
     simp at e0 e1 e2 e3 e4
     refine⟨.mk op name n args xs,?_,?_⟩
     ·simp only[Ex.ok]
      exact⟨hop,hname,hn,hargs,len_le (by simpa using h3) by57,Ex.oks_iff.2 h5⟩
     ·simp only[Ex.cells,e0,e1,e2,e3,e4,Ex.rows_map]
theorem arg_exs{c:Nat}{ps:List PV}(h:Arg Tryz.prog c 26 ps): ∃ l:List Ex,(l.length≤bigN∧Ex.oks l)∧ps=[.imm 5 (Ex.rows l)]:=by
 cases c with
 |zero=>simp[Arg]at h
 |succ c=>
  obtain⟨rows,rfl,h1,_,h2⟩:=Arg_slice Tryz.underlying26 h
  obtain⟨xs,rfl,h3⟩:=rows_map (Q:=Ex.ok) (f:=Ex.cells) rows (fun r hr=>arg_ex c (h2 r hr).2)
  refine⟨xs,⟨len_le (by simpa using h1) by57,Ex.oks_iff.2 h3⟩,?_⟩
  rw[co57,Ex.rows_map]
theorem arg_fm: ∀ (c:Nat){ps:List PV},Arg Tryz.prog c 29 ps→ ∃ f:Fm,f.ok∧ps=f.cells:=by
 intro c
 induction c using Nat.strongRecOn with
 |_ c ih=>
  intro ps h
  cases c with
  |zero=>simp[Arg]at h
  |succ c=>
   obtain⟨h1,h2⟩:=Arg_struct Tryz.underlying29 h
   rw[co29]at h1
   rw[parts29]at h2
   match ps,h1,h2 with
   |[p0,p1,p2,p3,p4,p5],_,h2=>
    have a0:=h2 (0,9) (by simp)
    have a1:=h2 (1,9) (by simp)
    have a2:=h2 (2,25) (by simp)
    have a3:=h2 (3,22) (by simp)
    have a4:=h2 (4,26) (by simp)
    have a5:=h2 (5,27) (by simp)
    simp only[co9,co24,co25,co26,co27,List.drop_zero,List.drop_succ_cons,List.take_succ_cons,List.take_zero]at a0 a1 a2 a3 a4 a5
    obtain⟨op,hop,e0⟩:=arg_str a0
    obtain⟨name,hname,e1⟩:=arg_str a1
    obtain⟨args,hargs,e2⟩:=arg_strs a2
    obtain⟨params,hparams,e3⟩:=arg_pms a3
    obtain⟨exprs,hexprs,e4⟩:=arg_exs a4
    cases c with
    |zero=>simp[Arg]at a5
    |succ c=>
     obtain⟨rows,e5,h3,_,h4⟩:=Arg_slice Tryz.underlying27 a5
     obtain⟨xs,rfl,h5⟩:=rows_map (Q:=Fm.ok) (f:=Fm.cells) rows (fun r hr=>ih c (by omega) (h4 r hr).2)
     rw[co29]at e5
     simp at e0 e1 e2 e3 e4 e5
     refine⟨.mk op name args params exprs xs,?_,?_⟩
     ·simp only[Fm.ok]
      exact⟨hop,hname,hargs,hparams,hexprs,len_le (by simpa using h3) by29,Fm.oks_iff.2 h5⟩
     ·simp only[Fm.cells,e0,e1,e2,e3,e4,e5,Fm.rows_map]
end Go.Proofs.YtjeolbgpllbemaaGreat
namespace Go.Proofs.YtjeolbgpllbemaaGreat
open Go.AM
set_option maxHeartbeats 2000000
set_option maxRecDepth 20000
theorem rsizeE_c: ∀ (e:Ex),e.ok→ ∀ h:Heap,PCall Tryz.prog 52 [.agg e.cells] h fun r h'=>r= .sc (.int .i64 e.size)∧h'=h:=by
 refine Ex.ind ?_
 intro op name n args kids ih hok h
 simp only[Ex.ok]at hok
 obtain⟨_,_,_,_,hk,hks⟩:=hok
 rw[Ex.oks_iff]at hks
 have hlen:=Ex.rows_len kids
 simp only[Ex.cells,Ex.size]
 refine pcall_body (ow:=fun _=>false) (wf:=fun _=>false) Ty.mixed Tryz.func52 rfl Ty.hb_52 (by rw[Tryz.ntmps52];simp) ?_
 rw[Tryz.ntmps52,Tryz.results52]
 repeat'(first|refine a_seq fun K hK=>?_|(refine a_block ?_)|(refine a_regionS ?_;simp(maxSteps:=2000000) only[Ty.w,simprocAttr,hlen])|(refine hK _ _ ?_;clear hK;try simp only[pst0,simprocAttr]))
 refine a_loop (fun m S h'=>h'=h∧S 1= .cptr (Ex.mk op name n args kids).cells∧ ∃ k:Nat,S 4= .sc (.int .i64 k)∧k≤kids.length∧m=kids.length-k∧S 3= .sc (.int .i64 (Ex.sizes 1 (kids.take k)))) kids.length ?_ ?_
 ·simp only[Ty.w,simprocAttr]
  exact⟨rfl,0,rfl,by omega,rfl,by simp[Ex.sizes]⟩
 ·rintro m S h' ⟨rfl,g1,k,g4,hkl,rfl,g3⟩
  simp only[Ex.cells]at g1
  by_cases hlt:k<kids.length
  ·have hd:decide ((k:Int)<(kids.length:Int))=true:=by simp;omega
   have w7:IntKind.i64.wrap ((k:Int)+1)=k+1:=by unfold bigN at hk;rw[wrap64 (by omega) (by omega)]
   obtain⟨e,hx⟩: ∃ e,kids[k]? =some e:=⟨_,List.getElem?_eq_getElem hlt⟩
   have hmem:=List.mem_of_getElem? hx
   have hc:=ih e hmem (hks e hmem)
   have hsz:=Ex.sizes_take 1 hx
   have hr:=Ex.rows_get hx
   obtain⟨op2,name2,n2,args2,kids2⟩:=e
   simp only[Ex.cells]at hr hc
   repeat'(first|refine a_seq fun K hK=>?_|(refine a_block ?_)|((first|refine a_regionS ?_|refine a_region (fun K hK=>?_));simp(maxSteps:=2000000) only[Ty.w,simprocAttr,g1,g3,g4,hlen,hd,hr,w7])|(refine a_skip ?_;try simp only[pst0,simprocAttr])|(refine a_cond _ (by(try simp(maxSteps:=2000000) only[Ty.w,simprocAttr,g1,g3,g4,hlen,hd,hr,w7]);rfl) (fun hb=>?_) (fun hb=>?_)<;>(try simp only[hb0,decide_eq_true_eq,decide_eq_false_iff_not,simprocAttr]at hb)<;>(try(exfalso;omega)))|(refine hK _ _ ?_;clear hK;try simp only[pst0,simprocAttr]))
   refine owp_useQ (hc _) (by(try simp only[Ty.w,simprocAttr,g1,g3,g4,hlen,hd,hr]);try rfl) ?_;simp(maxSteps:=2000000) only[Ty.w,simprocAttr,g1,g3,g4,hlen,hd,hr]
   repeat'(first|(refine a_regionS ?_;simp(maxSteps:=2000000) only[Ty.w,simprocAttr,g1,g3,g4,w7])|(refine hK _ _ ?_;clear hK;try simp only[pst0,simprocAttr]))
   exact⟨kids.length-(k+1),by omega,rfl,k+1,by simp,by omega,rfl,by rw[hsz]⟩
  ·have hd:decide ((k:Int)<(kids.length:Int))=false:=by simp;omega
   have hke:k=kids.length:=by omega
   subst hke
   rw[List.take_length]at g3
   repeat'(first|refine a_seq fun K hK=>?_|((first|refine a_regionS ?_|refine a_ret ?_);simp(maxSteps:=2000000) only[Ty.w,simprocAttr,g1,g3,g4,hlen,hd])|(refine a_exit ?_;try simp only[pst0,simprocAttr])|(refine a_cond _ (by(try simp(maxSteps:=2000000) only[Ty.w,simprocAttr,g1,g3,g4,hlen,hd]);rfl) (fun hb=>?_) (fun hb=>?_)<;>(try simp only[hb0,decide_eq_true_eq,decide_eq_false_iff_not,simprocAttr]at hb)<;>(try(exfalso;omega)))|((first|refine hK _ _ ?_|(clear hK;refine hK _ _ ?_));clear hK;try simp only[pst0,simprocAttr]))
theorem rsize_c: ∀ (f:Fm),f.ok→ ∀ h:Heap,PCall Tryz.prog 22 [.agg f.cells] h fun r h'=>r= .sc (.int .i64 f.size)∧h'=h:=by
 refine Fm.ind ?_
 intro op name args params exprs kids ih hok h
 simp only[Fm.ok]at hok
 obtain⟨_,_,_,_,⟨he,hes⟩,hk,hks⟩:=hok
 rw[Ex.oks_iff]at hes
 rw[Fm.oks_iff]at hks
 have hlen:=Fm.rows_len kids
 have hlene:=Ex.rows_len exprs
 simp only[Fm.cells,Fm.size]
 refine pcall_body (ow:=fun _=>false) (wf:=fun _=>false) Ty.mixed Tryz.func22 rfl Ty.hb_22 (by rw[Tryz.ntmps22];simp) ?_
 rw[Tryz.ntmps22,Tryz.results22]
 repeat'(first|refine a_seq fun K hK=>?_|(refine a_block ?_)|(refine a_regionS ?_;simp(maxSteps:=2000000) only[Ty.w,simprocAttr,hlen])|(refine hK _ _ ?_;clear hK;try simp only[pst0,simprocAttr]))
 refine a_loop (fun m S h'=>h'=h∧S 1= .cptr (Fm.mk op name args params exprs kids).cells∧ ∃ k:Nat,S 4= .sc (.int .i64 k)∧k≤exprs.length∧m=exprs.length-k∧S 3= .sc (.int .i64 (Ex.sizes 1 (exprs.take k)))) exprs.length ?_ ?_
 ·simp only[Ty.w,simprocAttr]
  exact⟨rfl,0,rfl,by omega,rfl,by simp[Ex.sizes]⟩
 ·rintro m S h' ⟨rfl,g1,k,g4,hkl,rfl,g3⟩
  simp only[Fm.cells]at g1
  by_cases hlt:k<exprs.length
  ·have hd:decide ((k:Int)<(exprs.length:Int))=true:=by simp;omega
   have w7:IntKind.i64.wrap ((k:Int)+1)=k+1:=by unfold bigN at he;rw[wrap64 (by omega) (by omega)]
   obtain⟨e,hx⟩: ∃ e,exprs[k]? =some e:=⟨_,List.getElem?_eq_getElem hlt⟩
   have hmem:=List.mem_of_getElem? hx
   have hc:=rsizeE_c e (hes e hmem)
   have hsz:=Ex.sizes_take 1 hx
   have hr:=Ex.rows_get hx
   obtain⟨op2,name2,n2,args2,kids2⟩:=e
   simp only[Ex.cells]at hr hc
   repeat'(first|refine a_seq fun K hK=>?_|(refine a_block ?_)|((first|refine a_regionS ?_|refine a_region (fun K hK=>?_));simp(maxSteps:=2000000) only[Ty.w,simprocAttr,g1,g3,g4,hlene,hd,hr,w7])|(refine a_skip ?_;try simp only[pst0,simprocAttr])|(refine a_cond _ (by(try simp(maxSteps:=2000000) only[Ty.w,simprocAttr,g1,g3,g4,hlene,hd,hr,w7]);rfl) (fun hb=>?_) (fun hb=>?_)<;>(try simp only[hb0,decide_eq_true_eq,decide_eq_false_iff_not,simprocAttr]at hb)<;>(try(exfalso;omega)))|(refine hK _ _ ?_;clear hK;try simp only[pst0,simprocAttr]))
   refine owp_useQ (hc _) (by(try simp only[Ty.w,simprocAttr,g1,g3,g4,hlene,hd,hr]);try rfl) ?_;simp(maxSteps:=2000000) only[Ty.w,simprocAttr,g1,g3,g4,hlene,hd,hr]
   repeat'(first|(refine a_regionS ?_;simp(maxSteps:=2000000) only[Ty.w,simprocAttr,g1,g3,g4,w7])|(refine hK _ _ ?_;clear hK;try simp only[pst0,simprocAttr]))
   exact⟨exprs.length-(k+1),by omega,by simp only[Fm.cells],k+1,by simp,by omega,rfl,by rw[hsz]⟩
  ·have hd:decide ((k:Int)<(exprs.length:Int))=false:=by simp;omega
   have hke:k=exprs.length:=by omega
   subst hke
   rw[List.take_length]at g3
   repeat'(first|refine a_seq fun K hK=>?_|(refine a_block ?_)|(refine a_regionS ?_;simp(maxSteps:=2000000) only[Ty.w,simprocAttr,g1,g3,g4,hlene,hd])|(refine a_exit ?_;try simp only[pst0,simprocAttr])|(refine a_cond _ (by(try simp(maxSteps:=2000000) only[Ty.w,simprocAttr,g1,g3,g4,hlene,hd]);rfl) (fun hb=>?_) (fun hb=>?_)<;>(try simp only[hb0,decide_eq_true_eq,decide_eq_false_iff_not,simprocAttr]at hb)<;>(try(exfalso;omega)))|((first|refine hK _ _ ?_|(clear hK;refine hK _ _ ?_));clear hK;try simp only[pst0,simprocAttr]))
   refine a_loop (fun m S h2=>h2=h'∧S 1= .cptr (Fm.mk op name args params exprs kids).cells∧ ∃ k:Nat,S 5= .sc (.int .i64 k)∧k≤kids.length∧m=kids.length-k∧S 3= .sc (.int .i64 (Fm.sizes (Ex.sizes 1 exprs) (kids.take k)))) kids.length ?_ ?_
   ·simp only[Ty.w,simprocAttr,g1,g3]
    exact⟨by simp only[Fm.cells],0,rfl,by omega,rfl,by simp[Fm.sizes]⟩
   ·clear g1 g3 g4
    rintro m S h' ⟨rfl,g1,k,g5,hkl,rfl,g3⟩
    simp only[Fm.cells]at g1
    by_cases hlt:k<kids.length
    ·have hd:decide ((k:Int)<(kids.length:Int))=true:=by simp;omega
     have w7:IntKind.i64.wrap ((k:Int)+1)=k+1:=by unfold bigN at hk;rw[wrap64 (by omega) (by omega)]
     obtain⟨e,hx⟩: ∃ e,kids[k]? =some e:=⟨_,List.getElem?_eq_getElem hlt⟩
     have hmem:=List.mem_of_getElem? hx
     have hc:=ih e hmem (hks e hmem)
     have hsz:=Fm.sizes_take (Ex.sizes 1 exprs) hx
     have hr:=Fm.rows_get hx
     obtain⟨op2,name2,args2,params2,exprs2,kids2⟩:=e
     simp only[Fm.cells]at hr hc
     repeat'(first|refine a_seq fun K hK=>?_|(refine a_block ?_)|((first|refine a_regionS ?_|refine a_region (fun K hK=>?_));simp(maxSteps:=2000000) only[Ty.w,simprocAttr,g1,g3,g5,hlen,hd,hr,w7])|(refine a_skip ?_;try simp only[pst0,simprocAttr])|(refine a_cond _ (by(try simp(maxSteps:=2000000) only[Ty.w,simprocAttr,g1,g3,g5,hlen,hd,hr,w7]);rfl) (fun hb=>?_) (fun hb=>?_)<;>(try simp only[hb0,decide_eq_true_eq,decide_eq_false_iff_not,simprocAttr]at hb)<;>(try(exfalso;omega)))|(refine hK _ _ ?_;clear hK;try simp only[pst0,simprocAttr]))
     refine owp_useQ (hc _) (by(try simp only[Ty.w,simprocAttr,g1,g3,g5,hlen,hd,hr]);try rfl) ?_;simp(maxSteps:=2000000) only[Ty.w,simprocAttr,g1,g3,g5,hlen,hd,hr]
     repeat'(first|(refine a_regionS ?_;simp(maxSteps:=2000000) only[Ty.w,simprocAttr,g1,g3,g5,w7])|(refine hK _ _ ?_;clear hK;try simp only[pst0,simprocAttr]))
     exact⟨kids.length-(k+1),by omega,by simp only[Fm.cells],k+1,by simp,by omega,rfl,by rw[hsz]⟩
    ·have hd:decide ((k:Int)<(kids.length:Int))=false:=by simp;omega
     have hke:k=kids.length:=by omega
     subst hke
     rw[List.take_length]at g3
     repeat'(first|refine a_seq fun K hK=>?_|((first|refine a_regionS ?_|refine a_ret ?_);simp(maxSteps:=2000000) only[Ty.w,simprocAttr,g1,g3,g5,hlen,hd])|(refine a_exit ?_;try simp only[pst0,simprocAttr])|(refine a_cond _ (by(try simp(maxSteps:=2000000) only[Ty.w,simprocAttr,g1,g3,g5,hlen,hd]);rfl) (fun hb=>?_) (fun hb=>?_)<;>(try simp only[hb0,decide_eq_true_eq,decide_eq_false_iff_not,simprocAttr]at hb)<;>(try(exfalso;omega)))|((first|refine hK _ _ ?_|(clear hK;refine hK _ _ ?_));clear hK;try simp only[pst0,simprocAttr]))
end Go.Proofs.YtjeolbgpllbemaaGreat
namespace Go.AM
def At.same(a b:At):Bool:=bEq a.name b.name&&bsEq a.args b.args
def atsEq:List At→List At→Bool
 |[],[]=>true
 |a::l,b::m=>a.same b&&atsEq l m
 |_,_=>false
def Vl.same(a b:Vl):Bool:=(a.n==b.n)&&a.at_.same b.at_
def vlsEq:List Vl→List Vl→Bool
 |[],[]=>true
 |a::l,b::m=>a.same b&&vlsEq l m
 |_,_=>false
def Pb.same(p q:Pb):Bool:=bEq p.name q.name&&bEq p.domain q.domain&&pmsEq p.objects q.objects&&atsEq p.init q.init&&vlsEq p.values q.values&&p.goal.same q.goal
theorem atsEq_len: ∀ {l m:List At},¬ l.length=m.length→atsEq l m=false
 |[],[],h=>by simp at h
 |[],_::_,_=>rfl
 |_::_,[],_=>rfl
 |a::l,b::m,h=>by simp only[atsEq,atsEq_len (l:=l) (m:=m) (by simpa using h),Bool.and_false]
theorem vlsEq_len: ∀ {l m:List Vl},¬ l.length=m.length→vlsEq l m=false
 |[],[],h=>by simp at h
 |[],_::_,_=>rfl
 |_::_,[],_=>rfl
 |a::l,b::m,h=>by simp only[vlsEq,vlsEq_len (l:=l) (m:=m) (by simpa using h),Bool.and_false]
def Vl.okS(v:Vl):Prop:=v.at_.ok
structure Pb.okS(p:Pb):Prop where
 objects:p.objects.length≤bigN
 init:p.init.length≤bigN∧ ∀ a∈p.init,a.ok
 values:p.values.length≤bigN∧ ∀ v∈p.values,v.okS
 goal:p.goal.ok
end Go.AM
namespace Go.Proofs.YtjeolbgpllbemaaGreat
open Go.AM
set_option maxHeartbeats 4000000
set_option maxRecDepth 20000
theorem psameAtom_c{a b:At}(ha:a.ok)(hb:b.ok)(h:Heap):PCall Tryz.prog 46 [.agg (atRow a),.agg (atRow b)] h fun r h'=>r= .sc (.bool (a.same b))∧h'=h:=by
 have hc:=fun h:Heap=>ftexts_c (h:=h) (l:=a.args) (m:=b.args) ha.2.1 hb.2.1
 unfold At.same bEq
 simp only[atRow]
 generalize bsEq a.args b.args=e at hc⊢
 cases e0:(a.name.data.toList==b.name.data.toList)with
 |false=>
  refine pcall_body (ow:=fun _=>false) (wf:=fun _=>false) Ty.mixed Tryz.func46 rfl Ty.hb_46 (by rw[Tryz.ntmps46];simp) ?_
  rw[Tryz.ntmps46,Tryz.results46]
  repeat'(first|refine a_seq fun K hK=>?_|((first|refine a_regionS ?_|refine a_ret ?_);simp(maxSteps:=2000000) only[Ty.w,simprocAttr,e0])|(refine hK _ _ ?_;clear hK;try simp only[pst0,simprocAttr]))
  all_goals simp only[Bool.false_and]
 |true=>
  refine pcall_body (ow:=fun _=>false) (wf:=fun _=>false) Ty.mixed Tryz.func46 rfl Ty.hb_46 (by rw[Tryz.ntmps46];simp) ?_
  rw[Tryz.ntmps46,Tryz.results46]
  repeat'(first|refine a_seq fun K hK=>?_|(refine a_regionS ?_;simp(maxSteps:=2000000) only[Ty.w,simprocAttr,e0])|(refine hK _ _ ?_;clear hK;try simp only[pst0,simprocAttr]))
  refine owp_useQ (hc _) (by(try simp only[Ty.w,simprocAttr,e0]);try rfl) ?_;simp(maxSteps:=2000000) only[Ty.w,simprocAttr,e0]
  repeat'(first|(refine a_ret ?_;simp(maxSteps:=2000000) only[Ty.w,simprocAttr,e0])|(refine hK _ _ ?_;clear hK;try simp only[pst0,simprocAttr]))
  all_goals simp only[Bool.true_and]
theorem psameValue_c{a b:Vl}(ha:a.okS)(hb:b.okS)(h:Heap):PCall Tryz.prog 48 [.agg (vlRow a),.agg (vlRow b)] h fun r h'=>r= .sc (.bool (a.same b))∧h'=h:=by
 have hc:=psameAtom_c ha hb
 unfold Vl.same
 simp only[vlRow]
 simp only[atRow]at hc
 generalize a.at_.same b.at_=e at hc⊢
 cases e0:(a.n==b.n)with
 |false=>
  refine pcall_body (ow:=fun _=>false) (wf:=fun _=>false) Ty.mixed Tryz.func48 rfl Ty.hb_48 (by rw[Tryz.ntmps48];simp) ?_
  rw[Tryz.ntmps48,Tryz.results48]
  repeat'(first|refine a_seq fun K hK=>?_|((first|refine a_regionS ?_|refine a_ret ?_);simp(maxSteps:=2000000) only[Ty.w,simprocAttr,e0])|(refine hK _ _ ?_;clear hK;try simp only[pst0,simprocAttr]))
  all_goals simp only[Bool.false_and]
 |true=>
  refine pcall_body (ow:=fun _=>false) (wf:=fun _=>false) Ty.mixed Tryz.func48 rfl Ty.hb_48 (by rw[Tryz.ntmps48];simp) ?_
  rw[Tryz.ntmps48,Tryz.results48]
  repeat'(first|refine a_seq fun K hK=>?_|(refine a_regionS ?_;simp(maxSteps:=2000000) only[Ty.w,simprocAttr,e0])|(refine hK _ _ ?_;clear hK;try simp only[pst0,simprocAttr]))
  refine owp_useQ (hc _) (by(try simp only[Ty.w,simprocAttr,e0]);try rfl) ?_;simp(maxSteps:=2000000) only[Ty.w,simprocAttr,e0]
  repeat'(first|(refine a_ret ?_;simp(maxSteps:=2000000) only[Ty.w,simprocAttr,e0])|(refine hK _ _ ?_;clear hK;try simp only[pst0,simprocAttr]))
  all_goals simp only[Bool.true_and]
theorem fEqA_c{g:FuncId}{l m:List At}(hl:l.length≤bigN)(hf: ∀ a∈l, ∀ b∈m, ∀ h:Heap,PCall Tryz.prog g [.agg (atRow a),.agg (atRow b)] h fun r h'=>r= .sc (.bool (At.same a b))∧h'=h)(h:Heap):
  PCall Tryz.prog 45 [.imm 2 (atRows l),.imm 2 (atRows m),.sc (.func (.func g) #[] #[])] h fun r h'=>r= .sc (.bool (atsEq l m))∧h'=h:=by
 unfold bigN at hl
 have hll:=atRows_len l
 have hlm:=atRows_len m
 refine PCall.quiet Ty.hb_45 ?_
 refine pcall_body (ow:=fun _=>false) (wf:=fun _=>false) Ty.mixed Tryz.func45 rfl Ty.hb_45 (by rw[Tryz.ntmps45];simp) ?_
 rw[Tryz.ntmps45,Tryz.results45]
 cases hne:((l.length:Int) !=m.length)with
 |true=>
  have:atsEq l m=false:=atsEq_len (by simp at hne;omega)
  repeat'(first|refine a_seq fun K hK=>?_|((first|refine a_regionS ?_|refine a_ret ?_);simp(maxSteps:=2000000) only[Ty.w,simprocAttr,hll,hlm,hne])|(refine hK _ _ ?_;clear hK;try simp only[pst0,simprocAttr]))
  rw[this]
  exact⟨rfl,Grow.refl _⟩
 |false=>
  have hlen:l.length=m.length:=by simp at hne;omega
  repeat'(first|refine a_seq fun K hK=>?_|(refine a_block ?_)|(refine a_regionS ?_;simp(maxSteps:=2000000) only[Ty.w,simprocAttr,hll,hlm,hne])|(refine a_skip ?_;try simp only[pst0,simprocAttr])|(refine a_cond _ (by(try simp(maxSteps:=2000000) only[Ty.w,simprocAttr,hll,hlm,hne]);rfl) (fun hb=>?_) (fun hb=>?_)<;>(try simp only[hb0,decide_eq_true_eq,decide_eq_false_iff_not,simprocAttr]at hb)<;>(try(exfalso;omega)))|(refine hK _ _ ?_;clear hK;try simp only[pst0,simprocAttr]))
  refine a_loop (fun c S h'=>Grow h h'∧S 1= .imm 2 (atRows m)∧S 2= .sc (.func (.func g) #[] #[])∧S 15= .imm 2 (atRows l)∧S 16= .sc (.int .i64 l.length)∧ ∃ k:Nat,S 17= .sc (.int .i64 k)∧k≤l.length∧c=l.length-k∧atsEq l m=atsEq (l.drop k) (m.drop k)) l.length ?_ ?_
  ·simp only[Ty.w,simprocAttr]
   exact⟨Grow.refl _,0,rfl,by omega,rfl,by simp⟩
  ·rintro c S h' ⟨hg,g1,g2,g15,g16,k,gk,hkl,rfl,hinv⟩
   by_cases hlt:k<l.length
   ·have hd:decide ((k:Int)<(l.length:Int))=true:=by simp;omega
    have w7:IntKind.i64.wrap ((k:Int)+1)=k+1:=by rw[wrap64 (by omega) (by omega)]
    obtain⟨a,hx⟩: ∃ a,l[k]? =some a:=⟨_,List.getElem?_eq_getElem hlt⟩
    obtain⟨b,hy⟩: ∃ b,m[k]? =some b:=⟨_,List.getElem?_eq_getElem (by omega)⟩
    have hc:=hf a (List.mem_of_getElem? hx) b (List.mem_of_getElem? hy)
    rw[drop_of_get hx,drop_of_get hy]at hinv
    simp only[atsEq]at hinv
    have hr:=atRows_get hx
    have hr2:=atRows_get hy
    generalize he:At.same a b=e at hc hinv
    clear he hf
    obtain⟨name2,args2⟩:=a
    obtain⟨name3,args3⟩:=b
    simp only[atRow]at hr hr2 hc
    repeat'(first|refine a_seq fun K hK=>?_|(refine a_regionS ?_;simp(maxSteps:=2000000) only[Ty.w,simprocAttr,g1,g2,g15,g16,gk,hll,hlm,hd,hr,hr2,w7,nsucc])|(refine a_skip ?_;try simp only[pst0,simprocAttr])|(refine a_cond _ (by(try simp(maxSteps:=2000000) only[Ty.w,simprocAttr,g1,g2,g15,g16,gk,hll,hlm,hd,hr,hr2,w7,nsucc]);rfl) (fun hb=>?_) (fun hb=>?_)<;>(try simp only[hb0,decide_eq_true_eq,decide_eq_false_iff_not,simprocAttr]at hb)<;>(try(exfalso;omega)))|(refine hK _ _ ?_;clear hK;try simp only[pst0,simprocAttr]))
    refine owp_useV (by simp only[Ty.w,simprocAttr,g2]) (hc _) (by simp only[Ty.w,simprocAttr,g1,g2,g15,g16,gk];try rfl) ?_
    simp(maxSteps:=2000000) only[Ty.w,simprocAttr,Ty.all]
    cases e with
    |false=>
     repeat'(first|refine a_seq fun K hK=>?_|((first|refine a_regionS ?_|refine a_ret ?_);simp(maxSteps:=2000000) only[Ty.w,simprocAttr,g1,g2,g15,g16,gk,w7,Bool.not_false])|(refine hK _ _ ?_;clear hK;try simp only[pst0,simprocAttr]))
     rw[hinv]
     exact⟨rfl,(((hg.new _).set hg.le _).new _).set (Nat.le_succ_of_le hg.le) _⟩
    |true=>
     repeat'(first|(refine a_block ?_)|(refine a_regionS ?_;simp(maxSteps:=2000000) only[Ty.w,simprocAttr,g1,g2,g15,g16,gk,w7,Bool.not_true])|(refine a_skip ?_;try simp only[pst0,simprocAttr])|(refine hK _ _ ?_;clear hK;try simp only[pst0,simprocAttr]))
     rw[Bool.true_and]at hinv
     exact⟨l.length-(k+1),by omega,(((hg.new _).set hg.le _).new _).set (Nat.le_succ_of_le hg.le) _,k+1,by simp,by omega,rfl,hinv⟩
   ·have hd:decide ((k:Int)<(l.length:Int))=false:=by simp;omega
    rw[List.drop_eq_nil_of_le (by omega),List.drop_eq_nil_of_le (by omega)]at hinv
    simp only[atsEq]at hinv
    repeat'(first|refine a_seq fun K hK=>?_|((first|refine a_regionS ?_|refine a_ret ?_);simp(maxSteps:=2000000) only[Ty.w,simprocAttr,g1,g2,g15,g16,gk,hll,hd])|(refine a_exit ?_;try simp only[pst0,simprocAttr])|(refine a_cond _ (by(try simp(maxSteps:=2000000) only[Ty.w,simprocAttr,g1,g2,g15,g16,gk,hll,hd]);rfl) (fun hb=>?_) (fun hb=>?_)<;>(try simp only[hb0,decide_eq_true_eq,decide_eq_false_iff_not,simprocAttr]at hb)<;>(try(exfalso;omega)))|((first|refine hK _ _ ?_|(clear hK;refine hK _ _ ?_));clear hK;try simp only[pst0,simprocAttr]))
    rw[hinv]
    exact⟨rfl,hg⟩
theorem fEqV_c{g:FuncId}{l m:List Vl}(hl:l.length≤bigN)(hf: ∀ a∈l, ∀ b∈m, ∀ h:Heap,PCall Tryz.prog g [.agg (vlRow a),.agg (vlRow b)] h fun r h'=>r= .sc (.bool (Vl.same a b))∧h'=h)(h:Heap):
  PCall Tryz.prog 47 [.imm 3 (vlRows l),.imm 3 (vlRows m),.sc (.func (.func g) #[] #[])] h fun r h'=>r= .sc (.bool (vlsEq l m))∧h'=h:=by
 unfold bigN at hl
 have hll:=vlRows_len l
 have hlm:=vlRows_len m
 refine PCall.quiet Ty.hb_47 ?_
 refine pcall_body (ow:=fun _=>false) (wf:=fun _=>false) Ty.mixed Tryz.func47 rfl Ty.hb_47 (by rw[Tryz.ntmps47];simp) ?_
 rw[Tryz.ntmps47,Tryz.results47]
 cases hne:((l.length:Int) !=m.length)with
 |true=>
  have:vlsEq l m=false:=vlsEq_len (by simp at hne;omega)
  repeat'(first|refine a_seq fun K hK=>?_|((first|refine a_regionS ?_|refine a_ret ?_);simp(maxSteps:=2000000) only[Ty.w,simprocAttr,hll,hlm,hne])|(refine hK _ _ ?_;clear hK;try simp only[pst0,simprocAttr]))
  rw[this]
  exact⟨rfl,Grow.refl _⟩
 |false=>
  have hlen:l.length=m.length:=by simp at hne;omega
  repeat'(first|refine a_seq fun K hK=>?_|(refine a_block ?_)|(refine a_regionS ?_;simp(maxSteps:=2000000) only[Ty.w,simprocAttr,hll,hlm,hne])|(refine a_skip ?_;try simp only[pst0,simprocAttr])|(refine a_cond _ (by(try simp(maxSteps:=2000000) only[Ty.w,simprocAttr,hll,hlm,hne]);rfl) (fun hb=>?_) (fun hb=>?_)<;>(try simp only[hb0,decide_eq_true_eq,decide_eq_false_iff_not,simprocAttr]at hb)<;>(try(exfalso;omega)))|(refine hK _ _ ?_;clear hK;try simp only[pst0,simprocAttr]))
  refine a_loop (fun c S h'=>Grow h h'∧S 1= .imm 3 (vlRows m)∧S 2= .sc (.func (.func g) #[] #[])∧S 15= .imm 3 (vlRows l)∧S 16= .sc (.int .i64 l.length)∧ ∃ k:Nat,S 17= .sc (.int .i64 k)∧k≤l.length∧c=l.length-k∧vlsEq l m=vlsEq (l.drop k) (m.drop k)) l.length ?_ ?_
  ·simp only[Ty.w,simprocAttr]
   exact⟨Grow.refl _,0,rfl,by omega,rfl,by simp⟩
  ·rintro c S h' ⟨hg,g1,g2,g15,g16,k,gk,hkl,rfl,hinv⟩
   by_cases hlt:k<l.length
   ·have hd:decide ((k:Int)<(l.length:Int))=true:=by simp;omega
    have w7:IntKind.i64.wrap ((k:Int)+1)=k+1:=by rw[wrap64 (by omega) (by omega)]
    obtain⟨a,hx⟩: ∃ a,l[k]? =some a:=⟨_,List.getElem?_eq_getElem hlt⟩
    obtain⟨b,hy⟩: ∃ b,m[k]? =some b:=⟨_,List.getElem?_eq_getElem (by omega)⟩
    have hc:=hf a (List.mem_of_getElem? hx) b (List.mem_of_getElem? hy)
    rw[drop_of_get hx,drop_of_get hy]at hinv
    simp only[vlsEq]at hinv
    have hr:=vlRows_get hx
    have hr2:=vlRows_get hy
    generalize he:Vl.same a b=e at hc hinv
    clear he hf
    obtain⟨⟨name2,args2⟩,n2⟩:=a
    obtain⟨⟨name3,args3⟩,n3⟩:=b
    simp only[vlRow]at hr hr2 hc
    repeat'(first|refine a_seq fun K hK=>?_|(refine a_regionS ?_;simp(maxSteps:=2000000) only[Ty.w,simprocAttr,g1,g2,g15,g16,gk,hll,hlm,hd,hr,hr2,w7,nsucc])|(refine a_skip ?_;try simp only[pst0,simprocAttr])|(refine a_cond _ (by(try simp(maxSteps:=2000000) only[Ty.w,simprocAttr,g1,g2,g15,g16,gk,hll,hlm,hd,hr,hr2,w7,nsucc]);rfl) (fun hb=>?_) (fun hb=>?_)<;>(try simp only[hb0,decide_eq_true_eq,decide_eq_false_iff_not,simprocAttr]at hb)<;>(try(exfalso;omega)))|(refine hK _ _ ?_;clear hK;try simp only[pst0,simprocAttr]))
    refine owp_useV (by simp only[Ty.w,simprocAttr,g2]) (hc _) (by simp only[Ty.w,simprocAttr,g1,g2,g15,g16,gk];try rfl) ?_
    simp(maxSteps:=2000000) only[Ty.w,simprocAttr,Ty.all]
    cases e with
    |false=>
     repeat'(first|refine a_seq fun K hK=>?_|((first|refine a_regionS ?_|refine a_ret ?_);simp(maxSteps:=2000000) only[Ty.w,simprocAttr,g1,g2,g15,g16,gk,w7,Bool.not_false])|(refine hK _ _ ?_;clear hK;try simp only[pst0,simprocAttr]))
     rw[hinv]
     exact⟨rfl,(((hg.new _).set hg.le _).new _).set (Nat.le_succ_of_le hg.le) _⟩
    |true=>
     repeat'(first|(refine a_block ?_)|(refine a_regionS ?_;simp(maxSteps:=2000000) only[Ty.w,simprocAttr,g1,g2,g15,g16,gk,w7,Bool.not_true])|(refine a_skip ?_;try simp only[pst0,simprocAttr])|(refine hK _ _ ?_;clear hK;try simp only[pst0,simprocAttr]))
     rw[Bool.true_and]at hinv
     exact⟨l.length-(k+1),by omega,(((hg.new _).set hg.le _).new _).set (Nat.le_succ_of_le hg.le) _,k+1,by simp,by omega,rfl,hinv⟩
   ·have hd:decide ((k:Int)<(l.length:Int))=false:=by simp;omega
    rw[List.drop_eq_nil_of_le (by omega),List.drop_eq_nil_of_le (by omega)]at hinv
    simp only[vlsEq]at hinv
    repeat'(first|refine a_seq fun K hK=>?_|((first|refine a_regionS ?_|refine a_ret ?_);simp(maxSteps:=2000000) only[Ty.w,simprocAttr,g1,g2,g15,g16,gk,hll,hd])|(refine a_exit ?_;try simp only[pst0,simprocAttr])|(refine a_cond _ (by(try simp(maxSteps:=2000000) only[Ty.w,simprocAttr,g1,g2,g15,g16,gk,hll,hd]);rfl) (fun hb=>?_) (fun hb=>?_)<;>(try simp only[hb0,decide_eq_true_eq,decide_eq_false_iff_not,simprocAttr]at hb)<;>(try(exfalso;omega)))|((first|refine hK _ _ ?_|(clear hK;refine hK _ _ ?_));clear hK;try simp only[pst0,simprocAttr]))
    rw[hinv]
    exact⟨rfl,hg⟩
theorem psame_c(a b:Pb)(ha:a.okS)(hb:b.okS)(h:Heap):PCall Tryz.prog 18 [.agg a.cells,.agg b.cells] h fun r h'=>r= .sc (.bool (a.same b))∧h'=h:=by
 obtain⟨ho,⟨hi,hia⟩,⟨hv,hva⟩,hg⟩:=ha
 obtain⟨ho3,⟨hi3,hia3⟩,⟨hv3,hva3⟩,hg3⟩:=hb
 obtain⟨name,domain,objects,init,values,goal⟩:=a
 obtain⟨name3,domain3,objects3,init3,values3,goal3⟩:=b
 simp only at ho hi hia hv hva hg ho3 hi3 hia3 hv3 hva3 hg3
 have hq:=fsame_c goal hg goal3 hg3
 have hfa: ∀ a∈init, ∀ b∈init3, ∀ h:Heap,PCall Tryz.prog 46 [.agg (atRow a),.agg (atRow b)] h fun r h'=>r= .sc (.bool (At.same a b))∧h'=h:=fun a ha b hb=>psameAtom_c (hia a ha) (hia3 b hb)
 have hfv: ∀ a∈values, ∀ b∈values3, ∀ h:Heap,PCall Tryz.prog 48 [.agg (vlRow a),.agg (vlRow b)] h fun r h'=>r= .sc (.bool (Vl.same a b))∧h'=h:=fun a ha b hb=>psameValue_c (hva a ha) (hva3 b hb)
 unfold Pb.same
 simp only
 generalize goal.same goal3=eg at hq⊢
 clear hg hg3
 obtain⟨gop,gname,gargs,gparams,gexprs,gkids⟩:=goal
 obtain⟨gop3,gname3,gargs3,gparams3,gexprs3,gkids3⟩:=goal3
 simp only[Pb.cells,Fm.cells,List.cons_append,List.nil_append]at hq⊢
 refine pcall_body (ow:=fun _=>false) (wf:=fun _=>false) Ty.mixed Tryz.func18 rfl Ty.hb_18 (by rw[Tryz.ntmps18];simp) ?_
 rw[Tryz.ntmps18,Tryz.results18]
 cases e0:(name.data.toList==name3.data.toList)with
 |false=>
  repeat'(first|refine a_seq fun K hK=>?_|((first|refine a_regionS ?_|refine a_ret ?_);simp(maxSteps:=2000000) only[Ty.w,simprocAttr,e0])|(refine hK _ _ ?_;clear hK;try simp only[pst0,simprocAttr]))
  all_goals simp only[bEq,e0,Bool.false_and,Bool.and_false]
 |true=>
  cases e1:(domain.data.toList==domain3.data.toList)with
  |false=>
   repeat'(first|refine a_seq fun K hK=>?_|((first|refine a_regionS ?_|refine a_ret ?_);simp(maxSteps:=2000000) only[Ty.w,simprocAttr,e0,e1])|(refine hK _ _ ?_;clear hK;try simp only[pst0,simprocAttr]))
   all_goals simp only[bEq,e0,e1,Bool.false_and,Bool.and_false]
  |true=>
   repeat'(first|refine a_seq fun K hK=>?_|(refine a_regionS ?_;simp(maxSteps:=2000000) only[Ty.w,simprocAttr,e0,e1])|(refine hK _ _ ?_;clear hK;try simp only[pst0,simprocAttr]))
   cases e2:pmsEq objects objects3 with
   |false=>
    refine owp_useQ (fparams_c (l:=objects) (m:=objects3) ho ho3) (by(try simp only[Ty.w,simprocAttr,e0,e1,e2]);try rfl) ?_;simp(maxSteps:=2000000) only[Ty.w,simprocAttr,e0,e1,e2]
    repeat'(first|(refine a_ret ?_;simp(maxSteps:=2000000) only[Ty.w,simprocAttr,e0,e1,e2])|(refine hK _ _ ?_;clear hK;try simp only[pst0,simprocAttr]))
    all_goals simp only[bEq,e0,e1,e2,Bool.false_and,Bool.and_false]
   |true=>
    refine owp_useQ (fparams_c (l:=objects) (m:=objects3) ho ho3) (by(try simp only[Ty.w,simprocAttr,e0,e1,e2]);try rfl) ?_;simp(maxSteps:=2000000) only[Ty.w,simprocAttr,e0,e1,e2]
    skip
    cases e3:atsEq init init3 with
    |false=>
     refine owp_useQ (fEqA_c hi hfa _) (by(try simp only[Ty.w,simprocAttr,e0,e1,e2,e3]);try rfl) ?_;simp(maxSteps:=2000000) only[Ty.w,simprocAttr,e0,e1,e2,e3]
     repeat'(first|(refine a_ret ?_;simp(maxSteps:=2000000) only[Ty.w,simprocAttr,e0,e1,e2,e3])|(refine hK _ _ ?_;clear hK;try simp only[pst0,simprocAttr]))
     all_goals simp only[bEq,e0,e1,e2,e3,Bool.false_and,Bool.and_false]
    |true=>
     refine owp_useQ (fEqA_c hi hfa _) (by(try simp only[Ty.w,simprocAttr,e0,e1,e2,e3]);try rfl) ?_;simp(maxSteps:=2000000) only[Ty.w,simprocAttr,e0,e1,e2,e3]
     skip
     cases e4:vlsEq values values3 with
     |false=>
      refine owp_useQ (fEqV_c hv hfv _) (by(try simp only[Ty.w,simprocAttr,e0,e1,e2,e3,e4]);try rfl) ?_;simp(maxSteps:=2000000) only[Ty.w,simprocAttr,e0,e1,e2,e3,e4]
      repeat'(first|(refine a_ret ?_;simp(maxSteps:=2000000) only[Ty.w,simprocAttr,e0,e1,e2,e3,e4])|(refine hK _ _ ?_;clear hK;try simp only[pst0,simprocAttr]))
      all_goals simp only[bEq,e0,e1,e2,e3,e4,Bool.false_and,Bool.and_false]
     |true=>
      refine owp_useQ (fEqV_c hv hfv _) (by(try simp only[Ty.w,simprocAttr,e0,e1,e2,e3,e4]);try rfl) ?_;simp(maxSteps:=2000000) only[Ty.w,simprocAttr,e0,e1,e2,e3,e4]
      skip
      refine owp_useQ (hq _) (by(try simp only[Ty.w,simprocAttr,e0,e1,e2,e3,e4]);try rfl) ?_;simp(maxSteps:=2000000) only[Ty.w,simprocAttr,e0,e1,e2,e3,e4]
      repeat'(first|(refine a_ret ?_;simp(maxSteps:=2000000) only[Ty.w,simprocAttr,e0,e1,e2,e3,e4])|(refine hK _ _ ?_;clear hK;try simp only[pst0,simprocAttr]))
      all_goals simp only[bEq,e0,e1,e2,e3,e4,Bool.true_and]
end Go.Proofs.YtjeolbgpllbemaaGreat
namespace Go.Proofs.YtjeolbgpllbemaaGreat
open Go.AM
set_option maxHeartbeats 1000000
set_option maxRecDepth 20000
def pbTs:List TypeId:=recTs++[31,59,23,61,24]
theorem partsAt:partsT Tryz.prog 59=[(0,9),(1,25)]:=by kernel_rfl
theorem partsVl:partsT Tryz.prog 61=[(0,59),(2,3)]:=by kernel_rfl
theorem partsPb:partsT Tryz.prog 31=[(0,9),(1,9),(2,22),(3,23),(4,24),(5,29)]:=by kernel_rfl
theorem coAt:Tryz.prog.cellsOf 59=2:=by kernel_rfl
theorem coVl:Tryz.prog.cellsOf 61=3:=by kernel_rfl
theorem coPb:Tryz.prog.cellsOf 31=11:=by kernel_rfl
theorem coAts:Tryz.prog.cellsOf 23=1:=by kernel_rfl
theorem coVls:Tryz.prog.cellsOf 24=1:=by kernel_rfl
theorem byAt:0<Tryz.prog.bytesOf 59:=by rw[show Tryz.prog.bytesOf 59=40 by kernel_rfl];omega
theorem byVl:0<Tryz.prog.bytesOf 61:=by rw[show Tryz.prog.bytesOf 61=48 by kernel_rfl];omega
theorem arg_at{c:Nat}{ps:List PV}(h:Arg Tryz.prog c 59 ps): ∃ a:At,a.ok∧ps=atRow a:=by
 cases c with
 |zero=>simp[Arg]at h
 |succ c=>
  obtain⟨h1,h2⟩:=Arg_struct Tryz.underlying59 h
  rw[coAt]at h1
  rw[partsAt]at h2
  match ps,h1,h2 with
  |[p0,p1],_,h2=>
   have a0:=h2 (0,9) (by simp)
   have a1:=h2 (1,25) (by simp)
   simp only[co9,co24,List.drop_zero,List.drop_succ_cons,List.take_succ_cons,List.take_zero]at a0 a1
   obtain⟨s,hs,e1⟩:=arg_str a0
   obtain⟨t,ht,e2⟩:=arg_strs a1
   simp at e1 e2
   exact⟨⟨s,t⟩,⟨hs,ht⟩,by simp[atRow,e1,e2]⟩
theorem arg_ats{c:Nat}{ps:List PV}(h:Arg Tryz.prog c 23 ps): ∃ l:List At,(l.length≤bigN∧ ∀ a∈l,a.ok)∧ps=[.imm 2 (atRows l)]:=by
 cases c with
 |zero=>simp[Arg]at h
 |succ c=>
  obtain⟨rows,rfl,h1,_,h2⟩:=Arg_slice Tryz.underlying23 h
  obtain⟨xs,rfl,h3⟩:=rows_map (Q:=At.ok) (f:=atRow) rows (fun r hr=>arg_at (h2 r hr).2)
  refine⟨xs,⟨len_le (by simpa using h1) byAt,h3⟩,?_⟩
  rw[coAt];try rfl
end Go.Proofs.YtjeolbgpllbemaaGreat
