/- What the claim rests on, part 6: the abstract machine, contracts of the functions, plain data. -/
import Derived.OpenShut
import Derived.ChangeShapes
import Derived.SizedLaws
import Derived.Test.YtjlkapgpjamnkaaRows
import Derived.Test.YtjlkapgpjamnkaaZm5
set_option linter.unusedVariables false
set_option linter.unusedSimpArgs false
set_option linter.unusedSectionVars false
namespace Go.AM
def toE(m:List (ByteArray × ByteArray)):List (Value × PV):=m.map fun p=>(.string p.1,sPV p.2)
def lookE:List (ByteArray × ByteArray)→ByteArray→Option ByteArray
 |[],_=>none
 |(k,v)::m,s=>if(s==k)=true then some v else lookE m s
theorem mfind_E(s:ByteArray): ∀ m:List (ByteArray × ByteArray),mfind (.string s) (toE m)=some ((lookE m s).map sPV)
 |[]=>rfl
 |(k,v)::m=>by
  have ih:=mfind_E s m
  simp only[toE,List.map_cons,mfind,keyEq,lookE]at ih⊢
  cases h:s==k with
  |true=>rfl
  |false=>simpa using ih
def MapAt(h:Heap)(T:PV)(to:ByteArray→Option ByteArray):Prop:=(∃ m,mview h T=some (toE m)∧ ∀ s,to s=lookE m s)∧ ∀ id,T= .mp id→id<h.next
theorem MapAt.grow{h h':Heap}{T:PV}{to:ByteArray→Option ByteArray}(hm:MapAt h T to)(g:Grow h h'):MapAt h' T to:=by
 obtain⟨⟨m,h1,h2⟩,h3⟩:=hm
 refine⟨⟨m,?_,h2⟩,fun id e=>Nat.lt_of_lt_of_le (h3 id e) g.le⟩
 cases T with
 |mp id=>simp only[mview]at h1⊢;rw[g.old id (h3 id rfl)];exact h1
 |sc v=>cases v<;>first|exact h1|(rename_i r;cases r<;>exact h1)
 |_=>exact h1
theorem MapAt.nil(h:Heap):MapAt h (.sc (.map none)) fun _=>none:=⟨⟨[],rfl,fun _=>rfl⟩,fun id e=>by simp at e⟩
theorem pcall_weakA{P:Program}{f:FuncId}{xs ys:List PV}{h:Heap}{K:PV→Heap→Prop}(hab: ∀ (β:Env)(n:Nat)(F:Nat→Prop)(w:World)(vals:List Value),RepL β n F w xs vals→RepL β n F w ys vals)(hc:PCall P f ys h K):PCall P f xs h K:=
 fun β w vals sm hr=>hc β w vals sm (hab _ _ _ _ _ hr)
theorem repl_nil_imm{β:Env}{n:Nat}{F:Nat→Prop}{w:World}{z:Nat}: ∀ {pre post:List PV}{vals:List Value},RepL β n F w (pre++ .sc (.slice none 0 0)::post) vals→RepL β n F w (pre++ .imm z []::post) vals
 |[],post,[],h=>by simp[RepL]at h
 |[],post,v::vals,h=>by
  simp only[List.nil_append,RepL,Rep]at h⊢
  exact⟨⟨none,0,h.1,Nat.le_refl _,Nat.zero_le _,.inl trivial⟩,h.2⟩
 |p::pre,post,[],h=>by simp[RepL]at h
 |p::pre,post,v::vals,h=>by
  simp only[List.cons_append,RepL]at h⊢
  exact⟨h.1,repl_nil_imm h.2⟩
theorem PCall.nil_imm{P:Program}{f:FuncId}{z:Nat}{pre post:List PV}{h:Heap}{K:PV→Heap→Prop}(hc:PCall P f (pre++ .imm z []::post) h K):PCall P f (pre++ .sc (.slice none 0 0)::post) h K:=
 pcall_weakA (fun _ _ _ _ _ hr=>repl_nil_imm hr) hc
end Go.AM
namespace Go.Proofs.Ytjlkapgpjamnkaa
open Go.AM
set_option maxHeartbeats 4000000
set_option maxRecDepth 20000
theorem memB_any(l:List ByteArray)(s:ByteArray):(l.any fun w=>bEq s w)=memB l s:=by
 unfold memB
 congr 1
 funext w
 exact BEq.comm
theorem strRows_set(l:List ByteArray)(k:Nat)(s:ByteArray):(strRows l).set k [sPV s]=strRows (l.set k s):=by simp[strRows,List.map_set]
theorem mix_get{g:ByteArray→ByteArray}{l:List ByteArray}{k:Nat}{s:ByteArray}(h:l[k]? =some s):((l.take k).map g++l.drop k)[k]? =some s∧((l.take k).map g++l.drop k).set k (g s)=(l.take (k+1)).map g++l.drop (k+1):=by
 have hk:k<l.length:=(List.getElem?_eq_some_iff.1 h).1
 have h1:((l.take k).map g).length=k:=by simp;omega
 have h2:l.drop k=s::l.drop (k+1):=by
  obtain⟨_,h4⟩:=List.getElem?_eq_some_iff.1 h
  rw[List.drop_eq_getElem_cons hk,h4]
 constructor
 ·rw [List.getElem?_append_right (by omega),h1,h2];simp
 ·rw [List.set_append_right _ _ (by omega),h1,h2,List.take_add_one,h];simp
theorem set_same{α:Type}{l:List α}{k:Nat}{a:α}(h:l[k]? =some a):l.set k a=l:=by
 apply List.ext_getElem?
 intro i
 rw[List.getElem?_set]
 split
 ·rename_i e
  subst e
  have:=(List.getElem?_eq_some_iff.1 h).1
  rw[if_pos this,h]
 ·rfl
theorem mix_id{g:ByteArray→ByteArray}{l:List ByteArray}{k:Nat}{s:ByteArray}(h:l[k]? =some s)(hg:g s=s):(l.take k).map g++l.drop k=(l.take (k+1)).map g++l.drop (k+1):=by
 have h1:=(mix_get (g:=g) h).2
 have h2:=(mix_get (g:=g) h).1
 rw[hg]at h1
 rw[← h1]
 exact(set_same h2).symm
theorem replaced_c{l bound:List ByteArray}{T:PV}{to:ByteArray→Option ByteArray}(hl:l.length≤1048576)(hb:bound.length≤bigN){h:Heap}(hT:MapAt h T to):
  PCall Try.prog 126 [.imm 1 (strRows l),T,.imm 1 (strRows bound)] h fun r h'=>r= .imm 1 (strRows (l.map (replS to bound)))∧h'=h:=by
 refine PCall.frz Ty.hb_126 ?_
 have hb':bound.length≤9223372036854775807:=by unfold bigN at hb;omega
 refine pcall_body (ow:=fun _=>false) (wf:=fun _=>false) Ty.mixed Try.func126 rfl Ty.hb_126 (by rw[Try.ntmps126];simp) ?_
 rw[Try.ntmps126,Try.results126]
 repeat'(first|refine a_seq fun K hK=>?_|(refine a_regionS ?_;simp(maxSteps:=2000000) only[Ty.w,simprocAttr])|(refine hK _ _ ?_;clear hK;try simp only[pst0,simprocAttr]))
 refine owp_useL (cloneS_c (l:=l) (by omega) _) (by(try simp only[Ty.w,simprocAttr]);try rfl) ?_
 rintro r h1 ⟨hg1,tl1⟩
 simp(maxSteps:=2000000) only[Ty.w,simprocAttr,Ty.all]
 have hsl:=tl1.sl
 have hlo:=hsl.len
 have hlk:=hsl.lk
 rw[strRows_len]at hlo
 have hpc:r.cells=[r]∧oneC r=true:=by
  rcases tl1 with⟨_,rfl|rfl⟩|⟨_,_,_,rfl,_⟩<;>exact⟨rfl,rfl⟩
 repeat'(first|refine a_seq fun K hK=>?_|(refine a_block ?_)|(refine a_regionS ?_;simp(maxSteps:=2000000) only[Ty.w,simprocAttr,hlo,hlk])|(refine hK _ _ ?_;clear hK;try simp only[pst0,simprocAttr]))
 refine a_loop (fun m S h'=>S 1=T∧S 2= .imm 1 (strRows bound)∧S 7=r∧S 14=r∧S 15= .sc (.int .i64 l.length)∧ ∃ k:Nat,S 16= .sc (.int .i64 k)∧k≤l.length∧m=l.length-k∧Grow h h'∧Tl h' h.next 1 r (strRows ((l.take k).map (replS to bound)++l.drop k))) l.length ?_ ?_
 ·simp only[Ty.w,simprocAttr]
  exact⟨0,rfl,by omega,rfl,hg1,by simpa using tl1⟩
 ·clear hg1 tl1 hsl hlo hlk
  rintro m S h' ⟨g1,g2,g7,g14,g15,k,g16,hk,rfl,hg,tl⟩
  by_cases hlt:k<l.length
  ·have hd:decide ((k:Int)<(l.length:Int))=true:=by simp;omega
   have w7:IntKind.i64.wrap ((k:Int)+1)=k+1:=by rw[wrap64 (by omega) (by omega)]
   obtain⟨s,hx⟩: ∃ s,l[k]? =some s:=⟨_,List.getElem?_eq_getElem hlt⟩
   obtain⟨m1,m2⟩:=mix_get (g:=replS to bound) hx
   have m3:=mix_id (g:=replS to bound) hx
   have hlen:((l.take k).map (replS to bound)++l.drop k).length=l.length:=by simp;omega
   have hlen2:((l.take (k+1)).map (replS to bound)++l.drop (k+1)).length=l.length:=by simp;omega
   obtain⟨⟨mm,hv,hto⟩,_⟩:=hT.grow hg
   have hmf:=mfind_E s mm
   rw[← hto]at hmf
   have hr:=strRows_get m1
   have hc:=fun h:Heap=>contains_c (h:=h) (l:=bound) (s:=s) hb'
   have hrep:replS to bound s=(match to s with|some t=>if memB bound s=true then s else t|none=>s):=rfl
   rw[memB_any]at hc
   obtain⟨id,i1,i2,rfl,i4⟩: ∃ id,h.next≤id∧id<h'.next∧r= .own id 0 l.length∧h'.obj id=some (.arr 1 (strRows ((l.take k).map (replS to bound)++l.drop k))):=by
    rcases tl with⟨hn,_⟩|⟨id,i1,i2,i3,i4⟩
    ·have:=congrArg List.length hn
     rw[strRows_len,hlen]at this
     simp only[List.length_nil]at this;omega
    ·rw [strRows_len,hlen]at i3;exact⟨id,i1,i2,i3,i4⟩
   clear tl
   have keep: ∀ (hq:replS to bound s=s),Tl h' h.next 1 (.own id 0 l.length) (strRows ((l.take (k+1)).map (replS to bound)++l.drop (k+1))):=fun hq=>by
    rw[m3 hq]at i4
    exact .inr ⟨id,i1,i2,by rw[strRows_len,hlen2],i4⟩
   have put: ∀ t,replS to bound s=t→Tl (h'.set id (.arr 1 ((strRows ((l.take k).map (replS to bound)++l.drop k)).set k [sPV t]))) h.next 1 (.own id 0 l.length) (strRows ((l.take (k+1)).map (replS to bound)++l.drop (k+1))):=fun t ht=>by
    rw[strRows_set, ← ht,m2]
    exact .inr ⟨id,i1,i2,by rw[strRows_len,hlen2],by simp[Heap.set]⟩
   cases q:to s with
   |none=>
    rw[q]at hmf hrep
    simp only[Option.map_none]at hmf
    have fin2:=keep hrep
    generalize strRows ((l.take k).map (replS to bound)++l.drop k)=R at i4 hr
    repeat'(first|refine a_seq fun K hK=>?_|(refine a_block ?_)|(refine a_regionS ?_;simp(maxSteps:=2000000) only[Ty.w,simprocAttr,g1,g2,g7,g14,g15,g16,hd,i4,hr,hlt,hv,hmf,w7])|(refine a_skip ?_;try simp only[pst0,simprocAttr])|(refine a_cond _ (by(try simp(maxSteps:=2000000) only[Ty.w,simprocAttr,g1,g2,g7,g14,g15,g16,hd,i4,hr,hlt,hv,hmf,w7]);rfl) (fun hb=>?_) (fun hb=>?_)<;>(try simp only[hb0,decide_eq_true_eq,decide_eq_false_iff_not,simprocAttr]at hb)<;>(try(exfalso;omega)))|(refine hK _ _ ?_;clear hK;try simp only[pst0,simprocAttr]))
    exact⟨l.length-(k+1),by omega,k+1,by simp,by omega,rfl,hg,fin2⟩
   |some t=>
    rw[q]at hmf hrep
    simp only[Option.map_some]at hmf
    cases q2:memB bound s with
    |true=>
     rw[q2]at hrep hc
     simp only[if_true]at hrep
     have fin2:=keep hrep
     generalize strRows ((l.take k).map (replS to bound)++l.drop k)=R at i4 hr
     repeat'(first|refine a_seq fun K hK=>?_|(refine a_regionS ?_;simp(maxSteps:=2000000) only[Ty.w,simprocAttr,g1,g2,g7,g14,g15,g16,hd,i4,hr,hlt,hv,hmf])|(refine a_skip ?_;try simp only[pst0,simprocAttr])|(refine a_cond _ (by(try simp(maxSteps:=2000000) only[Ty.w,simprocAttr,g1,g2,g7,g14,g15,g16,hd,i4,hr,hlt,hv,hmf]);rfl) (fun hb=>?_) (fun hb=>?_)<;>(try simp only[hb0,decide_eq_true_eq,decide_eq_false_iff_not,simprocAttr]at hb)<;>(try(exfalso;omega)))|(refine hK _ _ ?_;clear hK;try simp only[pst0,simprocAttr]))
     refine owp_useQ (hc _) (by(try simp only[Ty.w,simprocAttr,g1,g2,g7,g14,g15,g16,Bool.not_true]);try rfl) ?_;simp(maxSteps:=2000000) only[Ty.w,simprocAttr,g1,g2,g7,g14,g15,g16,Bool.not_true]
     repeat'(first|(refine a_block ?_)|(refine a_regionS ?_;simp(maxSteps:=2000000) only[Ty.w,simprocAttr,g1,g2,g7,g14,g15,g16,w7,Bool.not_true])|(refine a_skip ?_;try simp only[pst0,simprocAttr])|(refine hK _ _ ?_;clear hK;try simp only[pst0,simprocAttr]))
     exact⟨l.length-(k+1),by omega,k+1,by simp,by omega,rfl,hg,fin2⟩
    |false=>
     rw[q2]at hrep hc
     simp only[Bool.false_eq_true,if_false]at hrep
     have fin2:=put t hrep
     generalize strRows ((l.take k).map (replS to bound)++l.drop k)=R at i4 hr fin2
     repeat'(first|refine a_seq fun K hK=>?_|(refine a_regionS ?_;simp(maxSteps:=2000000) only[Ty.w,simprocAttr,g1,g2,g7,g14,g15,g16,hd,i4,hr,hlt,hv,hmf])|(refine a_skip ?_;try simp only[pst0,simprocAttr])|(refine a_cond _ (by(try simp(maxSteps:=2000000) only[Ty.w,simprocAttr,g1,g2,g7,g14,g15,g16,hd,i4,hr,hlt,hv,hmf]);rfl) (fun hb=>?_) (fun hb=>?_)<;>(try simp only[hb0,decide_eq_true_eq,decide_eq_false_iff_not,simprocAttr]at hb)<;>(try(exfalso;omega)))|(refine hK _ _ ?_;clear hK;try simp only[pst0,simprocAttr]))
     refine owp_useQ (hc _) (by(try simp only[Ty.w,simprocAttr,g1,g2,g7,g14,g15,g16,Bool.not_false]);try rfl) ?_;simp(maxSteps:=2000000) only[Ty.w,simprocAttr,g1,g2,g7,g14,g15,g16,Bool.not_false]
     repeat'(first|(refine a_block ?_)|((first|refine a_regionS ?_|refine a_region (fun K hK=>?_));simp(maxSteps:=2000000) only[Ty.w,simprocAttr,g1,g2,g7,g14,g15,g16,w7,i4,hr,hlt,putC,Bool.not_false])|(refine hK _ _ ?_;clear hK;try simp only[pst0,simprocAttr]))
     exact⟨l.length-(k+1),by omega,k+1,by simp,by omega,rfl,hg.set i1 _,fin2⟩
  ·have hd:decide ((k:Int)<(l.length:Int))=false:=by simp;omega
   have hke:k=l.length:=by omega
   subst hke
   rw[List.take_length,List.drop_length,List.append_nil]at tl
   repeat'(first|refine a_seq fun K hK=>?_|((first|refine a_regionS ?_|refine a_ret ?_);simp(maxSteps:=2000000) only[Ty.w,simprocAttr,g1,g2,g7,g14,g15,g16,hd])|(refine a_exit ?_;try simp only[pst0,simprocAttr])|(refine a_cond _ (by(try simp(maxSteps:=2000000) only[Ty.w,simprocAttr,g1,g2,g7,g14,g15,g16,hd]);rfl) (fun hb=>?_) (fun hb=>?_)<;>(try simp only[hb0,decide_eq_true_eq,decide_eq_false_iff_not,simprocAttr]at hb)<;>(try(exfalso;omega)))|((first|refine hK _ _ ?_|(clear hK;refine hK _ _ ?_));clear hK;try simp only[pst0,simprocAttr]))
   exact⟨tl_frzS tl,hg⟩
theorem inner_g{a b:ByteArray}{c e f:PV}{params:List Pm}{bound:List ByteArray}(hc:c.cells=[c]∧oneC c=true)(he:e.cells=[e]∧oneC e=true)(hf:f.cells=[f]∧oneC f=true)(hb:bound.length+params.length≤1099511627776)(h:Heap):
  PCall Try.prog 129 [.agg [sPV a,sPV b,c,.imm 2 (pmRows params),e,f],.imm 1 (strRows bound)] h fun r h'=>r= .imm 1 (strRows (bound++params.map Pm.name))∧h'=h:=by
 refine PCall.frz Ty.hb_129 ?_
 have hlP:=pmRows_len params
 refine pcall_body (ow:=fun _=>false) (wf:=fun _=>false) Ty.mixed Try.func129 rfl Ty.hb_129 (by rw[Try.ntmps129];simp) ?_
 rw[Try.ntmps129,Try.results129]
 obtain⟨hc1,hc2⟩:=hc
 obtain⟨he1,he2⟩:=he
 obtain⟨hf1,hf2⟩:=hf
 repeat'(first|refine a_seq fun K hK=>?_|(refine a_regionS ?_;simp(maxSteps:=2000000) only[Ty.w,simprocAttr,hc1,hc2,he1,he2,hf1,hf2])|(refine hK _ _ ?_;clear hK;try simp only[pst0,simprocAttr]))
 refine owp_useL (cloneS_c (l:=bound) (by omega) _) (by(try simp only[Ty.w,simprocAttr]);try rfl) ?_
 rintro r h1 ⟨hg1,tl1⟩
 simp(maxSteps:=2000000) only[Ty.w,simprocAttr,Ty.all]
 repeat'(first|refine a_seq fun K hK=>?_|(refine a_block ?_)|(refine a_regionS ?_;simp(maxSteps:=2000000) only[Ty.w,simprocAttr,hlP])|(refine hK _ _ ?_;clear hK;try simp only[pst0,simprocAttr]))
 refine a_loop (fun m S h'=>S 11= .imm 2 (pmRows params)∧S 12= .sc (.int .i64 params.length)∧ ∃ (k:Nat)(o:PV),S 13= .sc (.int .i64 k)∧S 5=o∧k≤params.length∧m=params.length-k∧Grow h h'∧Tl h' h.next 1 o (strRows (bound++(params.take k).map Pm.name))) params.length ?_ ?_
 ·simp only[Ty.w,simprocAttr]
  exact⟨0,r,rfl,rfl,by omega,rfl,hg1,by simpa using tl1⟩
 ·clear hg1 tl1
  rintro m S h' ⟨g11,g12,k,o,g13,g5,hk,rfl,hg,tl⟩
  by_cases hlt:k<params.length
  ·have hd:decide ((k:Int)<(params.length:Int))=true:=by simp;omega
   have w7:IntKind.i64.wrap ((k:Int)+1)=k+1:=by rw[wrap64 (by omega) (by omega)]
   obtain⟨p,hx⟩: ∃ p,params[k]? =some p:=⟨_,List.getElem?_eq_getElem hlt⟩
   have hr:=pmRows_get hx
   have hR:strRows (bound++(params.take (k+1)).map Pm.name)=strRows (bound++(params.take k).map Pm.name)++[[sPV p.name]]:=by
    rw[List.take_add_one,hx];simp[strRows]
   have hlen:(strRows (bound++(params.take k).map Pm.name)).length=bound.length+k:=by rw[strRows_len];simp;omega
   have tl2:=tl.up (h':=(h'.new (.arr 2 [[.sc (.string ⟨#[]⟩),.sc (.string ⟨#[]⟩)]])).set h'.next (.arr 2 [[sPV p.name,sPV p.type]])) (by simp[Heap.new,Heap.set]) (fun j _ hj=>by simp only[Heap.new,Heap.set];rw[if_neg (by omega),if_neg (by omega)])
   have hg2:Grow h ((h'.new (.arr 2 [[.sc (.string ⟨#[]⟩),.sc (.string ⟨#[]⟩)]])).set h'.next (.arr 2 [[sPV p.name,sPV p.type]])):=(hg.new _).set hg.le _
   generalize strRows (bound++(params.take k).map Pm.name)=R at tl tl2 hR hlen
   obtain⟨H,t1,t2,t3,t4,t5⟩:=tl2.tail
   have hbb:(bound.length+k+1)*16≤140737488355328:=by omega
   repeat'(first|refine a_seq fun K hK=>?_|((first|refine a_regionS ?_|refine a_region (fun K hK=>?_));simp(maxSteps:=2000000) only[Ty.w,simprocAttr,g11,g12,g13,g5,hd,hr,hlP])|(refine a_skip ?_;try simp only[pst0,simprocAttr])|(refine a_cond _ (by(try simp(maxSteps:=2000000) only[Ty.w,simprocAttr,g11,g12,g13,g5,hd,hr,hlP]);rfl) (fun hb=>?_) (fun hb=>?_)<;>(try simp only[hb0,decide_eq_true_eq,decide_eq_false_iff_not,simprocAttr]at hb)<;>(try(exfalso;omega)))|(refine hK _ _ ?_;clear hK;try simp only[pst0,simprocAttr]))
   repeat'(first|(refine a_regionS ?_;simp(maxSteps:=2000000) only[Ty.w,simprocAttr,g11,g12,g13,g5,w7,t1,t2,hlen,hbb,nsucc])|(refine hK _ _ ?_;clear hK;try simp only[pst0,simprocAttr])|(rw[if_pos];rotate_left 1;omega;simp(maxSteps:=2000000) only[Ty.w,simprocAttr,g11,g12,g13,g5,w7,t1,t2,hlen,hbb,nsucc]))
   have hkp:=t5 h ⟨hg2.le,hg2.old⟩ (Nat.le_refl _)
   have hgH:Grow h H:=⟨hkp.1,hkp.2⟩
   have t3':H.next=h'.next+1:=by rw[t3];simp[Heap.new,Heap.set]
   rw[← hR]
   exact⟨params.length-(k+1),by omega,k+1,.own H.next 0 (bound.length+k+1),by simp,by first|rfl|rw[t3'],by omega,rfl,hgH.new _,Tl.grow hkp.1 (by rw[strRows_len];simp;omega)⟩
  ·have hd:decide ((k:Int)<(params.length:Int))=false:=by simp;omega
   have hke:k=params.length:=by omega
   subst hke
   rw[List.take_length]at tl
   repeat'(first|refine a_seq fun K hK=>?_|((first|refine a_regionS ?_|refine a_ret ?_);simp(maxSteps:=2000000) only[Ty.w,simprocAttr,g11,g12,g13,g5,hd])|(refine a_exit ?_;try simp only[pst0,simprocAttr])|(refine a_cond _ (by(try simp(maxSteps:=2000000) only[Ty.w,simprocAttr,g11,g12,g13,g5,hd]);rfl) (fun hb=>?_) (fun hb=>?_)<;>(try simp only[hb0,decide_eq_true_eq,decide_eq_false_iff_not,simprocAttr]at hb)<;>(try(exfalso;omega)))|((first|refine hK _ _ ?_|(clear hK;refine hK _ _ ?_));clear hK;try simp only[pst0,simprocAttr]))
   exact⟨tl_frzS tl,hg⟩
end Go.Proofs.Ytjlkapgpjamnkaa
namespace Go.Proofs.Ytjlkapgpjamnkaa
open Go.AM
set_option maxHeartbeats 4000000
set_option maxRecDepth 20000
def exprs2:List Sx→List Ex × Int
 |[a,b]=>(match exprP a with
  | (ea, ca) => bif ca == 0 then (match exprP b with
   |(eb,cb)=>bif cb==0 then([ea,eb],0)else([],cb))else([],ca))
 |_=>([],2)
theorem frz_agg{n:Nat}{H:Heap}{a b:List PV}(h:FrzL n H a b):FrzTo n H (.agg a) (.agg b):=by
 unfold FrzTo
 exact⟨_,rfl,h⟩
theorem frz_nilslice{n z:Nat}{H:Heap}:FrzTo n H (.imm z []) (.sc (.slice none 0 0)):=by
 unfold FrzTo;exact .inr (.inl ⟨rfl,.inr rfl⟩)
end Go.Proofs.Ytjlkapgpjamnkaa
namespace Go.Proofs.Ytjlkapgpjamnkaa
open Go.AM
set_option maxHeartbeats 4000000
set_option maxRecDepth 20000
theorem mixG_get{α:Type}{g:α→α}{l:List α}{k:Nat}{s:α}(h:l[k]? =some s):((l.take k).map g++l.drop k)[k]? =some s∧((l.take k).map g++l.drop k).set k (g s)=(l.take (k+1)).map g++l.drop (k+1):=by
 have hk:k<l.length:=(List.getElem?_eq_some_iff.1 h).1
 have h1:((l.take k).map g).length=k:=by simp;omega
 have h2:l.drop k=s::l.drop (k+1):=by
  obtain⟨_,h4⟩:=List.getElem?_eq_some_iff.1 h
  rw[List.drop_eq_getElem_cons hk,h4]
 constructor
 ·rw [List.getElem?_append_right (by omega),h1,h2];simp
 ·rw [List.set_append_right _ _ (by omega),h1,h2,List.take_add_one,h];simp
theorem exRows_set(l:List Ex)(k:Nat)(e:Ex):(Ex.rows l).set k e.cells=Ex.rows (l.set k e):=by simp[Ex.rows_map,List.map_set]
theorem shapedE_len{op name:ByteArray}{v:Int}{args:List ByteArray}{kids:List Ex}(h:shapedE (.mk op name v args kids)=true):kids.length≤2:=by
 unfold shapedE at h
 split at h
 ·simp only[Bool.and_eq_true,List.isEmpty_iff]at h
  rw[h.1.2];simp
 ·split at h
  ·simp only[Bool.and_eq_true,List.isEmpty_iff]at h
   rw[h.1.1.2];simp
  ·split at h
   ·simp only[Bool.and_eq_true]at h
    obtain⟨_,h⟩:=h
    split at h
    ·simp
    ·simp at h
   ·simp at h
theorem bindE_c: ∀ e:Ex,e.small→shapedE e=true→ ∀ {bound:List ByteArray}{T:PV}{to:ByteArray→Option ByteArray},bound.length≤bigN→ ∀ {h:Heap},MapAt h T to→
  PCall Try.prog 83 [.agg e.cells,T,.imm 1 (strRows bound)] h fun r h'=>r= .agg (bindEx to bound e).cells∧h'=h:=by
 refine Ex.ind ?_
 intro op name v args kids ih hsm hsh bound T to hb h hT
 simp only[Ex.small]at hsm
 obtain⟨hal,hks⟩:=hsm
 rw[Ex.smalls_iff]at hks
 have hkl:=shapedE_len hsh
 have hke:=shapedE_kid hsh
 have hlK:=Ex.rows_len kids
 refine PCall.frz Ty.hb_83 ?_
 have hrp:=fun{H:Heap}(hg:Grow h H)=>replaced_c (l:=args) (bound:=bound) hal hb (hT.grow hg)
 have hB:bindEx to bound (.mk op name v args kids)= .mk op name v (args.map (replS to bound)) (kids.map (bindEx to bound)):=by simp only[bindEx,bindExs_map]
 rw[hB]
 clear hB
 generalize args.map (replS to bound)=args2 at hrp
 simp only[Ex.cells]
 refine pcall_body (ow:=fun t=>t==3) (wf:=fun _=>false) Ty.mixed Try.func83 rfl Ty.hb_83 (by rw[Try.ntmps83];simp) ?_
 rw[Try.ntmps83,Try.results83]
 repeat'(first|refine a_seq fun K hK=>?_|(refine a_regionS ?_;simp(maxSteps:=2000000) only[Ty.w,simprocAttr,nsucc])|(refine hK _ _ ?_;clear hK;try simp only[pst0,simprocAttr]))
 refine owp_useQ (hrp (((Grow.refl h).new _).new _)) (by(try simp only[Ty.w,simprocAttr,nsucc]);try rfl) ?_;simp(maxSteps:=2000000) only[Ty.w,simprocAttr,nsucc]
 repeat'(first|refine a_seq fun K hK=>?_|(refine a_regionS ?_;simp(maxSteps:=2000000) only[Ty.w,simprocAttr,nsucc])|(refine hK _ _ ?_;clear hK;try simp only[pst0,simprocAttr]))
 refine owp_useL (cloneE_c (l:=kids) (by omega) _) (by(try simp only[Ty.w,simprocAttr,nsucc]);try rfl) ?_
 rintro r h1 ⟨hg1,tl1⟩
 have k0:h1.obj h.next=some (.arr 5 [[sPV op,sPV name,.sc (.int .i64 v),.imm 1 (strRows args2),.imm 5 (Ex.rows kids)]]):=by
  rw[hg1.old _ (by simp[Heap.new,Heap.set];omega)];simp[Heap.new,Heap.set]
 have k1:h1.obj (h.next+1)=some (.arr 5 [[.sc (.string ⟨#[]⟩),.sc (.string ⟨#[]⟩),.sc (.int .i64 0),.sc (.slice none 0 0),.sc (.slice none 0 0)]]):=by
  rw[hg1.old _ (by simp[Heap.new,Heap.set])];simp[Heap.new,Heap.set]
 have hn1:h.next+2≤h1.next:=by have:=hg1.le;simp[Heap.new,Heap.set]at this;omega
 have hgA:Grow h h1:=((((Grow.refl h).new _).new _).set (Nat.le_refl _) _).trans hg1
 have tlA:Tl h1 (h.next+2) 5 r (Ex.rows kids):=Tl.low tl1 (by simp[Heap.new,Heap.set])
 clear hg1 tl1 hrp
 have hpc:r.cells=[r]∧oneC r=true:=by
  rcases tlA with⟨_,rfl|rfl⟩|⟨_,_,_,rfl,_⟩<;>exact⟨rfl,rfl⟩
 have hsl:=tlA.sl
 have hlo: ∀ H,lenP H r=some kids.length:=fun H=>by rw[lenP_sl hsl H,hlK]
 have hlk:=hsl.lk
 obtain⟨hp1,hp2⟩:=hpc
 simp(maxSteps:=2000000) only[Ty.w,simprocAttr,Ty.all,k0,nsucc,hp1,hp2,putC,hlo,hlk]
 repeat'(first|refine a_seq fun K hK=>?_|(refine a_block ?_)|(refine a_regionS ?_;simp(maxSteps:=2000000) only[Ty.w,simprocAttr,k0,hp1,hp2,hlo,hlk,putC])|(refine hK _ _ ?_;clear hK;try simp only[pst0,simprocAttr]))
 refine a_loop (fun m S h'=>S 1=T∧S 2= .imm 1 (strRows bound)∧S 3= .ptr h.next 0 0∧S 6= .ptr (h.next+1) 0 0∧S 20=r∧S 21= .sc (.int .i64 kids.length)∧ ∃ k:Nat,S 22= .sc (.int .i64 k)∧k≤kids.length∧m=kids.length-k∧Grow h h'∧h.next+2≤h'.next∧
  h'.obj h.next=some (.arr 5 [[sPV op,sPV name,.sc (.int .i64 v),.imm 1 (strRows args2),r]])∧h'.obj (h.next+1)=some (.arr 5 [[.sc (.string ⟨#[]⟩),.sc (.string ⟨#[]⟩),.sc (.int .i64 0),.sc (.slice none 0 0),.sc (.slice none 0 0)]])∧
  Tl h' (h.next+2) 5 r (Ex.rows ((kids.take k).map (bindEx to bound)++kids.drop k))) kids.length ?_ ?_
 ·simp only[Ty.w,simprocAttr]
  refine⟨0,rfl,by omega,rfl,hgA.set (Nat.le_refl _) _,hn1,?_,?_⟩
  ·first|exact k1|(rw[if_neg (by omega)];exact k1)
  ·simpa using tlA.up (h':=h1.set h.next _) (Nat.le_refl _) fun j hj _=>by simp only[Heap.set];rw[if_neg (by omega)]
 ·clear hgA hn1 k0 k1 tlA hsl hlo hlk
  rintro m S h' ⟨g1,g2,g3,g6,g20,g21,k,g22,hk,rfl,hg,hn,o1,o2,tl⟩
  by_cases hlt:k<kids.length
  ·have hd:decide ((k:Int)<(kids.length:Int))=true:=by simp;omega
   have w7:IntKind.i64.wrap ((k:Int)+1)=k+1:=by rw[wrap64 (by omega) (by omega)]
   obtain⟨x,hx⟩: ∃ x,kids[k]? =some x:=⟨_,List.getElem?_eq_getElem hlt⟩
   have hmem:=List.mem_of_getElem? hx
   have hc:=fun{H:Heap}(hgH:Grow h H)=>ih x hmem (hks x hmem) (hke x hmem) hb (hT.grow hgH)
   obtain⟨m1,m2⟩:=mixG_get (g:=bindEx to bound) hx
   have hlen:((kids.take k).map (bindEx to bound)++kids.drop k).length=kids.length:=by simp;omega
   have hlen2:((kids.take (k+1)).map (bindEx to bound)++kids.drop (k+1)).length=kids.length:=by simp;omega
   have hr:=Ex.rows_get m1
   obtain⟨id,i1,i2,rfl,i4⟩: ∃ id,h.next+2≤id∧id<h'.next∧r= .own id 0 kids.length∧h'.obj id=some (.arr 5 (Ex.rows ((kids.take k).map (bindEx to bound)++kids.drop k))):=by
    rcases tl with⟨hn0,_⟩|⟨id,i1,i2,i3,i4⟩
    ·have:=congrArg List.length hn0
     rw[Ex.rows_len,hlen]at this
     simp only[List.length_nil]at this;omega
    ·rw [Ex.rows_len,hlen]at i3;exact⟨id,i1,i2,i3,i4⟩
   clear tl hp1 hp2
   have hset:(Ex.rows ((kids.take k).map (bindEx to bound)++kids.drop k)).set k (bindEx to bound x).cells=Ex.rows ((kids.take (k+1)).map (bindEx to bound)++kids.drop (k+1)):=by rw[exRows_set,m2]
   have hrl:(Ex.rows ((kids.take (k+1)).map (bindEx to bound)++kids.drop (k+1))).length=kids.length:=by rw[Ex.rows_len,hlen2]
   generalize Ex.rows ((kids.take k).map (bindEx to bound)++kids.drop k)=R at i4 hr hset
   generalize bindEx to bound x=y at hc hset
   obtain⟨xo,xn,xv,xa,xk⟩:=x
   obtain⟨yo,yn,yv,ya,yk⟩:=y
   simp only[Ex.cells]at hr hc hset
   have e1:(h.next=h'.next)=False:=by simp;omega
   have e2:(id=h'.next)=False:=by simp;omega
   have hgX: ∀ o o2,Grow h ((h'.new o).set h'.next o2):=fun o o2=>(hg.new _).set hg.le _
   have W:=And.intro g1 (And.intro g2 (And.intro g3 (And.intro g6 (And.intro g20 (And.intro g21 (And.intro g22 (And.intro i4 (And.intro hr (And.intro hlt (And.intro o1 (And.intro e1 e2)))))))))))
   repeat'(first|refine a_seq fun K hK=>?_|((first|refine a_regionS ?_|refine a_draw (by decide+kernel) (fun K hK=>?_));simp(maxSteps:=2000000) only[Ty.w,simprocAttr,W,hd])|(refine a_skip ?_;try simp only[pst0,simprocAttr])|(refine a_cond _ (by(try simp(maxSteps:=2000000) only[Ty.w,simprocAttr,W,hd]);rfl) (fun hb=>?_) (fun hb=>?_)<;>(try simp only[hb0,decide_eq_true_eq,decide_eq_false_iff_not,simprocAttr]at hb)<;>(try(exfalso;omega)))|(refine hK _ _ ?_;clear hK;try simp only[pst0,simprocAttr]))
   (first|refine a_dcall0 (hc (hgX _ _)) (by(try simp only[Ty.w,simprocAttr,W]);try rfl) ?_|refine a_dcallA (hc (hgX _ _)) (by(try simp only[Ty.w,simprocAttr,W]);try rfl) (by simp only[Ty.w,simprocAttr,W];try trivial) ?_);simp(maxSteps:=2000000) only[Ty.w,simprocAttr,W,Option.getD_some]
   repeat'(first|(refine a_regionS ?_;simp(maxSteps:=2000000) only[Ty.w,simprocAttr,W,w7,putC,hset])|(refine hK _ _ ?_;clear hK;try simp only[pst0,simprocAttr])|(with_reducible refine a_past2 (by simp only[List.forall_mem_cons,Ty.w,simprocAttr,g1,g2,g3,g6,g20,g21,g22,i4,hr,hlt,o1,e1,e2,w7,putC,hset]<;>(repeat' apply And.intro)<;>first|trivial|exact .inl (by decide+kernel)) ?_;try simp(maxSteps:=2000000) only[Ty.w,simprocAttr,W,w7,putC,hset]))
   refine⟨kids.length-(k+1),by omega,k+1,by simp,by omega,rfl,(hgX _ _).set (by omega) _,by first|omega|(simp[Heap.new,Heap.set];omega),?_,?_,?_⟩
   ·rw [if_neg (by omega)]
   ·rw [if_neg (by omega),if_neg (by omega),if_neg (by omega)];exact o2
   ·exact .inr ⟨id,i1,by first|omega|(simp[Heap.new,Heap.set];omega),by rw[hrl],by simp[Heap.set]⟩
  ·have hd:decide ((k:Int)<(kids.length:Int))=false:=by simp;omega
   have hke2:k=kids.length:=by omega
   subst hke2
   rw[List.take_length,List.drop_length,List.append_nil]at tl
   repeat'(first|refine a_seq fun K hK=>?_|((first|refine a_regionS ?_|refine a_ret ?_);simp(maxSteps:=2000000) only[Ty.w,simprocAttr,g1,g2,g3,g6,g20,g21,g22,hd,o1,o2,hp1,hp2])|(refine a_exit ?_;try simp only[pst0,simprocAttr])|(refine a_cond _ (by(try simp(maxSteps:=2000000) only[Ty.w,simprocAttr,g1,g2,g3,g6,g20,g21,g22,hd,o1,o2,hp1,hp2]);rfl) (fun hb=>?_) (fun hb=>?_)<;>(try simp only[hb0,decide_eq_true_eq,decide_eq_false_iff_not,simprocAttr]at hb)<;>(try(exfalso;omega)))|((first|refine hK _ _ ?_|(clear hK;refine hK _ _ ?_));clear hK;try simp only[pst0,simprocAttr]))
   refine⟨frz_agg ?_,hg.set (by omega) _⟩
   have tl3:Tl (h'.set (h.next+1) (.arr 5 [[sPV op,sPV name,.sc (.int .i64 v),.imm 1 (strRows args2),r]])) (h.next+2) 5 r (Ex.rows (kids.map (bindEx to bound))):=tl.up (Nat.le_refl _) fun j hj _=>by simp only[Heap.set];rw[if_neg (by omega)]
   have h1:=tl_frzE (show h.next≤h.next+2 by omega) tl3
   unfold FrzL;refine⟨by simp only[FrzTo],?_⟩
   unfold FrzL;refine⟨by simp only[FrzTo],?_⟩
   unfold FrzL;refine⟨by simp only[FrzTo],?_⟩
   unfold FrzL;refine⟨by simp only[FrzTo];exact .inl ⟨trivial,strs_in _ _⟩,?_⟩
   unfold FrzL;refine⟨h1,?_⟩
   simp only[FrzL]
end Go.Proofs.Ytjlkapgpjamnkaa
namespace Go.AM
open Go.ChangeShapes Go.WideShapes
def partsT(P:Program)(t:TypeId):List (Nat × TypeId):=match P.underlying t with
 |some (.struct fs)=>fs.toList.map fun f=>(f.offset,f.type)
 |some (.array n e)=>(List.range n).map fun i=>(i*P.cellsOf e,e)
 |_=>[]
def inRow(P:Program)(e:Nat):Nat→List (Nat × TypeId)→Bool
 |o,[]=>o==e
 |o,p::l=>p.1==o&&inRow P e (o+P.cellsOf p.2) l
def covB(P:Program):Nat→TypeId→Bool
 |0,_=>false
 |f+1,t=>match P.underlying t with
  |some .bool=>true
  |some (.int _)=>true
  |some .string=>true
  |some (.slice e)=>decide (0<P.cellsOf e)&&covB P f e
  |some (.struct _)=>inRow P (P.cellsOf t) 0 (partsT P t)&&(partsT P t).all fun p=>covB P f p.2
  |some (.array _ _)=>inRow P (P.cellsOf t) 0 (partsT P t)&&(partsT P t).all fun p=>covB P f p.2
  |_=>false
def Arg(P:Program):Nat→TypeId→List PV→Prop
 |0,_,_=>False
 |f+1,t,ps=>match P.underlying t with
  |some .bool=> ∃ b,ps=[.sc (.bool b)]
  |some (.int k)=> ∃ n,(Lit.int k n).wf=true∧ps=[.sc (.int k n)]
  |some .string=> ∃ s:ByteArray,s.size≤reachBytes∧ps=[.sc (.string s)]
  |some (.slice e)=> ∃ rows,ps=[.imm (P.cellsOf e) rows]∧rows.length*P.bytesOf e≤reachBytes∧rows.length≤maxLen∧ ∀ r∈rows,r.length=P.cellsOf e∧Arg P f e r
  |some (.struct _)=>ps.length=P.cellsOf t∧ ∀ p∈partsT P t,Arg P f p.2 ((ps.drop p.1).take (P.cellsOf p.2))
  |some (.array _ _)=>ps.length=P.cellsOf t∧ ∀ p∈partsT P t,Arg P f p.2 ((ps.drop p.1).take (P.cellsOf p.2))
  |_=>False
section
variable {H:Type}{enc:TypeId × Value→H}{P:Program}{w:World}{sp:Nat→Bool}{held:Bool}
def RA(w:World)(ps:List PV)(cs:List Value):Prop:=(∀ v∈cs,v.oneCell'=true)∧ ∀ β n,RepL β n (fun b=>b<w.heap.size) w ps cs
theorem RA.len{ps:List PV}{cs:List Value}(h:RA w ps cs):ps.length=cs.length:=(h.2 ⟨fun _=>⟨none,0,0,0⟩,fun _=>False⟩ 0).len
theorem RA.append{ps ps':List PV}{cs cs':List Value}(h:RA w ps cs)(k:RA w ps' cs'):RA w (ps++ps') (cs++cs'):=
 ⟨fun v hv=>by exact(List.mem_append.1 hv).elim (h.1 v) (k.1 v),fun β n=>(h.2 β n).append (k.2 β n)⟩
theorem inRow_le{e:Nat}:(l:List (Nat × TypeId))→(o:Nat)→inRow P e o l=true→o≤e∧ ∀ p∈l,o≤p.1∧p.1+P.cellsOf p.2≤e
 |[],o,h=>by simp[inRow]at h;simp[h]
 |p::l,o,h=>by
  simp only[inRow,Bool.and_eq_true,beq_iff_eq]at h
  obtain⟨h1,h2⟩:=inRow_le l _ h.2
  refine⟨by omega,fun q hq=>?_⟩
  rcases List.mem_cons.1 hq with rfl|hq
  ·omega
  ·have:=h2 q hq;omega
theorem parts_rep{c:Nat}{cs:List Value}:(l:List (Nat × TypeId))→(o:Nat)→inRow P cs.length o l=true→
  (∀ p∈l, ∃ ps,Arg P c p.2 ps∧RA w ps ((cs.drop p.1).take (P.cellsOf p.2)))→
  ∃ ps,RA w ps (cs.drop o)∧ ∀ p∈l,Arg P c p.2 ((ps.drop (p.1-o)).take (P.cellsOf p.2))
 |[],o,h,_=>by
  simp[inRow]at h
  refine⟨[],⟨?_,fun β n=>?_⟩,by simp⟩
  ·rw [List.drop_of_length_le (by omega)];simp
  ·rw [List.drop_of_length_le (by omega)];simp[RepL]
 |p::l,o,h,hp=>by
  have hle:=(inRow_le (p::l) o h).2 p (by simp)
  simp only[inRow,Bool.and_eq_true,beq_iff_eq]at h
  obtain⟨ps,h1,h2⟩:=parts_rep l _ h.2 (fun q hq=>hp q (by simp[hq]))
  obtain⟨ps0,h3,h4⟩:=hp p (by simp)
  have hl2:=(inRow_le l _ h.2).2
  have e0:p.1=o:=h.1
  have l0:ps0.length=P.cellsOf p.2:=by rw[h4.len,List.length_take,List.length_drop];omega
  refine⟨ps0++ps,?_,fun q hq=>?_⟩
  ·have:cs.drop o=(cs.drop p.1).take (P.cellsOf p.2)++cs.drop (o+P.cellsOf p.2):=by
    rw[e0, ← List.drop_drop,List.take_append_drop]
   rw[this]
   exact h4.append h1
  ·rcases List.mem_cons.1 hq with rfl|hq
   ·rw [e0,Nat.sub_self,List.drop_zero,List.take_append_of_le_length (by omega),List.take_of_length_le (by omega)]
    exact h3
   ·have h5:=hl2 q hq
    have:q.1-o=ps0.length+(q.1-(o+P.cellsOf p.2)):=by omega
    rw[this, ← List.drop_drop,List.drop_left]
    exact h2 q hq
theorem exists_list{α:Type}{R:Nat→α→Prop}:(n:Nat)→(∀ i,i<n→ ∃ x,R i x)→ ∃ l:List α,l.length=n∧ ∀ i x,l[i]? =some x→R i x
 |0,_=>⟨[],rfl,by simp⟩
 |n+1,h=>by
  obtain⟨l,h1,h2⟩:=exists_list n (fun i hi=>h i (by omega))
  obtain⟨x,hx⟩:=h n (by omega)
  refine⟨l++[x],by simp[h1],fun i y hy=>?_⟩
  rw[List.getElem?_append]at hy
  split at hy
  ·exact h2 i y hy
  ·rename_i hi
   have:i=n:=by
    have:=(List.getElem?_eq_some_iff.1 hy).1
    simp at this;omega
   subst this
   rw[h1]at hy
   simp at hy
   subst hy;exact hx
theorem weightsAll_mem{e:TypeId}{n:Nat}:{ds:List (DataW H)}→{i:Nat}→{d:DataW H}→ds[i]? =some d→n∈d.weights P e→n∈DataW.weightsAll P e ds
 |[],_,_,h,_=>by simp at h
 |d0::ds,0,d,h,hn=>by
  simp at h;subst h
  simp only[DataW.weightsAll,List.mem_append];exact .inl hn
 |d0::ds,i+1,d,h,hn=>by
  simp at h
  simp only[DataW.weightsAll,List.mem_append];exact .inr (weightsAll_mem h hn)
theorem sc_RA{v:Value}(h:v.oneCell'=true):RA w [.sc v] [v]:=
 ⟨fun u hu=>by simp at hu;subst hu;exact h,fun β n=>by simp only[RepL,Rep];exact⟨trivial,trivial⟩⟩
theorem arg_of: ∀ (c:Nat)(t:TypeId),covB P c t=true→ ∀ (fuel:Nat)(cs:List Value)(x:DataW H × List MemPlace),DataW.trod enc P w 0 sp held fuel t cs=some x→(∀ n∈x.1.weights P t,n≤reachBytes)→
  ∃ ps,Arg P c t ps∧RA w ps cs
 |0,_,h,_,_,_,_,_=>by simp[covB]at h
 |c+1,t,h,fuel,cs,x,hx,hw=>by
  unfold covB at h
  split at h
  ·rename_i hu
   obtain⟨b,rfl,rfl⟩:=DataW.trod_bool hu hx
   refine⟨[.sc (.bool b)],?_,sc_RA rfl⟩
   unfold Arg;rw[hu];exact⟨b,rfl⟩
  ·rename_i k hu
   obtain⟨n,rfl,rfl,hwf⟩:=DataW.trod_int hu hx
   refine⟨[.sc (.int k n)],?_,sc_RA rfl⟩
   unfold Arg;rw[hu];exact⟨n,hwf,rfl⟩
  ·rename_i hu
   obtain⟨s,rfl,rfl,hs⟩:=DataW.trod_string hu hx
   refine⟨[.sc (.string s)],?_,sc_RA rfl⟩
   unfold Arg;rw[hu]
   refine⟨s,?_,rfl⟩
   have:=hw s.data.toList.length (by simp[DataW.weights])
   simpa using this
  ·rename_i e hu
   simp only[Bool.and_eq_true,decide_eq_true_eq]at h
   obtain⟨hpos,hcov⟩:=h
   rcases DataW.trod_slice hu hx with⟨rfl,rfl⟩|⟨a,len,cap,elems,rest,n,rfl,rfl,rfl,hb,hl,hm,hlen,hel,hsp,hns⟩
   ·refine ⟨[.imm (P.cellsOf e) []],?_,fun v hv=>?_,fun β n=>?_⟩
    ·unfold Arg;rw[hu];exact⟨[],rfl,by simp,by simp,by simp⟩
    ·simp at hv;subst hv;rfl
    ·simp only[RepL,Rep]
     exact⟨⟨none,0,rfl,Nat.le_refl _,Nat.zero_le _,.inl (by trivial)⟩,trivial⟩
   ·have each: ∀ i,i<len→ ∃ r:List PV,(r.length=P.cellsOf e∧Arg P c e r)∧ ∃ ci,RA w r ci∧ci.length=P.cellsOf e∧ ∀ j,j<P.cellsOf e→w.cell? ((a.add (i*P.cellsOf e)).add j)=ci[j]?:=by
     intro i hi
     have h1:=hel i hi
     have h2:elems[i]? =some (elems[i]'(by omega)):=List.getElem?_eq_getElem _
     rw[h2,Option.bind_eq_some_iff]at h1
     obtain⟨ci,h3,h4⟩:=h1
     obtain⟨_,h5,h6⟩:=World.cells?_some h3
     obtain⟨r,h7,h8⟩:=arg_of c e hcov n ci _ h4 (fun m hm=>hw m (by
      simp only[DataW.weights,hu,List.mem_cons,List.mem_append]
      exact .inr (.inl (weightsAll_mem (i:=i) (by rw[List.getElem?_map,h2];try rfl) hm))))
     exact⟨r,⟨by rw[h8.len,h5],h7⟩,ci,h8,h5,h6⟩
    obtain⟨rows,hrl,hrows⟩:=exists_list len each
    refine⟨[.imm (P.cellsOf e) rows],?_,fun v hv=>?_,fun β m=>?_⟩
    ·unfold Arg;rw[hu]
     refine⟨rows,rfl,?_,by omega,fun r hr=>?_⟩
     ·have:=hw ((elems.map (·.1)).length*P.bytesOf e+(rest.map (·.1)).length*P.bytesOf e) (by
       simp only[DataW.weights,hu,List.mem_cons,Nat.add_mul,true_or])
      have h9:rows.length=(elems.map (·.1)).length:=by simp[hrl,hlen]
      rw[h9]
      exact Nat.le_trans (Nat.le_add_right _ _) this
     ·obtain ⟨i,hi⟩:=List.getElem?_of_mem hr
      exact(hrows i r hi).1
    ·simp at hv;subst hv;rfl
    ·simp only[RepL,Rep]
     refine⟨⟨some a,cap,by rw[hrl],by omega,hm,?_⟩,trivial⟩
     by_cases h0:len=0
     ·left;exact List.length_eq_zero_iff.1 (by omega)
     ·right
      obtain⟨_,_,c0,_,hc0,hcell0⟩:=each 0 (by omega)
      have h10:=hcell0 0 hpos
      rw[List.getElem?_eq_getElem (by omega)]at h10
      simp only[Nat.zero_mul,Addr.add,if_true]at h10
      have hs:a.spot=none:=by
       unfold World.cell? at h10
       split at h10
       ·split at h10
        ·simp at h10
        ·rename_i hsp;simpa using hsp
       ·simp at h10
      have hblk:a.block<w.heap.size:=by
       unfold World.cell? at h10
       split at h10
       ·rename_i hh;exact(Array.getElem?_eq_some_iff.1 hh).1
       ·simp at h10
      refine⟨a.block,a.off,hblk,by cases a;simp only at hs;subst hs;rfl,?_⟩
      rw[RepR_iff]
      intro i r hr
      obtain⟨⟨g1,_⟩,ci,g2,g3,g4⟩:=hrows i r hr
      refine⟨g1,?_⟩
      rw[RepS_iff]
      intro j p hp
      obtain⟨v,hv,hrep⟩:=(g2.2 β m).get hp
      have hj:j<P.cellsOf e:=by rw[← g3];exact(List.getElem?_eq_some_iff.1 hv).1
      refine⟨v,?_,g2.1 v (List.mem_of_getElem? hv),hrep⟩
      rw[← hv, ← g4 j hj]
      congr 1
      cases a
      simp only at hs;subst hs
      simp only[Addr.add]
      split<;>split<;>simp_all<;>omega
  ·rename_i fs hu
   simp only[Bool.and_eq_true,List.all_eq_true]at h
   obtain⟨xs,n,rfl,rfl,hcl,hxl,hp⟩:=DataW.trod_struct hu hx
   have hpt:partsT P t=fs.toList.map fun f=>(f.offset,f.type):=by unfold partsT;rw[hu]
   obtain⟨ps,h1,h2⟩:=parts_rep (w:=w) (c:=c) (cs:=cs) (partsT P t) 0 (by rw[hcl];exact h.1) (fun p hpm=>by
    have hcv:=h.2 p hpm
    rw[hpt]at hpm
    obtain⟨i,hi⟩:=List.getElem?_of_mem hpm
    rw[List.getElem?_map,Option.map_eq_some_iff]at hi
    obtain⟨f,hf,rfl⟩:=hi
    have hf':fs[i]? =some f:=by simpa using hf
    have hi':i<xs.length:=by
     rw[hxl]
     exact(Array.getElem?_eq_some_iff.1 hf').1
    have h3:=hp i f hf'
    rw[List.getElem?_eq_getElem hi']at h3
    exact arg_of c f.type hcv n _ _ h3 (fun m hm=>hw m (by
     simp only[DataW.weights,hu]
     exact DataW.weights_mem_each (j:=i) (t:=f.type) (d:=xs[i].1) (by rw[List.getElem?_map,hf];try rfl) (by rw[List.getElem?_map,List.getElem?_eq_getElem hi'];try rfl) m hm)))
   refine⟨ps,?_,by simpa using h1⟩
   unfold Arg;rw[hu]
   exact⟨by rw[h1.len,List.drop_zero,hcl],fun p hpm=>by simpa using h2 p hpm⟩
  ·rename_i k e hu
   simp only[Bool.and_eq_true,List.all_eq_true]at h
   obtain⟨xs,n,rfl,rfl,hcl,hxl,hp⟩:=DataW.trod_array hu hx
   have hpt:partsT P t=(List.range k).map fun i=>(i*P.cellsOf e,e):=by unfold partsT;rw[hu]
   obtain⟨ps,h1,h2⟩:=parts_rep (w:=w) (c:=c) (cs:=cs) (partsT P t) 0 (by rw[hcl];exact h.1) (fun p hpm=>by
    have hcv:=h.2 p hpm
    rw[hpt]at hpm
    obtain⟨i,hi,rfl⟩:=List.mem_map.1 hpm
    have hi':i<xs.length:=by rw[hxl];simpa using hi
    have h3:=hp i (by simpa using hi)
    rw[List.getElem?_eq_getElem hi']at h3
    exact arg_of c e hcv n _ _ h3 (fun m hm=>hw m (by
     simp only[DataW.weights,hu]
     exact weightsAll_mem (i:=i) (d:=xs[i].1) (by rw[List.getElem?_map,List.getElem?_eq_getElem hi'];try rfl) hm)))
   refine⟨ps,?_,by simpa using h1⟩
   unfold Arg;rw[hu]
   exact⟨by rw[h1.len,List.drop_zero,hcl],fun p hpm=>by simpa using h2 p hpm⟩
  ·simp at h
def ArgV(P:Program)(c:Nat)(t:TypeId)(p:PV):Prop:=match P.underlying t with
 |some (.struct _)=> ∃ ps,p= .agg ps∧Arg P c t ps
 |some (.array _ _)=> ∃ ps,p= .agg ps∧Arg P c t ps
 |_=>Arg P c t [p]
theorem arg_value{c:Nat}{t:TypeId}(hc:covB P c t=true){v:Value}{d:DataW H}{pl:List MemPlace}(h:DataW.Trod enc P w 0 sp held t v d pl)(hv: ∃ base,Value.okWide P w .any base t v)
  (hw: ∀ n∈d.weights P t,n≤reachBytes): ∃ p,ArgV P c t p∧ ∀ β n,Rep β n (fun b=>b<w.heap.size) w p v:=by
 obtain⟨fuel,hf⟩:=h
 obtain⟨ps,h1,h2⟩:=arg_of c t hc fuel _ _ hf hw
 obtain⟨base,hv⟩:=hv
 unfold Value.okWide at hv
 cases c with
 |zero=>simp[covB]at hc
 |succ c=>
  unfold covB at hc
  unfold ArgV
  have one:(∃ q,ps=[q])→(∃ u,v.cells.toList=[u]∧v=u)→ ∃ p,Arg P (c+1) t [p]∧ ∀ β n,Rep β n (fun b=>b<w.heap.size) w p v:=by
   rintro⟨q,rfl⟩ ⟨u,hu,rfl⟩
   refine⟨q,h1,fun β n=>?_⟩
   have:=h2.2 β n
   rw[hu]at this
   simp only[RepL]at this
   exact this.1
  have agg:(∃ cs,v= .agg cs)→ ∃ p,(∃ ps,p= .agg ps∧Arg P (c+1) t ps)∧ ∀ β n,Rep β n (fun b=>b<w.heap.size) w p v:=by
   rintro⟨cs,rfl⟩
   refine⟨.agg ps,⟨ps,rfl,h1⟩,fun β n=>?_⟩
   simp only[Rep]
   exact⟨cs.toList,by simp,h2.1,h2.2 β n⟩
  split at hc
  ·rename_i hu
   obtain⟨b,hb,_⟩:=DataW.trod_bool hu hf
   simp only[hu]at hv⊢
   refine one ?_ ⟨_,hb,?_⟩
   ·unfold Arg at h1;rw[hu]at h1;obtain⟨b,rfl⟩:=h1;exact⟨_,rfl⟩
   ·obtain ⟨b',rfl⟩:=okWide_bool hu (r:= .any) (base:=base) (v:=v) (w:=w) (by unfold Value.okWide;rw[hu];exact hv)
    simpa[Value.cells]using hb
  ·rename_i k hu
   obtain⟨n,hb,_⟩:=DataW.trod_int hu hf
   simp only[hu]at hv⊢
   refine one ?_ ⟨_,hb,?_⟩
   ·unfold Arg at h1;rw[hu]at h1;obtain⟨n,_,rfl⟩:=h1;exact⟨_,rfl⟩
   ·obtain ⟨b',rfl⟩:=okWide_int hu (r:= .any) (base:=base) (v:=v) (w:=w) (by unfold Value.okWide;rw[hu];exact hv)
    simpa[Value.cells]using hb
  ·rename_i hu
   obtain⟨n,hb,_⟩:=DataW.trod_string hu hf
   simp only[hu]at hv⊢
   refine one ?_ ⟨_,hb,?_⟩
   ·unfold Arg at h1;rw[hu]at h1;obtain⟨n,_,rfl⟩:=h1;exact⟨_,rfl⟩
   ·obtain ⟨b',rfl⟩:=okWide_string hu (r:= .any) (base:=base) (v:=v) (w:=w) (by unfold Value.okWide;rw[hu];exact hv)
    simpa[Value.cells]using hb
  ·rename_i e hu
   simp only[hu]at hv⊢
   obtain⟨a,len,cap,rfl⟩:=okWide_slice hu (r:= .any) (base:=base) (v:=v) (w:=w) (by unfold Value.okWide;rw[hu];exact hv)
   refine one ?_ ⟨_,rfl,rfl⟩
   unfold Arg at h1;rw[hu]at h1;obtain⟨n,rfl,_⟩:=h1;exact⟨_,rfl⟩
  ·rename_i fs hu
   simp only[hu]at hv⊢
   obtain⟨cs,rfl,_⟩:=hv
   exact agg ⟨_,rfl⟩
  ·rename_i n e hu
   simp only[hu]at hv⊢
   obtain⟨cs,rfl,_⟩:=hv
   exact agg ⟨_,rfl⟩
  ·simp at hc
end
end Go.AM
namespace Go.AM
open Go.ChangeShapes Go.WideShapes
section
variable {H:Type}{enc:TypeId × Value→H}{P:Program}{w:World}{sp:Nat→Bool}{held:Bool}
def covC(P:Program)(Ts:List TypeId):Bool:=Ts.all fun t=>match P.underlying t with
 |some .bool=>true
 |some (.int _)=>true
 |some .string=>true
 |some (.slice e)=>decide (0<P.cellsOf e)&&Ts.contains e
 |some (.struct _)=>inRow P (P.cellsOf t) 0 (partsT P t)&&(partsT P t).all fun p=>Ts.contains p.2
 |some (.array _ _)=>inRow P (P.cellsOf t) 0 (partsT P t)&&(partsT P t).all fun p=>Ts.contains p.2
 |_=>false
end
end Go.AM
namespace Go.AM
open Go.ChangeShapes Go.WideShapes
open Go.Proofs.Ytjlkapgpjamnkaa
mutual
def PV.bulk:PV→Nat
 | .sc (.string s)=>s.size+1
 | .imm _ rows=>PV.bulkR rows+1
 |_=>1
def PV.bulkL:List PV→Nat
 |[]=>0
 |p::ps=>p.bulk+PV.bulkL ps
def PV.bulkR:List (List PV)→Nat
 |[]=>0
 |r::rs=>PV.bulkL r+PV.bulkR rs
end
theorem PV.bulkL_append: ∀ l m:List PV,PV.bulkL (l++m)=PV.bulkL l+PV.bulkL m
 |[],m=>by simp[PV.bulkL]
 |p::l,m=>by simp only[List.cons_append,PV.bulkL,PV.bulkL_append l m];omega
theorem List.getElem?_range_some{k i j:Nat}(h:(List.range k)[i]? =some j):i<k∧i=j:=by
 have h1:=(List.getElem?_eq_some_iff.1 h).1
 simp at h1
 rw[List.getElem?_range h1]at h
 simp at h
 exact⟨h1,h⟩
section
variable {H:Type}{enc:TypeId × Value→H}{P:Program}{w:World}{sp:Nat→Bool}{held:Bool}
theorem bulkR_le: ∀ (rows:List (List PV))(ds:List (DataW H)),rows.length=ds.length→(∀ (i:Nat)(r:List PV),rows[i]? =some r→ ∃ d,ds[i]? =some d∧PV.bulkL r≤Rows.uptoBulk d)→PV.bulkR rows≤Rows.uptoBulkAll ds
 |[],_,_,_=>by simp[PV.bulkR]
 |r::rows,[],h,_=>by simp at h
 |r::rows,d::ds,h,hb=>by
  have h1:=bulkR_le rows ds (by simpa using h) fun i q hq=>by simpa using hb (i+1) q (by simpa using hq)
  obtain⟨d',h2,h3⟩:=hb 0 r rfl
  simp at h2;subst h2
  simp only[PV.bulkR,Rows.uptoBulkAll];omega
theorem parts_rep5{c:Nat}{cs:List Value}:(l:List (Nat × TypeId))→(ds:List (DataW H))→(o:Nat)→inRow P cs.length o l=true→
  (∀ (i:Nat)(p:Nat × TypeId),l[i]? =some p→ ∃ d,ds[i]? =some d∧ ∃ ps,Arg P c p.2 ps∧RA w ps ((cs.drop p.1).take (P.cellsOf p.2))∧PV.bulkL ps≤Rows.uptoBulk d)→
  ∃ ps,RA w ps (cs.drop o)∧(∀ p∈l,Arg P c p.2 ((ps.drop (p.1-o)).take (P.cellsOf p.2)))∧PV.bulkL ps≤Rows.uptoBulkAll ds
 |[],ds,o,h,_=>by
  simp[inRow]at h
  refine⟨[],⟨?_,fun β n=>?_⟩,by simp,by simp[PV.bulkL]⟩
  ·rw [List.drop_of_length_le (by omega)];simp
  ·rw [List.drop_of_length_le (by omega)];simp[RepL]
 |p::l,[],o,h,hp=>by
  obtain⟨d,hd,_⟩:=hp 0 p rfl
  simp at hd
 |p::l,d::ds,o,h,hp=>by
  have hle:=(inRow_le (p::l) o h).2 p (by simp)
  simp only[inRow,Bool.and_eq_true,beq_iff_eq]at h
  obtain⟨ps,h1,h2,h20⟩:=parts_rep5 l ds _ h.2 (fun i q hq=>by simpa using hp (i+1) q (by simpa using hq))
  obtain⟨d',hd,ps0,h3,h4,h40⟩:=hp 0 p rfl
  simp at hd;subst hd
  have hl2:=(inRow_le l _ h.2).2
  have e0:p.1=o:=h.1
  have l0:ps0.length=P.cellsOf p.2:=by rw[h4.len,List.length_take,List.length_drop];omega
  refine⟨ps0++ps,?_,fun q hq=>?_,by rw[PV.bulkL_append];simp only[Rows.uptoBulkAll];omega⟩
  ·have:cs.drop o=(cs.drop p.1).take (P.cellsOf p.2)++cs.drop (o+P.cellsOf p.2):=by
    rw[e0, ← List.drop_drop,List.take_append_drop]
   rw[this]
   exact h4.append h1
  ·rcases List.mem_cons.1 hq with rfl|hq
   ·rw [e0,Nat.sub_self,List.drop_zero,List.take_append_of_le_length (by omega),List.take_of_length_le (by omega)]
    exact h3
   ·have h5:=hl2 q hq
    have:q.1-o=ps0.length+(q.1-(o+P.cellsOf p.2)):=by omega
    rw[this, ← List.drop_drop,List.drop_left]
    exact h2 q hq
theorem arg_rec5{Ts:List TypeId}(hT:covC P Ts=true): ∀ (fuel:Nat)(t:TypeId),Ts.contains t=true→ ∀ (cs:List Value)(x:DataW H × List MemPlace),DataW.trod enc P w 0 sp held fuel t cs=some x→(∀ n∈x.1.weights P t,n≤reachBytes)→
  ∃ ps,Arg P fuel t ps∧RA w ps cs∧PV.bulkL ps≤Rows.uptoBulk x.1
 |0,_,_,_,_,hx,_=>by simp[DataW.trod]at hx
 |c+1,t,ht,cs,x,hx,hw=>by
  have h:=List.all_eq_true.1 hT t (by simpa using ht)
  split at h
  ·rename_i hu
   obtain⟨b,rfl,rfl⟩:=DataW.trod_bool hu hx
   refine⟨[.sc (.bool b)],?_,sc_RA rfl,by simp[PV.bulkL,PV.bulk,Rows.uptoBulk]⟩
   unfold Arg;rw[hu];exact⟨b,rfl⟩
  ·rename_i k hu
   obtain⟨n,rfl,rfl,hwf⟩:=DataW.trod_int hu hx
   refine⟨[.sc (.int k n)],?_,sc_RA rfl,by simp[PV.bulkL,PV.bulk,Rows.uptoBulk]⟩
   unfold Arg;rw[hu];exact⟨n,hwf,rfl⟩
  ·rename_i hu
   obtain⟨s,rfl,rfl,hs⟩:=DataW.trod_string hu hx
   refine⟨[.sc (.string s)],?_,sc_RA rfl,by have e:s.data.toList.length=s.size:=by{rw[Array.length_toList];try rfl};simp only[PV.bulkL,PV.bulk,Rows.uptoBulk];omega⟩
   unfold Arg;rw[hu]
   refine⟨s,?_,rfl⟩
   have:=hw s.data.toList.length (by simp[DataW.weights])
   simpa using this
  ·rename_i e hu
   simp only[Bool.and_eq_true,decide_eq_true_eq]at h
   obtain⟨hpos,hcov⟩:=h
   rcases DataW.trod_slice hu hx with⟨rfl,rfl⟩|⟨a,len,cap,elems,rest,n,hfu,rfl,rfl,hb,hl,hm,hlen,hel,hsp,hns⟩
   ·refine ⟨[.imm (P.cellsOf e) []],?_,⟨fun v hv=>?_,fun β n=>?_⟩,by simp[PV.bulkL,PV.bulk,PV.bulkR,Rows.uptoBulk]⟩
    ·unfold Arg;rw[hu];exact⟨[],rfl,by simp,by simp,by simp⟩
    ·simp at hv;subst hv;rfl
    ·simp only[RepL,Rep]
     exact⟨⟨none,0,rfl,Nat.le_refl _,Nat.zero_le _,.inl (by trivial)⟩,trivial⟩
   ·obtain rfl:c=n:=by omega
    have each: ∀ i,i<len→ ∃ r:List PV,(r.length=P.cellsOf e∧Arg P c e r∧ ∃ d,(elems.map (·.1))[i]? =some d∧PV.bulkL r≤Rows.uptoBulk d)∧ ∃ ci,RA w r ci∧ci.length=P.cellsOf e∧ ∀ j,j<P.cellsOf e→w.cell? ((a.add (i*P.cellsOf e)).add j)=ci[j]?:=by
     intro i hi
     have h1:=hel i hi
     have h2:elems[i]? =some (elems[i]'(by omega)):=List.getElem?_eq_getElem _
     rw[h2,Option.bind_eq_some_iff]at h1
     obtain⟨ci,h3,h4⟩:=h1
     obtain⟨_,h5,h6⟩:=World.cells?_some h3
     obtain⟨r,h7,h8,h80⟩:=arg_rec5 hT c e hcov ci _ h4 (fun m hm=>hw m (by
      simp only[DataW.weights,hu,List.mem_cons,List.mem_append]
      exact .inr (.inl (weightsAll_mem (i:=i) (by rw[List.getElem?_map,h2];try rfl) hm))))
     exact⟨r,⟨by rw[h8.len,h5],h7,_,by rw[List.getElem?_map,h2];try rfl,h80⟩,ci,h8,h5,h6⟩
    obtain⟨rows,hrl,hrows⟩:=exists_list len each
    refine⟨[.imm (P.cellsOf e) rows],?_,⟨fun v hv=>?_,fun β m=>?_⟩,?_⟩
    ·unfold Arg;rw[hu]
     refine⟨rows,rfl,?_,by omega,fun r hr=>?_⟩
     ·have:=hw ((elems.map (·.1)).length*P.bytesOf e+(rest.map (·.1)).length*P.bytesOf e) (by
       simp only[DataW.weights,hu,List.mem_cons,Nat.add_mul,true_or])
      have h9:rows.length=(elems.map (·.1)).length:=by simp[hrl,hlen]
      rw[h9]
      exact Nat.le_trans (Nat.le_add_right _ _) this
     ·obtain ⟨i,hi⟩:=List.getElem?_of_mem hr
      exact⟨(hrows i r hi).1.1,(hrows i r hi).1.2.1⟩
    ·simp at hv;subst hv;rfl
    ·simp only[RepL,Rep]
     refine⟨⟨some a,cap,by rw[hrl],by omega,hm,?_⟩,trivial⟩
     by_cases h0:len=0
     ·left;exact List.length_eq_zero_iff.1 (by omega)
     ·right
      obtain⟨_,_,c0,_,hc0,hcell0⟩:=each 0 (by omega)
      have h10:=hcell0 0 hpos
      rw[List.getElem?_eq_getElem (by omega)]at h10
      simp only[Nat.zero_mul,Addr.add,if_true]at h10
      have hs:a.spot=none:=by
       unfold World.cell? at h10
       split at h10
       ·split at h10
        ·simp at h10
        ·rename_i hsp;simpa using hsp
       ·simp at h10
      have hblk:a.block<w.heap.size:=by
       unfold World.cell? at h10
       split at h10
       ·rename_i hh;exact(Array.getElem?_eq_some_iff.1 hh).1
       ·simp at h10
      refine⟨a.block,a.off,hblk,by cases a;simp only at hs;subst hs;rfl,?_⟩
      rw[RepR_iff]
      intro i r hr
      obtain⟨⟨g1,_⟩,ci,g2,g3,g4⟩:=hrows i r hr
      refine⟨g1,?_⟩
      rw[RepS_iff]
      intro j p hp
      obtain⟨v,hv,hrep⟩:=(g2.2 β m).get hp
      have hj:j<P.cellsOf e:=by rw[← g3];exact(List.getElem?_eq_some_iff.1 hv).1
      refine⟨v,?_,g2.1 v (List.mem_of_getElem? hv),hrep⟩
      rw[← hv, ← g4 j hj]
      congr 1
      cases a
      simp only at hs;subst hs
      simp only[Addr.add]
      split<;>split<;>simp_all<;>omega
    ·have hb5:=bulkR_le rows (elems.map (·.1)) (by simp[hrl,hlen]) fun i r hr=>(hrows i r hr).1.2.2
     simp only[PV.bulkL,PV.bulk,Rows.uptoBulk]
     omega
  ·rename_i fs hu
   simp only[Bool.and_eq_true,List.all_eq_true]at h
   obtain⟨xs,n,hfu,rfl,hcl,hxl,hp⟩:=DataW.trod_struct hu hx
   obtain rfl:c=n:=by omega
   have hpt:partsT P t=fs.toList.map fun f=>(f.offset,f.type):=by unfold partsT;rw[hu]
   obtain⟨ps,h1,h2,h30⟩:=parts_rep5 (w:=w) (c:=c) (cs:=cs) (partsT P t) (xs.map (·.1)) 0 (by rw[hcl];exact h.1) (fun i p hi=>by
    have hcv:=h.2 p (List.mem_of_getElem? hi)
    rw[hpt]at hi
    rw[List.getElem?_map,Option.map_eq_some_iff]at hi
    obtain⟨f,hf,rfl⟩:=hi
    have hf':fs[i]? =some f:=by simpa using hf
    have hi':i<xs.length:=by
     rw[hxl]
     exact(Array.getElem?_eq_some_iff.1 hf').1
    have h3:=hp i f hf'
    rw[List.getElem?_eq_getElem hi']at h3
    exact⟨xs[i].1,by rw[List.getElem?_map,List.getElem?_eq_getElem hi'];try rfl,arg_rec5 hT c f.type hcv _ _ h3 (fun m hm=>hw m (by
     simp only[DataW.weights,hu]
     exact DataW.weights_mem_each (j:=i) (t:=f.type) (d:=xs[i].1) (by rw[List.getElem?_map,hf];try rfl) (by rw[List.getElem?_map,List.getElem?_eq_getElem hi'];try rfl) m hm))⟩)
   refine⟨ps,?_,by simpa using h1,by simp only[Rows.uptoBulk];omega⟩
   unfold Arg;rw[hu]
   exact⟨by rw[h1.len,List.drop_zero,hcl],fun p hpm=>by simpa using h2 p hpm⟩
  ·rename_i k e hu
   simp only[Bool.and_eq_true,List.all_eq_true]at h
   obtain⟨xs,n,hfu,rfl,hcl,hxl,hp⟩:=DataW.trod_array hu hx
   obtain rfl:c=n:=by omega
   have hpt:partsT P t=(List.range k).map fun i=>(i*P.cellsOf e,e):=by unfold partsT;rw[hu]
   obtain⟨ps,h1,h2,h30⟩:=parts_rep5 (w:=w) (c:=c) (cs:=cs) (partsT P t) (xs.map (·.1)) 0 (by rw[hcl];exact h.1) (fun i p hi=>by
    have hcv:=h.2 p (List.mem_of_getElem? hi)
    rw[hpt,List.getElem?_map,Option.map_eq_some_iff]at hi
    obtain⟨j,hj,rfl⟩:=hi
    obtain⟨hjk,rfl⟩:=List.getElem?_range_some hj
    have hi':i<xs.length:=by rw[hxl];exact hjk
    have h3:=hp i hjk
    rw[List.getElem?_eq_getElem hi']at h3
    exact⟨xs[i].1,by rw[List.getElem?_map,List.getElem?_eq_getElem hi'];try rfl,arg_rec5 hT c e hcv _ _ h3 (fun m hm=>hw m (by
     simp only[DataW.weights,hu]
     exact weightsAll_mem (i:=i) (d:=xs[i].1) (by rw[List.getElem?_map,List.getElem?_eq_getElem hi'];try rfl) hm))⟩)
   refine⟨ps,?_,by simpa using h1,by simp only[Rows.uptoBulk];omega⟩
   unfold Arg;rw[hu]
   exact⟨by rw[h1.len,List.drop_zero,hcl],fun p hpm=>by simpa using h2 p hpm⟩
  ·simp at h
theorem arg_value5{Ts:List TypeId}(hT:covC P Ts=true){t:TypeId}(ht:Ts.contains t=true){fs:Array Field}(hu:P.underlying t=some (.struct fs)){v:Value}{d:DataW H}{pl:List MemPlace}
  (h:DataW.Trod enc P w 0 sp held t v d pl)(hv: ∃ base,Value.okWide P w .any base t v)(hw: ∀ n∈d.weights P t,n≤reachBytes):
  ∃ c ps,Arg P c t ps∧(∀ β n,Rep β n (fun b=>b<w.heap.size) w (.agg ps) v)∧PV.bulkL ps≤Rows.uptoBulk d:=by
 obtain⟨fuel,hf⟩:=h
 obtain⟨ps,h1,h2,h3⟩:=arg_rec5 hT fuel t ht _ _ hf hw
 obtain⟨base,hv⟩:=hv
 unfold Value.okWide at hv
 simp only[hu]at hv
 obtain⟨cs,rfl,_⟩:=hv
 refine⟨fuel,ps,h1,fun β n=>?_,h3⟩
 simp only[Rep]
 exact⟨cs.toList,by simp,h2.1,h2.2 β n⟩
end
end Go.AM
namespace Go.AM
theorem bulkR_strs: ∀ l:List ByteArray,l.length≤PV.bulkR (strRows l)
 |[]=>by simp
 |s::l=>by
  have:=bulkR_strs l
  simp only[strRows,List.map_cons,PV.bulkR,PV.bulkL,PV.bulk,List.length_cons]at this⊢
  omega
mutual
theorem Ex.small_bulk: ∀ (e:Ex),PV.bulkL e.cells≤1048576→e.small
 | .mk op name n args kids,h=>by
  simp only[Ex.cells,PV.bulkL,PV.bulk]at h
  simp only[Ex.small]
  have:=bulkR_strs args
  exact⟨by omega,Ex.smalls_bulk kids (by omega)⟩
theorem Ex.smalls_bulk: ∀ (l:List Ex),PV.bulkR (Ex.rows l)≤1048576→Ex.smalls l
 |[],_=>by simp[Ex.smalls]
 |k::ks,h=>by
  simp only[Ex.rows,PV.bulkR]at h
  simp only[Ex.smalls]
  exact⟨Ex.small_bulk k (by omega),Ex.smalls_bulk ks (by omega)⟩
end
end Go.AM
namespace Go.Proofs.Ytjlkapgpjamnkaa
open Go.AM
end Go.Proofs.Ytjlkapgpjamnkaa
namespace Go.AM
theorem bulkR_pms: ∀ l:List Pm,2*l.length≤PV.bulkR (pmRows l)
 |[]=>by simp
 |s::l=>by
  have:=bulkR_pms l
  simp only[pmRows,pmRow,List.map_cons,PV.bulkR,PV.bulkL,PV.bulk,List.length_cons]at this⊢
  omega
theorem bulkR_fms: ∀ l:List Fm,l.length≤PV.bulkR (Fm.rows l)
 |[]=>by simp
 |s::l=>by
  have:=bulkR_fms l
  cases s
  simp only[Fm.rows,Fm.cells,PV.bulkR,PV.bulkL,PV.bulk,List.length_cons]at this⊢
  omega
mutual
theorem Fm.small_bulk: ∀ (f:Fm),PV.bulkL f.cells≤1048576→f.small
 | .mk op name args params exprs kids,h=>by
  simp only[Fm.cells,PV.bulkL,PV.bulk]at h
  simp only[Fm.small]
  have:=bulkR_strs args
  have:=bulkR_pms params
  have:=bulkR_fms kids
  exact⟨by omega,by omega,Ex.smalls_bulk exprs (by omega),by omega,Fm.smalls_bulk kids (by omega)⟩
theorem Fm.smalls_bulk: ∀ (l:List Fm),PV.bulkR (Fm.rows l)≤1048576→Fm.smalls l
 |[],_=>by simp[Fm.smalls]
 |k::ks,h=>by
  simp only[Fm.rows,PV.bulkR]at h
  simp only[Fm.smalls]
  exact⟨Fm.small_bulk k (by omega),Fm.smalls_bulk ks (by omega)⟩
end
end Go.AM
namespace Go.Proofs.Ytjlkapgpjamnkaa
open Go.AM
end Go.Proofs.Ytjlkapgpjamnkaa
namespace Go.Proofs.Ytjlkapgpjamnkaa
open Go.AM
theorem shapedF_kid{op name:ByteArray}{args:List ByteArray}{params:List Pm}{exprs:List Ex}{kids:List Fm}(h:shapedF (.mk op name args params exprs kids)=true):(∀ e∈exprs,shapedE e=true)∧ ∀ k∈kids,shapedF k=true:=by
 simp only[shapedF,Bool.and_eq_true]at h
 exact⟨List.all_eq_true.1 h.1.2,shapedFs_iff.1 h.2⟩
end Go.Proofs.Ytjlkapgpjamnkaa
namespace Go.Proofs.Ytjlkapgpjamnkaa
open Go.AM
set_option maxHeartbeats 4000000
set_option maxRecDepth 20000
theorem bulk_memF: ∀ {l:List Fm}{k:Fm},k∈l→PV.bulkL k.cells≤PV.bulkR (Fm.rows l)
 |[],_,h=>by simp at h
 |x::l,k,h=>by
  simp only[Fm.rows,PV.bulkR]
  rcases List.mem_cons.1 h with rfl|h
  ·omega
  ·have:=bulk_memF h;omega
theorem bulkR_exs: ∀ l:List Ex,l.length≤PV.bulkR (Ex.rows l)
 |[]=>by simp
 |s::l=>by
  have:=bulkR_exs l
  cases s
  simp only[Ex.rows,Ex.cells,PV.bulkR,PV.bulkL,PV.bulk,List.length_cons]at this⊢
  omega
theorem fmRows_set(l:List Fm)(k:Nat)(e:Fm):(Fm.rows l).set k e.cells=Fm.rows (l.set k e):=by simp[Fm.rows_map,List.map_set]
theorem bindF_c: ∀ f:Fm,f.small→shapedF f=true→ ∀ {bound:List ByteArray}{T:PV}{to:ByteArray→Option ByteArray},bound.length+PV.bulkL f.cells≤1099511627776→ ∀ {h:Heap},MapAt h T to→
  PCall Try.prog 82 [.agg f.cells,T,.imm 1 (strRows bound)] h fun r h'=>r= .agg (bindFm to f bound).cells∧h'=h:=by
 refine Fm.ind ?_
 intro op name args params exprs kids ih hsm hsh bound T to hb h hT
 simp only[Fm.small]at hsm
 obtain⟨hal,hpl,hes,hkl,hks⟩:=hsm
 rw[Ex.smalls_iff]at hes
 rw[Fm.smalls_iff]at hks
 have hbk:=hb
 simp only[Fm.cells,PV.bulkL,PV.bulk]at hbk
 obtain⟨hse,hsk⟩:=shapedF_kid hsh
 have hkb: ∀ k∈kids,PV.bulkL k.cells≤PV.bulkR (Fm.rows kids):=fun k hk=>bulk_memF hk
 have hel:exprs.length≤1099511627776:=Nat.le_trans (bulkR_exs exprs) (by omega)
 have hpb:=bulkR_pms params
 have hlE:=Ex.rows_len exprs
 have hlP:=pmRows_len params
 have hlK:=Fm.rows_len kids
 have hbb:bound.length≤bigN:=by unfold bigN;omega
 have hb2: ∀ k∈kids,(bound++params.map Pm.name).length+PV.bulkL k.cells≤1099511627776:=fun k hk=>by
  have:=hkb k hk
  simp only[List.length_append,List.length_map];omega
 refine PCall.frz Ty.hb_82 ?_
 have hrp:=fun{H:Heap}(hg:Grow h H)=>replaced_c (l:=args) (bound:=bound) hal hbb (hT.grow hg)
 have hB:bindFm to (.mk op name args params exprs kids) bound= .mk op name (args.map (replS to bound)) params (exprs.map (bindEx to bound)) (kids.map (bindFm to · (bound++params.map Pm.name))):=by simp only[bindFm,bindExs_map,bindFms_map]
 rw[hB]
 clear hB
 generalize args.map (replS to bound)=args2 at hrp
 simp only[Fm.cells]
 refine pcall_body (ow:=fun t=>t==3) (wf:=fun f=>f==127||f==128) Ty.mixed Try.func82 rfl Ty.hb_82 (by rw[Try.ntmps82];simp) ?_
 rw[Try.ntmps82,Try.results82]
 repeat'(first|refine a_seq fun K hK=>?_|(refine a_regionS ?_;simp(maxSteps:=2000000) only[Ty.w,simprocAttr,nsucc])|(refine hK _ _ ?_;clear hK;try simp only[pst0,simprocAttr]))
 refine owp_useQ (hrp (((Grow.refl h).new _).new _)) (by(try simp only[Ty.w,simprocAttr,nsucc]);try rfl) ?_;simp(maxSteps:=2000000) only[Ty.w,simprocAttr,nsucc]
 repeat'(first|(with_reducible refine a_hold 2 ?_)|refine a_seq fun K hK=>?_|(refine hK _ _ ?_;clear hK;try simp only[pst0,simprocAttr]))
 refine a_gen (fun S H=>S 1=T∧S 2= .imm 1 (strRows bound)∧S 3= .ptr h.next 0 0∧S 6= .ptr (h.next+1) 0 0∧Grow h H∧h.next+2≤H.next∧
  H.obj h.next=some (.arr 6 [[sPV op,sPV name,.imm 1 (strRows args2),.imm 2 (pmRows params),.imm 5 (Ex.rows exprs),.imm 6 (Fm.rows kids)]])∧
  H.obj (h.next+1)=some (.arr 6 [[.sc (.string ⟨#[]⟩),.sc (.string ⟨#[]⟩),.sc (.slice none 0 0),.sc (.slice none 0 0),.sc (.slice none 0 0),.sc (.slice none 0 0)]])) ?_ ?_
 ·simp only[Ty.w,simprocAttr]
  refine⟨(((Grow.refl h).new _).new _).set (Nat.le_refl _) _,?_⟩
  simp[Heap.new,Heap.set]
 rintro S H ⟨g1,g2,g3,g6,gH,nH,k0,k1⟩
 obtain⟨vE,HE,cE,gE,-,tE⟩:=cloneE_d hel H
 obtain⟨vF,HF,cF,gF,-,tF⟩:=cloneF_d (l:=kids) (by omega) HE
 have k0E:HE.obj h.next=some (.arr 6 [[sPV op,sPV name,.imm 1 (strRows args2),.imm 2 (pmRows params),.imm 5 (Ex.rows exprs),.imm 6 (Fm.rows kids)]]):=by rw[gE.old _ (by omega)];exact k0
 have k0F:HF.obj h.next=some (.arr 6 [[sPV op,sPV name,.imm 1 (strRows args2),.imm 2 (pmRows params),.imm 5 (Ex.rows exprs),.imm 6 (Fm.rows kids)]]):=by rw[gF.old _ (by have:=gE.le;omega)];exact k0E
 have k1F:HF.obj (h.next+1)=some (.arr 6 [[.sc (.string ⟨#[]⟩),.sc (.string ⟨#[]⟩),.sc (.slice none 0 0),.sc (.slice none 0 0),.sc (.slice none 0 0),.sc (.slice none 0 0)]]):=by rw[gF.old _ (by have:=gE.le;omega),gE.old _ (by omega)];exact k1
 have cP:=fun H=>cloneP_q (l:=params) (by omega) H
 obtain⟨pE1,pE2⟩:=tE.pc
 obtain⟨pF1,pF2⟩:=tF.pc
 refine a_cutK (fun S h2=>S 1=T∧S 2= .imm 1 (strRows bound)∧S 3= .ptr h.next 0 0∧S 6= .ptr (h.next+1) 0 0∧h2=HF.set h.next (.arr 6 [[sPV op,sPV name,.imm 1 (strRows args2),.imm 2 (pmRows params),vE,vF]])) ?_ ?_
 ·repeat' (refine a_drawS (by decide+kernel) ?_;simp(maxSteps:=2000000) only[Ty.w,simprocAttr,g1,g2,g3,g6,k0])
  have W:=And.intro g1 (And.intro g2 (And.intro g3 (And.intro g6 (And.intro k0 (And.intro k0E k0F)))))
  (first|refine a_dcall0 (cP _) (by(try simp only[Ty.w,simprocAttr,W]);try rfl) ?_|refine a_dcallA (cP _) (by(try simp only[Ty.w,simprocAttr,W]);try rfl) (by simp only[Ty.w,simprocAttr,W];try trivial) ?_);simp(maxSteps:=2000000) only[Ty.w,simprocAttr,W,Option.getD_some]
  refine a_dcallW (cE) (by(try simp only[Ty.w,simprocAttr,W]);try rfl) (by simp only[Ty.w,simprocAttr,pastC,List.map_cons,List.map_nil,List.forall_mem_cons];(repeat' apply And.intro)<;>first|trivial|exact .inl (by decide+kernel)|skip) ?_;simp(maxSteps:=2000000) only[Ty.w,simprocAttr,W,Option.getD_some]
  refine⟨fun x hx=> .inr (by rw[List.mem_singleton.1 hx];simp(maxSteps:=2000000) only[Ty.w,simprocAttr,W,Ty.all]),?_⟩
  refine a_dcallW (cF) (by(try simp only[Ty.w,simprocAttr,W]);try rfl) (by simp only[Ty.w,simprocAttr,pastC,List.map_cons,List.map_nil,List.forall_mem_cons];(repeat' apply And.intro)<;>first|trivial|exact .inl (by decide+kernel)|skip) ?_;simp(maxSteps:=2000000) only[Ty.w,simprocAttr,W,Option.getD_some]
  repeat'(with_reducible refine a_past2 (by simp only[List.forall_mem_cons,Ty.w,simprocAttr,g1,g2,g3,g6,k0,k0E,k0F,pE1,pE2,pF1,pF2,putC]<;>(repeat' apply And.intro)<;>first|trivial|exact .inl (by decide+kernel)) ?_;try simp(maxSteps:=2000000) only[Ty.w,simprocAttr,W,pE1,pE2,pF1,pF2,putC])
  simp only[set_set]
 ·rintro S' h2 ⟨g1,g2,g3,g6,rfl⟩
  have gX:Grow h (HF.set h.next (.arr 6 [[sPV op,sPV name,.imm 1 (strRows args2),.imm 2 (pmRows params),vE,vF]])):=((gH.trans gE).trans gF).set (Nat.le_refl _) _
  have nX:HE.next≤(HF.set h.next (.arr 6 [[sPV op,sPV name,.imm 1 (strRows args2),.imm 2 (pmRows params),vE,vF]])).next:=gF.le
  have o1:(HF.set h.next (.arr 6 [[sPV op,sPV name,.imm 1 (strRows args2),.imm 2 (pmRows params),vE,vF]])).obj h.next=some (.arr 6 [[sPV op,sPV name,.imm 1 (strRows args2),.imm 2 (pmRows params),vE,vF]]):=by simp[Heap.set]
  have o2:(HF.set h.next (.arr 6 [[sPV op,sPV name,.imm 1 (strRows args2),.imm 2 (pmRows params),vE,vF]])).obj (h.next+1)=some (.arr 6 [[.sc (.string ⟨#[]⟩),.sc (.string ⟨#[]⟩),.sc (.slice none 0 0),.sc (.slice none 0 0),.sc (.slice none 0 0),.sc (.slice none 0 0)]]):=by
   simp only[Heap.set];rw[if_neg (by omega)];exact k1F
  have bE: ∀ id off len,vE= .own id off len→id<HE.next:=by
   rintro id off len rfl
   rcases tE with⟨_,q⟩|⟨_,_,q2,q3,_⟩
   ·simp at q
   ·simp only[PV.own.injEq]at q3;rw[q3.1];exact q2
  have nE:h.next+2≤HE.next:=by have:=gE.le;omega
  have tE2:Cl (HF.set h.next (.arr 6 [[sPV op,sPV name,.imm 1 (strRows args2),.imm 2 (pmRows params),vE,vF]])) (h.next+2) 5 vE (Ex.rows exprs):=Cl.up (tE.low nH) gF.le fun j hj hj2=>by
   simp only[Heap.set];rw[if_neg (by omega)];exact gF.old _ hj2
  have tF2:Cl (HF.set h.next (.arr 6 [[sPV op,sPV name,.imm 1 (strRows args2),.imm 2 (pmRows params),vE,vF]])) HE.next 6 vF (Fm.rows kids):=Cl.up tF (Nat.le_refl _) fun j hj hj2=>by
   simp only[Heap.set];rw[if_neg (by omega)]
  generalize HF.set h.next (.arr 6 [[sPV op,sPV name,.imm 1 (strRows args2),.imm 2 (pmRows params),vE,vF]])=h2 at gX nX o1 o2 tE2 tF2⊢
  generalize HE.next=M at nX bE nE tF2
  clear tE tF k0 k1 k0E k0F k1F cE cF gE gF gH nH cP hrp
  clear HE HF H
  have hslE:=tE2.sl
  have hloE: ∀ H,lenP H vE=some exprs.length:=fun H=>by rw[lenP_sl hslE H,hlE]
  have hlkE:=hslE.lk
  have hslF:=tF2.sl
  have hloF: ∀ H,lenP H vF=some kids.length:=fun H=>by rw[lenP_sl hslF H,hlK]
  have hlkF:=hslF.lk
  repeat'(first|refine a_seq fun K hK=>?_|(refine a_block ?_)|(refine a_regionS ?_;simp(maxSteps:=2000000) only[Ty.w,simprocAttr,g1,g2,g3,g6,o1,pE1,pE2,pF1,pF2,hloE,hlkE])|(refine hK _ _ ?_;clear hK;try simp only[pst0,simprocAttr]))
  refine a_loop (fun m S h'=>S 1=T∧S 2= .imm 1 (strRows bound)∧S 3= .ptr h.next 0 0∧S 6= .ptr (h.next+1) 0 0∧S 30=vE∧S 31= .sc (.int .i64 exprs.length)∧ ∃ k:Nat,S 32= .sc (.int .i64 k)∧k≤exprs.length∧m=exprs.length-k∧Grow h h'∧M≤h'.next∧
   h'.obj h.next=some (.arr 6 [[sPV op,sPV name,.imm 1 (strRows args2),.imm 2 (pmRows params),vE,vF]])∧h'.obj (h.next+1)=some (.arr 6 [[.sc (.string ⟨#[]⟩),.sc (.string ⟨#[]⟩),.sc (.slice none 0 0),.sc (.slice none 0 0),.sc (.slice none 0 0),.sc (.slice none 0 0)]])∧
   Cl h' (h.next+2) 5 vE (Ex.rows ((exprs.take k).map (bindEx to bound)++exprs.drop k))∧Cl h' M 6 vF (Fm.rows kids)) exprs.length ?_ ?_
  ·simp only[Ty.w,simprocAttr]
   exact⟨g1,g2,g3,g6,0,rfl,by omega,rfl,gX,nX,o1,o2,by simpa using tE2,tF2⟩
  ·clear gX nX o1 o2 tE2 tF2 hslE hloE hlkE
   rintro m S h' ⟨g1,g2,g3,g6,g30,g31,k,g32,hk,rfl,hg,hn,o1,o2,tE,tF⟩
   by_cases hlt:k<exprs.length
   ·have hd:decide ((k:Int)<(exprs.length:Int))=true:=by simp;omega
    have w7:IntKind.i64.wrap ((k:Int)+1)=k+1:=by rw[wrap64 (by omega) (by omega)]
    obtain⟨x,hx⟩: ∃ x,exprs[k]? =some x:=⟨_,List.getElem?_eq_getElem hlt⟩
    have hmem:=List.mem_of_getElem? hx
    have hc:=fun{H:Heap}(hgH:Grow h H)=>bindE_c x (hes x hmem) (hse x hmem) hbb (hT.grow hgH)
    obtain⟨m1,m2⟩:=mixG_get (g:=bindEx to bound) hx
    have hlen:((exprs.take k).map (bindEx to bound)++exprs.drop k).length=exprs.length:=by simp;omega
    have hlen2:((exprs.take (k+1)).map (bindEx to bound)++exprs.drop (k+1)).length=exprs.length:=by simp;omega
    have hr:=Ex.rows_get m1
    obtain⟨id,i1,i2,rfl,i4⟩: ∃ id,h.next+2≤id∧id<h'.next∧vE= .own id 0 exprs.length∧h'.obj id=some (.arr 5 (Ex.rows ((exprs.take k).map (bindEx to bound)++exprs.drop k))):=by
     rcases tE with⟨hn0,_⟩|⟨id,i1,i2,i3,i4⟩
     ·have:=congrArg List.length hn0
      rw[Ex.rows_len,hlen]at this
      simp only[List.length_nil]at this;omega
     ·rw [Ex.rows_len,hlen]at i3;exact⟨id,i1,i2,i3,i4⟩
    have i3:=bE id 0 exprs.length rfl
    clear tE
    have hset:(Ex.rows ((exprs.take k).map (bindEx to bound)++exprs.drop k)).set k (bindEx to bound x).cells=Ex.rows ((exprs.take (k+1)).map (bindEx to bound)++exprs.drop (k+1)):=by rw[exRows_set,m2]
    have hrl:(Ex.rows ((exprs.take (k+1)).map (bindEx to bound)++exprs.drop (k+1))).length=exprs.length:=by rw[Ex.rows_len,hlen2]
    generalize Ex.rows ((exprs.take k).map (bindEx to bound)++exprs.drop k)=R at i4 hr hset
    generalize bindEx to bound x=y at hc hset
    obtain⟨xo,xn,xv,xa,xk⟩:=x
    obtain⟨yo,yn,yv,ya,yk⟩:=y
    simp only[Ex.cells]at hr hc hset
    have e1:(h.next=h'.next)=False:=by simp;omega
    have e2:(id=h'.next)=False:=by simp;omega
    have hgX: ∀ o o2,Grow h ((h'.new o).set h'.next o2):=fun o o2=>(hg.new _).set hg.le _
    have W:=And.intro g1 (And.intro g2 (And.intro g3 (And.intro g6 (And.intro g30 (And.intro g31 (And.intro g32 (And.intro i4 (And.intro hr (And.intro hlt (And.intro o1 (And.intro e1 e2)))))))))))
    repeat'(first|refine a_seq fun K hK=>?_|((first|refine a_regionS ?_|refine a_draw (by decide+kernel) (fun K hK=>?_));simp(maxSteps:=2000000) only[Ty.w,simprocAttr,W,hd])|(refine a_skip ?_;try simp only[pst0,simprocAttr])|(refine a_cond _ (by(try simp(maxSteps:=2000000) only[Ty.w,simprocAttr,W,hd]);rfl) (fun hb=>?_) (fun hb=>?_)<;>(try simp only[hb0,decide_eq_true_eq,decide_eq_false_iff_not,simprocAttr]at hb)<;>(try(exfalso;omega)))|(refine hK _ _ ?_;clear hK;try simp only[pst0,simprocAttr]))
    (first|refine a_dcall0 (hc (hgX _ _)) (by(try simp only[Ty.w,simprocAttr,W]);try rfl) ?_|refine a_dcallA (hc (hgX _ _)) (by(try simp only[Ty.w,simprocAttr,W]);try rfl) (by simp only[Ty.w,simprocAttr,W];try trivial) ?_);simp(maxSteps:=2000000) only[Ty.w,simprocAttr,W,Option.getD_some]
    repeat'(first|(refine a_regionS ?_;simp(maxSteps:=2000000) only[Ty.w,simprocAttr,W,w7,putC,hset])|(refine hK _ _ ?_;clear hK;try simp only[pst0,simprocAttr])|(with_reducible refine a_past2 (by simp only[List.forall_mem_cons,Ty.w,simprocAttr,g1,g2,g3,g6,g30,g31,g32,i4,hr,hlt,o1,e1,e2,w7,putC,hset]<;>(repeat' apply And.intro)<;>first|trivial|exact .inl (by decide+kernel)) ?_;try simp(maxSteps:=2000000) only[Ty.w,simprocAttr,W,w7,putC,hset]))
    refine⟨exprs.length-(k+1),by omega,k+1,by simp,by omega,rfl,(hgX _ _).set (by omega) _,by first|omega|(simp[Heap.new,Heap.set];omega),?_,?_,?_,?_⟩
    ·rw [if_neg (by omega)]
    ·rw [if_neg (by omega),if_neg (by omega),if_neg (by omega)];exact o2
    ·exact .inr ⟨id,i1,by first|omega|(simp[Heap.new,Heap.set];omega),by rw[hrl],by simp[Heap.set]⟩
    ·refine tF.up (by simp[Heap.new,Heap.set]) fun j hj hj2=>?_
     simp only[Heap.new,Heap.set];rw[if_neg (by omega),if_neg (by omega),if_neg (by omega)]
   ·have hd:decide ((k:Int)<(exprs.length:Int))=false:=by simp;omega
    have hke2:k=exprs.length:=by omega
    subst hke2
    rw[List.take_length,List.drop_length,List.append_nil]at tE
    have hin:=fun H=>inner_g (a:=op) (b:=name) (c:= .imm 1 (strRows args2)) (e:=vE) (f:=vF) (params:=params) (bound:=bound) ⟨rfl,rfl⟩ ⟨pE1,pE2⟩ ⟨pF1,pF2⟩ (by omega) H
    repeat'(first|refine a_seq fun K hK=>?_|(refine a_regionS ?_;simp(maxSteps:=2000000) only[Ty.w,simprocAttr,g1,g2,g3,g6,g30,g31,g32,hd,o1,pE1,pE2,pF1,pF2])|(refine a_exit ?_;try simp only[pst0,simprocAttr])|(refine a_cond _ (by(try simp(maxSteps:=2000000) only[Ty.w,simprocAttr,g1,g2,g3,g6,g30,g31,g32,hd,o1,pE1,pE2,pF1,pF2]);rfl) (fun hb=>?_) (fun hb=>?_)<;>(try simp only[hb0,decide_eq_true_eq,decide_eq_false_iff_not,simprocAttr]at hb)<;>(try(exfalso;omega)))|((first|refine hK _ _ ?_|(clear hK;refine hK _ _ ?_));clear hK;try simp only[pst0,simprocAttr]))
    refine owp_useQ (hin _) (by(try simp only[Ty.w,simprocAttr,g1,g2,g3,g6]);try rfl) ?_;simp(maxSteps:=2000000) only[Ty.w,simprocAttr,g1,g2,g3,g6]
    repeat'(first|refine a_seq fun K hK=>?_|(refine a_block ?_)|(refine a_regionS ?_;simp(maxSteps:=2000000) only[Ty.w,simprocAttr,g1,g2,g3,g6,o1,pF1,pF2,hloF,hlkF])|(refine hK _ _ ?_;clear hK;try simp only[pst0,simprocAttr]))
    clear hd hlt
    refine a_loop (fun m S h'=>S 1=T∧S 2= .imm 1 (strRows (bound++params.map Pm.name))∧S 3= .ptr h.next 0 0∧S 6= .ptr (h.next+1) 0 0∧S 50=vF∧S 51= .sc (.int .i64 kids.length)∧ ∃ k:Nat,S 52= .sc (.int .i64 k)∧k≤kids.length∧m=kids.length-k∧Grow h h'∧M≤h'.next∧
     h'.obj h.next=some (.arr 6 [[sPV op,sPV name,.imm 1 (strRows args2),.imm 2 (pmRows params),vE,vF]])∧h'.obj (h.next+1)=some (.arr 6 [[.sc (.string ⟨#[]⟩),.sc (.string ⟨#[]⟩),.sc (.slice none 0 0),.sc (.slice none 0 0),.sc (.slice none 0 0),.sc (.slice none 0 0)]])∧
     Cl h' (h.next+2) 5 vE (Ex.rows (exprs.map (bindEx to bound)))∧Cl h' M 6 vF (Fm.rows ((kids.take k).map (bindFm to · (bound++params.map Pm.name))++kids.drop k))) kids.length ?_ ?_
    ·simp only[Ty.w,simprocAttr]
     exact⟨g1,g3,g6,0,rfl,by omega,rfl,hg,hn,o1,o2,tE,by simpa using tF⟩
    ·clear hg hn o1 o2 tE tF hslF hloF hlkF hin g1 g2 g3 g6 g30 g31 g32
     clear hk
     rintro m S h' ⟨g1,g2,g3,g6,g50,g51,k,g52,hk,rfl,hg,hn,o1,o2,tE,tF⟩
     by_cases hlt:k<kids.length
     ·have hd:decide ((k:Int)<(kids.length:Int))=true:=by simp;omega
      have w7:IntKind.i64.wrap ((k:Int)+1)=k+1:=by rw[wrap64 (by omega) (by omega)]
      obtain⟨x,hx⟩: ∃ x,kids[k]? =some x:=⟨_,List.getElem?_eq_getElem hlt⟩
      have hmem:=List.mem_of_getElem? hx
      have hc:=fun{H:Heap}(hgH:Grow h H)=>ih x hmem (hks x hmem) (hsk x hmem) (hb2 x hmem) (hT.grow hgH)
      obtain⟨m1,m2⟩:=mixG_get (g:=(bindFm to · (bound++params.map Pm.name))) hx
      have hlen:((kids.take k).map (bindFm to · (bound++params.map Pm.name))++kids.drop k).length=kids.length:=by simp;omega
      have hlen2:((kids.take (k+1)).map (bindFm to · (bound++params.map Pm.name))++kids.drop (k+1)).length=kids.length:=by simp;omega
      have hr:=Fm.rows_get m1
      obtain⟨id,i1,i2,rfl,i4⟩: ∃ id,M≤id∧id<h'.next∧vF= .own id 0 kids.length∧h'.obj id=some (.arr 6 (Fm.rows ((kids.take k).map (bindFm to · (bound++params.map Pm.name))++kids.drop k))):=by
       rcases tF with⟨hn0,_⟩|⟨id,i1,i2,i3,i4⟩
       ·have:=congrArg List.length hn0
        rw[Fm.rows_len,hlen]at this
        simp only[List.length_nil]at this;omega
       ·rw [Fm.rows_len,hlen]at i3;exact⟨id,i1,i2,i3,i4⟩
      clear tF
      have hset:(Fm.rows ((kids.take k).map (bindFm to · (bound++params.map Pm.name))++kids.drop k)).set k (bindFm to x (bound++params.map Pm.name)).cells=Fm.rows ((kids.take (k+1)).map (bindFm to · (bound++params.map Pm.name))++kids.drop (k+1)):=by rw[fmRows_set,m2]
      have hrl:(Fm.rows ((kids.take (k+1)).map (bindFm to · (bound++params.map Pm.name))++kids.drop (k+1))).length=kids.length:=by rw[Fm.rows_len,hlen2]
      generalize Fm.rows ((kids.take k).map (bindFm to · (bound++params.map Pm.name))++kids.drop k)=R at i4 hr hset
      generalize bindFm to x (bound++params.map Pm.name)=y at hc hset
      obtain⟨xo,xn,xa,xp,xe,xk⟩:=x
      obtain⟨yo,yn,ya,yp,ye,yk⟩:=y
      simp only[Fm.cells]at hr hc hset
      have e1:(h.next=h'.next)=False:=by simp;omega
      have e2:(id=h'.next)=False:=by simp;omega
      have hgX: ∀ o o2,Grow h ((h'.new o).set h'.next o2):=fun o o2=>(hg.new _).set hg.le _
      have W:=And.intro g1 (And.intro g2 (And.intro g3 (And.intro g6 (And.intro g50 (And.intro g51 (And.intro g52 (And.intro i4 (And.intro hr (And.intro hlt (And.intro o1 (And.intro e1 e2)))))))))))
      repeat'(first|refine a_seq fun K hK=>?_|((first|refine a_regionS ?_|refine a_draw (by decide+kernel) (fun K hK=>?_));simp(maxSteps:=2000000) only[Ty.w,simprocAttr,W,hd])|(refine a_skip ?_;try simp only[pst0,simprocAttr])|(refine a_cond _ (by(try simp(maxSteps:=2000000) only[Ty.w,simprocAttr,W,hd]);rfl) (fun hb=>?_) (fun hb=>?_)<;>(try simp only[hb0,decide_eq_true_eq,decide_eq_false_iff_not,simprocAttr]at hb)<;>(try(exfalso;omega)))|(refine hK _ _ ?_;clear hK;try simp only[pst0,simprocAttr]))
      (first|refine a_dcall0 (hc (hgX _ _)) (by(try simp only[Ty.w,simprocAttr,W]);try rfl) ?_|refine a_dcallA (hc (hgX _ _)) (by(try simp only[Ty.w,simprocAttr,W]);try rfl) (by simp only[Ty.w,simprocAttr,W];try trivial) ?_);simp(maxSteps:=2000000) only[Ty.w,simprocAttr,W,Option.getD_some]
      repeat'(first|(refine a_regionS ?_;simp(maxSteps:=2000000) only[Ty.w,simprocAttr,W,w7,putC,hset])|(refine hK _ _ ?_;clear hK;try simp only[pst0,simprocAttr])|(with_reducible refine a_past2 (by simp only[List.forall_mem_cons,Ty.w,simprocAttr,g1,g2,g3,g6,g50,g51,g52,i4,hr,hlt,o1,e1,e2,w7,putC,hset]<;>(repeat' apply And.intro)<;>first|trivial|exact .inl (by decide+kernel)) ?_;try simp(maxSteps:=2000000) only[Ty.w,simprocAttr,W,w7,putC,hset]))
      refine⟨kids.length-(k+1),by omega,k+1,by simp,by omega,rfl,(hgX _ _).set (by omega) _,by first|omega|(simp[Heap.new,Heap.set];omega),?_,?_,?_,?_⟩
      ·rw [if_neg (by omega)]
      ·rw [if_neg (by omega),if_neg (by omega),if_neg (by omega)];exact o2
      ·refine Cl.keep tE (by simp[Heap.new,Heap.set]) fun j hj hj2=>?_
       have:=bE _ _ _ hj
       simp only[Heap.new,Heap.set];rw[if_neg (by omega),if_neg (by omega),if_neg (by omega)]
      ·exact .inr ⟨id,i1,by first|omega|(simp[Heap.new,Heap.set];omega),by rw[hrl],by simp[Heap.set]⟩
     ·have hd:decide ((k:Int)<(kids.length:Int))=false:=by simp;omega
      have hke2:k=kids.length:=by omega
      subst hke2
      rw[List.take_length,List.drop_length,List.append_nil]at tF
      repeat'(first|refine a_seq fun K hK=>?_|((first|refine a_regionS ?_|refine a_ret ?_);simp(maxSteps:=2000000) only[Ty.w,simprocAttr,g1,g2,g3,g6,g50,g51,g52,hd,o1,o2,pE1,pE2,pF1,pF2])|(refine a_exit ?_;try simp only[pst0,simprocAttr])|(refine a_cond _ (by(try simp(maxSteps:=2000000) only[Ty.w,simprocAttr,g1,g2,g3,g6,g50,g51,g52,hd,o1,o2,pE1,pE2,pF1,pF2]);rfl) (fun hb=>?_) (fun hb=>?_)<;>(try simp only[hb0,decide_eq_true_eq,decide_eq_false_iff_not,simprocAttr]at hb)<;>(try(exfalso;omega)))|((first|refine hK _ _ ?_|(clear hK;refine hK _ _ ?_));clear hK;try simp only[pst0,simprocAttr]))
      refine⟨frz_agg ?_,hg.set (by omega) _⟩
      have tE3:Cl (h'.set (h.next+1) (.arr 6 [[sPV op,sPV name,.imm 1 (strRows args2),.imm 2 (pmRows params),vE,vF]])) (h.next+2) 5 vE (Ex.rows (exprs.map (bindEx to bound))):=tE.up (Nat.le_refl _) fun j hj _=>by simp only[Heap.set];rw[if_neg (by omega)]
      have tF3:Cl (h'.set (h.next+1) (.arr 6 [[sPV op,sPV name,.imm 1 (strRows args2),.imm 2 (pmRows params),vE,vF]])) M 6 vF (Fm.rows (kids.map (bindFm to · (bound++params.map Pm.name)))):=tF.up (Nat.le_refl _) fun j hj _=>by simp only[Heap.set];rw[if_neg (by omega)]
      have h1:=tE3.frz (n:=h.next) fun t=>tl_frzE (by omega) t
      have h2:=tF3.frz (n:=h.next) fun t=>tl_frzF (by omega) t
      unfold FrzL;refine⟨by simp only[FrzTo],?_⟩
      unfold FrzL;refine⟨by simp only[FrzTo],?_⟩
      unfold FrzL;refine⟨by simp only[FrzTo];exact .inl ⟨trivial,strs_in _ _⟩,?_⟩
      unfold FrzL;refine⟨by simp only[FrzTo];exact .inl ⟨trivial,pms_in _ _⟩,?_⟩
      unfold FrzL;refine⟨h1,?_⟩
      unfold FrzL;refine⟨h2,?_⟩
      simp only[FrzL]
end Go.Proofs.Ytjlkapgpjamnkaa
namespace Go.Proofs.Ytjlkapgpjamnkaa
open Go.AM
set_option maxHeartbeats 4000000
set_option maxRecDepth 20000
theorem frz_fm{n:Nat}{H:Heap}{op:ByteArray}{p p' e e' k k':PV}(hp:FrzTo n H p p')(he:FrzTo n H e e')(hk:FrzTo n H k k'):
  FrzTo n H (.agg [sPV op,sPV ⟨#[]⟩,.imm 1 [],p,e,k]) (.agg [sPV op,.sc (.string ⟨#[]⟩),.sc (.slice none 0 0),p',e',k']):=by
 refine frz_agg ?_
 unfold FrzL;refine⟨by simp only[FrzTo],?_⟩
 unfold FrzL;refine⟨by simp only[FrzTo],?_⟩
 unfold FrzL;refine⟨frz_nilslice,?_⟩
 unfold FrzL;refine⟨hp,?_⟩
 unfold FrzL;refine⟨he,?_⟩
 unfold FrzL;refine⟨hk,?_⟩
 simp only[FrzL]
theorem bindE_nil{x:Ex}(hsm:x.small)(hsh:shapedE x=true){H:Heap}{id:Nat}(ho:H.obj id=some (.map []))(hid:id<H.next):
  PCall Try.prog 83 [.agg x.cells,.mp id,.sc (.slice none 0 0)] H fun r h'=>r= .agg x.cells∧h'=H:=by
 refine PCall.nil_imm (z:=1) (pre:=[.agg x.cells,.mp id]) (post:=[]) ?_
 have hm:MapAt H (.mp id) (fun _=>none):=⟨⟨[],by simp only[mview,ho];rfl,fun _=>rfl⟩,fun j e=>by simp only[PV.mp.injEq]at e;subst e;exact hid⟩
 have:=bindE_c x hsm hsh (bound:=[]) (by simp[bigN]) hm
 rw[bindEx_none (fun _=>rfl)]at this
 exact this
theorem less_c{op:ByteArray}{a b:Ex}(ha:a.small)(hsa:shapedE a=true)(hb:b.small)(hsb:shapedE b=true)(h:Heap):
  PCall Try.prog 101 [sPV op,.agg a.cells,.agg b.cells] h fun r h'=>r= .agg (cmpM op a b).cells∧h'=h:=by
 refine PCall.frz Ty.hb_101 ?_
 have hg2:Grow h ((h.new (.arr 6 [[.sc (.string ⟨#[]⟩),.sc (.string ⟨#[]⟩),.sc (.slice none 0 0),.sc (.slice none 0 0),.sc (.slice none 0 0),.sc (.slice none 0 0)]])).new (.map [])):=((Grow.refl h).new _).new _
 have hA:=bindE_nil ha hsa (H:=(h.new (.arr 6 [[.sc (.string ⟨#[]⟩),.sc (.string ⟨#[]⟩),.sc (.slice none 0 0),.sc (.slice none 0 0),.sc (.slice none 0 0),.sc (.slice none 0 0)]])).new (.map [])) (id:=h.next+1) (by simp[Heap.new]) (by simp[Heap.new])
 have hB:=bindE_nil hb hsb (H:=(h.new (.arr 6 [[.sc (.string ⟨#[]⟩),.sc (.string ⟨#[]⟩),.sc (.slice none 0 0),.sc (.slice none 0 0),.sc (.slice none 0 0),.sc (.slice none 0 0)]])).new (.map [])) (id:=h.next+1) (by simp[Heap.new]) (by simp[Heap.new])
 have hia:=exs_in h.next [a,b]
 obtain⟨ao,an,av,aa,ak⟩:=a
 obtain⟨bo,bn,bv,ba,bk⟩:=b
 simp only[cmpM,Fm.cells,Ex.rows,Ex.cells,strRows,pmRows,Fm.rows,List.map_nil]at hA hB hia⊢
 refine pcall_body (ow:=fun _=>false) (wf:=fun _=>false) Ty.mixed Try.func101 rfl Ty.hb_101 (by rw[Try.ntmps101];simp) ?_
 rw[Try.ntmps101,Try.results101]
 repeat'(first|refine a_seq fun K hK=>?_|((first|refine a_regionS ?_|refine a_drawS (by decide+kernel) ?_);simp(maxSteps:=2000000) only[Ty.w,simprocAttr,nsucc])|(refine hK _ _ ?_;clear hK;try simp only[pst0,simprocAttr]))
 (first|refine a_dcall0 (hA) (by(try simp only[Ty.w,simprocAttr,nsucc]);try rfl) ?_|refine a_dcallA (hA) (by(try simp only[Ty.w,simprocAttr,nsucc]);try rfl) (by simp only[Ty.w,simprocAttr,nsucc];try trivial) ?_);simp(maxSteps:=2000000) only[Ty.w,simprocAttr,Option.getD_some,nsucc]
 skip
 (first|refine a_dcall0 (hB) (by(try simp only[Ty.w,simprocAttr,nsucc]);try rfl) ?_|refine a_dcallA (hB) (by(try simp only[Ty.w,simprocAttr,nsucc]);try rfl) (by simp only[Ty.w,simprocAttr,nsucc];try trivial) ?_);simp(maxSteps:=2000000) only[Ty.w,simprocAttr,Option.getD_some,nsucc]
 repeat'(first|(refine a_ret ?_;simp(maxSteps:=2000000) only[Ty.w,simprocAttr,nsucc,putC])|(refine hK _ _ ?_;clear hK;try simp only[pst0,simprocAttr])|(with_reducible refine a_past2 (by simp only[List.forall_mem_cons,Ty.w,simprocAttr,nsucc,putC]<;>(repeat' apply And.intro)<;>first|trivial|exact .inl (by decide+kernel)) ?_;try simp(maxSteps:=2000000) only[Ty.w,simprocAttr,nsucc,putC]))
 exact⟨frz_fm frz_nilslice (frz_imm hia) frz_nilslice,hg2.set (Nat.le_refl _) _⟩
theorem dual_c(op other:ByteArray)(s:Bool)(h:Heap):PCall Try.prog 99 [sPV op,sPV other,.sc (.bool s)] h fun r h'=>r=sPV (dualM op other s)∧h'=h:=by
 cases s with
 |true=>
  refine pcall_body (ow:=fun _=>false) (wf:=fun _=>false) Ty.mixed Try.func99 rfl Ty.hb_99 (by rw[Try.ntmps99];simp) ?_
  rw[Try.ntmps99,Try.results99]
  repeat'(first|refine a_seq fun K hK=>?_|((first|refine a_regionS ?_|refine a_ret ?_);simp(maxSteps:=2000000) only[Ty.w,simprocAttr])|(refine hK _ _ ?_;clear hK;try simp only[pst0,simprocAttr]))
  all_goals first|done|rfl|exact⟨rfl,rfl⟩
 |false=>
  refine pcall_body (ow:=fun _=>false) (wf:=fun _=>false) Ty.mixed Try.func99 rfl Ty.hb_99 (by rw[Try.ntmps99];simp) ?_
  rw[Try.ntmps99,Try.results99]
  repeat'(first|refine a_seq fun K hK=>?_|((first|refine a_regionS ?_|refine a_ret ?_);simp(maxSteps:=2000000) only[Ty.w,simprocAttr])|(refine a_skip ?_;try simp only[pst0,simprocAttr])|(refine a_cond _ (by(try simp(maxSteps:=2000000) only[Ty.w,simprocAttr]);rfl) (fun hb=>?_) (fun hb=>?_)<;>(try simp only[hb0,decide_eq_true_eq,decide_eq_false_iff_not,simprocAttr]at hb)<;>(try(exfalso;omega)))|(refine hK _ _ ?_;clear hK;try simp only[pst0,simprocAttr]))
  all_goals first|done|rfl|exact⟨rfl,rfl⟩
end Go.Proofs.Ytjlkapgpjamnkaa
namespace Go.AM
mutual
def Nz:PV→PV→Prop
 | .imm z rows,p=>(∃ rows',p= .imm z rows'∧NzR rows rows')∨(rows=[]∧(p= .emp∨p= .sc (.slice none 0 0)))
 | .agg l,p=> ∃ l',p= .agg l'∧NzL l l'
 |q,p=>p=q
def NzL:List PV→List PV→Prop
 |[],[]=>True
 |p::ps,q::qs=>Nz p q∧NzL ps qs
 |_,_=>False
def NzR:List (List PV)→List (List PV)→Prop
 |[],[]=>True
 |p::ps,q::qs=>NzL p q∧NzR ps qs
 |_,_=>False
end
theorem NzL.len:(l l':List PV)→NzL l l'→l.length=l'.length
 |[],[],_=>rfl
 |[],_::_,h=>by simp[NzL]at h
 |_::_,[],h=>by simp[NzL]at h
 |p::l,q::l',h=>by
  unfold NzL at h
  simp only[List.length_cons,NzL.len l l' h.2]
theorem NzR.len:(l l':List (List PV))→NzR l l'→l.length=l'.length
 |[],[],_=>rfl
 |[],_::_,h=>by simp[NzR]at h
 |_::_,[],h=>by simp[NzR]at h
 |p::l,q::l',h=>by
  unfold NzR at h
  simp only[List.length_cons,NzR.len l l' h.2]
mutual
theorem Nz.refl:(p:PV)→Nz p p
 | .imm z rows=>by unfold Nz;exact .inl ⟨rows,rfl,NzR.refl rows⟩
 | .agg l=>by unfold Nz;exact⟨l,rfl,NzL.refl l⟩
 | .sc v=>by unfold Nz;rfl
 | .ptr _ _ _=>by unfold Nz;rfl
 | .cptr _=>by unfold Nz;rfl
 | .own _ _ _=>by unfold Nz;rfl
 | .emp=>by unfold Nz;rfl
 | .mp _=>by unfold Nz;rfl
 | .tup _=>by unfold Nz;rfl
 | .fn _ _ _=>by unfold Nz;rfl
 | .ab _ _ _ _ _=>by unfold Nz;rfl
theorem NzL.refl:(l:List PV)→NzL l l
 |[]=>by unfold NzL;trivial
 |p::l=>by unfold NzL;exact⟨Nz.refl p,NzL.refl l⟩
theorem NzR.refl:(l:List (List PV))→NzR l l
 |[]=>by unfold NzR;trivial
 |p::l=>by unfold NzR;exact⟨NzL.refl p,NzR.refl l⟩
end
section
variable {β:Env}{n:Nat}{F:Nat→Prop}{w:World}
mutual
theorem Nz.rep:(q p:PV)→(x:Value)→Nz q p→Rep β n F w p x→Rep β n F w q x
 | .imm z rows,p,x,h,hr=>by
  unfold Nz at h
  rcases h with⟨rows',rfl,hR⟩|⟨rfl,rfl|rfl⟩
  ·simp only[Rep]at hr⊢
   have hl:=NzR.len rows rows' hR
   obtain⟨a,cap,rfl,g1,g2,g3⟩:=hr
   refine⟨a,cap,by rw[hl],by omega,g2,?_⟩
   rcases g3 with g3|⟨b,o,hF,ha,hRR⟩
   ·left
    rw[g3]at hl
    exact List.length_eq_zero_iff.1 hl
   ·exact .inr ⟨b,o,hF,ha,NzR.rep z rows rows' b o hR hRR⟩
  ·simp only[Rep]at hr⊢
   obtain⟨a,rfl⟩:=hr
   exact⟨a,0,rfl,Nat.le_refl _,Nat.zero_le _,.inl trivial⟩
  ·simp only[Rep]at hr⊢
   exact⟨none,0,hr,Nat.le_refl _,Nat.zero_le _,.inl trivial⟩
 | .agg l,p,x,h,hr=>by
  unfold Nz at h
  obtain⟨l',rfl,hl⟩:=h
  simp only[Rep]at hr⊢
  obtain⟨xs,rfl,h1,h2⟩:=hr
  exact⟨xs,rfl,h1,NzL.rep l l' xs hl h2⟩
 | .sc _,p,x,h,hr=>by unfold Nz at h;subst h;exact hr
 | .ptr _ _ _,p,x,h,hr=>by unfold Nz at h;subst h;exact hr
 | .cptr _,p,x,h,hr=>by unfold Nz at h;subst h;exact hr
 | .own _ _ _,p,x,h,hr=>by unfold Nz at h;subst h;exact hr
 | .emp,p,x,h,hr=>by unfold Nz at h;subst h;exact hr
 | .mp _,p,x,h,hr=>by unfold Nz at h;subst h;exact hr
 | .tup _,p,x,h,hr=>by unfold Nz at h;subst h;exact hr
 | .fn _ _ _,p,x,h,hr=>by unfold Nz at h;subst h;exact hr
 | .ab _ _ _ _ _,p,x,h,hr=>by unfold Nz at h;subst h;exact hr
theorem NzL.rep:(l l':List PV)→(xs:List Value)→NzL l l'→RepL β n F w l' xs→RepL β n F w l xs
 |[],[],xs,_,hr=>hr
 |[],_::_,_,h,_=>by simp[NzL]at h
 |_::_,[],_,h,_=>by simp[NzL]at h
 |p::l,q::l',[],_,hr=>by simp[RepL]at hr
 |p::l,q::l',v::xs,h,hr=>by
  unfold NzL at h
  unfold RepL at hr⊢
  exact⟨Nz.rep p q v h.1 hr.1,NzL.rep l l' xs h.2 hr.2⟩
theorem NzS.rep:(l l':List PV)→(b o:Nat)→NzL l l'→RepS β n F w l' b o→RepS β n F w l b o
 |[],[],_,_,_,_=>by unfold RepS;trivial
 |[],_::_,_,_,h,_=>by simp[NzL]at h
 |_::_,[],_,_,h,_=>by simp[NzL]at h
 |p::l,q::l',b,o,h,hr=>by
  unfold NzL at h
  unfold RepS at hr⊢
  obtain⟨⟨v,h1,h2,h3⟩,h4⟩:=hr
  exact⟨⟨v,h1,h2,Nz.rep p q v h.1 h3⟩,NzS.rep l l' b (o+1) h.2 h4⟩
theorem NzR.rep(z:Nat):(l l':List (List PV))→(b o:Nat)→NzR l l'→RepR β n F w z l' b o→RepR β n F w z l b o
 |[],[],_,_,_,_=>by unfold RepR;trivial
 |[],_::_,_,_,h,_=>by simp[NzR]at h
 |_::_,[],_,_,h,_=>by simp[NzR]at h
 |p::l,q::l',b,o,h,hr=>by
  unfold NzR at h
  unfold RepR at hr⊢
  exact⟨⟨by rw[NzL.len p q h.1];exact hr.1.1,NzS.rep p q b o h.1 hr.1.2⟩,NzR.rep z l l' b (o+z) h.2 hr.2⟩
end
end
theorem PCall.nz{P:Program}{f:FuncId}{ys xs:List PV}{h:Heap}{K:PV→Heap→Prop}(hc:PCall P f ys h K)(hz:NzL ys xs):PCall P f xs h K:=
 fun β w vals sm hr=>hc β w vals sm (NzL.rep ys xs vals hz hr)
theorem nz_nil{z:Nat}:Nz (.imm z []) (.sc (.slice none 0 0)):=by unfold Nz;exact .inr ⟨rfl,.inr rfl⟩
theorem nz_imm{z:Nat}{r r':List (List PV)}(h:NzR r r'):Nz (.imm z r) (.imm z r'):=by unfold Nz;exact .inl ⟨_,rfl,h⟩
theorem nz_agg{r r':List PV}(h:NzL r r'):Nz (.agg r) (.agg r'):=by unfold Nz;exact⟨_,rfl,h⟩
theorem nz_cons{p q:PV}{l m:List PV}(h:Nz p q)(h2:NzL l m):NzL (p::l) (q::m):=by unfold NzL;exact⟨h,h2⟩
theorem nzr_cons{p q:List PV}{l m:List (List PV)}(h:NzL p q)(h2:NzR l m):NzR (p::l) (q::m):=by unfold NzR;exact⟨h,h2⟩
end Go.AM
namespace Go.Proofs.Ytjlkapgpjamnkaa
open Go.AM
set_option maxHeartbeats 4000000
set_option maxRecDepth 20000
theorem sr_nil:strRows []=[]:=rfl
theorem pr_nil:pmRows []=[]:=rfl
def NormC(f:Fm):Prop:= ∀ (s:Bool)(h:Heap),PCall Try.prog 61 [.agg f.cells,.sc (.bool s)] h fun r h'=>r= .agg (normalM f s).cells∧h'=h
theorem norm_not{k:Fm}(ih:NormC k):NormC (.mk opNot ⟨#[]⟩ [] [] [] [k]):=by
 intro s h
 show PCall _ _ _ _ fun r h'=>r= .agg (normalM k (!s)).cells∧h'=h
 refine PCall.frz Ty.hb_61 ?_
 have hc:=ih (!s)
 have hfz:=fun(n:Nat)(H:Heap)=>fm_frz n H (normalM k (!s))
 generalize normalM k (!s)=y at hc hfz⊢
 obtain⟨yo,yn,ya,yp,ye,yk⟩:=y
 obtain⟨ko,kn,ka,kp,ke,kk⟩:=k
 simp only[Fm.cells,Fm.rows,Ex.rows,sr_nil,pr_nil]at hc hfz⊢
 have k1:(opNot.data.toList==(#[110,111,116]:Array UInt8).toList)=true:=rfl
 refine pcall_body (ow:=fun _=>false) (wf:=fun _=>false) Ty.mixed Try.func61 rfl Ty.hb_61 (by rw[Try.ntmps61];simp) ?_
 rw[Try.ntmps61,Try.results61]
 repeat'(first|refine a_seq fun K hK=>?_|(refine a_regionS ?_;simp(maxSteps:=2000000) only[Ty.w,simprocAttr,k1,nsucc])|(refine hK _ _ ?_;clear hK;try simp only[pst0,simprocAttr]))
 refine owp_useQ (hc _) (by(try simp only[Ty.w,simprocAttr,k1,nsucc]);try rfl) ?_;simp(maxSteps:=2000000) only[Ty.w,simprocAttr,k1,nsucc]
 repeat'(first|(refine a_ret ?_;simp(maxSteps:=2000000) only[Ty.w,simprocAttr,nsucc,putC])|(refine hK _ _ ?_;clear hK;try simp only[pst0,simprocAttr]))
 exact⟨frz_agg (hfz _ _),((Grow.refl h).new _).set (Nat.le_refl _) _⟩
theorem norm_atom{name:ByteArray}{args:List ByteArray}{params:List Pm}{exprs:List Ex}{kids:List Fm}(hbi: ∀ H:Heap,PCall Try.prog 82 [.agg (Fm.mk opAtom name args params exprs kids).cells,.sc (.map none),.sc (.slice none 0 0)] H fun r h'=>r= .agg (Fm.mk opAtom name args params exprs kids).cells∧h'=H):NormC (.mk opAtom name args params exprs kids):=by
 intro s h
 refine PCall.frz Ty.hb_61 ?_
 have k1:(opAtom.data.toList==(#[110,111,116]:Array UInt8).toList)=false:=rfl
 have k2:(opAtom.data.toList==(#[105,109,112,108,121]:Array UInt8).toList)=false:=rfl
 have k3:(opAtom.data.toList==(#[97,110,100]:Array UInt8).toList)=false:=rfl
 have k4:(opAtom.data.toList==(#[111,114]:Array UInt8).toList)=false:=rfl
 have k5:(opAtom.data.toList==(#[102,111,114,97,108,108]:Array UInt8).toList)=false:=rfl
 have k6:(opAtom.data.toList==(#[101,120,105,115,116,115]:Array UInt8).toList)=false:=rfl
 have k7:(opAtom.data.toList==(#[60]:Array UInt8).toList)=false:=rfl
 have k8:(opAtom.data.toList==(#[60,61]:Array UInt8).toList)=false:=rfl
 have k9:(opAtom.data.toList==(#[61]:Array UInt8).toList)=false:=rfl
 have g2:Grow h ((h.new (.arr 6 [[.sc (.string ⟨#[]⟩),.sc (.string ⟨#[]⟩),.sc (.slice none 0 0),.sc (.slice none 0 0),.sc (.slice none 0 0),.sc (.slice none 0 0)]])).new (.arr 6 [[.sc (.string ⟨#[]⟩),.sc (.string ⟨#[]⟩),.sc (.slice none 0 0),.sc (.slice none 0 0),.sc (.slice none 0 0),.sc (.slice none 0 0)]])):=((Grow.refl h).new _).new _
 cases s with
 |true=>
  have hN:normalM (.mk opAtom name args params exprs kids) true= .mk opAtom name args params exprs kids:=rfl
  rw[hN]
  have hfz:=fun(n:Nat)(H:Heap)=>fm_frz n H (.mk opAtom name args params exprs kids)
  simp only[Fm.cells]at hbi hfz⊢
  refine pcall_body (ow:=fun _=>false) (wf:=fun _=>false) Ty.mixed Try.func61 rfl Ty.hb_61 (by rw[Try.ntmps61];simp) ?_
  rw[Try.ntmps61,Try.results61]
  repeat'(first|refine a_seq fun K hK=>?_|(refine a_regionS ?_;simp(maxSteps:=2000000) only[Ty.w,simprocAttr,k1,k2,k3,k4,k5,k6,k7,k8,k9,nsucc])|(refine a_cond _ (by(try simp(maxSteps:=2000000) only[Ty.w,simprocAttr,k1,k2,k3,k4,k5,k6,k7,k8,k9,nsucc]);rfl) (fun hb=>?_) (fun hb=>?_)<;>(try simp only[hb0,decide_eq_true_eq,decide_eq_false_iff_not,simprocAttr]at hb)<;>(try(exfalso;omega)))|(refine hK _ _ ?_;clear hK;try simp only[pst0,simprocAttr]))
  refine owp_useQ (hbi _) (by(try simp only[Ty.w,simprocAttr,k1,k2,k3,k4,k5,k6,k7,k8,k9,nsucc]);try rfl) ?_;simp(maxSteps:=2000000) only[Ty.w,simprocAttr,k1,k2,k3,k4,k5,k6,k7,k8,k9,nsucc]
  repeat'(first|refine a_seq fun K hK=>?_|((first|refine a_regionS ?_|refine a_ret ?_);simp(maxSteps:=2000000) only[Ty.w,simprocAttr,nsucc,putC])|(refine hK _ _ ?_;clear hK;try simp only[pst0,simprocAttr]))
  exact⟨frz_agg (hfz _ _),(g2.set (Nat.le_succ _) _).set (Nat.le_refl _) _⟩
 |false=>
  have hN:normalM (.mk opAtom name args params exprs kids) false= .mk opNot ⟨#[]⟩ [] [] [] [.mk opAtom name args params exprs kids]:=rfl
  rw[hN]
  have hfz:=fun(n:Nat)=>fms_in n [.mk opAtom name args params exprs kids]
  simp only[Fm.cells,Fm.rows,Ex.rows,sr_nil,pr_nil]at hbi hfz⊢
  refine pcall_body (ow:=fun _=>false) (wf:=fun _=>false) Ty.mixed Try.func61 rfl Ty.hb_61 (by rw[Try.ntmps61];simp) ?_
  rw[Try.ntmps61,Try.results61]
  repeat'(first|refine a_seq fun K hK=>?_|(refine a_regionS ?_;simp(maxSteps:=2000000) only[Ty.w,simprocAttr,k1,k2,k3,k4,k5,k6,k7,k8,k9,nsucc,Bool.not_false])|(refine a_cond _ (by(try simp(maxSteps:=2000000) only[Ty.w,simprocAttr,k1,k2,k3,k4,k5,k6,k7,k8,k9,nsucc,Bool.not_false]);rfl) (fun hb=>?_) (fun hb=>?_)<;>(try simp only[hb0,decide_eq_true_eq,decide_eq_false_iff_not,simprocAttr]at hb)<;>(try(exfalso;omega)))|(refine hK _ _ ?_;clear hK;try simp only[pst0,simprocAttr]))
  refine owp_useQ (hbi _) (by(try simp only[Ty.w,simprocAttr,k1,k2,k3,k4,k5,k6,k7,k8,k9,nsucc]);try rfl) ?_;simp(maxSteps:=2000000) only[Ty.w,simprocAttr,k1,k2,k3,k4,k5,k6,k7,k8,k9,nsucc]
  repeat'(first|refine a_seq fun K hK=>?_|((first|refine a_regionS ?_|refine a_ret ?_);simp(maxSteps:=2000000) only[Ty.w,simprocAttr,nsucc,putC])|(refine a_skip ?_;try simp only[pst0,simprocAttr])|(refine a_cond _ (by(try simp(maxSteps:=2000000) only[Ty.w,simprocAttr,nsucc,putC]);rfl) (fun hb=>?_) (fun hb=>?_)<;>(try simp only[hb0,decide_eq_true_eq,decide_eq_false_iff_not,simprocAttr]at hb)<;>(try(exfalso;omega)))|(refine hK _ _ ?_;clear hK;try simp only[pst0,simprocAttr]))
  exact⟨frz_fm frz_nilslice frz_nilslice (frz_imm (hfz _)),(g2.set (Nat.le_succ _) _).set (Nat.le_refl _) _⟩
theorem norm_same{name:ByteArray}{args:List ByteArray}{params:List Pm}{exprs:List Ex}{kids:List Fm}(hbi: ∀ H:Heap,PCall Try.prog 82 [.agg (Fm.mk opSame name args params exprs kids).cells,.sc (.map none),.sc (.slice none 0 0)] H fun r h'=>r= .agg (Fm.mk opSame name args params exprs kids).cells∧h'=H):NormC (.mk opSame name args params exprs kids):=by
 intro s h
 refine PCall.frz Ty.hb_61 ?_
 have k1:(opSame.data.toList==(#[110,111,116]:Array UInt8).toList)=false:=rfl
 have k2:(opSame.data.toList==(#[105,109,112,108,121]:Array UInt8).toList)=false:=rfl
 have k3:(opSame.data.toList==(#[97,110,100]:Array UInt8).toList)=false:=rfl
 have k4:(opSame.data.toList==(#[111,114]:Array UInt8).toList)=false:=rfl
 have k5:(opSame.data.toList==(#[102,111,114,97,108,108]:Array UInt8).toList)=false:=rfl
 have k6:(opSame.data.toList==(#[101,120,105,115,116,115]:Array UInt8).toList)=false:=rfl
 have k7:(opSame.data.toList==(#[60]:Array UInt8).toList)=false:=rfl
 have k8:(opSame.data.toList==(#[60,61]:Array UInt8).toList)=false:=rfl
 have k9:(opSame.data.toList==(#[61]:Array UInt8).toList)=false:=rfl
 have g2:Grow h ((h.new (.arr 6 [[.sc (.string ⟨#[]⟩),.sc (.string ⟨#[]⟩),.sc (.slice none 0 0),.sc (.slice none 0 0),.sc (.slice none 0 0),.sc (.slice none 0 0)]])).new (.arr 6 [[.sc (.string ⟨#[]⟩),.sc (.string ⟨#[]⟩),.sc (.slice none 0 0),.sc (.slice none 0 0),.sc (.slice none 0 0),.sc (.slice none 0 0)]])):=((Grow.refl h).new _).new _
 cases s with
 |true=>
  have hN:normalM (.mk opSame name args params exprs kids) true= .mk opSame name args params exprs kids:=rfl
  rw[hN]
  have hfz:=fun(n:Nat)(H:Heap)=>fm_frz n H (.mk opSame name args params exprs kids)
  simp only[Fm.cells]at hbi hfz⊢
  refine pcall_body (ow:=fun _=>false) (wf:=fun _=>false) Ty.mixed Try.func61 rfl Ty.hb_61 (by rw[Try.ntmps61];simp) ?_
  rw[Try.ntmps61,Try.results61]
  repeat'(first|refine a_seq fun K hK=>?_|(refine a_regionS ?_;simp(maxSteps:=2000000) only[Ty.w,simprocAttr,k1,k2,k3,k4,k5,k6,k7,k8,k9,nsucc])|(refine a_cond _ (by(try simp(maxSteps:=2000000) only[Ty.w,simprocAttr,k1,k2,k3,k4,k5,k6,k7,k8,k9,nsucc]);rfl) (fun hb=>?_) (fun hb=>?_)<;>(try simp only[hb0,decide_eq_true_eq,decide_eq_false_iff_not,simprocAttr]at hb)<;>(try(exfalso;omega)))|(refine hK _ _ ?_;clear hK;try simp only[pst0,simprocAttr]))
  refine owp_useQ (hbi _) (by(try simp only[Ty.w,simprocAttr,k1,k2,k3,k4,k5,k6,k7,k8,k9,nsucc]);try rfl) ?_;simp(maxSteps:=2000000) only[Ty.w,simprocAttr,k1,k2,k3,k4,k5,k6,k7,k8,k9,nsucc]
  repeat'(first|refine a_seq fun K hK=>?_|((first|refine a_regionS ?_|refine a_ret ?_);simp(maxSteps:=2000000) only[Ty.w,simprocAttr,nsucc,putC])|(refine hK _ _ ?_;clear hK;try simp only[pst0,simprocAttr]))
  exact⟨frz_agg (hfz _ _),(g2.set (Nat.le_succ _) _).set (Nat.le_refl _) _⟩
 |false=>
  have hN:normalM (.mk opSame name args params exprs kids) false= .mk opNot ⟨#[]⟩ [] [] [] [.mk opSame name args params exprs kids]:=rfl
  rw[hN]
  have hfz:=fun(n:Nat)=>fms_in n [.mk opSame name args params exprs kids]
  simp only[Fm.cells,Fm.rows,Ex.rows,sr_nil,pr_nil]at hbi hfz⊢
  refine pcall_body (ow:=fun _=>false) (wf:=fun _=>false) Ty.mixed Try.func61 rfl Ty.hb_61 (by rw[Try.ntmps61];simp) ?_
  rw[Try.ntmps61,Try.results61]
  repeat'(first|refine a_seq fun K hK=>?_|(refine a_regionS ?_;simp(maxSteps:=2000000) only[Ty.w,simprocAttr,k1,k2,k3,k4,k5,k6,k7,k8,k9,nsucc,Bool.not_false])|(refine a_cond _ (by(try simp(maxSteps:=2000000) only[Ty.w,simprocAttr,k1,k2,k3,k4,k5,k6,k7,k8,k9,nsucc,Bool.not_false]);rfl) (fun hb=>?_) (fun hb=>?_)<;>(try simp only[hb0,decide_eq_true_eq,decide_eq_false_iff_not,simprocAttr]at hb)<;>(try(exfalso;omega)))|(refine hK _ _ ?_;clear hK;try simp only[pst0,simprocAttr]))
  refine owp_useQ (hbi _) (by(try simp only[Ty.w,simprocAttr,k1,k2,k3,k4,k5,k6,k7,k8,k9,nsucc]);try rfl) ?_;simp(maxSteps:=2000000) only[Ty.w,simprocAttr,k1,k2,k3,k4,k5,k6,k7,k8,k9,nsucc]
  repeat'(first|refine a_seq fun K hK=>?_|((first|refine a_regionS ?_|refine a_ret ?_);simp(maxSteps:=2000000) only[Ty.w,simprocAttr,nsucc,putC])|(refine a_skip ?_;try simp only[pst0,simprocAttr])|(refine a_cond _ (by(try simp(maxSteps:=2000000) only[Ty.w,simprocAttr,nsucc,putC]);rfl) (fun hb=>?_) (fun hb=>?_)<;>(try simp only[hb0,decide_eq_true_eq,decide_eq_false_iff_not,simprocAttr]at hb)<;>(try(exfalso;omega)))|(refine hK _ _ ?_;clear hK;try simp only[pst0,simprocAttr]))
  exact⟨frz_fm frz_nilslice frz_nilslice (frz_imm (hfz _)),(g2.set (Nat.le_succ _) _).set (Nat.le_refl _) _⟩
theorem norm_lt{a b:Ex}(ha:a.small)(hsa:shapedE a=true)(hb:b.small)(hsb:shapedE b=true):NormC (cmpM opLt a b):=by
 intro s h
 refine PCall.frz Ty.hb_61 ?_
 have k1:(opLt.data.toList==(#[110,111,116]:Array UInt8).toList)=false:=rfl
 have k2:(opLt.data.toList==(#[105,109,112,108,121]:Array UInt8).toList)=false:=rfl
 have k3:(opLt.data.toList==(#[97,110,100]:Array UInt8).toList)=false:=rfl
 have k4:(opLt.data.toList==(#[111,114]:Array UInt8).toList)=false:=rfl
 have k5:(opLt.data.toList==(#[102,111,114,97,108,108]:Array UInt8).toList)=false:=rfl
 have k6:(opLt.data.toList==(#[101,120,105,115,116,115]:Array UInt8).toList)=false:=rfl
 have k7:(opLt.data.toList==(#[60]:Array UInt8).toList)=true:=rfl
 have g1:Grow h (h.new (.arr 6 [[.sc (.string ⟨#[]⟩),.sc (.string ⟨#[]⟩),.sc (.slice none 0 0),.sc (.slice none 0 0),.sc (.slice none 0 0),.sc (.slice none 0 0)]])):=(Grow.refl h).new _
 cases s with
 |true=>
  show PCall _ _ _ _ fun r h'=>FrzTo h.next h' (.agg (cmpM opLt a b).cells) r∧Grow h h'
  have hc:=fun H=>less_c (op:=opLt) (a:=a) (b:=b) ha hsa hb hsb H
  have hfz:=fun(n:Nat)(H:Heap)=>fm_frz n H (cmpM opLt a b)
  obtain⟨ao,an,av,aa,ak⟩:=a
  obtain⟨bo,bn,bv,ba,bk⟩:=b
  simp only[cmpM,Fm.cells,Fm.rows,Ex.rows,Ex.cells,sr_nil,pr_nil]at hc hfz⊢
  refine pcall_body (ow:=fun _=>false) (wf:=fun _=>false) Ty.mixed Try.func61 rfl Ty.hb_61 (by rw[Try.ntmps61];simp) ?_
  rw[Try.ntmps61,Try.results61]
  have W:=And.intro k1 (And.intro k2 (And.intro k3 (And.intro k4 (And.intro k5 (And.intro k6 k7)))))
  repeat'(first|refine a_seq fun K hK=>?_|((first|refine a_regionS ?_|refine a_drawS (by decide+kernel) ?_);simp(maxSteps:=2000000) only[Ty.w,simprocAttr,W,nsucc])|(refine a_skip ?_;try simp only[pst0,simprocAttr])|(refine a_cond _ (by(try simp(maxSteps:=2000000) only[Ty.w,simprocAttr,W,nsucc]);rfl) (fun hb=>?_) (fun hb=>?_)<;>(try simp only[hb0,decide_eq_true_eq,decide_eq_false_iff_not,simprocAttr]at hb)<;>(try(exfalso;omega)))|(refine hK _ _ ?_;clear hK;try simp only[pst0,simprocAttr]))
  (first|refine a_dcall0 (hc _) (by(try simp only[Ty.w,simprocAttr,W,nsucc]);try rfl) ?_|refine a_dcallA (hc _) (by(try simp only[Ty.w,simprocAttr,W,nsucc]);try rfl) (by simp only[Ty.w,simprocAttr,W,nsucc];try trivial) ?_);simp(maxSteps:=2000000) only[Ty.w,simprocAttr,W,Option.getD_some,nsucc]
  repeat'(first|(refine a_ret ?_;simp(maxSteps:=2000000) only[Ty.w,simprocAttr,nsucc,putC])|(refine hK _ _ ?_;clear hK;try simp only[pst0,simprocAttr])|(with_reducible refine a_past2 (by simp only[List.forall_mem_cons,Ty.w,simprocAttr,nsucc,putC]<;>(repeat' apply And.intro)<;>first|trivial|exact .inl (by decide+kernel)) ?_;try simp(maxSteps:=2000000) only[Ty.w,simprocAttr,nsucc,putC]))
  exact⟨frz_agg (hfz _ _),g1.set (Nat.le_refl _) _⟩
 |false=>
  show PCall _ _ _ _ fun r h'=>FrzTo h.next h' (.agg (cmpM opLe b a).cells) r∧Grow h h'
  have hc:=fun H=>less_c (op:=opLe) (a:=b) (b:=a) hb hsb ha hsa H
  have hfz:=fun(n:Nat)(H:Heap)=>fm_frz n H (cmpM opLe b a)
  obtain⟨ao,an,av,aa,ak⟩:=a
  obtain⟨bo,bn,bv,ba,bk⟩:=b
  simp only[cmpM,Fm.cells,Fm.rows,Ex.rows,Ex.cells,sr_nil,pr_nil]at hc hfz⊢
  refine pcall_body (ow:=fun _=>false) (wf:=fun _=>false) Ty.mixed Try.func61 rfl Ty.hb_61 (by rw[Try.ntmps61];simp) ?_
  rw[Try.ntmps61,Try.results61]
  have W:=And.intro k1 (And.intro k2 (And.intro k3 (And.intro k4 (And.intro k5 (And.intro k6 k7)))))
  repeat'(first|refine a_seq fun K hK=>?_|((first|refine a_regionS ?_|refine a_drawS (by decide+kernel) ?_);simp(maxSteps:=2000000) only[Ty.w,simprocAttr,W,nsucc])|(refine a_cond _ (by(try simp(maxSteps:=2000000) only[Ty.w,simprocAttr,W,nsucc]);rfl) (fun hb=>?_) (fun hb=>?_)<;>(try simp only[hb0,decide_eq_true_eq,decide_eq_false_iff_not,simprocAttr]at hb)<;>(try(exfalso;omega)))|(refine hK _ _ ?_;clear hK;try simp only[pst0,simprocAttr]))
  (first|refine a_dcall0 (hc _) (by(try simp only[Ty.w,simprocAttr,W,nsucc]);try rfl) ?_|refine a_dcallA (hc _) (by(try simp only[Ty.w,simprocAttr,W,nsucc]);try rfl) (by simp only[Ty.w,simprocAttr,W,nsucc];try trivial) ?_);simp(maxSteps:=2000000) only[Ty.w,simprocAttr,W,Option.getD_some,nsucc]
  repeat'(first|(refine a_ret ?_;simp(maxSteps:=2000000) only[Ty.w,simprocAttr,nsucc,putC])|(refine hK _ _ ?_;clear hK;try simp only[pst0,simprocAttr])|(with_reducible refine a_past2 (by simp only[List.forall_mem_cons,Ty.w,simprocAttr,nsucc,putC]<;>(repeat' apply And.intro)<;>first|trivial|exact .inl (by decide+kernel)) ?_;try simp(maxSteps:=2000000) only[Ty.w,simprocAttr,nsucc,putC]))
  exact⟨frz_agg (hfz _ _),g1.set (Nat.le_refl _) _⟩
theorem norm_le{a b:Ex}(ha:a.small)(hsa:shapedE a=true)(hb:b.small)(hsb:shapedE b=true):NormC (cmpM opLe a b):=by
 intro s h
 refine PCall.frz Ty.hb_61 ?_
 have k1:(opLe.data.toList==(#[110,111,116]:Array UInt8).toList)=false:=rfl
 have k2:(opLe.data.toList==(#[105,109,112,108,121]:Array UInt8).toList)=false:=rfl
 have k3:(opLe.data.toList==(#[97,110,100]:Array UInt8).toList)=false:=rfl
 have k4:(opLe.data.toList==(#[111,114]:Array UInt8).toList)=false:=rfl
 have k5:(opLe.data.toList==(#[102,111,114,97,108,108]:Array UInt8).toList)=false:=rfl
 have k6:(opLe.data.toList==(#[101,120,105,115,116,115]:Array UInt8).toList)=false:=rfl
 have k7:(opLe.data.toList==(#[60]:Array UInt8).toList)=false:=rfl
 have k8:(opLe.data.toList==(#[60,61]:Array UInt8).toList)=true:=rfl
 have g1:Grow h (h.new (.arr 6 [[.sc (.string ⟨#[]⟩),.sc (.string ⟨#[]⟩),.sc (.slice none 0 0),.sc (.slice none 0 0),.sc (.slice none 0 0),.sc (.slice none 0 0)]])):=(Grow.refl h).new _
 cases s with
 |true=>
  show PCall _ _ _ _ fun r h'=>FrzTo h.next h' (.agg (cmpM opLe a b).cells) r∧Grow h h'
  have hc:=fun H=>less_c (op:=opLe) (a:=a) (b:=b) ha hsa hb hsb H
  have hfz:=fun(n:Nat)(H:Heap)=>fm_frz n H (cmpM opLe a b)
  obtain⟨ao,an,av,aa,ak⟩:=a
  obtain⟨bo,bn,bv,ba,bk⟩:=b
  simp only[cmpM,Fm.cells,Fm.rows,Ex.rows,Ex.cells,sr_nil,pr_nil]at hc hfz⊢
  refine pcall_body (ow:=fun _=>false) (wf:=fun _=>false) Ty.mixed Try.func61 rfl Ty.hb_61 (by rw[Try.ntmps61];simp) ?_
  rw[Try.ntmps61,Try.results61]
  have W:=And.intro k1 (And.intro k2 (And.intro k3 (And.intro k4 (And.intro k5 (And.intro k6 (And.intro k7 k8))))))
  repeat'(first|refine a_seq fun K hK=>?_|((first|refine a_regionS ?_|refine a_drawS (by decide+kernel) ?_);simp(maxSteps:=2000000) only[Ty.w,simprocAttr,W,nsucc])|(refine a_skip ?_;try simp only[pst0,simprocAttr])|(refine a_cond _ (by(try simp(maxSteps:=2000000) only[Ty.w,simprocAttr,W,nsucc]);rfl) (fun hb=>?_) (fun hb=>?_)<;>(try simp only[hb0,decide_eq_true_eq,decide_eq_false_iff_not,simprocAttr]at hb)<;>(try(exfalso;omega)))|(refine hK _ _ ?_;clear hK;try simp only[pst0,simprocAttr]))
  (first|refine a_dcall0 (hc _) (by(try simp only[Ty.w,simprocAttr,W,nsucc]);try rfl) ?_|refine a_dcallA (hc _) (by(try simp only[Ty.w,simprocAttr,W,nsucc]);try rfl) (by simp only[Ty.w,simprocAttr,W,nsucc];try trivial) ?_);simp(maxSteps:=2000000) only[Ty.w,simprocAttr,W,Option.getD_some,nsucc]
  repeat'(first|(refine a_ret ?_;simp(maxSteps:=2000000) only[Ty.w,simprocAttr,nsucc,putC])|(refine hK _ _ ?_;clear hK;try simp only[pst0,simprocAttr])|(with_reducible refine a_past2 (by simp only[List.forall_mem_cons,Ty.w,simprocAttr,nsucc,putC]<;>(repeat' apply And.intro)<;>first|trivial|exact .inl (by decide+kernel)) ?_;try simp(maxSteps:=2000000) only[Ty.w,simprocAttr,nsucc,putC]))
  exact⟨frz_agg (hfz _ _),g1.set (Nat.le_refl _) _⟩
 |false=>
  show PCall _ _ _ _ fun r h'=>FrzTo h.next h' (.agg (cmpM opLt b a).cells) r∧Grow h h'
  have hc:=fun H=>less_c (op:=opLt) (a:=b) (b:=a) hb hsb ha hsa H
  have hfz:=fun(n:Nat)(H:Heap)=>fm_frz n H (cmpM opLt b a)
  obtain⟨ao,an,av,aa,ak⟩:=a
  obtain⟨bo,bn,bv,ba,bk⟩:=b
  simp only[cmpM,Fm.cells,Fm.rows,Ex.rows,Ex.cells,sr_nil,pr_nil]at hc hfz⊢
  refine pcall_body (ow:=fun _=>false) (wf:=fun _=>false) Ty.mixed Try.func61 rfl Ty.hb_61 (by rw[Try.ntmps61];simp) ?_
  rw[Try.ntmps61,Try.results61]
  have W:=And.intro k1 (And.intro k2 (And.intro k3 (And.intro k4 (And.intro k5 (And.intro k6 (And.intro k7 k8))))))
  repeat'(first|refine a_seq fun K hK=>?_|((first|refine a_regionS ?_|refine a_drawS (by decide+kernel) ?_);simp(maxSteps:=2000000) only[Ty.w,simprocAttr,W,nsucc])|(refine a_cond _ (by(try simp(maxSteps:=2000000) only[Ty.w,simprocAttr,W,nsucc]);rfl) (fun hb=>?_) (fun hb=>?_)<;>(try simp only[hb0,decide_eq_true_eq,decide_eq_false_iff_not,simprocAttr]at hb)<;>(try(exfalso;omega)))|(refine hK _ _ ?_;clear hK;try simp only[pst0,simprocAttr]))
  (first|refine a_dcall0 (hc _) (by(try simp only[Ty.w,simprocAttr,W,nsucc]);try rfl) ?_|refine a_dcallA (hc _) (by(try simp only[Ty.w,simprocAttr,W,nsucc]);try rfl) (by simp only[Ty.w,simprocAttr,W,nsucc];try trivial) ?_);simp(maxSteps:=2000000) only[Ty.w,simprocAttr,W,Option.getD_some,nsucc]
  repeat'(first|(refine a_ret ?_;simp(maxSteps:=2000000) only[Ty.w,simprocAttr,nsucc,putC])|(refine hK _ _ ?_;clear hK;try simp only[pst0,simprocAttr])|(with_reducible refine a_past2 (by simp only[List.forall_mem_cons,Ty.w,simprocAttr,nsucc,putC]<;>(repeat' apply And.intro)<;>first|trivial|exact .inl (by decide+kernel)) ?_;try simp(maxSteps:=2000000) only[Ty.w,simprocAttr,nsucc,putC]))
  exact⟨frz_agg (hfz _ _),g1.set (Nat.le_refl _) _⟩
theorem norm_eq{a b:Ex}(ha:a.small)(hsa:shapedE a=true)(hb:b.small)(hsb:shapedE b=true):NormC (cmpM opEq a b):=by
 intro s h
 refine PCall.frz Ty.hb_61 ?_
 have k1:(opEq.data.toList==(#[110,111,116]:Array UInt8).toList)=false:=rfl
 have k2:(opEq.data.toList==(#[105,109,112,108,121]:Array UInt8).toList)=false:=rfl
 have k3:(opEq.data.toList==(#[97,110,100]:Array UInt8).toList)=false:=rfl
 have k4:(opEq.data.toList==(#[111,114]:Array UInt8).toList)=false:=rfl
 have k5:(opEq.data.toList==(#[102,111,114,97,108,108]:Array UInt8).toList)=false:=rfl
 have k6:(opEq.data.toList==(#[101,120,105,115,116,115]:Array UInt8).toList)=false:=rfl
 have k7:(opEq.data.toList==(#[60]:Array UInt8).toList)=false:=rfl
 have k8:(opEq.data.toList==(#[60,61]:Array UInt8).toList)=false:=rfl
 have k9:(opEq.data.toList==(#[61]:Array UInt8).toList)=true:=rfl
 have g1:Grow h (h.new (.arr 6 [[.sc (.string ⟨#[]⟩),.sc (.string ⟨#[]⟩),.sc (.slice none 0 0),.sc (.slice none 0 0),.sc (.slice none 0 0),.sc (.slice none 0 0)]])):=(Grow.refl h).new _
 cases s with
 |true=>
  show PCall _ _ _ _ fun r h'=>FrzTo h.next h' (.agg (cmpM opEq a b).cells) r∧Grow h h'
  have hc:=fun H=>less_c (op:=opEq) (a:=a) (b:=b) ha hsa hb hsb H
  have hfz:=fun(n:Nat)(H:Heap)=>fm_frz n H (cmpM opEq a b)
  obtain⟨ao,an,av,aa,ak⟩:=a
  obtain⟨bo,bn,bv,ba,bk⟩:=b
  simp only[cmpM,Fm.cells,Fm.rows,Ex.rows,Ex.cells,sr_nil,pr_nil]at hc hfz⊢
  refine pcall_body (ow:=fun _=>false) (wf:=fun _=>false) Ty.mixed Try.func61 rfl Ty.hb_61 (by rw[Try.ntmps61];simp) ?_
  rw[Try.ntmps61,Try.results61]
  have W:=And.intro k1 (And.intro k2 (And.intro k3 (And.intro k4 (And.intro k5 (And.intro k6 (And.intro k7 (And.intro k8 k9)))))))
  repeat'(first|refine a_seq fun K hK=>?_|((first|refine a_regionS ?_|refine a_drawS (by decide+kernel) ?_);simp(maxSteps:=2000000) only[Ty.w,simprocAttr,W,nsucc])|(refine a_skip ?_;try simp only[pst0,simprocAttr])|(refine a_cond _ (by(try simp(maxSteps:=2000000) only[Ty.w,simprocAttr,W,nsucc]);rfl) (fun hb=>?_) (fun hb=>?_)<;>(try simp only[hb0,decide_eq_true_eq,decide_eq_false_iff_not,simprocAttr]at hb)<;>(try(exfalso;omega)))|(refine hK _ _ ?_;clear hK;try simp only[pst0,simprocAttr]))
  (first|refine a_dcall0 (hc _) (by(try simp only[Ty.w,simprocAttr,W,nsucc]);try rfl) ?_|refine a_dcallA (hc _) (by(try simp only[Ty.w,simprocAttr,W,nsucc]);try rfl) (by simp only[Ty.w,simprocAttr,W,nsucc];try trivial) ?_);simp(maxSteps:=2000000) only[Ty.w,simprocAttr,W,Option.getD_some,nsucc]
  repeat'(first|(refine a_ret ?_;simp(maxSteps:=2000000) only[Ty.w,simprocAttr,nsucc,putC])|(refine hK _ _ ?_;clear hK;try simp only[pst0,simprocAttr])|(with_reducible refine a_past2 (by simp only[List.forall_mem_cons,Ty.w,simprocAttr,nsucc,putC]<;>(repeat' apply And.intro)<;>first|trivial|exact .inl (by decide+kernel)) ?_;try simp(maxSteps:=2000000) only[Ty.w,simprocAttr,nsucc,putC]))
  exact⟨frz_agg (hfz _ _),g1.set (Nat.le_refl _) _⟩
 |false=>
  show PCall _ _ _ _ fun r h'=>FrzTo h.next h' (.agg (Fm.mk opOr ⟨#[]⟩ [] [] [] [cmpM opLt a b,cmpM opLt b a]).cells) r∧Grow h h'
  have hc:=fun H=>less_c (op:=opLt) (a:=a) (b:=b) ha hsa hb hsb H
  have hd:=fun H=>less_c (op:=opLt) (a:=b) (b:=a) hb hsb ha hsa H
  have hfz:=fun(n:Nat)=>fms_in n [cmpM opLt a b,cmpM opLt b a]
  obtain⟨ao,an,av,aa,ak⟩:=a
  obtain⟨bo,bn,bv,ba,bk⟩:=b
  simp only[cmpM,Fm.cells,Fm.rows,Ex.rows,Ex.cells,sr_nil,pr_nil]at hc hd hfz⊢
  refine pcall_body (ow:=fun _=>false) (wf:=fun _=>false) Ty.mixed Try.func61 rfl Ty.hb_61 (by rw[Try.ntmps61];simp) ?_
  rw[Try.ntmps61,Try.results61]
  have W:=And.intro k1 (And.intro k2 (And.intro k3 (And.intro k4 (And.intro k5 (And.intro k6 (And.intro k7 (And.intro k8 k9)))))))
  repeat'(first|refine a_seq fun K hK=>?_|((first|refine a_regionS ?_|refine a_drawS (by decide+kernel) ?_);simp(maxSteps:=2000000) only[Ty.w,simprocAttr,W,nsucc])|(refine a_cond _ (by(try simp(maxSteps:=2000000) only[Ty.w,simprocAttr,W,nsucc]);rfl) (fun hb=>?_) (fun hb=>?_)<;>(try simp only[hb0,decide_eq_true_eq,decide_eq_false_iff_not,simprocAttr]at hb)<;>(try(exfalso;omega)))|(refine hK _ _ ?_;clear hK;try simp only[pst0,simprocAttr]))
  (first|refine a_dcall0 (hc _) (by(try simp only[Ty.w,simprocAttr,W,nsucc]);try rfl) ?_|refine a_dcallA (hc _) (by(try simp only[Ty.w,simprocAttr,W,nsucc]);try rfl) (by simp only[Ty.w,simprocAttr,W,nsucc];try trivial) ?_);simp(maxSteps:=2000000) only[Ty.w,simprocAttr,W,Option.getD_some,nsucc]
  skip
  (first|refine a_dcall0 (hd _) (by(try simp only[Ty.w,simprocAttr,nsucc]);try rfl) ?_|refine a_dcallA (hd _) (by(try simp only[Ty.w,simprocAttr,nsucc]);try rfl) (by simp only[Ty.w,simprocAttr,nsucc];try trivial) ?_);simp(maxSteps:=2000000) only[Ty.w,simprocAttr,Option.getD_some,nsucc]
  repeat'(first|(refine a_ret ?_;simp(maxSteps:=2000000) only[Ty.w,simprocAttr,nsucc,putC])|(refine hK _ _ ?_;clear hK;try simp only[pst0,simprocAttr])|(with_reducible refine a_past2 (by simp only[List.forall_mem_cons,Ty.w,simprocAttr,nsucc,putC]<;>(repeat' apply And.intro)<;>first|trivial|exact .inl (by decide+kernel)) ?_;try simp(maxSteps:=2000000) only[Ty.w,simprocAttr,nsucc,putC]))
  exact⟨frz_fm frz_nilslice frz_nilslice (frz_imm (hfz _)),g1.set (Nat.le_refl _) _⟩
theorem norm_all{params:List Pm}{k:Fm}(hpl:params.length≤1048576)(ih:NormC k):NormC (.mk opAll ⟨#[]⟩ [] params [] [k]):=by
 intro s h
 show PCall _ _ _ _ fun r h'=>r= .agg (Fm.mk (dualM opAll opSome s) ⟨#[]⟩ [] params [] [normalM k s]).cells∧h'=h
 refine PCall.frz Ty.hb_61 ?_
 have k1:(opAll.data.toList==(#[110,111,116]:Array UInt8).toList)=false:=rfl
 have k2:(opAll.data.toList==(#[105,109,112,108,121]:Array UInt8).toList)=false:=rfl
 have k3:(opAll.data.toList==(#[97,110,100]:Array UInt8).toList)=false:=rfl
 have k4:(opAll.data.toList==(#[111,114]:Array UInt8).toList)=false:=rfl
 have k5:(opAll.data.toList==(#[102,111,114,97,108,108]:Array UInt8).toList)=true:=rfl
 have e5:(opAll.data.toList==(#[102,111,114,97,108,108]:Array UInt8).toList)=true:=rfl
 have g1:Grow h (h.new (.arr 6 [[.sc (.string ⟨#[]⟩),.sc (.string ⟨#[]⟩),.sc (.slice none 0 0),.sc (.slice none 0 0),.sc (.slice none 0 0),.sc (.slice none 0 0)]])):=(Grow.refl h).new _
 have d1: ∀ H:Heap,PCall Try.prog 99 [sPV opSome,sPV opAll,.sc (.bool true)] H fun r h'=>r=sPV opSome∧h'=H:=fun H=>dual_c _ _ true H
 have d2:=fun H=>dual_c opAll opSome s H
 have hP:=fun H=>cloneP_q (l:=params) (by omega) H
 have hc:=ih s
 have hfk:=fun(n:Nat)=>fms_in n [normalM k s]
 have hfp:=fun(n:Nat)=>pms_in n params
 generalize dualM opAll opSome s=o at d2⊢
 generalize normalM k s=y at hc hfk⊢
 obtain⟨yo,yn,ya,yp,ye,yk⟩:=y
 obtain⟨ko,kn,ka,kp,ke,kk⟩:=k
 simp only[Fm.cells,Fm.rows,Ex.rows,sr_nil,pr_nil]at hc hfk⊢
 refine pcall_body (ow:=fun _=>false) (wf:=fun _=>false) Ty.mixed Try.func61 rfl Ty.hb_61 (by rw[Try.ntmps61];simp) ?_
 rw[Try.ntmps61,Try.results61]
 repeat'(first|refine a_seq fun K hK=>?_|((first|refine a_regionS ?_|refine a_drawS (by decide+kernel) ?_);simp(maxSteps:=2000000) only[Ty.w,simprocAttr,k1,k2,k3,k4,k5,e5,nsucc])|(refine a_skip ?_;try simp only[pst0,simprocAttr])|(refine a_cond _ (by(try simp(maxSteps:=2000000) only[Ty.w,simprocAttr,k1,k2,k3,k4,k5,e5,nsucc]);rfl) (fun hb=>?_) (fun hb=>?_)<;>(try simp only[hb0,decide_eq_true_eq,decide_eq_false_iff_not,simprocAttr]at hb)<;>(try(exfalso;omega)))|(refine hK _ _ ?_;clear hK;try simp only[pst0,simprocAttr]))
 (first|refine a_dcall0 (d1 _) (by(try simp only[Ty.w,simprocAttr,k1,k2,k3,k4,k5,e5,nsucc]);try rfl) ?_|refine a_dcallA (d1 _) (by(try simp only[Ty.w,simprocAttr,k1,k2,k3,k4,k5,e5,nsucc]);try rfl) (by simp only[Ty.w,simprocAttr,k1,k2,k3,k4,k5,e5,nsucc];try trivial) ?_);simp(maxSteps:=2000000) only[Ty.w,simprocAttr,Option.getD_some,k1,k2,k3,k4,k5,e5,nsucc]
 skip
 (first|refine a_dcall0 (d2 _) (by(try simp only[Ty.w,simprocAttr,nsucc]);try rfl) ?_|refine a_dcallA (d2 _) (by(try simp only[Ty.w,simprocAttr,nsucc]);try rfl) (by simp only[Ty.w,simprocAttr,nsucc];try trivial) ?_);simp(maxSteps:=2000000) only[Ty.w,simprocAttr,Option.getD_some,nsucc]
 repeat'(first|refine a_seq fun K hK=>?_|(refine a_drawS (by decide+kernel) ?_;simp(maxSteps:=2000000) only[Ty.w,simprocAttr,nsucc])|(refine hK _ _ ?_;clear hK;try simp only[pst0,simprocAttr]))
 (first|refine a_dcall0 (hP _) (by(try simp only[Ty.w,simprocAttr,nsucc]);try rfl) ?_|refine a_dcallA (hP _) (by(try simp only[Ty.w,simprocAttr,nsucc]);try rfl) (by simp only[Ty.w,simprocAttr,nsucc];try trivial) ?_);simp(maxSteps:=2000000) only[Ty.w,simprocAttr,Option.getD_some,nsucc]
 skip
 (first|refine a_dcall0 (hc _) (by(try simp only[Ty.w,simprocAttr,nsucc]);try rfl) ?_|refine a_dcallA (hc _) (by(try simp only[Ty.w,simprocAttr,nsucc]);try rfl) (by simp only[Ty.w,simprocAttr,nsucc];try trivial) ?_);simp(maxSteps:=2000000) only[Ty.w,simprocAttr,Option.getD_some,nsucc]
 repeat'(first|(refine a_ret ?_;simp(maxSteps:=2000000) only[Ty.w,simprocAttr,nsucc,putC])|(refine hK _ _ ?_;clear hK;try simp only[pst0,simprocAttr])|(with_reducible refine a_past2 (by simp only[List.forall_mem_cons,Ty.w,simprocAttr,nsucc,putC]<;>(repeat' apply And.intro)<;>first|trivial|exact .inl (by decide+kernel)) ?_;try simp(maxSteps:=2000000) only[Ty.w,simprocAttr,nsucc,putC]))
 exact⟨frz_fm (frz_imm (hfp _)) frz_nilslice (frz_imm (hfk _)),g1.set (Nat.le_refl _) _⟩
theorem norm_some{params:List Pm}{k:Fm}(hpl:params.length≤1048576)(ih:NormC k):NormC (.mk opSome ⟨#[]⟩ [] params [] [k]):=by
 intro s h
 show PCall _ _ _ _ fun r h'=>r= .agg (Fm.mk (dualM opSome opAll s) ⟨#[]⟩ [] params [] [normalM k s]).cells∧h'=h
 refine PCall.frz Ty.hb_61 ?_
 have k1:(opSome.data.toList==(#[110,111,116]:Array UInt8).toList)=false:=rfl
 have k2:(opSome.data.toList==(#[105,109,112,108,121]:Array UInt8).toList)=false:=rfl
 have k3:(opSome.data.toList==(#[97,110,100]:Array UInt8).toList)=false:=rfl
 have k4:(opSome.data.toList==(#[111,114]:Array UInt8).toList)=false:=rfl
 have k5:(opSome.data.toList==(#[102,111,114,97,108,108]:Array UInt8).toList)=false:=rfl
 have k6:(opSome.data.toList==(#[101,120,105,115,116,115]:Array UInt8).toList)=true:=rfl
 have e5:(opSome.data.toList==(#[102,111,114,97,108,108]:Array UInt8).toList)=false:=rfl
 have g1:Grow h (h.new (.arr 6 [[.sc (.string ⟨#[]⟩),.sc (.string ⟨#[]⟩),.sc (.slice none 0 0),.sc (.slice none 0 0),.sc (.slice none 0 0),.sc (.slice none 0 0)]])):=(Grow.refl h).new _
 have d1: ∀ H:Heap,PCall Try.prog 99 [sPV opSome,sPV opAll,.sc (.bool false)] H fun r h'=>r=sPV opAll∧h'=H:=fun H=>dual_c _ _ false H
 have d2:=fun H=>dual_c opSome opAll s H
 have hP:=fun H=>cloneP_q (l:=params) (by omega) H
 have hc:=ih s
 have hfk:=fun(n:Nat)=>fms_in n [normalM k s]
 have hfp:=fun(n:Nat)=>pms_in n params
 generalize dualM opSome opAll s=o at d2⊢
 generalize normalM k s=y at hc hfk⊢
 obtain⟨yo,yn,ya,yp,ye,yk⟩:=y
 obtain⟨ko,kn,ka,kp,ke,kk⟩:=k
 simp only[Fm.cells,Fm.rows,Ex.rows,sr_nil,pr_nil]at hc hfk⊢
 refine pcall_body (ow:=fun _=>false) (wf:=fun _=>false) Ty.mixed Try.func61 rfl Ty.hb_61 (by rw[Try.ntmps61];simp) ?_
 rw[Try.ntmps61,Try.results61]
 repeat'(first|refine a_seq fun K hK=>?_|((first|refine a_regionS ?_|refine a_drawS (by decide+kernel) ?_);simp(maxSteps:=2000000) only[Ty.w,simprocAttr,k1,k2,k3,k4,k5,k6,e5,nsucc])|(refine a_cond _ (by(try simp(maxSteps:=2000000) only[Ty.w,simprocAttr,k1,k2,k3,k4,k5,k6,e5,nsucc]);rfl) (fun hb=>?_) (fun hb=>?_)<;>(try simp only[hb0,decide_eq_true_eq,decide_eq_false_iff_not,simprocAttr]at hb)<;>(try(exfalso;omega)))|(refine hK _ _ ?_;clear hK;try simp only[pst0,simprocAttr]))
 (first|refine a_dcall0 (d1 _) (by(try simp only[Ty.w,simprocAttr,k1,k2,k3,k4,k5,k6,e5,nsucc]);try rfl) ?_|refine a_dcallA (d1 _) (by(try simp only[Ty.w,simprocAttr,k1,k2,k3,k4,k5,k6,e5,nsucc]);try rfl) (by simp only[Ty.w,simprocAttr,k1,k2,k3,k4,k5,k6,e5,nsucc];try trivial) ?_);simp(maxSteps:=2000000) only[Ty.w,simprocAttr,Option.getD_some,k1,k2,k3,k4,k5,k6,e5,nsucc]
 skip
 (first|refine a_dcall0 (d2 _) (by(try simp only[Ty.w,simprocAttr,nsucc]);try rfl) ?_|refine a_dcallA (d2 _) (by(try simp only[Ty.w,simprocAttr,nsucc]);try rfl) (by simp only[Ty.w,simprocAttr,nsucc];try trivial) ?_);simp(maxSteps:=2000000) only[Ty.w,simprocAttr,Option.getD_some,nsucc]
 repeat'(first|refine a_seq fun K hK=>?_|(refine a_drawS (by decide+kernel) ?_;simp(maxSteps:=2000000) only[Ty.w,simprocAttr,nsucc])|(refine hK _ _ ?_;clear hK;try simp only[pst0,simprocAttr]))
 (first|refine a_dcall0 (hP _) (by(try simp only[Ty.w,simprocAttr,nsucc]);try rfl) ?_|refine a_dcallA (hP _) (by(try simp only[Ty.w,simprocAttr,nsucc]);try rfl) (by simp only[Ty.w,simprocAttr,nsucc];try trivial) ?_);simp(maxSteps:=2000000) only[Ty.w,simprocAttr,Option.getD_some,nsucc]
 skip
 (first|refine a_dcall0 (hc _) (by(try simp only[Ty.w,simprocAttr,nsucc]);try rfl) ?_|refine a_dcallA (hc _) (by(try simp only[Ty.w,simprocAttr,nsucc]);try rfl) (by simp only[Ty.w,simprocAttr,nsucc];try trivial) ?_);simp(maxSteps:=2000000) only[Ty.w,simprocAttr,Option.getD_some,nsucc]
 repeat'(first|(refine a_ret ?_;simp(maxSteps:=2000000) only[Ty.w,simprocAttr,nsucc,putC])|(refine hK _ _ ?_;clear hK;try simp only[pst0,simprocAttr])|(with_reducible refine a_past2 (by simp only[List.forall_mem_cons,Ty.w,simprocAttr,nsucc,putC]<;>(repeat' apply And.intro)<;>first|trivial|exact .inl (by decide+kernel)) ?_;try simp(maxSteps:=2000000) only[Ty.w,simprocAttr,nsucc,putC]))
 exact⟨frz_fm (frz_imm (hfp _)) frz_nilslice (frz_imm (hfk _)),g1.set (Nat.le_refl _) _⟩
end Go.Proofs.Ytjlkapgpjamnkaa
namespace Go.Proofs.Ytjlkapgpjamnkaa
open Go.AM
set_option maxHeartbeats 4000000
set_option maxRecDepth 20000
theorem a_hold1{P:Program}{ow:Nat→Bool}{wf:FuncId→Bool}{n:Nat}{Q:Post}{s:Slots}{h:Heap}(id:Nat){ops:Array Oper}{d:Bool}{y:Code}(hh:Hold (awp P ow wf n (.seq (.region id ops d) y) Q s h)):awp P ow wf n (.seq (.region id ops d) y) Q s h:=hh.out
theorem flatM_take{o:ByteArray}{N:List Fm}{k:Nat}{n:Fm}(h:N[k]? =some n):flatM o (N.take (k+1))=flatM o (N.take k)++(if bEq (opOf n) o=true then fkids n else[n]):=by
 rw[List.take_add_one,h];simp[flatM]
theorem flatM_le(o:ByteArray)(N:List Fm)(k:Nat):(flatM o (N.take k)).length≤(flatM o N).length:=by
 have h:flatM o N=flatM o (N.take k)++flatM o (N.drop k):=by
  conv=>lhs;rw[← List.take_append_drop k N]
  simp only[flatM,List.flatMap_append]
 rw[h,List.length_append];omega
structure NrI(h:Heap)(o:ByteArray)(L:List Fm)(p:PV)(h':Heap):Prop where
 grow:Grow h h'
 lt:h.next+1<h'.next
 o1:h'.obj h.next=some (.arr 6 [[.sc (.string ⟨#[]⟩),.sc (.string ⟨#[]⟩),.sc (.slice none 0 0),.sc (.slice none 0 0),.sc (.slice none 0 0),.sc (.slice none 0 0)]])
 o2:h'.obj (h.next+1)=some (.arr 6 [[sPV o,.sc (.string ⟨#[]⟩),.sc (.slice none 0 0),.sc (.slice none 0 0),.sc (.slice none 0 0),p]])
 tl:Tl h' (h.next+2) 6 p (Fm.rows L)
theorem NrI.up{h h' H:Heap}{o:ByteArray}{L:List Fm}{p:PV}(i:NrI h o L p h')(hn:h'.next≤H.next)(ho: ∀ j,j<h'.next→H.obj j=h'.obj j):NrI h o L p H:=
 ⟨i.grow.trans ⟨hn,ho⟩,Nat.lt_of_lt_of_le i.lt hn,(ho _ (by have:=i.lt;omega)).trans i.o1,(ho _ i.lt).trans i.o2,i.tl.up hn fun j _ hj=>ho j hj⟩
theorem NrI.pc{h h':Heap}{o:ByteArray}{L:List Fm}{p:PV}(i:NrI h o L p h'):p.cells=[p]∧oneC p=true:=by
 rcases i.tl with⟨_,rfl|rfl⟩|⟨_,_,_,rfl,_⟩<;>exact⟨rfl,rfl⟩
theorem NrI.push{h h' HT:Heap}{o:ByteArray}{L M:List Fm}{p:PV}{m:Nat}{R:List (List PV)}(i:NrI h o L p h')(t3:HT.next=h'.next)(t4: ∀ j,j<h.next+2→HT.obj j=h'.obj j)(hk:Keep h HT)(hR:R=Fm.rows (L++M))(hm:m=(L++M).length):
  NrI h o (L++M) (.own HT.next 0 m) ((HT.new (.arr 6 R)).set (h.next+1) (.arr 6 [[sPV o,.sc (.string ⟨#[]⟩),.sc (.slice none 0 0),.sc (.slice none 0 0),.sc (.slice none 0 0),.own HT.next 0 m]])):=by
 have hl:=i.lt
 subst hR
 refine⟨((show Grow h HT from⟨hk.1,hk.2⟩).new _).set (Nat.le_succ _) _,by simp only[Heap.set,Heap.new];omega,?_,by simp only[Heap.set,if_true],?_⟩
 ·have n1:¬ h.next=h.next+1:=by omega
  have n2:¬ h.next=HT.next:=by omega
  simp only[Heap.set,Heap.new,n1,n2,if_false]
  rw[t4 _ (by omega)];exact i.o1
 ·have:Tl (HT.new (.arr 6 (Fm.rows (L++M)))) (h.next+2) 6 (.own HT.next 0 m) (Fm.rows (L++M)):=Tl.grow (by omega) (by rw[hm,Fm.rows_len])
  exact this.up (Nat.le_refl _) (fun j hj _=>by simp only[Heap.set];rw[if_neg (by omega)])
theorem norm_and{kids:List Fm}(hkl:kids.length≤1048576)(hB: ∀ o s,(flatM o (normalMs kids s)).length≤1073741824)(ih: ∀ k∈kids,NormC k):NormC (.mk opAnd ⟨#[]⟩ [] [] [] kids):=by
 intro s h
 show PCall _ _ _ _ fun r h'=>r= .agg (combM (dualM opAnd opOr s) (normalMs kids s)).cells∧h'=h
 refine PCall.frz Ty.hb_61 ?_
 have hD:=fun H=>dual_c opAnd opOr s H
 have hB:=hB (dualM opAnd opOr s) s
 generalize dualM opAnd opOr s=o at hD hB⊢
 have hcs: ∀ k∈kids, ∀ h:Heap,PCall Try.prog 61 [.agg k.cells,.sc (.bool s)] h fun r h'=>r= .agg (normalM k s).cells∧h'=h:=fun k hk=>ih k hk s
 clear ih
 rw[normalMs_map]at hB⊢
 have hlK:=Fm.rows_len kids
 simp only[combM,Fm.cells,Ex.rows,sr_nil,pr_nil]
 have k1:(opAnd.data.toList==(#[110,111,116]:Array UInt8).toList)=false:=rfl
 have k2:(opAnd.data.toList==(#[105,109,112,108,121]:Array UInt8).toList)=false:=rfl
 have k3:(opAnd.data.toList==(#[97,110,100]:Array UInt8).toList)=true:=rfl
 refine pcall_body (ow:=fun _=>false) (wf:=fun _=>false) Ty.mixed Try.func61 rfl Ty.hb_61 (by rw[Try.ntmps61];simp) ?_
 rw[Try.ntmps61,Try.results61]
 repeat'(first|refine a_seq fun K hK=>?_|(refine a_block ?_)|((first|refine a_regionS ?_|refine a_region (fun K hK=>?_));simp(maxSteps:=2000000) only[Ty.w,simprocAttr,k1,k2,k3,nsucc])|(refine hK _ _ ?_;clear hK;try simp only[pst0,simprocAttr]))
 refine owp_useQ (hD _) (by(try simp only[Ty.w,simprocAttr,k1,k2,k3,nsucc]);try rfl) ?_;simp(maxSteps:=2000000) only[Ty.w,simprocAttr,k1,k2,k3,nsucc]
 repeat'(first|refine a_seq fun K hK=>?_|(refine a_block ?_)|(refine a_regionS ?_;simp(maxSteps:=2000000) only[Ty.w,simprocAttr,nsucc,hlK])|(refine hK _ _ ?_;clear hK;try simp only[pst0,simprocAttr]))
 clear hD
 refine a_loop (fun m S h'=>S 1= .sc (.bool s)∧S 4= .ptr h.next 0 0∧S 5=sPV o∧S 7= .ptr (h.next+1) 0 0∧S 154= .imm 6 (Fm.rows kids)∧S 155= .sc (.int .i64 kids.length)∧ ∃ (k:Nat)(p:PV),S 156= .sc (.int .i64 k)∧k≤kids.length∧m=kids.length-k∧NrI h o (flatM o ((kids.take k).map (normalM · s))) p h') kids.length ?_ ?_
 ·simp only[Ty.w,simprocAttr]
  refine⟨0,_,rfl,by omega,rfl,(((Grow.refl h).new _).new _).set (Nat.le_succ _) _,?_,?_,?_,Tl.nil⟩
  ·simp only[Heap.set,Heap.new];omega
  ·simp [Heap.set,Heap.new]
  ·simp [Heap.set,Heap.new]
 ·clear k1 k2 k3
  rintro m S h' ⟨g1,g4,g5,g7,g154,g155,k,p,g156,hk,rfl,hI⟩
  by_cases hlt:k<kids.length
  ·have hd:decide ((k:Int)<(kids.length:Int))=true:=by simp;omega
   have w7:IntKind.i64.wrap ((k:Int)+1)=k+1:=by rw[wrap64 (by omega) (by omega)]
   obtain⟨x,hx⟩: ∃ x,kids[k]? =some x:=⟨_,List.getElem?_eq_getElem hlt⟩
   have hr:=Fm.rows_get hx
   have hc:=hcs x (List.mem_of_getElem? hx)
   have hF:=flatM_take (o:=o) (N:=kids.map (normalM · s)) (k:=k) (n:=normalM x s) (by simp[hx])
   have hl1:=Nat.le_trans (flatM_le o (kids.map (normalM · s)) (k+1)) hB
   rw[← List.map_take, ← List.map_take]at hF
   rw[← List.map_take,hF,List.length_append]at hl1
   generalize flatM o ((kids.take k).map (normalM · s))=L at hI hF hl1
   generalize normalM x s=y at hc hF hl1
   obtain⟨yo,yn,ya,yp,ye,yk⟩:=y
   obtain⟨xo,xn,xa,xp,xe,xk⟩:=x
   simp only[Fm.cells,opOf,fkids]at hr hc hF hl1
   clear hcs
   repeat'(first|refine a_seq fun K hK=>?_|(refine a_regionS ?_;simp(maxSteps:=2000000) only[Ty.w,simprocAttr,g1,g4,g5,g7,g154,g155,g156,hd,hr,nsucc])|(refine a_skip ?_;try simp only[pst0,simprocAttr])|(refine a_cond _ (by(try simp(maxSteps:=2000000) only[Ty.w,simprocAttr,g1,g4,g5,g7,g154,g155,g156,hd,hr,nsucc]);rfl) (fun hb=>?_) (fun hb=>?_)<;>(try simp only[hb0,decide_eq_true_eq,decide_eq_false_iff_not,simprocAttr]at hb)<;>(try(exfalso;omega)))|(refine hK _ _ ?_;clear hK;try simp only[pst0,simprocAttr]))
   refine owp_useQ (hc _) (by(try simp only[Ty.w,simprocAttr,g1,g4,g5,g7,g154,g155,g156,nsucc]);try rfl) ?_;simp(maxSteps:=2000000) only[Ty.w,simprocAttr,g1,g4,g5,g7,g154,g155,g156,nsucc]
   repeat'(first|(with_reducible refine a_hold1 36 ?_)|(first|(refine hK _ _ ?_;clear hK;try simp only[pst0,simprocAttr])))
   refine⟨?_⟩
   refine a_gen (fun S H=>S 1= .sc (.bool s)∧S 4= .ptr h.next 0 0∧S 5=sPV o∧S 7= .ptr (h.next+1) 0 0∧S 10= .ptr (h'.next+1) 0 0∧S 154= .imm 6 (Fm.rows kids)∧S 155= .sc (.int .i64 kids.length)∧S 156= .sc (.int .i64 k)∧H.obj (h'.next+1)=some (.arr 6 [[sPV yo,sPV yn,.imm 1 (strRows ya),.imm 2 (pmRows yp),.imm 5 (Ex.rows ye),.imm 6 (Fm.rows yk)]])∧H.next=h'.next+2∧ ∀ j,j<h'.next→H.obj j=h'.obj j) ?_ ?_
   ·simp only[Ty.w,simprocAttr,g1,g4,g5,g7,g154,g155,g156]
    intro j hj
    have a1:¬ j=h'.next:=by omega
    have a2:¬ j=h'.next+1:=by omega
    simp only[a1,a2,if_false]
   clear g1 g4 g5 g7 g154 g155 g156 hr hd
   rintro S H ⟨g1,g4,g5,g7,g10,g154,g155,g156,hob,hnn,hold⟩
   have hI:=hI.up (by omega) hold
   obtain⟨hp1,hp2⟩:=hI.pc
   obtain⟨HT,t1,t2,t3,t4,t5⟩:=hI.tl.tail
   have hkp:=t5 h ⟨hI.grow.le,hI.grow.old⟩ (Nat.le_add_right _ _)
   have o2:=hI.o2
   have o2T:=(t4 _ (by omega)).trans o2
   have hlt2:=hI.lt
   have n2:(h.next+1=HT.next)=False:=by simp;omega
   have hpr:=Fm.rows_len L
   have hyr:=Fm.rows_len yk
   cases q:(yo.data.toList==o.data.toList)with
   |true=>
    have qe:bEq yo o=true:=q
    simp only[qe,if_true]at hF hl1
    have hb:(L.length+yk.length)*128≤140737488355328:=by omega
    have hpush:=hI.push (M:=yk) (m:=L.length+yk.length) (R:=Fm.rows L++Fm.rows yk) t3 t4 hkp (by simp only[Fm.rows_map,List.map_append]) (by simp)
    rw[← hF,t3]at hpush
    repeat'(first|refine a_seq fun K hK=>?_|(refine a_block ?_)|((first|refine a_regionS ?_|refine a_region (fun K hK=>?_));simp(maxSteps:=2000000) only[Ty.w,simprocAttr,g1,g4,g5,g7,g10,g154,g155,g156,hob,q,o2,o2T,n2,t1,t2,hpr,hyr,hp1,hp2,hb,w7,putC])|(refine hK _ _ ?_;clear hK;try simp only[pst0,simprocAttr]))
    exact⟨kids.length-(k+1),by omega,k+1,_,by simp,by omega,rfl,hpush⟩
   |false=>
    have qe:bEq yo o=false:=q
    simp only[qe,Bool.false_eq_true,if_false,List.length_cons,List.length_nil]at hF hl1
    have hb:(L.length+1)*128≤140737488355328:=by omega
    have hpush:=hI.push (M:=[.mk yo yn ya yp ye yk]) (m:=L.length+1) (R:=Fm.rows L++Fm.rows [.mk yo yn ya yp ye yk]) t3 t4 hkp (by simp only[Fm.rows_map,List.map_append]) (by simp)
    rw[← hF,t3]at hpush
    simp only[Fm.rows,Fm.cells]at hpush
    repeat'(first|refine a_seq fun K hK=>?_|(refine a_block ?_)|((first|refine a_regionS ?_|refine a_region (fun K hK=>?_));simp(maxSteps:=2000000) only[Ty.w,simprocAttr,g1,g4,g5,g7,g10,g154,g155,g156,hob,q,o2,o2T,n2,t1,t2,hpr,hp1,hp2,hb,w7,putC])|(refine hK _ _ ?_;clear hK;try simp only[pst0,simprocAttr]))
    exact⟨kids.length-(k+1),by omega,k+1,_,by simp,by omega,rfl,hpush⟩
  ·have hd:decide ((k:Int)<(kids.length:Int))=false:=by simp;omega
   have hke:k=kids.length:=by omega
   subst hke
   rw[List.take_length]at hI
   have o1:=hI.o1
   have o2:=hI.o2
   obtain⟨hp1,hp2⟩:=hI.pc
   repeat'(first|refine a_seq fun K hK=>?_|((first|refine a_regionS ?_|refine a_ret ?_);simp(maxSteps:=2000000) only[Ty.w,simprocAttr,g1,g4,g5,g7,g154,g155,g156,hd,o1,o2,hp1,hp2,putC])|(refine a_exit ?_;try simp only[pst0,simprocAttr])|(refine a_cond _ (by(try simp(maxSteps:=2000000) only[Ty.w,simprocAttr,g1,g4,g5,g7,g154,g155,g156,hd,o1,o2,hp1,hp2,putC]);rfl) (fun hb=>?_) (fun hb=>?_)<;>(try simp only[hb0,decide_eq_true_eq,decide_eq_false_iff_not,simprocAttr]at hb)<;>(try(exfalso;omega)))|((first|refine hK _ _ ?_|(clear hK;refine hK _ _ ?_));clear hK;try simp only[pst0,simprocAttr]))
   refine⟨frz_fm frz_nilslice frz_nilslice ?_,hI.grow.set (Nat.le_refl _) _⟩
   exact tl_frzF (by omega) (hI.tl.up (Nat.le_refl _) fun j hj _=>by simp only[Heap.set];rw[if_neg (by omega)])
theorem norm_or{kids:List Fm}(hkl:kids.length≤1048576)(hB: ∀ o s,(flatM o (normalMs kids s)).length≤1073741824)(ih: ∀ k∈kids,NormC k):NormC (.mk opOr ⟨#[]⟩ [] [] [] kids):=by
 intro s h
 show PCall _ _ _ _ fun r h'=>r= .agg (combM (dualM opOr opAnd s) (normalMs kids s)).cells∧h'=h
 refine PCall.frz Ty.hb_61 ?_
 have hD:=fun H=>dual_c opOr opAnd s H
 have hB:=hB (dualM opOr opAnd s) s
 generalize dualM opOr opAnd s=o at hD hB⊢
 have hcs: ∀ k∈kids, ∀ h:Heap,PCall Try.prog 61 [.agg k.cells,.sc (.bool s)] h fun r h'=>r= .agg (normalM k s).cells∧h'=h:=fun k hk=>ih k hk s
 clear ih
 rw[normalMs_map]at hB⊢
 have hlK:=Fm.rows_len kids
 simp only[combM,Fm.cells,Ex.rows,sr_nil,pr_nil]
 have k1:(opOr.data.toList==(#[110,111,116]:Array UInt8).toList)=false:=rfl
 have k2:(opOr.data.toList==(#[105,109,112,108,121]:Array UInt8).toList)=false:=rfl
 have k3:(opOr.data.toList==(#[97,110,100]:Array UInt8).toList)=false:=rfl
 have k4:(opOr.data.toList==(#[111,114]:Array UInt8).toList)=true:=rfl
 refine pcall_body (ow:=fun _=>false) (wf:=fun _=>false) Ty.mixed Try.func61 rfl Ty.hb_61 (by rw[Try.ntmps61];simp) ?_
 rw[Try.ntmps61,Try.results61]
 repeat'(first|refine a_seq fun K hK=>?_|(refine a_block ?_)|((first|refine a_regionS ?_|refine a_region (fun K hK=>?_));simp(maxSteps:=2000000) only[Ty.w,simprocAttr,k1,k2,k3,k4,nsucc])|(refine hK _ _ ?_;clear hK;try simp only[pst0,simprocAttr]))
 refine owp_useQ (hD _) (by(try simp only[Ty.w,simprocAttr,k1,k2,k3,k4,nsucc]);try rfl) ?_;simp(maxSteps:=2000000) only[Ty.w,simprocAttr,k1,k2,k3,k4,nsucc]
 repeat'(first|refine a_seq fun K hK=>?_|(refine a_block ?_)|(refine a_regionS ?_;simp(maxSteps:=2000000) only[Ty.w,simprocAttr,nsucc,hlK])|(refine hK _ _ ?_;clear hK;try simp only[pst0,simprocAttr]))
 clear hD
 refine a_loop (fun m S h'=>S 1= .sc (.bool s)∧S 4= .ptr h.next 0 0∧S 5=sPV o∧S 7= .ptr (h.next+1) 0 0∧S 154= .imm 6 (Fm.rows kids)∧S 155= .sc (.int .i64 kids.length)∧ ∃ (k:Nat)(p:PV),S 156= .sc (.int .i64 k)∧k≤kids.length∧m=kids.length-k∧NrI h o (flatM o ((kids.take k).map (normalM · s))) p h') kids.length ?_ ?_
 ·simp only[Ty.w,simprocAttr]
  refine⟨0,_,rfl,by omega,rfl,(((Grow.refl h).new _).new _).set (Nat.le_succ _) _,?_,?_,?_,Tl.nil⟩
  ·simp only[Heap.set,Heap.new];omega
  ·simp [Heap.set,Heap.new]
  ·simp [Heap.set,Heap.new]
 ·clear k1 k2 k3 k4
  rintro m S h' ⟨g1,g4,g5,g7,g154,g155,k,p,g156,hk,rfl,hI⟩
  by_cases hlt:k<kids.length
  ·have hd:decide ((k:Int)<(kids.length:Int))=true:=by simp;omega
   have w7:IntKind.i64.wrap ((k:Int)+1)=k+1:=by rw[wrap64 (by omega) (by omega)]
   obtain⟨x,hx⟩: ∃ x,kids[k]? =some x:=⟨_,List.getElem?_eq_getElem hlt⟩
   have hr:=Fm.rows_get hx
   have hc:=hcs x (List.mem_of_getElem? hx)
   have hF:=flatM_take (o:=o) (N:=kids.map (normalM · s)) (k:=k) (n:=normalM x s) (by simp[hx])
   have hl1:=Nat.le_trans (flatM_le o (kids.map (normalM · s)) (k+1)) hB
   rw[← List.map_take, ← List.map_take]at hF
   rw[← List.map_take,hF,List.length_append]at hl1
   generalize flatM o ((kids.take k).map (normalM · s))=L at hI hF hl1
   generalize normalM x s=y at hc hF hl1
   obtain⟨yo,yn,ya,yp,ye,yk⟩:=y
   obtain⟨xo,xn,xa,xp,xe,xk⟩:=x
   simp only[Fm.cells,opOf,fkids]at hr hc hF hl1
   clear hcs
   repeat'(first|refine a_seq fun K hK=>?_|(refine a_regionS ?_;simp(maxSteps:=2000000) only[Ty.w,simprocAttr,g1,g4,g5,g7,g154,g155,g156,hd,hr,nsucc])|(refine a_skip ?_;try simp only[pst0,simprocAttr])|(refine a_cond _ (by(try simp(maxSteps:=2000000) only[Ty.w,simprocAttr,g1,g4,g5,g7,g154,g155,g156,hd,hr,nsucc]);rfl) (fun hb=>?_) (fun hb=>?_)<;>(try simp only[hb0,decide_eq_true_eq,decide_eq_false_iff_not,simprocAttr]at hb)<;>(try(exfalso;omega)))|(refine hK _ _ ?_;clear hK;try simp only[pst0,simprocAttr]))
   refine owp_useQ (hc _) (by(try simp only[Ty.w,simprocAttr,g1,g4,g5,g7,g154,g155,g156,nsucc]);try rfl) ?_;simp(maxSteps:=2000000) only[Ty.w,simprocAttr,g1,g4,g5,g7,g154,g155,g156,nsucc]
   repeat'(first|(with_reducible refine a_hold1 36 ?_)|(first|(refine hK _ _ ?_;clear hK;try simp only[pst0,simprocAttr])))
   refine⟨?_⟩
   refine a_gen (fun S H=>S 1= .sc (.bool s)∧S 4= .ptr h.next 0 0∧S 5=sPV o∧S 7= .ptr (h.next+1) 0 0∧S 10= .ptr (h'.next+1) 0 0∧S 154= .imm 6 (Fm.rows kids)∧S 155= .sc (.int .i64 kids.length)∧S 156= .sc (.int .i64 k)∧H.obj (h'.next+1)=some (.arr 6 [[sPV yo,sPV yn,.imm 1 (strRows ya),.imm 2 (pmRows yp),.imm 5 (Ex.rows ye),.imm 6 (Fm.rows yk)]])∧H.next=h'.next+2∧ ∀ j,j<h'.next→H.obj j=h'.obj j) ?_ ?_
   ·simp only[Ty.w,simprocAttr,g1,g4,g5,g7,g154,g155,g156]
    intro j hj
    have a1:¬ j=h'.next:=by omega
    have a2:¬ j=h'.next+1:=by omega
    simp only[a1,a2,if_false]
   clear g1 g4 g5 g7 g154 g155 g156 hr hd
   rintro S H ⟨g1,g4,g5,g7,g10,g154,g155,g156,hob,hnn,hold⟩
   have hI:=hI.up (by omega) hold
   obtain⟨hp1,hp2⟩:=hI.pc
   obtain⟨HT,t1,t2,t3,t4,t5⟩:=hI.tl.tail
   have hkp:=t5 h ⟨hI.grow.le,hI.grow.old⟩ (Nat.le_add_right _ _)
   have o2:=hI.o2
   have o2T:=(t4 _ (by omega)).trans o2
   have hlt2:=hI.lt
   have n2:(h.next+1=HT.next)=False:=by simp;omega
   have hpr:=Fm.rows_len L
   have hyr:=Fm.rows_len yk
   cases q:(yo.data.toList==o.data.toList)with
   |true=>
    have qe:bEq yo o=true:=q
    simp only[qe,if_true]at hF hl1
    have hb:(L.length+yk.length)*128≤140737488355328:=by omega
    have hpush:=hI.push (M:=yk) (m:=L.length+yk.length) (R:=Fm.rows L++Fm.rows yk) t3 t4 hkp (by simp only[Fm.rows_map,List.map_append]) (by simp)
    rw[← hF,t3]at hpush
    repeat'(first|refine a_seq fun K hK=>?_|(refine a_block ?_)|((first|refine a_regionS ?_|refine a_region (fun K hK=>?_));simp(maxSteps:=2000000) only[Ty.w,simprocAttr,g1,g4,g5,g7,g10,g154,g155,g156,hob,q,o2,o2T,n2,t1,t2,hpr,hyr,hp1,hp2,hb,w7,putC])|(refine hK _ _ ?_;clear hK;try simp only[pst0,simprocAttr]))
    exact⟨kids.length-(k+1),by omega,k+1,_,by simp,by omega,rfl,hpush⟩
   |false=>
    have qe:bEq yo o=false:=q
    simp only[qe,Bool.false_eq_true,if_false,List.length_cons,List.length_nil]at hF hl1
    have hb:(L.length+1)*128≤140737488355328:=by omega
    have hpush:=hI.push (M:=[.mk yo yn ya yp ye yk]) (m:=L.length+1) (R:=Fm.rows L++Fm.rows [.mk yo yn ya yp ye yk]) t3 t4 hkp (by simp only[Fm.rows_map,List.map_append]) (by simp)
    rw[← hF,t3]at hpush
    simp only[Fm.rows,Fm.cells]at hpush
    repeat'(first|refine a_seq fun K hK=>?_|(refine a_block ?_)|((first|refine a_regionS ?_|refine a_region (fun K hK=>?_));simp(maxSteps:=2000000) only[Ty.w,simprocAttr,g1,g4,g5,g7,g10,g154,g155,g156,hob,q,o2,o2T,n2,t1,t2,hpr,hp1,hp2,hb,w7,putC])|(refine hK _ _ ?_;clear hK;try simp only[pst0,simprocAttr]))
    exact⟨kids.length-(k+1),by omega,k+1,_,by simp,by omega,rfl,hpush⟩
  ·have hd:decide ((k:Int)<(kids.length:Int))=false:=by simp;omega
   have hke:k=kids.length:=by omega
   subst hke
   rw[List.take_length]at hI
   have o1:=hI.o1
   have o2:=hI.o2
   obtain⟨hp1,hp2⟩:=hI.pc
   repeat'(first|refine a_seq fun K hK=>?_|((first|refine a_regionS ?_|refine a_ret ?_);simp(maxSteps:=2000000) only[Ty.w,simprocAttr,g1,g4,g5,g7,g154,g155,g156,hd,o1,o2,hp1,hp2,putC])|(refine a_exit ?_;try simp only[pst0,simprocAttr])|(refine a_cond _ (by(try simp(maxSteps:=2000000) only[Ty.w,simprocAttr,g1,g4,g5,g7,g154,g155,g156,hd,o1,o2,hp1,hp2,putC]);rfl) (fun hb=>?_) (fun hb=>?_)<;>(try simp only[hb0,decide_eq_true_eq,decide_eq_false_iff_not,simprocAttr]at hb)<;>(try(exfalso;omega)))|((first|refine hK _ _ ?_|(clear hK;refine hK _ _ ?_));clear hK;try simp only[pst0,simprocAttr]))
   refine⟨frz_fm frz_nilslice frz_nilslice ?_,hI.grow.set (Nat.le_refl _) _⟩
   exact tl_frzF (by omega) (hI.tl.up (Nat.le_refl _) fun j hj _=>by simp only[Heap.set];rw[if_neg (by omega)])
theorem norm_imp{a b:Fm}(hB: ∀ o s,(flatM o (normalMs [.mk opNot ⟨#[]⟩ [] [] [] [a],b] s)).length≤1073741824)(ia:NormC a)(ib:NormC b):NormC (.mk opImp ⟨#[]⟩ [] [] [] [a,b]):=by
 intro s h
 have hc0:=fun H=>norm_or (kids:=[.mk opNot ⟨#[]⟩ [] [] [] [a],b]) (by simp) hB (fun k hk=>by
  simp only[List.mem_cons,List.not_mem_nil,or_false]at hk
  rcases hk with rfl|rfl
  ·exact norm_not ia
  ·exact ib) s H
 have hN:normalM (.mk opImp ⟨#[]⟩ [] [] [] [a,b]) s=normalM (.mk opOr ⟨#[]⟩ [] [] [] [.mk opNot ⟨#[]⟩ [] [] [] [a],b]) s:=by
  simp only[normalM,nt_imp,nt_or,nt_not,normalMs,List.headD_cons,List.drop_succ_cons,List.drop_zero]
 rw[hN]
 refine PCall.frz Ty.hb_61 ?_
 have hfz:=fun(n:Nat)(H:Heap)=>fm_frz n H (normalM (.mk opOr ⟨#[]⟩ [] [] [] [.mk opNot ⟨#[]⟩ [] [] [] [a],b]) s)
 generalize normalM (.mk opOr ⟨#[]⟩ [] [] [] [.mk opNot ⟨#[]⟩ [] [] [] [a],b]) s=y at hc0 hfz⊢
 have hc: ∀ H:Heap,PCall Try.prog 61 [.agg [sPV opOr,.sc (.string ⟨#[]⟩),.sc (.slice none 0 0),.sc (.slice none 0 0),.sc (.slice none 0 0),.imm 6 [[sPV opNot,.sc (.string ⟨#[]⟩),.sc (.slice none 0 0),.sc (.slice none 0 0),.sc (.slice none 0 0),.imm 6 [a.cells]],b.cells]],.sc (.bool s)] H fun r h'=>r= .agg y.cells∧h'=H:=fun H=>by
  refine PCall.nz (hc0 H) ?_
  simp only[Fm.cells,Fm.rows,Ex.rows,sr_nil,pr_nil]
  refine nz_cons (nz_agg ?_) (NzL.refl _)
  refine nz_cons (Nz.refl _) (nz_cons (Nz.refl _) (nz_cons nz_nil (nz_cons nz_nil (nz_cons nz_nil (nz_cons (nz_imm ?_) (NzL.refl _))))))
  refine nzr_cons ?_ (NzR.refl _)
  exact nz_cons (Nz.refl _) (nz_cons (Nz.refl _) (nz_cons nz_nil (nz_cons nz_nil (nz_cons nz_nil (NzL.refl _)))))
 clear hc0 hN
 have g1:Grow h (h.new (.arr 6 [[.sc (.string ⟨#[]⟩),.sc (.string ⟨#[]⟩),.sc (.slice none 0 0),.sc (.slice none 0 0),.sc (.slice none 0 0),.sc (.slice none 0 0)]])):=(Grow.refl h).new _
 obtain⟨yo,yn,ya,yp,ye,yk⟩:=y
 obtain⟨ao,an,aa,ap,ae,ak⟩:=a
 obtain⟨bo,bn,ba,bp,be,bk⟩:=b
 simp only[Fm.cells,Fm.rows,Ex.rows,sr_nil,pr_nil]at hc hfz⊢
 have k1:(opImp.data.toList==(#[110,111,116]:Array UInt8).toList)=false:=rfl
 have k2:(opImp.data.toList==(#[105,109,112,108,121]:Array UInt8).toList)=true:=rfl
 refine pcall_body (ow:=fun _=>false) (wf:=fun _=>false) Ty.mixed Try.func61 rfl Ty.hb_61 (by rw[Try.ntmps61];simp) ?_
 rw[Try.ntmps61,Try.results61]
 have u1:(0:Int)≤1:=by decide
 have u2:(1:Int)≤((2:Nat):Int):=by decide
 repeat'(first|refine a_seq fun K hK=>?_|((first|refine a_regionS ?_|refine a_drawS (by decide+kernel) ?_);simp(maxSteps:=2000000) only[Ty.w,simprocAttr,k1,k2,nsucc,u1,u2,Option.getD_some,Option.getD_none,Int.le_refl,Int.sub_zero,Int.toNat_one])|(refine hK _ _ ?_;clear hK;try simp only[pst0,simprocAttr]))
 (first|refine a_dcall0 (hc _) (by(try simp only[Ty.w,simprocAttr,k1,k2,nsucc,u1,u2,Option.getD_none,Int.le_refl,Int.sub_zero,Int.toNat_one]);try rfl) ?_|refine a_dcallA (hc _) (by(try simp only[Ty.w,simprocAttr,k1,k2,nsucc,u1,u2,Option.getD_none,Int.le_refl,Int.sub_zero,Int.toNat_one]);try rfl) (by simp only[Ty.w,simprocAttr,k1,k2,nsucc,u1,u2,Option.getD_none,Int.le_refl,Int.sub_zero,Int.toNat_one];try trivial) ?_);simp(maxSteps:=2000000) only[Ty.w,simprocAttr,Option.getD_some,k1,k2,nsucc,u1,u2,Option.getD_none,Int.le_refl,Int.sub_zero,Int.toNat_one]
 repeat'(first|(refine a_ret ?_;simp(maxSteps:=2000000) only[Ty.w,simprocAttr,nsucc,putC])|(refine hK _ _ ?_;clear hK;try simp only[pst0,simprocAttr])|(with_reducible refine a_past2 (by simp only[List.forall_mem_cons,Ty.w,simprocAttr,nsucc,putC]<;>(repeat' apply And.intro)<;>first|trivial|exact .inl (by decide+kernel)) ?_;try simp(maxSteps:=2000000) only[Ty.w,simprocAttr,nsucc,putC]))
 exact⟨frz_agg (hfz _ _),g1.set (Nat.le_refl _) _⟩
end Go.Proofs.Ytjlkapgpjamnkaa
namespace Go.Proofs.Ytjlkapgpjamnkaa
open Go.AM
set_option maxHeartbeats 4000000
set_option maxRecDepth 20000
mutual
def cntF:Fm→Nat
 | .mk _ _ _ _ _ kids=>cntFs kids+1
def cntFs:List Fm→Nat
 |[]=>0
 |k::l=>cntF k+cntFs l
end
theorem cntF_pos(f:Fm):1≤cntF f:=by cases f;simp[cntF]
theorem cntFs_map: ∀ l:List Fm, ∀ k∈l,cntF k≤cntFs l
 |[],_,h=>by simp at h
 |x::l,k,h=>by
  simp only[cntFs]
  rcases List.mem_cons.1 h with rfl|h
  ·omega
  ·have:=cntFs_map l k h;omega
mutual
theorem cntF_bulk: ∀ f:Fm,cntF f≤PV.bulkL f.cells
 | .mk op name args params exprs kids=>by
  have:=cntFs_bulk kids
  simp only[cntF,Fm.cells,PV.bulkL,PV.bulk]
  omega
theorem cntFs_bulk: ∀ l:List Fm,cntFs l≤PV.bulkR (Fm.rows l)
 |[]=>by simp[cntFs]
 |k::l=>by
  have h1:=cntF_bulk k
  have h2:=cntFs_bulk l
  simp only[cntFs,Fm.rows,PV.bulkR]
  omega
end
theorem flatM_len(o:ByteArray)(s:Bool): ∀ l:List Fm,(∀ k∈l,(fkids (normalM k s)).length≤2*cntF k)→(flatM o (normalMs l s)).length≤2*cntFs l
 |[],_=>by simp[normalMs,flatM]
 |k::l,h=>by
  have h1:=h k (by simp)
  have h2:=flatM_len o s l fun x hx=>h x (by simp[hx])
  have h3:=cntF_pos k
  simp only[normalMs,flatM,List.flatMap_cons,List.length_append,cntFs]at h2⊢
  split<;>(try simp only[List.length_cons,List.length_nil])<;>omega
theorem norm_len: ∀ f,shapedF f=true→ ∀ s,(fkids (normalM f s)).length≤2*cntF f:=by
 refine sf_ind ?_ ?_ ?_ ?_ ?_ ?_ ?_
 ·intro name args _ _ s
  simp only[normalM,nt_atom]
  split<;>simp[fkids,cntF,cntFs]
 ·intro args _ _ s
  simp only[normalM,nt_same]
  split<;>simp[fkids,cntF,cntFs]
 ·intro op a b ho _ _ s
  rcases ho with rfl|rfl|rfl
  ·simp only[normalM,nt_lt,cmpN];split<;>simp[cmpM,fkids]
  ·simp only[normalM,nt_le,cmpN];split<;>simp[cmpM,fkids]
  ·simp only[normalM,nt_eq,eqN];split<;>simp[cmpM,fkids,cntF,cntFs]
 ·intro op kids ho _ ih s
  have h:=flatM_len (dualM opAnd opOr s) s kids fun k hk=>ih k hk s
  have h2:=flatM_len (dualM opOr opAnd s) s kids fun k hk=>ih k hk s
  rcases ho with rfl|rfl
  ·simp only[normalM,nt_and,combM,fkids,cntF];omega
  ·simp only[normalM,nt_or,combM,fkids,cntF];omega
 ·intro k _ ih s
  have:=ih (!s)
  simp only[normalM,nt_not,normalMs,List.headD_cons,cntF,cntFs];omega
 ·intro a b _ _ ia ib s
  have h1:=ia (!s)
  have h2:=ib s
  have h3:=cntF_pos a
  have h4:=cntF_pos b
  simp only[normalM,nt_imp,normalMs,List.headD_cons,List.drop_succ_cons,List.drop_zero,cntF,cntFs]
  generalize normalM a (!s)=x at h1⊢
  generalize normalM b s=y at h2⊢
  show(flatM _ [x,y]).length≤_
  simp only[flatM,List.flatMap_cons,List.flatMap_nil,List.append_nil,List.length_append]
  split<;>split<;>(try simp only[List.length_cons,List.length_nil])<;>omega
 ·intro op params k ho _ _ _ s
  rcases ho with rfl|rfl
  ·simp [normalM,nt_all,fkids,cntF];omega
  ·simp [normalM,nt_some,fkids,cntF];omega
theorem bindNil_c{f:Fm}(hsm:f.small)(hsh:shapedF f=true)(hb:PV.bulkL f.cells≤16777216)(H:Heap):
  PCall Try.prog 82 [.agg f.cells,.sc (.map none),.sc (.slice none 0 0)] H fun r h'=>r= .agg f.cells∧h'=H:=by
 refine PCall.nil_imm (z:=1) (pre:=[.agg f.cells,.sc (.map none)]) (post:=[]) ?_
 have:=bindF_c f hsm hsh (bound:=[]) (by simp only[List.length_nil];omega) (MapAt.nil H)
 rw[bindFm_none (fun _=>rfl)]at this
 exact this
theorem normal_c: ∀ f,shapedF f=true→f.small→PV.bulkL f.cells≤16777216→NormC f:=by
 refine sf_ind ?_ ?_ ?_ ?_ ?_ ?_ ?_
 ·intro name args h1 h2 hsm hb
  have hs:shapedF (.mk opAtom name args [] [] [])=true:=sf_mk (by simp[partsOk,show shapeOf opAtom 0=some (0,0,false)from rfl,show termsOk opAtom name args=(nameB name&&args.all termB)from rfl,h1,h2]) (by simp) (by simp)
  exact norm_atom fun H=>bindNil_c hsm hs hb H
 ·intro args h1 h2 hsm hb
  have hs:shapedF (.mk opSame ⟨#[]⟩ args [] [] [])=true:=sf_mk (by simp[partsOk,show shapeOf opSame 0=some (0,0,false)from rfl,show termsOk opSame ⟨#[]⟩ args=(emptyB ⟨#[]⟩&&decide (args.length=2)&&args.all termB)from rfl,h1,h2,show emptyB ⟨#[]⟩=true from rfl]) (by simp) (by simp)
  exact norm_same fun H=>bindNil_c hsm hs hb H
 ·intro op a b ho ha hb hsm _
  simp only[Fm.small,Ex.smalls]at hsm
  obtain⟨_,_,⟨sa,sb,_⟩,_⟩:=hsm
  rcases ho with rfl|rfl|rfl
  ·exact norm_lt sa ha sb hb
  ·exact norm_le sa ha sb hb
  ·exact norm_eq sa ha sb hb
 ·intro op kids ho hk ih hsm hb
  simp only[Fm.small]at hsm
  obtain⟨_,_,_,hkl,hks⟩:=hsm
  rw[Fm.smalls_iff]at hks
  simp only[Fm.cells,PV.bulkL,PV.bulk]at hb
  have hB: ∀ o s,(flatM o (normalMs kids s)).length≤1073741824:=fun o s=>by
   have h1:=flatM_len o s kids fun k hkk=>norm_len k (hk k hkk) s
   have h2:=cntFs_bulk kids
   omega
  have ihk: ∀ k∈kids,NormC k:=fun k hkk=>ih k hkk (hks k hkk) (by have:=bulk_memF hkk;omega)
  rcases ho with rfl|rfl
  ·exact norm_and hkl hB ihk
  ·exact norm_or hkl hB ihk
 ·intro k _ ih hsm hb
  simp only[Fm.small,Fm.smalls]at hsm
  simp only[Fm.cells,PV.bulkL,PV.bulk,Fm.rows,PV.bulkR]at hb
  exact norm_not (ih hsm.2.2.2.2.1 (by omega))
 ·intro a b sa sb ia ib hsm hb
  simp only[Fm.small,Fm.smalls]at hsm
  simp only[Fm.cells,PV.bulkL,PV.bulk,Fm.rows,PV.bulkR]at hb
  have hna:shapedF (.mk opNot ⟨#[]⟩ [] [] [] [a])=true:=sf_mk po_not (by simp) (by simpa using sa)
  refine norm_imp (fun o s=>?_) (ia hsm.2.2.2.2.1 (by omega)) (ib hsm.2.2.2.2.2.1 (by omega))
  have h1:=flatM_len o s [.mk opNot ⟨#[]⟩ [] [] [] [a],b] fun k hk=>by
   simp only[List.mem_cons,List.not_mem_nil,or_false]at hk
   rcases hk with rfl|rfl
   ·exact norm_len _ hna s
   ·exact norm_len _ sb s
  have h2:=cntF_bulk a
  have h3:=cntF_bulk b
  simp only[cntFs,cntF]at h1
  omega
 ·intro op params k ho hp _ ih hsm hb
  simp only[Fm.small,Fm.smalls]at hsm
  simp only[Fm.cells,PV.bulkL,PV.bulk,Fm.rows,PV.bulkR]at hb
  have ik:=ih hsm.2.2.2.2.1 (by omega)
  rcases ho with rfl|rfl
  ·exact norm_all hsm.2.1 ik
  ·exact norm_some hsm.2.1 ik
def normF(f:Fm):Fm:=if validF f=true then normalM f true else zeroFm
theorem Normal_c{f:Fm}(hok:f.ok)(hsm:f.small)(hb:PV.bulkL f.cells≤16777216)(h:Heap):
  PCall Try.prog 22 [.agg f.cells] h fun r h'=>r= .agg (normF f).cells∧h'=h:=by
 have hv:=fun H=>fvalid_c hok hsm H
 have hn:=fun(hsh:shapedF f=true)=>normal_c f hsh hsm hb true
 have hvs:validF f=true→shapedF f=true:=fun h=>(validF_iff.1 h).1
 refine PCall.frz Ty.hb_22 ?_
 have g1:Grow h (h.new (.arr 6 [[.sc (.string ⟨#[]⟩),.sc (.string ⟨#[]⟩),.sc (.slice none 0 0),.sc (.slice none 0 0),.sc (.slice none 0 0),.sc (.slice none 0 0)]])):=(Grow.refl h).new _
 cases q:validF f with
 |false=>
  rw[show normF f=zeroFm from if_neg (by rw[q];simp)]
  rw[q]at hv
  obtain⟨op,name,args,params,exprs,kids⟩:=f
  simp only[Fm.cells,zeroFm,Fm.rows,Ex.rows,sr_nil,pr_nil]at hv⊢
  refine pcall_body (ow:=fun _=>false) (wf:=fun _=>false) Ty.mixed Try.func22 rfl Ty.hb_22 (by rw[Try.ntmps22];simp) ?_
  rw[Try.ntmps22,Try.results22]
  repeat'(first|refine a_seq fun K hK=>?_|(refine a_regionS ?_;simp(maxSteps:=2000000) only[Ty.w,simprocAttr,nsucc])|(refine hK _ _ ?_;clear hK;try simp only[pst0,simprocAttr]))
  refine owp_useQ (hv _) (by(try simp only[Ty.w,simprocAttr,nsucc,Bool.not_false]);try rfl) ?_;simp(maxSteps:=2000000) only[Ty.w,simprocAttr,nsucc,Bool.not_false]
  repeat'(first|refine a_seq fun K hK=>?_|((first|refine a_regionS ?_|refine a_ret ?_);simp(maxSteps:=2000000) only[Ty.w,simprocAttr,nsucc,Bool.not_false,putC])|(refine hK _ _ ?_;clear hK;try simp only[pst0,simprocAttr]))
  exact⟨frz_fm frz_nilslice frz_nilslice frz_nilslice,g1.set (Nat.le_refl _) _⟩
 |true=>
  rw[show normF f=normalM f true from if_pos q]
  rw[q]at hv
  have hc:=hn (hvs q)
  have hfz:=fun(n:Nat)(H:Heap)=>fm_frz n H (normalM f true)
  clear hn hvs
  generalize normalM f true=y at hc hfz⊢
  obtain⟨yo,yn,ya,yp,ye,yk⟩:=y
  obtain⟨op,name,args,params,exprs,kids⟩:=f
  simp only[Fm.cells]at hv hc hfz⊢
  refine pcall_body (ow:=fun _=>false) (wf:=fun _=>false) Ty.mixed Try.func22 rfl Ty.hb_22 (by rw[Try.ntmps22];simp) ?_
  rw[Try.ntmps22,Try.results22]
  repeat'(first|refine a_seq fun K hK=>?_|(refine a_regionS ?_;simp(maxSteps:=2000000) only[Ty.w,simprocAttr,nsucc])|(refine hK _ _ ?_;clear hK;try simp only[pst0,simprocAttr]))
  refine owp_useQ (hv _) (by(try simp only[Ty.w,simprocAttr,nsucc,Bool.not_true]);try rfl) ?_;simp(maxSteps:=2000000) only[Ty.w,simprocAttr,nsucc,Bool.not_true]
  repeat'(first|refine a_seq fun K hK=>?_|(refine a_regionS ?_;simp(maxSteps:=2000000) only[Ty.w,simprocAttr,nsucc,Bool.not_true])|(refine a_skip ?_;try simp only[pst0,simprocAttr])|(refine a_cond _ (by(try simp(maxSteps:=2000000) only[Ty.w,simprocAttr,nsucc,Bool.not_true]);rfl) (fun hb=>?_) (fun hb=>?_)<;>(try simp only[hb0,decide_eq_true_eq,decide_eq_false_iff_not,simprocAttr]at hb)<;>(try(exfalso;omega)))|(refine hK _ _ ?_;clear hK;try simp only[pst0,simprocAttr]))
  refine owp_useQ (hc _) (by(try simp only[Ty.w,simprocAttr,nsucc]);try rfl) ?_;simp(maxSteps:=2000000) only[Ty.w,simprocAttr,nsucc]
  repeat'(first|(refine a_ret ?_;simp(maxSteps:=2000000) only[Ty.w,simprocAttr,nsucc,putC])|(refine hK _ _ ?_;clear hK;try simp only[pst0,simprocAttr]))
  exact⟨frz_agg (hfz _ _),g1.set (Nat.le_refl _) _⟩
end Go.Proofs.Ytjlkapgpjamnkaa
namespace Go.Proofs.Ytjlkapgpjamnkaa
open Go.AM
set_option maxHeartbeats 4000000
set_option maxRecDepth 20000
theorem rreplace_c{l n a:List ByteArray}{pN pA:PV}{h:Heap}(hp:Sl h 1 pN (strRows n))(hq:Sl h 1 pA (strRows a))(hl:l.length≤1048576):
  PCall Try.prog 66 [.imm 1 (strRows l),pN,pA] h fun r h'=>r= .imm 1 (strRows (l.map (replR n a)))∧h'=h:=by
 refine pcall_wf Ty.hb_66 fun hwf=>?_
 refine pcall_len hp (by simp) Ty.hb_66 fun hn=>?_
 refine pcall_len hq (by simp) Ty.hb_66 fun ha=>?_
 rw[strRows_len]at hn ha
 refine PCall.frz Ty.hb_66 ?_
 have hlN: ∀ H,lenP H pN=some n.length:=fun H=>by rw[lenP_sl hp H,strRows_len]
 have hlA: ∀ H,lenP H pA=some a.length:=fun H=>by rw[lenP_sl hq H,strRows_len]
 have hkN:=hp.lk
 have hkA:=hq.lk
 have hlL:=strRows_len l
 refine pcall_body (ow:=fun _=>false) (wf:=fun _=>false) Ty.mixed Try.func66 rfl Ty.hb_66 (by rw[Try.ntmps66];simp) ?_
 rw[Try.ntmps66,Try.results66]
 repeat'(first|refine a_seq fun K hK=>?_|(refine a_block ?_)|(refine a_regionS ?_;simp(maxSteps:=2000000) only[Ty.w,simprocAttr])|(refine hK _ _ ?_;clear hK;try simp only[pst0,simprocAttr]))
 refine a_loop (fun m S h'=>S 0= .imm 1 (strRows l)∧S 1=pN∧S 2=pA∧ ∃ (k:Nat)(o:PV),S 8= .sc (.int .i64 k)∧S 7=o∧k≤l.length∧m=l.length-k∧Grow h h'∧Tl h' h.next 1 o (strRows ((l.take k).map (replR n a)))) l.length ?_ ?_
 ·simp only[Ty.w,simprocAttr]
  exact⟨0,_,rfl,rfl,by omega,rfl,Grow.refl _,Tl.nil⟩
 ·rintro m S h' ⟨g0,g1,g2,k,o,g8,g7,hk,rfl,hg,tl⟩
  by_cases hlt:k<l.length
  ·have hd:decide ((k:Int)<(l.length:Int))=true:=by simp;omega
   have w7:IntKind.i64.wrap ((k:Int)+1)=k+1:=by rw[wrap64 (by omega) (by omega)]
   obtain⟨s,hx⟩: ∃ s,l[k]? =some s:=⟨_,List.getElem?_eq_getElem hlt⟩
   have hr:=strRows_get hx
   have hkeep:Keep h h':=⟨hg.le,hg.old⟩
   -- what stands at the end of a round
   have hR:strRows ((l.take (k+1)).map (replR n a))=strRows ((l.take k).map (replR n a))++[[sPV (replR n a s)]]:=by
    rw[List.take_add_one,hx];simp[strRows]
   have hlen:(strRows ((l.take k).map (replR n a))).length=k:=by rw[strRows_len];simp;omega
   generalize strRows ((l.take k).map (replR n a))=R at tl hR hlen
   obtain⟨H,t1,t2,t3,t4,t5⟩:=tl.tail
   have hkp:=t5 h hkeep (Nat.le_refl _)
   have hgH:Grow h H:=⟨hkp.1,hkp.2⟩
   have hbb:(k+1)*16≤140737488355328:=by omega
   have fin: ∀ t,t=replR n a s→Tl (H.new (.arr 1 (R++[[sPV t]]))) h.next 1 (.own h'.next 0 (k+1)) (strRows ((l.take (k+1)).map (replR n a))):=fun t ht=>by
    rw[hR,ht, ← t3]
    exact Tl.grow hkp.1 (by simp[hlen])
   repeat'(first|refine a_seq fun K hK=>?_|(refine a_block ?_)|(refine a_regionS ?_;simp(maxSteps:=2000000) only[Ty.w,simprocAttr,g0,g1,g2,g7,g8,hlL,hd,hr])|(refine a_skip ?_;try simp only[pst0,simprocAttr])|(refine a_cond _ (by(try simp(maxSteps:=2000000) only[Ty.w,simprocAttr,g0,g1,g2,g7,g8,hlL,hd,hr]);rfl) (fun hb=>?_) (fun hb=>?_)<;>(try simp only[hb0,decide_eq_true_eq,decide_eq_false_iff_not,simprocAttr]at hb)<;>(try(exfalso;omega)))|(refine hK _ _ ?_;clear hK;try simp only[pst0,simprocAttr]))
   refine a_loop (fun m S H'=>S 0= .imm 1 (strRows l)∧S 1=pN∧S 2=pA∧S 8= .sc (.int .i64 k)∧S 7=o∧S 9=sPV s∧H'=h'∧ ∃ j:Nat,S 10= .sc (.int .i64 j)∧m=n.length-j∧j≤n.length∧lookR n a s=lookR (n.drop j) (a.drop j) s) n.length ?_ ?_
   ·simp only[Ty.w,simprocAttr,g0,g1,g2,g7,g8]
    exact⟨0,rfl,rfl,by omega,by rw[List.drop_zero,List.drop_zero]⟩
   ·clear g0 g1 g2 g7 g8
    rintro m S H' ⟨g0,g1,g2,g8,g7,g9,rfl,j,g10,rfl,hj,hlk⟩
    by_cases hjn:j<n.length
    ·by_cases hja:j<a.length
     ·have d1:decide ((j:Int)<(n.length:Int))=true:=by simp;omega
      have d2:decide ((j:Int)<(a.length:Int))=true:=by simp;omega
      have w8:IntKind.i64.wrap ((j:Int)+1)=j+1:=by rw[wrap64 (by omega) (by omega)]
      obtain⟨x,hxn⟩: ∃ x,n[j]? =some x:=⟨_,List.getElem?_eq_getElem hjn⟩
      obtain⟨y,hya⟩: ∃ y,a[j]? =some y:=⟨_,List.getElem?_eq_getElem hja⟩
      obtain⟨px,hpx,hrx⟩:=hp.kget hwf (strRows_get hxn)
      obtain⟨py,hpy,hry⟩:=hq.kget hwf (strRows_get hya)
      have hpx:=hpx H' hkeep
      have hrx:=hrx H' hkeep
      have hpy:=hpy H' hkeep
      have hry:=hry H' hkeep
      rw[drop_get hxn,drop_get hya]at hlk
      simp only[lookR]at hlk
      cases q:(s.data.toList==x.data.toList)with
      |true=>
       rw[show bEq s x=true from q]at hlk
       simp only[if_true]at hlk
       have fin2:=fin y (by unfold replR;rw[hlk];try rfl)
       repeat'(first|refine a_seq fun K hK=>?_|((first|refine a_regionS ?_|refine a_drawS (by decide+kernel) ?_|refine a_region (fun K hK=>?_));simp(maxSteps:=2000000) only[Ty.w,simprocAttr,g0,g1,g2,g7,g8,g9,g10,hlN,hlA,hkN,hkA,d1,d2,hr,hpx,hrx,hpy,hry,q])|((first|refine a_skip ?_|refine a_exit ?_);try simp only[pst0,simprocAttr])|(refine a_cond _ (by(try simp(maxSteps:=2000000) only[Ty.w,simprocAttr,g0,g1,g2,g7,g8,g9,g10,hlN,hlA,hkN,hkA,d1,d2,hr,hpx,hrx,hpy,hry,q]);rfl) (fun hb=>?_) (fun hb=>?_)<;>(try simp only[hb0,decide_eq_true_eq,decide_eq_false_iff_not,simprocAttr]at hb)<;>(try(exfalso;omega)))|((first|refine hK _ _ ?_|(clear hK;refine hK _ _ ?_));clear hK;try simp only[pst0,simprocAttr]))
       repeat'(first|(refine a_regionS ?_;simp(maxSteps:=2000000) only[Ty.w,simprocAttr,g0,g1,g2,g7,g8,g9,g10,t1,t2,hlen,hbb,w7])|(refine hK _ _ ?_;clear hK;try simp only[pst0,simprocAttr])|(rw[if_pos];rotate_left 1;omega;simp(maxSteps:=2000000) only[Ty.w,simprocAttr,g0,g1,g2,g7,g8,g9,g10,t1,t2,hlen,hbb,w7]))
       exact⟨l.length-(k+1),by omega,k+1,_,by simp,rfl,by omega,rfl,hgH.new _,fin2⟩
      |false=>
       rw[show bEq s x=false from q]at hlk
       simp only[Bool.false_eq_true,if_false]at hlk
       repeat'(first|refine a_seq fun K hK=>?_|(refine a_block ?_)|((first|refine a_regionS ?_|refine a_drawS (by decide+kernel) ?_);simp(maxSteps:=2000000) only[Ty.w,simprocAttr,g0,g1,g2,g7,g8,g9,g10,hlN,hlA,hkN,hkA,d1,d2,hr,hpx,hrx,q,w8])|(refine a_skip ?_;try simp only[pst0,simprocAttr])|(refine a_cond _ (by(try simp(maxSteps:=2000000) only[Ty.w,simprocAttr,g0,g1,g2,g7,g8,g9,g10,hlN,hlA,hkN,hkA,d1,d2,hr,hpx,hrx,q,w8]);rfl) (fun hb=>?_) (fun hb=>?_)<;>(try simp only[hb0,decide_eq_true_eq,decide_eq_false_iff_not,simprocAttr]at hb)<;>(try(exfalso;omega)))|(refine hK _ _ ?_;clear hK;try simp only[pst0,simprocAttr]))
       exact⟨n.length-(j+1),by omega,j+1,by simp,rfl,by omega,hlk⟩
     ·have d1:decide ((j:Int)<(n.length:Int))=true:=by simp;omega
      have d2:decide ((j:Int)<(a.length:Int))=false:=by simp;omega
      have e0:a.drop j=[]:=List.drop_eq_nil_of_le (by omega)
      rw[e0,drop_get (show n[j]? =some n[j] by simp[hjn])]at hlk
      simp only[lookR]at hlk
      have fin2:=fin s (by unfold replR;rw[hlk];try rfl)
      repeat'(first|refine a_seq fun K hK=>?_|((first|refine a_regionS ?_|refine a_region (fun K hK=>?_));simp(maxSteps:=2000000) only[Ty.w,simprocAttr,g0,g1,g2,g7,g8,g9,g10,hlN,hlA,hkN,hkA,d1,d2])|(refine a_exit ?_;try simp only[pst0,simprocAttr])|(refine a_cond _ (by(try simp(maxSteps:=2000000) only[Ty.w,simprocAttr,g0,g1,g2,g7,g8,g9,g10,hlN,hlA,hkN,hkA,d1,d2]);rfl) (fun hb=>?_) (fun hb=>?_)<;>(try simp only[hb0,decide_eq_true_eq,decide_eq_false_iff_not,simprocAttr]at hb)<;>(try(exfalso;omega)))|((first|refine hK _ _ ?_|(clear hK;refine hK _ _ ?_));clear hK;try simp only[pst0,simprocAttr]))
      repeat'(first|(refine a_regionS ?_;simp(maxSteps:=2000000) only[Ty.w,simprocAttr,g0,g1,g2,g7,g8,g9,g10,t1,t2,hlen,hbb,w7])|(refine hK _ _ ?_;clear hK;try simp only[pst0,simprocAttr])|(rw[if_pos];rotate_left 1;omega;simp(maxSteps:=2000000) only[Ty.w,simprocAttr,g0,g1,g2,g7,g8,g9,g10,t1,t2,hlen,hbb,w7]))
      exact⟨l.length-(k+1),by omega,k+1,_,by simp,rfl,by omega,rfl,hgH.new _,fin2⟩
    ·have d1:decide ((j:Int)<(n.length:Int))=false:=by simp;omega
     have e0:n.drop j=[]:=List.drop_eq_nil_of_le (by omega)
     rw[e0]at hlk
     simp only[lookR]at hlk
     have fin2:=fin s (by unfold replR;rw[hlk];try rfl)
     repeat'(first|refine a_seq fun K hK=>?_|((first|refine a_regionS ?_|refine a_region (fun K hK=>?_));simp(maxSteps:=2000000) only[Ty.w,simprocAttr,g0,g1,g2,g7,g8,g9,g10,hlN,hlA,hkN,hkA,d1])|(refine a_exit ?_;try simp only[pst0,simprocAttr])|(refine a_cond _ (by(try simp(maxSteps:=2000000) only[Ty.w,simprocAttr,g0,g1,g2,g7,g8,g9,g10,hlN,hlA,hkN,hkA,d1]);rfl) (fun hb=>?_) (fun hb=>?_)<;>(try simp only[hb0,decide_eq_true_eq,decide_eq_false_iff_not,simprocAttr]at hb)<;>(try(exfalso;omega)))|((first|refine hK _ _ ?_|(clear hK;refine hK _ _ ?_));clear hK;try simp only[pst0,simprocAttr]))
     repeat'(first|(refine a_regionS ?_;simp(maxSteps:=2000000) only[Ty.w,simprocAttr,g0,g1,g2,g7,g8,g9,g10,t1,t2,hlen,hbb,w7])|(refine hK _ _ ?_;clear hK;try simp only[pst0,simprocAttr])|(rw[if_pos];rotate_left 1;omega;simp(maxSteps:=2000000) only[Ty.w,simprocAttr,g0,g1,g2,g7,g8,g9,g10,t1,t2,hlen,hbb,w7]))
     exact⟨l.length-(k+1),by omega,k+1,_,by simp,rfl,by omega,rfl,hgH.new _,fin2⟩
  ·have hd:decide ((k:Int)<(l.length:Int))=false:=by simp;omega
   have hke:k=l.length:=by omega
   subst hke
   rw[List.take_length]at tl
   repeat'(first|refine a_seq fun K hK=>?_|((first|refine a_regionS ?_|refine a_ret ?_);simp(maxSteps:=2000000) only[Ty.w,simprocAttr,g0,g1,g2,g7,g8,hlL,hd])|(refine a_exit ?_;try simp only[pst0,simprocAttr])|(refine a_cond _ (by(try simp(maxSteps:=2000000) only[Ty.w,simprocAttr,g0,g1,g2,g7,g8,hlL,hd]);rfl) (fun hb=>?_) (fun hb=>?_)<;>(try simp only[hb0,decide_eq_true_eq,decide_eq_false_iff_not,simprocAttr]at hb)<;>(try(exfalso;omega)))|((first|refine hK _ _ ?_|(clear hK;refine hK _ _ ?_));clear hK;try simp only[pst0,simprocAttr]))
   exact⟨tl_frzS tl,hg⟩
end Go.Proofs.Ytjlkapgpjamnkaa
namespace Go.Proofs.Ytjlkapgpjamnkaa
open Go.AM
set_option maxHeartbeats 4000000
set_option maxRecDepth 20000
theorem bindExsR_map(n a:List ByteArray): ∀ l,bindExsR n a l=l.map (bindExR n a)
 |[]=>rfl
 |k::l=>by simp[bindExsR,bindExsR_map n a l]
structure BeI(h:Heap)(op name:ByteArray)(v:Int)(args2:List ByteArray)(L:List Ex)(p:PV)(h':Heap):Prop where
 grow:Grow h h'
 lt:h.next+1<h'.next
 o1:h'.obj h.next=some (.arr 5 [[.sc (.string ⟨#[]⟩),.sc (.string ⟨#[]⟩),.sc (.int .i64 0),.sc (.slice none 0 0),.sc (.slice none 0 0)]])
 o2:h'.obj (h.next+1)=some (.arr 5 [[sPV op,sPV name,.sc (.int .i64 v),.imm 1 (strRows args2),p]])
 tl:Tl h' (h.next+2) 5 p (Ex.rows L)
theorem BeI.pc{h h':Heap}{op name:ByteArray}{v:Int}{args2:List ByteArray}{L:List Ex}{p:PV}(i:BeI h op name v args2 L p h'):p.cells=[p]∧oneC p=true:=by
 rcases i.tl with⟨_,rfl|rfl⟩|⟨_,_,_,rfl,_⟩<;>exact⟨rfl,rfl⟩
theorem BeI.push{h h' HT:Heap}{op name:ByteArray}{v:Int}{args2:List ByteArray}{L M:List Ex}{p:PV}{m:Nat}{R:List (List PV)}(i:BeI h op name v args2 L p h')(t3:HT.next=h'.next)(t4: ∀ j,j<h.next+2→HT.obj j=h'.obj j)(hk:Keep h HT)(hR:R=Ex.rows (L++M))(hm:m=(L++M).length):
  BeI h op name v args2 (L++M) (.own HT.next 0 m) ((HT.new (.arr 5 R)).set (h.next+1) (.arr 5 [[sPV op,sPV name,.sc (.int .i64 v),.imm 1 (strRows args2),.own HT.next 0 m]])):=by
 have hl:=i.lt
 subst hR
 refine⟨((show Grow h HT from⟨hk.1,hk.2⟩).new _).set (Nat.le_succ _) _,by simp only[Heap.set,Heap.new];omega,?_,by simp only[Heap.set,if_true],?_⟩
 ·have n1:¬ h.next=h.next+1:=by omega
  have n2:¬ h.next=HT.next:=by omega
  simp only[Heap.set,Heap.new,n1,n2,if_false]
  rw[t4 _ (by omega)];exact i.o1
 ·have:Tl (HT.new (.arr 5 (Ex.rows (L++M)))) (h.next+2) 5 (.own HT.next 0 m) (Ex.rows (L++M)):=Tl.grow (by omega) (by rw[hm,Ex.rows_len])
  exact this.up (Nat.le_refl _) (fun j hj _=>by simp only[Heap.set];rw[if_neg (by omega)])
theorem frz_ex{n:Nat}{H:Heap}{op name:ByteArray}{v:Int}{args:List ByteArray}{z:Nat}{rows:List (List PV)}{p:PV}(hk:FrzTo n H (.imm z rows) p):FrzTo n H (.agg [sPV op,sPV name,.sc (.int .i64 v),.imm 1 (strRows args),.imm z rows]) (.agg [sPV op,sPV name,.sc (.int .i64 v),.imm 1 (strRows args),p]):=by
 refine frz_agg ?_
 unfold FrzL;refine⟨by simp only[FrzTo],?_⟩
 unfold FrzL;refine⟨by simp only[FrzTo],?_⟩
 unfold FrzL;refine⟨by simp only[FrzTo],?_⟩
 unfold FrzL;refine⟨frz_imm (strs_in _ _),?_⟩
 unfold FrzL;refine⟨hk,?_⟩
 simp only[FrzL]
theorem rbindE_c: ∀ e:Ex,e.small→shapedE e=true→ ∀ {n a:List ByteArray}{pN pA:PV}{h:Heap},Sl h 1 pN (strRows n)→Sl h 1 pA (strRows a)→
  PCall Try.prog 85 [.agg e.cells,pN,pA] h fun r h'=>r= .agg (bindExR n a e).cells∧h'=h:=by
 refine Ex.ind ?_
 intro op name v args kids ih hsm hsh n a pN pA h hp hq
 have hkl:=shapedE_len hsh
 have hkid:=shapedE_kid hsh
 simp only[Ex.small]at hsm
 obtain⟨hal,hks⟩:=hsm
 rw[Ex.smalls_iff]at hks
 refine pcall_wf Ty.hb_85 fun hwf=>?_
 refine PCall.frz Ty.hb_85 ?_
 have hB:bindExR n a (.mk op name v args kids)= .mk op name v (args.map (replR n a)) (kids.map (bindExR n a)):=by simp only[bindExR,bindExsR_map]
 rw[hB]
 clear hB
 have hrp:=fun{H:Heap}(hk:Keep h H)=>rreplace_c (l:=args) (hp.up hwf hk) (hq.up hwf hk) hal
 generalize args.map (replR n a)=args2 at hrp⊢
 have hlK:=Ex.rows_len kids
 have hpc: ∀ H,Keep h H→True:=fun _ _=>trivial
 simp only[Ex.cells]
 refine pcall_body (ow:=fun _=>false) (wf:=fun _=>false) Ty.mixed Try.func85 rfl Ty.hb_85 (by rw[Try.ntmps85];simp) ?_
 rw[Try.ntmps85,Try.results85]
 repeat'(first|refine a_seq fun K hK=>?_|(refine a_regionS ?_;simp(maxSteps:=2000000) only[Ty.w,simprocAttr,nsucc])|(refine hK _ _ ?_;clear hK;try simp only[pst0,simprocAttr]))
 repeat'(refine a_drawS (by decide+kernel) ?_;simp(maxSteps:=2000000) only[Ty.w,simprocAttr,nsucc])
 (first|refine a_dcall0 (hrp (keep_new (Keep.refl h))) (by(try simp only[Ty.w,simprocAttr,nsucc]);try rfl) ?_|refine a_dcallA (hrp (keep_new (Keep.refl h))) (by(try simp only[Ty.w,simprocAttr,nsucc]);try rfl) (by simp only[Ty.w,simprocAttr,nsucc];try trivial) ?_);simp(maxSteps:=2000000) only[Ty.w,simprocAttr,Option.getD_some,nsucc]
 refine a_past2 (by simp(maxSteps:=4000000) only[List.forall_mem_cons,Ty.w,simprocAttr,Ty.all,nsucc];exact .inr (Does_use (hrp (keep_new (keep_new (Keep.refl h)))) (by(try simp only[Ty.w,simprocAttr,nsucc]);try rfl))) ?_
 refine a_past [11,10,9,8,7,6,5,4,3,2,1,0] rfl (by decide+kernel) ?_
 refine hK _ _ ?_
 clear hK
 refine a_gen (fun S H=>S 1=pN∧S 2=pA∧S 3= .cptr [sPV op,sPV name,.sc (.int .i64 v),.imm 1 (strRows args),.imm 5 (Ex.rows kids)]∧S 6= .ptr h.next 0 0∧S 7= .ptr (h.next+1) 0 0∧BeI h op name v args2 [] (.sc (.slice none 0 0)) H) ?_ ?_
 ·simp only[Ty.w,simprocAttr]
  refine⟨(((Grow.refl h).new _).new _).set (Nat.le_succ _) _,?_,?_,?_,.inl ⟨rfl,.inl rfl⟩⟩
  ·simp only[Heap.set,Heap.new];omega
  ·have n1:¬ h.next=h.next+1:=by omega
   simp only[Heap.set,Heap.new,n1,if_false,if_true]
  ·simp only[Heap.set,if_true]
 rintro S H ⟨g1,g2,g3,g6,g7,hI⟩
 repeat'(first|refine a_seq fun K hK=>?_|(refine a_block ?_)|(refine a_regionS ?_;simp(maxSteps:=2000000) only[Ty.w,simprocAttr,g1,g2,g3,g6,g7])|(refine hK _ _ ?_;clear hK;try simp only[pst0,simprocAttr]))
 refine a_loop (fun m S h'=>S 1=pN∧S 2=pA∧S 3= .cptr [sPV op,sPV name,.sc (.int .i64 v),.imm 1 (strRows args),.imm 5 (Ex.rows kids)]∧S 6= .ptr h.next 0 0∧S 7= .ptr (h.next+1) 0 0∧ ∃ (k:Nat)(p:PV),S 8= .sc (.int .i64 k)∧k≤kids.length∧m=kids.length-k∧BeI h op name v args2 ((kids.take k).map (bindExR n a)) p h') kids.length ?_ ?_
 ·simp only[Ty.w,simprocAttr,g1,g2,g3,g6,g7]
  exact⟨0,_,rfl,by omega,rfl,by simpa using hI⟩
 ·clear hI g1 g2 g3 g6 g7
  rintro m S h' ⟨g1,g2,g3,g6,g7,k,p,g8,hk,rfl,hI⟩
  obtain⟨hp1,hp2⟩:=hI.pc
  have o2:=hI.o2
  by_cases hlt:k<kids.length
  ·have hd:decide ((k:Int)<(kids.length:Int))=true:=by simp;omega
   have w7:IntKind.i64.wrap ((k:Int)+1)=k+1:=by rw[wrap64 (by omega) (by omega)]
   obtain⟨x,hx⟩: ∃ x,kids[k]? =some x:=⟨_,List.getElem?_eq_getElem hlt⟩
   have hr:=Ex.rows_get hx
   have hmem:=List.mem_of_getElem? hx
   have hkeep:Keep h h':=⟨hI.grow.le,hI.grow.old⟩
   have hc:=ih x hmem (hks x hmem) (hkid x hmem) (hp.up hwf hkeep) (hq.up hwf hkeep)
   have hL:(kids.take (k+1)).map (bindExR n a)=(kids.take k).map (bindExR n a)++[bindExR n a x]:=by rw[List.take_add_one,hx];simp
   have hlen:((kids.take k).map (bindExR n a)).length≤2:=by simp;omega
   generalize(kids.take k).map (bindExR n a)=L at hI hL hlen
   generalize bindExR n a x=y at hc hL
   obtain⟨HT,t1,t2,t3,t4,t5⟩:=hI.tl.tail
   have hkp:=t5 h hkeep (Nat.le_add_right _ _)
   have o2T:=(t4 _ (by omega)).trans o2
   have hl2:=hI.lt
   have n2:(h.next+1=HT.next)=False:=by simp;omega
   have hpr:=Ex.rows_len L
   have hpush:=hI.push (M:=[y]) (m:=L.length+1) (R:=Ex.rows L++Ex.rows [y]) t3 t4 hkp (by simp only[Ex.rows_map,List.map_append]) (by simp)
   have hb:(L.length+1)*88≤140737488355328:=by omega
   rw[← hL,t3]at hpush
   obtain⟨yo,yn,yv,ya,yk⟩:=y
   obtain⟨xo,xn,xv,xa,xk⟩:=x
   simp only[Ex.cells,Ex.rows]at hr hc hpush
   clear ih hrp
   have W:=And.intro g1 (And.intro g2 (And.intro g3 (And.intro g6 (And.intro g7 (And.intro g8 (And.intro o2T (And.intro o2 (And.intro n2 (And.intro hr (And.intro t1 (And.intro t2 (And.intro hpr (And.intro hp1 (And.intro hp2 (And.intro hb w7)))))))))))))))
   repeat'(first|refine a_seq fun K hK=>?_|(refine a_block ?_)|((first|refine a_regionS ?_|refine a_draw (by decide+kernel) (fun K hK=>?_));simp(maxSteps:=2000000) only[Ty.w,simprocAttr,W,hlK,hd])|(refine a_skip ?_;try simp only[pst0,simprocAttr])|(refine a_cond _ (by(try simp(maxSteps:=2000000) only[Ty.w,simprocAttr,W,hlK,hd]);rfl) (fun hb=>?_) (fun hb=>?_)<;>(try simp only[hb0,decide_eq_true_eq,decide_eq_false_iff_not,simprocAttr]at hb)<;>(try(exfalso;omega)))|(refine hK _ _ ?_;clear hK;try simp only[pst0,simprocAttr]))
   (first|refine a_dcall0 (hc) (by(try simp only[Ty.w,simprocAttr,W]);try rfl) ?_|refine a_dcallA (hc) (by(try simp only[Ty.w,simprocAttr,W]);try rfl) (by simp only[Ty.w,simprocAttr,W];try trivial) ?_);simp(maxSteps:=2000000) only[Ty.w,simprocAttr,W,Option.getD_some]
   repeat'(first|(refine a_regionS ?_;simp(maxSteps:=2000000) only[Ty.w,simprocAttr,W,putC])|(refine hK _ _ ?_;clear hK;try simp only[pst0,simprocAttr])|(with_reducible refine a_past2 (by simp only[List.forall_mem_cons,Ty.w,simprocAttr,g1,g2,g3,g6,g7,g8,o2,o2T,n2,t1,t2,hpr,hp1,hp2,hb,w7,putC]<;>(repeat' apply And.intro)<;>first|trivial|exact .inl (by decide+kernel)) ?_;try simp(maxSteps:=2000000) only[Ty.w,simprocAttr,W,putC])|(rw[if_pos];rotate_left 1;omega;simp(maxSteps:=2000000) only[Ty.w,simprocAttr,W,putC]))
   exact⟨kids.length-(k+1),by omega,k+1,_,by simp,by omega,rfl,hpush⟩
  ·have hd:decide ((k:Int)<(kids.length:Int))=false:=by simp;omega
   have hke:k=kids.length:=by omega
   subst hke
   rw[List.take_length]at hI
   have o1:=hI.o1
   have o2:=hI.o2
   repeat'(first|refine a_seq fun K hK=>?_|((first|refine a_regionS ?_|refine a_ret ?_);simp(maxSteps:=2000000) only[Ty.w,simprocAttr,g1,g2,g3,g6,g7,g8,hlK,hd,o1,o2,hp1,hp2,putC])|(refine a_exit ?_;try simp only[pst0,simprocAttr])|(refine a_cond _ (by(try simp(maxSteps:=2000000) only[Ty.w,simprocAttr,g1,g2,g3,g6,g7,g8,hlK,hd,o1,o2,hp1,hp2,putC]);rfl) (fun hb=>?_) (fun hb=>?_)<;>(try simp only[hb0,decide_eq_true_eq,decide_eq_false_iff_not,simprocAttr]at hb)<;>(try(exfalso;omega)))|((first|refine hK _ _ ?_|(clear hK;refine hK _ _ ?_));clear hK;try simp only[pst0,simprocAttr]))
   exact⟨frz_ex (tl_frzE (by omega) (hI.tl.up (Nat.le_refl _) fun j hj _=>by simp only[Heap.set];rw[if_neg (by omega)])),hI.grow.set (Nat.le_refl _) _⟩
end Go.Proofs.Ytjlkapgpjamnkaa
namespace Go.Proofs.Ytjlkapgpjamnkaa
open Go.AM
set_option maxHeartbeats 2000000
set_option maxRecDepth 20000
theorem rsizeE_c: ∀ (e:Ex),e.ok→ ∀ h:Heap,PCall Try.prog 39 [.agg e.cells] h fun r h'=>r= .sc (.int .i64 e.size)∧h'=h:=by
 refine Ex.ind ?_
 intro op name n args kids ih hok h
 simp only[Ex.ok]at hok
 obtain⟨_,_,_,_,hk,hks⟩:=hok
 rw[Ex.oks_iff]at hks
 have hlen:=Ex.rows_len kids
 simp only[Ex.cells,Ex.size]
 refine pcall_body (ow:=fun _=>false) (wf:=fun _=>false) Ty.mixed Try.func39 rfl Ty.hb_39 (by rw[Try.ntmps39];simp) ?_
 rw[Try.ntmps39,Try.results39]
 repeat'(first|refine a_seq fun K hK=>?_|(refine a_block ?_)|(refine a_regionS ?_;simp(maxSteps:=2000000) only[Ty.w,simprocAttr,hlen])|(refine hK _ _ ?_;clear hK;try simp only[pst0,simprocAttr]))
 refine a_loop (fun m S h'=>h'=h∧S 1= .cptr (Ex.mk op name n args kids).cells∧ ∃ k:Nat,S 4= .sc (.int .i64 k)∧k≤kids.length∧m=kids.length-k∧S 3= .sc (.int .i64 (Ex.sizes 1 (kids.take k)))) kids.length ?_ ?_
 ·simp only[Ty.w,simprocAttr]
  exact⟨rfl,0,rfl,by omega,rfl,by simp[Ex.sizes]⟩
 ·rintro m S h' ⟨rfl,g1,k,g4,hkl,rfl,g3⟩
  simp only[Ex.cells]at g1
  by_cases hlt:k<kids.length
  ·have hd:decide ((k:Int)<(kids.length:Int))=true:=by simp;omega
   have w7:IntKind.i64.wrap ((k:Int)+1)=k+1:=by unfold bigN at hk;rw[wrap64 (by omega) (by omega)]
   obtain⟨e,hx⟩: ∃ e,kids[k]? =some e:=⟨_,List.getElem?_eq_getElem hlt⟩
   have hmem:=List.mem_of_getElem? hx
   have hc:=ih e hmem (hks e hmem)
   have hsz:=Ex.sizes_take 1 hx
   have hr:=Ex.rows_get hx
   obtain⟨op2,name2,n2,args2,kids2⟩:=e
   simp only[Ex.cells]at hr hc
   repeat'(first|refine a_seq fun K hK=>?_|(refine a_block ?_)|((first|refine a_regionS ?_|refine a_region (fun K hK=>?_));simp(maxSteps:=2000000) only[Ty.w,simprocAttr,g1,g3,g4,hlen,hd,hr,w7])|(refine a_skip ?_;try simp only[pst0,simprocAttr])|(refine a_cond _ (by(try simp(maxSteps:=2000000) only[Ty.w,simprocAttr,g1,g3,g4,hlen,hd,hr,w7]);rfl) (fun hb=>?_) (fun hb=>?_)<;>(try simp only[hb0,decide_eq_true_eq,decide_eq_false_iff_not,simprocAttr]at hb)<;>(try(exfalso;omega)))|(refine hK _ _ ?_;clear hK;try simp only[pst0,simprocAttr]))
   refine owp_useQ (hc _) (by(try simp only[Ty.w,simprocAttr,g1,g3,g4,hlen,hd,hr]);try rfl) ?_;simp(maxSteps:=2000000) only[Ty.w,simprocAttr,g1,g3,g4,hlen,hd,hr]
   repeat'(first|(refine a_regionS ?_;simp(maxSteps:=2000000) only[Ty.w,simprocAttr,g1,g3,g4,w7])|(refine hK _ _ ?_;clear hK;try simp only[pst0,simprocAttr]))
   exact⟨kids.length-(k+1),by omega,rfl,k+1,by simp,by omega,rfl,by rw[hsz]⟩
  ·have hd:decide ((k:Int)<(kids.length:Int))=false:=by simp;omega
   have hke:k=kids.length:=by omega
   subst hke
   rw[List.take_length]at g3
   repeat'(first|refine a_seq fun K hK=>?_|((first|refine a_regionS ?_|refine a_ret ?_);simp(maxSteps:=2000000) only[Ty.w,simprocAttr,g1,g3,g4,hlen,hd])|(refine a_exit ?_;try simp only[pst0,simprocAttr])|(refine a_cond _ (by(try simp(maxSteps:=2000000) only[Ty.w,simprocAttr,g1,g3,g4,hlen,hd]);rfl) (fun hb=>?_) (fun hb=>?_)<;>(try simp only[hb0,decide_eq_true_eq,decide_eq_false_iff_not,simprocAttr]at hb)<;>(try(exfalso;omega)))|((first|refine hK _ _ ?_|(clear hK;refine hK _ _ ?_));clear hK;try simp only[pst0,simprocAttr]))
theorem rsize_c: ∀ (f:Fm),f.ok→ ∀ h:Heap,PCall Try.prog 24 [.agg f.cells] h fun r h'=>r= .sc (.int .i64 f.size)∧h'=h:=by
 refine Fm.ind ?_
 intro op name args params exprs kids ih hok h
 simp only[Fm.ok]at hok
 obtain⟨_,_,_,_,⟨he,hes⟩,hk,hks⟩:=hok
 rw[Ex.oks_iff]at hes
 rw[Fm.oks_iff]at hks
 have hlen:=Fm.rows_len kids
 have hlene:=Ex.rows_len exprs
 simp only[Fm.cells,Fm.size]
 refine pcall_body (ow:=fun _=>false) (wf:=fun _=>false) Ty.mixed Try.func24 rfl Ty.hb_24 (by rw[Try.ntmps24];simp) ?_
 rw[Try.ntmps24,Try.results24]
 repeat'(first|refine a_seq fun K hK=>?_|(refine a_block ?_)|(refine a_regionS ?_;simp(maxSteps:=2000000) only[Ty.w,simprocAttr,hlen])|(refine hK _ _ ?_;clear hK;try simp only[pst0,simprocAttr]))
 refine a_loop (fun m S h'=>h'=h∧S 1= .cptr (Fm.mk op name args params exprs kids).cells∧ ∃ k:Nat,S 4= .sc (.int .i64 k)∧k≤exprs.length∧m=exprs.length-k∧S 3= .sc (.int .i64 (Ex.sizes 1 (exprs.take k)))) exprs.length ?_ ?_
 ·simp only[Ty.w,simprocAttr]
  exact⟨rfl,0,rfl,by omega,rfl,by simp[Ex.sizes]⟩
 ·rintro m S h' ⟨rfl,g1,k,g4,hkl,rfl,g3⟩
  simp only[Fm.cells]at g1
  by_cases hlt:k<exprs.length
  ·have hd:decide ((k:Int)<(exprs.length:Int))=true:=by simp;omega
   have w7:IntKind.i64.wrap ((k:Int)+1)=k+1:=by unfold bigN at he;rw[wrap64 (by omega) (by omega)]
   obtain⟨e,hx⟩: ∃ e,exprs[k]? =some e:=⟨_,List.getElem?_eq_getElem hlt⟩
   have hmem:=List.mem_of_getElem? hx
   have hc:=rsizeE_c e (hes e hmem)
   have hsz:=Ex.sizes_take 1 hx
   have hr:=Ex.rows_get hx
   obtain⟨op2,name2,n2,args2,kids2⟩:=e
   simp only[Ex.cells]at hr hc
   repeat'(first|refine a_seq fun K hK=>?_|(refine a_block ?_)|((first|refine a_regionS ?_|refine a_region (fun K hK=>?_));simp(maxSteps:=2000000) only[Ty.w,simprocAttr,g1,g3,g4,hlene,hd,hr,w7])|(refine a_skip ?_;try simp only[pst0,simprocAttr])|(refine a_cond _ (by(try simp(maxSteps:=2000000) only[Ty.w,simprocAttr,g1,g3,g4,hlene,hd,hr,w7]);rfl) (fun hb=>?_) (fun hb=>?_)<;>(try simp only[hb0,decide_eq_true_eq,decide_eq_false_iff_not,simprocAttr]at hb)<;>(try(exfalso;omega)))|(refine hK _ _ ?_;clear hK;try simp only[pst0,simprocAttr]))
   refine owp_useQ (hc _) (by(try simp only[Ty.w,simprocAttr,g1,g3,g4,hlene,hd,hr]);try rfl) ?_;simp(maxSteps:=2000000) only[Ty.w,simprocAttr,g1,g3,g4,hlene,hd,hr]
   repeat'(first|(refine a_regionS ?_;simp(maxSteps:=2000000) only[Ty.w,simprocAttr,g1,g3,g4,w7])|(refine hK _ _ ?_;clear hK;try simp only[pst0,simprocAttr]))
   exact⟨exprs.length-(k+1),by omega,by simp only[Fm.cells],k+1,by simp,by omega,rfl,by rw[hsz]⟩
  ·have hd:decide ((k:Int)<(exprs.length:Int))=false:=by simp;omega
   have hke:k=exprs.length:=by omega
   subst hke
   rw[List.take_length]at g3
   repeat'(first|refine a_seq fun K hK=>?_|(refine a_block ?_)|(refine a_regionS ?_;simp(maxSteps:=2000000) only[Ty.w,simprocAttr,g1,g3,g4,hlene,hd])|(refine a_exit ?_;try simp only[pst0,simprocAttr])|(refine a_cond _ (by(try simp(maxSteps:=2000000) only[Ty.w,simprocAttr,g1,g3,g4,hlene,hd]);rfl) (fun hb=>?_) (fun hb=>?_)<;>(try simp only[hb0,decide_eq_true_eq,decide_eq_false_iff_not,simprocAttr]at hb)<;>(try(exfalso;omega)))|((first|refine hK _ _ ?_|(clear hK;refine hK _ _ ?_));clear hK;try simp only[pst0,simprocAttr]))
   refine a_loop (fun m S h2=>h2=h'∧S 1= .cptr (Fm.mk op name args params exprs kids).cells∧ ∃ k:Nat,S 5= .sc (.int .i64 k)∧k≤kids.length∧m=kids.length-k∧S 3= .sc (.int .i64 (Fm.sizes (Ex.sizes 1 exprs) (kids.take k)))) kids.length ?_ ?_
   ·simp only[Ty.w,simprocAttr,g1,g3]
    exact⟨by simp only[Fm.cells],0,rfl,by omega,rfl,by simp[Fm.sizes]⟩
   ·clear g1 g3 g4
    rintro m S h' ⟨rfl,g1,k,g5,hkl,rfl,g3⟩
    simp only[Fm.cells]at g1
    by_cases hlt:k<kids.length
    ·have hd:decide ((k:Int)<(kids.length:Int))=true:=by simp;omega
     have w7:IntKind.i64.wrap ((k:Int)+1)=k+1:=by unfold bigN at hk;rw[wrap64 (by omega) (by omega)]
     obtain⟨e,hx⟩: ∃ e,kids[k]? =some e:=⟨_,List.getElem?_eq_getElem hlt⟩
     have hmem:=List.mem_of_getElem? hx
     have hc:=ih e hmem (hks e hmem)
     have hsz:=Fm.sizes_take (Ex.sizes 1 exprs) hx
     have hr:=Fm.rows_get hx
     obtain⟨op2,name2,args2,params2,exprs2,kids2⟩:=e
     simp only[Fm.cells]at hr hc
     repeat'(first|refine a_seq fun K hK=>?_|(refine a_block ?_)|((first|refine a_regionS ?_|refine a_region (fun K hK=>?_));simp(maxSteps:=2000000) only[Ty.w,simprocAttr,g1,g3,g5,hlen,hd,hr,w7])|(refine a_skip ?_;try simp only[pst0,simprocAttr])|(refine a_cond _ (by(try simp(maxSteps:=2000000) only[Ty.w,simprocAttr,g1,g3,g5,hlen,hd,hr,w7]);rfl) (fun hb=>?_) (fun hb=>?_)<;>(try simp only[hb0,decide_eq_true_eq,decide_eq_false_iff_not,simprocAttr]at hb)<;>(try(exfalso;omega)))|(refine hK _ _ ?_;clear hK;try simp only[pst0,simprocAttr]))
     refine owp_useQ (hc _) (by(try simp only[Ty.w,simprocAttr,g1,g3,g5,hlen,hd,hr]);try rfl) ?_;simp(maxSteps:=2000000) only[Ty.w,simprocAttr,g1,g3,g5,hlen,hd,hr]
     repeat'(first|(refine a_regionS ?_;simp(maxSteps:=2000000) only[Ty.w,simprocAttr,g1,g3,g5,w7])|(refine hK _ _ ?_;clear hK;try simp only[pst0,simprocAttr]))
     exact⟨kids.length-(k+1),by omega,by simp only[Fm.cells],k+1,by simp,by omega,rfl,by rw[hsz]⟩
    ·have hd:decide ((k:Int)<(kids.length:Int))=false:=by simp;omega
     have hke:k=kids.length:=by omega
     subst hke
     rw[List.take_length]at g3
     repeat'(first|refine a_seq fun K hK=>?_|((first|refine a_regionS ?_|refine a_ret ?_);simp(maxSteps:=2000000) only[Ty.w,simprocAttr,g1,g3,g5,hlen,hd])|(refine a_exit ?_;try simp only[pst0,simprocAttr])|(refine a_cond _ (by(try simp(maxSteps:=2000000) only[Ty.w,simprocAttr,g1,g3,g5,hlen,hd]);rfl) (fun hb=>?_) (fun hb=>?_)<;>(try simp only[hb0,decide_eq_true_eq,decide_eq_false_iff_not,simprocAttr]at hb)<;>(try(exfalso;omega)))|((first|refine hK _ _ ?_|(clear hK;refine hK _ _ ?_));clear hK;try simp only[pst0,simprocAttr]))
end Go.Proofs.Ytjlkapgpjamnkaa
namespace Go.Proofs.Ytjlkapgpjamnkaa
open Go.AM
set_option maxHeartbeats 4000000
set_option maxRecDepth 20000
structure B3(h0:Heap)(a b c:PV)(A B C:List ByteArray)(h:Heap):Prop where
 grow:Grow h0 h
 ca:Tl h h0.next 1 a (strRows A)
 cb:Tl h h0.next 1 b (strRows B)
 cc:Tl h h0.next 1 c (strRows C)
 ab: ∀ i m n,a= .own i 0 m→b= .own i 0 n→False
 ac: ∀ i m n,a= .own i 0 m→c= .own i 0 n→False
 bc: ∀ i m n,b= .own i 0 m→c= .own i 0 n→False
theorem B3.swapAB{h0 h:Heap}{a b c:PV}{A B C:List ByteArray}(i:B3 h0 a b c A B C h):B3 h0 b a c B A C h:=⟨i.grow,i.cb,i.ca,i.cc,fun j m n e f=>i.ab j n m f e,i.bc,i.ac⟩
theorem tl_id_lt{h:Heap}{id0 z:Nat}{p:PV}{rows:List (List PV)}(t:Tl h id0 z p rows){i m:Nat}(e:p= .own i 0 m):i<h.next:=by
 rcases t with⟨_,rfl|rfl⟩|⟨id,_,h2,rfl,_⟩
 ·simp at e
 ·simp at e
 ·simp only[PV.own.injEq]at e;omega
theorem B3.app{h0 h:Heap}{a b c:PV}{A B C:List ByteArray}(i:B3 h0 a b c A B C h): ∃ H,isTail h a=some (H,strRows A)∧zOk h 1 a=true∧H.next=h.next∧
  ∀ (s:ByteArray)(m:Nat)(R:List (List PV)),m=A.length+1→R=strRows A++[[sPV s]]→B3 h0 (.own h.next 0 m) b c (A++[s]) B C (H.new (.arr 1 R)):=by
 have hR: ∀ s,strRows (A++[s])=strRows A++[[sPV s]]:=fun s=>by simp[strRows]
 rcases i.ca with⟨hn,hp⟩|⟨id,h1,h2,rfl,h3⟩
 ·refine ⟨h,?_,?_,rfl,?_⟩
  ·rw [hn];rcases hp with rfl|rfl<;>rfl
  ·rcases hp with rfl|rfl<;>rfl
  ·rintro s m R rfl rfl
   refine⟨i.grow.new _,?_,i.cb.up (by simp[Heap.new]) fun j _ hj=>?_,i.cc.up (by simp[Heap.new]) fun j _ hj=>?_,fun j m n e f=>?_,fun j m n e f=>?_,i.bc⟩
   ·rw [← hR];exact Tl.grow i.grow.le (by rw[strRows_len];simp)
   ·simp only[Heap.new];rw[if_neg (by omega)]
   ·simp only[Heap.new];rw[if_neg (by omega)]
   ·simp only[PV.own.injEq]at e;have:=tl_id_lt i.cb f;omega
   ·simp only[PV.own.injEq]at e;have:=tl_id_lt i.cc f;omega
 ·have hb: ∀ {p:PV}{rows:List (List PV)}(s:ByteArray),Tl h h0.next 1 p rows→(∀ m n,PV.own id 0 (strRows A).length= .own id 0 m→p= .own id 0 n→False)→Tl ((h.kill id).new (.arr 1 (strRows A++[[sPV s]]))) h0.next 1 p rows:=fun{p rows} s t hne=>by
   rcases t with ht|⟨k,k1,k2,rfl,k3⟩
   ·exact .inl ht
   ·have hki:¬ k=id:=fun e=>by subst e;exact hne _ _ rfl rfl
    refine .inr ⟨k,k1,by simp[Heap.new,Heap.kill];omega,rfl,?_⟩
    rw[new_obj,if_neg (by rw[kill_next];omega),kill_obj,if_neg hki];exact k3
  refine⟨h.kill id,?_,?_,rfl,?_⟩
  ·simp only[isTail,h3,Nat.zero_add,Nat.le_refl,if_true,List.drop_zero,List.take_length]
  ·simp only[zOk,h3,beq_self_eq_true]
  ·rintro s m R rfl rfl
   refine⟨(i.grow.kill h1).new _,?_,hb s i.cb fun m n e f=>i.ab id _ _ rfl f,hb s i.cc fun m n e f=>i.ac id _ _ rfl f,fun j m n e f=>?_,fun j m n e f=>?_,i.bc⟩
   ·rw [← hR]
    exact Tl.grow (H:=h.kill id) (id0:=h0.next) (z:=1) (len:=A.length+1) (rows:=strRows (A++[s])) i.grow.le (by rw[strRows_len];simp)
   ·simp only[PV.own.injEq]at e;have:=tl_id_lt i.cb f;omega
   ·simp only[PV.own.injEq]at e;have:=tl_id_lt i.cc f;omega
end Go.Proofs.Ytjlkapgpjamnkaa
namespace Go.Proofs.Ytjlkapgpjamnkaa
open Go.AM
set_option maxHeartbeats 4000000
set_option maxRecDepth 20000
theorem filtR_take(p:ByteArray→Bool): ∀ (k:Nat)(n a:List ByteArray){s t:ByteArray},n[k]? =some s→a[k]? =some t→
  filtR p (n.take (k+1)) (a.take (k+1))=if p s=true then((filtR p (n.take k) (a.take k)).1++[s],(filtR p (n.take k) (a.take k)).2++[t])else filtR p (n.take k) (a.take k)
 |0,n::ns,a::aa,s,t,h1,h2=>by
  simp only[List.getElem?_cons_zero,Option.some.injEq]at h1 h2
  subst h1;subst h2
  simp[filtR]
 |k+1,n::ns,a::aa,s,t,h1,h2=>by
  have ih:=filtR_take p k ns aa (s:=s) (t:=t) (by simpa using h1) (by simpa using h2)
  simp only[List.take_succ_cons,filtR]at ih⊢
  rw[ih]
  by_cases hp:p n=true<;>by_cases hs:p s=true<;>simp[hp,hs]
 |0,[],_,_,_,h1,_=>by simp at h1
 |0,_::_,[],_,_,_,h2=>by simp at h2
 |k+1,[],_,_,_,h1,_=>by simp at h1
 |k+1,_::_,[],_,_,_,h2=>by simp at h2
theorem filtR_all(p:ByteArray→Bool): ∀ (n a:List ByteArray)(k:Nat),min n.length a.length≤k→filtR p (n.take k) (a.take k)=filtR p n a
 |[],a,k,_=>by simp[filtR]
 |n::ns,[],k,_=>by cases k<;>simp[filtR]
 |n::ns,a::aa,0,h=>by simp only[List.length_cons]at h;omega
 |n::ns,a::aa,k+1,h=>by
  have ih:=filtR_all p ns aa k (by simp only[List.length_cons]at h;omega)
  simp only[List.take_succ_cons,filtR,ih]
theorem filtR_len(p:ByteArray→Bool): ∀ (n a:List ByteArray),(filtR p n a).1.length=(filtR p n a).2.length∧(filtR p n a).1.length≤n.length
 |[],a=>by simp[filtR]
 |n::ns,[]=>by simp[filtR]
 |n::ns,a::aa=>by
  have ih:=filtR_len p ns aa
  simp only[filtR]
  split<;>simp only[List.length_cons]<;>omega
theorem RBindExpr_c{e:Ex}(hsm:e.small)(hsh:shapedE e=true){n a:List ByteArray}{pN pA:PV}{h:Heap}(hp:Sl h 1 pN (strRows n))(hq:Sl h 1 pA (strRows a))(hn:n.length≤1099511627776)(hns: ∀ s∈n,s.size≤bigN):
  PCall Try.prog 48 [.agg e.cells,pN,pA] h fun r h'=>r= .agg (bindExR (filtR varB n a).1 (filtR varB n a).2 e).cells∧h'=h:=by
 refine pcall_wf Ty.hb_48 fun hwf=>?_
 refine PCall.frz Ty.hb_48 ?_
 have hlN: ∀ H,lenP H pN=some n.length:=fun H=>by rw[lenP_sl hp H,strRows_len]
 have hlA: ∀ H,lenP H pA=some a.length:=fun H=>by rw[lenP_sl hq H,strRows_len]
 have hkN:=hp.lk
 have hkA:=hq.lk
 have hbd:=fun{p q:PV}{H:Heap}(h1:Sl H 1 p (strRows (filtR varB n a).1))(h2:Sl H 1 q (strRows (filtR varB n a).2))=>rbindE_c e hsm hsh h1 h2
 have hfz:=fun(n':Nat)(H:Heap)=>ex_frz n' H (bindExR (filtR varB n a).1 (filtR varB n a).2 e)
 generalize bindExR (filtR varB n a).1 (filtR varB n a).2 e=y at hbd hfz⊢
 obtain⟨yo,yn,yv,ya,yk⟩:=y
 obtain⟨op,name,v,args,kids⟩:=e
 simp only[Ex.cells]at hbd hfz⊢
 refine pcall_body (ow:=fun _=>false) (wf:=fun _=>false) Ty.mixed Try.func48 rfl Ty.hb_48 (by rw[Try.ntmps48];simp) ?_
 rw[Try.ntmps48,Try.results48]
 repeat'(first|refine a_seq fun K hK=>?_|(refine a_block ?_)|(refine a_regionS ?_;simp(maxSteps:=2000000) only[Ty.w,simprocAttr,nsucc])|(refine hK _ _ ?_;clear hK;try simp only[pst0,simprocAttr]))
 refine a_loop (fun c S h'=>S 1=pN∧S 2=pA∧S 3= .cptr [sPV op,sPV name,.sc (.int .i64 v),.imm 1 (strRows args),.imm 5 (Ex.rows kids)]∧S 6= .ptr h.next 0 0∧ ∃ (k:Nat)(pa pb:PV),S 9= .sc (.int .i64 k)∧S 7=pa∧S 8=pb∧k≤n.length∧k≤a.length∧c=n.length-k∧
  B3 (h.new (.arr 5 [[.sc (.string ⟨#[]⟩),.sc (.string ⟨#[]⟩),.sc (.int .i64 0),.sc (.slice none 0 0),.sc (.slice none 0 0)]])) pa pb (.sc (.slice none 0 0)) (filtR varB (n.take k) (a.take k)).1 (filtR varB (n.take k) (a.take k)).2 [] h') n.length ?_ ?_
 ·simp only[Ty.w,simprocAttr]
  refine⟨0,_,_,rfl,rfl,rfl,by omega,by omega,rfl,?_⟩
  have e0:filtR varB (n.take 0) (a.take 0)=([],[]):=by simp[filtR]
  rw[e0]
  refine⟨Grow.refl _,Tl.nil,Tl.nil,Tl.nil,?_,?_,?_⟩
  ·intro i m n e;simp at e
  ·intro i m n e;simp at e
  ·intro i m n e;simp at e
 ·rintro c S h' ⟨g1,g2,g3,g6,k,pa,pb,g9,g7,g8,hk,hka,rfl,hI⟩
  have hgr:Grow h h':=((Grow.refl h).new _).trans hI.grow
  have hkeep:Keep h h':=⟨hgr.le,hgr.old⟩
  have o1:h'.obj h.next=some (.arr 5 [[.sc (.string ⟨#[]⟩),.sc (.string ⟨#[]⟩),.sc (.int .i64 0),.sc (.slice none 0 0),.sc (.slice none 0 0)]]):=by
   rw[hI.grow.old _ (by simp[Heap.new])];simp[Heap.new]
  have last: ∀ (he:filtR varB (n.take k) (a.take k)=filtR varB n a),B3 (h.new (.arr 5 [[.sc (.string ⟨#[]⟩),.sc (.string ⟨#[]⟩),.sc (.int .i64 0),.sc (.slice none 0 0),.sc (.slice none 0 0)]])) pa pb (.sc (.slice none 0 0)) (filtR varB n a).1 (filtR varB n a).2 [] h':=fun he=>by rw[he]at hI;exact hI
  by_cases hlt:k<n.length
  ·have hd:decide ((k:Int)<(n.length:Int))=true:=by simp;omega
   by_cases hla:k<a.length
   ·have hd2:decide ((k:Int)<(a.length:Int))=true:=by simp;omega
    have w7:IntKind.i64.wrap ((k:Int)+1)=k+1:=by rw[wrap64 (by omega) (by omega)]
    obtain⟨s,hx⟩: ∃ s,n[k]? =some s:=⟨_,List.getElem?_eq_getElem hlt⟩
    obtain⟨t,hy⟩: ∃ t,a[k]? =some t:=⟨_,List.getElem?_eq_getElem hla⟩
    obtain⟨px,hpx,hrx⟩:=hp.kget hwf (strRows_get hx)
    obtain⟨py,hpy,hry⟩:=hq.kget hwf (strRows_get hy)
    have hsz:=hns s (List.mem_of_getElem? hx)
    have hcv:=fun H:Heap=>rvariable_c (h:=H) (s:=s) (by unfold bigN at hsz;omega)
    have hT:=filtR_take varB k n a hx hy
    obtain⟨f1,f2⟩:=filtR_len varB (n.take k) (a.take k)
    have hlk:(n.take k).length=k:=by rw[List.length_take];omega
    clear last hbd
    cases q:varB s with
    |false=>
     rw[q]at hcv
     rw[if_neg (by rw[q];simp)]at hT
     rw[← hT]at hI
     have hpx1:=hpx h' hkeep
     have hrx1:=hrx h' hkeep
     repeat'(first|refine a_seq fun K hK=>?_|(refine a_regionS ?_;simp(maxSteps:=2000000) only[Ty.w,simprocAttr,g1,g2,g3,g6,g7,g8,g9,hlN,hlA,hkN,hkA,hd,hd2,hpx1,hrx1])|(refine a_skip ?_;try simp only[pst0,simprocAttr])|(refine a_cond _ (by(try simp(maxSteps:=2000000) only[Ty.w,simprocAttr,g1,g2,g3,g6,g7,g8,g9,hlN,hlA,hkN,hkA,hd,hd2,hpx1,hrx1]);rfl) (fun hb=>?_) (fun hb=>?_)<;>(try simp only[hb0,decide_eq_true_eq,decide_eq_false_iff_not,simprocAttr]at hb)<;>(try(exfalso;omega)))|(refine hK _ _ ?_;clear hK;try simp only[pst0,simprocAttr]))
     refine owp_useQ (hcv _) (by(try simp only[Ty.w,simprocAttr,g1,g2,g3,g6,g7,g8,g9]);try rfl) ?_;simp(maxSteps:=2000000) only[Ty.w,simprocAttr,g1,g2,g3,g6,g7,g8,g9]
     repeat'(first|(refine a_block ?_)|(refine a_regionS ?_;simp(maxSteps:=2000000) only[Ty.w,simprocAttr,g1,g2,g3,g6,g7,g8,g9,w7])|(refine a_skip ?_;try simp only[pst0,simprocAttr])|(refine hK _ _ ?_;clear hK;try simp only[pst0,simprocAttr]))
     exact⟨n.length-(k+1),by omega,k+1,_,_,by simp,rfl,rfl,by omega,by omega,rfl,hI⟩
    |true=>
     rw[q]at hcv
     rw[if_pos q]at hT
     have hpx1:=hpx h' hkeep
     have hrx1:=hrx h' hkeep
     obtain⟨H1,a1,a2,a3,a4⟩:=hI.app
     have hI2:=a4 s _ _ rfl rfl
     obtain⟨H2,b1,b2,b3,b4⟩:=hI2.swapAB.app
     have hI3:=(b4 t _ _ rfl rfl).swapAB
     have b3':(H1.new (.arr 1 (strRows (filtR varB (n.take k) (a.take k)).1++[[sPV s]]))).next=H1.next+1:=rfl
     have hk2:Keep h (H1.new (.arr 1 (strRows (filtR varB (n.take k) (a.take k)).1++[[sPV s]]))):=⟨(((Grow.refl h).new _).trans hI2.grow).le,(((Grow.refl h).new _).trans hI2.grow).old⟩
     have hpy1:=hpy _ hk2
     have hry1:=hry _ hk2
     have hpy0:=hpy h' hkeep
     have hry0:=hry h' hkeep
     have hpr1:=strRows_len (filtR varB (n.take k) (a.take k)).1
     have hpr2:=strRows_len (filtR varB (n.take k) (a.take k)).2
     have hbb:((filtR varB (n.take k) (a.take k)).1.length+1)*16≤140737488355328:=by omega
     have hbc:((filtR varB (n.take k) (a.take k)).2.length+1)*16≤140737488355328:=by omega
     have hT1:(filtR varB (n.take (k+1)) (a.take (k+1))).1=(filtR varB (n.take k) (a.take k)).1++[s]:=by rw[hT]
     have hT2:(filtR varB (n.take (k+1)) (a.take (k+1))).2=(filtR varB (n.take k) (a.take k)).2++[t]:=by rw[hT]
     rw[← hT1, ← hT2]at hI3
     have hk3:Keep h (H2.new (.arr 1 (strRows (filtR varB (n.take k) (a.take k)).2++[[sPV t]]))):=⟨(((Grow.refl h).new _).trans hI3.grow).le,(((Grow.refl h).new _).trans hI3.grow).old⟩
     have hpx2:=hpx _ hk2
     have hrx2:=hrx _ hk2
     have hpx3:=hpx _ hk3
     have hrx3:=hrx _ hk3
     have hpy3:=hpy _ hk3
     have hry3:=hry _ hk3
     rw[b3']at hI3
     repeat'(first|refine a_seq fun K hK=>?_|(refine a_regionS ?_;simp(maxSteps:=2000000) only[Ty.w,simprocAttr,g1,g2,g3,g6,g7,g8,g9,hlN,hlA,hkN,hkA,hd,hd2,hpx1,hrx1])|(refine a_skip ?_;try simp only[pst0,simprocAttr])|(refine a_cond _ (by(try simp(maxSteps:=2000000) only[Ty.w,simprocAttr,g1,g2,g3,g6,g7,g8,g9,hlN,hlA,hkN,hkA,hd,hd2,hpx1,hrx1]);rfl) (fun hb=>?_) (fun hb=>?_)<;>(try simp only[hb0,decide_eq_true_eq,decide_eq_false_iff_not,simprocAttr]at hb)<;>(try(exfalso;omega)))|(refine hK _ _ ?_;clear hK;try simp only[pst0,simprocAttr]))
     refine owp_useQ (hcv _) (by(try simp only[Ty.w,simprocAttr,g1,g2,g3,g6,g7,g8,g9]);try rfl) ?_;simp(maxSteps:=2000000) only[Ty.w,simprocAttr,g1,g2,g3,g6,g7,g8,g9]
     repeat'(first|(refine a_block ?_)|(refine hK _ _ ?_;clear hK;try simp only[pst0,simprocAttr]))
     first
      |refine a_drawS (by decide+kernel) ?_
      |refine a_draw (by decide+kernel) (fun K hK=>?_)
     simp(maxSteps:=4000000) only[Ty.w,simprocAttr,Ty.all,List.forall_mem_cons,g1,g2,g3,g6,g7,g8,g9,hpx1,hrx1,hpx2,hrx2,hpx3,hrx3,hpy0,hry0,hpy1,hry1,hpy3,hry3,a1,a2,b1,b2,hpr1,hpr2,hbb,hbc]
     repeat'(first|(refine a_regionS ?_;simp(maxSteps:=2000000) only[Ty.w,simprocAttr,g1,g2,g3,g6,g7,g8,g9,w7])|(refine hK _ _ ?_;clear hK;try simp only[pst0,simprocAttr]))
     exact⟨n.length-(k+1),by omega,k+1,_,_,by simp,rfl,rfl,by omega,by omega,rfl,hI3⟩
   ·have hd2:decide ((k:Int)<(a.length:Int))=false:=by simp;omega
    have hF:=last (filtR_all varB n a k (by omega))
    have hc:=hbd hF.ca.sl hF.cb.sl
    repeat'(first|refine a_seq fun K hK=>?_|(refine a_regionS ?_;simp(maxSteps:=2000000) only[Ty.w,simprocAttr,g1,g2,g3,g6,g7,g8,g9,hlN,hlA,hkN,hkA,hd,hd2])|(refine a_exit ?_;try simp only[pst0,simprocAttr])|(refine a_cond _ (by(try simp(maxSteps:=2000000) only[Ty.w,simprocAttr,g1,g2,g3,g6,g7,g8,g9,hlN,hlA,hkN,hkA,hd,hd2]);rfl) (fun hb=>?_) (fun hb=>?_)<;>(try simp only[hb0,decide_eq_true_eq,decide_eq_false_iff_not,simprocAttr]at hb)<;>(try(exfalso;omega)))|((first|refine hK _ _ ?_|(clear hK;refine hK _ _ ?_));clear hK;try simp only[pst0,simprocAttr]))
    refine owp_useQ (hc) (by(try simp only[Ty.w,simprocAttr,g1,g2,g3,g6,g7,g8,g9,o1,putC]);try rfl) ?_;simp(maxSteps:=2000000) only[Ty.w,simprocAttr,g1,g2,g3,g6,g7,g8,g9,o1,putC]
    repeat'(first|(refine a_ret ?_;simp(maxSteps:=2000000) only[Ty.w,simprocAttr,o1,g6,putC])|(refine hK _ _ ?_;clear hK;try simp only[pst0,simprocAttr]))
    exact⟨frz_agg (hfz _ _),hgr.set (Nat.le_refl _) _⟩
  ·have hd:decide ((k:Int)<(n.length:Int))=false:=by simp;omega
   have hF:=last (filtR_all varB n a k (by omega))
   have hc:=hbd hF.ca.sl hF.cb.sl
   repeat'(first|refine a_seq fun K hK=>?_|(refine a_regionS ?_;simp(maxSteps:=2000000) only[Ty.w,simprocAttr,g1,g2,g3,g6,g7,g8,g9,hlN,hlA,hkN,hkA,hd])|(refine a_exit ?_;try simp only[pst0,simprocAttr])|(refine a_cond _ (by(try simp(maxSteps:=2000000) only[Ty.w,simprocAttr,g1,g2,g3,g6,g7,g8,g9,hlN,hlA,hkN,hkA,hd]);rfl) (fun hb=>?_) (fun hb=>?_)<;>(try simp only[hb0,decide_eq_true_eq,decide_eq_false_iff_not,simprocAttr]at hb)<;>(try(exfalso;omega)))|((first|refine hK _ _ ?_|(clear hK;refine hK _ _ ?_));clear hK;try simp only[pst0,simprocAttr]))
   refine owp_useQ (hc) (by(try simp only[Ty.w,simprocAttr,g1,g2,g3,g6,g7,g8,g9,o1,putC]);try rfl) ?_;simp(maxSteps:=2000000) only[Ty.w,simprocAttr,g1,g2,g3,g6,g7,g8,g9,o1,putC]
   repeat'(first|(refine a_ret ?_;simp(maxSteps:=2000000) only[Ty.w,simprocAttr,o1,g6,putC])|(refine hK _ _ ?_;clear hK;try simp only[pst0,simprocAttr]))
   exact⟨frz_agg (hfz _ _),hgr.set (Nat.le_refl _) _⟩
end Go.Proofs.Ytjlkapgpjamnkaa
namespace Go.Proofs.Ytjlkapgpjamnkaa
open Go.AM
set_option maxHeartbeats 8000000
set_option maxRecDepth 20000
mutual
theorem bindEx_small{to:ByteArray→Option ByteArray}{bound:List ByteArray}: ∀ e:Ex,e.small→(bindEx to bound e).small
 | .mk op name n args kids=>fun h=>by
  simp only[bindEx,Ex.small]at h⊢
  exact⟨by rw[List.length_map];exact h.1,bindExs_small kids h.2⟩
theorem bindExs_small{to:ByteArray→Option ByteArray}{bound:List ByteArray}: ∀ l:List Ex,Ex.smalls l→Ex.smalls (bindExs to bound l)
 |[]=>fun _=>by simp[bindExs,Ex.smalls]
 |k::l=>fun h=>by
  simp only[bindExs,Ex.smalls]at h⊢
  exact⟨bindEx_small k h.1,bindExs_small l h.2⟩
end
theorem replR_size{n a:List ByteArray}{s:ByteArray}(ha: ∀ t∈a,t.size≤bigN)(hs:s.size≤bigN):(replR n a s).size≤bigN:=by
 unfold replR
 cases h:lookR n a s with
 |none=>exact hs
 |some t=>exact ha t (lookR_mem n a h)
theorem opk_Atom:(opAtom.data.toList==(#[97,116,111,109]:Array UInt8).toList)=true∧(opAtom.data.toList==(#[115,97,109,101]:Array UInt8).toList)=false∧(opAtom.data.toList==(#[60]:Array UInt8).toList)=false∧(opAtom.data.toList==(#[60,61]:Array UInt8).toList)=false∧(opAtom.data.toList==(#[61]:Array UInt8).toList)=false∧(opAtom.data.toList==(#[110,111,116]:Array UInt8).toList)=false∧(opAtom.data.toList==(#[105,109,112,108,121]:Array UInt8).toList)=false∧(opAtom.data.toList==(#[102,111,114,97,108,108]:Array UInt8).toList)=false∧(opAtom.data.toList==(#[101,120,105,115,116,115]:Array UInt8).toList)=false∧(opAtom.data.toList==(#[97,110,100]:Array UInt8).toList)=false∧(opAtom.data.toList==(#[111,114]:Array UInt8).toList)=false:=by decide+kernel
theorem opk_Same:(opSame.data.toList==(#[97,116,111,109]:Array UInt8).toList)=false∧(opSame.data.toList==(#[115,97,109,101]:Array UInt8).toList)=true∧(opSame.data.toList==(#[60]:Array UInt8).toList)=false∧(opSame.data.toList==(#[60,61]:Array UInt8).toList)=false∧(opSame.data.toList==(#[61]:Array UInt8).toList)=false∧(opSame.data.toList==(#[110,111,116]:Array UInt8).toList)=false∧(opSame.data.toList==(#[105,109,112,108,121]:Array UInt8).toList)=false∧(opSame.data.toList==(#[102,111,114,97,108,108]:Array UInt8).toList)=false∧(opSame.data.toList==(#[101,120,105,115,116,115]:Array UInt8).toList)=false∧(opSame.data.toList==(#[97,110,100]:Array UInt8).toList)=false∧(opSame.data.toList==(#[111,114]:Array UInt8).toList)=false:=by decide+kernel
theorem opk_Lt:(opLt.data.toList==(#[97,116,111,109]:Array UInt8).toList)=false∧(opLt.data.toList==(#[115,97,109,101]:Array UInt8).toList)=false∧(opLt.data.toList==(#[60]:Array UInt8).toList)=true∧(opLt.data.toList==(#[60,61]:Array UInt8).toList)=false∧(opLt.data.toList==(#[61]:Array UInt8).toList)=false∧(opLt.data.toList==(#[110,111,116]:Array UInt8).toList)=false∧(opLt.data.toList==(#[105,109,112,108,121]:Array UInt8).toList)=false∧(opLt.data.toList==(#[102,111,114,97,108,108]:Array UInt8).toList)=false∧(opLt.data.toList==(#[101,120,105,115,116,115]:Array UInt8).toList)=false∧(opLt.data.toList==(#[97,110,100]:Array UInt8).toList)=false∧(opLt.data.toList==(#[111,114]:Array UInt8).toList)=false:=by decide+kernel
theorem opk_Le:(opLe.data.toList==(#[97,116,111,109]:Array UInt8).toList)=false∧(opLe.data.toList==(#[115,97,109,101]:Array UInt8).toList)=false∧(opLe.data.toList==(#[60]:Array UInt8).toList)=false∧(opLe.data.toList==(#[60,61]:Array UInt8).toList)=true∧(opLe.data.toList==(#[61]:Array UInt8).toList)=false∧(opLe.data.toList==(#[110,111,116]:Array UInt8).toList)=false∧(opLe.data.toList==(#[105,109,112,108,121]:Array UInt8).toList)=false∧(opLe.data.toList==(#[102,111,114,97,108,108]:Array UInt8).toList)=false∧(opLe.data.toList==(#[101,120,105,115,116,115]:Array UInt8).toList)=false∧(opLe.data.toList==(#[97,110,100]:Array UInt8).toList)=false∧(opLe.data.toList==(#[111,114]:Array UInt8).toList)=false:=by decide+kernel
theorem opk_Eq:(opEq.data.toList==(#[97,116,111,109]:Array UInt8).toList)=false∧(opEq.data.toList==(#[115,97,109,101]:Array UInt8).toList)=false∧(opEq.data.toList==(#[60]:Array UInt8).toList)=false∧(opEq.data.toList==(#[60,61]:Array UInt8).toList)=false∧(opEq.data.toList==(#[61]:Array UInt8).toList)=true∧(opEq.data.toList==(#[110,111,116]:Array UInt8).toList)=false∧(opEq.data.toList==(#[105,109,112,108,121]:Array UInt8).toList)=false∧(opEq.data.toList==(#[102,111,114,97,108,108]:Array UInt8).toList)=false∧(opEq.data.toList==(#[101,120,105,115,116,115]:Array UInt8).toList)=false∧(opEq.data.toList==(#[97,110,100]:Array UInt8).toList)=false∧(opEq.data.toList==(#[111,114]:Array UInt8).toList)=false:=by decide+kernel
theorem opk_Not:(opNot.data.toList==(#[97,116,111,109]:Array UInt8).toList)=false∧(opNot.data.toList==(#[115,97,109,101]:Array UInt8).toList)=false∧(opNot.data.toList==(#[60]:Array UInt8).toList)=false∧(opNot.data.toList==(#[60,61]:Array UInt8).toList)=false∧(opNot.data.toList==(#[61]:Array UInt8).toList)=false∧(opNot.data.toList==(#[110,111,116]:Array UInt8).toList)=true∧(opNot.data.toList==(#[105,109,112,108,121]:Array UInt8).toList)=false∧(opNot.data.toList==(#[102,111,114,97,108,108]:Array UInt8).toList)=false∧(opNot.data.toList==(#[101,120,105,115,116,115]:Array UInt8).toList)=false∧(opNot.data.toList==(#[97,110,100]:Array UInt8).toList)=false∧(opNot.data.toList==(#[111,114]:Array UInt8).toList)=false:=by decide+kernel
theorem opk_Imp:(opImp.data.toList==(#[97,116,111,109]:Array UInt8).toList)=false∧(opImp.data.toList==(#[115,97,109,101]:Array UInt8).toList)=false∧(opImp.data.toList==(#[60]:Array UInt8).toList)=false∧(opImp.data.toList==(#[60,61]:Array UInt8).toList)=false∧(opImp.data.toList==(#[61]:Array UInt8).toList)=false∧(opImp.data.toList==(#[110,111,116]:Array UInt8).toList)=false∧(opImp.data.toList==(#[105,109,112,108,121]:Array UInt8).toList)=true∧(opImp.data.toList==(#[102,111,114,97,108,108]:Array UInt8).toList)=false∧(opImp.data.toList==(#[101,120,105,115,116,115]:Array UInt8).toList)=false∧(opImp.data.toList==(#[97,110,100]:Array UInt8).toList)=false∧(opImp.data.toList==(#[111,114]:Array UInt8).toList)=false:=by decide+kernel
theorem opk_All:(opAll.data.toList==(#[97,116,111,109]:Array UInt8).toList)=false∧(opAll.data.toList==(#[115,97,109,101]:Array UInt8).toList)=false∧(opAll.data.toList==(#[60]:Array UInt8).toList)=false∧(opAll.data.toList==(#[60,61]:Array UInt8).toList)=false∧(opAll.data.toList==(#[61]:Array UInt8).toList)=false∧(opAll.data.toList==(#[110,111,116]:Array UInt8).toList)=false∧(opAll.data.toList==(#[105,109,112,108,121]:Array UInt8).toList)=false∧(opAll.data.toList==(#[102,111,114,97,108,108]:Array UInt8).toList)=true∧(opAll.data.toList==(#[101,120,105,115,116,115]:Array UInt8).toList)=false∧(opAll.data.toList==(#[97,110,100]:Array UInt8).toList)=false∧(opAll.data.toList==(#[111,114]:Array UInt8).toList)=false:=by decide+kernel
theorem opk_Some:(opSome.data.toList==(#[97,116,111,109]:Array UInt8).toList)=false∧(opSome.data.toList==(#[115,97,109,101]:Array UInt8).toList)=false∧(opSome.data.toList==(#[60]:Array UInt8).toList)=false∧(opSome.data.toList==(#[60,61]:Array UInt8).toList)=false∧(opSome.data.toList==(#[61]:Array UInt8).toList)=false∧(opSome.data.toList==(#[110,111,116]:Array UInt8).toList)=false∧(opSome.data.toList==(#[105,109,112,108,121]:Array UInt8).toList)=false∧(opSome.data.toList==(#[102,111,114,97,108,108]:Array UInt8).toList)=false∧(opSome.data.toList==(#[101,120,105,115,116,115]:Array UInt8).toList)=true∧(opSome.data.toList==(#[97,110,100]:Array UInt8).toList)=false∧(opSome.data.toList==(#[111,114]:Array UInt8).toList)=false:=by decide+kernel
theorem opk_And:(opAnd.data.toList==(#[97,116,111,109]:Array UInt8).toList)=false∧(opAnd.data.toList==(#[115,97,109,101]:Array UInt8).toList)=false∧(opAnd.data.toList==(#[60]:Array UInt8).toList)=false∧(opAnd.data.toList==(#[60,61]:Array UInt8).toList)=false∧(opAnd.data.toList==(#[61]:Array UInt8).toList)=false∧(opAnd.data.toList==(#[110,111,116]:Array UInt8).toList)=false∧(opAnd.data.toList==(#[105,109,112,108,121]:Array UInt8).toList)=false∧(opAnd.data.toList==(#[102,111,114,97,108,108]:Array UInt8).toList)=false∧(opAnd.data.toList==(#[101,120,105,115,116,115]:Array UInt8).toList)=false∧(opAnd.data.toList==(#[97,110,100]:Array UInt8).toList)=true∧(opAnd.data.toList==(#[111,114]:Array UInt8).toList)=false:=by decide+kernel
theorem opk_Or:(opOr.data.toList==(#[97,116,111,109]:Array UInt8).toList)=false∧(opOr.data.toList==(#[115,97,109,101]:Array UInt8).toList)=false∧(opOr.data.toList==(#[60]:Array UInt8).toList)=false∧(opOr.data.toList==(#[60,61]:Array UInt8).toList)=false∧(opOr.data.toList==(#[61]:Array UInt8).toList)=false∧(opOr.data.toList==(#[110,111,116]:Array UInt8).toList)=false∧(opOr.data.toList==(#[105,109,112,108,121]:Array UInt8).toList)=false∧(opOr.data.toList==(#[102,111,114,97,108,108]:Array UInt8).toList)=false∧(opOr.data.toList==(#[101,120,105,115,116,115]:Array UInt8).toList)=false∧(opOr.data.toList==(#[97,110,100]:Array UInt8).toList)=false∧(opOr.data.toList==(#[111,114]:Array UInt8).toList)=true:=by decide+kernel
end Go.Proofs.Ytjlkapgpjamnkaa
namespace Go.Proofs.Ytjlkapgpjamnkaa
open Go.AM
set_option maxHeartbeats 8000000
set_option maxRecDepth 20000
theorem truth_atom{seed:Int}{n a:List ByteArray}{pN pA:PV}{h:Heap}(hp:Sl h 1 pN (strRows n))(hq:Sl h 1 pA (strRows a)){name:ByteArray}{args:List ByteArray}(hal:args.length≤1048576)(hns:name.size≤bigN)(has: ∀ s∈args,s.size≤bigN)(haz: ∀ s∈a,s.size≤bigN):
  PCall Try.prog 27 [.agg (Fm.mk opAtom name args [] [] []).cells,.agg [pN,pA],.sc (.int .u32 seed)] h fun r h'=>r= .sc (.bool ((mixN seed (name::args.map (replR n a))).tmod 2==1))∧h'=h:=by
 refine PCall.quiet Ty.hb_27 ?_
 have cR:=rreplace_c (l:=args) hp hq hal
 have hlN:(name::args.map (replR n a)).length≤1099511627776:=by simp only[List.length_cons,List.length_map];omega
 have hsN: ∀ s∈name::args.map (replR n a),s.size≤bigN:=fun s hs=>by
  rcases List.mem_cons.1 hs with rfl|hs
  ·exact hns
  ·obtain ⟨x,hx,rfl⟩:=List.mem_map.1 hs
   exact replR_size haz (has x hx)
 have hlA:(strRows (args.map (replR n a))).length=args.length:=by rw[strRows_len,List.length_map]
 have hll:(args.map (replR n a)).length=args.length:=List.length_map ..
 generalize args.map (replR n a)=rargs at*
 have hbb:(1+args.length)*16≤140737488355328:=by omega
 have o1:=sl_one hp
 have o2:=sl_one hq
 have e20:((2:Int)=0)=False:=by simp
 simp only[Fm.cells]
 obtain⟨k1,k2,k3,k4,k5,k6,k7,k8,k9,k10,k11⟩:=opk_Atom
 refine pcall_body (ow:=fun t=>t==25) (wf:=fun _=>false) Ty.mixed Try.func27 rfl Ty.hb_27 (by rw[Try.ntmps27];simp) ?_
 rw[Try.ntmps27,Try.results27]
 repeat'(first|refine a_seq fun K hK=>?_|(refine a_regionS ?_;simp(maxSteps:=2000000) only[Ty.w,simprocAttr,o1,o2,Bool.and_self])|(refine hK _ _ ?_;clear hK;try simp only[pst0,simprocAttr]))
 refine owp_useQ (cR) (by(try simp only[Ty.w,simprocAttr,]);try rfl) ?_;simp(maxSteps:=2000000) only[Ty.w,simprocAttr,]
 repeat'(first|refine a_seq fun K hK=>?_|(refine a_regionS ?_;simp(maxSteps:=2000000) only[Ty.w,simprocAttr,hlA,hbb,k1])|(refine hK _ _ ?_;clear hK;try simp only[pst0,simprocAttr]))
 have hS:Sl (((h.new (.arr 1 [[sPV name]])).kill h.next).new (.arr 1 ([sPV name]::strRows rargs))) 1 (.own (h.next+1) 0 (1+args.length)) (strRows (name::rargs)):=by
  have ho:(((h.new (.arr 1 [[sPV name]])).kill h.next).new (.arr 1 ([sPV name]::strRows rargs))).obj (h.next+1)=some (.arr 1 (strRows (name::rargs))):=by simp[Heap.new,Heap.kill,strRows]
  have:=Sl.own0 ho
  rw[strRows_len,List.length_cons,hll,Nat.add_comm args.length]at this
  exact this
 refine owp_useQ (mix_c hS hlN hsN) (by(try simp only[Ty.w,simprocAttr,]);try rfl) ?_;simp(maxSteps:=2000000) only[Ty.w,simprocAttr,]
 repeat'(first|(refine a_ret ?_;simp(maxSteps:=2000000) only[Ty.w,simprocAttr,e20])|(refine hK _ _ ?_;clear hK;try simp only[pst0,simprocAttr]))
 exact(((Grow.refl h).new _).kill (Nat.le_refl _)).new _
theorem truth_same{seed:Int}{n a:List ByteArray}{pN pA:PV}{h:Heap}(hp:Sl h 1 pN (strRows n))(hq:Sl h 1 pA (strRows a)){x y:ByteArray}:
  PCall Try.prog 27 [.agg (Fm.mk opSame ⟨#[]⟩ [x,y] [] [] []).cells,.agg [pN,pA],.sc (.int .u32 seed)] h fun r h'=>r= .sc (.bool (bEq (replR n a x) (replR n a y)))∧h'=h:=by
 have cR:=rreplace_c (l:=[x,y]) hp hq (by simp)
 simp only[List.map_cons,List.map_nil]at cR
 generalize replR n a x=rx at cR⊢
 generalize replR n a y=ry at cR⊢
 have o1:=sl_one hp
 have o2:=sl_one hq
 have u2:((2:Nat):Int)=2:=rfl
 simp only[Fm.cells,strRows,List.map_cons,List.map_nil]at cR⊢
 obtain⟨k1,k2,k3,k4,k5,k6,k7,k8,k9,k10,k11⟩:=opk_Same
 refine pcall_body (ow:=fun t=>t==25) (wf:=fun _=>false) Ty.mixed Try.func27 rfl Ty.hb_27 (by rw[Try.ntmps27];simp) ?_
 rw[Try.ntmps27,Try.results27]
 repeat'(first|refine a_seq fun K hK=>?_|(refine a_regionS ?_;simp(maxSteps:=2000000) only[Ty.w,simprocAttr,o1,o2,Bool.and_self])|(refine hK _ _ ?_;clear hK;try simp only[pst0,simprocAttr]))
 refine owp_useQ (cR) (by(try simp only[Ty.w,simprocAttr,]);try rfl) ?_;simp(maxSteps:=2000000) only[Ty.w,simprocAttr,]
 repeat'(first|refine a_seq fun K hK=>?_|((first|refine a_regionS ?_|refine a_drawS (by decide+kernel) ?_|refine a_ret ?_);simp(maxSteps:=2000000) only[Ty.w,simprocAttr,u2,beq_self_eq_true,k1,k2])|(refine hK _ _ ?_;clear hK;try simp only[pst0,simprocAttr]))
 all_goals rfl
theorem truth_lt{seed:Int}{n a:List ByteArray}{pN pA:PV}{h:Heap}(hp:Sl h 1 pN (strRows n))(hq:Sl h 1 pA (strRows a)){x y bx by':Ex}{nx ny:Int}(rx:PCall Try.prog 48 [.agg x.cells,pN,pA] h fun r h'=>r= .agg bx.cells∧h'=h)(ry:PCall Try.prog 48 [.agg y.cells,pN,pA] h fun r h'=>r= .agg by'.cells∧h'=h)(vx:PCall Try.prog 68 [.agg bx.cells,.sc (.int .u32 seed)] h fun r h'=>r= .sc (.int .i64 nx)∧h'=h)(vy:PCall Try.prog 68 [.agg by'.cells,.sc (.int .u32 seed)] h fun r h'=>r= .sc (.int .i64 ny)∧h'=h):
  PCall Try.prog 27 [.agg (Fm.mk opLt ⟨#[]⟩ [] [] [x,y] []).cells,.agg [pN,pA],.sc (.int .u32 seed)] h fun r h'=>r= .sc (.bool (decide (nx<ny)))∧h'=h:=by
 have cR:=rreplace_c (l:=[]) hp hq (by simp)
 have o1:=sl_one hp
 have o2:=sl_one hq
 have u2:((2:Nat):Int)=2:=rfl
 obtain⟨xo,xn,xv,xa,xk⟩:=x
 obtain⟨yo,yn,yv,ya,yk⟩:=y
 obtain⟨bo,bn,bv,ba,bk⟩:=bx
 obtain⟨co,cn,cv,ca,ck⟩:=by'
 simp only[Fm.cells,Fm.rows,Ex.rows,Ex.cells,strRows,pmRows,List.map_nil]at cR rx ry vx vy⊢
 obtain⟨k1,k2,k3,k4,k5,k6,k7,k8,k9,k10,k11⟩:=opk_Lt
 refine pcall_body (ow:=fun t=>t==25) (wf:=fun _=>false) Ty.mixed Try.func27 rfl Ty.hb_27 (by rw[Try.ntmps27];simp) ?_
 rw[Try.ntmps27,Try.results27]
 repeat'(first|refine a_seq fun K hK=>?_|(refine a_regionS ?_;simp(maxSteps:=2000000) only[Ty.w,simprocAttr,o1,o2,Bool.and_self])|(refine hK _ _ ?_;clear hK;try simp only[pst0,simprocAttr]))
 refine owp_useQ (cR) (by(try simp only[Ty.w,simprocAttr,]);try rfl) ?_;simp(maxSteps:=2000000) only[Ty.w,simprocAttr,]
 repeat'(first|refine a_seq fun K hK=>?_|((first|refine a_regionS ?_|refine a_drawS (by decide+kernel) ?_);simp(maxSteps:=2000000) only[Ty.w,simprocAttr,u2,beq_self_eq_true,bne,Bool.not_true,k1,k2,k3,k4,k5])|(refine a_skip ?_;try simp only[pst0,simprocAttr])|(refine a_cond _ (by(try simp(maxSteps:=2000000) only[Ty.w,simprocAttr,u2,beq_self_eq_true,bne,Bool.not_true,k1,k2,k3,k4,k5]);rfl) (fun hb=>?_) (fun hb=>?_)<;>(try simp only[hb0,decide_eq_true_eq,decide_eq_false_iff_not,simprocAttr]at hb)<;>(try(exfalso;omega)))|(refine hK _ _ ?_;clear hK;try simp only[pst0,simprocAttr]))
 (first|refine a_dcall0 (rx) (by(try simp only[Ty.w,simprocAttr,u2]);try rfl) ?_|refine a_dcallA (rx) (by(try simp only[Ty.w,simprocAttr,u2]);try rfl) (by simp only[Ty.w,simprocAttr,u2];try trivial) ?_);simp(maxSteps:=2000000) only[Ty.w,simprocAttr,Option.getD_some,u2]
 (first|refine a_dcall0 (vx) (by(try simp only[Ty.w,simprocAttr,u2]);try rfl) ?_|refine a_dcallA (vx) (by(try simp only[Ty.w,simprocAttr,u2]);try rfl) (by simp only[Ty.w,simprocAttr,u2];try trivial) ?_);simp(maxSteps:=2000000) only[Ty.w,simprocAttr,Option.getD_some,u2]
 repeat'(first|refine a_seq fun K hK=>?_|(refine a_drawS (by decide+kernel) ?_;simp(maxSteps:=2000000) only[Ty.w,simprocAttr,u2])|(refine hK _ _ ?_;clear hK;try simp only[pst0,simprocAttr]))
 (first|refine a_dcall0 (ry) (by(try simp only[Ty.w,simprocAttr,u2]);try rfl) ?_|refine a_dcallA (ry) (by(try simp only[Ty.w,simprocAttr,u2]);try rfl) (by simp only[Ty.w,simprocAttr,u2];try trivial) ?_);simp(maxSteps:=2000000) only[Ty.w,simprocAttr,Option.getD_some,u2]
 (first|refine a_dcall0 (vy) (by(try simp only[Ty.w,simprocAttr,u2]);try rfl) ?_|refine a_dcallA (vy) (by(try simp only[Ty.w,simprocAttr,u2]);try rfl) (by simp only[Ty.w,simprocAttr,u2];try trivial) ?_);simp(maxSteps:=2000000) only[Ty.w,simprocAttr,Option.getD_some,u2]
 repeat'(first|refine a_seq fun K hK=>?_|((first|refine a_regionS ?_|refine a_ret ?_);simp(maxSteps:=2000000) only[Ty.w,simprocAttr,u2,k3,k4,k5])|(with_reducible refine ite_in (fun hb=>?_) (fun hb=>?_)<;>(try simp only[Decidable.not_not]at hb)<;>(try simp only[hb,if_true,if_false,not_false_eq_true,not_true_eq_false, ↓reduceIte])<;>(try simp only[hb0,decide_eq_true_eq,decide_eq_false_iff_not,simprocAttr]at hb)<;>(try(exfalso;omega)))|(refine hK _ _ ?_;clear hK;try simp only[pst0,simprocAttr]))
 all_goals first
  |rfl
  |rw[decide_eq_true (by omega)]
  |rw[decide_eq_false (by omega)]
end Go.Proofs.Ytjlkapgpjamnkaa
namespace Go.Proofs.Ytjlkapgpjamnkaa
open Go.AM
set_option maxHeartbeats 8000000
set_option maxRecDepth 20000
theorem truth_le{seed:Int}{n a:List ByteArray}{pN pA:PV}{h:Heap}(hp:Sl h 1 pN (strRows n))(hq:Sl h 1 pA (strRows a)){x y bx by':Ex}{nx ny:Int}(rx:PCall Try.prog 48 [.agg x.cells,pN,pA] h fun r h'=>r= .agg bx.cells∧h'=h)(ry:PCall Try.prog 48 [.agg y.cells,pN,pA] h fun r h'=>r= .agg by'.cells∧h'=h)(vx:PCall Try.prog 68 [.agg bx.cells,.sc (.int .u32 seed)] h fun r h'=>r= .sc (.int .i64 nx)∧h'=h)(vy:PCall Try.prog 68 [.agg by'.cells,.sc (.int .u32 seed)] h fun r h'=>r= .sc (.int .i64 ny)∧h'=h):
  PCall Try.prog 27 [.agg (Fm.mk opLe ⟨#[]⟩ [] [] [x,y] []).cells,.agg [pN,pA],.sc (.int .u32 seed)] h fun r h'=>r= .sc (.bool (decide (nx≤ny)))∧h'=h:=by
 have cR:=rreplace_c (l:=[]) hp hq (by simp)
 have o1:=sl_one hp
 have o2:=sl_one hq
 have u2:((2:Nat):Int)=2:=rfl
 obtain⟨xo,xn,xv,xa,xk⟩:=x
 obtain⟨yo,yn,yv,ya,yk⟩:=y
 obtain⟨bo,bn,bv,ba,bk⟩:=bx
 obtain⟨co,cn,cv,ca,ck⟩:=by'
 simp only[Fm.cells,Fm.rows,Ex.rows,Ex.cells,strRows,pmRows,List.map_nil]at cR rx ry vx vy⊢
 obtain⟨k1,k2,k3,k4,k5,k6,k7,k8,k9,k10,k11⟩:=opk_Le
 refine pcall_body (ow:=fun t=>t==25) (wf:=fun _=>false) Ty.mixed Try.func27 rfl Ty.hb_27 (by rw[Try.ntmps27];simp) ?_
 rw[Try.ntmps27,Try.results27]
 repeat'(first|refine a_seq fun K hK=>?_|(refine a_regionS ?_;simp(maxSteps:=2000000) only[Ty.w,simprocAttr,o1,o2,Bool.and_self])|(refine hK _ _ ?_;clear hK;try simp only[pst0,simprocAttr]))
 refine owp_useQ (cR) (by(try simp only[Ty.w,simprocAttr,]);try rfl) ?_;simp(maxSteps:=2000000) only[Ty.w,simprocAttr,]
 repeat'(first|refine a_seq fun K hK=>?_|((first|refine a_regionS ?_|refine a_drawS (by decide+kernel) ?_);simp(maxSteps:=2000000) only[Ty.w,simprocAttr,u2,beq_self_eq_true,bne,Bool.not_true,k1,k2,k3,k4,k5])|(refine a_skip ?_;try simp only[pst0,simprocAttr])|(refine a_cond _ (by(try simp(maxSteps:=2000000) only[Ty.w,simprocAttr,u2,beq_self_eq_true,bne,Bool.not_true,k1,k2,k3,k4,k5]);rfl) (fun hb=>?_) (fun hb=>?_)<;>(try simp only[hb0,decide_eq_true_eq,decide_eq_false_iff_not,simprocAttr]at hb)<;>(try(exfalso;omega)))|(refine hK _ _ ?_;clear hK;try simp only[pst0,simprocAttr]))
 (first|refine a_dcall0 (rx) (by(try simp only[Ty.w,simprocAttr,u2]);try rfl) ?_|refine a_dcallA (rx) (by(try simp only[Ty.w,simprocAttr,u2]);try rfl) (by simp only[Ty.w,simprocAttr,u2];try trivial) ?_);simp(maxSteps:=2000000) only[Ty.w,simprocAttr,Option.getD_some,u2]
 (first|refine a_dcall0 (vx) (by(try simp only[Ty.w,simprocAttr,u2]);try rfl) ?_|refine a_dcallA (vx) (by(try simp only[Ty.w,simprocAttr,u2]);try rfl) (by simp only[Ty.w,simprocAttr,u2];try trivial) ?_);simp(maxSteps:=2000000) only[Ty.w,simprocAttr,Option.getD_some,u2]
 repeat'(first|refine a_seq fun K hK=>?_|(refine a_drawS (by decide+kernel) ?_;simp(maxSteps:=2000000) only[Ty.w,simprocAttr,u2])|(refine hK _ _ ?_;clear hK;try simp only[pst0,simprocAttr]))
 (first|refine a_dcall0 (ry) (by(try simp only[Ty.w,simprocAttr,u2]);try rfl) ?_|refine a_dcallA (ry) (by(try simp only[Ty.w,simprocAttr,u2]);try rfl) (by simp only[Ty.w,simprocAttr,u2];try trivial) ?_);simp(maxSteps:=2000000) only[Ty.w,simprocAttr,Option.getD_some,u2]
 (first|refine a_dcall0 (vy) (by(try simp only[Ty.w,simprocAttr,u2]);try rfl) ?_|refine a_dcallA (vy) (by(try simp only[Ty.w,simprocAttr,u2]);try rfl) (by simp only[Ty.w,simprocAttr,u2];try trivial) ?_);simp(maxSteps:=2000000) only[Ty.w,simprocAttr,Option.getD_some,u2]
 repeat'(first|refine a_seq fun K hK=>?_|((first|refine a_regionS ?_|refine a_ret ?_);simp(maxSteps:=2000000) only[Ty.w,simprocAttr,u2,k3,k4,k5])|(with_reducible refine ite_in (fun hb=>?_) (fun hb=>?_)<;>(try simp only[Decidable.not_not]at hb)<;>(try simp only[hb,if_true,if_false,not_false_eq_true,not_true_eq_false, ↓reduceIte])<;>(try simp only[hb0,decide_eq_true_eq,decide_eq_false_iff_not,simprocAttr]at hb)<;>(try(exfalso;omega)))|(refine hK _ _ ?_;clear hK;try simp only[pst0,simprocAttr]))
 all_goals first
  |rfl
  |rw[decide_eq_true (by omega)]
  |rw[decide_eq_false (by omega)]
theorem truth_eq{seed:Int}{n a:List ByteArray}{pN pA:PV}{h:Heap}(hp:Sl h 1 pN (strRows n))(hq:Sl h 1 pA (strRows a)){x y bx by':Ex}{nx ny:Int}(rx:PCall Try.prog 48 [.agg x.cells,pN,pA] h fun r h'=>r= .agg bx.cells∧h'=h)(ry:PCall Try.prog 48 [.agg y.cells,pN,pA] h fun r h'=>r= .agg by'.cells∧h'=h)(vx:PCall Try.prog 68 [.agg bx.cells,.sc (.int .u32 seed)] h fun r h'=>r= .sc (.int .i64 nx)∧h'=h)(vy:PCall Try.prog 68 [.agg by'.cells,.sc (.int .u32 seed)] h fun r h'=>r= .sc (.int .i64 ny)∧h'=h):
  PCall Try.prog 27 [.agg (Fm.mk opEq ⟨#[]⟩ [] [] [x,y] []).cells,.agg [pN,pA],.sc (.int .u32 seed)] h fun r h'=>r= .sc (.bool (decide (nx=ny)))∧h'=h:=by
 have cR:=rreplace_c (l:=[]) hp hq (by simp)
 have o1:=sl_one hp
 have o2:=sl_one hq
 have u2:((2:Nat):Int)=2:=rfl
 obtain⟨xo,xn,xv,xa,xk⟩:=x
 obtain⟨yo,yn,yv,ya,yk⟩:=y
 obtain⟨bo,bn,bv,ba,bk⟩:=bx
 obtain⟨co,cn,cv,ca,ck⟩:=by'
 simp only[Fm.cells,Fm.rows,Ex.rows,Ex.cells,strRows,pmRows,List.map_nil]at cR rx ry vx vy⊢
 obtain⟨k1,k2,k3,k4,k5,k6,k7,k8,k9,k10,k11⟩:=opk_Eq
 refine pcall_body (ow:=fun t=>t==25) (wf:=fun _=>false) Ty.mixed Try.func27 rfl Ty.hb_27 (by rw[Try.ntmps27];simp) ?_
 rw[Try.ntmps27,Try.results27]
 repeat'(first|refine a_seq fun K hK=>?_|(refine a_regionS ?_;simp(maxSteps:=2000000) only[Ty.w,simprocAttr,o1,o2,Bool.and_self])|(refine hK _ _ ?_;clear hK;try simp only[pst0,simprocAttr]))
 refine owp_useQ (cR) (by(try simp only[Ty.w,simprocAttr,]);try rfl) ?_;simp(maxSteps:=2000000) only[Ty.w,simprocAttr,]
 repeat'(first|refine a_seq fun K hK=>?_|((first|refine a_regionS ?_|refine a_drawS (by decide+kernel) ?_);simp(maxSteps:=2000000) only[Ty.w,simprocAttr,u2,beq_self_eq_true,bne,Bool.not_true,k1,k2,k3,k4,k5])|(refine a_skip ?_;try simp only[pst0,simprocAttr])|(refine a_cond _ (by(try simp(maxSteps:=2000000) only[Ty.w,simprocAttr,u2,beq_self_eq_true,bne,Bool.not_true,k1,k2,k3,k4,k5]);rfl) (fun hb=>?_) (fun hb=>?_)<;>(try simp only[hb0,decide_eq_true_eq,decide_eq_false_iff_not,simprocAttr]at hb)<;>(try(exfalso;omega)))|(refine hK _ _ ?_;clear hK;try simp only[pst0,simprocAttr]))
 (first|refine a_dcall0 (rx) (by(try simp only[Ty.w,simprocAttr,u2]);try rfl) ?_|refine a_dcallA (rx) (by(try simp only[Ty.w,simprocAttr,u2]);try rfl) (by simp only[Ty.w,simprocAttr,u2];try trivial) ?_);simp(maxSteps:=2000000) only[Ty.w,simprocAttr,Option.getD_some,u2]
 (first|refine a_dcall0 (vx) (by(try simp only[Ty.w,simprocAttr,u2]);try rfl) ?_|refine a_dcallA (vx) (by(try simp only[Ty.w,simprocAttr,u2]);try rfl) (by simp only[Ty.w,simprocAttr,u2];try trivial) ?_);simp(maxSteps:=2000000) only[Ty.w,simprocAttr,Option.getD_some,u2]
 repeat'(first|refine a_seq fun K hK=>?_|(refine a_drawS (by decide+kernel) ?_;simp(maxSteps:=2000000) only[Ty.w,simprocAttr,u2])|(refine hK _ _ ?_;clear hK;try simp only[pst0,simprocAttr]))
 (first|refine a_dcall0 (ry) (by(try simp only[Ty.w,simprocAttr,u2]);try rfl) ?_|refine a_dcallA (ry) (by(try simp only[Ty.w,simprocAttr,u2]);try rfl) (by simp only[Ty.w,simprocAttr,u2];try trivial) ?_);simp(maxSteps:=2000000) only[Ty.w,simprocAttr,Option.getD_some,u2]
 (first|refine a_dcall0 (vy) (by(try simp only[Ty.w,simprocAttr,u2]);try rfl) ?_|refine a_dcallA (vy) (by(try simp only[Ty.w,simprocAttr,u2]);try rfl) (by simp only[Ty.w,simprocAttr,u2];try trivial) ?_);simp(maxSteps:=2000000) only[Ty.w,simprocAttr,Option.getD_some,u2]
 repeat'(first|refine a_seq fun K hK=>?_|((first|refine a_regionS ?_|refine a_ret ?_);simp(maxSteps:=2000000) only[Ty.w,simprocAttr,u2,k3,k4,k5])|(refine hK _ _ ?_;clear hK;try simp only[pst0,simprocAttr]))
 all_goals first
  |rfl
  |rw[decide_eq_true (by omega)]
  |rw[decide_eq_false (by omega)]
end Go.Proofs.Ytjlkapgpjamnkaa
namespace Go.Proofs.Ytjlkapgpjamnkaa
open Go.AM
set_option maxHeartbeats 8000000
set_option maxRecDepth 20000
theorem truth_and{seed:Int}{n a:List ByteArray}{pN pA:PV}{h:Heap}(hp:Sl h 1 pN (strRows n))(hq:Sl h 1 pA (strRows a)){kids:List Fm}(hkl:kids.length≤1048576)(ihk: ∀ k∈kids,PCall Try.prog 27 [.agg k.cells,.agg [pN,pA],.sc (.int .u32 seed)] h fun r h'=>r= .sc (.bool (truthM (intpM seed) k (n,a)))∧h'=h):
  PCall Try.prog 27 [.agg (Fm.mk opAnd ⟨#[]⟩ [] [] [] kids).cells,.agg [pN,pA],.sc (.int .u32 seed)] h fun r h'=>r= .sc (.bool (truthAll (intpM seed) kids (n,a)))∧h'=h:=by
 have cR:=rreplace_c (l:=[]) hp hq (by simp)
 have o1:=sl_one hp
 have o2:=sl_one hq
 have hlK:=Fm.rows_len kids
 simp only[Fm.cells,Ex.rows,strRows,pmRows,List.map_nil]at cR⊢
 obtain⟨k1,k2,k3,k4,k5,k6,k7,k8,k9,k10,k11⟩:=opk_And
 generalize hR:truthAll (intpM seed) kids (n,a)=R
 refine pcall_body (ow:=fun t=>t==25) (wf:=fun _=>false) Ty.mixed Try.func27 rfl Ty.hb_27 (by rw[Try.ntmps27];simp) ?_
 rw[Try.ntmps27,Try.results27]
 repeat'(first|refine a_seq fun K hK=>?_|(refine a_regionS ?_;simp(maxSteps:=2000000) only[Ty.w,simprocAttr,o1,o2,Bool.and_self])|(refine hK _ _ ?_;clear hK;try simp only[pst0,simprocAttr]))
 refine owp_useQ (cR) (by(try simp only[Ty.w,simprocAttr,]);try rfl) ?_;simp(maxSteps:=2000000) only[Ty.w,simprocAttr,]
 repeat'(first|refine a_seq fun K hK=>?_|(refine a_block ?_)|(refine a_regionS ?_;simp(maxSteps:=2000000) only[Ty.w,simprocAttr,k1,k2,k3,k4,k5,k6,k7,k8,k9])|(refine a_skip ?_;try simp only[pst0,simprocAttr])|(refine a_cond _ (by(try simp(maxSteps:=2000000) only[Ty.w,simprocAttr,k1,k2,k3,k4,k5,k6,k7,k8,k9]);rfl) (fun hb=>?_) (fun hb=>?_)<;>(try simp only[hb0,decide_eq_true_eq,decide_eq_false_iff_not,simprocAttr]at hb)<;>(try(exfalso;omega)))|(refine hK _ _ ?_;clear hK;try simp only[pst0,simprocAttr]))
 refine a_loop (fun c S h'=>h'=h∧S 2= .sc (.int .u32 seed)∧S 3= .cptr [sPV opAnd,sPV ⟨#[]⟩,.imm 1 [],.imm 2 [],.imm 5 [],.imm 6 (Fm.rows kids)]∧S 4= .cptr [pN,pA]∧ ∃ k:Nat,S 10= .sc (.int .i64 k)∧k≤kids.length∧c=kids.length-k∧R=truthAll (intpM seed) (kids.drop k) (n,a)) kids.length ?_ ?_
 ·simp only[Ty.w,simprocAttr]
  exact⟨0,rfl,by omega,rfl,by rw[List.drop_zero];exact hR.symm⟩
 ·clear hR cR
  rintro c S h' ⟨rfl,g2,g3,g4,k,g10,hk,rfl,hinv⟩
  by_cases hlt:k<kids.length
  ·have hd:decide ((k:Int)<(kids.length:Int))=true:=by simp;omega
   have w7:IntKind.i64.wrap ((k:Int)+1)=k+1:=by rw[wrap64 (by omega) (by omega)]
   obtain⟨x,hx⟩: ∃ x,kids[k]? =some x:=⟨_,List.getElem?_eq_getElem hlt⟩
   have hr:=Fm.rows_get hx
   have hmem:=List.mem_of_getElem? hx
   have hc:=ihk x hmem
   rw[drop_get hx]at hinv
   simp only[truthAll]at hinv
   clear ihk
   generalize truthM (intpM seed) x (n,a)=tx at hc hinv
   obtain⟨xo,xn,xa,xp,xe,xk⟩:=x
   simp only[Fm.cells]at hr hc
   cases tx with
   |false=>
    simp only[Bool.false_and]at hinv
    subst hinv
    repeat'(first|refine a_seq fun K hK=>?_|((first|refine a_regionS ?_|refine a_drawS (by decide+kernel) ?_);simp(maxSteps:=2000000) only[Ty.w,simprocAttr,g2,g3,g4,g10,hlK,hd,hr])|(refine a_skip ?_;try simp only[pst0,simprocAttr])|(refine a_cond _ (by(try simp(maxSteps:=2000000) only[Ty.w,simprocAttr,g2,g3,g4,g10,hlK,hd,hr]);rfl) (fun hb=>?_) (fun hb=>?_)<;>(try simp only[hb0,decide_eq_true_eq,decide_eq_false_iff_not,simprocAttr]at hb)<;>(try(exfalso;omega)))|(refine hK _ _ ?_;clear hK;try simp only[pst0,simprocAttr]))
    (first|refine a_dcall0 (hc) (by(try simp only[Ty.w,simprocAttr,g2,g3,g4,g10,hr]);try rfl) ?_|refine a_dcallA (hc) (by(try simp only[Ty.w,simprocAttr,g2,g3,g4,g10,hr]);try rfl) (by simp only[Ty.w,simprocAttr,g2,g3,g4,g10,hr];try trivial) ?_);simp(maxSteps:=2000000) only[Ty.w,simprocAttr,Option.getD_some,g2,g3,g4,g10,hr]
    repeat'(first|refine a_seq fun K hK=>?_|((first|refine a_regionS ?_|refine a_ret ?_);simp(maxSteps:=2000000) only[Ty.w,simprocAttr,g3,k10,k11,Bool.not_false,Bool.not_true,bne,beq_self_eq_true])|(refine hK _ _ ?_;clear hK;try simp only[pst0,simprocAttr]))
   |true=>
    simp only[Bool.true_and]at hinv
    have W:=And.intro g2 (And.intro g3 (And.intro g4 (And.intro g10 hr)))
    repeat'(first|refine a_seq fun K hK=>?_|((first|refine a_regionS ?_|refine a_drawS (by decide+kernel) ?_);simp(maxSteps:=2000000) only[Ty.w,simprocAttr,W,hlK,hd])|(refine a_skip ?_;try simp only[pst0,simprocAttr])|(refine a_cond _ (by(try simp(maxSteps:=2000000) only[Ty.w,simprocAttr,W,hlK,hd]);rfl) (fun hb=>?_) (fun hb=>?_)<;>(try simp only[hb0,decide_eq_true_eq,decide_eq_false_iff_not,simprocAttr]at hb)<;>(try(exfalso;omega)))|(refine hK _ _ ?_;clear hK;try simp only[pst0,simprocAttr]))
    (first|refine a_dcall0 (hc) (by(try simp only[Ty.w,simprocAttr,W]);try rfl) ?_|refine a_dcallA (hc) (by(try simp only[Ty.w,simprocAttr,W]);try rfl) (by simp only[Ty.w,simprocAttr,W];try trivial) ?_);simp(maxSteps:=2000000) only[Ty.w,simprocAttr,W,Option.getD_some]
    repeat'(first|(refine a_block ?_)|(refine a_regionS ?_;simp(maxSteps:=2000000) only[Ty.w,simprocAttr,W,k10,k11,bne,Bool.not_false,Bool.not_true,beq_self_eq_true,w7])|(refine a_skip ?_;try simp only[pst0,simprocAttr])|(refine hK _ _ ?_;clear hK;try simp only[pst0,simprocAttr]))
    exact⟨kids.length-(k+1),by omega,k+1,by simp,by omega,rfl,hinv⟩
  ·have hd:decide ((k:Int)<(kids.length:Int))=false:=by simp;omega
   rw[List.drop_eq_nil_of_le (by omega)]at hinv
   simp only[truthAll]at hinv
   subst hinv
   repeat'(first|refine a_seq fun K hK=>?_|((first|refine a_regionS ?_|refine a_ret ?_);simp(maxSteps:=2000000) only[Ty.w,simprocAttr,g3,g10,hlK,hd,k10])|(refine a_exit ?_;try simp only[pst0,simprocAttr])|(refine a_cond _ (by(try simp(maxSteps:=2000000) only[Ty.w,simprocAttr,g3,g10,hlK,hd,k10]);rfl) (fun hb=>?_) (fun hb=>?_)<;>(try simp only[hb0,decide_eq_true_eq,decide_eq_false_iff_not,simprocAttr]at hb)<;>(try(exfalso;omega)))|((first|refine hK _ _ ?_|(clear hK;refine hK _ _ ?_));clear hK;try simp only[pst0,simprocAttr]))
theorem truth_or{seed:Int}{n a:List ByteArray}{pN pA:PV}{h:Heap}(hp:Sl h 1 pN (strRows n))(hq:Sl h 1 pA (strRows a)){kids:List Fm}(hkl:kids.length≤1048576)(ihk: ∀ k∈kids,PCall Try.prog 27 [.agg k.cells,.agg [pN,pA],.sc (.int .u32 seed)] h fun r h'=>r= .sc (.bool (truthM (intpM seed) k (n,a)))∧h'=h):
  PCall Try.prog 27 [.agg (Fm.mk opOr ⟨#[]⟩ [] [] [] kids).cells,.agg [pN,pA],.sc (.int .u32 seed)] h fun r h'=>r= .sc (.bool (truthAny (intpM seed) kids (n,a)))∧h'=h:=by
 have cR:=rreplace_c (l:=[]) hp hq (by simp)
 have o1:=sl_one hp
 have o2:=sl_one hq
 have hlK:=Fm.rows_len kids
 simp only[Fm.cells,Ex.rows,strRows,pmRows,List.map_nil]at cR⊢
 obtain⟨k1,k2,k3,k4,k5,k6,k7,k8,k9,k10,k11⟩:=opk_Or
 generalize hR:truthAny (intpM seed) kids (n,a)=R
 refine pcall_body (ow:=fun t=>t==25) (wf:=fun _=>false) Ty.mixed Try.func27 rfl Ty.hb_27 (by rw[Try.ntmps27];simp) ?_
 rw[Try.ntmps27,Try.results27]
 repeat'(first|refine a_seq fun K hK=>?_|(refine a_regionS ?_;simp(maxSteps:=2000000) only[Ty.w,simprocAttr,o1,o2,Bool.and_self])|(refine hK _ _ ?_;clear hK;try simp only[pst0,simprocAttr]))
 refine owp_useQ (cR) (by(try simp only[Ty.w,simprocAttr,]);try rfl) ?_;simp(maxSteps:=2000000) only[Ty.w,simprocAttr,]
 repeat'(first|refine a_seq fun K hK=>?_|(refine a_block ?_)|(refine a_regionS ?_;simp(maxSteps:=2000000) only[Ty.w,simprocAttr,k1,k2,k3,k4,k5,k6,k7,k8,k9])|(refine a_skip ?_;try simp only[pst0,simprocAttr])|(refine a_cond _ (by(try simp(maxSteps:=2000000) only[Ty.w,simprocAttr,k1,k2,k3,k4,k5,k6,k7,k8,k9]);rfl) (fun hb=>?_) (fun hb=>?_)<;>(try simp only[hb0,decide_eq_true_eq,decide_eq_false_iff_not,simprocAttr]at hb)<;>(try(exfalso;omega)))|(refine hK _ _ ?_;clear hK;try simp only[pst0,simprocAttr]))
 refine a_loop (fun c S h'=>h'=h∧S 2= .sc (.int .u32 seed)∧S 3= .cptr [sPV opOr,sPV ⟨#[]⟩,.imm 1 [],.imm 2 [],.imm 5 [],.imm 6 (Fm.rows kids)]∧S 4= .cptr [pN,pA]∧ ∃ k:Nat,S 10= .sc (.int .i64 k)∧k≤kids.length∧c=kids.length-k∧R=truthAny (intpM seed) (kids.drop k) (n,a)) kids.length ?_ ?_
 ·simp only[Ty.w,simprocAttr]
  exact⟨0,rfl,by omega,rfl,by rw[List.drop_zero];exact hR.symm⟩
 ·clear hR cR
  rintro c S h' ⟨rfl,g2,g3,g4,k,g10,hk,rfl,hinv⟩
  by_cases hlt:k<kids.length
  ·have hd:decide ((k:Int)<(kids.length:Int))=true:=by simp;omega
   have w7:IntKind.i64.wrap ((k:Int)+1)=k+1:=by rw[wrap64 (by omega) (by omega)]
   obtain⟨x,hx⟩: ∃ x,kids[k]? =some x:=⟨_,List.getElem?_eq_getElem hlt⟩
   have hr:=Fm.rows_get hx
   have hmem:=List.mem_of_getElem? hx
   have hc:=ihk x hmem
   rw[drop_get hx]at hinv
   simp only[truthAny]at hinv
   clear ihk
   generalize truthM (intpM seed) x (n,a)=tx at hc hinv
   obtain⟨xo,xn,xa,xp,xe,xk⟩:=x
   simp only[Fm.cells]at hr hc
   cases tx with
   |true=>
    simp only[Bool.true_or]at hinv
    subst hinv
    repeat'(first|refine a_seq fun K hK=>?_|((first|refine a_regionS ?_|refine a_drawS (by decide+kernel) ?_);simp(maxSteps:=2000000) only[Ty.w,simprocAttr,g2,g3,g4,g10,hlK,hd,hr])|(refine a_skip ?_;try simp only[pst0,simprocAttr])|(refine a_cond _ (by(try simp(maxSteps:=2000000) only[Ty.w,simprocAttr,g2,g3,g4,g10,hlK,hd,hr]);rfl) (fun hb=>?_) (fun hb=>?_)<;>(try simp only[hb0,decide_eq_true_eq,decide_eq_false_iff_not,simprocAttr]at hb)<;>(try(exfalso;omega)))|(refine hK _ _ ?_;clear hK;try simp only[pst0,simprocAttr]))
    (first|refine a_dcall0 (hc) (by(try simp only[Ty.w,simprocAttr,g2,g3,g4,g10,hr]);try rfl) ?_|refine a_dcallA (hc) (by(try simp only[Ty.w,simprocAttr,g2,g3,g4,g10,hr]);try rfl) (by simp only[Ty.w,simprocAttr,g2,g3,g4,g10,hr];try trivial) ?_);simp(maxSteps:=2000000) only[Ty.w,simprocAttr,Option.getD_some,g2,g3,g4,g10,hr]
    repeat'(first|refine a_seq fun K hK=>?_|((first|refine a_regionS ?_|refine a_ret ?_);simp(maxSteps:=2000000) only[Ty.w,simprocAttr,g3,k10,k11,Bool.not_false,Bool.not_true,bne,beq_self_eq_true])|(refine hK _ _ ?_;clear hK;try simp only[pst0,simprocAttr]))
   |false=>
    simp only[Bool.false_or]at hinv
    have W:=And.intro g2 (And.intro g3 (And.intro g4 (And.intro g10 hr)))
    repeat'(first|refine a_seq fun K hK=>?_|((first|refine a_regionS ?_|refine a_drawS (by decide+kernel) ?_);simp(maxSteps:=2000000) only[Ty.w,simprocAttr,W,hlK,hd])|(refine a_skip ?_;try simp only[pst0,simprocAttr])|(refine a_cond _ (by(try simp(maxSteps:=2000000) only[Ty.w,simprocAttr,W,hlK,hd]);rfl) (fun hb=>?_) (fun hb=>?_)<;>(try simp only[hb0,decide_eq_true_eq,decide_eq_false_iff_not,simprocAttr]at hb)<;>(try(exfalso;omega)))|(refine hK _ _ ?_;clear hK;try simp only[pst0,simprocAttr]))
    (first|refine a_dcall0 (hc) (by(try simp only[Ty.w,simprocAttr,W]);try rfl) ?_|refine a_dcallA (hc) (by(try simp only[Ty.w,simprocAttr,W]);try rfl) (by simp only[Ty.w,simprocAttr,W];try trivial) ?_);simp(maxSteps:=2000000) only[Ty.w,simprocAttr,W,Option.getD_some]
    repeat'(first|(refine a_block ?_)|(refine a_regionS ?_;simp(maxSteps:=2000000) only[Ty.w,simprocAttr,W,k10,k11,bne,Bool.not_false,Bool.not_true,beq_self_eq_true,w7])|(refine a_skip ?_;try simp only[pst0,simprocAttr])|(refine hK _ _ ?_;clear hK;try simp only[pst0,simprocAttr]))
    exact⟨kids.length-(k+1),by omega,k+1,by simp,by omega,rfl,hinv⟩
  ·have hd:decide ((k:Int)<(kids.length:Int))=false:=by simp;omega
   rw[List.drop_eq_nil_of_le (by omega)]at hinv
   simp only[truthAny]at hinv
   subst hinv
   repeat'(first|refine a_seq fun K hK=>?_|((first|refine a_regionS ?_|refine a_ret ?_);simp(maxSteps:=2000000) only[Ty.w,simprocAttr,g3,g10,hlK,hd,k10])|(refine a_exit ?_;try simp only[pst0,simprocAttr])|(refine a_cond _ (by(try simp(maxSteps:=2000000) only[Ty.w,simprocAttr,g3,g10,hlK,hd,k10]);rfl) (fun hb=>?_) (fun hb=>?_)<;>(try simp only[hb0,decide_eq_true_eq,decide_eq_false_iff_not,simprocAttr]at hb)<;>(try(exfalso;omega)))|((first|refine hK _ _ ?_|(clear hK;refine hK _ _ ?_));clear hK;try simp only[pst0,simprocAttr]))
end Go.Proofs.Ytjlkapgpjamnkaa
namespace Go.Proofs.Ytjlkapgpjamnkaa
open Go.AM
set_option maxHeartbeats 8000000
set_option maxRecDepth 20000
theorem truth_not{seed:Int}{n a:List ByteArray}{pN pA:PV}{h:Heap}(hp:Sl h 1 pN (strRows n))(hq:Sl h 1 pA (strRows a)){k:Fm}{tk:Bool}(hc:PCall Try.prog 27 [.agg k.cells,.agg [pN,pA],.sc (.int .u32 seed)] h fun r h'=>r= .sc (.bool tk)∧h'=h):
  PCall Try.prog 27 [.agg (Fm.mk opNot ⟨#[]⟩ [] [] [] [k]).cells,.agg [pN,pA],.sc (.int .u32 seed)] h fun r h'=>r= .sc (.bool (!tk))∧h'=h:=by
 have cR:=rreplace_c (l:=[]) hp hq (by simp)
 have o1:=sl_one hp
 have o2:=sl_one hq
 have u1:((1:Nat):Int)=1:=rfl
 obtain⟨k1,k2,k3,k4,k5,k6,k7,k8,k9,k10,k11⟩:=opk_Not
 obtain⟨xo,xn,xa,xp,xe,xk⟩:=k
 simp only[Fm.cells,Fm.rows,Ex.rows,strRows,pmRows,List.map_nil]at cR hc⊢
 refine pcall_body (ow:=fun t=>t==25) (wf:=fun _=>false) Ty.mixed Try.func27 rfl Ty.hb_27 (by rw[Try.ntmps27];simp) ?_
 rw[Try.ntmps27,Try.results27]
 repeat'(first|refine a_seq fun K hK=>?_|(refine a_regionS ?_;simp(maxSteps:=2000000) only[Ty.w,simprocAttr,o1,o2,Bool.and_self])|(refine hK _ _ ?_;clear hK;try simp only[pst0,simprocAttr]))
 refine owp_useQ (cR) (by(try simp only[Ty.w,simprocAttr,]);try rfl) ?_;simp(maxSteps:=2000000) only[Ty.w,simprocAttr,]
 repeat'(first|refine a_seq fun K hK=>?_|((first|refine a_regionS ?_|refine a_drawS (by decide+kernel) ?_);simp(maxSteps:=2000000) only[Ty.w,simprocAttr,k1,k2,k3,k4,k5,k6,u1,beq_self_eq_true])|(refine a_cond _ (by(try simp(maxSteps:=2000000) only[Ty.w,simprocAttr,k1,k2,k3,k4,k5,k6,u1,beq_self_eq_true]);rfl) (fun hb=>?_) (fun hb=>?_)<;>(try simp only[hb0,decide_eq_true_eq,decide_eq_false_iff_not,simprocAttr]at hb)<;>(try(exfalso;omega)))|(refine hK _ _ ?_;clear hK;try simp only[pst0,simprocAttr]))
 (first|refine a_dcall0 (hc) (by(try simp only[Ty.w,simprocAttr,u1]);try rfl) ?_|refine a_dcallA (hc) (by(try simp only[Ty.w,simprocAttr,u1]);try rfl) (by simp only[Ty.w,simprocAttr,u1];try trivial) ?_);simp(maxSteps:=2000000) only[Ty.w,simprocAttr,Option.getD_some,u1]
 repeat'(first|(refine a_ret ?_;simp(maxSteps:=2000000) only[Ty.w,simprocAttr,u1,k1,k2])|(refine hK _ _ ?_;clear hK;try simp only[pst0,simprocAttr]))
theorem truth_imp_true{seed:Int}{n a:List ByteArray}{pN pA:PV}{h:Heap}(hp:Sl h 1 pN (strRows n))(hq:Sl h 1 pA (strRows a)){k l:Fm}{tl:Bool}(hc:PCall Try.prog 27 [.agg k.cells,.agg [pN,pA],.sc (.int .u32 seed)] h fun r h'=>r= .sc (.bool true)∧h'=h)(hd:PCall Try.prog 27 [.agg l.cells,.agg [pN,pA],.sc (.int .u32 seed)] h fun r h'=>r= .sc (.bool tl)∧h'=h):
  PCall Try.prog 27 [.agg (Fm.mk opImp ⟨#[]⟩ [] [] [] [k,l]).cells,.agg [pN,pA],.sc (.int .u32 seed)] h fun r h'=>r= .sc (.bool tl)∧h'=h:=by
 have cR:=rreplace_c (l:=[]) hp hq (by simp)
 have o1:=sl_one hp
 have o2:=sl_one hq
 have u2:((2:Nat):Int)=2:=rfl
 obtain⟨k1,k2,k3,k4,k5,k6,k7,k8,k9,k10,k11⟩:=opk_Imp
 obtain⟨xo,xn,xa,xp,xe,xk⟩:=k
 obtain⟨yo,yn,ya,yp,ye,yk⟩:=l
 simp only[Fm.cells,Fm.rows,Ex.rows,strRows,pmRows,List.map_nil]at cR hc hd⊢
 refine pcall_body (ow:=fun t=>t==25) (wf:=fun _=>false) Ty.mixed Try.func27 rfl Ty.hb_27 (by rw[Try.ntmps27];simp) ?_
 rw[Try.ntmps27,Try.results27]
 repeat'(first|refine a_seq fun K hK=>?_|(refine a_regionS ?_;simp(maxSteps:=2000000) only[Ty.w,simprocAttr,o1,o2,Bool.and_self])|(refine hK _ _ ?_;clear hK;try simp only[pst0,simprocAttr]))
 refine owp_useQ (cR) (by(try simp only[Ty.w,simprocAttr,]);try rfl) ?_;simp(maxSteps:=2000000) only[Ty.w,simprocAttr,]
 repeat'(first|refine a_seq fun K hK=>?_|((first|refine a_regionS ?_|refine a_drawS (by decide+kernel) ?_);simp(maxSteps:=2000000) only[Ty.w,simprocAttr,k1,k2,k3,k4,k5,k6,k7,u2,beq_self_eq_true])|(refine a_cond _ (by(try simp(maxSteps:=2000000) only[Ty.w,simprocAttr,k1,k2,k3,k4,k5,k6,k7,u2,beq_self_eq_true]);rfl) (fun hb=>?_) (fun hb=>?_)<;>(try simp only[hb0,decide_eq_true_eq,decide_eq_false_iff_not,simprocAttr]at hb)<;>(try(exfalso;omega)))|(refine hK _ _ ?_;clear hK;try simp only[pst0,simprocAttr]))
 (first|refine a_dcall0 (hc) (by(try simp only[Ty.w,simprocAttr,u2,Bool.not_true]);try rfl) ?_|refine a_dcallA (hc) (by(try simp only[Ty.w,simprocAttr,u2,Bool.not_true]);try rfl) (by simp only[Ty.w,simprocAttr,u2,Bool.not_true];try trivial) ?_);simp(maxSteps:=2000000) only[Ty.w,simprocAttr,Option.getD_some,u2,Bool.not_true]
 skip
 (first|refine a_dcall0 (hd) (by(try simp only[Ty.w,simprocAttr,u2]);try rfl) ?_|refine a_dcallA (hd) (by(try simp only[Ty.w,simprocAttr,u2]);try rfl) (by simp only[Ty.w,simprocAttr,u2];try trivial) ?_);simp(maxSteps:=2000000) only[Ty.w,simprocAttr,Option.getD_some,u2]
 repeat'(first|(refine a_ret ?_;simp(maxSteps:=2000000) only[Ty.w,simprocAttr,u2,Bool.not_true])|(refine hK _ _ ?_;clear hK;try simp only[pst0,simprocAttr]))
theorem truth_imp_false{seed:Int}{n a:List ByteArray}{pN pA:PV}{h:Heap}(hp:Sl h 1 pN (strRows n))(hq:Sl h 1 pA (strRows a)){k l:Fm}{tl:Bool}(hc:PCall Try.prog 27 [.agg k.cells,.agg [pN,pA],.sc (.int .u32 seed)] h fun r h'=>r= .sc (.bool false)∧h'=h)(hd:PCall Try.prog 27 [.agg l.cells,.agg [pN,pA],.sc (.int .u32 seed)] h fun r h'=>r= .sc (.bool tl)∧h'=h):
  PCall Try.prog 27 [.agg (Fm.mk opImp ⟨#[]⟩ [] [] [] [k,l]).cells,.agg [pN,pA],.sc (.int .u32 seed)] h fun r h'=>r= .sc (.bool true)∧h'=h:=by
 have cR:=rreplace_c (l:=[]) hp hq (by simp)
 have o1:=sl_one hp
 have o2:=sl_one hq
 have u2:((2:Nat):Int)=2:=rfl
 obtain⟨k1,k2,k3,k4,k5,k6,k7,k8,k9,k10,k11⟩:=opk_Imp
 obtain⟨xo,xn,xa,xp,xe,xk⟩:=k
 obtain⟨yo,yn,ya,yp,ye,yk⟩:=l
 simp only[Fm.cells,Fm.rows,Ex.rows,strRows,pmRows,List.map_nil]at cR hc hd⊢
 refine pcall_body (ow:=fun t=>t==25) (wf:=fun _=>false) Ty.mixed Try.func27 rfl Ty.hb_27 (by rw[Try.ntmps27];simp) ?_
 rw[Try.ntmps27,Try.results27]
 repeat'(first|refine a_seq fun K hK=>?_|(refine a_regionS ?_;simp(maxSteps:=2000000) only[Ty.w,simprocAttr,o1,o2,Bool.and_self])|(refine hK _ _ ?_;clear hK;try simp only[pst0,simprocAttr]))
 refine owp_useQ (cR) (by(try simp only[Ty.w,simprocAttr,]);try rfl) ?_;simp(maxSteps:=2000000) only[Ty.w,simprocAttr,]
 repeat'(first|refine a_seq fun K hK=>?_|((first|refine a_regionS ?_|refine a_drawS (by decide+kernel) ?_);simp(maxSteps:=2000000) only[Ty.w,simprocAttr,k1,k2,k3,k4,k5,k6,k7,u2,beq_self_eq_true])|(refine a_cond _ (by(try simp(maxSteps:=2000000) only[Ty.w,simprocAttr,k1,k2,k3,k4,k5,k6,k7,u2,beq_self_eq_true]);rfl) (fun hb=>?_) (fun hb=>?_)<;>(try simp only[hb0,decide_eq_true_eq,decide_eq_false_iff_not,simprocAttr]at hb)<;>(try(exfalso;omega)))|(refine hK _ _ ?_;clear hK;try simp only[pst0,simprocAttr]))
 (first|refine a_dcall0 (hc) (by(try simp only[Ty.w,simprocAttr,u2,Bool.not_false]);try rfl) ?_|refine a_dcallA (hc) (by(try simp only[Ty.w,simprocAttr,u2,Bool.not_false]);try rfl) (by simp only[Ty.w,simprocAttr,u2,Bool.not_false];try trivial) ?_);simp(maxSteps:=2000000) only[Ty.w,simprocAttr,Option.getD_some,u2,Bool.not_false]
 repeat'(first|(refine a_ret ?_;simp(maxSteps:=2000000) only[Ty.w,simprocAttr,u2,Bool.not_false])|(refine hK _ _ ?_;clear hK;try simp only[pst0,simprocAttr]))
theorem truth_all{seed:Int}{n a:List ByteArray}{pN pA:PV}{h:Heap}(hp:Sl h 1 pN (strRows n))(hq:Sl h 1 pA (strRows a)){params:List Pm}{k:Fm}{R:Bool}(cQ:PCall Try.prog 69 [.agg (Fm.mk opAll ⟨#[]⟩ [] params [] [k]).cells,.sc (.int .i64 0),.agg [pN,pA],.sc (.int .u32 seed)] h fun r h'=>r= .sc (.bool R)∧h'=h):
  PCall Try.prog 27 [.agg (Fm.mk opAll ⟨#[]⟩ [] params [] [k]).cells,.agg [pN,pA],.sc (.int .u32 seed)] h fun r h'=>r= .sc (.bool R)∧h'=h:=by
 have cR:=rreplace_c (l:=[]) hp hq (by simp)
 have o1:=sl_one hp
 have o2:=sl_one hq
 obtain⟨k1,k2,k3,k4,k5,k6,k7,k8,k9,k10,k11⟩:=opk_All
 obtain⟨xo,xn,xa,xp,xe,xk⟩:=k
 simp only[Fm.cells,Fm.rows,Ex.rows,strRows,List.map_nil]at cR cQ⊢
 refine pcall_body (ow:=fun t=>t==25) (wf:=fun _=>false) Ty.mixed Try.func27 rfl Ty.hb_27 (by rw[Try.ntmps27];simp) ?_
 rw[Try.ntmps27,Try.results27]
 repeat'(first|refine a_seq fun K hK=>?_|(refine a_regionS ?_;simp(maxSteps:=2000000) only[Ty.w,simprocAttr,o1,o2,Bool.and_self])|(refine hK _ _ ?_;clear hK;try simp only[pst0,simprocAttr]))
 refine owp_useQ (cR) (by(try simp only[Ty.w,simprocAttr,]);try rfl) ?_;simp(maxSteps:=2000000) only[Ty.w,simprocAttr,]
 repeat'(first|refine a_seq fun K hK=>?_|(refine a_regionS ?_;simp(maxSteps:=2000000) only[Ty.w,simprocAttr,k1,k2,k3,k4,k5,k6,k7,k8,k9])|(refine a_skip ?_;try simp only[pst0,simprocAttr])|(refine a_cond _ (by(try simp(maxSteps:=2000000) only[Ty.w,simprocAttr,k1,k2,k3,k4,k5,k6,k7,k8,k9]);rfl) (fun hb=>?_) (fun hb=>?_)<;>(try simp only[hb0,decide_eq_true_eq,decide_eq_false_iff_not,simprocAttr]at hb)<;>(try(exfalso;omega)))|(refine hK _ _ ?_;clear hK;try simp only[pst0,simprocAttr]))
 refine owp_useQ (cQ) (by(try simp only[Ty.w,simprocAttr,]);try rfl) ?_;simp(maxSteps:=2000000) only[Ty.w,simprocAttr,]
 repeat'(first|(refine a_ret ?_;simp(maxSteps:=2000000) only[Ty.w,simprocAttr,k1])|(refine hK _ _ ?_;clear hK;try simp only[pst0,simprocAttr]))
theorem truth_some{seed:Int}{n a:List ByteArray}{pN pA:PV}{h:Heap}(hp:Sl h 1 pN (strRows n))(hq:Sl h 1 pA (strRows a)){params:List Pm}{k:Fm}{R:Bool}(cQ:PCall Try.prog 69 [.agg (Fm.mk opSome ⟨#[]⟩ [] params [] [k]).cells,.sc (.int .i64 0),.agg [pN,pA],.sc (.int .u32 seed)] h fun r h'=>r= .sc (.bool R)∧h'=h):
  PCall Try.prog 27 [.agg (Fm.mk opSome ⟨#[]⟩ [] params [] [k]).cells,.agg [pN,pA],.sc (.int .u32 seed)] h fun r h'=>r= .sc (.bool R)∧h'=h:=by
 have cR:=rreplace_c (l:=[]) hp hq (by simp)
 have o1:=sl_one hp
 have o2:=sl_one hq
 obtain⟨k1,k2,k3,k4,k5,k6,k7,k8,k9,k10,k11⟩:=opk_Some
 obtain⟨xo,xn,xa,xp,xe,xk⟩:=k
 simp only[Fm.cells,Fm.rows,Ex.rows,strRows,List.map_nil]at cR cQ⊢
 refine pcall_body (ow:=fun t=>t==25) (wf:=fun _=>false) Ty.mixed Try.func27 rfl Ty.hb_27 (by rw[Try.ntmps27];simp) ?_
 rw[Try.ntmps27,Try.results27]
 repeat'(first|refine a_seq fun K hK=>?_|(refine a_regionS ?_;simp(maxSteps:=2000000) only[Ty.w,simprocAttr,o1,o2,Bool.and_self])|(refine hK _ _ ?_;clear hK;try simp only[pst0,simprocAttr]))
 refine owp_useQ (cR) (by(try simp only[Ty.w,simprocAttr,]);try rfl) ?_;simp(maxSteps:=2000000) only[Ty.w,simprocAttr,]
 repeat'(first|refine a_seq fun K hK=>?_|(refine a_regionS ?_;simp(maxSteps:=2000000) only[Ty.w,simprocAttr,k1,k2,k3,k4,k5,k6,k7,k8,k9])|(refine a_cond _ (by(try simp(maxSteps:=2000000) only[Ty.w,simprocAttr,k1,k2,k3,k4,k5,k6,k7,k8,k9]);rfl) (fun hb=>?_) (fun hb=>?_)<;>(try simp only[hb0,decide_eq_true_eq,decide_eq_false_iff_not,simprocAttr]at hb)<;>(try(exfalso;omega)))|(refine hK _ _ ?_;clear hK;try simp only[pst0,simprocAttr]))
 refine owp_useQ (cQ) (by(try simp only[Ty.w,simprocAttr,]);try rfl) ?_;simp(maxSteps:=2000000) only[Ty.w,simprocAttr,]
 repeat'(first|(refine a_ret ?_;simp(maxSteps:=2000000) only[Ty.w,simprocAttr,k1])|(refine hK _ _ ?_;clear hK;try simp only[pst0,simprocAttr]))
end Go.Proofs.Ytjlkapgpjamnkaa
