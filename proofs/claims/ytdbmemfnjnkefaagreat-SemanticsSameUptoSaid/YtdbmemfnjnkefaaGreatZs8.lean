/- What the claim rests on, part 8: the abstract machine, contracts of the functions, plain data. -/
import Derived.Lib.IndexEntry
import Derived.Test.YtdbmemfnjnkefaaGreatZs7
set_option linter.unusedVariables false
set_option linter.unusedSimpArgs false
set_option linter.unusedSectionVars false
namespace Go.Proofs.YtdbmemfnjnkefaaGreat
open Go.AM
set_option maxHeartbeats 2000000
set_option maxRecDepth 20000
theorem lowL_none{l:List UInt8}{k:Nat}{c:UInt8}(h:l[k]? =some c)(hc:lowB c=none):lowL l=none:=by
 induction l generalizing k with
 |nil=>simp at h
 |cons d l ih=>
  simp only[lowL]
  cases k with
  |zero=>simp at h;subst h;rw[hc]
  |succ k=>
   simp at h
   rw[ih h]
   cases lowB d<;>simp
theorem lowL_take{l p:List UInt8}{k:Nat}{c d:UInt8}(h:l[k]? =some c)(hc:lowB c=some d)(hp:lowL (l.take k)=some p):lowL (l.take (k+1))=some (p++[d]):=by
 induction l generalizing k p with
 |nil=>simp at h
 |cons e l ih=>
  cases k with
  |zero=>simp at h;subst h;simp[lowL]at hp;subst hp;simp[lowL,hc]
  |succ k=>
   simp at h
   simp only[List.take_succ_cons,lowL]at hp⊢
   cases he:lowB e with
   |none=>simp[he]at hp
   |some e'=>
    rw[he]at hp
    cases hq:lowL (l.take k)with
    |none=>simp[hq]at hp
    |some p'=>
     simp[hq]at hp
     subst hp
     rw[ih h hq]
     simp
theorem lowL_len{l p:List UInt8}(h:lowL l=some p):p.length=l.length:=by
 induction l generalizing p with
 |nil=>simp[lowL]at h;subst h;rfl
 |cons e l ih=>
  simp only[lowL]at h
  split at h
  ·cases hq:lowL l with
   |none=>simp[hq]at h
   |some p'=>simp[hq]at h;subst h;simp[ih hq]
  ·simp at h
theorem bytesR_len(l:List UInt8):(bytesR l).length=l.length:=by simp[bytesR]
theorem bytesR_get{l:List UInt8}{k:Nat}{c:UInt8}(h:l[k]? =some c):(bytesR l)[k]? =some [.sc (.int .u8 c.toNat)]:=by simp[bytesR,h]
theorem bytesR_set(l:List UInt8)(k:Nat)(c:UInt8):(bytesR l).set k [.sc (.int .u8 c.toNat)]=bytesR (l.set k c):=by simp[bytesR,List.map_set]
structure LowI(h:Heap)(l:List UInt8)(k:Nat)(h':Heap):Prop where
 grow:Grow h h'
 ex: ∃ p,lowL (l.take k)=some p∧h'.obj h.next=some (.arr 1 (bytesR (p++l.drop k)))
theorem LowI.keep{h h':Heap}{l:List UInt8}{k:Nat}{c:UInt8}(i:LowI h l k h')(hc:l[k]? =some c)(hl:lowB c=some c):LowI h l (k+1) h':=by
 obtain⟨p,hp,ho⟩:=i.ex
 refine⟨i.grow,p++[c],lowL_take hc hl hp,?_⟩
 rw[ho]
 obtain⟨hk,rfl⟩:=List.getElem?_eq_some_iff.1 hc
 rw[List.drop_eq_getElem_cons hk];simp
theorem LowI.put{h h':Heap}{l:List UInt8}{k:Nat}{c d:UInt8}{rows:List (List PV)}(i:LowI h l k h')(hc:l[k]? =some c)(hl:lowB c=some d)(hr:h'.obj h.next=some (.arr 1 rows)):
  LowI h l (k+1) (h'.set h.next (.arr 1 (rows.set k [.sc (.int .u8 d.toNat)]))):=by
 obtain⟨p,hp,ho⟩:=i.ex
 refine⟨i.grow.set (Nat.le_refl _) _,p++[d],lowL_take hc hl hp,?_⟩
 rw[ho]at hr
 simp at hr
 subst hr
 have hpl:=lowL_len hp
 obtain⟨hk,rfl⟩:=List.getElem?_eq_some_iff.1 hc
 simp only[Heap.set,if_true,bytesR_set]
 rw[List.length_take]at hpl
 rw[List.set_append_right _ _ (by omega),List.drop_eq_getElem_cons hk,show k-p.length=0 by omega,List.set_cons_zero];simp
theorem u8w(x:Int)(h0:0≤x)(h1:x<256):IntKind.u8.wrap x=x:=by
 unfold IntKind.wrap
 simp[IntKind.signed,IntKind.bits]
 omega
theorem byte_cls5(c:UInt8):
  (upB c=false∧letB c=false∧decide ((c.toNat:Int)≥65)=false∧decide ((c.toNat:Int)≥97)=false)∨
  (upB c=true∧decide ((c.toNat:Int)≥65)=true∧decide ((c.toNat:Int)≤90)=true)∨
  (upB c=false∧letB c=false∧decide ((c.toNat:Int)≥65)=true∧decide ((c.toNat:Int)≤90)=false∧decide ((c.toNat:Int)≥97)=false)∨
  (upB c=false∧letB c=true∧decide ((c.toNat:Int)≥65)=true∧decide ((c.toNat:Int)≤90)=false∧decide ((c.toNat:Int)≥97)=true∧decide ((c.toNat:Int)≤122)=true)∨
  (upB c=false∧letB c=false∧decide ((c.toNat:Int)≥65)=true∧decide ((c.toNat:Int)≤90)=false∧decide ((c.toNat:Int)≥97)=true∧decide ((c.toNat:Int)≤122)=false):=by
 simp only[upB,letB,Bool.and_eq_true,Bool.and_eq_false_iff,decide_eq_true_eq,decide_eq_false_iff_not]
 omega
theorem lower_c{h:Heap}{s:ByteArray}:PCall Tryz.prog 205 [sPV s] h fun r h'=>r= .tup [sPV (lowS s).1,.sc (.bool (lowS s).2)]∧h'=h:=by
 have hsl:s.data.toList.length=s.size:=by rw[Array.length_toList];try rfl
 refine PCall.quiet2 Ty.hb_205 ?_
 cases b1:(s.data.toList==(#[]:Array UInt8).toList)with
 |true=>
  have:lowS s=(⟨#[]⟩,false):=by
   unfold lowS
   rw[if_neg]
   have:s.data.toList=[]:=by simpa using b1
   rw[this]at hsl;simp at hsl;omega
  refine pcall_body (ow:=fun _=>false) (wf:=fun _=>false) Ty.mixed Tryz.func205 rfl Ty.hb_205 (by rw[Tryz.ntmps205];simp) ?_
  rw[Tryz.ntmps205,Tryz.results205]
  repeat'(first
   |refine a_seq fun K hK=>?_
   |(refine a_block ?_)
   |((first|refine a_regionS ?_|refine a_region (fun K hK=>?_)|refine a_ret ?_);simp(maxSteps:=2000000) only[undef,am0,am1,am2,am3,amb0,amb1,amb2,amb3,amb4,lwn,drn,callee,wantedB,isW,eff,pev,pst0,retPost,resAll,resP,resV,intP,mkV,putC,pbin,sbin,strsEq,peq,pint,pshift,pstr,pun,pconv,isShift,isConstB,app,subS,lay,rowsOf,lkV,keyKind,keyEq,mfind,mput,oInt,isZeroInt,forall_const,exists_eq_left',implies_true,IntKind.bits, ↓reduceIte,Nat.reduceEqDiff,Nat.reduceAdd,Nat.reduceSub,Nat.reduceMul,Nat.reduceLT,Nat.reduceLeDiff,Nat.reduceBEq,Int.reduceLE,Int.reduceLT,Int.reduceToNat,reduceCtorEq,Ty.all,b1])
   |(refine a_skip ?_;try simp only[pst0, ↓reduceIte,Nat.reduceEqDiff])
   |(refine a_exit ?_;try simp only[pst0, ↓reduceIte,Nat.reduceEqDiff])
   |(refine a_cond _ (by(try simp(maxSteps:=2000000) only[undef,am0,am1,am2,am3,amb0,amb1,amb2,amb3,amb4,lwn,drn,callee,wantedB,isW,eff,pev,pst0,retPost,resAll,resP,resV,intP,mkV,putC,pbin,sbin,strsEq,peq,pint,pshift,pstr,pun,pconv,isShift,isConstB,app,subS,lay,rowsOf,lkV,keyKind,keyEq,mfind,mput,oInt,isZeroInt,forall_const,exists_eq_left',implies_true,IntKind.bits, ↓reduceIte,Nat.reduceEqDiff,Nat.reduceAdd,Nat.reduceSub,Nat.reduceMul,Nat.reduceLT,Nat.reduceLeDiff,Nat.reduceBEq,Int.reduceLE,Int.reduceLT,Int.reduceToNat,reduceCtorEq,Ty.all,b1]);rfl) (fun hb=>?_) (fun hb=>?_)<;>(try simp only[hb0,decide_eq_true_eq,decide_eq_false_iff_not,reduceCtorEq]at hb)<;>(try(exfalso;omega)))
   |(with_reducible refine ite_in (fun hb=>?_) (fun hb=>?_)<;>(try simp only[Decidable.not_not]at hb)<;>(try simp only[hb,if_true,if_false,not_false_eq_true,not_true_eq_false, ↓reduceIte])<;>(try simp only[hb0,decide_eq_true_eq,decide_eq_false_iff_not,reduceCtorEq]at hb)<;>(try(exfalso;omega)))
   |(refine hK _ _ ?_;clear hK;try simp only[pst0, ↓reduceIte,Nat.reduceEqDiff])
   |(clear hK;refine hK _ _ ?_;clear hK;try simp only[pst0, ↓reduceIte,Nat.reduceEqDiff])
   |(clear hK;clear hK;refine hK _ _ ?_;clear hK;try simp only[pst0, ↓reduceIte,Nat.reduceEqDiff])
   |(clear hK;clear hK;clear hK;refine hK _ _ ?_;clear hK;try simp only[pst0, ↓reduceIte,Nat.reduceEqDiff])
   |(rw[if_pos];rotate_left 1;omega;simp(maxSteps:=2000000) only[undef,am0,am1,am2,am3,amb0,amb1,amb2,amb3,amb4,lwn,drn,callee,wantedB,isW,eff,pev,pst0,retPost,resAll,resP,resV,intP,mkV,putC,pbin,sbin,strsEq,peq,pint,pshift,pstr,pun,pconv,isShift,isConstB,app,subS,lay,rowsOf,lkV,keyKind,keyEq,mfind,mput,oInt,isZeroInt,forall_const,exists_eq_left',implies_true,IntKind.bits, ↓reduceIte,Nat.reduceEqDiff,Nat.reduceAdd,Nat.reduceSub,Nat.reduceMul,Nat.reduceLT,Nat.reduceLeDiff,Nat.reduceBEq,Int.reduceLE,Int.reduceLT,Int.reduceToNat,reduceCtorEq,Ty.all,b1]))
  rw[this]
  exact⟨rfl,Grow.refl _⟩
 |false=>
  have hpos:0<s.size:=by
   rcases Nat.eq_zero_or_pos s.size with h0|h0
   ·rw [h0]at hsl
    have:=List.eq_nil_of_length_eq_zero hsl
    rw[this]at b1;simp at b1
   ·exact h0
  cases b2:decide ((s.size:Int)>32)with
  |true=>
   have:lowS s=(⟨#[]⟩,false):=by
    unfold lowS
    rw[if_neg]
    simp at b2;omega
   refine pcall_body (ow:=fun _=>false) (wf:=fun _=>false) Ty.mixed Tryz.func205 rfl Ty.hb_205 (by rw[Tryz.ntmps205];simp) ?_
   rw[Tryz.ntmps205,Tryz.results205]
   repeat'(first
    |refine a_seq fun K hK=>?_
    |(refine a_block ?_)
    |((first|refine a_regionS ?_|refine a_region (fun K hK=>?_)|refine a_ret ?_);simp(maxSteps:=2000000) only[undef,am0,am1,am2,am3,amb0,amb1,amb2,amb3,amb4,lwn,drn,callee,wantedB,isW,eff,pev,pst0,retPost,resAll,resP,resV,intP,mkV,putC,pbin,sbin,strsEq,peq,pint,pshift,pstr,pun,pconv,isShift,isConstB,app,subS,lay,rowsOf,lkV,keyKind,keyEq,mfind,mput,oInt,isZeroInt,forall_const,exists_eq_left',implies_true,IntKind.bits, ↓reduceIte,Nat.reduceEqDiff,Nat.reduceAdd,Nat.reduceSub,Nat.reduceMul,Nat.reduceLT,Nat.reduceLeDiff,Nat.reduceBEq,Int.reduceLE,Int.reduceLT,Int.reduceToNat,reduceCtorEq,Ty.all,b1,b2])
    |(refine a_skip ?_;try simp only[pst0, ↓reduceIte,Nat.reduceEqDiff])
    |(refine a_exit ?_;try simp only[pst0, ↓reduceIte,Nat.reduceEqDiff])
    |(refine a_cond _ (by(try simp(maxSteps:=2000000) only[undef,am0,am1,am2,am3,amb0,amb1,amb2,amb3,amb4,lwn,drn,callee,wantedB,isW,eff,pev,pst0,retPost,resAll,resP,resV,intP,mkV,putC,pbin,sbin,strsEq,peq,pint,pshift,pstr,pun,pconv,isShift,isConstB,app,subS,lay,rowsOf,lkV,keyKind,keyEq,mfind,mput,oInt,isZeroInt,forall_const,exists_eq_left',implies_true,IntKind.bits, ↓reduceIte,Nat.reduceEqDiff,Nat.reduceAdd,Nat.reduceSub,Nat.reduceMul,Nat.reduceLT,Nat.reduceLeDiff,Nat.reduceBEq,Int.reduceLE,Int.reduceLT,Int.reduceToNat,reduceCtorEq,Ty.all,b1,b2]);rfl) (fun hb=>?_) (fun hb=>?_)<;>(try simp only[hb0,decide_eq_true_eq,decide_eq_false_iff_not,reduceCtorEq]at hb)<;>(try(exfalso;omega)))
    |(with_reducible refine ite_in (fun hb=>?_) (fun hb=>?_)<;>(try simp only[Decidable.not_not]at hb)<;>(try simp only[hb,if_true,if_false,not_false_eq_true,not_true_eq_false, ↓reduceIte])<;>(try simp only[hb0,decide_eq_true_eq,decide_eq_false_iff_not,reduceCtorEq]at hb)<;>(try(exfalso;omega)))
    |(refine hK _ _ ?_;clear hK;try simp only[pst0, ↓reduceIte,Nat.reduceEqDiff])
    |(clear hK;refine hK _ _ ?_;clear hK;try simp only[pst0, ↓reduceIte,Nat.reduceEqDiff])
    |(clear hK;clear hK;refine hK _ _ ?_;clear hK;try simp only[pst0, ↓reduceIte,Nat.reduceEqDiff])
    |(clear hK;clear hK;clear hK;refine hK _ _ ?_;clear hK;try simp only[pst0, ↓reduceIte,Nat.reduceEqDiff])
    |(rw[if_pos];rotate_left 1;omega;simp(maxSteps:=2000000) only[undef,am0,am1,am2,am3,amb0,amb1,amb2,amb3,amb4,lwn,drn,callee,wantedB,isW,eff,pev,pst0,retPost,resAll,resP,resV,intP,mkV,putC,pbin,sbin,strsEq,peq,pint,pshift,pstr,pun,pconv,isShift,isConstB,app,subS,lay,rowsOf,lkV,keyKind,keyEq,mfind,mput,oInt,isZeroInt,forall_const,exists_eq_left',implies_true,IntKind.bits, ↓reduceIte,Nat.reduceEqDiff,Nat.reduceAdd,Nat.reduceSub,Nat.reduceMul,Nat.reduceLT,Nat.reduceLeDiff,Nat.reduceBEq,Int.reduceLE,Int.reduceLT,Int.reduceToNat,reduceCtorEq,Ty.all,b1,b2]))
   rw[this]
   exact⟨rfl,Grow.refl _⟩
  |false=>
   have h32:s.size≤32:=by simp at b2;omega
   have hsz:s.size≤140737488355328:=by omega
   have hS:lowS s=(match lowL s.data.toList with|some l=>(⟨l.toArray⟩,true)|none=>(⟨#[]⟩,false)):=by unfold lowS;rw[if_pos ⟨hpos,h32⟩];try rfl
   refine pcall_body (ow:=fun t=>t==15) (wf:=fun _=>false) Ty.mixed Tryz.func205 rfl Ty.hb_205 (by rw[Tryz.ntmps205];simp) ?_
   rw[Tryz.ntmps205,Tryz.results205]
   repeat'(first
    |refine a_seq fun K hK=>?_
    |(refine a_block ?_)
    |((first|refine a_regionS ?_|refine a_region (fun K hK=>?_)|refine a_ret ?_);simp(maxSteps:=2000000) only[undef,am0,am1,am2,am3,amb0,amb1,amb2,amb3,amb4,lwn,drn,callee,wantedB,isW,eff,pev,pst0,retPost,resAll,resP,resV,intP,mkV,putC,pbin,sbin,strsEq,peq,pint,pshift,pstr,pun,pconv,isShift,isConstB,app,subS,lay,rowsOf,lkV,keyKind,keyEq,mfind,mput,oInt,isZeroInt,forall_const,exists_eq_left',implies_true,IntKind.bits, ↓reduceIte,Nat.reduceEqDiff,Nat.reduceAdd,Nat.reduceSub,Nat.reduceMul,Nat.reduceLT,Nat.reduceLeDiff,Nat.reduceBEq,Int.reduceLE,Int.reduceLT,Int.reduceToNat,reduceCtorEq,Ty.all,b1,b2,hsz])
    |(refine a_skip ?_;try simp only[pst0, ↓reduceIte,Nat.reduceEqDiff])
    |(refine a_exit ?_;try simp only[pst0, ↓reduceIte,Nat.reduceEqDiff])
    |(refine a_cond _ (by(try simp(maxSteps:=2000000) only[undef,am0,am1,am2,am3,amb0,amb1,amb2,amb3,amb4,lwn,drn,callee,wantedB,isW,eff,pev,pst0,retPost,resAll,resP,resV,intP,mkV,putC,pbin,sbin,strsEq,peq,pint,pshift,pstr,pun,pconv,isShift,isConstB,app,subS,lay,rowsOf,lkV,keyKind,keyEq,mfind,mput,oInt,isZeroInt,forall_const,exists_eq_left',implies_true,IntKind.bits, ↓reduceIte,Nat.reduceEqDiff,Nat.reduceAdd,Nat.reduceSub,Nat.reduceMul,Nat.reduceLT,Nat.reduceLeDiff,Nat.reduceBEq,Int.reduceLE,Int.reduceLT,Int.reduceToNat,reduceCtorEq,Ty.all,b1,b2,hsz]);rfl) (fun hb=>?_) (fun hb=>?_)<;>(try simp only[hb0,decide_eq_true_eq,decide_eq_false_iff_not,reduceCtorEq]at hb)<;>(try(exfalso;omega)))
    |(with_reducible refine ite_in (fun hb=>?_) (fun hb=>?_)<;>(try simp only[Decidable.not_not]at hb)<;>(try simp only[hb,if_true,if_false,not_false_eq_true,not_true_eq_false, ↓reduceIte])<;>(try simp only[hb0,decide_eq_true_eq,decide_eq_false_iff_not,reduceCtorEq]at hb)<;>(try(exfalso;omega)))
    |(refine hK _ _ ?_;clear hK;try simp only[pst0, ↓reduceIte,Nat.reduceEqDiff])
    |(clear hK;refine hK _ _ ?_;clear hK;try simp only[pst0, ↓reduceIte,Nat.reduceEqDiff])
    |(clear hK;clear hK;refine hK _ _ ?_;clear hK;try simp only[pst0, ↓reduceIte,Nat.reduceEqDiff])
    |(clear hK;clear hK;clear hK;refine hK _ _ ?_;clear hK;try simp only[pst0, ↓reduceIte,Nat.reduceEqDiff])
    |(rw[if_pos];rotate_left 1;omega;simp(maxSteps:=2000000) only[undef,am0,am1,am2,am3,amb0,amb1,amb2,amb3,amb4,lwn,drn,callee,wantedB,isW,eff,pev,pst0,retPost,resAll,resP,resV,intP,mkV,putC,pbin,sbin,strsEq,peq,pint,pshift,pstr,pun,pconv,isShift,isConstB,app,subS,lay,rowsOf,lkV,keyKind,keyEq,mfind,mput,oInt,isZeroInt,forall_const,exists_eq_left',implies_true,IntKind.bits, ↓reduceIte,Nat.reduceEqDiff,Nat.reduceAdd,Nat.reduceSub,Nat.reduceMul,Nat.reduceLT,Nat.reduceLeDiff,Nat.reduceBEq,Int.reduceLE,Int.reduceLT,Int.reduceToNat,reduceCtorEq,Ty.all,b1,b2,hsz]))
   refine a_loop (fun m S h'=>S 4= .own h.next 0 s.data.toList.length∧S 16= .own h.next 0 s.data.toList.length∧S 17= .sc (.int .i64 s.data.toList.length)∧ ∃ k:Nat,S 18= .sc (.int .i64 k)∧k≤s.data.toList.length∧m=s.data.toList.length-k∧LowI h s.data.toList k h') s.data.toList.length ?_ ?_
   ·simp only[undef,am0,am1,am2,am3,amb0,amb1,amb2,amb3,amb4,lwn,drn,callee,wantedB,isW,eff,pev,pst0,retPost,resAll,resP,resV,intP,mkV,putC,pbin,sbin,strsEq,peq,pint,pshift,pstr,pun,pconv,isShift,isConstB,app,subS,lay,rowsOf,lkV,keyKind,keyEq,mfind,mput,oInt,isZeroInt,forall_const,exists_eq_left',implies_true,IntKind.bits, ↓reduceIte,Nat.reduceEqDiff,Nat.reduceAdd,Nat.reduceSub,Nat.reduceMul,Nat.reduceLT,Nat.reduceLeDiff,Nat.reduceBEq,Int.reduceLE,Int.reduceLT,Int.reduceToNat,reduceCtorEq]
    refine⟨0,rfl,by omega,rfl,(Grow.refl h).new _,[],rfl,?_⟩
    simp[Heap.new]
   ·rintro m S h' ⟨g4,g16,g17,k,g18,hk,rfl,hI⟩
    by_cases hlt:k<s.data.toList.length
    ·have hd:decide ((k:Int)<(s.data.toList.length:Int))=true:=by simp;omega
     have w7:IntKind.i64.wrap ((k:Int)+1)=k+1:=by rw[wrap64 (by omega) (by omega)]
     obtain⟨c,hx⟩: ∃ c,s.data.toList[k]? =some c:=⟨_,List.getElem?_eq_getElem hlt⟩
     obtain⟨p,hp,ho⟩:=hI.ex
     have hpl:=lowL_len hp
     rw[List.length_take]at hpl
     have hgr:=hI.grow
     have hlen:(bytesR (p++s.data.toList.drop k)).length=s.data.toList.length:=by rw[bytesR_len,List.length_append,List.length_drop];omega
     have hr:(bytesR (p++s.data.toList.drop k))[k]? =some [.sc (.int .u8 c.toNat)]:=by
      refine bytesR_get ?_
      rw[List.getElem?_append_right (by omega),List.getElem?_drop,show k+(k-p.length)=k by omega];exact hx
     have bad:lowB c=none→PV.tup [.sc (.string ⟨#[]⟩),.sc (.bool false)]= .tup [sPV (lowS s).1,.sc (.bool (lowS s).2)]:=fun e=>by rw[hS,lowL_none hx e]
     generalize hrows:bytesR (p++s.data.toList.drop k)=rows at ho hlen hr
     have hho:=ho
     rcases byte_cls5 c with⟨hup,hlet,a1,a3⟩|⟨hup,a1,a2⟩|⟨hup,hlet,a1,a2,a3⟩|⟨hup,hlet,a1,a2,a3,a4⟩|⟨hup,hlet,a1,a2,a3,a4⟩
     ·cases hg:digB c with
      |true=>
       have hw:wB c=true:=by simp[wB,hg]
       repeat'(first
        |refine a_seq fun K hK=>?_
        |(refine a_block ?_)
        |((first|refine a_regionS ?_|refine a_region (fun K hK=>?_)|refine a_ret ?_);simp(maxSteps:=2000000) only[undef,am0,am1,am2,am3,amb0,amb1,amb2,amb3,amb4,lwn,drn,callee,wantedB,isW,eff,pev,pst0,retPost,resAll,resP,resV,intP,mkV,putC,pbin,sbin,strsEq,peq,pint,pshift,pstr,pun,pconv,isShift,isConstB,app,subS,lay,rowsOf,lkV,keyKind,keyEq,mfind,mput,oInt,isZeroInt,forall_const,exists_eq_left',implies_true,IntKind.bits, ↓reduceIte,Nat.reduceEqDiff,Nat.reduceAdd,Nat.reduceSub,Nat.reduceMul,Nat.reduceLT,Nat.reduceLeDiff,Nat.reduceBEq,Int.reduceLE,Int.reduceLT,Int.reduceToNat,reduceCtorEq,Ty.all,g4,g16,g17,g18,hd,hho,hlen,hr,hlt,Nat.zero_add,a1,a3])
        |(refine a_skip ?_;try simp only[pst0, ↓reduceIte,Nat.reduceEqDiff])
        |(refine a_exit ?_;try simp only[pst0, ↓reduceIte,Nat.reduceEqDiff])
        |(refine a_cond _ (by(try simp(maxSteps:=2000000) only[undef,am0,am1,am2,am3,amb0,amb1,amb2,amb3,amb4,lwn,drn,callee,wantedB,isW,eff,pev,pst0,retPost,resAll,resP,resV,intP,mkV,putC,pbin,sbin,strsEq,peq,pint,pshift,pstr,pun,pconv,isShift,isConstB,app,subS,lay,rowsOf,lkV,keyKind,keyEq,mfind,mput,oInt,isZeroInt,forall_const,exists_eq_left',implies_true,IntKind.bits, ↓reduceIte,Nat.reduceEqDiff,Nat.reduceAdd,Nat.reduceSub,Nat.reduceMul,Nat.reduceLT,Nat.reduceLeDiff,Nat.reduceBEq,Int.reduceLE,Int.reduceLT,Int.reduceToNat,reduceCtorEq,Ty.all,g4,g16,g17,g18,hd,hho,hlen,hr,hlt,Nat.zero_add,a1,a3]);rfl) (fun hb=>?_) (fun hb=>?_)<;>(try simp only[hb0,decide_eq_true_eq,decide_eq_false_iff_not,reduceCtorEq]at hb)<;>(try(exfalso;omega)))
        |(with_reducible refine ite_in (fun hb=>?_) (fun hb=>?_)<;>(try simp only[Decidable.not_not]at hb)<;>(try simp only[hb,if_true,if_false,not_false_eq_true,not_true_eq_false, ↓reduceIte])<;>(try simp only[hb0,decide_eq_true_eq,decide_eq_false_iff_not,reduceCtorEq]at hb)<;>(try(exfalso;omega)))
        |(refine hK _ _ ?_;clear hK;try simp only[pst0, ↓reduceIte,Nat.reduceEqDiff])
        |(clear hK;refine hK _ _ ?_;clear hK;try simp only[pst0, ↓reduceIte,Nat.reduceEqDiff])
        |(clear hK;clear hK;refine hK _ _ ?_;clear hK;try simp only[pst0, ↓reduceIte,Nat.reduceEqDiff])
        |(clear hK;clear hK;clear hK;refine hK _ _ ?_;clear hK;try simp only[pst0, ↓reduceIte,Nat.reduceEqDiff])
        |(rw[if_pos];rotate_left 1;omega;simp(maxSteps:=2000000) only[undef,am0,am1,am2,am3,amb0,amb1,amb2,amb3,amb4,lwn,drn,callee,wantedB,isW,eff,pev,pst0,retPost,resAll,resP,resV,intP,mkV,putC,pbin,sbin,strsEq,peq,pint,pshift,pstr,pun,pconv,isShift,isConstB,app,subS,lay,rowsOf,lkV,keyKind,keyEq,mfind,mput,oInt,isZeroInt,forall_const,exists_eq_left',implies_true,IntKind.bits, ↓reduceIte,Nat.reduceEqDiff,Nat.reduceAdd,Nat.reduceSub,Nat.reduceMul,Nat.reduceLT,Nat.reduceLeDiff,Nat.reduceBEq,Int.reduceLE,Int.reduceLT,Int.reduceToNat,reduceCtorEq,Ty.all,g4,g16,g17,g18,hd,hho,hlen,hr,hlt,Nat.zero_add,a1,a3]))
       refine owp_useQ (digit_c (c:=c)) (by(try simp only[undef,am0,am1,am2,am3,amb0,amb1,amb2,amb3,amb4,lwn,drn,callee,wantedB,isW,eff,pev,pst0,retPost,resAll,resP,resV,intP,mkV,putC,pbin,sbin,strsEq,peq,pint,pshift,pstr,pun,pconv,isShift,isConstB,app,subS,lay,rowsOf,lkV,keyKind,keyEq,mfind,mput,oInt,isZeroInt,forall_const,exists_eq_left',implies_true,IntKind.bits, ↓reduceIte,Nat.reduceEqDiff,Nat.reduceAdd,Nat.reduceSub,Nat.reduceMul,Nat.reduceLT,Nat.reduceLeDiff,Nat.reduceBEq,Int.reduceLE,Int.reduceLT,Int.reduceToNat,reduceCtorEq,g4,g16,g17,g18,hd,hho,hlen,hr,hlt,Nat.zero_add,a1,a3,hg]);try rfl) ?_
       simp(maxSteps:=2000000) only[undef,am0,am1,am2,am3,amb0,amb1,amb2,amb3,amb4,lwn,drn,callee,wantedB,isW,eff,pev,pst0,retPost,resAll,resP,resV,intP,mkV,putC,pbin,sbin,strsEq,peq,pint,pshift,pstr,pun,pconv,isShift,isConstB,app,subS,lay,rowsOf,lkV,keyKind,keyEq,mfind,mput,oInt,isZeroInt,forall_const,exists_eq_left',implies_true,IntKind.bits, ↓reduceIte,Nat.reduceEqDiff,Nat.reduceAdd,Nat.reduceSub,Nat.reduceMul,Nat.reduceLT,Nat.reduceLeDiff,Nat.reduceBEq,Int.reduceLE,Int.reduceLT,Int.reduceToNat,reduceCtorEq,Ty.all,g4,g16,g17,g18,hd,hho,hlen,hr,hlt,Nat.zero_add,a1,a3,hg]
       repeat'(first
        |refine a_seq fun K hK=>?_
        |(refine a_block ?_)
        |((first|refine a_regionS ?_|refine a_region (fun K hK=>?_)|refine a_ret ?_);simp(maxSteps:=2000000) only[undef,am0,am1,am2,am3,amb0,amb1,amb2,amb3,amb4,lwn,drn,callee,wantedB,isW,eff,pev,pst0,retPost,resAll,resP,resV,intP,mkV,putC,pbin,sbin,strsEq,peq,pint,pshift,pstr,pun,pconv,isShift,isConstB,app,subS,lay,rowsOf,lkV,keyKind,keyEq,mfind,mput,oInt,isZeroInt,forall_const,exists_eq_left',implies_true,IntKind.bits, ↓reduceIte,Nat.reduceEqDiff,Nat.reduceAdd,Nat.reduceSub,Nat.reduceMul,Nat.reduceLT,Nat.reduceLeDiff,Nat.reduceBEq,Int.reduceLE,Int.reduceLT,Int.reduceToNat,reduceCtorEq,Ty.all,g4,g16,g17,g18,hd,hho,hlen,hr,hlt,Nat.zero_add,a1,a3,hg,w7])
        |(refine a_skip ?_;try simp only[pst0, ↓reduceIte,Nat.reduceEqDiff])
        |(refine a_exit ?_;try simp only[pst0, ↓reduceIte,Nat.reduceEqDiff])
        |(refine a_cond _ (by(try simp(maxSteps:=2000000) only[undef,am0,am1,am2,am3,amb0,amb1,amb2,amb3,amb4,lwn,drn,callee,wantedB,isW,eff,pev,pst0,retPost,resAll,resP,resV,intP,mkV,putC,pbin,sbin,strsEq,peq,pint,pshift,pstr,pun,pconv,isShift,isConstB,app,subS,lay,rowsOf,lkV,keyKind,keyEq,mfind,mput,oInt,isZeroInt,forall_const,exists_eq_left',implies_true,IntKind.bits, ↓reduceIte,Nat.reduceEqDiff,Nat.reduceAdd,Nat.reduceSub,Nat.reduceMul,Nat.reduceLT,Nat.reduceLeDiff,Nat.reduceBEq,Int.reduceLE,Int.reduceLT,Int.reduceToNat,reduceCtorEq,Ty.all,g4,g16,g17,g18,hd,hho,hlen,hr,hlt,Nat.zero_add,a1,a3,hg,w7]);rfl) (fun hb=>?_) (fun hb=>?_)<;>(try simp only[hb0,decide_eq_true_eq,decide_eq_false_iff_not,reduceCtorEq]at hb)<;>(try(exfalso;omega)))
        |(with_reducible refine ite_in (fun hb=>?_) (fun hb=>?_)<;>(try simp only[Decidable.not_not]at hb)<;>(try simp only[hb,if_true,if_false,not_false_eq_true,not_true_eq_false, ↓reduceIte])<;>(try simp only[hb0,decide_eq_true_eq,decide_eq_false_iff_not,reduceCtorEq]at hb)<;>(try(exfalso;omega)))
        |(refine hK _ _ ?_;clear hK;try simp only[pst0, ↓reduceIte,Nat.reduceEqDiff])
        |(clear hK;refine hK _ _ ?_;clear hK;try simp only[pst0, ↓reduceIte,Nat.reduceEqDiff])
        |(clear hK;clear hK;refine hK _ _ ?_;clear hK;try simp only[pst0, ↓reduceIte,Nat.reduceEqDiff])
        |(clear hK;clear hK;clear hK;refine hK _ _ ?_;clear hK;try simp only[pst0, ↓reduceIte,Nat.reduceEqDiff])
        |(rw[if_pos];rotate_left 1;omega;simp(maxSteps:=2000000) only[undef,am0,am1,am2,am3,amb0,amb1,amb2,amb3,amb4,lwn,drn,callee,wantedB,isW,eff,pev,pst0,retPost,resAll,resP,resV,intP,mkV,putC,pbin,sbin,strsEq,peq,pint,pshift,pstr,pun,pconv,isShift,isConstB,app,subS,lay,rowsOf,lkV,keyKind,keyEq,mfind,mput,oInt,isZeroInt,forall_const,exists_eq_left',implies_true,IntKind.bits, ↓reduceIte,Nat.reduceEqDiff,Nat.reduceAdd,Nat.reduceSub,Nat.reduceMul,Nat.reduceLT,Nat.reduceLeDiff,Nat.reduceBEq,Int.reduceLE,Int.reduceLT,Int.reduceToNat,reduceCtorEq,Ty.all,g4,g16,g17,g18,hd,hho,hlen,hr,hlt,Nat.zero_add,a1,a3,hg,w7]))
       exact⟨s.data.toList.length-(k+1),by omega,k+1,by simp,by omega,rfl,hI.keep hx (by simp[lowB,hup,hw])⟩
      |false=>
       cases hs2:signs.contains c with
       |true=>
        have hw:wB c=true:=by simp only[wB,hs2,Bool.or_true]
        have hfi:decide (firstIdx ⟨#[45,95,63,58,60,62,61,43,42]⟩ c≥0)=true:=by rw[firstIdx_ge];exact hs2
        repeat'(first
         |refine a_seq fun K hK=>?_
         |(refine a_block ?_)
         |((first|refine a_regionS ?_|refine a_region (fun K hK=>?_)|refine a_ret ?_);simp(maxSteps:=2000000) only[undef,am0,am1,am2,am3,amb0,amb1,amb2,amb3,amb4,lwn,drn,callee,wantedB,isW,eff,pev,pst0,retPost,resAll,resP,resV,intP,mkV,putC,pbin,sbin,strsEq,peq,pint,pshift,pstr,pun,pconv,isShift,isConstB,app,subS,lay,rowsOf,lkV,keyKind,keyEq,mfind,mput,oInt,isZeroInt,forall_const,exists_eq_left',implies_true,IntKind.bits, ↓reduceIte,Nat.reduceEqDiff,Nat.reduceAdd,Nat.reduceSub,Nat.reduceMul,Nat.reduceLT,Nat.reduceLeDiff,Nat.reduceBEq,Int.reduceLE,Int.reduceLT,Int.reduceToNat,reduceCtorEq,Ty.all,g4,g16,g17,g18,hd,hho,hlen,hr,hlt,Nat.zero_add,a1,a3])
         |(refine a_skip ?_;try simp only[pst0, ↓reduceIte,Nat.reduceEqDiff])
         |(refine a_exit ?_;try simp only[pst0, ↓reduceIte,Nat.reduceEqDiff])
         |(refine a_cond _ (by(try simp(maxSteps:=2000000) only[undef,am0,am1,am2,am3,amb0,amb1,amb2,amb3,amb4,lwn,drn,callee,wantedB,isW,eff,pev,pst0,retPost,resAll,resP,resV,intP,mkV,putC,pbin,sbin,strsEq,peq,pint,pshift,pstr,pun,pconv,isShift,isConstB,app,subS,lay,rowsOf,lkV,keyKind,keyEq,mfind,mput,oInt,isZeroInt,forall_const,exists_eq_left',implies_true,IntKind.bits, ↓reduceIte,Nat.reduceEqDiff,Nat.reduceAdd,Nat.reduceSub,Nat.reduceMul,Nat.reduceLT,Nat.reduceLeDiff,Nat.reduceBEq,Int.reduceLE,Int.reduceLT,Int.reduceToNat,reduceCtorEq,Ty.all,g4,g16,g17,g18,hd,hho,hlen,hr,hlt,Nat.zero_add,a1,a3]);rfl) (fun hb=>?_) (fun hb=>?_)<;>(try simp only[hb0,decide_eq_true_eq,decide_eq_false_iff_not,reduceCtorEq]at hb)<;>(try(exfalso;omega)))
         |(with_reducible refine ite_in (fun hb=>?_) (fun hb=>?_)<;>(try simp only[Decidable.not_not]at hb)<;>(try simp only[hb,if_true,if_false,not_false_eq_true,not_true_eq_false, ↓reduceIte])<;>(try simp only[hb0,decide_eq_true_eq,decide_eq_false_iff_not,reduceCtorEq]at hb)<;>(try(exfalso;omega)))
         |(refine hK _ _ ?_;clear hK;try simp only[pst0, ↓reduceIte,Nat.reduceEqDiff])
         |(clear hK;refine hK _ _ ?_;clear hK;try simp only[pst0, ↓reduceIte,Nat.reduceEqDiff])
         |(clear hK;clear hK;refine hK _ _ ?_;clear hK;try simp only[pst0, ↓reduceIte,Nat.reduceEqDiff])
         |(clear hK;clear hK;clear hK;refine hK _ _ ?_;clear hK;try simp only[pst0, ↓reduceIte,Nat.reduceEqDiff])
         |(rw[if_pos];rotate_left 1;omega;simp(maxSteps:=2000000) only[undef,am0,am1,am2,am3,amb0,amb1,amb2,amb3,amb4,lwn,drn,callee,wantedB,isW,eff,pev,pst0,retPost,resAll,resP,resV,intP,mkV,putC,pbin,sbin,strsEq,peq,pint,pshift,pstr,pun,pconv,isShift,isConstB,app,subS,lay,rowsOf,lkV,keyKind,keyEq,mfind,mput,oInt,isZeroInt,forall_const,exists_eq_left',implies_true,IntKind.bits, ↓reduceIte,Nat.reduceEqDiff,Nat.reduceAdd,Nat.reduceSub,Nat.reduceMul,Nat.reduceLT,Nat.reduceLeDiff,Nat.reduceBEq,Int.reduceLE,Int.reduceLT,Int.reduceToNat,reduceCtorEq,Ty.all,g4,g16,g17,g18,hd,hho,hlen,hr,hlt,Nat.zero_add,a1,a3]))
        refine owp_useQ (digit_c (c:=c)) (by(try simp only[undef,am0,am1,am2,am3,amb0,amb1,amb2,amb3,amb4,lwn,drn,callee,wantedB,isW,eff,pev,pst0,retPost,resAll,resP,resV,intP,mkV,putC,pbin,sbin,strsEq,peq,pint,pshift,pstr,pun,pconv,isShift,isConstB,app,subS,lay,rowsOf,lkV,keyKind,keyEq,mfind,mput,oInt,isZeroInt,forall_const,exists_eq_left',implies_true,IntKind.bits, ↓reduceIte,Nat.reduceEqDiff,Nat.reduceAdd,Nat.reduceSub,Nat.reduceMul,Nat.reduceLT,Nat.reduceLeDiff,Nat.reduceBEq,Int.reduceLE,Int.reduceLT,Int.reduceToNat,reduceCtorEq,g4,g16,g17,g18,hd,hho,hlen,hr,hlt,Nat.zero_add,a1,a3,hg]);try rfl) ?_
        simp(maxSteps:=2000000) only[undef,am0,am1,am2,am3,amb0,amb1,amb2,amb3,amb4,lwn,drn,callee,wantedB,isW,eff,pev,pst0,retPost,resAll,resP,resV,intP,mkV,putC,pbin,sbin,strsEq,peq,pint,pshift,pstr,pun,pconv,isShift,isConstB,app,subS,lay,rowsOf,lkV,keyKind,keyEq,mfind,mput,oInt,isZeroInt,forall_const,exists_eq_left',implies_true,IntKind.bits, ↓reduceIte,Nat.reduceEqDiff,Nat.reduceAdd,Nat.reduceSub,Nat.reduceMul,Nat.reduceLT,Nat.reduceLeDiff,Nat.reduceBEq,Int.reduceLE,Int.reduceLT,Int.reduceToNat,reduceCtorEq,Ty.all,g4,g16,g17,g18,hd,hho,hlen,hr,hlt,Nat.zero_add,a1,a3,hg]
        repeat'(first
         |refine a_seq fun K hK=>?_
         |(refine a_block ?_)
         |((first|refine a_regionS ?_|refine a_region (fun K hK=>?_)|refine a_ret ?_);simp(maxSteps:=2000000) only[undef,am0,am1,am2,am3,amb0,amb1,amb2,amb3,amb4,lwn,drn,callee,wantedB,isW,eff,pev,pst0,retPost,resAll,resP,resV,intP,mkV,putC,pbin,sbin,strsEq,peq,pint,pshift,pstr,pun,pconv,isShift,isConstB,app,subS,lay,rowsOf,lkV,keyKind,keyEq,mfind,mput,oInt,isZeroInt,forall_const,exists_eq_left',implies_true,IntKind.bits, ↓reduceIte,Nat.reduceEqDiff,Nat.reduceAdd,Nat.reduceSub,Nat.reduceMul,Nat.reduceLT,Nat.reduceLeDiff,Nat.reduceBEq,Int.reduceLE,Int.reduceLT,Int.reduceToNat,reduceCtorEq,Ty.all,g4,g16,g17,g18,hd,hho,hlen,hr,hlt,Nat.zero_add,a1,a3,hg])
         |(refine a_skip ?_;try simp only[pst0, ↓reduceIte,Nat.reduceEqDiff])
         |(refine a_exit ?_;try simp only[pst0, ↓reduceIte,Nat.reduceEqDiff])
         |(refine a_cond _ (by(try simp(maxSteps:=2000000) only[undef,am0,am1,am2,am3,amb0,amb1,amb2,amb3,amb4,lwn,drn,callee,wantedB,isW,eff,pev,pst0,retPost,resAll,resP,resV,intP,mkV,putC,pbin,sbin,strsEq,peq,pint,pshift,pstr,pun,pconv,isShift,isConstB,app,subS,lay,rowsOf,lkV,keyKind,keyEq,mfind,mput,oInt,isZeroInt,forall_const,exists_eq_left',implies_true,IntKind.bits, ↓reduceIte,Nat.reduceEqDiff,Nat.reduceAdd,Nat.reduceSub,Nat.reduceMul,Nat.reduceLT,Nat.reduceLeDiff,Nat.reduceBEq,Int.reduceLE,Int.reduceLT,Int.reduceToNat,reduceCtorEq,Ty.all,g4,g16,g17,g18,hd,hho,hlen,hr,hlt,Nat.zero_add,a1,a3,hg]);rfl) (fun hb=>?_) (fun hb=>?_)<;>(try simp only[hb0,decide_eq_true_eq,decide_eq_false_iff_not,reduceCtorEq]at hb)<;>(try(exfalso;omega)))
         |(with_reducible refine ite_in (fun hb=>?_) (fun hb=>?_)<;>(try simp only[Decidable.not_not]at hb)<;>(try simp only[hb,if_true,if_false,not_false_eq_true,not_true_eq_false, ↓reduceIte])<;>(try simp only[hb0,decide_eq_true_eq,decide_eq_false_iff_not,reduceCtorEq]at hb)<;>(try(exfalso;omega)))
         |(refine hK _ _ ?_;clear hK;try simp only[pst0, ↓reduceIte,Nat.reduceEqDiff])
         |(clear hK;refine hK _ _ ?_;clear hK;try simp only[pst0, ↓reduceIte,Nat.reduceEqDiff])
         |(clear hK;clear hK;refine hK _ _ ?_;clear hK;try simp only[pst0, ↓reduceIte,Nat.reduceEqDiff])
         |(clear hK;clear hK;clear hK;refine hK _ _ ?_;clear hK;try simp only[pst0, ↓reduceIte,Nat.reduceEqDiff])
         |(rw[if_pos];rotate_left 1;omega;simp(maxSteps:=2000000) only[undef,am0,am1,am2,am3,amb0,amb1,amb2,amb3,amb4,lwn,drn,callee,wantedB,isW,eff,pev,pst0,retPost,resAll,resP,resV,intP,mkV,putC,pbin,sbin,strsEq,peq,pint,pshift,pstr,pun,pconv,isShift,isConstB,app,subS,lay,rowsOf,lkV,keyKind,keyEq,mfind,mput,oInt,isZeroInt,forall_const,exists_eq_left',implies_true,IntKind.bits, ↓reduceIte,Nat.reduceEqDiff,Nat.reduceAdd,Nat.reduceSub,Nat.reduceMul,Nat.reduceLT,Nat.reduceLeDiff,Nat.reduceBEq,Int.reduceLE,Int.reduceLT,Int.reduceToNat,reduceCtorEq,Ty.all,g4,g16,g17,g18,hd,hho,hlen,hr,hlt,Nat.zero_add,a1,a3,hg]))
        refine owp_useQ (indexByte_c (s:=⟨#[45,95,63,58,60,62,61,43,42]⟩) (c:=c)) (by(try simp only[undef,am0,am1,am2,am3,amb0,amb1,amb2,amb3,amb4,lwn,drn,callee,wantedB,isW,eff,pev,pst0,retPost,resAll,resP,resV,intP,mkV,putC,pbin,sbin,strsEq,peq,pint,pshift,pstr,pun,pconv,isShift,isConstB,app,subS,lay,rowsOf,lkV,keyKind,keyEq,mfind,mput,oInt,isZeroInt,forall_const,exists_eq_left',implies_true,IntKind.bits, ↓reduceIte,Nat.reduceEqDiff,Nat.reduceAdd,Nat.reduceSub,Nat.reduceMul,Nat.reduceLT,Nat.reduceLeDiff,Nat.reduceBEq,Int.reduceLE,Int.reduceLT,Int.reduceToNat,reduceCtorEq,g4,g16,g17,g18,hd,hho,hlen,hr,hlt,Nat.zero_add,a1,a3,hg,hfi]);try rfl) ?_
        simp(maxSteps:=2000000) only[undef,am0,am1,am2,am3,amb0,amb1,amb2,amb3,amb4,lwn,drn,callee,wantedB,isW,eff,pev,pst0,retPost,resAll,resP,resV,intP,mkV,putC,pbin,sbin,strsEq,peq,pint,pshift,pstr,pun,pconv,isShift,isConstB,app,subS,lay,rowsOf,lkV,keyKind,keyEq,mfind,mput,oInt,isZeroInt,forall_const,exists_eq_left',implies_true,IntKind.bits, ↓reduceIte,Nat.reduceEqDiff,Nat.reduceAdd,Nat.reduceSub,Nat.reduceMul,Nat.reduceLT,Nat.reduceLeDiff,Nat.reduceBEq,Int.reduceLE,Int.reduceLT,Int.reduceToNat,reduceCtorEq,Ty.all,g4,g16,g17,g18,hd,hho,hlen,hr,hlt,Nat.zero_add,a1,a3,hg,hfi]
        repeat'(first
         |refine a_seq fun K hK=>?_
         |(refine a_block ?_)
         |((first|refine a_regionS ?_|refine a_region (fun K hK=>?_)|refine a_ret ?_);simp(maxSteps:=2000000) only[undef,am0,am1,am2,am3,amb0,amb1,amb2,amb3,amb4,lwn,drn,callee,wantedB,isW,eff,pev,pst0,retPost,resAll,resP,resV,intP,mkV,putC,pbin,sbin,strsEq,peq,pint,pshift,pstr,pun,pconv,isShift,isConstB,app,subS,lay,rowsOf,lkV,keyKind,keyEq,mfind,mput,oInt,isZeroInt,forall_const,exists_eq_left',implies_true,IntKind.bits, ↓reduceIte,Nat.reduceEqDiff,Nat.reduceAdd,Nat.reduceSub,Nat.reduceMul,Nat.reduceLT,Nat.reduceLeDiff,Nat.reduceBEq,Int.reduceLE,Int.reduceLT,Int.reduceToNat,reduceCtorEq,Ty.all,g4,g16,g17,g18,hd,hho,hlen,hr,hlt,Nat.zero_add,a1,a3,hg,hfi,w7])
         |(refine a_skip ?_;try simp only[pst0, ↓reduceIte,Nat.reduceEqDiff])
         |(refine a_exit ?_;try simp only[pst0, ↓reduceIte,Nat.reduceEqDiff])
         |(refine a_cond _ (by(try simp(maxSteps:=2000000) only[undef,am0,am1,am2,am3,amb0,amb1,amb2,amb3,amb4,lwn,drn,callee,wantedB,isW,eff,pev,pst0,retPost,resAll,resP,resV,intP,mkV,putC,pbin,sbin,strsEq,peq,pint,pshift,pstr,pun,pconv,isShift,isConstB,app,subS,lay,rowsOf,lkV,keyKind,keyEq,mfind,mput,oInt,isZeroInt,forall_const,exists_eq_left',implies_true,IntKind.bits, ↓reduceIte,Nat.reduceEqDiff,Nat.reduceAdd,Nat.reduceSub,Nat.reduceMul,Nat.reduceLT,Nat.reduceLeDiff,Nat.reduceBEq,Int.reduceLE,Int.reduceLT,Int.reduceToNat,reduceCtorEq,Ty.all,g4,g16,g17,g18,hd,hho,hlen,hr,hlt,Nat.zero_add,a1,a3,hg,hfi,w7]);rfl) (fun hb=>?_) (fun hb=>?_)<;>(try simp only[hb0,decide_eq_true_eq,decide_eq_false_iff_not,reduceCtorEq]at hb)<;>(try(exfalso;omega)))
         |(with_reducible refine ite_in (fun hb=>?_) (fun hb=>?_)<;>(try simp only[Decidable.not_not]at hb)<;>(try simp only[hb,if_true,if_false,not_false_eq_true,not_true_eq_false, ↓reduceIte])<;>(try simp only[hb0,decide_eq_true_eq,decide_eq_false_iff_not,reduceCtorEq]at hb)<;>(try(exfalso;omega)))
         |(refine hK _ _ ?_;clear hK;try simp only[pst0, ↓reduceIte,Nat.reduceEqDiff])
         |(clear hK;refine hK _ _ ?_;clear hK;try simp only[pst0, ↓reduceIte,Nat.reduceEqDiff])
         |(clear hK;clear hK;refine hK _ _ ?_;clear hK;try simp only[pst0, ↓reduceIte,Nat.reduceEqDiff])
         |(clear hK;clear hK;clear hK;refine hK _ _ ?_;clear hK;try simp only[pst0, ↓reduceIte,Nat.reduceEqDiff])
         |(rw[if_pos];rotate_left 1;omega;simp(maxSteps:=2000000) only[undef,am0,am1,am2,am3,amb0,amb1,amb2,amb3,amb4,lwn,drn,callee,wantedB,isW,eff,pev,pst0,retPost,resAll,resP,resV,intP,mkV,putC,pbin,sbin,strsEq,peq,pint,pshift,pstr,pun,pconv,isShift,isConstB,app,subS,lay,rowsOf,lkV,keyKind,keyEq,mfind,mput,oInt,isZeroInt,forall_const,exists_eq_left',implies_true,IntKind.bits, ↓reduceIte,Nat.reduceEqDiff,Nat.reduceAdd,Nat.reduceSub,Nat.reduceMul,Nat.reduceLT,Nat.reduceLeDiff,Nat.reduceBEq,Int.reduceLE,Int.reduceLT,Int.reduceToNat,reduceCtorEq,Ty.all,g4,g16,g17,g18,hd,hho,hlen,hr,hlt,Nat.zero_add,a1,a3,hg,hfi,w7]))
        exact⟨s.data.toList.length-(k+1),by omega,k+1,by simp,by omega,rfl,hI.keep hx (by simp[lowB,hup,hw])⟩
       |false=>
        have hw:wB c=false:=by simp only[wB,hs2,hg,hlet,Bool.or_false]
        have hfi:decide (firstIdx ⟨#[45,95,63,58,60,62,61,43,42]⟩ c≥0)=false:=by rw[firstIdx_ge];exact hs2
        repeat'(first
         |refine a_seq fun K hK=>?_
         |(refine a_block ?_)
         |((first|refine a_regionS ?_|refine a_region (fun K hK=>?_)|refine a_ret ?_);simp(maxSteps:=2000000) only[undef,am0,am1,am2,am3,amb0,amb1,amb2,amb3,amb4,lwn,drn,callee,wantedB,isW,eff,pev,pst0,retPost,resAll,resP,resV,intP,mkV,putC,pbin,sbin,strsEq,peq,pint,pshift,pstr,pun,pconv,isShift,isConstB,app,subS,lay,rowsOf,lkV,keyKind,keyEq,mfind,mput,oInt,isZeroInt,forall_const,exists_eq_left',implies_true,IntKind.bits, ↓reduceIte,Nat.reduceEqDiff,Nat.reduceAdd,Nat.reduceSub,Nat.reduceMul,Nat.reduceLT,Nat.reduceLeDiff,Nat.reduceBEq,Int.reduceLE,Int.reduceLT,Int.reduceToNat,reduceCtorEq,Ty.all,g4,g16,g17,g18,hd,hho,hlen,hr,hlt,Nat.zero_add,a1,a3])
         |(refine a_skip ?_;try simp only[pst0, ↓reduceIte,Nat.reduceEqDiff])
         |(refine a_exit ?_;try simp only[pst0, ↓reduceIte,Nat.reduceEqDiff])
         |(refine a_cond _ (by(try simp(maxSteps:=2000000) only[undef,am0,am1,am2,am3,amb0,amb1,amb2,amb3,amb4,lwn,drn,callee,wantedB,isW,eff,pev,pst0,retPost,resAll,resP,resV,intP,mkV,putC,pbin,sbin,strsEq,peq,pint,pshift,pstr,pun,pconv,isShift,isConstB,app,subS,lay,rowsOf,lkV,keyKind,keyEq,mfind,mput,oInt,isZeroInt,forall_const,exists_eq_left',implies_true,IntKind.bits, ↓reduceIte,Nat.reduceEqDiff,Nat.reduceAdd,Nat.reduceSub,Nat.reduceMul,Nat.reduceLT,Nat.reduceLeDiff,Nat.reduceBEq,Int.reduceLE,Int.reduceLT,Int.reduceToNat,reduceCtorEq,Ty.all,g4,g16,g17,g18,hd,hho,hlen,hr,hlt,Nat.zero_add,a1,a3]);rfl) (fun hb=>?_) (fun hb=>?_)<;>(try simp only[hb0,decide_eq_true_eq,decide_eq_false_iff_not,reduceCtorEq]at hb)<;>(try(exfalso;omega)))
         |(with_reducible refine ite_in (fun hb=>?_) (fun hb=>?_)<;>(try simp only[Decidable.not_not]at hb)<;>(try simp only[hb,if_true,if_false,not_false_eq_true,not_true_eq_false, ↓reduceIte])<;>(try simp only[hb0,decide_eq_true_eq,decide_eq_false_iff_not,reduceCtorEq]at hb)<;>(try(exfalso;omega)))
         |(refine hK _ _ ?_;clear hK;try simp only[pst0, ↓reduceIte,Nat.reduceEqDiff])
         |(clear hK;refine hK _ _ ?_;clear hK;try simp only[pst0, ↓reduceIte,Nat.reduceEqDiff])
         |(clear hK;clear hK;refine hK _ _ ?_;clear hK;try simp only[pst0, ↓reduceIte,Nat.reduceEqDiff])
         |(clear hK;clear hK;clear hK;refine hK _ _ ?_;clear hK;try simp only[pst0, ↓reduceIte,Nat.reduceEqDiff])
         |(rw[if_pos];rotate_left 1;omega;simp(maxSteps:=2000000) only[undef,am0,am1,am2,am3,amb0,amb1,amb2,amb3,amb4,lwn,drn,callee,wantedB,isW,eff,pev,pst0,retPost,resAll,resP,resV,intP,mkV,putC,pbin,sbin,strsEq,peq,pint,pshift,pstr,pun,pconv,isShift,isConstB,app,subS,lay,rowsOf,lkV,keyKind,keyEq,mfind,mput,oInt,isZeroInt,forall_const,exists_eq_left',implies_true,IntKind.bits, ↓reduceIte,Nat.reduceEqDiff,Nat.reduceAdd,Nat.reduceSub,Nat.reduceMul,Nat.reduceLT,Nat.reduceLeDiff,Nat.reduceBEq,Int.reduceLE,Int.reduceLT,Int.reduceToNat,reduceCtorEq,Ty.all,g4,g16,g17,g18,hd,hho,hlen,hr,hlt,Nat.zero_add,a1,a3]))
        refine owp_useQ (digit_c (c:=c)) (by(try simp only[undef,am0,am1,am2,am3,amb0,amb1,amb2,amb3,amb4,lwn,drn,callee,wantedB,isW,eff,pev,pst0,retPost,resAll,resP,resV,intP,mkV,putC,pbin,sbin,strsEq,peq,pint,pshift,pstr,pun,pconv,isShift,isConstB,app,subS,lay,rowsOf,lkV,keyKind,keyEq,mfind,mput,oInt,isZeroInt,forall_const,exists_eq_left',implies_true,IntKind.bits, ↓reduceIte,Nat.reduceEqDiff,Nat.reduceAdd,Nat.reduceSub,Nat.reduceMul,Nat.reduceLT,Nat.reduceLeDiff,Nat.reduceBEq,Int.reduceLE,Int.reduceLT,Int.reduceToNat,reduceCtorEq,g4,g16,g17,g18,hd,hho,hlen,hr,hlt,Nat.zero_add,a1,a3,hg]);try rfl) ?_
        simp(maxSteps:=2000000) only[undef,am0,am1,am2,am3,amb0,amb1,amb2,amb3,amb4,lwn,drn,callee,wantedB,isW,eff,pev,pst0,retPost,resAll,resP,resV,intP,mkV,putC,pbin,sbin,strsEq,peq,pint,pshift,pstr,pun,pconv,isShift,isConstB,app,subS,lay,rowsOf,lkV,keyKind,keyEq,mfind,mput,oInt,isZeroInt,forall_const,exists_eq_left',implies_true,IntKind.bits, ↓reduceIte,Nat.reduceEqDiff,Nat.reduceAdd,Nat.reduceSub,Nat.reduceMul,Nat.reduceLT,Nat.reduceLeDiff,Nat.reduceBEq,Int.reduceLE,Int.reduceLT,Int.reduceToNat,reduceCtorEq,Ty.all,g4,g16,g17,g18,hd,hho,hlen,hr,hlt,Nat.zero_add,a1,a3,hg]
        repeat'(first
         |refine a_seq fun K hK=>?_
         |(refine a_block ?_)
         |((first|refine a_regionS ?_|refine a_region (fun K hK=>?_)|refine a_ret ?_);simp(maxSteps:=2000000) only[undef,am0,am1,am2,am3,amb0,amb1,amb2,amb3,amb4,lwn,drn,callee,wantedB,isW,eff,pev,pst0,retPost,resAll,resP,resV,intP,mkV,putC,pbin,sbin,strsEq,peq,pint,pshift,pstr,pun,pconv,isShift,isConstB,app,subS,lay,rowsOf,lkV,keyKind,keyEq,mfind,mput,oInt,isZeroInt,forall_const,exists_eq_left',implies_true,IntKind.bits, ↓reduceIte,Nat.reduceEqDiff,Nat.reduceAdd,Nat.reduceSub,Nat.reduceMul,Nat.reduceLT,Nat.reduceLeDiff,Nat.reduceBEq,Int.reduceLE,Int.reduceLT,Int.reduceToNat,reduceCtorEq,Ty.all,g4,g16,g17,g18,hd,hho,hlen,hr,hlt,Nat.zero_add,a1,a3,hg])
         |(refine a_skip ?_;try simp only[pst0, ↓reduceIte,Nat.reduceEqDiff])
         |(refine a_exit ?_;try simp only[pst0, ↓reduceIte,Nat.reduceEqDiff])
         |(refine a_cond _ (by(try simp(maxSteps:=2000000) only[undef,am0,am1,am2,am3,amb0,amb1,amb2,amb3,amb4,lwn,drn,callee,wantedB,isW,eff,pev,pst0,retPost,resAll,resP,resV,intP,mkV,putC,pbin,sbin,strsEq,peq,pint,pshift,pstr,pun,pconv,isShift,isConstB,app,subS,lay,rowsOf,lkV,keyKind,keyEq,mfind,mput,oInt,isZeroInt,forall_const,exists_eq_left',implies_true,IntKind.bits, ↓reduceIte,Nat.reduceEqDiff,Nat.reduceAdd,Nat.reduceSub,Nat.reduceMul,Nat.reduceLT,Nat.reduceLeDiff,Nat.reduceBEq,Int.reduceLE,Int.reduceLT,Int.reduceToNat,reduceCtorEq,Ty.all,g4,g16,g17,g18,hd,hho,hlen,hr,hlt,Nat.zero_add,a1,a3,hg]);rfl) (fun hb=>?_) (fun hb=>?_)<;>(try simp only[hb0,decide_eq_true_eq,decide_eq_false_iff_not,reduceCtorEq]at hb)<;>(try(exfalso;omega)))
         |(with_reducible refine ite_in (fun hb=>?_) (fun hb=>?_)<;>(try simp only[Decidable.not_not]at hb)<;>(try simp only[hb,if_true,if_false,not_false_eq_true,not_true_eq_false, ↓reduceIte])<;>(try simp only[hb0,decide_eq_true_eq,decide_eq_false_iff_not,reduceCtorEq]at hb)<;>(try(exfalso;omega)))
         |(refine hK _ _ ?_;clear hK;try simp only[pst0, ↓reduceIte,Nat.reduceEqDiff])
         |(clear hK;refine hK _ _ ?_;clear hK;try simp only[pst0, ↓reduceIte,Nat.reduceEqDiff])
         |(clear hK;clear hK;refine hK _ _ ?_;clear hK;try simp only[pst0, ↓reduceIte,Nat.reduceEqDiff])
         |(clear hK;clear hK;clear hK;refine hK _ _ ?_;clear hK;try simp only[pst0, ↓reduceIte,Nat.reduceEqDiff])
         |(rw[if_pos];rotate_left 1;omega;simp(maxSteps:=2000000) only[undef,am0,am1,am2,am3,amb0,amb1,amb2,amb3,amb4,lwn,drn,callee,wantedB,isW,eff,pev,pst0,retPost,resAll,resP,resV,intP,mkV,putC,pbin,sbin,strsEq,peq,pint,pshift,pstr,pun,pconv,isShift,isConstB,app,subS,lay,rowsOf,lkV,keyKind,keyEq,mfind,mput,oInt,isZeroInt,forall_const,exists_eq_left',implies_true,IntKind.bits, ↓reduceIte,Nat.reduceEqDiff,Nat.reduceAdd,Nat.reduceSub,Nat.reduceMul,Nat.reduceLT,Nat.reduceLeDiff,Nat.reduceBEq,Int.reduceLE,Int.reduceLT,Int.reduceToNat,reduceCtorEq,Ty.all,g4,g16,g17,g18,hd,hho,hlen,hr,hlt,Nat.zero_add,a1,a3,hg]))
        refine owp_useQ (indexByte_c (s:=⟨#[45,95,63,58,60,62,61,43,42]⟩) (c:=c)) (by(try simp only[undef,am0,am1,am2,am3,amb0,amb1,amb2,amb3,amb4,lwn,drn,callee,wantedB,isW,eff,pev,pst0,retPost,resAll,resP,resV,intP,mkV,putC,pbin,sbin,strsEq,peq,pint,pshift,pstr,pun,pconv,isShift,isConstB,app,subS,lay,rowsOf,lkV,keyKind,keyEq,mfind,mput,oInt,isZeroInt,forall_const,exists_eq_left',implies_true,IntKind.bits, ↓reduceIte,Nat.reduceEqDiff,Nat.reduceAdd,Nat.reduceSub,Nat.reduceMul,Nat.reduceLT,Nat.reduceLeDiff,Nat.reduceBEq,Int.reduceLE,Int.reduceLT,Int.reduceToNat,reduceCtorEq,g4,g16,g17,g18,hd,hho,hlen,hr,hlt,Nat.zero_add,a1,a3,hg,hfi]);try rfl) ?_
        simp(maxSteps:=2000000) only[undef,am0,am1,am2,am3,amb0,amb1,amb2,amb3,amb4,lwn,drn,callee,wantedB,isW,eff,pev,pst0,retPost,resAll,resP,resV,intP,mkV,putC,pbin,sbin,strsEq,peq,pint,pshift,pstr,pun,pconv,isShift,isConstB,app,subS,lay,rowsOf,lkV,keyKind,keyEq,mfind,mput,oInt,isZeroInt,forall_const,exists_eq_left',implies_true,IntKind.bits, ↓reduceIte,Nat.reduceEqDiff,Nat.reduceAdd,Nat.reduceSub,Nat.reduceMul,Nat.reduceLT,Nat.reduceLeDiff,Nat.reduceBEq,Int.reduceLE,Int.reduceLT,Int.reduceToNat,reduceCtorEq,Ty.all,g4,g16,g17,g18,hd,hho,hlen,hr,hlt,Nat.zero_add,a1,a3,hg,hfi]
        repeat'(first
         |refine a_seq fun K hK=>?_
         |(refine a_block ?_)
         |((first|refine a_regionS ?_|refine a_region (fun K hK=>?_)|refine a_ret ?_);simp(maxSteps:=2000000) only[undef,am0,am1,am2,am3,amb0,amb1,amb2,amb3,amb4,lwn,drn,callee,wantedB,isW,eff,pev,pst0,retPost,resAll,resP,resV,intP,mkV,putC,pbin,sbin,strsEq,peq,pint,pshift,pstr,pun,pconv,isShift,isConstB,app,subS,lay,rowsOf,lkV,keyKind,keyEq,mfind,mput,oInt,isZeroInt,forall_const,exists_eq_left',implies_true,IntKind.bits, ↓reduceIte,Nat.reduceEqDiff,Nat.reduceAdd,Nat.reduceSub,Nat.reduceMul,Nat.reduceLT,Nat.reduceLeDiff,Nat.reduceBEq,Int.reduceLE,Int.reduceLT,Int.reduceToNat,reduceCtorEq,Ty.all,g4,g16,g17,g18,hd,hho,hlen,hr,hlt,Nat.zero_add,a1,a3,hg,hfi])
         |(refine a_skip ?_;try simp only[pst0, ↓reduceIte,Nat.reduceEqDiff])
         |(refine a_exit ?_;try simp only[pst0, ↓reduceIte,Nat.reduceEqDiff])
         |(refine a_cond _ (by(try simp(maxSteps:=2000000) only[undef,am0,am1,am2,am3,amb0,amb1,amb2,amb3,amb4,lwn,drn,callee,wantedB,isW,eff,pev,pst0,retPost,resAll,resP,resV,intP,mkV,putC,pbin,sbin,strsEq,peq,pint,pshift,pstr,pun,pconv,isShift,isConstB,app,subS,lay,rowsOf,lkV,keyKind,keyEq,mfind,mput,oInt,isZeroInt,forall_const,exists_eq_left',implies_true,IntKind.bits, ↓reduceIte,Nat.reduceEqDiff,Nat.reduceAdd,Nat.reduceSub,Nat.reduceMul,Nat.reduceLT,Nat.reduceLeDiff,Nat.reduceBEq,Int.reduceLE,Int.reduceLT,Int.reduceToNat,reduceCtorEq,Ty.all,g4,g16,g17,g18,hd,hho,hlen,hr,hlt,Nat.zero_add,a1,a3,hg,hfi]);rfl) (fun hb=>?_) (fun hb=>?_)<;>(try simp only[hb0,decide_eq_true_eq,decide_eq_false_iff_not,reduceCtorEq]at hb)<;>(try(exfalso;omega)))
         |(with_reducible refine ite_in (fun hb=>?_) (fun hb=>?_)<;>(try simp only[Decidable.not_not]at hb)<;>(try simp only[hb,if_true,if_false,not_false_eq_true,not_true_eq_false, ↓reduceIte])<;>(try simp only[hb0,decide_eq_true_eq,decide_eq_false_iff_not,reduceCtorEq]at hb)<;>(try(exfalso;omega)))
         |(refine hK _ _ ?_;clear hK;try simp only[pst0, ↓reduceIte,Nat.reduceEqDiff])
         |(clear hK;refine hK _ _ ?_;clear hK;try simp only[pst0, ↓reduceIte,Nat.reduceEqDiff])
         |(clear hK;clear hK;refine hK _ _ ?_;clear hK;try simp only[pst0, ↓reduceIte,Nat.reduceEqDiff])
         |(clear hK;clear hK;clear hK;refine hK _ _ ?_;clear hK;try simp only[pst0, ↓reduceIte,Nat.reduceEqDiff])
         |(rw[if_pos];rotate_left 1;omega;simp(maxSteps:=2000000) only[undef,am0,am1,am2,am3,amb0,amb1,amb2,amb3,amb4,lwn,drn,callee,wantedB,isW,eff,pev,pst0,retPost,resAll,resP,resV,intP,mkV,putC,pbin,sbin,strsEq,peq,pint,pshift,pstr,pun,pconv,isShift,isConstB,app,subS,lay,rowsOf,lkV,keyKind,keyEq,mfind,mput,oInt,isZeroInt,forall_const,exists_eq_left',implies_true,IntKind.bits, ↓reduceIte,Nat.reduceEqDiff,Nat.reduceAdd,Nat.reduceSub,Nat.reduceMul,Nat.reduceLT,Nat.reduceLeDiff,Nat.reduceBEq,Int.reduceLE,Int.reduceLT,Int.reduceToNat,reduceCtorEq,Ty.all,g4,g16,g17,g18,hd,hho,hlen,hr,hlt,Nat.zero_add,a1,a3,hg,hfi]))
        exact⟨bad (by simp[lowB,hup,hw]),hgr⟩
     ·have hu:65≤c.toNat∧c.toNat≤90:=by simpa[upB]using hup
      have hadd:(c+32).toNat=c.toNat+32:=by rw[UInt8.toNat_add];simp;omega
      have w1:IntKind.u8.wrap ((c.toNat:Int)+97)=(c.toNat:Int)+97:=u8w _ (by omega) (by omega)
      have w2:IntKind.u8.wrap ((c.toNat:Int)+97-65)=((c+32).toNat:Int):=by rw[u8w _ (by omega) (by omega),hadd];omega
      repeat'(first
       |refine a_seq fun K hK=>?_
       |(refine a_block ?_)
       |((first|refine a_regionS ?_|refine a_region (fun K hK=>?_)|refine a_ret ?_);simp(maxSteps:=2000000) only[undef,am0,am1,am2,am3,amb0,amb1,amb2,amb3,amb4,lwn,drn,callee,wantedB,isW,eff,pev,pst0,retPost,resAll,resP,resV,intP,mkV,putC,pbin,sbin,strsEq,peq,pint,pshift,pstr,pun,pconv,isShift,isConstB,app,subS,lay,rowsOf,lkV,keyKind,keyEq,mfind,mput,oInt,isZeroInt,forall_const,exists_eq_left',implies_true,IntKind.bits, ↓reduceIte,Nat.reduceEqDiff,Nat.reduceAdd,Nat.reduceSub,Nat.reduceMul,Nat.reduceLT,Nat.reduceLeDiff,Nat.reduceBEq,Int.reduceLE,Int.reduceLT,Int.reduceToNat,reduceCtorEq,Ty.all,g4,g16,g17,g18,hd,hho,hlen,hr,hlt,a1,a2,w1,w2,w7,Nat.zero_add])
       |(refine a_skip ?_;try simp only[pst0, ↓reduceIte,Nat.reduceEqDiff])
       |(refine a_exit ?_;try simp only[pst0, ↓reduceIte,Nat.reduceEqDiff])
       |(refine a_cond _ (by(try simp(maxSteps:=2000000) only[undef,am0,am1,am2,am3,amb0,amb1,amb2,amb3,amb4,lwn,drn,callee,wantedB,isW,eff,pev,pst0,retPost,resAll,resP,resV,intP,mkV,putC,pbin,sbin,strsEq,peq,pint,pshift,pstr,pun,pconv,isShift,isConstB,app,subS,lay,rowsOf,lkV,keyKind,keyEq,mfind,mput,oInt,isZeroInt,forall_const,exists_eq_left',implies_true,IntKind.bits, ↓reduceIte,Nat.reduceEqDiff,Nat.reduceAdd,Nat.reduceSub,Nat.reduceMul,Nat.reduceLT,Nat.reduceLeDiff,Nat.reduceBEq,Int.reduceLE,Int.reduceLT,Int.reduceToNat,reduceCtorEq,Ty.all,g4,g16,g17,g18,hd,hho,hlen,hr,hlt,a1,a2,w1,w2,w7,Nat.zero_add]);rfl) (fun hb=>?_) (fun hb=>?_)<;>(try simp only[hb0,decide_eq_true_eq,decide_eq_false_iff_not,reduceCtorEq]at hb)<;>(try(exfalso;omega)))
       |(with_reducible refine ite_in (fun hb=>?_) (fun hb=>?_)<;>(try simp only[Decidable.not_not]at hb)<;>(try simp only[hb,if_true,if_false,not_false_eq_true,not_true_eq_false, ↓reduceIte])<;>(try simp only[hb0,decide_eq_true_eq,decide_eq_false_iff_not,reduceCtorEq]at hb)<;>(try(exfalso;omega)))
       |(refine hK _ _ ?_;clear hK;try simp only[pst0, ↓reduceIte,Nat.reduceEqDiff])
       |(clear hK;refine hK _ _ ?_;clear hK;try simp only[pst0, ↓reduceIte,Nat.reduceEqDiff])
       |(clear hK;clear hK;refine hK _ _ ?_;clear hK;try simp only[pst0, ↓reduceIte,Nat.reduceEqDiff])
       |(clear hK;clear hK;clear hK;refine hK _ _ ?_;clear hK;try simp only[pst0, ↓reduceIte,Nat.reduceEqDiff])
       |(rw[if_pos];rotate_left 1;omega;simp(maxSteps:=2000000) only[undef,am0,am1,am2,am3,amb0,amb1,amb2,amb3,amb4,lwn,drn,callee,wantedB,isW,eff,pev,pst0,retPost,resAll,resP,resV,intP,mkV,putC,pbin,sbin,strsEq,peq,pint,pshift,pstr,pun,pconv,isShift,isConstB,app,subS,lay,rowsOf,lkV,keyKind,keyEq,mfind,mput,oInt,isZeroInt,forall_const,exists_eq_left',implies_true,IntKind.bits, ↓reduceIte,Nat.reduceEqDiff,Nat.reduceAdd,Nat.reduceSub,Nat.reduceMul,Nat.reduceLT,Nat.reduceLeDiff,Nat.reduceBEq,Int.reduceLE,Int.reduceLT,Int.reduceToNat,reduceCtorEq,Ty.all,g4,g16,g17,g18,hd,hho,hlen,hr,hlt,a1,a2,w1,w2,w7,Nat.zero_add]))
      exact⟨s.data.toList.length-(k+1),by omega,k+1,by simp,by omega,rfl,hI.put hx (by simp[lowB,hup]) ho⟩
     ·cases hg:digB c with
      |true=>
       have hw:wB c=true:=by simp[wB,hg]
       repeat'(first
        |refine a_seq fun K hK=>?_
        |(refine a_block ?_)
        |((first|refine a_regionS ?_|refine a_region (fun K hK=>?_)|refine a_ret ?_);simp(maxSteps:=2000000) only[undef,am0,am1,am2,am3,amb0,amb1,amb2,amb3,amb4,lwn,drn,callee,wantedB,isW,eff,pev,pst0,retPost,resAll,resP,resV,intP,mkV,putC,pbin,sbin,strsEq,peq,pint,pshift,pstr,pun,pconv,isShift,isConstB,app,subS,lay,rowsOf,lkV,keyKind,keyEq,mfind,mput,oInt,isZeroInt,forall_const,exists_eq_left',implies_true,IntKind.bits, ↓reduceIte,Nat.reduceEqDiff,Nat.reduceAdd,Nat.reduceSub,Nat.reduceMul,Nat.reduceLT,Nat.reduceLeDiff,Nat.reduceBEq,Int.reduceLE,Int.reduceLT,Int.reduceToNat,reduceCtorEq,Ty.all,g4,g16,g17,g18,hd,hho,hlen,hr,hlt,Nat.zero_add,a1,a2,a3])
        |(refine a_skip ?_;try simp only[pst0, ↓reduceIte,Nat.reduceEqDiff])
        |(refine a_exit ?_;try simp only[pst0, ↓reduceIte,Nat.reduceEqDiff])
        |(refine a_cond _ (by(try simp(maxSteps:=2000000) only[undef,am0,am1,am2,am3,amb0,amb1,amb2,amb3,amb4,lwn,drn,callee,wantedB,isW,eff,pev,pst0,retPost,resAll,resP,resV,intP,mkV,putC,pbin,sbin,strsEq,peq,pint,pshift,pstr,pun,pconv,isShift,isConstB,app,subS,lay,rowsOf,lkV,keyKind,keyEq,mfind,mput,oInt,isZeroInt,forall_const,exists_eq_left',implies_true,IntKind.bits, ↓reduceIte,Nat.reduceEqDiff,Nat.reduceAdd,Nat.reduceSub,Nat.reduceMul,Nat.reduceLT,Nat.reduceLeDiff,Nat.reduceBEq,Int.reduceLE,Int.reduceLT,Int.reduceToNat,reduceCtorEq,Ty.all,g4,g16,g17,g18,hd,hho,hlen,hr,hlt,Nat.zero_add,a1,a2,a3]);rfl) (fun hb=>?_) (fun hb=>?_)<;>(try simp only[hb0,decide_eq_true_eq,decide_eq_false_iff_not,reduceCtorEq]at hb)<;>(try(exfalso;omega)))
        |(with_reducible refine ite_in (fun hb=>?_) (fun hb=>?_)<;>(try simp only[Decidable.not_not]at hb)<;>(try simp only[hb,if_true,if_false,not_false_eq_true,not_true_eq_false, ↓reduceIte])<;>(try simp only[hb0,decide_eq_true_eq,decide_eq_false_iff_not,reduceCtorEq]at hb)<;>(try(exfalso;omega)))
        |(refine hK _ _ ?_;clear hK;try simp only[pst0, ↓reduceIte,Nat.reduceEqDiff])
        |(clear hK;refine hK _ _ ?_;clear hK;try simp only[pst0, ↓reduceIte,Nat.reduceEqDiff])
        |(clear hK;clear hK;refine hK _ _ ?_;clear hK;try simp only[pst0, ↓reduceIte,Nat.reduceEqDiff])
        |(clear hK;clear hK;clear hK;refine hK _ _ ?_;clear hK;try simp only[pst0, ↓reduceIte,Nat.reduceEqDiff])
        |(rw[if_pos];rotate_left 1;omega;simp(maxSteps:=2000000) only[undef,am0,am1,am2,am3,amb0,amb1,amb2,amb3,amb4,lwn,drn,callee,wantedB,isW,eff,pev,pst0,retPost,resAll,resP,resV,intP,mkV,putC,pbin,sbin,strsEq,peq,pint,pshift,pstr,pun,pconv,isShift,isConstB,app,subS,lay,rowsOf,lkV,keyKind,keyEq,mfind,mput,oInt,isZeroInt,forall_const,exists_eq_left',implies_true,IntKind.bits, ↓reduceIte,Nat.reduceEqDiff,Nat.reduceAdd,Nat.reduceSub,Nat.reduceMul,Nat.reduceLT,Nat.reduceLeDiff,Nat.reduceBEq,Int.reduceLE,Int.reduceLT,Int.reduceToNat,reduceCtorEq,Ty.all,g4,g16,g17,g18,hd,hho,hlen,hr,hlt,Nat.zero_add,a1,a2,a3]))
       refine owp_useQ (digit_c (c:=c)) (by(try simp only[undef,am0,am1,am2,am3,amb0,amb1,amb2,amb3,amb4,lwn,drn,callee,wantedB,isW,eff,pev,pst0,retPost,resAll,resP,resV,intP,mkV,putC,pbin,sbin,strsEq,peq,pint,pshift,pstr,pun,pconv,isShift,isConstB,app,subS,lay,rowsOf,lkV,keyKind,keyEq,mfind,mput,oInt,isZeroInt,forall_const,exists_eq_left',implies_true,IntKind.bits, ↓reduceIte,Nat.reduceEqDiff,Nat.reduceAdd,Nat.reduceSub,Nat.reduceMul,Nat.reduceLT,Nat.reduceLeDiff,Nat.reduceBEq,Int.reduceLE,Int.reduceLT,Int.reduceToNat,reduceCtorEq,g4,g16,g17,g18,hd,hho,hlen,hr,hlt,Nat.zero_add,a1,a2,a3,hg]);try rfl) ?_
       simp(maxSteps:=2000000) only[undef,am0,am1,am2,am3,amb0,amb1,amb2,amb3,amb4,lwn,drn,callee,wantedB,isW,eff,pev,pst0,retPost,resAll,resP,resV,intP,mkV,putC,pbin,sbin,strsEq,peq,pint,pshift,pstr,pun,pconv,isShift,isConstB,app,subS,lay,rowsOf,lkV,keyKind,keyEq,mfind,mput,oInt,isZeroInt,forall_const,exists_eq_left',implies_true,IntKind.bits, ↓reduceIte,Nat.reduceEqDiff,Nat.reduceAdd,Nat.reduceSub,Nat.reduceMul,Nat.reduceLT,Nat.reduceLeDiff,Nat.reduceBEq,Int.reduceLE,Int.reduceLT,Int.reduceToNat,reduceCtorEq,Ty.all,g4,g16,g17,g18,hd,hho,hlen,hr,hlt,Nat.zero_add,a1,a2,a3,hg]
       repeat'(first
        |refine a_seq fun K hK=>?_
        |(refine a_block ?_)
        |((first|refine a_regionS ?_|refine a_region (fun K hK=>?_)|refine a_ret ?_);simp(maxSteps:=2000000) only[undef,am0,am1,am2,am3,amb0,amb1,amb2,amb3,amb4,lwn,drn,callee,wantedB,isW,eff,pev,pst0,retPost,resAll,resP,resV,intP,mkV,putC,pbin,sbin,strsEq,peq,pint,pshift,pstr,pun,pconv,isShift,isConstB,app,subS,lay,rowsOf,lkV,keyKind,keyEq,mfind,mput,oInt,isZeroInt,forall_const,exists_eq_left',implies_true,IntKind.bits, ↓reduceIte,Nat.reduceEqDiff,Nat.reduceAdd,Nat.reduceSub,Nat.reduceMul,Nat.reduceLT,Nat.reduceLeDiff,Nat.reduceBEq,Int.reduceLE,Int.reduceLT,Int.reduceToNat,reduceCtorEq,Ty.all,g4,g16,g17,g18,hd,hho,hlen,hr,hlt,Nat.zero_add,a1,a2,a3,hg,w7])
        |(refine a_skip ?_;try simp only[pst0, ↓reduceIte,Nat.reduceEqDiff])
        |(refine a_exit ?_;try simp only[pst0, ↓reduceIte,Nat.reduceEqDiff])
        |(refine a_cond _ (by(try simp(maxSteps:=2000000) only[undef,am0,am1,am2,am3,amb0,amb1,amb2,amb3,amb4,lwn,drn,callee,wantedB,isW,eff,pev,pst0,retPost,resAll,resP,resV,intP,mkV,putC,pbin,sbin,strsEq,peq,pint,pshift,pstr,pun,pconv,isShift,isConstB,app,subS,lay,rowsOf,lkV,keyKind,keyEq,mfind,mput,oInt,isZeroInt,forall_const,exists_eq_left',implies_true,IntKind.bits, ↓reduceIte,Nat.reduceEqDiff,Nat.reduceAdd,Nat.reduceSub,Nat.reduceMul,Nat.reduceLT,Nat.reduceLeDiff,Nat.reduceBEq,Int.reduceLE,Int.reduceLT,Int.reduceToNat,reduceCtorEq,Ty.all,g4,g16,g17,g18,hd,hho,hlen,hr,hlt,Nat.zero_add,a1,a2,a3,hg,w7]);rfl) (fun hb=>?_) (fun hb=>?_)<;>(try simp only[hb0,decide_eq_true_eq,decide_eq_false_iff_not,reduceCtorEq]at hb)<;>(try(exfalso;omega)))
        |(with_reducible refine ite_in (fun hb=>?_) (fun hb=>?_)<;>(try simp only[Decidable.not_not]at hb)<;>(try simp only[hb,if_true,if_false,not_false_eq_true,not_true_eq_false, ↓reduceIte])<;>(try simp only[hb0,decide_eq_true_eq,decide_eq_false_iff_not,reduceCtorEq]at hb)<;>(try(exfalso;omega)))
        |(refine hK _ _ ?_;clear hK;try simp only[pst0, ↓reduceIte,Nat.reduceEqDiff])
        |(clear hK;refine hK _ _ ?_;clear hK;try simp only[pst0, ↓reduceIte,Nat.reduceEqDiff])
        |(clear hK;clear hK;refine hK _ _ ?_;clear hK;try simp only[pst0, ↓reduceIte,Nat.reduceEqDiff])
        |(clear hK;clear hK;clear hK;refine hK _ _ ?_;clear hK;try simp only[pst0, ↓reduceIte,Nat.reduceEqDiff])
        |(rw[if_pos];rotate_left 1;omega;simp(maxSteps:=2000000) only[undef,am0,am1,am2,am3,amb0,amb1,amb2,amb3,amb4,lwn,drn,callee,wantedB,isW,eff,pev,pst0,retPost,resAll,resP,resV,intP,mkV,putC,pbin,sbin,strsEq,peq,pint,pshift,pstr,pun,pconv,isShift,isConstB,app,subS,lay,rowsOf,lkV,keyKind,keyEq,mfind,mput,oInt,isZeroInt,forall_const,exists_eq_left',implies_true,IntKind.bits, ↓reduceIte,Nat.reduceEqDiff,Nat.reduceAdd,Nat.reduceSub,Nat.reduceMul,Nat.reduceLT,Nat.reduceLeDiff,Nat.reduceBEq,Int.reduceLE,Int.reduceLT,Int.reduceToNat,reduceCtorEq,Ty.all,g4,g16,g17,g18,hd,hho,hlen,hr,hlt,Nat.zero_add,a1,a2,a3,hg,w7]))
       exact⟨s.data.toList.length-(k+1),by omega,k+1,by simp,by omega,rfl,hI.keep hx (by simp[lowB,hup,hw])⟩
      |false=>
       cases hs2:signs.contains c with
       |true=>
        have hw:wB c=true:=by simp only[wB,hs2,Bool.or_true]
        have hfi:decide (firstIdx ⟨#[45,95,63,58,60,62,61,43,42]⟩ c≥0)=true:=by rw[firstIdx_ge];exact hs2
        repeat'(first
         |refine a_seq fun K hK=>?_
         |(refine a_block ?_)
         |((first|refine a_regionS ?_|refine a_region (fun K hK=>?_)|refine a_ret ?_);simp(maxSteps:=2000000) only[undef,am0,am1,am2,am3,amb0,amb1,amb2,amb3,amb4,lwn,drn,callee,wantedB,isW,eff,pev,pst0,retPost,resAll,resP,resV,intP,mkV,putC,pbin,sbin,strsEq,peq,pint,pshift,pstr,pun,pconv,isShift,isConstB,app,subS,lay,rowsOf,lkV,keyKind,keyEq,mfind,mput,oInt,isZeroInt,forall_const,exists_eq_left',implies_true,IntKind.bits, ↓reduceIte,Nat.reduceEqDiff,Nat.reduceAdd,Nat.reduceSub,Nat.reduceMul,Nat.reduceLT,Nat.reduceLeDiff,Nat.reduceBEq,Int.reduceLE,Int.reduceLT,Int.reduceToNat,reduceCtorEq,Ty.all,g4,g16,g17,g18,hd,hho,hlen,hr,hlt,Nat.zero_add,a1,a2,a3])
         |(refine a_skip ?_;try simp only[pst0, ↓reduceIte,Nat.reduceEqDiff])
         |(refine a_exit ?_;try simp only[pst0, ↓reduceIte,Nat.reduceEqDiff])
         |(refine a_cond _ (by(try simp(maxSteps:=2000000) only[undef,am0,am1,am2,am3,amb0,amb1,amb2,amb3,amb4,lwn,drn,callee,wantedB,isW,eff,pev,pst0,retPost,resAll,resP,resV,intP,mkV,putC,pbin,sbin,strsEq,peq,pint,pshift,pstr,pun,pconv,isShift,isConstB,app,subS,lay,rowsOf,lkV,keyKind,keyEq,mfind,mput,oInt,isZeroInt,forall_const,exists_eq_left',implies_true,IntKind.bits, ↓reduceIte,Nat.reduceEqDiff,Nat.reduceAdd,Nat.reduceSub,Nat.reduceMul,Nat.reduceLT,Nat.reduceLeDiff,Nat.reduceBEq,Int.reduceLE,Int.reduceLT,Int.reduceToNat,reduceCtorEq,Ty.all,g4,g16,g17,g18,hd,hho,hlen,hr,hlt,Nat.zero_add,a1,a2,a3]);rfl) (fun hb=>?_) (fun hb=>?_)<;>(try simp only[hb0,decide_eq_true_eq,decide_eq_false_iff_not,reduceCtorEq]at hb)<;>(try(exfalso;omega)))
         |(with_reducible refine ite_in (fun hb=>?_) (fun hb=>?_)<;>(try simp only[Decidable.not_not]at hb)<;>(try simp only[hb,if_true,if_false,not_false_eq_true,not_true_eq_false, ↓reduceIte])<;>(try simp only[hb0,decide_eq_true_eq,decide_eq_false_iff_not,reduceCtorEq]at hb)<;>(try(exfalso;omega)))
         |(refine hK _ _ ?_;clear hK;try simp only[pst0, ↓reduceIte,Nat.reduceEqDiff])
         |(clear hK;refine hK _ _ ?_;clear hK;try simp only[pst0, ↓reduceIte,Nat.reduceEqDiff])
         |(clear hK;clear hK;refine hK _ _ ?_;clear hK;try simp only[pst0, ↓reduceIte,Nat.reduceEqDiff])
         |(clear hK;clear hK;clear hK;refine hK _ _ ?_;clear hK;try simp only[pst0, ↓reduceIte,Nat.reduceEqDiff])
         |(rw[if_pos];rotate_left 1;omega;simp(maxSteps:=2000000) only[undef,am0,am1,am2,am3,amb0,amb1,amb2,amb3,amb4,lwn,drn,callee,wantedB,isW,eff,pev,pst0,retPost,resAll,resP,resV,intP,mkV,putC,pbin,sbin,strsEq,peq,pint,pshift,pstr,pun,pconv,isShift,isConstB,app,subS,lay,rowsOf,lkV,keyKind,keyEq,mfind,mput,oInt,isZeroInt,forall_const,exists_eq_left',implies_true,IntKind.bits, ↓reduceIte,Nat.reduceEqDiff,Nat.reduceAdd,Nat.reduceSub,Nat.reduceMul,Nat.reduceLT,Nat.reduceLeDiff,Nat.reduceBEq,Int.reduceLE,Int.reduceLT,Int.reduceToNat,reduceCtorEq,Ty.all,g4,g16,g17,g18,hd,hho,hlen,hr,hlt,Nat.zero_add,a1,a2,a3]))
        refine owp_useQ (digit_c (c:=c)) (by(try simp only[undef,am0,am1,am2,am3,amb0,amb1,amb2,amb3,amb4,lwn,drn,callee,wantedB,isW,eff,pev,pst0,retPost,resAll,resP,resV,intP,mkV,putC,pbin,sbin,strsEq,peq,pint,pshift,pstr,pun,pconv,isShift,isConstB,app,subS,lay,rowsOf,lkV,keyKind,keyEq,mfind,mput,oInt,isZeroInt,forall_const,exists_eq_left',implies_true,IntKind.bits, ↓reduceIte,Nat.reduceEqDiff,Nat.reduceAdd,Nat.reduceSub,Nat.reduceMul,Nat.reduceLT,Nat.reduceLeDiff,Nat.reduceBEq,Int.reduceLE,Int.reduceLT,Int.reduceToNat,reduceCtorEq,g4,g16,g17,g18,hd,hho,hlen,hr,hlt,Nat.zero_add,a1,a2,a3,hg]);try rfl) ?_
        simp(maxSteps:=2000000) only[undef,am0,am1,am2,am3,amb0,amb1,amb2,amb3,amb4,lwn,drn,callee,wantedB,isW,eff,pev,pst0,retPost,resAll,resP,resV,intP,mkV,putC,pbin,sbin,strsEq,peq,pint,pshift,pstr,pun,pconv,isShift,isConstB,app,subS,lay,rowsOf,lkV,keyKind,keyEq,mfind,mput,oInt,isZeroInt,forall_const,exists_eq_left',implies_true,IntKind.bits, ↓reduceIte,Nat.reduceEqDiff,Nat.reduceAdd,Nat.reduceSub,Nat.reduceMul,Nat.reduceLT,Nat.reduceLeDiff,Nat.reduceBEq,Int.reduceLE,Int.reduceLT,Int.reduceToNat,reduceCtorEq,Ty.all,g4,g16,g17,g18,hd,hho,hlen,hr,hlt,Nat.zero_add,a1,a2,a3,hg]
        repeat'(first
         |refine a_seq fun K hK=>?_
         |(refine a_block ?_)
         |((first|refine a_regionS ?_|refine a_region (fun K hK=>?_)|refine a_ret ?_);simp(maxSteps:=2000000) only[undef,am0,am1,am2,am3,amb0,amb1,amb2,amb3,amb4,lwn,drn,callee,wantedB,isW,eff,pev,pst0,retPost,resAll,resP,resV,intP,mkV,putC,pbin,sbin,strsEq,peq,pint,pshift,pstr,pun,pconv,isShift,isConstB,app,subS,lay,rowsOf,lkV,keyKind,keyEq,mfind,mput,oInt,isZeroInt,forall_const,exists_eq_left',implies_true,IntKind.bits, ↓reduceIte,Nat.reduceEqDiff,Nat.reduceAdd,Nat.reduceSub,Nat.reduceMul,Nat.reduceLT,Nat.reduceLeDiff,Nat.reduceBEq,Int.reduceLE,Int.reduceLT,Int.reduceToNat,reduceCtorEq,Ty.all,g4,g16,g17,g18,hd,hho,hlen,hr,hlt,Nat.zero_add,a1,a2,a3,hg])
         |(refine a_skip ?_;try simp only[pst0, ↓reduceIte,Nat.reduceEqDiff])
         |(refine a_exit ?_;try simp only[pst0, ↓reduceIte,Nat.reduceEqDiff])
         |(refine a_cond _ (by(try simp(maxSteps:=2000000) only[undef,am0,am1,am2,am3,amb0,amb1,amb2,amb3,amb4,lwn,drn,callee,wantedB,isW,eff,pev,pst0,retPost,resAll,resP,resV,intP,mkV,putC,pbin,sbin,strsEq,peq,pint,pshift,pstr,pun,pconv,isShift,isConstB,app,subS,lay,rowsOf,lkV,keyKind,keyEq,mfind,mput,oInt,isZeroInt,forall_const,exists_eq_left',implies_true,IntKind.bits, ↓reduceIte,Nat.reduceEqDiff,Nat.reduceAdd,Nat.reduceSub,Nat.reduceMul,Nat.reduceLT,Nat.reduceLeDiff,Nat.reduceBEq,Int.reduceLE,Int.reduceLT,Int.reduceToNat,reduceCtorEq,Ty.all,g4,g16,g17,g18,hd,hho,hlen,hr,hlt,Nat.zero_add,a1,a2,a3,hg]);rfl) (fun hb=>?_) (fun hb=>?_)<;>(try simp only[hb0,decide_eq_true_eq,decide_eq_false_iff_not,reduceCtorEq]at hb)<;>(try(exfalso;omega)))
         |(with_reducible refine ite_in (fun hb=>?_) (fun hb=>?_)<;>(try simp only[Decidable.not_not]at hb)<;>(try simp only[hb,if_true,if_false,not_false_eq_true,not_true_eq_false, ↓reduceIte])<;>(try simp only[hb0,decide_eq_true_eq,decide_eq_false_iff_not,reduceCtorEq]at hb)<;>(try(exfalso;omega)))
         |(refine hK _ _ ?_;clear hK;try simp only[pst0, ↓reduceIte,Nat.reduceEqDiff])
         |(clear hK;refine hK _ _ ?_;clear hK;try simp only[pst0, ↓reduceIte,Nat.reduceEqDiff])
         |(clear hK;clear hK;refine hK _ _ ?_;clear hK;try simp only[pst0, ↓reduceIte,Nat.reduceEqDiff])
         |(clear hK;clear hK;clear hK;refine hK _ _ ?_;clear hK;try simp only[pst0, ↓reduceIte,Nat.reduceEqDiff])
         |(rw[if_pos];rotate_left 1;omega;simp(maxSteps:=2000000) only[undef,am0,am1,am2,am3,amb0,amb1,amb2,amb3,amb4,lwn,drn,callee,wantedB,isW,eff,pev,pst0,retPost,resAll,resP,resV,intP,mkV,putC,pbin,sbin,strsEq,peq,pint,pshift,pstr,pun,pconv,isShift,isConstB,app,subS,lay,rowsOf,lkV,keyKind,keyEq,mfind,mput,oInt,isZeroInt,forall_const,exists_eq_left',implies_true,IntKind.bits, ↓reduceIte,Nat.reduceEqDiff,Nat.reduceAdd,Nat.reduceSub,Nat.reduceMul,Nat.reduceLT,Nat.reduceLeDiff,Nat.reduceBEq,Int.reduceLE,Int.reduceLT,Int.reduceToNat,reduceCtorEq,Ty.all,g4,g16,g17,g18,hd,hho,hlen,hr,hlt,Nat.zero_add,a1,a2,a3,hg]))
        refine owp_useQ (indexByte_c (s:=⟨#[45,95,63,58,60,62,61,43,42]⟩) (c:=c)) (by(try simp only[undef,am0,am1,am2,am3,amb0,amb1,amb2,amb3,amb4,lwn,drn,callee,wantedB,isW,eff,pev,pst0,retPost,resAll,resP,resV,intP,mkV,putC,pbin,sbin,strsEq,peq,pint,pshift,pstr,pun,pconv,isShift,isConstB,app,subS,lay,rowsOf,lkV,keyKind,keyEq,mfind,mput,oInt,isZeroInt,forall_const,exists_eq_left',implies_true,IntKind.bits, ↓reduceIte,Nat.reduceEqDiff,Nat.reduceAdd,Nat.reduceSub,Nat.reduceMul,Nat.reduceLT,Nat.reduceLeDiff,Nat.reduceBEq,Int.reduceLE,Int.reduceLT,Int.reduceToNat,reduceCtorEq,g4,g16,g17,g18,hd,hho,hlen,hr,hlt,Nat.zero_add,a1,a2,a3,hg,hfi]);try rfl) ?_
        simp(maxSteps:=2000000) only[undef,am0,am1,am2,am3,amb0,amb1,amb2,amb3,amb4,lwn,drn,callee,wantedB,isW,eff,pev,pst0,retPost,resAll,resP,resV,intP,mkV,putC,pbin,sbin,strsEq,peq,pint,pshift,pstr,pun,pconv,isShift,isConstB,app,subS,lay,rowsOf,lkV,keyKind,keyEq,mfind,mput,oInt,isZeroInt,forall_const,exists_eq_left',implies_true,IntKind.bits, ↓reduceIte,Nat.reduceEqDiff,Nat.reduceAdd,Nat.reduceSub,Nat.reduceMul,Nat.reduceLT,Nat.reduceLeDiff,Nat.reduceBEq,Int.reduceLE,Int.reduceLT,Int.reduceToNat,reduceCtorEq,Ty.all,g4,g16,g17,g18,hd,hho,hlen,hr,hlt,Nat.zero_add,a1,a2,a3,hg,hfi]
        repeat'(first
         |refine a_seq fun K hK=>?_
         |(refine a_block ?_)
         |((first|refine a_regionS ?_|refine a_region (fun K hK=>?_)|refine a_ret ?_);simp(maxSteps:=2000000) only[undef,am0,am1,am2,am3,amb0,amb1,amb2,amb3,amb4,lwn,drn,callee,wantedB,isW,eff,pev,pst0,retPost,resAll,resP,resV,intP,mkV,putC,pbin,sbin,strsEq,peq,pint,pshift,pstr,pun,pconv,isShift,isConstB,app,subS,lay,rowsOf,lkV,keyKind,keyEq,mfind,mput,oInt,isZeroInt,forall_const,exists_eq_left',implies_true,IntKind.bits, ↓reduceIte,Nat.reduceEqDiff,Nat.reduceAdd,Nat.reduceSub,Nat.reduceMul,Nat.reduceLT,Nat.reduceLeDiff,Nat.reduceBEq,Int.reduceLE,Int.reduceLT,Int.reduceToNat,reduceCtorEq,Ty.all,g4,g16,g17,g18,hd,hho,hlen,hr,hlt,Nat.zero_add,a1,a2,a3,hg,hfi,w7])
         |(refine a_skip ?_;try simp only[pst0, ↓reduceIte,Nat.reduceEqDiff])
         |(refine a_exit ?_;try simp only[pst0, ↓reduceIte,Nat.reduceEqDiff])
         |(refine a_cond _ (by(try simp(maxSteps:=2000000) only[undef,am0,am1,am2,am3,amb0,amb1,amb2,amb3,amb4,lwn,drn,callee,wantedB,isW,eff,pev,pst0,retPost,resAll,resP,resV,intP,mkV,putC,pbin,sbin,strsEq,peq,pint,pshift,pstr,pun,pconv,isShift,isConstB,app,subS,lay,rowsOf,lkV,keyKind,keyEq,mfind,mput,oInt,isZeroInt,forall_const,exists_eq_left',implies_true,IntKind.bits, ↓reduceIte,Nat.reduceEqDiff,Nat.reduceAdd,Nat.reduceSub,Nat.reduceMul,Nat.reduceLT,Nat.reduceLeDiff,Nat.reduceBEq,Int.reduceLE,Int.reduceLT,Int.reduceToNat,reduceCtorEq,Ty.all,g4,g16,g17,g18,hd,hho,hlen,hr,hlt,Nat.zero_add,a1,a2,a3,hg,hfi,w7]);rfl) (fun hb=>?_) (fun hb=>?_)<;>(try simp only[hb0,decide_eq_true_eq,decide_eq_false_iff_not,reduceCtorEq]at hb)<;>(try(exfalso;omega)))
         |(with_reducible refine ite_in (fun hb=>?_) (fun hb=>?_)<;>(try simp only[Decidable.not_not]at hb)<;>(try simp only[hb,if_true,if_false,not_false_eq_true,not_true_eq_false, ↓reduceIte])<;>(try simp only[hb0,decide_eq_true_eq,decide_eq_false_iff_not,reduceCtorEq]at hb)<;>(try(exfalso;omega)))
         |(refine hK _ _ ?_;clear hK;try simp only[pst0, ↓reduceIte,Nat.reduceEqDiff])
         |(clear hK;refine hK _ _ ?_;clear hK;try simp only[pst0, ↓reduceIte,Nat.reduceEqDiff])
         |(clear hK;clear hK;refine hK _ _ ?_;clear hK;try simp only[pst0, ↓reduceIte,Nat.reduceEqDiff])
         |(clear hK;clear hK;clear hK;refine hK _ _ ?_;clear hK;try simp only[pst0, ↓reduceIte,Nat.reduceEqDiff])
         |(rw[if_pos];rotate_left 1;omega;simp(maxSteps:=2000000) only[undef,am0,am1,am2,am3,amb0,amb1,amb2,amb3,amb4,lwn,drn,callee,wantedB,isW,eff,pev,pst0,retPost,resAll,resP,resV,intP,mkV,putC,pbin,sbin,strsEq,peq,pint,pshift,pstr,pun,pconv,isShift,isConstB,app,subS,lay,rowsOf,lkV,keyKind,keyEq,mfind,mput,oInt,isZeroInt,forall_const,exists_eq_left',implies_true,IntKind.bits, ↓reduceIte,Nat.reduceEqDiff,Nat.reduceAdd,Nat.reduceSub,Nat.reduceMul,Nat.reduceLT,Nat.reduceLeDiff,Nat.reduceBEq,Int.reduceLE,Int.reduceLT,Int.reduceToNat,reduceCtorEq,Ty.all,g4,g16,g17,g18,hd,hho,hlen,hr,hlt,Nat.zero_add,a1,a2,a3,hg,hfi,w7]))
        exact⟨s.data.toList.length-(k+1),by omega,k+1,by simp,by omega,rfl,hI.keep hx (by simp[lowB,hup,hw])⟩
       |false=>
        have hw:wB c=false:=by simp only[wB,hs2,hg,hlet,Bool.or_false]
        have hfi:decide (firstIdx ⟨#[45,95,63,58,60,62,61,43,42]⟩ c≥0)=false:=by rw[firstIdx_ge];exact hs2
        repeat'(first
         |refine a_seq fun K hK=>?_
         |(refine a_block ?_)
         |((first|refine a_regionS ?_|refine a_region (fun K hK=>?_)|refine a_ret ?_);simp(maxSteps:=2000000) only[undef,am0,am1,am2,am3,amb0,amb1,amb2,amb3,amb4,lwn,drn,callee,wantedB,isW,eff,pev,pst0,retPost,resAll,resP,resV,intP,mkV,putC,pbin,sbin,strsEq,peq,pint,pshift,pstr,pun,pconv,isShift,isConstB,app,subS,lay,rowsOf,lkV,keyKind,keyEq,mfind,mput,oInt,isZeroInt,forall_const,exists_eq_left',implies_true,IntKind.bits, ↓reduceIte,Nat.reduceEqDiff,Nat.reduceAdd,Nat.reduceSub,Nat.reduceMul,Nat.reduceLT,Nat.reduceLeDiff,Nat.reduceBEq,Int.reduceLE,Int.reduceLT,Int.reduceToNat,reduceCtorEq,Ty.all,g4,g16,g17,g18,hd,hho,hlen,hr,hlt,Nat.zero_add,a1,a2,a3])
         |(refine a_skip ?_;try simp only[pst0, ↓reduceIte,Nat.reduceEqDiff])
         |(refine a_exit ?_;try simp only[pst0, ↓reduceIte,Nat.reduceEqDiff])
         |(refine a_cond _ (by(try simp(maxSteps:=2000000) only[undef,am0,am1,am2,am3,amb0,amb1,amb2,amb3,amb4,lwn,drn,callee,wantedB,isW,eff,pev,pst0,retPost,resAll,resP,resV,intP,mkV,putC,pbin,sbin,strsEq,peq,pint,pshift,pstr,pun,pconv,isShift,isConstB,app,subS,lay,rowsOf,lkV,keyKind,keyEq,mfind,mput,oInt,isZeroInt,forall_const,exists_eq_left',implies_true,IntKind.bits, ↓reduceIte,Nat.reduceEqDiff,Nat.reduceAdd,Nat.reduceSub,Nat.reduceMul,Nat.reduceLT,Nat.reduceLeDiff,Nat.reduceBEq,Int.reduceLE,Int.reduceLT,Int.reduceToNat,reduceCtorEq,Ty.all,g4,g16,g17,g18,hd,hho,hlen,hr,hlt,Nat.zero_add,a1,a2,a3]);rfl) (fun hb=>?_) (fun hb=>?_)<;>(try simp only[hb0,decide_eq_true_eq,decide_eq_false_iff_not,reduceCtorEq]at hb)<;>(try(exfalso;omega)))
         |(with_reducible refine ite_in (fun hb=>?_) (fun hb=>?_)<;>(try simp only[Decidable.not_not]at hb)<;>(try simp only[hb,if_true,if_false,not_false_eq_true,not_true_eq_false, ↓reduceIte])<;>(try simp only[hb0,decide_eq_true_eq,decide_eq_false_iff_not,reduceCtorEq]at hb)<;>(try(exfalso;omega)))
         |(refine hK _ _ ?_;clear hK;try simp only[pst0, ↓reduceIte,Nat.reduceEqDiff])
         |(clear hK;refine hK _ _ ?_;clear hK;try simp only[pst0, ↓reduceIte,Nat.reduceEqDiff])
         |(clear hK;clear hK;refine hK _ _ ?_;clear hK;try simp only[pst0, ↓reduceIte,Nat.reduceEqDiff])
         |(clear hK;clear hK;clear hK;refine hK _ _ ?_;clear hK;try simp only[pst0, ↓reduceIte,Nat.reduceEqDiff])
         |(rw[if_pos];rotate_left 1;omega;simp(maxSteps:=2000000) only[undef,am0,am1,am2,am3,amb0,amb1,amb2,amb3,amb4,lwn,drn,callee,wantedB,isW,eff,pev,pst0,retPost,resAll,resP,resV,intP,mkV,putC,pbin,sbin,strsEq,peq,pint,pshift,pstr,pun,pconv,isShift,isConstB,app,subS,lay,rowsOf,lkV,keyKind,keyEq,mfind,mput,oInt,isZeroInt,forall_const,exists_eq_left',implies_true,IntKind.bits, ↓reduceIte,Nat.reduceEqDiff,Nat.reduceAdd,Nat.reduceSub,Nat.reduceMul,Nat.reduceLT,Nat.reduceLeDiff,Nat.reduceBEq,Int.reduceLE,Int.reduceLT,Int.reduceToNat,reduceCtorEq,Ty.all,g4,g16,g17,g18,hd,hho,hlen,hr,hlt,Nat.zero_add,a1,a2,a3]))
        refine owp_useQ (digit_c (c:=c)) (by(try simp only[undef,am0,am1,am2,am3,amb0,amb1,amb2,amb3,amb4,lwn,drn,callee,wantedB,isW,eff,pev,pst0,retPost,resAll,resP,resV,intP,mkV,putC,pbin,sbin,strsEq,peq,pint,pshift,pstr,pun,pconv,isShift,isConstB,app,subS,lay,rowsOf,lkV,keyKind,keyEq,mfind,mput,oInt,isZeroInt,forall_const,exists_eq_left',implies_true,IntKind.bits, ↓reduceIte,Nat.reduceEqDiff,Nat.reduceAdd,Nat.reduceSub,Nat.reduceMul,Nat.reduceLT,Nat.reduceLeDiff,Nat.reduceBEq,Int.reduceLE,Int.reduceLT,Int.reduceToNat,reduceCtorEq,g4,g16,g17,g18,hd,hho,hlen,hr,hlt,Nat.zero_add,a1,a2,a3,hg]);try rfl) ?_
        simp(maxSteps:=2000000) only[undef,am0,am1,am2,am3,amb0,amb1,amb2,amb3,amb4,lwn,drn,callee,wantedB,isW,eff,pev,pst0,retPost,resAll,resP,resV,intP,mkV,putC,pbin,sbin,strsEq,peq,pint,pshift,pstr,pun,pconv,isShift,isConstB,app,subS,lay,rowsOf,lkV,keyKind,keyEq,mfind,mput,oInt,isZeroInt,forall_const,exists_eq_left',implies_true,IntKind.bits, ↓reduceIte,Nat.reduceEqDiff,Nat.reduceAdd,Nat.reduceSub,Nat.reduceMul,Nat.reduceLT,Nat.reduceLeDiff,Nat.reduceBEq,Int.reduceLE,Int.reduceLT,Int.reduceToNat,reduceCtorEq,Ty.all,g4,g16,g17,g18,hd,hho,hlen,hr,hlt,Nat.zero_add,a1,a2,a3,hg]
        repeat'(first
         |refine a_seq fun K hK=>?_
         |(refine a_block ?_)
         |((first|refine a_regionS ?_|refine a_region (fun K hK=>?_)|refine a_ret ?_);simp(maxSteps:=2000000) only[undef,am0,am1,am2,am3,amb0,amb1,amb2,amb3,amb4,lwn,drn,callee,wantedB,isW,eff,pev,pst0,retPost,resAll,resP,resV,intP,mkV,putC,pbin,sbin,strsEq,peq,pint,pshift,pstr,pun,pconv,isShift,isConstB,app,subS,lay,rowsOf,lkV,keyKind,keyEq,mfind,mput,oInt,isZeroInt,forall_const,exists_eq_left',implies_true,IntKind.bits, ↓reduceIte,Nat.reduceEqDiff,Nat.reduceAdd,Nat.reduceSub,Nat.reduceMul,Nat.reduceLT,Nat.reduceLeDiff,Nat.reduceBEq,Int.reduceLE,Int.reduceLT,Int.reduceToNat,reduceCtorEq,Ty.all,g4,g16,g17,g18,hd,hho,hlen,hr,hlt,Nat.zero_add,a1,a2,a3,hg])
         |(refine a_skip ?_;try simp only[pst0, ↓reduceIte,Nat.reduceEqDiff])
         |(refine a_exit ?_;try simp only[pst0, ↓reduceIte,Nat.reduceEqDiff])
         |(refine a_cond _ (by(try simp(maxSteps:=2000000) only[undef,am0,am1,am2,am3,amb0,amb1,amb2,amb3,amb4,lwn,drn,callee,wantedB,isW,eff,pev,pst0,retPost,resAll,resP,resV,intP,mkV,putC,pbin,sbin,strsEq,peq,pint,pshift,pstr,pun,pconv,isShift,isConstB,app,subS,lay,rowsOf,lkV,keyKind,keyEq,mfind,mput,oInt,isZeroInt,forall_const,exists_eq_left',implies_true,IntKind.bits, ↓reduceIte,Nat.reduceEqDiff,Nat.reduceAdd,Nat.reduceSub,Nat.reduceMul,Nat.reduceLT,Nat.reduceLeDiff,Nat.reduceBEq,Int.reduceLE,Int.reduceLT,Int.reduceToNat,reduceCtorEq,Ty.all,g4,g16,g17,g18,hd,hho,hlen,hr,hlt,Nat.zero_add,a1,a2,a3,hg]);rfl) (fun hb=>?_) (fun hb=>?_)<;>(try simp only[hb0,decide_eq_true_eq,decide_eq_false_iff_not,reduceCtorEq]at hb)<;>(try(exfalso;omega)))
         |(with_reducible refine ite_in (fun hb=>?_) (fun hb=>?_)<;>(try simp only[Decidable.not_not]at hb)<;>(try simp only[hb,if_true,if_false,not_false_eq_true,not_true_eq_false, ↓reduceIte])<;>(try simp only[hb0,decide_eq_true_eq,decide_eq_false_iff_not,reduceCtorEq]at hb)<;>(try(exfalso;omega)))
         |(refine hK _ _ ?_;clear hK;try simp only[pst0, ↓reduceIte,Nat.reduceEqDiff])
         |(clear hK;refine hK _ _ ?_;clear hK;try simp only[pst0, ↓reduceIte,Nat.reduceEqDiff])
         |(clear hK;clear hK;refine hK _ _ ?_;clear hK;try simp only[pst0, ↓reduceIte,Nat.reduceEqDiff])
         |(clear hK;clear hK;clear hK;refine hK _ _ ?_;clear hK;try simp only[pst0, ↓reduceIte,Nat.reduceEqDiff])
         |(rw[if_pos];rotate_left 1;omega;simp(maxSteps:=2000000) only[undef,am0,am1,am2,am3,amb0,amb1,amb2,amb3,amb4,lwn,drn,callee,wantedB,isW,eff,pev,pst0,retPost,resAll,resP,resV,intP,mkV,putC,pbin,sbin,strsEq,peq,pint,pshift,pstr,pun,pconv,isShift,isConstB,app,subS,lay,rowsOf,lkV,keyKind,keyEq,mfind,mput,oInt,isZeroInt,forall_const,exists_eq_left',implies_true,IntKind.bits, ↓reduceIte,Nat.reduceEqDiff,Nat.reduceAdd,Nat.reduceSub,Nat.reduceMul,Nat.reduceLT,Nat.reduceLeDiff,Nat.reduceBEq,Int.reduceLE,Int.reduceLT,Int.reduceToNat,reduceCtorEq,Ty.all,g4,g16,g17,g18,hd,hho,hlen,hr,hlt,Nat.zero_add,a1,a2,a3,hg]))
        refine owp_useQ (indexByte_c (s:=⟨#[45,95,63,58,60,62,61,43,42]⟩) (c:=c)) (by(try simp only[undef,am0,am1,am2,am3,amb0,amb1,amb2,amb3,amb4,lwn,drn,callee,wantedB,isW,eff,pev,pst0,retPost,resAll,resP,resV,intP,mkV,putC,pbin,sbin,strsEq,peq,pint,pshift,pstr,pun,pconv,isShift,isConstB,app,subS,lay,rowsOf,lkV,keyKind,keyEq,mfind,mput,oInt,isZeroInt,forall_const,exists_eq_left',implies_true,IntKind.bits, ↓reduceIte,Nat.reduceEqDiff,Nat.reduceAdd,Nat.reduceSub,Nat.reduceMul,Nat.reduceLT,Nat.reduceLeDiff,Nat.reduceBEq,Int.reduceLE,Int.reduceLT,Int.reduceToNat,reduceCtorEq,g4,g16,g17,g18,hd,hho,hlen,hr,hlt,Nat.zero_add,a1,a2,a3,hg,hfi]);try rfl) ?_
        simp(maxSteps:=2000000) only[undef,am0,am1,am2,am3,amb0,amb1,amb2,amb3,amb4,lwn,drn,callee,wantedB,isW,eff,pev,pst0,retPost,resAll,resP,resV,intP,mkV,putC,pbin,sbin,strsEq,peq,pint,pshift,pstr,pun,pconv,isShift,isConstB,app,subS,lay,rowsOf,lkV,keyKind,keyEq,mfind,mput,oInt,isZeroInt,forall_const,exists_eq_left',implies_true,IntKind.bits, ↓reduceIte,Nat.reduceEqDiff,Nat.reduceAdd,Nat.reduceSub,Nat.reduceMul,Nat.reduceLT,Nat.reduceLeDiff,Nat.reduceBEq,Int.reduceLE,Int.reduceLT,Int.reduceToNat,reduceCtorEq,Ty.all,g4,g16,g17,g18,hd,hho,hlen,hr,hlt,Nat.zero_add,a1,a2,a3,hg,hfi]
        repeat'(first
         |refine a_seq fun K hK=>?_
         |(refine a_block ?_)
         |((first|refine a_regionS ?_|refine a_region (fun K hK=>?_)|refine a_ret ?_);simp(maxSteps:=2000000) only[undef,am0,am1,am2,am3,amb0,amb1,amb2,amb3,amb4,lwn,drn,callee,wantedB,isW,eff,pev,pst0,retPost,resAll,resP,resV,intP,mkV,putC,pbin,sbin,strsEq,peq,pint,pshift,pstr,pun,pconv,isShift,isConstB,app,subS,lay,rowsOf,lkV,keyKind,keyEq,mfind,mput,oInt,isZeroInt,forall_const,exists_eq_left',implies_true,IntKind.bits, ↓reduceIte,Nat.reduceEqDiff,Nat.reduceAdd,Nat.reduceSub,Nat.reduceMul,Nat.reduceLT,Nat.reduceLeDiff,Nat.reduceBEq,Int.reduceLE,Int.reduceLT,Int.reduceToNat,reduceCtorEq,Ty.all,g4,g16,g17,g18,hd,hho,hlen,hr,hlt,Nat.zero_add,a1,a2,a3,hg,hfi])
         |(refine a_skip ?_;try simp only[pst0, ↓reduceIte,Nat.reduceEqDiff])
         |(refine a_exit ?_;try simp only[pst0, ↓reduceIte,Nat.reduceEqDiff])
         |(refine a_cond _ (by(try simp(maxSteps:=2000000) only[undef,am0,am1,am2,am3,amb0,amb1,amb2,amb3,amb4,lwn,drn,callee,wantedB,isW,eff,pev,pst0,retPost,resAll,resP,resV,intP,mkV,putC,pbin,sbin,strsEq,peq,pint,pshift,pstr,pun,pconv,isShift,isConstB,app,subS,lay,rowsOf,lkV,keyKind,keyEq,mfind,mput,oInt,isZeroInt,forall_const,exists_eq_left',implies_true,IntKind.bits, ↓reduceIte,Nat.reduceEqDiff,Nat.reduceAdd,Nat.reduceSub,Nat.reduceMul,Nat.reduceLT,Nat.reduceLeDiff,Nat.reduceBEq,Int.reduceLE,Int.reduceLT,Int.reduceToNat,reduceCtorEq,Ty.all,g4,g16,g17,g18,hd,hho,hlen,hr,hlt,Nat.zero_add,a1,a2,a3,hg,hfi]);rfl) (fun hb=>?_) (fun hb=>?_)<;>(try simp only[hb0,decide_eq_true_eq,decide_eq_false_iff_not,reduceCtorEq]at hb)<;>(try(exfalso;omega)))
         |(with_reducible refine ite_in (fun hb=>?_) (fun hb=>?_)<;>(try simp only[Decidable.not_not]at hb)<;>(try simp only[hb,if_true,if_false,not_false_eq_true,not_true_eq_false, ↓reduceIte])<;>(try simp only[hb0,decide_eq_true_eq,decide_eq_false_iff_not,reduceCtorEq]at hb)<;>(try(exfalso;omega)))
         |(refine hK _ _ ?_;clear hK;try simp only[pst0, ↓reduceIte,Nat.reduceEqDiff])
         |(clear hK;refine hK _ _ ?_;clear hK;try simp only[pst0, ↓reduceIte,Nat.reduceEqDiff])
         |(clear hK;clear hK;refine hK _ _ ?_;clear hK;try simp only[pst0, ↓reduceIte,Nat.reduceEqDiff])
         |(clear hK;clear hK;clear hK;refine hK _ _ ?_;clear hK;try simp only[pst0, ↓reduceIte,Nat.reduceEqDiff])
         |(rw[if_pos];rotate_left 1;omega;simp(maxSteps:=2000000) only[undef,am0,am1,am2,am3,amb0,amb1,amb2,amb3,amb4,lwn,drn,callee,wantedB,isW,eff,pev,pst0,retPost,resAll,resP,resV,intP,mkV,putC,pbin,sbin,strsEq,peq,pint,pshift,pstr,pun,pconv,isShift,isConstB,app,subS,lay,rowsOf,lkV,keyKind,keyEq,mfind,mput,oInt,isZeroInt,forall_const,exists_eq_left',implies_true,IntKind.bits, ↓reduceIte,Nat.reduceEqDiff,Nat.reduceAdd,Nat.reduceSub,Nat.reduceMul,Nat.reduceLT,Nat.reduceLeDiff,Nat.reduceBEq,Int.reduceLE,Int.reduceLT,Int.reduceToNat,reduceCtorEq,Ty.all,g4,g16,g17,g18,hd,hho,hlen,hr,hlt,Nat.zero_add,a1,a2,a3,hg,hfi]))
        exact⟨bad (by simp[lowB,hup,hw]),hgr⟩
     ·repeat' (first
       |refine a_seq fun K hK=>?_
       |(refine a_block ?_)
       |((first|refine a_regionS ?_|refine a_region (fun K hK=>?_)|refine a_ret ?_);simp(maxSteps:=2000000) only[undef,am0,am1,am2,am3,amb0,amb1,amb2,amb3,amb4,lwn,drn,callee,wantedB,isW,eff,pev,pst0,retPost,resAll,resP,resV,intP,mkV,putC,pbin,sbin,strsEq,peq,pint,pshift,pstr,pun,pconv,isShift,isConstB,app,subS,lay,rowsOf,lkV,keyKind,keyEq,mfind,mput,oInt,isZeroInt,forall_const,exists_eq_left',implies_true,IntKind.bits, ↓reduceIte,Nat.reduceEqDiff,Nat.reduceAdd,Nat.reduceSub,Nat.reduceMul,Nat.reduceLT,Nat.reduceLeDiff,Nat.reduceBEq,Int.reduceLE,Int.reduceLT,Int.reduceToNat,reduceCtorEq,Ty.all,g4,g16,g17,g18,hd,hho,hlen,hr,hlt,a1,a2,a3,a4,w7,Nat.zero_add])
       |(refine a_skip ?_;try simp only[pst0, ↓reduceIte,Nat.reduceEqDiff])
       |(refine a_exit ?_;try simp only[pst0, ↓reduceIte,Nat.reduceEqDiff])
       |(refine a_cond _ (by(try simp(maxSteps:=2000000) only[undef,am0,am1,am2,am3,amb0,amb1,amb2,amb3,amb4,lwn,drn,callee,wantedB,isW,eff,pev,pst0,retPost,resAll,resP,resV,intP,mkV,putC,pbin,sbin,strsEq,peq,pint,pshift,pstr,pun,pconv,isShift,isConstB,app,subS,lay,rowsOf,lkV,keyKind,keyEq,mfind,mput,oInt,isZeroInt,forall_const,exists_eq_left',implies_true,IntKind.bits, ↓reduceIte,Nat.reduceEqDiff,Nat.reduceAdd,Nat.reduceSub,Nat.reduceMul,Nat.reduceLT,Nat.reduceLeDiff,Nat.reduceBEq,Int.reduceLE,Int.reduceLT,Int.reduceToNat,reduceCtorEq,Ty.all,g4,g16,g17,g18,hd,hho,hlen,hr,hlt,a1,a2,a3,a4,w7,Nat.zero_add]);rfl) (fun hb=>?_) (fun hb=>?_)<;>(try simp only[hb0,decide_eq_true_eq,decide_eq_false_iff_not,reduceCtorEq]at hb)<;>(try(exfalso;omega)))
       |(with_reducible refine ite_in (fun hb=>?_) (fun hb=>?_)<;>(try simp only[Decidable.not_not]at hb)<;>(try simp only[hb,if_true,if_false,not_false_eq_true,not_true_eq_false, ↓reduceIte])<;>(try simp only[hb0,decide_eq_true_eq,decide_eq_false_iff_not,reduceCtorEq]at hb)<;>(try(exfalso;omega)))
       |(refine hK _ _ ?_;clear hK;try simp only[pst0, ↓reduceIte,Nat.reduceEqDiff])
       |(clear hK;refine hK _ _ ?_;clear hK;try simp only[pst0, ↓reduceIte,Nat.reduceEqDiff])
       |(clear hK;clear hK;refine hK _ _ ?_;clear hK;try simp only[pst0, ↓reduceIte,Nat.reduceEqDiff])
       |(clear hK;clear hK;clear hK;refine hK _ _ ?_;clear hK;try simp only[pst0, ↓reduceIte,Nat.reduceEqDiff])
       |(rw[if_pos];rotate_left 1;omega;simp(maxSteps:=2000000) only[undef,am0,am1,am2,am3,amb0,amb1,amb2,amb3,amb4,lwn,drn,callee,wantedB,isW,eff,pev,pst0,retPost,resAll,resP,resV,intP,mkV,putC,pbin,sbin,strsEq,peq,pint,pshift,pstr,pun,pconv,isShift,isConstB,app,subS,lay,rowsOf,lkV,keyKind,keyEq,mfind,mput,oInt,isZeroInt,forall_const,exists_eq_left',implies_true,IntKind.bits, ↓reduceIte,Nat.reduceEqDiff,Nat.reduceAdd,Nat.reduceSub,Nat.reduceMul,Nat.reduceLT,Nat.reduceLeDiff,Nat.reduceBEq,Int.reduceLE,Int.reduceLT,Int.reduceToNat,reduceCtorEq,Ty.all,g4,g16,g17,g18,hd,hho,hlen,hr,hlt,a1,a2,a3,a4,w7,Nat.zero_add]))
      exact⟨s.data.toList.length-(k+1),by omega,k+1,by simp,by omega,rfl,hI.keep hx (by simp[lowB,hup,wB,hlet])⟩
     ·cases hg:digB c with
      |true=>
       have hw:wB c=true:=by simp[wB,hg]
       repeat'(first
        |refine a_seq fun K hK=>?_
        |(refine a_block ?_)
        |((first|refine a_regionS ?_|refine a_region (fun K hK=>?_)|refine a_ret ?_);simp(maxSteps:=2000000) only[undef,am0,am1,am2,am3,amb0,amb1,amb2,amb3,amb4,lwn,drn,callee,wantedB,isW,eff,pev,pst0,retPost,resAll,resP,resV,intP,mkV,putC,pbin,sbin,strsEq,peq,pint,pshift,pstr,pun,pconv,isShift,isConstB,app,subS,lay,rowsOf,lkV,keyKind,keyEq,mfind,mput,oInt,isZeroInt,forall_const,exists_eq_left',implies_true,IntKind.bits, ↓reduceIte,Nat.reduceEqDiff,Nat.reduceAdd,Nat.reduceSub,Nat.reduceMul,Nat.reduceLT,Nat.reduceLeDiff,Nat.reduceBEq,Int.reduceLE,Int.reduceLT,Int.reduceToNat,reduceCtorEq,Ty.all,g4,g16,g17,g18,hd,hho,hlen,hr,hlt,Nat.zero_add,a1,a2,a3,a4])
        |(refine a_skip ?_;try simp only[pst0, ↓reduceIte,Nat.reduceEqDiff])
        |(refine a_exit ?_;try simp only[pst0, ↓reduceIte,Nat.reduceEqDiff])
        |(refine a_cond _ (by(try simp(maxSteps:=2000000) only[undef,am0,am1,am2,am3,amb0,amb1,amb2,amb3,amb4,lwn,drn,callee,wantedB,isW,eff,pev,pst0,retPost,resAll,resP,resV,intP,mkV,putC,pbin,sbin,strsEq,peq,pint,pshift,pstr,pun,pconv,isShift,isConstB,app,subS,lay,rowsOf,lkV,keyKind,keyEq,mfind,mput,oInt,isZeroInt,forall_const,exists_eq_left',implies_true,IntKind.bits, ↓reduceIte,Nat.reduceEqDiff,Nat.reduceAdd,Nat.reduceSub,Nat.reduceMul,Nat.reduceLT,Nat.reduceLeDiff,Nat.reduceBEq,Int.reduceLE,Int.reduceLT,Int.reduceToNat,reduceCtorEq,Ty.all,g4,g16,g17,g18,hd,hho,hlen,hr,hlt,Nat.zero_add,a1,a2,a3,a4]);rfl) (fun hb=>?_) (fun hb=>?_)<;>(try simp only[hb0,decide_eq_true_eq,decide_eq_false_iff_not,reduceCtorEq]at hb)<;>(try(exfalso;omega)))
        |(with_reducible refine ite_in (fun hb=>?_) (fun hb=>?_)<;>(try simp only[Decidable.not_not]at hb)<;>(try simp only[hb,if_true,if_false,not_false_eq_true,not_true_eq_false, ↓reduceIte])<;>(try simp only[hb0,decide_eq_true_eq,decide_eq_false_iff_not,reduceCtorEq]at hb)<;>(try(exfalso;omega)))
        |(refine hK _ _ ?_;clear hK;try simp only[pst0, ↓reduceIte,Nat.reduceEqDiff])
        |(clear hK;refine hK _ _ ?_;clear hK;try simp only[pst0, ↓reduceIte,Nat.reduceEqDiff])
        |(clear hK;clear hK;refine hK _ _ ?_;clear hK;try simp only[pst0, ↓reduceIte,Nat.reduceEqDiff])
        |(clear hK;clear hK;clear hK;refine hK _ _ ?_;clear hK;try simp only[pst0, ↓reduceIte,Nat.reduceEqDiff])
        |(rw[if_pos];rotate_left 1;omega;simp(maxSteps:=2000000) only[undef,am0,am1,am2,am3,amb0,amb1,amb2,amb3,amb4,lwn,drn,callee,wantedB,isW,eff,pev,pst0,retPost,resAll,resP,resV,intP,mkV,putC,pbin,sbin,strsEq,peq,pint,pshift,pstr,pun,pconv,isShift,isConstB,app,subS,lay,rowsOf,lkV,keyKind,keyEq,mfind,mput,oInt,isZeroInt,forall_const,exists_eq_left',implies_true,IntKind.bits, ↓reduceIte,Nat.reduceEqDiff,Nat.reduceAdd,Nat.reduceSub,Nat.reduceMul,Nat.reduceLT,Nat.reduceLeDiff,Nat.reduceBEq,Int.reduceLE,Int.reduceLT,Int.reduceToNat,reduceCtorEq,Ty.all,g4,g16,g17,g18,hd,hho,hlen,hr,hlt,Nat.zero_add,a1,a2,a3,a4]))
       refine owp_useQ (digit_c (c:=c)) (by(try simp only[undef,am0,am1,am2,am3,amb0,amb1,amb2,amb3,amb4,lwn,drn,callee,wantedB,isW,eff,pev,pst0,retPost,resAll,resP,resV,intP,mkV,putC,pbin,sbin,strsEq,peq,pint,pshift,pstr,pun,pconv,isShift,isConstB,app,subS,lay,rowsOf,lkV,keyKind,keyEq,mfind,mput,oInt,isZeroInt,forall_const,exists_eq_left',implies_true,IntKind.bits, ↓reduceIte,Nat.reduceEqDiff,Nat.reduceAdd,Nat.reduceSub,Nat.reduceMul,Nat.reduceLT,Nat.reduceLeDiff,Nat.reduceBEq,Int.reduceLE,Int.reduceLT,Int.reduceToNat,reduceCtorEq,g4,g16,g17,g18,hd,hho,hlen,hr,hlt,Nat.zero_add,a1,a2,a3,a4,hg]);try rfl) ?_
       simp(maxSteps:=2000000) only[undef,am0,am1,am2,am3,amb0,amb1,amb2,amb3,amb4,lwn,drn,callee,wantedB,isW,eff,pev,pst0,retPost,resAll,resP,resV,intP,mkV,putC,pbin,sbin,strsEq,peq,pint,pshift,pstr,pun,pconv,isShift,isConstB,app,subS,lay,rowsOf,lkV,keyKind,keyEq,mfind,mput,oInt,isZeroInt,forall_const,exists_eq_left',implies_true,IntKind.bits, ↓reduceIte,Nat.reduceEqDiff,Nat.reduceAdd,Nat.reduceSub,Nat.reduceMul,Nat.reduceLT,Nat.reduceLeDiff,Nat.reduceBEq,Int.reduceLE,Int.reduceLT,Int.reduceToNat,reduceCtorEq,Ty.all,g4,g16,g17,g18,hd,hho,hlen,hr,hlt,Nat.zero_add,a1,a2,a3,a4,hg]
       repeat'(first
        |refine a_seq fun K hK=>?_
        |(refine a_block ?_)
        |((first|refine a_regionS ?_|refine a_region (fun K hK=>?_)|refine a_ret ?_);simp(maxSteps:=2000000) only[undef,am0,am1,am2,am3,amb0,amb1,amb2,amb3,amb4,lwn,drn,callee,wantedB,isW,eff,pev,pst0,retPost,resAll,resP,resV,intP,mkV,putC,pbin,sbin,strsEq,peq,pint,pshift,pstr,pun,pconv,isShift,isConstB,app,subS,lay,rowsOf,lkV,keyKind,keyEq,mfind,mput,oInt,isZeroInt,forall_const,exists_eq_left',implies_true,IntKind.bits, ↓reduceIte,Nat.reduceEqDiff,Nat.reduceAdd,Nat.reduceSub,Nat.reduceMul,Nat.reduceLT,Nat.reduceLeDiff,Nat.reduceBEq,Int.reduceLE,Int.reduceLT,Int.reduceToNat,reduceCtorEq,Ty.all,g4,g16,g17,g18,hd,hho,hlen,hr,hlt,Nat.zero_add,a1,a2,a3,a4,hg,w7])
        |(refine a_skip ?_;try simp only[pst0, ↓reduceIte,Nat.reduceEqDiff])
        |(refine a_exit ?_;try simp only[pst0, ↓reduceIte,Nat.reduceEqDiff])
        |(refine a_cond _ (by(try simp(maxSteps:=2000000) only[undef,am0,am1,am2,am3,amb0,amb1,amb2,amb3,amb4,lwn,drn,callee,wantedB,isW,eff,pev,pst0,retPost,resAll,resP,resV,intP,mkV,putC,pbin,sbin,strsEq,peq,pint,pshift,pstr,pun,pconv,isShift,isConstB,app,subS,lay,rowsOf,lkV,keyKind,keyEq,mfind,mput,oInt,isZeroInt,forall_const,exists_eq_left',implies_true,IntKind.bits, ↓reduceIte,Nat.reduceEqDiff,Nat.reduceAdd,Nat.reduceSub,Nat.reduceMul,Nat.reduceLT,Nat.reduceLeDiff,Nat.reduceBEq,Int.reduceLE,Int.reduceLT,Int.reduceToNat,reduceCtorEq,Ty.all,g4,g16,g17,g18,hd,hho,hlen,hr,hlt,Nat.zero_add,a1,a2,a3,a4,hg,w7]);rfl) (fun hb=>?_) (fun hb=>?_)<;>(try simp only[hb0,decide_eq_true_eq,decide_eq_false_iff_not,reduceCtorEq]at hb)<;>(try(exfalso;omega)))
        |(with_reducible refine ite_in (fun hb=>?_) (fun hb=>?_)<;>(try simp only[Decidable.not_not]at hb)<;>(try simp only[hb,if_true,if_false,not_false_eq_true,not_true_eq_false, ↓reduceIte])<;>(try simp only[hb0,decide_eq_true_eq,decide_eq_false_iff_not,reduceCtorEq]at hb)<;>(try(exfalso;omega)))
        |(refine hK _ _ ?_;clear hK;try simp only[pst0, ↓reduceIte,Nat.reduceEqDiff])
        |(clear hK;refine hK _ _ ?_;clear hK;try simp only[pst0, ↓reduceIte,Nat.reduceEqDiff])
        |(clear hK;clear hK;refine hK _ _ ?_;clear hK;try simp only[pst0, ↓reduceIte,Nat.reduceEqDiff])
        |(clear hK;clear hK;clear hK;refine hK _ _ ?_;clear hK;try simp only[pst0, ↓reduceIte,Nat.reduceEqDiff])
        |(rw[if_pos];rotate_left 1;omega;simp(maxSteps:=2000000) only[undef,am0,am1,am2,am3,amb0,amb1,amb2,amb3,amb4,lwn,drn,callee,wantedB,isW,eff,pev,pst0,retPost,resAll,resP,resV,intP,mkV,putC,pbin,sbin,strsEq,peq,pint,pshift,pstr,pun,pconv,isShift,isConstB,app,subS,lay,rowsOf,lkV,keyKind,keyEq,mfind,mput,oInt,isZeroInt,forall_const,exists_eq_left',implies_true,IntKind.bits, ↓reduceIte,Nat.reduceEqDiff,Nat.reduceAdd,Nat.reduceSub,Nat.reduceMul,Nat.reduceLT,Nat.reduceLeDiff,Nat.reduceBEq,Int.reduceLE,Int.reduceLT,Int.reduceToNat,reduceCtorEq,Ty.all,g4,g16,g17,g18,hd,hho,hlen,hr,hlt,Nat.zero_add,a1,a2,a3,a4,hg,w7]))
       exact⟨s.data.toList.length-(k+1),by omega,k+1,by simp,by omega,rfl,hI.keep hx (by simp[lowB,hup,hw])⟩
      |false=>
       cases hs2:signs.contains c with
       |true=>
        have hw:wB c=true:=by simp only[wB,hs2,Bool.or_true]
        have hfi:decide (firstIdx ⟨#[45,95,63,58,60,62,61,43,42]⟩ c≥0)=true:=by rw[firstIdx_ge];exact hs2
        repeat'(first
         |refine a_seq fun K hK=>?_
         |(refine a_block ?_)
         |((first|refine a_regionS ?_|refine a_region (fun K hK=>?_)|refine a_ret ?_);simp(maxSteps:=2000000) only[undef,am0,am1,am2,am3,amb0,amb1,amb2,amb3,amb4,lwn,drn,callee,wantedB,isW,eff,pev,pst0,retPost,resAll,resP,resV,intP,mkV,putC,pbin,sbin,strsEq,peq,pint,pshift,pstr,pun,pconv,isShift,isConstB,app,subS,lay,rowsOf,lkV,keyKind,keyEq,mfind,mput,oInt,isZeroInt,forall_const,exists_eq_left',implies_true,IntKind.bits, ↓reduceIte,Nat.reduceEqDiff,Nat.reduceAdd,Nat.reduceSub,Nat.reduceMul,Nat.reduceLT,Nat.reduceLeDiff,Nat.reduceBEq,Int.reduceLE,Int.reduceLT,Int.reduceToNat,reduceCtorEq,Ty.all,g4,g16,g17,g18,hd,hho,hlen,hr,hlt,Nat.zero_add,a1,a2,a3,a4])
         |(refine a_skip ?_;try simp only[pst0, ↓reduceIte,Nat.reduceEqDiff])
         |(refine a_exit ?_;try simp only[pst0, ↓reduceIte,Nat.reduceEqDiff])
         |(refine a_cond _ (by(try simp(maxSteps:=2000000) only[undef,am0,am1,am2,am3,amb0,amb1,amb2,amb3,amb4,lwn,drn,callee,wantedB,isW,eff,pev,pst0,retPost,resAll,resP,resV,intP,mkV,putC,pbin,sbin,strsEq,peq,pint,pshift,pstr,pun,pconv,isShift,isConstB,app,subS,lay,rowsOf,lkV,keyKind,keyEq,mfind,mput,oInt,isZeroInt,forall_const,exists_eq_left',implies_true,IntKind.bits, ↓reduceIte,Nat.reduceEqDiff,Nat.reduceAdd,Nat.reduceSub,Nat.reduceMul,Nat.reduceLT,Nat.reduceLeDiff,Nat.reduceBEq,Int.reduceLE,Int.reduceLT,Int.reduceToNat,reduceCtorEq,Ty.all,g4,g16,g17,g18,hd,hho,hlen,hr,hlt,Nat.zero_add,a1,a2,a3,a4]);rfl) (fun hb=>?_) (fun hb=>?_)<;>(try simp only[hb0,decide_eq_true_eq,decide_eq_false_iff_not,reduceCtorEq]at hb)<;>(try(exfalso;omega)))
         |(with_reducible refine ite_in (fun hb=>?_) (fun hb=>?_)<;>(try simp only[Decidable.not_not]at hb)<;>(try simp only[hb,if_true,if_false,not_false_eq_true,not_true_eq_false, ↓reduceIte])<;>(try simp only[hb0,decide_eq_true_eq,decide_eq_false_iff_not,reduceCtorEq]at hb)<;>(try(exfalso;omega)))
         |(refine hK _ _ ?_;clear hK;try simp only[pst0, ↓reduceIte,Nat.reduceEqDiff])
         |(clear hK;refine hK _ _ ?_;clear hK;try simp only[pst0, ↓reduceIte,Nat.reduceEqDiff])
         |(clear hK;clear hK;refine hK _ _ ?_;clear hK;try simp only[pst0, ↓reduceIte,Nat.reduceEqDiff])
         |(clear hK;clear hK;clear hK;refine hK _ _ ?_;clear hK;try simp only[pst0, ↓reduceIte,Nat.reduceEqDiff])
         |(rw[if_pos];rotate_left 1;omega;simp(maxSteps:=2000000) only[undef,am0,am1,am2,am3,amb0,amb1,amb2,amb3,amb4,lwn,drn,callee,wantedB,isW,eff,pev,pst0,retPost,resAll,resP,resV,intP,mkV,putC,pbin,sbin,strsEq,peq,pint,pshift,pstr,pun,pconv,isShift,isConstB,app,subS,lay,rowsOf,lkV,keyKind,keyEq,mfind,mput,oInt,isZeroInt,forall_const,exists_eq_left',implies_true,IntKind.bits, ↓reduceIte,Nat.reduceEqDiff,Nat.reduceAdd,Nat.reduceSub,Nat.reduceMul,Nat.reduceLT,Nat.reduceLeDiff,Nat.reduceBEq,Int.reduceLE,Int.reduceLT,Int.reduceToNat,reduceCtorEq,Ty.all,g4,g16,g17,g18,hd,hho,hlen,hr,hlt,Nat.zero_add,a1,a2,a3,a4]))
        refine owp_useQ (digit_c (c:=c)) (by(try simp only[undef,am0,am1,am2,am3,amb0,amb1,amb2,amb3,amb4,lwn,drn,callee,wantedB,isW,eff,pev,pst0,retPost,resAll,resP,resV,intP,mkV,putC,pbin,sbin,strsEq,peq,pint,pshift,pstr,pun,pconv,isShift,isConstB,app,subS,lay,rowsOf,lkV,keyKind,keyEq,mfind,mput,oInt,isZeroInt,forall_const,exists_eq_left',implies_true,IntKind.bits, ↓reduceIte,Nat.reduceEqDiff,Nat.reduceAdd,Nat.reduceSub,Nat.reduceMul,Nat.reduceLT,Nat.reduceLeDiff,Nat.reduceBEq,Int.reduceLE,Int.reduceLT,Int.reduceToNat,reduceCtorEq,g4,g16,g17,g18,hd,hho,hlen,hr,hlt,Nat.zero_add,a1,a2,a3,a4,hg]);try rfl) ?_
        simp(maxSteps:=2000000) only[undef,am0,am1,am2,am3,amb0,amb1,amb2,amb3,amb4,lwn,drn,callee,wantedB,isW,eff,pev,pst0,retPost,resAll,resP,resV,intP,mkV,putC,pbin,sbin,strsEq,peq,pint,pshift,pstr,pun,pconv,isShift,isConstB,app,subS,lay,rowsOf,lkV,keyKind,keyEq,mfind,mput,oInt,isZeroInt,forall_const,exists_eq_left',implies_true,IntKind.bits, ↓reduceIte,Nat.reduceEqDiff,Nat.reduceAdd,Nat.reduceSub,Nat.reduceMul,Nat.reduceLT,Nat.reduceLeDiff,Nat.reduceBEq,Int.reduceLE,Int.reduceLT,Int.reduceToNat,reduceCtorEq,Ty.all,g4,g16,g17,g18,hd,hho,hlen,hr,hlt,Nat.zero_add,a1,a2,a3,a4,hg]
        repeat'(first
         |refine a_seq fun K hK=>?_
         |(refine a_block ?_)
         |((first|refine a_regionS ?_|refine a_region (fun K hK=>?_)|refine a_ret ?_);simp(maxSteps:=2000000) only[undef,am0,am1,am2,am3,amb0,amb1,amb2,amb3,amb4,lwn,drn,callee,wantedB,isW,eff,pev,pst0,retPost,resAll,resP,resV,intP,mkV,putC,pbin,sbin,strsEq,peq,pint,pshift,pstr,pun,pconv,isShift,isConstB,app,subS,lay,rowsOf,lkV,keyKind,keyEq,mfind,mput,oInt,isZeroInt,forall_const,exists_eq_left',implies_true,IntKind.bits, ↓reduceIte,Nat.reduceEqDiff,Nat.reduceAdd,Nat.reduceSub,Nat.reduceMul,Nat.reduceLT,Nat.reduceLeDiff,Nat.reduceBEq,Int.reduceLE,Int.reduceLT,Int.reduceToNat,reduceCtorEq,Ty.all,g4,g16,g17,g18,hd,hho,hlen,hr,hlt,Nat.zero_add,a1,a2,a3,a4,hg])
         |(refine a_skip ?_;try simp only[pst0, ↓reduceIte,Nat.reduceEqDiff])
         |(refine a_exit ?_;try simp only[pst0, ↓reduceIte,Nat.reduceEqDiff])
         |(refine a_cond _ (by(try simp(maxSteps:=2000000) only[undef,am0,am1,am2,am3,amb0,amb1,amb2,amb3,amb4,lwn,drn,callee,wantedB,isW,eff,pev,pst0,retPost,resAll,resP,resV,intP,mkV,putC,pbin,sbin,strsEq,peq,pint,pshift,pstr,pun,pconv,isShift,isConstB,app,subS,lay,rowsOf,lkV,keyKind,keyEq,mfind,mput,oInt,isZeroInt,forall_const,exists_eq_left',implies_true,IntKind.bits, ↓reduceIte,Nat.reduceEqDiff,Nat.reduceAdd,Nat.reduceSub,Nat.reduceMul,Nat.reduceLT,Nat.reduceLeDiff,Nat.reduceBEq,Int.reduceLE,Int.reduceLT,Int.reduceToNat,reduceCtorEq,Ty.all,g4,g16,g17,g18,hd,hho,hlen,hr,hlt,Nat.zero_add,a1,a2,a3,a4,hg]);rfl) (fun hb=>?_) (fun hb=>?_)<;>(try simp only[hb0,decide_eq_true_eq,decide_eq_false_iff_not,reduceCtorEq]at hb)<;>(try(exfalso;omega)))
         |(with_reducible refine ite_in (fun hb=>?_) (fun hb=>?_)<;>(try simp only[Decidable.not_not]at hb)<;>(try simp only[hb,if_true,if_false,not_false_eq_true,not_true_eq_false, ↓reduceIte])<;>(try simp only[hb0,decide_eq_true_eq,decide_eq_false_iff_not,reduceCtorEq]at hb)<;>(try(exfalso;omega)))
         |(refine hK _ _ ?_;clear hK;try simp only[pst0, ↓reduceIte,Nat.reduceEqDiff])
         |(clear hK;refine hK _ _ ?_;clear hK;try simp only[pst0, ↓reduceIte,Nat.reduceEqDiff])
         |(clear hK;clear hK;refine hK _ _ ?_;clear hK;try simp only[pst0, ↓reduceIte,Nat.reduceEqDiff])
         |(clear hK;clear hK;clear hK;refine hK _ _ ?_;clear hK;try simp only[pst0, ↓reduceIte,Nat.reduceEqDiff])
         |(rw[if_pos];rotate_left 1;omega;simp(maxSteps:=2000000) only[undef,am0,am1,am2,am3,amb0,amb1,amb2,amb3,amb4,lwn,drn,callee,wantedB,isW,eff,pev,pst0,retPost,resAll,resP,resV,intP,mkV,putC,pbin,sbin,strsEq,peq,pint,pshift,pstr,pun,pconv,isShift,isConstB,app,subS,lay,rowsOf,lkV,keyKind,keyEq,mfind,mput,oInt,isZeroInt,forall_const,exists_eq_left',implies_true,IntKind.bits, ↓reduceIte,Nat.reduceEqDiff,Nat.reduceAdd,Nat.reduceSub,Nat.reduceMul,Nat.reduceLT,Nat.reduceLeDiff,Nat.reduceBEq,Int.reduceLE,Int.reduceLT,Int.reduceToNat,reduceCtorEq,Ty.all,g4,g16,g17,g18,hd,hho,hlen,hr,hlt,Nat.zero_add,a1,a2,a3,a4,hg]))
        refine owp_useQ (indexByte_c (s:=⟨#[45,95,63,58,60,62,61,43,42]⟩) (c:=c)) (by(try simp only[undef,am0,am1,am2,am3,amb0,amb1,amb2,amb3,amb4,lwn,drn,callee,wantedB,isW,eff,pev,pst0,retPost,resAll,resP,resV,intP,mkV,putC,pbin,sbin,strsEq,peq,pint,pshift,pstr,pun,pconv,isShift,isConstB,app,subS,lay,rowsOf,lkV,keyKind,keyEq,mfind,mput,oInt,isZeroInt,forall_const,exists_eq_left',implies_true,IntKind.bits, ↓reduceIte,Nat.reduceEqDiff,Nat.reduceAdd,Nat.reduceSub,Nat.reduceMul,Nat.reduceLT,Nat.reduceLeDiff,Nat.reduceBEq,Int.reduceLE,Int.reduceLT,Int.reduceToNat,reduceCtorEq,g4,g16,g17,g18,hd,hho,hlen,hr,hlt,Nat.zero_add,a1,a2,a3,a4,hg,hfi]);try rfl) ?_
        simp(maxSteps:=2000000) only[undef,am0,am1,am2,am3,amb0,amb1,amb2,amb3,amb4,lwn,drn,callee,wantedB,isW,eff,pev,pst0,retPost,resAll,resP,resV,intP,mkV,putC,pbin,sbin,strsEq,peq,pint,pshift,pstr,pun,pconv,isShift,isConstB,app,subS,lay,rowsOf,lkV,keyKind,keyEq,mfind,mput,oInt,isZeroInt,forall_const,exists_eq_left',implies_true,IntKind.bits, ↓reduceIte,Nat.reduceEqDiff,Nat.reduceAdd,Nat.reduceSub,Nat.reduceMul,Nat.reduceLT,Nat.reduceLeDiff,Nat.reduceBEq,Int.reduceLE,Int.reduceLT,Int.reduceToNat,reduceCtorEq,Ty.all,g4,g16,g17,g18,hd,hho,hlen,hr,hlt,Nat.zero_add,a1,a2,a3,a4,hg,hfi]
        repeat'(first
         |refine a_seq fun K hK=>?_
         |(refine a_block ?_)
         |((first|refine a_regionS ?_|refine a_region (fun K hK=>?_)|refine a_ret ?_);simp(maxSteps:=2000000) only[undef,am0,am1,am2,am3,amb0,amb1,amb2,amb3,amb4,lwn,drn,callee,wantedB,isW,eff,pev,pst0,retPost,resAll,resP,resV,intP,mkV,putC,pbin,sbin,strsEq,peq,pint,pshift,pstr,pun,pconv,isShift,isConstB,app,subS,lay,rowsOf,lkV,keyKind,keyEq,mfind,mput,oInt,isZeroInt,forall_const,exists_eq_left',implies_true,IntKind.bits, ↓reduceIte,Nat.reduceEqDiff,Nat.reduceAdd,Nat.reduceSub,Nat.reduceMul,Nat.reduceLT,Nat.reduceLeDiff,Nat.reduceBEq,Int.reduceLE,Int.reduceLT,Int.reduceToNat,reduceCtorEq,Ty.all,g4,g16,g17,g18,hd,hho,hlen,hr,hlt,Nat.zero_add,a1,a2,a3,a4,hg,hfi,w7])
         |(refine a_skip ?_;try simp only[pst0, ↓reduceIte,Nat.reduceEqDiff])
         |(refine a_exit ?_;try simp only[pst0, ↓reduceIte,Nat.reduceEqDiff])
         |(refine a_cond _ (by(try simp(maxSteps:=2000000) only[undef,am0,am1,am2,am3,amb0,amb1,amb2,amb3,amb4,lwn,drn,callee,wantedB,isW,eff,pev,pst0,retPost,resAll,resP,resV,intP,mkV,putC,pbin,sbin,strsEq,peq,pint,pshift,pstr,pun,pconv,isShift,isConstB,app,subS,lay,rowsOf,lkV,keyKind,keyEq,mfind,mput,oInt,isZeroInt,forall_const,exists_eq_left',implies_true,IntKind.bits, ↓reduceIte,Nat.reduceEqDiff,Nat.reduceAdd,Nat.reduceSub,Nat.reduceMul,Nat.reduceLT,Nat.reduceLeDiff,Nat.reduceBEq,Int.reduceLE,Int.reduceLT,Int.reduceToNat,reduceCtorEq,Ty.all,g4,g16,g17,g18,hd,hho,hlen,hr,hlt,Nat.zero_add,a1,a2,a3,a4,hg,hfi,w7]);rfl) (fun hb=>?_) (fun hb=>?_)<;>(try simp only[hb0,decide_eq_true_eq,decide_eq_false_iff_not,reduceCtorEq]at hb)<;>(try(exfalso;omega)))
         |(with_reducible refine ite_in (fun hb=>?_) (fun hb=>?_)<;>(try simp only[Decidable.not_not]at hb)<;>(try simp only[hb,if_true,if_false,not_false_eq_true,not_true_eq_false, ↓reduceIte])<;>(try simp only[hb0,decide_eq_true_eq,decide_eq_false_iff_not,reduceCtorEq]at hb)<;>(try(exfalso;omega)))
         |(refine hK _ _ ?_;clear hK;try simp only[pst0, ↓reduceIte,Nat.reduceEqDiff])
         |(clear hK;refine hK _ _ ?_;clear hK;try simp only[pst0, ↓reduceIte,Nat.reduceEqDiff])
         |(clear hK;clear hK;refine hK _ _ ?_;clear hK;try simp only[pst0, ↓reduceIte,Nat.reduceEqDiff])
         |(clear hK;clear hK;clear hK;refine hK _ _ ?_;clear hK;try simp only[pst0, ↓reduceIte,Nat.reduceEqDiff])
         |(rw[if_pos];rotate_left 1;omega;simp(maxSteps:=2000000) only[undef,am0,am1,am2,am3,amb0,amb1,amb2,amb3,amb4,lwn,drn,callee,wantedB,isW,eff,pev,pst0,retPost,resAll,resP,resV,intP,mkV,putC,pbin,sbin,strsEq,peq,pint,pshift,pstr,pun,pconv,isShift,isConstB,app,subS,lay,rowsOf,lkV,keyKind,keyEq,mfind,mput,oInt,isZeroInt,forall_const,exists_eq_left',implies_true,IntKind.bits, ↓reduceIte,Nat.reduceEqDiff,Nat.reduceAdd,Nat.reduceSub,Nat.reduceMul,Nat.reduceLT,Nat.reduceLeDiff,Nat.reduceBEq,Int.reduceLE,Int.reduceLT,Int.reduceToNat,reduceCtorEq,Ty.all,g4,g16,g17,g18,hd,hho,hlen,hr,hlt,Nat.zero_add,a1,a2,a3,a4,hg,hfi,w7]))
        exact⟨s.data.toList.length-(k+1),by omega,k+1,by simp,by omega,rfl,hI.keep hx (by simp[lowB,hup,hw])⟩
       |false=>
        have hw:wB c=false:=by simp only[wB,hs2,hg,hlet,Bool.or_false]
        have hfi:decide (firstIdx ⟨#[45,95,63,58,60,62,61,43,42]⟩ c≥0)=false:=by rw[firstIdx_ge];exact hs2
        repeat'(first
         |refine a_seq fun K hK=>?_
         |(refine a_block ?_)
         |((first|refine a_regionS ?_|refine a_region (fun K hK=>?_)|refine a_ret ?_);simp(maxSteps:=2000000) only[undef,am0,am1,am2,am3,amb0,amb1,amb2,amb3,amb4,lwn,drn,callee,wantedB,isW,eff,pev,pst0,retPost,resAll,resP,resV,intP,mkV,putC,pbin,sbin,strsEq,peq,pint,pshift,pstr,pun,pconv,isShift,isConstB,app,subS,lay,rowsOf,lkV,keyKind,keyEq,mfind,mput,oInt,isZeroInt,forall_const,exists_eq_left',implies_true,IntKind.bits, ↓reduceIte,Nat.reduceEqDiff,Nat.reduceAdd,Nat.reduceSub,Nat.reduceMul,Nat.reduceLT,Nat.reduceLeDiff,Nat.reduceBEq,Int.reduceLE,Int.reduceLT,Int.reduceToNat,reduceCtorEq,Ty.all,g4,g16,g17,g18,hd,hho,hlen,hr,hlt,Nat.zero_add,a1,a2,a3,a4])
         |(refine a_skip ?_;try simp only[pst0, ↓reduceIte,Nat.reduceEqDiff])
         |(refine a_exit ?_;try simp only[pst0, ↓reduceIte,Nat.reduceEqDiff])
         |(refine a_cond _ (by(try simp(maxSteps:=2000000) only[undef,am0,am1,am2,am3,amb0,amb1,amb2,amb3,amb4,lwn,drn,callee,wantedB,isW,eff,pev,pst0,retPost,resAll,resP,resV,intP,mkV,putC,pbin,sbin,strsEq,peq,pint,pshift,pstr,pun,pconv,isShift,isConstB,app,subS,lay,rowsOf,lkV,keyKind,keyEq,mfind,mput,oInt,isZeroInt,forall_const,exists_eq_left',implies_true,IntKind.bits, ↓reduceIte,Nat.reduceEqDiff,Nat.reduceAdd,Nat.reduceSub,Nat.reduceMul,Nat.reduceLT,Nat.reduceLeDiff,Nat.reduceBEq,Int.reduceLE,Int.reduceLT,Int.reduceToNat,reduceCtorEq,Ty.all,g4,g16,g17,g18,hd,hho,hlen,hr,hlt,Nat.zero_add,a1,a2,a3,a4]);rfl) (fun hb=>?_) (fun hb=>?_)<;>(try simp only[hb0,decide_eq_true_eq,decide_eq_false_iff_not,reduceCtorEq]at hb)<;>(try(exfalso;omega)))
         |(with_reducible refine ite_in (fun hb=>?_) (fun hb=>?_)<;>(try simp only[Decidable.not_not]at hb)<;>(try simp only[hb,if_true,if_false,not_false_eq_true,not_true_eq_false, ↓reduceIte])<;>(try simp only[hb0,decide_eq_true_eq,decide_eq_false_iff_not,reduceCtorEq]at hb)<;>(try(exfalso;omega)))
         |(refine hK _ _ ?_;clear hK;try simp only[pst0, ↓reduceIte,Nat.reduceEqDiff])
         |(clear hK;refine hK _ _ ?_;clear hK;try simp only[pst0, ↓reduceIte,Nat.reduceEqDiff])
         |(clear hK;clear hK;refine hK _ _ ?_;clear hK;try simp only[pst0, ↓reduceIte,Nat.reduceEqDiff])
         |(clear hK;clear hK;clear hK;refine hK _ _ ?_;clear hK;try simp only[pst0, ↓reduceIte,Nat.reduceEqDiff])
         |(rw[if_pos];rotate_left 1;omega;simp(maxSteps:=2000000) only[undef,am0,am1,am2,am3,amb0,amb1,amb2,amb3,amb4,lwn,drn,callee,wantedB,isW,eff,pev,pst0,retPost,resAll,resP,resV,intP,mkV,putC,pbin,sbin,strsEq,peq,pint,pshift,pstr,pun,pconv,isShift,isConstB,app,subS,lay,rowsOf,lkV,keyKind,keyEq,mfind,mput,oInt,isZeroInt,forall_const,exists_eq_left',implies_true,IntKind.bits, ↓reduceIte,Nat.reduceEqDiff,Nat.reduceAdd,Nat.reduceSub,Nat.reduceMul,Nat.reduceLT,Nat.reduceLeDiff,Nat.reduceBEq,Int.reduceLE,Int.reduceLT,Int.reduceToNat,reduceCtorEq,Ty.all,g4,g16,g17,g18,hd,hho,hlen,hr,hlt,Nat.zero_add,a1,a2,a3,a4]))
        refine owp_useQ (digit_c (c:=c)) (by(try simp only[undef,am0,am1,am2,am3,amb0,amb1,amb2,amb3,amb4,lwn,drn,callee,wantedB,isW,eff,pev,pst0,retPost,resAll,resP,resV,intP,mkV,putC,pbin,sbin,strsEq,peq,pint,pshift,pstr,pun,pconv,isShift,isConstB,app,subS,lay,rowsOf,lkV,keyKind,keyEq,mfind,mput,oInt,isZeroInt,forall_const,exists_eq_left',implies_true,IntKind.bits, ↓reduceIte,Nat.reduceEqDiff,Nat.reduceAdd,Nat.reduceSub,Nat.reduceMul,Nat.reduceLT,Nat.reduceLeDiff,Nat.reduceBEq,Int.reduceLE,Int.reduceLT,Int.reduceToNat,reduceCtorEq,g4,g16,g17,g18,hd,hho,hlen,hr,hlt,Nat.zero_add,a1,a2,a3,a4,hg]);try rfl) ?_
        simp(maxSteps:=2000000) only[undef,am0,am1,am2,am3,amb0,amb1,amb2,amb3,amb4,lwn,drn,callee,wantedB,isW,eff,pev,pst0,retPost,resAll,resP,resV,intP,mkV,putC,pbin,sbin,strsEq,peq,pint,pshift,pstr,pun,pconv,isShift,isConstB,app,subS,lay,rowsOf,lkV,keyKind,keyEq,mfind,mput,oInt,isZeroInt,forall_const,exists_eq_left',implies_true,IntKind.bits, ↓reduceIte,Nat.reduceEqDiff,Nat.reduceAdd,Nat.reduceSub,Nat.reduceMul,Nat.reduceLT,Nat.reduceLeDiff,Nat.reduceBEq,Int.reduceLE,Int.reduceLT,Int.reduceToNat,reduceCtorEq,Ty.all,g4,g16,g17,g18,hd,hho,hlen,hr,hlt,Nat.zero_add,a1,a2,a3,a4,hg]
        repeat'(first
         |refine a_seq fun K hK=>?_
         |(refine a_block ?_)
         |((first|refine a_regionS ?_|refine a_region (fun K hK=>?_)|refine a_ret ?_);simp(maxSteps:=2000000) only[undef,am0,am1,am2,am3,amb0,amb1,amb2,amb3,amb4,lwn,drn,callee,wantedB,isW,eff,pev,pst0,retPost,resAll,resP,resV,intP,mkV,putC,pbin,sbin,strsEq,peq,pint,pshift,pstr,pun,pconv,isShift,isConstB,app,subS,lay,rowsOf,lkV,keyKind,keyEq,mfind,mput,oInt,isZeroInt,forall_const,exists_eq_left',implies_true,IntKind.bits, ↓reduceIte,Nat.reduceEqDiff,Nat.reduceAdd,Nat.reduceSub,Nat.reduceMul,Nat.reduceLT,Nat.reduceLeDiff,Nat.reduceBEq,Int.reduceLE,Int.reduceLT,Int.reduceToNat,reduceCtorEq,Ty.all,g4,g16,g17,g18,hd,hho,hlen,hr,hlt,Nat.zero_add,a1,a2,a3,a4,hg])
         |(refine a_skip ?_;try simp only[pst0, ↓reduceIte,Nat.reduceEqDiff])
         |(refine a_exit ?_;try simp only[pst0, ↓reduceIte,Nat.reduceEqDiff])
         |(refine a_cond _ (by(try simp(maxSteps:=2000000) only[undef,am0,am1,am2,am3,amb0,amb1,amb2,amb3,amb4,lwn,drn,callee,wantedB,isW,eff,pev,pst0,retPost,resAll,resP,resV,intP,mkV,putC,pbin,sbin,strsEq,peq,pint,pshift,pstr,pun,pconv,isShift,isConstB,app,subS,lay,rowsOf,lkV,keyKind,keyEq,mfind,mput,oInt,isZeroInt,forall_const,exists_eq_left',implies_true,IntKind.bits, ↓reduceIte,Nat.reduceEqDiff,Nat.reduceAdd,Nat.reduceSub,Nat.reduceMul,Nat.reduceLT,Nat.reduceLeDiff,Nat.reduceBEq,Int.reduceLE,Int.reduceLT,Int.reduceToNat,reduceCtorEq,Ty.all,g4,g16,g17,g18,hd,hho,hlen,hr,hlt,Nat.zero_add,a1,a2,a3,a4,hg]);rfl) (fun hb=>?_) (fun hb=>?_)<;>(try simp only[hb0,decide_eq_true_eq,decide_eq_false_iff_not,reduceCtorEq]at hb)<;>(try(exfalso;omega)))
         |(with_reducible refine ite_in (fun hb=>?_) (fun hb=>?_)<;>(try simp only[Decidable.not_not]at hb)<;>(try simp only[hb,if_true,if_false,not_false_eq_true,not_true_eq_false, ↓reduceIte])<;>(try simp only[hb0,decide_eq_true_eq,decide_eq_false_iff_not,reduceCtorEq]at hb)<;>(try(exfalso;omega)))
         |(refine hK _ _ ?_;clear hK;try simp only[pst0, ↓reduceIte,Nat.reduceEqDiff])
         |(clear hK;refine hK _ _ ?_;clear hK;try simp only[pst0, ↓reduceIte,Nat.reduceEqDiff])
         |(clear hK;clear hK;refine hK _ _ ?_;clear hK;try simp only[pst0, ↓reduceIte,Nat.reduceEqDiff])
         |(clear hK;clear hK;clear hK;refine hK _ _ ?_;clear hK;try simp only[pst0, ↓reduceIte,Nat.reduceEqDiff])
         |(rw[if_pos];rotate_left 1;omega;simp(maxSteps:=2000000) only[undef,am0,am1,am2,am3,amb0,amb1,amb2,amb3,amb4,lwn,drn,callee,wantedB,isW,eff,pev,pst0,retPost,resAll,resP,resV,intP,mkV,putC,pbin,sbin,strsEq,peq,pint,pshift,pstr,pun,pconv,isShift,isConstB,app,subS,lay,rowsOf,lkV,keyKind,keyEq,mfind,mput,oInt,isZeroInt,forall_const,exists_eq_left',implies_true,IntKind.bits, ↓reduceIte,Nat.reduceEqDiff,Nat.reduceAdd,Nat.reduceSub,Nat.reduceMul,Nat.reduceLT,Nat.reduceLeDiff,Nat.reduceBEq,Int.reduceLE,Int.reduceLT,Int.reduceToNat,reduceCtorEq,Ty.all,g4,g16,g17,g18,hd,hho,hlen,hr,hlt,Nat.zero_add,a1,a2,a3,a4,hg]))
        refine owp_useQ (indexByte_c (s:=⟨#[45,95,63,58,60,62,61,43,42]⟩) (c:=c)) (by(try simp only[undef,am0,am1,am2,am3,amb0,amb1,amb2,amb3,amb4,lwn,drn,callee,wantedB,isW,eff,pev,pst0,retPost,resAll,resP,resV,intP,mkV,putC,pbin,sbin,strsEq,peq,pint,pshift,pstr,pun,pconv,isShift,isConstB,app,subS,lay,rowsOf,lkV,keyKind,keyEq,mfind,mput,oInt,isZeroInt,forall_const,exists_eq_left',implies_true,IntKind.bits, ↓reduceIte,Nat.reduceEqDiff,Nat.reduceAdd,Nat.reduceSub,Nat.reduceMul,Nat.reduceLT,Nat.reduceLeDiff,Nat.reduceBEq,Int.reduceLE,Int.reduceLT,Int.reduceToNat,reduceCtorEq,g4,g16,g17,g18,hd,hho,hlen,hr,hlt,Nat.zero_add,a1,a2,a3,a4,hg,hfi]);try rfl) ?_
        simp(maxSteps:=2000000) only[undef,am0,am1,am2,am3,amb0,amb1,amb2,amb3,amb4,lwn,drn,callee,wantedB,isW,eff,pev,pst0,retPost,resAll,resP,resV,intP,mkV,putC,pbin,sbin,strsEq,peq,pint,pshift,pstr,pun,pconv,isShift,isConstB,app,subS,lay,rowsOf,lkV,keyKind,keyEq,mfind,mput,oInt,isZeroInt,forall_const,exists_eq_left',implies_true,IntKind.bits, ↓reduceIte,Nat.reduceEqDiff,Nat.reduceAdd,Nat.reduceSub,Nat.reduceMul,Nat.reduceLT,Nat.reduceLeDiff,Nat.reduceBEq,Int.reduceLE,Int.reduceLT,Int.reduceToNat,reduceCtorEq,Ty.all,g4,g16,g17,g18,hd,hho,hlen,hr,hlt,Nat.zero_add,a1,a2,a3,a4,hg,hfi]
        repeat'(first
         |refine a_seq fun K hK=>?_
         |(refine a_block ?_)
         |((first|refine a_regionS ?_|refine a_region (fun K hK=>?_)|refine a_ret ?_);simp(maxSteps:=2000000) only[undef,am0,am1,am2,am3,amb0,amb1,amb2,amb3,amb4,lwn,drn,callee,wantedB,isW,eff,pev,pst0,retPost,resAll,resP,resV,intP,mkV,putC,pbin,sbin,strsEq,peq,pint,pshift,pstr,pun,pconv,isShift,isConstB,app,subS,lay,rowsOf,lkV,keyKind,keyEq,mfind,mput,oInt,isZeroInt,forall_const,exists_eq_left',implies_true,IntKind.bits, ↓reduceIte,Nat.reduceEqDiff,Nat.reduceAdd,Nat.reduceSub,Nat.reduceMul,Nat.reduceLT,Nat.reduceLeDiff,Nat.reduceBEq,Int.reduceLE,Int.reduceLT,Int.reduceToNat,reduceCtorEq,Ty.all,g4,g16,g17,g18,hd,hho,hlen,hr,hlt,Nat.zero_add,a1,a2,a3,a4,hg,hfi])
         |(refine a_skip ?_;try simp only[pst0, ↓reduceIte,Nat.reduceEqDiff])
         |(refine a_exit ?_;try simp only[pst0, ↓reduceIte,Nat.reduceEqDiff])
         |(refine a_cond _ (by(try simp(maxSteps:=2000000) only[undef,am0,am1,am2,am3,amb0,amb1,amb2,amb3,amb4,lwn,drn,callee,wantedB,isW,eff,pev,pst0,retPost,resAll,resP,resV,intP,mkV,putC,pbin,sbin,strsEq,peq,pint,pshift,pstr,pun,pconv,isShift,isConstB,app,subS,lay,rowsOf,lkV,keyKind,keyEq,mfind,mput,oInt,isZeroInt,forall_const,exists_eq_left',implies_true,IntKind.bits, ↓reduceIte,Nat.reduceEqDiff,Nat.reduceAdd,Nat.reduceSub,Nat.reduceMul,Nat.reduceLT,Nat.reduceLeDiff,Nat.reduceBEq,Int.reduceLE,Int.reduceLT,Int.reduceToNat,reduceCtorEq,Ty.all,g4,g16,g17,g18,hd,hho,hlen,hr,hlt,Nat.zero_add,a1,a2,a3,a4,hg,hfi]);rfl) (fun hb=>?_) (fun hb=>?_)<;>(try simp only[hb0,decide_eq_true_eq,decide_eq_false_iff_not,reduceCtorEq]at hb)<;>(try(exfalso;omega)))
         |(with_reducible refine ite_in (fun hb=>?_) (fun hb=>?_)<;>(try simp only[Decidable.not_not]at hb)<;>(try simp only[hb,if_true,if_false,not_false_eq_true,not_true_eq_false, ↓reduceIte])<;>(try simp only[hb0,decide_eq_true_eq,decide_eq_false_iff_not,reduceCtorEq]at hb)<;>(try(exfalso;omega)))
         |(refine hK _ _ ?_;clear hK;try simp only[pst0, ↓reduceIte,Nat.reduceEqDiff])
         |(clear hK;refine hK _ _ ?_;clear hK;try simp only[pst0, ↓reduceIte,Nat.reduceEqDiff])
         |(clear hK;clear hK;refine hK _ _ ?_;clear hK;try simp only[pst0, ↓reduceIte,Nat.reduceEqDiff])
         |(clear hK;clear hK;clear hK;refine hK _ _ ?_;clear hK;try simp only[pst0, ↓reduceIte,Nat.reduceEqDiff])
         |(rw[if_pos];rotate_left 1;omega;simp(maxSteps:=2000000) only[undef,am0,am1,am2,am3,amb0,amb1,amb2,amb3,amb4,lwn,drn,callee,wantedB,isW,eff,pev,pst0,retPost,resAll,resP,resV,intP,mkV,putC,pbin,sbin,strsEq,peq,pint,pshift,pstr,pun,pconv,isShift,isConstB,app,subS,lay,rowsOf,lkV,keyKind,keyEq,mfind,mput,oInt,isZeroInt,forall_const,exists_eq_left',implies_true,IntKind.bits, ↓reduceIte,Nat.reduceEqDiff,Nat.reduceAdd,Nat.reduceSub,Nat.reduceMul,Nat.reduceLT,Nat.reduceLeDiff,Nat.reduceBEq,Int.reduceLE,Int.reduceLT,Int.reduceToNat,reduceCtorEq,Ty.all,g4,g16,g17,g18,hd,hho,hlen,hr,hlt,Nat.zero_add,a1,a2,a3,a4,hg,hfi]))
        exact⟨bad (by simp[lowB,hup,hw]),hgr⟩
    ·have hd:decide ((k:Int)<(s.data.toList.length:Int))=false:=by simp;omega
     have hke:k=s.data.toList.length:=by omega
     subst hke
     obtain⟨p,hp,ho⟩:=hI.ex
     rw[List.take_length]at hp
     rw[List.drop_length,List.append_nil]at ho
     have hpl:=lowL_len hp
     have hlen:(bytesR p).length=s.data.toList.length:=by rw[bytesR_len];exact hpl
     have htk:List.take s.data.toList.length (bytesR p)=bytesR p:=by rw[List.take_of_length_le (by omega)]
     have hbr:=byteRow_bytesR p
     repeat'(first
      |refine a_seq fun K hK=>?_
      |(refine a_block ?_)
      |((first|refine a_regionS ?_|refine a_region (fun K hK=>?_)|refine a_ret ?_);simp(maxSteps:=2000000) only[undef,am0,am1,am2,am3,amb0,amb1,amb2,amb3,amb4,lwn,drn,callee,wantedB,isW,eff,pev,pst0,retPost,resAll,resP,resV,intP,mkV,putC,pbin,sbin,strsEq,peq,pint,pshift,pstr,pun,pconv,isShift,isConstB,app,subS,lay,rowsOf,lkV,keyKind,keyEq,mfind,mput,oInt,isZeroInt,forall_const,exists_eq_left',implies_true,IntKind.bits, ↓reduceIte,Nat.reduceEqDiff,Nat.reduceAdd,Nat.reduceSub,Nat.reduceMul,Nat.reduceLT,Nat.reduceLeDiff,Nat.reduceBEq,Int.reduceLE,Int.reduceLT,Int.reduceToNat,reduceCtorEq,Ty.all,g4,g16,g17,g18,hd,ho,hlen,htk,hbr,Nat.zero_add])
      |(refine a_skip ?_;try simp only[pst0, ↓reduceIte,Nat.reduceEqDiff])
      |(refine a_exit ?_;try simp only[pst0, ↓reduceIte,Nat.reduceEqDiff])
      |(refine a_cond _ (by(try simp(maxSteps:=2000000) only[undef,am0,am1,am2,am3,amb0,amb1,amb2,amb3,amb4,lwn,drn,callee,wantedB,isW,eff,pev,pst0,retPost,resAll,resP,resV,intP,mkV,putC,pbin,sbin,strsEq,peq,pint,pshift,pstr,pun,pconv,isShift,isConstB,app,subS,lay,rowsOf,lkV,keyKind,keyEq,mfind,mput,oInt,isZeroInt,forall_const,exists_eq_left',implies_true,IntKind.bits, ↓reduceIte,Nat.reduceEqDiff,Nat.reduceAdd,Nat.reduceSub,Nat.reduceMul,Nat.reduceLT,Nat.reduceLeDiff,Nat.reduceBEq,Int.reduceLE,Int.reduceLT,Int.reduceToNat,reduceCtorEq,Ty.all,g4,g16,g17,g18,hd,ho,hlen,htk,hbr,Nat.zero_add]);rfl) (fun hb=>?_) (fun hb=>?_)<;>(try simp only[hb0,decide_eq_true_eq,decide_eq_false_iff_not,reduceCtorEq]at hb)<;>(try(exfalso;omega)))
      |(with_reducible refine ite_in (fun hb=>?_) (fun hb=>?_)<;>(try simp only[Decidable.not_not]at hb)<;>(try simp only[hb,if_true,if_false,not_false_eq_true,not_true_eq_false, ↓reduceIte])<;>(try simp only[hb0,decide_eq_true_eq,decide_eq_false_iff_not,reduceCtorEq]at hb)<;>(try(exfalso;omega)))
      |(refine hK _ _ ?_;clear hK;try simp only[pst0, ↓reduceIte,Nat.reduceEqDiff])
      |(clear hK;refine hK _ _ ?_;clear hK;try simp only[pst0, ↓reduceIte,Nat.reduceEqDiff])
      |(clear hK;clear hK;refine hK _ _ ?_;clear hK;try simp only[pst0, ↓reduceIte,Nat.reduceEqDiff])
      |(clear hK;clear hK;clear hK;refine hK _ _ ?_;clear hK;try simp only[pst0, ↓reduceIte,Nat.reduceEqDiff])
      |(rw[if_pos];rotate_left 1;omega;simp(maxSteps:=2000000) only[undef,am0,am1,am2,am3,amb0,amb1,amb2,amb3,amb4,lwn,drn,callee,wantedB,isW,eff,pev,pst0,retPost,resAll,resP,resV,intP,mkV,putC,pbin,sbin,strsEq,peq,pint,pshift,pstr,pun,pconv,isShift,isConstB,app,subS,lay,rowsOf,lkV,keyKind,keyEq,mfind,mput,oInt,isZeroInt,forall_const,exists_eq_left',implies_true,IntKind.bits, ↓reduceIte,Nat.reduceEqDiff,Nat.reduceAdd,Nat.reduceSub,Nat.reduceMul,Nat.reduceLT,Nat.reduceLeDiff,Nat.reduceBEq,Int.reduceLE,Int.reduceLT,Int.reduceToNat,reduceCtorEq,Ty.all,g4,g16,g17,g18,hd,ho,hlen,htk,hbr,Nat.zero_add]))
     rw[hS,hp]
     exact⟨rfl,hI.grow⟩
end Go.Proofs.YtdbmemfnjnkefaaGreat
namespace Go.AM
variable {h:Heap}{id0 z:Nat}{p:PV}{rows:List (List PV)}
theorem owp_useH{P:Program}{ow:Nat→Bool}{n:Nat}{s:Slots}{f:FuncId}{dst:Option Tmp}{args:List Operand}{ts:Array TypeId}{ty:TypeId}{pos:String}{af:Array Edge}{gd:Option (Nat × Bool)}{ags:List PV}{v:PV}{h1:Heap}{K:Slots→Heap→Prop}{ops rest:List Oper}
  (hc:PCall P f ags h fun r h'=>r=v∧h'=h1)(ha:args.map (pev s)=ags)(hk:lwn P ow n ops rest K (updO s dst v) h1):
  owp P ow {dst:=dst,op:= .call {callee:= .value (.func f),args:=args.toArray,argTypes:=ts},type:=ty,pos:=pos,after:=af,guard:=gd} (lwp P ow n ops rest K) s h:=
 owp_useL hc ha fun r h' hr=>by rw[hr.1,hr.2];exact hk
end Go.AM
namespace Go.Proofs.YtdbmemfnjnkefaaGreat
open Go.AM
set_option maxHeartbeats 2000000
set_option maxRecDepth 20000
structure GrowX(h:Heap)(id:Nat)(o:AObj)(h':Heap):Prop where
 le:h.next≤h'.next
 old: ∀ i,i<h.next→i≠id→h'.obj i=h.obj i
 at_:h'.obj id=some o
theorem GrowX.new{h h':Heap}{id:Nat}{o o2:AObj}(g:GrowX h id o h')(hid:id<h.next):GrowX h id o (h'.new o2):=
 ⟨Nat.le_trans g.le (by simp[Heap.new]),fun i hi hne=>by simp only[Heap.new];rw[if_neg (by have:=g.le;omega)];exact g.old i hi hne,by simp only[Heap.new];rw[if_neg (by have:=g.le;omega)];exact g.at_⟩
theorem GrowX.set{h h':Heap}{id j:Nat}{o o2:AObj}(g:GrowX h id o h')(hid:id<h.next)(hj:h.next≤j):GrowX h id o (h'.set j o2):=
 ⟨g.le,fun i hi hne=>by simp only[Heap.set];rw[if_neg (by omega)];exact g.old i hi hne,by simp only[Heap.set];rw[if_neg (by omega)];exact g.at_⟩
theorem GrowX.put{h h':Heap}{id:Nat}{o o2:AObj}(g:GrowX h id o h'):GrowX h id o2 (h'.set id o2):=
 ⟨g.le,fun i hi hne=>by simp only[Heap.set];rw[if_neg hne];exact g.old i hi hne,by simp[Heap.set]⟩
theorem GrowX.refl{h:Heap}{id:Nat}{o:AObj}(ho:h.obj id=some o):GrowX h id o h:=⟨Nat.le_refl _,fun _ _ _=>rfl,ho⟩
theorem PCall.quietX{P:Program}{f:FuncId}{args:List PV}{h:Heap}{v:Value}{id:Nat}{o o0:AObj}(hb:hasBody P f=true)(hid:h.obj id=some o0)(hfl:inNO h.next o)(hc:PCall P f args h fun r h'=>r= .sc v∧GrowX h id o h'):
  PCall P f args h fun r h'=>r= .sc v∧h'=h.set id o:=by
 refine pcall_wf hb fun hw=>PCall.drop (hc.mono ?_)
 rintro r h' ⟨rfl,g⟩
 refine⟨.sc v,h.set id o,⟨rfl,rfl⟩,by simp only[FrzTo],Nat.le_refl _,fun i oo ho=>?_⟩
 have hlt:=hw id (by rw[hid];try rfl)
 simp only[Heap.set]at ho
 split at ho
 ·rename_i hi
  subst hi
  simp at ho
  subst ho
  exact⟨g.at_,hlt,.inr hfl⟩
 ·rename_i hi
  have h1:=hw i (by rw[ho];try rfl)
  exact⟨by rw[g.old i h1 hi];exact ho,h1,.inl ho⟩
theorem lowS_size(s:ByteArray):(lowS s).1.size≤32:=by
 unfold lowS
 split
 ·rename_i hc
  split
  ·rename_i l hl
   have h1:=lowL_len hl
   have hsl:s.data.toList.length=s.size:=by rw[Array.length_toList];try rfl
   have:(ByteArray.mk l.toArray).size=l.length:=by simp[ByteArray.size]
   simp only[this];omega
  ·simp [ByteArray.size]
 ·simp [ByteArray.size]
mutual
theorem svalid_le: ∀ (x:Sx)(d n:Nat),(svalid x d n).1=true→(svalid x d n).2≤4096
 | .mk kind value line col text kids,d,n=>by
  unfold svalid
  split
  ·simp
  ·rename_i hn
   split
   ·intro _;simp only;omega
   ·split
    ·intro _;simp only;omega
    ·split
     ·split
      ·exact svalids_le kids (d+1) (n+1) (by omega)
      ·simp
     ·simp
theorem svalids_le: ∀ (l:List Sx)(d n:Nat),n≤4096→(svalids l d n).1=true→(svalids l d n).2≤4096
 |[],d,n,hn=>by simp[svalids,hn]
 |k::ks,d,n,hn=>by
  unfold svalids
  have h1:=svalid_le k d n
  split
  ·rename_i n' he
   rw[he]at h1
   exact svalids_le ks d n' (h1 rfl)
  ·simp
end
theorem natc(n:Nat):((n+1:Nat):Int)=(n:Int)+1:=by simp
def cntO(n:Nat):AObj:= .arr 1 [[.sc (.int .i64 n)]]
theorem valid_c: ∀ (x:Sx),x.ok→ ∀ (d n:Nat),d≤32→n≤4096→ ∀ (id:Nat)(h:Heap),h.obj id=some (cntO n)→
  PCall Tryz.prog 162 [.agg x.cells,.sc (.int .i64 d),.ptr id 0 0] h fun r h'=>r= .sc (.bool (svalid x d n).1)∧h'=h.set id (cntO (svalid x d n).2):=by
 refine Sx.ind ?_
 intro kind value line col text kids ih hok d n hd hn id h ho
 simp only[Sx.ok]at hok
 obtain⟨_,_,ht,hk,hks⟩:=hok
 rw[Sx.oks_iff]at hks
 have hlen:=Sx.rows_len kids
 have wn:IntKind.i64.wrap ((n:Int)+1)=(n:Int)+1:=by rw[wrap64 (by omega) (by omega)]
 refine pcall_wf Ty.hb_162 fun hwf=>?_
 have hid:id<h.next:=hwf id (by rw[ho];try rfl)
 refine PCall.quietX Ty.hb_162 ho (by simp[cntO,inNO,inNR,inNL,inN]) ?_
 have ho':=ho
 simp only[cntO]at ho'
 have G1:GrowX h id (cntO (n+1)) (h.set id (.arr 1 [[.sc (.int .i64 ((n:Int)+1))]])):=by
  have:=(GrowX.refl ho).put (o2:=cntO (n+1))
  simp only[cntO,natc]at this⊢
  exact this
 unfold svalid
 simp only[Sx.cells]
 cases b0:decide ((n:Int)+1>4096)with
 |true=>
  rw[if_pos (by simp at b0;omega)]
  refine pcall_body (ow:=fun _=>false) (wf:=fun _=>false) Ty.mixed Tryz.func162 rfl Ty.hb_162 (by rw[Tryz.ntmps162];simp) ?_
  rw[Tryz.ntmps162,Tryz.results162]
  repeat'(first
   |refine a_seq fun K hK=>?_
   |(refine a_block ?_)
   |((first|refine a_regionS ?_|refine a_region (fun K hK=>?_)|refine a_ret ?_);simp(maxSteps:=2000000) only[undef,am0,am1,am2,am3,amb0,amb1,amb2,amb3,amb4,lwn,drn,callee,wantedB,isW,eff,pev,pst0,retPost,resAll,resP,resV,intP,mkV,putC,pbin,sbin,strsEq,peq,pint,pshift,pstr,pun,pconv,isShift,isConstB,app,subS,lay,rowsOf,lkV,keyKind,keyEq,mfind,mput,oInt,isZeroInt,forall_const,exists_eq_left',implies_true,IntKind.bits, ↓reduceIte,Nat.reduceEqDiff,Nat.reduceAdd,Nat.reduceSub,Nat.reduceMul,Nat.reduceLT,Nat.reduceLeDiff,Nat.reduceBEq,Int.reduceLE,Int.reduceLT,Int.reduceToNat,reduceCtorEq,Ty.all,ho',wn,b0])
   |(refine a_skip ?_;try simp only[pst0, ↓reduceIte,Nat.reduceEqDiff])
   |(refine a_exit ?_;try simp only[pst0, ↓reduceIte,Nat.reduceEqDiff])
   |(refine a_cond _ (by(try simp(maxSteps:=2000000) only[undef,am0,am1,am2,am3,amb0,amb1,amb2,amb3,amb4,lwn,drn,callee,wantedB,isW,eff,pev,pst0,retPost,resAll,resP,resV,intP,mkV,putC,pbin,sbin,strsEq,peq,pint,pshift,pstr,pun,pconv,isShift,isConstB,app,subS,lay,rowsOf,lkV,keyKind,keyEq,mfind,mput,oInt,isZeroInt,forall_const,exists_eq_left',implies_true,IntKind.bits, ↓reduceIte,Nat.reduceEqDiff,Nat.reduceAdd,Nat.reduceSub,Nat.reduceMul,Nat.reduceLT,Nat.reduceLeDiff,Nat.reduceBEq,Int.reduceLE,Int.reduceLT,Int.reduceToNat,reduceCtorEq,Ty.all,ho',wn,b0]);rfl) (fun hb=>?_) (fun hb=>?_)<;>(try simp only[hb0,decide_eq_true_eq,decide_eq_false_iff_not,reduceCtorEq]at hb)<;>(try(exfalso;omega)))
   |(with_reducible refine ite_in (fun hb=>?_) (fun hb=>?_)<;>(try simp only[Decidable.not_not]at hb)<;>(try simp only[hb,if_true,if_false,not_false_eq_true,not_true_eq_false, ↓reduceIte])<;>(try simp only[hb0,decide_eq_true_eq,decide_eq_false_iff_not,reduceCtorEq]at hb)<;>(try(exfalso;omega)))
   |(refine hK _ _ ?_;clear hK;try simp only[pst0, ↓reduceIte,Nat.reduceEqDiff])
   |(clear hK;refine hK _ _ ?_;clear hK;try simp only[pst0, ↓reduceIte,Nat.reduceEqDiff])
   |(clear hK;clear hK;refine hK _ _ ?_;clear hK;try simp only[pst0, ↓reduceIte,Nat.reduceEqDiff])
   |(clear hK;clear hK;clear hK;refine hK _ _ ?_;clear hK;try simp only[pst0, ↓reduceIte,Nat.reduceEqDiff])
   |(rw[if_pos];rotate_left 1;omega;simp(maxSteps:=2000000) only[undef,am0,am1,am2,am3,amb0,amb1,amb2,amb3,amb4,lwn,drn,callee,wantedB,isW,eff,pev,pst0,retPost,resAll,resP,resV,intP,mkV,putC,pbin,sbin,strsEq,peq,pint,pshift,pstr,pun,pconv,isShift,isConstB,app,subS,lay,rowsOf,lkV,keyKind,keyEq,mfind,mput,oInt,isZeroInt,forall_const,exists_eq_left',implies_true,IntKind.bits, ↓reduceIte,Nat.reduceEqDiff,Nat.reduceAdd,Nat.reduceSub,Nat.reduceMul,Nat.reduceLT,Nat.reduceLeDiff,Nat.reduceBEq,Int.reduceLE,Int.reduceLT,Int.reduceToNat,reduceCtorEq,Ty.all,ho',wn,b0]))
  first|exact G1|exact⟨rfl,G1⟩
 |false=>
  rw[if_neg (by simp at b0;omega)]
  cases k1:(kind==1)with
  |true=>
   have hk1:kind=1:=by simpa using k1
   rw[if_pos hk1]
   have e1:(kids.isEmpty)=((kids.length:Int)==0):=by cases kids<;>simp;omega
   have hlow:=fun h:Heap=>lower_c (h:=h) (s:=text)
   have hsz:=lowS_size text
   have hW:wordB text=((lowS text).2&&((lowS text).1.data.toList==text.data.toList)&&!(numB (lowS text).1)):=rfl
   generalize hL:lowS text=L at hlow hsz hW
   obtain⟨w,ok⟩:=L
   simp only at hlow hsz hW
   have hwb:w.size≤bigN:=by unfold bigN;omega
   rw[hW]
   cases ok with
   |false=>
    refine pcall_body (ow:=fun _=>false) (wf:=fun _=>false) Ty.mixed Tryz.func162 rfl Ty.hb_162 (by rw[Tryz.ntmps162];simp) ?_
    rw[Tryz.ntmps162,Tryz.results162]
    repeat'(first
     |refine a_seq fun K hK=>?_
     |(refine a_block ?_)
     |((first|refine a_regionS ?_|refine a_region (fun K hK=>?_)|refine a_ret ?_);simp(maxSteps:=2000000) only[undef,am0,am1,am2,am3,amb0,amb1,amb2,amb3,amb4,lwn,drn,callee,wantedB,isW,eff,pev,pst0,retPost,resAll,resP,resV,intP,mkV,putC,pbin,sbin,strsEq,peq,pint,pshift,pstr,pun,pconv,isShift,isConstB,app,subS,lay,rowsOf,lkV,keyKind,keyEq,mfind,mput,oInt,isZeroInt,forall_const,exists_eq_left',implies_true,IntKind.bits, ↓reduceIte,Nat.reduceEqDiff,Nat.reduceAdd,Nat.reduceSub,Nat.reduceMul,Nat.reduceLT,Nat.reduceLeDiff,Nat.reduceBEq,Int.reduceLE,Int.reduceLT,Int.reduceToNat,reduceCtorEq,Ty.all,ho',wn,b0,k1])
     |(refine a_skip ?_;try simp only[pst0, ↓reduceIte,Nat.reduceEqDiff])
     |(refine a_exit ?_;try simp only[pst0, ↓reduceIte,Nat.reduceEqDiff])
     |(refine a_cond _ (by(try simp(maxSteps:=2000000) only[undef,am0,am1,am2,am3,amb0,amb1,amb2,amb3,amb4,lwn,drn,callee,wantedB,isW,eff,pev,pst0,retPost,resAll,resP,resV,intP,mkV,putC,pbin,sbin,strsEq,peq,pint,pshift,pstr,pun,pconv,isShift,isConstB,app,subS,lay,rowsOf,lkV,keyKind,keyEq,mfind,mput,oInt,isZeroInt,forall_const,exists_eq_left',implies_true,IntKind.bits, ↓reduceIte,Nat.reduceEqDiff,Nat.reduceAdd,Nat.reduceSub,Nat.reduceMul,Nat.reduceLT,Nat.reduceLeDiff,Nat.reduceBEq,Int.reduceLE,Int.reduceLT,Int.reduceToNat,reduceCtorEq,Ty.all,ho',wn,b0,k1]);rfl) (fun hb=>?_) (fun hb=>?_)<;>(try simp only[hb0,decide_eq_true_eq,decide_eq_false_iff_not,reduceCtorEq]at hb)<;>(try(exfalso;omega)))
     |(with_reducible refine ite_in (fun hb=>?_) (fun hb=>?_)<;>(try simp only[Decidable.not_not]at hb)<;>(try simp only[hb,if_true,if_false,not_false_eq_true,not_true_eq_false, ↓reduceIte])<;>(try simp only[hb0,decide_eq_true_eq,decide_eq_false_iff_not,reduceCtorEq]at hb)<;>(try(exfalso;omega)))
     |(refine hK _ _ ?_;clear hK;try simp only[pst0, ↓reduceIte,Nat.reduceEqDiff])
     |(clear hK;refine hK _ _ ?_;clear hK;try simp only[pst0, ↓reduceIte,Nat.reduceEqDiff])
     |(clear hK;clear hK;refine hK _ _ ?_;clear hK;try simp only[pst0, ↓reduceIte,Nat.reduceEqDiff])
     |(clear hK;clear hK;clear hK;refine hK _ _ ?_;clear hK;try simp only[pst0, ↓reduceIte,Nat.reduceEqDiff])
     |(rw[if_pos];rotate_left 1;omega;simp(maxSteps:=2000000) only[undef,am0,am1,am2,am3,amb0,amb1,amb2,amb3,amb4,lwn,drn,callee,wantedB,isW,eff,pev,pst0,retPost,resAll,resP,resV,intP,mkV,putC,pbin,sbin,strsEq,peq,pint,pshift,pstr,pun,pconv,isShift,isConstB,app,subS,lay,rowsOf,lkV,keyKind,keyEq,mfind,mput,oInt,isZeroInt,forall_const,exists_eq_left',implies_true,IntKind.bits, ↓reduceIte,Nat.reduceEqDiff,Nat.reduceAdd,Nat.reduceSub,Nat.reduceMul,Nat.reduceLT,Nat.reduceLeDiff,Nat.reduceBEq,Int.reduceLE,Int.reduceLT,Int.reduceToNat,reduceCtorEq,Ty.all,ho',wn,b0,k1]))
    refine owp_useQ (hlow _) (by(try simp only[undef,am0,am1,am2,am3,amb0,amb1,amb2,amb3,amb4,lwn,drn,callee,wantedB,isW,eff,pev,pst0,retPost,resAll,resP,resV,intP,mkV,putC,pbin,sbin,strsEq,peq,pint,pshift,pstr,pun,pconv,isShift,isConstB,app,subS,lay,rowsOf,lkV,keyKind,keyEq,mfind,mput,oInt,isZeroInt,forall_const,exists_eq_left',implies_true,IntKind.bits, ↓reduceIte,Nat.reduceEqDiff,Nat.reduceAdd,Nat.reduceSub,Nat.reduceMul,Nat.reduceLT,Nat.reduceLeDiff,Nat.reduceBEq,Int.reduceLE,Int.reduceLT,Int.reduceToNat,reduceCtorEq,ho',wn,b0,k1]);try rfl) ?_
    simp(maxSteps:=2000000) only[undef,am0,am1,am2,am3,amb0,amb1,amb2,amb3,amb4,lwn,drn,callee,wantedB,isW,eff,pev,pst0,retPost,resAll,resP,resV,intP,mkV,putC,pbin,sbin,strsEq,peq,pint,pshift,pstr,pun,pconv,isShift,isConstB,app,subS,lay,rowsOf,lkV,keyKind,keyEq,mfind,mput,oInt,isZeroInt,forall_const,exists_eq_left',implies_true,IntKind.bits, ↓reduceIte,Nat.reduceEqDiff,Nat.reduceAdd,Nat.reduceSub,Nat.reduceMul,Nat.reduceLT,Nat.reduceLeDiff,Nat.reduceBEq,Int.reduceLE,Int.reduceLT,Int.reduceToNat,reduceCtorEq,Ty.all,ho',wn,b0,k1]
    repeat'(first
     |refine a_seq fun K hK=>?_
     |(refine a_block ?_)
     |((first|refine a_regionS ?_|refine a_region (fun K hK=>?_)|refine a_ret ?_);simp(maxSteps:=2000000) only[undef,am0,am1,am2,am3,amb0,amb1,amb2,amb3,amb4,lwn,drn,callee,wantedB,isW,eff,pev,pst0,retPost,resAll,resP,resV,intP,mkV,putC,pbin,sbin,strsEq,peq,pint,pshift,pstr,pun,pconv,isShift,isConstB,app,subS,lay,rowsOf,lkV,keyKind,keyEq,mfind,mput,oInt,isZeroInt,forall_const,exists_eq_left',implies_true,IntKind.bits, ↓reduceIte,Nat.reduceEqDiff,Nat.reduceAdd,Nat.reduceSub,Nat.reduceMul,Nat.reduceLT,Nat.reduceLeDiff,Nat.reduceBEq,Int.reduceLE,Int.reduceLT,Int.reduceToNat,reduceCtorEq,Ty.all,ho',wn,b0,k1])
     |(refine a_skip ?_;try simp only[pst0, ↓reduceIte,Nat.reduceEqDiff])
     |(refine a_exit ?_;try simp only[pst0, ↓reduceIte,Nat.reduceEqDiff])
     |(refine a_cond _ (by(try simp(maxSteps:=2000000) only[undef,am0,am1,am2,am3,amb0,amb1,amb2,amb3,amb4,lwn,drn,callee,wantedB,isW,eff,pev,pst0,retPost,resAll,resP,resV,intP,mkV,putC,pbin,sbin,strsEq,peq,pint,pshift,pstr,pun,pconv,isShift,isConstB,app,subS,lay,rowsOf,lkV,keyKind,keyEq,mfind,mput,oInt,isZeroInt,forall_const,exists_eq_left',implies_true,IntKind.bits, ↓reduceIte,Nat.reduceEqDiff,Nat.reduceAdd,Nat.reduceSub,Nat.reduceMul,Nat.reduceLT,Nat.reduceLeDiff,Nat.reduceBEq,Int.reduceLE,Int.reduceLT,Int.reduceToNat,reduceCtorEq,Ty.all,ho',wn,b0,k1]);rfl) (fun hb=>?_) (fun hb=>?_)<;>(try simp only[hb0,decide_eq_true_eq,decide_eq_false_iff_not,reduceCtorEq]at hb)<;>(try(exfalso;omega)))
     |(with_reducible refine ite_in (fun hb=>?_) (fun hb=>?_)<;>(try simp only[Decidable.not_not]at hb)<;>(try simp only[hb,if_true,if_false,not_false_eq_true,not_true_eq_false, ↓reduceIte])<;>(try simp only[hb0,decide_eq_true_eq,decide_eq_false_iff_not,reduceCtorEq]at hb)<;>(try(exfalso;omega)))
     |(refine hK _ _ ?_;clear hK;try simp only[pst0, ↓reduceIte,Nat.reduceEqDiff])
     |(clear hK;refine hK _ _ ?_;clear hK;try simp only[pst0, ↓reduceIte,Nat.reduceEqDiff])
     |(clear hK;clear hK;refine hK _ _ ?_;clear hK;try simp only[pst0, ↓reduceIte,Nat.reduceEqDiff])
     |(clear hK;clear hK;clear hK;refine hK _ _ ?_;clear hK;try simp only[pst0, ↓reduceIte,Nat.reduceEqDiff])
     |(rw[if_pos];rotate_left 1;omega;simp(maxSteps:=2000000) only[undef,am0,am1,am2,am3,amb0,amb1,amb2,amb3,amb4,lwn,drn,callee,wantedB,isW,eff,pev,pst0,retPost,resAll,resP,resV,intP,mkV,putC,pbin,sbin,strsEq,peq,pint,pshift,pstr,pun,pconv,isShift,isConstB,app,subS,lay,rowsOf,lkV,keyKind,keyEq,mfind,mput,oInt,isZeroInt,forall_const,exists_eq_left',implies_true,IntKind.bits, ↓reduceIte,Nat.reduceEqDiff,Nat.reduceAdd,Nat.reduceSub,Nat.reduceMul,Nat.reduceLT,Nat.reduceLeDiff,Nat.reduceBEq,Int.reduceLE,Int.reduceLT,Int.reduceToNat,reduceCtorEq,Ty.all,ho',wn,b0,k1]))
    first|exact G1|exact⟨rfl,G1⟩
   |true=>
    cases c1:(w.data.toList==text.data.toList)with
    |false=>
     refine pcall_body (ow:=fun _=>false) (wf:=fun _=>false) Ty.mixed Tryz.func162 rfl Ty.hb_162 (by rw[Tryz.ntmps162];simp) ?_
     rw[Tryz.ntmps162,Tryz.results162]
     repeat'(first
      |refine a_seq fun K hK=>?_
      |(refine a_block ?_)
      |((first|refine a_regionS ?_|refine a_region (fun K hK=>?_)|refine a_ret ?_);simp(maxSteps:=2000000) only[undef,am0,am1,am2,am3,amb0,amb1,amb2,amb3,amb4,lwn,drn,callee,wantedB,isW,eff,pev,pst0,retPost,resAll,resP,resV,intP,mkV,putC,pbin,sbin,strsEq,peq,pint,pshift,pstr,pun,pconv,isShift,isConstB,app,subS,lay,rowsOf,lkV,keyKind,keyEq,mfind,mput,oInt,isZeroInt,forall_const,exists_eq_left',implies_true,IntKind.bits, ↓reduceIte,Nat.reduceEqDiff,Nat.reduceAdd,Nat.reduceSub,Nat.reduceMul,Nat.reduceLT,Nat.reduceLeDiff,Nat.reduceBEq,Int.reduceLE,Int.reduceLT,Int.reduceToNat,reduceCtorEq,Ty.all,ho',wn,b0,k1])
      |(refine a_skip ?_;try simp only[pst0, ↓reduceIte,Nat.reduceEqDiff])
      |(refine a_exit ?_;try simp only[pst0, ↓reduceIte,Nat.reduceEqDiff])
      |(refine a_cond _ (by(try simp(maxSteps:=2000000) only[undef,am0,am1,am2,am3,amb0,amb1,amb2,amb3,amb4,lwn,drn,callee,wantedB,isW,eff,pev,pst0,retPost,resAll,resP,resV,intP,mkV,putC,pbin,sbin,strsEq,peq,pint,pshift,pstr,pun,pconv,isShift,isConstB,app,subS,lay,rowsOf,lkV,keyKind,keyEq,mfind,mput,oInt,isZeroInt,forall_const,exists_eq_left',implies_true,IntKind.bits, ↓reduceIte,Nat.reduceEqDiff,Nat.reduceAdd,Nat.reduceSub,Nat.reduceMul,Nat.reduceLT,Nat.reduceLeDiff,Nat.reduceBEq,Int.reduceLE,Int.reduceLT,Int.reduceToNat,reduceCtorEq,Ty.all,ho',wn,b0,k1]);rfl) (fun hb=>?_) (fun hb=>?_)<;>(try simp only[hb0,decide_eq_true_eq,decide_eq_false_iff_not,reduceCtorEq]at hb)<;>(try(exfalso;omega)))
      |(with_reducible refine ite_in (fun hb=>?_) (fun hb=>?_)<;>(try simp only[Decidable.not_not]at hb)<;>(try simp only[hb,if_true,if_false,not_false_eq_true,not_true_eq_false, ↓reduceIte])<;>(try simp only[hb0,decide_eq_true_eq,decide_eq_false_iff_not,reduceCtorEq]at hb)<;>(try(exfalso;omega)))
      |(refine hK _ _ ?_;clear hK;try simp only[pst0, ↓reduceIte,Nat.reduceEqDiff])
      |(clear hK;refine hK _ _ ?_;clear hK;try simp only[pst0, ↓reduceIte,Nat.reduceEqDiff])
      |(clear hK;clear hK;refine hK _ _ ?_;clear hK;try simp only[pst0, ↓reduceIte,Nat.reduceEqDiff])
      |(clear hK;clear hK;clear hK;refine hK _ _ ?_;clear hK;try simp only[pst0, ↓reduceIte,Nat.reduceEqDiff])
      |(rw[if_pos];rotate_left 1;omega;simp(maxSteps:=2000000) only[undef,am0,am1,am2,am3,amb0,amb1,amb2,amb3,amb4,lwn,drn,callee,wantedB,isW,eff,pev,pst0,retPost,resAll,resP,resV,intP,mkV,putC,pbin,sbin,strsEq,peq,pint,pshift,pstr,pun,pconv,isShift,isConstB,app,subS,lay,rowsOf,lkV,keyKind,keyEq,mfind,mput,oInt,isZeroInt,forall_const,exists_eq_left',implies_true,IntKind.bits, ↓reduceIte,Nat.reduceEqDiff,Nat.reduceAdd,Nat.reduceSub,Nat.reduceMul,Nat.reduceLT,Nat.reduceLeDiff,Nat.reduceBEq,Int.reduceLE,Int.reduceLT,Int.reduceToNat,reduceCtorEq,Ty.all,ho',wn,b0,k1]))
     refine owp_useQ (hlow _) (by(try simp only[undef,am0,am1,am2,am3,amb0,amb1,amb2,amb3,amb4,lwn,drn,callee,wantedB,isW,eff,pev,pst0,retPost,resAll,resP,resV,intP,mkV,putC,pbin,sbin,strsEq,peq,pint,pshift,pstr,pun,pconv,isShift,isConstB,app,subS,lay,rowsOf,lkV,keyKind,keyEq,mfind,mput,oInt,isZeroInt,forall_const,exists_eq_left',implies_true,IntKind.bits, ↓reduceIte,Nat.reduceEqDiff,Nat.reduceAdd,Nat.reduceSub,Nat.reduceMul,Nat.reduceLT,Nat.reduceLeDiff,Nat.reduceBEq,Int.reduceLE,Int.reduceLT,Int.reduceToNat,reduceCtorEq,ho',wn,b0,k1]);try rfl) ?_
     simp(maxSteps:=2000000) only[undef,am0,am1,am2,am3,amb0,amb1,amb2,amb3,amb4,lwn,drn,callee,wantedB,isW,eff,pev,pst0,retPost,resAll,resP,resV,intP,mkV,putC,pbin,sbin,strsEq,peq,pint,pshift,pstr,pun,pconv,isShift,isConstB,app,subS,lay,rowsOf,lkV,keyKind,keyEq,mfind,mput,oInt,isZeroInt,forall_const,exists_eq_left',implies_true,IntKind.bits, ↓reduceIte,Nat.reduceEqDiff,Nat.reduceAdd,Nat.reduceSub,Nat.reduceMul,Nat.reduceLT,Nat.reduceLeDiff,Nat.reduceBEq,Int.reduceLE,Int.reduceLT,Int.reduceToNat,reduceCtorEq,Ty.all,ho',wn,b0,k1]
     repeat'(first
      |refine a_seq fun K hK=>?_
      |(refine a_block ?_)
      |((first|refine a_regionS ?_|refine a_region (fun K hK=>?_)|refine a_ret ?_);simp(maxSteps:=2000000) only[undef,am0,am1,am2,am3,amb0,amb1,amb2,amb3,amb4,lwn,drn,callee,wantedB,isW,eff,pev,pst0,retPost,resAll,resP,resV,intP,mkV,putC,pbin,sbin,strsEq,peq,pint,pshift,pstr,pun,pconv,isShift,isConstB,app,subS,lay,rowsOf,lkV,keyKind,keyEq,mfind,mput,oInt,isZeroInt,forall_const,exists_eq_left',implies_true,IntKind.bits, ↓reduceIte,Nat.reduceEqDiff,Nat.reduceAdd,Nat.reduceSub,Nat.reduceMul,Nat.reduceLT,Nat.reduceLeDiff,Nat.reduceBEq,Int.reduceLE,Int.reduceLT,Int.reduceToNat,reduceCtorEq,Ty.all,ho',wn,b0,k1,c1])
      |(refine a_skip ?_;try simp only[pst0, ↓reduceIte,Nat.reduceEqDiff])
      |(refine a_exit ?_;try simp only[pst0, ↓reduceIte,Nat.reduceEqDiff])
      |(refine a_cond _ (by(try simp(maxSteps:=2000000) only[undef,am0,am1,am2,am3,amb0,amb1,amb2,amb3,amb4,lwn,drn,callee,wantedB,isW,eff,pev,pst0,retPost,resAll,resP,resV,intP,mkV,putC,pbin,sbin,strsEq,peq,pint,pshift,pstr,pun,pconv,isShift,isConstB,app,subS,lay,rowsOf,lkV,keyKind,keyEq,mfind,mput,oInt,isZeroInt,forall_const,exists_eq_left',implies_true,IntKind.bits, ↓reduceIte,Nat.reduceEqDiff,Nat.reduceAdd,Nat.reduceSub,Nat.reduceMul,Nat.reduceLT,Nat.reduceLeDiff,Nat.reduceBEq,Int.reduceLE,Int.reduceLT,Int.reduceToNat,reduceCtorEq,Ty.all,ho',wn,b0,k1,c1]);rfl) (fun hb=>?_) (fun hb=>?_)<;>(try simp only[hb0,decide_eq_true_eq,decide_eq_false_iff_not,reduceCtorEq]at hb)<;>(try(exfalso;omega)))
      |(with_reducible refine ite_in (fun hb=>?_) (fun hb=>?_)<;>(try simp only[Decidable.not_not]at hb)<;>(try simp only[hb,if_true,if_false,not_false_eq_true,not_true_eq_false, ↓reduceIte])<;>(try simp only[hb0,decide_eq_true_eq,decide_eq_false_iff_not,reduceCtorEq]at hb)<;>(try(exfalso;omega)))
      |(refine hK _ _ ?_;clear hK;try simp only[pst0, ↓reduceIte,Nat.reduceEqDiff])
      |(clear hK;refine hK _ _ ?_;clear hK;try simp only[pst0, ↓reduceIte,Nat.reduceEqDiff])
      |(clear hK;clear hK;refine hK _ _ ?_;clear hK;try simp only[pst0, ↓reduceIte,Nat.reduceEqDiff])
      |(clear hK;clear hK;clear hK;refine hK _ _ ?_;clear hK;try simp only[pst0, ↓reduceIte,Nat.reduceEqDiff])
      |(rw[if_pos];rotate_left 1;omega;simp(maxSteps:=2000000) only[undef,am0,am1,am2,am3,amb0,amb1,amb2,amb3,amb4,lwn,drn,callee,wantedB,isW,eff,pev,pst0,retPost,resAll,resP,resV,intP,mkV,putC,pbin,sbin,strsEq,peq,pint,pshift,pstr,pun,pconv,isShift,isConstB,app,subS,lay,rowsOf,lkV,keyKind,keyEq,mfind,mput,oInt,isZeroInt,forall_const,exists_eq_left',implies_true,IntKind.bits, ↓reduceIte,Nat.reduceEqDiff,Nat.reduceAdd,Nat.reduceSub,Nat.reduceMul,Nat.reduceLT,Nat.reduceLeDiff,Nat.reduceBEq,Int.reduceLE,Int.reduceLT,Int.reduceToNat,reduceCtorEq,Ty.all,ho',wn,b0,k1,c1]))
     first|exact G1|exact⟨rfl,G1⟩
    |true=>
     cases c2:numB w with
     |true=>
      refine pcall_body (ow:=fun _=>false) (wf:=fun _=>false) Ty.mixed Tryz.func162 rfl Ty.hb_162 (by rw[Tryz.ntmps162];simp) ?_
      rw[Tryz.ntmps162,Tryz.results162]
      repeat'(first
       |refine a_seq fun K hK=>?_
       |(refine a_block ?_)
       |((first|refine a_regionS ?_|refine a_region (fun K hK=>?_)|refine a_ret ?_);simp(maxSteps:=2000000) only[undef,am0,am1,am2,am3,amb0,amb1,amb2,amb3,amb4,lwn,drn,callee,wantedB,isW,eff,pev,pst0,retPost,resAll,resP,resV,intP,mkV,putC,pbin,sbin,strsEq,peq,pint,pshift,pstr,pun,pconv,isShift,isConstB,app,subS,lay,rowsOf,lkV,keyKind,keyEq,mfind,mput,oInt,isZeroInt,forall_const,exists_eq_left',implies_true,IntKind.bits, ↓reduceIte,Nat.reduceEqDiff,Nat.reduceAdd,Nat.reduceSub,Nat.reduceMul,Nat.reduceLT,Nat.reduceLeDiff,Nat.reduceBEq,Int.reduceLE,Int.reduceLT,Int.reduceToNat,reduceCtorEq,Ty.all,ho',wn,b0,k1])
       |(refine a_skip ?_;try simp only[pst0, ↓reduceIte,Nat.reduceEqDiff])
       |(refine a_exit ?_;try simp only[pst0, ↓reduceIte,Nat.reduceEqDiff])
       |(refine a_cond _ (by(try simp(maxSteps:=2000000) only[undef,am0,am1,am2,am3,amb0,amb1,amb2,amb3,amb4,lwn,drn,callee,wantedB,isW,eff,pev,pst0,retPost,resAll,resP,resV,intP,mkV,putC,pbin,sbin,strsEq,peq,pint,pshift,pstr,pun,pconv,isShift,isConstB,app,subS,lay,rowsOf,lkV,keyKind,keyEq,mfind,mput,oInt,isZeroInt,forall_const,exists_eq_left',implies_true,IntKind.bits, ↓reduceIte,Nat.reduceEqDiff,Nat.reduceAdd,Nat.reduceSub,Nat.reduceMul,Nat.reduceLT,Nat.reduceLeDiff,Nat.reduceBEq,Int.reduceLE,Int.reduceLT,Int.reduceToNat,reduceCtorEq,Ty.all,ho',wn,b0,k1]);rfl) (fun hb=>?_) (fun hb=>?_)<;>(try simp only[hb0,decide_eq_true_eq,decide_eq_false_iff_not,reduceCtorEq]at hb)<;>(try(exfalso;omega)))
       |(with_reducible refine ite_in (fun hb=>?_) (fun hb=>?_)<;>(try simp only[Decidable.not_not]at hb)<;>(try simp only[hb,if_true,if_false,not_false_eq_true,not_true_eq_false, ↓reduceIte])<;>(try simp only[hb0,decide_eq_true_eq,decide_eq_false_iff_not,reduceCtorEq]at hb)<;>(try(exfalso;omega)))
       |(refine hK _ _ ?_;clear hK;try simp only[pst0, ↓reduceIte,Nat.reduceEqDiff])
       |(clear hK;refine hK _ _ ?_;clear hK;try simp only[pst0, ↓reduceIte,Nat.reduceEqDiff])
       |(clear hK;clear hK;refine hK _ _ ?_;clear hK;try simp only[pst0, ↓reduceIte,Nat.reduceEqDiff])
       |(clear hK;clear hK;clear hK;refine hK _ _ ?_;clear hK;try simp only[pst0, ↓reduceIte,Nat.reduceEqDiff])
       |(rw[if_pos];rotate_left 1;omega;simp(maxSteps:=2000000) only[undef,am0,am1,am2,am3,amb0,amb1,amb2,amb3,amb4,lwn,drn,callee,wantedB,isW,eff,pev,pst0,retPost,resAll,resP,resV,intP,mkV,putC,pbin,sbin,strsEq,peq,pint,pshift,pstr,pun,pconv,isShift,isConstB,app,subS,lay,rowsOf,lkV,keyKind,keyEq,mfind,mput,oInt,isZeroInt,forall_const,exists_eq_left',implies_true,IntKind.bits, ↓reduceIte,Nat.reduceEqDiff,Nat.reduceAdd,Nat.reduceSub,Nat.reduceMul,Nat.reduceLT,Nat.reduceLeDiff,Nat.reduceBEq,Int.reduceLE,Int.reduceLT,Int.reduceToNat,reduceCtorEq,Ty.all,ho',wn,b0,k1]))
      refine owp_useQ (hlow _) (by(try simp only[undef,am0,am1,am2,am3,amb0,amb1,amb2,amb3,amb4,lwn,drn,callee,wantedB,isW,eff,pev,pst0,retPost,resAll,resP,resV,intP,mkV,putC,pbin,sbin,strsEq,peq,pint,pshift,pstr,pun,pconv,isShift,isConstB,app,subS,lay,rowsOf,lkV,keyKind,keyEq,mfind,mput,oInt,isZeroInt,forall_const,exists_eq_left',implies_true,IntKind.bits, ↓reduceIte,Nat.reduceEqDiff,Nat.reduceAdd,Nat.reduceSub,Nat.reduceMul,Nat.reduceLT,Nat.reduceLeDiff,Nat.reduceBEq,Int.reduceLE,Int.reduceLT,Int.reduceToNat,reduceCtorEq,ho',wn,b0,k1]);try rfl) ?_
      simp(maxSteps:=2000000) only[undef,am0,am1,am2,am3,amb0,amb1,amb2,amb3,amb4,lwn,drn,callee,wantedB,isW,eff,pev,pst0,retPost,resAll,resP,resV,intP,mkV,putC,pbin,sbin,strsEq,peq,pint,pshift,pstr,pun,pconv,isShift,isConstB,app,subS,lay,rowsOf,lkV,keyKind,keyEq,mfind,mput,oInt,isZeroInt,forall_const,exists_eq_left',implies_true,IntKind.bits, ↓reduceIte,Nat.reduceEqDiff,Nat.reduceAdd,Nat.reduceSub,Nat.reduceMul,Nat.reduceLT,Nat.reduceLeDiff,Nat.reduceBEq,Int.reduceLE,Int.reduceLT,Int.reduceToNat,reduceCtorEq,Ty.all,ho',wn,b0,k1]
      repeat'(first
       |refine a_seq fun K hK=>?_
       |(refine a_block ?_)
       |((first|refine a_regionS ?_|refine a_region (fun K hK=>?_)|refine a_ret ?_);simp(maxSteps:=2000000) only[undef,am0,am1,am2,am3,amb0,amb1,amb2,amb3,amb4,lwn,drn,callee,wantedB,isW,eff,pev,pst0,retPost,resAll,resP,resV,intP,mkV,putC,pbin,sbin,strsEq,peq,pint,pshift,pstr,pun,pconv,isShift,isConstB,app,subS,lay,rowsOf,lkV,keyKind,keyEq,mfind,mput,oInt,isZeroInt,forall_const,exists_eq_left',implies_true,IntKind.bits, ↓reduceIte,Nat.reduceEqDiff,Nat.reduceAdd,Nat.reduceSub,Nat.reduceMul,Nat.reduceLT,Nat.reduceLeDiff,Nat.reduceBEq,Int.reduceLE,Int.reduceLT,Int.reduceToNat,reduceCtorEq,Ty.all,ho',wn,b0,k1,c1])
       |(refine a_skip ?_;try simp only[pst0, ↓reduceIte,Nat.reduceEqDiff])
       |(refine a_exit ?_;try simp only[pst0, ↓reduceIte,Nat.reduceEqDiff])
       |(refine a_cond _ (by(try simp(maxSteps:=2000000) only[undef,am0,am1,am2,am3,amb0,amb1,amb2,amb3,amb4,lwn,drn,callee,wantedB,isW,eff,pev,pst0,retPost,resAll,resP,resV,intP,mkV,putC,pbin,sbin,strsEq,peq,pint,pshift,pstr,pun,pconv,isShift,isConstB,app,subS,lay,rowsOf,lkV,keyKind,keyEq,mfind,mput,oInt,isZeroInt,forall_const,exists_eq_left',implies_true,IntKind.bits, ↓reduceIte,Nat.reduceEqDiff,Nat.reduceAdd,Nat.reduceSub,Nat.reduceMul,Nat.reduceLT,Nat.reduceLeDiff,Nat.reduceBEq,Int.reduceLE,Int.reduceLT,Int.reduceToNat,reduceCtorEq,Ty.all,ho',wn,b0,k1,c1]);rfl) (fun hb=>?_) (fun hb=>?_)<;>(try simp only[hb0,decide_eq_true_eq,decide_eq_false_iff_not,reduceCtorEq]at hb)<;>(try(exfalso;omega)))
       |(with_reducible refine ite_in (fun hb=>?_) (fun hb=>?_)<;>(try simp only[Decidable.not_not]at hb)<;>(try simp only[hb,if_true,if_false,not_false_eq_true,not_true_eq_false, ↓reduceIte])<;>(try simp only[hb0,decide_eq_true_eq,decide_eq_false_iff_not,reduceCtorEq]at hb)<;>(try(exfalso;omega)))
       |(refine hK _ _ ?_;clear hK;try simp only[pst0, ↓reduceIte,Nat.reduceEqDiff])
       |(clear hK;refine hK _ _ ?_;clear hK;try simp only[pst0, ↓reduceIte,Nat.reduceEqDiff])
       |(clear hK;clear hK;refine hK _ _ ?_;clear hK;try simp only[pst0, ↓reduceIte,Nat.reduceEqDiff])
       |(clear hK;clear hK;clear hK;refine hK _ _ ?_;clear hK;try simp only[pst0, ↓reduceIte,Nat.reduceEqDiff])
       |(rw[if_pos];rotate_left 1;omega;simp(maxSteps:=2000000) only[undef,am0,am1,am2,am3,amb0,amb1,amb2,amb3,amb4,lwn,drn,callee,wantedB,isW,eff,pev,pst0,retPost,resAll,resP,resV,intP,mkV,putC,pbin,sbin,strsEq,peq,pint,pshift,pstr,pun,pconv,isShift,isConstB,app,subS,lay,rowsOf,lkV,keyKind,keyEq,mfind,mput,oInt,isZeroInt,forall_const,exists_eq_left',implies_true,IntKind.bits, ↓reduceIte,Nat.reduceEqDiff,Nat.reduceAdd,Nat.reduceSub,Nat.reduceMul,Nat.reduceLT,Nat.reduceLeDiff,Nat.reduceBEq,Int.reduceLE,Int.reduceLT,Int.reduceToNat,reduceCtorEq,Ty.all,ho',wn,b0,k1,c1]))
      refine owp_useQ (numeric_c (s:=w) hwb) (by(try simp only[undef,am0,am1,am2,am3,amb0,amb1,amb2,amb3,amb4,lwn,drn,callee,wantedB,isW,eff,pev,pst0,retPost,resAll,resP,resV,intP,mkV,putC,pbin,sbin,strsEq,peq,pint,pshift,pstr,pun,pconv,isShift,isConstB,app,subS,lay,rowsOf,lkV,keyKind,keyEq,mfind,mput,oInt,isZeroInt,forall_const,exists_eq_left',implies_true,IntKind.bits, ↓reduceIte,Nat.reduceEqDiff,Nat.reduceAdd,Nat.reduceSub,Nat.reduceMul,Nat.reduceLT,Nat.reduceLeDiff,Nat.reduceBEq,Int.reduceLE,Int.reduceLT,Int.reduceToNat,reduceCtorEq,ho',wn,b0,k1,c1,c2,Bool.not_true]);try rfl) ?_
      simp(maxSteps:=2000000) only[undef,am0,am1,am2,am3,amb0,amb1,amb2,amb3,amb4,lwn,drn,callee,wantedB,isW,eff,pev,pst0,retPost,resAll,resP,resV,intP,mkV,putC,pbin,sbin,strsEq,peq,pint,pshift,pstr,pun,pconv,isShift,isConstB,app,subS,lay,rowsOf,lkV,keyKind,keyEq,mfind,mput,oInt,isZeroInt,forall_const,exists_eq_left',implies_true,IntKind.bits, ↓reduceIte,Nat.reduceEqDiff,Nat.reduceAdd,Nat.reduceSub,Nat.reduceMul,Nat.reduceLT,Nat.reduceLeDiff,Nat.reduceBEq,Int.reduceLE,Int.reduceLT,Int.reduceToNat,reduceCtorEq,Ty.all,ho',wn,b0,k1,c1,c2,Bool.not_true]
      repeat'(first
       |refine a_seq fun K hK=>?_
       |(refine a_block ?_)
       |((first|refine a_regionS ?_|refine a_region (fun K hK=>?_)|refine a_ret ?_);simp(maxSteps:=2000000) only[undef,am0,am1,am2,am3,amb0,amb1,amb2,amb3,amb4,lwn,drn,callee,wantedB,isW,eff,pev,pst0,retPost,resAll,resP,resV,intP,mkV,putC,pbin,sbin,strsEq,peq,pint,pshift,pstr,pun,pconv,isShift,isConstB,app,subS,lay,rowsOf,lkV,keyKind,keyEq,mfind,mput,oInt,isZeroInt,forall_const,exists_eq_left',implies_true,IntKind.bits, ↓reduceIte,Nat.reduceEqDiff,Nat.reduceAdd,Nat.reduceSub,Nat.reduceMul,Nat.reduceLT,Nat.reduceLeDiff,Nat.reduceBEq,Int.reduceLE,Int.reduceLT,Int.reduceToNat,reduceCtorEq,Ty.all,ho',wn,b0,k1,c1,c2,Bool.not_true])
       |(refine a_skip ?_;try simp only[pst0, ↓reduceIte,Nat.reduceEqDiff])
       |(refine a_exit ?_;try simp only[pst0, ↓reduceIte,Nat.reduceEqDiff])
       |(refine a_cond _ (by(try simp(maxSteps:=2000000) only[undef,am0,am1,am2,am3,amb0,amb1,amb2,amb3,amb4,lwn,drn,callee,wantedB,isW,eff,pev,pst0,retPost,resAll,resP,resV,intP,mkV,putC,pbin,sbin,strsEq,peq,pint,pshift,pstr,pun,pconv,isShift,isConstB,app,subS,lay,rowsOf,lkV,keyKind,keyEq,mfind,mput,oInt,isZeroInt,forall_const,exists_eq_left',implies_true,IntKind.bits, ↓reduceIte,Nat.reduceEqDiff,Nat.reduceAdd,Nat.reduceSub,Nat.reduceMul,Nat.reduceLT,Nat.reduceLeDiff,Nat.reduceBEq,Int.reduceLE,Int.reduceLT,Int.reduceToNat,reduceCtorEq,Ty.all,ho',wn,b0,k1,c1,c2,Bool.not_true]);rfl) (fun hb=>?_) (fun hb=>?_)<;>(try simp only[hb0,decide_eq_true_eq,decide_eq_false_iff_not,reduceCtorEq]at hb)<;>(try(exfalso;omega)))
       |(with_reducible refine ite_in (fun hb=>?_) (fun hb=>?_)<;>(try simp only[Decidable.not_not]at hb)<;>(try simp only[hb,if_true,if_false,not_false_eq_true,not_true_eq_false, ↓reduceIte])<;>(try simp only[hb0,decide_eq_true_eq,decide_eq_false_iff_not,reduceCtorEq]at hb)<;>(try(exfalso;omega)))
       |(refine hK _ _ ?_;clear hK;try simp only[pst0, ↓reduceIte,Nat.reduceEqDiff])
       |(clear hK;refine hK _ _ ?_;clear hK;try simp only[pst0, ↓reduceIte,Nat.reduceEqDiff])
       |(clear hK;clear hK;refine hK _ _ ?_;clear hK;try simp only[pst0, ↓reduceIte,Nat.reduceEqDiff])
       |(clear hK;clear hK;clear hK;refine hK _ _ ?_;clear hK;try simp only[pst0, ↓reduceIte,Nat.reduceEqDiff])
       |(rw[if_pos];rotate_left 1;omega;simp(maxSteps:=2000000) only[undef,am0,am1,am2,am3,amb0,amb1,amb2,amb3,amb4,lwn,drn,callee,wantedB,isW,eff,pev,pst0,retPost,resAll,resP,resV,intP,mkV,putC,pbin,sbin,strsEq,peq,pint,pshift,pstr,pun,pconv,isShift,isConstB,app,subS,lay,rowsOf,lkV,keyKind,keyEq,mfind,mput,oInt,isZeroInt,forall_const,exists_eq_left',implies_true,IntKind.bits, ↓reduceIte,Nat.reduceEqDiff,Nat.reduceAdd,Nat.reduceSub,Nat.reduceMul,Nat.reduceLT,Nat.reduceLeDiff,Nat.reduceBEq,Int.reduceLE,Int.reduceLT,Int.reduceToNat,reduceCtorEq,Ty.all,ho',wn,b0,k1,c1,c2,Bool.not_true]))
      first|exact G1|exact⟨rfl,G1⟩
     |false=>
      cases c3:(value==0)with
      |false=>
       have c3':decide (value=0)=false:=by simpa using c3
       refine pcall_body (ow:=fun _=>false) (wf:=fun _=>false) Ty.mixed Tryz.func162 rfl Ty.hb_162 (by rw[Tryz.ntmps162];simp) ?_
       rw[Tryz.ntmps162,Tryz.results162]
       repeat'(first
        |refine a_seq fun K hK=>?_
        |(refine a_block ?_)
        |((first|refine a_regionS ?_|refine a_region (fun K hK=>?_)|refine a_ret ?_);simp(maxSteps:=2000000) only[undef,am0,am1,am2,am3,amb0,amb1,amb2,amb3,amb4,lwn,drn,callee,wantedB,isW,eff,pev,pst0,retPost,resAll,resP,resV,intP,mkV,putC,pbin,sbin,strsEq,peq,pint,pshift,pstr,pun,pconv,isShift,isConstB,app,subS,lay,rowsOf,lkV,keyKind,keyEq,mfind,mput,oInt,isZeroInt,forall_const,exists_eq_left',implies_true,IntKind.bits, ↓reduceIte,Nat.reduceEqDiff,Nat.reduceAdd,Nat.reduceSub,Nat.reduceMul,Nat.reduceLT,Nat.reduceLeDiff,Nat.reduceBEq,Int.reduceLE,Int.reduceLT,Int.reduceToNat,reduceCtorEq,Ty.all,ho',wn,b0,k1])
        |(refine a_skip ?_;try simp only[pst0, ↓reduceIte,Nat.reduceEqDiff])
        |(refine a_exit ?_;try simp only[pst0, ↓reduceIte,Nat.reduceEqDiff])
        |(refine a_cond _ (by(try simp(maxSteps:=2000000) only[undef,am0,am1,am2,am3,amb0,amb1,amb2,amb3,amb4,lwn,drn,callee,wantedB,isW,eff,pev,pst0,retPost,resAll,resP,resV,intP,mkV,putC,pbin,sbin,strsEq,peq,pint,pshift,pstr,pun,pconv,isShift,isConstB,app,subS,lay,rowsOf,lkV,keyKind,keyEq,mfind,mput,oInt,isZeroInt,forall_const,exists_eq_left',implies_true,IntKind.bits, ↓reduceIte,Nat.reduceEqDiff,Nat.reduceAdd,Nat.reduceSub,Nat.reduceMul,Nat.reduceLT,Nat.reduceLeDiff,Nat.reduceBEq,Int.reduceLE,Int.reduceLT,Int.reduceToNat,reduceCtorEq,Ty.all,ho',wn,b0,k1]);rfl) (fun hb=>?_) (fun hb=>?_)<;>(try simp only[hb0,decide_eq_true_eq,decide_eq_false_iff_not,reduceCtorEq]at hb)<;>(try(exfalso;omega)))
        |(with_reducible refine ite_in (fun hb=>?_) (fun hb=>?_)<;>(try simp only[Decidable.not_not]at hb)<;>(try simp only[hb,if_true,if_false,not_false_eq_true,not_true_eq_false, ↓reduceIte])<;>(try simp only[hb0,decide_eq_true_eq,decide_eq_false_iff_not,reduceCtorEq]at hb)<;>(try(exfalso;omega)))
        |(refine hK _ _ ?_;clear hK;try simp only[pst0, ↓reduceIte,Nat.reduceEqDiff])
        |(clear hK;refine hK _ _ ?_;clear hK;try simp only[pst0, ↓reduceIte,Nat.reduceEqDiff])
        |(clear hK;clear hK;refine hK _ _ ?_;clear hK;try simp only[pst0, ↓reduceIte,Nat.reduceEqDiff])
        |(clear hK;clear hK;clear hK;refine hK _ _ ?_;clear hK;try simp only[pst0, ↓reduceIte,Nat.reduceEqDiff])
        |(rw[if_pos];rotate_left 1;omega;simp(maxSteps:=2000000) only[undef,am0,am1,am2,am3,amb0,amb1,amb2,amb3,amb4,lwn,drn,callee,wantedB,isW,eff,pev,pst0,retPost,resAll,resP,resV,intP,mkV,putC,pbin,sbin,strsEq,peq,pint,pshift,pstr,pun,pconv,isShift,isConstB,app,subS,lay,rowsOf,lkV,keyKind,keyEq,mfind,mput,oInt,isZeroInt,forall_const,exists_eq_left',implies_true,IntKind.bits, ↓reduceIte,Nat.reduceEqDiff,Nat.reduceAdd,Nat.reduceSub,Nat.reduceMul,Nat.reduceLT,Nat.reduceLeDiff,Nat.reduceBEq,Int.reduceLE,Int.reduceLT,Int.reduceToNat,reduceCtorEq,Ty.all,ho',wn,b0,k1]))
       refine owp_useQ (hlow _) (by(try simp only[undef,am0,am1,am2,am3,amb0,amb1,amb2,amb3,amb4,lwn,drn,callee,wantedB,isW,eff,pev,pst0,retPost,resAll,resP,resV,intP,mkV,putC,pbin,sbin,strsEq,peq,pint,pshift,pstr,pun,pconv,isShift,isConstB,app,subS,lay,rowsOf,lkV,keyKind,keyEq,mfind,mput,oInt,isZeroInt,forall_const,exists_eq_left',implies_true,IntKind.bits, ↓reduceIte,Nat.reduceEqDiff,Nat.reduceAdd,Nat.reduceSub,Nat.reduceMul,Nat.reduceLT,Nat.reduceLeDiff,Nat.reduceBEq,Int.reduceLE,Int.reduceLT,Int.reduceToNat,reduceCtorEq,ho',wn,b0,k1]);try rfl) ?_
       simp(maxSteps:=2000000) only[undef,am0,am1,am2,am3,amb0,amb1,amb2,amb3,amb4,lwn,drn,callee,wantedB,isW,eff,pev,pst0,retPost,resAll,resP,resV,intP,mkV,putC,pbin,sbin,strsEq,peq,pint,pshift,pstr,pun,pconv,isShift,isConstB,app,subS,lay,rowsOf,lkV,keyKind,keyEq,mfind,mput,oInt,isZeroInt,forall_const,exists_eq_left',implies_true,IntKind.bits, ↓reduceIte,Nat.reduceEqDiff,Nat.reduceAdd,Nat.reduceSub,Nat.reduceMul,Nat.reduceLT,Nat.reduceLeDiff,Nat.reduceBEq,Int.reduceLE,Int.reduceLT,Int.reduceToNat,reduceCtorEq,Ty.all,ho',wn,b0,k1]
       repeat'(first
        |refine a_seq fun K hK=>?_
        |(refine a_block ?_)
        |((first|refine a_regionS ?_|refine a_region (fun K hK=>?_)|refine a_ret ?_);simp(maxSteps:=2000000) only[undef,am0,am1,am2,am3,amb0,amb1,amb2,amb3,amb4,lwn,drn,callee,wantedB,isW,eff,pev,pst0,retPost,resAll,resP,resV,intP,mkV,putC,pbin,sbin,strsEq,peq,pint,pshift,pstr,pun,pconv,isShift,isConstB,app,subS,lay,rowsOf,lkV,keyKind,keyEq,mfind,mput,oInt,isZeroInt,forall_const,exists_eq_left',implies_true,IntKind.bits, ↓reduceIte,Nat.reduceEqDiff,Nat.reduceAdd,Nat.reduceSub,Nat.reduceMul,Nat.reduceLT,Nat.reduceLeDiff,Nat.reduceBEq,Int.reduceLE,Int.reduceLT,Int.reduceToNat,reduceCtorEq,Ty.all,ho',wn,b0,k1,c1])
        |(refine a_skip ?_;try simp only[pst0, ↓reduceIte,Nat.reduceEqDiff])
        |(refine a_exit ?_;try simp only[pst0, ↓reduceIte,Nat.reduceEqDiff])
        |(refine a_cond _ (by(try simp(maxSteps:=2000000) only[undef,am0,am1,am2,am3,amb0,amb1,amb2,amb3,amb4,lwn,drn,callee,wantedB,isW,eff,pev,pst0,retPost,resAll,resP,resV,intP,mkV,putC,pbin,sbin,strsEq,peq,pint,pshift,pstr,pun,pconv,isShift,isConstB,app,subS,lay,rowsOf,lkV,keyKind,keyEq,mfind,mput,oInt,isZeroInt,forall_const,exists_eq_left',implies_true,IntKind.bits, ↓reduceIte,Nat.reduceEqDiff,Nat.reduceAdd,Nat.reduceSub,Nat.reduceMul,Nat.reduceLT,Nat.reduceLeDiff,Nat.reduceBEq,Int.reduceLE,Int.reduceLT,Int.reduceToNat,reduceCtorEq,Ty.all,ho',wn,b0,k1,c1]);rfl) (fun hb=>?_) (fun hb=>?_)<;>(try simp only[hb0,decide_eq_true_eq,decide_eq_false_iff_not,reduceCtorEq]at hb)<;>(try(exfalso;omega)))
        |(with_reducible refine ite_in (fun hb=>?_) (fun hb=>?_)<;>(try simp only[Decidable.not_not]at hb)<;>(try simp only[hb,if_true,if_false,not_false_eq_true,not_true_eq_false, ↓reduceIte])<;>(try simp only[hb0,decide_eq_true_eq,decide_eq_false_iff_not,reduceCtorEq]at hb)<;>(try(exfalso;omega)))
        |(refine hK _ _ ?_;clear hK;try simp only[pst0, ↓reduceIte,Nat.reduceEqDiff])
        |(clear hK;refine hK _ _ ?_;clear hK;try simp only[pst0, ↓reduceIte,Nat.reduceEqDiff])
        |(clear hK;clear hK;refine hK _ _ ?_;clear hK;try simp only[pst0, ↓reduceIte,Nat.reduceEqDiff])
        |(clear hK;clear hK;clear hK;refine hK _ _ ?_;clear hK;try simp only[pst0, ↓reduceIte,Nat.reduceEqDiff])
        |(rw[if_pos];rotate_left 1;omega;simp(maxSteps:=2000000) only[undef,am0,am1,am2,am3,amb0,amb1,amb2,amb3,amb4,lwn,drn,callee,wantedB,isW,eff,pev,pst0,retPost,resAll,resP,resV,intP,mkV,putC,pbin,sbin,strsEq,peq,pint,pshift,pstr,pun,pconv,isShift,isConstB,app,subS,lay,rowsOf,lkV,keyKind,keyEq,mfind,mput,oInt,isZeroInt,forall_const,exists_eq_left',implies_true,IntKind.bits, ↓reduceIte,Nat.reduceEqDiff,Nat.reduceAdd,Nat.reduceSub,Nat.reduceMul,Nat.reduceLT,Nat.reduceLeDiff,Nat.reduceBEq,Int.reduceLE,Int.reduceLT,Int.reduceToNat,reduceCtorEq,Ty.all,ho',wn,b0,k1,c1]))
       refine owp_useQ (numeric_c (s:=w) hwb) (by(try simp only[undef,am0,am1,am2,am3,amb0,amb1,amb2,amb3,amb4,lwn,drn,callee,wantedB,isW,eff,pev,pst0,retPost,resAll,resP,resV,intP,mkV,putC,pbin,sbin,strsEq,peq,pint,pshift,pstr,pun,pconv,isShift,isConstB,app,subS,lay,rowsOf,lkV,keyKind,keyEq,mfind,mput,oInt,isZeroInt,forall_const,exists_eq_left',implies_true,IntKind.bits, ↓reduceIte,Nat.reduceEqDiff,Nat.reduceAdd,Nat.reduceSub,Nat.reduceMul,Nat.reduceLT,Nat.reduceLeDiff,Nat.reduceBEq,Int.reduceLE,Int.reduceLT,Int.reduceToNat,reduceCtorEq,ho',wn,b0,k1,c1,c2,c3,hlen,Bool.not_false]);try rfl) ?_
       simp(maxSteps:=2000000) only[undef,am0,am1,am2,am3,amb0,amb1,amb2,amb3,amb4,lwn,drn,callee,wantedB,isW,eff,pev,pst0,retPost,resAll,resP,resV,intP,mkV,putC,pbin,sbin,strsEq,peq,pint,pshift,pstr,pun,pconv,isShift,isConstB,app,subS,lay,rowsOf,lkV,keyKind,keyEq,mfind,mput,oInt,isZeroInt,forall_const,exists_eq_left',implies_true,IntKind.bits, ↓reduceIte,Nat.reduceEqDiff,Nat.reduceAdd,Nat.reduceSub,Nat.reduceMul,Nat.reduceLT,Nat.reduceLeDiff,Nat.reduceBEq,Int.reduceLE,Int.reduceLT,Int.reduceToNat,reduceCtorEq,Ty.all,ho',wn,b0,k1,c1,c2,c3,hlen,Bool.not_false]
       repeat'(first
        |refine a_seq fun K hK=>?_
        |(refine a_block ?_)
        |((first|refine a_regionS ?_|refine a_region (fun K hK=>?_)|refine a_ret ?_);simp(maxSteps:=2000000) only[undef,am0,am1,am2,am3,amb0,amb1,amb2,amb3,amb4,lwn,drn,callee,wantedB,isW,eff,pev,pst0,retPost,resAll,resP,resV,intP,mkV,putC,pbin,sbin,strsEq,peq,pint,pshift,pstr,pun,pconv,isShift,isConstB,app,subS,lay,rowsOf,lkV,keyKind,keyEq,mfind,mput,oInt,isZeroInt,forall_const,exists_eq_left',implies_true,IntKind.bits, ↓reduceIte,Nat.reduceEqDiff,Nat.reduceAdd,Nat.reduceSub,Nat.reduceMul,Nat.reduceLT,Nat.reduceLeDiff,Nat.reduceBEq,Int.reduceLE,Int.reduceLT,Int.reduceToNat,reduceCtorEq,Ty.all,ho',wn,b0,k1,c1,c2,c3,Bool.not_false])
        |(refine a_skip ?_;try simp only[pst0, ↓reduceIte,Nat.reduceEqDiff])
        |(refine a_exit ?_;try simp only[pst0, ↓reduceIte,Nat.reduceEqDiff])
        |(refine a_cond _ (by(try simp(maxSteps:=2000000) only[undef,am0,am1,am2,am3,amb0,amb1,amb2,amb3,amb4,lwn,drn,callee,wantedB,isW,eff,pev,pst0,retPost,resAll,resP,resV,intP,mkV,putC,pbin,sbin,strsEq,peq,pint,pshift,pstr,pun,pconv,isShift,isConstB,app,subS,lay,rowsOf,lkV,keyKind,keyEq,mfind,mput,oInt,isZeroInt,forall_const,exists_eq_left',implies_true,IntKind.bits, ↓reduceIte,Nat.reduceEqDiff,Nat.reduceAdd,Nat.reduceSub,Nat.reduceMul,Nat.reduceLT,Nat.reduceLeDiff,Nat.reduceBEq,Int.reduceLE,Int.reduceLT,Int.reduceToNat,reduceCtorEq,Ty.all,ho',wn,b0,k1,c1,c2,c3,Bool.not_false]);rfl) (fun hb=>?_) (fun hb=>?_)<;>(try simp only[hb0,decide_eq_true_eq,decide_eq_false_iff_not,reduceCtorEq]at hb)<;>(try(exfalso;omega)))
        |(with_reducible refine ite_in (fun hb=>?_) (fun hb=>?_)<;>(try simp only[Decidable.not_not]at hb)<;>(try simp only[hb,if_true,if_false,not_false_eq_true,not_true_eq_false, ↓reduceIte])<;>(try simp only[hb0,decide_eq_true_eq,decide_eq_false_iff_not,reduceCtorEq]at hb)<;>(try(exfalso;omega)))
        |(refine hK _ _ ?_;clear hK;try simp only[pst0, ↓reduceIte,Nat.reduceEqDiff])
        |(clear hK;refine hK _ _ ?_;clear hK;try simp only[pst0, ↓reduceIte,Nat.reduceEqDiff])
        |(clear hK;clear hK;refine hK _ _ ?_;clear hK;try simp only[pst0, ↓reduceIte,Nat.reduceEqDiff])
        |(clear hK;clear hK;clear hK;refine hK _ _ ?_;clear hK;try simp only[pst0, ↓reduceIte,Nat.reduceEqDiff])
        |(rw[if_pos];rotate_left 1;omega;simp(maxSteps:=2000000) only[undef,am0,am1,am2,am3,amb0,amb1,amb2,amb3,amb4,lwn,drn,callee,wantedB,isW,eff,pev,pst0,retPost,resAll,resP,resV,intP,mkV,putC,pbin,sbin,strsEq,peq,pint,pshift,pstr,pun,pconv,isShift,isConstB,app,subS,lay,rowsOf,lkV,keyKind,keyEq,mfind,mput,oInt,isZeroInt,forall_const,exists_eq_left',implies_true,IntKind.bits, ↓reduceIte,Nat.reduceEqDiff,Nat.reduceAdd,Nat.reduceSub,Nat.reduceMul,Nat.reduceLT,Nat.reduceLeDiff,Nat.reduceBEq,Int.reduceLE,Int.reduceLT,Int.reduceToNat,reduceCtorEq,Ty.all,ho',wn,b0,k1,c1,c2,c3,Bool.not_false]))
       first|exact G1|exact⟨by simp only[c3',Bool.and_false,Bool.false_and],G1⟩
      |true=>
       have c3':decide (value=0)=true:=by simpa using c3
       refine pcall_body (ow:=fun _=>false) (wf:=fun _=>false) Ty.mixed Tryz.func162 rfl Ty.hb_162 (by rw[Tryz.ntmps162];simp) ?_
       rw[Tryz.ntmps162,Tryz.results162]
       repeat'(first
        |refine a_seq fun K hK=>?_
        |(refine a_block ?_)
        |((first|refine a_regionS ?_|refine a_region (fun K hK=>?_)|refine a_ret ?_);simp(maxSteps:=2000000) only[undef,am0,am1,am2,am3,amb0,amb1,amb2,amb3,amb4,lwn,drn,callee,wantedB,isW,eff,pev,pst0,retPost,resAll,resP,resV,intP,mkV,putC,pbin,sbin,strsEq,peq,pint,pshift,pstr,pun,pconv,isShift,isConstB,app,subS,lay,rowsOf,lkV,keyKind,keyEq,mfind,mput,oInt,isZeroInt,forall_const,exists_eq_left',implies_true,IntKind.bits, ↓reduceIte,Nat.reduceEqDiff,Nat.reduceAdd,Nat.reduceSub,Nat.reduceMul,Nat.reduceLT,Nat.reduceLeDiff,Nat.reduceBEq,Int.reduceLE,Int.reduceLT,Int.reduceToNat,reduceCtorEq,Ty.all,ho',wn,b0,k1])
        |(refine a_skip ?_;try simp only[pst0, ↓reduceIte,Nat.reduceEqDiff])
        |(refine a_exit ?_;try simp only[pst0, ↓reduceIte,Nat.reduceEqDiff])
        |(refine a_cond _ (by(try simp(maxSteps:=2000000) only[undef,am0,am1,am2,am3,amb0,amb1,amb2,amb3,amb4,lwn,drn,callee,wantedB,isW,eff,pev,pst0,retPost,resAll,resP,resV,intP,mkV,putC,pbin,sbin,strsEq,peq,pint,pshift,pstr,pun,pconv,isShift,isConstB,app,subS,lay,rowsOf,lkV,keyKind,keyEq,mfind,mput,oInt,isZeroInt,forall_const,exists_eq_left',implies_true,IntKind.bits, ↓reduceIte,Nat.reduceEqDiff,Nat.reduceAdd,Nat.reduceSub,Nat.reduceMul,Nat.reduceLT,Nat.reduceLeDiff,Nat.reduceBEq,Int.reduceLE,Int.reduceLT,Int.reduceToNat,reduceCtorEq,Ty.all,ho',wn,b0,k1]);rfl) (fun hb=>?_) (fun hb=>?_)<;>(try simp only[hb0,decide_eq_true_eq,decide_eq_false_iff_not,reduceCtorEq]at hb)<;>(try(exfalso;omega)))
        |(with_reducible refine ite_in (fun hb=>?_) (fun hb=>?_)<;>(try simp only[Decidable.not_not]at hb)<;>(try simp only[hb,if_true,if_false,not_false_eq_true,not_true_eq_false, ↓reduceIte])<;>(try simp only[hb0,decide_eq_true_eq,decide_eq_false_iff_not,reduceCtorEq]at hb)<;>(try(exfalso;omega)))
        |(refine hK _ _ ?_;clear hK;try simp only[pst0, ↓reduceIte,Nat.reduceEqDiff])
        |(clear hK;refine hK _ _ ?_;clear hK;try simp only[pst0, ↓reduceIte,Nat.reduceEqDiff])
        |(clear hK;clear hK;refine hK _ _ ?_;clear hK;try simp only[pst0, ↓reduceIte,Nat.reduceEqDiff])
        |(clear hK;clear hK;clear hK;refine hK _ _ ?_;clear hK;try simp only[pst0, ↓reduceIte,Nat.reduceEqDiff])
        |(rw[if_pos];rotate_left 1;omega;simp(maxSteps:=2000000) only[undef,am0,am1,am2,am3,amb0,amb1,amb2,amb3,amb4,lwn,drn,callee,wantedB,isW,eff,pev,pst0,retPost,resAll,resP,resV,intP,mkV,putC,pbin,sbin,strsEq,peq,pint,pshift,pstr,pun,pconv,isShift,isConstB,app,subS,lay,rowsOf,lkV,keyKind,keyEq,mfind,mput,oInt,isZeroInt,forall_const,exists_eq_left',implies_true,IntKind.bits, ↓reduceIte,Nat.reduceEqDiff,Nat.reduceAdd,Nat.reduceSub,Nat.reduceMul,Nat.reduceLT,Nat.reduceLeDiff,Nat.reduceBEq,Int.reduceLE,Int.reduceLT,Int.reduceToNat,reduceCtorEq,Ty.all,ho',wn,b0,k1]))
       refine owp_useQ (hlow _) (by(try simp only[undef,am0,am1,am2,am3,amb0,amb1,amb2,amb3,amb4,lwn,drn,callee,wantedB,isW,eff,pev,pst0,retPost,resAll,resP,resV,intP,mkV,putC,pbin,sbin,strsEq,peq,pint,pshift,pstr,pun,pconv,isShift,isConstB,app,subS,lay,rowsOf,lkV,keyKind,keyEq,mfind,mput,oInt,isZeroInt,forall_const,exists_eq_left',implies_true,IntKind.bits, ↓reduceIte,Nat.reduceEqDiff,Nat.reduceAdd,Nat.reduceSub,Nat.reduceMul,Nat.reduceLT,Nat.reduceLeDiff,Nat.reduceBEq,Int.reduceLE,Int.reduceLT,Int.reduceToNat,reduceCtorEq,ho',wn,b0,k1]);try rfl) ?_
       simp(maxSteps:=2000000) only[undef,am0,am1,am2,am3,amb0,amb1,amb2,amb3,amb4,lwn,drn,callee,wantedB,isW,eff,pev,pst0,retPost,resAll,resP,resV,intP,mkV,putC,pbin,sbin,strsEq,peq,pint,pshift,pstr,pun,pconv,isShift,isConstB,app,subS,lay,rowsOf,lkV,keyKind,keyEq,mfind,mput,oInt,isZeroInt,forall_const,exists_eq_left',implies_true,IntKind.bits, ↓reduceIte,Nat.reduceEqDiff,Nat.reduceAdd,Nat.reduceSub,Nat.reduceMul,Nat.reduceLT,Nat.reduceLeDiff,Nat.reduceBEq,Int.reduceLE,Int.reduceLT,Int.reduceToNat,reduceCtorEq,Ty.all,ho',wn,b0,k1]
       repeat'(first
        |refine a_seq fun K hK=>?_
        |(refine a_block ?_)
        |((first|refine a_regionS ?_|refine a_region (fun K hK=>?_)|refine a_ret ?_);simp(maxSteps:=2000000) only[undef,am0,am1,am2,am3,amb0,amb1,amb2,amb3,amb4,lwn,drn,callee,wantedB,isW,eff,pev,pst0,retPost,resAll,resP,resV,intP,mkV,putC,pbin,sbin,strsEq,peq,pint,pshift,pstr,pun,pconv,isShift,isConstB,app,subS,lay,rowsOf,lkV,keyKind,keyEq,mfind,mput,oInt,isZeroInt,forall_const,exists_eq_left',implies_true,IntKind.bits, ↓reduceIte,Nat.reduceEqDiff,Nat.reduceAdd,Nat.reduceSub,Nat.reduceMul,Nat.reduceLT,Nat.reduceLeDiff,Nat.reduceBEq,Int.reduceLE,Int.reduceLT,Int.reduceToNat,reduceCtorEq,Ty.all,ho',wn,b0,k1,c1])
        |(refine a_skip ?_;try simp only[pst0, ↓reduceIte,Nat.reduceEqDiff])
        |(refine a_exit ?_;try simp only[pst0, ↓reduceIte,Nat.reduceEqDiff])
        |(refine a_cond _ (by(try simp(maxSteps:=2000000) only[undef,am0,am1,am2,am3,amb0,amb1,amb2,amb3,amb4,lwn,drn,callee,wantedB,isW,eff,pev,pst0,retPost,resAll,resP,resV,intP,mkV,putC,pbin,sbin,strsEq,peq,pint,pshift,pstr,pun,pconv,isShift,isConstB,app,subS,lay,rowsOf,lkV,keyKind,keyEq,mfind,mput,oInt,isZeroInt,forall_const,exists_eq_left',implies_true,IntKind.bits, ↓reduceIte,Nat.reduceEqDiff,Nat.reduceAdd,Nat.reduceSub,Nat.reduceMul,Nat.reduceLT,Nat.reduceLeDiff,Nat.reduceBEq,Int.reduceLE,Int.reduceLT,Int.reduceToNat,reduceCtorEq,Ty.all,ho',wn,b0,k1,c1]);rfl) (fun hb=>?_) (fun hb=>?_)<;>(try simp only[hb0,decide_eq_true_eq,decide_eq_false_iff_not,reduceCtorEq]at hb)<;>(try(exfalso;omega)))
        |(with_reducible refine ite_in (fun hb=>?_) (fun hb=>?_)<;>(try simp only[Decidable.not_not]at hb)<;>(try simp only[hb,if_true,if_false,not_false_eq_true,not_true_eq_false, ↓reduceIte])<;>(try simp only[hb0,decide_eq_true_eq,decide_eq_false_iff_not,reduceCtorEq]at hb)<;>(try(exfalso;omega)))
        |(refine hK _ _ ?_;clear hK;try simp only[pst0, ↓reduceIte,Nat.reduceEqDiff])
        |(clear hK;refine hK _ _ ?_;clear hK;try simp only[pst0, ↓reduceIte,Nat.reduceEqDiff])
        |(clear hK;clear hK;refine hK _ _ ?_;clear hK;try simp only[pst0, ↓reduceIte,Nat.reduceEqDiff])
        |(clear hK;clear hK;clear hK;refine hK _ _ ?_;clear hK;try simp only[pst0, ↓reduceIte,Nat.reduceEqDiff])
        |(rw[if_pos];rotate_left 1;omega;simp(maxSteps:=2000000) only[undef,am0,am1,am2,am3,amb0,amb1,amb2,amb3,amb4,lwn,drn,callee,wantedB,isW,eff,pev,pst0,retPost,resAll,resP,resV,intP,mkV,putC,pbin,sbin,strsEq,peq,pint,pshift,pstr,pun,pconv,isShift,isConstB,app,subS,lay,rowsOf,lkV,keyKind,keyEq,mfind,mput,oInt,isZeroInt,forall_const,exists_eq_left',implies_true,IntKind.bits, ↓reduceIte,Nat.reduceEqDiff,Nat.reduceAdd,Nat.reduceSub,Nat.reduceMul,Nat.reduceLT,Nat.reduceLeDiff,Nat.reduceBEq,Int.reduceLE,Int.reduceLT,Int.reduceToNat,reduceCtorEq,Ty.all,ho',wn,b0,k1,c1]))
       refine owp_useQ (numeric_c (s:=w) hwb) (by(try simp only[undef,am0,am1,am2,am3,amb0,amb1,amb2,amb3,amb4,lwn,drn,callee,wantedB,isW,eff,pev,pst0,retPost,resAll,resP,resV,intP,mkV,putC,pbin,sbin,strsEq,peq,pint,pshift,pstr,pun,pconv,isShift,isConstB,app,subS,lay,rowsOf,lkV,keyKind,keyEq,mfind,mput,oInt,isZeroInt,forall_const,exists_eq_left',implies_true,IntKind.bits, ↓reduceIte,Nat.reduceEqDiff,Nat.reduceAdd,Nat.reduceSub,Nat.reduceMul,Nat.reduceLT,Nat.reduceLeDiff,Nat.reduceBEq,Int.reduceLE,Int.reduceLT,Int.reduceToNat,reduceCtorEq,ho',wn,b0,k1,c1,c2,c3,hlen,Bool.not_false]);try rfl) ?_
       simp(maxSteps:=2000000) only[undef,am0,am1,am2,am3,amb0,amb1,amb2,amb3,amb4,lwn,drn,callee,wantedB,isW,eff,pev,pst0,retPost,resAll,resP,resV,intP,mkV,putC,pbin,sbin,strsEq,peq,pint,pshift,pstr,pun,pconv,isShift,isConstB,app,subS,lay,rowsOf,lkV,keyKind,keyEq,mfind,mput,oInt,isZeroInt,forall_const,exists_eq_left',implies_true,IntKind.bits, ↓reduceIte,Nat.reduceEqDiff,Nat.reduceAdd,Nat.reduceSub,Nat.reduceMul,Nat.reduceLT,Nat.reduceLeDiff,Nat.reduceBEq,Int.reduceLE,Int.reduceLT,Int.reduceToNat,reduceCtorEq,Ty.all,ho',wn,b0,k1,c1,c2,c3,hlen,Bool.not_false]
       repeat'(first
        |refine a_seq fun K hK=>?_
        |(refine a_block ?_)
        |((first|refine a_regionS ?_|refine a_region (fun K hK=>?_)|refine a_ret ?_);simp(maxSteps:=2000000) only[undef,am0,am1,am2,am3,amb0,amb1,amb2,amb3,amb4,lwn,drn,callee,wantedB,isW,eff,pev,pst0,retPost,resAll,resP,resV,intP,mkV,putC,pbin,sbin,strsEq,peq,pint,pshift,pstr,pun,pconv,isShift,isConstB,app,subS,lay,rowsOf,lkV,keyKind,keyEq,mfind,mput,oInt,isZeroInt,forall_const,exists_eq_left',implies_true,IntKind.bits, ↓reduceIte,Nat.reduceEqDiff,Nat.reduceAdd,Nat.reduceSub,Nat.reduceMul,Nat.reduceLT,Nat.reduceLeDiff,Nat.reduceBEq,Int.reduceLE,Int.reduceLT,Int.reduceToNat,reduceCtorEq,Ty.all,ho',wn,b0,k1,c1,c2,c3,Bool.not_false,hlen])
        |(refine a_skip ?_;try simp only[pst0, ↓reduceIte,Nat.reduceEqDiff])
        |(refine a_exit ?_;try simp only[pst0, ↓reduceIte,Nat.reduceEqDiff])
        |(refine a_cond _ (by(try simp(maxSteps:=2000000) only[undef,am0,am1,am2,am3,amb0,amb1,amb2,amb3,amb4,lwn,drn,callee,wantedB,isW,eff,pev,pst0,retPost,resAll,resP,resV,intP,mkV,putC,pbin,sbin,strsEq,peq,pint,pshift,pstr,pun,pconv,isShift,isConstB,app,subS,lay,rowsOf,lkV,keyKind,keyEq,mfind,mput,oInt,isZeroInt,forall_const,exists_eq_left',implies_true,IntKind.bits, ↓reduceIte,Nat.reduceEqDiff,Nat.reduceAdd,Nat.reduceSub,Nat.reduceMul,Nat.reduceLT,Nat.reduceLeDiff,Nat.reduceBEq,Int.reduceLE,Int.reduceLT,Int.reduceToNat,reduceCtorEq,Ty.all,ho',wn,b0,k1,c1,c2,c3,Bool.not_false,hlen]);rfl) (fun hb=>?_) (fun hb=>?_)<;>(try simp only[hb0,decide_eq_true_eq,decide_eq_false_iff_not,reduceCtorEq]at hb)<;>(try(exfalso;omega)))
        |(with_reducible refine ite_in (fun hb=>?_) (fun hb=>?_)<;>(try simp only[Decidable.not_not]at hb)<;>(try simp only[hb,if_true,if_false,not_false_eq_true,not_true_eq_false, ↓reduceIte])<;>(try simp only[hb0,decide_eq_true_eq,decide_eq_false_iff_not,reduceCtorEq]at hb)<;>(try(exfalso;omega)))
        |(refine hK _ _ ?_;clear hK;try simp only[pst0, ↓reduceIte,Nat.reduceEqDiff])
        |(clear hK;refine hK _ _ ?_;clear hK;try simp only[pst0, ↓reduceIte,Nat.reduceEqDiff])
        |(clear hK;clear hK;refine hK _ _ ?_;clear hK;try simp only[pst0, ↓reduceIte,Nat.reduceEqDiff])
        |(clear hK;clear hK;clear hK;refine hK _ _ ?_;clear hK;try simp only[pst0, ↓reduceIte,Nat.reduceEqDiff])
        |(rw[if_pos];rotate_left 1;omega;simp(maxSteps:=2000000) only[undef,am0,am1,am2,am3,amb0,amb1,amb2,amb3,amb4,lwn,drn,callee,wantedB,isW,eff,pev,pst0,retPost,resAll,resP,resV,intP,mkV,putC,pbin,sbin,strsEq,peq,pint,pshift,pstr,pun,pconv,isShift,isConstB,app,subS,lay,rowsOf,lkV,keyKind,keyEq,mfind,mput,oInt,isZeroInt,forall_const,exists_eq_left',implies_true,IntKind.bits, ↓reduceIte,Nat.reduceEqDiff,Nat.reduceAdd,Nat.reduceSub,Nat.reduceMul,Nat.reduceLT,Nat.reduceLeDiff,Nat.reduceBEq,Int.reduceLE,Int.reduceLT,Int.reduceToNat,reduceCtorEq,Ty.all,ho',wn,b0,k1,c1,c2,c3,Bool.not_false,hlen]))
       exact⟨by simp only[c3',e1,Bool.not_false,Bool.true_and],G1⟩
  |false=>
   have hk1:¬ kind=1:=by simpa using k1
   rw[if_neg hk1]
   cases k2:(kind==2)with
   |true=>
    have hk2:kind=2:=by simpa using k2
    rw[if_pos hk2]
    have e1:(kids.isEmpty)=((kids.length:Int)==0):=by cases kids<;>simp;omega
    cases c1:(text.data.toList==(#[]:Array UInt8).toList)with
    |false=>
     refine pcall_body (ow:=fun _=>false) (wf:=fun _=>false) Ty.mixed Tryz.func162 rfl Ty.hb_162 (by rw[Tryz.ntmps162];simp) ?_
     rw[Tryz.ntmps162,Tryz.results162]
     repeat'(first
      |refine a_seq fun K hK=>?_
      |(refine a_block ?_)
      |((first|refine a_regionS ?_|refine a_region (fun K hK=>?_)|refine a_ret ?_);simp(maxSteps:=2000000) only[undef,am0,am1,am2,am3,amb0,amb1,amb2,amb3,amb4,lwn,drn,callee,wantedB,isW,eff,pev,pst0,retPost,resAll,resP,resV,intP,mkV,putC,pbin,sbin,strsEq,peq,pint,pshift,pstr,pun,pconv,isShift,isConstB,app,subS,lay,rowsOf,lkV,keyKind,keyEq,mfind,mput,oInt,isZeroInt,forall_const,exists_eq_left',implies_true,IntKind.bits, ↓reduceIte,Nat.reduceEqDiff,Nat.reduceAdd,Nat.reduceSub,Nat.reduceMul,Nat.reduceLT,Nat.reduceLeDiff,Nat.reduceBEq,Int.reduceLE,Int.reduceLT,Int.reduceToNat,reduceCtorEq,Ty.all,ho',wn,b0,k1,k2,c1])
      |(refine a_skip ?_;try simp only[pst0, ↓reduceIte,Nat.reduceEqDiff])
      |(refine a_exit ?_;try simp only[pst0, ↓reduceIte,Nat.reduceEqDiff])
      |(refine a_cond _ (by(try simp(maxSteps:=2000000) only[undef,am0,am1,am2,am3,amb0,amb1,amb2,amb3,amb4,lwn,drn,callee,wantedB,isW,eff,pev,pst0,retPost,resAll,resP,resV,intP,mkV,putC,pbin,sbin,strsEq,peq,pint,pshift,pstr,pun,pconv,isShift,isConstB,app,subS,lay,rowsOf,lkV,keyKind,keyEq,mfind,mput,oInt,isZeroInt,forall_const,exists_eq_left',implies_true,IntKind.bits, ↓reduceIte,Nat.reduceEqDiff,Nat.reduceAdd,Nat.reduceSub,Nat.reduceMul,Nat.reduceLT,Nat.reduceLeDiff,Nat.reduceBEq,Int.reduceLE,Int.reduceLT,Int.reduceToNat,reduceCtorEq,Ty.all,ho',wn,b0,k1,k2,c1]);rfl) (fun hb=>?_) (fun hb=>?_)<;>(try simp only[hb0,decide_eq_true_eq,decide_eq_false_iff_not,reduceCtorEq]at hb)<;>(try(exfalso;omega)))
      |(with_reducible refine ite_in (fun hb=>?_) (fun hb=>?_)<;>(try simp only[Decidable.not_not]at hb)<;>(try simp only[hb,if_true,if_false,not_false_eq_true,not_true_eq_false, ↓reduceIte])<;>(try simp only[hb0,decide_eq_true_eq,decide_eq_false_iff_not,reduceCtorEq]at hb)<;>(try(exfalso;omega)))
      |(refine hK _ _ ?_;clear hK;try simp only[pst0, ↓reduceIte,Nat.reduceEqDiff])
      |(clear hK;refine hK _ _ ?_;clear hK;try simp only[pst0, ↓reduceIte,Nat.reduceEqDiff])
      |(clear hK;clear hK;refine hK _ _ ?_;clear hK;try simp only[pst0, ↓reduceIte,Nat.reduceEqDiff])
      |(clear hK;clear hK;clear hK;refine hK _ _ ?_;clear hK;try simp only[pst0, ↓reduceIte,Nat.reduceEqDiff])
      |(rw[if_pos];rotate_left 1;omega;simp(maxSteps:=2000000) only[undef,am0,am1,am2,am3,amb0,amb1,amb2,amb3,amb4,lwn,drn,callee,wantedB,isW,eff,pev,pst0,retPost,resAll,resP,resV,intP,mkV,putC,pbin,sbin,strsEq,peq,pint,pshift,pstr,pun,pconv,isShift,isConstB,app,subS,lay,rowsOf,lkV,keyKind,keyEq,mfind,mput,oInt,isZeroInt,forall_const,exists_eq_left',implies_true,IntKind.bits, ↓reduceIte,Nat.reduceEqDiff,Nat.reduceAdd,Nat.reduceSub,Nat.reduceMul,Nat.reduceLT,Nat.reduceLeDiff,Nat.reduceBEq,Int.reduceLE,Int.reduceLT,Int.reduceToNat,reduceCtorEq,Ty.all,ho',wn,b0,k1,k2,c1]))
     first|exact⟨by simp only[bEq,c1,Bool.false_and],G1⟩|(simp only[bEq,c1,e1,c2,Bool.true_and];exact G1)|exact G1
    |true=>
     cases c2:((kids.length:Int)==0)with
     |false=>
      refine pcall_body (ow:=fun _=>false) (wf:=fun _=>false) Ty.mixed Tryz.func162 rfl Ty.hb_162 (by rw[Tryz.ntmps162];simp) ?_
      rw[Tryz.ntmps162,Tryz.results162]
      repeat'(first
       |refine a_seq fun K hK=>?_
       |(refine a_block ?_)
       |((first|refine a_regionS ?_|refine a_region (fun K hK=>?_)|refine a_ret ?_);simp(maxSteps:=2000000) only[undef,am0,am1,am2,am3,amb0,amb1,amb2,amb3,amb4,lwn,drn,callee,wantedB,isW,eff,pev,pst0,retPost,resAll,resP,resV,intP,mkV,putC,pbin,sbin,strsEq,peq,pint,pshift,pstr,pun,pconv,isShift,isConstB,app,subS,lay,rowsOf,lkV,keyKind,keyEq,mfind,mput,oInt,isZeroInt,forall_const,exists_eq_left',implies_true,IntKind.bits, ↓reduceIte,Nat.reduceEqDiff,Nat.reduceAdd,Nat.reduceSub,Nat.reduceMul,Nat.reduceLT,Nat.reduceLeDiff,Nat.reduceBEq,Int.reduceLE,Int.reduceLT,Int.reduceToNat,reduceCtorEq,Ty.all,ho',wn,b0,k1,k2,c1,c2,hlen])
       |(refine a_skip ?_;try simp only[pst0, ↓reduceIte,Nat.reduceEqDiff])
       |(refine a_exit ?_;try simp only[pst0, ↓reduceIte,Nat.reduceEqDiff])
       |(refine a_cond _ (by(try simp(maxSteps:=2000000) only[undef,am0,am1,am2,am3,amb0,amb1,amb2,amb3,amb4,lwn,drn,callee,wantedB,isW,eff,pev,pst0,retPost,resAll,resP,resV,intP,mkV,putC,pbin,sbin,strsEq,peq,pint,pshift,pstr,pun,pconv,isShift,isConstB,app,subS,lay,rowsOf,lkV,keyKind,keyEq,mfind,mput,oInt,isZeroInt,forall_const,exists_eq_left',implies_true,IntKind.bits, ↓reduceIte,Nat.reduceEqDiff,Nat.reduceAdd,Nat.reduceSub,Nat.reduceMul,Nat.reduceLT,Nat.reduceLeDiff,Nat.reduceBEq,Int.reduceLE,Int.reduceLT,Int.reduceToNat,reduceCtorEq,Ty.all,ho',wn,b0,k1,k2,c1,c2,hlen]);rfl) (fun hb=>?_) (fun hb=>?_)<;>(try simp only[hb0,decide_eq_true_eq,decide_eq_false_iff_not,reduceCtorEq]at hb)<;>(try(exfalso;omega)))
       |(with_reducible refine ite_in (fun hb=>?_) (fun hb=>?_)<;>(try simp only[Decidable.not_not]at hb)<;>(try simp only[hb,if_true,if_false,not_false_eq_true,not_true_eq_false, ↓reduceIte])<;>(try simp only[hb0,decide_eq_true_eq,decide_eq_false_iff_not,reduceCtorEq]at hb)<;>(try(exfalso;omega)))
       |(refine hK _ _ ?_;clear hK;try simp only[pst0, ↓reduceIte,Nat.reduceEqDiff])
       |(clear hK;refine hK _ _ ?_;clear hK;try simp only[pst0, ↓reduceIte,Nat.reduceEqDiff])
       |(clear hK;clear hK;refine hK _ _ ?_;clear hK;try simp only[pst0, ↓reduceIte,Nat.reduceEqDiff])
       |(clear hK;clear hK;clear hK;refine hK _ _ ?_;clear hK;try simp only[pst0, ↓reduceIte,Nat.reduceEqDiff])
       |(rw[if_pos];rotate_left 1;omega;simp(maxSteps:=2000000) only[undef,am0,am1,am2,am3,amb0,amb1,amb2,amb3,amb4,lwn,drn,callee,wantedB,isW,eff,pev,pst0,retPost,resAll,resP,resV,intP,mkV,putC,pbin,sbin,strsEq,peq,pint,pshift,pstr,pun,pconv,isShift,isConstB,app,subS,lay,rowsOf,lkV,keyKind,keyEq,mfind,mput,oInt,isZeroInt,forall_const,exists_eq_left',implies_true,IntKind.bits, ↓reduceIte,Nat.reduceEqDiff,Nat.reduceAdd,Nat.reduceSub,Nat.reduceMul,Nat.reduceLT,Nat.reduceLeDiff,Nat.reduceBEq,Int.reduceLE,Int.reduceLT,Int.reduceToNat,reduceCtorEq,Ty.all,ho',wn,b0,k1,k2,c1,c2,hlen]))
      first|exact⟨by simp only[bEq,c1,e1,c2,Bool.and_false,Bool.false_and],G1⟩|(simp only[bEq,c1,e1,c2,Bool.true_and];exact G1)|exact G1
     |true=>
      cases c3:decide (value≥ -1099511627776)with
      |false=>
       refine pcall_body (ow:=fun _=>false) (wf:=fun _=>false) Ty.mixed Tryz.func162 rfl Ty.hb_162 (by rw[Tryz.ntmps162];simp) ?_
       rw[Tryz.ntmps162,Tryz.results162]
       repeat'(first
        |refine a_seq fun K hK=>?_
        |(refine a_block ?_)
        |((first|refine a_regionS ?_|refine a_region (fun K hK=>?_)|refine a_ret ?_);simp(maxSteps:=2000000) only[undef,am0,am1,am2,am3,amb0,amb1,amb2,amb3,amb4,lwn,drn,callee,wantedB,isW,eff,pev,pst0,retPost,resAll,resP,resV,intP,mkV,putC,pbin,sbin,strsEq,peq,pint,pshift,pstr,pun,pconv,isShift,isConstB,app,subS,lay,rowsOf,lkV,keyKind,keyEq,mfind,mput,oInt,isZeroInt,forall_const,exists_eq_left',implies_true,IntKind.bits, ↓reduceIte,Nat.reduceEqDiff,Nat.reduceAdd,Nat.reduceSub,Nat.reduceMul,Nat.reduceLT,Nat.reduceLeDiff,Nat.reduceBEq,Int.reduceLE,Int.reduceLT,Int.reduceToNat,reduceCtorEq,Ty.all,ho',wn,b0,k1,k2,c1,c2,c3,hlen])
        |(refine a_skip ?_;try simp only[pst0, ↓reduceIte,Nat.reduceEqDiff])
        |(refine a_exit ?_;try simp only[pst0, ↓reduceIte,Nat.reduceEqDiff])
        |(refine a_cond _ (by(try simp(maxSteps:=2000000) only[undef,am0,am1,am2,am3,amb0,amb1,amb2,amb3,amb4,lwn,drn,callee,wantedB,isW,eff,pev,pst0,retPost,resAll,resP,resV,intP,mkV,putC,pbin,sbin,strsEq,peq,pint,pshift,pstr,pun,pconv,isShift,isConstB,app,subS,lay,rowsOf,lkV,keyKind,keyEq,mfind,mput,oInt,isZeroInt,forall_const,exists_eq_left',implies_true,IntKind.bits, ↓reduceIte,Nat.reduceEqDiff,Nat.reduceAdd,Nat.reduceSub,Nat.reduceMul,Nat.reduceLT,Nat.reduceLeDiff,Nat.reduceBEq,Int.reduceLE,Int.reduceLT,Int.reduceToNat,reduceCtorEq,Ty.all,ho',wn,b0,k1,k2,c1,c2,c3,hlen]);rfl) (fun hb=>?_) (fun hb=>?_)<;>(try simp only[hb0,decide_eq_true_eq,decide_eq_false_iff_not,reduceCtorEq]at hb)<;>(try(exfalso;omega)))
        |(with_reducible refine ite_in (fun hb=>?_) (fun hb=>?_)<;>(try simp only[Decidable.not_not]at hb)<;>(try simp only[hb,if_true,if_false,not_false_eq_true,not_true_eq_false, ↓reduceIte])<;>(try simp only[hb0,decide_eq_true_eq,decide_eq_false_iff_not,reduceCtorEq]at hb)<;>(try(exfalso;omega)))
        |(refine hK _ _ ?_;clear hK;try simp only[pst0, ↓reduceIte,Nat.reduceEqDiff])
        |(clear hK;refine hK _ _ ?_;clear hK;try simp only[pst0, ↓reduceIte,Nat.reduceEqDiff])
        |(clear hK;clear hK;refine hK _ _ ?_;clear hK;try simp only[pst0, ↓reduceIte,Nat.reduceEqDiff])
        |(clear hK;clear hK;clear hK;refine hK _ _ ?_;clear hK;try simp only[pst0, ↓reduceIte,Nat.reduceEqDiff])
        |(rw[if_pos];rotate_left 1;omega;simp(maxSteps:=2000000) only[undef,am0,am1,am2,am3,amb0,amb1,amb2,amb3,amb4,lwn,drn,callee,wantedB,isW,eff,pev,pst0,retPost,resAll,resP,resV,intP,mkV,putC,pbin,sbin,strsEq,peq,pint,pshift,pstr,pun,pconv,isShift,isConstB,app,subS,lay,rowsOf,lkV,keyKind,keyEq,mfind,mput,oInt,isZeroInt,forall_const,exists_eq_left',implies_true,IntKind.bits, ↓reduceIte,Nat.reduceEqDiff,Nat.reduceAdd,Nat.reduceSub,Nat.reduceMul,Nat.reduceLT,Nat.reduceLeDiff,Nat.reduceBEq,Int.reduceLE,Int.reduceLT,Int.reduceToNat,reduceCtorEq,Ty.all,ho',wn,b0,k1,k2,c1,c2,c3,hlen]))
       have c3':decide (-1099511627776≤value)=false:=c3
       first|exact⟨by simp only[bEq,c1,e1,c2,c3',Bool.and_false,Bool.false_and],G1⟩|(simp only[bEq,c1,e1,c2,Bool.true_and];exact G1)|exact G1
      |true=>
       refine pcall_body (ow:=fun _=>false) (wf:=fun _=>false) Ty.mixed Tryz.func162 rfl Ty.hb_162 (by rw[Tryz.ntmps162];simp) ?_
       rw[Tryz.ntmps162,Tryz.results162]
       repeat'(first
        |refine a_seq fun K hK=>?_
        |(refine a_block ?_)
        |((first|refine a_regionS ?_|refine a_region (fun K hK=>?_)|refine a_ret ?_);simp(maxSteps:=2000000) only[undef,am0,am1,am2,am3,amb0,amb1,amb2,amb3,amb4,lwn,drn,callee,wantedB,isW,eff,pev,pst0,retPost,resAll,resP,resV,intP,mkV,putC,pbin,sbin,strsEq,peq,pint,pshift,pstr,pun,pconv,isShift,isConstB,app,subS,lay,rowsOf,lkV,keyKind,keyEq,mfind,mput,oInt,isZeroInt,forall_const,exists_eq_left',implies_true,IntKind.bits, ↓reduceIte,Nat.reduceEqDiff,Nat.reduceAdd,Nat.reduceSub,Nat.reduceMul,Nat.reduceLT,Nat.reduceLeDiff,Nat.reduceBEq,Int.reduceLE,Int.reduceLT,Int.reduceToNat,reduceCtorEq,Ty.all,ho',wn,b0,k1,k2,c1,c2,c3,hlen])
        |(refine a_skip ?_;try simp only[pst0, ↓reduceIte,Nat.reduceEqDiff])
        |(refine a_exit ?_;try simp only[pst0, ↓reduceIte,Nat.reduceEqDiff])
        |(refine a_cond _ (by(try simp(maxSteps:=2000000) only[undef,am0,am1,am2,am3,amb0,amb1,amb2,amb3,amb4,lwn,drn,callee,wantedB,isW,eff,pev,pst0,retPost,resAll,resP,resV,intP,mkV,putC,pbin,sbin,strsEq,peq,pint,pshift,pstr,pun,pconv,isShift,isConstB,app,subS,lay,rowsOf,lkV,keyKind,keyEq,mfind,mput,oInt,isZeroInt,forall_const,exists_eq_left',implies_true,IntKind.bits, ↓reduceIte,Nat.reduceEqDiff,Nat.reduceAdd,Nat.reduceSub,Nat.reduceMul,Nat.reduceLT,Nat.reduceLeDiff,Nat.reduceBEq,Int.reduceLE,Int.reduceLT,Int.reduceToNat,reduceCtorEq,Ty.all,ho',wn,b0,k1,k2,c1,c2,c3,hlen]);rfl) (fun hb=>?_) (fun hb=>?_)<;>(try simp only[hb0,decide_eq_true_eq,decide_eq_false_iff_not,reduceCtorEq]at hb)<;>(try(exfalso;omega)))
        |(with_reducible refine ite_in (fun hb=>?_) (fun hb=>?_)<;>(try simp only[Decidable.not_not]at hb)<;>(try simp only[hb,if_true,if_false,not_false_eq_true,not_true_eq_false, ↓reduceIte])<;>(try simp only[hb0,decide_eq_true_eq,decide_eq_false_iff_not,reduceCtorEq]at hb)<;>(try(exfalso;omega)))
        |(refine hK _ _ ?_;clear hK;try simp only[pst0, ↓reduceIte,Nat.reduceEqDiff])
        |(clear hK;refine hK _ _ ?_;clear hK;try simp only[pst0, ↓reduceIte,Nat.reduceEqDiff])
        |(clear hK;clear hK;refine hK _ _ ?_;clear hK;try simp only[pst0, ↓reduceIte,Nat.reduceEqDiff])
        |(clear hK;clear hK;clear hK;refine hK _ _ ?_;clear hK;try simp only[pst0, ↓reduceIte,Nat.reduceEqDiff])
        |(rw[if_pos];rotate_left 1;omega;simp(maxSteps:=2000000) only[undef,am0,am1,am2,am3,amb0,amb1,amb2,amb3,amb4,lwn,drn,callee,wantedB,isW,eff,pev,pst0,retPost,resAll,resP,resV,intP,mkV,putC,pbin,sbin,strsEq,peq,pint,pshift,pstr,pun,pconv,isShift,isConstB,app,subS,lay,rowsOf,lkV,keyKind,keyEq,mfind,mput,oInt,isZeroInt,forall_const,exists_eq_left',implies_true,IntKind.bits, ↓reduceIte,Nat.reduceEqDiff,Nat.reduceAdd,Nat.reduceSub,Nat.reduceMul,Nat.reduceLT,Nat.reduceLeDiff,Nat.reduceBEq,Int.reduceLE,Int.reduceLT,Int.reduceToNat,reduceCtorEq,Ty.all,ho',wn,b0,k1,k2,c1,c2,c3,hlen]))
       have c3':decide (-1099511627776≤value)=true:=c3
       first|exact⟨by simp only[bEq,c1,e1,c2,c3',Bool.true_and],G1⟩|(simp only[bEq,c1,e1,c2,Bool.true_and];exact G1)|exact G1
   |false=>
    have hk2:¬ kind=2:=by simpa using k2
    rw[if_neg hk2]
    cases k3:(kind==3)with
    |false=>
     have hk3:¬ kind=3:=by simpa using k3
     rw[if_neg hk3]
     refine pcall_body (ow:=fun _=>false) (wf:=fun _=>false) Ty.mixed Tryz.func162 rfl Ty.hb_162 (by rw[Tryz.ntmps162];simp) ?_
     rw[Tryz.ntmps162,Tryz.results162]
     repeat'(first
      |refine a_seq fun K hK=>?_
      |(refine a_block ?_)
      |((first|refine a_regionS ?_|refine a_region (fun K hK=>?_)|refine a_ret ?_);simp(maxSteps:=2000000) only[undef,am0,am1,am2,am3,amb0,amb1,amb2,amb3,amb4,lwn,drn,callee,wantedB,isW,eff,pev,pst0,retPost,resAll,resP,resV,intP,mkV,putC,pbin,sbin,strsEq,peq,pint,pshift,pstr,pun,pconv,isShift,isConstB,app,subS,lay,rowsOf,lkV,keyKind,keyEq,mfind,mput,oInt,isZeroInt,forall_const,exists_eq_left',implies_true,IntKind.bits, ↓reduceIte,Nat.reduceEqDiff,Nat.reduceAdd,Nat.reduceSub,Nat.reduceMul,Nat.reduceLT,Nat.reduceLeDiff,Nat.reduceBEq,Int.reduceLE,Int.reduceLT,Int.reduceToNat,reduceCtorEq,Ty.all,ho',wn,b0,k1,k2,k3])
      |(refine a_skip ?_;try simp only[pst0, ↓reduceIte,Nat.reduceEqDiff])
      |(refine a_exit ?_;try simp only[pst0, ↓reduceIte,Nat.reduceEqDiff])
      |(refine a_cond _ (by(try simp(maxSteps:=2000000) only[undef,am0,am1,am2,am3,amb0,amb1,amb2,amb3,amb4,lwn,drn,callee,wantedB,isW,eff,pev,pst0,retPost,resAll,resP,resV,intP,mkV,putC,pbin,sbin,strsEq,peq,pint,pshift,pstr,pun,pconv,isShift,isConstB,app,subS,lay,rowsOf,lkV,keyKind,keyEq,mfind,mput,oInt,isZeroInt,forall_const,exists_eq_left',implies_true,IntKind.bits, ↓reduceIte,Nat.reduceEqDiff,Nat.reduceAdd,Nat.reduceSub,Nat.reduceMul,Nat.reduceLT,Nat.reduceLeDiff,Nat.reduceBEq,Int.reduceLE,Int.reduceLT,Int.reduceToNat,reduceCtorEq,Ty.all,ho',wn,b0,k1,k2,k3]);rfl) (fun hb=>?_) (fun hb=>?_)<;>(try simp only[hb0,decide_eq_true_eq,decide_eq_false_iff_not,reduceCtorEq]at hb)<;>(try(exfalso;omega)))
      |(with_reducible refine ite_in (fun hb=>?_) (fun hb=>?_)<;>(try simp only[Decidable.not_not]at hb)<;>(try simp only[hb,if_true,if_false,not_false_eq_true,not_true_eq_false, ↓reduceIte])<;>(try simp only[hb0,decide_eq_true_eq,decide_eq_false_iff_not,reduceCtorEq]at hb)<;>(try(exfalso;omega)))
      |(refine hK _ _ ?_;clear hK;try simp only[pst0, ↓reduceIte,Nat.reduceEqDiff])
      |(clear hK;refine hK _ _ ?_;clear hK;try simp only[pst0, ↓reduceIte,Nat.reduceEqDiff])
      |(clear hK;clear hK;refine hK _ _ ?_;clear hK;try simp only[pst0, ↓reduceIte,Nat.reduceEqDiff])
      |(clear hK;clear hK;clear hK;refine hK _ _ ?_;clear hK;try simp only[pst0, ↓reduceIte,Nat.reduceEqDiff])
      |(rw[if_pos];rotate_left 1;omega;simp(maxSteps:=2000000) only[undef,am0,am1,am2,am3,amb0,amb1,amb2,amb3,amb4,lwn,drn,callee,wantedB,isW,eff,pev,pst0,retPost,resAll,resP,resV,intP,mkV,putC,pbin,sbin,strsEq,peq,pint,pshift,pstr,pun,pconv,isShift,isConstB,app,subS,lay,rowsOf,lkV,keyKind,keyEq,mfind,mput,oInt,isZeroInt,forall_const,exists_eq_left',implies_true,IntKind.bits, ↓reduceIte,Nat.reduceEqDiff,Nat.reduceAdd,Nat.reduceSub,Nat.reduceMul,Nat.reduceLT,Nat.reduceLeDiff,Nat.reduceBEq,Int.reduceLE,Int.reduceLT,Int.reduceToNat,reduceCtorEq,Ty.all,ho',wn,b0,k1,k2,k3]))
     first|exact G1|exact⟨rfl,G1⟩
    |true=>
     have hk3:kind=3:=by simpa using k3
     rw[if_pos hk3]
     cases c1:(text.data.toList==(#[]:Array UInt8).toList)with
     |false=>
      rw[if_neg (by simp[bEq,c1])]
      refine pcall_body (ow:=fun _=>false) (wf:=fun _=>false) Ty.mixed Tryz.func162 rfl Ty.hb_162 (by rw[Tryz.ntmps162];simp) ?_
      rw[Tryz.ntmps162,Tryz.results162]
      repeat'(first
       |refine a_seq fun K hK=>?_
       |(refine a_block ?_)
       |((first|refine a_regionS ?_|refine a_region (fun K hK=>?_)|refine a_ret ?_);simp(maxSteps:=2000000) only[undef,am0,am1,am2,am3,amb0,amb1,amb2,amb3,amb4,lwn,drn,callee,wantedB,isW,eff,pev,pst0,retPost,resAll,resP,resV,intP,mkV,putC,pbin,sbin,strsEq,peq,pint,pshift,pstr,pun,pconv,isShift,isConstB,app,subS,lay,rowsOf,lkV,keyKind,keyEq,mfind,mput,oInt,isZeroInt,forall_const,exists_eq_left',implies_true,IntKind.bits, ↓reduceIte,Nat.reduceEqDiff,Nat.reduceAdd,Nat.reduceSub,Nat.reduceMul,Nat.reduceLT,Nat.reduceLeDiff,Nat.reduceBEq,Int.reduceLE,Int.reduceLT,Int.reduceToNat,reduceCtorEq,Ty.all,ho',wn,b0,k1,k2,k3,c1,Bool.not_false])
       |(refine a_skip ?_;try simp only[pst0, ↓reduceIte,Nat.reduceEqDiff])
       |(refine a_exit ?_;try simp only[pst0, ↓reduceIte,Nat.reduceEqDiff])
       |(refine a_cond _ (by(try simp(maxSteps:=2000000) only[undef,am0,am1,am2,am3,amb0,amb1,amb2,amb3,amb4,lwn,drn,callee,wantedB,isW,eff,pev,pst0,retPost,resAll,resP,resV,intP,mkV,putC,pbin,sbin,strsEq,peq,pint,pshift,pstr,pun,pconv,isShift,isConstB,app,subS,lay,rowsOf,lkV,keyKind,keyEq,mfind,mput,oInt,isZeroInt,forall_const,exists_eq_left',implies_true,IntKind.bits, ↓reduceIte,Nat.reduceEqDiff,Nat.reduceAdd,Nat.reduceSub,Nat.reduceMul,Nat.reduceLT,Nat.reduceLeDiff,Nat.reduceBEq,Int.reduceLE,Int.reduceLT,Int.reduceToNat,reduceCtorEq,Ty.all,ho',wn,b0,k1,k2,k3,c1,Bool.not_false]);rfl) (fun hb=>?_) (fun hb=>?_)<;>(try simp only[hb0,decide_eq_true_eq,decide_eq_false_iff_not,reduceCtorEq]at hb)<;>(try(exfalso;omega)))
       |(with_reducible refine ite_in (fun hb=>?_) (fun hb=>?_)<;>(try simp only[Decidable.not_not]at hb)<;>(try simp only[hb,if_true,if_false,not_false_eq_true,not_true_eq_false, ↓reduceIte])<;>(try simp only[hb0,decide_eq_true_eq,decide_eq_false_iff_not,reduceCtorEq]at hb)<;>(try(exfalso;omega)))
       |(refine hK _ _ ?_;clear hK;try simp only[pst0, ↓reduceIte,Nat.reduceEqDiff])
       |(clear hK;refine hK _ _ ?_;clear hK;try simp only[pst0, ↓reduceIte,Nat.reduceEqDiff])
       |(clear hK;clear hK;refine hK _ _ ?_;clear hK;try simp only[pst0, ↓reduceIte,Nat.reduceEqDiff])
       |(clear hK;clear hK;clear hK;refine hK _ _ ?_;clear hK;try simp only[pst0, ↓reduceIte,Nat.reduceEqDiff])
       |(rw[if_pos];rotate_left 1;omega;simp(maxSteps:=2000000) only[undef,am0,am1,am2,am3,amb0,amb1,amb2,amb3,amb4,lwn,drn,callee,wantedB,isW,eff,pev,pst0,retPost,resAll,resP,resV,intP,mkV,putC,pbin,sbin,strsEq,peq,pint,pshift,pstr,pun,pconv,isShift,isConstB,app,subS,lay,rowsOf,lkV,keyKind,keyEq,mfind,mput,oInt,isZeroInt,forall_const,exists_eq_left',implies_true,IntKind.bits, ↓reduceIte,Nat.reduceEqDiff,Nat.reduceAdd,Nat.reduceSub,Nat.reduceMul,Nat.reduceLT,Nat.reduceLeDiff,Nat.reduceBEq,Int.reduceLE,Int.reduceLT,Int.reduceToNat,reduceCtorEq,Ty.all,ho',wn,b0,k1,k2,k3,c1,Bool.not_false]))
      first|exact G1|exact⟨rfl,G1⟩
     |true=>
      cases c2:(value !=0)with
      |true=>
       rw[if_neg (by simp at c2;simp[c2])]
       refine pcall_body (ow:=fun _=>false) (wf:=fun _=>false) Ty.mixed Tryz.func162 rfl Ty.hb_162 (by rw[Tryz.ntmps162];simp) ?_
       rw[Tryz.ntmps162,Tryz.results162]
       repeat'(first
        |refine a_seq fun K hK=>?_
        |(refine a_block ?_)
        |((first|refine a_regionS ?_|refine a_region (fun K hK=>?_)|refine a_ret ?_);simp(maxSteps:=2000000) only[undef,am0,am1,am2,am3,amb0,amb1,amb2,amb3,amb4,lwn,drn,callee,wantedB,isW,eff,pev,pst0,retPost,resAll,resP,resV,intP,mkV,putC,pbin,sbin,strsEq,peq,pint,pshift,pstr,pun,pconv,isShift,isConstB,app,subS,lay,rowsOf,lkV,keyKind,keyEq,mfind,mput,oInt,isZeroInt,forall_const,exists_eq_left',implies_true,IntKind.bits, ↓reduceIte,Nat.reduceEqDiff,Nat.reduceAdd,Nat.reduceSub,Nat.reduceMul,Nat.reduceLT,Nat.reduceLeDiff,Nat.reduceBEq,Int.reduceLE,Int.reduceLT,Int.reduceToNat,reduceCtorEq,Ty.all,ho',wn,b0,k1,k2,k3,c1,c2,Bool.not_true])
        |(refine a_skip ?_;try simp only[pst0, ↓reduceIte,Nat.reduceEqDiff])
        |(refine a_exit ?_;try simp only[pst0, ↓reduceIte,Nat.reduceEqDiff])
        |(refine a_cond _ (by(try simp(maxSteps:=2000000) only[undef,am0,am1,am2,am3,amb0,amb1,amb2,amb3,amb4,lwn,drn,callee,wantedB,isW,eff,pev,pst0,retPost,resAll,resP,resV,intP,mkV,putC,pbin,sbin,strsEq,peq,pint,pshift,pstr,pun,pconv,isShift,isConstB,app,subS,lay,rowsOf,lkV,keyKind,keyEq,mfind,mput,oInt,isZeroInt,forall_const,exists_eq_left',implies_true,IntKind.bits, ↓reduceIte,Nat.reduceEqDiff,Nat.reduceAdd,Nat.reduceSub,Nat.reduceMul,Nat.reduceLT,Nat.reduceLeDiff,Nat.reduceBEq,Int.reduceLE,Int.reduceLT,Int.reduceToNat,reduceCtorEq,Ty.all,ho',wn,b0,k1,k2,k3,c1,c2,Bool.not_true]);rfl) (fun hb=>?_) (fun hb=>?_)<;>(try simp only[hb0,decide_eq_true_eq,decide_eq_false_iff_not,reduceCtorEq]at hb)<;>(try(exfalso;omega)))
        |(with_reducible refine ite_in (fun hb=>?_) (fun hb=>?_)<;>(try simp only[Decidable.not_not]at hb)<;>(try simp only[hb,if_true,if_false,not_false_eq_true,not_true_eq_false, ↓reduceIte])<;>(try simp only[hb0,decide_eq_true_eq,decide_eq_false_iff_not,reduceCtorEq]at hb)<;>(try(exfalso;omega)))
        |(refine hK _ _ ?_;clear hK;try simp only[pst0, ↓reduceIte,Nat.reduceEqDiff])
        |(clear hK;refine hK _ _ ?_;clear hK;try simp only[pst0, ↓reduceIte,Nat.reduceEqDiff])
        |(clear hK;clear hK;refine hK _ _ ?_;clear hK;try simp only[pst0, ↓reduceIte,Nat.reduceEqDiff])
        |(clear hK;clear hK;clear hK;refine hK _ _ ?_;clear hK;try simp only[pst0, ↓reduceIte,Nat.reduceEqDiff])
        |(rw[if_pos];rotate_left 1;omega;simp(maxSteps:=2000000) only[undef,am0,am1,am2,am3,amb0,amb1,amb2,amb3,amb4,lwn,drn,callee,wantedB,isW,eff,pev,pst0,retPost,resAll,resP,resV,intP,mkV,putC,pbin,sbin,strsEq,peq,pint,pshift,pstr,pun,pconv,isShift,isConstB,app,subS,lay,rowsOf,lkV,keyKind,keyEq,mfind,mput,oInt,isZeroInt,forall_const,exists_eq_left',implies_true,IntKind.bits, ↓reduceIte,Nat.reduceEqDiff,Nat.reduceAdd,Nat.reduceSub,Nat.reduceMul,Nat.reduceLT,Nat.reduceLeDiff,Nat.reduceBEq,Int.reduceLE,Int.reduceLT,Int.reduceToNat,reduceCtorEq,Ty.all,ho',wn,b0,k1,k2,k3,c1,c2,Bool.not_true]))
       first|exact G1|exact⟨rfl,G1⟩
      |false=>
       cases c3:((d:Int)==32)with
       |true=>
        rw[if_neg (by simp at c3;simp;omega)]
        refine pcall_body (ow:=fun _=>false) (wf:=fun _=>false) Ty.mixed Tryz.func162 rfl Ty.hb_162 (by rw[Tryz.ntmps162];simp) ?_
        rw[Tryz.ntmps162,Tryz.results162]
        repeat'(first
         |refine a_seq fun K hK=>?_
         |(refine a_block ?_)
         |((first|refine a_regionS ?_|refine a_region (fun K hK=>?_)|refine a_ret ?_);simp(maxSteps:=2000000) only[undef,am0,am1,am2,am3,amb0,amb1,amb2,amb3,amb4,lwn,drn,callee,wantedB,isW,eff,pev,pst0,retPost,resAll,resP,resV,intP,mkV,putC,pbin,sbin,strsEq,peq,pint,pshift,pstr,pun,pconv,isShift,isConstB,app,subS,lay,rowsOf,lkV,keyKind,keyEq,mfind,mput,oInt,isZeroInt,forall_const,exists_eq_left',implies_true,IntKind.bits, ↓reduceIte,Nat.reduceEqDiff,Nat.reduceAdd,Nat.reduceSub,Nat.reduceMul,Nat.reduceLT,Nat.reduceLeDiff,Nat.reduceBEq,Int.reduceLE,Int.reduceLT,Int.reduceToNat,reduceCtorEq,Ty.all,ho',wn,b0,k1,k2,k3,c1,c2,c3,Bool.not_true])
         |(refine a_skip ?_;try simp only[pst0, ↓reduceIte,Nat.reduceEqDiff])
         |(refine a_exit ?_;try simp only[pst0, ↓reduceIte,Nat.reduceEqDiff])
         |(refine a_cond _ (by(try simp(maxSteps:=2000000) only[undef,am0,am1,am2,am3,amb0,amb1,amb2,amb3,amb4,lwn,drn,callee,wantedB,isW,eff,pev,pst0,retPost,resAll,resP,resV,intP,mkV,putC,pbin,sbin,strsEq,peq,pint,pshift,pstr,pun,pconv,isShift,isConstB,app,subS,lay,rowsOf,lkV,keyKind,keyEq,mfind,mput,oInt,isZeroInt,forall_const,exists_eq_left',implies_true,IntKind.bits, ↓reduceIte,Nat.reduceEqDiff,Nat.reduceAdd,Nat.reduceSub,Nat.reduceMul,Nat.reduceLT,Nat.reduceLeDiff,Nat.reduceBEq,Int.reduceLE,Int.reduceLT,Int.reduceToNat,reduceCtorEq,Ty.all,ho',wn,b0,k1,k2,k3,c1,c2,c3,Bool.not_true]);rfl) (fun hb=>?_) (fun hb=>?_)<;>(try simp only[hb0,decide_eq_true_eq,decide_eq_false_iff_not,reduceCtorEq]at hb)<;>(try(exfalso;omega)))
         |(with_reducible refine ite_in (fun hb=>?_) (fun hb=>?_)<;>(try simp only[Decidable.not_not]at hb)<;>(try simp only[hb,if_true,if_false,not_false_eq_true,not_true_eq_false, ↓reduceIte])<;>(try simp only[hb0,decide_eq_true_eq,decide_eq_false_iff_not,reduceCtorEq]at hb)<;>(try(exfalso;omega)))
         |(refine hK _ _ ?_;clear hK;try simp only[pst0, ↓reduceIte,Nat.reduceEqDiff])
         |(clear hK;refine hK _ _ ?_;clear hK;try simp only[pst0, ↓reduceIte,Nat.reduceEqDiff])
         |(clear hK;clear hK;refine hK _ _ ?_;clear hK;try simp only[pst0, ↓reduceIte,Nat.reduceEqDiff])
         |(clear hK;clear hK;clear hK;refine hK _ _ ?_;clear hK;try simp only[pst0, ↓reduceIte,Nat.reduceEqDiff])
         |(rw[if_pos];rotate_left 1;omega;simp(maxSteps:=2000000) only[undef,am0,am1,am2,am3,amb0,amb1,amb2,amb3,amb4,lwn,drn,callee,wantedB,isW,eff,pev,pst0,retPost,resAll,resP,resV,intP,mkV,putC,pbin,sbin,strsEq,peq,pint,pshift,pstr,pun,pconv,isShift,isConstB,app,subS,lay,rowsOf,lkV,keyKind,keyEq,mfind,mput,oInt,isZeroInt,forall_const,exists_eq_left',implies_true,IntKind.bits, ↓reduceIte,Nat.reduceEqDiff,Nat.reduceAdd,Nat.reduceSub,Nat.reduceMul,Nat.reduceLT,Nat.reduceLeDiff,Nat.reduceBEq,Int.reduceLE,Int.reduceLT,Int.reduceToNat,reduceCtorEq,Ty.all,ho',wn,b0,k1,k2,k3,c1,c2,c3,Bool.not_true]))
        first|exact G1|exact⟨rfl,G1⟩
       |false=>
        rw[if_pos (by simp at c2 c3;exact⟨c1,c2,by omega⟩)]
        refine pcall_body (ow:=fun _=>false) (wf:=fun _=>false) Ty.mixed Tryz.func162 rfl Ty.hb_162 (by rw[Tryz.ntmps162];simp) ?_
        rw[Tryz.ntmps162,Tryz.results162]
        repeat'(first
         |refine a_seq fun K hK=>?_
         |(refine a_block ?_)
         |((first|refine a_regionS ?_|refine a_region (fun K hK=>?_)|refine a_ret ?_);simp(maxSteps:=2000000) only[undef,am0,am1,am2,am3,amb0,amb1,amb2,amb3,amb4,lwn,drn,callee,wantedB,isW,eff,pev,pst0,retPost,resAll,resP,resV,intP,mkV,putC,pbin,sbin,strsEq,peq,pint,pshift,pstr,pun,pconv,isShift,isConstB,app,subS,lay,rowsOf,lkV,keyKind,keyEq,mfind,mput,oInt,isZeroInt,forall_const,exists_eq_left',implies_true,IntKind.bits, ↓reduceIte,Nat.reduceEqDiff,Nat.reduceAdd,Nat.reduceSub,Nat.reduceMul,Nat.reduceLT,Nat.reduceLeDiff,Nat.reduceBEq,Int.reduceLE,Int.reduceLT,Int.reduceToNat,reduceCtorEq,Ty.all,ho',wn,b0,k1,k2,k3,c1,c2,c3,Bool.not_true,hlen])
         |(refine a_skip ?_;try simp only[pst0, ↓reduceIte,Nat.reduceEqDiff])
         |(refine a_exit ?_;try simp only[pst0, ↓reduceIte,Nat.reduceEqDiff])
         |(refine a_cond _ (by(try simp(maxSteps:=2000000) only[undef,am0,am1,am2,am3,amb0,amb1,amb2,amb3,amb4,lwn,drn,callee,wantedB,isW,eff,pev,pst0,retPost,resAll,resP,resV,intP,mkV,putC,pbin,sbin,strsEq,peq,pint,pshift,pstr,pun,pconv,isShift,isConstB,app,subS,lay,rowsOf,lkV,keyKind,keyEq,mfind,mput,oInt,isZeroInt,forall_const,exists_eq_left',implies_true,IntKind.bits, ↓reduceIte,Nat.reduceEqDiff,Nat.reduceAdd,Nat.reduceSub,Nat.reduceMul,Nat.reduceLT,Nat.reduceLeDiff,Nat.reduceBEq,Int.reduceLE,Int.reduceLT,Int.reduceToNat,reduceCtorEq,Ty.all,ho',wn,b0,k1,k2,k3,c1,c2,c3,Bool.not_true,hlen]);rfl) (fun hb=>?_) (fun hb=>?_)<;>(try simp only[hb0,decide_eq_true_eq,decide_eq_false_iff_not,reduceCtorEq]at hb)<;>(try(exfalso;omega)))
         |(with_reducible refine ite_in (fun hb=>?_) (fun hb=>?_)<;>(try simp only[Decidable.not_not]at hb)<;>(try simp only[hb,if_true,if_false,not_false_eq_true,not_true_eq_false, ↓reduceIte])<;>(try simp only[hb0,decide_eq_true_eq,decide_eq_false_iff_not,reduceCtorEq]at hb)<;>(try(exfalso;omega)))
         |(refine hK _ _ ?_;clear hK;try simp only[pst0, ↓reduceIte,Nat.reduceEqDiff])
         |(clear hK;refine hK _ _ ?_;clear hK;try simp only[pst0, ↓reduceIte,Nat.reduceEqDiff])
         |(clear hK;clear hK;refine hK _ _ ?_;clear hK;try simp only[pst0, ↓reduceIte,Nat.reduceEqDiff])
         |(clear hK;clear hK;clear hK;refine hK _ _ ?_;clear hK;try simp only[pst0, ↓reduceIte,Nat.reduceEqDiff])
         |(rw[if_pos];rotate_left 1;omega;simp(maxSteps:=2000000) only[undef,am0,am1,am2,am3,amb0,amb1,amb2,amb3,amb4,lwn,drn,callee,wantedB,isW,eff,pev,pst0,retPost,resAll,resP,resV,intP,mkV,putC,pbin,sbin,strsEq,peq,pint,pshift,pstr,pun,pconv,isShift,isConstB,app,subS,lay,rowsOf,lkV,keyKind,keyEq,mfind,mput,oInt,isZeroInt,forall_const,exists_eq_left',implies_true,IntKind.bits, ↓reduceIte,Nat.reduceEqDiff,Nat.reduceAdd,Nat.reduceSub,Nat.reduceMul,Nat.reduceLT,Nat.reduceLeDiff,Nat.reduceBEq,Int.reduceLE,Int.reduceLT,Int.reduceToNat,reduceCtorEq,Ty.all,ho',wn,b0,k1,k2,k3,c1,c2,c3,Bool.not_true,hlen]))
        generalize hV:svalids kids (d+1) (n+1)=V
        refine a_loop (fun c S h'=>S 1= .sc (.int .i64 d)∧S 2= .ptr id 0 0∧S 89= .imm 6 (Sx.rows kids)∧S 90= .sc (.int .i64 kids.length)∧ ∃ k n':Nat,S 91= .sc (.int .i64 k)∧k≤kids.length∧c=kids.length-k∧n'≤4096∧GrowX h id (cntO n') h'∧V=svalids (kids.drop k) (d+1) n') kids.length ?_ ?_
        ·simp only[undef,am0,am1,am2,am3,amb0,amb1,amb2,amb3,amb4,lwn,drn,callee,wantedB,isW,eff,pev,pst0,retPost,resAll,resP,resV,intP,mkV,putC,pbin,sbin,strsEq,peq,pint,pshift,pstr,pun,pconv,isShift,isConstB,app,subS,lay,rowsOf,lkV,keyKind,keyEq,mfind,mput,oInt,isZeroInt,forall_const,exists_eq_left',implies_true,IntKind.bits, ↓reduceIte,Nat.reduceEqDiff,Nat.reduceAdd,Nat.reduceSub,Nat.reduceMul,Nat.reduceLT,Nat.reduceLeDiff,Nat.reduceBEq,Int.reduceLE,Int.reduceLT,Int.reduceToNat,reduceCtorEq]
         exact⟨0,n+1,rfl,by omega,rfl,by simp at b0;omega,G1,hV.symm⟩
        ·clear G1 ho'
         rintro c S h' ⟨g1,g2,g89,g90,k,n',g91,hkl,rfl,hn',hG,hinv⟩
         by_cases hlt:k<kids.length
         ·have hdk:decide ((k:Int)<(kids.length:Int))=true:=by simp;omega
          have w7:IntKind.i64.wrap ((k:Int)+1)=k+1:=by unfold bigN at hk;rw[wrap64 (by omega) (by omega)]
          have wd:IntKind.i64.wrap ((d:Int)+1)=(d:Int)+1:=by rw[wrap64 (by omega) (by omega)]
          obtain⟨e,hx⟩: ∃ e,kids[k]? =some e:=⟨_,List.getElem?_eq_getElem hlt⟩
          have hmem:=List.mem_of_getElem? hx
          have hc:=ih e hmem (hks e hmem) (d+1) n' (by simp at c3;omega) hn' id
          have hle:=svalid_le e (d+1) n'
          rw[drop_of_get hx]at hinv
          simp only[svalids]at hinv
          generalize svalid e (d+1) n'=W at hc hle hinv
          obtain⟨b,n''⟩:=W
          simp only[natc]at hc hle hinv
          have hr:=Sx.rows_get hx
          have hne:id≠h'.next:=by have:=hG.le;omega
          have hne':(h'.next=id)=False:=by simp;omega
          have hc2:=hc ((h'.new (.arr 6 [[.sc (.int .i64 0),.sc (.int .i64 0),.sc (.int .i64 0),.sc (.int .i64 0),.sc (.string ⟨#[]⟩),.sc (.slice none 0 0)]])).set h'.next (.arr 6 [e.cells])) (by simp only[Heap.set,Heap.new];rw[if_neg hne,if_neg hne];exact hG.at_)
          have hG2:GrowX h id (cntO n') ((h'.new (.arr 6 [[.sc (.int .i64 0),.sc (.int .i64 0),.sc (.int .i64 0),.sc (.int .i64 0),.sc (.string ⟨#[]⟩),.sc (.slice none 0 0)]])).set h'.next (.arr 6 [e.cells])):=(hG.new hid).set hid hG.le
          obtain⟨ki,va,li,co,te,ks⟩:=e
          simp only[Sx.cells]at hr hc2 hG2
          repeat'(first
           |refine a_seq fun K hK=>?_
           |(refine a_block ?_)
           |((first|refine a_regionS ?_|refine a_region (fun K hK=>?_)|refine a_ret ?_);simp(maxSteps:=2000000) only[undef,am0,am1,am2,am3,amb0,amb1,amb2,amb3,amb4,lwn,drn,callee,wantedB,isW,eff,pev,pst0,retPost,resAll,resP,resV,intP,mkV,putC,pbin,sbin,strsEq,peq,pint,pshift,pstr,pun,pconv,isShift,isConstB,app,subS,lay,rowsOf,lkV,keyKind,keyEq,mfind,mput,oInt,isZeroInt,forall_const,exists_eq_left',implies_true,IntKind.bits, ↓reduceIte,Nat.reduceEqDiff,Nat.reduceAdd,Nat.reduceSub,Nat.reduceMul,Nat.reduceLT,Nat.reduceLeDiff,Nat.reduceBEq,Int.reduceLE,Int.reduceLT,Int.reduceToNat,reduceCtorEq,Ty.all,g1,g2,g89,g90,g91,hlen,hdk,hr,wd])
           |(refine a_skip ?_;try simp only[pst0, ↓reduceIte,Nat.reduceEqDiff])
           |(refine a_exit ?_;try simp only[pst0, ↓reduceIte,Nat.reduceEqDiff])
           |(refine a_cond _ (by(try simp(maxSteps:=2000000) only[undef,am0,am1,am2,am3,amb0,amb1,amb2,amb3,amb4,lwn,drn,callee,wantedB,isW,eff,pev,pst0,retPost,resAll,resP,resV,intP,mkV,putC,pbin,sbin,strsEq,peq,pint,pshift,pstr,pun,pconv,isShift,isConstB,app,subS,lay,rowsOf,lkV,keyKind,keyEq,mfind,mput,oInt,isZeroInt,forall_const,exists_eq_left',implies_true,IntKind.bits, ↓reduceIte,Nat.reduceEqDiff,Nat.reduceAdd,Nat.reduceSub,Nat.reduceMul,Nat.reduceLT,Nat.reduceLeDiff,Nat.reduceBEq,Int.reduceLE,Int.reduceLT,Int.reduceToNat,reduceCtorEq,Ty.all,g1,g2,g89,g90,g91,hlen,hdk,hr,wd]);rfl) (fun hb=>?_) (fun hb=>?_)<;>(try simp only[hb0,decide_eq_true_eq,decide_eq_false_iff_not,reduceCtorEq]at hb)<;>(try(exfalso;omega)))
           |(with_reducible refine ite_in (fun hb=>?_) (fun hb=>?_)<;>(try simp only[Decidable.not_not]at hb)<;>(try simp only[hb,if_true,if_false,not_false_eq_true,not_true_eq_false, ↓reduceIte])<;>(try simp only[hb0,decide_eq_true_eq,decide_eq_false_iff_not,reduceCtorEq]at hb)<;>(try(exfalso;omega)))
           |(refine hK _ _ ?_;clear hK;try simp only[pst0, ↓reduceIte,Nat.reduceEqDiff])
           |(clear hK;refine hK _ _ ?_;clear hK;try simp only[pst0, ↓reduceIte,Nat.reduceEqDiff])
           |(clear hK;clear hK;refine hK _ _ ?_;clear hK;try simp only[pst0, ↓reduceIte,Nat.reduceEqDiff])
           |(clear hK;clear hK;clear hK;refine hK _ _ ?_;clear hK;try simp only[pst0, ↓reduceIte,Nat.reduceEqDiff])
           |(rw[if_pos];rotate_left 1;omega;simp(maxSteps:=2000000) only[undef,am0,am1,am2,am3,amb0,amb1,amb2,amb3,amb4,lwn,drn,callee,wantedB,isW,eff,pev,pst0,retPost,resAll,resP,resV,intP,mkV,putC,pbin,sbin,strsEq,peq,pint,pshift,pstr,pun,pconv,isShift,isConstB,app,subS,lay,rowsOf,lkV,keyKind,keyEq,mfind,mput,oInt,isZeroInt,forall_const,exists_eq_left',implies_true,IntKind.bits, ↓reduceIte,Nat.reduceEqDiff,Nat.reduceAdd,Nat.reduceSub,Nat.reduceMul,Nat.reduceLT,Nat.reduceLeDiff,Nat.reduceBEq,Int.reduceLE,Int.reduceLT,Int.reduceToNat,reduceCtorEq,Ty.all,g1,g2,g89,g90,g91,hlen,hdk,hr,wd]))
          refine owp_useH (hc2) (by(try simp only[undef,am0,am1,am2,am3,amb0,amb1,amb2,amb3,amb4,lwn,drn,callee,wantedB,isW,eff,pev,pst0,retPost,resAll,resP,resV,intP,mkV,putC,pbin,sbin,strsEq,peq,pint,pshift,pstr,pun,pconv,isShift,isConstB,app,subS,lay,rowsOf,lkV,keyKind,keyEq,mfind,mput,oInt,isZeroInt,forall_const,exists_eq_left',implies_true,IntKind.bits, ↓reduceIte,Nat.reduceEqDiff,Nat.reduceAdd,Nat.reduceSub,Nat.reduceMul,Nat.reduceLT,Nat.reduceLeDiff,Nat.reduceBEq,Int.reduceLE,Int.reduceLT,Int.reduceToNat,reduceCtorEq,g1,g2,g89,g90,g91,hlen,hdk,hr,wd]);try rfl) ?_
          simp(maxSteps:=2000000) only[undef,am0,am1,am2,am3,amb0,amb1,amb2,amb3,amb4,lwn,drn,callee,wantedB,isW,eff,pev,pst0,retPost,resAll,resP,resV,intP,mkV,putC,pbin,sbin,strsEq,peq,pint,pshift,pstr,pun,pconv,isShift,isConstB,app,subS,lay,rowsOf,lkV,keyKind,keyEq,mfind,mput,oInt,isZeroInt,forall_const,exists_eq_left',implies_true,IntKind.bits, ↓reduceIte,Nat.reduceEqDiff,Nat.reduceAdd,Nat.reduceSub,Nat.reduceMul,Nat.reduceLT,Nat.reduceLeDiff,Nat.reduceBEq,Int.reduceLE,Int.reduceLT,Int.reduceToNat,reduceCtorEq,Ty.all,g1,g2,g89,g90,g91,hlen,hdk,hr,wd]
          cases b with
          |false=>
           subst hinv
           repeat'(first
            |refine a_seq fun K hK=>?_
            |(refine a_block ?_)
            |((first|refine a_regionS ?_|refine a_region (fun K hK=>?_)|refine a_ret ?_);simp(maxSteps:=2000000) only[undef,am0,am1,am2,am3,amb0,amb1,amb2,amb3,amb4,lwn,drn,callee,wantedB,isW,eff,pev,pst0,retPost,resAll,resP,resV,intP,mkV,putC,pbin,sbin,strsEq,peq,pint,pshift,pstr,pun,pconv,isShift,isConstB,app,subS,lay,rowsOf,lkV,keyKind,keyEq,mfind,mput,oInt,isZeroInt,forall_const,exists_eq_left',implies_true,IntKind.bits, ↓reduceIte,Nat.reduceEqDiff,Nat.reduceAdd,Nat.reduceSub,Nat.reduceMul,Nat.reduceLT,Nat.reduceLeDiff,Nat.reduceBEq,Int.reduceLE,Int.reduceLT,Int.reduceToNat,reduceCtorEq,Ty.all,g1,g2,g89,g90,g91,w7,Bool.not_false])
            |(refine a_skip ?_;try simp only[pst0, ↓reduceIte,Nat.reduceEqDiff])
            |(refine a_exit ?_;try simp only[pst0, ↓reduceIte,Nat.reduceEqDiff])
            |(refine a_cond _ (by(try simp(maxSteps:=2000000) only[undef,am0,am1,am2,am3,amb0,amb1,amb2,amb3,amb4,lwn,drn,callee,wantedB,isW,eff,pev,pst0,retPost,resAll,resP,resV,intP,mkV,putC,pbin,sbin,strsEq,peq,pint,pshift,pstr,pun,pconv,isShift,isConstB,app,subS,lay,rowsOf,lkV,keyKind,keyEq,mfind,mput,oInt,isZeroInt,forall_const,exists_eq_left',implies_true,IntKind.bits, ↓reduceIte,Nat.reduceEqDiff,Nat.reduceAdd,Nat.reduceSub,Nat.reduceMul,Nat.reduceLT,Nat.reduceLeDiff,Nat.reduceBEq,Int.reduceLE,Int.reduceLT,Int.reduceToNat,reduceCtorEq,Ty.all,g1,g2,g89,g90,g91,w7,Bool.not_false]);rfl) (fun hb=>?_) (fun hb=>?_)<;>(try simp only[hb0,decide_eq_true_eq,decide_eq_false_iff_not,reduceCtorEq]at hb)<;>(try(exfalso;omega)))
            |(with_reducible refine ite_in (fun hb=>?_) (fun hb=>?_)<;>(try simp only[Decidable.not_not]at hb)<;>(try simp only[hb,if_true,if_false,not_false_eq_true,not_true_eq_false, ↓reduceIte])<;>(try simp only[hb0,decide_eq_true_eq,decide_eq_false_iff_not,reduceCtorEq]at hb)<;>(try(exfalso;omega)))
            |(refine hK _ _ ?_;clear hK;try simp only[pst0, ↓reduceIte,Nat.reduceEqDiff])
            |(clear hK;refine hK _ _ ?_;clear hK;try simp only[pst0, ↓reduceIte,Nat.reduceEqDiff])
            |(clear hK;clear hK;refine hK _ _ ?_;clear hK;try simp only[pst0, ↓reduceIte,Nat.reduceEqDiff])
            |(clear hK;clear hK;clear hK;refine hK _ _ ?_;clear hK;try simp only[pst0, ↓reduceIte,Nat.reduceEqDiff])
            |(rw[if_pos];rotate_left 1;omega;simp(maxSteps:=2000000) only[undef,am0,am1,am2,am3,amb0,amb1,amb2,amb3,amb4,lwn,drn,callee,wantedB,isW,eff,pev,pst0,retPost,resAll,resP,resV,intP,mkV,putC,pbin,sbin,strsEq,peq,pint,pshift,pstr,pun,pconv,isShift,isConstB,app,subS,lay,rowsOf,lkV,keyKind,keyEq,mfind,mput,oInt,isZeroInt,forall_const,exists_eq_left',implies_true,IntKind.bits, ↓reduceIte,Nat.reduceEqDiff,Nat.reduceAdd,Nat.reduceSub,Nat.reduceMul,Nat.reduceLT,Nat.reduceLeDiff,Nat.reduceBEq,Int.reduceLE,Int.reduceLT,Int.reduceToNat,reduceCtorEq,Ty.all,g1,g2,g89,g90,g91,w7,Bool.not_false]))
           exact hG2.put
          |true=>
           repeat'(first
            |refine a_seq fun K hK=>?_
            |(refine a_block ?_)
            |((first|refine a_regionS ?_|refine a_region (fun K hK=>?_)|refine a_ret ?_);simp(maxSteps:=2000000) only[undef,am0,am1,am2,am3,amb0,amb1,amb2,amb3,amb4,lwn,drn,callee,wantedB,isW,eff,pev,pst0,retPost,resAll,resP,resV,intP,mkV,putC,pbin,sbin,strsEq,peq,pint,pshift,pstr,pun,pconv,isShift,isConstB,app,subS,lay,rowsOf,lkV,keyKind,keyEq,mfind,mput,oInt,isZeroInt,forall_const,exists_eq_left',implies_true,IntKind.bits, ↓reduceIte,Nat.reduceEqDiff,Nat.reduceAdd,Nat.reduceSub,Nat.reduceMul,Nat.reduceLT,Nat.reduceLeDiff,Nat.reduceBEq,Int.reduceLE,Int.reduceLT,Int.reduceToNat,reduceCtorEq,Ty.all,g1,g2,g89,g90,g91,w7,Bool.not_true])
            |(refine a_skip ?_;try simp only[pst0, ↓reduceIte,Nat.reduceEqDiff])
            |(refine a_exit ?_;try simp only[pst0, ↓reduceIte,Nat.reduceEqDiff])
            |(refine a_cond _ (by(try simp(maxSteps:=2000000) only[undef,am0,am1,am2,am3,amb0,amb1,amb2,amb3,amb4,lwn,drn,callee,wantedB,isW,eff,pev,pst0,retPost,resAll,resP,resV,intP,mkV,putC,pbin,sbin,strsEq,peq,pint,pshift,pstr,pun,pconv,isShift,isConstB,app,subS,lay,rowsOf,lkV,keyKind,keyEq,mfind,mput,oInt,isZeroInt,forall_const,exists_eq_left',implies_true,IntKind.bits, ↓reduceIte,Nat.reduceEqDiff,Nat.reduceAdd,Nat.reduceSub,Nat.reduceMul,Nat.reduceLT,Nat.reduceLeDiff,Nat.reduceBEq,Int.reduceLE,Int.reduceLT,Int.reduceToNat,reduceCtorEq,Ty.all,g1,g2,g89,g90,g91,w7,Bool.not_true]);rfl) (fun hb=>?_) (fun hb=>?_)<;>(try simp only[hb0,decide_eq_true_eq,decide_eq_false_iff_not,reduceCtorEq]at hb)<;>(try(exfalso;omega)))
            |(with_reducible refine ite_in (fun hb=>?_) (fun hb=>?_)<;>(try simp only[Decidable.not_not]at hb)<;>(try simp only[hb,if_true,if_false,not_false_eq_true,not_true_eq_false, ↓reduceIte])<;>(try simp only[hb0,decide_eq_true_eq,decide_eq_false_iff_not,reduceCtorEq]at hb)<;>(try(exfalso;omega)))
            |(refine hK _ _ ?_;clear hK;try simp only[pst0, ↓reduceIte,Nat.reduceEqDiff])
            |(clear hK;refine hK _ _ ?_;clear hK;try simp only[pst0, ↓reduceIte,Nat.reduceEqDiff])
            |(clear hK;clear hK;refine hK _ _ ?_;clear hK;try simp only[pst0, ↓reduceIte,Nat.reduceEqDiff])
            |(clear hK;clear hK;clear hK;refine hK _ _ ?_;clear hK;try simp only[pst0, ↓reduceIte,Nat.reduceEqDiff])
            |(rw[if_pos];rotate_left 1;omega;simp(maxSteps:=2000000) only[undef,am0,am1,am2,am3,amb0,amb1,amb2,amb3,amb4,lwn,drn,callee,wantedB,isW,eff,pev,pst0,retPost,resAll,resP,resV,intP,mkV,putC,pbin,sbin,strsEq,peq,pint,pshift,pstr,pun,pconv,isShift,isConstB,app,subS,lay,rowsOf,lkV,keyKind,keyEq,mfind,mput,oInt,isZeroInt,forall_const,exists_eq_left',implies_true,IntKind.bits, ↓reduceIte,Nat.reduceEqDiff,Nat.reduceAdd,Nat.reduceSub,Nat.reduceMul,Nat.reduceLT,Nat.reduceLeDiff,Nat.reduceBEq,Int.reduceLE,Int.reduceLT,Int.reduceToNat,reduceCtorEq,Ty.all,g1,g2,g89,g90,g91,w7,Bool.not_true]))
           exact⟨kids.length-(k+1),by omega,k+1,n'',by simp,by omega,rfl,hle rfl,hG2.put,hinv⟩
         ·have hdk:decide ((k:Int)<(kids.length:Int))=false:=by simp;omega
          rw[List.drop_eq_nil_of_le (by omega)]at hinv
          simp only[svalids]at hinv
          subst hinv
          repeat'(first
           |refine a_seq fun K hK=>?_
           |(refine a_block ?_)
           |((first|refine a_regionS ?_|refine a_region (fun K hK=>?_)|refine a_ret ?_);simp(maxSteps:=2000000) only[undef,am0,am1,am2,am3,amb0,amb1,amb2,amb3,amb4,lwn,drn,callee,wantedB,isW,eff,pev,pst0,retPost,resAll,resP,resV,intP,mkV,putC,pbin,sbin,strsEq,peq,pint,pshift,pstr,pun,pconv,isShift,isConstB,app,subS,lay,rowsOf,lkV,keyKind,keyEq,mfind,mput,oInt,isZeroInt,forall_const,exists_eq_left',implies_true,IntKind.bits, ↓reduceIte,Nat.reduceEqDiff,Nat.reduceAdd,Nat.reduceSub,Nat.reduceMul,Nat.reduceLT,Nat.reduceLeDiff,Nat.reduceBEq,Int.reduceLE,Int.reduceLT,Int.reduceToNat,reduceCtorEq,Ty.all,g1,g2,g89,g90,g91,hdk])
           |(refine a_skip ?_;try simp only[pst0, ↓reduceIte,Nat.reduceEqDiff])
           |(refine a_exit ?_;try simp only[pst0, ↓reduceIte,Nat.reduceEqDiff])
           |(refine a_cond _ (by(try simp(maxSteps:=2000000) only[undef,am0,am1,am2,am3,amb0,amb1,amb2,amb3,amb4,lwn,drn,callee,wantedB,isW,eff,pev,pst0,retPost,resAll,resP,resV,intP,mkV,putC,pbin,sbin,strsEq,peq,pint,pshift,pstr,pun,pconv,isShift,isConstB,app,subS,lay,rowsOf,lkV,keyKind,keyEq,mfind,mput,oInt,isZeroInt,forall_const,exists_eq_left',implies_true,IntKind.bits, ↓reduceIte,Nat.reduceEqDiff,Nat.reduceAdd,Nat.reduceSub,Nat.reduceMul,Nat.reduceLT,Nat.reduceLeDiff,Nat.reduceBEq,Int.reduceLE,Int.reduceLT,Int.reduceToNat,reduceCtorEq,Ty.all,g1,g2,g89,g90,g91,hdk]);rfl) (fun hb=>?_) (fun hb=>?_)<;>(try simp only[hb0,decide_eq_true_eq,decide_eq_false_iff_not,reduceCtorEq]at hb)<;>(try(exfalso;omega)))
           |(with_reducible refine ite_in (fun hb=>?_) (fun hb=>?_)<;>(try simp only[Decidable.not_not]at hb)<;>(try simp only[hb,if_true,if_false,not_false_eq_true,not_true_eq_false, ↓reduceIte])<;>(try simp only[hb0,decide_eq_true_eq,decide_eq_false_iff_not,reduceCtorEq]at hb)<;>(try(exfalso;omega)))
           |(refine hK _ _ ?_;clear hK;try simp only[pst0, ↓reduceIte,Nat.reduceEqDiff])
           |(clear hK;refine hK _ _ ?_;clear hK;try simp only[pst0, ↓reduceIte,Nat.reduceEqDiff])
           |(clear hK;clear hK;refine hK _ _ ?_;clear hK;try simp only[pst0, ↓reduceIte,Nat.reduceEqDiff])
           |(clear hK;clear hK;clear hK;refine hK _ _ ?_;clear hK;try simp only[pst0, ↓reduceIte,Nat.reduceEqDiff])
           |(rw[if_pos];rotate_left 1;omega;simp(maxSteps:=2000000) only[undef,am0,am1,am2,am3,amb0,amb1,amb2,amb3,amb4,lwn,drn,callee,wantedB,isW,eff,pev,pst0,retPost,resAll,resP,resV,intP,mkV,putC,pbin,sbin,strsEq,peq,pint,pshift,pstr,pun,pconv,isShift,isConstB,app,subS,lay,rowsOf,lkV,keyKind,keyEq,mfind,mput,oInt,isZeroInt,forall_const,exists_eq_left',implies_true,IntKind.bits, ↓reduceIte,Nat.reduceEqDiff,Nat.reduceAdd,Nat.reduceSub,Nat.reduceMul,Nat.reduceLT,Nat.reduceLeDiff,Nat.reduceBEq,Int.reduceLE,Int.reduceLT,Int.reduceToNat,reduceCtorEq,Ty.all,g1,g2,g89,g90,g91,hdk]))
          rw[hV]
          exact⟨rfl,hG⟩
theorem svalid_c{x:Sx}(hx:x.ok)(h:Heap):PCall Tryz.prog 88 [.agg x.cells] h fun r h'=>r= .sc (.bool (svalid x 0 0).1)∧h'=h:=by
 have hc:=valid_c x hx 0 0 (by omega) (by omega) h.next ((h.new (.arr 1 [[.sc (.int .i64 0)]])).set h.next (.arr 1 [[.sc (.int .i64 0)]])) (by simp[Heap.set,cntO])
 refine PCall.quiet Ty.hb_88 ?_
 generalize svalid x 0 0=W at hc
 obtain⟨b,n⟩:=W
 obtain⟨ki,va,li,co,te,ks⟩:=x
 simp only[Sx.cells,Int.natCast_zero]at hc⊢
 refine pcall_body (ow:=fun _=>false) (wf:=fun _=>false) Ty.mixed Tryz.func88 rfl Ty.hb_88 (by rw[Tryz.ntmps88];simp) ?_
 rw[Tryz.ntmps88,Tryz.results88]
 repeat'(first
  |refine a_seq fun K hK=>?_
  |(refine a_block ?_)
  |((first|refine a_regionS ?_|refine a_region (fun K hK=>?_)|refine a_ret ?_);simp(maxSteps:=2000000) only[undef,am0,am1,am2,am3,amb0,amb1,amb2,amb3,amb4,lwn,drn,callee,wantedB,isW,eff,pev,pst0,retPost,resAll,resP,resV,intP,mkV,putC,pbin,sbin,strsEq,peq,pint,pshift,pstr,pun,pconv,isShift,isConstB,app,subS,lay,rowsOf,lkV,keyKind,keyEq,mfind,mput,oInt,isZeroInt,forall_const,exists_eq_left',implies_true,IntKind.bits, ↓reduceIte,Nat.reduceEqDiff,Nat.reduceAdd,Nat.reduceSub,Nat.reduceMul,Nat.reduceLT,Nat.reduceLeDiff,Nat.reduceBEq,Int.reduceLE,Int.reduceLT,Int.reduceToNat,reduceCtorEq,Ty.all])
  |(refine a_skip ?_;try simp only[pst0, ↓reduceIte,Nat.reduceEqDiff])
  |(refine a_exit ?_;try simp only[pst0, ↓reduceIte,Nat.reduceEqDiff])
  |(refine a_cond _ (by(try simp(maxSteps:=2000000) only[undef,am0,am1,am2,am3,amb0,amb1,amb2,amb3,amb4,lwn,drn,callee,wantedB,isW,eff,pev,pst0,retPost,resAll,resP,resV,intP,mkV,putC,pbin,sbin,strsEq,peq,pint,pshift,pstr,pun,pconv,isShift,isConstB,app,subS,lay,rowsOf,lkV,keyKind,keyEq,mfind,mput,oInt,isZeroInt,forall_const,exists_eq_left',implies_true,IntKind.bits, ↓reduceIte,Nat.reduceEqDiff,Nat.reduceAdd,Nat.reduceSub,Nat.reduceMul,Nat.reduceLT,Nat.reduceLeDiff,Nat.reduceBEq,Int.reduceLE,Int.reduceLT,Int.reduceToNat,reduceCtorEq,Ty.all]);rfl) (fun hb=>?_) (fun hb=>?_)<;>(try simp only[hb0,decide_eq_true_eq,decide_eq_false_iff_not,reduceCtorEq]at hb)<;>(try(exfalso;omega)))
  |(with_reducible refine ite_in (fun hb=>?_) (fun hb=>?_)<;>(try simp only[Decidable.not_not]at hb)<;>(try simp only[hb,if_true,if_false,not_false_eq_true,not_true_eq_false, ↓reduceIte])<;>(try simp only[hb0,decide_eq_true_eq,decide_eq_false_iff_not,reduceCtorEq]at hb)<;>(try(exfalso;omega)))
  |(refine hK _ _ ?_;clear hK;try simp only[pst0, ↓reduceIte,Nat.reduceEqDiff])
  |(clear hK;refine hK _ _ ?_;clear hK;try simp only[pst0, ↓reduceIte,Nat.reduceEqDiff])
  |(clear hK;clear hK;refine hK _ _ ?_;clear hK;try simp only[pst0, ↓reduceIte,Nat.reduceEqDiff])
  |(clear hK;clear hK;clear hK;refine hK _ _ ?_;clear hK;try simp only[pst0, ↓reduceIte,Nat.reduceEqDiff])
  |(rw[if_pos];rotate_left 1;omega;simp(maxSteps:=2000000) only[undef,am0,am1,am2,am3,amb0,amb1,amb2,amb3,amb4,lwn,drn,callee,wantedB,isW,eff,pev,pst0,retPost,resAll,resP,resV,intP,mkV,putC,pbin,sbin,strsEq,peq,pint,pshift,pstr,pun,pconv,isShift,isConstB,app,subS,lay,rowsOf,lkV,keyKind,keyEq,mfind,mput,oInt,isZeroInt,forall_const,exists_eq_left',implies_true,IntKind.bits, ↓reduceIte,Nat.reduceEqDiff,Nat.reduceAdd,Nat.reduceSub,Nat.reduceMul,Nat.reduceLT,Nat.reduceLeDiff,Nat.reduceBEq,Int.reduceLE,Int.reduceLT,Int.reduceToNat,reduceCtorEq,Ty.all]))
 refine owp_useH (hc) (by(try simp only[undef,am0,am1,am2,am3,amb0,amb1,amb2,amb3,amb4,lwn,drn,callee,wantedB,isW,eff,pev,pst0,retPost,resAll,resP,resV,intP,mkV,putC,pbin,sbin,strsEq,peq,pint,pshift,pstr,pun,pconv,isShift,isConstB,app,subS,lay,rowsOf,lkV,keyKind,keyEq,mfind,mput,oInt,isZeroInt,forall_const,exists_eq_left',implies_true,IntKind.bits, ↓reduceIte,Nat.reduceEqDiff,Nat.reduceAdd,Nat.reduceSub,Nat.reduceMul,Nat.reduceLT,Nat.reduceLeDiff,Nat.reduceBEq,Int.reduceLE,Int.reduceLT,Int.reduceToNat,reduceCtorEq,]);try rfl) ?_
 simp(maxSteps:=2000000) only[undef,am0,am1,am2,am3,amb0,amb1,amb2,amb3,amb4,lwn,drn,callee,wantedB,isW,eff,pev,pst0,retPost,resAll,resP,resV,intP,mkV,putC,pbin,sbin,strsEq,peq,pint,pshift,pstr,pun,pconv,isShift,isConstB,app,subS,lay,rowsOf,lkV,keyKind,keyEq,mfind,mput,oInt,isZeroInt,forall_const,exists_eq_left',implies_true,IntKind.bits, ↓reduceIte,Nat.reduceEqDiff,Nat.reduceAdd,Nat.reduceSub,Nat.reduceMul,Nat.reduceLT,Nat.reduceLeDiff,Nat.reduceBEq,Int.reduceLE,Int.reduceLT,Int.reduceToNat,reduceCtorEq,Ty.all,]
 repeat'(first
  |refine a_seq fun K hK=>?_
  |(refine a_block ?_)
  |((first|refine a_regionS ?_|refine a_region (fun K hK=>?_)|refine a_ret ?_);simp(maxSteps:=2000000) only[undef,am0,am1,am2,am3,amb0,amb1,amb2,amb3,amb4,lwn,drn,callee,wantedB,isW,eff,pev,pst0,retPost,resAll,resP,resV,intP,mkV,putC,pbin,sbin,strsEq,peq,pint,pshift,pstr,pun,pconv,isShift,isConstB,app,subS,lay,rowsOf,lkV,keyKind,keyEq,mfind,mput,oInt,isZeroInt,forall_const,exists_eq_left',implies_true,IntKind.bits, ↓reduceIte,Nat.reduceEqDiff,Nat.reduceAdd,Nat.reduceSub,Nat.reduceMul,Nat.reduceLT,Nat.reduceLeDiff,Nat.reduceBEq,Int.reduceLE,Int.reduceLT,Int.reduceToNat,reduceCtorEq,Ty.all])
  |(refine a_skip ?_;try simp only[pst0, ↓reduceIte,Nat.reduceEqDiff])
  |(refine a_exit ?_;try simp only[pst0, ↓reduceIte,Nat.reduceEqDiff])
  |(refine a_cond _ (by(try simp(maxSteps:=2000000) only[undef,am0,am1,am2,am3,amb0,amb1,amb2,amb3,amb4,lwn,drn,callee,wantedB,isW,eff,pev,pst0,retPost,resAll,resP,resV,intP,mkV,putC,pbin,sbin,strsEq,peq,pint,pshift,pstr,pun,pconv,isShift,isConstB,app,subS,lay,rowsOf,lkV,keyKind,keyEq,mfind,mput,oInt,isZeroInt,forall_const,exists_eq_left',implies_true,IntKind.bits, ↓reduceIte,Nat.reduceEqDiff,Nat.reduceAdd,Nat.reduceSub,Nat.reduceMul,Nat.reduceLT,Nat.reduceLeDiff,Nat.reduceBEq,Int.reduceLE,Int.reduceLT,Int.reduceToNat,reduceCtorEq,Ty.all]);rfl) (fun hb=>?_) (fun hb=>?_)<;>(try simp only[hb0,decide_eq_true_eq,decide_eq_false_iff_not,reduceCtorEq]at hb)<;>(try(exfalso;omega)))
  |(with_reducible refine ite_in (fun hb=>?_) (fun hb=>?_)<;>(try simp only[Decidable.not_not]at hb)<;>(try simp only[hb,if_true,if_false,not_false_eq_true,not_true_eq_false, ↓reduceIte])<;>(try simp only[hb0,decide_eq_true_eq,decide_eq_false_iff_not,reduceCtorEq]at hb)<;>(try(exfalso;omega)))
  |(refine hK _ _ ?_;clear hK;try simp only[pst0, ↓reduceIte,Nat.reduceEqDiff])
  |(clear hK;refine hK _ _ ?_;clear hK;try simp only[pst0, ↓reduceIte,Nat.reduceEqDiff])
  |(clear hK;clear hK;refine hK _ _ ?_;clear hK;try simp only[pst0, ↓reduceIte,Nat.reduceEqDiff])
  |(clear hK;clear hK;clear hK;refine hK _ _ ?_;clear hK;try simp only[pst0, ↓reduceIte,Nat.reduceEqDiff])
  |(rw[if_pos];rotate_left 1;omega;simp(maxSteps:=2000000) only[undef,am0,am1,am2,am3,amb0,amb1,amb2,amb3,amb4,lwn,drn,callee,wantedB,isW,eff,pev,pst0,retPost,resAll,resP,resV,intP,mkV,putC,pbin,sbin,strsEq,peq,pint,pshift,pstr,pun,pconv,isShift,isConstB,app,subS,lay,rowsOf,lkV,keyKind,keyEq,mfind,mput,oInt,isZeroInt,forall_const,exists_eq_left',implies_true,IntKind.bits, ↓reduceIte,Nat.reduceEqDiff,Nat.reduceAdd,Nat.reduceSub,Nat.reduceMul,Nat.reduceLT,Nat.reduceLeDiff,Nat.reduceBEq,Int.reduceLE,Int.reduceLT,Int.reduceToNat,reduceCtorEq,Ty.all]))
 exact(((Grow.refl h).new _).set (Nat.le_refl _) _).set (Nat.le_refl _) _
end Go.Proofs.YtdbmemfnjnkefaaGreat
namespace Go.Proofs.YtdbmemfnjnkefaaGreat
open Go.AM
set_option maxHeartbeats 2000000
set_option maxRecDepth 20000
mutual
def decR(h:Heap):Nat→List PV→Option Sx
 |0,_=>none
 |k+1,[.sc (.int .i64 a),.sc (.int .i64 b),.sc (.int .i64 c),.sc (.int .i64 d),.sc (.string t),ks]=>match ks with
  | .imm z rows=>if z=6∧ -9223372036854775808≤a∧a≤9223372036854775807∧ -9223372036854775808≤b∧b≤9223372036854775807∧t.size≤bigN∧rows.length≤bigN then(decRs h k rows).map fun l=> .mk a b c d t l else none
  | .own id off len=>match h.obj id with
   |some (.arr z rows)=>if z=6∧off+len≤rows.length∧ -9223372036854775808≤a∧a≤9223372036854775807∧ -9223372036854775808≤b∧b≤9223372036854775807∧t.size≤bigN∧len≤bigN then(decRs h k ((rows.drop off).take len)).map fun l=> .mk a b c d t l else none
   |_=>none
  | .emp=>if-9223372036854775808≤a∧a≤9223372036854775807∧ -9223372036854775808≤b∧b≤9223372036854775807∧t.size≤bigN then some (.mk a b c d t [])else none
  | .sc (.slice none 0 0)=>if-9223372036854775808≤a∧a≤9223372036854775807∧ -9223372036854775808≤b∧b≤9223372036854775807∧t.size≤bigN then some (.mk a b c d t [])else none
  |_=>none
 |_,_=>none
def decRs(h:Heap):Nat→List (List PV)→Option (List Sx)
 |0,_=>none
 |_+1,[]=>some []
 |k+1,r::rs=>match decR h k r with
  |some x=>(decRs h k rs).map (x::·)
  |none=>none
end
def decOk(β:Env)(h:Heap)(w:World)(k:Nat):Prop:= ∀ (r:List PV)(x:Sx),decR h k r=some x→x.ok∧r.length=6∧(∀ b o,RepS β h.next (Fz β (arrless h) w) w r b o→RepS β h.next (Fz β (arrless h) w) w x.cells b o)∧ ∀ vs,RepL β h.next (Fz β (arrless h) w) w r vs→RepL β h.next (Fz β (arrless h) w) w x.cells vs
def decsOk(β:Env)(h:Heap)(w:World)(k:Nat):Prop:= ∀ (rs:List (List PV))(l:List Sx),decRs h k rs=some l→Sx.oks l∧l.length=rs.length∧ ∀ b o,RepR β h.next (Fz β (arrless h) w) w 6 rs b o→RepR β h.next (Fz β (arrless h) w) w 6 (Sx.rows l) b o
theorem decs_of{β:Env}{hp:Heap}{w:World}(k:Nat)(h1:decOk β hp w k)(h2:decsOk β hp w k):decsOk β hp w (k+1):=by
 intro rs l h
 cases rs with
 |nil=>
  simp only[decRs,Option.some.injEq]at h
  subst h
  exact⟨by simp only[Sx.oks],rfl,fun b o hr=>by simpa only[Sx.rows]using hr⟩
 |cons r rs=>
  simp only[decRs]at h
  split at h
  ·rename_i x hx
   simp only[Option.map_eq_some_iff]at h
   obtain⟨l',hl,rfl⟩:=h
   obtain⟨a1,a2,a3,_⟩:=h1 r x hx
   obtain⟨b1,b2,b3⟩:=h2 rs l' hl
   refine⟨by simp only[Sx.oks];exact⟨a1,b1⟩,by simp[b2],fun b o hr=>?_⟩
   simp only[Sx.rows,RepR]at hr⊢
   exact⟨⟨Sx.cells_len x,a3 b o hr.1.2⟩,b3 b _ hr.2⟩
  ·simp at h
theorem dec_of{β:Env}{hp:Heap}{w:World}(sm:Sim β hp w)(k:Nat)(h2:decsOk β hp w k):decOk β hp w (k+1):=by
 intro r x h
 unfold decR at h
 split at h
 case h_1=>simp at h
 case h_3=>simp at h
 rename_i kk a b c d t ks hkk
 have:kk=k:=by omega
 subst this
 have key: ∀ (l:List Sx),(∀ v,Rep β hp.next (Fz β (arrless hp) w) w ks v→Rep β hp.next (Fz β (arrless hp) w) w (.imm 6 (Sx.rows l)) v)→(∀ bb o,RepS β hp.next (Fz β (arrless hp) w) w [.sc (.int .i64 a),.sc (.int .i64 b),.sc (.int .i64 c),.sc (.int .i64 d),.sc (.string t),ks] bb o→RepS β hp.next (Fz β (arrless hp) w) w (Sx.mk a b c d t l).cells bb o)∧ ∀ vs,RepL β hp.next (Fz β (arrless hp) w) w [.sc (.int .i64 a),.sc (.int .i64 b),.sc (.int .i64 c),.sc (.int .i64 d),.sc (.string t),ks] vs→RepL β hp.next (Fz β (arrless hp) w) w (Sx.mk a b c d t l).cells vs:=by
  intro l hk
  constructor
  ·intro bb o hr
   simp only[Sx.cells,RepS,sPV]at hr⊢
   obtain⟨r1,r2,r3,r4,r5,⟨v,g1,g2,g3⟩,r7⟩:=hr
   exact⟨r1,r2,r3,r4,r5,⟨v,g1,g2,hk v g3⟩,r7⟩
  ·intro vs hr
   match vs,hr.len,hr with
   |[v1,v2,v3,v4,v5,v6],_,hr=>
    simp only[Sx.cells,RepL,sPV]at hr⊢
    obtain⟨r1,r2,r3,r4,r5,r6,r7⟩:=hr
    exact⟨r1,r2,r3,r4,r5,hk v6 r6,r7⟩
 split at h
 ·rename_i z rows
  split at h
  ·rename_i hc
   obtain⟨rfl,c1,c2,c3,c4,c5,c6⟩:=hc
   simp only[Option.map_eq_some_iff]at h
   obtain⟨l,hl,rfl⟩:=h
   obtain⟨b1,b2,b3⟩:=h2 rows l hl
   obtain⟨k1,k2⟩:=key l (fun v hv=>by
    simp only[Rep]at hv⊢
    obtain⟨aa,cap,e1,e2,e3,e4⟩:=hv
    refine⟨aa,cap,by rw[Sx.rows_len,b2];exact e1,by rw[Sx.rows_len,b2];exact e2,e3,?_⟩
    rcases e4 with e4|⟨bb,o,f1,f2,f3⟩
    ·left
     have hz:l.length=0:=by rw[b2,e4];try rfl
     have:l=[]:=List.length_eq_zero_iff.1 hz
     rw[this];simp only[Sx.rows]
    ·exact .inr ⟨bb,o,f1,f2,b3 bb o f3⟩)
   exact⟨by simp only[Sx.ok];exact⟨⟨c1,c2⟩,⟨c3,c4⟩,c5,by rw[b2];exact c6,b1⟩,rfl,k1,k2⟩
  ·simp at h
 ·rename_i id off len
  split at h
  case h_2=>simp at h
  rename_i z rows hob
  split at h
  ·rename_i hc
   obtain⟨rfl,c0,c1,c2,c3,c4,c5,c6⟩:=hc
   simp only[Option.map_eq_some_iff]at h
   obtain⟨l,hl,rfl⟩:=h
   obtain⟨b1,b2,b3⟩:=h2 _ l hl
   have hlen:((rows.drop off).take len).length=len:=by simp;omega
   rw[hlen]at b2
   have mvS:Mv β hp.next (Fz β hp w) w β hp.next (Fz β (arrless hp) w) w:=⟨Nat.le_refl _,fun _ _ _=>rfl,fun b hb=>⟨⟨hb.1,fun id hs=>hb.2.1 id (by
    obtain⟨o,ho⟩:=Option.isSome_iff_exists.1 hs
    rw[arrless_some ho];try rfl),hb.2.2⟩,rfl⟩⟩
   have hk0:=sm.ok id _ hob
   have hk:=ObjOk.mv mvS (fun _ _=>rfl) hk0
   obtain⟨k1,k2⟩:=key l (fun v hv=>by
    simp only[Rep]at hv⊢
    obtain⟨hid,aa,cap,e1,e2,e3,e4⟩:=hv
    refine⟨aa,cap,by rw[Sx.rows_len,b2];exact e1,by rw[Sx.rows_len,b2];exact e2,e3,?_⟩
    rcases e4 with e4|⟨bb,f1,f2,f3⟩
    ·left
     have hz:l.length=0:=by omega
     have:l=[]:=List.length_eq_zero_iff.1 hz
     rw[this];simp only[Sx.rows]
    ·simp only[ObjOk]at hk
     obtain⟨hz,hk⟩:=hk
     rcases hk with⟨hk,_⟩|⟨b',c',e',fr,g1,g2,g3,g4,g5,g6⟩
     ·rw [hk]at f1;simp at f1
     ·rw [f1]at g1;simp at g1;subst g1
      rw[hz]at f2
      refine .inr ⟨bb,_,?_,f2,b3 bb _ ((g6.drop off).take len)⟩
      refine⟨hk0.blk_lt f1,fun j hj hbb=>?_,sm.nx id (by rw[hob];try rfl) bb f1⟩
      have hjl:(hp.obj j).isSome=true:=by
       obtain⟨o,ho⟩:=Option.isSome_iff_exists.1 hj
       rw[arrless_some ho];try rfl
      have:=sm.inj id j (by rw[hob];try rfl) hjl bb f1 hbb
      subst this
      rw[arrless_blk hob hk0 f1]at hj;simp at hj)
   exact⟨by simp only[Sx.ok];exact⟨⟨c1,c2⟩,⟨c3,c4⟩,c5,by rw[b2];exact c6,b1⟩,rfl,k1,k2⟩
  ·simp at h
 ·split at h
  ·rename_i hc
   obtain⟨c1,c2,c3,c4,c5⟩:=hc
   simp only[Option.some.injEq]at h
   subst h
   obtain⟨k1,k2⟩:=key [] (fun v hv=>by
    simp only[Rep,Sx.rows]at hv⊢
    obtain⟨aa,rfl⟩:=hv
    exact⟨aa,0,rfl,by simp,by simp[maxLen],.inl trivial⟩)
   exact⟨by simp only[Sx.ok,Sx.oks,and_true];exact⟨⟨c1,c2⟩,⟨c3,c4⟩,c5,by simp⟩,rfl,k1,k2⟩
  ·simp at h
 ·split at h
  ·rename_i hc
   obtain⟨c1,c2,c3,c4,c5⟩:=hc
   simp only[Option.some.injEq]at h
   subst h
   obtain⟨k1,k2⟩:=key [] (fun v hv=>by
    simp only[Rep,Sx.rows]at hv⊢
    subst hv
    exact⟨none,0,rfl,by simp,by simp[maxLen],.inl trivial⟩)
   exact⟨by simp only[Sx.ok,Sx.oks,and_true];exact⟨⟨c1,c2⟩,⟨c3,c4⟩,c5,by simp⟩,rfl,k1,k2⟩
  ·simp at h
 ·simp at h
theorem dec_ok{β:Env}{hp:Heap}{w:World}(sm:Sim β hp w): ∀ k,decOk β hp w k∧decsOk β hp w k
 |0=>⟨fun r x h=>by simp[decR]at h,fun rs l h=>by simp[decRs]at h⟩
 |k+1=>⟨dec_of sm k (dec_ok sm k).2,decs_of k (dec_ok sm k).1 (dec_ok sm k).2⟩
theorem valid_of{cs:List PV}{x:Sx}{k:Nat}{h:Heap}(hd:decR h k cs=some x)(hok:x.ok):PCall Tryz.prog 88 [.agg cs] h fun r h'=>r= .sc (.bool (svalid x 0 0).1)∧h'=h:=by
 refine PCall.lend (svalid_c hok (arrless h)) fun β w vals sm hr=>?_
 obtain⟨_,_,_,g⟩:=(dec_ok sm k).1 cs x hd
 have mvS:Mv β h.next (Fz β h w) w β h.next (Fz β (arrless h) w) w:=⟨Nat.le_refl _,fun _ _ _=>rfl,fun b hb=>⟨⟨hb.1,fun id hs=>hb.2.1 id (by
  obtain⟨o,ho⟩:=Option.isSome_iff_exists.1 hs
  rw[arrless_some ho];try rfl),hb.2.2⟩,rfl⟩⟩
 have hr:=RepL.mv mvS _ _ hr
 match vals,hr.len,hr with
 |[v],_,hr=>
  simp only[RepL,Rep,and_true]at hr⊢
  obtain⟨xs,e1,e2,e3⟩:=hr
  exact⟨xs,e1,e2,g xs e3⟩
theorem PCall.ofSim{P:Program}{f:FuncId}{args:List PV}{h:Heap}{K:PV→Heap→Prop}(hc:(∃ β w,Sim β h w)→PCall P f args h K):PCall P f args h K:=fun β w vals sm hr=>hc ⟨β,w,sm⟩ β w vals sm hr
theorem pcall_indexString{P:Program}{f:FuncId}{fn:Func}(hf:P.funcs[f]? =some fn)(hname:(fn.name== "runtime.NumGoroutine")=false)(hb:fn.body.isNone=true)(hn:Extern.findNext fn=none)(he:Extern.find fn=some Extern.BytealgIndex.index){g id:Nat}{lo hi:Int}(hg:P.globals.findIdx? (·.name== "internal/bytealg.MaxLen")=some g)(s t:ByteArray)(h:Heap)(hob:h.obj id=some (.glb g lo hi))(h2:2≤t.size)(hlo:(t.size:Int)≤lo)(hs:s.size<4294967281):
  PCall P f [.sc (.string s),.sc (.string t)] h (fun r h'=>r= .sc (.int .i64 (Go.Lib.index s.data.toList t.data.toList))∧h'=h):=by
 intro β w vals sm hr
 have hk:=sm.ok id _ hob
 simp only[ObjOk]at hk
 obtain⟨_,_,m,hm1,_,hm⟩:=hk
 match vals,hr.len,hr with
 |[x,y],_,hr=>
  simp only[RepL,Rep]at hr
  obtain⟨rfl,rfl,_⟩:=hr
  refine .inr ⟨.int .i64 (Go.Lib.index s.data.toList t.data.toList),w,?_,_,h,β,_,rfl,⟨rfl,rfl⟩,sm,by simp only[RepH,Rep],Ext.refl⟩
  rw[run_callFunc_extern hf hname hb hn he,Go.Lib.run_indexString s t w g m hg hm h2 (by omega) hs]
  try rfl
theorem ixs_ok:(Tryz.f248.name== "runtime.NumGoroutine")=false∧Tryz.f248.body.isNone=true∧Extern.findNext Tryz.f248=none∧Extern.find Tryz.f248=some Extern.BytealgIndex.index:=
 ⟨by kernel_rfl,by kernel_rfl,by kernel_rfl,by kernel_rfl⟩
theorem ixs_g:Tryz.prog.globals.findIdx? (·.name== "internal/bytealg.MaxLen")=some 0:=by kernel_rfl
def ckExt(f:FuncId)(args:List PV)(h:Heap):Option PV:=
 if f=155 then(match args with|[.sc (.string s)]=>if s.size≤9223372036854775807 then some (.sc (.bool (nameB s)))else none|_=>none)
 else if f=159 then(match args with|[.sc (.string s)]=>if s.size≤9223372036854775807 then some (.sc (.bool (varB s)))else none|_=>none)
 else if f=88 then(match args with|[.agg cs]=>(decR h 5000 cs).map fun x=> .sc (.bool (svalid x 0 0).1)|_=>none)
 else if f=245 then(match args with|[.sc (.string s),.sc (.int .u8 c)]=>some (.sc (.int .i64 (firstIdx s c.toNat.toUInt8)))|_=>none)
 else if f=248 then(match args with
  |[.sc (.string s),.sc (.string t)]=>(match h.obj 0 with
   |some (.glb 0 lo _)=>if 2≤t.size∧(t.size:Int)≤lo∧s.size<4294967281 then some (.sc (.int .i64 (Go.Lib.index s.data.toList t.data.toList)))else none
   |_=>none)
  |_=>none)
 else none
theorem ckExt_ok:ExtOk2 Tryz.prog ckExt:=by
 intro f args r h hx
 unfold ckExt at hx
 split at hx
 ·rename_i hf
  split at hx
  ·split at hx
   ·rename_i hs
    simp only[Option.some.injEq]at hx
    subst hx;subst hf
    exact fname_c hs
   ·simp at hx
  ·simp at hx
 split at hx
 ·rename_i hf
  split at hx
  ·split at hx
   ·rename_i hs
    simp only[Option.some.injEq]at hx
    subst hx;subst hf
    exact fvariable_c hs
   ·simp at hx
  ·simp at hx
 split at hx
 ·rename_i hf
  split at hx
  ·simp only[Option.map_eq_some_iff]at hx
   obtain⟨x,hd,rfl⟩:=hx
   subst hf
   exact PCall.ofSim fun⟨β,w,sm⟩=>valid_of hd ((dec_ok sm 5000).1 _ x hd).1
  ·simp at hx
 split at hx
 ·rename_i hf
  split at hx
  ·simp only[Option.some.injEq]at hx
   subst hx;subst hf
   exact pcall_indexByte Tryz.func245 ixb_ok.1 ixb_ok.2.1 ixb_ok.2.2.1 ixb_ok.2.2.2 _ _ _
  ·simp at hx
 split at hx
 ·rename_i hf
  split at hx
  ·split at hx
   ·rename_i hob
    split at hx
    ·rename_i hc
     simp only[Option.some.injEq]at hx
     subst hx;subst hf
     exact pcall_indexString Tryz.func248 ixs_ok.1 ixs_ok.2.1 ixs_ok.2.2.1 ixs_ok.2.2.2 ixs_g _ _ _ hob hc.1 hc.2.1 hc.2.2
    ·simp at hx
   ·simp at hx
  ·simp at hx
 ·simp at hx
end Go.Proofs.YtdbmemfnjnkefaaGreat
namespace Go.Proofs.YtdbmemfnjnkefaaGreat
open Go.AM
set_option maxHeartbeats 2000000
set_option maxRecDepth 20000
abbrev minI:Int:= -9223372036854775808
abbrev maxI:Int:=9223372036854775807
def swOwn(f t:Nat):Bool:=([(59,18),(59,27),(59,51),(59,72),(60,40),(60,49),(60,67),(106,9),(96,15),(99,11),(100,11),(176,13),(227,13),(163,10),(45,5),(64,5),(54,5),(240,5),(31,39),(63,47),(92,3),(167,3)]:List (Nat × Nat)).contains (f,t)
def swWf(f:Nat):Bool:=([95,97,99,100,96,211,176,227,175,172]:List Nat).contains f
def swKeep(_:Nat):Bool:=false
def xquiet(r:Option (PV × Option Nat × Heap))(v:PV):Bool:=match r with
 |some (u,q,_)=>q.isNone&&pvEq u v
 |none=>false
theorem swRun{ext:FuncId→List PV→Heap→Option PV}(hext:ExtOk2 Tryz.prog ext){own:Nat→Nat→Bool}{keep:Nat→Bool}{m k:Nat}{f:FuncId}{args:List PV}{h:Heap}{v:PV}(hx:xquiet (xf2 Tryz.prog swWf own ext keep m k f args h) v=true):PCall Tryz.prog f args h fun r h'=>r=v∧h'=h:=by
 unfold xquiet at hx
 split at hx
 ·rename_i u q h' hr
  simp only[Bool.and_eq_true,Option.isNone_iff_eq_none]at hx
  obtain⟨rfl,hx⟩:=hx
  obtain⟨h1,h2⟩:=xf_ok2 Ty.mixed hext k _ _ _ _ _ _ hr
  simp only[Tch]at h2
  refine h1.mono (fun r h'' hr=>?_)
  exact⟨by rw[hr.1,pvEq_eq _ _ hx],by rw[hr.2,h2]⟩
 ·simp at hx
theorem swPart{f:FuncId}{args:List PV}{h:Heap}{u:PV}{lo hi:Int}(hob:h.obj 0=some (.glb 0 lo hi))(hn:inNL 1 args)(hc:PCall Tryz.prog f args (heapG 0 lo hi) fun r h'=>r=u∧h'=heapG 0 lo hi):PCall Tryz.prog f args h fun r h'=>r=u∧h'=h:=by
 refine PCall.ofSim fun⟨β,w,sm⟩=>?_
 refine PCall.part hc (sm.lt 0 (by rw[hob];try rfl)) (fun id o ho=>?_) hn
 simp only[heapG]at ho
 split at ho
 ·rename_i he
  subst he
  simp at ho;subst ho
  exact⟨hob,by simp[heapG],by simp only[inNO]⟩
 ·simp at ho
abbrev hG:Heap:=heapG 0 minI maxI
def swN:PV:= .sc (.slice none 0 0)
def swS(b:Array UInt8):PV:= .sc (.string ⟨b⟩)
def swI(n:Int):PV:= .sc (.int .i64 n)
def swD:PV:= .agg [swS #[100],swN,swN,.imm 2 [[swS #[112],swN]],swN,.imm 10 [[swS #[97],swN,swI 0,swS #[97,110,100],swS #[],swN,swN,swN,swN,.imm 15 [[swI 1,swN,swS #[97,110,100],swS #[],swN,swN,swN,swN,swS #[112],swN,swS #[],swS #[],swI 0,swN,swN]]]],swN]
def swP:PV:= .agg [swS #[120],swS #[100],swN,swN,swN,swS #[97,116,111,109],swS #[112],swN,swN,swN,swN]
def swR:PV:= .tup [swS #[],.sc .nilIface]
theorem swCheck_c:PCall Tryz.prog 31 [swD,swP] hG fun r h'=>r=swR∧h'=hG:=
 swRun ckExt_ok (own:=swOwn) (keep:=swKeep) (m:=2000) (k:=60) (by kernel_rfl)
noncomputable def swExt (f:FuncId)(args:List PV)(h:Heap):Option PV:=match ckExt f args h with
 |some r=>some r
 |none=>if f=31 then(match h.obj 0 with
   |some (.glb 0 lo hi)=>if lo=minI∧hi=maxI∧(inNLb 1 args&&pvEq (.tup args) (.tup [swD,swP]))=true then some swR else none
   |_=>none)else none
theorem swExt_ok:ExtOk2 Tryz.prog swExt:=by
 intro f args r h hx
 unfold swExt at hx
 split at hx
 ·rename_i r' hr
  simp only[Option.some.injEq]at hx
  subst hx
  exact ckExt_ok _ _ _ _ hr
 split at hx
 ·rename_i hf
  split at hx
  ·rename_i hob
   split at hx
   ·rename_i hc
    simp only[Option.some.injEq]at hx
    obtain⟨rfl,rfl,hs⟩:=hc
    subst hx;subst hf
    simp only[Bool.and_eq_true]at hs
    obtain⟨hn,hs⟩:=hs
    have hn:=inNLb_ok _ hn
    have:=pvEq_eq _ _ hs
    simp only[PV.tup.injEq]at this
    subst this
    exact swPart hob hn swCheck_c
   ·simp at hx
  ·simp at hx
 ·simp at hx
theorem swAwake_hG:PCall Tryz.prog 5 [] hG fun r h'=>r= .sc (.bool true)∧h'=hG:=
 swRun swExt_ok (own:=swOwn) (keep:=swKeep) (m:=2000) (k:=60) (by kernel_rfl)
theorem swAwake_c{h:Heap}(hob:h.obj 0=some (.glb 0 minI maxI)):PCall Tryz.prog 5 [] h fun r h'=>r= .sc (.bool true)∧h'=h:=
 swPart hob (by simp only[inNL]) swAwake_hG
end Go.Proofs.YtdbmemfnjnkefaaGreat
