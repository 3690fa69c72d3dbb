/- What the claim rests on, part 7: the abstract machine, contracts of the functions, plain data. -/
import Derived.Test.YtblgchkahpgdjaaGreatRows
import Derived.Test.YtblgchkahpgdjaaGreatZw6
set_option linter.unusedVariables false
set_option linter.unusedSimpArgs false
set_option linter.unusedSectionVars false
namespace Go.Proofs.YtblgchkahpgdjaaGreat
open Go.AM
set_option maxHeartbeats 8000000
set_option maxRecDepth 20000
theorem PCall.weak{P:Program}{f:FuncId}{args:List PV}{h:Heap}{K:PV→Heap→Prop}(hc:PCall P f args h fun r' h'=> ∃ r h2,K r h2∧Wk (fun _=>r') h' (fun _=>r) h2):PCall P f args h K:=by
 intro β w vals sm hr;refine(hc β w vals sm hr).mono ?_;rintro e w' ⟨r',h',β',v,rfl,⟨r,h2,hK,hw⟩,sm',hrep,ex⟩;obtain⟨k1,k2,k3⟩:=hw β' w' sm';exact⟨r,h2,β',v,rfl,hK,k1,k3 0 _ hrep,ex.trans k2⟩
def grpH(h:Heap)(xi j:Nat)(L:List Sx):Heap:=⟨h.next+18+1+1+1,fun i=>if i=xi then some (xO (h.next+18+1+1) L.length)else if i=h.next+18+1+1 then some (.arr 6 (Sx.rows L))else if i=j then none else if i<h.next then h.obj i else none⟩
theorem group_c{h:Heap}{xi j:Nat}{L ks:List Sx}{kw:ByteArray}(hx:h.obj xi=some (xO j L.length))(hj:h.obj j=some (.arr 6 (Sx.rows L)))(hne:xi≠j)(hxl:xi<h.next)(hjl:j<h.next)(hL:L.length≤1048580)(hks:ks.length≤4194304):
  PCall Tryz.prog 42 [.ptr xi 0 0,sPV kw,.imm 6 (Sx.rows ks)] h fun r h'=>r=resV []∧h'=(if ks.isEmpty=true then h else grpH h xi j (L++[listM (wordM kw::ks)])):=by
 have hw: ∀ (s:ByteArray)(h:Heap),PCall Tryz.prog 40 [sPV s] h fun r h'=>r= .agg (wordM s).cells∧h'=h:=fun s h=>dword_c;simp only[wordM,Sx.cells,Sx.rows]at hw;have hkl:=Sx.rows_len ks;cases q0:ks.isEmpty with
 |true=>
  have d0:decide ((ks.length:Int)>0)=false:=by rw[List.isEmpty_iff.1 q0];try rfl
  have d1:((0:Int)<(ks.length:Int))=False:=eq_false (by rw[List.isEmpty_iff.1 q0];simp);refine uG0 Tryz.func42 Tryz.ntmps42 Tryz.results42 Ty.hb_42 ?_;refine wt (uu3 hkl d0 d1) ?_;simp only[retPost,resAll];exact⟨trivial,trivial⟩
 |false=>
  have hpos:0<ks.length:=by
   cases ks with
   |nil=>cases q0
   |cons a l=>simp
  have d0:decide ((ks.length:Int)>0)=true:=by simp;omega
  have d1:((0:Int)<(ks.length:Int))=True:=eq_true (by omega);have hrl:(Sx.rows L).length=L.length:=Sx.rows_len L;have hb1:(1+ks.length)*72≤140737488355328:=by omega
  have hb2:(L.length+1)*72≤140737488355328:=by omega
  have htk:List.take L.length (Sx.rows L)=Sx.rows L:=List.take_of_length_le (by omega);have c1:(Value.int IntKind.i64 0).oneCell'=true:=rfl;have c2:(Value.string ⟨#[]⟩).oneCell'=true:=rfl;have c3:(Value.slice none 0 0).oneCell'=true:=rfl;have n1:(xi=h.next+18)=False:=eq_false (by omega);have n2:(xi=h.next+18+1)=False:=eq_false (by omega);have n3:(j=h.next+18)=False:=eq_false (by omega);have n4:(j=h.next+18+1)=False:=eq_false (by omega);simp only[xO]at hx;have hl3: ∀ H:Heap,h.next+18+1<H.next→PCall Tryz.prog 39 [.own (h.next+18+1) 0 (1+ks.length)] H fun r h'=>r= .agg [.sc (.int .i64 3),.sc (.int .i64 0),.sc (.int .i64 0),.sc (.int .i64 0),.sc (.string ⟨#[]⟩),.own (h.next+18+1) 0 (1+ks.length)]∧h'=H:=fun H hh=>dlist_c rfl (fun _=>frz_own hh)
  refine PCall.drop (PCall.weak ?_);refine uG (ow:=fun t=>t==15) (wf:=fun _=>false) Tryz.func42 Tryz.ntmps42 Tryz.results42 Ty.hb_42 ?_;refine xB 1 (uu3 hkl d0 d1) ?_;refine⟨?_⟩;refine a_draw5 13 (by decide+kernel) fun K hK=>?_;simp only[List.take_succ_cons,List.take_zero,List.drop_succ_cons,List.drop_zero];simp(maxSteps:=4000000) only[Ty.w,simprocAttr,Ty.all,c1,c2,c3,hx,hj,hrl,hkl,htk,hb1,hb2,n1,n2,n3,n4,d0,d1,Nat.le_refl];replace zz:=uu12 c1 c2 c3 hx hj hrl hkl htk hb1 hb2 n1 (uu6 n2 n3 n4 d0 d1 @Nat.le_refl);first|refine uV zz (hw kw _) ?_|refine uJ1 zz (hw kw _) ?_
  refine⟨by(try simp(maxSteps:=4000000) only[List.forall_mem_cons,Ty.w,simprocAttr,Ty.all,c1,c2,c3,hx,hj,hrl,hkl,htk,hb1,hb2,n1,n2,n3,n4,d0,d1,Nat.le_refl])<;>((repeat' apply And.intro)<;>first|trivial|exact .inl (by decide+kernel)|exact .inr trivial|exact .inr (Does_use (hw kw _) (by(try simp only[Ty.w,simprocAttr,c1,c2,c3,hx,hj,hrl,hkl,htk,hb1,hb2,n1,n2,n3,n4,d0,d1,Nat.le_refl]);try rfl))|exact(fun _ hx=>by cases hx)),?_⟩;try simp(maxSteps:=4000000) only[Ty.w,simprocAttr,Ty.all,c1,c2,c3,hx,hj,hrl,hkl,htk,hb1,hb2,n1,n2,n3,n4,d0,d1,Nat.le_refl]
  refine⟨by(try simp(maxSteps:=4000000) only[List.forall_mem_cons,Ty.w,simprocAttr,Ty.all,c1,c2,c3,hx,hj,hrl,hkl,htk,hb1,hb2,n1,n2,n3,n4,d0,d1,Nat.le_refl])<;>((repeat' apply And.intro)<;>first|trivial|exact .inl (by decide+kernel)|exact .inr trivial|exact .inr (Does_use (hw kw _) (by(try simp only[Ty.w,simprocAttr,c1,c2,c3,hx,hj,hrl,hkl,htk,hb1,hb2,n1,n2,n3,n4,d0,d1,Nat.le_refl]);try rfl))|exact(fun _ hx=>by cases hx)),?_⟩;try simp(maxSteps:=4000000) only[Ty.w,simprocAttr,Ty.all,c1,c2,c3,hx,hj,hrl,hkl,htk,hb1,hb2,n1,n2,n3,n4,d0,d1,Nat.le_refl]
  replace zz:=uu12 c1 c2 c3 hx hj hrl hkl htk hb1 hb2 n1 (uu6 n2 n3 n4 d0 d1 @Nat.le_refl);first|refine uV zz (hl3 _ (by simp[Heap.new,Heap.kill])) ?_|refine uJ1 zz (hl3 _ (by simp[Heap.new,Heap.kill])) ?_
  refine⟨by simp only[List.forall_mem_cons];(repeat' apply And.intro)<;>first|exact .inl (by decide+kernel)|exact(fun _ hx=>by cases hx),?_⟩;have hset1: ∀ x:List PV,(Sx.rows L++[sxZd]).set L.length x=Sx.rows L++[x]:=fun x=>by rw[List.set_append_right _ _ (by omega),hrl,Nat.sub_self];try rfl
  have hget1:(Sx.rows L++[sxZd])[L.length]? =some sxZd:=by rw[List.getElem?_append_right (by omega),hrl,Nat.sub_self];try rfl
  have hN1:(((((Heap.new ⟨h.next+18,h.obj⟩ (.arr 6 [[.sc (.int .i64 1),.sc (.int .i64 0),.sc (.int .i64 0),.sc (.int .i64 0),sPV kw,.imm 6 []]])).kill (h.next+18)).new (.arr 6 ([.sc (.int .i64 1),.sc (.int .i64 0),.sc (.int .i64 0),.sc (.int .i64 0),sPV kw,.imm 6 []]::Sx.rows ks))).kill j).new (.arr 6 (Sx.rows L++[sxZd]))).obj (h.next+18+1+1)=some (.arr 6 (Sx.rows L++[sxZd])):=by simp only[Heap.new,Heap.kill,if_true]
  have hX1:(((((Heap.new ⟨h.next+18,h.obj⟩ (.arr 6 [[.sc (.int .i64 1),.sc (.int .i64 0),.sc (.int .i64 0),.sc (.int .i64 0),sPV kw,.imm 6 []]])).kill (h.next+18)).new (.arr 6 ([.sc (.int .i64 1),.sc (.int .i64 0),.sc (.int .i64 0),.sc (.int .i64 0),sPV kw,.imm 6 []]::Sx.rows ks))).kill j).new (.arr 6 (Sx.rows L++[sxZd]))).obj xi=some (xO j L.length):=by
   simp only[Heap.new,Heap.kill];rw[if_neg (by omega),if_neg hne,if_neg (by omega),if_neg (by omega),if_neg (by omega)];exact hx
  have hM1:(((((Heap.new ⟨h.next+18,h.obj⟩ (.arr 6 [[.sc (.int .i64 1),.sc (.int .i64 0),.sc (.int .i64 0),.sc (.int .i64 0),sPV kw,.imm 6 []]])).kill (h.next+18)).new (.arr 6 ([.sc (.int .i64 1),.sc (.int .i64 0),.sc (.int .i64 0),.sc (.int .i64 0),sPV kw,.imm 6 []]::Sx.rows ks))).kill j).new (.arr 6 (Sx.rows L++[sxZd]))).obj (h.next+18+1)=some (.arr 6 ([.sc (.int .i64 1),.sc (.int .i64 0),.sc (.int .i64 0),.sc (.int .i64 0),sPV kw,.imm 6 []]::Sx.rows ks)):=by
   simp only[Heap.new,Heap.kill];rw[if_neg (by omega),if_neg (by omega),if_pos trivial]
  have hO1: ∀ i,i<h.next→i≠j→(((((Heap.new ⟨h.next+18,h.obj⟩ (.arr 6 [[.sc (.int .i64 1),.sc (.int .i64 0),.sc (.int .i64 0),.sc (.int .i64 0),sPV kw,.imm 6 []]])).kill (h.next+18)).new (.arr 6 ([.sc (.int .i64 1),.sc (.int .i64 0),.sc (.int .i64 0),.sc (.int .i64 0),sPV kw,.imm 6 []]::Sx.rows ks))).kill j).new (.arr 6 (Sx.rows L++[sxZd]))).obj i=h.obj i:=fun i hi hij=>by
   simp only[Heap.new,Heap.kill];rw[if_neg (by omega),if_neg hij,if_neg (by omega),if_neg (by omega),if_neg (by omega)]
  have hn1:(((((Heap.new ⟨h.next+18,h.obj⟩ (.arr 6 [[.sc (.int .i64 1),.sc (.int .i64 0),.sc (.int .i64 0),.sc (.int .i64 0),sPV kw,.imm 6 []]])).kill (h.next+18)).new (.arr 6 ([.sc (.int .i64 1),.sc (.int .i64 0),.sc (.int .i64 0),.sc (.int .i64 0),sPV kw,.imm 6 []]::Sx.rows ks))).kill j).new (.arr 6 (Sx.rows L++[sxZd]))).next=h.next+18+1+1+1:=rfl
  generalize((((Heap.new ⟨h.next+18,h.obj⟩ (.arr 6 [[.sc (.int .i64 1),.sc (.int .i64 0),.sc (.int .i64 0),.sc (.int .i64 0),sPV kw,.imm 6 []]])).kill (h.next+18)).new (.arr 6 ([.sc (.int .i64 1),.sc (.int .i64 0),.sc (.int .i64 0),.sc (.int .i64 0),sPV kw,.imm 6 []]::Sx.rows ks))).kill j).new (.arr 6 (Sx.rows L++[sxZd]))=H1 at hN1 hX1 hM1 hO1 hn1⊢;refine d6_quiet (.ptr (h.next+18+1+1) L.length 0) [h.next+18+1+1] (.inr (by decide+kernel)) (by decide) rfl rfl (fun H hH=>by
   have hH:=(hH _ (List.mem_singleton.2 rfl)).trans hN1;have q1:(L.length<L.length+1)=True:=eq_true (by omega);simp(maxSteps:=2000000) only[Ty.w,simprocAttr,Ty.all,hH,q1,c1,c2,c3,hrl,hkl,hb2,Nat.le_refl]) (by intro x hx;repeat'(first|(exact absurd hx (List.not_mem_nil))|(rcases List.mem_cons.1 hx with rfl|hx)|(refine .inr ?_;dsimp only;omega)|(refine .inr ?_;exact List.not_mem_nil)|(refine .inr fun hm=>?_;have:=List.mem_singleton.1 hm;omega)|(refine .inl ?_;dsimp only;decide+kernel))) ?_
  refine d6_store (ob:= .arr 6 (Sx.rows L++[[.sc (.int .i64 3),.sc (.int .i64 0),.sc (.int .i64 0),.sc (.int .i64 0),.sc (.string ⟨#[]⟩),.own (h.next+18+1) 0 (1+ks.length)]])) rfl (by decide) rfl (by simp only[Ty.w,simprocAttr,Ty.all];try rfl) (by
   simp(maxSteps:=2000000) only[Ty.w,simprocAttr,Ty.all,hN1,hget1,hset1,c1,c2,c3,hrl,hkl,hb2,Nat.le_refl];try rfl) (fun f q hf hq ha=>by rcases(show f=15∨f=16∨f=17 from by have hfl:=(List.getElem?_eq_some_iff.1 hq).1;simp only[List.length_cons,List.length_nil]at hfl;omega)with rfl|rfl|rfl<;>(simp only[List.getElem?_cons_succ,List.getElem?_cons_zero,Option.some.injEq]at hq;subst hq;revert ha;decide+kernel)) (by intro x hx;repeat'(first|(exact absurd hx (List.not_mem_nil))|(rcases List.mem_cons.1 hx with rfl|hx)|(refine .inr ?_;dsimp only;omega)|(refine .inr ?_;exact List.not_mem_nil)|(refine .inr fun hm=>?_;have:=List.mem_singleton.1 hm;omega)|(refine .inl ?_;dsimp only;decide+kernel))) (by intro x hx;repeat'(first|(exact absurd hx (List.not_mem_nil))|(rcases List.mem_cons.1 hx with rfl|hx)|(refine .inr ?_;dsimp only;omega)|(refine .inr ?_;exact List.not_mem_nil)|(refine .inr fun hm=>?_;have:=List.mem_singleton.1 hm;omega)|(refine .inl ?_;dsimp only;decide+kernel))) ?_
  refine d6_quiet (.ptr xi 0 0) [] (.inl rfl) (by decide) rfl rfl (fun H _=>by(try simp(maxSteps:=2000000) only[Ty.w,simprocAttr,Ty.all,c1,c2,c3,hrl,hkl,hb2,Nat.le_refl]);try rfl) (by intro x hx;repeat'(first|(exact absurd hx (List.not_mem_nil))|(rcases List.mem_cons.1 hx with rfl|hx)|(refine .inr ?_;dsimp only;omega)|(refine .inr ?_;exact List.not_mem_nil)|(refine .inr fun hm=>?_;have:=List.mem_singleton.1 hm;omega)|(refine .inl ?_;dsimp only;decide+kernel))) ?_;refine d6_quiet (.ptr xi 0 5) [] (.inl rfl) (by decide) rfl rfl (fun H _=>by(try simp(maxSteps:=2000000) only[Ty.w,simprocAttr,Ty.all,c1,c2,c3,hrl,hkl,hb2,Nat.le_refl]);try rfl) (by intro x hx;repeat'(first|(exact absurd hx (List.not_mem_nil))|(rcases List.mem_cons.1 hx with rfl|hx)|(refine .inr ?_;dsimp only;omega)|(refine .inr ?_;exact List.not_mem_nil)|(refine .inr fun hm=>?_;have:=List.mem_singleton.1 hm;omega)|(refine .inl ?_;dsimp only;decide+kernel))) ?_;have nX:(xi=h.next+18+1+1)=False:=eq_false (by omega);have hX2:=hX1;simp only[xO]at hX2;refine d6_store (ob:=xO (h.next+18+1+1) (L.length+1)) rfl (by decide) rfl (by simp only[Ty.w,simprocAttr,Ty.all];try rfl) (by
   simp(maxSteps:=2000000) only[Ty.w,simprocAttr,Ty.all,hX2,nX,c1,c2,c3,hrl,hkl,hb2,Nat.le_refl];try rfl) (fun f q hf hq ha=>by have hfl:=(List.getElem?_eq_some_iff.1 hq).1;simp only[List.length_cons,List.length_nil]at hfl;omega) (by intro x hx;repeat'(first|(exact absurd hx (List.not_mem_nil))|(rcases List.mem_cons.1 hx with rfl|hx)|(refine .inr ?_;dsimp only;omega)|(refine .inr ?_;exact List.not_mem_nil)|(refine .inr fun hm=>?_;have:=List.mem_singleton.1 hm;omega)|(refine .inl ?_;dsimp only;decide+kernel))) (by intro x hx;repeat'(first|(exact absurd hx (List.not_mem_nil))|(rcases List.mem_cons.1 hx with rfl|hx)|(refine .inr ?_;dsimp only;omega)|(refine .inr ?_;exact List.not_mem_nil)|(refine .inr fun hm=>?_;have:=List.mem_singleton.1 hm;omega)|(refine .inl ?_;dsimp only;decide+kernel))) ?_
  refine d6_end (hK _ _ ?_);simp only[retPost,resAll];have hlen:(L++[listM (wordM kw::ks)]).length=L.length+1:=by simp
  have hRL:Sx.rows (L++[listM (wordM kw::ks)])=Sx.rows L++[[.sc (.int .i64 3),.sc (.int .i64 0),.sc (.int .i64 0),.sc (.int .i64 0),.sc (.string ⟨#[]⟩),.imm 6 ([.sc (.int .i64 1),.sc (.int .i64 0),.sc (.int .i64 0),.sc (.int .i64 0),sPV kw,.imm 6 []]::Sx.rows ks)]]:=by simp[Sx.rows_map,listM,wordM,Sx.cells,Sx.rows,sPV]
  have oM:((H1.set (h.next+18+1+1) (.arr 6 (Sx.rows L++[[.sc (.int .i64 3),.sc (.int .i64 0),.sc (.int .i64 0),.sc (.int .i64 0),.sc (.string ⟨#[]⟩),.own (h.next+18+1) 0 (1+ks.length)]]))).set xi (xO (h.next+18+1+1) (L.length+1))).obj (h.next+18+1)=some (.arr 6 ([.sc (.int .i64 1),.sc (.int .i64 0),.sc (.int .i64 0),.sc (.int .i64 0),sPV kw,.imm 6 []]::Sx.rows ks)):=(obj_set (by omega)).trans ((obj_set (by omega)).trans hM1);have oN:((H1.set (h.next+18+1+1) (.arr 6 (Sx.rows L++[[.sc (.int .i64 3),.sc (.int .i64 0),.sc (.int .i64 0),.sc (.int .i64 0),.sc (.string ⟨#[]⟩),.own (h.next+18+1) 0 (1+ks.length)]]))).set xi (xO (h.next+18+1+1) (L.length+1))).obj (h.next+18+1+1)=some (.arr 6 (Sx.rows L++[[.sc (.int .i64 3),.sc (.int .i64 0),.sc (.int .i64 0),.sc (.int .i64 0),.sc (.string ⟨#[]⟩),.own (h.next+18+1) 0 (1+ks.length)]])):=(obj_set (by omega)).trans obj_at;have hgv:GvR (h.next+18+1) 6 ([.sc (.int .i64 1),.sc (.int .i64 0),.sc (.int .i64 0),.sc (.int .i64 0),sPV kw,.imm 6 []]::Sx.rows ks) (Sx.rows L++[[.sc (.int .i64 3),.sc (.int .i64 0),.sc (.int .i64 0),.sc (.int .i64 0),.sc (.string ⟨#[]⟩),.own (h.next+18+1) 0 (1+ks.length)]]) (Sx.rows (L++[listM (wordM kw::ks)])):=by
   rw[hRL];refine GvR.snoc ?_ _;simp only[GvL,Gv];exact⟨.inl trivial,.inl trivial,.inl trivial,.inl trivial,.inl trivial,.inr ⟨by rw[List.length_cons,hkl,Nat.add_comm ks.length 1],trivial⟩,trivial⟩
  refine⟨_,_,?_,Wk.give oM oN (by omega) hgv⟩;rw[← hlen];generalize L++[listM (wordM kw::ks)]=L2;refine⟨resV [],grpH h xi j L2,⟨rfl,by simp⟩,by simp[resV,FrzTo,FrzL],by simp only[grpH];omega,fun i o hio=>?_⟩;simp only[grpH]at hio⊢;simp only[giveH];by_cases h1:i=xi
  ·subst h1;rw[if_pos rfl]at hio;obtain rfl:=Option.some.inj hio;exact⟨(obj_set (by omega)).trans ((obj_kill (by omega)).trans obj_at),by omega,.inr (by simp[xO,inNO,inNR,inNL,inN])⟩
  ·rw [if_neg h1]at hio;by_cases h2:i=h.next+18+1+1
   ·subst h2;rw[if_pos rfl]at hio;obtain rfl:=Option.some.inj hio;exact⟨obj_at,by omega,.inr (by simp only[inNO];exact sxs_in _ _)⟩
   ·rw [if_neg h2]at hio;by_cases h3:i=j
    ·rw [if_pos h3]at hio;cases hio
    ·rw [if_neg h3]at hio;by_cases h4:i<h.next
     ·rw [if_pos h4]at hio;exact⟨((obj_set h2).trans ((obj_kill (by omega)).trans ((obj_set h1).trans ((obj_set h2).trans (hO1 i h4 h3))))).trans hio,by omega,.inl hio⟩
     ·rw [if_neg h4]at hio;cases hio
end Go.Proofs.YtblgchkahpgdjaaGreat
namespace Go.AM
section
variable {P:Program}{ow:Nat→Bool}{wf:FuncId→Bool}{n:Nat}
def kxM(ow:Nat→Bool)(ops:List Oper)(L:List (Nat × Nat))(x:Nat):List Nat:=(List.range ops.length).filterMap fun f=>if(!(x==f)&&!(pre ops f x)&&(!(pre ops x f)||(ops[f]?).any (isA ow)))=true then L.lookup f else none
def laM(ow:Nat→Bool)(ops:List Oper)(k:Nat):List Nat:=(List.range ops.length).filter fun f=>decide (k<f)&&(ops[f]?).any (isA ow)
def ww7(ow:Nat→Bool)(ops:List Oper)(L:List (Nat × Nat))(B:List Nat):Bool:=(List.range ops.length).all fun j=>(List.range j).all fun i=>!(B.contains i||(L.lookup i).isSome)||!(B.contains j||(L.lookup j).isSome)||pre ops i j||(match L.lookup i,L.lookup j with|some p,some q=>p !=q|_,_=>false)||(B.contains i&&(L.lookup j).isSome&&(ops[j]?).any (isA ow))||((L.lookup i).isSome&&B.contains j&&(ops[i]?).any (isA ow))
def Loc7(P:Program)(ow:Nat→Bool)(wf:FuncId→Bool)(n:Nat)(ops:List Oper)(L:List (Nat × Nat))(B:List Nat)(base j:Nat)(o:Oper)(s s':Slots)(h h':Heap)(v:PV)(l:Option (Nat × AObj)):Prop:=
 l.map (·.1)=(L.lookup j).map (base+·)∧o.dst.all (fun d=>decide (d<n))=true∧ ∃ b,wantedB ops s o=some b∧
  (b=false→s'=updO s o.dst (.sc undef)∧h'=h∧l=none∧B.contains j=false)∧
  (b = true → s' = updO s o.dst v ∧
   (isW ow wf o=false→h'=h∧l=none∧B.contains j=false∧ ∀ H,Does P ow o (pev s) H v H)∧
   (isW ow wf o = true →
    (B.contains j=true∧l=none∧(∃ H',Does P ow o (pev s) (killL h ((kxM ow ops L j).map (base+·))) v H'∧(∀ q∈kxM ow ops L j,H'.obj (base+q)=none)∧h'=putL H' h ((kxM ow ops L j).map (base+·)))∧ ∀ f∈laM ow ops j,h'.obj (base+f)=none)∨
    (B.contains j=false∧isA ow o=true∧ ∃ ob,l=some (base+j,ob)∧aop P ow (base+j) o (pev s)=some (v,ob)∧h'=h.set (base+j) ob)∨
    (B.contains j=false∧ ∃ t x y id r f ob,o.op= .store t x y∧pev s x= .ptr id r f∧l=some (id,ob)∧h'=h.set id ob∧(∀ f∈laM ow ops j,base+f≠id)∧eff P (o.dst.any ow) o.op (pev s) h=some (v,h'))))
def dr7(P:Program)(ow:Nat→Bool)(wf:FuncId→Bool)(n:Nat)(ops:List Oper)(L:List (Nat × Nat))(B:List Nat)(base:Nat):Nat→List Oper→(Slots→Heap→Prop)→Slots→Heap→Prop
 |_,[],K,s,h=>K s h
 |k,o::rest,K,s,h=> ∃ s' h' v l,Loc7 P ow wf n ops L B base k o s s' h h' v l∧dr7 P ow wf n ops L B base (k+1) rest K s' h'
theorem dr7_facts{ops:List Oper}{L:List (Nat × Nat)}{B:List Nat}{base:Nat}{K:Slots→Heap→Prop}: ∀ (rest:List Oper)(k:Nat)(s:Slots)(h:Heap),ops.drop k=rest→k≤ops.length→dr7 P ow wf n ops L B base k rest K s h→
  ∃ (sk:Nat→Slots)(hk:Nat→Heap)(vk:Nat→PV)(lt:Nat→Option (Nat × AObj)),sk k=s∧hk k=h∧K (sk ops.length) (hk ops.length)∧
   ∀ j o,k≤j→ops[j]? =some o→Loc7 P ow wf n ops L B base j o (sk j) (sk (j+1)) (hk j) (hk (j+1)) (vk j) (lt j)
 |[],k,s,h,hd,hk,hr=>by
  have hl:ops.length≤k:=by simpa using hd
  have hke:k=ops.length:=by omega
  refine⟨fun _=>s,fun _=>h,fun _=> .emp,fun _=>none,rfl,rfl,hr,fun j o hj ho=>?_⟩;have:=(List.getElem?_eq_some_iff.1 ho).1;omega
 |o::rest,k,s,h,hd,hk,hr=>by
  have ho:ops[k]? =some o:=by
   have:(ops.drop k)[0]? =some o:=(by rw[hd];try rfl);simpa using this
  have hkl:k<ops.length:=(List.getElem?_eq_some_iff.1 ho).1;have hd2:ops.drop (k+1)=rest:=by
   have:=List.drop_eq_getElem_cons hkl;rw[hd]at this;simp only[List.cons.injEq]at this;exact this.2.symm
  obtain⟨s',h',v,l,hloc,hrec⟩:=hr;obtain⟨sk,hk',vk,lt,e1,e2,e3,e4⟩:=dr7_facts rest (k+1) s' h' hd2 (by omega) hrec;refine⟨fun j=>if j=k then s else sk j,fun j=>if j=k then h else hk' j,fun j=>if j=k then v else vk j,fun j=>if j=k then l else lt j,by simp,by simp,?_,fun j q hj hq=>?_⟩
  ·simp only;rw[if_neg (by omega),if_neg (by omega)];exact e3
  ·by_cases hjk:j=k
   ·subst hjk;rw[ho]at hq;simp only[Option.some.injEq]at hq;subst hq;simp only[if_true];rw[if_neg (by omega),if_neg (by omega),e1,e2];exact hloc
   ·simp only[hjk,if_false];rw[if_neg (by omega),if_neg (by omega)];exact e4 j q (by omega) hq
theorem kx_kxM{ops:List Oper}{L:List (Nat × Nat)}{base:Nat}{lt:Nat→Option (Nat × AObj)}(h: ∀ f,f<ops.length→(lt f).map (·.1)=(L.lookup f).map (base+·))(x:Nat):kx ow ops lt x=(kxM ow ops L x).map (base+·):=by
 unfold kx kxM;rw[List.map_filterMap];have: ∀ l:List Nat,(∀ f∈l,f<ops.length)→l.filterMap (fun f=>if(!(x==f)&&!(pre ops f x)&&(!(pre ops x f)||(ops[f]?).any (isA ow)))=true then(lt f).map (·.1)else none)=l.filterMap (fun f=>Option.map (base+·) (if(!(x==f)&&!(pre ops f x)&&(!(pre ops x f)||(ops[f]?).any (isA ow)))=true then L.lookup f else none)):=by
  intro l
  induction l with
  |nil=>intro _;rfl
  |cons f l ih=>
   intro hl;have e:(if(!(x==f)&&!(pre ops f x)&&(!(pre ops x f)||(ops[f]?).any (isA ow)))=true then(lt f).map (·.1)else none)=Option.map (base+·) (if(!(x==f)&&!(pre ops f x)&&(!(pre ops x f)||(ops[f]?).any (isA ow)))=true then L.lookup f else none):=by
    split
    ·exact h f (hl f (by simp))
    ·rfl
   rw[List.filterMap_cons,List.filterMap_cons,e,ih fun y hy=>hl y (by simp[hy])]
 exact this _ fun f hf=>List.mem_range.1 hf
theorem mem_laM{ops:List Oper}{k f:Nat}{q:Oper}(hf:k<f)(hq:ops[f]? =some q)(ha:isA ow q=true):f∈laM ow ops k:=by
 simp only[laM,List.mem_filter,List.mem_range,Bool.and_eq_true,decide_eq_true_eq];exact⟨(List.getElem?_eq_some_iff.1 hq).1,hf,by rw[hq];exact ha⟩
theorem dwp3_of7{ops:List Oper}{L:List (Nat × Nat)}{B:List Nat}{K:Slots→Heap→Prop}{s:Slots}{h:Heap}(hd:dOk3 ops=true)(hw:ww7 ow ops L B=true)(hr:dr7 P ow wf n ops L B h.next 0 ops K s ⟨h.next+ops.length,h.obj⟩):dwp3 P ow wf n ops K s h:=by
 obtain⟨sk,hk,vk,lt,e1,e2,e3,e4⟩:=dr7_facts ops 0 s _ rfl (Nat.zero_le _) hr;have hlt: ∀ f,f<ops.length→(lt f).map (·.1)=(L.lookup f).map (h.next+·):=fun f hf=>(e4 f _ (Nat.zero_le _) (List.getElem?_eq_getElem hf)).1;have hkx:=fun x=>kx_kxM (ow:=ow) hlt x;have hsome: ∀ f,f<ops.length→((lt f).isSome=(L.lookup f).isSome):=fun f hf=>by
  have:=congrArg Option.isSome (hlt f hf);simpa using this
 refine⟨hd,sk,hk,vk,lt,fun j=>B.contains j,e1,e2,e3,⟨fun j o ho=>?_,fun i j hij hj hi hj2=>?_⟩⟩
 ·obtain ⟨_,g1,b,g2,g3,g4⟩:=e4 j o (Nat.zero_le _) ho;refine⟨g1,b,g2,fun hb=>g3 hb,fun hb=>?_⟩;obtain⟨k1,k2,k3⟩:=g4 hb;refine⟨k1,fun hw=>?_,fun hw=>?_⟩
  ·obtain ⟨m1,m2,m3,m4⟩:=k2 hw;exact⟨m1,m2,m3,fun M _=>⟨kx ow ops lt j,fun _ hx=>hx,m4 _⟩⟩
  ·rcases k3 hw with⟨m1,m2,⟨H',m3,m4,m6⟩,m5⟩|⟨m0,m1,ob,m2,m3,m4⟩|⟨m0,t,x,y,id,r,f,ob,m1,m2,m3,m4,m5,m6⟩
   ·refine .inl ⟨m1,m2,⟨H',?_,fun id hid=>?_,?_⟩,fun f q hf hq ha=>m5 f (mem_laM hf hq ha)⟩
    ·rw [hkx];exact m3
    ·rw [hkx]at hid;obtain⟨q,hq,rfl⟩:=List.mem_map.1 hid;exact m4 q hq
    ·rw [hkx];exact m6
   ·exact .inr (.inl ⟨m0,m1,ob,m2,m3,m4⟩)
   ·exact .inr (.inr ⟨m0,t,x,y,id,r,f,ob,m1,m2,m3,m4,fun f q hf hq ha=>m5 f (mem_laM hf hq ha),m6⟩)
 ·have hwij:=List.all_eq_true.1 (List.all_eq_true.1 hw j (List.mem_range.2 hj)) i (List.mem_range.2 hij);have si:=hsome i (by omega);have sj:=hsome j hj;have li:=hlt i (by omega);have lj:=hlt j hj;have ei:(B.contains i||(L.lookup i).isSome)=true:=by
   rw[← si];rcases hi with h1|h1
   ·rw [h1];try rfl
   ·rw [h1];simp
  have ej:(B.contains j||(L.lookup j).isSome)=true:=by
   rw[← sj];rcases hj2 with h1|h1
   ·rw [h1];try rfl
   ·rw [h1];simp
  rw[ei,ej]at hwij;simp only[Bool.not_true,Bool.false_or,Bool.or_eq_true,Bool.and_eq_true]at hwij;rcases hwij with((h1|h1)|h1)|h1
  ·exact .inl h1
  ·refine .inr (.inl ?_);cases h2:L.lookup i with
   |none=>rw[h2]at h1;simp at h1
   |some p=>
    cases h3:L.lookup j with
    |none=>rw[h2,h3]at h1;simp at h1
    |some q=>
     rw[h2,h3]at h1;rw[h2]at li;rw[h3]at lj;obtain⟨x,hx,hx2⟩:=Option.map_eq_some_iff.1 li;obtain⟨y,hy,hy2⟩:=Option.map_eq_some_iff.1 lj;refine⟨x,y,hx,hy,?_⟩;rw[hx2,hy2];have hpq:p≠q:=(by simpa using h1);show h.next+p≠h.next+q
     omega
  ·refine .inr (.inr (.inl ⟨h1.1.1,by rw[sj];exact h1.1.2,ops[j],List.getElem?_eq_getElem hj,?_⟩));have:=h1.2;rw[List.getElem?_eq_getElem hj]at this;exact this
  ·have hil:i<ops.length:=(by omega);refine .inr (.inr (.inr ⟨by rw[si];exact h1.1.1,h1.1.2,ops[i],List.getElem?_eq_getElem hil,?_⟩));have:=h1.2;rw[List.getElem?_eq_getElem hil]at this;exact this
theorem a_draw7{Q:Post}{s:Slots}{h:Heap}{id:Nat}{ops:List Oper}(L:List (Nat × Nat))(B:List Nat)(hd:dOk3 ops=true)(hw:ww7 ow ops L B=true)(hk: ∀ K:Slots→Heap→Prop,(∀ s h,Q .normal s h→K s h)→dr7 P ow wf n ops L B h.next 0 ops K s ⟨h.next+ops.length,h.obj⟩):awp P ow wf n (.region id ops.toArray true) Q s h:=by
 simp only[awp,if_true];exact⟨_,_,.refl,.inr (.inr (dwp3_of7 hd hw (hk _ fun _ _ hq=>hq)))⟩
variable {ops rest:List Oper}{L:List (Nat × Nat)}{B:List Nat}{base k:Nat}{o:Oper}{K:Slots→Heap→Prop}{s:Slots}{h:Heap}
theorem d7_end(hK:K s h):dr7 P ow wf n ops L B base k [] K s h:=hK
theorem d7_quiet(v:PV)(hl:L.lookup k=none)(hB:B.contains k=false)(hd:o.dst.all (fun d=>decide (d<n))=true)(hw:wantedB ops s o=some true)(hW:isW ow wf o=false)(he: ∀ H,Does P ow o (pev s) H v H)(hk:dr7 P ow wf n ops L B base (k+1) rest K (updO s o.dst v) h):dr7 P ow wf n ops L B base k (o::rest) K s h:=
 ⟨_,_,v,none,⟨by rw[hl];try rfl,hd,true,hw,fun hb=>(by cases hb),fun _=>⟨rfl,fun _=>⟨rfl,rfl,hB,he⟩,fun hw2=>(by rw[hW]at hw2;cases hw2)⟩⟩,hk⟩
theorem d7_new{v:PV}{ob:AObj}(hl:L.lookup k=some k)(hB:B.contains k=false)(hd:o.dst.all (fun d=>decide (d<n))=true)(hw:wantedB ops s o=some true)(hW:isW ow wf o=true)(hA:isA ow o=true)(he:aop P ow (base+k) o (pev s)=some (v,ob))(hk:dr7 P ow wf n ops L B base (k+1) rest K (updO s o.dst v) (h.set (base+k) ob)):dr7 P ow wf n ops L B base k (o::rest) K s h:=
 ⟨_,_,v,some (base+k,ob),⟨by rw[hl];try rfl,hd,true,hw,fun hb=>(by cases hb),fun _=>⟨rfl,fun hw2=>(by rw[hW]at hw2;cases hw2),fun _=> .inr (.inl ⟨hB,hA,ob,rfl,he,rfl⟩)⟩⟩,hk⟩
theorem d7_br{v:PV}{H':Heap}{kl la:List Nat}(hl:L.lookup k=none)(hB:B.contains k=true)(hd:o.dst.all (fun d=>decide (d<n))=true)(hw:wantedB ops s o=some true)(hW:isW ow wf o=true)(hkl:kxM ow ops L k=kl)(hla:laM ow ops k=la)(he:Does P ow o (pev s) (killL h (kl.map (base+·))) v H')(h1: ∀ q∈kl,H'.obj (base+q)=none)(h2: ∀ q∈la,(putL H' h (kl.map (base+·))).obj (base+q)=none)
  (hk:dr7 P ow wf n ops L B base (k+1) rest K (updO s o.dst v) (putL H' h (kl.map (base+·)))):dr7 P ow wf n ops L B base k (o::rest) K s h:=
 ⟨_,_,v,none,⟨by rw[hl];try rfl,hd,true,hw,fun hb=>(by cases hb),fun _=>⟨rfl,fun hw2=>(by rw[hW]at hw2;cases hw2),fun _=> .inl ⟨hB,rfl,⟨H',by rw[hkl];exact he,by rw[hkl];exact h1,by rw[hkl]⟩,by rw[hla];exact h2⟩⟩⟩,hk⟩
end
end Go.AM
namespace Go.Proofs.YtblgchkahpgdjaaGreat
open Go.AM
set_option maxHeartbeats 8000000
set_option maxRecDepth 20000
def opDef9:ByteArray:=⟨#[100,101,102,105,110,101]⟩
def opDom9:ByteArray:=⟨#[100,111,109,97,105,110]⟩
def opTys:ByteArray:=⟨#[58,116,121,112,101,115]⟩
def opCons:ByteArray:=⟨#[58,99,111,110,115,116,97,110,116,115]⟩
def opPreds:ByteArray:=⟨#[58,112,114,101,100,105,99,97,116,101,115]⟩
def opFuns:ByteArray:=⟨#[58,102,117,110,99,116,105,111,110,115]⟩
def grpP(L:List Sx)(kw:ByteArray)(ks:List Sx):List Sx:=bif ks.isEmpty then L else L++[listM (wordM kw::ks)]
def prX(p:Pr):Sx:=listM (wordM p.name::paramsW p.params)
def fuX(f:Fu):Sx:=listM (wordM f.name::paramsW f.params++[numM f.lo,numM f.hi])
def dmL(d:Dm):List Sx:=grpP (grpP (grpP (grpP [wordM opDef9,listM [wordM opDom9,wordM d.name]] opTys (paramsW d.types)) opCons (paramsW d.constants)) opPreds (d.predicates.map prX)) opFuns (d.functions.map fuX)++d.actions.map acX++d.duratives.map duX
def dmX(d:Dm):Sx:=listM (dmL d)
def prB(p:Pr):Bool:=nameB p.name&&p.params.all (parB true)
def fuB(f:Fu):Bool:=nameB f.name&&f.params.all (parB true)
def dmB(d:Dm):Bool:=nameB d.name&&d.types.all (parB false)&&d.constants.all (parB false)&&d.predicates.all prB&&d.functions.all fuB&&d.actions.all acB&&d.duratives.all duB
theorem grpP_len(L:List Sx)(kw:ByteArray)(ks:List Sx):(grpP L kw ks).length≤L.length+1:=by unfold grpP;cases ks.isEmpty<;>simp
structure WdI(h:Heap)(b:Bool)(xi j:Nat)(L:List Sx)(H:Heap):Prop where
 grow:Grow h H
 ids:h.next+1<xi∧xi<H.next∧h.next+1<j∧j<H.next∧xi≠j
 ores:H.obj h.next=some (.arr 6 [sxZd])
 ow:H.obj (h.next+1)=some (wO b)
 ox:H.obj xi=some (xO j L.length)
 oj:H.obj j=some (.arr 6 (Sx.rows L))
structure WdS(h:Heap)(xi:Nat)(row:List PV)(S:Slots):Prop where
 s1:S 1= .cptr row
 s2:S 2= .ptr h.next 0 0
 s4:S 4= .ptr (h.next+1) 0 0
 s5:S 5= .ptr xi 0 0
theorem WdI.put{h H:Heap}{xi j:Nat}{b b2:Bool}{L:List Sx}(i:WdI h b xi j L H):WdI h b2 xi j L (H.set (h.next+1) (wO b2)):=by
 obtain⟨g,⟨i1,i2,i3,i4,i5⟩,o1,o2,o3,o4⟩:=i;exact⟨g.set (by omega) _,⟨i1,i2,i3,i4,i5⟩,(obj_set (by omega)).trans o1,obj_at,(obj_set (by omega)).trans o3,(obj_set (by omega)).trans o4⟩
theorem WdI.grp{h H:Heap}{xi j:Nat}{b:Bool}{L L2:List Sx}(i:WdI h b xi j L H):WdI h b xi (H.next+18+1+1) L2 (grpH H xi j L2):=by
 obtain⟨g,⟨i1,i2,i3,i4,i5⟩,o1,o2,o3,o4⟩:=i;have hle:=g.le;refine⟨⟨by simp only[grpH];omega,fun k hk=>?_⟩,⟨i1,by simp only[grpH];omega,by omega,by simp only[grpH];omega,by omega⟩,?_,?_,?_,?_⟩
 ·simp only[grpH];rw[if_neg (by omega),if_neg (by omega),if_neg (by omega),if_pos (by omega)];exact g.old k hk
 ·simp only[grpH];rw[if_neg (by omega),if_neg (by omega),if_neg (by omega),if_pos (by omega)];exact o1
 ·simp only[grpH];rw[if_neg (by omega),if_neg (by omega),if_neg (by omega),if_pos (by omega)];exact o2
 ·simp only[grpH,if_true]
 ·simp only[grpH];rw[if_neg (by omega),if_pos trivial]
theorem killL_noneW{H:Heap}{l:List Nat}(h: ∀ id∈l,H.obj id=none):killL H l=H:=by
 unfold killL;cases H with
 |mk nx ob=>
  congr 1;funext j;split
  ·rename_i hc;exact(h j (by simpa using hc)).symm
  ·rfl
theorem putL_noneW{H H':Heap}{l:List Nat}(h: ∀ id∈l,H.obj id=none):putL H' H l=H':=by
 unfold putL;cases H' with
 |mk nx ob=>
  congr 1;funext j;split
  ·rename_i hc;have:=h j (by simpa using hc.1);rw[this]at hc;simp at hc
  ·rfl
theorem obj_newAt{h:Heap}{o:AObj}:(h.new o).obj h.next=some o:=by simp only[Heap.new,if_true]
theorem obj_newNe{h:Heap}{o:AObj}{j:Nat}(hj:j≠h.next):(h.new o).obj j=h.obj j:=by simp only[Heap.new];rw[if_neg hj]
theorem a_genPost{R:Slots→Heap→Prop}{s:Slots}{h:Heap}(I:Slots→Heap→Prop)(hi:I s h)(hh: ∀ s h,I s h→R s h):R s h:=hh _ _ hi
theorem d7_genH{P:Program}{ow:Nat→Bool}{wf:FuncId→Bool}{n:Nat}{ops rest:List Oper}{L:List (Nat × Nat)}{B:List Nat}{base k:Nat}{K:Slots→Heap→Prop}{s:Slots}{h:Heap}(I:Heap→Prop)(hi:I h)(hh: ∀ G,I G→dr7 P ow wf n ops L B base k rest K s G):dr7 P ow wf n ops L B base k rest K s h:=hh _ hi
theorem dlist_any{id n:Nat}(H:Heap):PCall Tryz.prog 39 [.own id 0 n] H fun r h'=>r= .agg [.sc (.int .i64 3),.sc (.int .i64 0),.sc (.int .i64 0),.sc (.int .i64 0),.sc (.string ⟨#[]⟩),.own id 0 n]∧h'=H:=by
 intro β w vals sm hr;have hid:id<H.next:=by
  cases vals with
  |nil=>simp only[RepL]at hr
  |cons v l=>simp only[RepL,Rep]at hr;exact hr.1.1
 exact dlist_c (h:=H) (p:= .own id 0 n) rfl (fun _=>frz_own hid) β w vals sm hr
theorem frzD_sc{n:Nat}{H:Heap}{v:Value}:FrzTo n H (.sc v) (.sc v):=by simp only[FrzTo]
theorem frzD_imm{n z:Nat}{H:Heap}{R:List (List PV)}(h:inNR n R):FrzTo n H (.imm z R) (.imm z R):=by simp only[FrzTo];exact .inl ⟨trivial,h⟩
theorem WdI.tmp{h H:Heap}{xi j:Nat}{b:Bool}{L:List Sx}(i:WdI h b xi j L H)(o o':AObj):WdI h b xi j L (tmpH H o o'):=by
 obtain⟨g,⟨i1,i2,i3,i4,i5⟩,o1,o2,o3,o4⟩:=i;have hle:=g.le;exact⟨g.tmp o o',⟨i1,by rw[tmpH_next];omega,i3,by rw[tmpH_next];omega,i5⟩,(tmpH_obj (by omega)).trans o1,(tmpH_obj (by omega)).trans o2,(tmpH_obj (by omega)).trans o3,(tmpH_obj (by omega)).trans o4⟩
theorem chsW_in(n:Nat): ∀ l:List Ch,inNR n (chRows l)
 |[]=>by simp only[chRows,List.map_nil,inNR]
 |⟨k,P,⟨gop,gna,gar,gpa,gex,gki⟩,nm,a,⟨eop,ena,en,ear,eki⟩⟩::l=>by
  have:=chsW_in n l;simp only[chRows,List.map_cons,inNR]at this⊢;refine⟨?_,this⟩;simp only[chRow,Fm.cells,Ex.cells,List.cons_append,List.nil_append,inNL,inN,true_and,and_true];exact⟨pms_in _ _,strs_in _ _,pms_in _ _,exs_in _ _,fms_in _ _,strs_in _ _,strs_in _ _,exs_in _ _⟩
structure DmWS(d:Dm):Prop where
 types:d.types.length≤1048576
 consts:d.constants.length≤1048576
 preds:d.predicates.length≤1048576∧ ∀ p∈d.predicates,p.params.length≤1048576
 funs:d.functions.length≤1048576∧ ∀ p∈d.functions,p.params.length≤1048576
 acts:d.actions.length≤1048576∧ ∀ a∈d.actions,AcSm a
 durs:d.duratives.length≤1048576∧ ∀ a∈d.duratives,DuSm a
theorem Write_c{d:Dm}(hok:d.ok)(hsm:DmWS d)(hX:(dmX d).ok)(h:Heap):
  PCall Tryz.prog 12 [.agg d.cells] h fun r h'=>r=(if dmB d&&(svalid (dmX d) 0 0).1 then .tup [.agg (dmX d).cells,.sc .nilIface]else .tup [.agg zeroSx.cells,errV 2])∧h'=h:=by
 refine pcall_wf Ty.hb_12 fun hwf=>?_;refine PCall.frz Ty.hb_12 ?_;have hno: ∀ i,h.next≤i→h.obj i=none:=fun i hi=>by
  cases q:h.obj i with
  |none=>rfl
  |some o=>have:=hwf i (by rw[q];try rfl);omega
 obtain⟨dn,dt,dc,dp,df,da,dd⟩:=d;have hw: ∀ (s:ByteArray)(h:Heap),PCall Tryz.prog 40 [sPV s] h fun r h'=>r= .agg (wordM s).cells∧h'=h:=fun s h=>dword_c;have hns:dn.size≤9223372036854775807:=by have:=hok.name;unfold bigN at this;simp only at this;omega
 have cN:=fun(H:Heap)(hid:h.next+1<H.next)(ho:H.obj (h.next+1)=some (wO false))=>wname_c (h:=H) (b:=false) hns hid ho;have hl2:=fun h:Heap=>dlistS_c [wordM opDom9,wordM dn] h;simp only[wordM,listM,Sx.cells,Sx.rows]at hw cN hl2;simp only[Dm.cells];refine pcall_body (ow:=fun t=>t==18||t==27||t==51||t==58||t==72||t==89) (wf:=fun f=>f==41||f==43||f==45||f==46||f==42) Ty.mixed Tryz.func12 rfl Ty.hb_12 (by rw[Tryz.ntmps12];simp) ?_;rw[Tryz.ntmps12,Tryz.results12];refine xG 2 trivial ?_;refine⟨?_⟩;refine a_seq (fun K hK=>?_);refine a_draw2S [10] (by decide+kernel) (by decide+kernel) ?_;have n1:(h.next+1=h.next)=False:=eq_false (by omega);have n2:(h.next=h.next+1)=False:=eq_false (by omega);have n3:(h.next+1+1+10=h.next)=False:=eq_false (by omega);have n4:(h.next+1+1+10=h.next+1)=False:=eq_false (by omega);have n5:(h.next+1+1+12=h.next+1)=False:=eq_false (by omega);have n6:(h.next+1+1+10=h.next+1+1+12)=False:=eq_false (by omega);have n7:(h.next+1+1+12=h.next+1+1+10)=False:=eq_false (by omega);have n8:(h.next+1=h.next+1+1+10)=False:=eq_false (by omega);have n9:(h.next+1=h.next+1+1+12)=False:=eq_false (by omega);have hN:h.obj (h.next+1+1+10)=none:=hno _ (by omega);have hl3: ∀ H:Heap,h.next+1+1+12<H.next→PCall Tryz.prog 39 [.own (h.next+1+1+12) 0 2] H fun r h'=>r= .agg [.sc (.int .i64 3),.sc (.int .i64 0),.sc (.int .i64 0),.sc (.int .i64 0),.sc (.string ⟨#[]⟩),.own (h.next+1+1+12) 0 2]∧h'=H:=fun H hh=>dlist_c rfl (fun _=>frz_own hh)
 simp(maxSteps:=4000000) only[drn2,Ty.w,simprocAttr,Ty.all,List.forall_mem_cons,n1,n2,n3,n4,n5,n6,n7,n8,n9,hN];first
  |refine a_dcall2 [10] (by decide+kernel) (hw opDef9 _) (by(try simp only[Ty.w,simprocAttr,n1,n2,n3,n4,n5,n6,n7,n8,n9,hN]);try rfl) ?_
  |refine a_dcall2A [10] (by decide+kernel) (hw opDef9 _) (by(try simp only[Ty.w,simprocAttr,n1,n2,n3,n4,n5,n6,n7,n8,n9,hN]);try rfl) (by(try simp(maxSteps:=2000000) only[List.forall_mem_cons])<;>((repeat' apply And.intro)<;>first|exact .inl (by decide+kernel)|exact(fun _ hx=>by cases hx)|trivial)) ?_
 simp(maxSteps:=4000000) only[drn2,Ty.w,simprocAttr,Ty.all,List.forall_mem_cons,List.nil_append,n1,n2,n3,n4,n5,n6,n7,n8,n9,hN];first
  |refine a_dcall2 [10] (by decide+kernel) (hw opDom9 _) (by(try simp only[Ty.w,simprocAttr,n1,n2,n3,n4,n5,n6,n7,n8,n9,hN]);try rfl) ?_
  |refine a_dcall2A [10] (by decide+kernel) (hw opDom9 _) (by(try simp only[Ty.w,simprocAttr,n1,n2,n3,n4,n5,n6,n7,n8,n9,hN]);try rfl) (by(try simp(maxSteps:=2000000) only[List.forall_mem_cons])<;>((repeat' apply And.intro)<;>first|exact .inl (by decide+kernel)|exact(fun _ hx=>by cases hx)|trivial)) ?_
 simp(maxSteps:=4000000) only[drn2,Ty.w,simprocAttr,Ty.all,List.forall_mem_cons,List.nil_append,n1,n2,n3,n4,n5,n6,n7,n8,n9,hN];refine a_dcall2W [10] (by decide+kernel) (cN _ (by simp only[Heap.new];omega) (by simp only[Ty.w,simprocAttr,n1,n2,n3,n4,n5,n6,n7,n8,n9,hN])) (by(try simp only[Ty.w,simprocAttr,n1,n2,n3,n4,n5,n6,n7,n8,n9,hN]);try rfl) ?_ ?_
 ·exact ⟨by simp only[Ty.w,simprocAttr,n1,n2,n3,n4,n5,n6,n7,n8,n9,hN],by simp only[pastC,List.map_cons,List.map_nil,List.forall_mem_cons];(repeat' apply And.intro)<;>first|exact .inl (by decide+kernel)|exact .inr (Does_use (hw opDef9 _) (by(try simp only[Ty.w,simprocAttr,n1,n2,n3,n4,n5,n6,n7,n8,n9,hN]);try rfl))|exact(fun _ hx=>by cases hx)⟩
 simp(maxSteps:=4000000) only[drn2,Ty.w,simprocAttr,Ty.all,List.forall_mem_cons,List.nil_append,n1,n2,n3,n4,n5,n6,n7,n8,n9,hN];refine a_dcall2A [10] (by decide+kernel) (hl2 _) (by(try simp only[Ty.w,simprocAttr,n1,n2,n3,n4,n5,n6,n7,n8,n9,hN]);try rfl) (by(try simp(maxSteps:=2000000) only[List.forall_mem_cons])<;>((repeat' apply And.intro)<;>first|exact .inl (by decide+kernel)|exact(fun _ hx=>by cases hx)|trivial)) ?_;simp(maxSteps:=4000000) only[drn2,Ty.w,simprocAttr,Ty.all,List.forall_mem_cons,List.nil_append,n1,n2,n3,n4,n5,n6,n7,n8,n9,hN];refine⟨by(repeat' apply And.intro)<;>first
    |exact .inl (by decide+kernel)
    |exact .inr (Does_use (hw opDef9 _) (by(try simp only[Ty.w,simprocAttr,n1,n2,n3,n4,n5,n6,n7,n8,n9,hN]);try rfl))
    |exact .inr (Does_use (hw opDom9 _) (by(try simp only[Ty.w,simprocAttr,n1,n2,n3,n4,n5,n6,n7,n8,n9,hN]);try rfl))
    |exact .inr (Does_use (hl2 _) (by(try simp only[Ty.w,simprocAttr,n1,n2,n3,n4,n5,n6,n7,n8,n9,hN]);try rfl))
    |exact .inr (Does_use (hl3 _ (by simp[Heap.new,Heap.set])) (by(try simp only[Ty.w,simprocAttr,n1,n2,n3,n4,n5,n6,n7,n8,n9,hN]);try rfl))
    |exact .inr (by simp(maxSteps:=2000000) only[Ty.w,simprocAttr,Ty.all,n1,n2,n3,n4,n5,n6,n7,n8,n9,hN])
    |exact(fun _ hx=>by cases hx)
    |trivial,?_⟩
 try simp(maxSteps:=4000000) only[drn2,Ty.w,simprocAttr,Ty.all,List.forall_mem_cons,List.nil_append,n1,n2,n3,n4,n5,n6,n7,n8,n9,hN]
 refine a_dcall2A [10] (by decide+kernel) (hl3 _ (by simp[Heap.new,Heap.set])) (by(try simp only[Ty.w,simprocAttr,n1,n2,n3,n4,n5,n6,n7,n8,n9,hN]);try rfl) (by(try simp(maxSteps:=2000000) only[List.forall_mem_cons])<;>((repeat' apply And.intro)<;>first|exact .inl (by decide+kernel)|exact(fun _ hx=>by cases hx)|trivial)) ?_;simp(maxSteps:=4000000) only[drn2,Ty.w,simprocAttr,Ty.all,List.forall_mem_cons,List.nil_append,n1,n2,n3,n4,n5,n6,n7,n8,n9,hN];refine⟨?_,?_⟩
 ·(repeat' apply And.intro)<;>first
    |exact .inl (by decide+kernel)
    |exact .inr (Does_use (hw opDef9 _) (by(try simp only[Ty.w,simprocAttr,n1,n2,n3,n4,n5,n6,n7,n8,n9,hN]);try rfl))
    |exact .inr (Does_use (hw opDom9 _) (by(try simp only[Ty.w,simprocAttr,n1,n2,n3,n4,n5,n6,n7,n8,n9,hN]);try rfl))
    |exact .inr (Does_use (hl2 _) (by(try simp only[Ty.w,simprocAttr,n1,n2,n3,n4,n5,n6,n7,n8,n9,hN]);try rfl))
    |exact .inr (Does_use (hl3 _ (by simp[Heap.new,Heap.set])) (by(try simp only[Ty.w,simprocAttr,n1,n2,n3,n4,n5,n6,n7,n8,n9,hN]);try rfl))
    |exact .inr (by simp(maxSteps:=2000000) only[Ty.w,simprocAttr,Ty.all,n1,n2,n3,n4,n5,n6,n7,n8,n9,hN])
    |exact(fun _ hx=>by cases hx)
    |trivial
 refine⟨?_,?_⟩
 ·(repeat' apply And.intro)<;>first
    |exact .inl (by decide+kernel)
    |exact .inr (Does_use (hw opDef9 _) (by(try simp only[Ty.w,simprocAttr,n1,n2,n3,n4,n5,n6,n7,n8,n9,hN]);try rfl))
    |exact .inr (Does_use (hw opDom9 _) (by(try simp only[Ty.w,simprocAttr,n1,n2,n3,n4,n5,n6,n7,n8,n9,hN]);try rfl))
    |exact .inr (Does_use (hl2 _) (by(try simp only[Ty.w,simprocAttr,n1,n2,n3,n4,n5,n6,n7,n8,n9,hN]);try rfl))
    |exact .inr (Does_use (hl3 _ (by simp[Heap.new,Heap.set])) (by(try simp only[Ty.w,simprocAttr,n1,n2,n3,n4,n5,n6,n7,n8,n9,hN]);try rfl))
    |exact .inr (by simp(maxSteps:=2000000) only[Ty.w,simprocAttr,Ty.all,n1,n2,n3,n4,n5,n6,n7,n8,n9,hN])
    |exact(fun _ hx=>by cases hx)
    |trivial
 first|refine hK _ _ ?_|refine cK ?_
 try clear hK
 generalize hxi:h.next+1+1+10=xi
 refine a_genX (fun S H=> ∃ j,WdS h xi [sPV dn,.imm 2 (pmRows dt),.imm 2 (pmRows dc),.imm 2 (prRows dp),.imm 4 (fuRows df),.imm 10 (acRows da),.imm 23 (duRows dd)] S∧WdI h (!nameB dn) xi j [wordM opDef9,listM [wordM opDom9,wordM dn]] H) ?_ ?_
 ·subst hxi;refine⟨h.next+1+1+12,⟨by simp only[Ty.w,simprocAttr],by simp only[Ty.w,simprocAttr],by simp only[Ty.w,simprocAttr],by simp only[Ty.w,simprocAttr]⟩,⟨?_,⟨by omega,by simp only[Heap.set,Heap.new];omega,by omega,by simp only[Heap.set,Heap.new];omega,by omega⟩,?_,?_,?_,?_⟩⟩
  ·refine ⟨by simp only[Heap.set,Heap.new];omega,fun k hk=>?_⟩;simp only[Heap.set,Heap.new];(repeat(first|rw[if_neg (by omega)]|rw[if_pos trivial]));try exact(if_neg (by omega)).trans (if_neg (by omega))
  ·simp only[Heap.set,Heap.new];repeat(first|rw[if_neg (by omega)]|rw[if_pos trivial])
  ·simp only[Heap.set,Heap.new];repeat(first|rw[if_neg (by omega)]|rw[if_pos trivial])
  ·simp only[Heap.set,Heap.new];(repeat(first|rw[if_neg (by omega)]|rw[if_pos trivial]));try rfl
  ·simp only[Heap.set,Heap.new];(repeat(first|rw[if_neg (by omega)]|rw[if_pos trivial]));simp[wordM,listM,Sx.rows,Sx.cells]
 try clear zz
 clear n1 n2 n3 n4 n5 n6 n7 n8 n9 hN hno hwf hl3 cN hl2;rintro S H ⟨j,⟨s1,s2,s4,s5⟩,hI⟩
 -- sections
 have hL0:[wordM opDef9,listM [wordM opDom9,wordM dn]].length≤2:=by simp
 generalize hLe0:[wordM opDef9,listM [wordM opDom9,wordM dn]]=LL0 at hL0 hI;generalize hb0:(!nameB dn)=b0 at hI;refine a_cut (fun S H=> ∃ j,WdS h xi [sPV dn,.imm 2 (pmRows dt),.imm 2 (pmRows dc),.imm 2 (prRows dp),.imm 4 (fuRows df),.imm 10 (acRows da),.imm 23 (duRows dd)] S∧WdI h (b0||!(dt.all (parB false))) xi j (grpP LL0 opTys (paramsW dt)) H) ?_ ?_
 ·obtain ⟨hg,⟨i1,i2,i3,i4,i5⟩,o1,ow,o2,o3⟩:=(show WdI _ _ _ _ _ _ from hI);have cP:=wparams_c (h:=H) (id:=h.next+1) (b:=b0) (vars:=false) hsm.types hok.types.2 (by omega) ow;have cG:=fun(hx:(H.set (h.next+1) (wO (b0||!(dt.all (parB false))))).obj xi=some (xO j LL0.length))(hj:(H.set (h.next+1) (wO (b0||!(dt.all (parB false))))).obj j=some (.arr 6 (Sx.rows LL0)))=>group_c (h:=(H.set (h.next+1) (wO (b0||!(dt.all (parB false)))))) (xi:=xi) (j:=j) (L:=LL0) (ks:=paramsW dt) (kw:=opTys) hx hj i5 i2 i4 (by omega) (by rw[paramsW_len];have:=hsm.types;simp only at this;omega);have o1':(H.set (h.next+1) (wO (b0||!(dt.all (parB false))))).obj xi=some (xO j LL0.length):=(obj_set (by omega)).trans o2;have o2':(H.set (h.next+1) (wO (b0||!(dt.all (parB false))))).obj j=some (.arr 6 (Sx.rows LL0)):=(obj_set (by omega)).trans o3;have cG2:=cG o1' o2';have hgr: ∀ e,(paramsW dt).isEmpty=e→WdI h (b0||!(dt.all (parB false))) xi (if e=true then j else(H.set (h.next+1) (wO (b0||!(dt.all (parB false))))).next+18+1+1) (grpP LL0 opTys (paramsW dt)) (if e=true then(H.set (h.next+1) (wO (b0||!(dt.all (parB false)))))else grpH (H.set (h.next+1) (wO (b0||!(dt.all (parB false))))) xi j (LL0++[listM (wordM opTys::paramsW dt)])):=fun e he=>by
   unfold grpP;rw[he];cases e with
   |true=>exact hI.put
   |false=>exact hI.put.grp
  have hgr:=hgr _ rfl;generalize(if(paramsW dt).isEmpty=true then(H.set (h.next+1) (wO (b0||!(dt.all (parB false)))))else grpH (H.set (h.next+1) (wO (b0||!(dt.all (parB false))))) xi j (LL0++[listM (wordM opTys::paramsW dt)]))=H3 at cG2 hgr;simp only[opTys]at cG2;refine wt (uu3 s1 s4 s5) ?_;refine owp_useH (cP) (by(try simp only[Ty.w,simprocAttr,s1,s4,s5]);try rfl) ?_;simp(maxSteps:=2000000) only[Ty.w,simprocAttr,s1,s4,s5];refine wt (uu3 s1 s4 s5) ?_;refine owp_useH (cG2) (by(try simp only[Ty.w,simprocAttr,s1,s4,s5]);try rfl) ?_;simp(maxSteps:=2000000) only[Ty.w,simprocAttr,s1,s4,s5];refine wt (uu3 s1 s4 s5) ?_;exact⟨_,⟨by simp only[Ty.w,simprocAttr,s1],by simp only[Ty.w,simprocAttr,s2],by simp only[Ty.w,simprocAttr,s4],by simp only[Ty.w,simprocAttr,s5]⟩,hgr⟩
 ·have hL1:(grpP LL0 opTys (paramsW dt)).length≤3:=by have:=grpP_len LL0 opTys (paramsW dt);omega
  generalize hLe1:grpP LL0 opTys (paramsW dt)=LL1 at hL1⊢;generalize hb1:(b0||!(dt.all (parB false)))=b1;try clear zz
  clear s1 s2 s4 s5 hI;rintro S H ⟨j,⟨s1,s2,s4,s5⟩,hI⟩;refine a_cut (fun S H=> ∃ j,WdS h xi [sPV dn,.imm 2 (pmRows dt),.imm 2 (pmRows dc),.imm 2 (prRows dp),.imm 4 (fuRows df),.imm 10 (acRows da),.imm 23 (duRows dd)] S∧WdI h (b1||!(dc.all (parB false))) xi j (grpP LL1 opCons (paramsW dc)) H) ?_ ?_
  ·obtain ⟨hg,⟨i1,i2,i3,i4,i5⟩,o1,ow,o2,o3⟩:=(show WdI _ _ _ _ _ _ from hI);have cP:=wparams_c (h:=H) (id:=h.next+1) (b:=b1) (vars:=false) hsm.consts hok.constants.2 (by omega) ow;have cG:=fun(hx:(H.set (h.next+1) (wO (b1||!(dc.all (parB false))))).obj xi=some (xO j LL1.length))(hj:(H.set (h.next+1) (wO (b1||!(dc.all (parB false))))).obj j=some (.arr 6 (Sx.rows LL1)))=>group_c (h:=(H.set (h.next+1) (wO (b1||!(dc.all (parB false)))))) (xi:=xi) (j:=j) (L:=LL1) (ks:=paramsW dc) (kw:=opCons) hx hj i5 i2 i4 (by omega) (by rw[paramsW_len];have:=hsm.consts;simp only at this;omega);have o1':(H.set (h.next+1) (wO (b1||!(dc.all (parB false))))).obj xi=some (xO j LL1.length):=(obj_set (by omega)).trans o2;have o2':(H.set (h.next+1) (wO (b1||!(dc.all (parB false))))).obj j=some (.arr 6 (Sx.rows LL1)):=(obj_set (by omega)).trans o3;have cG2:=cG o1' o2';have hgr: ∀ e,(paramsW dc).isEmpty=e→WdI h (b1||!(dc.all (parB false))) xi (if e=true then j else(H.set (h.next+1) (wO (b1||!(dc.all (parB false))))).next+18+1+1) (grpP LL1 opCons (paramsW dc)) (if e=true then(H.set (h.next+1) (wO (b1||!(dc.all (parB false)))))else grpH (H.set (h.next+1) (wO (b1||!(dc.all (parB false))))) xi j (LL1++[listM (wordM opCons::paramsW dc)])):=fun e he=>by
    unfold grpP;rw[he];cases e with
    |true=>exact hI.put
    |false=>exact hI.put.grp
   have hgr:=hgr _ rfl;generalize(if(paramsW dc).isEmpty=true then(H.set (h.next+1) (wO (b1||!(dc.all (parB false)))))else grpH (H.set (h.next+1) (wO (b1||!(dc.all (parB false))))) xi j (LL1++[listM (wordM opCons::paramsW dc)]))=H3 at cG2 hgr;simp only[opCons]at cG2;refine wt (uu3 s1 s4 s5) ?_;refine owp_useH (cP) (by(try simp only[Ty.w,simprocAttr,s1,s4,s5]);try rfl) ?_;simp(maxSteps:=2000000) only[Ty.w,simprocAttr,s1,s4,s5];refine wt (uu3 s1 s4 s5) ?_;refine owp_useH (cG2) (by(try simp only[Ty.w,simprocAttr,s1,s4,s5]);try rfl) ?_;simp(maxSteps:=2000000) only[Ty.w,simprocAttr,s1,s4,s5];refine wt (uu3 s1 s4 s5) ?_;exact⟨_,⟨by simp only[Ty.w,simprocAttr,s1],by simp only[Ty.w,simprocAttr,s2],by simp only[Ty.w,simprocAttr,s4],by simp only[Ty.w,simprocAttr,s5]⟩,hgr⟩
  ·have hL2:(grpP LL1 opCons (paramsW dc)).length≤4:=(by have:=grpP_len LL1 opCons (paramsW dc);omega);generalize hLe2:grpP LL1 opCons (paramsW dc)=LL2 at hL2⊢;generalize hb2:(b1||!(dc.all (parB false)))=b2;(try clear zz);clear s1 s2 s4 s5 hI;rintro S H ⟨j,⟨s1,s2,s4,s5⟩,hI⟩
   -- predicates
   have hpl:=prRows_len dp;have hxn:xi<H.next:=hI.ids.2.1
   have hjn:j<H.next:=hI.ids.2.2.2.1
   generalize hn0:H.next=n0 at hxn hjn
   have hnn:n0≤H.next:=by omega
   refine wt (uu s1 hpl) ?_;refine a_loop (fun m S H=> ∃ (k:Nat)(b':Bool),WdS h xi [sPV dn,.imm 2 (pmRows dt),.imm 2 (pmRows dc),.imm 2 (prRows dp),.imm 4 (fuRows df),.imm 10 (acRows da),.imm 23 (duRows dd)] S∧S 7= .sc (.slice none 0 0)∧S 40= .imm 2 (prRows dp)∧S 41= .sc (.int .i64 dp.length)∧S 42= .sc (.int .i64 k)∧k≤dp.length∧m=dp.length-k∧WdI h b' xi j LL2 H∧n0≤H.next∧Tl H n0 6 (S 6) (Sx.rows ((dp.take k).map prX))∧(b2||!(dp.all prB))=(b'||!((dp.drop k).all prB))) dp.length ?_ ?_
   ·simp only[Ty.w,simprocAttr];refine⟨0,b2,⟨by simp only[Ty.w,simprocAttr,s1],by simp only[Ty.w,simprocAttr,s2],by simp only[Ty.w,simprocAttr,s4],by simp only[Ty.w,simprocAttr,s5]⟩,rfl,Nat.zero_le _,rfl,hI,hnn,Tl.nil,rfl⟩
   ·(try clear zz);clear s1 s2 s4 s5 hI hnn hn0;rintro m S H ⟨k,b',⟨s1,s2,s4,s5⟩,s7,s40,s41,s42,hk,rfl,hI,hnn,tl,hinv⟩;by_cases hlt:k<dp.length
    ·have hd:decide ((k:Int)<(dp.length:Int))=true:=(by simp;omega);have w42:IntKind.i64.wrap ((k:Int)+1)=((k+1:Nat):Int):=(by rw[wrap64 (by have:=hsm.preds.1;simp only at this;omega) (by have:=hsm.preds.1;simp only at this;omega)];omega);obtain⟨a,hx⟩: ∃ a,dp[k]? =some a:=⟨_,List.getElem?_eq_getElem hlt⟩;have hga:=prRows_get hx;have hpp:=hsm.preds.2 a (List.mem_of_getElem? hx);have hpo:=hok.predicates.2 a (List.mem_of_getElem? hx);obtain⟨an,ap⟩:=a;simp only[prRow]at hga;replace zz:=uu7 s1 s4 s40 s41 s42 hd hga;refine xB 9 zz ?_;refine⟨?_⟩;refine a_tmp 9 rfl (by simp only[Ty.w,simprocAttr]) (fun n H=>by simp only[FrzL];exact⟨frzD_sc,frzD_imm (pms_in n _),trivial⟩) ?_;refine a_genX (fun S H=>WdS h xi [sPV dn,.imm 2 (pmRows dt),.imm 2 (pmRows dc),.imm 2 (prRows dp),.imm 4 (fuRows df),.imm 10 (acRows da),.imm 23 (duRows dd)] S∧S 7= .sc (.slice none 0 0)∧S 40= .imm 2 (prRows dp)∧S 41= .sc (.int .i64 dp.length)∧S 42= .sc (.int .i64 k)∧S 9= .cptr [sPV an,.imm 2 (pmRows ap)]∧WdI h b' xi j LL2 H∧n0≤H.next∧Tl H n0 6 (S 6) (Sx.rows ((dp.take k).map prX))∧ ∀ i,H.next≤i→H.obj i=none) ?_ ?_
     ·refine ⟨⟨by simp only[Ty.w,simprocAttr,s1],by simp only[Ty.w,simprocAttr,s2],by simp only[Ty.w,simprocAttr,s4],by simp only[Ty.w,simprocAttr,s5]⟩,by simp only[Ty.w,simprocAttr,s7],by simp only[Ty.w,simprocAttr,s40],by simp only[Ty.w,simprocAttr,s41],by simp only[Ty.w,simprocAttr,s42],by simp only[Ty.w,simprocAttr],hI.tmp _ _,by rw[tmpH_next];omega,?_,fun i hi=>?_⟩
      ·have:=tl.tmp (.arr 2 [[.sc (.string ⟨#[]⟩),.sc (.slice none 0 0)]]) (.arr 2 [[sPV an,.imm 2 (pmRows ap)]]);simpa only[Ty.w,simprocAttr]using this
      ·rw [tmpH_next]at hi;simp only[tmpH,below];rw[if_neg (by omega)]
     ·(try clear zz);clear s1 s2 s4 s5 s7 s40 s41 s42 hI hnn tl hga;rintro S H ⟨⟨s1,s2,s4,s5⟩,s7,s40,s41,s42,s9,hI,hnn,tl,hno⟩;refine a_draw7 [(5,5),(12,12)] [4,9,10,13] (by decide+kernel) (by decide+kernel) fun K hK=>?_;refine d7_quiet _ rfl (by decide) (by decide) rfl rfl (fun H=>by(try simp(maxSteps:=2000000) only[Ty.w,simprocAttr,Ty.all,s1,s4,s9]);first|rfl|exact⟨rfl,rfl⟩) ?_;refine d7_quiet _ rfl (by decide) (by decide) rfl rfl (fun H=>by(try simp(maxSteps:=2000000) only[Ty.w,simprocAttr,Ty.all,s1,s4,s9]);first|rfl|exact⟨rfl,rfl⟩) ?_;refine d7_quiet _ rfl (by decide) (by decide) rfl rfl (fun H=>by(try simp(maxSteps:=2000000) only[Ty.w,simprocAttr,Ty.all,s1,s4,s9]);first|rfl|exact⟨rfl,rfl⟩) ?_;refine d7_quiet _ rfl (by decide) (by decide) rfl rfl (fun H=>by(try simp(maxSteps:=2000000) only[Ty.w,simprocAttr,Ty.all,s1,s4,s9]);first|rfl|exact⟨rfl,rfl⟩) ?_;have hns:an.size≤9223372036854775807:=(by have:=hpo.name;unfold bigN at this;simp only at this;omega);obtain⟨hg,⟨i1,i2,i3,i4,i5⟩,o1,ow,o2,o3⟩:=(show WdI _ _ _ _ _ _ from hI);refine d7_genH (fun G=>G.next=H.next+15∧ ∀ i,G.obj i=H.obj i) ⟨rfl,fun _=>rfl⟩ ?_;rintro G0 ⟨g0n,g0⟩;have u5:H.obj (H.next+5)=none:=hno _ (by omega);have u12:H.obj (H.next+12)=none:=hno _ (by omega);have hk0:killL G0 ([5,12].map (H.next+·))=G0:=killL_noneW (by simp[g0,u5,u12]);have cN:=wname_c (h:=G0) (id:=h.next+1) (b:=b') hns (by omega) ((g0 _).trans ow);simp only[wordM,Sx.cells,Sx.rows]at cN;refine d7_br (H':=G0.set (h.next+1) (wO (b'||!nameB an))) (kl:=[5,12]) (la:=[5,12]) rfl (by decide) (by decide) rfl rfl (by decide+kernel) (by decide+kernel) (by rw[hk0];exact Does_use cN (by(try simp only[Ty.w,simprocAttr,s1,s4,s9]);try rfl)) ?_ ?_ ?_
      ·simp only[List.forall_mem_cons];exact⟨(obj_set (by omega)).trans ((g0 _).trans u5),(obj_set (by omega)).trans ((g0 _).trans u12),fun _ hx=>by cases hx⟩
      ·rw [putL_noneW (by simp[g0,u5,u12])];simp only[List.forall_mem_cons];exact⟨(obj_set (by omega)).trans ((g0 _).trans u5),(obj_set (by omega)).trans ((g0 _).trans u12),fun _ hx=>by cases hx⟩
      rw[putL_noneW (by simp[g0,u5,u12])];generalize hb1:(b'||!nameB an)=b1;refine d7_genH (fun G=>G.next=H.next+15∧G.obj (h.next+1)=some (wO b1)∧ ∀ i,i≠h.next+1→G.obj i=H.obj i) ⟨g0n,obj_at,fun i hi=>(obj_set hi).trans (g0 i)⟩ ?_;rintro G1 ⟨g1n,g1w,g1⟩;refine d7_new (v:= .own (H.next+5) 0 1) (ob:= .arr 6 [[.sc (.int .i64 1),.sc (.int .i64 0),.sc (.int .i64 0),.sc (.int .i64 0),sPV an,.imm 6 []]]) rfl (by decide) (by decide) rfl rfl rfl (by simp(maxSteps:=2000000) only[aop,Ty.w,simprocAttr,Ty.all,s1,s4,s9,Heap.new,if_true,List.isEmpty_cons]) ?_;refine d7_genH (fun G=>G.next=H.next+15∧G.obj (h.next+1)=some (wO b1)∧G.obj (H.next+5)=some (.arr 6 [[.sc (.int .i64 1),.sc (.int .i64 0),.sc (.int .i64 0),.sc (.int .i64 0),sPV an,.imm 6 []]])∧ ∀ i,i≠h.next+1→i≠H.next+5→G.obj i=H.obj i) ⟨g1n,(obj_set (by omega)).trans g1w,obj_at,fun i hi hi2=>(obj_set hi2).trans (g1 i hi)⟩ ?_;rintro G2 ⟨g2n,g2w,g25,g2⟩;refine d7_quiet _ rfl (by decide) (by decide) rfl rfl (fun H=>by(try simp(maxSteps:=2000000) only[Ty.w,simprocAttr,Ty.all,s1,s4,s9]);first|rfl|exact⟨rfl,rfl⟩) ?_;refine d7_quiet _ rfl (by decide) (by decide) rfl rfl (fun H=>by(try simp(maxSteps:=2000000) only[Ty.w,simprocAttr,Ty.all,s1,s4,s9]);first|rfl|exact⟨rfl,rfl⟩) ?_;refine d7_quiet _ rfl (by decide) (by decide) rfl rfl (fun H=>by(try simp(maxSteps:=2000000) only[Ty.w,simprocAttr,Ty.all,s1,s4,s9]);first|rfl|exact⟨rfl,rfl⟩) ?_;have hct: ∀ i,i≠H.next+5→i≠H.next+12→([5,12].map (H.next+·)).contains i=false:=fun i h1 h2=>by simp[h1,h2]
      have hc5:([5,12].map (H.next+·)).contains (H.next+5)=true:=(by simp);have hc12:([5,12].map (H.next+·)).contains (H.next+12)=true:=(by simp);have hkw:(killL G2 ([5,12].map (H.next+·))).obj (h.next+1)=some (wO b1):=by
       simp only[killL];rw[hct _ (by omega) (by omega)];exact g2w
      have cP:=wparams_c (h:=killL G2 ([5,12].map (H.next+·))) (id:=h.next+1) (b:=b1) (vars:=true) (l:=ap) hpp hpo.params.2 (by simp only[killL];omega) hkw;refine d7_br (H':=(killL G2 ([5,12].map (H.next+·))).set (h.next+1) (wO (b1||!(ap.all (parB true))))) (kl:=[5,12]) (la:=[12]) rfl (by decide) (by decide) rfl rfl (by decide+kernel) (by decide+kernel) (Does_use cP (by(try simp only[Ty.w,simprocAttr,s1,s4,s9]);try rfl)) ?_ ?_ ?_
      ·simp only[List.forall_mem_cons];refine⟨(obj_set (by omega)).trans ?_,(obj_set (by omega)).trans ?_,fun _ hx=>by cases hx⟩
       ·simp only[killL,hc5,if_true]
       ·simp only[killL,hc12,if_true]
      ·simp only[List.forall_mem_cons];refine⟨?_,fun _ hx=>by cases hx⟩;simp only[putL,killL,Heap.set];rw[if_neg (by rw[g2 _ (by omega) (by omega),u12];simp),if_neg (by omega),if_pos hc12]
      generalize hb2':(b1||!(ap.all (parB true)))=bb;refine d7_genH (fun G=>G.next=H.next+15∧G.obj (h.next+1)=some (wO bb)∧G.obj (H.next+5)=some (.arr 6 [[.sc (.int .i64 1),.sc (.int .i64 0),.sc (.int .i64 0),.sc (.int .i64 0),sPV an,.imm 6 []]])∧ ∀ i,i≠h.next+1→i≠H.next+5→G.obj i=H.obj i) ⟨g2n,?_,?_,fun i hi hi2=>?_⟩ ?_
      ·simp only[putL,killL,Heap.set];rw[if_neg (by rw[hct _ (by omega) (by omega)];simp),if_pos trivial]
      ·simp only[putL];rw[if_pos ⟨hc5,by rw[g25];try rfl⟩];exact g25
      ·simp only[putL,killL,Heap.set];by_cases h12:i=H.next+12
       ·subst h12;rw[if_neg (by rw[g2 _ (by omega) (by omega),u12];simp),if_neg hi,if_pos hc12,u12]
       ·rw [if_neg (by rw[hct _ hi2 h12];simp),if_neg hi,if_neg (by rw[hct _ hi2 h12];simp)];exact g2 i hi hi2
      rintro G3 ⟨g3n,g3w,g35,g3⟩;have hpw:(Sx.rows (paramsW ap)).length=(paramsW ap).length:=Sx.rows_len _;have hpb:(1+(paramsW ap).length)*72≤140737488355328:=(by rw[paramsW_len];simp only at hpp;omega);have hkn:(G3.kill (H.next+5)).next=H.next+15:=g3n
      have hk3:killL G3 ([12].map (H.next+·))=G3:=killL_noneW (by simp;rw[g3 _ (by omega) (by omega)];exact u12);have hp3: ∀ X:Heap,putL X G3 ([12].map (H.next+·))=X:=fun X=>putL_noneW (by simp;rw[g3 _ (by omega) (by omega)];exact u12);refine d7_br (v:= .own (H.next+15) 0 (1+(paramsW ap).length)) (H':=(G3.kill (H.next+5)).new (.arr 6 ([.sc (.int .i64 1),.sc (.int .i64 0),.sc (.int .i64 0),.sc (.int .i64 0),sPV an,.imm 6 []]::Sx.rows (paramsW ap)))) (kl:=[12]) (la:=[12]) rfl (by decide) (by decide) rfl rfl (by decide+kernel) (by decide+kernel) (by
       rw[hk3];simp(maxSteps:=4000000) only[Ty.w,simprocAttr,Ty.all,s1,s4,s9,g35,g3n,hpw,hpb,List.length_cons,List.length_nil,Nat.le_refl,Nat.add_zero]
       ) ?_ ?_ ?_
      ·simp only[List.forall_mem_cons];exact⟨(obj_new (show H.next+12<(G3.kill (H.next+5)).next from by show _<G3.next;omega)).trans ((obj_kill (by omega)).trans ((g3 _ (by omega) (by omega)).trans u12)),fun _ hx=>by cases hx⟩
      ·rw [hp3];simp only[List.forall_mem_cons];exact⟨(obj_new (show H.next+12<(G3.kill (H.next+5)).next from by show _<G3.next;omega)).trans ((obj_kill (by omega)).trans ((g3 _ (by omega) (by omega)).trans u12)),fun _ hx=>by cases hx⟩
      rw[hp3];refine d7_genH (fun G=>G.next=H.next+16∧G.obj (h.next+1)=some (wO bb)∧G.obj (H.next+15)=some (.arr 6 ([.sc (.int .i64 1),.sc (.int .i64 0),.sc (.int .i64 0),.sc (.int .i64 0),sPV an,.imm 6 []]::Sx.rows (paramsW ap)))∧ ∀ i,i≠h.next+1→i≠H.next+15→G.obj i=H.obj i) ⟨by show G3.next+1=_;omega,?_,?_,fun i hi hi2=>?_⟩ ?_
      ·exact (obj_newNe (by rw[hkn];omega)).trans ((obj_kill (by omega)).trans g3w)
      ·rw [← hkn];exact obj_newAt
      ·refine (obj_newNe (by rw[hkn];exact hi2)).trans ?_;by_cases h5:i=H.next+5
       ·subst h5;simp only[Heap.kill,if_true];exact u5.symm
       ·exact (obj_kill h5).trans (g3 i hi h5)
      rintro G4 ⟨g4n,g4w,g415,g4⟩;refine d7_quiet (.agg [.sc (.int .i64 3),.sc (.int .i64 0),.sc (.int .i64 0),.sc (.int .i64 0),.sc (.string ⟨#[]⟩),.own (H.next+15) 0 (1+(paramsW ap).length)]) rfl (by decide) (by decide) rfl rfl (fun H'=>Does_use (dlist_any H') (by(try simp only[Ty.w,simprocAttr,s1,s4,s9]);try rfl)) ?_;refine d7_new (v:= .own (H.next+12) 0 1) (ob:= .arr 6 [[.sc (.int .i64 3),.sc (.int .i64 0),.sc (.int .i64 0),.sc (.int .i64 0),.sc (.string ⟨#[]⟩),.own (H.next+15) 0 (1+(paramsW ap).length)]]) rfl (by decide) (by decide) rfl rfl rfl (by simp(maxSteps:=2000000) only[aop,Ty.w,simprocAttr,Ty.all,s1,s4,s9,Heap.new,if_true,List.isEmpty_cons]) ?_;have hkl:(Sx.rows ((dp.take k).map prX)).length=k:=(by rw[Sx.rows_len,List.length_map,List.length_take];omega);refine d7_genH (fun G=>G.next=H.next+16∧G.obj (h.next+1)=some (wO bb)∧G.obj (H.next+15)=some (.arr 6 ([.sc (.int .i64 1),.sc (.int .i64 0),.sc (.int .i64 0),.sc (.int .i64 0),sPV an,.imm 6 []]::Sx.rows (paramsW ap)))∧G.obj (H.next+12)=some (.arr 6 [[.sc (.int .i64 3),.sc (.int .i64 0),.sc (.int .i64 0),.sc (.int .i64 0),.sc (.string ⟨#[]⟩),.own (H.next+15) 0 (1+(paramsW ap).length)]])∧ ∀ i,i≠h.next+1→i≠H.next+15→i≠H.next+12→G.obj i=H.obj i) ⟨g4n,(obj_set (by omega)).trans g4w,(obj_set (by omega)).trans g415,obj_at,fun i hi hi2 hi3=>(obj_set hi3).trans (g4 i hi hi2)⟩ ?_;rintro G5 ⟨g5n,g5w,g515,g512,g5⟩;have tl5:Tl G5 n0 6 (S 6) (Sx.rows ((dp.take k).map prX)):=tl.up (by omega) fun j' hj' hj2=>g5 j' (by omega) (by omega) (by omega);obtain⟨Hk,t1,t2,t3,t4,t5⟩:=tl5.tail;have hkeep:=fun j' (hj':H.next≤j')=>isTail_keep tl t1 hj';have hkb:(k+1)*72≤140737488355328:=(by have:=hsm.preds.1;simp only at this;omega);have hk5: ∀ X:Heap,killL X (([]:List Nat).map (H.next+·))=X:=fun X=>killL_noneW (by simp);have hp5: ∀ X Y:Heap,putL X Y (([]:List Nat).map (H.next+·))=X:=fun X Y=>putL_noneW (by simp);refine d7_br (v:= .own (H.next+16) 0 (k+1)) (H':=Hk.new (.arr 6 (Sx.rows ((dp.take k).map prX)++[[.sc (.int .i64 3),.sc (.int .i64 0),.sc (.int .i64 0),.sc (.int .i64 0),.sc (.string ⟨#[]⟩),.own (H.next+15) 0 (1+(paramsW ap).length)]]))) (kl:=[]) (la:=[]) rfl (by decide) (by decide) rfl rfl (by decide+kernel) (by decide+kernel) (by
       rw[hk5];simp(maxSteps:=4000000) only[Ty.w,simprocAttr,Ty.all,s1,s4,s9,g512,g5n,hkl,hkb,t1,t2,List.length_cons,List.length_nil,Nat.le_refl,Nat.add_zero]
       ) (fun _ hx=>by cases hx) (fun _ hx=>by cases hx) ?_
      rw[hp5];refine d7_quiet _ rfl (by decide) (by decide) rfl rfl (fun H=>by(try simp(maxSteps:=2000000) only[Ty.w,simprocAttr,Ty.all,s1,s4,s9]);first|rfl|exact⟨rfl,rfl⟩) ?_;refine d7_end (hK _ _ ?_);have hkn5:Hk.next=H.next+16:=t3.trans g5n
      generalize hX9:H.next+15=X9 at*
      generalize hY9:H.next+16=Y9 at*
      have hrow:Sx.rows ((dp.take (k+1)).map prX)=Sx.rows ((dp.take k).map prX)++[[.sc (.int .i64 3),.sc (.int .i64 0),.sc (.int .i64 0),.sc (.int .i64 0),.sc (.string ⟨#[]⟩),.imm 6 ([.sc (.int .i64 1),.sc (.int .i64 0),.sc (.int .i64 0),.sc (.int .i64 0),sPV an,.imm 6 []]::Sx.rows (paramsW ap))]]:=by
       rw[List.take_add_one,hx];simp[Sx.rows_map,prX,listM,wordM,Sx.cells,Sx.rows,sPV]
      have hst:(b'||!((dp.drop k).all prB))=(bb||!((dp.drop (k+1)).all prB)):=by
       rw[drop_of_get hx,List.all_cons, ← hb2', ← hb1];unfold prB;simp only;cases b'<;>cases nameB an<;>cases ap.all (parB true)<;>simp
      refine a_genPost (fun S G=>WdS h xi [sPV dn,.imm 2 (pmRows dt),.imm 2 (pmRows dc),.imm 2 (prRows dp),.imm 4 (fuRows df),.imm 10 (acRows da),.imm 23 (duRows dd)] S∧S 7= .sc (.slice none 0 0)∧S 40= .imm 2 (prRows dp)∧S 41= .sc (.int .i64 dp.length)∧S 42= .sc (.int .i64 k)∧S 6= .own Y9 0 (k+1)∧WdI h bb xi j LL2 G∧G.next=Y9+1∧G.obj X9=some (.arr 6 ([.sc (.int .i64 1),.sc (.int .i64 0),.sc (.int .i64 0),.sc (.int .i64 0),sPV an,.imm 6 []]::Sx.rows (paramsW ap)))∧G.obj Y9=some (.arr 6 (Sx.rows ((dp.take k).map prX)++[[.sc (.int .i64 3),.sc (.int .i64 0),.sc (.int .i64 0),.sc (.int .i64 0),.sc (.string ⟨#[]⟩),.own X9 0 (1+(paramsW ap).length)]]))) ?_ ?_
      ·have hO: ∀ (o:AObj)(i:Nat),i<n0→i≠h.next+1→(Hk.new o).obj i=H.obj i:=fun o i hi hi2=>(obj_new (by omega)).trans ((t4 i hi).trans (g5 i hi2 (by omega) (by omega)))
       refine⟨⟨by simp only[Ty.w,simprocAttr,s1],by simp only[Ty.w,simprocAttr,s2],by simp only[Ty.w,simprocAttr,s4],by simp only[Ty.w,simprocAttr,s5]⟩,by simp only[Ty.w,simprocAttr,s7],by simp only[Ty.w,simprocAttr,s40],by simp only[Ty.w,simprocAttr,s41],by simp only[Ty.w,simprocAttr,s42],by simp only[Ty.w,simprocAttr],⟨⟨by show h.next≤Hk.next+1;have:=hg.le;omega,fun i hi=>(hO _ i (by omega) (by omega)).trans (hg.old i hi)⟩,⟨i1,by show xi<Hk.next+1;omega,i3,by show j<Hk.next+1;omega,i5⟩,(hO _ _ (by omega) (by omega)).trans o1,?_,(hO _ _ (by omega) (by omega)).trans o2,(hO _ _ (by omega) (by omega)).trans o3⟩,by show Hk.next+1=_;omega,?_,?_⟩
       ·exact (obj_new (by omega)).trans ((t4 _ (by omega)).trans g5w)
       ·exact (obj_newNe (by omega)).trans ((hkeep _ (by omega)).trans g515)
       ·rw [← hkn5];exact obj_newAt
      ·(try clear zz);clear s1 s2 s4 s5 s7 s40 s41 s42 s9 hI hg o1 ow o2 o3 tl tl5 t1 t2 t3 t4 t5;rintro S G ⟨⟨s1,s2,s4,s5⟩,s7,s40,s41,s42,s6,hI,gn,oX,oY⟩;simp only[pst0,simprocAttr];refine xB 10 s42 ?_;refine⟨?_⟩;refine a_give (Sx.rows ((dp.take (k+1)).map prX)) rfl oX oY (by omega) (by
        rw[hrow];refine GvR.snoc ?_ _;simp only[GvL,Gv];exact⟨.inl trivial,.inl trivial,.inl trivial,.inl trivial,.inl trivial,.inr ⟨by rw[List.length_cons,hpw,Nat.add_comm (paramsW ap).length 1],trivial⟩,trivial⟩) ?_
       obtain⟨hg,⟨i1,i2,i3,i4,i5⟩,o1,ow,o2,o3⟩:=hI;have hG: ∀ i,i<n0→(giveH G X9 Y9 6 (Sx.rows ((dp.take (k+1)).map prX))).obj i=G.obj i:=fun i hi=>(obj_set (by omega)).trans (obj_kill (by omega));refine a_genX (fun S G=>WdS h xi [sPV dn,.imm 2 (pmRows dt),.imm 2 (pmRows dc),.imm 2 (prRows dp),.imm 4 (fuRows df),.imm 10 (acRows da),.imm 23 (duRows dd)] S∧S 7= .sc (.slice none 0 0)∧S 40= .imm 2 (prRows dp)∧S 41= .sc (.int .i64 dp.length)∧S 42= .sc (.int .i64 k)∧S 6= .own Y9 0 (k+1)∧WdI h bb xi j LL2 G∧G.next=Y9+1∧G.obj Y9=some (.arr 6 (Sx.rows ((dp.take (k+1)).map prX)))) ⟨⟨s1,s2,s4,s5⟩,s7,s40,s41,s42,s6,⟨⟨by show h.next≤G.next;omega,fun i hi=>(hG i (by omega)).trans (hg.old i hi)⟩,⟨i1,i2,i3,i4,i5⟩,(hG _ (by omega)).trans o1,(hG _ (by omega)).trans ow,(hG _ (by omega)).trans o2,(hG _ (by omega)).trans o3⟩,gn,obj_at⟩ ?_;(try clear zz);clear s1 s2 s4 s5 s7 s40 s41 s42 s6 hg o1 ow o2 o3 gn oX oY hG;rintro S G ⟨⟨s1,s2,s4,s5⟩,s7,s40,s41,s42,s6,hI,gn,oY⟩;refine wt (uu s42 w42) ?_;refine⟨dp.length-(k+1),by omega,k+1,bb,⟨by simp only[Ty.w,simprocAttr,s1],by simp only[Ty.w,simprocAttr,s2],by simp only[Ty.w,simprocAttr,s4],by simp only[Ty.w,simprocAttr,s5]⟩,by simp only[Ty.w,simprocAttr,s7],by simp only[Ty.w,simprocAttr,s40],by simp only[Ty.w,simprocAttr,s41],by simp only[Ty.w,simprocAttr],by omega,rfl,hI,by omega,?_,hinv.trans hst⟩;have hl2:(Sx.rows ((dp.take (k+1)).map prX)).length=k+1:=(by rw[hrow,List.length_append,hkl];try rfl);simp only[Ty.w,simprocAttr,s6];exact .inr ⟨Y9,by omega,by omega,by rw[hl2],oY⟩
    ·have hd:decide ((k:Int)<(dp.length:Int))=false:=(by simp;omega);obtain rfl:k=dp.length:=(by omega);rw[List.take_length]at tl;rw[List.drop_length,List.all_nil,Bool.not_true,Bool.or_false]at hinv;refine xB 11 (uu3 s42 s41 hd) ?_;refine⟨?_⟩;refine a_drop n0 [(6,.imm 6 (Sx.rows (dp.map prX)))] rfl hnn ?_ ?_
     ·intro x hx;simp only[List.mem_cons,List.not_mem_nil,or_false]at hx;subst hx;exact tl.frzR (Nat.le_refl _) (sxs_frz _ _ _)
     rw[← hinv]at hI;(try clear zz);clear hinv;generalize hb3:(b2||!(dp.all prB))=b3 at hI⊢;have hI3:WdI h b3 xi j LL2 (below n0 H):=by
      obtain⟨hg,⟨i1,i2,i3,i4,i5⟩,o1,ow,o2,o3⟩:=hI;exact⟨⟨by show h.next≤H.next;omega,fun i hi=>(if_pos (by omega)).trans (hg.old i hi)⟩,⟨i1,by show xi<H.next;omega,i3,by show j<H.next;omega,i5⟩,(if_pos (by omega)).trans o1,(if_pos (by omega)).trans ow,(if_pos (by omega)).trans o2,(if_pos (by omega)).trans o3⟩
     refine a_genX (fun S H=>WdS h xi [sPV dn,.imm 2 (pmRows dt),.imm 2 (pmRows dc),.imm 2 (prRows dp),.imm 4 (fuRows df),.imm 10 (acRows da),.imm 23 (duRows dd)] S∧S 6= .imm 6 (Sx.rows (dp.map prX))∧S 7= .sc (.slice none 0 0)∧WdI h b3 xi j LL2 H∧n0≤H.next) ⟨⟨by simp only[frzS,Ty.w,simprocAttr,s1],by simp only[frzS,Ty.w,simprocAttr,s2],by simp only[frzS,Ty.w,simprocAttr,s4],by simp only[frzS,Ty.w,simprocAttr,s5]⟩,by simp only[frzS,Ty.w,simprocAttr],by simp only[frzS,Ty.w,simprocAttr,s7],hI3,hnn⟩ ?_;(try clear zz);clear s1 s2 s4 s5 s7 s40 s41 s42 hI hI3 tl hd hlt hnn hk hpl;rintro S H ⟨⟨s1,s2,s4,s5⟩,s6,s7,hI,hnn⟩
     -- functions
     have hfl:=fuRows_len df;refine wt (uu s1 hfl) ?_;refine a_loop (fun m S H=> ∃ (k:Nat)(b':Bool),WdS h xi [sPV dn,.imm 2 (pmRows dt),.imm 2 (pmRows dc),.imm 2 (prRows dp),.imm 4 (fuRows df),.imm 10 (acRows da),.imm 23 (duRows dd)] S∧S 6= .imm 6 (Sx.rows (dp.map prX))∧S 62= .imm 4 (fuRows df)∧S 63= .sc (.int .i64 df.length)∧S 64= .sc (.int .i64 k)∧k≤df.length∧m=df.length-k∧WdI h b' xi j LL2 H∧n0≤H.next∧Tl H n0 6 (S 7) (Sx.rows ((df.take k).map fuX))∧(b3||!(df.all fuB))=(b'||!((df.drop k).all fuB))) df.length ?_ ?_
     ·simp only[Ty.w,simprocAttr];refine⟨0,b3,⟨by simp only[Ty.w,simprocAttr,s1],by simp only[Ty.w,simprocAttr,s2],by simp only[Ty.w,simprocAttr,s4],by simp only[Ty.w,simprocAttr,s5]⟩,s6,rfl,Nat.zero_le _,rfl,hI,hnn,?_,rfl⟩;rw[s7];exact Tl.nil
     ·(try clear zz);clear s1 s2 s4 s5 s6 s7 hI hnn;rintro m S H ⟨k,b',⟨s1,s2,s4,s5⟩,s6,s62,s63,s64,hk,rfl,hI,hnn,tl,hinv⟩;by_cases hlt:k<df.length
      ·have hd:decide ((k:Int)<(df.length:Int))=true:=(by simp;omega);have w64:IntKind.i64.wrap ((k:Int)+1)=((k+1:Nat):Int):=(by rw[wrap64 (by have:=hsm.funs.1;simp only at this;omega) (by have:=hsm.funs.1;simp only at this;omega)];omega);obtain⟨a,hx⟩: ∃ a,df[k]? =some a:=⟨_,List.getElem?_eq_getElem hlt⟩;have hga:=fuRows_get hx;have hpp:=hsm.funs.2 a (List.mem_of_getElem? hx);have hpo:=hok.functions.2 a (List.mem_of_getElem? hx);have hkb: ∀ _:Unit,(k+1)*72≤140737488355328:=fun _=>(by have:=hsm.funs.1;simp only at this;omega);obtain⟨an,ap,alo,ahi⟩:=a;simp only[fuRow]at hga;replace zz:=uu7 s1 s4 s62 s63 s64 hd hga;refine xB 14 zz ?_;refine⟨?_⟩;refine a_tmp 11 rfl (by simp only[Ty.w,simprocAttr]) (fun n H=>by simp only[FrzL];exact⟨frzD_sc,frzD_imm (pms_in n _),frzD_sc,frzD_sc,trivial⟩) ?_;refine a_genX (fun S H=>WdS h xi [sPV dn,.imm 2 (pmRows dt),.imm 2 (pmRows dc),.imm 2 (prRows dp),.imm 4 (fuRows df),.imm 10 (acRows da),.imm 23 (duRows dd)] S∧S 6= .imm 6 (Sx.rows (dp.map prX))∧S 62= .imm 4 (fuRows df)∧S 63= .sc (.int .i64 df.length)∧S 64= .sc (.int .i64 k)∧S 11= .cptr [sPV an,.imm 2 (pmRows ap),.sc (.int .i64 alo),.sc (.int .i64 ahi)]∧WdI h b' xi j LL2 H∧n0≤H.next∧Tl H n0 6 (S 7) (Sx.rows ((df.take k).map fuX))∧ ∀ i,H.next≤i→H.obj i=none) ?_ ?_
       ·refine ⟨⟨by simp only[Ty.w,simprocAttr,s1],by simp only[Ty.w,simprocAttr,s2],by simp only[Ty.w,simprocAttr,s4],by simp only[Ty.w,simprocAttr,s5]⟩,by simp only[Ty.w,simprocAttr,s6],by simp only[Ty.w,simprocAttr,s62],by simp only[Ty.w,simprocAttr,s63],by simp only[Ty.w,simprocAttr,s64],by simp only[Ty.w,simprocAttr],hI.tmp _ _,by rw[tmpH_next];omega,?_,fun i hi=>?_⟩
        ·have:=tl.tmp (.arr 4 [[.sc (.string ⟨#[]⟩),.sc (.slice none 0 0),.sc (.int .i64 0),.sc (.int .i64 0)]]) (.arr 4 [[sPV an,.imm 2 (pmRows ap),.sc (.int .i64 alo),.sc (.int .i64 ahi)]]);simpa only[Ty.w,simprocAttr]using this
        ·rw [tmpH_next]at hi;simp only[tmpH,below];rw[if_neg (by omega)]
       ·(try clear zz);clear s1 s2 s4 s5 s6 s62 s63 s64 hI hnn tl hga;rintro S H ⟨⟨s1,s2,s4,s5⟩,s6,s62,s63,s64,s11,hI,hnn,tl,hno⟩
        -- the name and the parameters
        refine a_draw7 [(4,4)] [3,8,9] (by decide+kernel) (by decide+kernel) fun K2 hK2=>?_;refine d7_quiet _ rfl (by decide) (by decide) rfl rfl (fun H=>by(try simp(maxSteps:=2000000) only[Ty.w,simprocAttr,Ty.all,s1,s4,s11]);first|rfl|exact⟨rfl,rfl⟩) ?_;refine d7_quiet _ rfl (by decide) (by decide) rfl rfl (fun H=>by(try simp(maxSteps:=2000000) only[Ty.w,simprocAttr,Ty.all,s1,s4,s11]);first|rfl|exact⟨rfl,rfl⟩) ?_;refine d7_quiet _ rfl (by decide) (by decide) rfl rfl (fun H=>by(try simp(maxSteps:=2000000) only[Ty.w,simprocAttr,Ty.all,s1,s4,s11]);first|rfl|exact⟨rfl,rfl⟩) ?_;have hns:an.size≤9223372036854775807:=(by have:=hpo.name;unfold bigN at this;simp only at this;omega);obtain⟨hg,⟨i1,i2,i3,i4,i5⟩,o1,ow,o2,o3⟩:=(show WdI _ _ _ _ _ _ from hI);refine d7_genH (fun G=>G.next=H.next+11∧ ∀ i,G.obj i=H.obj i) ⟨rfl,fun _=>rfl⟩ ?_;rintro G0 ⟨g0n,g0⟩;have u4:H.obj (H.next+4)=none:=hno _ (by omega);have hk0:killL G0 ([4].map (H.next+·))=G0:=killL_noneW (by simp[g0,u4]);have cN:=wname_c (h:=G0) (id:=h.next+1) (b:=b') hns (by omega) ((g0 _).trans ow);simp only[wordM,Sx.cells,Sx.rows]at cN;refine d7_br (H':=G0.set (h.next+1) (wO (b'||!nameB an))) (kl:=[4]) (la:=[4]) rfl (by decide) (by decide) rfl rfl (by decide+kernel) (by decide+kernel) (by rw[hk0];exact Does_use cN (by(try simp only[Ty.w,simprocAttr,s1,s4,s11]);try rfl)) ?_ ?_ ?_
        ·simp only[List.forall_mem_cons];exact⟨(obj_set (by omega)).trans ((g0 _).trans u4),fun _ hx=>by cases hx⟩
        ·rw [putL_noneW (by simp[g0,u4])];simp only[List.forall_mem_cons];exact⟨(obj_set (by omega)).trans ((g0 _).trans u4),fun _ hx=>by cases hx⟩
        rw[putL_noneW (by simp[g0,u4])];generalize hb4:(b'||!nameB an)=b4;refine d7_genH (fun G=>G.next=H.next+11∧G.obj (h.next+1)=some (wO b4)∧ ∀ i,i≠h.next+1→G.obj i=H.obj i) ⟨g0n,obj_at,fun i hi=>(obj_set hi).trans (g0 i)⟩ ?_;rintro G1 ⟨g1n,g1w,g1⟩;refine d7_new (v:= .own (H.next+4) 0 1) (ob:= .arr 6 [[.sc (.int .i64 1),.sc (.int .i64 0),.sc (.int .i64 0),.sc (.int .i64 0),sPV an,.imm 6 []]]) rfl (by decide) (by decide) rfl rfl rfl (by simp(maxSteps:=2000000) only[aop,Ty.w,simprocAttr,Ty.all,s1,s4,s11,Heap.new,if_true,List.isEmpty_cons]) ?_;refine d7_genH (fun G=>G.next=H.next+11∧G.obj (h.next+1)=some (wO b4)∧G.obj (H.next+4)=some (.arr 6 [[.sc (.int .i64 1),.sc (.int .i64 0),.sc (.int .i64 0),.sc (.int .i64 0),sPV an,.imm 6 []]])∧ ∀ i,i≠h.next+1→i≠H.next+4→G.obj i=H.obj i) ⟨g1n,(obj_set (by omega)).trans g1w,obj_at,fun i hi hi2=>(obj_set hi2).trans (g1 i hi)⟩ ?_;rintro G2 ⟨g2n,g2w,g24,g2⟩;refine d7_quiet _ rfl (by decide) (by decide) rfl rfl (fun H=>by(try simp(maxSteps:=2000000) only[Ty.w,simprocAttr,Ty.all,s1,s4,s11]);first|rfl|exact⟨rfl,rfl⟩) ?_;refine d7_quiet _ rfl (by decide) (by decide) rfl rfl (fun H=>by(try simp(maxSteps:=2000000) only[Ty.w,simprocAttr,Ty.all,s1,s4,s11]);first|rfl|exact⟨rfl,rfl⟩) ?_;refine d7_quiet _ rfl (by decide) (by decide) rfl rfl (fun H=>by(try simp(maxSteps:=2000000) only[Ty.w,simprocAttr,Ty.all,s1,s4,s11]);first|rfl|exact⟨rfl,rfl⟩) ?_;have hc4:([4].map (H.next+·)).contains (H.next+4)=true:=(by simp);have hct: ∀ i,i≠H.next+4→([4].map (H.next+·)).contains i=false:=fun i h1=>by simp[h1]
        have hkw:(killL G2 ([4].map (H.next+·))).obj (h.next+1)=some (wO b4):=by
         simp only[killL];rw[hct _ (by omega)];exact g2w
        have cP:=wparams_c (h:=killL G2 ([4].map (H.next+·))) (id:=h.next+1) (b:=b4) (vars:=true) (l:=ap) hpp hpo.params.2 (by simp only[killL];omega) hkw;refine d7_br (H':=(killL G2 ([4].map (H.next+·))).set (h.next+1) (wO (b4||!(ap.all (parB true))))) (kl:=[4]) (la:=[]) rfl (by decide) (by decide) rfl rfl (by decide+kernel) (by decide+kernel) (Does_use cP (by(try simp only[Ty.w,simprocAttr,s1,s4,s11]);try rfl)) ?_ (fun _ hx=>by cases hx) ?_
        ·simp only[List.forall_mem_cons];refine⟨(obj_set (by omega)).trans ?_,fun _ hx=>by cases hx⟩;simp only[killL,hc4,if_true]
        generalize hb5:(b4||!(ap.all (parB true)))=bb;refine d7_genH (fun G=>G.next=H.next+11∧G.obj (h.next+1)=some (wO bb)∧G.obj (H.next+4)=some (.arr 6 [[.sc (.int .i64 1),.sc (.int .i64 0),.sc (.int .i64 0),.sc (.int .i64 0),sPV an,.imm 6 []]])∧ ∀ i,i≠h.next+1→i≠H.next+4→G.obj i=H.obj i) ⟨g2n,?_,?_,fun i hi hi2=>?_⟩ ?_
        ·simp only[putL,killL,Heap.set];rw[if_neg (by rw[hct _ (by omega)];simp),if_pos trivial]
        ·simp only[putL];rw[if_pos ⟨hc4,by rw[g24];try rfl⟩];exact g24
        ·simp only[putL,killL,Heap.set];rw[if_neg (by rw[hct _ hi2];simp),if_neg hi,if_neg (by rw[hct _ hi2];simp)];exact g2 i hi hi2
        rintro G3 ⟨g3n,g3w,g34,g3⟩;have hpw:(Sx.rows (paramsW ap)).length=(paramsW ap).length:=Sx.rows_len _;have hpb: ∀ _:Unit,(1+(paramsW ap).length)*72≤140737488355328:=fun _=>(by rw[paramsW_len];simp only at hpp;omega);have hkn:(G3.kill (H.next+4)).next=H.next+11:=g3n
        have hk3: ∀ X:Heap,killL X (([]:List Nat).map (H.next+·))=X:=fun X=>killL_noneW (by simp);have hp3: ∀ X Y:Heap,putL X Y (([]:List Nat).map (H.next+·))=X:=fun X Y=>putL_noneW (by simp);refine d7_br (v:= .own (H.next+11) 0 (1+(paramsW ap).length)) (H':=(G3.kill (H.next+4)).new (.arr 6 ([.sc (.int .i64 1),.sc (.int .i64 0),.sc (.int .i64 0),.sc (.int .i64 0),sPV an,.imm 6 []]::Sx.rows (paramsW ap)))) (kl:=[]) (la:=[]) rfl (by decide) (by decide) rfl rfl (by decide+kernel) (by decide+kernel) (by
         rw[hk3];simp(maxSteps:=4000000) only[Ty.w,simprocAttr,Ty.all,s1,s4,s11,g34,g3n,hpw,hpb (),List.length_cons,List.length_nil,Nat.le_refl,Nat.add_zero]
         ) (fun _ hx=>by cases hx) (fun _ hx=>by cases hx) ?_
        rw[hp3];refine d7_quiet _ rfl (by decide) (by decide) rfl rfl (fun H=>by(try simp(maxSteps:=2000000) only[Ty.w,simprocAttr,Ty.all,s1,s4,s11]);first|rfl|exact⟨rfl,rfl⟩) ?_;refine d7_end (hK2 _ _ ?_);(first|refine hK _ _ ?_|refine cK ?_);(try clear hK);(try clear zz);clear hK2;generalize hZ9:H.next+11=Z9 at*
        refine a_genX (fun S G=>WdS h xi [sPV dn,.imm 2 (pmRows dt),.imm 2 (pmRows dc),.imm 2 (prRows dp),.imm 4 (fuRows df),.imm 10 (acRows da),.imm 23 (duRows dd)] S∧S 6= .imm 6 (Sx.rows (dp.map prX))∧S 62= .imm 4 (fuRows df)∧S 63= .sc (.int .i64 df.length)∧S 64= .sc (.int .i64 k)∧S 11= .cptr [sPV an,.imm 2 (pmRows ap),.sc (.int .i64 alo),.sc (.int .i64 ahi)]∧S 12= .own Z9 0 (1+(paramsW ap).length)∧WdI h bb xi j LL2 G∧n0≤Z9∧G.next=Z9+1∧G.obj Z9=some (.arr 6 ([.sc (.int .i64 1),.sc (.int .i64 0),.sc (.int .i64 0),.sc (.int .i64 0),sPV an,.imm 6 []]::Sx.rows (paramsW ap)))∧Tl ⟨Z9,G.obj⟩ n0 6 (S 7) (Sx.rows ((df.take k).map fuX))∧ ∀ i,G.next≤i→G.obj i=none) ?_ ?_
        ·have hO: ∀ (o:AObj)(i:Nat),i≠h.next+1→i≠H.next+4→i≠Z9→((G3.kill (H.next+4)).new o).obj i=H.obj i:=fun o i h1 h2 h3=>(obj_newNe (by omega)).trans ((obj_kill h2).trans (g3 i h1 h2))
         refine⟨⟨by simp only[Ty.w,simprocAttr,s1],by simp only[Ty.w,simprocAttr,s2],by simp only[Ty.w,simprocAttr,s4],by simp only[Ty.w,simprocAttr,s5]⟩,by simp only[Ty.w,simprocAttr,s6],by simp only[Ty.w,simprocAttr,s62],by simp only[Ty.w,simprocAttr,s63],by simp only[Ty.w,simprocAttr,s64],by simp only[Ty.w,simprocAttr,s11],by simp only[Ty.w,simprocAttr],⟨⟨by show h.next≤G3.next+1;have:=hg.le;omega,fun i hi=>(hO _ i (by omega) (by omega) (by omega)).trans (hg.old i hi)⟩,⟨i1,by show xi<G3.next+1;omega,i3,by show j<G3.next+1;omega,i5⟩,(hO _ _ (by omega) (by omega) (by omega)).trans o1,?_,(hO _ _ (by omega) (by omega) (by omega)).trans o2,(hO _ _ (by omega) (by omega) (by omega)).trans o3⟩,by omega,by show G3.next+1=_;omega,?_,?_,fun i hi=>?_⟩
         ·exact (obj_newNe (by omega)).trans ((obj_kill (by omega)).trans g3w)
         ·rw [← hkn];exact obj_newAt
         ·have: ∀ X:Slots,X 7=S 7→Tl ⟨Z9,((G3.kill (H.next+4)).new (.arr 6 ([.sc (.int .i64 1),.sc (.int .i64 0),.sc (.int .i64 0),.sc (.int .i64 0),sPV an,.imm 6 []]::Sx.rows (paramsW ap)))).obj⟩ n0 6 (X 7) (Sx.rows ((df.take k).map fuX)):=fun X hX=>by
           rw[hX];exact tl.up (by show H.next≤Z9;omega) fun i hi hi2=>hO _ i (by omega) (by omega) (by omega)
          exact this _ (by simp only[Ty.w,simprocAttr])
         ·have hi2:Z9+1≤i:=by have:G3.next+1≤i:=hi;omega
          rw[hO _ i (by omega) (by omega) (by omega)];exact hno i (by omega)
        ·(try clear zz);clear s1 s2 s4 s5 s6 s62 s63 s64 s11 hI hg o1 ow o2 o3 tl hnn hno g0 g1 g2 g3 g0n g1n g2n g3n g1w g2w g3w g24 g34 u4 hk0 cN cP hkw hct hc4 hkn hk3 hp3 hZ9;rintro S H ⟨⟨s1,s2,s4,s5⟩,s6,s62,s63,s64,s11,s12,hI,hz,hn9,oZ,tl,hno⟩;refine a_draw7 [(11,11)] [9,12] (by decide+kernel) (by decide+kernel) fun K hK=>?_;have cD:=fun(n:Int)(H:Heap)=>digits_c (h:=H) (n:=n);simp only[numM,Sx.cells,Sx.rows]at cD;obtain⟨hg,⟨i1,i2,i3,i4,i5⟩,o1,ow,o2,o3⟩:=(show WdI _ _ _ _ _ _ from hI);have u11:H.obj (H.next+11)=none:=hno _ (by omega);refine d7_genH (fun G=>G.next=H.next+14∧ ∀ i,G.obj i=H.obj i) ⟨rfl,fun _=>rfl⟩ ?_;rintro G0 ⟨g0n,g0⟩;refine d7_quiet _ rfl (by decide) (by decide) rfl rfl (fun H=>by(try simp(maxSteps:=2000000) only[Ty.w,simprocAttr,Ty.all,s1,s4,s11,s12]);first|rfl|exact⟨rfl,rfl⟩) ?_;refine d7_quiet _ rfl (by decide) (by decide) rfl rfl (fun H=>by(try simp(maxSteps:=2000000) only[Ty.w,simprocAttr,Ty.all,s1,s4,s11,s12]);first|rfl|exact⟨rfl,rfl⟩) ?_;refine d7_quiet _ rfl (by decide) (by decide) rfl rfl (fun H=>by(try simp(maxSteps:=2000000) only[Ty.w,simprocAttr,Ty.all,s1,s4,s11,s12]);first|rfl|exact⟨rfl,rfl⟩) ?_;refine d7_quiet _ rfl (by decide) (by decide) rfl rfl (fun H=>by(try simp(maxSteps:=2000000) only[Ty.w,simprocAttr,Ty.all,s1,s4,s11,s12]);first|rfl|exact⟨rfl,rfl⟩) ?_;refine d7_quiet (.agg [.sc (.int .i64 2),.sc (.int .i64 alo),.sc (.int .i64 0),.sc (.int .i64 0),.sc (.string ⟨#[]⟩),.imm 6 []]) rfl (by decide) (by decide) rfl rfl (fun H'=>Does_use (cD alo H') (by(try simp only[Ty.w,simprocAttr,s1,s4,s11,s12]);try rfl)) ?_;refine d7_quiet _ rfl (by decide) (by decide) rfl rfl (fun H=>by(try simp(maxSteps:=2000000) only[Ty.w,simprocAttr,Ty.all,s1,s4,s11,s12]);first|rfl|exact⟨rfl,rfl⟩) ?_;refine d7_quiet _ rfl (by decide) (by decide) rfl rfl (fun H=>by(try simp(maxSteps:=2000000) only[Ty.w,simprocAttr,Ty.all,s1,s4,s11,s12]);first|rfl|exact⟨rfl,rfl⟩) ?_;refine d7_quiet (.agg [.sc (.int .i64 2),.sc (.int .i64 ahi),.sc (.int .i64 0),.sc (.int .i64 0),.sc (.string ⟨#[]⟩),.imm 6 []]) rfl (by decide) (by decide) rfl rfl (fun H'=>Does_use (cD ahi H') (by(try simp only[Ty.w,simprocAttr,s1,s4,s11,s12]);try rfl)) ?_;refine d7_quiet _ rfl (by decide) (by decide) rfl rfl (fun H=>by(try simp(maxSteps:=2000000) only[Ty.w,simprocAttr,Ty.all,s1,s4,s11,s12]);first|rfl|exact⟨rfl,rfl⟩) ?_;refine d7_genH (fun G=>G.next=H.next+14∧ ∀ i,G.obj i=H.obj i) ⟨g0n,g0⟩ ?_;rintro G1 ⟨g1n,g1⟩;have g1Z:G1.obj Z9=some (.arr 6 ([.sc (.int .i64 1),.sc (.int .i64 0),.sc (.int .i64 0),.sc (.int .i64 0),sPV an,.imm 6 []]::Sx.rows (paramsW ap))):=(g1 _).trans oZ;have hk1:killL G1 ([11].map (H.next+·))=G1:=killL_noneW (by simp;rw[g1 _];exact u11);have hp1: ∀ X:Heap,putL X G1 ([11].map (H.next+·))=X:=fun X=>putL_noneW (by simp;rw[g1 _];exact u11);have hpb2: ∀ _:Unit,(1+(paramsW ap).length+2)*72≤140737488355328:=fun _=>(by rw[paramsW_len];simp only at hpp;omega);have hpt:(Sx.rows (paramsW ap)).take (paramsW ap).length=Sx.rows (paramsW ap):=List.take_of_length_le (by omega);have hptl:([.sc (.int .i64 1),.sc (.int .i64 0),.sc (.int .i64 0),.sc (.int .i64 0),sPV an,.imm 6 []]::Sx.rows (paramsW ap)).length=1+(paramsW ap).length:=(by rw[List.length_cons,hpw];omega);have hpt2:List.take (1+(paramsW ap).length) ([.sc (.int .i64 1),.sc (.int .i64 0),.sc (.int .i64 0),.sc (.int .i64 0),sPV an,.imm 6 []]::Sx.rows (paramsW ap))=[.sc (.int .i64 1),.sc (.int .i64 0),.sc (.int .i64 0),.sc (.int .i64 0),sPV an,.imm 6 []]::Sx.rows (paramsW ap):=List.take_of_length_le (by rw[hptl];exact Nat.le_refl _)
         refine d7_br (v:= .own (H.next+14) 0 (1+(paramsW ap).length+2)) (H':=(G1.kill Z9).new (.arr 6 ([.sc (.int .i64 1),.sc (.int .i64 0),.sc (.int .i64 0),.sc (.int .i64 0),sPV an,.imm 6 []]::(Sx.rows (paramsW ap)++[[.sc (.int .i64 2),.sc (.int .i64 alo),.sc (.int .i64 0),.sc (.int .i64 0),.sc (.string ⟨#[]⟩),.imm 6 []],[.sc (.int .i64 2),.sc (.int .i64 ahi),.sc (.int .i64 0),.sc (.int .i64 0),.sc (.string ⟨#[]⟩),.imm 6 []]])))) (kl:=[11]) (la:=[11]) rfl (by decide) (by decide) rfl rfl (by decide+kernel) (by decide+kernel) (by
          rw[hk1];simp(maxSteps:=4000000) only[Ty.w,simprocAttr,Ty.all,s1,s4,s11,s12,g1Z,g1n,hptl,hpt,hpt2,hpw,hpb (),hpb2 (),List.cons_append,List.length_cons,List.length_nil,Nat.le_refl,Nat.add_zero]
          ) ?_ ?_ ?_
         ·simp only[List.forall_mem_cons];exact⟨(obj_new (show H.next+11<(G1.kill Z9).next from by show _<G1.next;omega)).trans ((obj_kill (by omega)).trans ((g1 _).trans u11)),fun _ hx=>by cases hx⟩
         ·rw [hp1];simp only[List.forall_mem_cons];exact⟨(obj_new (show H.next+11<(G1.kill Z9).next from by show _<G1.next;omega)).trans ((obj_kill (by omega)).trans ((g1 _).trans u11)),fun _ hx=>by cases hx⟩
         rw[hp1];have hkn1:(G1.kill Z9).next=H.next+14:=g1n
         refine d7_genH (fun G=>G.next=H.next+15∧G.obj (H.next+14)=some (.arr 6 ([.sc (.int .i64 1),.sc (.int .i64 0),.sc (.int .i64 0),.sc (.int .i64 0),sPV an,.imm 6 []]::(Sx.rows (paramsW ap)++[[.sc (.int .i64 2),.sc (.int .i64 alo),.sc (.int .i64 0),.sc (.int .i64 0),.sc (.string ⟨#[]⟩),.imm 6 []],[.sc (.int .i64 2),.sc (.int .i64 ahi),.sc (.int .i64 0),.sc (.int .i64 0),.sc (.string ⟨#[]⟩),.imm 6 []]])))∧ ∀ i,i≠H.next+14→i≠Z9→G.obj i=H.obj i) ⟨by show G1.next+1=_;omega,by rw[← hkn1];exact obj_newAt,fun i hi2 hi3=>(obj_newNe (by rw[hkn1];exact hi2)).trans ((obj_kill hi3).trans (g1 i))⟩ ?_;rintro G2 ⟨g2n,g214,g2⟩;refine d7_quiet (.agg [.sc (.int .i64 3),.sc (.int .i64 0),.sc (.int .i64 0),.sc (.int .i64 0),.sc (.string ⟨#[]⟩),.own (H.next+14) 0 (1+(paramsW ap).length+2)]) rfl (by decide) (by decide) rfl rfl (fun H'=>Does_use (dlist_any H') (by(try simp only[Ty.w,simprocAttr,s1,s4,s11,s12]);try rfl)) ?_;refine d7_new (v:= .own (H.next+11) 0 1) (ob:= .arr 6 [[.sc (.int .i64 3),.sc (.int .i64 0),.sc (.int .i64 0),.sc (.int .i64 0),.sc (.string ⟨#[]⟩),.own (H.next+14) 0 (1+(paramsW ap).length+2)]]) rfl (by decide) (by decide) rfl rfl rfl (by simp(maxSteps:=2000000) only[aop,Ty.w,simprocAttr,Ty.all,s1,s4,s11,s12,Heap.new,if_true,List.isEmpty_cons]) ?_;have hkl:(Sx.rows ((df.take k).map fuX)).length=k:=(by rw[Sx.rows_len,List.length_map,List.length_take];omega);refine d7_genH (fun G=>G.next=H.next+15∧G.obj (H.next+14)=some (.arr 6 ([.sc (.int .i64 1),.sc (.int .i64 0),.sc (.int .i64 0),.sc (.int .i64 0),sPV an,.imm 6 []]::(Sx.rows (paramsW ap)++[[.sc (.int .i64 2),.sc (.int .i64 alo),.sc (.int .i64 0),.sc (.int .i64 0),.sc (.string ⟨#[]⟩),.imm 6 []],[.sc (.int .i64 2),.sc (.int .i64 ahi),.sc (.int .i64 0),.sc (.int .i64 0),.sc (.string ⟨#[]⟩),.imm 6 []]])))∧G.obj (H.next+11)=some (.arr 6 [[.sc (.int .i64 3),.sc (.int .i64 0),.sc (.int .i64 0),.sc (.int .i64 0),.sc (.string ⟨#[]⟩),.own (H.next+14) 0 (1+(paramsW ap).length+2)]])∧ ∀ i,i≠H.next+14→i≠Z9→i≠H.next+11→G.obj i=H.obj i) ⟨g2n,(obj_set (by omega)).trans g214,obj_at,fun i h2 h3 h4=>(obj_set h4).trans (g2 i h2 h3)⟩ ?_;rintro G5 ⟨g5n,g514,g511,g5⟩;have tl5:Tl G5 n0 6 (S 7) (Sx.rows ((df.take k).map fuX)):=tl.up (by show Z9≤G5.next;omega) fun j' hj' hj2=>g5 j' (by have:j'<Z9:=hj2;omega)(by have:j'<Z9:=hj2;omega)(by have:j'<Z9:=hj2;omega);obtain⟨Hk,t1,t2,t3,t4,t5⟩:=tl5.tail;have hkeep: ∀ j',Z9≤j'→Hk.obj j'=G5.obj j':=fun j' hj'=>isTail_keep tl t1 hj';have hk5: ∀ X:Heap,killL X (([]:List Nat).map (H.next+·))=X:=fun X=>killL_noneW (by simp);have hp5: ∀ X Y:Heap,putL X Y (([]:List Nat).map (H.next+·))=X:=fun X Y=>putL_noneW (by simp);refine d7_br (v:= .own (H.next+15) 0 (k+1)) (H':=Hk.new (.arr 6 (Sx.rows ((df.take k).map fuX)++[[.sc (.int .i64 3),.sc (.int .i64 0),.sc (.int .i64 0),.sc (.int .i64 0),.sc (.string ⟨#[]⟩),.own (H.next+14) 0 (1+(paramsW ap).length+2)]]))) (kl:=[]) (la:=[]) rfl (by decide) (by decide) rfl rfl (by decide+kernel) (by decide+kernel) (by
          rw[hk5];simp(maxSteps:=4000000) only[Ty.w,simprocAttr,Ty.all,s1,s4,s11,s12,g511,g5n,hkl,hkb (),t1,t2,List.length_cons,List.length_nil,Nat.le_refl,Nat.add_zero]
          ) (fun _ hx=>by cases hx) (fun _ hx=>by cases hx) ?_
         rw[hp5];refine d7_quiet _ rfl (by decide) (by decide) rfl rfl (fun H=>by(try simp(maxSteps:=2000000) only[Ty.w,simprocAttr,Ty.all,s1,s4,s11,s12]);first|rfl|exact⟨rfl,rfl⟩) ?_;refine d7_end (hK _ _ ?_);have hkn5:Hk.next=H.next+15:=t3.trans g5n
         generalize hX9:H.next+14=X9 at*
         generalize hY9:H.next+15=Y9 at*
         have hrow:Sx.rows ((df.take (k+1)).map fuX)=Sx.rows ((df.take k).map fuX)++[[.sc (.int .i64 3),.sc (.int .i64 0),.sc (.int .i64 0),.sc (.int .i64 0),.sc (.string ⟨#[]⟩),.imm 6 ([.sc (.int .i64 1),.sc (.int .i64 0),.sc (.int .i64 0),.sc (.int .i64 0),sPV an,.imm 6 []]::(Sx.rows (paramsW ap)++[[.sc (.int .i64 2),.sc (.int .i64 alo),.sc (.int .i64 0),.sc (.int .i64 0),.sc (.string ⟨#[]⟩),.imm 6 []],[.sc (.int .i64 2),.sc (.int .i64 ahi),.sc (.int .i64 0),.sc (.int .i64 0),.sc (.string ⟨#[]⟩),.imm 6 []]]))]]:=by
          rw[List.take_add_one,hx];simp[Sx.rows_map,fuX,listM,wordM,numM,Sx.cells,Sx.rows,sPV]
         have hst:(b'||!((df.drop k).all fuB))=(bb||!((df.drop (k+1)).all fuB)):=by
          rw[drop_of_get hx,List.all_cons, ← hb5, ← hb4];unfold fuB;simp only;cases b'<;>cases nameB an<;>cases ap.all (parB true)<;>simp
         refine a_genPost (fun S G=>WdS h xi [sPV dn,.imm 2 (pmRows dt),.imm 2 (pmRows dc),.imm 2 (prRows dp),.imm 4 (fuRows df),.imm 10 (acRows da),.imm 23 (duRows dd)] S∧S 6= .imm 6 (Sx.rows (dp.map prX))∧S 62= .imm 4 (fuRows df)∧S 63= .sc (.int .i64 df.length)∧S 64= .sc (.int .i64 k)∧S 7= .own Y9 0 (k+1)∧WdI h bb xi j LL2 G∧G.next=Y9+1∧G.obj X9=some (.arr 6 ([.sc (.int .i64 1),.sc (.int .i64 0),.sc (.int .i64 0),.sc (.int .i64 0),sPV an,.imm 6 []]::(Sx.rows (paramsW ap)++[[.sc (.int .i64 2),.sc (.int .i64 alo),.sc (.int .i64 0),.sc (.int .i64 0),.sc (.string ⟨#[]⟩),.imm 6 []],[.sc (.int .i64 2),.sc (.int .i64 ahi),.sc (.int .i64 0),.sc (.int .i64 0),.sc (.string ⟨#[]⟩),.imm 6 []]])))∧G.obj Y9=some (.arr 6 (Sx.rows ((df.take k).map fuX)++[[.sc (.int .i64 3),.sc (.int .i64 0),.sc (.int .i64 0),.sc (.int .i64 0),.sc (.string ⟨#[]⟩),.own X9 0 (1+(paramsW ap).length+2)]]))) ?_ ?_
         ·have hO: ∀ (o:AObj)(i:Nat),i<n0→(Hk.new o).obj i=H.obj i:=fun o i hi=>(obj_new (by omega)).trans ((t4 i hi).trans (g5 i (by omega) (by omega) (by omega)));refine⟨⟨by simp only[Ty.w,simprocAttr,s1],by simp only[Ty.w,simprocAttr,s2],by simp only[Ty.w,simprocAttr,s4],by simp only[Ty.w,simprocAttr,s5]⟩,by simp only[Ty.w,simprocAttr,s6],by simp only[Ty.w,simprocAttr,s62],by simp only[Ty.w,simprocAttr,s63],by simp only[Ty.w,simprocAttr,s64],by simp only[Ty.w,simprocAttr],⟨⟨by show h.next≤Hk.next+1;have:=hg.le;omega,fun i hi=>(hO _ i (by omega)).trans (hg.old i hi)⟩,⟨i1,by show xi<Hk.next+1;omega,i3,by show j<Hk.next+1;omega,i5⟩,(hO _ _ (by omega)).trans o1,(hO _ _ (by omega)).trans ow,(hO _ _ (by omega)).trans o2,(hO _ _ (by omega)).trans o3⟩,by show Hk.next+1=_;omega,?_,?_⟩
          ·exact (obj_newNe (by omega)).trans ((hkeep _ (by omega)).trans g514)
          ·rw [← hkn5];exact obj_newAt
         ·(try clear zz);clear s1 s2 s4 s5 s6 s62 s63 s64 s11 s12 hI hg o1 ow o2 o3 tl tl5 t1 t2 t3 t4 t5 hno oZ;rintro S G ⟨⟨s1,s2,s4,s5⟩,s6,s62,s63,s64,s7,hI,gn,oX,oY⟩;simp only[pst0,simprocAttr];refine xB 16 s64 ?_;refine⟨?_⟩;refine a_give (Sx.rows ((df.take (k+1)).map fuX)) rfl oX oY (by omega) (by
           rw[hrow];refine GvR.snoc ?_ _;simp only[GvL,Gv];exact⟨.inl trivial,.inl trivial,.inl trivial,.inl trivial,.inl trivial,.inr ⟨by rw[List.length_cons,List.length_append,hpw];congr 1;simp only[List.length_cons,List.length_nil];omega,trivial⟩,trivial⟩) ?_
          obtain⟨hg,⟨i1,i2,i3,i4,i5⟩,o1,ow,o2,o3⟩:=hI;have hG: ∀ i,i<n0→(giveH G X9 Y9 6 (Sx.rows ((df.take (k+1)).map fuX))).obj i=G.obj i:=fun i hi=>(obj_set (by omega)).trans (obj_kill (by omega));refine a_genX (fun S G=>WdS h xi [sPV dn,.imm 2 (pmRows dt),.imm 2 (pmRows dc),.imm 2 (prRows dp),.imm 4 (fuRows df),.imm 10 (acRows da),.imm 23 (duRows dd)] S∧S 6= .imm 6 (Sx.rows (dp.map prX))∧S 62= .imm 4 (fuRows df)∧S 63= .sc (.int .i64 df.length)∧S 64= .sc (.int .i64 k)∧S 7= .own Y9 0 (k+1)∧WdI h bb xi j LL2 G∧G.next=Y9+1∧G.obj Y9=some (.arr 6 (Sx.rows ((df.take (k+1)).map fuX)))) ⟨⟨s1,s2,s4,s5⟩,s6,s62,s63,s64,s7,⟨⟨by show h.next≤G.next;omega,fun i hi=>(hG i (by omega)).trans (hg.old i hi)⟩,⟨i1,i2,i3,i4,i5⟩,(hG _ (by omega)).trans o1,(hG _ (by omega)).trans ow,(hG _ (by omega)).trans o2,(hG _ (by omega)).trans o3⟩,gn,obj_at⟩ ?_;(try clear zz);clear s1 s2 s4 s5 s6 s62 s63 s64 s7 hg o1 ow o2 o3 gn oX oY hG;rintro S G ⟨⟨s1,s2,s4,s5⟩,s6,s62,s63,s64,s7,hI,gn,oY⟩;refine wt (uu s64 w64) ?_;refine⟨df.length-(k+1),by omega,k+1,bb,⟨by simp only[Ty.w,simprocAttr,s1],by simp only[Ty.w,simprocAttr,s2],by simp only[Ty.w,simprocAttr,s4],by simp only[Ty.w,simprocAttr,s5]⟩,by simp only[Ty.w,simprocAttr,s6],by simp only[Ty.w,simprocAttr,s62],by simp only[Ty.w,simprocAttr,s63],by simp only[Ty.w,simprocAttr],by omega,rfl,hI,by omega,?_,hinv.trans hst⟩;have hl2:(Sx.rows ((df.take (k+1)).map fuX)).length=k+1:=(by rw[hrow,List.length_append,hkl];try rfl);simp only[Ty.w,simprocAttr,s7];exact .inr ⟨Y9,by omega,by omega,by rw[hl2],oY⟩
      ·have hd:decide ((k:Int)<(df.length:Int))=false:=(by simp;omega);obtain rfl:k=df.length:=(by omega);rw[List.take_length]at tl;rw[List.drop_length,List.all_nil,Bool.not_true,Bool.or_false]at hinv;replace zz:=uu4 s62 s63 s64 hd;refine xG 17 zz ?_;refine⟨?_⟩;refine a_drop n0 [(7,.imm 6 (Sx.rows (df.map fuX)))] rfl hnn ?_ ?_
       ·intro x hx;simp only[List.mem_cons,List.not_mem_nil,or_false]at hx;subst hx;exact tl.frzR (Nat.le_refl _) (sxs_frz _ _ _)
       rw[← hinv]at hI;(try clear zz);clear hinv;generalize hb4:(b3||!(df.all fuB))=b4 at hI;have hI3:WdI h b4 xi j LL2 (below n0 H):=by
        obtain⟨hg,⟨i1,i2,i3,i4,i5⟩,o1,ow,o2,o3⟩:=hI;exact⟨⟨by show h.next≤H.next;omega,fun i hi=>(if_pos (by omega)).trans (hg.old i hi)⟩,⟨i1,by show xi<H.next;omega,i3,by show j<H.next;omega,i5⟩,(if_pos (by omega)).trans o1,(if_pos (by omega)).trans ow,(if_pos (by omega)).trans o2,(if_pos (by omega)).trans o3⟩
       refine a_genX (fun S H=>WdS h xi [sPV dn,.imm 2 (pmRows dt),.imm 2 (pmRows dc),.imm 2 (prRows dp),.imm 4 (fuRows df),.imm 10 (acRows da),.imm 23 (duRows dd)] S∧S 6= .imm 6 (Sx.rows (dp.map prX))∧S 7= .imm 6 (Sx.rows (df.map fuX))∧WdI h b4 xi j LL2 H) ⟨⟨by simp only[frzS,Ty.w,simprocAttr,s1],by simp only[frzS,Ty.w,simprocAttr,s2],by simp only[frzS,Ty.w,simprocAttr,s4],by simp only[frzS,Ty.w,simprocAttr,s5]⟩,by simp only[frzS,Ty.w,simprocAttr,s6],by simp only[frzS,Ty.w,simprocAttr],hI3⟩ ?_;(try clear zz);clear s1 s2 s4 s5 s6 s62 s63 s64 hI hI3 tl hd hlt hnn hk hxn hjn hfl;rintro S H ⟨⟨s1,s2,s4,s5⟩,s6,s7,hI⟩;refine a_cut (fun S H=> ∃ j,WdS h xi [sPV dn,.imm 2 (pmRows dt),.imm 2 (pmRows dc),.imm 2 (prRows dp),.imm 4 (fuRows df),.imm 10 (acRows da),.imm 23 (duRows dd)] S∧S 7= .imm 6 (Sx.rows (df.map fuX))∧WdI h b4 xi j (grpP LL2 opPreds (dp.map prX)) H) ?_ ?_
       ·obtain ⟨hg,⟨i1,i2,i3,i4,i5⟩,o1,ow,o2,o3⟩:=(show WdI _ _ _ _ _ _ from hI);have cG:=group_c (h:=H) (xi:=xi) (j:=j) (L:=LL2) (ks:=dp.map prX) (kw:=opPreds) o2 o3 i5 i2 i4 (by omega) (by rw[List.length_map];have:=hsm.preds.1;simp only at this;omega);have hgr: ∀ e,(dp.map prX).isEmpty=e→WdI h b4 xi (if e=true then j else H.next+18+1+1) (grpP LL2 opPreds (dp.map prX)) (if e=true then H else grpH H xi j (LL2++[listM (wordM opPreds::dp.map prX)])):=fun e he=>by
         unfold grpP;rw[he];cases e with
         |true=>exact hI
         |false=>exact hI.grp
        have hgr:=hgr _ rfl;generalize(if(dp.map prX).isEmpty=true then H else grpH H xi j (LL2++[listM (wordM opPreds::dp.map prX)]))=H3 at cG hgr;simp only[opPreds]at cG;refine wt (uu s5 s6) ?_;refine owp_useH (cG) (by(try simp only[Ty.w,simprocAttr,s5,s6]);try rfl) ?_;simp(maxSteps:=2000000) only[Ty.w,simprocAttr,s5,s6];refine wt (uu s5 s6) ?_;exact⟨_,⟨by simp only[Ty.w,simprocAttr,s1],by simp only[Ty.w,simprocAttr,s2],by simp only[Ty.w,simprocAttr,s4],by simp only[Ty.w,simprocAttr,s5]⟩,by simp only[Ty.w,simprocAttr,s7],hgr⟩
       ·have hL3:(grpP LL2 opPreds (dp.map prX)).length≤5:=(by have:=grpP_len LL2 opPreds (dp.map prX);omega);generalize hLe3:grpP LL2 opPreds (dp.map prX)=LL3 at hL3⊢;(try clear zz);clear s1 s2 s4 s5 s6 s7 hI;rintro S H ⟨j,⟨s1,s2,s4,s5⟩,s7,hI⟩;refine a_cut (fun S H=> ∃ j,WdS h xi [sPV dn,.imm 2 (pmRows dt),.imm 2 (pmRows dc),.imm 2 (prRows dp),.imm 4 (fuRows df),.imm 10 (acRows da),.imm 23 (duRows dd)] S∧WdI h b4 xi j (grpP LL3 opFuns (df.map fuX)) H) ?_ ?_
        ·obtain ⟨hg,⟨i1,i2,i3,i4,i5⟩,o1,ow,o2,o3⟩:=(show WdI _ _ _ _ _ _ from hI);have cG:=group_c (h:=H) (xi:=xi) (j:=j) (L:=LL3) (ks:=df.map fuX) (kw:=opFuns) o2 o3 i5 i2 i4 (by omega) (by rw[List.length_map];have:=hsm.funs.1;simp only at this;omega);have hgr: ∀ e,(df.map fuX).isEmpty=e→WdI h b4 xi (if e=true then j else H.next+18+1+1) (grpP LL3 opFuns (df.map fuX)) (if e=true then H else grpH H xi j (LL3++[listM (wordM opFuns::df.map fuX)])):=fun e he=>by
          unfold grpP;rw[he];cases e with
          |true=>exact hI
          |false=>exact hI.grp
         have hgr:=hgr _ rfl;generalize(if(df.map fuX).isEmpty=true then H else grpH H xi j (LL3++[listM (wordM opFuns::df.map fuX)]))=H3 at cG hgr;simp only[opFuns]at cG;refine wt (uu s5 s7) ?_;refine owp_useH (cG) (by(try simp only[Ty.w,simprocAttr,s5,s7]);try rfl) ?_;simp(maxSteps:=2000000) only[Ty.w,simprocAttr,s5,s7];refine wt (uu s5 s7) ?_;exact⟨_,⟨by simp only[Ty.w,simprocAttr,s1],by simp only[Ty.w,simprocAttr,s2],by simp only[Ty.w,simprocAttr,s4],by simp only[Ty.w,simprocAttr,s5]⟩,hgr⟩
        ·have hL4:(grpP LL3 opFuns (df.map fuX)).length≤6:=(by have:=grpP_len LL3 opFuns (df.map fuX);omega);generalize hLe4:grpP LL3 opFuns (df.map fuX)=LL4 at hL4⊢;(try clear zz);clear s1 s2 s4 s5 s7 hI;rintro S H ⟨j,⟨s1,s2,s4,s5⟩,hI⟩;have hal:=acRows_len da;refine wt (uu s1 hal) ?_;refine a_loop (fun m S H=> ∃ (k:Nat)(b':Bool)(j:Nat),WdS h xi [sPV dn,.imm 2 (pmRows dt),.imm 2 (pmRows dc),.imm 2 (prRows dp),.imm 4 (fuRows df),.imm 10 (acRows da),.imm 23 (duRows dd)] S∧S 97= .imm 10 (acRows da)∧S 98= .sc (.int .i64 da.length)∧S 99= .sc (.int .i64 k)∧k≤da.length∧m=da.length-k∧WdI h b' xi j (LL4++(da.take k).map acX) H∧(b4||!(da.all acB))=(b'||!((da.drop k).all acB))) da.length ?_ ?_
         ·simp only[Ty.w,simprocAttr];refine⟨0,b4,j,⟨by simp only[Ty.w,simprocAttr,s1],by simp only[Ty.w,simprocAttr,s2],by simp only[Ty.w,simprocAttr,s4],by simp only[Ty.w,simprocAttr,s5]⟩,rfl,Nat.zero_le _,rfl,?_,rfl⟩;rw[List.take_zero,List.map_nil,List.append_nil];exact hI
         ·(try clear zz);clear s1 s2 s4 s5 hI;rintro m S H ⟨k,b',j,⟨s1,s2,s4,s5⟩,sA,sB,sC,hk,rfl,hI,hinv⟩;by_cases hlt:k<da.length
          ·have hd:decide ((k:Int)<(da.length:Int))=true:=(by simp;omega);have wC:IntKind.i64.wrap ((k:Int)+1)=((k+1:Nat):Int):=(by rw[wrap64 (by have:=hsm.acts.1;simp only at this;omega) (by have:=hsm.acts.1;simp only at this;omega)];omega);obtain⟨a,hx⟩: ∃ a,da[k]? =some a:=⟨_,List.getElem?_eq_getElem hlt⟩;have hga:=acRows_get hx;have hsa:=hsm.acts.2 a (List.mem_of_getElem? hx);have hoa:=hok.actions.2 a (List.mem_of_getElem? hx);have hLl:(LL4++(da.take k).map acX).length≤2097160:=by
            rw[List.length_append,List.length_map,List.length_take];have:=hsm.acts.1;simp only at this;omega
           have hta:LL4++(da.take (k+1)).map acX=(LL4++(da.take k).map acX)++[acX a]:=by
            rw[List.take_add_one,hx,List.append_assoc];simp
           rw[drop_of_get hx,List.all_cons]at hinv;generalize LL4++(da.take k).map acX=LA at hLl hta hI;have hcA:=fun(G:Heap)(h1:h.next+1<G.next)(h2:G.obj (h.next+1)=some (wO b'))=>waction_c (h:=G) (id:=h.next+1) (b:=b') hoa hsa h1 h2;generalize acX a=X at hta hcA;generalize acB a=B at hinv hcA;obtain⟨an,ap,ac,⟨gop,gna,gar,gpa,gex,gki⟩,ach⟩:=a;simp only[acRow,Fm.cells,List.cons_append,List.nil_append]at hga hcA;replace zz:=uu7 s1 s4 sA sB sC hd hga;refine xB 22 zz ?_;refine⟨?_⟩;refine a_tmp 14 rfl (by simp only[Ty.w,simprocAttr]) (fun n H=>by simp only[FrzL];exact⟨frzD_sc,frzD_imm (pms_in n _),frzD_sc,frzD_sc,frzD_sc,frzD_imm (strs_in n _),frzD_imm (pms_in n _),frzD_imm (exs_in n _),frzD_imm (fms_in n _),frzD_imm (chsW_in n _),trivial⟩) ?_;refine a_genX (fun S H=>WdS h xi [sPV dn,.imm 2 (pmRows dt),.imm 2 (pmRows dc),.imm 2 (prRows dp),.imm 4 (fuRows df),.imm 10 (acRows da),.imm 23 (duRows dd)] S∧S 97= .imm 10 (acRows da)∧S 98= .sc (.int .i64 da.length)∧S 99= .sc (.int .i64 k)∧S 14= .cptr [sPV an,.imm 2 (pmRows ap),.sc (.int .i64 ac),sPV gop,sPV gna,.imm 1 (strRows gar),.imm 2 (pmRows gpa),.imm 5 (Ex.rows gex),.imm 6 (Fm.rows gki),.imm 15 (chRows ach)]∧WdI h b' xi j LA H) ⟨⟨by simp only[Ty.w,simprocAttr,s1],by simp only[Ty.w,simprocAttr,s2],by simp only[Ty.w,simprocAttr,s4],by simp only[Ty.w,simprocAttr,s5]⟩,by simp only[Ty.w,simprocAttr,sA],by simp only[Ty.w,simprocAttr,sB],by simp only[Ty.w,simprocAttr,sC],by simp only[Ty.w,simprocAttr],hI.tmp _ _⟩ ?_;(try clear zz);clear s1 s2 s4 s5 sA sB sC hI hga;rintro S H ⟨⟨s1,s2,s4,s5⟩,sA,sB,sC,sT,hI⟩;obtain⟨hg,⟨i1,i2,i3,i4,i5⟩,o1,ow,o2,o3⟩:=(show WdI _ _ _ _ _ _ from hI);have cA:=hcA ⟨H.next+12,H.obj⟩ (by show _<H.next+12;omega) ow;(try clear zz);clear hcA;obtain⟨yk,yv,yl,yc,yt,ys⟩:=X;simp only[Sx.cells,Sx.rows]at cA;generalize hb8:(b'||!B)=b8 at cA;have hrl:(Sx.rows LA).length=LA.length:=Sx.rows_len LA;have htk:List.take LA.length (Sx.rows LA)=Sx.rows LA:=List.take_of_length_le (by omega);have hb2: ∀ _:Unit,(LA.length+1)*72≤140737488355328:=fun _=>(by omega);have c1:(Value.int IntKind.i64 0).oneCell'=true:=rfl;have c2:(Value.string ⟨#[]⟩).oneCell'=true:=rfl;have c3:(Value.slice none 0 0).oneCell'=true:=rfl;have n1:(xi=h.next+1)=False:=eq_false (by omega);have n2:(j=h.next+1)=False:=eq_false (by omega);have o2':=o2;simp only[xO]at o2';refine a_draw5 8 (by decide+kernel) fun K hK=>?_;simp only[List.take_succ_cons,List.take_zero,List.drop_succ_cons,List.drop_zero];simp(maxSteps:=4000000) only[Ty.w,simprocAttr,Ty.all,c1,c2,c3,s1,s4,s5,sT,o2',o3,hrl,htk,hb2 (),n1,n2,Nat.le_refl];refine a_dcallW (cA) (by(try simp only[Ty.w,simprocAttr,c1,c2,c3,s1,s4,s5,sT,o2',o3,hrl,htk,hb2 (),n1,n2,Nat.le_refl]);try rfl) (by(try simp(maxSteps:=4000000) only[Ty.w,simprocAttr,pastC,List.map_cons,List.map_nil,List.forall_mem_cons,c1,c2,c3,s1,s4,s5,sT,o2',o3,hrl,htk,hb2 (),n1,n2,Nat.le_refl])<;>((repeat' apply And.intro)<;>first|trivial|exact .inl (by decide+kernel)|exact .inr trivial|exact .inr (by simp(maxSteps:=2000000) only[Ty.w,simprocAttr,c1,c2,c3,s1,s4,s5,sT,o2',o3,hrl,htk,hb2 (),n1,n2,Nat.le_refl])|exact(fun _ hx=>by cases hx))) ?_;simp(maxSteps:=2000000) only[Ty.w,simprocAttr,Option.getD_some,c1,c2,c3,s1,s4,s5,sT,o2',o3,hrl,htk,hb2 (),n1,n2,Nat.le_refl];refine⟨by simp only[List.forall_mem_cons];(repeat' apply And.intro)<;>first|exact .inl (by decide+kernel)|exact(fun _ hx=>by cases hx),?_⟩;have hset1: ∀ x:List PV,(Sx.rows LA++[sxZd]).set LA.length x=Sx.rows LA++[x]:=fun x=>(by rw[List.set_append_right _ _ (by omega),hrl,Nat.sub_self];try rfl);have hget1:(Sx.rows LA++[sxZd])[LA.length]? =some sxZd:=(by rw[List.getElem?_append_right (by omega),hrl,Nat.sub_self];try rfl);have h98:(((Heap.set ⟨H.next+12,H.obj⟩ (h.next+1) (wO b8)).kill j).new (.arr 6 (Sx.rows LA++[sxZd]))).obj (H.next+12)=some (.arr 6 (Sx.rows LA++[sxZd])):=obj_newAt (h:=(Heap.set ⟨H.next+12,H.obj⟩ (h.next+1) (wO b8)).kill j)
           have hO1: ∀ i,i<H.next→i≠j→i≠h.next+1→(((Heap.set ⟨H.next+12,H.obj⟩ (h.next+1) (wO b8)).kill j).new (.arr 6 (Sx.rows LA++[sxZd]))).obj i=H.obj i:=fun i hi hij hiw=>(obj_newNe (by show i≠H.next+12;omega)).trans ((obj_kill hij).trans (obj_set hiw))
           have hW1:(((Heap.set ⟨H.next+12,H.obj⟩ (h.next+1) (wO b8)).kill j).new (.arr 6 (Sx.rows LA++[sxZd]))).obj (h.next+1)=some (wO b8):=(obj_newNe (by show h.next+1≠H.next+12;omega)).trans ((obj_kill (by omega)).trans obj_at);have hn1:(((Heap.set ⟨H.next+12,H.obj⟩ (h.next+1) (wO b8)).kill j).new (.arr 6 (Sx.rows LA++[sxZd]))).next=H.next+13:=rfl
           generalize(((Heap.set ⟨H.next+12,H.obj⟩ (h.next+1) (wO b8)).kill j).new (.arr 6 (Sx.rows LA++[sxZd])))=H1 at h98 hO1 hW1 hn1⊢;refine d6_quiet (.ptr (H.next+12) LA.length 0) [H.next+12] (.inr (by decide+kernel)) (by decide) rfl rfl (fun H' hH'=>by
            have hH':=(hH' _ (List.mem_singleton.2 rfl)).trans h98;have q1:(LA.length<LA.length+1)=True:=eq_true (by omega);simp(maxSteps:=2000000) only[Ty.w,simprocAttr,Ty.all,hH',q1,c1,c2,c3,hrl,hb2 (),Nat.le_refl]) (by intro x hx;repeat'(first|(exact absurd hx (List.not_mem_nil))|(rcases List.mem_cons.1 hx with rfl|hx)|(refine .inr ?_;dsimp only;omega)|(refine .inr ?_;exact List.not_mem_nil)|(refine .inr fun hm=>?_;have:=List.mem_singleton.1 hm;omega)|(refine .inl ?_;dsimp only;decide+kernel))) ?_
           refine d6_store (ob:= .arr 6 (Sx.rows LA++[[.sc (.int .i64 yk),.sc (.int .i64 yv),.sc (.int .i64 yl),.sc (.int .i64 yc),sPV yt,.imm 6 (Sx.rows ys)]])) rfl (by decide) rfl (by simp only[Ty.w,simprocAttr,Ty.all];try rfl) (by
            simp(maxSteps:=2000000) only[Ty.w,simprocAttr,Ty.all,h98,hget1,hset1,c1,c2,c3,hrl,hb2 (),Nat.le_refl];try rfl) (fun f q hf hq ha=>by rcases(show f=10∨f=11 from by have hfl:=(List.getElem?_eq_some_iff.1 hq).1;simp only[List.length_cons,List.length_nil]at hfl;omega)with rfl|rfl<;>(simp only[List.getElem?_cons_succ,List.getElem?_cons_zero,Option.some.injEq]at hq;subst hq;revert ha;decide+kernel)) (by intro x hx;repeat'(first|(exact absurd hx (List.not_mem_nil))|(rcases List.mem_cons.1 hx with rfl|hx)|(refine .inr ?_;dsimp only;omega)|(refine .inr ?_;exact List.not_mem_nil)|(refine .inr fun hm=>?_;have:=List.mem_singleton.1 hm;omega)|(refine .inl ?_;dsimp only;decide+kernel))) (by intro x hx;repeat'(first|(exact absurd hx (List.not_mem_nil))|(rcases List.mem_cons.1 hx with rfl|hx)|(refine .inr ?_;dsimp only;omega)|(refine .inr ?_;exact List.not_mem_nil)|(refine .inr fun hm=>?_;have:=List.mem_singleton.1 hm;omega)|(refine .inl ?_;dsimp only;decide+kernel))) ?_
           refine d6_quiet (.ptr xi 0 5) [] (.inl rfl) (by decide) rfl rfl (fun H' _=>by(try simp(maxSteps:=2000000) only[Ty.w,simprocAttr,Ty.all,s5,c1,c2,c3,hrl,hb2 (),Nat.le_refl]);try rfl) (by intro x hx;repeat'(first|(exact absurd hx (List.not_mem_nil))|(rcases List.mem_cons.1 hx with rfl|hx)|(refine .inr ?_;dsimp only;omega)|(refine .inr ?_;exact List.not_mem_nil)|(refine .inr fun hm=>?_;have:=List.mem_singleton.1 hm;omega)|(refine .inl ?_;dsimp only;decide+kernel))) ?_;have nX:(xi=H.next+12)=False:=eq_false (by omega);have hX2:=(hO1 xi i2 i5 (by omega)).trans o2';refine d6_store (ob:=xO (H.next+12) (LA.length+1)) rfl (by decide) rfl (by simp only[Ty.w,simprocAttr,Ty.all];try rfl) (by
            simp(maxSteps:=2000000) only[Ty.w,simprocAttr,Ty.all,hX2,nX,c1,c2,c3,hrl,hb2 (),Nat.le_refl];try rfl) (fun f q hf hq ha=>by have hfl:=(List.getElem?_eq_some_iff.1 hq).1;simp only[List.length_cons,List.length_nil]at hfl;omega) (by intro x hx;repeat'(first|(exact absurd hx (List.not_mem_nil))|(rcases List.mem_cons.1 hx with rfl|hx)|(refine .inr ?_;dsimp only;omega)|(refine .inr ?_;exact List.not_mem_nil)|(refine .inr fun hm=>?_;have:=List.mem_singleton.1 hm;omega)|(refine .inl ?_;dsimp only;decide+kernel))) (by intro x hx;repeat'(first|(exact absurd hx (List.not_mem_nil))|(rcases List.mem_cons.1 hx with rfl|hx)|(refine .inr ?_;dsimp only;omega)|(refine .inr ?_;exact List.not_mem_nil)|(refine .inr fun hm=>?_;have:=List.mem_singleton.1 hm;omega)|(refine .inl ?_;dsimp only;decide+kernel))) ?_
           refine d6_end (hK _ _ ?_);have hLx:(LA++[Sx.mk yk yv yl yc yt ys]).length=LA.length+1:=(by simp);have hRx:Sx.rows (LA++[Sx.mk yk yv yl yc yt ys])=Sx.rows LA++[[.sc (.int .i64 yk),.sc (.int .i64 yv),.sc (.int .i64 yl),.sc (.int .i64 yc),sPV yt,.imm 6 (Sx.rows ys)]]:=(by simp[Sx.rows_map,Sx.cells,Sx.rows,sPV]);refine a_genPost (fun S G=>WdS h xi [sPV dn,.imm 2 (pmRows dt),.imm 2 (pmRows dc),.imm 2 (prRows dp),.imm 4 (fuRows df),.imm 10 (acRows da),.imm 23 (duRows dd)] S∧S 97= .imm 10 (acRows da)∧S 98= .sc (.int .i64 da.length)∧S 99= .sc (.int .i64 k)∧WdI h b8 xi (H.next+12) (LA++[.mk yk yv yl yc yt ys]) G) ?_ ?_
           ·refine ⟨⟨by simp only[Ty.w,simprocAttr,s1],by simp only[Ty.w,simprocAttr,s2],by simp only[Ty.w,simprocAttr,s4],by simp only[Ty.w,simprocAttr,s5]⟩,by simp only[Ty.w,simprocAttr,sA],by simp only[Ty.w,simprocAttr,sB],by simp only[Ty.w,simprocAttr,sC],⟨⟨by show h.next≤H1.next;have:=hg.le;omega,fun i hi=>(obj_set (by omega)).trans ((obj_set (by omega)).trans ((hO1 i (by omega) (by omega) (by omega)).trans (hg.old i hi)))⟩,⟨i1,by show xi<H1.next;omega,by omega,by show H.next+12<H1.next;omega,by omega⟩,(obj_set (by omega)).trans ((obj_set (by omega)).trans ((hO1 _ (by omega) (by omega) (by omega)).trans o1)),(obj_set (by omega)).trans ((obj_set (by omega)).trans hW1),?_,?_⟩⟩
            ·rw [hLx];exact obj_at
            ·rw [hRx];exact(obj_set (by omega)).trans obj_at
           ·(try clear hK);(try clear zz);clear s1 s2 s4 s5 sA sB sC sT hI hg o1 ow o2 o2' o3 cA h98 hO1 hW1 hn1 hX2 nX hset1 hget1;rintro S G ⟨⟨s1,s2,s4,s5⟩,sA,sB,sC,hI⟩;simp only[pst0,simprocAttr];refine wt (uu sC wC) ?_;refine⟨da.length-(k+1),by omega,k+1,b8,H.next+12,⟨by simp only[Ty.w,simprocAttr,s1],by simp only[Ty.w,simprocAttr,s2],by simp only[Ty.w,simprocAttr,s4],by simp only[Ty.w,simprocAttr,s5]⟩,by simp only[Ty.w,simprocAttr,sA],by simp only[Ty.w,simprocAttr,sB],by simp only[Ty.w,simprocAttr],by omega,rfl,by rw[hta];exact hI,hinv.trans ?_⟩;rw[← hb8];cases b'<;>cases B<;>simp
          ·have hd:decide ((k:Int)<(da.length:Int))=false:=(by simp;omega);obtain rfl:k=da.length:=(by omega);rw[List.take_length]at hI;rw[List.drop_length,List.all_nil,Bool.not_true,Bool.or_false]at hinv;replace zz:=uu4 sA sB sC hd;refine xB 24 zz ?_;refine⟨?_⟩;refine a_genX (fun S H=>WdS h xi [sPV dn,.imm 2 (pmRows dt),.imm 2 (pmRows dc),.imm 2 (prRows dp),.imm 4 (fuRows df),.imm 10 (acRows da),.imm 23 (duRows dd)] S∧WdI h b' xi j (LL4++da.map acX) H) ⟨⟨by simp only[Ty.w,simprocAttr,s1],by simp only[Ty.w,simprocAttr,s2],by simp only[Ty.w,simprocAttr,s4],by simp only[Ty.w,simprocAttr,s5]⟩,hI⟩ ?_;(try clear zz);clear s1 s2 s4 s5 sA sB sC hI hd hlt hk hal;rintro S H ⟨⟨s1,s2,s4,s5⟩,hI⟩;rw[← hinv]at hI;(try clear zz);clear hinv;have hL5:(LL4++da.map acX).length≤1048582:=by
            rw[List.length_append,List.length_map];have:=hsm.acts.1;simp only at this;omega
           generalize hLe5:LL4++da.map acX=LL5 at hL5 hI;generalize hb5:(b4||!(da.all acB))=b5 at hI;have hal:=duRows_len dd;refine wt (uu s1 hal) ?_;refine a_loop (fun m S H=> ∃ (k:Nat)(b':Bool)(j:Nat),WdS h xi [sPV dn,.imm 2 (pmRows dt),.imm 2 (pmRows dc),.imm 2 (prRows dp),.imm 4 (fuRows df),.imm 10 (acRows da),.imm 23 (duRows dd)] S∧S 115= .imm 23 (duRows dd)∧S 116= .sc (.int .i64 dd.length)∧S 117= .sc (.int .i64 k)∧k≤dd.length∧m=dd.length-k∧WdI h b' xi j (LL5++(dd.take k).map duX) H∧(b5||!(dd.all duB))=(b'||!((dd.drop k).all duB))) dd.length ?_ ?_
           ·simp only[Ty.w,simprocAttr];refine⟨0,b5,j,⟨by simp only[Ty.w,simprocAttr,s1],by simp only[Ty.w,simprocAttr,s2],by simp only[Ty.w,simprocAttr,s4],by simp only[Ty.w,simprocAttr,s5]⟩,rfl,Nat.zero_le _,rfl,?_,rfl⟩;rw[List.take_zero,List.map_nil,List.append_nil];exact hI
           ·(try clear zz);clear s1 s2 s4 s5 hI;rintro m S H ⟨k,b',j,⟨s1,s2,s4,s5⟩,sA,sB,sC,hk,rfl,hI,hinv⟩;by_cases hlt:k<dd.length
            ·have hd:decide ((k:Int)<(dd.length:Int))=true:=(by simp;omega);have wC:IntKind.i64.wrap ((k:Int)+1)=((k+1:Nat):Int):=(by rw[wrap64 (by have:=hsm.durs.1;simp only at this;omega) (by have:=hsm.durs.1;simp only at this;omega)];omega);obtain⟨a,hx⟩: ∃ a,dd[k]? =some a:=⟨_,List.getElem?_eq_getElem hlt⟩;have hga:=duRows_get hx;have hsa:=hsm.durs.2 a (List.mem_of_getElem? hx);have hoa:=hok.duratives.2 a (List.mem_of_getElem? hx);have hLl:(LL5++(dd.take k).map duX).length≤2097160:=by
              rw[List.length_append,List.length_map,List.length_take];have:=hsm.durs.1;simp only at this;omega
             have hta:LL5++(dd.take (k+1)).map duX=(LL5++(dd.take k).map duX)++[duX a]:=by
              rw[List.take_add_one,hx,List.append_assoc];simp
             rw[drop_of_get hx,List.all_cons]at hinv;generalize LL5++(dd.take k).map duX=LA at hLl hta hI;have hcA:=fun(G:Heap)(h1:h.next+1<G.next)(h2:G.obj (h.next+1)=some (wO b'))=>wdurative_c (h:=G) (id:=h.next+1) (b:=b') hoa hsa h1 h2;generalize duX a=X at hta hcA;generalize duB a=B at hinv hcA;obtain⟨an,ap,ac,⟨gop,gna,gar,gpa,gex,gki⟩,⟨kop,kna,kar,kpa,kex,kki⟩,⟨lop,lna,lar,lpa,lex,lki⟩,ach,bch⟩:=a;simp only[duRow,Fm.cells,List.cons_append,List.nil_append]at hga hcA;replace zz:=uu7 s1 s4 sA sB sC hd hga;refine xB 27 zz ?_;refine⟨?_⟩;refine a_tmp 16 rfl (by simp only[Ty.w,simprocAttr]) (fun n H=>by simp only[FrzL];exact⟨frzD_sc,frzD_imm (pms_in n _),frzD_sc,frzD_sc,frzD_sc,frzD_imm (strs_in n _),frzD_imm (pms_in n _),frzD_imm (exs_in n _),frzD_imm (fms_in n _),frzD_sc,frzD_sc,frzD_imm (strs_in n _),frzD_imm (pms_in n _),frzD_imm (exs_in n _),frzD_imm (fms_in n _),frzD_sc,frzD_sc,frzD_imm (strs_in n _),frzD_imm (pms_in n _),frzD_imm (exs_in n _),frzD_imm (fms_in n _),frzD_imm (chsW_in n _),frzD_imm (chsW_in n _),trivial⟩) ?_;refine a_genX (fun S H=>WdS h xi [sPV dn,.imm 2 (pmRows dt),.imm 2 (pmRows dc),.imm 2 (prRows dp),.imm 4 (fuRows df),.imm 10 (acRows da),.imm 23 (duRows dd)] S∧S 115= .imm 23 (duRows dd)∧S 116= .sc (.int .i64 dd.length)∧S 117= .sc (.int .i64 k)∧S 16= .cptr [sPV an,.imm 2 (pmRows ap),.sc (.int .i64 ac),sPV gop,sPV gna,.imm 1 (strRows gar),.imm 2 (pmRows gpa),.imm 5 (Ex.rows gex),.imm 6 (Fm.rows gki),sPV kop,sPV kna,.imm 1 (strRows kar),.imm 2 (pmRows kpa),.imm 5 (Ex.rows kex),.imm 6 (Fm.rows kki),sPV lop,sPV lna,.imm 1 (strRows lar),.imm 2 (pmRows lpa),.imm 5 (Ex.rows lex),.imm 6 (Fm.rows lki),.imm 15 (chRows ach),.imm 15 (chRows bch)]∧WdI h b' xi j LA H) ⟨⟨by simp only[Ty.w,simprocAttr,s1],by simp only[Ty.w,simprocAttr,s2],by simp only[Ty.w,simprocAttr,s4],by simp only[Ty.w,simprocAttr,s5]⟩,by simp only[Ty.w,simprocAttr,sA],by simp only[Ty.w,simprocAttr,sB],by simp only[Ty.w,simprocAttr,sC],by simp only[Ty.w,simprocAttr],hI.tmp _ _⟩ ?_;(try clear zz);clear s1 s2 s4 s5 sA sB sC hI hga;rintro S H ⟨⟨s1,s2,s4,s5⟩,sA,sB,sC,sT,hI⟩;obtain⟨hg,⟨i1,i2,i3,i4,i5⟩,o1,ow,o2,o3⟩:=(show WdI _ _ _ _ _ _ from hI);have cA:=hcA ⟨H.next+12,H.obj⟩ (by show _<H.next+12;omega) ow;(try clear zz);clear hcA;obtain⟨yk,yv,yl,yc,yt,ys⟩:=X;simp only[Sx.cells,Sx.rows]at cA;generalize hb8:(b'||!B)=b8 at cA;have hrl:(Sx.rows LA).length=LA.length:=Sx.rows_len LA;have htk:List.take LA.length (Sx.rows LA)=Sx.rows LA:=List.take_of_length_le (by omega);have hb2: ∀ _:Unit,(LA.length+1)*72≤140737488355328:=fun _=>(by omega);have c1:(Value.int IntKind.i64 0).oneCell'=true:=rfl;have c2:(Value.string ⟨#[]⟩).oneCell'=true:=rfl;have c3:(Value.slice none 0 0).oneCell'=true:=rfl;have n1:(xi=h.next+1)=False:=eq_false (by omega);have n2:(j=h.next+1)=False:=eq_false (by omega);have o2':=o2;simp only[xO]at o2';refine a_draw5 8 (by decide+kernel) fun K hK=>?_;simp only[List.take_succ_cons,List.take_zero,List.drop_succ_cons,List.drop_zero];simp(maxSteps:=4000000) only[Ty.w,simprocAttr,Ty.all,c1,c2,c3,s1,s4,s5,sT,o2',o3,hrl,htk,hb2 (),n1,n2,Nat.le_refl];refine a_dcallW (cA) (by(try simp only[Ty.w,simprocAttr,c1,c2,c3,s1,s4,s5,sT,o2',o3,hrl,htk,hb2 (),n1,n2,Nat.le_refl]);try rfl) (by(try simp(maxSteps:=4000000) only[Ty.w,simprocAttr,pastC,List.map_cons,List.map_nil,List.forall_mem_cons,c1,c2,c3,s1,s4,s5,sT,o2',o3,hrl,htk,hb2 (),n1,n2,Nat.le_refl])<;>((repeat' apply And.intro)<;>first|trivial|exact .inl (by decide+kernel)|exact .inr trivial|exact .inr (by simp(maxSteps:=2000000) only[Ty.w,simprocAttr,c1,c2,c3,s1,s4,s5,sT,o2',o3,hrl,htk,hb2 (),n1,n2,Nat.le_refl])|exact(fun _ hx=>by cases hx))) ?_;simp(maxSteps:=2000000) only[Ty.w,simprocAttr,Option.getD_some,c1,c2,c3,s1,s4,s5,sT,o2',o3,hrl,htk,hb2 (),n1,n2,Nat.le_refl];refine⟨by simp only[List.forall_mem_cons];(repeat' apply And.intro)<;>first|exact .inl (by decide+kernel)|exact(fun _ hx=>by cases hx),?_⟩
             have hset1: ∀ x:List PV,(Sx.rows LA++[sxZd]).set LA.length x=Sx.rows LA++[x]:=fun x=>(by rw[List.set_append_right _ _ (by omega),hrl,Nat.sub_self];try rfl);have hget1:(Sx.rows LA++[sxZd])[LA.length]? =some sxZd:=(by rw[List.getElem?_append_right (by omega),hrl,Nat.sub_self];try rfl);have h116:(((Heap.set ⟨H.next+12,H.obj⟩ (h.next+1) (wO b8)).kill j).new (.arr 6 (Sx.rows LA++[sxZd]))).obj (H.next+12)=some (.arr 6 (Sx.rows LA++[sxZd])):=obj_newAt (h:=(Heap.set ⟨H.next+12,H.obj⟩ (h.next+1) (wO b8)).kill j);have hO1: ∀ i,i<H.next→i≠j→i≠h.next+1→(((Heap.set ⟨H.next+12,H.obj⟩ (h.next+1) (wO b8)).kill j).new (.arr 6 (Sx.rows LA++[sxZd]))).obj i=H.obj i:=fun i hi hij hiw=>(obj_newNe (by show i≠H.next+12;omega)).trans ((obj_kill hij).trans (obj_set hiw))
             have hW1:(((Heap.set ⟨H.next+12,H.obj⟩ (h.next+1) (wO b8)).kill j).new (.arr 6 (Sx.rows LA++[sxZd]))).obj (h.next+1)=some (wO b8):=(obj_newNe (by show h.next+1≠H.next+12;omega)).trans ((obj_kill (by omega)).trans obj_at);have hn1:(((Heap.set ⟨H.next+12,H.obj⟩ (h.next+1) (wO b8)).kill j).new (.arr 6 (Sx.rows LA++[sxZd]))).next=H.next+13:=rfl
             generalize(((Heap.set ⟨H.next+12,H.obj⟩ (h.next+1) (wO b8)).kill j).new (.arr 6 (Sx.rows LA++[sxZd])))=H1 at h116 hO1 hW1 hn1⊢;refine d6_quiet (.ptr (H.next+12) LA.length 0) [H.next+12] (.inr (by decide+kernel)) (by decide) rfl rfl (fun H' hH'=>by
              have hH':=(hH' _ (List.mem_singleton.2 rfl)).trans h116;have q1:(LA.length<LA.length+1)=True:=eq_true (by omega);simp(maxSteps:=2000000) only[Ty.w,simprocAttr,Ty.all,hH',q1,c1,c2,c3,hrl,hb2 (),Nat.le_refl]) (by intro x hx;repeat'(first|(exact absurd hx (List.not_mem_nil))|(rcases List.mem_cons.1 hx with rfl|hx)|(refine .inr ?_;dsimp only;omega)|(refine .inr ?_;exact List.not_mem_nil)|(refine .inr fun hm=>?_;have:=List.mem_singleton.1 hm;omega)|(refine .inl ?_;dsimp only;decide+kernel))) ?_
             refine d6_store (ob:= .arr 6 (Sx.rows LA++[[.sc (.int .i64 yk),.sc (.int .i64 yv),.sc (.int .i64 yl),.sc (.int .i64 yc),sPV yt,.imm 6 (Sx.rows ys)]])) rfl (by decide) rfl (by simp only[Ty.w,simprocAttr,Ty.all];try rfl) (by
              simp(maxSteps:=2000000) only[Ty.w,simprocAttr,Ty.all,h116,hget1,hset1,c1,c2,c3,hrl,hb2 (),Nat.le_refl];try rfl) (fun f q hf hq ha=>by rcases(show f=10∨f=11 from by have hfl:=(List.getElem?_eq_some_iff.1 hq).1;simp only[List.length_cons,List.length_nil]at hfl;omega)with rfl|rfl<;>(simp only[List.getElem?_cons_succ,List.getElem?_cons_zero,Option.some.injEq]at hq;subst hq;revert ha;decide+kernel)) (by intro x hx;repeat'(first|(exact absurd hx (List.not_mem_nil))|(rcases List.mem_cons.1 hx with rfl|hx)|(refine .inr ?_;dsimp only;omega)|(refine .inr ?_;exact List.not_mem_nil)|(refine .inr fun hm=>?_;have:=List.mem_singleton.1 hm;omega)|(refine .inl ?_;dsimp only;decide+kernel))) (by intro x hx;repeat'(first|(exact absurd hx (List.not_mem_nil))|(rcases List.mem_cons.1 hx with rfl|hx)|(refine .inr ?_;dsimp only;omega)|(refine .inr ?_;exact List.not_mem_nil)|(refine .inr fun hm=>?_;have:=List.mem_singleton.1 hm;omega)|(refine .inl ?_;dsimp only;decide+kernel))) ?_
             refine d6_quiet (.ptr xi 0 5) [] (.inl rfl) (by decide) rfl rfl (fun H' _=>by(try simp(maxSteps:=2000000) only[Ty.w,simprocAttr,Ty.all,s5,c1,c2,c3,hrl,hb2 (),Nat.le_refl]);try rfl) (by intro x hx;repeat'(first|(exact absurd hx (List.not_mem_nil))|(rcases List.mem_cons.1 hx with rfl|hx)|(refine .inr ?_;dsimp only;omega)|(refine .inr ?_;exact List.not_mem_nil)|(refine .inr fun hm=>?_;have:=List.mem_singleton.1 hm;omega)|(refine .inl ?_;dsimp only;decide+kernel))) ?_;have nX:(xi=H.next+12)=False:=eq_false (by omega);have hX2:=(hO1 xi i2 i5 (by omega)).trans o2';refine d6_store (ob:=xO (H.next+12) (LA.length+1)) rfl (by decide) rfl (by simp only[Ty.w,simprocAttr,Ty.all];try rfl) (by
              simp(maxSteps:=2000000) only[Ty.w,simprocAttr,Ty.all,hX2,nX,c1,c2,c3,hrl,hb2 (),Nat.le_refl];try rfl) (fun f q hf hq ha=>by have hfl:=(List.getElem?_eq_some_iff.1 hq).1;simp only[List.length_cons,List.length_nil]at hfl;omega) (by intro x hx;repeat'(first|(exact absurd hx (List.not_mem_nil))|(rcases List.mem_cons.1 hx with rfl|hx)|(refine .inr ?_;dsimp only;omega)|(refine .inr ?_;exact List.not_mem_nil)|(refine .inr fun hm=>?_;have:=List.mem_singleton.1 hm;omega)|(refine .inl ?_;dsimp only;decide+kernel))) (by intro x hx;repeat'(first|(exact absurd hx (List.not_mem_nil))|(rcases List.mem_cons.1 hx with rfl|hx)|(refine .inr ?_;dsimp only;omega)|(refine .inr ?_;exact List.not_mem_nil)|(refine .inr fun hm=>?_;have:=List.mem_singleton.1 hm;omega)|(refine .inl ?_;dsimp only;decide+kernel))) ?_
             refine d6_end (hK _ _ ?_);have hLx:(LA++[Sx.mk yk yv yl yc yt ys]).length=LA.length+1:=(by simp);have hRx:Sx.rows (LA++[Sx.mk yk yv yl yc yt ys])=Sx.rows LA++[[.sc (.int .i64 yk),.sc (.int .i64 yv),.sc (.int .i64 yl),.sc (.int .i64 yc),sPV yt,.imm 6 (Sx.rows ys)]]:=(by simp[Sx.rows_map,Sx.cells,Sx.rows,sPV]);refine a_genPost (fun S G=>WdS h xi [sPV dn,.imm 2 (pmRows dt),.imm 2 (pmRows dc),.imm 2 (prRows dp),.imm 4 (fuRows df),.imm 10 (acRows da),.imm 23 (duRows dd)] S∧S 115= .imm 23 (duRows dd)∧S 116= .sc (.int .i64 dd.length)∧S 117= .sc (.int .i64 k)∧WdI h b8 xi (H.next+12) (LA++[.mk yk yv yl yc yt ys]) G) ?_ ?_
             ·refine ⟨⟨by simp only[Ty.w,simprocAttr,s1],by simp only[Ty.w,simprocAttr,s2],by simp only[Ty.w,simprocAttr,s4],by simp only[Ty.w,simprocAttr,s5]⟩,by simp only[Ty.w,simprocAttr,sA],by simp only[Ty.w,simprocAttr,sB],by simp only[Ty.w,simprocAttr,sC],⟨⟨by show h.next≤H1.next;have:=hg.le;omega,fun i hi=>(obj_set (by omega)).trans ((obj_set (by omega)).trans ((hO1 i (by omega) (by omega) (by omega)).trans (hg.old i hi)))⟩,⟨i1,by show xi<H1.next;omega,by omega,by show H.next+12<H1.next;omega,by omega⟩,(obj_set (by omega)).trans ((obj_set (by omega)).trans ((hO1 _ (by omega) (by omega) (by omega)).trans o1)),(obj_set (by omega)).trans ((obj_set (by omega)).trans hW1),?_,?_⟩⟩
              ·rw [hLx];exact obj_at
              ·rw [hRx];exact(obj_set (by omega)).trans obj_at
             ·(try clear hK);(try clear zz);clear s1 s2 s4 s5 sA sB sC sT hI hg o1 ow o2 o2' o3 cA h116 hO1 hW1 hn1 hX2 nX hset1 hget1;rintro S G ⟨⟨s1,s2,s4,s5⟩,sA,sB,sC,hI⟩;simp only[pst0,simprocAttr];refine wt (uu sC wC) ?_;refine⟨dd.length-(k+1),by omega,k+1,b8,H.next+12,⟨by simp only[Ty.w,simprocAttr,s1],by simp only[Ty.w,simprocAttr,s2],by simp only[Ty.w,simprocAttr,s4],by simp only[Ty.w,simprocAttr,s5]⟩,by simp only[Ty.w,simprocAttr,sA],by simp only[Ty.w,simprocAttr,sB],by simp only[Ty.w,simprocAttr],by omega,rfl,by rw[hta];exact hI,hinv.trans ?_⟩;rw[← hb8];cases b'<;>cases B<;>simp
            ·have hd:decide ((k:Int)<(dd.length:Int))=false:=(by simp;omega);obtain rfl:k=dd.length:=(by omega);rw[List.take_length]at hI;rw[List.drop_length,List.all_nil,Bool.not_true,Bool.or_false]at hinv;replace zz:=uu4 sA sB sC hd;refine xB 29 zz ?_;refine⟨?_⟩;refine a_genX (fun S H=>WdS h xi [sPV dn,.imm 2 (pmRows dt),.imm 2 (pmRows dc),.imm 2 (prRows dp),.imm 4 (fuRows df),.imm 10 (acRows da),.imm 23 (duRows dd)] S∧WdI h b' xi j (LL5++dd.map duX) H) ⟨⟨by simp only[Ty.w,simprocAttr,s1],by simp only[Ty.w,simprocAttr,s2],by simp only[Ty.w,simprocAttr,s4],by simp only[Ty.w,simprocAttr,s5]⟩,hI⟩ ?_;(try clear zz);clear s1 s2 s4 s5 sA sB sC hI hd hlt hk hal;rintro S H ⟨⟨s1,s2,s4,s5⟩,hI⟩;rw[← hinv]at hI;(try clear zz);clear hinv;have hLX:dmX ⟨dn,dt,dc,dp,df,da,dd⟩=listM (LL5++dd.map duX):=(by rw[← hLe5, ← hLe4, ← hLe3, ← hLe2, ← hLe1, ← hLe0];try rfl);have hBB:dmB ⟨dn,dt,dc,dp,df,da,dd⟩=!(b5||!(dd.all duB)):=by
              rw[← hb5, ← hb4, ← hb3, ← hb2, ← hb1, ← hb0];unfold dmB;simp only;cases nameB dn<;>cases dt.all (parB false)<;>cases dc.all (parB false)<;>cases dp.all prB<;>cases df.all fuB<;>cases da.all acB<;>cases dd.all duB<;>rfl
             have hv:=svalid_c hX;rw[hLX]at hv;generalize(b5||!(dd.all duB))=bb at hI hBB;generalize LL5++dd.map duX=LX at hI hv hLX;generalize hVe:(svalid (listM LX) 0 0).1=V at hv;obtain⟨hg,⟨i1,i2,i3,i4,i5⟩,o1,ow,o2,o3⟩:=(show WdI _ _ _ _ _ _ from hI);have o2':=o2;simp only[xO]at o2';refine a_give [[.sc (.int .i64 3),.sc (.int .i64 0),.sc (.int .i64 0),.sc (.int .i64 0),.sc (.string ⟨#[]⟩),.imm 6 (Sx.rows LX)]] rfl o3 o2' (fun e=>i5 e.symm) (by
              simp only[GvR,GvL,Gv];exact⟨⟨.inl trivial,.inl trivial,.inl trivial,.inl trivial,.inl trivial,.inr ⟨by rw[Sx.rows_len],trivial⟩,trivial⟩,trivial⟩) ?_
             refine a_genX (fun S G=>WdS h xi [sPV dn,.imm 2 (pmRows dt),.imm 2 (pmRows dc),.imm 2 (prRows dp),.imm 4 (fuRows df),.imm 10 (acRows da),.imm 23 (duRows dd)] S∧Grow h G∧G.obj h.next=some (.arr 6 [sxZd])∧G.obj (h.next+1)=some (wO bb)∧G.obj xi=some (.arr 6 [[.sc (.int .i64 3),.sc (.int .i64 0),.sc (.int .i64 0),.sc (.int .i64 0),.sc (.string ⟨#[]⟩),.imm 6 (Sx.rows LX)]])) ⟨⟨by simp only[Ty.w,simprocAttr,s1],by simp only[Ty.w,simprocAttr,s2],by simp only[Ty.w,simprocAttr,s4],by simp only[Ty.w,simprocAttr,s5]⟩,⟨by show h.next≤H.next;exact hg.le,fun i hi=>(obj_set (by omega)).trans ((obj_kill (by omega)).trans (hg.old i hi))⟩,(obj_set (by omega)).trans ((obj_kill (by omega)).trans o1),(obj_set (by omega)).trans ((obj_kill (by omega)).trans ow),obj_at⟩ ?_;(try clear zz);clear s1 s2 s4 s5 hI hg o1 ow o2 o2' o3;rintro S G ⟨⟨s1,s2,s4,s5⟩,hg,o1,ow,o2⟩;have n1:(xi=h.next)=False:=eq_false (by omega);have n2:(h.next+1=h.next)=False:=eq_false (by omega);simp only[listM,Sx.cells]at hv;cases bb with
             |true=>
              (repeat'(first|refine cK ?_|(refine nK ?_;try exact zI)|refine a_seq fun K hK=>?_|((first|refine a_regionS ?_|refine a_ret ?_);simp(maxSteps:=2000000) only[Ty.w,simprocAttr,s1,s2,s4,s5,o1,ow,o2,n1,n2,Bool.not_true,Bool.false_and])|(refine hK _ _ ?_;clear hK;(try simp only[pst0,simprocAttr]))));refine⟨?_,hg.set (Nat.le_refl _) _⟩;rw[hBB];simp only[Bool.not_true,Bool.false_and,Bool.false_eq_true,if_false,errV,FrzTo,FrzL,and_true];exact⟨_,rfl,zeroSx_frz,rfl,trivial⟩
             |false=>
              cases V with
              |false=>
               (repeat'(first|refine cK ?_|(refine nK ?_;try exact zI)|(refine a_regionS ?_;simp(maxSteps:=2000000) only[Ty.w,simprocAttr,s1,s2,s4,s5,o1,ow,o2,n1,n2,Bool.not_false,Bool.true_and])));replace zz:=uu9 s1 s2 s4 s5 o1 ow o2 n1 n2;refine uU zz (hv _) ?_;replace zz:=uu10 s1 s2 s4 s5 o1 ow o2 n1 n2 yF;refine wt zz ?_;refine⟨?_,hg.set (Nat.le_refl _) _⟩;rw[hLX,hVe];simp only[Bool.and_false,Bool.false_eq_true,if_false,errV,FrzTo,FrzL,and_true];exact⟨_,rfl,zeroSx_frz,rfl,trivial⟩
              |true=>
               (repeat'(first|refine cK ?_|(refine nK ?_;try exact zI)|(refine a_regionS ?_;simp(maxSteps:=2000000) only[Ty.w,simprocAttr,s1,s2,s4,s5,o1,ow,o2,n1,n2,Bool.not_false,Bool.true_and])));replace zz:=uu9 s1 s2 s4 s5 o1 ow o2 n1 n2;refine uU zz (hv _) ?_;replace zz:=uu10 s1 s2 s4 s5 o1 ow o2 n1 n2 yT;refine wt zz ?_;refine⟨?_,hg.set (Nat.le_refl _) _⟩;rw[hBB,hLX,hVe];simp only[Bool.not_false,Bool.and_self,if_true,FrzTo,listM,Sx.cells];exact⟨_,rfl,by simp only[FrzL,FrzTo,and_true];exact⟨_,rfl,sx_frz _ _ (.mk 3 0 0 0 ⟨#[]⟩ LX)⟩⟩
theorem Sx.nodes_le{x:Sx}: ∀ {l:List Sx},x∈l→x.nodes≤Sx.nodess l
 |y::l,h=>by
  simp only[Sx.nodess];rcases List.mem_cons.1 h with rfl|h
  ·omega
  ·have:=Sx.nodes_le h;omega
set_option maxHeartbeats 2000000
theorem zSx_ok:(Sx.mk 0 0 0 0 ⟨#[]⟩ []).ok:=⟨⟨by decide,by decide⟩,⟨by decide,by decide⟩,by decide,by simp,trivial⟩
theorem fmX_ok{f:Fm}(h:f.ok)(hs:f.small):(fmX f).ok:=by
 unfold fmX;cases hv:validF f with
 |false=>exact zSx_ok
 |true=>exact fmW_ok f h hs (validF_shaped hv)
theorem exX_ok{e:Ex}(h:e.ok)(hs:e.small):(exX e).ok:=by
 unfold exX;cases validE e with
 |false=>exact zSx_ok
 |true=>exact exW_ok e h hs
theorem ok2{a b:Sx}(ha:a.ok)(hb:b.ok):(listM [a,b]).ok:=listM_ok (by simp[bigN]) ⟨ha,hb,trivial⟩
theorem ok3{a b c:Sx}(ha:a.ok)(hb:b.ok)(hc:c.ok):(listM [a,b,c]).ok:=listM_ok (by simp[bigN]) ⟨ha,hb,hc,trivial⟩
theorem kwK_ok(k:Int):(wordM (kwK k)).ok:=by
 unfold kwK;cases k==3<;>cases k==4<;>exact wordM_ok (by decide)
theorem ch1_ok{c:Ch}(h:c.ok)(hs:ChSm c):(ch1 c).ok:=by
 have hw:(wordsM c.name c.args).ok:=wordsM_ok h.name hs.args h.args.2;unfold ch1;cases c.kind==1 with
 |true=>exact hw
 |false=>
  simp only[cond_false];cases c.kind==2 with
  |true=>exact ok2 (wordM_ok (by decide)) hw
  |false=>
   simp only[cond_false];cases c.kind==3||c.kind==4||c.kind==5 with
   |true=>exact ok3 (kwK_ok _) hw (exX_ok h.value hs.value)
   |false=>exact hw
theorem ch2_ok{c:Ch}(h:c.ok)(hs:ChSm c):(ch2 c).ok:=by
 have h1:=ch1_ok h hs;unfold ch2;cases isAlw c.cond with
 |true=>exact h1
 |false=>exact ok3 (wordM_ok (by decide)) (fmX_ok h.cond hs.cond) h1
theorem chX_ok{c:Ch}(h:c.ok)(hs:ChSm c):(chX c).ok:=by
 have h2:=ch2_ok h hs;unfold chX;cases c.params.isEmpty with
 |true=>exact h2
 |false=>exact ok3 (wordM_ok (by decide)) (listM_ok (by rw[paramsW_len];have:=hs.params;unfold bigN;omega) (paramsW_ok _ h.params.2)) h2
theorem effX_ok{l:List Ch}(hl:l.length≤1048576)(h: ∀ c∈l,c.ok∧ChSm c):(effX l).ok:=by
 unfold effX;cases l.isEmpty with
 |true=>exact listM_ok (by simp) trivial
 |false=>
  refine listM_ok (by simp only[List.length_cons,List.length_map,bigN];omega) ⟨wordM_ok (by decide),?_⟩;rw[Sx.oks_iff];intro k hk;rw[List.mem_map]at hk;obtain⟨c,hc,rfl⟩:=hk;exact chX_ok (h c hc).1 (h c hc).2
theorem isAlw_eq{f:Fm}(h:isAlw f=true):f=andFm:=by
 obtain⟨op,na,a,p,e,k⟩:=f;simp only[isAlw,andFm,Fm.same,Bool.and_eq_true]at h;obtain⟨⟨⟨⟨⟨h1,h2⟩,h3⟩,h4⟩,h5⟩,h6⟩:=h;have e1:=bEq_eq h1;have e2:=bEq_eq h2;have e3:a=[]:=by cases a<;>simp_all [bsEq]
 have e4:p=[]:=by cases p<;>simp_all [pmsEq]
 have e5:e=[]:=by cases e<;>simp_all [Ex.sames]
 have e6:k=[]:=by cases k<;>simp_all [Fm.sames]
 rw[e1,e2,e3,e4,e5,e6];try rfl
theorem validE_shp{e:Ex}(h:validE e=true):shapedE e=true:=by
 unfold validE at h;simp only[Bool.and_eq_true]at h;exact formedM_shaped e 0 0 h.1
theorem nodess_append: ∀ l m:List Sx,Sx.nodess (l++m)=Sx.nodess l+Sx.nodess m
 |[],m=>by simp[Sx.nodess]
 |k::l,m=>by simp only[List.cons_append,Sx.nodess,nodess_append l m];omega
theorem list_nodes(l:List Sx):(listM l).nodes=Sx.nodess l+1:=by simp only[listM,Sx.nodes]
theorem word_nodes(s:ByteArray):(wordM s).nodes=1:=by simp[wordM,Sx.nodes,Sx.nodess]
theorem formed_of: ∀ (e:Ex),shapedE e=true→ ∀ (d n:Nat),d+(exW e).depth≤32→n+(exW e).nodes≤4096→(formedM e d n).1=true∧(formedM e d n).2≤n+(exW e).nodes:=by
 refine Ex.ind ?_;intro op name v args kids ih hs d n hd hn;unfold shapedE at hs;unfold exW at hd hn⊢;unfold formedM;cases c1:bEq op opNum with
 |true=>
  rw[c1]at hs hd hn;simp only[if_true]at hs hd hn⊢;simp only[Sx.nodes,Sx.nodess]at hn⊢;rw[if_pos ⟨by omega,by omega⟩];exact⟨hs,by simp only;omega⟩
 |false=>
  rw[c1]at hs hd hn;simp only[Bool.false_eq_true,if_false]at hs hd hn⊢;cases c2:bEq op opFlu with
  |true=>
   rw[c2]at hs hd hn;simp only[if_true]at hs hd hn⊢;simp only[wordsM,listM,Sx.nodes]at hn⊢;rw[if_pos ⟨by omega,by omega⟩];exact⟨hs,by simp only;omega⟩
  |false=>
   rw[c2]at hs hd hn;simp only[Bool.false_eq_true,if_false]at hs hd hn⊢;split at hs
   case isFalse=>simp at hs
   rename_i hop;rw[if_pos hop];rw[Bool.and_eq_true]at hs;obtain⟨h1,h2⟩:=hs;rw[h1];simp only[if_true];split at h2
   case h_2=>simp at h2
   rename_i a b;simp only[Bool.and_eq_true]at h2;simp only[listM,Sx.depth,Sx.depths,Sx.nodes,Sx.nodess,wordM,if_true]at hd hn⊢;have k1:¬ ((1:Int)=3):=(by omega);rw[if_neg k1]at hd;rw[if_pos ⟨by omega,by omega⟩];obtain⟨f1,f2⟩:=ih a (by simp) h2.1 (d+1) (n+1) (by omega) (by omega);cases hw:formedM a (d+1) (n+1)with
   |mk x c=>
    rw[hw]at f1 f2;simp only at f1 f2;subst f1;simp only;obtain⟨g1,g2⟩:=ih b (by simp) h2.2 (d+1) c (by omega) (by omega);exact⟨g1,by omega⟩
theorem validE_same{e:Ex}(hn:(exW e).nodes≤bigN):validE e=(shapedE e&&rvalidB (exW e)):=by
 unfold validE;rw[valid_same hn];cases hs:shapedE e with
 |false=>
  have:(formedM e 0 0).1=false:=by
   cases h:(formedM e 0 0).1 with
   |false=>rfl
   |true=>rw[formedM_shaped e 0 0 h]at hs;simp at hs
  simp only[this,Bool.false_and]
 |true=>
  cases hv:rvalidB (exW e)with
  |false=>simp
  |true=>
   have h1:=(svalid_iff (exW e) 0 0 (by omega) (by omega)).1.1 (by rw[valid_same hn];exact hv);rw[(formed_of e hs 0 0 h1.2.1 h1.2.2).1]
section
variable {name:ByteArray}{args:List ByteArray}{params:List Pm}{exprs:List Ex}{kids p q:List Fm}{s:Bool}
end
theorem sf_cases{C:Fm→Prop}(f:Fm)(hf:shapedF f=true)
  (h1: ∀ name args,nameB name=true→args.all termB=true→C (.mk opAtom name args [] [] []))
  (h2: ∀ args,args.length=2→args.all termB=true→C (.mk opSame ⟨#[]⟩ args [] [] []))
  (h3: ∀ op a b,(op=opLt∨op=opLe∨op=opEq)→shapedE a=true→shapedE b=true→C (.mk op ⟨#[]⟩ [] [] [a,b] []))
  (h4: ∀ op kids,(op=opAnd∨op=opOr)→(∀ k∈kids,shapedF k=true)→C (.mk op ⟨#[]⟩ [] [] [] kids))
  (h5: ∀ k,shapedF k=true→C (.mk opNot ⟨#[]⟩ [] [] [] [k]))
  (h6: ∀ a b,shapedF a=true→shapedF b=true→C (.mk opImp ⟨#[]⟩ [] [] [] [a,b]))
  (h7: ∀ op params k,(op=opAll∨op=opSome)→params.all pmOk=true→shapedF k=true→C (.mk op ⟨#[]⟩ [] params [] [k])):C f:=by
 obtain⟨op,name,args,params,exprs,kids⟩:=f;simp only[shapedF,Bool.and_eq_true,List.all_eq_true]at hf;obtain⟨⟨hp,he⟩,hk⟩:=hf;rw[shapedFs_iff]at hk;rcases partsOk_cases hp with⟨rfl,a1,a2,rfl,a3,a4⟩|⟨rfl,rfl,a1,a2,rfl,a3,a4⟩|⟨a1,rfl,rfl,rfl,a3,a4⟩|⟨a1,rfl,rfl,rfl,a3⟩|⟨a1,rfl,rfl,a3,a4,a5⟩
 ·obtain rfl:=List.eq_nil_of_length_eq_zero a3;obtain rfl:=List.eq_nil_of_length_eq_zero a4;exact h1 _ _ a1 a2
 ·obtain rfl:=List.eq_nil_of_length_eq_zero a3;obtain rfl:=List.eq_nil_of_length_eq_zero a4;exact h2 _ a1 a2
 ·obtain rfl:=List.eq_nil_of_length_eq_zero a4
  match exprs,a3,he with
  |[a,b],_,he=>exact h3 _ _ _ a1 (he a (by simp)) (he b (by simp))
 ·obtain rfl:=List.eq_nil_of_length_eq_zero a3;rcases a1 with rfl|rfl|⟨rfl,a4⟩|⟨rfl,a4⟩
  ·exact h4 _ _ (.inl rfl) hk
  ·exact h4 _ _ (.inr rfl) hk
  ·match kids,a4,hk with
   |[k],_,hk=>exact h5 _ (hk k (by simp))
  ·match kids,a4,hk with
   |[a,b],_,hk=>exact h6 _ _ (hk a (by simp)) (hk b (by simp))
 ·obtain rfl:=List.eq_nil_of_length_eq_zero a3
  match kids,a4,hk with
  |[k],_,hk=>exact h7 _ _ _ a1 a5 (hk k (by simp))
theorem list_depth{l:List Sx}{k:Sx}(h:k∈l):k.depth+1≤(listM l).depth:=by
 have:=Sx.depths_mem 0 h;simp only[listM,Sx.depth,if_true];omega
theorem fmW_rest{op name:ByteArray}{args:List ByteArray}{params:List Pm}{exprs:List Ex}{kids:List Fm}(h1:bEq op opAtom=false)(h2:bEq op opSame=false)(h3:isCmp op=false): ∃ pre,fmW (.mk op name args params exprs kids)=listM (pre++kids.map fmW):=by
 unfold fmW;rw[h1,h2,h3,fmWs_map];exact⟨_,rfl⟩
theorem fmW_parts: ∀ f,shapedF f=true→match f with
  | .mk _ _ _ _ exprs kids=>1+Sx.nodess (exprs.map exW)+Sx.nodess (kids.map fmW)≤(fmW f).nodes∧1≤(fmW f).depth∧(∀ e∈exprs,(exW e).depth+1≤(fmW f).depth)∧(∀ k∈kids,(fmW k).depth+1≤(fmW f).depth):=by
 intro f hf;have d1: ∀ l:List Sx,1≤(listM l).depth:=fun l=>by simp only[listM,Sx.depth,if_true];omega
 have rest: ∀ {op:ByteArray}{params:List Pm}{kids:List Fm}{pre:List Sx},fmW (.mk op ⟨#[]⟩ [] params [] kids)=listM (pre++kids.map fmW)→
   1+Sx.nodess (([]:List Ex).map exW)+Sx.nodess (kids.map fmW)≤(fmW (.mk op ⟨#[]⟩ [] params [] kids)).nodes∧1≤(fmW (.mk op ⟨#[]⟩ [] params [] kids)).depth∧(∀ e∈([]:List Ex),(exW e).depth+1≤(fmW (.mk op ⟨#[]⟩ [] params [] kids)).depth)∧(∀ k∈kids,(fmW k).depth+1≤(fmW (.mk op ⟨#[]⟩ [] params [] kids)).depth):=by
  intro op params kids pre e;rw[e];refine⟨?_,d1 _,by simp,fun k hk=>list_depth (List.mem_append.2 (.inr (List.mem_map.2 ⟨k,hk,rfl⟩)))⟩;rw[list_nodes,nodess_append];simp only[List.map_nil,Sx.nodess];omega
 refine sf_cases (C:=fun f=>match f with
  | .mk _ _ _ _ exprs kids=>1+Sx.nodess (exprs.map exW)+Sx.nodess (kids.map fmW)≤(fmW f).nodes∧1≤(fmW f).depth∧(∀ e∈exprs,(exW e).depth+1≤(fmW f).depth)∧(∀ k∈kids,(fmW k).depth+1≤(fmW f).depth)) f hf ?_ ?_ ?_ ?_ ?_ ?_ ?_
 ·intro name args _ _;have e:fmW (.mk opAtom name args [] [] [])=wordsM name args:=rfl;simp only[e];exact⟨by simp only[wordsM,list_nodes,List.map_nil,Sx.nodess];omega,d1 _,by simp,by simp⟩
 ·intro args _ _;have e:fmW (.mk opSame ⟨#[]⟩ args [] [] [])=wordsM opEq args:=rfl;simp only[e];exact⟨by simp only[wordsM,list_nodes,List.map_nil,Sx.nodess];omega,d1 _,by simp,by simp⟩
 ·intro op a b ho _ _;have e:fmW (.mk op ⟨#[]⟩ [] [] [a,b] [])=listM [wordM op,exW a,exW b]:=by rcases ho with rfl|rfl|rfl<;>rfl
  simp only[e];refine⟨?_,d1 _,?_,by simp⟩
  ·simp only[list_nodes,List.map_cons,List.map_nil,Sx.nodess,word_nodes];omega
  ·intro x hx;simp only[List.mem_cons,List.not_mem_nil,or_false]at hx;rcases hx with rfl|rfl<;>exact list_depth (by simp)
 ·intro op kids ho _;obtain⟨pre,e⟩: ∃ pre,fmW (.mk op ⟨#[]⟩ [] [] [] kids)=listM (pre++kids.map fmW):=by rcases ho with rfl|rfl<;>exact fmW_rest rfl rfl rfl
  exact rest e
 ·intro k _;obtain⟨pre,e⟩: ∃ pre,fmW (.mk opNot ⟨#[]⟩ [] [] [] [k])=listM (pre++[k].map fmW):=fmW_rest rfl rfl rfl;exact rest e
 ·intro a b _ _;obtain⟨pre,e⟩: ∃ pre,fmW (.mk opImp ⟨#[]⟩ [] [] [] [a,b])=listM (pre++[a,b].map fmW):=fmW_rest rfl rfl rfl;exact rest e
 ·intro op params k ho _ _;obtain⟨pre,e⟩: ∃ pre,fmW (.mk op ⟨#[]⟩ [] params [] [k])=listM (pre++[k].map fmW):=by rcases ho with rfl|rfl<;>exact fmW_rest rfl rfl rfl
  exact rest e
theorem formeds_of: ∀ (l:List Ex),(∀ e∈l,shapedE e=true)→ ∀ (d n:Nat),(∀ e∈l,d+(exW e).depth≤32)→n+Sx.nodess (l.map exW)≤4096→(formedMs l d n).1=true∧(formedMs l d n).2≤n+Sx.nodess (l.map exW)
 |[],_,d,n,_,hn=>by simp[formedMs,Sx.nodess]
 |e::l,hs,d,n,hd,hn=>by
  simp only[List.map_cons,Sx.nodess]at hn⊢;obtain⟨f1,f2⟩:=formed_of e (hs e (by simp)) d n (hd e (by simp)) (by omega);unfold formedMs;cases hw:formedM e d n with
  |mk x c=>
   rw[hw]at f1 f2;simp only at f1 f2;subst f1;simp only;obtain⟨g1,g2⟩:=formeds_of l (fun q hq=>hs q (by simp[hq])) d c (fun q hq=>hd q (by simp[hq])) (by omega);exact⟨g1,by omega⟩
theorem shapeds_of: ∀ (l:List Fm)(d:Nat),(∀ k∈l, ∀ n,n+(fmW k).nodes≤4096→(shapedM k d n).1=true∧(shapedM k d n).2≤n+(fmW k).nodes)→ ∀ n,n+Sx.nodess (l.map fmW)≤4096→(shapedMs l d n).1=true∧(shapedMs l d n).2≤n+Sx.nodess (l.map fmW)
 |[],_,_,n,hn=>by simp[shapedMs,Sx.nodess]
 |k::l,d,h,n,hn=>by
  simp only[List.map_cons,Sx.nodess]at hn⊢;obtain⟨f1,f2⟩:=h k (by simp) n (by omega);unfold shapedMs;cases hw:shapedM k d n with
  |mk x c=>
   rw[hw]at f1 f2;simp only at f1 f2;subst f1;simp only;obtain⟨g1,g2⟩:=shapeds_of l d (fun q hq=>h q (by simp[hq])) c (by omega);exact⟨g1,by omega⟩
theorem shaped_of: ∀ (f:Fm),shapedF f=true→ ∀ (d n:Nat),d+(fmW f).depth≤32→n+(fmW f).nodes≤4096→(shapedM f d n).1=true∧(shapedM f d n).2≤n+(fmW f).nodes:=by
 refine Fm.ind ?_;intro op name args params exprs kids ih hs d n hd hn;have hp:=fmW_parts _ hs;simp only at hp;obtain⟨p1,p2,p3,p4⟩:=hp;have hs2:=hs;simp only[shapedF,Bool.and_eq_true,List.all_eq_true]at hs2;obtain⟨⟨h1,h2⟩,h3⟩:=hs2;rw[shapedFs_iff]at h3;generalize fmW (.mk op name args params exprs kids)=X at*;unfold shapedM;rw[if_pos ⟨by omega,by omega⟩,if_pos h1];obtain⟨f1,f2⟩:=formeds_of exprs h2 (d+1) (n+1) (fun e he=>by have:=p3 e he;omega) (by omega);cases hw:formedMs exprs (d+1) (n+1)with
 |mk x c=>
  rw[hw]at f1 f2;simp only at f1 f2;subst f1;simp only;obtain⟨g1,g2⟩:=shapeds_of kids (d+1) (fun k hk m hm=>ih k hk (h3 k hk) (d+1) m (by have:=p4 k hk;omega) hm) c (by omega);exact⟨g1,by omega⟩
theorem validF_same{f:Fm}(hn:(fmW f).nodes≤bigN):validF f=(shapedF f&&rvalidB (fmW f)):=by
 unfold validF;rw[valid_same hn];cases hs:shapedF f with
 |false=>
  have:(shapedM f 0 0).1=false:=by
   cases h:(shapedM f 0 0).1 with
   |false=>rfl
   |true=>rw[shapedM_F f 0 0 h]at hs;simp at hs
  simp only[this,Bool.false_and]
 |true=>
  cases hv:rvalidB (fmW f)with
  |false=>simp
  |true=>
   have h1:=(svalid_iff (fmW f) 0 0 (by omega) (by omega)).1.1 (by rw[valid_same hn];exact hv);rw[(shaped_of f hs 0 0 h1.2.1 h1.2.2).1]
def VS(x:Sx):Prop:=shapedS x=true∧x.depth≤32∧x.nodes≤4096
theorem VS_iff{x:Sx}:(svalid x 0 0).1=true↔VS x:=by
 have:=(svalid_iff x 0 0 (by omega) (by omega)).1;simpa[VS]using this
theorem shapedSs_mem{k:Sx}: ∀ {l:List Sx},shapedSs l=true→k∈l→shapedS k=true
 |x::l,h,hk=>by
  simp only[shapedSs,Bool.and_eq_true]at h;rcases List.mem_cons.1 hk with rfl|hk
  ·exact h.1
  ·exact shapedSs_mem h.2 hk
theorem depths_mem{k:Sx}: ∀ {l:List Sx}(n:Nat),k∈l→k.depth≤Sx.depths n l
 |x::l,n,hk=>by
  simp only[Sx.depths];rcases List.mem_cons.1 hk with rfl|hk
  ·exact Nat.le_trans (Nat.le_max_right _ _) (Sx.depths_le l _)
  ·exact depths_mem _ hk
theorem VS_kid{l:List Sx}(h:VS (listM l)){k:Sx}(hk:k∈l):VS k:=by
 obtain⟨h1,h2,h3⟩:=h;simp only[listM,shapedS,Bool.and_eq_true]at h1;simp only[listM,Sx.depth]at h2;simp only[listM,Sx.nodes]at h3;have n1:=Sx.nodes_le hk;have d1:=depths_mem 0 hk;refine⟨?_,?_,by omega⟩
 ·simp at h1;exact shapedSs_mem h1 hk
 ·simp only[if_true]at h2;omega
theorem validE_of{e:Ex}(hs:shapedE e=true)(h:VS (exW e)):validE e=true:=by
 have hn:(exW e).nodes≤bigN:=by have:=h.2.2;unfold bigN;omega
 rw[validE_same hn,hs, ← valid_same hn,VS_iff.2 h];try rfl
theorem validF_of{f:Fm}(hs:shapedF f=true)(h:VS (fmW f)):validF f=true:=by
 have hn:(fmW f).nodes≤bigN:=by have:=h.2.2;unfold bigN;omega
 rw[validF_same hn,hs, ← valid_same hn,VS_iff.2 h];try rfl
theorem shapedF_atF(c:Ch):shapedF (atF c)=(nameB c.name&&c.args.all termB):=by
 simp[atF,shapedF,partsOk,shapeOf,termsOk,bEq_refl,shapedFs]
theorem fmW_atF(c:Ch):fmW (atF c)=wordsM c.name c.args:=by
 simp[atF,fmW,bEq_refl]
theorem tru_eq{f:Fm}(h:shapedF f=true):tru f=isAlw f:=by
 cases ha:isAlw f with
 |true=>rw[isAlw_eq ha];try rfl
 |false=>
  cases ht:tru f with
  |false=>rfl
  |true=>
   exfalso;obtain⟨op,na,a,p,e,k⟩:=f;simp only[tru,Bool.and_eq_true]at ht;have e1:=bEq_eq ht.1;have e2:k=[]:=by
    have:=ht.2;simp only[Fm.rows_len,beq_iff_eq]at this;cases k with
    |nil=>rfl
    |cons x k=>simp only[List.length_cons]at this;omega
   subst e1 e2;simp only[shapedF,partsOk,Bool.and_eq_true]at h;have hs:shapeOf opAnd ([]:List Fm).length=some (0,0,false):=rfl;rw[hs]at h;have ht2:termsOk opAnd na a=(emptyB na&&a.isEmpty):=rfl;simp only[ht2,Bool.and_eq_true,Bool.or_false,decide_eq_true_eq,List.isEmpty_iff]at h;obtain⟨⟨⟨⟨⟨⟨⟨h1,h2⟩,h3⟩,h4⟩,h5⟩,h6⟩,h7⟩,h8⟩:=h;have e3:e=[]:=List.length_eq_zero_iff.1 h3;have e4:na=⟨#[]⟩:=bEq_eq h1;subst h2 e3 h5 e4;simp[isAlw,andFm,Fm.same,bEq_refl,bsEq,pmsEq,Ex.sames,Fm.sames]at ha
theorem parB_pmR(p:Pm):parB true p=pmR true p:=by
 unfold parB pmR typedB;simp only[cond_true,if_true];rw[Bool.or_comm]
theorem chB_kind{c:Ch}(h:chB c=true):1≤c.kind∧c.kind≤5:=by
 unfold chB at h;simp only[Bool.and_eq_true]at h;obtain⟨⟨⟨_,hv⟩,_⟩,_⟩:=h;cases k1:c.kind==1||c.kind==2 with
 |true=>
  simp only[Bool.or_eq_true,beq_iff_eq]at k1;omega
 |false=>
  rw[k1,cond_false]at hv;cases k3:c.kind==3||c.kind==4||c.kind==5 with
  |false=>rw[k3]at hv;simp at hv
  |true=>
   simp only[Bool.or_eq_true,beq_iff_eq]at k3;omega
theorem chB_chR{c:Ch}(h:chB c=true):chR c=true∧chX c=chW c:=by
 have hk:=chB_kind h;unfold chB at h;simp only[Bool.and_eq_true]at h;obtain⟨⟨⟨⟨hn,ha⟩,hv⟩,hf⟩,hp⟩:=h;have hat:shapedF (atF c)=true:=by rw[shapedF_atF,hn,ha];try rfl
 have hcs:shapedF c.cond=true:=by
  simp only[Bool.or_eq_true]at hf;rcases hf with hf|hf
  ·rw [isAlw_eq hf];try rfl
  ·exact validF_shaped hf
 have hpp:c.params.all (pmR true)=true:=by
  rw[List.all_eq_true]at hp⊢;intro x hx;rw[← parB_pmR];exact hp x hx
 have hval:(bif decide (c.kind≤2)then c.value.same zeroEx else shapedE c.value)=true∧(2<c.kind→exX c.value=exW c.value):=by
  cases k1:c.kind==1||c.kind==2 with
  |true=>
   rw[k1,cond_true]at hv;simp only[Bool.or_eq_true,beq_iff_eq]at k1;have:decide (c.kind≤2)=true:=(by simp;omega);rw[this];exact⟨hv,fun h=>by omega⟩
  |false=>
   rw[k1,cond_false]at hv;cases k3:c.kind==3||c.kind==4||c.kind==5 with
   |false=>rw[k3]at hv;simp at hv
   |true=>
    rw[k3,cond_true]at hv;simp only[Bool.or_eq_true,beq_iff_eq]at k3;have:decide (c.kind≤2)=false:=(by simp;omega);rw[this];exact⟨validE_shp hv,fun _=>by unfold exX;rw[hv];try rfl⟩
 refine⟨?_,?_⟩
 ·unfold chR;have q1:decide (c.kind<1)=false:=by simp;omega
  have q2:decide (5<c.kind)=false:=by simp;omega
  rw[q1,q2,hpp,hcs,hat,hval.1];try rfl
 ·have h1:ch1 c=ch1W c:=by
   unfold ch1 ch1W;rw[fmW_atF];have hk5:c.kind=1∨c.kind=2∨c.kind=3∨c.kind=4∨c.kind=5:=(by omega);rcases hk5 with k|k|k|k|k
   ·rw [k];try rfl
   ·rw [k];try rfl
   ·rw [hval.2 (by omega),k];try rfl
   ·rw [hval.2 (by omega),k];try rfl
   ·rw [hval.2 (by omega),k];try rfl
  have h2:ch2 c=ch2W c:=by
   unfold ch2 ch2W;rw[tru_eq hcs,h1];cases q:isAlw c.cond with
   |true=>rfl
   |false=>
    rw[q,Bool.false_or]at hf;have:fmX c.cond=fmW c.cond:=(by unfold fmX;rw[hf];try rfl);rw[this]
  unfold chX chW;rw[h2]
theorem chR_chB{c:Ch}(h:chR c=true)(hv:VS (chW c)):chB c=true:=by
 unfold chR at h;simp only[Bool.and_eq_true,Bool.not_eq_true',decide_eq_false_iff_not]at h;obtain⟨q1,q2,hpp,hcs,hat,hval⟩:=h;rw[shapedF_atF,Bool.and_eq_true]at hat;have v2:VS (ch2W c):=by
  unfold chW at hv;cases q:c.params.isEmpty with
  |true=>rw[q]at hv;exact hv
  |false=>rw[q]at hv;exact VS_kid hv (by simp)
 have v1:VS (ch1W c)∧(isAlw c.cond||validF c.cond)=true:=by
  unfold ch2W at v2;rw[tru_eq hcs]at v2;cases q:isAlw c.cond with
  |true=>rw[q]at v2;exact⟨v2,rfl⟩
  |false=>
   rw[q,cond_false]at v2;exact⟨VS_kid v2 (by simp),by rw[Bool.false_or];exact validF_of hcs (VS_kid v2 (by simp))⟩
 have vv:(bif c.kind==1||c.kind==2 then c.value.same zeroEx else(bif c.kind==3||c.kind==4||c.kind==5 then validE c.value else false))=true:=by
  have hk5:c.kind=1∨c.kind=2∨c.kind=3∨c.kind=4∨c.kind=5:=by omega
  have w:=v1.1;unfold ch1W at w;rcases hk5 with k|k|k|k|k
  ·rw [k]at hval⊢;exact hval
  ·rw [k]at hval⊢;exact hval
  all_goals
   rw[k]at hval w⊢;exact validE_of hval (VS_kid (l:=[wordM _,fmW (atF c),exW c.value]) w (by simp))
 unfold chB;rw[hat.1,hat.2,vv,v1.2];simp only[Bool.true_and];rw[List.all_eq_true]at hpp⊢;intro x hx;rw[parB_pmR];exact hpp x hx
theorem effX_W{l:List Ch}(h:l.all chB=true):l.all chR=true∧effX l=effW l:=by
 rw[List.all_eq_true]at h;refine⟨List.all_eq_true.2 fun c hc=>(chB_chR (h c hc)).1,?_⟩;have:l.map chX=l.map chW:=List.map_congr_left fun c hc=>(chB_chR (h c hc)).2;unfold effX effW;rw[this]
theorem effW_all{l:List Ch}(h:writeRB l=true):l.all chB=true:=by
 unfold writeRB at h;simp only[Bool.and_eq_true]at h;have hv:=VS_iff.1 h.2;rw[List.all_eq_true];intro c hc;refine chR_chB (List.all_eq_true.1 h.1 c hc) ?_;unfold effW at hv;cases l with
 |nil=>simp at hc
 |cons d l=>exact VS_kid hv (List.mem_cons_of_mem _ (List.mem_map_of_mem hc))
set_option maxHeartbeats 4000000
def heavyM(n:Int):List Ch→Int
 |[]=>n
 |c::l=>heavyM (IntKind.i64.wrap (n+IntKind.i64.wrap (IntKind.i64.wrap (IntKind.i64.wrap (IntKind.i64.wrap (1+(c.params.length:Int))+(c.args.length:Int))+c.cond.size)+c.value.size))) l
theorem heavy_c{l:List Ch}(hl:Chs.ok l)(h:Heap):PCall Tryz.prog 16 [.imm 15 (chRows l)] h fun r h'=>r= .sc (.int .i64 (heavyM 0 l))∧h'=h:=by
 obtain⟨hll,hlo⟩:=hl;unfold bigN at hll;have hlen:=chRows_len l;generalize hF:heavyM 0 l=F;refine uG0 Tryz.func16 Tryz.ntmps16 Tryz.results16 Ty.hb_16 ?_;refine wt trivial ?_;refine a_loop (fun c S h'=>h'=h∧S 0= .imm 15 (chRows l)∧ ∃ (k:Nat)(n:Int),S 4= .sc (.int .i64 k)∧S 3= .sc (.int .i64 n)∧k≤l.length∧c=l.length-k∧F=heavyM n (l.drop k)) l.length ?_ ?_
 ·simp only[Ty.w,simprocAttr];exact⟨0,0,rfl,rfl,by omega,rfl,by rw[← hF];try rfl⟩
 ·try clear zz
  clear hF;rintro c S h' ⟨rfl,g0,k,n,g4,g3,hk,rfl,hinv⟩;by_cases hlt:k<l.length
  ·have hd:decide ((k:Int)<(l.length:Int))=true:=(by simp;omega);have w7:IntKind.i64.wrap ((k:Int)+1)=k+1:=(by rw[wrap64 (by omega) (by omega)]);obtain⟨a,hx⟩: ∃ a,l[k]? =some a:=⟨_,List.getElem?_eq_getElem hlt⟩;have hr:=chRows_get hx;have ha:=hlo a (List.mem_of_getElem? hx);rw[drop_of_get hx]at hinv;simp only[heavyM]at hinv;have c1:=rsize_c a.cond ha.cond;have c2:=rsizeE_c a.value ha.value;have hp:=pmRows_len a.params;have hs:=strRows_len a.args;(try clear zz);clear ha;obtain⟨kind,params,cond,name,args,value⟩:=a;simp only at hinv c1 c2 hp hs;generalize cond.size=s1 at hinv c1;generalize value.size=s2 at hinv c2;obtain⟨fop,fna,far,fpa,fex,fki⟩:=cond;obtain⟨eop,ena,en,ear,eki⟩:=value;simp only[chRow,Fm.cells,Ex.cells,List.cons_append,List.nil_append]at hr c1 c2;replace zz:=uu8 g0 g3 g4 hlen hd hr hp hs;refine wy zz ?_;replace zz:=uu7 g0 g3 g4 hlen hr hp hs;(first|refine uV zz (c1 _) ?_|refine uA zz (c1 _) ?_);refine wy zz ?_;replace zz:=uu7 g0 g3 g4 hlen hr hp hs;(first|refine uV zz (c2 _) ?_|refine uA zz (c2 _) ?_);replace zz:=uu8 g0 g3 g4 hlen hr hp hs w7;refine wy zz ?_;exact⟨l.length-(k+1),by omega,k+1,_,by simp,rfl,by omega,rfl,hinv⟩
  ·have hd:decide ((k:Int)<(l.length:Int))=false:=(by simp;omega);rw[List.drop_eq_nil_of_le (by omega)]at hinv;simp only[heavyM]at hinv;replace zz:=uu5 g0 g3 g4 hlen hd;refine wm zz ?_;try exact zI
   all_goals rw[hinv]
def actsM(n:Int):List Ac→Int
 |[]=>n
 |a::l=>actsM (IntKind.i64.wrap (n+IntKind.i64.wrap (IntKind.i64.wrap (1+a.pre.size)+heavyM 0 a.changes))) l
def dursM(n:Int):List Du→Int
 |[]=>n
 |a::l=>dursM (IntKind.i64.wrap (n+IntKind.i64.wrap (IntKind.i64.wrap (IntKind.i64.wrap (IntKind.i64.wrap (IntKind.i64.wrap (1+a.start.size)+a.over.size)+a.stop.size)+heavyM 0 a.atStart)+heavyM 0 a.atStop))) l
def largeD(d:Dm):Bool:=decide (dursM (actsM (IntKind.i64.wrap (IntKind.i64.wrap (IntKind.i64.wrap ((d.types.length:Int)+d.constants.length)+d.predicates.length)+d.functions.length)) d.actions) d.duratives>3000)
theorem dlarge_c(d:Dm)(hd0:d.ok)(h:Heap):PCall Tryz.prog 10 [.agg d.cells] h fun r h'=>r= .sc (.bool (largeD d))∧h'=h:=by
 obtain⟨_,_,_,_,_,⟨hal,hao⟩,⟨hul,huo⟩⟩:=hd0;obtain⟨name,types,constants,predicates,functions,actions,duratives⟩:=d;simp only at hal hao hul huo;refine PCall.quiet Ty.hb_10 ?_;unfold largeD;simp only;have l1:=pmRows_len types;have l2:=pmRows_len constants;have l3:=prRows_len predicates;have l4:=fuRows_len functions;have l5:=acRows_len actions;have l6:=duRows_len duratives;unfold bigN at hal hul;generalize hN0:IntKind.i64.wrap (IntKind.i64.wrap (IntKind.i64.wrap ((types.length:Int)+constants.length)+predicates.length)+functions.length)=n0;generalize hNA:actsM n0 actions=nA;generalize hNV:dursM nA duratives=nV;have hC:(Dm.mk name types constants predicates functions actions duratives).cells=[sPV name,.imm 2 (pmRows types),.imm 2 (pmRows constants),.imm 2 (prRows predicates),.imm 4 (fuRows functions),.imm 10 (acRows actions),.imm 23 (duRows duratives)]:=rfl;rw[hC];refine uG0 Tryz.func10 Tryz.ntmps10 Tryz.results10 Ty.hb_10 ?_;replace zz:=uu5 l1 l2 l3 l4 hN0;refine xH 2 zz ?_;refine⟨?_⟩;refine a_cut (fun S h'=>h'=h∧S 1= .cptr (Dm.mk name types constants predicates functions actions duratives).cells∧S 3= .sc (.int .i64 nA)) ?_ ?_
 ·rw [hC];refine wt trivial ?_;refine a_loop (fun c S h'=>h'=h∧S 1= .cptr (Dm.mk name types constants predicates functions actions duratives).cells∧ ∃ (k:Nat)(n:Int),S 4= .sc (.int .i64 k)∧S 3= .sc (.int .i64 n)∧k≤actions.length∧c=actions.length-k∧nA=actsM n (actions.drop k)) actions.length ?_ ?_
  ·simp only[Ty.w,simprocAttr,hC];exact⟨0,n0,rfl,rfl,by omega,rfl,by rw[← hNA];try rfl⟩
  ·rintro c S h' ⟨rfl,g1,k,n,g4,g3,hk,rfl,hinv⟩;rw[hC]at g1;by_cases hlt:k<actions.length
   ·have hd:decide ((k:Int)<(actions.length:Int))=true:=(by simp;omega);have w7:IntKind.i64.wrap ((k:Int)+1)=k+1:=(by rw[wrap64 (by omega) (by omega)]);obtain⟨a,hx⟩: ∃ a,actions[k]? =some a:=⟨_,List.getElem?_eq_getElem hlt⟩;have hr:=acRows_get hx;have ha:=hao a (List.mem_of_getElem? hx);rw[drop_of_get hx]at hinv;simp only[actsM]at hinv;have c1:=rsize_c a.pre ha.pre;have c2:=fun h:Heap=>heavy_c ha.changes h;(try clear zz);clear ha;obtain⟨aname,aparams,acost,pre,changes⟩:=a;simp only at hinv c1 c2;generalize pre.size=s1 at hinv c1;generalize heavyM 0 changes=s2 at hinv c2;obtain⟨fop,fna,far,fpa,fex,fki⟩:=pre;simp only[acRow,Fm.cells,List.cons_append,List.nil_append]at hr c1;replace zz:=uu6 g1 g3 g4 l5 hd hr;refine wy zz ?_;replace zz:=uu5 g1 g3 g4 l5 hr;(first|refine uV zz (c1 _) ?_|refine uA zz (c1 _) ?_);refine wy zz ?_;replace zz:=uu5 g1 g3 g4 l5 hr;(first|refine uV zz (c2 _) ?_|refine uA zz (c2 _) ?_);replace zz:=uu6 g1 g3 g4 l5 hr w7;refine wy zz ?_;exact⟨actions.length-(k+1),by omega,by rw[hC],k+1,_,by simp,rfl,by omega,rfl,hinv⟩
   ·have hd:decide ((k:Int)<(actions.length:Int))=false:=(by simp;omega);rw[List.drop_eq_nil_of_le (by omega)]at hinv;simp only[actsM]at hinv;replace zz:=uu5 g1 g3 g4 l5 hd;refine wt zz ?_;simp only[Ty.w,simprocAttr,g1,g3,hinv,hC]
 ·rintro S h' ⟨rfl,g1,g3⟩;rw[hC]at g1;try clear zz
  clear hNA hN0;refine xH 6 (uu g1 g3) ?_;refine⟨?_⟩;refine a_cut (fun S h2=>Grow h' h2∧S 3= .sc (.int .i64 nV)) ?_ ?_
  ·refine wt (uu g1 g3) ?_;refine a_loop (fun c S h2=>Grow h' h2∧S 1= .cptr (Dm.mk name types constants predicates functions actions duratives).cells∧ ∃ (k:Nat)(n:Int),S 5= .sc (.int .i64 k)∧S 3= .sc (.int .i64 n)∧k≤duratives.length∧c=duratives.length-k∧nV=dursM n (duratives.drop k)) duratives.length ?_ ?_
   ·simp only[Ty.w,simprocAttr,g1,g3,hC];exact⟨Grow.refl _,0,nA,rfl,rfl,by omega,rfl,by rw[← hNV];try rfl⟩
   ·(try clear zz);clear g1 g3;rintro c S h2 ⟨hg,g1,k,n,g5,g3,hk,rfl,hinv⟩;rw[hC]at g1;by_cases hlt:k<duratives.length
    ·have hd:decide ((k:Int)<(duratives.length:Int))=true:=(by simp;omega);have w7:IntKind.i64.wrap ((k:Int)+1)=k+1:=(by rw[wrap64 (by omega) (by omega)]);obtain⟨a,hx⟩: ∃ a,duratives[k]? =some a:=⟨_,List.getElem?_eq_getElem hlt⟩;have hr:=duRows_get hx;have ha:=huo a (List.mem_of_getElem? hx);rw[drop_of_get hx]at hinv;simp only[dursM]at hinv;have c1:=rsize_c a.start ha.start;have c2:=rsize_c a.over ha.over;have c3:=rsize_c a.stop ha.stop;have c4:=fun h:Heap=>heavy_c ha.atStart h;have c5:=fun h:Heap=>heavy_c ha.atStop h;(try clear zz);clear ha;obtain⟨aname,aparams,adur,start,over,stop,atStart,atStop⟩:=a;simp only at hinv c1 c2 c3 c4 c5;generalize start.size=s1 at hinv c1;generalize over.size=s2 at hinv c2;generalize stop.size=s3 at hinv c3;generalize heavyM 0 atStart=s4 at hinv c4;generalize heavyM 0 atStop=s5 at hinv c5;obtain⟨fop,fna,far,fpa,fex,fki⟩:=start;obtain⟨fop2,fna2,far2,fpa2,fex2,fki2⟩:=over;obtain⟨fop3,fna3,far3,fpa3,fex3,fki3⟩:=stop;simp only[duRow,Fm.cells,List.cons_append,List.nil_append]at hr c1 c2 c3;replace zz:=uu6 g1 g3 g5 l6 hd hr;refine wy zz ?_;replace zz:=uu5 g1 g3 g5 l6 hr;(first|refine uV zz (c1 _) ?_|refine uA zz (c1 _) ?_);refine wy zz ?_;replace zz:=uu5 g1 g3 g5 l6 hr;(first|refine uV zz (c2 _) ?_|refine uA zz (c2 _) ?_);refine wy zz ?_;replace zz:=uu5 g1 g3 g5 l6 hr;(first|refine uV zz (c3 _) ?_|refine uA zz (c3 _) ?_);refine wy zz ?_;replace zz:=uu5 g1 g3 g5 l6 hr;(first|refine uV zz (c4 _) ?_|refine uA zz (c4 _) ?_);refine wy zz ?_;replace zz:=uu5 g1 g3 g5 l6 hr;(first|refine uV zz (c5 _) ?_|refine uA zz (c5 _) ?_);replace zz:=uu6 g1 g3 g5 l6 hr w7;refine wy zz ?_;exact⟨duratives.length-(k+1),by omega,(hg.new _).set hg.le _,by rw[hC],k+1,_,by simp,rfl,by omega,rfl,hinv⟩
    ·have hd:decide ((k:Int)<(duratives.length:Int))=false:=(by simp;omega);rw[List.drop_eq_nil_of_le (by omega)]at hinv;simp only[dursM]at hinv;replace zz:=uu5 g1 g3 g5 l6 hd;refine wt zz ?_;simp only[Ty.w,simprocAttr,g1,g3,hinv];exact hg
  ·(try clear zz);clear g1 g3;rintro S h2 ⟨hg,g3⟩;refine wm g3 ?_;try exact zI
   all_goals first|exact hg|exact⟨rfl,hg⟩
end Go.Proofs.YtblgchkahpgdjaaGreat
namespace Go.AM
def mnO:Option Nat→Option Nat→Option Nat
 |none,b=>b
 |some a,none=>some a
 |some a,some b=>if a≤b then some a else some b
def Tch(q:Option Nat)(h h':Heap):Prop:=match q with
 |none=>h'=h
 |some m=>h.next≤h'.next∧ ∀ id,id<m→h'.obj id=h.obj id
theorem Tch.trans{q q':Option Nat}{h h1 h':Heap}(a:Tch q h h1)(b:Tch q' h1 h'):Tch (mnO q q') h h':=by
 cases q with
 |none=>simp only[Tch]at a;subst a;simpa only[mnO]using b
 |some m=>
  cases q' with
  |none=>simp only[Tch]at b;subst b;simpa only[mnO]using a
  |some m'=>
   simp only[Tch]at a b;simp only[mnO];split<;>simp only[Tch]<;>refine⟨by omega,fun id hid=>?_⟩
   ·rw [b.2 id (by omega),a.2 id hid]
   ·rw [b.2 id hid,a.2 id (by omega)]
def ptrOf:PV→Nat
 | .ptr id _ _=>id
 |_=>0
def mapOf:PV→Nat
 | .mp id=>id
 |_=>0
def ownOf(n:Nat):PV→Nat
 | .own id _ _=>if id≤n then id else n
 |_=>n
def tchO(op:Op)(ρ:Operand→PV)(h:Heap):Nat:=match op with
 | .store _ a _=>ptrOf (ρ a)
 | .mapUpdate _ x _ _=>mapOf (ρ x)
 | .call {callee:= .builtin .append,args:=args,.. }=>(match args.toList with
  |x::_=>ownOf h.next (ρ x)
  |[]=>0)
 |_=>h.next
theorem tch_new{h:Heap}{o:AObj}:Tch (some h.next) h (h.new o):=by
 simp only[Tch,new_next];exact⟨by omega,fun id hid=>by rw[new_obj,if_neg (by omega)]⟩
theorem tch_set{h:Heap}{i:Nat}{o:AObj}:Tch (some i) h (h.set i o):=by
 simp only[Tch,set_next];exact⟨by omega,fun id hid=>by rw[set_obj,if_neg (by omega)]⟩
theorem tch_id{h:Heap}{m:Nat}:Tch (some m) h h:=⟨Nat.le_refl _,fun _ _=>rfl⟩
theorem app_tch{z bytes:Nat}{h h':Heap}{x y v:PV}(ha:app z bytes h x y=some (v,h')):Tch (some (ownOf h.next x)) h h':=by
 unfold app at ha;split at ha
 case isFalse=>simp at ha
 split at ha
 case h_2=>simp at ha
 rename_i nw h1 old hv ht;split at ha
 case isFalse=>simp at ha
 simp only[Option.some.injEq,Prod.mk.injEq]at ha;obtain⟨_,rfl⟩:=ha;unfold isTail at ht;split at ht
 ·simp only[Option.some.injEq,Prod.mk.injEq]at ht;obtain⟨rfl,rfl⟩:=ht;exact tch_new
 ·simp only[Option.some.injEq,Prod.mk.injEq]at ht;obtain⟨rfl,rfl⟩:=ht;exact tch_new
 ·split at ht
  case h_2=>simp at ht
  split at ht
  case isFalse=>simp at ht
  simp only[Option.some.injEq,Prod.mk.injEq]at ht;obtain⟨rfl,rfl⟩:=ht;simp only[Tch,new_next,kill_next,ownOf];refine⟨by omega,fun id hid=>?_⟩;rw[new_obj,kill_next];split at hid
  ·rw [if_neg (by omega),kill_obj,if_neg (by omega)]
  ·rw [if_neg (by omega),kill_obj,if_neg (by omega)]
 ·simp at ht
theorem wr_tch{h h':Heap}{vc:List PV}{p:PV}(hw:wr h vc p=some h'):Tch (some (ptrOf p)) h h':=by
 cases p with
 |ptr id i f=>
  simp only[wr]at hw;split at hw
  ·split at hw
   ·split at hw
    ·simp at hw;subst hw;exact tch_set
    ·simp at hw
   ·simp at hw
  ·simp at hw
 |_=>simp[wr]at hw
theorem eff_tch{P:Program}{ow:Bool}{op:Op}{ρ:Operand→PV}{h h':Heap}{v:PV}(he:eff P ow op ρ h=some (v,h')):Tch (some (tchO op ρ h)) h h':=by
  unfold eff at he;split at he;all_goals(repeat'(split at he))
  all_goals first
    |(simp[Option.bind_eq_some_iff,Option.map_eq_some_iff]at he;done)
    |(simp only[Option.some.injEq,Prod.mk.injEq]at he;obtain⟨_,rfl⟩:=he;exact tch_id)
    |(simp only[Option.some.injEq,Prod.mk.injEq]at he;obtain⟨_,rfl⟩:=he;exact tch_new)
    |(simp only[Option.map_eq_some_iff,Prod.mk.injEq]at he;obtain⟨_,_,_,rfl⟩:=he;exact tch_id)
    |(simp[Option.bind_eq_some_iff,Option.map_eq_some_iff]at he;grind [tch_id,tch_new,tch_set])
    | (simp only [Option.bind_eq_some_iff] at he
       obtain⟨_,_,he⟩:=he
       (first
         | (split at he
            · simp only[Option.some.injEq,Prod.mk.injEq]at he;obtain⟨_,rfl⟩:=he;exact tch_new
            · simp at he)
         | (obtain ⟨_, _, he⟩ := he
            split at he
            · simp only [Option.bind_eq_some_iff] at he;obtain⟨_,_,he⟩:=he;simp only[Option.some.injEq,Prod.mk.injEq]at he;obtain⟨_,rfl⟩:=he;exact tch_new
            · simp at he)
         | (obtain ⟨_, _, _, _, _, _, he⟩ := he
            split at he
            · simp only[Option.some.injEq,Prod.mk.injEq]at he;obtain⟨_,rfl⟩:=he;exact tch_new
            · simp at he)
         | (split at he
            · simp only [Option.map_eq_some_iff, Prod.mk.injEq] at he;obtain⟨_,hw,_,rfl⟩:=he;exact wr_tch hw
            · simp at he)))
    |skip
  · rename_i hid _ _ _ _;simp only[Option.bind_eq_some_iff]at he;obtain⟨_,_,he⟩:=he;split at he
    · simp only [Option.map_eq_some_iff, Prod.mk.injEq] at he;obtain⟨es',_,_,rfl⟩:=he;simp only[tchO];simp only[*,mapOf];exact tch_set
    · simp at he
  · rename_i hl htu;simp only[Option.bind_eq_some_iff]at he;obtain⟨_,_,he⟩:=he;have:=app_tch he;simp only[tchO];simp only[*]
mutual
def inNb(n:Nat):PV→Bool
 | .sc _=>true
 | .ptr id _ _=>decide (id<n)
 | .cptr cs=>inNLb n cs
 | .own id _ _=>decide (id<n)
 | .imm _ rows=>inNRb n rows
 | .emp=>true
 | .mp id=>decide (id<n)
 | .agg cs=>inNLb n cs
 | .tup cs=>inNLb n cs
 | .fn _ a b=>inNLb n a&&inNLb n b
 | .ab _ _ _ _ _=>true
def inNLb(n:Nat):List PV→Bool
 |[]=>true
 |p::ps=>inNb n p&&inNLb n ps
def inNRb(n:Nat):List (List PV)→Bool
 |[]=>true
 |r::rs=>inNLb n r&&inNRb n rs
end
mutual
theorem inNb_ok{n:Nat}:(p:PV)→inNb n p=true→inN n p
 | .sc _,_=>by simp only[inN]
 | .ptr _ _ _,h=>by simp only[inNb,decide_eq_true_eq]at h;simpa only[inN]using h
 | .cptr cs,h=>by simp only[inNb]at h;simp only[inN];exact inNLb_ok cs h
 | .own _ _ _,h=>by simp only[inNb,decide_eq_true_eq]at h;simpa only[inN]using h
 | .imm _ rows,h=>by simp only[inNb]at h;simp only[inN];exact inNRb_ok rows h
 | .emp,_=>by simp only[inN]
 | .mp _,h=>by simp only[inNb,decide_eq_true_eq]at h;simpa only[inN]using h
 | .agg cs,h=>by simp only[inNb]at h;simp only[inN];exact inNLb_ok cs h
 | .tup cs,h=>by simp only[inNb]at h;simp only[inN];exact inNLb_ok cs h
 | .fn _ a b,h=>by simp only[inNb,Bool.and_eq_true]at h;simp only[inN];exact⟨inNLb_ok a h.1,inNLb_ok b h.2⟩
 | .ab _ _ _ _ _,_=>by simp only[inN]
theorem inNLb_ok{n:Nat}:(l:List PV)→inNLb n l=true→inNL n l
 |[],_=>by simp only[inNL]
 |p::ps,h=>by simp only[inNLb,Bool.and_eq_true]at h;simp only[inNL];exact⟨inNb_ok p h.1,inNLb_ok ps h.2⟩
theorem inNRb_ok{n:Nat}:(l:List (List PV))→inNRb n l=true→inNR n l
 |[],_=>by simp only[inNR]
 |p::ps,h=>by simp only[inNRb,Bool.and_eq_true]at h;simp only[inNR];exact⟨inNLb_ok p h.1,inNRb_ok ps h.2⟩
end
mutual
def frzP(h':Heap)(n:Nat):Nat→PV→Option PV
 |0,_=>none
 |k+1,p=>match p with
  | .sc v=>some (.sc v)
  | .ptr id i f=>if id<n then some (.ptr id i f)else match h'.obj id with
   |some (.arr _ rows)=>(match rows[i]? with
    |some q=>(frzL h' n k (q.drop f)).map .cptr
    |none=>none)
   |_=>none
  | .own id off len=>if id<n then some (.own id off len)else match h'.obj id with
   |some (.arr z rows)=>if off+len≤rows.length then(frzR h' n k ((rows.drop off).take len)).map (.imm z)else none
   |_=>none
  | .imm z rows=>if inNRb n rows=true then some (.imm z rows)else none
  | .cptr cs=>if inNLb n cs=true then some (.cptr cs)else none
  | .emp=>some .emp
  | .mp id=>if id<n then some (.mp id)else none
  | .agg cs=>(frzL h' n k cs).map .agg
  | .tup cs=>(frzL h' n k cs).map .tup
  | .fn f a b=>if(inNLb n a&&inNLb n b)=true then some (.fn f a b)else none
  | .ab k lo hi m r=>some (.ab k lo hi m r)
def frzL(h':Heap)(n:Nat):Nat→List PV→Option (List PV)
 |0,_=>none
 |_+1,[]=>some []
 |k+1,p::ps=>match frzP h' n k p with
  |some q=>(frzL h' n k ps).map (q::·)
  |none=>none
def frzR(h':Heap)(n:Nat):Nat→List (List PV)→Option (List (List PV))
 |0,_=>none
 |_+1,[]=>some []
 |k+1,p::ps=>match frzL h' n k p with
  |some q=>(frzR h' n k ps).map (q::·)
  |none=>none
end
mutual
theorem frzP_ok{h':Heap}{n:Nat}: ∀ (k:Nat)(p:PV){r:PV},frzP h' n k p=some r→FrzTo n h' r p
 |0,_,_,h=>by simp[frzP]at h
 |k+1,p,r,h=>by
  unfold frzP at h;split at h
  ·simp at h;subst h;simp only[FrzTo]
  ·split at h
   ·rename_i hid;simp at h;subst h;simp only[FrzTo];exact⟨trivial,hid⟩
   ·rename_i id i f hid;split at h
    ·rename_i z rows hob;split at h
     ·rename_i q hq;simp only[Option.map_eq_some_iff]at h;obtain⟨cs,hc,rfl⟩:=h;simp only[FrzTo];exact .inr ⟨id,i,f,z,rows,q,rfl,by omega,hob,hq,frzL_ok k _ hc⟩
     ·simp at h
    ·simp at h
  ·split at h
   ·rename_i hid;simp at h;subst h;simp only[FrzTo];exact⟨trivial,hid⟩
   ·rename_i id off len hid;split at h
    ·rename_i z rows hob;split at h
     ·rename_i hle;simp only[Option.map_eq_some_iff]at h;obtain⟨rs,hc,rfl⟩:=h;simp only[FrzTo];exact .inr (.inr ⟨id,off,len,rows,rfl,by omega,hob,hle,frzR_ok k _ hc⟩)
     ·simp at h
    ·simp at h
  ·split at h
   ·rename_i hi;simp at h;subst h;simp only[FrzTo];exact .inl ⟨trivial,inNRb_ok _ hi⟩
   ·simp at h
  ·split at h
   ·rename_i hi;simp at h;subst h;simp only[FrzTo];exact .inl ⟨trivial,inNLb_ok _ hi⟩
   ·simp at h
  ·simp at h;subst h;simp only[FrzTo]
  ·split at h
   ·rename_i hid;simp at h;subst h;simp only[FrzTo];exact⟨trivial,hid⟩
   ·simp at h
  ·simp only[Option.map_eq_some_iff]at h;obtain⟨cs,hc,rfl⟩:=h;simp only[FrzTo];exact⟨_,rfl,frzL_ok k _ hc⟩
  ·simp only[Option.map_eq_some_iff]at h;obtain⟨cs,hc,rfl⟩:=h;simp only[FrzTo];exact⟨_,rfl,frzL_ok k _ hc⟩
  ·split at h
   ·rename_i hi;simp only[Bool.and_eq_true]at hi;simp at h;subst h;simp only[FrzTo];exact⟨trivial,inNLb_ok _ hi.1,inNLb_ok _ hi.2⟩
   ·simp at h
  ·simp at h;subst h;simp only[FrzTo]
theorem frzL_ok{h':Heap}{n:Nat}: ∀ (k:Nat)(l:List PV){r:List PV},frzL h' n k l=some r→FrzL n h' r l
 |0,_,_,h=>by simp[frzL]at h
 |k+1,[],r,h=>by simp[frzL]at h;subst h;simp only[FrzL]
 |k+1,p::ps,r,h=>by
  unfold frzL at h;split at h
  ·rename_i q hq;simp only[Option.map_eq_some_iff]at h;obtain⟨qs,hc,rfl⟩:=h;simp only[FrzL];exact⟨frzP_ok k p hq,frzL_ok k ps hc⟩
  ·simp at h
theorem frzR_ok{h':Heap}{n:Nat}: ∀ (k:Nat)(l:List (List PV)){r:List (List PV)},frzR h' n k l=some r→FrzR n h' r l
 |0,_,_,h=>by simp[frzR]at h
 |k+1,[],r,h=>by simp[frzR]at h;subst h;simp only[FrzR]
 |k+1,p::ps,r,h=>by
  unfold frzR at h;split at h
  ·rename_i q hq;simp only[Option.map_eq_some_iff]at h;obtain⟨qs,hc,rfl⟩:=h;simp only[FrzR];exact⟨frzL_ok k p hq,frzR_ok k ps hc⟩
  ·simp at h
end
def dropB(q:Option Nat)(n:Nat):Bool:=match q with
 |none=>true
 |some t=>decide (n≤t)
def endS:Option (Exit × Slots × Option Nat × Heap)→Option (Slots × Option Nat × Heap)
 |some (.normal,r)=>some r
 |some (.ret,r)=>some r
 |_=>none
theorem endS_some{x:Option (Exit × Slots × Option Nat × Heap)}{r:Slots × Option Nat × Heap}(h:endS x=some r): ∃ e,(e= .normal∨e= .ret)∧x=some (e,r):=by
 unfold endS at h;split at h
 ·simp at h;subst h;exact⟨_,.inl rfl,rfl⟩
 ·simp at h;subst h;exact⟨_,.inr rfl,rfl⟩
 ·simp at h
abbrev CallR2:=FuncId→List PV→Heap→Option (PV × Option Nat × Heap)
section
variable (P:Program)(wf:FuncId→Bool)(own:FuncId→Nat→Bool)(ext:FuncId→List PV→Heap→Option PV)
def xop2(call:CallR2)(ow:Nat→Bool)(o:Oper)(ρ:Operand→PV)(h:Heap):Option (PV × Option Nat × Heap):=
 match callee ρ o.op with
 |some (f,args)=>call f args h
 |none=>match eff P (o.dst.any ow) o.op ρ h with
  |some (v,h')=>some (v,(if isW ow wf o=true then some (tchO o.op ρ h)else none),h')
  |none=>none
def xagain2(call:CallR2)(ow:Nat→Bool)(o:Oper)(ρ:Operand→PV)(h:Heap)(v:PV):Bool:=
 match xop2 P wf call ow o ρ h with
 |some (v',q,_)=>q.isNone&&pvEq v' v
 |none=>false
def xl2(call:CallR2)(ow:Nat→Bool)(n:Nat)(ops:List Oper):List Oper→Slots→Option Nat→Heap→Option (Slots × Option Nat × Heap)
 |[],s,q,h=>some (s,q,h)
 | o :: rest, s, q, h => if o.dst.all (fun d => decide (d < n)) = true then
   match wantedB ops s o with
   |none=>none
   |some false=>xl2 call ow n ops rest (updO s o.dst (.sc undef)) q h
   |some true=>match xop2 P wf call ow o (pev s) h with
    |some (v,q',h')=>xl2 call ow n ops rest (updO s o.dst v) (mnO q q') h'
    |none=>none
  else none
def xopR(call:CallR2)(ow:Nat→Bool)(id:Nat)(o:Oper)(ρ:Operand→PV)(h:Heap):Option (PV × Option Nat × Heap):=
 match o.op with
 | .alloc t=>match zeroT P t with
  |some zs=>if 0<zs.length then some (.ptr id 0 0,some id,h.set id (.arr zs.length [zs.map .sc]))else none
  |none=>none
 |_=>xop2 P wf call ow o ρ h
def xd2(call:CallR2)(ow:Nat→Bool)(n:Nat)(ops:List Oper):Nat→List Oper→List (Nat × Oper × Slots × PV)→List (Nat × Heap)→Slots→Option Nat→Heap→Option (Slots × Option Nat × Heap)
 |_,[],_,_,s,q,h=>some (s,q,h)
 | k, o :: rest, past, hist, s, q, h => if o.dst.all (fun d => decide (d < n)) = true then
   match wantedB ops s o with
   |none=>none
   |some false=>xd2 call ow n ops (k+1) rest past hist (updO s o.dst (.sc undef)) q h
   |some true=>match xop2 P wf call ow o (pev s) h with
    |none=>none
    |some (v,q',h')=>
     if isW ow wf o=true then
      (if past.all (fun x=>pre ops x.1 k||xagain2 P wf call ow x.2.1 (pev x.2.2.1) h' x.2.2.2)=true then xd2 call ow n ops (k+1) rest past ((k,h)::hist) (updO s o.dst v) (mnO q q') h' else none)
     else if q'.isNone=true then
      (if hist.all (fun x=>pre ops x.1 k||xagain2 P wf call ow o (pev s) x.2 v)=true then xd2 call ow n ops (k+1) rest ((k,o,s,v)::past) hist (updO s o.dst v) q h else none)
     else none
  else none
def xd3(call:CallR2)(ow:Nat→Bool)(n:Nat)(ops:List Oper)(base:Nat):Nat→List Oper→List (Nat × Oper × Slots × PV)→List (Nat × Heap)→Slots→Option Nat→Heap→Option (Slots × Option Nat × Heap)
 |_,[],_,_,s,q,h=>some (s,q,h)
 | k, o :: rest, past, hist, s, q, h => if o.dst.all (fun d => decide (d < n)) = true then
   match wantedB ops s o with
   |none=>none
   |some false=>xd3 call ow n ops base (k+1) rest past hist (updO s o.dst (.sc undef)) q h
   |some true=>match xopR P wf call ow (base+k) o (pev s) h with
    |none=>none
    |some (v,q',h')=>
     if isW ow wf o=true then
      (if(past.all (fun x=>pre ops x.1 k||xagain2 P wf call ow x.2.1 (pev x.2.2.1) h' x.2.2.2)&&((List.range ops.length).all fun f=>!(decide (k<f)&&alB ops f)||(h'.obj (base+f)).isNone))=true then xd3 call ow n ops base (k+1) rest past ((k,h)::hist) (updO s o.dst v) (mnO q q') h' else none)
     else if q'.isNone=true then
      (if hist.all (fun x=>pre ops x.1 k||xagain2 P wf call ow o (pev s) x.2 v)=true then xd3 call ow n ops base (k+1) rest ((k,o,s,v)::past) hist (updO s o.dst v) q h else none)
     else none
  else none
structure Rc where
 s:Slots
 h:Heap
 v:PV
 l:Option (Nat × AObj)
 b:Bool
def unoB(ops:List Oper)(x f:Nat):Bool:=!(x==f)&&!(pre ops x f)&&!(pre ops f x)
def laterA(ow:Nat→Bool)(ops:List Oper)(k:Nat):List Nat:=(List.range ops.length).filter fun f=>decide (k<f)&&(ops[f]?).any (isA ow)
def killsAt(ow:Nat→Bool)(ops:List Oper)(base k:Nat)(ls:List (Nat × Nat)):List Nat:=(ls.filterMap fun p=>if unoB ops k p.1=true then some p.2 else none)++(laterA ow ops k).map (base+·)
def x4(call:CallR2)(ow:Nat→Bool)(ops:List Oper)(base k:Nat)(ls:List (Nat × Nat))(o:Oper)(s:Slots)(h:Heap):Option (PV × Option Nat × Heap × Option (Nat × AObj)× Bool):=
 if isW ow wf o=true then
  (if isA ow o = true then (match aop P ow (base + k) o (pev s) with
   |some (v,ob)=>some (v,some (base+k),h.set (base+k) ob,some (base+k,ob),false)
   |none=>none)
  else match o.op with
   | .store t x y=>(match pev s x with
    | .ptr id _ _=>(match eff P (o.dst.any ow) (.store t x y) (pev s) h with
     |some (v,h')=>(match h'.obj id with
      |some ob=>some (v,some id,h.set id ob,some (id,ob),false)
      |none=>none)
     |none=>none)
    |_=>none)
   |_=>(match xop2 P wf call ow o (pev s) (killL h (killsAt ow ops base k ls))with
    |some (v,q,h')=>if((killsAt ow ops base k ls).all (fun id=>(h'.obj id).isNone)&&(laterA ow ops k).all (fun f=>(h.obj (base+f)).isNone))=true then some (v,q,putL h' h (killsAt ow ops base k ls),none,true)else none
    |none=>none))
 else match xop2 P wf call ow o (pev s) (killL h (killsAt ow ops base k ls))with
  |some (v,q,_)=>if q.isNone=true then some (v,none,h,none,false)else none
  |none=>none
def addL(k:Nat)(l:Option (Nat × AObj))(ls:List (Nat × Nat)):List (Nat × Nat):=match l with
 |some p=>(k,p.1)::ls
 |none=>ls
def xr4(call:CallR2)(ow:Nat→Bool)(n:Nat)(ops:List Oper)(base:Nat):Nat→List Oper→List (Nat × Nat)→Slots→Option Nat→Heap→Option (List Rc × Slots × Option Nat × Heap)
 |_,[],_,s,q,h=>some ([],s,q,h)
 | k, o :: rest, ls, s, q, h => if o.dst.all (fun d => decide (d < n)) = true then
   match wantedB ops s o with
   |none=>none
   |some false=>(xr4 call ow n ops base (k+1) rest ls (updO s o.dst (.sc undef)) q h).map fun r=>(⟨s,h,.emp,none,false⟩::r.1,r.2)
   |some true=>match x4 P wf call ow ops base k ls o s h with
    |none=>none
    |some (v,q',h',l,b)=>(xr4 call ow n ops base (k+1) rest (addL k l ls) (updO s o.dst v) (mnO q q') h').map fun r=>(⟨s,h,v,l,b⟩::r.1,r.2)
  else none
def gS(rs:List Rc)(sf:Slots)(j:Nat):Slots:=match rs[j]? with|some r=>r.s|none=>sf
def gH(rs:List Rc)(hf:Heap)(j:Nat):Heap:=match rs[j]? with|some r=>r.h|none=>hf
def gV(rs:List Rc)(j:Nat):PV:=match rs[j]? with|some r=>r.v|none=> .emp
def gL(rs:List Rc)(j:Nat):Option (Nat × AObj):=match rs[j]? with|some r=>r.l|none=>none
def gB(rs:List Rc)(j:Nat):Bool:=match rs[j]? with|some r=>r.b|none=>false
def rng(n:Nat)(p:Nat→Bool):Bool:=(List.range n).all p
def wwB(ow:Nat→Bool)(ops:List Oper)(lt:Nat→Option (Nat × AObj))(br:Nat→Bool):Bool:=
 rng ops.length fun j=>!(br j||(lt j).isSome)||rng j fun i=>!(br i||(lt i).isSome)||pre ops i j||(match lt i,lt j with|some p,some q=>!(p.1==q.1)|_,_=>false)||(br i&&(lt j).isSome&&(ops[j]?).any (isA ow))||((lt i).isSome&&br j&&(ops[i]?).any (isA ow))
def lateB(ow:Nat→Bool)(ops:List Oper)(base:Nat)(hk:Nat→Heap)(lt:Nat→Option (Nat × AObj))(br:Nat→Bool):Bool:=
 rng ops.length fun j=>(!(br j||(lt j).isSome))||rng ops.length fun f=>!(decide (j<f)&&(ops[f]?).any (isA ow))||(if br j=true then((hk (j+1)).obj (base+f)).isNone else match lt j with|some p=>!(base+f==p.1)|none=>true)
def isSt(o:Oper):Bool:=match o.op with
 | .store _ _ _=>true
 |_=>false
def lastBr(br:Nat→Bool)(k:Nat):Nat:=lastOf br k
def cutB(ops:List Oper)(br:Nat→Bool)(x M:Nat):Bool:=(M==0||br (M-1))&&rng ops.length fun b=>!(br b)||(if b<M then !(pre ops x b)else !(pre ops b x))
def noSt(ops:List Oper)(k:Nat):Bool:=rng ops.length fun f=>!(decide (k<f)&&(ops[f]?).any isSt&&unoB ops k f)
def quietB(call:CallR2)(ow:Nat→Bool)(ops:List Oper)(sk:Nat→Slots)(hk:Nat→Heap)(vk:Nat→PV)(lt:Nat→Option (Nat × AObj))(br:Nat→Bool):Bool:=
 rng ops.length fun k=>match ops[k]? with
  |none=>true
  |some o=>isW ow wf o||(match wantedB ops (sk k) o with
   |some true=>rng (ops.length+1) fun M=>!(cutB ops br k M)||((M==lastBr br k)&&noSt ops k)||xagain2 P wf call ow o (pev (sk k)) (gx ops lt hk k M (kx ow ops lt k)) (vk k)
   |_=>true)
def xd4(call:CallR2)(ow:Nat→Bool)(n:Nat)(ops:List Oper)(base:Nat)(s:Slots)(q:Option Nat)(h:Heap):Option (Slots × Option Nat × Heap):=
 match xr4 P wf call ow n ops base 0 ops [] s q h with
 |none=>none
 |some (rs,sf,qf,hf)=>if(wwB ow ops (gL rs) (gB rs)&&lateB ow ops base (gH rs hf) (gL rs) (gB rs)&&quietB P wf call ow ops (gS rs sf) (gH rs hf) (gV rs) (gL rs) (gB rs))=true then some (sf,qf,hf)else none
def xc2(call:CallR2)(ow:Nat→Bool)(n:Nat):Nat→Code→Slots→Option Nat→Heap→Option (Exit × Slots × Option Nat × Heap)
 |0,_,_,_,_=>none
 |k+1,c,s,q,h=>match c with
  | .skip=>some (.normal,s,q,h)
  | .region _ ops true => if dOk ow wf ops.toList = true then (xd2 P wf call ow n ops.toList 0 ops.toList [] [] s q h).map (Exit.normal, ·)
    else if dOk2 ow wf ops.toList=true then(xd3 P wf call ow n ops.toList h.next 0 ops.toList [] [] s (mnO q (some h.next)) ⟨h.next+ops.toList.length,h.obj⟩).map (Exit.normal,·)
    else if dOk3 ops.toList=true then(xd4 P wf call ow n ops.toList h.next s (mnO q (some h.next)) ⟨h.next+ops.toList.length,h.obj⟩).map (Exit.normal,·)else none
  | .region _ ops false=>(xl2 P wf call ow n ops.toList ops.toList s q h).map (Exit.normal,·)
  | .seq a b=>match xc2 call ow n k a s q h with
   |some (.normal,s',q',h')=>xc2 call ow n k b s' q' h'
   |r=>r
  | .cond c x y=>match pev s c with
   | .sc (.bool true)=>xc2 call ow n k x s q h
   | .sc (.bool false)=>xc2 call ow n k y s q h
   |_=>none
  | .block id c=>match xc2 call ow n k c s q h with
   |some (.exit id',s',q',h')=>some (if id'=id then .normal else .exit id',s',q',h')
   |r=>r
  | .loop c=>match xc2 call ow n k c s q h with
   |some (.normal,s',q',h')=>xc2 call ow n k (.loop c) s' q' h'
   |r=>r
  | .exit id=>some (.exit id,s,q,h)
  | .ret=>some (.ret,s,q,h)
  |_=>none
def xf2(keep:FuncId→Bool)(m:Nat):Nat→CallR2
  |0,_,_,_=>none
  |k+1,f,args,h=>match ext f args h with
   |some r=>some (r,none,h)
   |none=>match P.funcs[f]? with
    |none=>none
    |some fn=>if hasBody P f=true∧args.length≤fn.ntmps then match fn.body with
        |none=>none
        |some c=>match endS (xc2 P wf (xf2 keep m k) (own f) fn.ntmps m c (slots0 args) none h)with
          |some (s,q,h')=>match resAll P s h' fn.results.toList with
            |none=>none
            |some vs=>if(!(keep f)&&dropB q h.next)=true then(match frzP h' h.next 1000 (resV vs)with
                |some r=>some (r,none,h)
                |none=>some (resV vs,q,h'))else some (resV vs,q,h')
          |none=>none
      else none
end
section
variable {P:Program}{wf:FuncId→Bool}{own:FuncId→Nat→Bool}
def ExtOk2(P:Program)(ext:FuncId→List PV→Heap→Option PV):Prop:= ∀ f args r h,ext f args h=some r→PCall P f args h (fun r' h'=>r'=r∧h'=h)
def CallOk2(P:Program)(call:CallR2):Prop:= ∀ f args h v q h',call f args h=some (v,q,h')→PCall P f args h (fun r h''=>r=v∧h''=h')∧Tch q h h'
theorem xop_ok2{call:CallR2}(hk:CallOk2 P call){ow:Nat→Bool}{o:Oper}{ρ:Operand→PV}{h h':Heap}{v:PV}{q:Option Nat}(hx:xop2 P wf call ow o ρ h=some (v,q,h')):Does P ow o ρ h v h'∧Tch q h h':=by
 unfold xop2 at hx;unfold Does;split at hx
 ·rename_i f args hc;rw[hc];exact hk _ _ _ _ _ _ hx
 ·rename_i hc;rw[hc];split at hx
  ·rename_i v1 h1 he;simp only[Option.some.injEq,Prod.mk.injEq]at hx;obtain⟨rfl,rfl,rfl⟩:=hx;refine⟨he,?_⟩;split
   ·exact eff_tch he
   ·rename_i hw;exact eff_same (by simpa using hw) hc he
  ·simp at hx
theorem xagain_ok2{call:CallR2}(hk:CallOk2 P call){ow:Nat→Bool}{o:Oper}{ρ:Operand→PV}{h:Heap}{v:PV}(hx:xagain2 P wf call ow o ρ h v=true):Does P ow o ρ h v h:=by
 unfold xagain2 at hx;split at hx
 ·rename_i v' q h' hp;simp only[Bool.and_eq_true,Option.isNone_iff_eq_none]at hx;obtain⟨rfl,hx⟩:=hx;obtain⟨h1,h2⟩:=xop_ok2 hk hp;simp only[Tch]at h2;rw[h2,pvEq_eq _ _ hx]at h1;exact h1
 ·simp at hx
theorem xl_ok2{call:CallR2}(hk:CallOk2 P call){ow:Nat→Bool}{n:Nat}{ops:List Oper}{K:Slots→Heap→Prop}: ∀ (l:List Oper){s s':Slots}{q q':Option Nat}{h h':Heap},xl2 P wf call ow n ops l s q h=some (s',q',h')→
  (K s' h'→lwp P ow n ops l K s h)∧(∀ h0,Tch q h0 h→Tch q' h0 h')
 |[],s,s',q,q',h,h',hx=>by
  simp only[xl2,Option.some.injEq,Prod.mk.injEq]at hx;obtain⟨rfl,rfl,rfl⟩:=hx;exact⟨fun hK=>hK,fun h0 hq=>hq⟩
 |o::rest,s,s',q,q',h,h',hx=>by
  unfold xl2 at hx;split at hx
  ·rename_i hd;unfold lwp;split at hx
   ·simp at hx
   ·rename_i hw;obtain⟨h1,h2⟩:=xl_ok2 (K:=K) hk rest hx;rw[hw];exact⟨fun hK=>⟨hd,by simpa using h1 hK⟩,h2⟩
   ·rename_i hw;split at hx
    ·rename_i v q1 h1 hp;obtain⟨d1,d2⟩:=xop_ok2 hk hp;obtain⟨g1,g2⟩:=xl_ok2 (K:=K) hk rest hx;rw[hw];exact⟨fun hK=>⟨hd,by simpa using d1.owp (g1 hK)⟩,fun h0 hq=>g2 h0 (hq.trans d2)⟩
    ·simp at hx
  ·simp at hx
theorem xd_ok2{call:CallR2}(hk:CallOk2 P call){ow:Nat→Bool}{n:Nat}{ops:List Oper}{K:Slots→Heap→Prop}: ∀ (l:List Oper)(k:Nat){past:List (Nat × Oper × Slots × PV)}{hist:List (Nat × Heap)}{s s':Slots}{q q':Option Nat}{h h':Heap},xd2 P wf call ow n ops k l past hist s q h=some (s',q',h')→
  (K s' h'→drun P ow wf n ops k l (past.map fun x=>(x.1,fun h2=>Does P ow x.2.1 (pev x.2.2.1) h2 x.2.2.2 h2)) hist K s h)∧(∀ h0,Tch q h0 h→Tch q' h0 h')
 |[],k,past,hist,s,s',q,q',h,h',hx=>by
  simp only[xd2,Option.some.injEq,Prod.mk.injEq]at hx;obtain⟨rfl,rfl,rfl⟩:=hx;exact⟨fun hK=>hK,fun h0 hq=>hq⟩
 |o::rest,k,past,hist,s,s',q,q',h,h',hx=>by
  unfold xd2 at hx;split at hx
  ·rename_i hd;unfold drun;split at hx
   ·simp at hx
   ·rename_i hw;obtain⟨h1,h2⟩:=xd_ok2 (K:=K) hk rest (k+1) hx;rw[hw];exact⟨fun hK=>⟨hd,by simpa using h1 hK⟩,h2⟩
   ·rename_i hw;split at hx
    ·simp at hx
    ·rename_i v q1 h1 hp;obtain⟨d1,d2⟩:=xop_ok2 hk hp;rw[hw];split at hx
     ·rename_i hiw;split at hx
      ·rename_i hpast;obtain⟨g1,g2⟩:=xd_ok2 (K:=K) hk rest (k+1) hx;refine⟨fun hK=>⟨hd,?_⟩,fun h0 hq=>g2 h0 (hq.trans d2)⟩
       ·simp only[hiw,if_true];refine⟨v,h1,d1,?_,g1 hK⟩;intro x hx1;obtain⟨y,hy,rfl⟩:=List.mem_map.1 hx1;have:=List.all_eq_true.1 hpast y hy;simp only[Bool.or_eq_true]at this;exact this.imp id (fun t=>xagain_ok2 hk t)
      ·simp at hx
     ·rename_i hiw;split at hx
      ·rename_i hq1;split at hx
       ·rename_i hhist;obtain⟨g1,g2⟩:=xd_ok2 (K:=K) hk rest (k+1) hx;refine⟨fun hK=>⟨hd,?_⟩,g2⟩;simp only[hiw,if_true,Bool.false_eq_true,if_false];have e1:h1=h:=(by rw[Option.isNone_iff_eq_none]at hq1;subst hq1;exact d2);subst e1;refine⟨v,d1,?_,g1 hK⟩;intro x hx1;have:=List.all_eq_true.1 hhist x hx1;simp only[Bool.or_eq_true]at this;exact this.imp id (fun t=>xagain_ok2 hk t)
       ·simp at hx
      ·simp at hx
  ·simp at hx
theorem xopR_ok{call:CallR2}(hk:CallOk2 P call){ow:Nat→Bool}{id:Nat}{o:Oper}{ρ:Operand→PV}{h h':Heap}{v:PV}{q:Option Nat}(hx:xopR P wf call ow id o ρ h=some (v,q,h')):DoesR P ow id o ρ h v h'∧Tch q h h':=by
 unfold xopR at hx;unfold DoesR;split at hx
 ·rename_i t hop;simp only[hop];split at hx
  ·rename_i zs hz;split at hx
   ·rename_i hpos;simp only[Option.some.injEq,Prod.mk.injEq]at hx;obtain⟨rfl,rfl,rfl⟩:=hx;exact⟨⟨zs,hz,hpos,rfl,rfl⟩,tch_set⟩
   ·simp at hx
  ·simp at hx
 ·rename_i hop;obtain⟨d1,d2⟩:=xop_ok2 hk hx;refine⟨?_,d2⟩;split
  ·rename_i t he;exact(hop t he).elim
  ·exact d1
theorem xd_ok3{call:CallR2}(hk:CallOk2 P call){ow:Nat→Bool}{n base:Nat}{ops:List Oper}{K:Slots→Heap→Prop}: ∀ (l:List Oper)(k:Nat){past:List (Nat × Oper × Slots × PV)}{hist:List (Nat × Heap)}{s s':Slots}{q q':Option Nat}{h h':Heap},xd3 P wf call ow n ops base k l past hist s q h=some (s',q',h')→
  (K s' h'→drun2 P ow wf n ops base k l (past.map fun x=>(x.1,fun h2=>Does P ow x.2.1 (pev x.2.2.1) h2 x.2.2.2 h2)) hist K s h)∧(∀ h0,Tch q h0 h→Tch q' h0 h')
 |[],k,past,hist,s,s',q,q',h,h',hx=>by
  simp only[xd3,Option.some.injEq,Prod.mk.injEq]at hx;obtain⟨rfl,rfl,rfl⟩:=hx;exact⟨fun hK=>hK,fun h0 hq=>hq⟩
 |o::rest,k,past,hist,s,s',q,q',h,h',hx=>by
  unfold xd3 at hx;split at hx
  ·rename_i hd;unfold drun2;split at hx
   ·simp at hx
   ·rename_i hw;obtain⟨h1,h2⟩:=xd_ok3 (K:=K) hk rest (k+1) hx;rw[hw];exact⟨fun hK=>⟨hd,by simpa using h1 hK⟩,h2⟩
   ·rename_i hw;split at hx
    ·simp at hx
    ·rename_i v q1 h1 hp;obtain⟨d1,d2⟩:=xopR_ok hk hp;rw[hw];split at hx
     ·rename_i hiw;split at hx
      ·rename_i hpn;simp only[Bool.and_eq_true]at hpn;obtain⟨hpast,hnone⟩:=hpn;obtain⟨g1,g2⟩:=xd_ok3 (K:=K) hk rest (k+1) hx;refine⟨fun hK=>⟨hd,?_⟩,fun h0 hq=>g2 h0 (hq.trans d2)⟩
       ·simp only[hiw,if_true];refine⟨v,h1,d1,fun f hf ha=>?_,?_,g1 hK⟩
        ·have hfl:f<ops.length:=by
          unfold alB at ha;split at ha
          ·rename_i hq;exact(List.getElem?_eq_some_iff.1 hq).1
          ·simp at ha
         have:=List.all_eq_true.1 hnone f (List.mem_range.2 hfl);simpa[hf,ha]using this
        intro x hx1;obtain⟨y,hy,rfl⟩:=List.mem_map.1 hx1;have:=List.all_eq_true.1 hpast y hy;simp only[Bool.or_eq_true]at this;exact this.imp id (fun t=>xagain_ok2 hk t)
      ·simp at hx
     ·rename_i hiw;split at hx
      ·rename_i hq1;split at hx
       ·rename_i hhist;obtain⟨g1,g2⟩:=xd_ok3 (K:=K) hk rest (k+1) hx;refine⟨fun hK=>⟨hd,?_⟩,g2⟩;simp only[hiw,if_true,Bool.false_eq_true,if_false];have e1:h1=h:=(by rw[Option.isNone_iff_eq_none]at hq1;subst hq1;exact d2);subst e1;refine⟨v,(doesR_of (by simpa using hiw)).1 d1,?_,g1 hK⟩;intro x hx1;have:=List.all_eq_true.1 hhist x hx1;simp only[Bool.or_eq_true]at this;exact this.imp id (fun t=>xagain_ok2 hk t)
       ·simp at hx
      ·simp at hx
  ·simp at hx
theorem rng_iff{n:Nat}{p:Nat→Bool}:rng n p=true↔ ∀ i,i<n→p i=true:=by simp[rng]
structure S4(P:Program)(ow:Nat→Bool)(wf:FuncId→Bool)(n:Nat)(ops:List Oper)(base:Nat)(k:Nat)(o:Oper)(s s':Slots)(h h':Heap)(v:PV)(l:Option (Nat × AObj))(b:Bool)(ls:List (Nat × Nat)):Prop where
 dst:o.dst.all (fun d=>decide (d<n))=true
 ok: ∃ w,wantedB ops s o=some w∧(w=false→s'=updO s o.dst (.sc undef)∧h'=h∧l=none∧b=false)∧
  (w = true → s' = updO s o.dst v ∧
   (isW ow wf o=false→h'=h∧l=none∧b=false∧Does P ow o (pev s) (killL h (killsAt ow ops base k ls)) v (killL h (killsAt ow ops base k ls)))∧
   (isW ow wf o = true →
    (b=true∧l=none∧ ∃ H',Does P ow o (pev s) (killL h (killsAt ow ops base k ls)) v H'∧(∀ id∈killsAt ow ops base k ls,H'.obj id=none)∧h'=putL H' h (killsAt ow ops base k ls)∧ ∀ f∈laterA ow ops k,h.obj (base+f)=none)∨
    (b=false∧isA ow o=true∧ ∃ ob,l=some (base+k,ob)∧aop P ow (base+k) o (pev s)=some (v,ob)∧h'=h.set (base+k) ob)∨
    (b=false∧ ∃ t x y id r f ob,o.op= .store t x y∧pev s x= .ptr id r f∧l=some (id,ob)∧h'=h.set id ob∧eff P (o.dst.any ow) o.op (pev s) h=some (v,h'))))
theorem store_set{t:TypeId}{x y:Operand}{b:Bool}{ρ:Operand→PV}{H H':Heap}{id r f:Nat}{ob:AObj}{v:PV}(hx:ρ x= .ptr id r f)(he:eff P b (.store t x y) ρ H=some (v,H'))(ho:H'.obj id=some ob):H'=H.set id ob:=by
 simp only[eff,Option.bind_eq_some_iff]at he;obtain⟨m,_,he⟩:=he;split at he
 ·simp only[Option.map_eq_some_iff,Prod.mk.injEq,hx,wr]at he;obtain⟨h2,hw,_,rfl⟩:=he;split at hw
  ·split at hw
   ·split at hw
    ·simp at hw;subst hw;simp[Heap.set]at ho;rw[ho]
    ·simp at hw
   ·simp at hw
  ·simp at hw
 ·simp at he
theorem tch_put{q:Option Nat}{h H':Heap}{l:List Nat}(hn: ∀ id∈l,H'.obj id=none)(ht:Tch q (killL h l) H'):Tch q h (putL H' h l):=by
 cases q with
 |none=>
  simp only[Tch]at ht⊢;subst ht;exact putL_killL
 |some m=>
  simp only[Tch]at ht⊢;refine⟨ht.1,fun id hid=>?_⟩;have h2:=ht.2 id hid;simp only[killL]at h2;simp only[putL];by_cases hc:id∈l
  ·have hc':l.contains id=true:=(by simpa using hc);cases ho:h.obj id with
   |none=>simp[hn id hc]
   |some o=>simp[hc]
  ·have hc':l.contains id=false:=(by simpa using hc);rw[if_neg (by simp[hc])];rw[hc']at h2;simpa using h2
theorem x4_ok{call:CallR2}(hk:CallOk2 P call){ow:Nat→Bool}{n:Nat}{ops:List Oper}{base k:Nat}{ls:List (Nat × Nat)}{o:Oper}{s:Slots}{h h':Heap}{v:PV}{q:Option Nat}{l:Option (Nat × AObj)}{b:Bool}(hd:o.dst.all (fun d=>decide (d<n))=true)(hw:wantedB ops s o=some true)(hx:x4 P wf call ow ops base k ls o s h=some (v,q,h',l,b)):
  S4 P ow wf n ops base k o s (updO s o.dst v) h h' v l b ls∧Tch q h h':=by
 unfold x4 at hx;split at hx
 ·rename_i hiw;split at hx
  ·rename_i hA;split at hx
   ·rename_i v1 ob ha;simp only[Option.some.injEq,Prod.mk.injEq]at hx;obtain⟨rfl,rfl,rfl,rfl,rfl⟩:=hx;exact⟨⟨hd,true,hw,(fun hc=>by cases hc),fun _=>⟨rfl,(fun hc=>by rw[hiw]at hc;cases hc),fun _=> .inr (.inl ⟨rfl,hA,ob,rfl,ha,rfl⟩)⟩⟩,tch_set⟩
   ·simp at hx
  ·split at hx
   ·rename_i t x y hop;split at hx
    ·rename_i id r f hp;split at hx
     ·rename_i v1 h1 he;split at hx
      ·rename_i ob hob;simp only[Option.some.injEq,Prod.mk.injEq]at hx;obtain⟨rfl,rfl,rfl,rfl,rfl⟩:=hx;have hs:=store_set hp he hob;refine⟨⟨hd,true,hw,(fun hc=>by cases hc),fun _=>⟨rfl,(fun hc=>by rw[hiw]at hc;cases hc),fun _=> .inr (.inr ⟨rfl,t,x,y,id,r,f,ob,hop,hp,rfl,rfl,?_⟩)⟩⟩,tch_set⟩;rw[hop,he,hs]
      ·simp at hx
     ·simp at hx
    ·simp at hx
   ·split at hx
    ·rename_i v1 q1 h1 hp;split at hx
     ·rename_i hno;simp only[Bool.and_eq_true,List.all_eq_true,Option.isNone_iff_eq_none]at hno;simp only[Option.some.injEq,Prod.mk.injEq]at hx;obtain⟨rfl,rfl,rfl,rfl,rfl⟩:=hx;obtain⟨d1,d2⟩:=xop_ok2 hk hp;exact⟨⟨hd,true,hw,(fun hc=>by cases hc),fun _=>⟨rfl,(fun hc=>by rw[hiw]at hc;cases hc),fun _=> .inl ⟨rfl,rfl,h1,d1,hno.1,rfl,hno.2⟩⟩⟩,tch_put hno.1 d2⟩
     ·simp at hx
    ·simp at hx
 ·rename_i hiw;split at hx
  ·rename_i v1 q1 h1 hp;split at hx
   ·rename_i hq;simp only[Option.some.injEq,Prod.mk.injEq]at hx;obtain⟨rfl,rfl,rfl,rfl,rfl⟩:=hx;obtain⟨d1,d2⟩:=xop_ok2 hk hp;rw[Option.isNone_iff_eq_none]at hq;subst hq;simp only[Tch]at d2;subst d2;exact⟨⟨hd,true,hw,(fun hc=>by cases hc),fun _=>⟨rfl,fun _=>⟨rfl,rfl,rfl,d1⟩,fun hc=>by rw[hc]at hiw;simp at hiw⟩⟩,rfl⟩
   ·simp at hx
  ·simp at hx
def lsAt(rs:List Rc):Nat→List (Nat × Nat)→Nat→List (Nat × Nat)
 |_,ls,0=>ls
 |k,ls,i+1=>match rs with
  |r::rs=>lsAt rs (k+1) (addL k r.l ls) i
  |[]=>ls
theorem lsAt_mem: ∀ (rs:List Rc)(k:Nat)(ls:List (Nat × Nat))(i f:Nat)(q:Nat × AObj),i≤rs.length→f<i→gL rs f=some q→(k+f,q.1)∈lsAt rs k ls i:=by
 have keep: ∀ (rs:List Rc)(k:Nat)(ls:List (Nat × Nat))(i:Nat)(x:Nat × Nat),x∈ls→x∈lsAt rs k ls i:=by
  intro rs
  induction rs with
  |nil=>intro k ls i x hx;cases i<;>simpa only[lsAt]using hx
  |cons r rs ih=>
   intro k ls i x hx;cases i with
   |zero=>simpa only[lsAt]using hx
   |succ i=>
    simp only[lsAt];refine ih _ _ _ _ ?_;unfold addL;split
    ·simp [hx]
    ·exact hx
 intro rs
 induction rs with
 |nil=>intro k ls i f q h1 h2 _;simp at h1;omega
 |cons r rs ih=>
  intro k ls i f q h1 h2 h3;cases i with
  |zero=>omega
  |succ i=>
   simp only[lsAt];cases f with
   |zero=>
    refine keep _ _ _ _ _ ?_;simp only[gL,List.getElem?_cons_zero]at h3;unfold addL;rw[h3];simp
   |succ f=>
    have:=ih (k+1) (addL k r.l ls) i f q (by simp at h1;omega) (by omega) (by simpa only[gL,List.getElem?_cons_succ]using h3);rw[show k+(f+1)=k+1+f by omega];exact this
theorem lsAt_inv: ∀ (rs:List Rc)(k:Nat)(ls:List (Nat × Nat))(i:Nat)(x:Nat × Nat),x∈lsAt rs k ls i→x∈ls∨ ∃ f q,f<i∧gL rs f=some q∧x=(k+f,q.1)
 |rs,k,ls,0,x,h=>by
  unfold lsAt at h;exact .inl h
 |[],k,ls,i+1,x,h=>by
  simp only[lsAt]at h;exact .inl h
 |r::rs,k,ls,i+1,x,h=>by
  simp only[lsAt]at h;rcases lsAt_inv rs (k+1) _ i x h with h1|⟨f,q,h1,h2,h3⟩
  ·unfold addL at h1;cases hl:r.l with
   |none=>rw[hl]at h1;exact .inl h1
   |some p=>
    rw[hl]at h1;simp only[List.mem_cons]at h1;rcases h1 with h1|h1
    ·exact .inr ⟨0,p,by omega,by simp only[gL,List.getElem?_cons_zero];exact hl,h1⟩
    ·exact .inl h1
  ·exact .inr ⟨f+1,q,by omega,by simpa only[gL,List.getElem?_cons_succ]using h2,by rw[h3];congr 1;omega⟩
theorem xr4_ok{call:CallR2}(hk:CallOk2 P call){ow:Nat→Bool}{n:Nat}{ops:List Oper}{base:Nat}: ∀ (l:List Oper)(k:Nat){ls:List (Nat × Nat)}{s sf:Slots}{q qf:Option Nat}{h hf:Heap}{rs:List Rc},xr4 P wf call ow n ops base k l ls s q h=some (rs,sf,qf,hf)→
  rs.length=l.length∧gS rs sf 0=s∧gH rs hf 0=h∧(∀ h0,Tch q h0 h→Tch qf h0 hf)∧
   ∀ i o,l[i]? =some o→S4 P ow wf n ops base (k+i) o (gS rs sf i) (gS rs sf (i+1)) (gH rs hf i) (gH rs hf (i+1)) (gV rs i) (gL rs i) (gB rs i) (lsAt rs k ls i)
 |[],k,ls,s,sf,q,qf,h,hf,rs,hx=>by
  simp only[xr4,Option.some.injEq,Prod.mk.injEq]at hx;obtain⟨rfl,rfl,rfl,rfl⟩:=hx;exact⟨rfl,rfl,rfl,fun _ hq=>hq,fun i o ho=>by simp at ho⟩
 |o::rest,k,ls,s,sf,q,qf,h,hf,rs,hx=>by
  unfold xr4 at hx;split at hx
  case isFalse=>simp at hx
  rename_i hd;have fin: ∀ (v:PV)(q':Option Nat)(h':Heap)(l:Option (Nat × AObj))(b:Bool)(s':Slots)(rs':List Rc),rs=⟨s,h,v,l,b⟩::rs'→xr4 P wf call ow n ops base (k+1) rest (addL k l ls) s' (mnO q q') h'=some (rs',sf,qf,hf)→S4 P ow wf n ops base k o s s' h h' v l b ls→Tch q' h h'→
    rs.length=(o::rest).length∧gS rs sf 0=s∧gH rs hf 0=h∧(∀ h0,Tch q h0 h→Tch qf h0 hf)∧
     ∀ i o',(o::rest)[i]? =some o'→S4 P ow wf n ops base (k+i) o' (gS rs sf i) (gS rs sf (i+1)) (gH rs hf i) (gH rs hf (i+1)) (gV rs i) (gL rs i) (gB rs i) (lsAt rs k ls i):=by
   intro v q' h' l b s' rs' hrs hrec hS ht;obtain⟨g1,g2,g3,g4,g5⟩:=xr4_ok hk rest (k+1) hrec;subst hrs;refine⟨by simp[g1],rfl,rfl,fun h0 hq=>g4 h0 (hq.trans ht),fun i o' ho'=>?_⟩;cases i with
   |zero=>
    simp at ho';subst ho';have e1:gS (⟨s,h,v,l,b⟩::rs') sf (0+1)=s':=g2;have e2:gH (⟨s,h,v,l,b⟩::rs') hf (0+1)=h':=g3;rw[e1,e2];exact hS
   |succ i=>
    have:=g5 i o' (by simpa using ho');rw[show k+(i+1)=k+1+i by omega];exact this
  split at hx
  ·simp at hx
  ·rename_i hw;simp only[Option.map_eq_some_iff]at hx;obtain⟨⟨rs',sf',qf',hf'⟩,hrec,he⟩:=hx;simp only[Prod.mk.injEq]at he;obtain⟨h1,rfl,rfl,rfl⟩:=he;refine fin .emp none h none false _ rs' h1.symm (by
    have:mnO q none=q:=(by cases q<;>rfl);rw[this];exact hrec) ⟨hd,false,hw,(fun _=>⟨rfl,rfl,rfl,rfl⟩),fun hc=>by cases hc⟩ rfl
  ·rename_i hw;split at hx
   ·simp at hx
   ·rename_i v q' h' l b hx4;simp only[Option.map_eq_some_iff]at hx;obtain⟨⟨rs',sf',qf',hf'⟩,hrec,he⟩:=hx;simp only[Prod.mk.injEq]at he;obtain⟨h1,rfl,rfl,rfl⟩:=he;obtain⟨t1,t2⟩:=x4_ok hk hd hw hx4;exact fin v q' h' l b _ rs' h1.symm hrec t1 t2
theorem xd4_ok{call:CallR2}(hk:CallOk2 P call){ow:Nat→Bool}{n:Nat}{ops:List Oper}{s sf:Slots}{q qf:Option Nat}{h hf:Heap}(hpre: ∀ i j,j<ops.length→pre ops i j=true→i<j)(hx:xd4 P wf call ow n ops h.next s q ⟨h.next+ops.length,h.obj⟩=some (sf,qf,hf)):
  (∀ K:Slots→Heap→Prop,K sf hf→ ∃ sk hk vk lt br,sk 0=s∧hk 0=⟨h.next+ops.length,h.obj⟩∧K (sk ops.length) (hk ops.length)∧Facts P ow wf n ops h.next sk hk vk lt br)∧(∀ h0,Tch q h0 ⟨h.next+ops.length,h.obj⟩→Tch qf h0 hf):=by
 unfold xd4 at hx;split at hx
 ·simp at hx
 rename_i rs sf' qf' hf' hr;split at hx
 case isFalse=>simp at hx
 rename_i hc;simp only[Option.some.injEq,Prod.mk.injEq]at hx;obtain⟨rfl,rfl,rfl⟩:=hx;simp only[Bool.and_eq_true]at hc;obtain⟨⟨hww,hlate⟩,hquiet⟩:=hc;obtain⟨hlen,g2,g3,g4,g5⟩:=xr4_ok hk ops 0 hr;refine⟨fun K hK=>⟨gS rs sf',gH rs hf',gV rs,gL rs,gB rs,g2,g3,?_,?_⟩,g4⟩
 ·have e1:gS rs sf' ops.length=sf':=by unfold gS;rw[List.getElem?_eq_none (by omega)]
  have e2:gH rs hf' ops.length=hf':=by unfold gH;rw[List.getElem?_eq_none (by omega)]
  rw[e1,e2];exact hK
 ·have late: ∀ j f o,j<ops.length→(gB rs j||(gL rs j).isSome)=true→j<f→ops[f]? =some o→isA ow o=true→(if gB rs j=true then((gH rs hf' (j+1)).obj (h.next+f)).isNone else match gL rs j with|some p=>!(h.next+f==p.1)|none=>true)=true:=by
   intro j f o hj hb hjf ho ha;have h1:=rng_iff.1 hlate j hj;rw[hb]at h1;simp only[Bool.not_true,Bool.false_or]at h1;have h2:=rng_iff.1 h1 f (List.getElem?_eq_some_iff.1 ho).1;have h3:(decide (j<f)&&(ops[f]?).any (isA ow))=true:=(by rw[ho];simp[hjf,ha]);rw[h3]at h2;simpa using h2
  have segA: ∀ (M d:Nat),M+d≤ops.length→(∀ j,M≤j→j<M+d→gB rs j=false)→gH rs hf' (M+d)=lob (gL rs) (fun f=>decide (M≤f)) (gH rs hf' M) (M+d):=by
   intro M d
   induction d with
   |zero=>
    intro _ _;have:=lob_hi (lt:=gL rs) (p:=fun f=>decide (M≤f)) (H:=gH rs hf' M) (m:=0) M (fun f _ hf _=>by simp;omega);rw[Nat.zero_add]at this;rw[Nat.add_zero,this];try rfl
   |succ d ih=>
    intro h1 h2;have ih:=ih (by omega) (fun j a b=>h2 j a (by omega));have hS:=g5 (M+d) ops[M+d] (List.getElem?_eq_getElem (by omega));have hb:=h2 (M+d) (by omega) (by omega);obtain⟨w,_,k1,k2⟩:=hS.ok;rw[show M+(d+1)=M+d+1 by omega,lob_succ];have key:gH rs hf' (M+d+1)=match gL rs (M+d)with|some q=>(gH rs hf' (M+d)).set q.1 q.2|none=>gH rs hf' (M+d):=by
     cases w with
     |false=>rw[(k1 rfl).2.2.1];exact(k1 rfl).2.1
     |true=>
      cases hiw:isW ow wf ops[M+d]with
      |false=>rw[((k2 rfl).2.1 hiw).2.1];exact((k2 rfl).2.1 hiw).1
      |true=>
       rcases(k2 rfl).2.2 hiw with k3|k3|k3
       ·rw [k3.1]at hb;simp at hb
       ·obtain ⟨_,_,ob,k4,_,k5⟩:=k3;rw[k4];simpa using k5
       ·obtain ⟨_,_,_,_,_,_,_,ob,_,_,k4,k5,_⟩:=k3;rw[k4];exact k5
    rw[key];cases hl:gL rs (M+d)with
    |none=>simp only;exact ih
    |some q=>simp only[show decide (M≤M+d)=true by simp,if_true];rw[ih]
  have wwP: ∀ i j,i<j→j<ops.length→(gB rs i=true∨(gL rs i).isSome=true)→(gB rs j=true∨(gL rs j).isSome=true)→
    pre ops i j=true∨(∃ p q,gL rs i=some p∧gL rs j=some q∧p.1≠q.1)∨(gB rs i=true∧(gL rs j).isSome=true∧ ∃ o,ops[j]? =some o∧isA ow o=true)∨((gL rs i).isSome=true∧gB rs j=true∧ ∃ o,ops[i]? =some o∧isA ow o=true):=by
   intro i j hij hj hi hj2;have h1:=rng_iff.1 hww j hj;have hj3:(gB rs j||(gL rs j).isSome)=true:=(by simpa using hj2);have hi3:(gB rs i||(gL rs i).isSome)=true:=(by simpa using hi);rw[hj3]at h1;simp only[Bool.not_true,Bool.false_or]at h1;have h2:=rng_iff.1 h1 i hij;rw[hi3]at h2;simp only[Bool.not_true,Bool.false_or,Bool.or_eq_true]at h2;rcases h2 with((h2|h2)|h2)|h2
   ·exact .inl h2
   ·right;left;split at h2
    ·rename_i p q e1 e2;exact⟨p,q,e1,e2,by simpa using h2⟩
    ·simp at h2
   ·simp only[Bool.and_eq_true]at h2;refine .inr (.inr (.inl ⟨h2.1.1,h2.1.2,ops[j],List.getElem?_eq_getElem hj,?_⟩));have:=h2.2;rw[List.getElem?_eq_getElem hj]at this;simpa using this
   ·simp only[Bool.and_eq_true]at h2;refine .inr (.inr (.inr ⟨h2.1.1,h2.1.2,ops[i],List.getElem?_eq_getElem (by omega),?_⟩));have:=h2.2;rw[List.getElem?_eq_getElem (by omega)]at this;simpa using this
  have kxL: ∀ j,j<ops.length→(∀ f p,j<f→(hf:f<ops.length)→gL rs f=some p→isA ow ops[f]=false→pre ops j f=true)→ ∀ id∈kx ow ops (gL rs) j,id∈killsAt ow ops h.next j (lsAt rs 0 [] j):=by
   intro j hjl hst id hid;obtain⟨f,p,m1,m2,m3,m4,m5,m6⟩:=kx_mem hid;unfold killsAt;rw[List.mem_append];rcases Nat.lt_trichotomy f j with m7|m7|m7
   ·left;rw[List.mem_filterMap];have:=lsAt_mem rs 0 [] j f p (by omega) m7 m5;rw[Nat.zero_add]at this;have hjf:pre ops j f=false:=by
     cases hpp:pre ops j f with
     |false=>rfl
     |true=>have:=hpre j f m1 hpp;omega
    exact⟨_,this,by simp[unoB,m2,m3,hjf,m6]⟩
   ·exact (m2 m7.symm).elim
   ·right;have hSf:=g5 f ops[f] (List.getElem?_eq_getElem m1);rw[Nat.zero_add]at hSf;have fA:isA ow ops[f]=true:=by
     cases hA:isA ow ops[f]with
     |true=>rfl
     |false=>
      rcases m4 with m4|m4
      ·rw [hst f p m7 m1 m5 hA]at m4;simp at m4
      ·rw [hA]at m4;simp at m4
    obtain⟨wf',_,f1,f2⟩:=hSf.ok;cases wf' with
    |false=>rw[(f1 rfl).2.2.1]at m5;simp at m5
    |true=>
     cases hiwf:isW ow wf ops[f]with
     |false=>rw[((f2 rfl).2.1 hiwf).2.1]at m5;simp at m5
     |true=>
      rcases(f2 rfl).2.2 hiwf with f3|f3|f3
      ·rw [f3.2.1]at m5;simp at m5
      ·obtain ⟨_,_,ob,f4,_⟩:=f3;rw[f4]at m5;simp at m5;rw[List.mem_map];refine⟨f,?_,by rw[← m6, ← m5]⟩;unfold laterA;rw[List.mem_filter];exact⟨List.mem_range.2 m1,by rw[List.getElem?_eq_getElem m1];simp[m7,fA]⟩
      ·obtain ⟨_,_,_,_,_,_,_,_,f4,_⟩:=f3;unfold isA at fA;rw[f4]at fA;simp at fA
  refine⟨fun j o ho=>?_,fun i j hij hj hi hj2=>?_⟩
  ·have hS:=g5 j o ho;rw[Nat.zero_add]at hS;have hjl:j<ops.length:=(List.getElem?_eq_some_iff.1 ho).1;obtain⟨w,k0,k1,k2⟩:=hS.ok;refine⟨hS.dst,w,k0,k1,fun hw=>?_⟩;obtain⟨k3,k4,k5⟩:=k2 hw;refine⟨k3,fun hiw=>?_,fun hiw=>?_⟩
   ·obtain ⟨t1,t2,t3,t4⟩:=k4 hiw;refine⟨t1,t2,t3,fun M hM=>?_⟩;have hq:=rng_iff.1 hquiet j hjl;rw[ho]at hq;simp only[hiw,Bool.false_or]at hq;rw[hw]at k0;rw[k0]at hq;simp only at hq;have hq2:=rng_iff.1 hq M (by have:=hM.1;omega);have hcut:cutB ops (gB rs) j M=true:=by
     unfold cutB;simp only[Bool.and_eq_true,Bool.or_eq_true,beq_iff_eq];refine⟨hM.2.2.2,rng_iff.2 fun b hb=>?_⟩;cases hbb:gB rs b with
     |false=>rfl
     |true=>
      simp only[Bool.not_true,Bool.false_or];split
      ·rename_i hbm;rw[hM.2.1 b hbm hbb];try rfl
      ·rename_i hbm;rw[hM.2.2.1 b (by omega) hbb];try rfl
    rw[hcut]at hq2;simp only[Bool.not_true,Bool.false_or,Bool.or_eq_true]at hq2;rcases hq2 with hq2|hq2
    ·simp only[Bool.and_eq_true,beq_iff_eq]at hq2;obtain⟨hMl,hns⟩:=hq2;refine⟨killsAt ow ops h.next j (lsAt rs 0 [] j),kxL j hjl (fun f p m1 m2 m3 m4=>?_),?_⟩
     ·have hSf:=g5 f ops[f] (List.getElem?_eq_getElem m2);obtain⟨wf',_,f1,f2⟩:=hSf.ok;cases wf' with
      |false=>rw[(f1 rfl).2.2.1]at m3;simp at m3
      |true=>
       cases hiwf:isW ow wf ops[f]with
       |false=>rw[((f2 rfl).2.1 hiwf).2.1]at m3;simp at m3
       |true=>
        rcases(f2 rfl).2.2 hiwf with f3|f3|f3
        ·rw [f3.2.1]at m3;simp at m3
        ·obtain ⟨_,fA,_⟩:=f3;rw[fA]at m4;simp at m4
        ·obtain ⟨_,_,_,_,_,_,_,_,f4,_⟩:=f3;have:=rng_iff.1 hns f m2;rw[List.getElem?_eq_getElem m2]at this;simp[m1,isSt,f4,unoB,show ¬ j=f by omega]at this;cases hpp:pre ops f j with
         |true=>have:=hpre f j hjl hpp;omega
         |false=>exact this.resolve_right (by rw[hpp];simp)
     ·-- the heap at k, with what stands apart hidden
      have hMj:M≤j:=(by rw[hMl];exact(lastOf_spec _ _).1);have hnb: ∀ b,M≤b→b<M+(j-M)→gB rs b=false:=by
       intro b b1 b2;have:=(lastOf_spec (gB rs) j).2.2 b (by rw[hMl]at b1;exact b1) (by omega);simpa using this
      have hseg:=segA M (j-M) (by omega) hnb;rw[show M+(j-M)=j by omega]at hseg;have hgx:gx ops (gL rs) (gH rs hf') j M (killsAt ow ops h.next j (lsAt rs 0 [] j))=killL (gH rs hf' j) (killsAt ow ops h.next j (lsAt rs 0 [] j)):=by
       unfold gx;obtain⟨d,hdd⟩: ∃ d,ops.length=j+d:=⟨ops.length-j,by omega⟩;have h2:gH rs hf' j=lob (gL rs) (fun f=>decide (M≤f)&&decide (f<j)) (gH rs hf' M) ops.length:=by
        rw[hseg,hdd,lob_hi d (fun f a _ _=>by simp;omega)];exact lob_congr _ fun f hf _=>by simp[hf]
       rw[h2];refine lob_kill _ fun f p hf hl=>?_;by_cases hMf:M≤f
       ·simp only[hMf,decide_true,Bool.true_and];cases hp:pre ops f j with
        |true=>
         rcases Nat.lt_or_ge f j with m7|m7
         ·left;simp[m7]
         ·right
          -- it stands behind and before: looked at as apart only when it is; else nothing is noted
          exact absurd hp (by
           have:=hpre f j hjl hp;omega)
        |false=>
         rcases Nat.lt_or_ge f j with m7|m7
         ·right;unfold killsAt;rw[List.mem_append];left;rw[List.mem_filterMap];have hm:=lsAt_mem rs 0 [] j f p (by omega) m7 hl;rw[Nat.zero_add]at hm;have hjf:pre ops j f=false:=by
           cases hpp:pre ops j f with
           |false=>rfl
           |true=>have:=hpre j f hf hpp;omega
          exact⟨_,hm,by simp[unoB,hp,hjf,show ¬ j=f by omega]⟩
         ·left;simp;omega
       ·left;simp[hMf]
      rw[hgx];exact t4
    ·exact ⟨kx ow ops (gL rs) j,fun id hid=>hid,xagain_ok2 hk hq2⟩
   ·rcases k5 hiw with⟨t1,t2,H',t3,t4,t5,t6⟩|⟨t1,t2,t3⟩|⟨t1,t,x,y,id,r,f,ob,u1,u2,u3,u4,u5⟩
    ·have hkL: ∀ id∈kx ow ops (gL rs) j,id∈killsAt ow ops h.next j (lsAt rs 0 [] j):=kxL j hjl (fun f p m1 m2 m3 m4=>by
      rcases wwP j f m1 m2 (.inl t1) (.inr (by rw[m3];try rfl))with h5|⟨_,_,h5,_⟩|⟨_,_,o2,h5,h6⟩|⟨h5,_⟩
      ·exact h5
      ·rw [t2]at h5;simp at h5
      ·rw [List.getElem?_eq_getElem m2]at h5;simp at h5;rw[h5,h6]at m4;simp at m4
      ·rw [t2]at h5;simp at h5)
     have hLk: ∀ id∈killsAt ow ops h.next j (lsAt rs 0 [] j),id∈kx ow ops (gL rs) j∨(gH rs hf' j).obj id=none:=fun id hid=>by
      unfold killsAt at hid;rw[List.mem_append]at hid;rcases hid with hid|hid
      ·rw [List.mem_filterMap]at hid;obtain⟨x,m1,m2⟩:=hid;rcases lsAt_inv _ _ _ _ _ m1 with m3|⟨f,p,m3,m4,rfl⟩
       ·simp at m3
       ·left;split at m2
        ·rename_i hu;simp at m2;simp[unoB]at hu;rw[← m2];exact mem_kx (show f<ops.length by omega) hu.1.1 hu.2 (.inl hu.1.2) m4
        ·simp at m2
      ·rw [List.mem_map]at hid;obtain⟨f,m1,rfl⟩:=hid;exact .inr (t6 f m1)
     have eK:killL (gH rs hf' j) (kx ow ops (gL rs) j)=killL (gH rs hf' j) (killsAt ow ops h.next j (lsAt rs 0 [] j)):=heap_ext rfl fun id=>by
      simp only[killL];by_cases m1:id∈kx ow ops (gL rs) j
      ·simp [m1,hkL id m1]
      ·by_cases m2:id∈killsAt ow ops h.next j (lsAt rs 0 [] j)
       ·have:=(hLk id m2).resolve_left m1;simp[m1,m2,this]
       ·simp [m1,m2]
     have eP:putL H' (gH rs hf' j) (kx ow ops (gL rs) j)=putL H' (gH rs hf' j) (killsAt ow ops h.next j (lsAt rs 0 [] j)):=heap_ext rfl fun id=>by
      simp only[putL];by_cases m1:id∈kx ow ops (gL rs) j
      ·simp [m1,hkL id m1]
      ·by_cases m2:id∈killsAt ow ops h.next j (lsAt rs 0 [] j)
       ·have:=(hLk id m2).resolve_left m1;simp[m1,m2,this]
       ·simp [m1,m2]
     refine .inl ⟨t1,t2,⟨H',by rw[eK];exact t3,fun id hid=>t4 id (hkL id hid),by rw[eP];exact t5⟩,fun f q hjf hq ha=>?_⟩;have:=late j f q hjl (by simp[t1]) hjf hq ha;rw[if_pos t1]at this;simpa using this
    ·exact .inr (.inl ⟨t1,t2,t3⟩)
    ·refine .inr (.inr ⟨t1,t,x,y,id,r,f,ob,u1,u2,u3,u4,fun f' q hjf hq ha=>?_,u5⟩);have:=late j f' q hjl (by simp[u3]) hjf hq ha;rw[if_neg (by simp[t1]),u3]at this;simpa using this
  ·exact wwP i j hij hj hi hj2
theorem xc_ok2{call:CallR2}(hk:CallOk2 P call){ow:Nat→Bool}{n:Nat}: ∀ (m:Nat)(c:Code){s s':Slots}{q q':Option Nat}{h h':Heap}{e:Exit},xc2 P wf call ow n m c s q h=some (e,s',q',h')→
  (∀ Q:Post,Q e s' h'→awp P ow wf n c Q s h)∧(∀ h0,Tch q h0 h→Tch q' h0 h')
 |0,c,s,s',q,q',h,h',e,hx=>by simp[xc2]at hx
 |m+1,c,s,s',q,q',h,h',e,hx=>by
  unfold xc2 at hx;split at hx
  ·simp only[Option.some.injEq,Prod.mk.injEq]at hx;obtain⟨rfl,rfl,rfl,rfl⟩:=hx;exact⟨fun Q hQ=>by simpa only[awp]using hQ,fun h0 hq=>hq⟩
  ·rename_i id ops;split at hx
   ·rename_i hdo;simp only[Option.map_eq_some_iff,Prod.mk.injEq]at hx;obtain⟨⟨s1,q1,h1⟩,hx,rfl,rfl,rfl,rfl⟩:=hx;have:=fun(Q:Post)=>xd_ok2 (K:=Q .normal) hk _ _ hx;exact⟨fun Q hQ=>by simp only[awp,if_true];exact⟨_,_,.refl,.inl ⟨hdo,(this Q).1 hQ⟩⟩,(this (fun _ _ _=>True)).2⟩
   ·split at hx
    ·rename_i hdo;simp only[Option.map_eq_some_iff,Prod.mk.injEq]at hx;obtain⟨⟨s1,q1,h1⟩,hx,rfl,rfl,rfl,rfl⟩:=hx;have:=fun(Q:Post)=>xd_ok3 (K:=Q .normal) hk _ _ hx;refine⟨fun Q hQ=>by simp only[awp,if_true];exact⟨_,_,.refl,.inr (.inl ⟨hdo,(this Q).1 hQ⟩)⟩,fun h0 hq=>(this (fun _ _ _=>True)).2 h0 (hq.trans ?_)⟩;exact⟨Nat.le_add_right _ _,fun _ _=>rfl⟩
    ·split at hx
     ·rename_i hdo;simp only[Option.map_eq_some_iff,Prod.mk.injEq]at hx;obtain⟨⟨s1,q1,h1⟩,hx,rfl,rfl,rfl,rfl⟩:=hx;obtain⟨t1,t2⟩:=xd4_ok hk (fun i j hj hp=>pre_lt3 (DOk3.of hdo) j i hj hp) hx;refine⟨fun Q hQ=>by simp only[awp,if_true];exact⟨_,_,.refl,.inr (.inr ⟨hdo,t1 (Q .normal) hQ⟩)⟩,fun h0 hq=>t2 h0 (hq.trans ?_)⟩;exact⟨Nat.le_add_right _ _,fun _ _=>rfl⟩
     ·simp at hx
  ·rename_i id ops;simp only[Option.map_eq_some_iff,Prod.mk.injEq]at hx;obtain⟨⟨s1,q1,h1⟩,hx,rfl,rfl,rfl,rfl⟩:=hx;have:=fun(Q:Post)=>xl_ok2 (K:=Q .normal) hk _ hx;exact⟨fun Q hQ=>by simp only[awp,Bool.false_eq_true,if_false];exact⟨_,_,.refl,(this Q).1 hQ⟩,(this (fun _ _ _=>True)).2⟩
  ·rename_i a b;split at hx
   ·rename_i s1 q1 h1 ha;obtain⟨a1,a2⟩:=xc_ok2 hk m a ha;obtain⟨b1,b2⟩:=xc_ok2 hk m b hx;exact⟨fun Q hQ=>by simp only[awp];exact a1 _ (b1 Q hQ),fun h0 hq=>b2 h0 (a2 h0 hq)⟩
   ·rename_i hne;obtain⟨a1,a2⟩:=xc_ok2 hk m a hx;refine⟨fun Q hQ=>?_,a2⟩;simp only[awp];refine a1 _ ?_;cases e<;>simp only[Post.seq]<;>first|exact hQ|exact(hne _ _ _ hx).elim
  ·rename_i c x y;split at hx
   ·rename_i hc;obtain⟨a1,a2⟩:=xc_ok2 hk m x hx;exact⟨fun Q hQ=>by simp only[awp,hc,if_true];exact a1 Q hQ,a2⟩
   ·rename_i hc;obtain⟨a1,a2⟩:=xc_ok2 hk m y hx;exact⟨fun Q hQ=>by simp only[awp,hc,Bool.false_eq_true,if_false];exact a1 Q hQ,a2⟩
   ·simp at hx
  ·rename_i id c;split at hx
   ·rename_i id' s1 q1 h1 ha;obtain⟨a1,a2⟩:=xc_ok2 hk m c ha;simp only[Option.some.injEq,Prod.mk.injEq]at hx;obtain⟨rfl,rfl,rfl,rfl⟩:=hx;refine⟨fun Q hQ=>?_,a2⟩;simp only[awp];refine a1 _ ?_;simp only[Post.block];split<;>rename_i hid<;>simpa only[hid,if_true,if_false]using hQ
   ·rename_i hne;obtain⟨a1,a2⟩:=xc_ok2 hk m c hx;refine⟨fun Q hQ=>?_,a2⟩;simp only[awp];refine a1 _ ?_;cases e<;>simp only[Post.block]<;>first|exact hQ|exact(hne _ _ _ _ hx).elim
  ·rename_i c;split at hx
   ·rename_i s1 q1 h1 ha;obtain⟨a1,a2⟩:=xc_ok2 hk m c ha;obtain⟨b1,b2⟩:=xc_ok2 hk m (.loop c) hx;refine⟨fun Q hQ=>?_,fun h0 hq=>b2 h0 (a2 h0 hq)⟩;have:=b1 Q hQ;simp only[awp]at this⊢;obtain⟨j,hj⟩:=this;exact⟨j+1,a1 _ hj⟩
   ·rename_i hne;obtain⟨a1,a2⟩:=xc_ok2 hk m c hx;refine⟨fun Q hQ=>?_,a2⟩;simp only[awp];refine⟨1,a1 _ ?_⟩;cases e<;>simp only[Post.seq]<;>first|exact hQ|exact(hne _ _ _ hx).elim
  ·simp only[Option.some.injEq,Prod.mk.injEq]at hx;obtain⟨rfl,rfl,rfl,rfl⟩:=hx;exact⟨fun Q hQ=>by simpa only[awp]using hQ,fun h0 hq=>hq⟩
  ·simp only[Option.some.injEq,Prod.mk.injEq]at hx;obtain⟨rfl,rfl,rfl,rfl⟩:=hx;exact⟨fun Q hQ=>by simpa only[awp]using hQ,fun h0 hq=>hq⟩
  ·simp at hx
theorem xf_ok2(hm:P.follows .mixedOrders=true){ext:FuncId→List PV→Heap→Option PV}(hext:ExtOk2 P ext){keep:FuncId→Bool}{m:Nat}: ∀ k,CallOk2 P (xf2 P wf own ext keep m k)
 |0,f,args,h,v,q,h',hx=>by simp[xf2]at hx
 |k+1,f,args,h,v,q,h',hx=>by
  unfold xf2 at hx;split at hx
  ·rename_i r hr;simp only[Option.some.injEq,Prod.mk.injEq]at hx;obtain⟨rfl,rfl,rfl⟩:=hx;exact⟨hext _ _ _ _ hr,rfl⟩
  split at hx
  ·simp at hx
  ·rename_i fn hf;split at hx
   case isFalse=>simp at hx
   rename_i hh;split at hx
   ·simp at hx
   ·rename_i c hb;split at hx
    case h_2=>simp at hx
    rename_i s q1 h1 hc;split at hx
    ·simp at hx
    ·rename_i vs hr;have main:PCall P f args h (fun r h2=>r=resV vs∧h2=h1)∧Tch q1 h h1:=by
      obtain⟨e,he,hc⟩:=endS_some hc;obtain⟨a1,a2⟩:=xc_ok2 (xf_ok2 hm hext k) m c hc;refine⟨pcall_body hm hf hb hh.1 hh.2 (a1 _ ?_),a2 h rfl⟩;rcases he with rfl|rfl<;>simp only[retPost,hr]<;>exact⟨trivial,trivial⟩
     split at hx
     ·rename_i hkp;simp only[Bool.and_eq_true]at hkp;split at hx
      ·rename_i r hfr;simp only[Option.some.injEq,Prod.mk.injEq]at hx;obtain⟨rfl,rfl,rfl⟩:=hx;refine⟨pcall_wf hh.1 fun hwf=>PCall.drop (main.1.mono ?_),rfl⟩;rintro r' h' ⟨rfl,rfl⟩;have hold: ∀ id,id<h.next→h'.obj id=h.obj id:=by
        intro id hid;have ht:=main.2;cases q1 with
        |none=>simp only[Tch]at ht;rw[ht]
        |some t=>
         simp only[Tch]at ht;have:=hkp.2;simp[dropB]at this;exact ht.2 id (by omega)
       refine⟨r,h,⟨rfl,rfl⟩,frzP_ok _ _ hfr,Nat.le_refl _,fun id o ho=>?_⟩;have hid:=hwf id (by rw[ho];try rfl);exact⟨by rw[hold id hid];exact ho,hid,.inl ho⟩
      ·simp only[Option.some.injEq,Prod.mk.injEq]at hx;obtain⟨rfl,rfl,rfl⟩:=hx;exact main
     ·simp only[Option.some.injEq,Prod.mk.injEq]at hx;obtain⟨rfl,rfl,rfl⟩:=hx;exact main
def xgives2(r:Option (PV × Option Nat × Heap))(v:PV):Bool:=match r with
 |some (u,_,_)=>pvEq u v
 |none=>false
theorem pcall_run2(hm:P.follows .mixedOrders=true){ext:FuncId→List PV→Heap→Option PV}(hext:ExtOk2 P ext){keep:FuncId→Bool}{m k:Nat}{f:FuncId}{args:List PV}{h:Heap}{v:PV}(hx:xgives2 (xf2 P wf own ext keep m k f args h) v=true):PCall P f args h (fun r _=>r=v):=by
 unfold xgives2 at hx;split at hx
 ·rename_i u q h' hr;refine((xf_ok2 hm hext k _ _ _ _ _ _ hr).1).mono (fun r h'' hr=>?_);rw[hr.1,pvEq_eq _ _ hx]
 ·simp at hx
end
end Go.AM
namespace Go.Proofs.YtblgchkahpgdjaaGreat
open Go.AM
set_option maxHeartbeats 2000000
set_option maxRecDepth 100000
def dmOwn(f t:Nat):Bool:=([(161,5),(111,2),(112,2),(174,10),(144,13),(12,18),(12,27),(12,51),(12,72),(166,5),(17,7),(42,15),(45,11),(46,11),(51,13)]:List (Nat × Nat)).contains (f,t)
def dmWf(f:Nat):Bool:=([41,43,100,144,107,51,45,46,97,42,61]:List Nat).contains f
def dmExt(f:FuncId)(args:List PV)(_:Heap):Option PV:=ext f args
theorem dmExt_ok:ExtOk2 Tryz.prog dmExt:=fun f args r h hr=>ext_ok f args r h hr
theorem dmAwake_c:PCall Tryz.prog 11 [] Heap.nil fun r h'=>r= .sc (.bool true)∧h'=Heap.nil:=by
 have h1:PCall Tryz.prog 11 [] Heap.nil fun r _=>r= .sc (.bool true):=pcall_run2 (wf:=dmWf) (own:=dmOwn) (keep:=fun _=>false) Ty.mixed dmExt_ok (m:=2000) (k:=60) (by kernel_rfl);refine PCall.drop (h1.mono ?_);rintro r h' rfl;refine⟨.sc (.bool true),Heap.nil,⟨rfl,rfl⟩,?_,Nat.le_refl _,fun id o ho=>by simp[Heap.nil]at ho⟩;simp only[FrzTo]
end Go.Proofs.YtblgchkahpgdjaaGreat
namespace Go.Proofs.YtblgchkahpgdjaaGreat
open Go.AM
mutual
def posX:Sx→Bool
 | .mk _ _ li co _ ks=>(li==0)&&(co==0)&&posXs ks
def posXs:List Sx→Bool
 |[]=>true
 |k::ks=>posX k&&posXs ks
end
theorem posXs_iff: ∀ {l:List Sx},(posXs l=true↔ ∀ k∈l,posX k=true)
 |[]=>by simp[posXs]
 |k::l=>by simp[posXs,posXs_iff (l:=l)]
theorem pos_word(s:ByteArray):posX (wordM s)=true:=by simp[wordM,posX,posXs]
theorem pos_list{l:List Sx}(h: ∀ k∈l,posX k=true):posX (listM l)=true:=by
 simp only[listM,posX,posXs_iff.2 h,beq_self_eq_true,Bool.and_true]
theorem pos_words(s:ByteArray)(l:List ByteArray):posX (wordsM s l)=true:=by
 refine pos_list fun k hk=>?_;obtain⟨x,_,rfl⟩:=List.mem_map.1 hk;exact pos_word x
theorem exW_pos: ∀ e:Ex,posX (exW e)=true:=by
 refine Ex.ind ?_;intro op name n args kids ih;unfold exW;split
 ·simp [posX,posXs]
 ·split
  ·exact pos_words _ _
  ·split
   ·rename_i a b;refine pos_list fun k hk=>?_;simp only[List.mem_cons,List.not_mem_nil,or_false]at hk;rcases hk with rfl|rfl|rfl
    ·exact pos_word _
    ·exact ih a (by simp)
    ·exact ih b (by simp)
   ·refine pos_list fun k hk=>?_;simp only[List.mem_cons,List.not_mem_nil,or_false]at hk;rw[hk];exact pos_word _
theorem params_pos: ∀ l:List Pm, ∀ k∈paramsW l,posX k=true
 |[],k,h=>by simp[paramsW]at h
 |p::l,k,h=>by
  simp only[paramsW,List.mem_cons]at h;rcases h with rfl|rfl|rfl|h
  ·exact pos_word _
  ·exact pos_word _
  ·exact pos_word _
  ·exact params_pos l k h
theorem fmW_pos: ∀ f:Fm,posX (fmW f)=true:=by
 refine Fm.ind ?_;intro op name args params exprs kids ih;unfold fmW;split
 ·exact pos_words _ _
 ·split
  ·exact pos_words _ _
  ·split
   ·refine pos_list fun k hk=>?_;rcases List.mem_cons.1 hk with rfl|hk
    ·exact pos_word _
    ·obtain ⟨x,_,rfl⟩:=List.mem_map.1 hk;exact exW_pos x
   ·refine pos_list fun k hk=>?_;rcases List.mem_append.1 hk with hk|hk
    ·rcases List.mem_append.1 hk with hk|hk
     ·split at hk
      ·simp at hk
      ·simp only[List.mem_cons,List.not_mem_nil,or_false]at hk;rw[hk];exact pos_word _
     ·split at hk
      ·simp only[List.mem_cons,List.not_mem_nil,or_false]at hk;rw[hk];exact pos_list (params_pos _)
      ·simp at hk
    ·rw [fmWs_map]at hk;obtain⟨x,hx,rfl⟩:=List.mem_map.1 hk;exact ih x hx
end Go.Proofs.YtblgchkahpgdjaaGreat
namespace Go.Proofs.YtblgchkahpgdjaaGreat
open Go.AM
set_option maxHeartbeats 4000000
set_option maxRecDepth 20000
theorem bne_selfI9(a:Int):(a !=a)=false:=by simp
theorem lsame9_of{ki va li co:Int}{te:ByteArray}{l:List Sx}(hl:l.length≤bigN)(hf: ∀ x∈l, ∀ h:Heap,PCall Tryz.prog 14 [.agg x.cells,.agg x.cells] h fun r h'=>r= .sc (.bool (posX x))∧h'=h)(h:Heap):
  PCall Tryz.prog 14 [.agg (Sx.mk ki va li co te l).cells,.agg (Sx.mk ki va li co te l).cells] h fun r h'=>r= .sc (.bool (posX (.mk ki va li co te l)))∧h'=h:=by
 unfold bigN at hl;have hll:=Sx.rows_len l;have hz:posX (.mk ki va li co te l)=((li==0)&&(co==0)&&posXs l):=by simp only[posX]
 rw[hz];try clear zz
 clear hz;simp only[Sx.cells];have e1:(te.data.toList==te.data.toList)=true:=by simp
 have e2:=bne_selfI9 ki;have e3:=bne_selfI9 va;have e4:=bne_selfI9 (l.length:Int);have e5:(li !=0)=!(li==0):=rfl;have e6:(co !=0)=!(co==0):=rfl;cases q1:(li==0)with
 |false=>
  refine uG0 Tryz.func14 Tryz.ntmps14 Tryz.results14 Ty.hb_14 ?_;replace zz:=uu9 e1 e2 e3 e4 e5 q1 hll yT yF;refine wm zz ?_;try exact zI
  all_goals simp
 |true=>
  cases q2:(co==0)with
  |false=>
   refine uG0 Tryz.func14 Tryz.ntmps14 Tryz.results14 Ty.hb_14 ?_;replace zz:=uu11 e1 e2 e3 e4 e5 e6 q1 q2 hll yT yF;refine wm zz ?_;try exact zI
   all_goals simp
  |true=>
   simp only[Bool.true_and];refine uG0 Tryz.func14 Tryz.ntmps14 Tryz.results14 Ty.hb_14 ?_;replace zz:=uu11 e1 e2 e3 e4 e5 e6 q1 q2 hll yT yF;refine wt zz ?_;refine a_loop (fun c S h'=>h'=h∧S 2= .cptr [.sc (.int .i64 ki),.sc (.int .i64 va),.sc (.int .i64 li),.sc (.int .i64 co),sPV te,.imm 6 (Sx.rows l)]∧S 3= .cptr [.sc (.int .i64 ki),.sc (.int .i64 va),.sc (.int .i64 li),.sc (.int .i64 co),sPV te,.imm 6 (Sx.rows l)]∧ ∃ k:Nat,S 5= .sc (.int .i64 k)∧k≤l.length∧c=l.length-k∧posXs l=posXs (l.drop k)) l.length ?_ ?_
   ·simp only[Ty.w,simprocAttr];exact⟨0,rfl,by omega,rfl,by simp⟩
   ·rintro c S h' ⟨rfl,g2,g3,k,g5,hkl,rfl,hinv⟩;by_cases hlt:k<l.length
    ·have hd:decide ((k:Int)<(l.length:Int))=true:=(by simp;omega);have w7:IntKind.i64.wrap ((k:Int)+1)=k+1:=(by rw[wrap64 (by omega) (by omega)]);obtain⟨x,hx⟩: ∃ x,l[k]? =some x:=⟨_,List.getElem?_eq_getElem hlt⟩;have hc:=hf x (List.mem_of_getElem? hx);rw[drop_of_get hx]at hinv;simp only[posXs]at hinv;have hr:=Sx.rows_get hx;generalize posX x=b at hc hinv;obtain⟨xk,xv,xl,xc,xt,xs⟩:=x;simp only[Sx.cells]at hr hc;cases b with
     |false=>
      simp only[Bool.false_and]at hinv;replace zz:=uu6 g2 g3 g5 hll hd hr;refine wy zz ?_;replace zz:=uu5 g2 g3 g5 hr yF;(first|refine uV zz (hc _) ?_|refine uA zz (hc _) ?_);refine wy zz ?_;rw[hinv]
     |true=>
      simp only[Bool.true_and]at hinv;replace zz:=uu6 g2 g3 g5 hll hd hr;refine wy zz ?_;replace zz:=uu5 g2 g3 g5 hr yT;(first|refine uV zz (hc _) ?_|refine uA zz (hc _) ?_);replace zz:=uu6 g2 g3 g5 hr w7 yT;refine wy zz ?_;exact⟨l.length-(k+1),by omega,k+1,by simp,by omega,rfl,hinv⟩
    ·have hd:decide ((k:Int)<(l.length:Int))=false:=(by simp;omega);rw[List.drop_eq_nil_of_le (by omega)]at hinv;simp only[posXs]at hinv;replace zz:=uu5 g2 g3 g5 hll hd;refine wt zz ?_;rw[hinv]
theorem lsame9_c: ∀ x:Sx,x.ok→ ∀ h:Heap,PCall Tryz.prog 14 [.agg x.cells,.agg x.cells] h fun r h'=>r= .sc (.bool (posX x))∧h'=h:=
 Sx.ind fun kind value line col text kids ih hx h=>by
  simp only[Sx.ok]at hx;exact lsame9_of hx.2.2.2.1 (fun x hx2 h=>ih x hx2 (Sx.oks_iff.1 hx.2.2.2.2 x hx2) h) h
end Go.Proofs.YtblgchkahpgdjaaGreat
namespace Go.Proofs.YtblgchkahpgdjaaGreat
open Go.AM
set_option maxHeartbeats 2000000
set_option maxRecDepth 20000
theorem fnum_c{h:Heap}{n:Int}:PCall Tryz.prog 24 [errV n] h fun r h'=>r= .sc (.int .i64 n)∧h'=h:=by
 unfold errV;refine uG0 Tryz.func24 Tryz.ntmps24 Tryz.results24 Ty.hb_24 ?_;refine wm trivial ?_;try exact zI
 all_goals rfl
theorem fis_c{h:Heap}{n m:Int}:PCall Tryz.prog 15 [errV n,.sc (.int .i64 m)] h fun r h'=>r= .sc (.bool (n==m))∧h'=h:=by
 have hn:=fun h:Heap=>fnum_c (h:=h) (n:=n);unfold errV at hn⊢;refine uG0 Tryz.func15 Tryz.ntmps15 Tryz.results15 Ty.hb_15 ?_;refine wt trivial ?_;refine owp_useQ (hn _) (by(try simp only[Ty.w,simprocAttr,eq_self]);try rfl) ?_;simp(maxSteps:=2000000) only[Ty.w,simprocAttr,eq_self];exact wz trivial
end Go.Proofs.YtblgchkahpgdjaaGreat
namespace Go.AM
open Go.ChangeShapes Go.WideShapes
open Go.Proofs.YtblgchkahpgdjaaGreat
mutual
def PV.bulk:PV→Nat
 | .sc (.string s)=>s.size+1
 | .imm _ rows=>PV.bulkR rows+1
 |_=>1
def PV.bulkL:List PV→Nat
 |[]=>0
 |p::ps=>p.bulk+PV.bulkL ps
def PV.bulkR:List (List PV)→Nat
 |[]=>0
 |r::rs=>PV.bulkL r+PV.bulkR rs
end
theorem PV.bulkL_append: ∀ l m:List PV,PV.bulkL (l++m)=PV.bulkL l+PV.bulkL m
 |[],m=>by simp[PV.bulkL]
 |p::l,m=>by simp only[List.cons_append,PV.bulkL,PV.bulkL_append l m];omega
theorem List.getElem?_range_some{k i j:Nat}(h:(List.range k)[i]? =some j):i<k∧i=j:=by
 have h1:=(List.getElem?_eq_some_iff.1 h).1;simp at h1;rw[List.getElem?_range h1]at h;simp at h;exact⟨h1,h⟩
section
variable {H:Type}{enc:TypeId × Value→H}{P:Program}{w:World}{sp:Nat→Bool}{held:Bool}
theorem bulkR_le: ∀ (rows:List (List PV))(ds:List (DataW H)),rows.length=ds.length→(∀ (i:Nat)(r:List PV),rows[i]? =some r→ ∃ d,ds[i]? =some d∧PV.bulkL r≤Rows.uptoBulk d)→PV.bulkR rows≤Rows.uptoBulkAll ds
 |[],_,_,_=>by simp[PV.bulkR]
 |r::rows,[],h,_=>by simp at h
 |r::rows,d::ds,h,hb=>by
  have h1:=bulkR_le rows ds (by simpa using h) fun i q hq=>by simpa using hb (i+1) q (by simpa using hq)
  obtain⟨d',h2,h3⟩:=hb 0 r rfl;simp at h2;subst h2;simp only[PV.bulkR,Rows.uptoBulkAll];omega
theorem parts_rep5{c:Nat}{cs:List Value}:(l:List (Nat × TypeId))→(ds:List (DataW H))→(o:Nat)→inRow P cs.length o l=true→
  (∀ (i:Nat)(p:Nat × TypeId),l[i]? =some p→ ∃ d,ds[i]? =some d∧ ∃ ps,Arg P c p.2 ps∧RA w ps ((cs.drop p.1).take (P.cellsOf p.2))∧PV.bulkL ps≤Rows.uptoBulk d)→
  ∃ ps,RA w ps (cs.drop o)∧(∀ p∈l,Arg P c p.2 ((ps.drop (p.1-o)).take (P.cellsOf p.2)))∧PV.bulkL ps≤Rows.uptoBulkAll ds
 |[],ds,o,h,_=>by
  simp[inRow]at h;refine⟨[],⟨?_,fun β n=>?_⟩,by simp,by simp[PV.bulkL]⟩
  ·rw [List.drop_of_length_le (by omega)];simp
  ·rw [List.drop_of_length_le (by omega)];simp[RepL]
 |p::l,[],o,h,hp=>by
  obtain⟨d,hd,_⟩:=hp 0 p rfl;simp at hd
 |p::l,d::ds,o,h,hp=>by
  have hle:=(inRow_le (p::l) o h).2 p (by simp);simp only[inRow,Bool.and_eq_true,beq_iff_eq]at h;obtain⟨ps,h1,h2,h20⟩:=parts_rep5 l ds _ h.2 (fun i q hq=>by simpa using hp (i+1) q (by simpa using hq));obtain⟨d',hd,ps0,h3,h4,h40⟩:=hp 0 p rfl;simp at hd;subst hd;have hl2:=(inRow_le l _ h.2).2;have e0:p.1=o:=h.1;have l0:ps0.length=P.cellsOf p.2:=by rw[h4.len,List.length_take,List.length_drop];omega
  refine⟨ps0++ps,?_,fun q hq=>?_,by rw[PV.bulkL_append];simp only[Rows.uptoBulkAll];omega⟩
  ·have:cs.drop o=(cs.drop p.1).take (P.cellsOf p.2)++cs.drop (o+P.cellsOf p.2):=by
    rw[e0, ← List.drop_drop,List.take_append_drop]
   rw[this];exact h4.append h1
  ·rcases List.mem_cons.1 hq with rfl|hq
   ·rw [e0,Nat.sub_self,List.drop_zero,List.take_append_of_le_length (by omega),List.take_of_length_le (by omega)];exact h3
   ·have h5:=hl2 q hq;have:q.1-o=ps0.length+(q.1-(o+P.cellsOf p.2)):=(by omega);rw[this, ← List.drop_drop,List.drop_left];exact h2 q hq
theorem arg_rec5{Ts:List TypeId}(hT:covC P Ts=true): ∀ (fuel:Nat)(t:TypeId),Ts.contains t=true→ ∀ (cs:List Value)(x:DataW H × List MemPlace),DataW.trod enc P w 0 sp held fuel t cs=some x→(∀ n∈x.1.weights P t,n≤reachBytes)→
  ∃ ps,Arg P fuel t ps∧RA w ps cs∧PV.bulkL ps≤Rows.uptoBulk x.1
 |0,_,_,_,_,hx,_=>by simp[DataW.trod]at hx
 |c+1,t,ht,cs,x,hx,hw=>by
  have h:=List.all_eq_true.1 hT t (by simpa using ht);split at h
  ·rename_i hu;obtain⟨b,rfl,rfl⟩:=DataW.trod_bool hu hx;refine⟨[.sc (.bool b)],?_,sc_RA rfl,by simp[PV.bulkL,PV.bulk,Rows.uptoBulk]⟩;unfold Arg;rw[hu];exact⟨b,rfl⟩
  ·rename_i k hu;obtain⟨n,rfl,rfl,hwf⟩:=DataW.trod_int hu hx;refine⟨[.sc (.int k n)],?_,sc_RA rfl,by simp[PV.bulkL,PV.bulk,Rows.uptoBulk]⟩;unfold Arg;rw[hu];exact⟨n,hwf,rfl⟩
  ·rename_i hu;obtain⟨s,rfl,rfl,hs⟩:=DataW.trod_string hu hx;refine⟨[.sc (.string s)],?_,sc_RA rfl,by have e:s.data.toList.length=s.size:=by{rw[Array.length_toList];try rfl};simp only[PV.bulkL,PV.bulk,Rows.uptoBulk];omega⟩;unfold Arg;rw[hu];refine⟨s,?_,rfl⟩;have:=hw s.data.toList.length (by simp[DataW.weights]);simpa using this
  ·rename_i e hu;simp only[Bool.and_eq_true,decide_eq_true_eq]at h;obtain⟨hpos,hcov⟩:=h;rcases DataW.trod_slice hu hx with⟨rfl,rfl⟩|⟨a,len,cap,elems,rest,n,hfu,rfl,rfl,hb,hl,hm,hlen,hel,hsp,hns⟩
   ·refine ⟨[.imm (P.cellsOf e) []],?_,⟨fun v hv=>?_,fun β n=>?_⟩,by simp[PV.bulkL,PV.bulk,PV.bulkR,Rows.uptoBulk]⟩
    ·unfold Arg;rw[hu];exact⟨[],rfl,by simp,by simp,by simp⟩
    ·simp at hv;subst hv;rfl
    ·simp only[RepL,Rep];exact⟨⟨none,0,rfl,Nat.le_refl _,Nat.zero_le _,.inl (by trivial)⟩,trivial⟩
   ·obtain rfl:c=n:=(by omega);have each: ∀ i,i<len→ ∃ r:List PV,(r.length=P.cellsOf e∧Arg P c e r∧ ∃ d,(elems.map (·.1))[i]? =some d∧PV.bulkL r≤Rows.uptoBulk d)∧ ∃ ci,RA w r ci∧ci.length=P.cellsOf e∧ ∀ j,j<P.cellsOf e→w.cell? ((a.add (i*P.cellsOf e)).add j)=ci[j]?:=by
     intro i hi;have h1:=hel i hi;have h2:elems[i]? =some (elems[i]'(by omega)):=List.getElem?_eq_getElem _;rw[h2,Option.bind_eq_some_iff]at h1;obtain⟨ci,h3,h4⟩:=h1;obtain⟨_,h5,h6⟩:=World.cells?_some h3;obtain⟨r,h7,h8,h80⟩:=arg_rec5 hT c e hcov ci _ h4 (fun m hm=>hw m (by
      simp only[DataW.weights,hu,List.mem_cons,List.mem_append];exact .inr (.inl (weightsAll_mem (i:=i) (by rw[List.getElem?_map,h2];try rfl) hm))))
     exact⟨r,⟨by rw[h8.len,h5],h7,_,by rw[List.getElem?_map,h2];try rfl,h80⟩,ci,h8,h5,h6⟩
    obtain⟨rows,hrl,hrows⟩:=exists_list len each;refine⟨[.imm (P.cellsOf e) rows],?_,⟨fun v hv=>?_,fun β m=>?_⟩,?_⟩
    ·unfold Arg;rw[hu];refine⟨rows,rfl,?_,by omega,fun r hr=>?_⟩
     ·have:=hw ((elems.map (·.1)).length*P.bytesOf e+(rest.map (·.1)).length*P.bytesOf e) (by
       simp only[DataW.weights,hu,List.mem_cons,Nat.add_mul,true_or])
      have h9:rows.length=(elems.map (·.1)).length:=(by simp[hrl,hlen]);rw[h9];exact Nat.le_trans (Nat.le_add_right _ _) this
     ·obtain ⟨i,hi⟩:=List.getElem?_of_mem hr;exact⟨(hrows i r hi).1.1,(hrows i r hi).1.2.1⟩
    ·simp at hv;subst hv;rfl
    ·simp only[RepL,Rep];refine⟨⟨some a,cap,by rw[hrl],by omega,hm,?_⟩,trivial⟩;by_cases h0:len=0
     ·left;exact List.length_eq_zero_iff.1 (by omega)
     ·right;obtain⟨_,_,c0,_,hc0,hcell0⟩:=each 0 (by omega);have h10:=hcell0 0 hpos;rw[List.getElem?_eq_getElem (by omega)]at h10;simp only[Nat.zero_mul,Addr.add,if_true]at h10;have hs:a.spot=none:=by
       unfold World.cell? at h10;split at h10
       ·split at h10
        ·simp at h10
        ·rename_i hsp;simpa using hsp
       ·simp at h10
      have hblk:a.block<w.heap.size:=by
       unfold World.cell? at h10;split at h10
       ·rename_i hh;exact(Array.getElem?_eq_some_iff.1 hh).1
       ·simp at h10
      refine⟨a.block,a.off,hblk,by cases a;simp only at hs;subst hs;rfl,?_⟩;rw[RepR_iff];intro i r hr;obtain⟨⟨g1,_⟩,ci,g2,g3,g4⟩:=hrows i r hr;refine⟨g1,?_⟩;rw[RepS_iff];intro j p hp;obtain⟨v,hv,hrep⟩:=(g2.2 β m).get hp;have hj:j<P.cellsOf e:=(by rw[← g3];exact(List.getElem?_eq_some_iff.1 hv).1);refine⟨v,?_,g2.1 v (List.mem_of_getElem? hv),hrep⟩;rw[← hv, ← g4 j hj];congr 1;cases a;simp only at hs;subst hs;simp only[Addr.add];split<;>split<;>simp_all<;>omega
    ·have hb5:=bulkR_le rows (elems.map (·.1)) (by simp[hrl,hlen]) fun i r hr=>(hrows i r hr).1.2.2;simp only[PV.bulkL,PV.bulk,Rows.uptoBulk];omega
  ·rename_i fs hu;simp only[Bool.and_eq_true,List.all_eq_true]at h;obtain⟨xs,n,hfu,rfl,hcl,hxl,hp⟩:=DataW.trod_struct hu hx;obtain rfl:c=n:=(by omega);have hpt:partsT P t=fs.toList.map fun f=>(f.offset,f.type):=(by unfold partsT;rw[hu]);obtain⟨ps,h1,h2,h30⟩:=parts_rep5 (w:=w) (c:=c) (cs:=cs) (partsT P t) (xs.map (·.1)) 0 (by rw[hcl];exact h.1) (fun i p hi=>by
    have hcv:=h.2 p (List.mem_of_getElem? hi);rw[hpt]at hi;rw[List.getElem?_map,Option.map_eq_some_iff]at hi;obtain⟨f,hf,rfl⟩:=hi;have hf':fs[i]? =some f:=(by simpa using hf);have hi':i<xs.length:=by
     rw[hxl];exact(Array.getElem?_eq_some_iff.1 hf').1
    have h3:=hp i f hf';rw[List.getElem?_eq_getElem hi']at h3;exact⟨xs[i].1,by rw[List.getElem?_map,List.getElem?_eq_getElem hi'];try rfl,arg_rec5 hT c f.type hcv _ _ h3 (fun m hm=>hw m (by
     simp only[DataW.weights,hu];exact DataW.weights_mem_each (j:=i) (t:=f.type) (d:=xs[i].1) (by rw[List.getElem?_map,hf];try rfl) (by rw[List.getElem?_map,List.getElem?_eq_getElem hi'];try rfl) m hm))⟩)
   refine⟨ps,?_,by simpa using h1,by simp only[Rows.uptoBulk];omega⟩;unfold Arg;rw[hu];exact⟨by rw[h1.len,List.drop_zero,hcl],fun p hpm=>by simpa using h2 p hpm⟩
  ·rename_i k e hu;simp only[Bool.and_eq_true,List.all_eq_true]at h;obtain⟨xs,n,hfu,rfl,hcl,hxl,hp⟩:=DataW.trod_array hu hx;obtain rfl:c=n:=(by omega);have hpt:partsT P t=(List.range k).map fun i=>(i*P.cellsOf e,e):=(by unfold partsT;rw[hu]);obtain⟨ps,h1,h2,h30⟩:=parts_rep5 (w:=w) (c:=c) (cs:=cs) (partsT P t) (xs.map (·.1)) 0 (by rw[hcl];exact h.1) (fun i p hi=>by
    have hcv:=h.2 p (List.mem_of_getElem? hi);rw[hpt,List.getElem?_map,Option.map_eq_some_iff]at hi;obtain⟨j,hj,rfl⟩:=hi;obtain⟨hjk,rfl⟩:=List.getElem?_range_some hj;have hi':i<xs.length:=(by rw[hxl];exact hjk);have h3:=hp i hjk;rw[List.getElem?_eq_getElem hi']at h3;exact⟨xs[i].1,by rw[List.getElem?_map,List.getElem?_eq_getElem hi'];try rfl,arg_rec5 hT c e hcv _ _ h3 (fun m hm=>hw m (by
     simp only[DataW.weights,hu];exact weightsAll_mem (i:=i) (d:=xs[i].1) (by rw[List.getElem?_map,List.getElem?_eq_getElem hi'];try rfl) hm))⟩)
   refine⟨ps,?_,by simpa using h1,by simp only[Rows.uptoBulk];omega⟩;unfold Arg;rw[hu];exact⟨by rw[h1.len,List.drop_zero,hcl],fun p hpm=>by simpa using h2 p hpm⟩
  ·simp at h
theorem arg_value5{Ts:List TypeId}(hT:covC P Ts=true){t:TypeId}(ht:Ts.contains t=true){fs:Array Field}(hu:P.underlying t=some (.struct fs)){v:Value}{d:DataW H}{pl:List MemPlace}
  (h:DataW.Trod enc P w 0 sp held t v d pl)(hv: ∃ base,Value.okWide P w .any base t v)(hw: ∀ n∈d.weights P t,n≤reachBytes):
  ∃ c ps,Arg P c t ps∧(∀ β n,Rep β n (fun b=>b<w.heap.size) w (.agg ps) v)∧PV.bulkL ps≤Rows.uptoBulk d:=by
 obtain⟨fuel,hf⟩:=h;obtain⟨ps,h1,h2,h3⟩:=arg_rec5 hT fuel t ht _ _ hf hw;obtain⟨base,hv⟩:=hv;unfold Value.okWide at hv;simp only[hu]at hv;obtain⟨cs,rfl,_⟩:=hv;refine⟨fuel,ps,h1,fun β n=>?_,h3⟩;simp only[Rep];exact⟨cs.toList,by simp,h2.1,h2.2 β n⟩
end
end Go.AM
namespace Go.AM
theorem bulkR_strs: ∀ l:List ByteArray,l.length≤PV.bulkR (strRows l)
 |[]=>by simp
 |s::l=>by
  have:=bulkR_strs l;simp only[strRows,List.map_cons,PV.bulkR,PV.bulkL,PV.bulk,List.length_cons]at this⊢;omega
mutual
theorem Ex.small_bulk: ∀ (e:Ex),PV.bulkL e.cells≤1048576→e.small
 | .mk op name n args kids,h=>by
  simp only[Ex.cells,PV.bulkL,PV.bulk]at h;simp only[Ex.small];have:=bulkR_strs args;exact⟨by omega,Ex.smalls_bulk kids (by omega)⟩
theorem Ex.smalls_bulk: ∀ (l:List Ex),PV.bulkR (Ex.rows l)≤1048576→Ex.smalls l
 |[],_=>by simp[Ex.smalls]
 |k::ks,h=>by
  simp only[Ex.rows,PV.bulkR]at h;simp only[Ex.smalls];exact⟨Ex.small_bulk k (by omega),Ex.smalls_bulk ks (by omega)⟩
end
mutual
theorem Sx.depth_nodes: ∀ (x:Sx),x.depth≤x.nodes
 | .mk kind _ _ _ _ kids=>by
  have:=Sx.depths_nodes kids 0;simp only[Sx.depth,Sx.nodes];split<;>omega
theorem Sx.depths_nodes: ∀ (l:List Sx)(m:Nat),Sx.depths m l≤max m (Sx.nodess l)
 |[],m=>by simp[Sx.depths,Sx.nodess]
 |k::ks,m=>by
  have h1:=Sx.depth_nodes k;have h2:=Sx.depths_nodes ks (max m k.depth);simp only[Sx.depths,Sx.nodess];omega
end
end Go.AM
namespace Go.Proofs.YtblgchkahpgdjaaGreat
open Go.AM
theorem nodess_words: ∀ l:List ByteArray,Sx.nodess (l.map wordM)=l.length
 |[]=>rfl
 |s::l=>by simp only[List.map_cons,Sx.nodess,word_nodes,nodess_words l,List.length_cons];omega
theorem words_nodes(first:ByteArray)(l:List ByteArray):(wordsM first l).nodes=l.length+2:=by
 simp only[wordsM,list_nodes,nodess_words,List.length_cons]
theorem exW_nodes: ∀ e:Ex,(exW e).nodes≤PV.bulkL e.cells:=by
 refine Ex.ind ?_;intro op name n args kids ih;have h1:=bulkR_strs args;simp only[Ex.cells,PV.bulkL,PV.bulk];unfold exW;split
 ·simp only[Sx.nodes,Sx.nodess];omega
 ·split
  ·rw [words_nodes];omega
  ·split
   ·rename_i a b;have ha:=ih a (by simp);have hb:=ih b (by simp);simp only[Ex.rows,PV.bulkR,list_nodes,Sx.nodess,word_nodes];omega
   ·simp only[list_nodes,Sx.nodess,word_nodes];omega
end Go.Proofs.YtblgchkahpgdjaaGreat
