/- What the claim rests on, part 7: the abstract machine, contracts of the functions, plain data. -/
import Derived.Test.YtblgchkahpgdjaaGreatZd6
set_option linter.unusedVariables false
set_option linter.unusedSimpArgs false
set_option linter.unusedSectionVars false
namespace Go.Proofs.YtblgchkahpgdjaaGreat
open Go.AM
set_option maxHeartbeats 8000000
set_option maxRecDepth 20000
structure EffI(h:Heap)(id:Nat)(b:Bool)(l:List Sx)(h':Heap):Prop where
 grow:GrowX h id (wO b) h'
 ex: ∃ j,h.next+1+1<h'.next∧j≠h.next+1+1∧h.next<j∧j<h'.next∧
  h'.obj h.next=some (.arr 6 [sxZd])∧
  h'.obj (h.next+1+1)=some (.arr 6 [[.sc (.int .i64 3),.sc (.int .i64 0),.sc (.int .i64 0),.sc (.int .i64 0),.sc (.string ⟨#[]⟩),.own j 0 l.length]])∧
  h'.obj j=some (.arr 6 (Sx.rows l))
theorem EffI.newset{h h':Heap}{id:Nat}{b:Bool}{l:List Sx}{o o2:AObj}(i:EffI h id b l h')(hid:id<h.next):EffI h id b l ((h'.new o).set h'.next o2):=by
 obtain⟨hg,j,h1,h2,h3,h4,p1,p2,p3⟩:=i;refine⟨(hg.new hid).set hid hg.le,j,by simp only[Heap.new,Heap.set];omega,h2,h3,by simp only[Heap.new,Heap.set];omega,?_,?_,?_⟩
 ·simp only[Heap.set,Heap.new];rw[if_neg (by omega),if_neg (by omega)];exact p1
 ·simp only[Heap.set,Heap.new];rw[if_neg (by omega),if_neg (by omega)];exact p2
 ·simp only[Heap.set,Heap.new];rw[if_neg (by omega),if_neg (by omega)];exact p3
theorem EffI.push{h h':Heap}{id j:Nat}{b:Bool}{l:List Sx}{x:Sx}(hg:GrowX h id (wO b) h')(hid:id<h.next)(h1:h.next+1+1<h'.next)(h2:j≠h.next+1+1)(h3:h.next<j)(h4:j<h'.next)(o1:h'.obj h.next=some (.arr 6 [sxZd])):
  EffI h id b (l++[x]) (((h'.kill j).new (.arr 6 (Sx.rows l++[x.cells]))).set (h.next+1+1) (.arr 6 [[.sc (.int .i64 3),.sc (.int .i64 0),.sc (.int .i64 0),.sc (.int .i64 0),.sc (.string ⟨#[]⟩),.own h'.next 0 (l.length+1)]])):=by
 have e:Sx.rows (l++[x])=Sx.rows l++[x.cells]:=by rw[Sx.rows_map,Sx.rows_map];simp
 refine⟨((hg.kill hid (by omega)).new hid).set hid (by omega),h'.next,?_,?_,?_,?_,?_,?_,?_⟩
 ·simp only[Heap.set,Heap.new,Heap.kill];omega
 ·omega
 ·omega
 ·simp only[Heap.set,Heap.new,Heap.kill];omega
 ·have a1:¬ h.next=h.next+1+1:=by omega
  have a2:¬ h.next=h'.next:=by omega
  have a3:¬ h.next=j:=by omega
  simp only[Heap.set,Heap.new,Heap.kill,a1,a2,a3,if_false];exact o1
 ·simp only[Heap.set,if_true,List.length_append,List.length_cons,List.length_nil]
 ·have a1:¬ h'.next=h.next+1+1:=by omega
  simp only[Heap.set,Heap.new,Heap.kill,a1,if_false,if_true,e]
theorem weffect_c{h:Heap}{id:Nat}{b:Bool}{l:List Ch}(hl:l.length≤1048576)(hok: ∀ c∈l,c.ok)(hsm: ∀ c∈l,ChSm c)(hid:id<h.next)(ho:h.obj id=some (wO b)):
  PCall Tryz.prog 51 [.ptr id 0 0,.imm 15 (chRows l)] h fun r h'=>r= .agg (effX l).cells∧h'=h.set id (wO (b||!(l.all chB))):=by
 refine PCall.frzX Ty.hb_51 ho (wO_in _ _) ?_;have hll:=chRows_len l;have hw: ∀ (s:ByteArray)(h:Heap),PCall Tryz.prog 40 [sPV s] h fun r h'=>r= .agg (wordM s).cells∧h'=h:=fun s h=>dword_c;simp only[wordM,Sx.cells,Sx.rows]at hw;have hE:effX l=(bif l.isEmpty then listM []else listM (wordM opAnd::l.map chX)):=rfl;cases q0:((l.length:Int)==0)with
 |true=>
  have e0:l=[]:=by have:=eq_of_beq q0;exact List.length_eq_zero_iff.1 (by omega)
  rw[hE,e0];simp only[List.isEmpty_nil,cond_true,List.all_nil,Bool.not_true,Bool.or_false];subst e0;have hl0:=fun h:Heap=>dlist_c (h:=h) (p:= .sc (.slice none 0 0)) rfl (fun _=>by simp only[FrzTo]);refine uG0 Tryz.func51 Tryz.ntmps51 Tryz.results51 Ty.hb_51 ?_;repeat'(first|refine a_seq fun K hK=>?_|refine uR (uu hll q0) ?_|(refine uN hK ?_;clear hK)|apply zI)
  refine uU trivial (hl0 _) ?_;repeat'(first|refine uT trivial ?_|(refine uN hK ?_;clear hK)|apply zI)
  refine⟨?_,((GrowX.refl ho).new hid).set hid (Nat.le_refl _)⟩;simp only[listM,Sx.cells,Sx.rows,FrzTo,FrzL];exact⟨_,rfl,rfl,rfl,rfl,rfl,rfl,.inr (.inl ⟨rfl,.inr rfl⟩),trivial⟩
 |false=>
  have e0:l.isEmpty=false:=by cases l with
   |nil=>simp at q0
   |cons=>rfl
  rw[hE,e0,cond_false];try clear zz
  clear hE e0;generalize hF:(b||!(l.all chB))=F;refine uG (ow:=fun t=>t==13) (wf:=fun f=>f==107||f==41||f==43||f==100||f==51) Tryz.func51 Tryz.ntmps51 Tryz.results51 Ty.hb_51 ?_;replace zz:=uu hll q0;repeat'(first|refine a_seq fun K hK=>?_|refine uR zz ?_|refine uK ?_|refine uC1 zz ?_|(refine uN hK ?_;clear hK)|apply zI)
  refine uU trivial (hw opAnd _) ?_;try apply zI
  refine uU trivial (dlist_c (p:= .own (h.next+1) 0 1) rfl (fun _=>frz_own (by simp[Heap.new]))) ?_;repeat'(first|refine a_seq fun K hK=>?_|refine a_block ?_|refine uR hll ?_|(refine uN hK ?_;clear hK)|apply zI)
  refine a_loop (fun m S h'=>S 0= .ptr id 0 0∧S 4= .ptr h.next 0 0∧S 5= .ptr (h.next+1+1) 0 0∧S 15= .imm 15 (chRows l)∧S 16= .sc (.int .i64 l.length)∧ ∃ (k:Nat)(b':Bool),S 17= .sc (.int .i64 k)∧k≤l.length∧m=l.length-k∧EffI h id b' (wordM opAnd::(l.take k).map chX) h'∧F=(b'||!((l.drop k).all chB))) l.length ?_ ?_
  ·simp only[Ty.w,simprocAttr];refine⟨0,b,rfl,by omega,rfl,⟨?_,h.next+1,by simp[Heap.new,Heap.set],by omega,by omega,by simp[Heap.new,Heap.set],?_,?_,?_⟩,by rw[List.drop_zero];exact hF.symm⟩
   ·exact ((((GrowX.refl ho).new hid).new hid).new hid).set hid (by omega)
   ·simp only[Heap.new,Heap.set];repeat(first|rw[if_neg (by omega)]|rw[if_pos trivial])
   ·simp only[Heap.new,Heap.set];(repeat(first|rw[if_neg (by omega)]|rw[if_pos trivial]));try rfl
   ·simp only[Heap.new,Heap.set];(repeat(first|rw[if_neg (by omega)]|rw[if_pos trivial]));simp[wordM,Sx.rows,Sx.cells]
  ·(try clear zz);clear hF;rintro m S h' ⟨g0,g4,g5,g15,g16,k,b',g17,hk,rfl,hI,hinv⟩;by_cases hlt:k<l.length
   ·have hd:decide ((k:Int)<(l.length:Int))=true:=(by simp;omega);have w7:IntKind.i64.wrap ((k:Int)+1)=k+1:=(by rw[wrap64 (by omega) (by omega)]);obtain⟨c,hx⟩: ∃ c,l[k]? =some c:=⟨_,List.getElem?_eq_getElem hlt⟩;have hr:=chRows_get hx;have hcc:=fun(H:Heap)(b':Bool)(hid':id<H.next)(ho':H.obj id=some (wO b'))=>wchange_c (h:=H) (b:=b') (hok c (List.mem_of_getElem? hx)) (hsm c (List.mem_of_getElem? hx)) hid' ho';rw[drop_of_get hx,List.all_cons]at hinv;have htk:(l.take (k+1)).map chX=(l.take k).map chX++[chX c]:=(by rw[List.take_add_one,hx];simp);generalize chB c=q at hcc hinv;generalize chX c=X at hcc htk;have hlen:(wordM opAnd::(l.take k).map chX).length=k+1:=(by simp;omega);have hcon:wordM opAnd::(l.take (k+1)).map chX=(wordM opAnd::(l.take k).map chX)++[X]:=(by rw[htk];try rfl);generalize(wordM opAnd::(l.take k).map chX)=L at hI hlen hcon;(try clear zz);clear htk;obtain⟨kind,params,⟨gop,gna,gar,gpa,gex,gki⟩,name,args,⟨eop,ena,en,ear,eki⟩⟩:=c;simp only[chRow,Fm.cells,Ex.cells,List.cons_append,List.nil_append]at hr hcc;obtain⟨xk,xv,xl,xc,xt,xs⟩:=X;simp only[Sx.cells]at hcc;replace zz:=uu g0 (uu g4 (uu g5 (uu g15 (uu g16 (uu g17 (uu hd hr))))));(repeat'(first|with_reducible refine a_holdB 7 ?_|refine a_seq fun K hK=>?_|refine uR zz ?_|refine uK ?_|refine uC1 zz ?_|(refine uN hK ?_;clear hK)|apply zI));refine⟨?_⟩;refine a_genX (fun S H=>S 0= .ptr id 0 0∧S 4= .ptr h.next 0 0∧S 5= .ptr (h.next+1+1) 0 0∧S 15= .imm 15 (chRows l)∧S 16= .sc (.int .i64 l.length)∧S 17= .sc (.int .i64 k)∧ ∃ j7,S 7= .ptr j7 0 0∧h.next+1+1<j7∧H.obj j7=some (.arr 15 [[.sc (.int .i64 kind),.imm 2 (pmRows params),sPV gop,sPV gna,.imm 1 (strRows gar),.imm 2 (pmRows gpa),.imm 5 (Ex.rows gex),.imm 6 (Fm.rows gki),sPV name,.imm 1 (strRows args),sPV eop,sPV ena,.sc (.int .i64 en),.imm 1 (strRows ear),.imm 5 (Ex.rows eki)]])∧EffI h id b' L H) ?_ ?_
    ·obtain ⟨_,hlt2,_⟩:=hI.ex;exact⟨by simp only[Ty.w,simprocAttr,g0],by simp only[Ty.w,simprocAttr,g4],by simp only[Ty.w,simprocAttr,g5],by simp only[Ty.w,simprocAttr,g15],by simp only[Ty.w,simprocAttr,g16],by simp only[Ty.w,simprocAttr,g17],h'.next,by simp only[Ty.w,simprocAttr],hlt2,by simp only[Heap.set,if_true],hI.newset hid⟩
    ·(try clear zz);clear g0 g4 g5 g15 g16 g17 hI hd hr;rintro S H ⟨g0,g4,g5,g15,g16,g17,j7,g7,hj7,ho7,hI⟩;have stepF:(b'||!q)=(b'||!q)∧F=((b'||!q)||!((l.drop (k+1)).all chB)):=⟨rfl,by rw[hinv];cases b'<;>cases q<;>simp⟩;have hno:=hI.grow.at_;have hle:=hI.grow.le;obtain⟨hg,j,h1,h2,h3,h4,o1,o2,o3⟩:=hI;have d1:(h.next+1+1=id)=False:=eq_false (by omega);have d2:(j=id)=False:=eq_false (by omega);have d3:(h.next+1+1=j)=False:=eq_false (by omega);have d4:(h.next+1+1=H.next)=False:=eq_false (by omega);have hrl:(Sx.rows L).length=k+1:=(by rw[Sx.rows_len];exact hlen);have htk:List.take (k+1) (Sx.rows L)=Sx.rows L:=List.take_of_length_le (by omega);have hb:(k+1+1)*72≤140737488355328:=(by omega);rw[hlen]at o2;generalize hRe:Sx.rows L=R at o3 hrl htk;replace zz:=uu g0 (uu g4 (uu g5 (uu g15 (uu g16 (uu g17 (uu g7 (uu ho7 o2)))))));(repeat'(first|refine uE zz fun K hK=>?_|apply zI));refine a_dcallW (hcc H b' (by omega) hno) (by(try simp only[Ty.w,simprocAttr,g0,g4,g5,g15,g16,g17,g7,ho7]);try rfl) (by
      try simp only[Ty.w,simprocAttr,Ty.all,pastC,List.map_cons,List.map_nil,List.forall_mem_cons,g0,g4,g5,g7,ho7,o2,d1]
      (repeat' apply And.intro)<;>first
       |trivial
       |exact .inl (by decide+kernel)
       |exact .inr trivial) ?_
     simp(maxSteps:=2000000) only[Ty.w,simprocAttr,Ty.all,Option.getD_some,g0,g4,g5,g15,g16,g17,g7,ho7,o2,o3,d1,d2];replace zz:=uu g0 (uu g4 (uu g5 (uu g15 (uu g16 (uu g17 (uu g7 (uu o2 (uu o3 (uu d1 (uu d2 (uu d3 (uu d4 (uu hrl (uu htk (uu hb w7)))))))))))))));(repeat'(first|refine uR zz ?_|(refine uN hK ?_;clear hK)|refine uB zz ?_|(rw[if_pos];rotate_left 1;omega;simp(maxSteps:=2000000) only[Ty.w,simprocAttr,g0,g4,g5,g15,g16,g17,g7,o2,o3,d1,d2,d3,d4,hrl,htk,hb,w7])|apply zI));have hp:=EffI.push (x:= .mk xk xv xl xc xt xs) (l:=L) ((hg.put (o2:=wO (b'||!q)))) hid h1 h2 h3 h4 (by simp only[Heap.set];rw[if_neg (by omega)];exact o1);rw[← hcon,hRe,hlen]at hp;exact⟨l.length-(k+1),by omega,k+1,b'||!q,by simp,by omega,rfl,hp,stepF.2⟩
   ·have hd:decide ((k:Int)<(l.length:Int))=false:=(by simp;omega);have hke:k=l.length:=(by omega);subst hke;obtain⟨hg,j,hn2,hne,hlo,hhi,o1,o2,o3⟩:=hI;rw[List.take_length]at o2 o3;rw[List.drop_length,List.all_nil,Bool.not_true,Bool.or_false]at hinv;subst hinv;have n1:(h.next+1+1=h.next)=False:=(by simp;omega);generalize hLe:wordM opAnd::l.map chX=L at o2 o3;replace zz:=uu g0 (uu g4 (uu g5 (uu g15 (uu g16 (uu g17 (uu hd (uu o1 (uu o2 (uu o3 n1)))))))));(repeat'(first|refine a_seq fun K hK=>?_|refine uR zz ?_|refine uT zz ?_|refine uX ?_|refine uC1 zz ?_|(refine uN hK ?_;clear hK)|(clear hK;refine uN hK ?_;clear hK)|apply zI));refine⟨?_,hg.set hid (Nat.le_refl _)⟩;rw[hLe];simp only[listM,Sx.cells,FrzTo,FrzL];refine⟨_,rfl,rfl,rfl,rfl,rfl,rfl,.inr (.inr ⟨j,0,L.length,Sx.rows L,rfl,by omega,?_,?_,?_⟩),trivial⟩
    ·simp only[Heap.set];rw[if_neg (by omega)];exact o3
    ·rw [Sx.rows_len];omega
    ·rw [List.drop_zero,List.take_of_length_le (by rw[Sx.rows_len];omega)];exact sxs_frz _ _ _
theorem zeroSx_frz{n:Nat}{h:Heap}:FrzTo n h (.agg zeroSx.cells) (.agg sxZd):=by
 simp only[zeroSx,Sx.cells,Sx.rows,FrzTo,FrzL];exact⟨_,rfl,rfl,rfl,rfl,rfl,rfl,.inr (.inl ⟨rfl,.inr rfl⟩),trivial⟩
theorem WriteEffect_c{l:List Ch}(hl:l.length≤1048576)(hok: ∀ c∈l,c.ok)(hsm: ∀ c∈l,ChSm c)(hX:(effX l).ok)(h:Heap):
  PCall Tryz.prog 17 [.imm 15 (chRows l)] h fun r h'=>r=(if writeEB l then .tup [.agg (effX l).cells,.sc .nilIface]else .tup [.agg zeroSx.cells,errV 2])∧h'=h:=by
 refine PCall.frz Ty.hb_17 ?_;have hc:=fun(H:Heap)(hid:h.next+1<H.next)(ho:H.obj (h.next+1)=some (wO false))=>weffect_c (h:=H) (b:=false) hl hok hsm hid ho;have hV:=fun h:Heap=>svalid_c (x:=effX l) hX h;have hW:writeEB l=(l.all chB&&(svalid (effX l) 0 0).1):=rfl;rw[hW];generalize(svalid (effX l) 0 0).1=v at hV⊢;generalize l.all chB=a at hc⊢;generalize effX l=X at hc hV⊢;generalize chRows l=R at hc⊢;obtain⟨xk,xv,xl,xc,xt,xs⟩:=X;simp only[Sx.cells]at hc hV⊢;have n1:(h.next=h.next+1)=False:=eq_false (by omega);have n2:(h.next=h.next+1+1)=False:=eq_false (by omega);have n3:(h.next+1=h.next+1+1)=False:=eq_false (by omega);have n4:(h.next+1+1=h.next+1)=False:=eq_false (by omega);have n5:(h.next+1+1=h.next)=False:=eq_false (by omega);have n6:(h.next+1=h.next)=False:=eq_false (by omega);cases a with
 |false=>
  refine uG (ow:=fun t=>t==7) (wf:=fun _=>false) Tryz.func17 Tryz.ntmps17 Tryz.results17 Ty.hb_17 ?_;repeat'(first|refine a_seq fun K hK=>?_|refine uR trivial ?_|(refine uN hK ?_;clear hK)|apply zI)
  refine owp_useH (hc _ (by simp[Heap.new]) (by simp[Heap.new])) (by(try simp only[Ty.w,simprocAttr]);try rfl) ?_;simp(maxSteps:=2000000) only[Ty.w,simprocAttr];repeat'(first|refine a_seq fun K hK=>?_|((first|refine a_regionS ?_|refine a_ret ?_);simp(maxSteps:=2000000) only[Ty.w,simprocAttr,n1,n2,n3,n4,n5,n6,Bool.not_false,Bool.false_or])|(refine hK _ _ ?_;clear hK;(try simp only[pst0,simprocAttr])))
  refine⟨?_,((((((Grow.refl h).new _).new _).set (by omega) _).new _).set (by omega) _).set (Nat.le_refl _) _⟩;simp only[Bool.false_and,Bool.false_eq_true,if_false,errV,FrzTo,FrzL,and_true];exact⟨_,rfl,zeroSx_frz,rfl,trivial⟩
 |true=>
  cases v with
  |false=>
   refine uG (ow:=fun t=>t==7) (wf:=fun _=>false) Tryz.func17 Tryz.ntmps17 Tryz.results17 Ty.hb_17 ?_;(repeat'(first|refine a_seq fun K hK=>?_|refine uR trivial ?_|(refine uN hK ?_;clear hK)|apply zI));refine owp_useH (hc _ (by simp[Heap.new]) (by simp[Heap.new])) (by(try simp only[Ty.w,simprocAttr]);try rfl) ?_;simp(maxSteps:=2000000) only[Ty.w,simprocAttr];(repeat'(first|refine a_seq fun K hK=>?_|(refine a_regionS ?_;simp(maxSteps:=2000000) only[Ty.w,simprocAttr,n1,n2,n3,n4,n5,n6,Bool.not_true,Bool.false_or])|(refine hK _ _ ?_;clear hK;(try simp only[pst0,simprocAttr]))));replace zz:=uu n1 (uu n2 (uu n3 (uu n4 (uu n5 n6))));refine uU zz (hV _) ?_;replace zz:=uu n1 (uu n2 (uu n3 (uu n4 (uu n5 (uu n6 @Bool.not_false)))));(repeat'(first|refine a_seq fun K hK=>?_|refine uR zz ?_|refine uT zz ?_|(refine uN hK ?_;clear hK)|apply zI));refine⟨?_,((((((Grow.refl h).new _).new _).set (by omega) _).new _).set (by omega) _).set (Nat.le_refl _) _⟩;simp only[Bool.and_false,Bool.false_eq_true,if_false,errV,FrzTo,FrzL,and_true];exact⟨_,rfl,zeroSx_frz,rfl,trivial⟩
  |true=>
   refine uG (ow:=fun t=>t==7) (wf:=fun _=>false) Tryz.func17 Tryz.ntmps17 Tryz.results17 Ty.hb_17 ?_;(repeat'(first|refine a_seq fun K hK=>?_|refine uR trivial ?_|(refine uN hK ?_;clear hK)|apply zI));refine owp_useH (hc _ (by simp[Heap.new]) (by simp[Heap.new])) (by(try simp only[Ty.w,simprocAttr]);try rfl) ?_;simp(maxSteps:=2000000) only[Ty.w,simprocAttr];(repeat'(first|refine a_seq fun K hK=>?_|(refine a_regionS ?_;simp(maxSteps:=2000000) only[Ty.w,simprocAttr,n1,n2,n3,n4,n5,n6,Bool.not_true,Bool.false_or])|(refine hK _ _ ?_;clear hK;(try simp only[pst0,simprocAttr]))));replace zz:=uu n1 (uu n2 (uu n3 (uu n4 (uu n5 n6))));refine uU zz (hV _) ?_;replace zz:=uu n1 (uu n2 (uu n3 (uu n4 (uu n5 (uu n6 @Bool.not_true)))));(repeat'(first|refine a_seq fun K hK=>?_|refine uR zz ?_|refine uT zz ?_|refine uK ?_|refine uC1 zz ?_|(refine uN hK ?_;clear hK)|apply zI));refine⟨?_,((((((Grow.refl h).new _).new _).set (by omega) _).new _).set (by omega) _).set (Nat.le_refl _) _⟩;simp only[Bool.and_self,if_true,FrzTo];exact⟨_,rfl,by simp only[FrzL,FrzTo,and_true];exact⟨_,rfl,sx_frz _ _ (.mk xk xv xl xc xt xs)⟩⟩
set_option maxHeartbeats 4000000
def exprs2:List Sx→List Ex × Int
 |[a,b]=>(match exprP a with
  | (ea, ca) => bif ca == 0 then (match exprP b with
   |(eb,cb)=>bif cb==0 then([ea,eb],0)else([],cb))else([],ca))
 |_=>([],2)
theorem textOf_okQ{x:Sx}(h:x.ok):(textOf x).size≤bigN:=by
 obtain⟨_,_,_,_,t,_⟩:=x;simp only[Sx.ok]at h;exact h.2.2.1
theorem pms_in(n:Nat)(l:List Pm):inNR n (pmRows l):=by
 induction l with
 |nil=>simp only[pmRows,List.map_nil,inNR]
 |cons a l ih=>simp only[pmRows,List.map_cons,inNR,pmRow,inNL,inN,and_true,true_and]at ih⊢;exact ih
theorem exs_in(n:Nat): ∀ l:List Ex,inNR n (Ex.rows l)
 |[]=>by simp only[Ex.rows,inNR]
 |k::ks=>by simp only[Ex.rows,inNR];exact⟨ex_in n k,exs_in n ks⟩
theorem fm_in(n:Nat): ∀ f:Fm,inNL n f.cells:=by
 refine Fm.ind ?_;intro op name args params exprs kids ih;have:inNR n (Fm.rows kids):=by
  try clear zz
  clear op name args params exprs
  induction kids with
  |nil=>simp only[Fm.rows,inNR]
  |cons k ks ih2=>
   simp only[Fm.rows,inNR];exact⟨ih k (by simp),ih2 fun q hq=>ih q (by simp[hq])⟩
 simp only[Fm.cells,inNL,inN,and_true,true_and];exact⟨strs_in n args,pms_in n params,exs_in n exprs,this⟩
theorem fms_in(n:Nat): ∀ l:List Fm,inNR n (Fm.rows l)
 |[]=>by simp only[Fm.rows,inNR]
 |k::ks=>by simp only[Fm.rows,inNR];exact⟨fm_in n k,fms_in n ks⟩
theorem fm_frz(n:Nat)(h:Heap)(f:Fm):FrzL n h f.cells f.cells:=by
 have hi:=fm_in n f;obtain⟨op,name,args,params,exprs,kids⟩:=f;simp only[Fm.cells,inNL,inN,and_true,true_and]at hi;simp only[Fm.cells,FrzL,FrzTo,and_true,true_and];exact⟨.inl hi.1,.inl hi.2.1,.inl hi.2.2.1,.inl hi.2.2.2⟩
theorem fms_frz(n:Nat)(h:Heap): ∀ l:List Fm,FrzR n h (Fm.rows l) (Fm.rows l)
 |[]=>by simp only[Fm.rows,FrzR]
 |k::ks=>by simp only[Fm.rows,FrzR];exact⟨fm_frz n h k,fms_frz n h ks⟩
theorem tl_frzF{h:Heap}{id0 n:Nat}{p:PV}{l:List Fm}(hn:n≤id0)(t:Tl h id0 6 p (Fm.rows l)):FrzTo n h (.imm 6 (Fm.rows l)) p:=by
 simp only[FrzTo];rcases t with⟨h1,h2⟩|⟨id,h1,h2,rfl,ho⟩
 ·exact .inr (.inl ⟨h1,h2.symm⟩)
 ·refine .inr (.inr ⟨id,0,_,_,rfl,by omega,ho,by omega,?_⟩);rw[List.drop_zero,List.take_of_length_le (by omega)];exact fms_frz _ _ _
theorem fmPs_nil: ∀ l:List Sx,((fmPs l).2==0)=false→(fmPs l).1=[]
 |[],h=>by simp[fmPs]at h
 |x::l,h=>by
  simp only[fmPs]at h⊢;cases hq:(fmP x).2==0 with
  |false=>simp only[cond_false]
  |true=>
   rw[hq]at h;simp only[cond_true]at h⊢;cases hr:(fmPs l).2==0 with
   |false=>simp only[cond_false]
   |true=>rw[hr]at h;simp at h
theorem kids_c{l:List Sx}(hl:l.length≤1048576)(hf: ∀ x∈l, ∀ h:Heap,PCall Tryz.prog 169 [.agg x.cells] h fun r h'=>r= .tup [.agg (fmP x).1.cells,errP (fmP x).2]∧h'=h)(h:Heap):
  PCall Tryz.prog 182 [.imm 6 (Sx.rows l)] h fun r h'=>r= .tup [.imm 6 (Fm.rows (fmPs l).1),errP (fmPs l).2]∧h'=h:=by
 refine PCall.frz Ty.hb_182 ?_;have hll:=Sx.rows_len l;refine uG0 Tryz.func182 Tryz.ntmps182 Tryz.results182 Ty.hb_182 ?_;repeat'(first|refine a_seq fun K hK=>?_|refine a_block ?_|refine uR hll ?_|(refine uN hK ?_;clear hK)|apply zI)
 refine a_loop (fun m S h'=>S 9= .imm 6 (Sx.rows l)∧S 10= .sc (.int .i64 l.length)∧ ∃ (k:Nat)(o:PV)(pre:List Fm),S 11= .sc (.int .i64 k)∧S 4=o∧k≤l.length∧m=l.length-k∧Grow h h'∧pre.length=k∧Tl h' h.next 6 o (Fm.rows pre)∧
  fmPs l=(bif (fmPs (l.drop k)).2==0 then(pre++(fmPs (l.drop k)).1,0)else([],(fmPs (l.drop k)).2))) l.length ?_ ?_
 ·simp only[Ty.w,simprocAttr];refine⟨0,_,[],rfl,rfl,by omega,rfl,Grow.refl _,rfl,Tl.nil,?_⟩;rw[List.drop_zero];cases hq:(fmPs l).2==0
  ·simp only[cond_false];rw[← fmPs_nil l hq]
  ·have h0:(fmPs l).2=0:=(by simpa using hq);simp only[cond_true,List.nil_append];rw[← h0]
 ·rintro m S h' ⟨g9,g10,k,o,pre,g11,g4,hk,rfl,hg,hpl,tl,hinv⟩;by_cases hlt:k<l.length
  ·have hd:decide ((k:Int)<(l.length:Int))=true:=(by simp;omega);have w7:IntKind.i64.wrap ((k:Int)+1)=k+1:=(by rw[wrap64 (by omega) (by omega)]);obtain⟨x,hx⟩: ∃ x,l[k]? =some x:=⟨_,List.getElem?_eq_getElem hlt⟩;have hr:=Sx.rows_get hx;have hc:=hf x (List.mem_of_getElem? hx);rw[drop_of_get hx]at hinv;simp only[fmPs]at hinv;generalize hE:fmP x=E at hc hinv;obtain⟨f,c⟩:=E;simp only at hc hinv;(try clear zz);clear hE hf;obtain⟨ki,va,li,co,te,ks⟩:=x;simp only[Sx.cells]at hr hc;have n3:(h'.next=h'.next+1)=False:=(by simp);cases hcc:c==0 with
   |false=>
    rw[hcc]at hinv;simp only[cond_false]at hinv;have e0:errP c=errV c:=(by simp only[errP,hcc,cond_false]);rw[e0]at hc;simp only[errV]at hc;have hq:fmPs l=([],c):=(by rw[hinv];simp only[hcc,cond_false]);rw[hq];obtain⟨fop,fna,far,fpa,fex,fki⟩:=f;simp only[Fm.cells]at hc;replace zz:=uu g9 (uu g10 (uu g11 (uu g4 (uu hd hr))));(repeat'(first|refine a_seq fun K hK=>?_|refine uR zz ?_|refine uK ?_|refine uC1 zz ?_|(refine uN hK ?_;clear hK)|apply zI));refine uU zz (hc _) ?_;replace zz:=uu g9 (uu g10 (uu g11 (uu g4 (uu hd (uu hr (uu n3 @nsucc))))));(repeat'(first|refine a_seq fun K hK=>?_|refine uR zz ?_|refine uT zz ?_|(refine uN hK ?_;clear hK)|apply zI));rw[e0];refine⟨?_,(((hg.new _).set hg.le _).new _).set (show h.next≤h'.next+1 by have:=hg.le;omega) _⟩;simp only[errV,Fm.rows,FrzTo,FrzL];exact⟨_,rfl,.inr (.inl ⟨rfl,.inr rfl⟩),rfl,trivial⟩
   |true=>
    have e0:errP c= .sc .nilIface:=(by simp only[errP,hcc,cond_true]);rw[e0]at hc;have hto:=tl_one tl;have hrows:Fm.rows (pre++[f])=Fm.rows pre++[f.cells]:=(by simp only[Fm.rows_map,List.map_append,List.map_cons,List.map_nil]);obtain⟨fop,fna,far,fpa,fex,fki⟩:=f;simp only[Fm.cells]at hc hrows;generalize hH2:((((h'.new (.arr 6 [[.sc (.int .i64 0),.sc (.int .i64 0),.sc (.int .i64 0),.sc (.int .i64 0),.sc (.string ⟨#[]⟩),.sc (.slice none 0 0)]])).set h'.next (.arr 6 [[.sc (.int .i64 ki),.sc (.int .i64 va),.sc (.int .i64 li),.sc (.int .i64 co),sPV te,.imm 6 (Sx.rows ks)]])).new (.arr 6 [[.sc (.string ⟨#[]⟩),.sc (.string ⟨#[]⟩),.sc (.slice none 0 0),.sc (.slice none 0 0),.sc (.slice none 0 0),.sc (.slice none 0 0)]])).set (h'.next+1) (.arr 6 [[sPV fop,sPV fna,.imm 1 (strRows far),.imm 2 (pmRows fpa),.imm 5 (Ex.rows fex),.imm 6 (Fm.rows fki)]]))=H2;have hnn:H2.next=h'.next+1+1:=by rw[← hH2];simp[Heap.new,Heap.set]
    have hold: ∀ j,j<h'.next→H2.obj j=h'.obj j:=fun j hj=>by
     have a1:¬ j=h'.next:=by omega
     have a2:¬ j=h'.next+1:=by omega
     rw[← hH2];simp only[Heap.new,Heap.set,a1,a2,if_false]
    have tl2:=tl.up (h':=H2) (by omega) (fun j _ hj=>hold j hj);have hg2:Grow h H2:=(by rw[← hH2];exact(((hg.new _).set hg.le _).new _).set (show h.next≤h'.next+1 by have:=hg.le;omega) _);obtain⟨H,t1,t2,t3,t4,t5⟩:=tl2.tail;have hkp:=t5 h ⟨hg2.le,hg2.old⟩ (Nat.le_refl _);have hgH:Grow h H:=⟨hkp.1,hkp.2⟩;have hpr:(Fm.rows pre).length=k:=(by rw[Fm.rows_len];exact hpl);have hb:(k+1)*128≤140737488355328:=(by omega);have hob:H2.obj (h'.next+1)=some (.arr 6 [[sPV fop,sPV fna,.imm 1 (strRows far),.imm 2 (pmRows fpa),.imm 5 (Ex.rows fex),.imm 6 (Fm.rows fki)]]):=(by rw[← hH2];simp[Heap.set]);replace zz:=uu g9 (uu g10 (uu g11 (uu g4 (uu hd hr))));(repeat'(first|refine a_seq fun K hK=>?_|refine uR zz ?_|refine uK ?_|refine uC1 zz ?_|(refine uN hK ?_;clear hK)|apply zI));refine uU zz (hc _) ?_;replace zz:=uu g9 (uu g10 (uu g11 (uu g4 (uu n3 (uu @nsucc (uu hH2 (uu hob (uu t1 (uu t2 (uu hpr (uu hb w7)))))))))));(repeat'(first|refine a_seq fun K hK=>?_|refine uR zz ?_|refine uQ zz fun K hK=>?_|refine uK ?_|refine uC1 zz ?_|(refine uN hK ?_;clear hK)|(rw[if_pos];rotate_left 1;omega;simp(maxSteps:=2000000) only[Ty.w,simprocAttr,g9,g10,g11,g4,n3,nsucc,hH2,hob,t1,t2,hpr,hb,w7])|apply zI));rw[← hrows];have hgr:=Tl.grow (H:=H) (id0:=h.next) (z:=6) (len:=k+1) (rows:=Fm.rows (pre++[Fm.mk fop fna far fpa fex fki])) hkp.1 (by rw[Fm.rows_len];simp[hpl]);refine⟨l.length-(k+1),by omega,k+1,.own H.next 0 (k+1),pre++[Fm.mk fop fna far fpa fex fki],by simp,by rw[t3,hnn],by omega,rfl,hgH.new _,by simp[hpl],hgr,?_⟩;rw[hinv,hcc];simp only[cond_true];cases hq:(fmPs (List.drop (k+1) l)).2==0 with
    |false=>simp only[hq,cond_false]
    |true=>simp only[cond_true,beq_self_eq_true,List.append_assoc,List.cons_append,List.nil_append]
  ·have hd:decide ((k:Int)<(l.length:Int))=false:=(by simp;omega);rw[List.drop_eq_nil_of_le (by omega)]at hinv;have hq:fmPs l=(pre,0):=(by rw[hinv];simp[fmPs]);replace zz:=uu g9 (uu g10 (uu g11 (uu g4 hd)));(repeat'(first|refine a_seq fun K hK=>?_|refine uR zz ?_|refine uT zz ?_|refine uX ?_|refine uC1 zz ?_|(refine uN hK ?_;clear hK)|(clear hK;refine uN hK ?_;clear hK)|apply zI));have e2:errP 0= .sc .nilIface:=rfl;rw[hq];simp only[e2];refine⟨?_,hg⟩;have h1:=tl_frzF (Nat.le_refl _) tl;unfold FrzTo;refine⟨_,rfl,?_⟩;unfold FrzL;refine⟨h1,?_⟩;unfold FrzL;exact⟨by simp only[FrzTo],by simp only[FrzL]⟩
theorem compare_c{w:ByteArray}{x y:Sx}(hx:x.ok)(hy:y.ok)
  (cx: ∀ h:Heap,PCall Tryz.prog 168 [.agg x.cells] h fun r h'=>r= .tup [.agg (exprP x).1.cells,errP (exprP x).2]∧h'=h)
  (cy: ∀ h:Heap,PCall Tryz.prog 168 [.agg y.cells] h fun r h'=>r= .tup [.agg (exprP y).1.cells,errP (exprP y).2]∧h'=h)(h:Heap):
  PCall Tryz.prog 183 [sPV w,.agg x.cells,.agg y.cells] h fun r h'=>r= .tup [.agg (compareP w x y).1.cells,errP (compareP w x y).2]∧h'=h:=by
 refine PCall.frz Ty.hb_183 ?_;have ht:=fun h:Heap=>terms_c (l:=[x,y]) (by simp) (by simp[hx,hy]) h;generalize hF:compareP w x y=F;unfold compareP at hF;have hti:=strs_in;generalize termsM [x,y]=T at ht hF;obtain⟨t,c⟩:=T;have hi1:=ex_in;generalize exprP x=X at cx hF;obtain⟨ex,c1⟩:=X;generalize exprP y=Y at cy hF;obtain⟨ey,c2⟩:=Y;obtain⟨kx,vx,lx,ox,tx,sx⟩:=x;obtain⟨ky,vy,ly,oy,ty,sy⟩:=y;obtain⟨aop,ana,an,aar,aki⟩:=ex;obtain⟨bop,bna,bn,bar,bki⟩:=ey;simp only[kindOf]at hF;simp only[Sx.rows,Sx.cells,Ex.cells]at ht cx cy⊢;have hgr: ∀ r,Grow h ((h.new (.arr 6 [[.sc (.string ⟨#[]⟩),.sc (.string ⟨#[]⟩),.sc (.slice none 0 0),.sc (.slice none 0 0),.sc (.slice none 0 0),.sc (.slice none 0 0)]])).set h.next r):=fun r=>((Grow.refl h).new _).set (Nat.le_refl _) _;refine uG0 Tryz.func183 Tryz.ntmps183 Tryz.results183 Ty.hb_183 ?_;repeat'(first|with_reducible refine a_hold 1 ?_|refine a_seq fun K hK=>?_|refine uR trivial ?_|(refine uN hK ?_;clear hK)|apply zI)
 refine⟨?_⟩;refine a_cut (fun S h'=>S 0=sPV w∧S 4= .cptr (Sx.mk kx vx lx ox tx sx).cells∧S 5= .cptr (Sx.mk ky vy ly oy ty sy).cells∧S 6= .ptr h.next 0 0∧h'=h.new (.arr 6 [[.sc (.string ⟨#[]⟩),.sc (.string ⟨#[]⟩),.sc (.slice none 0 0),.sc (.slice none 0 0),.sc (.slice none 0 0),.sc (.slice none 0 0)]])∧(bEq w opEq&&kx==1&&ky==1)=false) ?_ ?_
 ·try clear zz
  clear cx cy;simp only[Sx.cells];cases q1:(w.data.toList==(#[61]:Array UInt8).toList)with
  |false=>
   have q1':bEq w opEq=false:=q1;(repeat'(first|refine a_seq fun K hK=>?_|refine uR q1 ?_|refine uK ?_|refine uC1 q1 ?_|(refine uN hK ?_;clear hK)|apply zI));all_goals first|rfl|(simp only[Ty.w,simprocAttr,q1',Bool.false_and];done)
  |true=>
   have q1':bEq w opEq=true:=q1;cases q2:(kx==1)with
   |false=>
    replace zz:=uu q1 q2;(repeat'(first|refine a_seq fun K hK=>?_|refine uR zz ?_|refine uK ?_|refine uC1 zz ?_|(refine uN hK ?_;clear hK)|apply zI));all_goals first|rfl|(simp only[Ty.w,simprocAttr,q1',q2,Bool.false_and,Bool.true_and];done)
   |true=>
    cases q3:(ky==1)with
    |false=>
     replace zz:=uu q1 (uu q2 q3);(repeat'(first|refine a_seq fun K hK=>?_|refine uR zz ?_|refine uK ?_|refine uC1 zz ?_|(refine uN hK ?_;clear hK)|apply zI));all_goals first|rfl|(simp only[Ty.w,simprocAttr,q1',q2,q3,Bool.true_and];done)
    |true=>
     rw[q1',q2,q3]at hF;simp only[Bool.and_true,cond_true]at hF;subst hF;cases hc:c==0 with
     |true=>
      have e0:errP c= .sc .nilIface:=(by simp only[errP,hc,cond_true]);rw[e0]at ht⊢;(repeat'(first|refine a_seq fun K hK=>?_|refine uR (uu q1 (uu q2 q3)) ?_|(refine uN hK ?_;clear hK)|apply zI));refine uU (uu q1 (uu q2 q3)) (ht _) ?_;(repeat'(first|refine a_seq fun K hK=>?_|refine uR trivial ?_|refine uT trivial ?_|(refine uN hK ?_;clear hK)|apply zI));refine⟨?_,hgr _⟩;simp only[opSame,Fm.cells,Ex.rows,Fm.rows,pmRows,List.map_nil,FrzTo,FrzL];exact⟨_,rfl,⟨_,rfl,rfl,rfl,.inl ⟨rfl,hti _ _⟩,.inr (.inl ⟨rfl,.inr rfl⟩),.inr (.inl ⟨rfl,.inr rfl⟩),.inr (.inl ⟨rfl,.inr rfl⟩),trivial⟩,rfl,trivial⟩
     |false=>
      have e0:errP c=errV c:=(by simp only[errP,hc,cond_false]);rw[e0]at ht⊢;simp only[errV]at ht⊢;(repeat'(first|refine a_seq fun K hK=>?_|refine uR (uu q1 (uu q2 q3)) ?_|(refine uN hK ?_;clear hK)|apply zI));refine uU (uu q1 (uu q2 q3)) (ht _) ?_;(repeat'(first|refine a_seq fun K hK=>?_|refine uR trivial ?_|refine uT trivial ?_|(refine uN hK ?_;clear hK)|apply zI));refine⟨?_,hgr _⟩;simp only[opSame,Fm.cells,Ex.rows,Fm.rows,pmRows,List.map_nil,FrzTo,FrzL];exact⟨_,rfl,⟨_,rfl,rfl,rfl,.inl ⟨rfl,hti _ _⟩,.inr (.inl ⟨rfl,.inr rfl⟩),.inr (.inl ⟨rfl,.inr rfl⟩),.inr (.inl ⟨rfl,.inr rfl⟩),trivial⟩,rfl,trivial⟩
 ·rintro S h' ⟨g0,g4,g5,g6,rfl,hq⟩;rw[hq]at hF;try clear zz
  clear ht hq;simp only[cond_false]at hF;simp only[Sx.cells]at g4 g5;have n1:(h.next=h.next+1)=False:=by simp
  have n2:(h.next=h.next+1+1)=False:=by simp;omega
  have n3:(h.next+1=h.next+1+1)=False:=by simp
  have hgr2: ∀ o1 o2 r,Grow h ((((h.new (.arr 6 [[.sc (.string ⟨#[]⟩),.sc (.string ⟨#[]⟩),.sc (.slice none 0 0),.sc (.slice none 0 0),.sc (.slice none 0 0),.sc (.slice none 0 0)]])).new o1).set (h.next+1) o2).set h.next r):=fun o1 o2 r=>((((Grow.refl h).new _).new _).set (Nat.le_succ _) _).set (Nat.le_refl _) _;have hgr3: ∀ o1 o2 o3 o4 r,Grow h ((((((h.new (.arr 6 [[.sc (.string ⟨#[]⟩),.sc (.string ⟨#[]⟩),.sc (.slice none 0 0),.sc (.slice none 0 0),.sc (.slice none 0 0),.sc (.slice none 0 0)]])).new o1).set (h.next+1) o2).new o3).set (h.next+1+1) o4).set h.next r):=fun o1 o2 o3 o4 r=>((((((Grow.refl h).new _).new _).set (Nat.le_succ _) _).new _).set (by omega) _).set (Nat.le_refl _) _;cases hc1:c1==0 with
  |false=>
   rw[hc1]at hF;simp only[cond_false]at hF;subst hF;have e0:errP c1=errV c1:=(by simp only[errP,hc1,cond_false]);rw[e0]at cx⊢;simp only[errV]at cx⊢;replace zz:=uu g0 (uu g4 (uu g5 g6));(repeat'(first|refine a_seq fun K hK=>?_|refine uR zz ?_|apply zI));refine uU zz (cx _) ?_;replace zz:=uu g0 (uu g4 (uu g5 (uu g6 (uu n1 @nsucc))));(repeat'(first|refine a_seq fun K hK=>?_|refine uR zz ?_|refine uT zz ?_|(refine uN hK ?_;clear hK)|apply zI));refine⟨?_,hgr2 _ _ _⟩;simp only[zeroFm,Fm.cells,Ex.rows,Fm.rows,pmRows,strRows,List.map_nil,FrzTo,FrzL];exact⟨_,rfl,⟨_,rfl,rfl,rfl,.inr (.inl ⟨rfl,.inr rfl⟩),.inr (.inl ⟨rfl,.inr rfl⟩),.inr (.inl ⟨rfl,.inr rfl⟩),.inr (.inl ⟨rfl,.inr rfl⟩),trivial⟩,rfl,trivial⟩
  |true=>
   rw[hc1]at hF;simp only[cond_true]at hF;have e0:errP c1= .sc .nilIface:=(by simp only[errP,hc1,cond_true]);rw[e0]at cx;cases hc2:c2==0 with
   |false=>
    rw[hc2]at hF;simp only[cond_false]at hF;subst hF;have e1:errP c2=errV c2:=(by simp only[errP,hc2,cond_false]);rw[e1]at cy⊢;simp only[errV]at cy⊢;replace zz:=uu g0 (uu g4 (uu g5 g6));(repeat'(first|refine a_seq fun K hK=>?_|refine uR zz ?_|apply zI));refine uU zz (cx _) ?_;replace zz:=uu g0 (uu g4 (uu g5 (uu g6 (uu n1 @nsucc))));(repeat'(first|refine a_seq fun K hK=>?_|refine uR zz ?_|refine uK ?_|refine uC1 zz ?_|(refine uN hK ?_;clear hK)|apply zI));replace zz:=uu g0 (uu g4 (uu g5 g6));refine uU zz (cy _) ?_;replace zz:=uu g0 (uu g4 (uu g5 (uu g6 (uu n1 (uu n2 (uu n3 @nsucc))))));(repeat'(first|refine a_seq fun K hK=>?_|refine uR zz ?_|refine uT zz ?_|(refine uN hK ?_;clear hK)|apply zI));refine⟨?_,hgr3 _ _ _ _ _⟩;simp only[zeroFm,Fm.cells,Ex.rows,Fm.rows,pmRows,strRows,List.map_nil,FrzTo,FrzL];exact⟨_,rfl,⟨_,rfl,rfl,rfl,.inr (.inl ⟨rfl,.inr rfl⟩),.inr (.inl ⟨rfl,.inr rfl⟩),.inr (.inl ⟨rfl,.inr rfl⟩),.inr (.inl ⟨rfl,.inr rfl⟩),trivial⟩,rfl,trivial⟩
   |true=>
    rw[hc2]at hF;simp only[cond_true]at hF;have e1:errP c2= .sc .nilIface:=(by simp only[errP,hc2,cond_true]);rw[e1]at cy;have e2:errP 0= .sc .nilIface:=rfl;cases p1:(w.data.toList==(#[62]:Array UInt8).toList)with
    |true=>
     rw[if_pos (show bEq w opGt=true from p1)]at hF;subst hF;replace zz:=uu g0 (uu g4 (uu g5 g6));(repeat'(first|refine a_seq fun K hK=>?_|refine uR zz ?_|apply zI));refine uU zz (cx _) ?_;replace zz:=uu g0 (uu g4 (uu g5 (uu g6 (uu n1 @nsucc))));(repeat'(first|refine a_seq fun K hK=>?_|refine uR zz ?_|refine uK ?_|refine uC1 zz ?_|(refine uN hK ?_;clear hK)|apply zI));replace zz:=uu g0 (uu g4 (uu g5 g6));refine uU zz (cy _) ?_;replace zz:=uu g0 (uu g4 (uu g5 (uu g6 (uu n1 (uu n2 (uu n3 (uu @nsucc p1)))))));(repeat'(first|refine a_seq fun K hK=>?_|refine uR zz ?_|refine uT zz ?_|refine uK ?_|refine uC1 zz ?_|(refine uN hK ?_;clear hK)|apply zI));refine⟨?_,hgr3 _ _ _ _ _⟩;simp only[e2,opLt,Fm.cells,Ex.cells,Ex.rows,Fm.rows,pmRows,strRows,List.map_nil,FrzTo,FrzL];exact⟨_,rfl,⟨_,rfl,rfl,rfl,.inr (.inl ⟨rfl,.inr rfl⟩),.inr (.inl ⟨rfl,.inr rfl⟩),.inl ⟨rfl,exs_in _ [.mk bop bna bn bar bki,.mk aop ana an aar aki]⟩,.inr (.inl ⟨rfl,.inr rfl⟩),trivial⟩,rfl,trivial⟩
    |false=>
     rw[if_neg (show ¬ bEq w opGt=true by rw[show bEq w opGt=false from p1];simp)]at hF;cases p2:(w.data.toList==(#[62,61]:Array UInt8).toList)with
     |true=>
      rw[if_pos (show bEq w opGe=true from p2)]at hF;subst hF;replace zz:=uu g0 (uu g4 (uu g5 g6));(repeat'(first|refine a_seq fun K hK=>?_|refine uR zz ?_|apply zI));refine uU zz (cx _) ?_;replace zz:=uu g0 (uu g4 (uu g5 (uu g6 (uu n1 @nsucc))));(repeat'(first|refine a_seq fun K hK=>?_|refine uR zz ?_|refine uK ?_|refine uC1 zz ?_|(refine uN hK ?_;clear hK)|apply zI));replace zz:=uu g0 (uu g4 (uu g5 g6));refine uU zz (cy _) ?_;replace zz:=uu g0 (uu g4 (uu g5 (uu g6 (uu n1 (uu n2 (uu n3 (uu @nsucc (uu p1 p2))))))));(repeat'(first|refine a_seq fun K hK=>?_|refine uR zz ?_|refine uT zz ?_|refine uK ?_|refine uC1 zz ?_|(refine uN hK ?_;clear hK)|apply zI));refine⟨?_,hgr3 _ _ _ _ _⟩;simp only[e2,opLe,Fm.cells,Ex.cells,Ex.rows,Fm.rows,pmRows,strRows,List.map_nil,FrzTo,FrzL];exact⟨_,rfl,⟨_,rfl,rfl,rfl,.inr (.inl ⟨rfl,.inr rfl⟩),.inr (.inl ⟨rfl,.inr rfl⟩),.inl ⟨rfl,exs_in _ [.mk bop bna bn bar bki,.mk aop ana an aar aki]⟩,.inr (.inl ⟨rfl,.inr rfl⟩),trivial⟩,rfl,trivial⟩
     |false=>
      rw[if_neg (show ¬ bEq w opGe=true by rw[show bEq w opGe=false from p2];simp)]at hF;subst hF;replace zz:=uu g0 (uu g4 (uu g5 g6));(repeat'(first|refine a_seq fun K hK=>?_|refine uR zz ?_|apply zI));refine uU zz (cx _) ?_;replace zz:=uu g0 (uu g4 (uu g5 (uu g6 (uu n1 @nsucc))));(repeat'(first|refine a_seq fun K hK=>?_|refine uR zz ?_|refine uK ?_|refine uC1 zz ?_|(refine uN hK ?_;clear hK)|apply zI));replace zz:=uu g0 (uu g4 (uu g5 g6));refine uU zz (cy _) ?_;replace zz:=uu g0 (uu g4 (uu g5 (uu g6 (uu n1 (uu n2 (uu n3 (uu @nsucc (uu p1 p2))))))));(repeat'(first|refine a_seq fun K hK=>?_|refine a_block ?_|refine uR zz ?_|refine uT zz ?_|refine uK ?_|refine uC1 zz ?_|(refine uN hK ?_;clear hK)|apply zI));refine⟨?_,hgr3 _ _ _ _ _⟩;simp only[e2,Fm.cells,Ex.cells,Ex.rows,Fm.rows,pmRows,strRows,List.map_nil,FrzTo,FrzL];exact⟨_,rfl,⟨_,rfl,rfl,rfl,.inr (.inl ⟨rfl,.inr rfl⟩),.inr (.inl ⟨rfl,.inr rfl⟩),.inl ⟨rfl,exs_in _ [.mk aop ana an aar aki,.mk bop bna bn bar bki]⟩,.inr (.inl ⟨rfl,.inr rfl⟩),trivial⟩,rfl,trivial⟩
theorem pms_step{don:List Pm}{pen:List ByteArray}{t s:ByteArray}{j:Nat}(hj:pen[j]? =some s):
  (pmRows (don++pmsOf t (pen.take j)++pmsOf opObj (pen.drop j)))[don.length+j]? =some [sPV s,sPV opObj]∧
  (pmRows (don++pmsOf t (pen.take j)++pmsOf opObj (pen.drop j))).set (don.length+j) [sPV s,sPV t]=pmRows (don++pmsOf t (pen.take (j+1))++pmsOf opObj (pen.drop (j+1))):=by
 have hjl:j<pen.length:=(List.getElem?_eq_some_iff.1 hj).1;have hA:(pmRows (don++pmsOf t (pen.take j))).length=don.length+j:=by simp[pmRows,pmsOf];omega
 have e1:pmRows (don++pmsOf t (pen.take j)++pmsOf opObj (pen.drop j))=pmRows (don++pmsOf t (pen.take j))++([sPV s,sPV opObj]::pmRows (pmsOf opObj (pen.drop (j+1)))):=by
  rw[drop_of_get hj];simp[pmRows,pmsOf,pmRow]
 have e2:pmRows (don++pmsOf t (pen.take (j+1))++pmsOf opObj (pen.drop (j+1)))=pmRows (don++pmsOf t (pen.take j))++([sPV s,sPV t]::pmRows (pmsOf opObj (pen.drop (j+1)))):=by
  rw[List.take_add_one,hj];simp[pmRows,pmsOf,pmRow]
 rw[e1,e2];constructor
 ·rw [List.getElem?_append_right (by omega),hA];simp
 ·rw [List.set_append_right _ _ (by omega),hA];simp
theorem paramsL_cons(vars:Bool)(x:Sx)(l:List Sx)(don:List Pm)(pen:List ByteArray):paramsL vars (x::l) don pen=(bif isWrd x then
   (bif bEq (textOf x) opMin then (match l with
    |[]=>([],2)
    |t::l'=>bif !pen.isEmpty&&isWrd t then(bif typedB (textOf t)then paramsL vars l' (don++pmsOf (textOf t) pen) []else([],8))else([],2))
   else bif (bif vars then varB (textOf x)else nameB (textOf x))then paramsL vars l don (pen++[textOf x])else([],8))
  else([],2)):=by
 cases l<;>(conv=>lhs;unfold paramsL)
theorem a_gen{P:Program}{ow:Nat→Bool}{wf:FuncId→Bool}{n:Nat}{Q:Post}{s:Slots}{h:Heap}{c:Code}(I:Slots→Heap→Prop)(hi:I s h)(hh: ∀ s h,I s h→awp P ow wf n c Q s h):awp P ow wf n c Q s h:=hh _ _ hi
theorem pms_scal(l:List Pm): ∀ r∈pmRows l, ∀ p∈r, ∃ v,p=PV.sc v:=by
 intro r hr p hp;simp only[pmRows,List.mem_map]at hr;obtain⟨x,_,rfl⟩:=hr;simp only[pmRow,List.mem_cons,List.not_mem_nil,or_false]at hp;rcases hp with rfl|rfl
 ·exact ⟨_,rfl⟩
 ·exact ⟨_,rfl⟩
theorem pms_frzP{h:Heap}{id0:Nat}{p:PV}{l:List Pm}(t:Tl h id0 2 p (pmRows l)):FrzTo id0 h (.imm 2 (pmRows l)) p:=t.frz (pms_scal l)
theorem parseParams_c{vars:Bool}{l:List Sx}(hl:l.length≤1048576)(hok: ∀ x∈l,x.ok)(h:Heap):
  PCall Tryz.prog 118 [.imm 6 (Sx.rows l),.sc (.bool vars)] h fun r h'=>r= .tup [.imm 2 (pmRows (paramsP vars l).1),errP (paramsP vars l).2]∧h'=h:=by
 refine PCall.frz Ty.hb_118 ?_;have hll:=Sx.rows_len l;generalize hF:paramsP vars l=F;have bad: ∀ (c:Int)(h':Heap),c=2∨c=8→Grow h h'→F=([],c)→FrzTo h.next h' (.tup [.imm 2 (pmRows F.1),errP F.2]) (.tup [.sc (.slice none 0 0),errV c])∧Grow h h':=by
  intro c h' hc hg hf;subst hf;have:errP c=errV c:=by rcases hc with rfl|rfl<;>rfl
  simp only[this];refine⟨?_,hg⟩;simp only[errV,pmRows,List.map_nil,FrzTo,FrzL];exact⟨_,rfl,.inr (.inl ⟨rfl,.inr rfl⟩),rfl,trivial⟩
 simp only[errV]at bad;refine uG0 Tryz.func118 Tryz.ntmps118 Tryz.results118 Ty.hb_118 ?_;repeat'(first|refine a_seq fun K hK=>?_|refine a_block ?_|refine uR trivial ?_|(refine uN hK ?_;clear hK)|apply zI)
 refine a_loop (fun m S h'=>S 0= .imm 6 (Sx.rows l)∧S 1= .sc (.bool vars)∧ ∃ (k:Nat)(o:PV)(don:List Pm)(pen:List ByteArray),S 8= .sc (.int .i64 k)∧S 6=o∧S 7= .sc (.int .i64 don.length)∧k≤l.length∧m=l.length-k∧don.length+pen.length≤k∧Grow h h'∧Tl h' h.next 2 o (pmRows (don++pmsOf opObj pen))∧F=paramsL vars (l.drop k) don pen) l.length ?_ ?_
 ·simp only[Ty.w,simprocAttr];exact⟨0,_,[],[],rfl,rfl,rfl,by omega,rfl,by simp,Grow.refl _,Tl.nil,by rw[← hF];try rfl⟩
 ·rintro m S h' ⟨g0,g1,k,o,don,pen,g8,g6,g7,hk,rfl,hdp,hg,tl,hinv⟩;try clear zz
  clear hF;by_cases hlt:k<l.length
  ·have hd:decide ((k:Int)<(l.length:Int))=true:=(by simp;omega);have w7:IntKind.i64.wrap ((k:Int)+1)=k+1:=(by rw[wrap64 (by omega) (by omega)]);obtain⟨x,hx⟩: ∃ x,l[k]? =some x:=⟨_,List.getElem?_eq_getElem hlt⟩;have hr:=Sx.rows_get hx;have hxk:=hok x (List.mem_of_getElem? hx);have hv:=fun h:Heap=>svalid_c hxk h;have hte:=textOf_okQ hxk;rw[drop_of_get hx]at hinv;simp only[paramsL_cons,isWrd]at hinv;generalize svalid x 0 0=V at hv hinv;obtain⟨vb,vn⟩:=V;obtain⟨ki,va,li,co,te,ks⟩:=x;simp only[kindOf,textOf]at hinv hte;simp only[Sx.cells]at hr hv;have hte':te.size≤9223372036854775807:=(by unfold bigN at hte;omega);cases q1:(ki !=1)with
   |true=>
    rw[show(ki==1)=false by simpa using q1]at hinv;simp only[Bool.false_and,cond_false]at hinv;replace zz:=uu g0 (uu g1 (uu g6 (uu g7 (uu g8 (uu hll (uu hd (uu hr q1)))))));(repeat'(first|refine a_seq fun K hK=>?_|refine uR zz ?_|refine uT zz ?_|refine uK ?_|refine uC1 zz ?_|(refine uN hK ?_;clear hK)|apply zI));exact bad 2 _ (.inl rfl) hg hinv
   |false=>
    rw[show(ki==1)=true by simpa using q1]at hinv;cases vb with
    |false=>
     simp only[Bool.and_false,cond_false]at hinv;replace zz:=uu g0 (uu g1 (uu g6 (uu g7 (uu g8 (uu hll (uu hd (uu hr q1)))))));(repeat'(first|refine a_seq fun K hK=>?_|refine uR zz ?_|refine uK ?_|refine uC1 zz ?_|(refine uN hK ?_;clear hK)|apply zI));replace zz:=uu g0 (uu g1 (uu g6 (uu g7 (uu g8 (uu hll (uu hd (uu hr (uu q1 @Bool.not_false))))))));refine uU zz (hv _) ?_;replace zz:=uu g0 (uu g1 (uu g6 (uu g7 (uu g8 @Bool.not_false))));(repeat'(first|refine a_seq fun K hK=>?_|refine uR zz ?_|refine uT zz ?_|(refine uN hK ?_;clear hK)|apply zI));exact bad 2 _ (.inl rfl) hg hinv
    |true=>
     simp only[Bool.and_self,cond_true]at hinv;replace zz:=uu g0 (uu g1 (uu g6 (uu g7 (uu g8 (uu hll (uu hd (uu hr q1)))))));(repeat'(first|with_reducible refine a_hold 9 ?_|refine a_seq fun K hK=>?_|refine uR zz ?_|refine uK ?_|refine uC1 zz ?_|(refine uN hK ?_;clear hK)|apply zI));replace zz:=uu g0 (uu g1 (uu g6 (uu g7 (uu g8 (uu hll (uu hd (uu hr (uu q1 @Bool.not_true))))))));refine uU zz (hv _) ?_;replace zz:=uu g0 (uu g1 (uu g6 (uu g7 (uu g8 (uu hr @Bool.not_true)))));(repeat'(first|with_reducible refine a_hold 9 ?_|refine a_seq fun K hK=>?_|refine uR zz ?_|refine uK ?_|refine uC1 zz ?_|(refine uN hK ?_;clear hK)|apply zI));refine⟨?_⟩;refine a_gen (fun S h2=>S 0= .imm 6 (Sx.rows l)∧S 1= .sc (.bool vars)∧S 6=o∧S 7= .sc (.int .i64 don.length)∧S 8= .sc (.int .i64 k)∧S 9=sPV te∧h2=h') ?_ ?_
     ·simp only[Ty.w,simprocAttr,g0,g1,g6,g7,g8]
     (try clear zz);clear g0 g1 g6 g7 g8 hv hr q1;rintro S h' ⟨g0,g1,g6,g7,g8,g9,rfl⟩;have hrl:(pmRows (don++pmsOf opObj pen)).length=don.length+pen.length:=(by rw[pmRows_len];simp[pmsOf]);obtain⟨n,hn⟩: ∃ n,n=don.length+pen.length:=⟨_,rfl⟩;rw[← hn]at hrl;cases q2:(te.data.toList==(#[45]:Array UInt8).toList)with
     |false=>
      rw[show bEq te opMin=false from q2]at hinv;simp only[cond_false]at hinv;have hap:pmRows (don++pmsOf opObj pen)++[[.sc (.string te),.sc (.string ⟨#[111,98,106,101,99,116]⟩)]]=pmRows (don++pmsOf opObj (pen++[te])):=(by simp[pmRows,pmsOf,pmRow,opObj]);have hb:(n+1)*32≤140737488355328:=(by omega);obtain⟨H,t1,t2,t3,t4,t5⟩:=tl.tail;have hkp:=t5 h ⟨hg.le,hg.old⟩ (Nat.le_refl _);have hgH:Grow h H:=⟨hkp.1,hkp.2⟩;have fin2:Grow h (H.new (.arr 2 (pmRows (don++pmsOf opObj (pen++[te])))))∧Tl (H.new (.arr 2 (pmRows (don++pmsOf opObj (pen++[te]))))) h.next 2 (.own H.next 0 (n+1)) (pmRows (don++pmsOf opObj (pen++[te]))):=
       ⟨hgH.new _,Tl.grow hkp.1 (by rw[pmRows_len];simp[pmsOf];omega)⟩
      rw[t3]at fin2;cases vars with
      |true=>
       simp only[cond_true]at hinv;have hc:=fun h:Heap=>fvariable_c (h:=h) hte';cases v1:varB te with
       |false=>
        rw[v1]at hinv hc;simp only[cond_false]at hinv;replace zz:=uu g0 (uu g1 (uu g6 (uu g7 (uu g8 (uu g9 (uu q2 (uu @Bool.not_true @Bool.not_false)))))));(repeat'(first|refine a_seq fun K hK=>?_|refine uR zz ?_|(refine uN hK ?_;clear hK)|apply zI));replace zz:=uu g0 (uu g1 (uu g6 (uu g7 (uu g8 (uu g9 @Bool.not_false)))));refine uU zz (hc _) ?_;(repeat'(first|refine a_seq fun K hK=>?_|refine uR zz ?_|refine uT zz ?_|(refine uN hK ?_;clear hK)|apply zI));exact bad 8 _ (.inr rfl) hg hinv
       |true=>
        rw[v1]at hinv hc;simp only[cond_true]at hinv;replace zz:=uu g0 (uu g1 (uu g6 (uu g7 (uu g8 (uu g9 (uu q2 (uu @Bool.not_true @Bool.not_false)))))));(repeat'(first|refine a_seq fun K hK=>?_|refine uR zz ?_|(refine uN hK ?_;clear hK)|apply zI));replace zz:=uu g0 (uu g1 (uu g6 (uu g7 (uu g8 (uu g9 @Bool.not_true)))));refine uU zz (hc _) ?_;replace zz:=uu g0 (uu g1 (uu g6 (uu g7 (uu g8 (uu g9 (uu @Bool.not_true (uu t1 (uu t2 (uu hrl (uu hb (uu hap w7)))))))))));(repeat'(first|refine a_seq fun K hK=>?_|refine uR zz ?_|refine uK ?_|refine uX ?_|refine uC1 zz ?_|(refine uN hK ?_;clear hK)|(clear hK;refine uN hK ?_;clear hK)|(rw[if_pos];rotate_left 1;omega;simp(maxSteps:=2000000) only[Ty.w,simprocAttr,g0,g1,g6,g7,g8,g9,Bool.not_true,t1,t2,hrl,hb,hap,w7])|apply zI));exact⟨l.length-(k+1),by omega,k+1,_,don,pen++[te],by simp,rfl,rfl,by omega,rfl,by simp;omega,fin2.1,fin2.2,hinv⟩
      |false=>
       simp only[cond_false]at hinv;have hc:=fun h:Heap=>fname_c (h:=h) hte';cases v1:nameB te with
       |false=>
        rw[v1]at hinv hc;simp only[cond_false]at hinv;replace zz:=uu g0 (uu g1 (uu g6 (uu g7 (uu g8 (uu g9 (uu q2 (uu @Bool.not_true @Bool.not_false)))))));(repeat'(first|refine a_seq fun K hK=>?_|refine uR zz ?_|(refine uN hK ?_;clear hK)|apply zI));replace zz:=uu g0 (uu g1 (uu g6 (uu g7 (uu g8 (uu g9 @Bool.not_false)))));refine uU zz (hc _) ?_;(repeat'(first|refine a_seq fun K hK=>?_|refine uR zz ?_|refine uT zz ?_|(refine uN hK ?_;clear hK)|apply zI));exact bad 8 _ (.inr rfl) hg hinv
       |true=>
        rw[v1]at hinv hc;simp only[cond_true]at hinv;replace zz:=uu g0 (uu g1 (uu g6 (uu g7 (uu g8 (uu g9 (uu q2 (uu @Bool.not_true @Bool.not_false)))))));(repeat'(first|refine a_seq fun K hK=>?_|refine uR zz ?_|(refine uN hK ?_;clear hK)|apply zI));replace zz:=uu g0 (uu g1 (uu g6 (uu g7 (uu g8 (uu g9 @Bool.not_true)))));refine uU zz (hc _) ?_;replace zz:=uu g0 (uu g1 (uu g6 (uu g7 (uu g8 (uu g9 (uu @Bool.not_true (uu t1 (uu t2 (uu hrl (uu hb (uu hap w7)))))))))));(repeat'(first|refine a_seq fun K hK=>?_|refine uR zz ?_|refine uK ?_|refine uX ?_|refine uC1 zz ?_|(refine uN hK ?_;clear hK)|(clear hK;refine uN hK ?_;clear hK)|(rw[if_pos];rotate_left 1;omega;simp(maxSteps:=2000000) only[Ty.w,simprocAttr,g0,g1,g6,g7,g8,g9,Bool.not_true,t1,t2,hrl,hb,hap,w7])|apply zI));exact⟨l.length-(k+1),by omega,k+1,_,don,pen++[te],by simp,rfl,rfl,by omega,rfl,by simp;omega,fin2.1,fin2.2,hinv⟩
     |true=>
      rw[show bEq te opMin=true from q2]at hinv;simp only[cond_true]at hinv;have hsl:=tl.sl;have hlo:=hsl.len;rw[hrl]at hlo;have hlk:=hsl.lk;replace zz:=uu g0 (uu g1 (uu g6 (uu g7 (uu g8 (uu g9 (uu q2 (uu w7 @Bool.not_true)))))));(repeat'(first|with_reducible refine a_hold 14 ?_|refine a_seq fun K hK=>?_|refine uR zz ?_|refine uK ?_|refine uC1 zz ?_|(refine uN hK ?_;clear hK)|apply zI));refine⟨?_⟩;refine a_gen (fun S h2=>S 0= .imm 6 (Sx.rows l)∧S 1= .sc (.bool vars)∧S 6=o∧S 7= .sc (.int .i64 don.length)∧S 8= .sc (.int .i64 ((k:Int)+1))∧h2=h') ?_ ?_
      ·simp only[Ty.w,simprocAttr,g0,g1,g6,g7,g8]
      (try clear zz);clear g0 g1 g6 g7 g8 g9 w7;rintro S h' ⟨g0,g1,g6,g7,g8,rfl⟩;obtain⟨k1,hk1⟩: ∃ k1:Int,k1=(k:Int)+1:=⟨_,rfl⟩;rw[← hk1]at g8;cases hpe:pen.isEmpty with
      |true=>
       have hpe':pen=[]:=List.isEmpty_iff.1 hpe;have hF2:F=([],2):=by
        rw[hinv,hpe];split
        ·rfl
        ·rfl
       have hdd:((don.length:Int)==(n:Int))=true:=(by rw[hn,hpe'];simp);replace zz:=uu g0 (uu g1 (uu g6 (uu g7 (uu g8 (uu hlo (uu hlk hdd))))));(repeat'(first|refine a_seq fun K hK=>?_|refine uR zz ?_|refine uT zz ?_|(refine uN hK ?_;clear hK)|apply zI));exact bad 2 _ (.inl rfl) hg hF2
      |false=>
       rw[hpe]at hinv;simp only[Bool.not_false,Bool.true_and]at hinv;have hp0:0<pen.length:=by
        cases pen with
        |nil=>simp at hpe
        |cons _ _=>simp
       have hdd:((don.length:Int)==(n:Int))=false:=(by rw[hn];simp;omega);by_cases hl2:k+1<l.length
       ·have hd2:(k1==(l.length:Int))=false:=(by rw[hk1];simp;omega);obtain⟨y,hy⟩: ∃ y,l[k+1]? =some y:=⟨_,List.getElem?_eq_getElem hl2⟩;have hyk:=hok y (List.mem_of_getElem? hy);have hvy:=fun h:Heap=>svalid_c hyk h;have htey:=textOf_okQ hyk;rw[drop_of_get hy]at hinv;simp only at hinv;have hry:(Sx.rows l)[k1.toNat]? =some y.cells:=(by rw[hk1];exact Sx.rows_get hy);generalize svalid y 0 0=V2 at hvy hinv;obtain⟨vb2,vn2⟩:=V2;obtain⟨ki2,va2,li2,co2,te2,ks2⟩:=y;simp only[kindOf,textOf]at hinv htey;simp only[Sx.cells]at hry hvy;have hcy:=fun h:Heap=>typed_c (h:=h) htey;have hk0:(0:Int)≤k1:=(by omega);cases q3:(ki2 !=1)with
        |true=>
         rw[show(ki2==1)=false by simpa using q3]at hinv;simp only[Bool.false_and,cond_false]at hinv;replace zz:=uu g0 (uu g1 (uu g6 (uu g7 (uu g8 (uu hlo (uu hlk (uu hdd (uu hll (uu hd2 (uu hry (uu hk0 q3)))))))))));(repeat'(first|refine a_seq fun K hK=>?_|refine uR zz ?_|refine uT zz ?_|(refine uN hK ?_;clear hK)|apply zI));exact bad 2 _ (.inl rfl) hg hinv
        |false=>
         rw[show(ki2==1)=true by simpa using q3]at hinv;simp only[Bool.true_and]at hinv;cases vb2 with
         |false=>
          simp only[cond_false]at hinv;replace zz:=uu g0 (uu g1 (uu g6 (uu g7 (uu g8 (uu hlo (uu hlk (uu hdd (uu hll (uu hd2 (uu hry (uu hk0 q3)))))))))));(repeat'(first|refine a_seq fun K hK=>?_|refine uR zz ?_|apply zI));replace zz:=uu g0 (uu g1 (uu g6 (uu g7 (uu g8 (uu hry (uu hk0 @Bool.not_false))))));refine uU zz (hvy _) ?_;replace zz:=uu g0 (uu g1 (uu g6 (uu g7 (uu g8 @Bool.not_false))));(repeat'(first|refine a_seq fun K hK=>?_|refine uR zz ?_|refine uT zz ?_|(refine uN hK ?_;clear hK)|apply zI));exact bad 2 _ (.inl rfl) hg hinv
         |true=>
          simp only[cond_true]at hinv;cases v3:typedB te2 with
          |false=>
           rw[v3]at hinv hcy;simp only[cond_false]at hinv;replace zz:=uu g0 (uu g1 (uu g6 (uu g7 (uu g8 (uu hlo (uu hlk (uu hdd (uu hll (uu hd2 (uu hry (uu hk0 q3)))))))))));(repeat'(first|refine a_seq fun K hK=>?_|refine uR zz ?_|apply zI));replace zz:=uu g0 (uu g1 (uu g6 (uu g7 (uu g8 (uu hry (uu hk0 @Bool.not_true))))));refine uU zz (hvy _) ?_;(repeat'(first|refine a_seq fun K hK=>?_|refine uR zz ?_|refine uK ?_|refine uC1 zz ?_|(refine uN hK ?_;clear hK)|apply zI));replace zz:=uu g0 (uu g1 (uu g6 (uu g7 (uu g8 (uu hry (uu hk0 @Bool.not_false))))));refine uU zz (hcy _) ?_;replace zz:=uu g0 (uu g1 (uu g6 (uu g7 (uu g8 @Bool.not_false))));(repeat'(first|refine a_seq fun K hK=>?_|refine uR zz ?_|refine uT zz ?_|(refine uN hK ?_;clear hK)|apply zI));exact bad 8 _ (.inr rfl) hg hinv
          |true=>
           rw[v3]at hinv hcy;simp only[cond_true]at hinv;obtain⟨id,i1,i2,ho,i4⟩: ∃ id,h.next≤id∧id<h'.next∧o= .own id 0 n∧h'.obj id=some (.arr 2 (pmRows (don++pmsOf opObj pen))):=by
            rcases tl with⟨hn0,_⟩|⟨id,i1,i2,i3,i4⟩
            ·rw [hn0]at hrl;simp at hrl;omega
            ·rw [hrl]at i3;exact⟨id,i1,i2,i3,i4⟩
           subst ho;(try clear zz);clear tl hsl;replace zz:=uu g0 (uu g1 (uu g6 (uu g7 (uu g8 (uu hlo (uu hlk (uu hdd (uu hll (uu hd2 (uu hry (uu hk0 q3)))))))))));(repeat'(first|refine a_seq fun K hK=>?_|refine uR zz ?_|apply zI));replace zz:=uu g0 (uu g1 (uu g6 (uu g7 (uu g8 (uu hry (uu hk0 @Bool.not_true))))));refine uU zz (hvy _) ?_;(repeat'(first|refine a_seq fun K hK=>?_|refine uR zz ?_|refine uK ?_|refine uC1 zz ?_|(refine uN hK ?_;clear hK)|apply zI));refine uU zz (hcy _) ?_;(repeat'(first|refine a_block ?_|refine uK ?_|refine uC1 zz ?_|(refine uN hK ?_;clear hK)|apply zI));refine a_loop (fun m S h2=>S 0= .imm 6 (Sx.rows l)∧S 1= .sc (.bool vars)∧S 8= .sc (.int .i64 k1)∧S 6= .own id 0 n∧ ∃ j:Nat,S 7= .sc (.int .i64 ((don.length+j:Nat):Int))∧j≤pen.length∧m=pen.length-j∧Grow h h2∧h2.next=h'.next∧h2.obj id=some (.arr 2 (pmRows (don++pmsOf te2 (pen.take j)++pmsOf opObj (pen.drop j))))) pen.length ?_ ?_
           ·simp only[Ty.w,simprocAttr,g0,g1,g6,g7,g8];exact⟨0,by simp,by omega,rfl,hg,by simpa[pmsOf]using i4⟩
           ·(try clear zz);clear g0 g1 g6 g7 g8 i4;rintro m S h2 ⟨g0,g1,g8,g6,j,g7,hj,rfl,hg2,hn2,ob⟩;by_cases hjl:j<pen.length
            ·obtain ⟨q,hqn⟩: ∃ q,q=don.length+j:=⟨_,rfl⟩;obtain⟨s,hs⟩: ∃ s,pen[j]? =some s:=⟨_,List.getElem?_eq_getElem hjl⟩;obtain⟨hp1,hp2⟩:=pms_step (don:=don) (t:=te2) hs;rw[← hqn]at g7 hp1 hp2;have hdj:decide ((q:Int)<(n:Int))=true:=(by simp;omega);have wj:IntKind.i64.wrap ((q:Int)+1)=((q+1:Nat):Int):=(by rw[wrap64 (by omega) (by omega)];try rfl);have hjl2:q<n:=(by omega);generalize hR:pmRows (don++pmsOf te2 (pen.take j)++pmsOf opObj (pen.drop j))=R at ob hp1 hp2;replace zz:=uu g0 (uu g1 (uu g6 (uu g7 (uu g8 (uu hdj (uu wj (uu hry (uu hk0 (uu ob (uu hp1 (uu hp2 hjl2)))))))))));(repeat'(first|refine a_seq fun K hK=>?_|refine a_block ?_|refine uR zz ?_|refine uQ zz fun K hK=>?_|refine uK ?_|refine uC1 zz ?_|(refine uN hK ?_;clear hK)|apply zI));refine⟨pen.length-(j+1),by omega,j+1,by rw[hqn];try rfl,by omega,rfl,hg2.set i1 _,hn2,?_⟩;try simp[Heap.set]
            ·have hje:j=pen.length:=(by omega);subst hje;rw[← hn]at g7;have hdj:decide ((n:Int)<(n:Int))=false:=(by simp);have w8:IntKind.i64.wrap (k1+1)=((k+2:Nat):Int):=(by rw[hk1,wrap64 (by omega) (by omega)];omega);rw[List.take_length,List.drop_length]at ob;have hz:pmRows (don++pmsOf te2 pen++pmsOf opObj [])=pmRows (don++pmsOf te2 pen):=(by simp[pmsOf]);rw[hz]at ob;replace zz:=uu g0 (uu g1 (uu g6 (uu g7 (uu g8 (uu hdj w8)))));(repeat'(first|refine a_seq fun K hK=>?_|refine uR zz ?_|refine uX ?_|refine uC1 zz ?_|(refine uN hK ?_;clear hK)|(clear hK;refine uN hK ?_;clear hK)|apply zI));refine⟨l.length-(k+2),by omega,k+2,_,don++pmsOf te2 pen,[],rfl,rfl,by rw[hn];simp[pmsOf],by omega,rfl,by simp[pmsOf];omega,hg2,?_,hinv⟩;refine .inr ⟨id,i1,by omega,?_,?_⟩
             ·rw [pmRows_len,hn];simp[pmsOf]
             ·rw [ob];simp[pmsOf]
       ·have hke:k+1=l.length:=(by omega);have hd2:(k1==(l.length:Int))=true:=(by rw[hk1];simp;omega);rw[List.drop_eq_nil_of_le (by omega)]at hinv;simp only at hinv;replace zz:=uu g0 (uu g1 (uu g6 (uu g7 (uu g8 (uu hlo (uu hlk (uu hdd (uu hll hd2))))))));(repeat'(first|refine a_seq fun K hK=>?_|refine uR zz ?_|refine uT zz ?_|(refine uN hK ?_;clear hK)|apply zI));exact bad 2 _ (.inl rfl) hg hinv
  ·have hd:decide ((k:Int)<(l.length:Int))=false:=(by simp;omega);rw[List.drop_eq_nil_of_le (by omega)]at hinv;simp only[paramsL]at hinv;subst hinv;replace zz:=uu g0 (uu g1 (uu g6 (uu g7 (uu g8 (uu hll hd)))));(repeat'(first|refine a_seq fun K hK=>?_|refine uR zz ?_|refine uT zz ?_|refine uX ?_|refine uC1 zz ?_|(refine uN hK ?_;clear hK)|(clear hK;refine uN hK ?_;clear hK)|apply zI));have e2:errP 0= .sc .nilIface:=rfl;simp only[e2];refine⟨?_,hg⟩;have h1:=pms_frzP tl;unfold FrzTo;refine⟨_,rfl,?_⟩;unfold FrzL;refine⟨h1,?_⟩;unfold FrzL;exact⟨by simp only[FrzTo],by simp only[FrzL]⟩
theorem rvalidS_c{x:Sx}(hok:x.ok)(hn:x.nodes≤bigN)(hd:x.depth≤bigN)(h:Heap):PCall Tryz.prog 34 [.agg x.cells] h fun r h'=>r= .sc (.bool (svalid x 0 0).1)∧h'=h:=by
 rw[valid_same hn];exact rvalid_c hok hd h
set_option maxHeartbeats 8000000
def effW(l:List Ch):Sx:=bif l.isEmpty then listM []else listM (wordM opAnd::l.map chW)
theorem rEffect_c{l:List Ch}(hl:l.length≤1048576)(hs: ∀ c∈l, ∀ h:Heap,PCall Tryz.prog 85 [.agg (chRow c)] h fun r h'=>r= .agg (chW c).cells∧h'=h)(h:Heap):
  PCall Tryz.prog 35 [.imm 15 (chRows l)] h fun r h'=>r= .agg (effW l).cells∧h'=h:=by
 refine PCall.frz Ty.hb_35 ?_;have hlen:=chRows_len l;cases q:((l.length:Int)==0)with
 |true=>
  have e:l=[]:=by
   cases l with
   |nil=>rfl
   |cons c l=>simp only[List.length_cons,beq_iff_eq]at q;omega
  subst e;simp only[List.length_nil]at hlen;have hx:effW []=listM []:=rfl;rw[hx];try clear zz
  clear hs;have q:((0:Int)==0)=true:=rfl;refine uG0 Tryz.func35 Tryz.ntmps35 Tryz.results35 Ty.hb_35 ?_;replace zz:=uu hlen q;repeat'(first|refine a_seq fun K hK=>?_|refine uR zz ?_|refine uT zz ?_|(refine uN hK ?_;clear hK)|apply zI)
  refine⟨?_,((Grow.refl h).new _).set (Nat.le_refl _) _⟩;simp only[listM,Sx.cells,Sx.rows,FrzTo,FrzL];exact⟨_,rfl,rfl,rfl,rfl,rfl,rfl,.inr (.inl ⟨rfl,.inr rfl⟩),trivial⟩
 |false=>
  have hne:l.isEmpty=false:=by
   cases l with
   |nil=>simp at q
   |cons c l=>rfl
  have hx:effW l=listM (wordM opAnd::l.map chW):=by unfold effW;rw[hne];try rfl
  rw[hx];refine uG0 Tryz.func35 Tryz.ntmps35 Tryz.results35 Ty.hb_35 ?_;replace zz:=uu hlen q;repeat'(first|refine a_seq fun K hK=>?_|refine a_block ?_|refine uR zz ?_|refine uK ?_|(refine uC zz (fun hb=>?_) (fun hb=>?_)<;>(try simp only[hb0,simprocAttr]at hb)<;>(try(exfalso;omega)))|(refine uN hK ?_;clear hK)|apply zI)
  refine a_loop (fun m S H=>S 0= .imm 15 (chRows l)∧S 2= .ptr h.next 0 0∧ ∃ (k:Nat)(p:PV),S 4= .sc (.int .i64 k)∧S 3=p∧k≤l.length∧m=l.length-k∧Grow h H∧h.next+1≤H.next∧H.obj h.next=some (.arr 6 [[.sc (.int .i64 0),.sc (.int .i64 0),.sc (.int .i64 0),.sc (.int .i64 0),.sc (.string ⟨#[]⟩),.sc (.slice none 0 0)]])∧Tl H (h.next+1) 6 p (Sx.rows ((l.take k).map chW))) l.length ?_ ?_
  ·simp only[Ty.w,simprocAttr];first
    |exact⟨0,_,rfl,rfl,by omega,rfl,(Grow.refl h).new _,by simp[Heap.new],by simp[Heap.new],Tl.nil⟩
    |exact⟨0,_,rfl,rfl,by omega,rfl,(Grow.refl h).new _,by simp[Heap.new],Tl.nil⟩
  ·rintro m S H ⟨g0,g2,k,p,g4,g3,hk,rfl,hg,hnx,hre,tl⟩;by_cases hlt:k<l.length
   ·have hd:decide ((k:Int)<(l.length:Int))=true:=(by simp;omega);have w7:IntKind.i64.wrap ((k:Int)+1)=k+1:=(by rw[wrap64 (by omega) (by omega)]);obtain⟨c,hx⟩: ∃ c,l[k]? =some c:=⟨_,List.getElem?_eq_getElem hlt⟩;have hr:=chRows_get hx;have hc:=hs c (List.mem_of_getElem? hx);have htk:Sx.rows ((l.take (k+1)).map chW)=Sx.rows ((l.take k).map chW)++[(chW c).cells]:=(by rw[List.take_add_one,hx];simp[Sx.rows_map]);have hpr:(Sx.rows ((l.take k).map chW)).length=k:=(by rw[Sx.rows_len,List.length_map,List.length_take];omega);generalize chW c=X at hc htk;generalize Sx.rows ((l.take k).map chW)=R at tl htk hpr;(try clear zz);clear hs;obtain⟨kind,P,⟨gop,gna,gar,gpa,gex,gki⟩,nm,aa,⟨eop,ena,en,ear,eki⟩⟩:=c;simp only[chRow,Fm.cells,Ex.cells,List.cons_append,List.nil_append]at hr hc;obtain⟨xk,xv,xl,xc,xt,xs⟩:=X;simp only[Sx.cells]at hc htk;obtain⟨Hk,t1,t2,t3,t4,t5⟩:=tl.tail;have hb:(k+1)*72≤140737488355328:=(by omega);replace zz:=uu g0 (uu g2 (uu g3 (uu g4 (uu hd hr))));(repeat'(first|refine a_seq fun K hK=>?_|refine a_block ?_|refine uR zz ?_|refine uQ zz fun K hK=>?_|refine uK ?_|(refine uC zz (fun hb=>?_) (fun hb=>?_)<;>(try simp only[hb0,simprocAttr]at hb)<;>(try(exfalso;omega)))|(refine uN hK ?_;clear hK)|apply zI));replace zz:=uu g0 (uu g2 (uu g3 (uu g4 hr)));refine uU zz (hc _) ?_;replace zz:=uu g0 (uu g2 (uu g3 (uu g4 (uu w7 (uu t1 (uu t2 (uu hpr hb)))))));(repeat'(first|refine uR zz ?_|(refine uN hK ?_;clear hK)|(rw[if_pos];rotate_left 1;omega;simp(maxSteps:=2000000) only[Ty.w,simprocAttr,g0,g2,g3,g4,w7,t1,t2,hpr,hb])|apply zI));have hkp:=t5 h ⟨hg.le,hg.old⟩ (by omega);have hgk:Grow h Hk:=⟨hkp.1,hkp.2⟩;rw[← htk];refine⟨l.length-(k+1),by omega,k+1,.own Hk.next 0 (k+1),by simp,by rw[t3],by omega,rfl,hgk.new _,by first|omega|(simp only[Heap.new];omega),?_,Tl.grow (by omega) (by rw[htk];simp[hpr])⟩;(try simp only[Heap.new]);rw[if_neg (by omega),t4 _ (by omega)];exact hre
   ·have hd:decide ((k:Int)<(l.length:Int))=false:=(by simp;omega);have hke:k=l.length:=(by omega);rw[hke,List.take_length]at tl;have hq:=fun h:Heap=>d9list_c (s:=opAnd) (l:=l.map chW) (by rw[List.length_map];omega) h;(try clear zz);clear hx;generalize hL:l.map chW=L at tl hq;simp only[listM,Sx.cells,opAnd,sPV]at hq;generalize hLa:wordM ⟨#[97,110,100]⟩::L=L2 at hq;generalize hL2:Sx.rows L2=R2 at hq;replace zz:=uu g0 (uu g2 (uu g3 (uu g4 hd)));(repeat'(first|with_reducible refine a_holdR 8 ?_|refine a_seq fun K hK=>?_|refine uR zz ?_|refine uX ?_|(refine uC zz (fun hb=>?_) (fun hb=>?_)<;>(try simp only[hb0,simprocAttr]at hb)<;>(try(exfalso;omega)))|(refine uN hK ?_;clear hK)|(clear hK;refine uN hK ?_;clear hK)|apply zI));refine⟨?_⟩;refine a_drop (h.next+1) [(3,.imm 6 (Sx.rows L))] rfl hnx ?_ ?_
    ·intro x hx;simp only[List.mem_cons,List.not_mem_nil,or_false]at hx;subst hx;have g3b:S 3=p:=g3;simp only[Ty.w,simprocAttr,g3];exact tl_frzX tl
    refine a_genX (fun S H=>S 2= .ptr h.next 0 0∧S 3= .imm 6 (Sx.rows L)∧Grow h H∧H.obj h.next=some (.arr 6 [[.sc (.int .i64 0),.sc (.int .i64 0),.sc (.int .i64 0),.sc (.int .i64 0),.sc (.string ⟨#[]⟩),.sc (.slice none 0 0)]])) ⟨by simp only[frzS,Ty.w,simprocAttr,g2],by simp only[frzS,Ty.w,simprocAttr],⟨hg.le,fun j hj=>by simp only[below];rw[if_pos (by omega)];exact hg.old j hj⟩,by simp only[below];rw[if_pos (by omega)];exact hre⟩ ?_;(try clear zz);clear g0 g2 g3 g4 tl hg hnx hre hd hs;rintro S H ⟨g2,g3,hg,hre⟩;(repeat'(first|refine a_seq fun K hK=>?_|refine uR (uu g2 (uu g3 hre)) ?_|apply zI));refine uU (uu g2 (uu g3 hre)) (hq _) ?_;(repeat'(first|refine uT (uu g2 (uu g3 hre)) ?_|(refine uN hK ?_;clear hK)|apply zI));rw[hL];subst hL2;subst hLa;exact⟨sxA_frz _ _ (listM (wordM opAnd::L)),hg.set (Nat.le_refl _) _⟩
theorem tupB_frz{n:Nat}{H:Heap}{p q:PV}(h:FrzTo n H p q)(b:Bool):FrzTo n H (.tup [p,.sc (.bool b)]) (.tup [q,.sc (.bool b)]):=by
 unfold FrzTo;refine⟨_,rfl,?_⟩;unfold FrzL;refine⟨h,?_⟩;unfold FrzL;exact⟨by simp only[FrzTo],by simp only[FrzL]⟩
def writeRB(l:List Ch):Bool:=l.all chR&&(svalid (effW l) 0 0).1
theorem rWriteEffect_c{l:List Ch}(hl:l.length≤1048576)(hok: ∀ c∈l,c.ok)(hs:l.all chR=true→ ∀ c∈l, ∀ h:Heap,PCall Tryz.prog 85 [.agg (chRow c)] h fun r h'=>r= .agg (chW c).cells∧h'=h)
  (hX:l.all chR=true→(effW l).ok∧(effW l).nodes≤bigN∧(effW l).depth≤bigN)(h:Heap):
  PCall Tryz.prog 18 [.imm 15 (chRows l)] h fun r h'=>r=(if writeRB l then .tup [.agg (effW l).cells,.sc (.bool true)]else .tup [.agg zeroSx.cells,.sc (.bool false)])∧h'=h:=by
 refine PCall.frz Ty.hb_18 ?_;have hsh:=fun h:Heap=>rshapedC_c (l:=l) (by unfold bigN;omega) hok h;unfold writeRB;cases b:l.all chR with
 |false=>
  rw[b]at hsh;simp only[Bool.false_and,Bool.false_eq_true,if_false];try clear zz
  clear hX hs;generalize chRows l=R at*;refine uG0 Tryz.func18 Tryz.ntmps18 Tryz.results18 Ty.hb_18 ?_;repeat'(first|refine a_seq fun K hK=>?_|refine uR trivial ?_|(refine uN hK ?_;clear hK)|apply zI)
  refine uU trivial (hsh _) ?_;repeat'(first|refine a_seq fun K hK=>?_|refine uR @Bool.not_false ?_|refine uT @Bool.not_false ?_|(refine uN hK ?_;clear hK)|apply zI)
  exact⟨tupB_frz zeroSx_frz _,((Grow.refl h).new _).set (Nat.le_refl _) _⟩
 |true=>
  obtain⟨x1,x2,x3⟩:=hX b;have hE:=fun h:Heap=>rEffect_c hl (hs b) h;have hV:=fun h:Heap=>rvalidS_c x1 x2 x3 h;rw[b]at hsh;try clear zz
  clear hX hs x1 x2 x3;simp only[Bool.true_and];generalize effW l=X at*;generalize(svalid X 0 0).1=v at*;generalize chRows l=R at*;obtain⟨xk,xv,xl,xc,xt,xs⟩:=X;simp only[Sx.cells]at hE hV⊢;cases v with
  |false=>
   simp only[Bool.false_eq_true,if_false];refine uG0 Tryz.func18 Tryz.ntmps18 Tryz.results18 Ty.hb_18 ?_;(repeat'(first|refine a_seq fun K hK=>?_|refine uR trivial ?_|(refine uN hK ?_;clear hK)|apply zI));refine uU trivial (hsh _) ?_;(try apply zI);refine uU trivial (hE _) ?_;(try apply zI);refine uU trivial (hV _) ?_;(repeat'(first|refine a_seq fun K hK=>?_|refine uR @Bool.not_false ?_|refine uT @Bool.not_false ?_|(refine uN hK ?_;clear hK)|apply zI));exact⟨tupB_frz zeroSx_frz _,((Grow.refl h).new _).set (Nat.le_refl _) _⟩
  |true=>
   simp only[if_true];refine uG0 Tryz.func18 Tryz.ntmps18 Tryz.results18 Ty.hb_18 ?_;(repeat'(first|refine a_seq fun K hK=>?_|refine uR trivial ?_|(refine uN hK ?_;clear hK)|apply zI));refine uU trivial (hsh _) ?_;(try apply zI);refine uU trivial (hE _) ?_;(try apply zI);refine uU trivial (hV _) ?_;(repeat'(first|refine a_seq fun K hK=>?_|refine uR @Bool.not_true ?_|refine uK ?_|(refine uC @Bool.not_true (fun hb=>?_) (fun hb=>?_)<;>(try simp only[hb0,simprocAttr]at hb)<;>(try(exfalso;omega)))|(refine uN hK ?_;clear hK)|apply zI));refine uU trivial (hE _) ?_;(repeat'(first|refine uT trivial ?_|(refine uN hK ?_;clear hK)|apply zI));exact⟨tupB_frz (sxA_frz _ _ (.mk xk xv xl xc xt xs)) _,((Grow.refl h).new _).set (Nat.le_refl _) _⟩
set_option maxHeartbeats 4000000
theorem headM_okS{x:Sx}(hok:x.ok)(hsm:x.small){w:ByteArray}{l:List Sx}(h:headM x=some (w,l)):w.size≤bigN∧l.length≤1048576∧ ∀ y∈l,y.ok:=by
 obtain⟨kind,value,line,col,text,kids⟩:=x;simp only[Sx.ok]at hok;simp only[Sx.small]at hsm;obtain⟨_,_,_,hk,hks⟩:=hok;simp only[headM]at h;split at h
 ·cases kids with
  |nil=>simp at h
  |cons y rest=>
   simp only at h;rw[Sx.oks_iff]at hks;cases hh:kindOf y==1 with
   |false=>rw[hh]at h;simp at h
   |true=>
    rw[hh]at h;simp only[cond_true,Option.some.injEq,Prod.mk.injEq]at h;obtain⟨rfl,rfl⟩:=h;have hy:=hks y (by simp);have hl1:=hsm.1;refine⟨?_,by simp only[List.length_cons]at hl1;omega,fun z hz=>hks z (by simp[hz])⟩;obtain⟨ki,va,li,co,te,ks⟩:=y;simp only[Sx.ok]at hy;exact hy.2.2.1
 ·simp at h
theorem headM_cons{kind value line col:Int}{text w:ByteArray}{kids l:List Sx}(h:headM (.mk kind value line col text kids)=some (w,l)): ∃ y,kids=y::l∧(kindOf y==1)=true∧textOf y=w:=by
 simp only[headM]at h;split at h
 ·cases kids with
  |nil=>simp at h
  |cons y rest=>
   simp only at h;cases hh:kindOf y==1 with
   |false=>rw[hh]at h;simp at h
   |true=>
    rw[hh]at h;simp only[cond_true,Option.some.injEq,Prod.mk.injEq]at h;obtain⟨rfl,rfl⟩:=h;exact⟨y,rfl,hh,rfl⟩
 ·simp at h
theorem disWord_c{x:Sx}(h:Heap):PCall Tryz.prog 116 [.agg x.cells] h fun r h'=>r= .sc (.bool (kindOf x==1))∧h'=h:=by
 obtain⟨kind,value,line,col,text,kids⟩:=x;simp only[Sx.cells,kindOf];refine uG0 Tryz.func116 Tryz.ntmps116 Tryz.results116 Ty.hb_116 ?_;repeat'(first|refine a_seq fun K hK=>?_|refine uR trivial ?_|refine uT trivial ?_|(refine uN hK ?_;clear hK)|apply zI)
theorem dbegins_c{x:Sx}(hok:x.ok)(h:Heap):PCall Tryz.prog 58 [.agg x.cells] h fun r h'=>r= .sc (.bool (headM x).isSome)∧h'=h:=by
 obtain⟨kind,value,line,col,text,kids⟩:=x;simp only[Sx.ok]at hok;obtain⟨_,_,_,hk,_⟩:=hok;generalize hF:(headM (.mk kind value line col text kids)).isSome=F;simp only[headM]at hF;simp only[Sx.cells];have hlen:=Sx.rows_len kids;cases k3:(kind==3)with
 |false=>
  rw[if_neg (by simpa using k3)]at hF;subst hF;refine uG0 Tryz.func58 Tryz.ntmps58 Tryz.results58 Ty.hb_58 ?_;repeat'(first|refine a_seq fun K hK=>?_|refine uR k3 ?_|refine uT k3 ?_|(refine uN hK ?_;clear hK)|apply zI)
  all_goals rfl
 |true=>
  rw[if_pos (by simpa using k3)]at hF;cases kids with
  |nil=>
   simp only at hF;subst hF;have q:decide (((Sx.rows []).length:Int)>0)=false:=rfl;generalize Sx.rows []=R at q hlen;refine uG0 Tryz.func58 Tryz.ntmps58 Tryz.results58 Ty.hb_58 ?_;replace zz:=uu k3 q;(repeat'(first|refine a_seq fun K hK=>?_|refine uR zz ?_|refine uT zz ?_|(refine uN hK ?_;clear hK)|apply zI));all_goals rfl
  |cons y rest=>
   simp only at hF;have q:decide (((Sx.rows (y::rest)).length:Int)>0)=true:=(by rw[hlen];simp<;>omega);have q1:((0:Int)<((Sx.rows (y::rest)).length:Int))=True:=eq_true (by rw[hlen];simp<;>omega);have r0:=Sx.rows_get (l:=y::rest) (i:=0) rfl;have hc:=fun h:Heap=>disWord_c (x:=y) h;generalize Sx.rows (y::rest)=R at q q1 r0 hlen⊢;obtain⟨ki,va,li,co,te,ks⟩:=y;simp only[Sx.cells,kindOf,textOf]at r0 hF hc;have e:F=(ki==1):=(by rw[← hF];cases ki==1<;>rfl);subst e;(try clear zz);clear hF;refine uG0 Tryz.func58 Tryz.ntmps58 Tryz.results58 Ty.hb_58 ?_;replace zz:=uu k3 (uu q (uu q1 r0));(repeat'(first|refine a_seq fun K hK=>?_|refine uR zz ?_|(refine uN hK ?_;clear hK)|apply zI));refine uU r0 (hc _) ?_;(repeat'(first|refine uT (uu k3 q) ?_|(refine uN hK ?_;clear hK)|apply zI));all_goals rfl
theorem dkinds_c{w:ByteArray}(h:Heap):PCall Tryz.prog 109 [sPV w] h fun r h'=>r= .sc (.int .i64 (kindW w))∧h'=h:=by
 unfold kindW bEq opAsg opInc opDec;cases e1:(w.data.toList==[97,115,115,105,103,110])with
 |true=>
  refine uG0 Tryz.func109 Tryz.ntmps109 Tryz.results109 Ty.hb_109 ?_;repeat'(first|refine a_seq fun K hK=>?_|refine uR e1 ?_|refine uT e1 ?_|(refine uN hK ?_;clear hK)|apply zI)
  all_goals rfl
 |false=>
  cases e2:(w.data.toList==[105,110,99,114,101,97,115,101])with
  |true=>
   refine uG0 Tryz.func109 Tryz.ntmps109 Tryz.results109 Ty.hb_109 ?_;replace zz:=uu e1 e2;(repeat'(first|refine a_seq fun K hK=>?_|refine uR zz ?_|refine uT zz ?_|(refine uN hK ?_;clear hK)|apply zI));all_goals rfl
  |false=>
   cases e3:(w.data.toList==[100,101,99,114,101,97,115,101])with
   |true=>
    refine uG0 Tryz.func109 Tryz.ntmps109 Tryz.results109 Ty.hb_109 ?_;replace zz:=uu e1 (uu e2 e3);(repeat'(first|refine a_seq fun K hK=>?_|refine uR zz ?_|refine uT zz ?_|(refine uN hK ?_;clear hK)|apply zI));all_goals rfl
   |false=>
    refine uG0 Tryz.func109 Tryz.ntmps109 Tryz.results109 Ty.hb_109 ?_;replace zz:=uu e1 (uu e2 e3);(repeat'(first|refine a_seq fun K hK=>?_|refine a_block ?_|refine uR zz ?_|refine uT zz ?_|refine uK ?_|(refine uN hK ?_;clear hK)|apply zI));all_goals rfl
abbrev atomV(a:ByteArray × List ByteArray × Int):PV:= .tup [sPV a.1,.imm 1 (strRows a.2.1),errP a.2.2]
theorem datom_c{x:Sx}(hok:x.ok)(hsm:x.small)(h:Heap):PCall Tryz.prog 113 [.agg x.cells] h fun r h'=>r=atomV (dAtomP x)∧h'=h:=by
 refine PCall.frz Ty.hb_113 ?_;have hb:=dbegins_c hok;generalize hF:dAtomP x=F;unfold dAtomP at hF;have bad: ∀ (c:Int)(h':Heap),c=2∨c=8→F=(⟨#[]⟩,[],c)→FrzTo h.next h' (atomV F) (.tup [sPV ⟨#[]⟩,.sc (.slice none 0 0),errV c]):=by
  intro c h' hc hf;subst hf;have e:errP c=errV c:=by rcases hc with rfl|rfl<;>rfl
  simp only[atomV,e,errV,strRows,List.map_nil,FrzTo,FrzL];exact⟨_,rfl,rfl,.inr (.inl ⟨rfl,.inr rfl⟩),rfl,trivial⟩
 simp only[errV]at bad;have hO:=fun w l=>headM_okS hok hsm (w:=w) (l:=l);obtain⟨kind,value,line,col,text,kids⟩:=x;generalize hD:headM (.mk kind value line col text kids)=D at hF hb hO;cases D with
 |none=>
  simp only at hF;simp only[Sx.cells,Option.isSome_none]at hb⊢;refine uG0 Tryz.func113 Tryz.ntmps113 Tryz.results113 Ty.hb_113 ?_;repeat'(first|refine a_seq fun K hK=>?_|refine uR trivial ?_|(refine uN hK ?_;clear hK)|apply zI)
  refine uU trivial (hb _) ?_;repeat'(first|refine a_seq fun K hK=>?_|refine uR @Bool.not_false ?_|refine uT @Bool.not_false ?_|(refine uN hK ?_;clear hK)|apply zI)
  exact⟨bad 2 _ (.inl rfl) hF.symm,Grow.refl _⟩
 |some wl=>
  obtain⟨w,l⟩:=wl;obtain⟨hw,hl,hlo⟩:=hO w l rfl;simp only at hF;simp only[Sx.cells,Option.isSome_some]at hb⊢;obtain⟨y,rfl,hy1,hy2⟩:=headM_cons hD;have hlen:=Sx.rows_len (y::l);have r0:=Sx.rows_get (l:=y::l) (i:=0) rfl;have q1:(1:Int)≤((Sx.rows (y::l)).length:Int):=by rw[hlen];simp<;>omega
  have q0:((0:Int)<((Sx.rows (y::l)).length:Int))=True:=eq_true (by rw[hlen];simp<;>omega);have ht:List.take (((Sx.rows (y::l)).length:Int)-1).toNat (List.drop 1 (Sx.rows (y::l)))=Sx.rows l:=by
   simp only[Sx.rows,List.drop_succ_cons,List.drop_zero,List.length_cons];rw[List.take_of_length_le (by omega)]
  have hll:=Sx.rows_len l;have hwn:w.size≤9223372036854775807:=by unfold bigN at hw;omega
  have hn:=fun h:Heap=>fname_c (h:=h) hwn;try clear zz
  clear hD hO hlen;generalize Sx.rows (y::l)=R at r0 q1 q0 ht hb⊢;obtain⟨yk,yv,yl,yc,yt,ys⟩:=y;simp only[kindOf,textOf]at hy1 hy2;subst hy2;simp only[Sx.cells]at r0;cases q2:nameB yt with
  |false=>
   rw[q2]at hF hn;simp only[cond_false]at hF;refine uG0 Tryz.func113 Tryz.ntmps113 Tryz.results113 Ty.hb_113 ?_;(repeat'(first|refine a_seq fun K hK=>?_|refine uR trivial ?_|(refine uN hK ?_;clear hK)|apply zI));refine uU trivial (hb _) ?_;replace zz:=uu @Bool.not_true (uu r0 q0);(repeat'(first|refine a_seq fun K hK=>?_|refine uR zz ?_|refine uK ?_|refine uC1 zz ?_|(refine uN hK ?_;clear hK)|apply zI));refine uU (uu r0 q0) (hn _) ?_;(repeat'(first|refine a_seq fun K hK=>?_|refine uR @Bool.not_false ?_|refine uT @Bool.not_false ?_|(refine uN hK ?_;clear hK)|apply zI));exact⟨bad 8 _ (.inr rfl) hF.symm,Grow.refl _⟩
  |true=>
   rw[q2]at hF hn;simp only[cond_true]at hF;refine uG0 Tryz.func113 Tryz.ntmps113 Tryz.results113 Ty.hb_113 ?_;(repeat'(first|refine a_seq fun K hK=>?_|refine uR trivial ?_|(refine uN hK ?_;clear hK)|apply zI));refine uU trivial (hb _) ?_;replace zz:=uu @Bool.not_true (uu r0 q0);(repeat'(first|refine a_seq fun K hK=>?_|refine uR zz ?_|refine uK ?_|refine uC1 zz ?_|(refine uN hK ?_;clear hK)|apply zI));refine uU (uu r0 q0) (hn _) ?_;replace zz:=uu @Bool.not_true (uu q1 (uu ht (uu hll (uu @Int.le_refl @Int.toNat_one))));(repeat'(first|refine a_seq fun K hK=>?_|refine a_block ?_|refine uR zz ?_|refine uK ?_|refine uC1 zz ?_|(refine uN hK ?_;clear hK)|apply zI));refine a_loop (fun m S h'=>S 1= .cptr [.sc (.int .i64 kind),.sc (.int .i64 value),.sc (.int .i64 line),.sc (.int .i64 col),sPV text,.imm 6 R]∧S 22= .imm 6 (Sx.rows l)∧S 23= .sc (.int .i64 l.length)∧ ∃ (k:Nat)(p:PV)(pre:List ByteArray),S 24= .sc (.int .i64 k)∧S 5=p∧k≤l.length∧m=l.length-k∧Grow h h'∧pre.length=k∧Tl h' h.next 1 p (strRows pre)∧
    F=(match termsM (l.drop k)with|(t,c)=>bif c==0 then(yt,pre++t,0)else(⟨#[]⟩,[],c))) l.length ?_ ?_
   ·simp only[Ty.w,simprocAttr];refine⟨0,_,[],rfl,rfl,by omega,rfl,Grow.refl _,rfl,Tl.nil,?_⟩;rw[List.drop_zero, ← hF];try rfl
   ·(try clear zz);clear hF hb hn;rintro m S h' ⟨g1,g22,g23,k,p,pre,g24,g5,hk,rfl,hg,hpl,tl,hinv⟩;by_cases hlt:k<l.length
    ·have hd:decide ((k:Int)<(l.length:Int))=true:=(by simp;omega);have w7:IntKind.i64.wrap ((k:Int)+1)=k+1:=(by rw[wrap64 (by omega) (by omega)]);obtain⟨x,hx⟩: ∃ x,l[k]? =some x:=⟨_,List.getElem?_eq_getElem hlt⟩;have hr:=Sx.rows_get hx;have hxk:=hlo x (List.mem_of_getElem? hx);have hcw:=fun h:Heap=>disWord_c (x:=x) h;rw[drop_of_get hx]at hinv;simp only[termsM]at hinv;obtain⟨ki,va,li,co,te,ks⟩:=x;simp only[Sx.ok]at hxk;have hte:te.size≤9223372036854775807:=(by have:=hxk.2.2.1;unfold bigN at this;omega);simp only[Sx.cells,kindOf]at hr hcw;simp only[kindOf,textOf]at hinv;have tl2:=tl.up (h':=(h'.new (.arr 6 [[.sc (.int .i64 0),.sc (.int .i64 0),.sc (.int .i64 0),.sc (.int .i64 0),.sc (.string ⟨#[]⟩),.sc (.slice none 0 0)]])).set h'.next (.arr 6 [[.sc (.int .i64 ki),.sc (.int .i64 va),.sc (.int .i64 li),.sc (.int .i64 co),sPV te,.imm 6 (Sx.rows ks)]])) (by simp[Heap.new,Heap.set]) fun j hj _=>by
      simp only[Heap.set,Heap.new];rw[if_neg (by omega),if_neg (by omega)]
     have hg2:Grow h ((h'.new (.arr 6 [[.sc (.int .i64 0),.sc (.int .i64 0),.sc (.int .i64 0),.sc (.int .i64 0),.sc (.string ⟨#[]⟩),.sc (.slice none 0 0)]])).set h'.next (.arr 6 [[.sc (.int .i64 ki),.sc (.int .i64 va),.sc (.int .i64 li),.sc (.int .i64 co),sPV te,.imm 6 (Sx.rows ks)]])):=(hg.new _).set hg.le _;cases q3:(ki==1)with
     |false=>
      rw[q3]at hinv hcw;simp only[cond_false]at hinv;replace zz:=uu g1 (uu g22 (uu g23 (uu g24 (uu g5 (uu hd hr)))));(repeat'(first|refine a_seq fun K hK=>?_|refine uR zz ?_|refine uK ?_|refine uC1 zz ?_|(refine uN hK ?_;clear hK)|apply zI));replace zz:=uu g1 (uu g22 (uu g23 (uu g24 (uu g5 hr))));refine uU zz (hcw _) ?_;replace zz:=uu g1 (uu g22 (uu g23 (uu g24 (uu g5 @Bool.not_false))));(repeat'(first|refine a_seq fun K hK=>?_|refine uR zz ?_|refine uT zz ?_|(refine uN hK ?_;clear hK)|apply zI));exact⟨bad 2 _ (.inl rfl) hinv,hg2⟩
     |true=>
      rw[q3]at hinv hcw;simp only[cond_true]at hinv;have hc:=fun h:Heap=>dterm_c (h:=h) hte;generalize termB te=b at hc hinv;cases b with
      |false=>
       simp only[cond_false]at hinv;replace zz:=uu g1 (uu g22 (uu g23 (uu g24 (uu g5 (uu hd hr)))));(repeat'(first|refine a_seq fun K hK=>?_|refine uR zz ?_|refine uK ?_|refine uC1 zz ?_|(refine uN hK ?_;clear hK)|apply zI));replace zz:=uu g1 (uu g22 (uu g23 (uu g24 (uu g5 hr))));refine uU zz (hcw _) ?_;replace zz:=uu g1 (uu g22 (uu g23 (uu g24 (uu g5 @Bool.not_true))));(repeat'(first|refine a_seq fun K hK=>?_|refine uR zz ?_|refine uK ?_|refine uC1 zz ?_|(refine uN hK ?_;clear hK)|apply zI));replace zz:=uu g1 (uu g22 (uu g23 (uu g24 g5)));refine uU zz (hc _) ?_;replace zz:=uu g1 (uu g22 (uu g23 (uu g24 (uu g5 @Bool.not_false))));(repeat'(first|refine a_seq fun K hK=>?_|refine uR zz ?_|refine uT zz ?_|(refine uN hK ?_;clear hK)|apply zI));exact⟨bad 8 _ (.inr rfl) hinv,hg2⟩
      |true=>
       simp only[cond_true]at hinv;obtain⟨H,t1,t2,t3,t4,t5⟩:=tl2.tail;have hpr:(strRows pre).length=k:=(by rw[strRows_len];exact hpl);have hb:(k+1)*16≤140737488355328:=(by omega);replace zz:=uu g1 (uu g22 (uu g23 (uu g24 (uu g5 (uu hd hr)))));(repeat'(first|refine a_seq fun K hK=>?_|refine uR zz ?_|refine uK ?_|refine uC1 zz ?_|(refine uN hK ?_;clear hK)|apply zI));replace zz:=uu g1 (uu g22 (uu g23 (uu g24 (uu g5 hr))));refine uU zz (hcw _) ?_;replace zz:=uu g1 (uu g22 (uu g23 (uu g24 (uu g5 @Bool.not_true))));(repeat'(first|refine a_seq fun K hK=>?_|refine uR zz ?_|refine uK ?_|refine uC1 zz ?_|(refine uN hK ?_;clear hK)|apply zI));replace zz:=uu g1 (uu g22 (uu g23 (uu g24 g5)));refine uU zz (hc _) ?_;replace zz:=uu g1 (uu g22 (uu g23 (uu g24 (uu g5 (uu w7 (uu @Bool.not_true (uu t1 (uu t2 (uu hpr hb)))))))));(repeat'(first|refine uR zz ?_|refine uQ zz fun K hK=>?_|refine uK ?_|refine uC1 zz ?_|(refine uN hK ?_;clear hK)|(rw[if_pos];rotate_left 1;omega;simp(maxSteps:=2000000) only[Ty.w,simprocAttr,g1,g22,g23,g24,g5,w7,Bool.not_true,t1,t2,hpr,hb])|apply zI));have t3':H.next=h'.next+1:=by rw[t3];simp[Heap.new,Heap.set]
       have hkp:=t5 h ⟨hg2.le,hg2.old⟩ (Nat.le_refl _);have hgH:Grow h H:=⟨hkp.1,hkp.2⟩;have hap:strRows pre++[[PV.sc (.string te)]]=strRows (pre++[te]):=(by simp[strRows]);rw[hap];refine⟨l.length-(k+1),by omega,k+1,.own H.next 0 (k+1),pre++[te],by simp,by rw[t3'],by omega,rfl,hgH.new _,by simp[hpl],Tl.grow hkp.1 (by rw[strRows_len];simp[hpl]),?_⟩;rw[hinv];generalize termsM (List.drop (k+1) l)=W;obtain⟨t,c⟩:=W;cases hq:c==0 with
       |false=>simp only[hq,cond_false]
       |true=>simp only[hq,cond_true,beq_self_eq_true,List.append_assoc,List.cons_append,List.nil_append]
    ·have hd:decide ((k:Int)<(l.length:Int))=false:=(by simp;omega);rw[List.drop_eq_nil_of_le (by omega)]at hinv;simp only[termsM,beq_self_eq_true,cond_true,List.append_nil]at hinv;replace zz:=uu g1 (uu g22 (uu g23 (uu g24 (uu g5 (uu hd (uu r0 q0))))));(repeat'(first|refine a_seq fun K hK=>?_|refine uR zz ?_|refine uT zz ?_|refine uX ?_|refine uC1 zz ?_|(refine uN hK ?_;clear hK)|(clear hK;refine uN hK ?_;clear hK)|apply zI));subst hinv;refine⟨?_,hg⟩;have h1:=tl_frzS tl;have e2:errP 0= .sc .nilIface:=rfl;simp only[atomV,e2];unfold FrzTo;refine⟨_,rfl,?_⟩;unfold FrzL;refine⟨by simp only[FrzTo],?_⟩;unfold FrzL;refine⟨h1,?_⟩;unfold FrzL;exact⟨by simp only[FrzTo],by simp only[FrzL]⟩
end Go.Proofs.YtblgchkahpgdjaaGreat
namespace Go.AM
section
variable {P:Program}{f:FuncId}{z:Nat}{h:Heap}{K:PV→Heap→Prop}
theorem RepL.nil_split{β:Env}{n:Nat}{F:Nat→Prop}{w:World}{z:Nat}: ∀ {pre post:List PV}{vals:List Value},RepL β n F w (pre++ .imm z []::post) vals→ ∃ a cap,RepL β n F w (pre++ .sc (.slice a 0 cap)::post) vals
 |[],post,[],h=>by simp[RepL]at h
 |[],post,v::vals,h=>by
  simp only[List.nil_append,RepL,Rep]at h⊢;obtain⟨⟨a,cap,hv,_⟩,h2⟩:=h;exact⟨a,cap,by simpa using hv,h2⟩
 |p::pre,post,[],h=>by simp[RepL]at h
 |p::pre,post,v::vals,h=>by
  simp only[List.cons_append,RepL]at h⊢;obtain⟨a,cap,hx⟩:=RepL.nil_split h.2;exact⟨a,cap,h.1,hx⟩
theorem PCall.nil_split{pre post:List PV}(h0: ∀ a cap,PCall P f (pre++ .sc (.slice a 0 cap)::post) h K):PCall P f (pre++ .imm z []::post) h K:=by
 intro β w vals sm hr;obtain⟨a,cap,hx⟩:=RepL.nil_split hr;exact h0 a cap β w vals sm hx
theorem PCall.nil1(h0: ∀ a cap,PCall P f [.sc (.slice a 0 cap)] h K):PCall P f [.imm z []] h K:=PCall.nil_split (pre:=[]) (post:=[]) h0
theorem peq_none(c:Bool)(cap:Nat):peq 5 c (.sc (.slice none 0 cap)) (.sc (.slice none 0 0))=some true:=rfl
theorem peq_some(c:Bool)(x:Addr)(cap:Nat):peq 5 c (.sc (.slice (some x) 0 cap)) (.sc (.slice none 0 0))=some false:=rfl
theorem view_some(h:Heap)(x:Option Addr)(cap:Nat):view h (.sc (.slice x 0 cap))=some []:=by
 unfold view;split<;>first|rfl|(simp_all;done)|(simp_all)
theorem zOk_some(h:Heap)(z:Nat)(x:Option Addr)(cap:Nat):zOk h z (.sc (.slice x 0 cap))=true:=by
 unfold zOk;split<;>first|rfl|(simp_all;done)|(simp_all)
end
end Go.AM
namespace Go.Proofs.YtblgchkahpgdjaaGreat
open Go.AM
set_option maxHeartbeats 2000000
set_option maxRecDepth 20000
theorem cloneP_c{l:List Pm}(hl:l.length≤1099511627776)(h:Heap):PCall Tryz.prog 150 [.imm 2 (pmRows l)] h fun r h'=>Grow h h'∧Tl h' h.next 2 r (pmRows l):=by
 have hll:=pmRows_len l;cases l with
 |nil=>
  have e0:pmRows []=[]:=rfl;rw[e0];refine PCall.nil1 fun a cap=>?_;cases a with
  |none=>
   refine uG0 Tryz.func150 Tryz.ntmps150 Tryz.results150 Ty.hb_150 ?_;(repeat'(first|refine a_seq fun K hK=>?_|((first|refine a_regionS ?_|refine a_ret ?_);simp(maxSteps:=2000000) only[Ty.w,simprocAttr,peq_none])|(refine hK _ _ ?_;clear hK;(try simp only[pst0,simprocAttr]))));exact⟨Grow.refl _,Tl.nil⟩
  |some x=>
   refine uG0 Tryz.func150 Tryz.ntmps150 Tryz.results150 Ty.hb_150 ?_;(repeat'(first|refine a_seq fun K hK=>?_|((first|refine a_regionS ?_|refine a_ret ?_);simp(maxSteps:=2000000) only[Ty.w,simprocAttr,peq_some,view_some,zOk_some])|(refine a_skip ?_;(try simp only[pst0,simprocAttr]))|(refine a_cond _ (by(try simp(maxSteps:=2000000) only[Ty.w,simprocAttr,peq_some,view_some,zOk_some]);rfl) (fun hb=>?_) (fun hb=>?_)<;>(try simp only[hb0,decide_eq_true_eq,decide_eq_false_iff_not,simprocAttr]at hb)<;>(try(exfalso;omega)))|(refine hK _ _ ?_;clear hK;(try simp only[pst0,simprocAttr]))));exact⟨(Grow.refl h).new _,Tl.grow (Nat.le_refl _) rfl⟩
 |cons x l=>
  have h0:(0<(pmRows (x::l)).length)=True:=by rw[hll];simp
  have hb:((x::l).length)*32≤140737488355328:=by omega
  have hz:0+(pmRows (x::l)).length=(x::l).length:=by omega
  generalize pmRows (x::l)=R at hll h0 hz;refine uG0 Tryz.func150 Tryz.ntmps150 Tryz.results150 Ty.hb_150 ?_;replace zz:=uu h0 (uu hll hb);repeat'(first|refine a_seq fun K hK=>?_|refine uR zz ?_|refine uT zz ?_|refine uK ?_|refine uC1 zz ?_|(refine uN hK ?_;clear hK)|(rw[if_pos];rotate_left 1;omega;simp(maxSteps:=2000000) only[Ty.w,simprocAttr,h0,hll,hb])|apply zI)
  exact⟨(Grow.refl h).new _,Tl.grow (Nat.le_refl _) (by simp[hll])⟩
theorem cloneP_q{l:List Pm}(hl:l.length≤1099511627776)(h:Heap):PCall Tryz.prog 150 [.imm 2 (pmRows l)] h fun r h'=>r= .imm 2 (pmRows l)∧h'=h:=by
 refine PCall.frz Ty.hb_150 ((cloneP_c hl h).mono ?_);rintro r h' ⟨hg,tl⟩;exact⟨pms_frzP tl,hg⟩
theorem cloneF_c{l:List Fm}(hl:l.length≤1099511627776)(h:Heap):PCall Tryz.prog 149 [.imm 6 (Fm.rows l)] h fun r h'=>Grow h h'∧Tl h' h.next 6 r (Fm.rows l):=by
 have hll:=Fm.rows_len l;cases l with
 |nil=>
  have e0:Fm.rows []=[]:=rfl;rw[e0];refine PCall.nil1 fun a cap=>?_;cases a with
  |none=>
   refine uG0 Tryz.func149 Tryz.ntmps149 Tryz.results149 Ty.hb_149 ?_;(repeat'(first|refine a_seq fun K hK=>?_|((first|refine a_regionS ?_|refine a_ret ?_);simp(maxSteps:=2000000) only[Ty.w,simprocAttr,peq_none])|(refine hK _ _ ?_;clear hK;(try simp only[pst0,simprocAttr]))));exact⟨Grow.refl _,Tl.nil⟩
  |some x=>
   refine uG0 Tryz.func149 Tryz.ntmps149 Tryz.results149 Ty.hb_149 ?_;(repeat'(first|refine a_seq fun K hK=>?_|((first|refine a_regionS ?_|refine a_ret ?_);simp(maxSteps:=2000000) only[Ty.w,simprocAttr,peq_some,view_some,zOk_some])|(refine a_skip ?_;(try simp only[pst0,simprocAttr]))|(refine a_cond _ (by(try simp(maxSteps:=2000000) only[Ty.w,simprocAttr,peq_some,view_some,zOk_some]);rfl) (fun hb=>?_) (fun hb=>?_)<;>(try simp only[hb0,decide_eq_true_eq,decide_eq_false_iff_not,simprocAttr]at hb)<;>(try(exfalso;omega)))|(refine hK _ _ ?_;clear hK;(try simp only[pst0,simprocAttr]))));exact⟨(Grow.refl h).new _,Tl.grow (Nat.le_refl _) rfl⟩
 |cons x l=>
  have h0:(0<(Fm.rows (x::l)).length)=True:=by rw[hll];simp
  have hb:((x::l).length)*128≤140737488355328:=by omega
  have hz:0+(Fm.rows (x::l)).length=(x::l).length:=by omega
  generalize Fm.rows (x::l)=R at hll h0 hz;refine uG0 Tryz.func149 Tryz.ntmps149 Tryz.results149 Ty.hb_149 ?_;replace zz:=uu h0 (uu hll hb);repeat'(first|refine a_seq fun K hK=>?_|refine uR zz ?_|refine uT zz ?_|refine uK ?_|refine uC1 zz ?_|(refine uN hK ?_;clear hK)|(rw[if_pos];rotate_left 1;omega;simp(maxSteps:=2000000) only[Ty.w,simprocAttr,h0,hll,hb])|apply zI)
  exact⟨(Grow.refl h).new _,Tl.grow (Nat.le_refl _) (by simp[hll])⟩
theorem cloneF_q{l:List Fm}(hl:l.length≤1099511627776)(h:Heap):PCall Tryz.prog 149 [.imm 6 (Fm.rows l)] h fun r h'=>r= .imm 6 (Fm.rows l)∧h'=h:=by
 refine PCall.frz Ty.hb_149 ((cloneF_c hl h).mono ?_);rintro r h' ⟨hg,tl⟩;exact⟨tl_frzF (Nat.le_refl _) tl,hg⟩
set_option maxHeartbeats 8000000
def fmBody(w:ByteArray)(rest:List Sx):Fm × Int:=
 bif isQ w then(match rest with
  |[]=>(zeroFm,2)
  |p::body=>bif kindOf p==3 then(bif (paramsP true (kidsOf p)).2==0 then(match fmPs body with
    |(ks,c)=>bif c==0 then(.mk w ⟨#[]⟩ [] (paramsP true (kidsOf p)).1 [] ks,0)else(zeroFm,c))
   else(zeroFm,(paramsP true (kidsOf p)).2))else(zeroFm,2))
 else bif isLst w then(match fmPs rest with
  |(ks,c)=>bif c==0 then(.mk w ⟨#[]⟩ [] [] [] ks,0)else(zeroFm,c))
 else bif isCmp5 w then(match rest with
  |[a,b]=>fin (compareP w a b)
  |_=>(zeroFm,2))
 else bif nameB w then(bif (termsM rest).2==0 then(.mk opAtom w (termsM rest).1 [] [] [],0)else(zeroFm,(termsM rest).2))
 else(zeroFm,8)
theorem fmP_head(x:Sx):fmP x=(bif kindOf x==3&&(kidsOf x).isEmpty then(.mk opAnd ⟨#[]⟩ [] [] [] [],0)else(match headM x with
  |none=>(zeroFm,2)
  |some (w,rest)=>bif decide (countW w≥0)&&!(decide (countW w=rest.length))then(zeroFm,2)else fmBody w rest)):=by
 obtain⟨kind,value,line,col,text,kids⟩:=x
 conv=>lhs;unfold fmP
 have kk:kindOf (.mk kind value line col text kids)=kind:=rfl;have k5:kidsOf (.mk kind value line col text kids)=kids:=rfl;rw[kk,k5];simp only[headM];by_cases h3:kind=3
 ·rw [if_pos h3,if_pos h3];cases kids with
  |nil=>simp[h3]
  |cons y rest=>
   simp only[List.isEmpty_cons,Bool.and_false,cond_false];cases hk:kindOf y==1<;>simp only[hk,cond_true,cond_false]<;>rfl
 ·rw [if_neg h3,if_neg h3];rw[show(kind==3)=false by simpa using h3];try rfl
theorem count_two{w:ByteArray}{n:Nat}(hw:isQ w=true∨isCmp5 w=true)(hc:(decide (countW w≥0)&&!(decide (countW w=n)))=false):n=2:=by
 have:countW w=2:=by
  rw[countW_eq];unfold isQ isCmp5 isCmp at hw;simp only[Bool.or_eq_true]at hw;rcases hw with(h|h)|(((h|h)|h)|h)|h<;>(have h:=bEq_eq h;subst h;decide)
 rw[this]at hc;simp at hc;omega
def fmZ:AObj:= .arr 6 [[.sc (.string ⟨#[]⟩),.sc (.string ⟨#[]⟩),.sc (.slice none 0 0),.sc (.slice none 0 0),.sc (.slice none 0 0),.sc (.slice none 0 0)]]
structure PI(h:Heap)(w:ByteArray)(h':Heap):Prop where
 grow:Grow h h'
 nxt:h'.next=h.next+2
 o1:h'.obj h.next=some fmZ
 o2:h'.obj (h.next+1)=some (.arr 6 [[sPV w,.sc (.string ⟨#[]⟩),.sc (.slice none 0 0),.sc (.slice none 0 0),.sc (.slice none 0 0),.sc (.slice none 0 0)]])
def PJ(h:Heap)(F:Fm × Int)(S:Slots)(h':Heap):Prop:=S 2= .ptr h.next 0 0∧S 8= .ptr (h.next+1) 0 0∧Grow h h'∧ ∃ (c:Int)(a b:ByteArray)(p2 p3 p4 p5:PV),S 9=errP c∧h'.obj h.next=some fmZ∧h'.obj (h.next+1)=some (.arr 6 [[sPV a,sPV b,p2,p3,p4,p5]])∧
 (oneC p2=true∧oneC p3=true∧oneC p4=true∧oneC p5=true)∧((c==0)=false→F=(zeroFm,c))∧((c==0)=true→F.2=0∧ ∀ hh,FrzL h.next hh F.1.cells [sPV a,sPV b,p2,p3,p4,p5])
theorem PJ.mk2{h h':Heap}{w:ByteArray}{F:Fm × Int}{S:Slots}(hp:PI h w h')(c:Int)(a b:ByteArray)(p2 p3 p4 p5:PV)(g2:S 2= .ptr h.next 0 0)(g8:S 8= .ptr (h.next+1) 0 0)(g9:S 9=errP c)
  (ho:oneC p2=true∧oneC p3=true∧oneC p4=true∧oneC p5=true)(hc:(c==0)=false→F=(zeroFm,c))(hd:(c==0)=true→F.2=0∧ ∀ hh,FrzL h.next hh F.1.cells [sPV a,sPV b,p2,p3,p4,p5]):
  PJ h F S (h'.set (h.next+1) (.arr 6 [[sPV a,sPV b,p2,p3,p4,p5]])):=by
 refine⟨g2,g8,hp.grow.set (Nat.le_succ _) _,c,a,b,p2,p3,p4,p5,g9,?_,by simp[Heap.set],ho,hc,hd⟩;simp only[Heap.set];rw[if_neg (by omega)];exact hp.o1
theorem errRet{h h':Heap}{c:Int}{F:Fm × Int}(hc:c=2∨c=8)(hg:Grow h h')(hF:F=(zeroFm,c)):
  FrzTo h.next h' (.tup [.agg F.1.cells,errP F.2]) (.tup [.agg [.sc (.string ⟨#[]⟩),.sc (.string ⟨#[]⟩),.sc (.slice none 0 0),.sc (.slice none 0 0),.sc (.slice none 0 0),.sc (.slice none 0 0)],errV c])∧Grow h h':=by
 subst hF;have:errP c=errV c:=by rcases hc with rfl|rfl<;>rfl
 simp only[this];refine⟨?_,hg⟩;simp only[errV,zeroFm,Fm.cells,Ex.rows,Fm.rows,pmRows,strRows,List.map_nil,FrzTo,FrzL];exact⟨_,rfl,⟨_,rfl,rfl,rfl,.inr (.inl ⟨rfl,.inr rfl⟩),.inr (.inl ⟨rfl,.inr rfl⟩),.inr (.inl ⟨rfl,.inr rfl⟩),.inr (.inl ⟨rfl,.inr rfl⟩),trivial⟩,rfl,trivial⟩
theorem parse_step{kind value line col:Int}{text:ByteArray}{kids:List Sx}(hok:(Sx.mk kind value line col text kids).ok)(hsm:(Sx.mk kind value line col text kids).small)
  (ih: ∀ x∈kids, ∀ h:Heap,PCall Tryz.prog 169 [.agg x.cells] h fun r h'=>r= .tup [.agg (fmP x).1.cells,errP (fmP x).2]∧h'=h)(h:Heap):
  PCall Tryz.prog 169 [.agg (Sx.mk kind value line col text kids).cells] h fun r h'=>r= .tup [.agg (fmP (.mk kind value line col text kids)).1.cells,errP (fmP (.mk kind value line col text kids)).2]∧h'=h:=by
 refine PCall.frz Ty.hb_169 ?_;have hok':=hok;simp only[Sx.ok]at hok';obtain⟨_,_,_,hkl,hks⟩:=hok';rw[Sx.oks_iff]at hks;simp only[Sx.small]at hsm;obtain⟨hl,hss⟩:=hsm;rw[Sx.smalls_iff]at hss;have hh:=head_c hok;have hX:=fmP_head (.mk kind value line col text kids);generalize fmP (.mk kind value line col text kids)=F at hX;have hMo:=fun w rest e=>headM_ok (w:=w) (rest:=rest) hok e;have hMr:=fun w rest e=>headM_rest (kind:=kind) (value:=value) (line:=line) (col:=col) (text:=text) (kids:=kids) (w:=w) (rest:=rest) e;generalize headM (.mk kind value line col text kids)=M at hh hX hMo hMr;have kk:kindOf (.mk kind value line col text kids)=kind:=rfl;have k5:kidsOf (.mk kind value line col text kids)=kids:=rfl;rw[kk,k5]at hX;have hlk:=Sx.rows_len kids;have hg1: ∀ r,Grow h ((h.new (.arr 6 [[.sc (.string ⟨#[]⟩),.sc (.string ⟨#[]⟩),.sc (.slice none 0 0),.sc (.slice none 0 0),.sc (.slice none 0 0),.sc (.slice none 0 0)]])).set h.next r):=fun r=>((Grow.refl h).new _).set (Nat.le_refl _) _;refine uG0 Tryz.func169 Tryz.ntmps169 Tryz.results169 Ty.hb_169 ?_;simp only[Sx.cells]at hh⊢;repeat'(first|with_reducible refine a_hold 1 ?_|refine a_seq fun K hK=>?_|refine uR trivial ?_|(refine uN hK ?_;clear hK)|apply zI)
 refine⟨?_⟩;refine a_cut (fun S h'=>S 1= .cptr (Sx.mk kind value line col text kids).cells∧S 2= .ptr h.next 0 0∧h'=h.new fmZ∧(kind==3&&kids.isEmpty)=false) ?_ ?_
 ·try clear zz
  clear hh;simp only[Sx.cells,fmZ];cases k3:(kind==3)with
  |false=>
   (repeat'(first|refine a_seq fun K hK=>?_|refine uR k3 ?_|refine uK ?_|refine uC1 k3 ?_|(refine uN hK ?_;clear hK)|apply zI));all_goals first|rfl|(simp only[Ty.w,simprocAttr,Bool.false_and];done)
  |true=>
   cases q:(((Sx.rows kids).length:Int)==0)with
   |false=>
    have q':kids.isEmpty=false:=by
     cases kids with
     |nil=>simp[Sx.rows]at q
     |cons _ _=>rfl
    replace zz:=uu k3 q;(repeat'(first|refine a_seq fun K hK=>?_|refine uR zz ?_|refine uK ?_|refine uC1 zz ?_|(refine uN hK ?_;clear hK)|apply zI));all_goals first|rfl|(simp only[Ty.w,simprocAttr,q',Bool.true_and];done)
   |true=>
    have q':kids.isEmpty=true:=by
     cases kids with
     |nil=>rfl
     |cons _ _=>simp[Sx.rows]at q;omega
    rw[k3,q']at hX;simp only[Bool.and_self,cond_true]at hX;subst hX;replace zz:=uu k3 q;(repeat'(first|refine a_seq fun K hK=>?_|refine uR zz ?_|refine uT zz ?_|(refine uN hK ?_;clear hK)|apply zI));refine⟨?_,hg1 _⟩;have e2:errP 0= .sc .nilIface:=rfl;simp only[e2,opAnd,Fm.cells,Ex.rows,Fm.rows,pmRows,strRows,List.map_nil,FrzTo,FrzL];exact⟨_,rfl,⟨_,rfl,rfl,rfl,.inr (.inl ⟨rfl,.inr rfl⟩),.inr (.inl ⟨rfl,.inr rfl⟩),.inr (.inl ⟨rfl,.inr rfl⟩),.inr (.inl ⟨rfl,.inr rfl⟩),trivial⟩,rfl,trivial⟩
 ·rintro S h' ⟨g1,g2,rfl,hq⟩;rw[hq]at hX;simp only[cond_false]at hX;simp only[Sx.cells]at g1;simp only[fmZ];try clear zz
  clear hq;cases M with
  |none=>
   simp only at hX;simp only[headV]at hh;(repeat'(first|refine a_seq fun K hK=>?_|refine uR (uu g1 g2) ?_|apply zI));refine uU (uu g1 g2) (hh _) ?_;replace zz:=uu g1 (uu g2 @Bool.not_false);(repeat'(first|refine a_seq fun K hK=>?_|refine uR zz ?_|refine uT zz ?_|(refine uN hK ?_;clear hK)|apply zI));exact errRet (.inl rfl) (hg1 _) hX
  |some wr=>
   obtain⟨w,rest⟩:=wr;obtain⟨hw,hro⟩:=hMo w rest rfl;obtain⟨y0,hy0⟩:=hMr w rest rfl;have hrl:rest.length≤1048576:=(by rw[hy0]at hl;simp at hl;omega);have ihr: ∀ x∈rest, ∀ h:Heap,PCall Tryz.prog 169 [.agg x.cells] h fun r h'=>r= .tup [.agg (fmP x).1.cells,errP (fmP x).2]∧h'=h:=fun x hx=>ih x (by rw[hy0];simp[hx]);have hsr: ∀ x∈rest,x.small:=fun x hx=>hss x (by rw[hy0];simp[hx]);(try clear zz);clear ih hMo hMr hks hss hl hkl hlk hy0 y0;simp only at hX;simp only[headV]at hh;have hlr:=Sx.rows_len rest;(repeat'(first|with_reducible refine a_hold 6 ?_|refine a_seq fun K hK=>?_|refine uR (uu g1 g2) ?_|apply zI));refine uU (uu g1 g2) (hh _) ?_;replace zz:=uu g1 (uu g2 @Bool.not_true);(repeat'(first|with_reducible refine a_hold 6 ?_|refine a_seq fun K hK=>?_|refine uR zz ?_|refine uK ?_|refine uC1 zz ?_|(refine uN hK ?_;clear hK)|apply zI));refine⟨?_⟩;refine a_cut (fun S h'=>S 2= .ptr h.next 0 0∧S 4=sPV w∧S 5= .imm 6 (Sx.rows rest)∧h'=h.new fmZ∧(decide (countW w≥0)&&!(decide (countW w=rest.length)))=false) ?_ ?_
   ·have hcn:=fun h:Heap=>count_c (h:=h) (op:=w);simp only[fmZ];generalize countW w=n at hcn hX;cases c1:decide (n≥0)with
    |false=>
     (repeat'(first|refine a_seq fun K hK=>?_|refine uR (uu g1 g2) ?_|apply zI));refine uU (uu g1 g2) (hcn _) ?_;replace zz:=uu g1 (uu g2 c1);(repeat'(first|refine a_seq fun K hK=>?_|refine uR zz ?_|refine uK ?_|refine uC1 zz ?_|(refine uN hK ?_;clear hK)|apply zI));all_goals first|rfl|(simp only[Ty.w,simprocAttr,g2,Bool.false_and];done)
    |true=>
     cases c2:(n !=(rest.length:Int))with
     |false=>
      have c2':decide (n=(rest.length:Int))=true:=(by simpa using c2);(repeat'(first|refine a_seq fun K hK=>?_|refine uR (uu g1 g2) ?_|apply zI));refine uU (uu g1 g2) (hcn _) ?_;replace zz:=uu g1 (uu g2 (uu c1 (uu hlr c2)));(repeat'(first|refine a_seq fun K hK=>?_|refine uR zz ?_|refine uK ?_|refine uC1 zz ?_|(refine uN hK ?_;clear hK)|apply zI));all_goals first|rfl|(simp only[Ty.w,simprocAttr,g2,c2',Bool.true_and,Bool.not_true];done)
     |true=>
      have c2':decide (n=(rest.length:Int))=false:=(by simpa using c2);rw[c1,c2']at hX;simp only[Bool.not_false,Bool.and_self,cond_true]at hX;(repeat'(first|refine a_seq fun K hK=>?_|refine uR (uu g1 g2) ?_|apply zI));refine uU (uu g1 g2) (hcn _) ?_;replace zz:=uu g1 (uu g2 (uu c1 (uu hlr c2)));(repeat'(first|refine a_seq fun K hK=>?_|refine uR zz ?_|refine uT zz ?_|(refine uN hK ?_;clear hK)|apply zI));exact errRet (.inl rfl) (hg1 _) hX
   ·(try clear zz);clear g1 g2 hh;rintro S h' ⟨g2,g4,g5,rfl,hcnt⟩;rw[hcnt]at hX;simp only[cond_false]at hX;simp only[fmZ];have n1:(h.next=h.next+1)=False:=(by simp);(repeat'(first|with_reducible refine a_hold 11 ?_|refine a_seq fun K hK=>?_|refine uR (uu g2 (uu g4 g5)) ?_|(refine uN hK ?_;clear hK)|apply zI));refine⟨?_⟩;refine a_gen (fun S h'=>S 2= .ptr h.next 0 0∧S 4=sPV w∧S 5= .imm 6 (Sx.rows rest)∧S 8= .ptr (h.next+1) 0 0∧S 9= .sc .nilIface∧PI h w h') ?_ ?_
    ·simp only[Ty.w,simprocAttr,g2,g4,g5];refine⟨(((Grow.refl h).new _).new _).set (Nat.le_succ _) _,rfl,?_,?_⟩
     ·simp [Heap.new,Heap.set,fmZ]
     ·simp [Heap.new,Heap.set]
    ·(try clear zz);clear g2 g4 g5;rintro S h' ⟨g2,g4,g5,g8,g9,hpi⟩;refine a_cut (PJ h F) ?_ ?_
     ·have o1:=hpi.o1;have o2:=hpi.o2;simp only[fmZ]at o1;have hN:=hpi.nxt;have n1:(h.next=h.next+1)=False:=(by simp);have n2:(h.next+1=h.next)=False:=(by simp);have hz2:errP 0= .sc .nilIface:=rfl;replace zz:=uu g2 (uu g4 (uu g5 (uu g8 g9)));(repeat'(first|refine a_hold 16 ?_|apply zI));refine⟨?_⟩;refine a_cut (fun S h2=>h2=h'∧S 2= .ptr h.next 0 0∧S 4=sPV w∧S 5= .imm 6 (Sx.rows rest)∧S 8= .ptr (h.next+1) 0 0∧S 9= .sc .nilIface∧S 44=sPV w∧S 59= .sc (.bool (isQ w))) ?_ ?_
      ·cases u1:(w.data.toList==(#[102,111,114,97,108,108]:Array UInt8).toList)with
       |true=>
        have hq:isQ w=true:=(by unfold isQ;simp[show bEq w opAll=true from u1]);rw[hq];replace zz:=uu g2 (uu g4 (uu g5 (uu g8 (uu g9 u1))));(repeat'(first|refine a_seq fun K hK=>?_|refine uR zz ?_|refine uK ?_|refine uC1 zz ?_|(refine uN hK ?_;clear hK)|apply zI));all_goals first|rfl|(simp only[Ty.w,simprocAttr,g2,g4,g5,g8,g9];done)
       |false=>
        cases u2:(w.data.toList==(#[101,120,105,115,116,115]:Array UInt8).toList)with
        |true=>
         have hq:isQ w=true:=(by unfold isQ;simp[show bEq w opAll=false from u1,show bEq w opSome=true from u2]);rw[hq];replace zz:=uu g2 (uu g4 (uu g5 (uu g8 (uu g9 (uu u1 u2)))));(repeat'(first|refine a_seq fun K hK=>?_|refine uR zz ?_|refine uC1 zz ?_|(refine uN hK ?_;clear hK)|apply zI));all_goals first|rfl|(simp only[Ty.w,simprocAttr,g2,g4,g5,g8,g9];done)
        |false=>
         have hq:isQ w=false:=(by unfold isQ;simp[show bEq w opAll=false from u1,show bEq w opSome=false from u2]);rw[hq];replace zz:=uu g2 (uu g4 (uu g5 (uu g8 (uu g9 (uu u1 u2)))));(repeat'(first|refine a_seq fun K hK=>?_|refine uR zz ?_|refine uC1 zz ?_|(refine uN hK ?_;clear hK)|apply zI));all_goals first|rfl|(simp only[Ty.w,simprocAttr,g2,g4,g5,g8,g9];done)
      ·(try clear zz);clear g2 g4 g5 g8 g9;rintro S h' ⟨rfl,g2,g4,g5,g8,g9,g44,g59⟩;cases hQ:isQ w with
       |true=>
        rw[hQ]at g59;simp only[fmBody,hQ,cond_true]at hX;obtain⟨p,b,rfl⟩: ∃ p b,rest=[p,b]:=by
         have h2:=count_two (.inl hQ) hcnt
         match rest,h2 with
         |[p,b],_=>exact⟨p,b,rfl⟩
        simp only at hX;have hpo:=hro p (by simp);have hps:=hsr p (by simp);have hck:=fun h=>kids_c (l:=[b]) (by simp) (fun x hx=>ihr x (by simp at hx⊢;exact .inr hx)) h;obtain⟨pk,pv,pl,pc,pt,pks⟩:=p;simp only[kindOf,kidsOf]at hX;simp only[Sx.ok]at hpo;simp only[Sx.small]at hps;have hcp:=fun h=>parseParams_c (vars:=true) (l:=pks) hps.1 (Sx.oks_iff.1 hpo.2.2.2.2) h;have r0:=Sx.rows_get (l:=[.mk pk pv pl pc pt pks,b]) (i:=0) rfl;have hq1:(1:Int)≤((Sx.rows [.mk pk pv pl pc pt pks,b]).length:Int):=(by rw[hlr];simp);have ht:List.take (((Sx.rows [.mk pk pv pl pc pt pks,b]).length:Int)-1).toNat (List.drop 1 (Sx.rows [.mk pk pv pl pc pt pks,b]))=Sx.rows [b]:=(by rw[hlr];try rfl);generalize Sx.rows [.mk pk pv pl pc pt pks,b]=R at g5 r0 hq1 ht hlr;generalize Sx.rows [b]=R1 at ht hck;simp only[Sx.cells]at r0;cases q3:(pk !=3)with
        |true=>
         rw[show(pk==3)=false by simpa using q3]at hX;simp only[cond_false]at hX;replace zz:=uu g2 (uu g4 (uu g5 (uu g8 (uu g9 (uu g44 (uu g59 (uu r0 (uu q3 (uu o1 o2)))))))));(repeat'(first|refine a_seq fun K hK=>?_|refine uR zz ?_|refine uT zz ?_|refine uC1 zz ?_|(refine uN hK ?_;clear hK)|apply zI));exact errRet (.inl rfl) (hpi.grow.set (Nat.le_refl _) _) hX
        |false=>
         rw[show(pk==3)=true by simpa using q3]at hX;simp only[cond_true]at hX;generalize paramsP true pks=PP at hcp hX;obtain⟨pms,c⟩:=PP;simp only at hcp hX;cases hc:c==0 with
         |false=>
          rw[hc]at hX;simp only[cond_false]at hX;have e0:errP c=errV c:=(by simp only[errP,hc,cond_false]);rw[e0]at hcp;simp only[errV]at hcp e0;replace zz:=uu g2 (uu g4 (uu g5 (uu g8 (uu g9 (uu g44 (uu g59 (uu r0 (uu q3 (uu o1 o2)))))))));(repeat'(first|refine a_seq fun K hK=>?_|refine uR zz ?_|refine uK ?_|refine uC1 zz ?_|(refine uN hK ?_;clear hK)|apply zI));refine owp_useQ (hcp _) (by(try simp only[Ty.w,simprocAttr,g2,g4,g5,g8,g9,g44,r0,o1,o2,n1,n2,set_set]);try rfl) ?_;simp(maxSteps:=2000000) only[Ty.w,simprocAttr,g2,g4,g5,g8,g9,g44,r0,o1,o2,n1,n2,set_set];replace zz:=uu g2 (uu g4 (uu g5 (uu g8 (uu g9 (uu g44 (uu r0 (uu o1 (uu o2 (uu n1 n2)))))))));(repeat'(first|refine a_seq fun K hK=>?_|refine a_block ?_|refine uR zz ?_|refine uK ?_|(refine uN hK ?_;clear hK)|apply zI));refine PJ.mk2 hpi c w ⟨#[]⟩ _ _ _ _ ?_ ?_ ?_ ?_ ?_ ?_
          ·simp only[Ty.w,simprocAttr,g2]
          ·simp only[Ty.w,simprocAttr,g8]
          ·simp only[Ty.w,simprocAttr];first|exact e0.symm|rfl
          ·exact ⟨rfl,rfl,rfl,rfl⟩
          ·exact fun _=>hX
          ·intro hh;rw[hc]at hh;exact absurd hh (by simp)
         |true=>
          rw[hc]at hX;simp only[cond_true]at hX;have e0:errP c= .sc .nilIface:=(by simp only[errP,hc,cond_true]);rw[e0]at hcp;(try clear zz);clear e0;generalize fmPs [b]=KK at hck hX;obtain⟨ks,c2⟩:=KK;simp only at hck hX;cases hc2:c2==0 with
          |false=>
           rw[hc2]at hX;simp only[cond_false]at hX;have e0:errP c2=errV c2:=(by simp only[errP,hc2,cond_false]);rw[e0]at hck;simp only[errV]at hck e0;replace zz:=uu g2 (uu g4 (uu g5 (uu g8 (uu g9 (uu g44 (uu g59 (uu r0 (uu q3 (uu o1 o2)))))))));(repeat'(first|refine a_seq fun K hK=>?_|refine uR zz ?_|refine uK ?_|refine uC1 zz ?_|(refine uN hK ?_;clear hK)|apply zI));refine owp_useQ (hcp _) (by(try simp only[Ty.w,simprocAttr,g2,g4,g5,g8,g9,g44,r0,o1,o2,n1,n2,set_set]);try rfl) ?_;simp(maxSteps:=2000000) only[Ty.w,simprocAttr,g2,g4,g5,g8,g9,g44,r0,o1,o2,n1,n2,set_set];(repeat'(first|refine a_seq fun K hK=>?_|(refine a_block ?_)|((first|refine a_regionS ?_|refine a_region (fun K hK=>?_));simp(maxSteps:=2000000) only[Ty.w,simprocAttr,g2,g4,g5,g8,g9,g44,r0,o1,o2,n1,n2,hq1,ht,Option.getD_some,Option.getD_none,Int.le_refl,Int.toNat_one])|(refine hK _ _ ?_;clear hK;(try simp only[pst0,simprocAttr]))));refine owp_useQ (hck _) (by(try simp only[Ty.w,simprocAttr,g2,g4,g5,g8,g9,g44,r0,o1,o2,n1,n2,hq1,ht,Option.getD_some,Option.getD_none,Int.le_refl,Int.toNat_one,set_set]);try rfl) ?_;simp(maxSteps:=2000000) only[Ty.w,simprocAttr,g2,g4,g5,g8,g9,g44,r0,o1,o2,n1,n2,hq1,ht,Option.getD_some,Option.getD_none,Int.le_refl,Int.toNat_one,set_set];(repeat'(refine hK _ _ ?_;clear hK;(try simp only[pst0,simprocAttr])));(try rw[set_set]);refine PJ.mk2 hpi c2 w ⟨#[]⟩ _ _ _ _ ?_ ?_ ?_ ?_ ?_ ?_
           ·simp only[Ty.w,simprocAttr,g2]
           ·simp only[Ty.w,simprocAttr,g8]
           ·simp only[Ty.w,simprocAttr];first|exact e0.symm|rfl
           ·exact ⟨rfl,rfl,rfl,rfl⟩
           ·exact fun _=>hX
           ·intro hh;rw[hc2]at hh;exact absurd hh (by simp)
          |true=>
           rw[hc2]at hX;simp only[cond_true]at hX;have e0:errP c2= .sc .nilIface:=(by simp only[errP,hc2,cond_true]);rw[e0]at hck;replace zz:=uu g2 (uu g4 (uu g5 (uu g8 (uu g9 (uu g44 (uu g59 (uu r0 (uu q3 (uu o1 o2)))))))));(repeat'(first|refine a_seq fun K hK=>?_|refine uR zz ?_|refine uK ?_|refine uC1 zz ?_|(refine uN hK ?_;clear hK)|apply zI));refine owp_useQ (hcp _) (by(try simp only[Ty.w,simprocAttr,g2,g4,g5,g8,g9,g44,r0,o1,o2,n1,n2,set_set]);try rfl) ?_;simp(maxSteps:=2000000) only[Ty.w,simprocAttr,g2,g4,g5,g8,g9,g44,r0,o1,o2,n1,n2,set_set];(repeat'(first|refine a_seq fun K hK=>?_|(refine a_block ?_)|((first|refine a_regionS ?_|refine a_region (fun K hK=>?_));simp(maxSteps:=2000000) only[Ty.w,simprocAttr,g2,g4,g5,g8,g9,g44,r0,o1,o2,n1,n2,hq1,ht,Option.getD_some,Option.getD_none,Int.le_refl,Int.toNat_one])|(refine hK _ _ ?_;clear hK;(try simp only[pst0,simprocAttr]))));refine owp_useQ (hck _) (by(try simp only[Ty.w,simprocAttr,g2,g4,g5,g8,g9,g44,r0,o1,o2,n1,n2,hq1,ht,Option.getD_some,Option.getD_none,Int.le_refl,Int.toNat_one,set_set]);try rfl) ?_;simp(maxSteps:=2000000) only[Ty.w,simprocAttr,g2,g4,g5,g8,g9,g44,r0,o1,o2,n1,n2,hq1,ht,Option.getD_some,Option.getD_none,Int.le_refl,Int.toNat_one,set_set];(repeat'(refine hK _ _ ?_;clear hK;(try simp only[pst0,simprocAttr])));(try rw[set_set]);refine PJ.mk2 hpi c2 w ⟨#[]⟩ _ _ _ _ ?_ ?_ ?_ ?_ ?_ ?_
           ·simp only[Ty.w,simprocAttr,g2]
           ·simp only[Ty.w,simprocAttr,g8]
           ·simp only[Ty.w,simprocAttr];first|exact e0.symm|rfl
           ·exact ⟨rfl,rfl,rfl,rfl⟩
           ·intro hh;rw[hc2]at hh;exact absurd hh (by simp)
           ·subst hX;refine fun _=>⟨rfl,fun hh=>?_⟩;simp only[Fm.cells,FrzL];refine⟨?_,?_,?_,?_,?_,?_,trivial⟩<;>(unfold FrzTo;first|rfl|exact .inr (.inl ⟨rfl,.inr rfl⟩)|exact .inl ⟨rfl,strs_in _ _⟩|exact .inl ⟨rfl,pms_in _ _⟩|exact .inl ⟨rfl,fms_in _ _⟩)
       |false=>
        rw[hQ]at g59;simp only[fmBody,hQ,cond_false]at hX;replace zz:=uu g2 (uu g4 (uu g5 (uu g8 (uu g9 (uu g44 g59)))));(repeat'(first|refine a_hold 23 ?_|refine uC1 zz ?_|apply zI));refine⟨?_⟩;refine a_cut (fun S h2=>h2=h'∧S 2= .ptr h.next 0 0∧S 4=sPV w∧S 5= .imm 6 (Sx.rows rest)∧S 8= .ptr (h.next+1) 0 0∧S 9= .sc .nilIface∧S 44=sPV w∧S 87= .sc (.bool (isLst w))) ?_ ?_
        ·cases u1:(w.data.toList==(#[110,111,116]:Array UInt8).toList)with
         |true=>
          have hq:isLst w=true:=(by unfold isLst;simp[show bEq w opNot=true from u1]);rw[hq];replace zz:=uu g2 (uu g4 (uu g5 (uu g8 (uu g9 (uu g44 (uu g59 u1))))));(repeat'(first|refine a_seq fun K hK=>?_|refine uR zz ?_|refine uK ?_|refine uC1 zz ?_|(refine uN hK ?_;clear hK)|apply zI));all_goals first|rfl|(simp only[Ty.w,simprocAttr,g2,g4,g5,g8,g9,g44];done)
         |false=>
          cases u2:(w.data.toList==(#[105,109,112,108,121]:Array UInt8).toList)with
          |true=>
           have hq:isLst w=true:=(by unfold isLst;simp[show bEq w opNot=false from u1,show bEq w opImp=true from u2]);rw[hq];replace zz:=uu g2 (uu g4 (uu g5 (uu g8 (uu g9 (uu g44 (uu g59 (uu u1 u2)))))));(repeat'(first|refine a_seq fun K hK=>?_|refine uR zz ?_|refine uK ?_|refine uC1 zz ?_|(refine uN hK ?_;clear hK)|apply zI));all_goals first|rfl|(simp only[Ty.w,simprocAttr,g2,g4,g5,g8,g9,g44];done)
          |false=>
           cases u3:(w.data.toList==(#[97,110,100]:Array UInt8).toList)with
           |true=>
            have hq:isLst w=true:=(by unfold isLst;simp[show bEq w opNot=false from u1,show bEq w opImp=false from u2,show bEq w opAnd=true from u3]);rw[hq];replace zz:=uu g2 (uu g4 (uu g5 (uu g8 (uu g9 (uu g44 (uu g59 (uu u1 (uu u2 u3))))))));(repeat'(first|refine a_seq fun K hK=>?_|refine uR zz ?_|refine uK ?_|refine uC1 zz ?_|(refine uN hK ?_;clear hK)|apply zI));all_goals first|rfl|(simp only[Ty.w,simprocAttr,g2,g4,g5,g8,g9,g44];done)
           |false=>
            cases u4:(w.data.toList==(#[111,114]:Array UInt8).toList)with
            |true=>
             have hq:isLst w=true:=(by unfold isLst;simp[show bEq w opNot=false from u1,show bEq w opImp=false from u2,show bEq w opAnd=false from u3,show bEq w opOr=true from u4]);rw[hq];replace zz:=uu g2 (uu g4 (uu g5 (uu g8 (uu g9 (uu g44 (uu g59 (uu u1 (uu u2 (uu u3 u4)))))))));(repeat'(first|refine a_seq fun K hK=>?_|refine uR zz ?_|refine uC1 zz ?_|(refine uN hK ?_;clear hK)|apply zI));all_goals first|rfl|(simp only[Ty.w,simprocAttr,g2,g4,g5,g8,g9,g44];done)
            |false=>
             have hq:isLst w=false:=(by unfold isLst;simp[show bEq w opNot=false from u1,show bEq w opImp=false from u2,show bEq w opAnd=false from u3,show bEq w opOr=false from u4]);rw[hq];replace zz:=uu g2 (uu g4 (uu g5 (uu g8 (uu g9 (uu g44 (uu g59 (uu u1 (uu u2 (uu u3 u4)))))))));(repeat'(first|refine a_seq fun K hK=>?_|refine uR zz ?_|refine uC1 zz ?_|(refine uN hK ?_;clear hK)|apply zI));all_goals first|rfl|(simp only[Ty.w,simprocAttr,g2,g4,g5,g8,g9,g44];done)
        ·(try clear zz);clear g2 g4 g5 g8 g9 g44 g59;rintro S h' ⟨rfl,g2,g4,g5,g8,g9,g44,g87⟩;cases hL:isLst w with
         |true=>
          rw[hL]at g87 hX;simp only[cond_true]at hX;have hck:=fun h=>kids_c (l:=rest) hrl ihr h;generalize fmPs rest=KK at hck hX;obtain⟨ks,c2⟩:=KK;simp only at hck hX;cases hc2:c2==0 with
          |false=>
           rw[hc2]at hX;simp only[cond_false]at hX;have e0:errP c2=errV c2:=(by simp only[errP,hc2,cond_false]);rw[e0]at hck;simp only[errV]at hck e0;replace zz:=uu g2 (uu g4 (uu g5 (uu g8 (uu g9 (uu g44 (uu g87 (uu o1 o2)))))));(repeat'(first|refine uQ zz fun K hK=>?_|refine uC1 zz ?_|apply zI));refine owp_useQ (hck _) (by(try simp only[Ty.w,simprocAttr,g2,g4,g5,g8,g9,g44,g87,o1,o2,n1,n2,set_set]);try rfl) ?_;simp(maxSteps:=2000000) only[Ty.w,simprocAttr,g2,g4,g5,g8,g9,g44,g87,o1,o2,n1,n2,set_set];replace zz:=uu g2 (uu g4 (uu g5 (uu g8 (uu g9 (uu g44 (uu g87 (uu o1 (uu o2 (uu n1 n2)))))))));(repeat'(first|(refine uN hK ?_;clear hK)|apply zI));refine PJ.mk2 hpi c2 w ⟨#[]⟩ _ _ _ _ ?_ ?_ ?_ ?_ ?_ ?_
           ·simp only[Ty.w,simprocAttr,g2]
           ·simp only[Ty.w,simprocAttr,g8]
           ·simp only[Ty.w,simprocAttr];first|exact e0.symm|rfl
           ·exact ⟨rfl,rfl,rfl,rfl⟩
           ·exact fun _=>hX
           ·intro hh;rw[hc2]at hh;exact absurd hh (by simp)
          |true=>
           rw[hc2]at hX;simp only[cond_true]at hX;have e0:errP c2= .sc .nilIface:=(by simp only[errP,hc2,cond_true]);rw[e0]at hck;replace zz:=uu g2 (uu g4 (uu g5 (uu g8 (uu g9 (uu g44 (uu g87 (uu o1 o2)))))));(repeat'(first|refine uQ zz fun K hK=>?_|refine uC1 zz ?_|apply zI));refine owp_useQ (hck _) (by(try simp only[Ty.w,simprocAttr,g2,g4,g5,g8,g9,g44,g87,o1,o2,n1,n2,set_set]);try rfl) ?_;simp(maxSteps:=2000000) only[Ty.w,simprocAttr,g2,g4,g5,g8,g9,g44,g87,o1,o2,n1,n2,set_set];replace zz:=uu g2 (uu g4 (uu g5 (uu g8 (uu g9 (uu g44 (uu g87 (uu o1 (uu o2 (uu n1 n2)))))))));(repeat'(first|(refine uN hK ?_;clear hK)|apply zI));refine PJ.mk2 hpi c2 w ⟨#[]⟩ _ _ _ _ ?_ ?_ ?_ ?_ ?_ ?_
           ·simp only[Ty.w,simprocAttr,g2]
           ·simp only[Ty.w,simprocAttr,g8]
           ·simp only[Ty.w,simprocAttr];first|exact e0.symm|rfl
           ·exact ⟨rfl,rfl,rfl,rfl⟩
           ·intro hh;rw[hc2]at hh;exact absurd hh (by simp)
           ·subst hX;refine fun _=>⟨rfl,fun hh=>?_⟩;simp only[Fm.cells,FrzL];refine⟨?_,?_,?_,?_,?_,?_,trivial⟩<;>(unfold FrzTo;first|rfl|exact .inr (.inl ⟨rfl,.inr rfl⟩)|exact .inl ⟨rfl,strs_in _ _⟩|exact .inl ⟨rfl,pms_in _ _⟩|exact .inl ⟨rfl,fms_in _ _⟩)
         |false=>
          rw[hL]at g87 hX;simp only[cond_false]at hX;replace zz:=uu g2 (uu g4 (uu g5 (uu g8 (uu g9 (uu g44 g87)))));(repeat'(first|refine a_hold 28 ?_|refine uC1 zz ?_|apply zI));refine⟨?_⟩;refine a_cut (fun S h2=>h2=h'∧S 2= .ptr h.next 0 0∧S 4=sPV w∧S 5= .imm 6 (Sx.rows rest)∧S 8= .ptr (h.next+1) 0 0∧S 9= .sc .nilIface∧S 44=sPV w∧S 98= .sc (.bool (isCmp5 w))) ?_ ?_
          ·cases u1:(w.data.toList==(#[61]:Array UInt8).toList)with
           |true=>
            have hq:isCmp5 w=true:=(by unfold isCmp5 isCmp;simp[show bEq w opEq=true from u1]);rw[hq];replace zz:=uu g2 (uu g4 (uu g5 (uu g8 (uu g9 (uu g44 (uu g87 u1))))));(repeat'(first|refine a_seq fun K hK=>?_|refine uR zz ?_|refine uK ?_|refine uC1 zz ?_|(refine uN hK ?_;clear hK)|apply zI));all_goals first|rfl|(simp only[Ty.w,simprocAttr,g2,g4,g5,g8,g9,g44];done)
           |false=>
            cases u2:(w.data.toList==(#[60]:Array UInt8).toList)with
            |true=>
             have hq:isCmp5 w=true:=(by unfold isCmp5 isCmp;simp[show bEq w opEq=false from u1,show bEq w opLt=true from u2]);rw[hq];replace zz:=uu g2 (uu g4 (uu g5 (uu g8 (uu g9 (uu g44 (uu g87 (uu u1 u2)))))));(repeat'(first|refine a_seq fun K hK=>?_|refine uR zz ?_|refine uK ?_|refine uC1 zz ?_|(refine uN hK ?_;clear hK)|apply zI));all_goals first|rfl|(simp only[Ty.w,simprocAttr,g2,g4,g5,g8,g9,g44];done)
            |false=>
             cases u3:(w.data.toList==(#[60,61]:Array UInt8).toList)with
             |true=>
              have hq:isCmp5 w=true:=(by unfold isCmp5 isCmp;simp[show bEq w opEq=false from u1,show bEq w opLt=false from u2,show bEq w opLe=true from u3]);rw[hq];replace zz:=uu g2 (uu g4 (uu g5 (uu g8 (uu g9 (uu g44 (uu g87 (uu u1 (uu u2 u3))))))));(repeat'(first|refine a_seq fun K hK=>?_|refine uR zz ?_|refine uK ?_|refine uC1 zz ?_|(refine uN hK ?_;clear hK)|apply zI));all_goals first|rfl|(simp only[Ty.w,simprocAttr,g2,g4,g5,g8,g9,g44];done)
             |false=>
              cases u4:(w.data.toList==(#[62]:Array UInt8).toList)with
              |true=>
               have hq:isCmp5 w=true:=(by unfold isCmp5 isCmp;simp[show bEq w opEq=false from u1,show bEq w opLt=false from u2,show bEq w opLe=false from u3,show bEq w opGt=true from u4]);rw[hq];replace zz:=uu g2 (uu g4 (uu g5 (uu g8 (uu g9 (uu g44 (uu g87 (uu u1 (uu u2 (uu u3 u4)))))))));(repeat'(first|refine a_seq fun K hK=>?_|refine uR zz ?_|refine uK ?_|refine uC1 zz ?_|(refine uN hK ?_;clear hK)|apply zI));all_goals first|rfl|(simp only[Ty.w,simprocAttr,g2,g4,g5,g8,g9,g44];done)
              |false=>
               cases u5:(w.data.toList==(#[62,61]:Array UInt8).toList)with
               |true=>
                have hq:isCmp5 w=true:=(by unfold isCmp5 isCmp;simp[show bEq w opEq=false from u1,show bEq w opLt=false from u2,show bEq w opLe=false from u3,show bEq w opGt=false from u4,show bEq w opGe=true from u5]);rw[hq];replace zz:=uu g2 (uu g4 (uu g5 (uu g8 (uu g9 (uu g44 (uu g87 (uu u1 (uu u2 (uu u3 (uu u4 u5))))))))));(repeat'(first|refine a_seq fun K hK=>?_|refine uR zz ?_|refine uC1 zz ?_|(refine uN hK ?_;clear hK)|apply zI));all_goals first|rfl|(simp only[Ty.w,simprocAttr,g2,g4,g5,g8,g9,g44];done)
               |false=>
                have hq:isCmp5 w=false:=(by unfold isCmp5 isCmp;simp[show bEq w opEq=false from u1,show bEq w opLt=false from u2,show bEq w opLe=false from u3,show bEq w opGt=false from u4,show bEq w opGe=false from u5]);rw[hq];replace zz:=uu g2 (uu g4 (uu g5 (uu g8 (uu g9 (uu g44 (uu g87 (uu u1 (uu u2 (uu u3 (uu u4 u5))))))))));(repeat'(first|refine a_seq fun K hK=>?_|refine uR zz ?_|refine uC1 zz ?_|(refine uN hK ?_;clear hK)|apply zI));all_goals first|rfl|(simp only[Ty.w,simprocAttr,g2,g4,g5,g8,g9,g44];done)
          ·(try clear zz);clear g2 g4 g5 g8 g9 g44 g87;rintro S h' ⟨rfl,g2,g4,g5,g8,g9,g44,g98⟩;cases hC:isCmp5 w with
           |true=>
            rw[hC]at g98 hX;simp only[cond_true]at hX;obtain⟨x,y,rfl⟩: ∃ x y,rest=[x,y]:=by
             have h2:=count_two (.inr hC) hcnt
             match rest,h2 with
             |[p,b],_=>exact⟨p,b,rfl⟩
            simp only at hX;have hcc:=fun h=>compare_c (w:=w) (hro x (by simp)) (hro y (by simp)) (expr_c x (hro x (by simp)) (hsr x (by simp))) (expr_c y (hro y (by simp)) (hsr y (by simp))) h;have hfz:=fun hh=>fm_frz h.next hh (compareP w x y).1
            generalize compareP w x y=CC at hcc hX hfz;obtain⟨f,c⟩:=CC;simp only at hcc hfz;have r0:=Sx.rows_get (l:=[x,y]) (i:=0) rfl;have r1:=Sx.rows_get (l:=[x,y]) (i:=1) rfl;generalize Sx.rows [x,y]=R at g5 r0 r1 hlr;obtain⟨xk,xv,xl,xc,xt,xks⟩:=x;obtain⟨yk,yv,yl,yc,yt,yks⟩:=y;obtain⟨fop,fna,far,fpa,fex,fki⟩:=f;simp only[Sx.cells]at r0 r1 hcc;simp only[Fm.cells]at hcc hfz;cases hc2:c==0 with
            |false=>
             simp only[fin,hc2,cond_false]at hX;have e0:errP c=errV c:=(by simp only[errP,hc2,cond_false]);rw[e0]at hcc;simp only[errV]at hcc e0;replace zz:=uu g2 (uu g4 (uu g5 (uu g8 (uu g9 (uu g44 (uu g98 (uu r0 (uu r1 (uu o1 o2)))))))));repeat'(first|refine uE zz fun K hK=>?_|refine uC1 zz ?_|apply zI)
             (first|refine a_dcall0 (hcc _) (by(try simp only[Ty.w,simprocAttr,g2,g4,g5,g8,g9,g44,g98,r0,r1,o1,o2,n1,n2,set_set]);try rfl) ?_|refine a_dcallA (hcc _) (by(try simp only[Ty.w,simprocAttr,g2,g4,g5,g8,g9,g44,g98,r0,r1,o1,o2,n1,n2,set_set]);try rfl) (by simp only[Ty.w,simprocAttr,g2,g4,g5,g8,g9,g44,g98,r0,r1,o1,o2,n1,n2,set_set];try trivial) ?_);simp(maxSteps:=2000000) only[Ty.w,simprocAttr,Option.getD_some,g2,g4,g5,g8,g9,g44,g98,r0,r1,o1,o2,n1,n2,set_set]
             replace zz:=uu g2 (uu g4 (uu g5 (uu g8 (uu g9 (uu g44 (uu g98 (uu o1 (uu o2 (uu n1 n2)))))))));(repeat'(first|(refine uN hK ?_;clear hK)|refine uB zz ?_|apply zI));refine PJ.mk2 hpi c fop fna _ _ _ _ ?_ ?_ ?_ ?_ ?_ ?_
             ·simp only[Ty.w,simprocAttr,g2]
             ·simp only[Ty.w,simprocAttr,g8]
             ·simp only[Ty.w,simprocAttr];first|exact e0.symm|rfl
             ·exact ⟨rfl,rfl,rfl,rfl⟩
             ·exact fun _=>hX
             ·intro hh;rw[hc2]at hh;exact absurd hh (by simp)
            |true=>
             simp only[fin,hc2,cond_true]at hX;have e0:errP c= .sc .nilIface:=(by simp only[errP,hc2,cond_true]);rw[e0]at hcc;replace zz:=uu g2 (uu g4 (uu g5 (uu g8 (uu g9 (uu g44 (uu g98 (uu r0 (uu r1 (uu o1 o2)))))))));repeat'(first|refine uE zz fun K hK=>?_|refine uC1 zz ?_|apply zI)
             (first|refine a_dcall0 (hcc _) (by(try simp only[Ty.w,simprocAttr,g2,g4,g5,g8,g9,g44,g98,r0,r1,o1,o2,n1,n2,set_set]);try rfl) ?_|refine a_dcallA (hcc _) (by(try simp only[Ty.w,simprocAttr,g2,g4,g5,g8,g9,g44,g98,r0,r1,o1,o2,n1,n2,set_set]);try rfl) (by simp only[Ty.w,simprocAttr,g2,g4,g5,g8,g9,g44,g98,r0,r1,o1,o2,n1,n2,set_set];try trivial) ?_);simp(maxSteps:=2000000) only[Ty.w,simprocAttr,Option.getD_some,g2,g4,g5,g8,g9,g44,g98,r0,r1,o1,o2,n1,n2,set_set]
             replace zz:=uu g2 (uu g4 (uu g5 (uu g8 (uu g9 (uu g44 (uu g98 (uu o1 (uu o2 (uu n1 n2)))))))));(repeat'(first|(refine uN hK ?_;clear hK)|refine uB zz ?_|apply zI));refine PJ.mk2 hpi c fop fna _ _ _ _ ?_ ?_ ?_ ?_ ?_ ?_
             ·simp only[Ty.w,simprocAttr,g2]
             ·simp only[Ty.w,simprocAttr,g8]
             ·simp only[Ty.w,simprocAttr];first|exact e0.symm|rfl
             ·exact ⟨rfl,rfl,rfl,rfl⟩
             ·intro hh;rw[hc2]at hh;exact absurd hh (by simp)
             ·subst hX;exact fun _=>⟨by simpa using hc2,fun hh=>by simpa only[Fm.cells]using hfz hh⟩
           |false=>
            rw[hC]at g98 hX;simp only[cond_false]at hX;have hw':w.size≤9223372036854775807:=(by unfold bigN at hw;omega);have hn:=fun h:Heap=>fname_c (h:=h) hw';cases hN1:nameB w with
            |false=>
             rw[hN1]at hn hX;simp only[cond_false]at hX;replace zz:=uu g2 (uu g4 (uu g5 (uu g8 (uu g9 (uu g44 (uu g98 (uu o1 o2)))))));(repeat'(first|refine a_seq fun K hK=>?_|refine uR zz ?_|refine uC1 zz ?_|apply zI));replace zz:=uu g2 (uu g4 (uu g5 (uu g8 (uu g9 (uu g44 g98)))));refine uU zz (hn _) ?_;replace zz:=uu g2 (uu g4 (uu g5 (uu g8 (uu g9 (uu g44 (uu g98 (uu o1 (uu o2 @Bool.not_false))))))));(repeat'(first|refine a_seq fun K hK=>?_|refine uR zz ?_|refine uT zz ?_|(refine uN hK ?_;clear hK)|apply zI));exact errRet (.inr rfl) (hpi.grow.set (Nat.le_refl _) _) hX
            |true=>
             rw[hN1]at hn hX;simp only[cond_true]at hX;have ht:=fun h:Heap=>terms_c hrl hro h;generalize termsM rest=T at ht hX;obtain⟨t,c⟩:=T;simp only at ht hX;cases hc2:c==0 with
             |false=>
              rw[hc2]at hX;simp only[cond_false]at hX;have e0:errP c=errV c:=(by simp only[errP,hc2,cond_false]);rw[e0]at ht;simp only[errV]at ht e0;replace zz:=uu g2 (uu g4 (uu g5 (uu g8 (uu g9 (uu g44 (uu g98 (uu o1 o2)))))));(repeat'(first|refine a_seq fun K hK=>?_|refine uR zz ?_|refine uC1 zz ?_|apply zI));replace zz:=uu g2 (uu g4 (uu g5 (uu g8 (uu g9 (uu g44 g98)))));refine uU zz (hn _) ?_;replace zz:=uu g2 (uu g4 (uu g5 (uu g8 (uu g9 (uu g44 (uu o1 (uu o2 (uu n1 (uu n2 @Bool.not_true)))))))));(repeat'(first|refine a_seq fun K hK=>?_|refine uR zz ?_|refine uQ zz fun K hK=>?_|refine uK ?_|refine uC1 zz ?_|(refine uN hK ?_;clear hK)|apply zI));refine owp_useQ (ht _) (by(try simp only[Ty.w,simprocAttr,g2,g4,g5,g8,g9,g44,o1,o2,n1,n2,set_set]);try rfl) ?_;simp(maxSteps:=2000000) only[Ty.w,simprocAttr,g2,g4,g5,g8,g9,g44,o1,o2,n1,n2,set_set];(repeat'(refine hK _ _ ?_;clear hK;(try simp only[pst0,simprocAttr])));(try simp only[set_set]);refine PJ.mk2 hpi c ⟨#[97,116,111,109]⟩ w _ _ _ _ ?_ ?_ ?_ ?_ ?_ ?_
              ·simp only[Ty.w,simprocAttr,g2]
              ·simp only[Ty.w,simprocAttr,g8]
              ·simp only[Ty.w,simprocAttr];first|exact e0.symm|rfl
              ·exact ⟨rfl,rfl,rfl,rfl⟩
              ·exact fun _=>hX
              ·intro hh;rw[hc2]at hh;exact absurd hh (by simp)
             |true=>
              rw[hc2]at hX;simp only[cond_true]at hX;have e0:errP c= .sc .nilIface:=(by simp only[errP,hc2,cond_true]);rw[e0]at ht;replace zz:=uu g2 (uu g4 (uu g5 (uu g8 (uu g9 (uu g44 (uu g98 (uu o1 o2)))))));(repeat'(first|refine a_seq fun K hK=>?_|refine uR zz ?_|refine uC1 zz ?_|apply zI));replace zz:=uu g2 (uu g4 (uu g5 (uu g8 (uu g9 (uu g44 g98)))));refine uU zz (hn _) ?_;replace zz:=uu g2 (uu g4 (uu g5 (uu g8 (uu g9 (uu g44 (uu o1 (uu o2 (uu n1 (uu n2 @Bool.not_true)))))))));(repeat'(first|refine a_seq fun K hK=>?_|refine uR zz ?_|refine uQ zz fun K hK=>?_|refine uK ?_|refine uC1 zz ?_|(refine uN hK ?_;clear hK)|apply zI));refine owp_useQ (ht _) (by(try simp only[Ty.w,simprocAttr,g2,g4,g5,g8,g9,g44,o1,o2,n1,n2,set_set]);try rfl) ?_;simp(maxSteps:=2000000) only[Ty.w,simprocAttr,g2,g4,g5,g8,g9,g44,o1,o2,n1,n2,set_set];(repeat'(refine hK _ _ ?_;clear hK;(try simp only[pst0,simprocAttr])));(try simp only[set_set]);refine PJ.mk2 hpi c ⟨#[97,116,111,109]⟩ w _ _ _ _ ?_ ?_ ?_ ?_ ?_ ?_
              ·simp only[Ty.w,simprocAttr,g2]
              ·simp only[Ty.w,simprocAttr,g8]
              ·simp only[Ty.w,simprocAttr];first|exact e0.symm|rfl
              ·exact ⟨rfl,rfl,rfl,rfl⟩
              ·intro hh;rw[hc2]at hh;exact absurd hh (by simp)
              ·subst hX;refine fun _=>⟨rfl,fun hh=>?_⟩;simp only[Fm.cells,FrzL];refine⟨?_,?_,?_,?_,?_,?_,trivial⟩<;>(unfold FrzTo;first|rfl|exact .inr (.inl ⟨rfl,.inr rfl⟩)|exact .inl ⟨rfl,strs_in _ _⟩|exact .inl ⟨rfl,pms_in _ _⟩|exact .inl ⟨rfl,fms_in _ _⟩)
     ·(try clear zz);clear g2 g4 g5 g8 g9 hpi;rintro S h' ⟨g2,g8,hg,c,a,b,p2,p3,p4,p5,g9,o1,o2,⟨z2,z3,z4,z5⟩,hc,hd⟩;simp only[fmZ]at o1;cases hcc:c==0 with
      |false=>
       have hF:=hc hcc;have e0:errP c=errV c:=(by simp only[errP,hcc,cond_false]);rw[e0]at g9;simp only[errV]at g9;subst hF;rw[e0];simp only[errV];replace zz:=uu g2 (uu g8 (uu g9 (uu o1 o2)));(repeat'(first|refine a_seq fun K hK=>?_|refine uR zz ?_|refine uT zz ?_|(refine uN hK ?_;clear hK)|apply zI));refine⟨?_,hg.set (Nat.le_refl _) _⟩;simp only[zeroFm,Fm.cells,Ex.rows,Fm.rows,pmRows,strRows,List.map_nil,FrzTo,FrzL];exact⟨_,rfl,⟨_,rfl,rfl,rfl,.inr (.inl ⟨rfl,.inr rfl⟩),.inr (.inl ⟨rfl,.inr rfl⟩),.inr (.inl ⟨rfl,.inr rfl⟩),.inr (.inl ⟨rfl,.inr rfl⟩),trivial⟩,rfl,trivial⟩
      |true=>
       have hF:=hd hcc;have e0:errP c= .sc .nilIface:=(by simp only[errP,hcc,cond_true]);rw[e0]at g9;have e2:errP F.2= .sc .nilIface:=(by rw[hF.1];try rfl);rw[e2];replace zz:=uu g2 (uu g8 (uu g9 (uu o1 (uu o2 (uu z2 (uu z3 (uu z4 z5)))))));(repeat'(first|refine a_seq fun K hK=>?_|refine uR zz ?_|refine uT zz ?_|refine uK ?_|refine uC1 zz ?_|(refine uN hK ?_;clear hK)|apply zI));refine⟨?_,hg.set (Nat.le_refl _) _⟩;have h1:=hF.2 (h'.set h.next (.arr 6 [[sPV a,sPV b,p2,p3,p4,p5]]));unfold FrzTo;refine⟨_,rfl,?_⟩;unfold FrzL;refine⟨?_,by unfold FrzL;exact⟨by simp only[FrzTo],by simp only[FrzL]⟩⟩;unfold FrzTo;exact⟨_,rfl,h1⟩
set_option maxHeartbeats 4000000
theorem parse_c: ∀ x:Sx,x.ok→x.small→ ∀ h:Heap,PCall Tryz.prog 169 [.agg x.cells] h fun r h'=>r= .tup [.agg (fmP x).1.cells,errP (fmP x).2]∧h'=h:=by
 refine Sx.ind ?_;intro kind value line col text kids ih hok hsm h;have hok':=hok;simp only[Sx.ok]at hok';obtain⟨_,_,_,_,hks⟩:=hok';rw[Sx.oks_iff]at hks;have hsm':=hsm;simp only[Sx.small]at hsm';have hss:=hsm'.2;rw[Sx.smalls_iff]at hss;exact parse_step hok hsm (fun x hx=>ih x hx (hks x hx) (hss x hx)) h
theorem Parse_c{x:Sx}(hok:x.ok)(h:Heap):PCall Tryz.prog 148 [.agg x.cells] h fun r h'=>r= .tup [.agg (parseF x).1.cells,errP (parseF x).2]∧h'=h:=by
 refine PCall.frz Ty.hb_148 ?_;have hv:=fun h:Heap=>svalid_c hok h;have hX:parseF x=(if(svalid x 0 0).1=true then(if(fmP x).2=0 then(if validF (fmP x).1=true then((fmP x).1,0)else(zeroFm,5))else(zeroFm,(fmP x).2))else(zeroFm,2)):=rfl;generalize parseF x=F at hX;have bad: ∀ (c:Int)(h':Heap),(c==0)=false→Grow h h'→F=(zeroFm,c)→FrzTo h.next h' (.tup [.agg F.1.cells,errP F.2]) (.tup [.agg [.sc (.string ⟨#[]⟩),.sc (.string ⟨#[]⟩),.sc (.slice none 0 0),.sc (.slice none 0 0),.sc (.slice none 0 0),.sc (.slice none 0 0)],errV c])∧Grow h h':=by
  intro c h' hc hg hF;subst hF;have:errP c=errV c:=by simp only[errP,hc,cond_false]
  simp only[this];refine⟨?_,hg⟩;simp only[errV,zeroFm,Fm.cells,Ex.rows,Fm.rows,pmRows,strRows,List.map_nil,FrzTo,FrzL];exact⟨_,rfl,⟨_,rfl,rfl,rfl,.inr (.inl ⟨rfl,.inr rfl⟩),.inr (.inl ⟨rfl,.inr rfl⟩),.inr (.inl ⟨rfl,.inr rfl⟩),.inr (.inl ⟨rfl,.inr rfl⟩),trivial⟩,rfl,trivial⟩
 simp only[errV]at bad;have hg1: ∀ r,Grow h ((h.new (.arr 6 [[.sc (.string ⟨#[]⟩),.sc (.string ⟨#[]⟩),.sc (.slice none 0 0),.sc (.slice none 0 0),.sc (.slice none 0 0),.sc (.slice none 0 0)]])).set h.next r):=fun r=>((Grow.refl h).new _).set (Nat.le_refl _) _;have hg2: ∀ o1 o2 r,Grow h ((((h.new (.arr 6 [[.sc (.string ⟨#[]⟩),.sc (.string ⟨#[]⟩),.sc (.slice none 0 0),.sc (.slice none 0 0),.sc (.slice none 0 0),.sc (.slice none 0 0)]])).new o1).set (h.next+1) o2).set h.next r):=fun o1 o2 r=>((((Grow.refl h).new _).new _).set (Nat.le_succ _) _).set (Nat.le_refl _) _;have n1:(h.next=h.next+1)=False:=by simp
 cases v1:(svalid x 0 0).1 with
 |false=>
  rw[v1]at hv;rw[if_neg (by rw[v1];simp)]at hX;obtain⟨kind,value,line,col,text,kids⟩:=x;simp only[Sx.cells]at hv⊢;refine uG0 Tryz.func148 Tryz.ntmps148 Tryz.results148 Ty.hb_148 ?_;repeat'(first|refine a_seq fun K hK=>?_|refine uR trivial ?_|(refine uN hK ?_;clear hK)|apply zI)
  refine uU trivial (hv _) ?_;repeat'(first|refine a_seq fun K hK=>?_|refine uR @Bool.not_false ?_|refine uT @Bool.not_false ?_|(refine uN hK ?_;clear hK)|apply zI)
  exact bad 2 _ rfl (hg1 _) hX
 |true=>
  have hsm:=svalid_small v1;have hp:=parse_c x hok hsm;have hfo:=fmP_ok x hok hsm;rw[v1]at hv;rw[if_pos v1]at hX;have hfz:=fun n hh=>fm_frz n hh (fmP x).1;generalize fmP x=E at hp hfo hX hfz;obtain⟨f,c⟩:=E;simp only at hp hfo hX hfz;obtain⟨kind,value,line,col,text,kids⟩:=x;simp only[Sx.cells]at hv hp⊢;cases hc:c==0 with
  |false=>
   rw[if_neg (by simpa using hc)]at hX;have e0:errP c=errV c:=(by simp only[errP,hc,cond_false]);rw[e0]at hp;simp only[errV]at hp;obtain⟨fop,fna,far,fpa,fex,fki⟩:=f;simp only[Fm.cells]at hp;refine uG0 Tryz.func148 Tryz.ntmps148 Tryz.results148 Ty.hb_148 ?_;(repeat'(first|refine a_seq fun K hK=>?_|refine uR trivial ?_|(refine uN hK ?_;clear hK)|apply zI));refine uU trivial (hv _) ?_;(repeat'(first|refine a_seq fun K hK=>?_|refine uR @Bool.not_true ?_|refine uK ?_|refine uC1 @Bool.not_true ?_|(refine uN hK ?_;clear hK)|apply zI));refine uU trivial (hp _) ?_;replace zz:=uu n1 @nsucc;(repeat'(first|refine a_seq fun K hK=>?_|refine uR zz ?_|refine uT zz ?_|(refine uN hK ?_;clear hK)|apply zI));exact bad c _ hc (hg2 _ _ _) hX
  |true=>
   rw[if_pos (by simpa using hc)]at hX;have e0:errP c= .sc .nilIface:=(by simp only[errP,hc,cond_true]);rw[e0]at hp;have hV:=fun h:Heap=>fvalid_c hfo.1 hfo.2 h;cases v2:validF f with
   |false=>
    rw[v2]at hV;rw[if_neg (by rw[v2];simp)]at hX;obtain⟨fop,fna,far,fpa,fex,fki⟩:=f;simp only[Fm.cells]at hp hV;refine uG0 Tryz.func148 Tryz.ntmps148 Tryz.results148 Ty.hb_148 ?_;(repeat'(first|refine a_seq fun K hK=>?_|refine uR trivial ?_|(refine uN hK ?_;clear hK)|apply zI));refine uU trivial (hv _) ?_;(repeat'(first|refine a_seq fun K hK=>?_|refine uR @Bool.not_true ?_|refine uK ?_|refine uC1 @Bool.not_true ?_|(refine uN hK ?_;clear hK)|apply zI));refine uU trivial (hp _) ?_;replace zz:=uu n1 @nsucc;(repeat'(first|refine a_seq fun K hK=>?_|refine uR zz ?_|refine uK ?_|refine uC1 zz ?_|(refine uN hK ?_;clear hK)|apply zI));refine uU (uu n1 @nsucc) (hV _) ?_;replace zz:=uu n1 (uu @nsucc @Bool.not_false);(repeat'(first|refine a_seq fun K hK=>?_|refine uR zz ?_|refine uT zz ?_|(refine uN hK ?_;clear hK)|apply zI));exact bad 5 _ rfl (hg2 _ _ _) hX
   |true=>
    rw[v2]at hV;rw[if_pos v2]at hX;subst hX;obtain⟨fop,fna,far,fpa,fex,fki⟩:=f;simp only[Fm.cells]at hp hV hfz;have e2:errP 0= .sc .nilIface:=rfl;simp only[e2,Fm.cells];refine uG0 Tryz.func148 Tryz.ntmps148 Tryz.results148 Ty.hb_148 ?_;(repeat'(first|refine a_seq fun K hK=>?_|refine uR trivial ?_|(refine uN hK ?_;clear hK)|apply zI));refine uU trivial (hv _) ?_;(repeat'(first|refine a_seq fun K hK=>?_|refine uR @Bool.not_true ?_|refine uK ?_|refine uC1 @Bool.not_true ?_|(refine uN hK ?_;clear hK)|apply zI));refine uU trivial (hp _) ?_;replace zz:=uu n1 @nsucc;(repeat'(first|refine a_seq fun K hK=>?_|refine uR zz ?_|refine uK ?_|refine uC1 zz ?_|(refine uN hK ?_;clear hK)|apply zI));refine uU (uu n1 @nsucc) (hV _) ?_;replace zz:=uu n1 (uu @nsucc @Bool.not_true);(repeat'(first|refine a_seq fun K hK=>?_|refine uR zz ?_|refine uT zz ?_|refine uK ?_|refine uC1 zz ?_|(refine uN hK ?_;clear hK)|apply zI));refine⟨?_,hg2 _ _ _⟩;have h1:=fun hh=>hfz h.next hh
    unfold FrzTo;refine⟨_,rfl,?_⟩;unfold FrzL;refine⟨?_,by unfold FrzL;exact⟨by simp only[FrzTo],by simp only[FrzL]⟩⟩;unfold FrzTo;exact⟨_,rfl,h1 _⟩
set_option maxHeartbeats 8000000
theorem ch_in(n:Nat)(c:Ch):inNL n (chRow c):=by
 obtain⟨k,P,⟨gop,gna,gar,gpa,gex,gki⟩,nm,a,⟨eop,ena,en,ear,eki⟩⟩:=c;simp only[chRow,Fm.cells,Ex.cells,List.cons_append,List.nil_append,inNL,inN,true_and,and_true];exact⟨pms_in _ _,strs_in _ _,pms_in _ _,exs_in _ _,fms_in _ _,strs_in _ _,strs_in _ _,exs_in _ _⟩
theorem ch_frz(n:Nat)(h:Heap)(c:Ch):FrzL n h (chRow c) (chRow c):=by
 obtain⟨k,P,⟨gop,gna,gar,gpa,gex,gki⟩,nm,a,⟨eop,ena,en,ear,eki⟩⟩:=c;simp only[chRow,Fm.cells,Ex.cells,List.cons_append,List.nil_append,FrzL,FrzTo,true_and,and_true];exact⟨.inl (pms_in _ _),.inl (strs_in _ _),.inl (pms_in _ _),.inl (exs_in _ _),.inl (fms_in _ _),.inl (strs_in _ _),.inl (strs_in _ _),.inl (exs_in _ _)⟩
theorem chs_in(n:Nat): ∀ l:List Ch,inNR n (chRows l)
 |[]=>by simp only[chRows,List.map_nil,inNR]
 |c::l=>by
  have:=chs_in n l;simp only[chRows,List.map_cons,inNR]at this⊢;exact⟨ch_in n c,this⟩
theorem chs_frz(n:Nat)(h:Heap): ∀ l:List Ch,FrzR n h (chRows l) (chRows l)
 |[]=>by simp only[chRows,List.map_nil,FrzR]
 |c::l=>by
  have:=chs_frz n h l;simp only[chRows,List.map_cons,FrzR]at this⊢;exact⟨ch_frz n h c,this⟩
theorem schange_c{P:List Pm}{W:List Fm}{k:Int}{n:ByteArray}{a:List ByteArray}{v:Ex}(hp:P.length≤1099511627776)(hwl:W.length≤1099511627776)(h:Heap):
  PCall Tryz.prog 114 [.agg [.imm 2 (pmRows P),.imm 6 (Fm.rows W)],.sc (.int .i64 k),sPV n,.imm 1 (strRows a),.agg v.cells] h fun r h'=>r= .agg (chRow (chgS ⟨P,W⟩ k n a v))∧h'=h:=by
 refine PCall.frz Ty.hb_114 ?_;have hcP:=fun h:Heap=>cloneP_q (l:=P) hp h;have hcF:=fun h:Heap=>cloneF_q (l:=W) hwl h;have hda:=fun h:Heap=>dalways_c (h:=h);simp only[andFm,Fm.cells,strRows,pmRows,Ex.rows,Fm.rows,List.map_nil]at hda;have hwl2:=Fm.rows_len W;have fin: ∀ (H:Heap)(c:Ch)(z:AObj),Grow h H→c=chgS ⟨P,W⟩ k n a v→FrzTo h.next (H.set h.next (.arr 15 [chRow c])) (.agg (chRow (chgS ⟨P,W⟩ k n a v))) (.agg (chRow c))∧Grow h (H.set h.next (.arr 15 [chRow c])):=fun H c z g e=>⟨by
  rw[← e];simp only[FrzTo];exact⟨_,rfl,ch_frz _ _ _⟩,g.set (Nat.le_refl _) _⟩
 obtain⟨eop,ena,en,ear,eki⟩:=v;simp only[Ex.cells]at fin⊢;cases W with
 |nil=>
  have q0:(((Fm.rows []).length:Int)==0)=true:=rfl;have fin0:=fun H g=>fin H ⟨k,P,andFm,n,a,.mk eop ena en ear eki⟩ (.arr 0 []) g rfl;generalize chgS ⟨P,[]⟩ k n a (.mk eop ena en ear eki)=C at fin0⊢;simp only[chRow,andFm,Fm.cells,Ex.cells,List.cons_append,List.nil_append,strRows,pmRows,Ex.rows,Fm.rows,List.map_nil]at fin0;generalize Fm.rows []=R at q0⊢;refine uG0 Tryz.func114 Tryz.ntmps114 Tryz.results114 Ty.hb_114 ?_;repeat'(first|refine a_seq fun K hK=>?_|refine uR trivial ?_|refine uD trivial ?_|(refine uN hK ?_;clear hK)|apply zI)
  first|refine uV trivial (hcP _) ?_|refine uA trivial (hcP _) ?_
  try apply zI
  first|refine uV trivial (hda _) ?_|refine uA trivial (hda _) ?_
  refine⟨?_,?_⟩
  ·simp only[List.forall_mem_cons,Ty.w,simprocAttr,Ty.all]
   (repeat' apply And.intro)<;>first
    |exact .inl (by decide+kernel)
    |exact .inr (Does_use (hcP _) (by(try simp only[Ty.w,simprocAttr]);try rfl))
    |exact .inr (Does_use (hda _) (by(try simp only[Ty.w,simprocAttr]);try rfl))
    |exact .inr trivial
    |exact fun _ hx=>nomatch hx
  replace zz:=uu q0 @nsucc;repeat'(first|refine a_seq fun K hK=>?_|refine a_block ?_|refine uR zz ?_|refine uT zz ?_|refine uK ?_|(refine uN hK ?_;clear hK)|refine uB zz ?_|apply zI)
  exact fin0 _ (((((Grow.refl h).new _).new _).set (by omega) _))
 |cons f W2=>
  cases W2 with
  |nil=>
   have q0:(((Fm.rows [f]).length:Int)==0)=false:=rfl;have q1:(((Fm.rows [f]).length:Int)==1)=true:=rfl;have q2:((0:Int)<((Fm.rows [f]).length:Int))=True:=eq_true (by rw[hwl2];simp);have r0:(Fm.rows [f])[0]? =some f.cells:=rfl;have fin0:=fun H g=>fin H ⟨k,P,f,n,a,.mk eop ena en ear eki⟩ (.arr 0 []) g rfl;generalize chgS ⟨P,[f]⟩ k n a (.mk eop ena en ear eki)=C at fin0⊢;obtain⟨gop,gna,gar,gpa,gex,gki⟩:=f;simp only[chRow,Fm.cells,Ex.cells,List.cons_append,List.nil_append]at fin0 r0;generalize Fm.rows [_]=R at q0 q1 q2 r0⊢;refine uG0 Tryz.func114 Tryz.ntmps114 Tryz.results114 Ty.hb_114 ?_;(repeat'(first|refine a_seq fun K hK=>?_|refine uR trivial ?_|refine uD trivial ?_|(refine uN hK ?_;clear hK)|apply zI));(first|refine uV trivial (hcP _) ?_|refine uA trivial (hcP _) ?_);(try apply zI);(first|refine uV trivial (hda _) ?_|refine uA trivial (hda _) ?_);refine⟨?_,?_⟩
   ·simp only[List.forall_mem_cons,Ty.w,simprocAttr,Ty.all]
    (repeat' apply And.intro)<;>first
     |exact .inl (by decide+kernel)
     |exact .inr (Does_use (hcP _) (by(try simp only[Ty.w,simprocAttr]);try rfl))
     |exact .inr (Does_use (hda _) (by(try simp only[Ty.w,simprocAttr]);try rfl))
     |exact .inr trivial
     |exact fun _ hx=>nomatch hx
   replace zz:=uu q0 (uu q1 (uu q2 (uu r0 @nsucc)));(repeat'(first|refine a_seq fun K hK=>?_|refine a_block ?_|refine uR zz ?_|refine uQ zz fun K hK=>?_|refine uT zz ?_|(refine uN hK ?_;clear hK)|refine uB zz ?_|apply zI));exact fin0 _ ((((((Grow.refl h).new _).new _).set (by omega) _).set (by omega) _))
  |cons g W3=>
   have q0:(((Fm.rows (f::g::W3)).length:Int)==0)=false:=(by rw[hwl2];simp;omega);have q1:(((Fm.rows (f::g::W3)).length:Int)==1)=false:=(by rw[hwl2];simp;omega);have fin0:=fun H g'=>fin H ⟨k,P,.mk opAnd ⟨#[]⟩ [] [] [] (f::g::W3),n,a,.mk eop ena en ear eki⟩ (.arr 0 []) g' rfl;generalize chgS ⟨P,f::g::W3⟩ k n a (.mk eop ena en ear eki)=C at fin0⊢;simp only[chRow,Fm.cells,Ex.cells,List.cons_append,List.nil_append,strRows,pmRows,Ex.rows,List.map_nil]at fin0;simp only[strRows,pmRows]at hcP hcF hda⊢;generalize Fm.rows (f::g::W3)=R at q0 q1 fin0 hcF⊢;refine uG0 Tryz.func114 Tryz.ntmps114 Tryz.results114 Ty.hb_114 ?_;(repeat'(first|refine a_seq fun K hK=>?_|refine uR trivial ?_|refine uD trivial ?_|(refine uN hK ?_;clear hK)|apply zI));(first|refine uV trivial (hcP _) ?_|refine uA trivial (hcP _) ?_);(try apply zI);(first|refine uV trivial (hda _) ?_|refine uA trivial (hda _) ?_);refine⟨?_,?_⟩
   ·simp only[List.forall_mem_cons,Ty.w,simprocAttr,Ty.all]
    (repeat' apply And.intro)<;>first
     |exact .inl (by decide+kernel)
     |exact .inr (Does_use (hcP _) (by(try simp only[Ty.w,simprocAttr]);try rfl))
     |exact .inr (Does_use (hda _) (by(try simp only[Ty.w,simprocAttr]);try rfl))
     |exact .inr trivial
     |exact fun _ hx=>nomatch hx
   replace zz:=uu q0 (uu q1 @nsucc);(repeat'(first|refine a_seq fun K hK=>?_|refine a_block ?_|refine uR zz ?_|refine uQ zz fun K hK=>?_|(refine uN hK ?_;clear hK)|refine uB zz ?_|apply zI));refine uU @nsucc (hcF _) ?_;(repeat'(first|refine a_seq fun K hK=>?_|((first|refine a_regionS ?_|refine a_ret ?_);simp(maxSteps:=2000000) only[Ty.w,simprocAttr,nsucc,putC])|(refine hK _ _ ?_;clear hK;(try simp only[pst0,simprocAttr]))));exact fin0 _ ((((((Grow.refl h).new _).new _).set (by omega) _).set (by omega) _))
theorem errP_ne{c:Int}(h:(c==0)=false):errP c=errV c:=by simp only[errP,h,cond_false]
theorem errP_z{c:Int}(h:(c==0)=true):errP c= .sc .nilIface:=by simp only[errP,h,cond_true]
theorem efBad_frz{n:Nat}{H:Heap}{c:Int}(hc:(c==0)=false):FrzTo n H (.tup [.imm 15 (chRows []),errP c]) (.tup [.sc (.slice none 0 0),errV c]):=by
 rw[errP_ne hc];simp only[errV,chRows,List.map_nil,FrzTo,FrzL];exact⟨_,rfl,.inr (.inl ⟨rfl,.inr rfl⟩),rfl,trivial⟩
theorem efOk_frz{n:Nat}{H:Heap}{l:List Ch}{c:Int}(hc:(c==0)=true):FrzTo n H (.tup [.imm 15 (chRows l),errP c]) (.tup [.imm 15 (chRows l),.sc .nilIface]):=by
 rw[errP_z hc];simp only[FrzTo,FrzL];exact⟨_,rfl,.inl ⟨rfl,chs_in _ _⟩,rfl,trivial⟩
theorem snumeric_c{P:List Pm}{W:List Fm}{k:Int}(hp:P.length≤1099511627776)(hwl:W.length≤1099511627776){kind value line col:Int}{text:ByteArray}{y:Sx}{rest:List Sx}
  (hok: ∀ z∈rest,z.ok)(hsm: ∀ z∈rest,z.small)(hl:rest.length≤1048576)(h:Heap):
  PCall Tryz.prog 110 [.agg [.imm 2 (pmRows P),.imm 6 (Fm.rows W)],.sc (.int .i64 k),.agg [.sc (.int .i64 kind),.sc (.int .i64 value),.sc (.int .i64 line),.sc (.int .i64 col),sPV text,.imm 6 (Sx.rows (y::rest))]] h fun r h'=>
   r= .tup [.imm 15 (chRows (numP ⟨P,W⟩ k rest).1),errP (numP ⟨P,W⟩ k rest).2]∧h'=h:=by
 refine PCall.frz Ty.hb_110 ?_;have hlen:=Sx.rows_len (y::rest);generalize hF:numP ⟨P,W⟩ k rest=F;cases q3:(((Sx.rows (y::rest)).length:Int) !=3)with
 |true=>
  have e:F=([],2):=by
   rw[← hF]
   match rest,q3,hlen with
   |[],_,_=>rfl
   |[_],_,_=>rfl
   |[_,_],q,hlen=>rw[hlen]at q;simp at q
   |_::_::_::_,_,_=>rfl
  subst e;generalize Sx.rows (y::rest)=R at q3⊢;refine uG0 Tryz.func110 Tryz.ntmps110 Tryz.results110 Ty.hb_110 ?_;repeat'(first|refine a_seq fun K hK=>?_|refine uR q3 ?_|refine uT q3 ?_|(refine uN hK ?_;clear hK)|apply zI)
  exact⟨efBad_frz (c:=2) rfl,Grow.refl _⟩
 |false=>
  obtain⟨a,e,rfl⟩: ∃ a e,rest=[a,e]:=by
   match rest,q3,hlen with
   |[],q,hlen=>rw[hlen]at q;simp at q
   |[_],q,hlen=>rw[hlen]at q;simp at q
   |[a,e],_,_=>exact⟨a,e,rfl⟩
   |_::_::_::l,q,hlen=>rw[hlen]at q;simp at q;omega
  have ca:=fun h:Heap=>datom_c (hok a (by simp)) (hsm a (by simp)) h;have ce:=fun h:Heap=>ParseExpr_c (x:=e) (hok e (by simp)) h;have r1:=Sx.rows_get (l:=[y,a,e]) (i:=1) rfl;have r2:=Sx.rows_get (l:=[y,a,e]) (i:=2) rfl;have d1:((1:Int)<((Sx.rows [y,a,e]).length:Int))=True:=eq_true (by rw[hlen];simp);have d2:((2:Int)<((Sx.rows [y,a,e]).length:Int))=True:=eq_true (by rw[hlen];simp);simp only[numP]at hF;generalize Sx.rows [y,a,e]=R at q3 r1 r2 d1 d2⊢;generalize dAtomP a=A at ca hF;obtain⟨an,aa,ac⟩:=A;have cc:=fun(v:Ex)(h:Heap)=>schange_c (k:=k) (n:=an) (a:=aa) (v:=v) hp hwl h;obtain⟨ak,av,al,aco,atx,ass⟩:=a;simp only[atomV,Sx.cells]at ca r1;simp only at hF;cases z1:(ac==0)with
  |false=>
   rw[z1,cond_false]at hF;subst hF;rw[errP_ne z1]at ca;simp only[errV]at ca;refine uG0 Tryz.func110 Tryz.ntmps110 Tryz.results110 Ty.hb_110 ?_;replace zz:=uu q3 (uu r1 d1);(repeat'(first|refine a_seq fun K hK=>?_|refine uR zz ?_|refine uK ?_|refine uC1 zz ?_|(refine uN hK ?_;clear hK)|apply zI));refine uU (uu r1 d1) (ca _) ?_;(repeat'(first|refine a_seq fun K hK=>?_|refine uR @nsucc ?_|refine uT @nsucc ?_|(refine uN hK ?_;clear hK)|apply zI));exact⟨efBad_frz z1,Grow.refl _⟩
  |true=>
   rw[z1,cond_true]at hF;rw[errP_z z1]at ca;generalize parseE e=E at ce hF;obtain⟨ev,ec⟩:=E;obtain⟨ek,eva,el,eco,et,es⟩:=e;simp only[Sx.cells]at ce r2;simp only at hF;cases z2:(ec==0)with
   |false=>
    rw[z2,cond_false]at hF;subst hF;rw[errP_ne z2]at ce;obtain⟨eop,ena,en,ear,eki⟩:=ev;simp only[errV,Ex.cells]at ce;refine uG0 Tryz.func110 Tryz.ntmps110 Tryz.results110 Ty.hb_110 ?_;replace zz:=uu q3 (uu r1 d1);(repeat'(first|refine a_seq fun K hK=>?_|refine uR zz ?_|refine uK ?_|refine uC1 zz ?_|(refine uN hK ?_;clear hK)|apply zI));refine uU (uu r1 d1) (ca _) ?_;replace zz:=uu r2 d2;(repeat'(first|refine a_seq fun K hK=>?_|refine uR zz ?_|refine uK ?_|refine uC1 zz ?_|(refine uN hK ?_;clear hK)|apply zI));refine uU (uu r2 d2) (ce _) ?_;(repeat'(first|refine a_seq fun K hK=>?_|refine uR @nsucc ?_|refine uT @nsucc ?_|(refine uN hK ?_;clear hK)|apply zI));exact⟨efBad_frz z2,((Grow.refl h).new _).set (Nat.le_refl _) _⟩
   |true=>
    rw[z2,cond_true]at hF;rw[errP_z z2]at ce;have cc:=cc ev;have efin:=fun H=>efOk_frz (n:=h.next) (H:=H) (l:=F.1) (c:=F.2) (by rw[← hF];try rfl);subst hF;generalize chgS ⟨P,W⟩ k an aa ev=C at cc efin⊢;obtain⟨eop,ena,en,ear,eki⟩:=ev;obtain⟨ck,cP,⟨gop,gna,gar,gpa,gex,gki⟩,cn,cargs,⟨vop,vna,vn,var,vki⟩⟩:=C;simp only[chRow,chRows,List.map_cons,List.map_nil,Fm.cells,Ex.cells,List.cons_append,List.nil_append]at ce cc efin⊢;refine uG0 Tryz.func110 Tryz.ntmps110 Tryz.results110 Ty.hb_110 ?_;replace zz:=uu q3 (uu r1 d1);(repeat'(first|refine a_seq fun K hK=>?_|refine uR zz ?_|refine uK ?_|refine uC1 zz ?_|(refine uN hK ?_;clear hK)|apply zI));refine uU (uu r1 d1) (ca _) ?_;replace zz:=uu r2 d2;(repeat'(first|refine a_seq fun K hK=>?_|refine uR zz ?_|refine uK ?_|refine uC1 zz ?_|(refine uN hK ?_;clear hK)|apply zI));refine uU (uu r2 d2) (ce _) ?_;(repeat'(first|refine a_seq fun K hK=>?_|refine uR @nsucc ?_|refine uK ?_|refine uC1 @nsucc ?_|(refine uN hK ?_;clear hK)|apply zI));refine uU @nsucc (cc _) ?_;(repeat'(first|refine uT @nsucc ?_|(refine uN hK ?_;clear hK)|apply zI));exact⟨efin _,((Grow.refl h).new _).set (Nat.le_refl _) _⟩
def Emp3(z:Nat)(rows:List (List PV))(q:PV):Prop:=(∃ a cap,q= .sc (.slice a 0 cap)∧rows=[])∨(q= .imm z rows∧rows≠[])
theorem Emp3.pc{z:Nat}{rows:List (List PV)}{q:PV}(h:Emp3 z rows q):q.cells=[q]∧oneC q=true:=by
 rcases h with⟨_,_,rfl,_⟩|⟨rfl,_⟩<;>exact⟨rfl,rfl⟩
theorem PCall.nilAgg{P:Program}{f:FuncId}{z:Nat}{h:Heap}{K:PV→Heap→Prop}{pre post rest:List PV}(h0: ∀ a cap,PCall P f (.agg (pre++ .sc (.slice a 0 cap)::post)::rest) h K):PCall P f (.agg (pre++ .imm z []::post)::rest) h K:=by
 intro β w vals sm hr;cases vals with
 |nil=>simp[RepL]at hr
 |cons v vals=>
  simp only[RepL,Rep]at hr;obtain⟨⟨xs,rfl,h1,h2⟩,h3⟩:=hr;obtain⟨a,cap,hx⟩:=RepL.nil_split h2;exact h0 a cap β w _ sm (by simp only[RepL,Rep];exact⟨⟨xs,rfl,h1,hx⟩,h3⟩)
theorem c0F_none(cap:Nat)(h:Heap):PCall Tryz.prog 149 [.sc (.slice none 0 cap)] h fun r h'=>r= .sc (.slice none 0 0)∧h'=h:=by
 refine uG0 Tryz.func149 Tryz.ntmps149 Tryz.results149 Ty.hb_149 ?_;repeat'(first|refine a_seq fun K hK=>?_|((first|refine a_regionS ?_|refine a_ret ?_);simp(maxSteps:=2000000) only[Ty.w,simprocAttr,peq_none])|(refine hK _ _ ?_;clear hK;(try simp only[pst0,simprocAttr])))
theorem c0F_some(x:Addr)(cap:Nat)(h:Heap):PCall Tryz.prog 149 [.sc (.slice (some x) 0 cap)] h fun r h'=>r= .own h.next 0 0∧h'=h.new (.arr 6 []):=by
 refine uG0 Tryz.func149 Tryz.ntmps149 Tryz.results149 Ty.hb_149 ?_;repeat'(first|refine a_seq fun K hK=>?_|((first|refine a_regionS ?_|refine a_ret ?_);simp(maxSteps:=2000000) only[Ty.w,simprocAttr,peq_some,view_some,zOk_some])|(refine a_skip ?_;(try simp only[pst0,simprocAttr]))|(refine a_cond _ (by(try simp(maxSteps:=2000000) only[Ty.w,simprocAttr,peq_some,view_some,zOk_some]);rfl) (fun hb=>?_) (fun hb=>?_)<;>(try simp only[hb0,decide_eq_true_eq,decide_eq_false_iff_not,simprocAttr]at hb)<;>(try(exfalso;omega)))|(refine hK _ _ ?_;clear hK;(try simp only[pst0,simprocAttr])))
theorem c1F{R:List (List PV)}{n:Nat}(hR:R.length=n+1)(hn:n≤1048576)(h:Heap):PCall Tryz.prog 149 [.imm 6 R] h fun r h'=>r= .own h.next 0 (n+1)∧h'=h.new (.arr 6 R):=by
 have h0:(0<R.length)=True:=by rw[hR];simp
 have hb:(n+1)*128≤140737488355328:=by omega
 refine uG0 Tryz.func149 Tryz.ntmps149 Tryz.results149 Ty.hb_149 ?_;replace zz:=uu h0 (uu hR (uu hb @Nat.zero_add));repeat'(first|refine a_seq fun K hK=>?_|refine uR zz ?_|refine uT zz ?_|refine uK ?_|refine uC1 zz ?_|(refine uN hK ?_;clear hK)|(rw[if_pos];rotate_left 1;omega;simp(maxSteps:=2000000) only[Ty.w,simprocAttr,h0,hR,hb,Nat.zero_add])|apply zI)
theorem ctF{R:List (List PV)}{q:PV}(hq:Emp3 6 R q)(hl:R.length≤1048576)(h:Heap): ∃ v h1,(PCall Tryz.prog 149 [q] h fun r h'=>r=v∧h'=h1)∧Grow h h1∧Tl h1 h.next 6 v R:=by
 rcases hq with⟨a,cap,rfl,rfl⟩|⟨rfl,hne⟩
 ·cases a with
  |none=>exact⟨_,_,c0F_none cap h,Grow.refl _,Tl.nil⟩
  |some x=>exact⟨_,_,c0F_some x cap h,(Grow.refl h).new _,Tl.grow (Nat.le_refl _) rfl⟩
 ·obtain ⟨n,hn⟩: ∃ n,R.length=n+1:=⟨R.length-1,by have:=List.length_pos_iff.2 hne;omega⟩;exact⟨_,_,c1F hn (by omega) h,(Grow.refl h).new _,Tl.grow (Nat.le_refl _) hn.symm⟩
theorem c0P_none(cap:Nat)(h:Heap):PCall Tryz.prog 150 [.sc (.slice none 0 cap)] h fun r h'=>r= .sc (.slice none 0 0)∧h'=h:=by
 refine uG0 Tryz.func150 Tryz.ntmps150 Tryz.results150 Ty.hb_150 ?_;repeat'(first|refine a_seq fun K hK=>?_|((first|refine a_regionS ?_|refine a_ret ?_);simp(maxSteps:=2000000) only[Ty.w,simprocAttr,peq_none])|(refine hK _ _ ?_;clear hK;(try simp only[pst0,simprocAttr])))
theorem c0P_some(x:Addr)(cap:Nat)(h:Heap):PCall Tryz.prog 150 [.sc (.slice (some x) 0 cap)] h fun r h'=>r= .own h.next 0 0∧h'=h.new (.arr 2 []):=by
 refine uG0 Tryz.func150 Tryz.ntmps150 Tryz.results150 Ty.hb_150 ?_;repeat'(first|refine a_seq fun K hK=>?_|((first|refine a_regionS ?_|refine a_ret ?_);simp(maxSteps:=2000000) only[Ty.w,simprocAttr,peq_some,view_some,zOk_some])|(refine a_skip ?_;(try simp only[pst0,simprocAttr]))|(refine a_cond _ (by(try simp(maxSteps:=2000000) only[Ty.w,simprocAttr,peq_some,view_some,zOk_some]);rfl) (fun hb=>?_) (fun hb=>?_)<;>(try simp only[hb0,decide_eq_true_eq,decide_eq_false_iff_not,simprocAttr]at hb)<;>(try(exfalso;omega)))|(refine hK _ _ ?_;clear hK;(try simp only[pst0,simprocAttr])))
theorem c1P{R:List (List PV)}{n:Nat}(hR:R.length=n+1)(hn:n≤1048576)(h:Heap):PCall Tryz.prog 150 [.imm 2 R] h fun r h'=>r= .own h.next 0 (n+1)∧h'=h.new (.arr 2 R):=by
 have h0:(0<R.length)=True:=by rw[hR];simp
 have hb:(n+1)*32≤140737488355328:=by omega
 refine uG0 Tryz.func150 Tryz.ntmps150 Tryz.results150 Ty.hb_150 ?_;replace zz:=uu h0 (uu hR (uu hb @Nat.zero_add));repeat'(first|refine a_seq fun K hK=>?_|refine uR zz ?_|refine uT zz ?_|refine uK ?_|refine uC1 zz ?_|(refine uN hK ?_;clear hK)|(rw[if_pos];rotate_left 1;omega;simp(maxSteps:=2000000) only[Ty.w,simprocAttr,h0,hR,hb,Nat.zero_add])|apply zI)
theorem ctP{R:List (List PV)}{q:PV}(hq:Emp3 2 R q)(hl:R.length≤1048576)(h:Heap): ∃ v h1,(PCall Tryz.prog 150 [q] h fun r h'=>r=v∧h'=h1)∧Grow h h1∧Tl h1 h.next 2 v R:=by
 rcases hq with⟨a,cap,rfl,rfl⟩|⟨rfl,hne⟩
 ·cases a with
  |none=>exact⟨_,_,c0P_none cap h,Grow.refl _,Tl.nil⟩
  |some x=>exact⟨_,_,c0P_some x cap h,(Grow.refl h).new _,Tl.grow (Nat.le_refl _) rfl⟩
 ·obtain ⟨n,hn⟩: ∃ n,R.length=n+1:=⟨R.length-1,by have:=List.length_pos_iff.2 hne;omega⟩;exact⟨_,_,c1P hn (by omega) h,(Grow.refl h).new _,Tl.grow (Nat.le_refl _) hn.symm⟩
theorem errP_frz(n:Nat)(H:Heap)(c:Int):FrzTo n H (errP c) (errP c):=by
 unfold errP;cases c==0 with
 |true=>simp only[cond_true,FrzTo]
 |false=>simp only[cond_false,errV,FrzTo]
theorem eff_frz(n:Nat)(H:Heap)(l:List Ch)(c:Int):FrzTo n H (.tup [.imm 15 (chRows l),errP c]) (.tup [.imm 15 (chRows l),errP c]):=by
 have:=errP_frz n H c;simp only[FrzTo,FrzL]at this⊢;exact⟨_,rfl,.inl ⟨rfl,chs_in _ _⟩,this,trivial⟩
theorem Sx.nodes_pos(x:Sx):0<x.nodes:=by cases x;simp only[Sx.nodes];omega
theorem Fm.rows_app(l m:List Fm):Fm.rows (l++m)=Fm.rows l++Fm.rows m:=by simp[Fm.rows_map]
def EffC(x:Sx):Prop:= ∀ (P:List Pm)(W:List Fm),P.length+x.nodes≤1048576→W.length+x.nodes≤1048576→ ∀ h:Heap,
 PCall Tryz.prog 53 [.agg [.imm 2 (pmRows P),.imm 6 (Fm.rows W)],.agg x.cells] h fun r h'=>r= .tup [.imm 15 (chRows (effP x ⟨P,W⟩).1),errP (effP x ⟨P,W⟩).2]∧h'=h
theorem paramsL_len(vars:Bool): ∀ (n:Nat)(l:List Sx),l.length≤n→ ∀ (don:List Pm)(pen:List ByteArray),(paramsL vars l don pen).1.length≤don.length+pen.length+l.length
 |_,[],_,don,pen=>by simp[paramsL,pmsOf]
 |0,_::_,h,_,_=>by simp at h
 |n+1,x::l,h,don,pen=>by
  simp only[List.length_cons]at h;have ih:=paramsL_len vars n;rw[paramsL.eq_def];simp only;cases isWrd x with
  |false=>simp only[cond_false,List.length_nil];omega
  |true=>
   simp only[cond_true];cases bEq (textOf x) opMin with
   |true=>
    simp only[cond_true]
    match l,h with
    |[],_=>simp only[List.length_nil];omega
    |t::l',h=>
     simp only[List.length_cons]at h;simp only;cases !pen.isEmpty&&isWrd t with
     |false=>simp only[cond_false,List.length_nil];omega
     |true=>
      simp only[cond_true];cases typedB (textOf t)with
      |false=>simp only[cond_false,List.length_nil];omega
      |true=>
       have:=ih l' (by omega) (don++pmsOf (textOf t) pen) [];simp only[cond_true,List.length_append,pmsOf,List.length_map,List.length_nil,List.length_cons]at this⊢;omega
   |false=>
    simp only[cond_false];cases(bif vars then varB (textOf x)else nameB (textOf x))with
    |false=>simp only[cond_false,List.length_nil];omega
    |true=>
     have:=ih l (by omega) don (pen++[textOf x]);simp only[cond_true,List.length_append,List.length_nil,List.length_cons]at this⊢;omega
theorem paramsP_len(vars:Bool)(l:List Sx):(paramsP vars l).1.length≤l.length:=by
 have:=paramsL_len vars l.length l (Nat.le_refl _) [] [];unfold paramsP;simpa using this
theorem pms_frz(n:Nat)(h:Heap)(l:List Pm):FrzR n h (pmRows l) (pmRows l):=FrzR_sc _ (pms_scal l)
theorem Sx.len_nodess: ∀ l:List Sx,l.length≤Sx.nodess l
 |[]=>Nat.le_refl _
 |x::l=>by
  have:=Sx.len_nodess l;have:=Sx.nodes_pos x;simp only[Sx.nodess,List.length_cons];omega
def whenP(P:List Pm)(W:List Fm):List Sx→List Ch × Int
 |[f,e]=>bif (parseF f).2==0 then effP e ⟨P,W++[(parseF f).1]⟩else([],(parseF f).2)
 |_=>([],2)
theorem swhen_c{P:List Pm}{W:List Fm}{kind value line col:Int}{text:ByteArray}{y:Sx}{rest:List Sx}(hE: ∀ e∈rest,EffC e)
  (hok: ∀ z∈rest,z.ok)(hp:P.length+Sx.nodess rest≤1048576)(hwl:W.length+Sx.nodess rest≤1048576)(h:Heap):
  PCall Tryz.prog 111 [.agg [.imm 2 (pmRows P),.imm 6 (Fm.rows W)],.agg [.sc (.int .i64 kind),.sc (.int .i64 value),.sc (.int .i64 line),.sc (.int .i64 col),sPV text,.imm 6 (Sx.rows (y::rest))]] h fun r h'=>
   r= .tup [.imm 15 (chRows (whenP P W rest).1),errP (whenP P W rest).2]∧h'=h:=by
 refine PCall.frz Ty.hb_111 ?_;have hlen:=Sx.rows_len (y::rest);generalize hF:whenP P W rest=F;have main: ∀ q,Emp3 6 (Fm.rows W) q→PCall Tryz.prog 111 [.agg [.imm 2 (pmRows P),q],.agg [.sc (.int .i64 kind),.sc (.int .i64 value),.sc (.int .i64 line),.sc (.int .i64 col),sPV text,.imm 6 (Sx.rows (y::rest))]] h fun r h'=>FrzTo h.next h' (.tup [.imm 15 (chRows F.1),errP F.2]) r∧Grow h h':=by
  intro q hq;obtain⟨q1,q2⟩:=hq.pc;cases q3:(((Sx.rows (y::rest)).length:Int) !=3)with
  |true=>
   have e:F=([],2):=by
    rw[← hF]
    match rest,q3,hlen with
    |[],_,_=>rfl
    |[_],_,_=>rfl
    |[_,_],q,hlen=>rw[hlen]at q;simp at q
    |_::_::_::_,_,_=>rfl
   subst e;(try clear zz);clear hE hF;generalize Sx.rows (y::rest)=R at q3⊢;refine uG (ow:=fun t=>t==2) (wf:=fun f=>f==150||f==149) Tryz.func111 Tryz.ntmps111 Tryz.results111 Ty.hb_111 ?_;replace zz:=uu q1 (uu q2 q3);(repeat'(first|refine a_seq fun K hK=>?_|refine uR zz ?_|refine uT zz ?_|(refine uN hK ?_;clear hK)|apply zI));exact⟨efBad_frz (c:=2) rfl,(Grow.refl h).new _⟩
  |false=>
   obtain⟨f,e,rfl⟩: ∃ a e,rest=[a,e]:=by
    match rest,q3,hlen with
    |[],q,hlen=>rw[hlen]at q;simp at q
    |[_],q,hlen=>rw[hlen]at q;simp at q
    |[a,e],_,_=>exact⟨a,e,rfl⟩
    |_::_::_::l,q,hlen=>rw[hlen]at q;simp at q;omega
   have cf:=fun h:Heap=>Parse_c (x:=f) (hok f (by simp)) h;have hEe:=hE e (by simp);simp only[Sx.nodess,Nat.add_zero]at hp hwl;have hfn:=Sx.nodes_pos f;have r1:=Sx.rows_get (l:=[y,f,e]) (i:=1) rfl;have r2:=Sx.rows_get (l:=[y,f,e]) (i:=2) rfl;have d1:((1:Int)<((Sx.rows [y,f,e]).length:Int))=True:=eq_true (by rw[hlen];simp);have d2:((2:Int)<((Sx.rows [y,f,e]).length:Int))=True:=eq_true (by rw[hlen];simp);simp only[whenP]at hF;generalize Sx.rows [y,f,e]=R at q3 r1 r2 d1 d2⊢;generalize parseF f=E at cf hF;obtain⟨ev,ec⟩:=E;simp only at hF cf;have hwl2:=Fm.rows_len W;have hEe:=hEe P (W++[ev]) (by omega) (by simp only[List.length_append,List.length_cons,List.length_nil];omega);obtain⟨fk,fv,fl,fc,ft,fs⟩:=f;simp only[Sx.cells]at r1 cf;cases z1:(ec==0)with
   |false=>
    rw[z1,cond_false]at hF;subst hF;rw[errP_ne z1]at cf;(try clear zz);clear hE hEe;obtain⟨gop,gna,gar,gpa,gex,gki⟩:=ev;simp only[errV,Fm.cells]at cf;refine uG (ow:=fun t=>t==2) (wf:=fun f=>f==150||f==149) Tryz.func111 Tryz.ntmps111 Tryz.results111 Ty.hb_111 ?_;replace zz:=uu q1 (uu q2 (uu q3 (uu r1 d1)));(repeat'(first|refine a_seq fun K hK=>?_|refine uR zz ?_|refine uK ?_|refine uC1 zz ?_|(refine uN hK ?_;clear hK)|apply zI));refine uU (uu r1 d1) (cf _) ?_;(repeat'(first|refine a_seq fun K hK=>?_|refine uR @nsucc ?_|refine uT @nsucc ?_|(refine uN hK ?_;clear hK)|apply zI));exact⟨efBad_frz z1,(((Grow.refl h).new _).new _).set (by omega) _⟩
   |true=>
    rw[z1,cond_true]at hF;rw[errP_z z1]at cf;(try clear zz);clear hE;have hap:Fm.rows (W++[ev])=Fm.rows W++[ev.cells]:=(by rw[Fm.rows_app];try rfl);obtain⟨gop,gna,gar,gpa,gex,gki⟩:=ev;simp only[Fm.cells]at cf hap;refine uG (ow:=fun t=>t==2) (wf:=fun f=>f==150||f==149) Tryz.func111 Tryz.ntmps111 Tryz.results111 Ty.hb_111 ?_;replace zz:=uu q1 (uu q2 (uu q3 (uu r1 d1)));(repeat'(first|refine a_seq fun K hK=>?_|refine uR zz ?_|refine uK ?_|refine uC1 zz ?_|(refine uN hK ?_;clear hK)|apply zI));refine uU (uu r1 d1) (cf _) ?_;(repeat'(first|with_reducible refine a_holdB 6 ?_|refine a_seq fun K hK=>?_|refine uR @nsucc ?_|refine uK ?_|refine uC1 @nsucc ?_|(refine uN hK ?_;clear hK)|apply zI));refine⟨?_⟩;refine a_genX (fun S H=>S 2= .ptr h.next 0 0∧S 3= .cptr [.sc (.int .i64 kind),.sc (.int .i64 value),.sc (.int .i64 line),.sc (.int .i64 col),sPV text,.imm 6 R]∧S 6= .ptr (h.next+1) 0 0∧Grow h H∧H.next=h.next+2∧H.obj h.next=some (.arr 2 [[.imm 2 (pmRows P),q]])∧H.obj (h.next+1)=some (.arr 6 [[sPV gop,sPV gna,.imm 1 (strRows gar),.imm 2 (pmRows gpa),.imm 5 (Ex.rows gex),.imm 6 (Fm.rows gki)]])) ⟨by simp only[Ty.w,simprocAttr],by simp only[Ty.w,simprocAttr],by simp only[Ty.w,simprocAttr],(((Grow.refl h).new _).new _).set (by omega) _,rfl,by simp[Heap.new,Heap.set],by simp[Heap.new,Heap.set]⟩ ?_;(try clear zz);clear r1 cf;rintro S H ⟨s2,s3,s6,hg,hnx,o2,o6⟩;obtain⟨v,h1,hc,hgr,htl⟩:=ctF hq (by rw[Fm.rows_len];omega) H;have hle1:=hgr.le;obtain⟨Hk,t1,t2,t3,t4,t5⟩:=htl.tail;have p2:=(hgr.old h.next (by omega)).trans o2;have p6:=(hgr.old (h.next+1) (by omega)).trans o6;replace zz:=uu s2 (uu s3 (uu s6 (uu o2 o6)));(repeat'(first|refine uD zz ?_|apply zI));refine a_dcallW hc (by(try simp only[Ty.w,simprocAttr,s2,s3,s6,o2,o6]);try rfl) (by
     try simp only[Ty.w,simprocAttr,pastC,List.map_cons,List.map_nil,List.forall_mem_cons]
     (repeat' apply And.intro)<;>first
      |trivial
      |exact .inl (by decide+kernel)
      |exact .inr (by simp only[Ty.w,simprocAttr,Ty.all,s2,p2,p6,q1,q2])) ?_
    simp(maxSteps:=2000000) only[Ty.w,simprocAttr,Ty.all,Option.getD_some,s2,s3,s6,o6,p2,p6];have k2:=(t4 h.next (by omega)).trans p2;have n1:(h.next=Hk.next)=False:=eq_false (by omega);replace zz:=uu s2 (uu s3 (uu s6 (uu o6 (uu p2 (uu p6 (uu t1 (uu t2 (uu k2 n1))))))));(repeat'(first|with_reducible refine a_holdB 7 ?_|(rw[if_pos];rotate_left 1;omega;simp(maxSteps:=2000000) only[Ty.w,simprocAttr,s2,s3,s6,o6,p2,p6,t1,t2,k2,n1])|apply zI));refine⟨by
     simp only[List.forall_mem_cons];exact⟨.inr (by simp(maxSteps:=2000000) only[Ty.w,simprocAttr,Ty.all,o6]),fun _ hx=>by cases hx⟩,?_⟩
    replace zz:=uu s2 (uu s3 (uu s6 (uu o6 (uu p2 (uu p6 (uu t1 (uu t2 (uu k2 n1))))))));(repeat'(first|with_reducible refine a_holdB 7 ?_|apply zI));refine⟨by
     simp only[List.forall_mem_cons]
     (repeat' apply And.intro)<;>first|exact .inl (by decide+kernel)|exact(fun _ hx=>by cases hx),?_⟩
    refine⟨by
     simp only[List.forall_mem_cons]
     (repeat' apply And.intro)<;>first|exact .inl (by decide+kernel)|exact(fun _ hx=>by cases hx),?_⟩
    replace zz:=uu s2 (uu s3 (uu s6 (uu o6 (uu p2 (uu p6 (uu t1 (uu t2 (uu k2 n1))))))));(repeat'(first|with_reducible refine a_holdB 7 ?_|refine a_seq fun K hK=>?_|(refine uN hK ?_;clear hK)|apply zI));refine⟨?_⟩;have hlen2:(Fm.rows (W++[Fm.mk gop gna gar gpa gex gki])).length=(Fm.rows W).length+1:=(by rw[hap];simp);have hgk:Grow h Hk:=⟨by omega,fun j hj=>(t4 j (by omega)).trans ((hgr.old j (by omega)).trans (hg.old j hj))⟩;rw[← hap];refine a_genX (fun S H=>S 2= .ptr h.next 0 0∧S 3= .cptr [.sc (.int .i64 kind),.sc (.int .i64 value),.sc (.int .i64 line),.sc (.int .i64 col),sPV text,.imm 6 R]∧Grow h H∧h.next<H.next∧ ∃ j,h.next≤j∧H.obj h.next=some (.arr 2 [[.imm 2 (pmRows P),.own j 0 ((Fm.rows W).length+1)]])∧H.obj j=some (.arr 6 (Fm.rows (W++[Fm.mk gop gna gar gpa gex gki])))) ⟨by simp only[Ty.w,simprocAttr,s2],by simp only[Ty.w,simprocAttr,s3],(hgk.new _).set (by omega) _,by simp only[Heap.new,Heap.set];omega,Hk.next,by omega,by simp only[Heap.new,Heap.set,if_true];rw[t3],by simp only[Heap.new,Heap.set];rw[if_neg (by omega)];simp⟩ ?_;(try clear zz);clear s2 s3 s6 hg hnx o2 o6 hc hgr htl hle1 t1 t2 t3 t4 t5 p2 p6 k2 n1 hgk;rintro S H ⟨s2,s3,hg,hlt,j,hj,o1,o2⟩;refine a_drop h.next [(2,.cptr [.imm 2 (pmRows P),.imm 6 (Fm.rows (W++[Fm.mk gop gna gar gpa gex gki]))])] rfl hg.le ?_ ?_
    ·intro x hx;simp only[List.mem_cons,List.not_mem_nil,or_false]at hx;subst hx;show FrzTo h.next _ _ (S 2)
     rw[s2];simp only[FrzTo,FrzL,and_true];refine .inr ⟨_,0,0,2,_,_,rfl,Nat.le_refl _,o1,rfl,?_⟩;exact⟨.inl ⟨rfl,pms_in _ _⟩,.inr (.inr ⟨j,0,_,_,rfl,hj,o2,by omega,by rw[List.drop_zero,List.take_of_length_le (by omega)];exact fms_frz _ _ _⟩),trivial⟩
    refine a_genX (fun S H=>S 2= .cptr [.imm 2 (pmRows P),.imm 6 (Fm.rows (W++[Fm.mk gop gna gar gpa gex gki]))]∧S 3= .cptr [.sc (.int .i64 kind),.sc (.int .i64 value),.sc (.int .i64 line),.sc (.int .i64 col),sPV text,.imm 6 R]∧Grow h H) ⟨by simp only[frzS,Ty.w,simprocAttr],by simp only[frzS,Ty.w,simprocAttr,s3],below_grow hg⟩ ?_;(try clear zz);clear s2 s3 hg hlt o1 o2 hj S H;rintro S H ⟨s2,s3,hg⟩;generalize Fm.rows (W++[Fm.mk gop gna gar gpa gex gki])=FR at*;rw[hF]at hEe;(try clear zz);clear hF hap hwl2;obtain⟨fl,fe⟩:=F;obtain⟨ek,ev,el,ec2,et,es⟩:=e;simp only[Sx.cells]at r2 hEe;replace zz:=uu s2 (uu s3 (uu r2 d2));(repeat'(first|refine uD zz ?_|apply zI));(first|refine uV zz (hEe _) ?_|refine uA zz (hEe _) ?_);(repeat'(first|refine uT zz ?_|(refine uN hK ?_;clear hK)|apply zI));exact⟨eff_frz _ _ _ _,hg⟩
 cases W with
 |nil=>exact PCall.nilAgg (pre:=[.imm 2 (pmRows P)]) fun a cap=>main _ (.inl ⟨a,cap,rfl,rfl⟩)
 |cons f W=>exact main _ (.inr ⟨rfl,by simp[Fm.rows]⟩)
def allP(P:List Pm)(W:List Fm):List Sx→List Ch × Int
 |[p,e]=>bif kindOf p==3 then(bif (paramsP true (kidsOf p)).2==0 then effP e ⟨P++(paramsP true (kidsOf p)).1,W⟩else([],(paramsP true (kidsOf p)).2))else([],2)
 |_=>([],2)
theorem sforall_c{P:List Pm}{W:List Fm}{kind value line col:Int}{text:ByteArray}{y:Sx}{rest:List Sx}(hE: ∀ e∈rest,EffC e)
  (hok: ∀ z∈rest,z.ok)(hp:P.length+Sx.nodess rest≤1048576)(hwl:W.length+Sx.nodess rest≤1048576)(h:Heap):
  PCall Tryz.prog 112 [.agg [.imm 2 (pmRows P),.imm 6 (Fm.rows W)],.agg [.sc (.int .i64 kind),.sc (.int .i64 value),.sc (.int .i64 line),.sc (.int .i64 col),sPV text,.imm 6 (Sx.rows (y::rest))]] h fun r h'=>
   r= .tup [.imm 15 (chRows (allP P W rest).1),errP (allP P W rest).2]∧h'=h:=by
 refine PCall.frz Ty.hb_112 ?_;have hlen:=Sx.rows_len (y::rest);generalize hF:allP P W rest=F;have main: ∀ q,Emp3 2 (pmRows P) q→PCall Tryz.prog 112 [.agg [q,.imm 6 (Fm.rows W)],.agg [.sc (.int .i64 kind),.sc (.int .i64 value),.sc (.int .i64 line),.sc (.int .i64 col),sPV text,.imm 6 (Sx.rows (y::rest))]] h fun r h'=>FrzTo h.next h' (.tup [.imm 15 (chRows F.1),errP F.2]) r∧Grow h h':=by
  intro q hq;obtain⟨q1,q2⟩:=hq.pc;cases q3:(((Sx.rows (y::rest)).length:Int) !=3)with
  |true=>
   have e:F=([],2):=by
    rw[← hF]
    match rest,q3,hlen with
    |[],_,_=>rfl
    |[_],_,_=>rfl
    |[_,_],q,hlen=>rw[hlen]at q;simp at q
    |_::_::_::_,_,_=>rfl
   subst e;(try clear zz);clear hE hF;generalize Sx.rows (y::rest)=R at q3⊢;refine uG (ow:=fun t=>t==2) (wf:=fun f=>f==150||f==149) Tryz.func112 Tryz.ntmps112 Tryz.results112 Ty.hb_112 ?_;replace zz:=uu q1 (uu q2 q3);(repeat'(first|refine a_seq fun K hK=>?_|refine uR zz ?_|refine uT zz ?_|(refine uN hK ?_;clear hK)|apply zI));exact⟨efBad_frz (c:=2) rfl,(Grow.refl h).new _⟩
  |false=>
   obtain⟨f,e,rfl⟩: ∃ a e,rest=[a,e]:=by
    match rest,q3,hlen with
    |[],q,hlen=>rw[hlen]at q;simp at q
    |[_],q,hlen=>rw[hlen]at q;simp at q
    |[a,e],_,_=>exact⟨a,e,rfl⟩
    |_::_::_::l,q,hlen=>rw[hlen]at q;simp at q;omega
   have hEe:=hE e (by simp);simp only[Sx.nodess,Nat.add_zero]at hp hwl;have r1:=Sx.rows_get (l:=[y,f,e]) (i:=1) rfl;have r2:=Sx.rows_get (l:=[y,f,e]) (i:=2) rfl;have d1:((1:Int)<((Sx.rows [y,f,e]).length:Int))=True:=eq_true (by rw[hlen];simp);have d2:((2:Int)<((Sx.rows [y,f,e]).length:Int))=True:=eq_true (by rw[hlen];simp);simp only[allP]at hF;generalize Sx.rows [y,f,e]=R at q3 r1 r2 d1 d2⊢;have hfo:=hok f (by simp);(try clear zz);clear hok hE;obtain⟨fk,fv,fl,fc,ft,fs⟩:=f;simp only[Sx.ok]at hfo;obtain⟨_,_,_,_,hfo⟩:=hfo;have hfs:=Sx.len_nodess fs;simp only[Sx.nodes]at hp hwl;have cf:=fun h:Heap=>parseParams_c (vars:=true) (l:=fs) (by omega) (Sx.oks_iff.1 hfo) h;have hpl:=paramsP_len true fs;simp only[kindOf,kidsOf]at hF;simp only[Sx.cells]at r1;cases z0:(fk==3)with
   |false=>
    have z0b:(fk !=3)=true:=(by simp[bne,z0]);have z0c:(fk=3)=False:=eq_false (by simpa using z0);rw[z0,cond_false]at hF;subst hF;(try clear zz);clear cf hEe hpl;refine uG (ow:=fun t=>t==2) (wf:=fun f=>f==150||f==149) Tryz.func112 Tryz.ntmps112 Tryz.results112 Ty.hb_112 ?_;replace zz:=uu q1 (uu q2 (uu q3 (uu r1 (uu d1 (uu z0 (uu z0b z0c))))));(repeat'(first|refine a_seq fun K hK=>?_|refine uR zz ?_|refine uT zz ?_|(refine uN hK ?_;clear hK)|apply zI));exact⟨efBad_frz (c:=2) rfl,(Grow.refl h).new _⟩
   |true=>
    have z0b:(fk !=3)=false:=(by simp[bne,z0]);have z0c:(fk=3)=True:=eq_true (by simpa using z0);rw[z0,cond_true]at hF;generalize paramsP true fs=E at cf hF hpl;obtain⟨ev,ec⟩:=E;simp only at hF cf hpl;have hEe:=hEe (P++ev) W (by simp only[List.length_append];omega) (by omega);cases z1:(ec==0)with
    |false=>
     rw[z1,cond_false]at hF;subst hF;rw[errP_ne z1]at cf;(try clear zz);clear hEe;simp only[errV]at cf;refine uG (ow:=fun t=>t==2) (wf:=fun f=>f==150||f==149) Tryz.func112 Tryz.ntmps112 Tryz.results112 Ty.hb_112 ?_;replace zz:=uu q1 (uu q2 (uu q3 (uu r1 (uu d1 (uu z0 (uu z0b z0c))))));(repeat'(first|refine a_seq fun K hK=>?_|refine uR zz ?_|refine uK ?_|refine uC1 zz ?_|(refine uN hK ?_;clear hK)|apply zI));refine uU (uu r1 d1) (cf _) ?_;(repeat'(first|refine a_seq fun K hK=>?_|refine uR @nsucc ?_|refine uT @nsucc ?_|(refine uN hK ?_;clear hK)|apply zI));exact⟨efBad_frz z1,(Grow.refl h).new _⟩
    |true=>
     rw[z1,cond_true]at hF;rw[errP_z z1]at cf;have hap:pmRows (P++ev)=pmRows P++pmRows ev:=(by simp[pmRows]);have hlp:(pmRows P).length=P.length:=(by simp[pmRows]);have hle:(pmRows ev).length=ev.length:=(by simp[pmRows]);refine uG (ow:=fun t=>t==2) (wf:=fun f=>f==150||f==149) Tryz.func112 Tryz.ntmps112 Tryz.results112 Ty.hb_112 ?_;replace zz:=uu q1 (uu q2 (uu q3 (uu r1 (uu d1 (uu z0 (uu z0b z0c))))));(repeat'(first|refine a_seq fun K hK=>?_|refine uR zz ?_|refine uK ?_|refine uC1 zz ?_|(refine uN hK ?_;clear hK)|apply zI));refine uU (uu r1 d1) (cf _) ?_;(repeat'(first|with_reducible refine a_holdB 6 ?_|refine a_seq fun K hK=>?_|refine uR @nsucc ?_|refine uK ?_|refine uC1 @nsucc ?_|(refine uN hK ?_;clear hK)|apply zI));refine⟨?_⟩;refine a_genX (fun S H=>S 2= .ptr h.next 0 0∧S 3= .cptr [.sc (.int .i64 kind),.sc (.int .i64 value),.sc (.int .i64 line),.sc (.int .i64 col),sPV text,.imm 6 R]∧S 6= .imm 2 (pmRows ev)∧Grow h H∧h.next<H.next∧H.obj h.next=some (.arr 2 [[q,.imm 6 (Fm.rows W)]])) ⟨by simp only[Ty.w,simprocAttr],by simp only[Ty.w,simprocAttr],by simp only[Ty.w,simprocAttr],(Grow.refl h).new _,by simp[Heap.new],by simp[Heap.new]⟩ ?_;(try clear zz);clear r1 cf;rintro S H ⟨s2,s3,s6,hg,hnx,o2⟩;obtain⟨v,h1,hc,hgr,htl⟩:=ctP hq (by omega) H;have hle1:=hgr.le;obtain⟨Hk,t1,t2,t3,t4,t5⟩:=htl.tail;have p2:=(hgr.old h.next (by omega)).trans o2;have k2:=(t4 h.next (by omega)).trans p2;have n1:(h.next=Hk.next)=False:=eq_false (by omega);have hb:((pmRows P).length+(pmRows ev).length)*32≤140737488355328:=(by omega);replace zz:=uu s2 (uu s3 (uu s6 o2));(repeat'(first|refine uR zz ?_|apply zI));refine owp_useH (hc) (by(try simp only[Ty.w,simprocAttr,s2,s3,s6,o2]);try rfl) ?_;simp(maxSteps:=2000000) only[Ty.w,simprocAttr,s2,s3,s6,o2];replace zz:=uu s2 (uu s3 (uu s6 (uu p2 (uu t1 (uu t2 (uu k2 (uu n1 hb)))))));(repeat'(first|with_reducible refine a_holdB 7 ?_|refine a_seq fun K hK=>?_|(refine uN hK ?_;clear hK)|(rw[if_pos];rotate_left 1;omega;simp(maxSteps:=2000000) only[Ty.w,simprocAttr,s2,s3,s6,p2,t1,t2,k2,n1,hb])|apply zI));refine⟨?_⟩;have hlen2:(pmRows (P++ev)).length=(pmRows P).length+(pmRows ev).length:=(by rw[hap];simp);have hgk:Grow h Hk:=⟨by omega,fun j hj=>(t4 j (by omega)).trans ((hgr.old j (by omega)).trans (hg.old j hj))⟩;rw[← hap];refine a_genX (fun S H=>S 2= .ptr h.next 0 0∧S 3= .cptr [.sc (.int .i64 kind),.sc (.int .i64 value),.sc (.int .i64 line),.sc (.int .i64 col),sPV text,.imm 6 R]∧Grow h H∧h.next<H.next∧ ∃ j,h.next≤j∧H.obj h.next=some (.arr 2 [[.own j 0 ((pmRows P).length+(pmRows ev).length),.imm 6 (Fm.rows W)]])∧H.obj j=some (.arr 2 (pmRows (P++ev)))) ⟨by simp only[Ty.w,simprocAttr,s2],by simp only[Ty.w,simprocAttr,s3],(hgk.new _).set (by omega) _,by simp only[Heap.new,Heap.set];omega,Hk.next,by omega,by simp only[Heap.new,Heap.set,if_true];rw[t3],by simp only[Heap.new,Heap.set];rw[if_neg (by omega)];simp⟩ ?_;(try clear zz);clear s2 s3 s6 hg hnx o2 hc hgr htl hle1 t1 t2 t3 t4 t5 p2 k2 n1 hgk hb;rintro S H ⟨s2,s3,hg,hlt,j,hj,o1,o2⟩;refine a_drop h.next [(2,.cptr [.imm 2 (pmRows (P++ev)),.imm 6 (Fm.rows W)])] rfl hg.le ?_ ?_
     ·intro x hx;simp only[List.mem_cons,List.not_mem_nil,or_false]at hx;subst hx;show FrzTo h.next _ _ (S 2)
      rw[s2];simp only[FrzTo,FrzL,and_true];refine .inr ⟨_,0,0,2,_,_,rfl,Nat.le_refl _,o1,rfl,?_⟩;exact⟨.inr (.inr ⟨j,0,_,_,rfl,hj,o2,by omega,by rw[List.drop_zero,List.take_of_length_le (by omega)];exact pms_frz _ _ _⟩),.inl ⟨rfl,fms_in _ _⟩,trivial⟩
     refine a_genX (fun S H=>S 2= .cptr [.imm 2 (pmRows (P++ev)),.imm 6 (Fm.rows W)]∧S 3= .cptr [.sc (.int .i64 kind),.sc (.int .i64 value),.sc (.int .i64 line),.sc (.int .i64 col),sPV text,.imm 6 R]∧Grow h H) ⟨by simp only[frzS,Ty.w,simprocAttr],by simp only[frzS,Ty.w,simprocAttr,s3],below_grow hg⟩ ?_;(try clear zz);clear s2 s3 hg hlt o1 o2 hj S H;rintro S H ⟨s2,s3,hg⟩;generalize pmRows (P++ev)=FR at*;rw[hF]at hEe;(try clear zz);clear hF hap hlen2;obtain⟨fl,fe⟩:=F;obtain⟨ek,ev2,el,ec2,et,es⟩:=e;simp only[Sx.cells]at r2 hEe;replace zz:=uu s2 (uu s3 (uu r2 d2));(repeat'(first|refine uD zz ?_|apply zI));(first|refine uV zz (hEe _) ?_|refine uA zz (hEe _) ?_);(repeat'(first|refine uT zz ?_|(refine uN hK ?_;clear hK)|apply zI));exact⟨eff_frz _ _ _ _,hg⟩
 cases P with
 |nil=>exact PCall.nilAgg (pre:=[]) fun a cap=>main _ (.inl ⟨a,cap,rfl,rfl⟩)
 |cons f P=>exact main _ (.inr ⟨rfl,by simp[pmRows]⟩)
theorem kindW_cases(w:ByteArray):kindW w=0∨kindW w=3∨kindW w=4∨kindW w=5:=by
 unfold kindW;cases bEq w opAsg<;>cases bEq w opInc<;>cases bEq w opDec<;>simp
theorem chgZ_c{P:List Pm}{W:List Fm}{k:Int}{n:ByteArray}{a:List ByteArray}(hp:P.length≤1048576)(hwl:W.length≤1048576)(h:Heap):
  PCall Tryz.prog 114 [.agg [.imm 2 (pmRows P),.imm 6 (Fm.rows W)],.sc (.int .i64 k),sPV n,.imm 1 (strRows a),.agg [.sc (.string ⟨#[]⟩),.sc (.string ⟨#[]⟩),.sc (.int .i64 0),.sc (.slice none 0 0),.sc (.slice none 0 0)]] h fun r h'=>r= .agg (chRow (chgS ⟨P,W⟩ k n a zeroEx))∧h'=h:=
 PCall.nz (schange_c (v:=zeroEx) (by omega) (by omega) h) (nz_cons (Nz.refl _) (nz_cons (Nz.refl _) (nz_cons (Nz.refl _) (nz_cons (Nz.refl _) (nz_cons (nz_agg (nz_cons (Nz.refl _) (nz_cons (Nz.refl _) (nz_cons (Nz.refl _) (nz_cons nz_nil (nz_cons nz_nil (NzL.refl _))))))) (NzL.refl _))))))
theorem Sx.nodes_le{x:Sx}: ∀ {l:List Sx},x∈l→x.nodes≤Sx.nodess l
 |y::l,h=>by
  simp only[Sx.nodess];rcases List.mem_cons.1 h with rfl|h
  ·omega
  ·have:=Sx.nodes_le h;omega
theorem numP_len(S:Sco)(k:Int): ∀ l:List Sx,(numP S k l).1.length≤1
 |[]=>by simp[numP]
 |[_]=>by simp[numP]
 |[a,e]=>by
  simp only[numP];cases(dAtomP a).2.2==0<;>cases(parseE e).2==0<;>simp
 |_::_::_::_=>by simp[numP]
theorem effsP_norm(S:Sco): ∀ l:List Sx,effsP l S=(match effsP l S with|(b,c)=>bif c==0 then([]++b,0)else([],c))
 |[]=>by rw[effsP];try rfl
 |x::l=>by
  rw[effsP.eq_def];simp only;generalize effP x S=A;obtain⟨a,c⟩:=A;simp only;cases z:c==0 with
  |false=>simp only[cond_false,z]
  |true=>
   simp only[cond_true];generalize effsP l S=B;obtain⟨b,c'⟩:=B;simp only;cases z':c'==0 with
   |false=>simp only[cond_false,z']
   |true=>simp only[cond_true,beq_self_eq_true,List.nil_append]
theorem oneP_len(S:Sco)(k:Int)(a:Sx):(oneP S k a).1.length≤1:=by
 unfold oneP;cases(dAtomP a).2.2==0<;>simp
theorem effsP_len{S:Sco}: ∀ l:List Sx,(∀ x∈l,(effP x S).1.length≤x.nodes)→(effsP l S).1.length≤Sx.nodess l
 |[],_=>by rw[effsP];simp[Sx.nodess]
 |x::l,hx=>by
  have ih:=effsP_len l (fun y hy=>hx y (by simp[hy]));have h1:=hx x (by simp);rw[effsP.eq_def];simp only[Sx.nodess];generalize effP x S=A at*;obtain⟨a,c⟩:=A;simp only at h1⊢;cases c==0 with
  |false=>simp
  |true=>
   simp only[cond_true];generalize effsP l S=B at*;obtain⟨b,c'⟩:=B;simp only at ih⊢;cases c'==0 with
   |false=>simp
   |true=>simp only[cond_true,List.length_append];omega
theorem effP_len: ∀ (n:Nat)(x:Sx),x.nodes≤n→ ∀ S:Sco,(effP x S).1.length≤x.nodes
 |0,x,h,_=>by have:=Sx.nodes_pos x;omega
 |n+1,.mk kind v l c t kids,h,S=>by
  have ih:=effP_len n;simp only[Sx.nodes]at h⊢;rw[effP.eq_def];simp only;cases kind==3 with
  |false=>simp
  |true=>
   simp only[cond_true];cases kids with
   |nil=>simp
   |cons x rest=>
    have hx:=Sx.nodes_pos x;simp only[Sx.nodess]at h⊢;cases kindOf x==1 with
    |false=>simp
    |true=>
     simp only[cond_true];cases !(kindW (textOf x)==0)with
     |true=>have:=numP_len S (kindW (textOf x)) rest;simp only[cond_true];omega
     |false=>
      simp only[cond_false];cases bEq (textOf x) opWhen with
      |true=>
       simp only[cond_true]
       match rest,h with
       |[],_=>simp
       |[_],_=>simp
       |[f,e],h=>
        simp only[Sx.nodess]at h⊢;cases(parseF f).2==0 with
        |false=>simp
        |true=>have:=ih e (by omega) ⟨S.params,S.whens++[(parseF f).1]⟩;simp only[cond_true];omega
       |_::_::_::_,_=>simp
      |false=>
       simp only[cond_false];cases bEq (textOf x) opAll with
       |true=>
        simp only[cond_true]
        match rest,h with
        |[],_=>simp
        |[_],_=>simp
        |[p,e],h=>
         simp only[Sx.nodess]at h⊢;cases kindOf p==3 with
         |false=>simp
         |true=>
          simp only[cond_true];cases(paramsP true (kidsOf p)).2==0 with
          |false=>simp
          |true=>have:=ih e (by omega) ⟨S.params++(paramsP true (kidsOf p)).1,S.whens⟩;simp only[cond_true];omega
        |_::_::_::_,_=>simp
       |false=>
        simp only[cond_false];cases bEq (textOf x) opAnd with
        |true=>
         have:=effsP_len (S:=S) rest (fun y hy=>ih y (by have:=Sx.nodes_le hy;omega) S);simp only[cond_true];omega
        |false=>
         simp only[cond_false];cases bEq (textOf x) opNot with
         |true=>
          simp only[cond_true]
          match rest with
          |[]=>simp
          |[a]=>have:=oneP_len S 2 a;simp only;omega
          |_::_::_=>simp
         |false=>
          have:=oneP_len S 1 (.mk kind v l c t (x::rest));simp only[cond_false];omega
theorem effect_step{kind value line col:Int}{text:ByteArray}{kids:List Sx}(hE: ∀ e∈kids,EffC e)
  (hok:(Sx.mk kind value line col text kids).ok)(hsm:(Sx.mk kind value line col text kids).small):EffC (.mk kind value line col text kids):=by
 intro P W hp hwl h;refine PCall.frz Ty.hb_53 ?_;have hbg:=dbegins_c hok;have hda:=fun h:Heap=>datom_c hok hsm h;have hks: ∀ z∈kids,z.ok:=by simp only[Sx.ok]at hok;exact Sx.oks_iff.1 hok.2.2.2.2
 have hkm: ∀ z∈kids,z.small:=by simp only[Sx.small]at hsm;exact Sx.smalls_iff.1 hsm.2
 generalize hF:effP (.mk kind value line col text kids) ⟨P,W⟩=F;rw[effP.eq_def]at hF;simp only at hF;simp only[Sx.nodes]at hp hwl;have hlen:=Sx.rows_len kids;cases q:kind==3 with
 |false=>
  rw[q,cond_false]at hF;subst hF;have hn:headM (.mk kind value line col text kids)=none:=by simp only[headM];rw[if_neg (by simpa using q)]
  rw[hn]at hbg;try clear zz
  clear hE hda hok hsm hn;simp only[Sx.cells,Option.isSome_none]at hbg⊢;refine uG0 Tryz.func53 Tryz.ntmps53 Tryz.results53 Ty.hb_53 ?_;repeat'(first|refine a_seq fun K hK=>?_|refine uR q ?_|refine uK ?_|refine uC1 q ?_|(refine uN hK ?_;clear hK)|apply zI)
  refine uU trivial (hbg _) ?_;repeat'(first|refine a_seq fun K hK=>?_|refine uR @Bool.not_false ?_|refine uT @Bool.not_false ?_|(refine uN hK ?_;clear hK)|apply zI)
  exact⟨efBad_frz (c:=2) rfl,Grow.refl _⟩
 |true=>
  rw[q,cond_true]at hF;cases kids with
  |nil=>
   simp only at hF;subst hF;(try clear zz);clear hE hda hbg hok hsm;simp only[Sx.cells,Sx.rows];refine uG0 Tryz.func53 Tryz.ntmps53 Tryz.results53 Ty.hb_53 ?_;(repeat'(first|refine a_seq fun K hK=>?_|refine uR q ?_|refine uT q ?_|(refine uN hK ?_;clear hK)|apply zI));refine⟨?_,Grow.refl _⟩;simp only[FrzTo,FrzL,errP,beq_self_eq_true,cond_true,chRows,List.map_nil];exact⟨_,rfl,.inr (.inl ⟨rfl,.inr rfl⟩),rfl,trivial⟩
  |cons x rest=>
   simp only at hF;have q5:(((Sx.rows (x::rest)).length:Int)==0)=false:=(by rw[hlen];simp;omega);have q0:((0:Int)<((Sx.rows (x::rest)).length:Int))=True:=eq_true (by rw[hlen];simp<;>omega);cases q1:kindOf x==1 with
   |false=>
    rw[q1,cond_false]at hF;subst hF;have hn:headM (.mk kind value line col text (x::rest))=none:=(by simp only[headM];rw[if_pos (by simpa using q),q1];try rfl);rw[hn]at hbg;(try clear zz);clear hE hda hok hsm hn;simp only[Sx.cells,Option.isSome_none]at hbg⊢;generalize Sx.rows (x::rest)=R at*;refine uG0 Tryz.func53 Tryz.ntmps53 Tryz.results53 Ty.hb_53 ?_;replace zz:=uu q q5;(repeat'(first|refine a_seq fun K hK=>?_|refine uR zz ?_|refine uK ?_|refine uC1 zz ?_|(refine uN hK ?_;clear hK)|apply zI));refine uU trivial (hbg _) ?_;(repeat'(first|refine a_seq fun K hK=>?_|refine uR @Bool.not_false ?_|refine uT @Bool.not_false ?_|(refine uN hK ?_;clear hK)|apply zI));exact⟨efBad_frz (c:=2) rfl,Grow.refl _⟩
   |true=>
    rw[q1,cond_true]at hF;have hn:headM (.mk kind value line col text (x::rest))=some (textOf x,rest):=(by simp only[headM];rw[if_pos (by simpa using q),q1];try rfl);rw[hn]at hbg;(try clear zz);clear hn;have r0:=Sx.rows_get (l:=x::rest) (i:=0) rfl;have hnl:=Sx.len_nodess rest;have hxn:=Sx.nodes_pos x;simp only[Sx.nodess]at hp hwl;have hnum:=fun(k:Int)(h:Heap)=>snumeric_c (P:=P) (W:=W) (k:=k) (kind:=kind) (value:=value) (line:=line) (col:=col) (text:=text) (y:=x) (rest:=rest) (by omega) (by omega) (fun z hz=>hks z (by simp[hz])) (fun z hz=>hkm z (by simp[hz])) (by omega) h;have hwh:=fun h:Heap=>swhen_c (P:=P) (W:=W) (kind:=kind) (value:=value) (line:=line) (col:=col) (text:=text) (y:=x) (rest:=rest) (fun z hz=>hE z (by simp[hz])) (fun z hz=>hks z (by simp[hz])) (by omega) (by omega) h;have hfa:=fun h:Heap=>sforall_c (P:=P) (W:=W) (kind:=kind) (value:=value) (line:=line) (col:=col) (text:=text) (y:=x) (rest:=rest) (fun z hz=>hE z (by simp[hz])) (fun z hz=>hks z (by simp[hz])) (by omega) (by omega) h;have hcz:=fun(k:Int)(n:ByteArray)(a:List ByteArray)(h:Heap)=>chgZ_c (P:=P) (W:=W) (k:=k) (n:=n) (a:=a) (by omega) (by omega) h;simp only[Sx.cells,Option.isSome_some]at hbg hda⊢;have hkc:=fun h:Heap=>dkinds_c (w:=textOf x) h;obtain⟨xk,xv,xl,xc,xt,xs⟩:=x;simp only[textOf,kindOf]at hF q1 hkc;simp only[Sx.cells]at r0;generalize hR:Sx.rows (.mk xk xv xl xc xt xs::rest)=R at*;have q1b:(1:Int)≤(R.length:Int):=(by rw[hlen];simp<;>omega);have ht:List.take ((R.length:Int)-1).toNat (List.drop 1 R)=Sx.rows rest:=by
     rw[← hR];simp only[Sx.rows,List.drop_succ_cons,List.drop_zero,List.length_cons];rw[List.take_of_length_le (by omega)]
    have hll:=Sx.rows_len rest;cases k0:kindW xt==0 with
    |false=>
     rw[k0,Bool.not_false,cond_true]at hF;have e0:decide (0<kindW xt)=true:=by
      rcases kindW_cases xt with h|h|h|h<;>simp[h]at k0⊢
     have hn2:=hnum (kindW xt);rw[hF]at hn2;generalize kindW xt=kw at*;(try clear zz);clear hE hok hsm hda hnum hwh hfa hcz hF hks hkm hR;obtain⟨fl,fe⟩:=F;refine uG0 Tryz.func53 Tryz.ntmps53 Tryz.results53 Ty.hb_53 ?_;replace zz:=uu q q5;(repeat'(first|refine a_seq fun K hK=>?_|refine uR zz ?_|refine uK ?_|refine uC1 zz ?_|(refine uN hK ?_;clear hK)|apply zI));refine uU trivial (hbg _) ?_;replace zz:=uu @Bool.not_true (uu @Bool.not_false (uu r0 q0));(repeat'(first|refine a_seq fun K hK=>?_|refine uR zz ?_|refine uK ?_|refine uC1 zz ?_|(refine uN hK ?_;clear hK)|apply zI));refine uU (uu r0 q0) (hkc _) ?_;(repeat'(first|refine a_seq fun K hK=>?_|refine uR e0 ?_|(refine uN hK ?_;clear hK)|apply zI));refine uU trivial (hn2 _) ?_;(repeat'(first|refine uT trivial ?_|(refine uN hK ?_;clear hK)|apply zI));exact⟨eff_frz _ _ _ _,Grow.refl _⟩
    |true=>
     rw[k0,Bool.not_true,cond_false]at hF;have kz:kindW xt=0:=(by simpa using k0);have e0:decide ((0:Int)<0)=false:=rfl;rw[kz]at hkc;(try clear zz);clear hnum kz k0;cases e1:bEq xt opWhen with
     |true=>
      rw[e1,cond_true]at hF;have e1:(xt.data.toList==[119,104,101,110])=true:=e1;change whenP P W rest=F at hF;rw[hF]at hwh;(try clear zz);clear hE hok hsm hda hfa hcz hF hks hkm hR;obtain⟨fl,fe⟩:=F;refine uG0 Tryz.func53 Tryz.ntmps53 Tryz.results53 Ty.hb_53 ?_;replace zz:=uu q q5;(repeat'(first|refine a_seq fun K hK=>?_|refine uR zz ?_|refine uK ?_|refine uC1 zz ?_|(refine uN hK ?_;clear hK)|apply zI));refine uU trivial (hbg _) ?_;replace zz:=uu @Bool.not_true (uu @Bool.not_false (uu r0 q0));(repeat'(first|refine a_seq fun K hK=>?_|refine uR zz ?_|refine uK ?_|refine uC1 zz ?_|(refine uN hK ?_;clear hK)|apply zI));refine uU (uu r0 q0) (hkc _) ?_;(repeat'(first|refine a_seq fun K hK=>?_|refine uR (uu e0 e1) ?_|(refine uN hK ?_;clear hK)|apply zI));refine uU trivial (hwh _) ?_;(repeat'(first|refine uT trivial ?_|(refine uN hK ?_;clear hK)|apply zI));exact⟨eff_frz _ _ _ _,Grow.refl _⟩
     |false=>
      rw[e1,cond_false]at hF;have e1:(xt.data.toList==[119,104,101,110])=false:=e1;(try clear zz);clear hwh;cases e2:bEq xt opAll with
      |true=>
       rw[e2,cond_true]at hF;have e2:(xt.data.toList==[102,111,114,97,108,108])=true:=e2;change allP P W rest=F at hF;rw[hF]at hfa;(try clear zz);clear hE hok hsm hda hcz hF hks hkm hR;obtain⟨fl,fe⟩:=F;refine uG0 Tryz.func53 Tryz.ntmps53 Tryz.results53 Ty.hb_53 ?_;replace zz:=uu q q5;(repeat'(first|refine a_seq fun K hK=>?_|refine uR zz ?_|refine uK ?_|refine uC1 zz ?_|(refine uN hK ?_;clear hK)|apply zI));refine uU trivial (hbg _) ?_;replace zz:=uu @Bool.not_true (uu @Bool.not_false (uu r0 q0));(repeat'(first|refine a_seq fun K hK=>?_|refine uR zz ?_|refine uK ?_|refine uC1 zz ?_|(refine uN hK ?_;clear hK)|apply zI));refine uU (uu r0 q0) (hkc _) ?_;(repeat'(first|refine a_seq fun K hK=>?_|refine uR (uu e0 (uu e1 e2)) ?_|(refine uN hK ?_;clear hK)|apply zI));refine uU trivial (hfa _) ?_;(repeat'(first|refine uT trivial ?_|(refine uN hK ?_;clear hK)|apply zI));exact⟨eff_frz _ _ _ _,Grow.refl _⟩
      |false=>
       rw[e2,cond_false]at hF;have e2:(xt.data.toList==[102,111,114,97,108,108])=false:=e2;(try clear zz);clear hfa;cases e3:bEq xt opAnd with
       |true=>
        rw[e3,cond_true]at hF;have e3:(xt.data.toList==[97,110,100])=true:=e3;refine uG0 Tryz.func53 Tryz.ntmps53 Tryz.results53 Ty.hb_53 ?_;replace zz:=uu q q5;(repeat'(first|refine a_seq fun K hK=>?_|refine uR zz ?_|refine uK ?_|refine uC1 zz ?_|(refine uN hK ?_;clear hK)|apply zI));refine uU trivial (hbg _) ?_;replace zz:=uu @Bool.not_true (uu @Bool.not_false (uu r0 q0));(repeat'(first|refine a_seq fun K hK=>?_|refine uR zz ?_|refine uK ?_|refine uC1 zz ?_|(refine uN hK ?_;clear hK)|apply zI));refine uU (uu r0 q0) (hkc _) ?_;replace zz:=uu e0 (uu e1 (uu e2 (uu e3 (uu q1b (uu ht (uu hll (uu @Int.le_refl @Int.toNat_one)))))));(repeat'(first|refine a_seq fun K hK=>?_|refine a_block ?_|refine uR zz ?_|(refine uN hK ?_;clear hK)|apply zI));(try clear zz);clear hok hsm hks hkm hda hcz hbg hkc;refine a_loop (fun m S h'=>S 2= .cptr [.imm 2 (pmRows P),.imm 6 (Fm.rows W)]∧S 69= .imm 6 (Sx.rows rest)∧S 70= .sc (.int .i64 rest.length)∧ ∃ (k:Nat)(p:PV)(pre:List Ch),S 71= .sc (.int .i64 k)∧S 8=p∧k≤rest.length∧m=rest.length-k∧Grow h h'∧Tl h' h.next 15 p (chRows pre)∧pre.length+Sx.nodess (rest.drop k)≤Sx.nodess rest∧
         F=(match effsP (rest.drop k) ⟨P,W⟩with|(b,c)=>bif c==0 then(pre++b,0)else([],c))) rest.length ?_ ?_
        ·simp only[Ty.w,simprocAttr];refine⟨0,_,[],rfl,rfl,by omega,rfl,Grow.refl _,Tl.nil,by simp,?_⟩;rw[List.drop_zero, ← hF];exact effsP_norm _ _
        ·(try clear zz);clear hF;rintro m S h' ⟨g2,g69,g70,k,p,pre,g71,g8,hk,rfl,hg,tl,hpl,hinv⟩;by_cases hlt:k<rest.length
         ·have hd:decide ((k:Int)<(rest.length:Int))=true:=(by simp;omega);have w7:IntKind.i64.wrap ((k:Int)+1)=k+1:=(by rw[wrap64 (by omega) (by omega)]);obtain⟨x,hx⟩: ∃ x,rest[k]? =some x:=⟨_,List.getElem?_eq_getElem hlt⟩;have hr:=Sx.rows_get hx;have hxm:=List.mem_of_getElem? hx;have hxe:=hE x (by simp[hxm]);have hxl:=Sx.nodes_le hxm;have hxn:=effP_len _ x (Nat.le_refl _) ⟨P,W⟩;have hce:=hxe P W (by omega) (by omega);rw[drop_of_get hx]at hinv hpl;simp only[Sx.nodess]at hpl;rw[effsP.eq_def]at hinv;simp only at hinv;generalize effP x ⟨P,W⟩=A at*;obtain⟨a,c⟩:=A;simp only at hinv hce hxn;have hxok:=hce;(try clear zz);clear hE hxe hxm hxl;obtain⟨yk,yv,yl,yc,yt,ys⟩:=x;simp only[Sx.cells]at hce hr;cases z1:(c==0)with
          |false=>
           simp only[z1,cond_false]at hinv;subst hinv;rw[errP_ne z1]at hce;simp only[errV]at hce;replace zz:=uu g2 (uu g69 (uu g70 (uu g71 (uu g8 (uu hd hr)))));(repeat'(first|refine a_seq fun K hK=>?_|refine uR zz ?_|refine uK ?_|refine uC1 zz ?_|(refine uN hK ?_;clear hK)|apply zI));replace zz:=uu g2 (uu g69 (uu g70 (uu g71 (uu g8 hr))));refine uU zz (hce _) ?_;replace zz:=uu g2 (uu g69 (uu g70 (uu g71 (uu g8 @nsucc))));(repeat'(first|refine a_seq fun K hK=>?_|refine uR zz ?_|refine uT zz ?_|(refine uN hK ?_;clear hK)|apply zI));exact⟨efBad_frz z1,(hg.new _).set hg.le _⟩
          |true=>
           simp only[z1,cond_true]at hinv;rw[errP_z z1]at hce;have hg2:Grow h ((h'.new (.arr 6 [[.sc (.int .i64 0),.sc (.int .i64 0),.sc (.int .i64 0),.sc (.int .i64 0),.sc (.string ⟨#[]⟩),.sc (.slice none 0 0)]])).set h'.next (.arr 6 [[.sc (.int .i64 yk),.sc (.int .i64 yv),.sc (.int .i64 yl),.sc (.int .i64 yc),sPV yt,.imm 6 (Sx.rows ys)]])):=(hg.new _).set hg.le _;have tl2:=tl.up (h':=((h'.new (.arr 6 [[.sc (.int .i64 0),.sc (.int .i64 0),.sc (.int .i64 0),.sc (.int .i64 0),.sc (.string ⟨#[]⟩),.sc (.slice none 0 0)]])).set h'.next (.arr 6 [[.sc (.int .i64 yk),.sc (.int .i64 yv),.sc (.int .i64 yl),.sc (.int .i64 yc),sPV yt,.imm 6 (Sx.rows ys)]]))) (by simp[Heap.new,Heap.set]) fun j _ hj=>by
            simp only[Heap.set,Heap.new];rw[if_neg (by omega),if_neg (by omega)]
           obtain⟨H,t1,t2,t3,t4,t5⟩:=tl2.tail;have hpr:(chRows pre).length=pre.length:=(by simp[chRows]);have hpa:(chRows a).length=a.length:=(by simp[chRows]);have hb:((chRows pre).length+(chRows a).length)*304≤140737488355328:=(by omega);replace zz:=uu g2 (uu g69 (uu g70 (uu g71 (uu g8 (uu hd hr)))));(repeat'(first|refine a_seq fun K hK=>?_|refine uR zz ?_|refine uK ?_|refine uC1 zz ?_|(refine uN hK ?_;clear hK)|apply zI));replace zz:=uu g2 (uu g69 (uu g70 (uu g71 (uu g8 hr))));refine uU zz (hce _) ?_;replace zz:=uu g2 (uu g69 (uu g70 (uu g71 (uu g8 (uu w7 (uu t1 t2))))));(repeat'(first|refine a_seq fun K hK=>?_|refine uR zz ?_|refine uQ zz fun K hK=>?_|refine uK ?_|refine uC1 zz ?_|(refine uN hK ?_;clear hK)|(rw[if_pos];rotate_left 1;omega;simp(maxSteps:=2000000) only[Ty.w,simprocAttr,g2,g69,g70,g71,g8,w7,t1,t2])|apply zI));have t3':H.next=h'.next+1:=by rw[t3];simp[Heap.new,Heap.set]
           have hkp:=t5 h ⟨hg2.le,hg2.old⟩ (Nat.le_refl _);have hgH:Grow h H:=⟨hkp.1,hkp.2⟩;have hap:chRows pre++chRows a=chRows (pre++a):=(by simp[chRows]);rw[hap];refine⟨rest.length-(k+1),by omega,k+1,.own H.next 0 ((chRows pre).length+(chRows a).length),pre++a,by simp,by rw[t3'],by omega,rfl,hgH.new _,Tl.grow hkp.1 (by simp[chRows]),by simp only[List.length_append];omega,?_⟩;rw[hinv];generalize effsP (List.drop (k+1) rest) ⟨P,W⟩=B;obtain⟨b,c'⟩:=B;cases hq:c'==0 with
           |false=>simp only[hq,cond_false]
           |true=>simp only[hq,cond_true,beq_self_eq_true,List.append_assoc]
         ·have hd:decide ((k:Int)<(rest.length:Int))=false:=(by simp;omega);rw[List.drop_eq_nil_of_le (by omega),effsP]at hinv;simp only[beq_self_eq_true,cond_true,List.append_nil]at hinv;replace zz:=uu g2 (uu g69 (uu g70 (uu g71 (uu g8 hd))));(repeat'(first|refine a_seq fun K hK=>?_|refine uR zz ?_|refine uT zz ?_|refine uX ?_|refine uC1 zz ?_|(refine uN hK ?_;clear hK)|(clear hK;refine uN hK ?_;clear hK)|apply zI));subst hinv;refine⟨?_,hg⟩;have h1:=tl.frzR (Nat.le_refl _) (chs_frz h.next h' pre);have e2:errP 0= .sc .nilIface:=rfl;simp only[e2];unfold FrzTo;refine⟨_,rfl,?_⟩;unfold FrzL;refine⟨h1,?_⟩;unfold FrzL;exact⟨by simp only[FrzTo],by simp only[FrzL]⟩
       |false=>
        rw[e3,cond_false]at hF;have e3:(xt.data.toList==[97,110,100])=false:=e3;cases e4:bEq xt opNot with
        |true=>
         rw[e4,cond_true]at hF;have e4:(xt.data.toList==[110,111,116])=true:=e4;(try clear zz);clear hda hE;cases q6:((R.length:Int) !=2)with
         |true=>
          have e:F=([],2):=by
           rw[← hF]
           match rest,q6,hlen with
           |[],_,_=>rfl
           |[_],q,hlen=>rw[hlen]at q;simp at q
           |_::_::_,_,_=>rfl
          subst e;(try clear zz);clear hks hkm hok hsm hcz hF hR ht;refine uG0 Tryz.func53 Tryz.ntmps53 Tryz.results53 Ty.hb_53 ?_;replace zz:=uu q q5;(repeat'(first|refine a_seq fun K hK=>?_|refine uR zz ?_|refine uK ?_|refine uC1 zz ?_|(refine uN hK ?_;clear hK)|apply zI));refine uU trivial (hbg _) ?_;replace zz:=uu @Bool.not_true (uu @Bool.not_false (uu r0 q0));(repeat'(first|refine a_seq fun K hK=>?_|refine uR zz ?_|refine uK ?_|refine uC1 zz ?_|(refine uN hK ?_;clear hK)|apply zI));refine uU (uu r0 q0) (hkc _) ?_;replace zz:=uu e0 (uu e1 (uu e2 (uu e3 (uu e4 q6))));(repeat'(first|refine a_seq fun K hK=>?_|refine uR zz ?_|refine uT zz ?_|(refine uN hK ?_;clear hK)|apply zI));exact⟨efBad_frz (c:=2) rfl,Grow.refl _⟩
         |false=>
          obtain⟨a,rfl⟩: ∃ a,rest=[a]:=by
           match rest,q6,hlen with
           |[],q,hlen=>rw[hlen]at q;simp at q
           |[a],_,_=>exact⟨a,rfl⟩
           |_::_::l,q,hlen=>rw[hlen]at q;simp at q;omega
          have ca:=fun h:Heap=>datom_c (hks a (by simp)) (hkm a (by simp)) h;have r1:=Sx.rows_get (l:=[.mk xk xv xl xc xt xs,a]) (i:=1) rfl;have d1:((1:Int)<(R.length:Int))=True:=eq_true (by rw[hlen];simp);rw[hR]at r1;(try clear zz);clear hks hkm hok hsm hR ht;simp only at hF;unfold oneP at hF;generalize dAtomP a=A at hF ca;obtain⟨an,aa,ac⟩:=A;obtain⟨ak,av,al,acc,at_,as_⟩:=a;simp only[atomV,Sx.cells]at hF ca r1;cases z1:(ac==0)with
          |false=>
           rw[z1,cond_false]at hF;subst hF;rw[errP_ne z1]at ca;(try clear zz);clear hcz;simp only[errV]at ca;refine uG0 Tryz.func53 Tryz.ntmps53 Tryz.results53 Ty.hb_53 ?_;replace zz:=uu q q5;(repeat'(first|refine a_seq fun K hK=>?_|refine uR zz ?_|refine uK ?_|refine uC1 zz ?_|(refine uN hK ?_;clear hK)|apply zI));refine uU trivial (hbg _) ?_;replace zz:=uu @Bool.not_true (uu @Bool.not_false (uu r0 q0));(repeat'(first|refine a_seq fun K hK=>?_|refine uR zz ?_|refine uK ?_|refine uC1 zz ?_|(refine uN hK ?_;clear hK)|apply zI));refine uU (uu r0 q0) (hkc _) ?_;replace zz:=uu @Bool.not_true (uu @Bool.not_false (uu r0 (uu q0 (uu e0 (uu e1 (uu e2 (uu e3 (uu e4 (uu q6 (uu r1 d1))))))))));(repeat'(first|refine a_seq fun K hK=>?_|refine uR zz ?_|refine uK ?_|refine uC1 zz ?_|(refine uN hK ?_;clear hK)|apply zI));refine uU (uu r1 d1) (ca _) ?_;replace zz:=uu @nsucc (uu @Bool.not_false @Bool.not_true);(repeat'(first|refine a_seq fun K hK=>?_|refine uR zz ?_|refine uT zz ?_|(refine uN hK ?_;clear hK)|apply zI));exact⟨efBad_frz z1,Grow.refl _⟩
          |true=>
           rw[z1,cond_true]at hF;subst hF;rw[errP_z z1]at ca;have hcz:=hcz 2 an aa;generalize chgS ⟨P,W⟩ 2 an aa zeroEx=C at*;obtain⟨ck,cp,⟨gop,gna,gar,gpa,gex,gki⟩,cn,cas,⟨eop,ena,en,ear,eki⟩⟩:=C;simp only[chRow,Fm.cells,Ex.cells,List.cons_append,List.nil_append]at hcz;refine uG0 Tryz.func53 Tryz.ntmps53 Tryz.results53 Ty.hb_53 ?_;replace zz:=uu q q5;(repeat'(first|refine a_seq fun K hK=>?_|refine uR zz ?_|refine uK ?_|refine uC1 zz ?_|(refine uN hK ?_;clear hK)|apply zI));refine uU trivial (hbg _) ?_;replace zz:=uu @Bool.not_true (uu @Bool.not_false (uu r0 q0));(repeat'(first|refine a_seq fun K hK=>?_|refine uR zz ?_|refine uK ?_|refine uC1 zz ?_|(refine uN hK ?_;clear hK)|apply zI));refine uU (uu r0 q0) (hkc _) ?_;replace zz:=uu @Bool.not_true (uu @Bool.not_false (uu r0 (uu q0 (uu e0 (uu e1 (uu e2 (uu e3 (uu e4 (uu q6 (uu r1 d1))))))))));(repeat'(first|refine a_seq fun K hK=>?_|refine uR zz ?_|refine uK ?_|refine uC1 zz ?_|(refine uN hK ?_;clear hK)|apply zI));refine uU (uu r1 d1) (ca _) ?_;replace zz:=uu @nsucc (uu @Bool.not_false @Bool.not_true);(repeat'(first|refine a_seq fun K hK=>?_|refine uR zz ?_|refine uK ?_|refine uC1 zz ?_|(refine uN hK ?_;clear hK)|apply zI));refine uU (uu r1 d1) (hcz _) ?_;(repeat'(first|refine uT (uu r1 d1) ?_|(refine uN hK ?_;clear hK)|apply zI));exact⟨eff_frz _ _ [_] 0,Grow.refl _⟩
        |false=>
         rw[e4,cond_false]at hF;have e4:(xt.data.toList==[110,111,116])=false:=e4;(try clear zz);clear hE hks hkm hok hsm;unfold oneP at hF;generalize dAtomP (.mk kind value line col text (.mk xk xv xl xc xt xs::rest))=A at hF hda;obtain⟨an,aa,ac⟩:=A;simp only[atomV]at hF hda;have ca:=hda;(try clear zz);clear hda;(try clear zz);clear hR;cases z1:(ac==0)with
         |false=>
          rw[z1,cond_false]at hF;subst hF;rw[errP_ne z1]at ca;(try clear zz);clear hcz;simp only[errV]at ca;refine uG0 Tryz.func53 Tryz.ntmps53 Tryz.results53 Ty.hb_53 ?_;replace zz:=uu q q5;(repeat'(first|refine a_seq fun K hK=>?_|refine uR zz ?_|refine uK ?_|refine uC1 zz ?_|(refine uN hK ?_;clear hK)|apply zI));refine uU trivial (hbg _) ?_;replace zz:=uu @Bool.not_true (uu @Bool.not_false (uu r0 q0));(repeat'(first|refine a_seq fun K hK=>?_|refine uR zz ?_|refine uK ?_|refine uC1 zz ?_|(refine uN hK ?_;clear hK)|apply zI));refine uU (uu r0 q0) (hkc _) ?_;replace zz:=uu @Bool.not_true (uu @Bool.not_false (uu r0 (uu q0 (uu e0 (uu e1 (uu e2 (uu e3 e4)))))));(repeat'(first|refine a_seq fun K hK=>?_|refine a_block ?_|refine uR zz ?_|refine uK ?_|(refine uN hK ?_;clear hK)|apply zI));refine uU trivial (ca _) ?_;replace zz:=uu @nsucc (uu @Bool.not_false @Bool.not_true);(repeat'(first|refine a_seq fun K hK=>?_|refine uR zz ?_|refine uT zz ?_|(refine uN hK ?_;clear hK)|apply zI));exact⟨efBad_frz z1,Grow.refl _⟩
         |true=>
          rw[z1,cond_true]at hF;subst hF;rw[errP_z z1]at ca;have hcz:=hcz 1 an aa;generalize chgS ⟨P,W⟩ 1 an aa zeroEx=C at*;obtain⟨ck,cp,⟨gop,gna,gar,gpa,gex,gki⟩,cn,cas,⟨eop,ena,en,ear,eki⟩⟩:=C;simp only[chRow,Fm.cells,Ex.cells,List.cons_append,List.nil_append]at hcz;refine uG0 Tryz.func53 Tryz.ntmps53 Tryz.results53 Ty.hb_53 ?_;replace zz:=uu q q5;(repeat'(first|refine a_seq fun K hK=>?_|refine uR zz ?_|refine uK ?_|refine uC1 zz ?_|(refine uN hK ?_;clear hK)|apply zI));refine uU trivial (hbg _) ?_;replace zz:=uu @Bool.not_true (uu @Bool.not_false (uu r0 q0));(repeat'(first|refine a_seq fun K hK=>?_|refine uR zz ?_|refine uK ?_|refine uC1 zz ?_|(refine uN hK ?_;clear hK)|apply zI));refine uU (uu r0 q0) (hkc _) ?_;replace zz:=uu @Bool.not_true (uu @Bool.not_false (uu r0 (uu q0 (uu e0 (uu e1 (uu e2 (uu e3 e4)))))));(repeat'(first|refine a_seq fun K hK=>?_|refine a_block ?_|refine uR zz ?_|refine uK ?_|(refine uN hK ?_;clear hK)|apply zI));refine uU trivial (ca _) ?_;replace zz:=uu @nsucc (uu @Bool.not_false @Bool.not_true);(repeat'(first|refine a_seq fun K hK=>?_|refine uR zz ?_|refine uK ?_|refine uC1 zz ?_|(refine uN hK ?_;clear hK)|apply zI));refine uU trivial (hcz _) ?_;(repeat'(first|refine uT trivial ?_|(refine uN hK ?_;clear hK)|apply zI));exact⟨eff_frz _ _ [_] 0,Grow.refl _⟩
theorem effect_n: ∀ (n:Nat)(x:Sx),x.nodes≤n→x.ok→x.small→EffC x
 |0,x,h,_,_=>by have:=Sx.nodes_pos x;omega
 |n+1,.mk kind value line col text kids,h,hok,hsm=>by
  have hks: ∀ z∈kids,z.ok:=by simp only[Sx.ok]at hok;exact Sx.oks_iff.1 hok.2.2.2.2
  have hkm: ∀ z∈kids,z.small:=by simp only[Sx.small]at hsm;exact Sx.smalls_iff.1 hsm.2
  refine effect_step (fun e he=>effect_n n e ?_ (hks e he) (hkm e he)) hok hsm;have:=Sx.nodes_le he;simp only[Sx.nodes]at h;omega
theorem effect_c{x:Sx}(hok:x.ok)(hsm:x.small):EffC x:=effect_n _ x (Nat.le_refl _) hok hsm
set_option maxHeartbeats 2000000
structure Sco.okN(S:Sco)(n:Nat):Prop where
 params: ∀ p∈S.params,p.ok
 plen:S.params.length+n≤1048576
 whens: ∀ f∈S.whens,f.ok∧f.small
 wlen:S.whens.length+n≤1048576
theorem Sco.okN.mono{S:Sco}{n m:Nat}(h:S.okN n)(hm:m≤n):S.okN m:=⟨h.params,by have:=h.plen;omega,h.whens,by have:=h.wlen;omega⟩
theorem andFm_sm:andFm.ok∧andFm.small:=fm_mk_ok (by decide) (by decide) (by simp) (by simp) (by simp) (by simp) (by simp) (by simp) (by simp) (by simp)
theorem condS_ok{l:List Fm}(h: ∀ f∈l,f.ok∧f.small)(hl:l.length≤1048576):(condS l).ok∧(condS l).small:=by
 match l,h,hl with
 |[],_,_=>exact andFm_sm
 |[f],h,_=>exact h f (by simp)
 |f::g::l,h,hl=>exact fm_mk_ok (by decide) (by decide) (by simp) (by simp) (by simp) (by simp) (by simp) (by simp) hl h
theorem chgS_ok{S:Sco}{m:Nat}(hS:S.okN m){k:Int}{n:ByteArray}{a:List ByteArray}{v:Ex}(hk:0≤k∧k≤5)(hn:n.size≤bigN)(ha:a.length≤1048576)(has: ∀ s∈a,s.size≤bigN)(hv:v.ok∧v.small):(chgS S k n a v).ok∧ChSm (chgS S k n a v):=by
 have hc:=condS_ok hS.whens (by have:=hS.wlen;omega);have hp:=hS.plen;refine⟨⟨⟨by simp only[chgS,bigN];omega,hS.params⟩,hc.1,⟨by simp only[chgS,bigN];omega,has⟩,hv.1,hn,by simp only[chgS];omega⟩,⟨hc.2,hv.2,by simp only[chgS];omega,ha⟩⟩
theorem dAtomP_ok{x:Sx}(hok:x.ok)(hsm:x.small):(dAtomP x).1.size≤bigN∧(dAtomP x).2.1.length≤1048576∧ ∀ s∈(dAtomP x).2.1,s.size≤bigN:=by
 unfold dAtomP;cases hD:headM x with
 |none=>exact⟨by decide,by simp,by simp⟩
 |some wl=>
  obtain⟨w,l⟩:=wl;obtain⟨h1,h2,h3⟩:=headM_okS hok hsm hD;have ht:=termsM_ok h3;simp only;cases nameB w with
  |false=>exact⟨(by decide:(⟨#[]⟩:ByteArray).size≤bigN),by simp,by simp⟩
  |true=>
   simp only[cond_true];cases(termsM l).2==0 with
   |false=>exact⟨(by decide:(⟨#[]⟩:ByteArray).size≤bigN),by simp,by simp⟩
   |true=>exact⟨h1,by simp only[cond_true];omega,ht.1⟩
theorem parseE_ok{x:Sx}(hok:x.ok):(parseE x).1.ok∧(parseE x).1.small:=by
 unfold parseE;split
 ·rename_i h;split
  ·split
   ·exact exprP_ok x hok (svalid_small h)
   ·exact zeroEx_ok
  ·exact zeroEx_ok
 ·exact zeroEx_ok
theorem oneP_ok{S:Sco}{m:Nat}(hS:S.okN m){k:Int}(hk:0≤k∧k≤5){a:Sx}(hok:a.ok)(hsm:a.small): ∀ c∈(oneP S k a).1,c.ok∧ChSm c:=by
 unfold oneP;obtain⟨h1,h2,h3⟩:=dAtomP_ok hok hsm;cases(dAtomP a).2.2==0 with
 |false=>simp
 |true=>
  intro c hc;simp only[cond_true,List.mem_singleton]at hc;subst hc;exact chgS_ok hS hk h1 h2 h3 zeroEx_ok
theorem numP_ok{S:Sco}{m:Nat}(hS:S.okN m){k:Int}(hk:0≤k∧k≤5): ∀ {l:List Sx},(∀ x∈l,x.ok)→(∀ x∈l,x.small)→ ∀ c∈(numP S k l).1,c.ok∧ChSm c
 |[],_,_=>by simp[numP]
 |[_],_,_=>by simp[numP]
 |[a,e],hok,hsm=>by
  obtain⟨h1,h2,h3⟩:=dAtomP_ok (hok a (by simp)) (hsm a (by simp));have hv:=parseE_ok (hok e (by simp));simp only[numP];cases(dAtomP a).2.2==0 with
  |false=>simp
  |true=>
   cases(parseE e).2==0 with
   |false=>simp
   |true=>
    intro c hc;simp only[cond_true,List.mem_singleton]at hc;subst hc;exact chgS_ok hS hk h1 h2 h3 hv
 |_::_::_::_,_,_=>by simp[numP]
theorem effsP_ok{S:Sco}: ∀ l:List Sx,(∀ x∈l, ∀ c∈(effP x S).1,c.ok∧ChSm c)→ ∀ c∈(effsP l S).1,c.ok∧ChSm c
 |[],_=>by rw[effsP];simp
 |x::l,hx=>by
  have ih:=effsP_ok l (fun y hy=>hx y (by simp[hy]));have h1:=hx x (by simp);rw[effsP.eq_def];simp only;generalize effP x S=A at*;obtain⟨a,c⟩:=A;simp only at h1⊢;cases c==0 with
  |false=>simp
  |true=>
   simp only[cond_true];generalize effsP l S=B at*;obtain⟨b,c'⟩:=B;simp only at ih⊢;cases c'==0 with
   |false=>simp
   |true=>
    simp only[cond_true,List.mem_append];rintro d (hd|hd)
    ·exact h1 d hd
    ·exact ih d hd
theorem effP_ok: ∀ (n:Nat)(x:Sx),x.nodes≤n→ ∀ S:Sco,x.ok→x.small→S.okN x.nodes→ ∀ c∈(effP x S).1,c.ok∧ChSm c
 |0,x,h,_=>by have:=Sx.nodes_pos x;omega
 |n+1,.mk kind v l c t kids,h,S=>by
  intro hok hsm hS;have ih:=effP_ok n;have hks: ∀ z∈kids,z.ok:=by simp only[Sx.ok]at hok;exact Sx.oks_iff.1 hok.2.2.2.2
  have hkm: ∀ z∈kids,z.small:=by simp only[Sx.small]at hsm;exact Sx.smalls_iff.1 hsm.2
  simp only[Sx.nodes]at h hS;rw[effP.eq_def];simp only;cases kind==3 with
  |false=>simp
  |true=>
   simp only[cond_true];cases kids with
   |nil=>simp
   |cons x rest=>
    have hx:=Sx.nodes_pos x;simp only[Sx.nodess]at h hS;simp only;cases kindOf x==1 with
    |false=>simp
    |true=>
     simp only[cond_true];cases hk0:!(kindW (textOf x)==0)with
     |true=>
      simp only[cond_true];exact numP_ok (k:=kindW (textOf x)) hS (by rcases kindW_cases (textOf x)with h|h|h|h<;>omega) (fun z hz=>hks z (by simp[hz])) (fun z hz=>hkm z (by simp[hz]))
     |false=>
      simp only[cond_false];cases bEq (textOf x) opWhen with
      |true=>
       simp only[cond_true]
       match rest,h,hS,hks,hkm with
       |[],_,_,_,_=>simp
       |[_],_,_,_,_=>simp
       |[f,e],h,hS,hks,hkm=>
        simp only[Sx.nodess]at h hS;simp only;have hfn:=Sx.nodes_pos f;have hf:=parseF_ok (hks f (by simp));cases(parseF f).2==0 with
        |false=>simp
        |true=>
         simp only[cond_true];refine ih e (by omega) _ (hks e (by simp)) (hkm e (by simp)) ⟨hS.params,?_,?_,?_⟩
         ·have:=hS.plen;simp only;omega
         ·intro g hg;simp only[List.mem_append,List.mem_singleton]at hg;rcases hg with hg|rfl
          ·exact hS.whens g hg
          ·exact hf
         ·have:=hS.wlen;simp only[List.length_append,List.length_cons,List.length_nil];omega
       |_::_::_::_,_,_,_,_=>simp
      |false=>
       simp only[cond_false];cases bEq (textOf x) opAll with
       |true=>
        simp only[cond_true]
        match rest,h,hS,hks,hkm with
        |[],_,_,_,_=>simp
        |[_],_,_,_,_=>simp
        |[p,e],h,hS,hks,hkm=>
         simp only[Sx.nodess]at h hS;simp only;cases kindOf p==3 with
         |false=>simp
         |true=>
          simp only[cond_true];have hpo:=hks p (by simp);obtain⟨pk,pv,pl,pc,pt,ps⟩:=p;simp only[Sx.ok]at hpo;simp only[kidsOf];simp only[Sx.nodes]at h hS;have hpl:=paramsL_ok true ps.length ps (Nat.le_refl _) (Sx.oks_iff.1 hpo.2.2.2.2) [] [] (by simp) (by simp);simp only[List.length_nil,Nat.zero_add]at hpl;have hln:=Sx.len_nodess ps;change (∀ p∈(paramsP true ps).1,p.ok)∧(paramsP true ps).1.length≤ps.length at hpl;cases(paramsP true ps).2==0 with
          |false=>simp
          |true=>
           simp only[cond_true];refine ih e (by omega) _ (hks e (by simp)) (hkm e (by simp)) ⟨?_,?_,hS.whens,?_⟩
           ·intro g hg;simp only[List.mem_append]at hg;rcases hg with hg|hg
            ·exact hS.params g hg
            ·exact hpl.1 g hg
           ·have:=hS.plen;simp only[List.length_append];omega
           ·have:=hS.wlen;simp only;omega
        |_::_::_::_,_,_,_,_=>simp
       |false=>
        simp only[cond_false];cases bEq (textOf x) opAnd with
        |true=>
         simp only[cond_true];refine effsP_ok rest fun y hy=>?_;have:=Sx.nodes_le hy;exact ih y (by omega) S (hks y (by simp[hy])) (hkm y (by simp[hy])) (hS.mono (by omega))
        |false=>
         simp only[cond_false];cases bEq (textOf x) opNot with
         |true=>
          simp only[cond_true]
          match rest,hks,hkm with
          |[],_,_=>simp
          |[a],hks,hkm=>exact oneP_ok hS (by omega) (hks a (by simp)) (hkm a (by simp))
          |_::_::_,_,_=>simp
         |false=>
          simp only[cond_false];exact oneP_ok hS (by omega) hok hsm
theorem zSx_ok:(Sx.mk 0 0 0 0 ⟨#[]⟩ []).ok:=⟨⟨by decide,by decide⟩,⟨by decide,by decide⟩,by decide,by simp,trivial⟩
theorem fmX_ok{f:Fm}(h:f.ok)(hs:f.small):(fmX f).ok:=by
 unfold fmX;cases hv:validF f with
 |false=>exact zSx_ok
 |true=>exact fmW_ok f h hs (validF_shaped hv)
theorem exX_ok{e:Ex}(h:e.ok)(hs:e.small):(exX e).ok:=by
 unfold exX;cases validE e with
 |false=>exact zSx_ok
 |true=>exact exW_ok e h hs
theorem ok2{a b:Sx}(ha:a.ok)(hb:b.ok):(listM [a,b]).ok:=listM_ok (by simp[bigN]) ⟨ha,hb,trivial⟩
theorem ok3{a b c:Sx}(ha:a.ok)(hb:b.ok)(hc:c.ok):(listM [a,b,c]).ok:=listM_ok (by simp[bigN]) ⟨ha,hb,hc,trivial⟩
theorem kwK_ok(k:Int):(wordM (kwK k)).ok:=by
 unfold kwK;cases k==3<;>cases k==4<;>exact wordM_ok (by decide)
theorem ch1_ok{c:Ch}(h:c.ok)(hs:ChSm c):(ch1 c).ok:=by
 have hw:(wordsM c.name c.args).ok:=wordsM_ok h.name hs.args h.args.2;unfold ch1;cases c.kind==1 with
 |true=>exact hw
 |false=>
  simp only[cond_false];cases c.kind==2 with
  |true=>exact ok2 (wordM_ok (by decide)) hw
  |false=>
   simp only[cond_false];cases c.kind==3||c.kind==4||c.kind==5 with
   |true=>exact ok3 (kwK_ok _) hw (exX_ok h.value hs.value)
   |false=>exact hw
theorem ch2_ok{c:Ch}(h:c.ok)(hs:ChSm c):(ch2 c).ok:=by
 have h1:=ch1_ok h hs;unfold ch2;cases isAlw c.cond with
 |true=>exact h1
 |false=>exact ok3 (wordM_ok (by decide)) (fmX_ok h.cond hs.cond) h1
theorem chX_ok{c:Ch}(h:c.ok)(hs:ChSm c):(chX c).ok:=by
 have h2:=ch2_ok h hs;unfold chX;cases c.params.isEmpty with
 |true=>exact h2
 |false=>exact ok3 (wordM_ok (by decide)) (listM_ok (by rw[paramsW_len];have:=hs.params;unfold bigN;omega) (paramsW_ok _ h.params.2)) h2
theorem effX_ok{l:List Ch}(hl:l.length≤1048576)(h: ∀ c∈l,c.ok∧ChSm c):(effX l).ok:=by
 unfold effX;cases l.isEmpty with
 |true=>exact listM_ok (by simp) trivial
 |false=>
  refine listM_ok (by simp only[List.length_cons,List.length_map,bigN];omega) ⟨wordM_ok (by decide),?_⟩;rw[Sx.oks_iff];intro k hk;rw[List.mem_map]at hk;obtain⟨c,hc,rfl⟩:=hk;exact chX_ok (h c hc).1 (h c hc).2
theorem nameB_not{s w:ByteArray}(h:nameB s=true)(hw:w∈words):bEq s w=false:=by
 unfold nameB at h;simp only[Bool.and_eq_true,Bool.not_eq_true',List.any_eq_false]at h;simpa using h.2 w hw
theorem dAtomP_words{n:ByteArray}{a:List ByteArray}(hn:nameB n=true)(ha:a.all termB=true):dAtomP (wordsM n a)=(n,a,0):=by
 have e:headM (wordsM n a)=some (n,a.map wordM):=rfl;unfold dAtomP;rw[e];simp only[hn,cond_true,termsM_words a ha,beq_self_eq_true]
theorem oneP_words{S:Sco}{k:Int}{n:ByteArray}{a:List ByteArray}(hn:nameB n=true)(ha:a.all termB=true):oneP S k (wordsM n a)=([chgS S k n a zeroEx],0):=by
 unfold oneP;rw[dAtomP_words hn ha];try rfl
theorem kindW_name{n:ByteArray}(hn:nameB n=true):kindW n=0:=by
 unfold kindW;rw[nameB_not hn (w:=opAsg) (by simp[words,opAsg]),nameB_not hn (w:=opInc) (by simp[words,opInc]),nameB_not hn (w:=opDec) (by simp[words,opDec])];try rfl
theorem effP_words{S:Sco}{n:ByteArray}{a:List ByteArray}(hn:nameB n=true)(ha:a.all termB=true):effP (wordsM n a) S=([chgS S 1 n a zeroEx],0):=by
 have e:wordsM n a= .mk 3 0 0 0 ⟨#[]⟩ (wordM n::a.map wordM):=rfl;have ho:=oneP_words (S:=S) (k:=1) hn ha;rw[e]at ho⊢;rw[effP.eq_def];have k1:kindOf (wordM n)=1:=rfl;have k2:textOf (wordM n)=n:=rfl;simp only[k1,k2,kindW_name hn,nameB_not hn (w:=opWhen) (by simp[words,opWhen]),nameB_not hn (w:=opAll) (by simp[words,opAll]),nameB_not hn (w:=opAnd) (by simp[words,opAnd]),nameB_not hn (w:=opNot) (by simp[words,opNot]),beq_self_eq_true,cond_true,cond_false,Bool.not_true];exact ho
theorem effP_not{S:Sco}(x:Sx):effP (listM [wordM opNot,x]) S=oneP S 2 x:=by
 have e:listM [wordM opNot,x]= .mk 3 0 0 0 ⟨#[]⟩ [wordM opNot,x]:=rfl;rw[e,effP.eq_def];try rfl
theorem effP_num{S:Sco}{k:Int}(hk:k=3∨k=4∨k=5)(x y:Sx):effP (listM [wordM (kwK k),x,y]) S=numP S k [x,y]:=by
 have e:listM [wordM (kwK k),x,y]= .mk 3 0 0 0 ⟨#[]⟩ [wordM (kwK k),x,y]:=rfl;rw[e,effP.eq_def];rcases hk with rfl|rfl|rfl<;>rfl
theorem effP_when{S:Sco}(f x:Sx):effP (listM [wordM opWhen,f,x]) S=bif (parseF f).2==0 then effP x ⟨S.params,S.whens++[(parseF f).1]⟩else([],(parseF f).2):=by
 have e:listM [wordM opWhen,f,x]= .mk 3 0 0 0 ⟨#[]⟩ [wordM opWhen,f,x]:=rfl;rw[e,effP.eq_def];try rfl
theorem effP_all{S:Sco}(l:List Sx)(x:Sx):effP (listM [wordM opAll,listM l,x]) S=bif (paramsP true l).2==0 then effP x ⟨S.params++(paramsP true l).1,S.whens⟩else([],(paramsP true l).2):=by
 have e:listM [wordM opAll,listM l,x]= .mk 3 0 0 0 ⟨#[]⟩ [wordM opAll,listM l,x]:=rfl;rw[e,effP.eq_def];try rfl
theorem effP_and{S:Sco}(l:List Sx):effP (listM (wordM opAnd::l)) S=effsP l S:=by
 have e:listM (wordM opAnd::l)= .mk 3 0 0 0 ⟨#[]⟩ (wordM opAnd::l):=rfl;rw[e,effP.eq_def];try rfl
theorem same_zeroEx{e:Ex}(h:e.same zeroEx=true):e=zeroEx:=by
 obtain⟨op,na,n,a,k⟩:=e;simp only[zeroEx,Ex.same,Bool.and_eq_true,beq_iff_eq]at h;obtain⟨⟨⟨⟨h1,h2⟩,h3⟩,h4⟩,h5⟩:=h;have e1:=bEq_eq h1;have e2:=bEq_eq h2;have e4:a=[]:=by cases a<;>simp_all [bsEq]
 have e5:k=[]:=by cases k<;>simp_all [Ex.sames]
 rw[e1,e2,h3,e4,e5];try rfl
theorem isAlw_eq{f:Fm}(h:isAlw f=true):f=andFm:=by
 obtain⟨op,na,a,p,e,k⟩:=f;simp only[isAlw,andFm,Fm.same,Bool.and_eq_true]at h;obtain⟨⟨⟨⟨⟨h1,h2⟩,h3⟩,h4⟩,h5⟩,h6⟩:=h;have e1:=bEq_eq h1;have e2:=bEq_eq h2;have e3:a=[]:=by cases a<;>simp_all [bsEq]
 have e4:p=[]:=by cases p<;>simp_all [pmsEq]
 have e5:e=[]:=by cases e<;>simp_all [Ex.sames]
 have e6:k=[]:=by cases k<;>simp_all [Fm.sames]
 rw[e1,e2,e3,e4,e5,e6];try rfl
theorem validE_shp{e:Ex}(h:validE e=true):shapedE e=true:=by
 unfold validE at h;simp only[Bool.and_eq_true]at h;exact formedM_shaped e 0 0 h.1
theorem effP_ch1{c:Ch}(h:chB c=true)(S:Sco):effP (ch1 c) S=([chgS S c.kind c.name c.args c.value],0):=by
 unfold chB at h;simp only[Bool.and_eq_true]at h;obtain⟨⟨⟨⟨hn,ha⟩,hv⟩,_⟩,_⟩:=h;unfold ch1;cases k1:c.kind==1 with
 |true=>
  rw[k1]at hv;have hz:=same_zeroEx (by simpa using hv);have hk:c.kind=1:=by simpa using k1
  rw[cond_true,effP_words hn ha,hz,hk]
 |false=>
  rw[k1]at hv;simp only[cond_false,Bool.false_or]at hv⊢;cases k2:c.kind==2 with
  |true=>
   rw[k2]at hv;have hz:=same_zeroEx (by simpa using hv);have hk:c.kind=2:=(by simpa using k2);rw[cond_true,effP_not,oneP_words hn ha,hz,hk]
  |false=>
   rw[k2]at hv;simp only[cond_false]at hv⊢;cases k3:c.kind==3||c.kind==4||c.kind==5 with
   |false=>rw[k3]at hv;simp at hv
   |true=>
    rw[k3,cond_true]at hv;have hk:c.kind=3∨c.kind=4∨c.kind=5:=by
     simp only[Bool.or_eq_true,beq_iff_eq]at k3;omega
    have hx:exX c.value=exW c.value:=(by unfold exX;rw[hv];try rfl);rw[cond_true,effP_num hk,hx];simp only[numP];rw[dAtomP_words hn ha,parseE_exW hv (validE_shp hv)];try rfl
theorem effP_chX{c:Ch}(h:chB c=true):effP (chX c) ⟨[],[]⟩=([c],0):=by
 have h1:=effP_ch1 h;unfold chB at h;simp only[Bool.and_eq_true]at h;obtain⟨⟨_,hf⟩,hp⟩:=h;have h2: ∀ P:List Pm,effP (ch2 c) ⟨P,[]⟩=([⟨c.kind,P,c.cond,c.name,c.args,c.value⟩],0):=by
  intro P;unfold ch2;cases q:isAlw c.cond with
  |true=>
   rw[cond_true,h1];have:=isAlw_eq q;simp only[chgS,condS,this]
  |false=>
   rw[q,Bool.false_or]at hf;have hx:fmX c.cond=fmW c.cond:=(by unfold fmX;rw[hf];try rfl);rw[cond_false,effP_when,hx,parseF_fmW hf,h1];try rfl
 unfold chX;cases q:c.params.isEmpty with
 |true=>
  rw[cond_true,h2];have:c.params=[]:=List.isEmpty_iff.1 q;obtain⟨kd,P,cd,n,a,v⟩:=c;simp only at this;rw[this]
 |false=>
  rw[cond_false,effP_all,paramsP_W (l:=c.params) ?_]
  ·simp only[beq_self_eq_true,cond_true,List.nil_append];rw[h2]
  ·rw [List.all_eq_true]at hp⊢;intro x hx;have:=hp x hx;unfold parB at this;unfold pmOk typedB;rw[Bool.or_comm];simpa using this
theorem effsP_map: ∀ l:List Ch,l.all chB=true→effsP (l.map chX) ⟨[],[]⟩=(l,0)
 |[],_=>by rw[List.map_nil,effsP]
 |c::l,h=>by
  simp only[List.all_cons,Bool.and_eq_true]at h;rw[List.map_cons,effsP.eq_def];simp only[effP_chX h.1,effsP_map l h.2];rfl
theorem effP_effX{l:List Ch}(h:l.all chB=true):effP (effX l) ⟨[],[]⟩=(l,0):=by
 unfold effX;cases l with
 |nil=>rfl
 |cons c l=>exact(effP_and _).trans (effsP_map _ h)
theorem parseEf_effX{l:List Ch}(h:writeEB l=true):parseEf (effX l)=(l,0):=by
 have h':=h;unfold writeEB at h';simp only[Bool.and_eq_true]at h';unfold parseEf;rw[if_pos h'.2,effP_effX h'.1];simp only[if_true,h]
theorem nodess_append: ∀ l m:List Sx,Sx.nodess (l++m)=Sx.nodess l+Sx.nodess m
 |[],m=>by simp[Sx.nodess]
 |k::l,m=>by simp only[List.cons_append,Sx.nodess,nodess_append l m];omega
theorem list_nodes(l:List Sx):(listM l).nodes=Sx.nodess l+1:=by simp only[listM,Sx.nodes]
theorem word_nodes(s:ByteArray):(wordM s).nodes=1:=by simp[wordM,Sx.nodes,Sx.nodess]
theorem formed_of: ∀ (e:Ex),shapedE e=true→ ∀ (d n:Nat),d+(exW e).depth≤32→n+(exW e).nodes≤4096→(formedM e d n).1=true∧(formedM e d n).2≤n+(exW e).nodes:=by
 refine Ex.ind ?_;intro op name v args kids ih hs d n hd hn;unfold shapedE at hs;unfold exW at hd hn⊢;unfold formedM;cases c1:bEq op opNum with
 |true=>
  rw[c1]at hs hd hn;simp only[if_true]at hs hd hn⊢;simp only[Sx.nodes,Sx.nodess]at hn⊢;rw[if_pos ⟨by omega,by omega⟩];exact⟨hs,by simp only;omega⟩
 |false=>
  rw[c1]at hs hd hn;simp only[Bool.false_eq_true,if_false]at hs hd hn⊢;cases c2:bEq op opFlu with
  |true=>
   rw[c2]at hs hd hn;simp only[if_true]at hs hd hn⊢;simp only[wordsM,listM,Sx.nodes]at hn⊢;rw[if_pos ⟨by omega,by omega⟩];exact⟨hs,by simp only;omega⟩
  |false=>
   rw[c2]at hs hd hn;simp only[Bool.false_eq_true,if_false]at hs hd hn⊢;split at hs
   case isFalse=>simp at hs
   rename_i hop;rw[if_pos hop];rw[Bool.and_eq_true]at hs;obtain⟨h1,h2⟩:=hs;rw[h1];simp only[if_true];split at h2
   case h_2=>simp at h2
   rename_i a b;simp only[Bool.and_eq_true]at h2;simp only[listM,Sx.depth,Sx.depths,Sx.nodes,Sx.nodess,wordM,if_true]at hd hn⊢;have k1:¬ ((1:Int)=3):=(by omega);rw[if_neg k1]at hd;rw[if_pos ⟨by omega,by omega⟩];obtain⟨f1,f2⟩:=ih a (by simp) h2.1 (d+1) (n+1) (by omega) (by omega);cases hw:formedM a (d+1) (n+1)with
   |mk x c=>
    rw[hw]at f1 f2;simp only at f1 f2;subst f1;simp only;obtain⟨g1,g2⟩:=ih b (by simp) h2.2 (d+1) c (by omega) (by omega);exact⟨g1,by omega⟩
theorem validE_same{e:Ex}(hn:(exW e).nodes≤bigN):validE e=(shapedE e&&rvalidB (exW e)):=by
 unfold validE;rw[valid_same hn];cases hs:shapedE e with
 |false=>
  have:(formedM e 0 0).1=false:=by
   cases h:(formedM e 0 0).1 with
   |false=>rfl
   |true=>rw[formedM_shaped e 0 0 h]at hs;simp at hs
  simp only[this,Bool.false_and]
 |true=>
  cases hv:rvalidB (exW e)with
  |false=>simp
  |true=>
   have h1:=(svalid_iff (exW e) 0 0 (by omega) (by omega)).1.1 (by rw[valid_same hn];exact hv);rw[(formed_of e hs 0 0 h1.2.1 h1.2.2).1]
section
variable {name:ByteArray}{args:List ByteArray}{params:List Pm}{exprs:List Ex}{kids p q:List Fm}{s:Bool}
end
theorem sf_cases{C:Fm→Prop}(f:Fm)(hf:shapedF f=true)
  (h1: ∀ name args,nameB name=true→args.all termB=true→C (.mk opAtom name args [] [] []))
  (h2: ∀ args,args.length=2→args.all termB=true→C (.mk opSame ⟨#[]⟩ args [] [] []))
  (h3: ∀ op a b,(op=opLt∨op=opLe∨op=opEq)→shapedE a=true→shapedE b=true→C (.mk op ⟨#[]⟩ [] [] [a,b] []))
  (h4: ∀ op kids,(op=opAnd∨op=opOr)→(∀ k∈kids,shapedF k=true)→C (.mk op ⟨#[]⟩ [] [] [] kids))
  (h5: ∀ k,shapedF k=true→C (.mk opNot ⟨#[]⟩ [] [] [] [k]))
  (h6: ∀ a b,shapedF a=true→shapedF b=true→C (.mk opImp ⟨#[]⟩ [] [] [] [a,b]))
  (h7: ∀ op params k,(op=opAll∨op=opSome)→params.all pmOk=true→shapedF k=true→C (.mk op ⟨#[]⟩ [] params [] [k])):C f:=by
 obtain⟨op,name,args,params,exprs,kids⟩:=f;simp only[shapedF,Bool.and_eq_true,List.all_eq_true]at hf;obtain⟨⟨hp,he⟩,hk⟩:=hf;rw[shapedFs_iff]at hk;rcases partsOk_cases hp with⟨rfl,a1,a2,rfl,a3,a4⟩|⟨rfl,rfl,a1,a2,rfl,a3,a4⟩|⟨a1,rfl,rfl,rfl,a3,a4⟩|⟨a1,rfl,rfl,rfl,a3⟩|⟨a1,rfl,rfl,a3,a4,a5⟩
 ·obtain rfl:=List.eq_nil_of_length_eq_zero a3;obtain rfl:=List.eq_nil_of_length_eq_zero a4;exact h1 _ _ a1 a2
 ·obtain rfl:=List.eq_nil_of_length_eq_zero a3;obtain rfl:=List.eq_nil_of_length_eq_zero a4;exact h2 _ a1 a2
 ·obtain rfl:=List.eq_nil_of_length_eq_zero a4
  match exprs,a3,he with
  |[a,b],_,he=>exact h3 _ _ _ a1 (he a (by simp)) (he b (by simp))
 ·obtain rfl:=List.eq_nil_of_length_eq_zero a3;rcases a1 with rfl|rfl|⟨rfl,a4⟩|⟨rfl,a4⟩
  ·exact h4 _ _ (.inl rfl) hk
  ·exact h4 _ _ (.inr rfl) hk
  ·match kids,a4,hk with
   |[k],_,hk=>exact h5 _ (hk k (by simp))
  ·match kids,a4,hk with
   |[a,b],_,hk=>exact h6 _ _ (hk a (by simp)) (hk b (by simp))
 ·obtain rfl:=List.eq_nil_of_length_eq_zero a3
  match kids,a4,hk with
  |[k],_,hk=>exact h7 _ _ _ a1 a5 (hk k (by simp))
theorem list_depth{l:List Sx}{k:Sx}(h:k∈l):k.depth+1≤(listM l).depth:=by
 have:=Sx.depths_mem 0 h;simp only[listM,Sx.depth,if_true];omega
theorem fmW_rest{op name:ByteArray}{args:List ByteArray}{params:List Pm}{exprs:List Ex}{kids:List Fm}(h1:bEq op opAtom=false)(h2:bEq op opSame=false)(h3:isCmp op=false): ∃ pre,fmW (.mk op name args params exprs kids)=listM (pre++kids.map fmW):=by
 unfold fmW;rw[h1,h2,h3,fmWs_map];exact⟨_,rfl⟩
theorem fmW_parts: ∀ f,shapedF f=true→match f with
  | .mk _ _ _ _ exprs kids=>1+Sx.nodess (exprs.map exW)+Sx.nodess (kids.map fmW)≤(fmW f).nodes∧1≤(fmW f).depth∧(∀ e∈exprs,(exW e).depth+1≤(fmW f).depth)∧(∀ k∈kids,(fmW k).depth+1≤(fmW f).depth):=by
 intro f hf;have d1: ∀ l:List Sx,1≤(listM l).depth:=fun l=>by simp only[listM,Sx.depth,if_true];omega
 have rest: ∀ {op:ByteArray}{params:List Pm}{kids:List Fm}{pre:List Sx},fmW (.mk op ⟨#[]⟩ [] params [] kids)=listM (pre++kids.map fmW)→
   1+Sx.nodess (([]:List Ex).map exW)+Sx.nodess (kids.map fmW)≤(fmW (.mk op ⟨#[]⟩ [] params [] kids)).nodes∧1≤(fmW (.mk op ⟨#[]⟩ [] params [] kids)).depth∧(∀ e∈([]:List Ex),(exW e).depth+1≤(fmW (.mk op ⟨#[]⟩ [] params [] kids)).depth)∧(∀ k∈kids,(fmW k).depth+1≤(fmW (.mk op ⟨#[]⟩ [] params [] kids)).depth):=by
  intro op params kids pre e;rw[e];refine⟨?_,d1 _,by simp,fun k hk=>list_depth (List.mem_append.2 (.inr (List.mem_map.2 ⟨k,hk,rfl⟩)))⟩;rw[list_nodes,nodess_append];simp only[List.map_nil,Sx.nodess];omega
 refine sf_cases (C:=fun f=>match f with
  | .mk _ _ _ _ exprs kids=>1+Sx.nodess (exprs.map exW)+Sx.nodess (kids.map fmW)≤(fmW f).nodes∧1≤(fmW f).depth∧(∀ e∈exprs,(exW e).depth+1≤(fmW f).depth)∧(∀ k∈kids,(fmW k).depth+1≤(fmW f).depth)) f hf ?_ ?_ ?_ ?_ ?_ ?_ ?_
 ·intro name args _ _;have e:fmW (.mk opAtom name args [] [] [])=wordsM name args:=rfl;simp only[e];exact⟨by simp only[wordsM,list_nodes,List.map_nil,Sx.nodess];omega,d1 _,by simp,by simp⟩
 ·intro args _ _;have e:fmW (.mk opSame ⟨#[]⟩ args [] [] [])=wordsM opEq args:=rfl;simp only[e];exact⟨by simp only[wordsM,list_nodes,List.map_nil,Sx.nodess];omega,d1 _,by simp,by simp⟩
 ·intro op a b ho _ _;have e:fmW (.mk op ⟨#[]⟩ [] [] [a,b] [])=listM [wordM op,exW a,exW b]:=by rcases ho with rfl|rfl|rfl<;>rfl
  simp only[e];refine⟨?_,d1 _,?_,by simp⟩
  ·simp only[list_nodes,List.map_cons,List.map_nil,Sx.nodess,word_nodes];omega
  ·intro x hx;simp only[List.mem_cons,List.not_mem_nil,or_false]at hx;rcases hx with rfl|rfl<;>exact list_depth (by simp)
 ·intro op kids ho _;obtain⟨pre,e⟩: ∃ pre,fmW (.mk op ⟨#[]⟩ [] [] [] kids)=listM (pre++kids.map fmW):=by rcases ho with rfl|rfl<;>exact fmW_rest rfl rfl rfl
  exact rest e
 ·intro k _;obtain⟨pre,e⟩: ∃ pre,fmW (.mk opNot ⟨#[]⟩ [] [] [] [k])=listM (pre++[k].map fmW):=fmW_rest rfl rfl rfl;exact rest e
 ·intro a b _ _;obtain⟨pre,e⟩: ∃ pre,fmW (.mk opImp ⟨#[]⟩ [] [] [] [a,b])=listM (pre++[a,b].map fmW):=fmW_rest rfl rfl rfl;exact rest e
 ·intro op params k ho _ _;obtain⟨pre,e⟩: ∃ pre,fmW (.mk op ⟨#[]⟩ [] params [] [k])=listM (pre++[k].map fmW):=by rcases ho with rfl|rfl<;>exact fmW_rest rfl rfl rfl
  exact rest e
theorem formeds_of: ∀ (l:List Ex),(∀ e∈l,shapedE e=true)→ ∀ (d n:Nat),(∀ e∈l,d+(exW e).depth≤32)→n+Sx.nodess (l.map exW)≤4096→(formedMs l d n).1=true∧(formedMs l d n).2≤n+Sx.nodess (l.map exW)
 |[],_,d,n,_,hn=>by simp[formedMs,Sx.nodess]
 |e::l,hs,d,n,hd,hn=>by
  simp only[List.map_cons,Sx.nodess]at hn⊢;obtain⟨f1,f2⟩:=formed_of e (hs e (by simp)) d n (hd e (by simp)) (by omega);unfold formedMs;cases hw:formedM e d n with
  |mk x c=>
   rw[hw]at f1 f2;simp only at f1 f2;subst f1;simp only;obtain⟨g1,g2⟩:=formeds_of l (fun q hq=>hs q (by simp[hq])) d c (fun q hq=>hd q (by simp[hq])) (by omega);exact⟨g1,by omega⟩
theorem shapeds_of: ∀ (l:List Fm)(d:Nat),(∀ k∈l, ∀ n,n+(fmW k).nodes≤4096→(shapedM k d n).1=true∧(shapedM k d n).2≤n+(fmW k).nodes)→ ∀ n,n+Sx.nodess (l.map fmW)≤4096→(shapedMs l d n).1=true∧(shapedMs l d n).2≤n+Sx.nodess (l.map fmW)
 |[],_,_,n,hn=>by simp[shapedMs,Sx.nodess]
 |k::l,d,h,n,hn=>by
  simp only[List.map_cons,Sx.nodess]at hn⊢;obtain⟨f1,f2⟩:=h k (by simp) n (by omega);unfold shapedMs;cases hw:shapedM k d n with
  |mk x c=>
   rw[hw]at f1 f2;simp only at f1 f2;subst f1;simp only;obtain⟨g1,g2⟩:=shapeds_of l d (fun q hq=>h q (by simp[hq])) c (by omega);exact⟨g1,by omega⟩
theorem shaped_of: ∀ (f:Fm),shapedF f=true→ ∀ (d n:Nat),d+(fmW f).depth≤32→n+(fmW f).nodes≤4096→(shapedM f d n).1=true∧(shapedM f d n).2≤n+(fmW f).nodes:=by
 refine Fm.ind ?_;intro op name args params exprs kids ih hs d n hd hn;have hp:=fmW_parts _ hs;simp only at hp;obtain⟨p1,p2,p3,p4⟩:=hp;have hs2:=hs;simp only[shapedF,Bool.and_eq_true,List.all_eq_true]at hs2;obtain⟨⟨h1,h2⟩,h3⟩:=hs2;rw[shapedFs_iff]at h3;generalize fmW (.mk op name args params exprs kids)=X at*;unfold shapedM;rw[if_pos ⟨by omega,by omega⟩,if_pos h1];obtain⟨f1,f2⟩:=formeds_of exprs h2 (d+1) (n+1) (fun e he=>by have:=p3 e he;omega) (by omega);cases hw:formedMs exprs (d+1) (n+1)with
 |mk x c=>
  rw[hw]at f1 f2;simp only at f1 f2;subst f1;simp only;obtain⟨g1,g2⟩:=shapeds_of kids (d+1) (fun k hk m hm=>ih k hk (h3 k hk) (d+1) m (by have:=p4 k hk;omega) hm) c (by omega);exact⟨g1,by omega⟩
theorem validF_same{f:Fm}(hn:(fmW f).nodes≤bigN):validF f=(shapedF f&&rvalidB (fmW f)):=by
 unfold validF;rw[valid_same hn];cases hs:shapedF f with
 |false=>
  have:(shapedM f 0 0).1=false:=by
   cases h:(shapedM f 0 0).1 with
   |false=>rfl
   |true=>rw[shapedM_F f 0 0 h]at hs;simp at hs
  simp only[this,Bool.false_and]
 |true=>
  cases hv:rvalidB (fmW f)with
  |false=>simp
  |true=>
   have h1:=(svalid_iff (fmW f) 0 0 (by omega) (by omega)).1.1 (by rw[valid_same hn];exact hv);rw[(shaped_of f hs 0 0 h1.2.1 h1.2.2).1]
end Go.Proofs.YtblgchkahpgdjaaGreat
