/- What the claim rests on, part 7: the abstract machine, contracts of the functions, plain data. -/
import Derived.Test.YtblgchkahpgdjaaGreatZn6
set_option linter.unusedVariables false
set_option linter.unusedSimpArgs false
set_option linter.unusedSectionVars false
namespace Go.Proofs.YtblgchkahpgdjaaGreat
open Go.AM
set_option maxHeartbeats 8000000
set_option maxRecDepth 20000
theorem ch_in(n:Nat)(c:Ch):inNL n (chRow c):=by
 obtain⟨k,P,⟨gop,gna,gar,gpa,gex,gki⟩,nm,a,⟨eop,ena,en,ear,eki⟩⟩:=c;simp only[chRow,Fm.cells,Ex.cells,List.cons_append,List.nil_append,inNL,inN,true_and,and_true];exact⟨pms_in _ _,strs_in _ _,pms_in _ _,exs_in _ _,fms_in _ _,strs_in _ _,strs_in _ _,exs_in _ _⟩
theorem ch_frz(n:Nat)(h:Heap)(c:Ch):FrzL n h (chRow c) (chRow c):=by
 obtain⟨k,P,⟨gop,gna,gar,gpa,gex,gki⟩,nm,a,⟨eop,ena,en,ear,eki⟩⟩:=c;simp only[chRow,Fm.cells,Ex.cells,List.cons_append,List.nil_append,FrzL,FrzTo,true_and,and_true];exact⟨.inl (pms_in _ _),.inl (strs_in _ _),.inl (pms_in _ _),.inl (exs_in _ _),.inl (fms_in _ _),.inl (strs_in _ _),.inl (strs_in _ _),.inl (exs_in _ _)⟩
theorem chs_in(n:Nat): ∀ l:List Ch,inNR n (chRows l)
 |[]=>by simp only[chRows,List.map_nil,inNR]
 |c::l=>by
  have:=chs_in n l;simp only[chRows,List.map_cons,inNR]at this⊢;exact⟨ch_in n c,this⟩
theorem chs_frz(n:Nat)(h:Heap): ∀ l:List Ch,FrzR n h (chRows l) (chRows l)
 |[]=>by simp only[chRows,List.map_nil,FrzR]
 |c::l=>by
  have:=chs_frz n h l;simp only[chRows,List.map_cons,FrzR]at this⊢;exact⟨ch_frz n h c,this⟩
theorem schange_c{P:List Pm}{W:List Fm}{k:Int}{n:ByteArray}{a:List ByteArray}{v:Ex}(hp:P.length≤1099511627776)(hwl:W.length≤1099511627776)(h:Heap):
  PCall Tryz.prog 114 [.agg [.imm 2 (pmRows P),.imm 6 (Fm.rows W)],.sc (.int .i64 k),sPV n,.imm 1 (strRows a),.agg v.cells] h fun r h'=>r= .agg (chRow (chgS ⟨P,W⟩ k n a v))∧h'=h:=by
 refine PCall.frz Ty.hb_114 ?_;have hcP:=fun h:Heap=>cloneP_q (l:=P) hp h;have hcF:=fun h:Heap=>cloneF_q (l:=W) hwl h;have hda:=fun h:Heap=>dalways_c (h:=h);simp only[andFm,Fm.cells,strRows,pmRows,Ex.rows,Fm.rows,List.map_nil]at hda;have hwl2:=Fm.rows_len W;have fin: ∀ (H:Heap)(c:Ch)(z:AObj),Grow h H→c=chgS ⟨P,W⟩ k n a v→FrzTo h.next (H.set h.next (.arr 15 [chRow c])) (.agg (chRow (chgS ⟨P,W⟩ k n a v))) (.agg (chRow c))∧Grow h (H.set h.next (.arr 15 [chRow c])):=fun H c z g e=>⟨by
  rw[← e];simp only[FrzTo];exact⟨_,rfl,ch_frz _ _ _⟩,g.set (Nat.le_refl _) _⟩
 obtain⟨eop,ena,en,ear,eki⟩:=v;simp only[Ex.cells]at fin⊢;cases W with
 |nil=>
  have q0:(((Fm.rows []).length:Int)==0)=true:=rfl;have fin0:=fun H g=>fin H ⟨k,P,andFm,n,a,.mk eop ena en ear eki⟩ (.arr 0 []) g rfl;generalize chgS ⟨P,[]⟩ k n a (.mk eop ena en ear eki)=C at fin0⊢;simp only[chRow,andFm,Fm.cells,Ex.cells,List.cons_append,List.nil_append,strRows,pmRows,Ex.rows,Fm.rows,List.map_nil]at fin0;generalize Fm.rows []=R at q0⊢;refine uG0 Tryz.func114 Tryz.ntmps114 Tryz.results114 Ty.hb_114 ?_;repeat'(first|refine G fun K J=>?_|refine uR trivial ?_|refine uD trivial ?_|(refine O J ?_;clear J)|apply zI)
  first|refine uV trivial (hcP _) ?_|refine uA trivial (hcP _) ?_
  try apply zI
  first|refine uV trivial (hda _) ?_|refine uA trivial (hda _) ?_
  refine⟨?_,?_⟩
  ·simp only[List.forall_mem_cons,Ty.w,simprocAttr,Ty.all]
   (repeat' apply And.intro)<;>first
    |exact .inl (by decide+kernel)
    |exact .inr (Does_use (hcP _) (by(try simp only[Ty.w,simprocAttr]);try rfl))
    |exact .inr (Does_use (hda _) (by(try simp only[Ty.w,simprocAttr]);try rfl))
    |exact .inr trivial
    |exact fun _ hx=>nomatch hx
  replace Z:=U q0 @nsucc;repeat'(first|refine G fun K J=>?_|refine a_block ?_|refine uR Z ?_|refine uT Z ?_|refine uK ?_|(refine O J ?_;clear J)|refine uB Z ?_|apply zI)
  exact fin0 _ (((((Grow.refl h).new _).new _).set (by omega) _))
 |cons f W2=>
  cases W2 with
  |nil=>
   have q0:(((Fm.rows [f]).length:Int)==0)=false:=rfl;have q1:(((Fm.rows [f]).length:Int)==1)=true:=rfl;have q2:((0:Int)<((Fm.rows [f]).length:Int))=True:=eq_true (by rw[hwl2];simp);have r0:(Fm.rows [f])[0]? =some f.cells:=rfl;have fin0:=fun H g=>fin H ⟨k,P,f,n,a,.mk eop ena en ear eki⟩ (.arr 0 []) g rfl;generalize chgS ⟨P,[f]⟩ k n a (.mk eop ena en ear eki)=C at fin0⊢;obtain⟨gop,gna,gar,gpa,gex,gki⟩:=f;simp only[chRow,Fm.cells,Ex.cells,List.cons_append,List.nil_append]at fin0 r0;generalize Fm.rows [_]=R at q0 q1 q2 r0⊢;refine uG0 Tryz.func114 Tryz.ntmps114 Tryz.results114 Ty.hb_114 ?_;(repeat'(first|refine G fun K J=>?_|refine uR trivial ?_|refine uD trivial ?_|(refine O J ?_;clear J)|apply zI));(first|refine uV trivial (hcP _) ?_|refine uA trivial (hcP _) ?_);(try apply zI);(first|refine uV trivial (hda _) ?_|refine uA trivial (hda _) ?_);refine⟨?_,?_⟩
   ·simp only[List.forall_mem_cons,Ty.w,simprocAttr,Ty.all]
    (repeat' apply And.intro)<;>first
     |exact .inl (by decide+kernel)
     |exact .inr (Does_use (hcP _) (by(try simp only[Ty.w,simprocAttr]);try rfl))
     |exact .inr (Does_use (hda _) (by(try simp only[Ty.w,simprocAttr]);try rfl))
     |exact .inr trivial
     |exact fun _ hx=>nomatch hx
   replace Z:=U q0 (U q1 (U q2 (U r0 @nsucc)));(repeat'(first|refine G fun K J=>?_|refine a_block ?_|refine uR Z ?_|refine uQ Z fun K J=>?_|refine uT Z ?_|(refine O J ?_;clear J)|refine uB Z ?_|apply zI));exact fin0 _ ((((((Grow.refl h).new _).new _).set (by omega) _).set (by omega) _))
  |cons g W3=>
   have q0:(((Fm.rows (f::g::W3)).length:Int)==0)=false:=(by rw[hwl2];simp;omega);have q1:(((Fm.rows (f::g::W3)).length:Int)==1)=false:=(by rw[hwl2];simp;omega);have fin0:=fun H g'=>fin H ⟨k,P,.mk opAnd ⟨#[]⟩ [] [] [] (f::g::W3),n,a,.mk eop ena en ear eki⟩ (.arr 0 []) g' rfl;generalize chgS ⟨P,f::g::W3⟩ k n a (.mk eop ena en ear eki)=C at fin0⊢;simp only[chRow,Fm.cells,Ex.cells,List.cons_append,List.nil_append,strRows,pmRows,Ex.rows,List.map_nil]at fin0;simp only[strRows,pmRows]at hcP hcF hda⊢;generalize Fm.rows (f::g::W3)=R at q0 q1 fin0 hcF⊢;refine uG0 Tryz.func114 Tryz.ntmps114 Tryz.results114 Ty.hb_114 ?_;(repeat'(first|refine G fun K J=>?_|refine uR trivial ?_|refine uD trivial ?_|(refine O J ?_;clear J)|apply zI));(first|refine uV trivial (hcP _) ?_|refine uA trivial (hcP _) ?_);(try apply zI);(first|refine uV trivial (hda _) ?_|refine uA trivial (hda _) ?_);refine⟨?_,?_⟩
   ·simp only[List.forall_mem_cons,Ty.w,simprocAttr,Ty.all]
    (repeat' apply And.intro)<;>first
     |exact .inl (by decide+kernel)
     |exact .inr (Does_use (hcP _) (by(try simp only[Ty.w,simprocAttr]);try rfl))
     |exact .inr (Does_use (hda _) (by(try simp only[Ty.w,simprocAttr]);try rfl))
     |exact .inr trivial
     |exact fun _ hx=>nomatch hx
   replace Z:=U q0 (U q1 @nsucc);(repeat'(first|refine G fun K J=>?_|refine a_block ?_|refine uR Z ?_|refine uQ Z fun K J=>?_|(refine O J ?_;clear J)|refine uB Z ?_|apply zI));refine uU @nsucc (hcF _) ?_;(repeat'(first|refine G fun K J=>?_|((first|refine a_regionS ?_|refine a_ret ?_);simp(maxSteps:=2000000) only[Ty.w,simprocAttr,nsucc,putC])|(refine J _ _ ?_;clear J;(try simp only[pst0,simprocAttr]))));exact fin0 _ ((((((Grow.refl h).new _).new _).set (by omega) _).set (by omega) _))
theorem errP_ne{c:Int}(h:(c==0)=false):errP c=errV c:=by simp only[errP,h,cond_false]
theorem errP_z{c:Int}(h:(c==0)=true):errP c= .sc .nilIface:=by simp only[errP,h,cond_true]
theorem efBad_frz{n:Nat}{H:Heap}{c:Int}(hc:(c==0)=false):FrzTo n H (.tup [.imm 15 (chRows []),errP c]) (.tup [.sc (.slice none 0 0),errV c]):=by
 rw[errP_ne hc];simp only[errV,chRows,List.map_nil,FrzTo,FrzL];exact⟨_,rfl,.inr (.inl ⟨rfl,.inr rfl⟩),rfl,trivial⟩
theorem efOk_frz{n:Nat}{H:Heap}{l:List Ch}{c:Int}(hc:(c==0)=true):FrzTo n H (.tup [.imm 15 (chRows l),errP c]) (.tup [.imm 15 (chRows l),.sc .nilIface]):=by
 rw[errP_z hc];simp only[FrzTo,FrzL];exact⟨_,rfl,.inl ⟨rfl,chs_in _ _⟩,rfl,trivial⟩
theorem snumeric_c{P:List Pm}{W:List Fm}{k:Int}(hp:P.length≤1099511627776)(hwl:W.length≤1099511627776){kind value line col:Int}{text:ByteArray}{y:Sx}{rest:List Sx}
  (hok: ∀ z∈rest,z.ok)(hsm: ∀ z∈rest,z.small)(hl:rest.length≤1048576)(h:Heap):
  PCall Tryz.prog 110 [.agg [.imm 2 (pmRows P),.imm 6 (Fm.rows W)],.sc (.int .i64 k),.agg [.sc (.int .i64 kind),.sc (.int .i64 value),.sc (.int .i64 line),.sc (.int .i64 col),sPV text,.imm 6 (Sx.rows (y::rest))]] h fun r h'=>
   r= .tup [.imm 15 (chRows (numP ⟨P,W⟩ k rest).1),errP (numP ⟨P,W⟩ k rest).2]∧h'=h:=by
 refine PCall.frz Ty.hb_110 ?_;have hlen:=Sx.rows_len (y::rest);generalize hF:numP ⟨P,W⟩ k rest=F;cases q3:(((Sx.rows (y::rest)).length:Int) !=3)with
 |true=>
  have e:F=([],2):=by
   rw[← hF]
   match rest,q3,hlen with
   |[],_,_=>rfl
   |[_],_,_=>rfl
   |[_,_],q,hlen=>rw[hlen]at q;simp at q
   |_::_::_::_,_,_=>rfl
  subst e;generalize Sx.rows (y::rest)=R at q3⊢;refine uG0 Tryz.func110 Tryz.ntmps110 Tryz.results110 Ty.hb_110 ?_;repeat'(first|refine G fun K J=>?_|refine uR q3 ?_|refine uT q3 ?_|(refine O J ?_;clear J)|apply zI)
  exact⟨efBad_frz (c:=2) rfl,Grow.refl _⟩
 |false=>
  obtain⟨a,e,rfl⟩: ∃ a e,rest=[a,e]:=by
   match rest,q3,hlen with
   |[],q,hlen=>rw[hlen]at q;simp at q
   |[_],q,hlen=>rw[hlen]at q;simp at q
   |[a,e],_,_=>exact⟨a,e,rfl⟩
   |_::_::_::l,q,hlen=>rw[hlen]at q;simp at q;omega
  have ca:=fun h:Heap=>datom_c (hok a (by simp)) (hsm a (by simp)) h;have ce:=fun h:Heap=>ParseExpr_c (x:=e) (hok e (by simp)) h;have r1:=Sx.rows_get (l:=[y,a,e]) (i:=1) rfl;have r2:=Sx.rows_get (l:=[y,a,e]) (i:=2) rfl;have d1:((1:Int)<((Sx.rows [y,a,e]).length:Int))=True:=eq_true (by rw[hlen];simp);have d2:((2:Int)<((Sx.rows [y,a,e]).length:Int))=True:=eq_true (by rw[hlen];simp);simp only[numP]at hF;generalize Sx.rows [y,a,e]=R at q3 r1 r2 d1 d2⊢;generalize dAtomP a=A at ca hF;obtain⟨an,aa,ac⟩:=A;have cc:=fun(v:Ex)(h:Heap)=>schange_c (k:=k) (n:=an) (a:=aa) (v:=v) hp hwl h;obtain⟨ak,av,al,aco,atx,ass⟩:=a;simp only[atomV,Sx.cells]at ca r1;simp only at hF;cases z1:(ac==0)with
  |false=>
   rw[z1,cond_false]at hF;subst hF;rw[errP_ne z1]at ca;simp only[errV]at ca;refine uG0 Tryz.func110 Tryz.ntmps110 Tryz.results110 Ty.hb_110 ?_;replace Z:=U q3 (U r1 d1);(repeat'(first|refine G fun K J=>?_|refine uR Z ?_|refine uK ?_|refine uC1 Z ?_|(refine O J ?_;clear J)|apply zI));refine uU (U r1 d1) (ca _) ?_;(repeat'(first|refine G fun K J=>?_|refine uR @nsucc ?_|refine uT @nsucc ?_|(refine O J ?_;clear J)|apply zI));exact⟨efBad_frz z1,Grow.refl _⟩
  |true=>
   rw[z1,cond_true]at hF;rw[errP_z z1]at ca;generalize parseE e=E at ce hF;obtain⟨ev,ec⟩:=E;obtain⟨ek,eva,el,eco,et,es⟩:=e;simp only[Sx.cells]at ce r2;simp only at hF;cases z2:(ec==0)with
   |false=>
    rw[z2,cond_false]at hF;subst hF;rw[errP_ne z2]at ce;obtain⟨eop,ena,en,ear,eki⟩:=ev;simp only[errV,Ex.cells]at ce;refine uG0 Tryz.func110 Tryz.ntmps110 Tryz.results110 Ty.hb_110 ?_;replace Z:=U q3 (U r1 d1);(repeat'(first|refine G fun K J=>?_|refine uR Z ?_|refine uK ?_|refine uC1 Z ?_|(refine O J ?_;clear J)|apply zI));refine uU (U r1 d1) (ca _) ?_;replace Z:=U r2 d2;(repeat'(first|refine G fun K J=>?_|refine uR Z ?_|refine uK ?_|refine uC1 Z ?_|(refine O J ?_;clear J)|apply zI));refine uU (U r2 d2) (ce _) ?_;(repeat'(first|refine G fun K J=>?_|refine uR @nsucc ?_|refine uT @nsucc ?_|(refine O J ?_;clear J)|apply zI));exact⟨efBad_frz z2,((Grow.refl h).new _).set (Nat.le_refl _) _⟩
   |true=>
    rw[z2,cond_true]at hF;rw[errP_z z2]at ce;have cc:=cc ev;have efin:=fun H=>efOk_frz (n:=h.next) (H:=H) (l:=F.1) (c:=F.2) (by rw[← hF];try rfl);subst hF;generalize chgS ⟨P,W⟩ k an aa ev=C at cc efin⊢;obtain⟨eop,ena,en,ear,eki⟩:=ev;obtain⟨ck,cP,⟨gop,gna,gar,gpa,gex,gki⟩,cn,cargs,⟨vop,vna,vn,var,vki⟩⟩:=C;simp only[chRow,chRows,List.map_cons,List.map_nil,Fm.cells,Ex.cells,List.cons_append,List.nil_append]at ce cc efin⊢;refine uG0 Tryz.func110 Tryz.ntmps110 Tryz.results110 Ty.hb_110 ?_;replace Z:=U q3 (U r1 d1);(repeat'(first|refine G fun K J=>?_|refine uR Z ?_|refine uK ?_|refine uC1 Z ?_|(refine O J ?_;clear J)|apply zI));refine uU (U r1 d1) (ca _) ?_;replace Z:=U r2 d2;(repeat'(first|refine G fun K J=>?_|refine uR Z ?_|refine uK ?_|refine uC1 Z ?_|(refine O J ?_;clear J)|apply zI));refine uU (U r2 d2) (ce _) ?_;(repeat'(first|refine G fun K J=>?_|refine uR @nsucc ?_|refine uK ?_|refine uC1 @nsucc ?_|(refine O J ?_;clear J)|apply zI));refine uU @nsucc (cc _) ?_;(repeat'(first|refine uT @nsucc ?_|(refine O J ?_;clear J)|apply zI));exact⟨efin _,((Grow.refl h).new _).set (Nat.le_refl _) _⟩
def Emp3(z:Nat)(rows:List (List PV))(q:PV):Prop:=(∃ a cap,q= .sc (.slice a 0 cap)∧rows=[])∨(q= .imm z rows∧rows≠[])
theorem Emp3.pc{z:Nat}{rows:List (List PV)}{q:PV}(h:Emp3 z rows q):q.cells=[q]∧oneC q=true:=by
 rcases h with⟨_,_,rfl,_⟩|⟨rfl,_⟩<;>exact⟨rfl,rfl⟩
theorem PCall.nilAgg{P:Program}{f:FuncId}{z:Nat}{h:Heap}{K:PV→Heap→Prop}{pre post rest:List PV}(h0: ∀ a cap,PCall P f (.agg (pre++ .sc (.slice a 0 cap)::post)::rest) h K):PCall P f (.agg (pre++ .imm z []::post)::rest) h K:=by
 intro β w vals sm hr;cases vals with
 |nil=>simp[RepL]at hr
 |cons v vals=>
  simp only[RepL,Rep]at hr;obtain⟨⟨xs,rfl,h1,h2⟩,h3⟩:=hr;obtain⟨a,cap,hx⟩:=RepL.nil_split h2;exact h0 a cap β w _ sm (by simp only[RepL,Rep];exact⟨⟨xs,rfl,h1,hx⟩,h3⟩)
theorem c0F_none(cap:Nat)(h:Heap):PCall Tryz.prog 149 [.sc (.slice none 0 cap)] h fun r h'=>r= .sc (.slice none 0 0)∧h'=h:=by
 refine uG0 Tryz.func149 Tryz.ntmps149 Tryz.results149 Ty.hb_149 ?_;repeat'(first|refine G fun K J=>?_|((first|refine a_regionS ?_|refine a_ret ?_);simp(maxSteps:=2000000) only[Ty.w,simprocAttr,peq_none])|(refine J _ _ ?_;clear J;(try simp only[pst0,simprocAttr])))
theorem c0F_some(x:Addr)(cap:Nat)(h:Heap):PCall Tryz.prog 149 [.sc (.slice (some x) 0 cap)] h fun r h'=>r= .own h.next 0 0∧h'=h.new (.arr 6 []):=by
 refine uG0 Tryz.func149 Tryz.ntmps149 Tryz.results149 Ty.hb_149 ?_;repeat'(first|refine G fun K J=>?_|((first|refine a_regionS ?_|refine a_ret ?_);simp(maxSteps:=2000000) only[Ty.w,simprocAttr,peq_some,view_some,zOk_some])|(refine a_skip ?_;(try simp only[pst0,simprocAttr]))|(refine a_cond _ (by(try simp(maxSteps:=2000000) only[Ty.w,simprocAttr,peq_some,view_some,zOk_some]);rfl) (fun hb=>?_) (fun hb=>?_)<;>(try simp only[hb0,decide_eq_true_eq,decide_eq_false_iff_not,simprocAttr]at hb)<;>(try(exfalso;omega)))|(refine J _ _ ?_;clear J;(try simp only[pst0,simprocAttr])))
theorem c1F{R:List (List PV)}{n:Nat}(hR:R.length=n+1)(hn:n≤1048576)(h:Heap):PCall Tryz.prog 149 [.imm 6 R] h fun r h'=>r= .own h.next 0 (n+1)∧h'=h.new (.arr 6 R):=by
 have h0:(0<R.length)=True:=by rw[hR];simp
 have hb:(n+1)*128≤140737488355328:=by omega
 refine uG0 Tryz.func149 Tryz.ntmps149 Tryz.results149 Ty.hb_149 ?_;replace Z:=U h0 (U hR (U hb @Nat.zero_add));repeat'(first|refine G fun K J=>?_|refine uR Z ?_|refine uT Z ?_|refine uK ?_|refine uC1 Z ?_|(refine O J ?_;clear J)|(rw[if_pos];rotate_left 1;omega;simp(maxSteps:=2000000) only[Ty.w,simprocAttr,h0,hR,hb,Nat.zero_add])|apply zI)
theorem ctF{R:List (List PV)}{q:PV}(hq:Emp3 6 R q)(hl:R.length≤1048576)(h:Heap): ∃ v h1,(PCall Tryz.prog 149 [q] h fun r h'=>r=v∧h'=h1)∧Grow h h1∧Tl h1 h.next 6 v R:=by
 rcases hq with⟨a,cap,rfl,rfl⟩|⟨rfl,hne⟩
 ·cases a with
  |none=>exact⟨_,_,c0F_none cap h,Grow.refl _,Tl.nil⟩
  |some x=>exact⟨_,_,c0F_some x cap h,(Grow.refl h).new _,Tl.grow (Nat.le_refl _) rfl⟩
 ·obtain ⟨n,hn⟩: ∃ n,R.length=n+1:=⟨R.length-1,by have:=List.length_pos_iff.2 hne;omega⟩;exact⟨_,_,c1F hn (by omega) h,(Grow.refl h).new _,Tl.grow (Nat.le_refl _) hn.symm⟩
theorem c0P_none(cap:Nat)(h:Heap):PCall Tryz.prog 150 [.sc (.slice none 0 cap)] h fun r h'=>r= .sc (.slice none 0 0)∧h'=h:=by
 refine uG0 Tryz.func150 Tryz.ntmps150 Tryz.results150 Ty.hb_150 ?_;repeat'(first|refine G fun K J=>?_|((first|refine a_regionS ?_|refine a_ret ?_);simp(maxSteps:=2000000) only[Ty.w,simprocAttr,peq_none])|(refine J _ _ ?_;clear J;(try simp only[pst0,simprocAttr])))
theorem c0P_some(x:Addr)(cap:Nat)(h:Heap):PCall Tryz.prog 150 [.sc (.slice (some x) 0 cap)] h fun r h'=>r= .own h.next 0 0∧h'=h.new (.arr 2 []):=by
 refine uG0 Tryz.func150 Tryz.ntmps150 Tryz.results150 Ty.hb_150 ?_;repeat'(first|refine G fun K J=>?_|((first|refine a_regionS ?_|refine a_ret ?_);simp(maxSteps:=2000000) only[Ty.w,simprocAttr,peq_some,view_some,zOk_some])|(refine a_skip ?_;(try simp only[pst0,simprocAttr]))|(refine a_cond _ (by(try simp(maxSteps:=2000000) only[Ty.w,simprocAttr,peq_some,view_some,zOk_some]);rfl) (fun hb=>?_) (fun hb=>?_)<;>(try simp only[hb0,decide_eq_true_eq,decide_eq_false_iff_not,simprocAttr]at hb)<;>(try(exfalso;omega)))|(refine J _ _ ?_;clear J;(try simp only[pst0,simprocAttr])))
theorem c1P{R:List (List PV)}{n:Nat}(hR:R.length=n+1)(hn:n≤1048576)(h:Heap):PCall Tryz.prog 150 [.imm 2 R] h fun r h'=>r= .own h.next 0 (n+1)∧h'=h.new (.arr 2 R):=by
 have h0:(0<R.length)=True:=by rw[hR];simp
 have hb:(n+1)*32≤140737488355328:=by omega
 refine uG0 Tryz.func150 Tryz.ntmps150 Tryz.results150 Ty.hb_150 ?_;replace Z:=U h0 (U hR (U hb @Nat.zero_add));repeat'(first|refine G fun K J=>?_|refine uR Z ?_|refine uT Z ?_|refine uK ?_|refine uC1 Z ?_|(refine O J ?_;clear J)|(rw[if_pos];rotate_left 1;omega;simp(maxSteps:=2000000) only[Ty.w,simprocAttr,h0,hR,hb,Nat.zero_add])|apply zI)
theorem ctP{R:List (List PV)}{q:PV}(hq:Emp3 2 R q)(hl:R.length≤1048576)(h:Heap): ∃ v h1,(PCall Tryz.prog 150 [q] h fun r h'=>r=v∧h'=h1)∧Grow h h1∧Tl h1 h.next 2 v R:=by
 rcases hq with⟨a,cap,rfl,rfl⟩|⟨rfl,hne⟩
 ·cases a with
  |none=>exact⟨_,_,c0P_none cap h,Grow.refl _,Tl.nil⟩
  |some x=>exact⟨_,_,c0P_some x cap h,(Grow.refl h).new _,Tl.grow (Nat.le_refl _) rfl⟩
 ·obtain ⟨n,hn⟩: ∃ n,R.length=n+1:=⟨R.length-1,by have:=List.length_pos_iff.2 hne;omega⟩;exact⟨_,_,c1P hn (by omega) h,(Grow.refl h).new _,Tl.grow (Nat.le_refl _) hn.symm⟩
theorem errP_frz(n:Nat)(H:Heap)(c:Int):FrzTo n H (errP c) (errP c):=by
 unfold errP;cases c==0 with
 |true=>simp only[cond_true,FrzTo]
 |false=>simp only[cond_false,errV,FrzTo]
theorem eff_frz(n:Nat)(H:Heap)(l:List Ch)(c:Int):FrzTo n H (.tup [.imm 15 (chRows l),errP c]) (.tup [.imm 15 (chRows l),errP c]):=by
 have:=errP_frz n H c;simp only[FrzTo,FrzL]at this⊢;exact⟨_,rfl,.inl ⟨rfl,chs_in _ _⟩,this,trivial⟩
theorem Sx.nodes_pos(x:Sx):0<x.nodes:=by cases x;simp only[Sx.nodes];omega
theorem Fm.rows_app(l m:List Fm):Fm.rows (l++m)=Fm.rows l++Fm.rows m:=by simp[Fm.rows_map]
def EffC(x:Sx):Prop:= ∀ (P:List Pm)(W:List Fm),P.length+x.nodes≤1048576→W.length+x.nodes≤1048576→ ∀ h:Heap,
 PCall Tryz.prog 53 [.agg [.imm 2 (pmRows P),.imm 6 (Fm.rows W)],.agg x.cells] h fun r h'=>r= .tup [.imm 15 (chRows (effP x ⟨P,W⟩).1),errP (effP x ⟨P,W⟩).2]∧h'=h
theorem paramsL_len(vars:Bool): ∀ (n:Nat)(l:List Sx),l.length≤n→ ∀ (don:List Pm)(pen:List ByteArray),(paramsL vars l don pen).1.length≤don.length+pen.length+l.length
 |_,[],_,don,pen=>by simp[paramsL,pmsOf]
 |0,_::_,h,_,_=>by simp at h
 |n+1,x::l,h,don,pen=>by
  simp only[List.length_cons]at h;have ih:=paramsL_len vars n;rw[paramsL.eq_def];simp only;cases isWrd x with
  |false=>simp only[cond_false,List.length_nil];omega
  |true=>
   simp only[cond_true];cases bEq (textOf x) opMin with
   |true=>
    simp only[cond_true]
    match l,h with
    |[],_=>simp only[List.length_nil];omega
    |t::l',h=>
     simp only[List.length_cons]at h;simp only;cases !pen.isEmpty&&isWrd t with
     |false=>simp only[cond_false,List.length_nil];omega
     |true=>
      simp only[cond_true];cases typedB (textOf t)with
      |false=>simp only[cond_false,List.length_nil];omega
      |true=>
       have:=ih l' (by omega) (don++pmsOf (textOf t) pen) [];simp only[cond_true,List.length_append,pmsOf,List.length_map,List.length_nil,List.length_cons]at this⊢;omega
   |false=>
    simp only[cond_false];cases(bif vars then varB (textOf x)else nameB (textOf x))with
    |false=>simp only[cond_false,List.length_nil];omega
    |true=>
     have:=ih l (by omega) don (pen++[textOf x]);simp only[cond_true,List.length_append,List.length_nil,List.length_cons]at this⊢;omega
theorem paramsP_len(vars:Bool)(l:List Sx):(paramsP vars l).1.length≤l.length:=by
 have:=paramsL_len vars l.length l (Nat.le_refl _) [] [];unfold paramsP;simpa using this
theorem pms_frz(n:Nat)(h:Heap)(l:List Pm):FrzR n h (pmRows l) (pmRows l):=FrzR_sc _ (pms_scal l)
theorem Sx.len_nodess: ∀ l:List Sx,l.length≤Sx.nodess l
 |[]=>Nat.le_refl _
 |x::l=>by
  have:=Sx.len_nodess l;have:=Sx.nodes_pos x;simp only[Sx.nodess,List.length_cons];omega
def whenP(P:List Pm)(W:List Fm):List Sx→List Ch × Int
 |[f,e]=>bif (parseF f).2==0 then effP e ⟨P,W++[(parseF f).1]⟩else([],(parseF f).2)
 |_=>([],2)
theorem swhen_c{P:List Pm}{W:List Fm}{kind value line col:Int}{text:ByteArray}{y:Sx}{rest:List Sx}(hE: ∀ e∈rest,EffC e)
  (hok: ∀ z∈rest,z.ok)(hp:P.length+Sx.nodess rest≤1048576)(hwl:W.length+Sx.nodess rest≤1048576)(h:Heap):
  PCall Tryz.prog 111 [.agg [.imm 2 (pmRows P),.imm 6 (Fm.rows W)],.agg [.sc (.int .i64 kind),.sc (.int .i64 value),.sc (.int .i64 line),.sc (.int .i64 col),sPV text,.imm 6 (Sx.rows (y::rest))]] h fun r h'=>
   r= .tup [.imm 15 (chRows (whenP P W rest).1),errP (whenP P W rest).2]∧h'=h:=by
 refine PCall.frz Ty.hb_111 ?_;have hlen:=Sx.rows_len (y::rest);generalize hF:whenP P W rest=F;have main: ∀ q,Emp3 6 (Fm.rows W) q→PCall Tryz.prog 111 [.agg [.imm 2 (pmRows P),q],.agg [.sc (.int .i64 kind),.sc (.int .i64 value),.sc (.int .i64 line),.sc (.int .i64 col),sPV text,.imm 6 (Sx.rows (y::rest))]] h fun r h'=>FrzTo h.next h' (.tup [.imm 15 (chRows F.1),errP F.2]) r∧Grow h h':=by
  intro q hq;obtain⟨q1,q2⟩:=hq.pc;cases q3:(((Sx.rows (y::rest)).length:Int) !=3)with
  |true=>
   have e:F=([],2):=by
    rw[← hF]
    match rest,q3,hlen with
    |[],_,_=>rfl
    |[_],_,_=>rfl
    |[_,_],q,hlen=>rw[hlen]at q;simp at q
    |_::_::_::_,_,_=>rfl
   subst e;(try clear Z);clear hE hF;generalize Sx.rows (y::rest)=R at q3⊢;refine uG (ow:=fun t=>t==2) (wf:=fun f=>f==150||f==149) Tryz.func111 Tryz.ntmps111 Tryz.results111 Ty.hb_111 ?_;replace Z:=U q1 (U q2 q3);(repeat'(first|refine G fun K J=>?_|refine uR Z ?_|refine uT Z ?_|(refine O J ?_;clear J)|apply zI));exact⟨efBad_frz (c:=2) rfl,(Grow.refl h).new _⟩
  |false=>
   obtain⟨f,e,rfl⟩: ∃ a e,rest=[a,e]:=by
    match rest,q3,hlen with
    |[],q,hlen=>rw[hlen]at q;simp at q
    |[_],q,hlen=>rw[hlen]at q;simp at q
    |[a,e],_,_=>exact⟨a,e,rfl⟩
    |_::_::_::l,q,hlen=>rw[hlen]at q;simp at q;omega
   have cf:=fun h:Heap=>Parse_c (x:=f) (hok f (by simp)) h;have hEe:=hE e (by simp);simp only[Sx.nodess,Nat.add_zero]at hp hwl;have hfn:=Sx.nodes_pos f;have r1:=Sx.rows_get (l:=[y,f,e]) (i:=1) rfl;have r2:=Sx.rows_get (l:=[y,f,e]) (i:=2) rfl;have d1:((1:Int)<((Sx.rows [y,f,e]).length:Int))=True:=eq_true (by rw[hlen];simp);have d2:((2:Int)<((Sx.rows [y,f,e]).length:Int))=True:=eq_true (by rw[hlen];simp);simp only[whenP]at hF;generalize Sx.rows [y,f,e]=R at q3 r1 r2 d1 d2⊢;generalize parseF f=E at cf hF;obtain⟨ev,ec⟩:=E;simp only at hF cf;have hwl2:=Fm.rows_len W;have hEe:=hEe P (W++[ev]) (by omega) (by simp only[List.length_append,List.length_cons,List.length_nil];omega);obtain⟨fk,fv,fl,fc,ft,fs⟩:=f;simp only[Sx.cells]at r1 cf;cases z1:(ec==0)with
   |false=>
    rw[z1,cond_false]at hF;subst hF;rw[errP_ne z1]at cf;(try clear Z);clear hE hEe;obtain⟨gop,gna,gar,gpa,gex,gki⟩:=ev;simp only[errV,Fm.cells]at cf;refine uG (ow:=fun t=>t==2) (wf:=fun f=>f==150||f==149) Tryz.func111 Tryz.ntmps111 Tryz.results111 Ty.hb_111 ?_;replace Z:=U q1 (U q2 (U q3 (U r1 d1)));(repeat'(first|refine G fun K J=>?_|refine uR Z ?_|refine uK ?_|refine uC1 Z ?_|(refine O J ?_;clear J)|apply zI));refine uU (U r1 d1) (cf _) ?_;(repeat'(first|refine G fun K J=>?_|refine uR @nsucc ?_|refine uT @nsucc ?_|(refine O J ?_;clear J)|apply zI));exact⟨efBad_frz z1,(((Grow.refl h).new _).new _).set (by omega) _⟩
   |true=>
    rw[z1,cond_true]at hF;rw[errP_z z1]at cf;(try clear Z);clear hE;have hap:Fm.rows (W++[ev])=Fm.rows W++[ev.cells]:=(by rw[Fm.rows_app];try rfl);obtain⟨gop,gna,gar,gpa,gex,gki⟩:=ev;simp only[Fm.cells]at cf hap;refine uG (ow:=fun t=>t==2) (wf:=fun f=>f==150||f==149) Tryz.func111 Tryz.ntmps111 Tryz.results111 Ty.hb_111 ?_;replace Z:=U q1 (U q2 (U q3 (U r1 d1)));(repeat'(first|refine G fun K J=>?_|refine uR Z ?_|refine uK ?_|refine uC1 Z ?_|(refine O J ?_;clear J)|apply zI));refine uU (U r1 d1) (cf _) ?_;(repeat'(first|with_reducible refine a_holdB 6 ?_|refine G fun K J=>?_|refine uR @nsucc ?_|refine uK ?_|refine uC1 @nsucc ?_|(refine O J ?_;clear J)|apply zI));refine⟨?_⟩;refine a_genX (fun S H=>S 2= .ptr h.next 0 0∧S 3= .cptr [.sc (.int .i64 kind),.sc (.int .i64 value),.sc (.int .i64 line),.sc (.int .i64 col),sPV text,.imm 6 R]∧S 6= .ptr (h.next+1) 0 0∧Grow h H∧H.next=h.next+2∧H.obj h.next=some (.arr 2 [[.imm 2 (pmRows P),q]])∧H.obj (h.next+1)=some (.arr 6 [[sPV gop,sPV gna,.imm 1 (strRows gar),.imm 2 (pmRows gpa),.imm 5 (Ex.rows gex),.imm 6 (Fm.rows gki)]])) ⟨by simp only[Ty.w,simprocAttr],by simp only[Ty.w,simprocAttr],by simp only[Ty.w,simprocAttr],(((Grow.refl h).new _).new _).set (by omega) _,rfl,by simp[Heap.new,Heap.set],by simp[Heap.new,Heap.set]⟩ ?_;(try clear Z);clear r1 cf;rintro S H ⟨s2,s3,s6,hg,hnx,o2,o6⟩;obtain⟨v,h1,hc,hgr,htl⟩:=ctF hq (by rw[Fm.rows_len];omega) H;have hle1:=hgr.le;obtain⟨Hk,t1,t2,t3,t4,t5⟩:=htl.tail;have p2:=(hgr.old h.next (by omega)).trans o2;have p6:=(hgr.old (h.next+1) (by omega)).trans o6;replace Z:=U s2 (U s3 (U s6 (U o2 o6)));(repeat'(first|refine uD Z ?_|apply zI));refine a_dcallW hc (by(try simp only[Ty.w,simprocAttr,s2,s3,s6,o2,o6]);try rfl) (by
     try simp only[Ty.w,simprocAttr,pastC,List.map_cons,List.map_nil,List.forall_mem_cons]
     (repeat' apply And.intro)<;>first
      |trivial
      |exact .inl (by decide+kernel)
      |exact .inr (by simp only[Ty.w,simprocAttr,Ty.all,s2,p2,p6,q1,q2])) ?_
    simp(maxSteps:=2000000) only[Ty.w,simprocAttr,Ty.all,Option.getD_some,s2,s3,s6,o6,p2,p6];have k2:=(t4 h.next (by omega)).trans p2;have n1:(h.next=Hk.next)=False:=eq_false (by omega);replace Z:=U s2 (U s3 (U s6 (U o6 (U p2 (U p6 (U t1 (U t2 (U k2 n1))))))));(repeat'(first|with_reducible refine a_holdB 7 ?_|(rw[if_pos];rotate_left 1;omega;simp(maxSteps:=2000000) only[Ty.w,simprocAttr,s2,s3,s6,o6,p2,p6,t1,t2,k2,n1])|apply zI));refine⟨by
     simp only[List.forall_mem_cons];exact⟨.inr (by simp(maxSteps:=2000000) only[Ty.w,simprocAttr,Ty.all,o6]),fun _ hx=>by cases hx⟩,?_⟩
    replace Z:=U s2 (U s3 (U s6 (U o6 (U p2 (U p6 (U t1 (U t2 (U k2 n1))))))));(repeat'(first|with_reducible refine a_holdB 7 ?_|apply zI));refine⟨by
     simp only[List.forall_mem_cons]
     (repeat' apply And.intro)<;>first|exact .inl (by decide+kernel)|exact(fun _ hx=>by cases hx),?_⟩
    refine⟨by
     simp only[List.forall_mem_cons]
     (repeat' apply And.intro)<;>first|exact .inl (by decide+kernel)|exact(fun _ hx=>by cases hx),?_⟩
    replace Z:=U s2 (U s3 (U s6 (U o6 (U p2 (U p6 (U t1 (U t2 (U k2 n1))))))));(repeat'(first|with_reducible refine a_holdB 7 ?_|refine G fun K J=>?_|(refine O J ?_;clear J)|apply zI));refine⟨?_⟩;have hlen2:(Fm.rows (W++[Fm.mk gop gna gar gpa gex gki])).length=(Fm.rows W).length+1:=(by rw[hap];simp);have hgk:Grow h Hk:=⟨by omega,fun j hj=>(t4 j (by omega)).trans ((hgr.old j (by omega)).trans (hg.old j hj))⟩;rw[← hap];refine a_genX (fun S H=>S 2= .ptr h.next 0 0∧S 3= .cptr [.sc (.int .i64 kind),.sc (.int .i64 value),.sc (.int .i64 line),.sc (.int .i64 col),sPV text,.imm 6 R]∧Grow h H∧h.next<H.next∧ ∃ j,h.next≤j∧H.obj h.next=some (.arr 2 [[.imm 2 (pmRows P),.own j 0 ((Fm.rows W).length+1)]])∧H.obj j=some (.arr 6 (Fm.rows (W++[Fm.mk gop gna gar gpa gex gki])))) ⟨by simp only[Ty.w,simprocAttr,s2],by simp only[Ty.w,simprocAttr,s3],(hgk.new _).set (by omega) _,by simp only[Heap.new,Heap.set];omega,Hk.next,by omega,by simp only[Heap.new,Heap.set,if_true];rw[t3],by simp only[Heap.new,Heap.set];rw[if_neg (by omega)];simp⟩ ?_;(try clear Z);clear s2 s3 s6 hg hnx o2 o6 hc hgr htl hle1 t1 t2 t3 t4 t5 p2 p6 k2 n1 hgk;rintro S H ⟨s2,s3,hg,hlt,j,hj,o1,o2⟩;refine a_drop h.next [(2,.cptr [.imm 2 (pmRows P),.imm 6 (Fm.rows (W++[Fm.mk gop gna gar gpa gex gki]))])] rfl hg.le ?_ ?_
    ·intro x hx;simp only[List.mem_cons,List.not_mem_nil,or_false]at hx;subst hx;show FrzTo h.next _ _ (S 2)
     rw[s2];simp only[FrzTo,FrzL,and_true];refine .inr ⟨_,0,0,2,_,_,rfl,Nat.le_refl _,o1,rfl,?_⟩;exact⟨.inl ⟨rfl,pms_in _ _⟩,.inr (.inr ⟨j,0,_,_,rfl,hj,o2,by omega,by rw[List.drop_zero,List.take_of_length_le (by omega)];exact fms_frz _ _ _⟩),trivial⟩
    refine a_genX (fun S H=>S 2= .cptr [.imm 2 (pmRows P),.imm 6 (Fm.rows (W++[Fm.mk gop gna gar gpa gex gki]))]∧S 3= .cptr [.sc (.int .i64 kind),.sc (.int .i64 value),.sc (.int .i64 line),.sc (.int .i64 col),sPV text,.imm 6 R]∧Grow h H) ⟨by simp only[frzS,Ty.w,simprocAttr],by simp only[frzS,Ty.w,simprocAttr,s3],below_grow hg⟩ ?_;(try clear Z);clear s2 s3 hg hlt o1 o2 hj S H;rintro S H ⟨s2,s3,hg⟩;generalize Fm.rows (W++[Fm.mk gop gna gar gpa gex gki])=FR at*;rw[hF]at hEe;(try clear Z);clear hF hap hwl2;obtain⟨fl,fe⟩:=F;obtain⟨ek,ev,el,ec2,et,es⟩:=e;simp only[Sx.cells]at r2 hEe;replace Z:=U s2 (U s3 (U r2 d2));(repeat'(first|refine uD Z ?_|apply zI));(first|refine uV Z (hEe _) ?_|refine uA Z (hEe _) ?_);(repeat'(first|refine uT Z ?_|(refine O J ?_;clear J)|apply zI));exact⟨eff_frz _ _ _ _,hg⟩
 cases W with
 |nil=>exact PCall.nilAgg (pre:=[.imm 2 (pmRows P)]) fun a cap=>main _ (.inl ⟨a,cap,rfl,rfl⟩)
 |cons f W=>exact main _ (.inr ⟨rfl,by simp[Fm.rows]⟩)
def allP(P:List Pm)(W:List Fm):List Sx→List Ch × Int
 |[p,e]=>bif kindOf p==3 then(bif (paramsP true (kidsOf p)).2==0 then effP e ⟨P++(paramsP true (kidsOf p)).1,W⟩else([],(paramsP true (kidsOf p)).2))else([],2)
 |_=>([],2)
theorem sforall_c{P:List Pm}{W:List Fm}{kind value line col:Int}{text:ByteArray}{y:Sx}{rest:List Sx}(hE: ∀ e∈rest,EffC e)
  (hok: ∀ z∈rest,z.ok)(hp:P.length+Sx.nodess rest≤1048576)(hwl:W.length+Sx.nodess rest≤1048576)(h:Heap):
  PCall Tryz.prog 112 [.agg [.imm 2 (pmRows P),.imm 6 (Fm.rows W)],.agg [.sc (.int .i64 kind),.sc (.int .i64 value),.sc (.int .i64 line),.sc (.int .i64 col),sPV text,.imm 6 (Sx.rows (y::rest))]] h fun r h'=>
   r= .tup [.imm 15 (chRows (allP P W rest).1),errP (allP P W rest).2]∧h'=h:=by
 refine PCall.frz Ty.hb_112 ?_;have hlen:=Sx.rows_len (y::rest);generalize hF:allP P W rest=F;have main: ∀ q,Emp3 2 (pmRows P) q→PCall Tryz.prog 112 [.agg [q,.imm 6 (Fm.rows W)],.agg [.sc (.int .i64 kind),.sc (.int .i64 value),.sc (.int .i64 line),.sc (.int .i64 col),sPV text,.imm 6 (Sx.rows (y::rest))]] h fun r h'=>FrzTo h.next h' (.tup [.imm 15 (chRows F.1),errP F.2]) r∧Grow h h':=by
  intro q hq;obtain⟨q1,q2⟩:=hq.pc;cases q3:(((Sx.rows (y::rest)).length:Int) !=3)with
  |true=>
   have e:F=([],2):=by
    rw[← hF]
    match rest,q3,hlen with
    |[],_,_=>rfl
    |[_],_,_=>rfl
    |[_,_],q,hlen=>rw[hlen]at q;simp at q
    |_::_::_::_,_,_=>rfl
   subst e;(try clear Z);clear hE hF;generalize Sx.rows (y::rest)=R at q3⊢;refine uG (ow:=fun t=>t==2) (wf:=fun f=>f==150||f==149) Tryz.func112 Tryz.ntmps112 Tryz.results112 Ty.hb_112 ?_;replace Z:=U q1 (U q2 q3);(repeat'(first|refine G fun K J=>?_|refine uR Z ?_|refine uT Z ?_|(refine O J ?_;clear J)|apply zI));exact⟨efBad_frz (c:=2) rfl,(Grow.refl h).new _⟩
  |false=>
   obtain⟨f,e,rfl⟩: ∃ a e,rest=[a,e]:=by
    match rest,q3,hlen with
    |[],q,hlen=>rw[hlen]at q;simp at q
    |[_],q,hlen=>rw[hlen]at q;simp at q
    |[a,e],_,_=>exact⟨a,e,rfl⟩
    |_::_::_::l,q,hlen=>rw[hlen]at q;simp at q;omega
   have hEe:=hE e (by simp);simp only[Sx.nodess,Nat.add_zero]at hp hwl;have r1:=Sx.rows_get (l:=[y,f,e]) (i:=1) rfl;have r2:=Sx.rows_get (l:=[y,f,e]) (i:=2) rfl;have d1:((1:Int)<((Sx.rows [y,f,e]).length:Int))=True:=eq_true (by rw[hlen];simp);have d2:((2:Int)<((Sx.rows [y,f,e]).length:Int))=True:=eq_true (by rw[hlen];simp);simp only[allP]at hF;generalize Sx.rows [y,f,e]=R at q3 r1 r2 d1 d2⊢;have hfo:=hok f (by simp);(try clear Z);clear hok hE;obtain⟨fk,fv,fl,fc,ft,fs⟩:=f;simp only[Sx.ok]at hfo;obtain⟨_,_,_,_,hfo⟩:=hfo;have hfs:=Sx.len_nodess fs;simp only[Sx.nodes]at hp hwl;have cf:=fun h:Heap=>parseParams_c (vars:=true) (l:=fs) (by omega) (Sx.oks_iff.1 hfo) h;have hpl:=paramsP_len true fs;simp only[kindOf,kidsOf]at hF;simp only[Sx.cells]at r1;cases z0:(fk==3)with
   |false=>
    have z0b:(fk !=3)=true:=(by simp[bne,z0]);have z0c:(fk=3)=False:=eq_false (by simpa using z0);rw[z0,cond_false]at hF;subst hF;(try clear Z);clear cf hEe hpl;refine uG (ow:=fun t=>t==2) (wf:=fun f=>f==150||f==149) Tryz.func112 Tryz.ntmps112 Tryz.results112 Ty.hb_112 ?_;replace Z:=U q1 (U q2 (U q3 (U r1 (U d1 (U z0 (U z0b z0c))))));(repeat'(first|refine G fun K J=>?_|refine uR Z ?_|refine uT Z ?_|(refine O J ?_;clear J)|apply zI));exact⟨efBad_frz (c:=2) rfl,(Grow.refl h).new _⟩
   |true=>
    have z0b:(fk !=3)=false:=(by simp[bne,z0]);have z0c:(fk=3)=True:=eq_true (by simpa using z0);rw[z0,cond_true]at hF;generalize paramsP true fs=E at cf hF hpl;obtain⟨ev,ec⟩:=E;simp only at hF cf hpl;have hEe:=hEe (P++ev) W (by simp only[List.length_append];omega) (by omega);cases z1:(ec==0)with
    |false=>
     rw[z1,cond_false]at hF;subst hF;rw[errP_ne z1]at cf;(try clear Z);clear hEe;simp only[errV]at cf;refine uG (ow:=fun t=>t==2) (wf:=fun f=>f==150||f==149) Tryz.func112 Tryz.ntmps112 Tryz.results112 Ty.hb_112 ?_;replace Z:=U q1 (U q2 (U q3 (U r1 (U d1 (U z0 (U z0b z0c))))));(repeat'(first|refine G fun K J=>?_|refine uR Z ?_|refine uK ?_|refine uC1 Z ?_|(refine O J ?_;clear J)|apply zI));refine uU (U r1 d1) (cf _) ?_;(repeat'(first|refine G fun K J=>?_|refine uR @nsucc ?_|refine uT @nsucc ?_|(refine O J ?_;clear J)|apply zI));exact⟨efBad_frz z1,(Grow.refl h).new _⟩
    |true=>
     rw[z1,cond_true]at hF;rw[errP_z z1]at cf;have hap:pmRows (P++ev)=pmRows P++pmRows ev:=(by simp[pmRows]);have hlp:(pmRows P).length=P.length:=(by simp[pmRows]);have hle:(pmRows ev).length=ev.length:=(by simp[pmRows]);refine uG (ow:=fun t=>t==2) (wf:=fun f=>f==150||f==149) Tryz.func112 Tryz.ntmps112 Tryz.results112 Ty.hb_112 ?_;replace Z:=U q1 (U q2 (U q3 (U r1 (U d1 (U z0 (U z0b z0c))))));(repeat'(first|refine G fun K J=>?_|refine uR Z ?_|refine uK ?_|refine uC1 Z ?_|(refine O J ?_;clear J)|apply zI));refine uU (U r1 d1) (cf _) ?_;(repeat'(first|with_reducible refine a_holdB 6 ?_|refine G fun K J=>?_|refine uR @nsucc ?_|refine uK ?_|refine uC1 @nsucc ?_|(refine O J ?_;clear J)|apply zI));refine⟨?_⟩;refine a_genX (fun S H=>S 2= .ptr h.next 0 0∧S 3= .cptr [.sc (.int .i64 kind),.sc (.int .i64 value),.sc (.int .i64 line),.sc (.int .i64 col),sPV text,.imm 6 R]∧S 6= .imm 2 (pmRows ev)∧Grow h H∧h.next<H.next∧H.obj h.next=some (.arr 2 [[q,.imm 6 (Fm.rows W)]])) ⟨by simp only[Ty.w,simprocAttr],by simp only[Ty.w,simprocAttr],by simp only[Ty.w,simprocAttr],(Grow.refl h).new _,by simp[Heap.new],by simp[Heap.new]⟩ ?_;(try clear Z);clear r1 cf;rintro S H ⟨s2,s3,s6,hg,hnx,o2⟩;obtain⟨v,h1,hc,hgr,htl⟩:=ctP hq (by omega) H;have hle1:=hgr.le;obtain⟨Hk,t1,t2,t3,t4,t5⟩:=htl.tail;have p2:=(hgr.old h.next (by omega)).trans o2;have k2:=(t4 h.next (by omega)).trans p2;have n1:(h.next=Hk.next)=False:=eq_false (by omega);have hb:((pmRows P).length+(pmRows ev).length)*32≤140737488355328:=(by omega);replace Z:=U s2 (U s3 (U s6 o2));(repeat'(first|refine uR Z ?_|apply zI));refine owp_useH (hc) (by(try simp only[Ty.w,simprocAttr,s2,s3,s6,o2]);try rfl) ?_;simp(maxSteps:=2000000) only[Ty.w,simprocAttr,s2,s3,s6,o2];replace Z:=U s2 (U s3 (U s6 (U p2 (U t1 (U t2 (U k2 (U n1 hb)))))));(repeat'(first|with_reducible refine a_holdB 7 ?_|refine G fun K J=>?_|(refine O J ?_;clear J)|(rw[if_pos];rotate_left 1;omega;simp(maxSteps:=2000000) only[Ty.w,simprocAttr,s2,s3,s6,p2,t1,t2,k2,n1,hb])|apply zI));refine⟨?_⟩;have hlen2:(pmRows (P++ev)).length=(pmRows P).length+(pmRows ev).length:=(by rw[hap];simp);have hgk:Grow h Hk:=⟨by omega,fun j hj=>(t4 j (by omega)).trans ((hgr.old j (by omega)).trans (hg.old j hj))⟩;rw[← hap];refine a_genX (fun S H=>S 2= .ptr h.next 0 0∧S 3= .cptr [.sc (.int .i64 kind),.sc (.int .i64 value),.sc (.int .i64 line),.sc (.int .i64 col),sPV text,.imm 6 R]∧Grow h H∧h.next<H.next∧ ∃ j,h.next≤j∧H.obj h.next=some (.arr 2 [[.own j 0 ((pmRows P).length+(pmRows ev).length),.imm 6 (Fm.rows W)]])∧H.obj j=some (.arr 2 (pmRows (P++ev)))) ⟨by simp only[Ty.w,simprocAttr,s2],by simp only[Ty.w,simprocAttr,s3],(hgk.new _).set (by omega) _,by simp only[Heap.new,Heap.set];omega,Hk.next,by omega,by simp only[Heap.new,Heap.set,if_true];rw[t3],by simp only[Heap.new,Heap.set];rw[if_neg (by omega)];simp⟩ ?_;(try clear Z);clear s2 s3 s6 hg hnx o2 hc hgr htl hle1 t1 t2 t3 t4 t5 p2 k2 n1 hgk hb;rintro S H ⟨s2,s3,hg,hlt,j,hj,o1,o2⟩;refine a_drop h.next [(2,.cptr [.imm 2 (pmRows (P++ev)),.imm 6 (Fm.rows W)])] rfl hg.le ?_ ?_
     ·intro x hx;simp only[List.mem_cons,List.not_mem_nil,or_false]at hx;subst hx;show FrzTo h.next _ _ (S 2)
      rw[s2];simp only[FrzTo,FrzL,and_true];refine .inr ⟨_,0,0,2,_,_,rfl,Nat.le_refl _,o1,rfl,?_⟩;exact⟨.inr (.inr ⟨j,0,_,_,rfl,hj,o2,by omega,by rw[List.drop_zero,List.take_of_length_le (by omega)];exact pms_frz _ _ _⟩),.inl ⟨rfl,fms_in _ _⟩,trivial⟩
     refine a_genX (fun S H=>S 2= .cptr [.imm 2 (pmRows (P++ev)),.imm 6 (Fm.rows W)]∧S 3= .cptr [.sc (.int .i64 kind),.sc (.int .i64 value),.sc (.int .i64 line),.sc (.int .i64 col),sPV text,.imm 6 R]∧Grow h H) ⟨by simp only[frzS,Ty.w,simprocAttr],by simp only[frzS,Ty.w,simprocAttr,s3],below_grow hg⟩ ?_;(try clear Z);clear s2 s3 hg hlt o1 o2 hj S H;rintro S H ⟨s2,s3,hg⟩;generalize pmRows (P++ev)=FR at*;rw[hF]at hEe;(try clear Z);clear hF hap hlen2;obtain⟨fl,fe⟩:=F;obtain⟨ek,ev2,el,ec2,et,es⟩:=e;simp only[Sx.cells]at r2 hEe;replace Z:=U s2 (U s3 (U r2 d2));(repeat'(first|refine uD Z ?_|apply zI));(first|refine uV Z (hEe _) ?_|refine uA Z (hEe _) ?_);(repeat'(first|refine uT Z ?_|(refine O J ?_;clear J)|apply zI));exact⟨eff_frz _ _ _ _,hg⟩
 cases P with
 |nil=>exact PCall.nilAgg (pre:=[]) fun a cap=>main _ (.inl ⟨a,cap,rfl,rfl⟩)
 |cons f P=>exact main _ (.inr ⟨rfl,by simp[pmRows]⟩)
theorem kindW_cases(w:ByteArray):kindW w=0∨kindW w=3∨kindW w=4∨kindW w=5:=by
 unfold kindW;cases bEq w opAsg<;>cases bEq w opInc<;>cases bEq w opDec<;>simp
theorem chgZ_c{P:List Pm}{W:List Fm}{k:Int}{n:ByteArray}{a:List ByteArray}(hp:P.length≤1048576)(hwl:W.length≤1048576)(h:Heap):
  PCall Tryz.prog 114 [.agg [.imm 2 (pmRows P),.imm 6 (Fm.rows W)],.sc (.int .i64 k),sPV n,.imm 1 (strRows a),.agg [.sc (.string ⟨#[]⟩),.sc (.string ⟨#[]⟩),.sc (.int .i64 0),.sc (.slice none 0 0),.sc (.slice none 0 0)]] h fun r h'=>r= .agg (chRow (chgS ⟨P,W⟩ k n a zeroEx))∧h'=h:=
 PCall.nz (schange_c (v:=zeroEx) (by omega) (by omega) h) (nz_cons (Nz.refl _) (nz_cons (Nz.refl _) (nz_cons (Nz.refl _) (nz_cons (Nz.refl _) (nz_cons (nz_agg (nz_cons (Nz.refl _) (nz_cons (Nz.refl _) (nz_cons (Nz.refl _) (nz_cons nz_nil (nz_cons nz_nil (NzL.refl _))))))) (NzL.refl _))))))
theorem Sx.nodes_le{x:Sx}: ∀ {l:List Sx},x∈l→x.nodes≤Sx.nodess l
 |y::l,h=>by
  simp only[Sx.nodess];rcases List.mem_cons.1 h with rfl|h
  ·omega
  ·have:=Sx.nodes_le h;omega
theorem numP_len(S:Sco)(k:Int): ∀ l:List Sx,(numP S k l).1.length≤1
 |[]=>by simp[numP]
 |[_]=>by simp[numP]
 |[a,e]=>by
  simp only[numP];cases(dAtomP a).2.2==0<;>cases(parseE e).2==0<;>simp
 |_::_::_::_=>by simp[numP]
theorem effsP_norm(S:Sco): ∀ l:List Sx,effsP l S=(match effsP l S with|(b,c)=>bif c==0 then([]++b,0)else([],c))
 |[]=>by rw[effsP];try rfl
 |x::l=>by
  rw[effsP.eq_def];simp only;generalize effP x S=A;obtain⟨a,c⟩:=A;simp only;cases z:c==0 with
  |false=>simp only[cond_false,z]
  |true=>
   simp only[cond_true];generalize effsP l S=B;obtain⟨b,c'⟩:=B;simp only;cases z':c'==0 with
   |false=>simp only[cond_false,z']
   |true=>simp only[cond_true,beq_self_eq_true,List.nil_append]
theorem oneP_len(S:Sco)(k:Int)(a:Sx):(oneP S k a).1.length≤1:=by
 unfold oneP;cases(dAtomP a).2.2==0<;>simp
theorem effsP_len{S:Sco}: ∀ l:List Sx,(∀ x∈l,(effP x S).1.length≤x.nodes)→(effsP l S).1.length≤Sx.nodess l
 |[],_=>by rw[effsP];simp[Sx.nodess]
 |x::l,hx=>by
  have ih:=effsP_len l (fun y hy=>hx y (by simp[hy]));have h1:=hx x (by simp);rw[effsP.eq_def];simp only[Sx.nodess];generalize effP x S=A at*;obtain⟨a,c⟩:=A;simp only at h1⊢;cases c==0 with
  |false=>simp
  |true=>
   simp only[cond_true];generalize effsP l S=B at*;obtain⟨b,c'⟩:=B;simp only at ih⊢;cases c'==0 with
   |false=>simp
   |true=>simp only[cond_true,List.length_append];omega
theorem effP_len: ∀ (n:Nat)(x:Sx),x.nodes≤n→ ∀ S:Sco,(effP x S).1.length≤x.nodes
 |0,x,h,_=>by have:=Sx.nodes_pos x;omega
 |n+1,.mk kind v l c t kids,h,S=>by
  have ih:=effP_len n;simp only[Sx.nodes]at h⊢;rw[effP.eq_def];simp only;cases kind==3 with
  |false=>simp
  |true=>
   simp only[cond_true];cases kids with
   |nil=>simp
   |cons x rest=>
    have hx:=Sx.nodes_pos x;simp only[Sx.nodess]at h⊢;cases kindOf x==1 with
    |false=>simp
    |true=>
     simp only[cond_true];cases !(kindW (textOf x)==0)with
     |true=>have:=numP_len S (kindW (textOf x)) rest;simp only[cond_true];omega
     |false=>
      simp only[cond_false];cases bEq (textOf x) opWhen with
      |true=>
       simp only[cond_true]
       match rest,h with
       |[],_=>simp
       |[_],_=>simp
       |[f,e],h=>
        simp only[Sx.nodess]at h⊢;cases(parseF f).2==0 with
        |false=>simp
        |true=>have:=ih e (by omega) ⟨S.params,S.whens++[(parseF f).1]⟩;simp only[cond_true];omega
       |_::_::_::_,_=>simp
      |false=>
       simp only[cond_false];cases bEq (textOf x) opAll with
       |true=>
        simp only[cond_true]
        match rest,h with
        |[],_=>simp
        |[_],_=>simp
        |[p,e],h=>
         simp only[Sx.nodess]at h⊢;cases kindOf p==3 with
         |false=>simp
         |true=>
          simp only[cond_true];cases(paramsP true (kidsOf p)).2==0 with
          |false=>simp
          |true=>have:=ih e (by omega) ⟨S.params++(paramsP true (kidsOf p)).1,S.whens⟩;simp only[cond_true];omega
        |_::_::_::_,_=>simp
       |false=>
        simp only[cond_false];cases bEq (textOf x) opAnd with
        |true=>
         have:=effsP_len (S:=S) rest (fun y hy=>ih y (by have:=Sx.nodes_le hy;omega) S);simp only[cond_true];omega
        |false=>
         simp only[cond_false];cases bEq (textOf x) opNot with
         |true=>
          simp only[cond_true]
          match rest with
          |[]=>simp
          |[a]=>have:=oneP_len S 2 a;simp only;omega
          |_::_::_=>simp
         |false=>
          have:=oneP_len S 1 (.mk kind v l c t (x::rest));simp only[cond_false];omega
theorem effect_step{kind value line col:Int}{text:ByteArray}{kids:List Sx}(hE: ∀ e∈kids,EffC e)
  (hok:(Sx.mk kind value line col text kids).ok)(hsm:(Sx.mk kind value line col text kids).small):EffC (.mk kind value line col text kids):=by
 intro P W hp hwl h;refine PCall.frz Ty.hb_53 ?_;have hbg:=dbegins_c hok;have hda:=fun h:Heap=>datom_c hok hsm h;have hks: ∀ z∈kids,z.ok:=by simp only[Sx.ok]at hok;exact Sx.oks_iff.1 hok.2.2.2.2
 have hkm: ∀ z∈kids,z.small:=by simp only[Sx.small]at hsm;exact Sx.smalls_iff.1 hsm.2
 generalize hF:effP (.mk kind value line col text kids) ⟨P,W⟩=F;rw[effP.eq_def]at hF;simp only at hF;simp only[Sx.nodes]at hp hwl;have hlen:=Sx.rows_len kids;cases q:kind==3 with
 |false=>
  rw[q,cond_false]at hF;subst hF;have hn:headM (.mk kind value line col text kids)=none:=by simp only[headM];rw[if_neg (by simpa using q)]
  rw[hn]at hbg;try clear Z
  clear hE hda hok hsm hn;simp only[Sx.cells,Option.isSome_none]at hbg⊢;refine uG0 Tryz.func53 Tryz.ntmps53 Tryz.results53 Ty.hb_53 ?_;repeat'(first|refine G fun K J=>?_|refine uR q ?_|refine uK ?_|refine uC1 q ?_|(refine O J ?_;clear J)|apply zI)
  refine uU trivial (hbg _) ?_;repeat'(first|refine G fun K J=>?_|refine uR @Bool.not_false ?_|refine uT @Bool.not_false ?_|(refine O J ?_;clear J)|apply zI)
  exact⟨efBad_frz (c:=2) rfl,Grow.refl _⟩
 |true=>
  rw[q,cond_true]at hF;cases kids with
  |nil=>
   simp only at hF;subst hF;(try clear Z);clear hE hda hbg hok hsm;simp only[Sx.cells,Sx.rows];refine uG0 Tryz.func53 Tryz.ntmps53 Tryz.results53 Ty.hb_53 ?_;(repeat'(first|refine G fun K J=>?_|refine uR q ?_|refine uT q ?_|(refine O J ?_;clear J)|apply zI));refine⟨?_,Grow.refl _⟩;simp only[FrzTo,FrzL,errP,beq_self_eq_true,cond_true,chRows,List.map_nil];exact⟨_,rfl,.inr (.inl ⟨rfl,.inr rfl⟩),rfl,trivial⟩
  |cons x rest=>
   simp only at hF;have q5:(((Sx.rows (x::rest)).length:Int)==0)=false:=(by rw[hlen];simp;omega);have q0:((0:Int)<((Sx.rows (x::rest)).length:Int))=True:=eq_true (by rw[hlen];simp<;>omega);cases q1:kindOf x==1 with
   |false=>
    rw[q1,cond_false]at hF;subst hF;have hn:headM (.mk kind value line col text (x::rest))=none:=(by simp only[headM];rw[if_pos (by simpa using q),q1];try rfl);rw[hn]at hbg;(try clear Z);clear hE hda hok hsm hn;simp only[Sx.cells,Option.isSome_none]at hbg⊢;generalize Sx.rows (x::rest)=R at*;refine uG0 Tryz.func53 Tryz.ntmps53 Tryz.results53 Ty.hb_53 ?_;replace Z:=U q q5;(repeat'(first|refine G fun K J=>?_|refine uR Z ?_|refine uK ?_|refine uC1 Z ?_|(refine O J ?_;clear J)|apply zI));refine uU trivial (hbg _) ?_;(repeat'(first|refine G fun K J=>?_|refine uR @Bool.not_false ?_|refine uT @Bool.not_false ?_|(refine O J ?_;clear J)|apply zI));exact⟨efBad_frz (c:=2) rfl,Grow.refl _⟩
   |true=>
    rw[q1,cond_true]at hF;have hn:headM (.mk kind value line col text (x::rest))=some (textOf x,rest):=(by simp only[headM];rw[if_pos (by simpa using q),q1];try rfl);rw[hn]at hbg;(try clear Z);clear hn;have r0:=Sx.rows_get (l:=x::rest) (i:=0) rfl;have hnl:=Sx.len_nodess rest;have hxn:=Sx.nodes_pos x;simp only[Sx.nodess]at hp hwl;have hnum:=fun(k:Int)(h:Heap)=>snumeric_c (P:=P) (W:=W) (k:=k) (kind:=kind) (value:=value) (line:=line) (col:=col) (text:=text) (y:=x) (rest:=rest) (by omega) (by omega) (fun z hz=>hks z (by simp[hz])) (fun z hz=>hkm z (by simp[hz])) (by omega) h;have hwh:=fun h:Heap=>swhen_c (P:=P) (W:=W) (kind:=kind) (value:=value) (line:=line) (col:=col) (text:=text) (y:=x) (rest:=rest) (fun z hz=>hE z (by simp[hz])) (fun z hz=>hks z (by simp[hz])) (by omega) (by omega) h;have hfa:=fun h:Heap=>sforall_c (P:=P) (W:=W) (kind:=kind) (value:=value) (line:=line) (col:=col) (text:=text) (y:=x) (rest:=rest) (fun z hz=>hE z (by simp[hz])) (fun z hz=>hks z (by simp[hz])) (by omega) (by omega) h;have hcz:=fun(k:Int)(n:ByteArray)(a:List ByteArray)(h:Heap)=>chgZ_c (P:=P) (W:=W) (k:=k) (n:=n) (a:=a) (by omega) (by omega) h;simp only[Sx.cells,Option.isSome_some]at hbg hda⊢;have hkc:=fun h:Heap=>dkinds_c (w:=textOf x) h;obtain⟨xk,xv,xl,xc,xt,xs⟩:=x;simp only[textOf,kindOf]at hF q1 hkc;simp only[Sx.cells]at r0;generalize hR:Sx.rows (.mk xk xv xl xc xt xs::rest)=R at*;have q1b:(1:Int)≤(R.length:Int):=(by rw[hlen];simp<;>omega);have ht:List.take ((R.length:Int)-1).toNat (List.drop 1 R)=Sx.rows rest:=by
     rw[← hR];simp only[Sx.rows,List.drop_succ_cons,List.drop_zero,List.length_cons];rw[List.take_of_length_le (by omega)]
    have hll:=Sx.rows_len rest;cases k0:kindW xt==0 with
    |false=>
     rw[k0,Bool.not_false,cond_true]at hF;have e0:decide (0<kindW xt)=true:=by
      rcases kindW_cases xt with h|h|h|h<;>simp[h]at k0⊢
     have hn2:=hnum (kindW xt);rw[hF]at hn2;generalize kindW xt=kw at*;(try clear Z);clear hE hok hsm hda hnum hwh hfa hcz hF hks hkm hR;obtain⟨fl,fe⟩:=F;refine uG0 Tryz.func53 Tryz.ntmps53 Tryz.results53 Ty.hb_53 ?_;replace Z:=U q q5;(repeat'(first|refine G fun K J=>?_|refine uR Z ?_|refine uK ?_|refine uC1 Z ?_|(refine O J ?_;clear J)|apply zI));refine uU trivial (hbg _) ?_;replace Z:=U @Bool.not_true (U @Bool.not_false (U r0 q0));(repeat'(first|refine G fun K J=>?_|refine uR Z ?_|refine uK ?_|refine uC1 Z ?_|(refine O J ?_;clear J)|apply zI));refine uU (U r0 q0) (hkc _) ?_;(repeat'(first|refine G fun K J=>?_|refine uR e0 ?_|(refine O J ?_;clear J)|apply zI));refine uU trivial (hn2 _) ?_;(repeat'(first|refine uT trivial ?_|(refine O J ?_;clear J)|apply zI));exact⟨eff_frz _ _ _ _,Grow.refl _⟩
    |true=>
     rw[k0,Bool.not_true,cond_false]at hF;have kz:kindW xt=0:=(by simpa using k0);have e0:decide ((0:Int)<0)=false:=rfl;rw[kz]at hkc;(try clear Z);clear hnum kz k0;cases e1:bEq xt opWhen with
     |true=>
      rw[e1,cond_true]at hF;have e1:(xt.data.toList==[119,104,101,110])=true:=e1;change whenP P W rest=F at hF;rw[hF]at hwh;(try clear Z);clear hE hok hsm hda hfa hcz hF hks hkm hR;obtain⟨fl,fe⟩:=F;refine uG0 Tryz.func53 Tryz.ntmps53 Tryz.results53 Ty.hb_53 ?_;replace Z:=U q q5;(repeat'(first|refine G fun K J=>?_|refine uR Z ?_|refine uK ?_|refine uC1 Z ?_|(refine O J ?_;clear J)|apply zI));refine uU trivial (hbg _) ?_;replace Z:=U @Bool.not_true (U @Bool.not_false (U r0 q0));(repeat'(first|refine G fun K J=>?_|refine uR Z ?_|refine uK ?_|refine uC1 Z ?_|(refine O J ?_;clear J)|apply zI));refine uU (U r0 q0) (hkc _) ?_;(repeat'(first|refine G fun K J=>?_|refine uR (U e0 e1) ?_|(refine O J ?_;clear J)|apply zI));refine uU trivial (hwh _) ?_;(repeat'(first|refine uT trivial ?_|(refine O J ?_;clear J)|apply zI));exact⟨eff_frz _ _ _ _,Grow.refl _⟩
     |false=>
      rw[e1,cond_false]at hF;have e1:(xt.data.toList==[119,104,101,110])=false:=e1;(try clear Z);clear hwh;cases e2:bEq xt opAll with
      |true=>
       rw[e2,cond_true]at hF;have e2:(xt.data.toList==[102,111,114,97,108,108])=true:=e2;change allP P W rest=F at hF;rw[hF]at hfa;(try clear Z);clear hE hok hsm hda hcz hF hks hkm hR;obtain⟨fl,fe⟩:=F;refine uG0 Tryz.func53 Tryz.ntmps53 Tryz.results53 Ty.hb_53 ?_;replace Z:=U q q5;(repeat'(first|refine G fun K J=>?_|refine uR Z ?_|refine uK ?_|refine uC1 Z ?_|(refine O J ?_;clear J)|apply zI));refine uU trivial (hbg _) ?_;replace Z:=U @Bool.not_true (U @Bool.not_false (U r0 q0));(repeat'(first|refine G fun K J=>?_|refine uR Z ?_|refine uK ?_|refine uC1 Z ?_|(refine O J ?_;clear J)|apply zI));refine uU (U r0 q0) (hkc _) ?_;(repeat'(first|refine G fun K J=>?_|refine uR (U e0 (U e1 e2)) ?_|(refine O J ?_;clear J)|apply zI));refine uU trivial (hfa _) ?_;(repeat'(first|refine uT trivial ?_|(refine O J ?_;clear J)|apply zI));exact⟨eff_frz _ _ _ _,Grow.refl _⟩
      |false=>
       rw[e2,cond_false]at hF;have e2:(xt.data.toList==[102,111,114,97,108,108])=false:=e2;(try clear Z);clear hfa;cases e3:bEq xt opAnd with
       |true=>
        rw[e3,cond_true]at hF;have e3:(xt.data.toList==[97,110,100])=true:=e3;refine uG0 Tryz.func53 Tryz.ntmps53 Tryz.results53 Ty.hb_53 ?_;replace Z:=U q q5;(repeat'(first|refine G fun K J=>?_|refine uR Z ?_|refine uK ?_|refine uC1 Z ?_|(refine O J ?_;clear J)|apply zI));refine uU trivial (hbg _) ?_;replace Z:=U @Bool.not_true (U @Bool.not_false (U r0 q0));(repeat'(first|refine G fun K J=>?_|refine uR Z ?_|refine uK ?_|refine uC1 Z ?_|(refine O J ?_;clear J)|apply zI));refine uU (U r0 q0) (hkc _) ?_;replace Z:=U e0 (U e1 (U e2 (U e3 (U q1b (U ht (U hll (U @Int.le_refl @Int.toNat_one)))))));(repeat'(first|refine G fun K J=>?_|refine a_block ?_|refine uR Z ?_|(refine O J ?_;clear J)|apply zI));(try clear Z);clear hok hsm hks hkm hda hcz hbg hkc;refine a_loop (fun m S h'=>S 2= .cptr [.imm 2 (pmRows P),.imm 6 (Fm.rows W)]∧S 69= .imm 6 (Sx.rows rest)∧S 70= .sc (.int .i64 rest.length)∧ ∃ (k:Nat)(p:PV)(pre:List Ch),S 71= .sc (.int .i64 k)∧S 8=p∧k≤rest.length∧m=rest.length-k∧Grow h h'∧Tl h' h.next 15 p (chRows pre)∧pre.length+Sx.nodess (rest.drop k)≤Sx.nodess rest∧
         F=(match effsP (rest.drop k) ⟨P,W⟩with|(b,c)=>bif c==0 then(pre++b,0)else([],c))) rest.length ?_ ?_
        ·simp only[Ty.w,simprocAttr];refine⟨0,_,[],rfl,rfl,by omega,rfl,Grow.refl _,Tl.nil,by simp,?_⟩;rw[List.drop_zero, ← hF];exact effsP_norm _ _
        ·(try clear Z);clear hF;rintro m S h' ⟨g2,g69,g70,k,p,pre,g71,g8,hk,rfl,hg,tl,hpl,hinv⟩;by_cases hlt:k<rest.length
         ·have hd:decide ((k:Int)<(rest.length:Int))=true:=(by simp;omega);have w7:IntKind.i64.wrap ((k:Int)+1)=k+1:=(by rw[wrap64 (by omega) (by omega)]);obtain⟨x,hx⟩: ∃ x,rest[k]? =some x:=⟨_,List.getElem?_eq_getElem hlt⟩;have hr:=Sx.rows_get hx;have hxm:=List.mem_of_getElem? hx;have hxe:=hE x (by simp[hxm]);have hxl:=Sx.nodes_le hxm;have hxn:=effP_len _ x (Nat.le_refl _) ⟨P,W⟩;have hce:=hxe P W (by omega) (by omega);rw[drop_of_get hx]at hinv hpl;simp only[Sx.nodess]at hpl;rw[effsP.eq_def]at hinv;simp only at hinv;generalize effP x ⟨P,W⟩=A at*;obtain⟨a,c⟩:=A;simp only at hinv hce hxn;have hxok:=hce;(try clear Z);clear hE hxe hxm hxl;obtain⟨yk,yv,yl,yc,yt,ys⟩:=x;simp only[Sx.cells]at hce hr;cases z1:(c==0)with
          |false=>
           simp only[z1,cond_false]at hinv;subst hinv;rw[errP_ne z1]at hce;simp only[errV]at hce;replace Z:=U g2 (U g69 (U g70 (U g71 (U g8 (U hd hr)))));(repeat'(first|refine G fun K J=>?_|refine uR Z ?_|refine uK ?_|refine uC1 Z ?_|(refine O J ?_;clear J)|apply zI));replace Z:=U g2 (U g69 (U g70 (U g71 (U g8 hr))));refine uU Z (hce _) ?_;replace Z:=U g2 (U g69 (U g70 (U g71 (U g8 @nsucc))));(repeat'(first|refine G fun K J=>?_|refine uR Z ?_|refine uT Z ?_|(refine O J ?_;clear J)|apply zI));exact⟨efBad_frz z1,(hg.new _).set hg.le _⟩
          |true=>
           simp only[z1,cond_true]at hinv;rw[errP_z z1]at hce;have hg2:Grow h ((h'.new (.arr 6 [[.sc (.int .i64 0),.sc (.int .i64 0),.sc (.int .i64 0),.sc (.int .i64 0),.sc (.string ⟨#[]⟩),.sc (.slice none 0 0)]])).set h'.next (.arr 6 [[.sc (.int .i64 yk),.sc (.int .i64 yv),.sc (.int .i64 yl),.sc (.int .i64 yc),sPV yt,.imm 6 (Sx.rows ys)]])):=(hg.new _).set hg.le _;have tl2:=tl.up (h':=((h'.new (.arr 6 [[.sc (.int .i64 0),.sc (.int .i64 0),.sc (.int .i64 0),.sc (.int .i64 0),.sc (.string ⟨#[]⟩),.sc (.slice none 0 0)]])).set h'.next (.arr 6 [[.sc (.int .i64 yk),.sc (.int .i64 yv),.sc (.int .i64 yl),.sc (.int .i64 yc),sPV yt,.imm 6 (Sx.rows ys)]]))) (by simp[Heap.new,Heap.set]) fun j _ hj=>by
            simp only[Heap.set,Heap.new];rw[if_neg (by omega),if_neg (by omega)]
           obtain⟨H,t1,t2,t3,t4,t5⟩:=tl2.tail;have hpr:(chRows pre).length=pre.length:=(by simp[chRows]);have hpa:(chRows a).length=a.length:=(by simp[chRows]);have hb:((chRows pre).length+(chRows a).length)*304≤140737488355328:=(by omega);replace Z:=U g2 (U g69 (U g70 (U g71 (U g8 (U hd hr)))));(repeat'(first|refine G fun K J=>?_|refine uR Z ?_|refine uK ?_|refine uC1 Z ?_|(refine O J ?_;clear J)|apply zI));replace Z:=U g2 (U g69 (U g70 (U g71 (U g8 hr))));refine uU Z (hce _) ?_;replace Z:=U g2 (U g69 (U g70 (U g71 (U g8 (U w7 (U t1 t2))))));(repeat'(first|refine G fun K J=>?_|refine uR Z ?_|refine uQ Z fun K J=>?_|refine uK ?_|refine uC1 Z ?_|(refine O J ?_;clear J)|(rw[if_pos];rotate_left 1;omega;simp(maxSteps:=2000000) only[Ty.w,simprocAttr,g2,g69,g70,g71,g8,w7,t1,t2])|apply zI));have t3':H.next=h'.next+1:=by rw[t3];simp[Heap.new,Heap.set]
           have hkp:=t5 h ⟨hg2.le,hg2.old⟩ (Nat.le_refl _);have hgH:Grow h H:=⟨hkp.1,hkp.2⟩;have hap:chRows pre++chRows a=chRows (pre++a):=(by simp[chRows]);rw[hap];refine⟨rest.length-(k+1),by omega,k+1,.own H.next 0 ((chRows pre).length+(chRows a).length),pre++a,by simp,by rw[t3'],by omega,rfl,hgH.new _,Tl.grow hkp.1 (by simp[chRows]),by simp only[List.length_append];omega,?_⟩;rw[hinv];generalize effsP (List.drop (k+1) rest) ⟨P,W⟩=B;obtain⟨b,c'⟩:=B;cases hq:c'==0 with
           |false=>simp only[hq,cond_false]
           |true=>simp only[hq,cond_true,beq_self_eq_true,List.append_assoc]
         ·have hd:decide ((k:Int)<(rest.length:Int))=false:=(by simp;omega);rw[List.drop_eq_nil_of_le (by omega),effsP]at hinv;simp only[beq_self_eq_true,cond_true,List.append_nil]at hinv;replace Z:=U g2 (U g69 (U g70 (U g71 (U g8 hd))));(repeat'(first|refine G fun K J=>?_|refine uR Z ?_|refine uT Z ?_|refine uX ?_|refine uC1 Z ?_|(refine O J ?_;clear J)|(clear J;refine O J ?_;clear J)|apply zI));subst hinv;refine⟨?_,hg⟩;have h1:=tl.frzR (Nat.le_refl _) (chs_frz h.next h' pre);have e2:errP 0= .sc .nilIface:=rfl;simp only[e2];unfold FrzTo;refine⟨_,rfl,?_⟩;unfold FrzL;refine⟨h1,?_⟩;unfold FrzL;exact⟨by simp only[FrzTo],by simp only[FrzL]⟩
       |false=>
        rw[e3,cond_false]at hF;have e3:(xt.data.toList==[97,110,100])=false:=e3;cases e4:bEq xt opNot with
        |true=>
         rw[e4,cond_true]at hF;have e4:(xt.data.toList==[110,111,116])=true:=e4;(try clear Z);clear hda hE;cases q6:((R.length:Int) !=2)with
         |true=>
          have e:F=([],2):=by
           rw[← hF]
           match rest,q6,hlen with
           |[],_,_=>rfl
           |[_],q,hlen=>rw[hlen]at q;simp at q
           |_::_::_,_,_=>rfl
          subst e;(try clear Z);clear hks hkm hok hsm hcz hF hR ht;refine uG0 Tryz.func53 Tryz.ntmps53 Tryz.results53 Ty.hb_53 ?_;replace Z:=U q q5;(repeat'(first|refine G fun K J=>?_|refine uR Z ?_|refine uK ?_|refine uC1 Z ?_|(refine O J ?_;clear J)|apply zI));refine uU trivial (hbg _) ?_;replace Z:=U @Bool.not_true (U @Bool.not_false (U r0 q0));(repeat'(first|refine G fun K J=>?_|refine uR Z ?_|refine uK ?_|refine uC1 Z ?_|(refine O J ?_;clear J)|apply zI));refine uU (U r0 q0) (hkc _) ?_;replace Z:=U e0 (U e1 (U e2 (U e3 (U e4 q6))));(repeat'(first|refine G fun K J=>?_|refine uR Z ?_|refine uT Z ?_|(refine O J ?_;clear J)|apply zI));exact⟨efBad_frz (c:=2) rfl,Grow.refl _⟩
         |false=>
          obtain⟨a,rfl⟩: ∃ a,rest=[a]:=by
           match rest,q6,hlen with
           |[],q,hlen=>rw[hlen]at q;simp at q
           |[a],_,_=>exact⟨a,rfl⟩
           |_::_::l,q,hlen=>rw[hlen]at q;simp at q;omega
          have ca:=fun h:Heap=>datom_c (hks a (by simp)) (hkm a (by simp)) h;have r1:=Sx.rows_get (l:=[.mk xk xv xl xc xt xs,a]) (i:=1) rfl;have d1:((1:Int)<(R.length:Int))=True:=eq_true (by rw[hlen];simp);rw[hR]at r1;(try clear Z);clear hks hkm hok hsm hR ht;simp only at hF;unfold oneP at hF;generalize dAtomP a=A at hF ca;obtain⟨an,aa,ac⟩:=A;obtain⟨ak,av,al,acc,at_,as_⟩:=a;simp only[atomV,Sx.cells]at hF ca r1;cases z1:(ac==0)with
          |false=>
           rw[z1,cond_false]at hF;subst hF;rw[errP_ne z1]at ca;(try clear Z);clear hcz;simp only[errV]at ca;refine uG0 Tryz.func53 Tryz.ntmps53 Tryz.results53 Ty.hb_53 ?_;replace Z:=U q q5;(repeat'(first|refine G fun K J=>?_|refine uR Z ?_|refine uK ?_|refine uC1 Z ?_|(refine O J ?_;clear J)|apply zI));refine uU trivial (hbg _) ?_;replace Z:=U @Bool.not_true (U @Bool.not_false (U r0 q0));(repeat'(first|refine G fun K J=>?_|refine uR Z ?_|refine uK ?_|refine uC1 Z ?_|(refine O J ?_;clear J)|apply zI));refine uU (U r0 q0) (hkc _) ?_;replace Z:=U @Bool.not_true (U @Bool.not_false (U r0 (U q0 (U e0 (U e1 (U e2 (U e3 (U e4 (U q6 (U r1 d1))))))))));(repeat'(first|refine G fun K J=>?_|refine uR Z ?_|refine uK ?_|refine uC1 Z ?_|(refine O J ?_;clear J)|apply zI));refine uU (U r1 d1) (ca _) ?_;replace Z:=U @nsucc (U @Bool.not_false @Bool.not_true);(repeat'(first|refine G fun K J=>?_|refine uR Z ?_|refine uT Z ?_|(refine O J ?_;clear J)|apply zI));exact⟨efBad_frz z1,Grow.refl _⟩
          |true=>
           rw[z1,cond_true]at hF;subst hF;rw[errP_z z1]at ca;have hcz:=hcz 2 an aa;generalize chgS ⟨P,W⟩ 2 an aa zeroEx=C at*;obtain⟨ck,cp,⟨gop,gna,gar,gpa,gex,gki⟩,cn,cas,⟨eop,ena,en,ear,eki⟩⟩:=C;simp only[chRow,Fm.cells,Ex.cells,List.cons_append,List.nil_append]at hcz;refine uG0 Tryz.func53 Tryz.ntmps53 Tryz.results53 Ty.hb_53 ?_;replace Z:=U q q5;(repeat'(first|refine G fun K J=>?_|refine uR Z ?_|refine uK ?_|refine uC1 Z ?_|(refine O J ?_;clear J)|apply zI));refine uU trivial (hbg _) ?_;replace Z:=U @Bool.not_true (U @Bool.not_false (U r0 q0));(repeat'(first|refine G fun K J=>?_|refine uR Z ?_|refine uK ?_|refine uC1 Z ?_|(refine O J ?_;clear J)|apply zI));refine uU (U r0 q0) (hkc _) ?_;replace Z:=U @Bool.not_true (U @Bool.not_false (U r0 (U q0 (U e0 (U e1 (U e2 (U e3 (U e4 (U q6 (U r1 d1))))))))));(repeat'(first|refine G fun K J=>?_|refine uR Z ?_|refine uK ?_|refine uC1 Z ?_|(refine O J ?_;clear J)|apply zI));refine uU (U r1 d1) (ca _) ?_;replace Z:=U @nsucc (U @Bool.not_false @Bool.not_true);(repeat'(first|refine G fun K J=>?_|refine uR Z ?_|refine uK ?_|refine uC1 Z ?_|(refine O J ?_;clear J)|apply zI));refine uU (U r1 d1) (hcz _) ?_;(repeat'(first|refine uT (U r1 d1) ?_|(refine O J ?_;clear J)|apply zI));exact⟨eff_frz _ _ [_] 0,Grow.refl _⟩
        |false=>
         rw[e4,cond_false]at hF;have e4:(xt.data.toList==[110,111,116])=false:=e4;(try clear Z);clear hE hks hkm hok hsm;unfold oneP at hF;generalize dAtomP (.mk kind value line col text (.mk xk xv xl xc xt xs::rest))=A at hF hda;obtain⟨an,aa,ac⟩:=A;simp only[atomV]at hF hda;have ca:=hda;(try clear Z);clear hda;(try clear Z);clear hR;cases z1:(ac==0)with
         |false=>
          rw[z1,cond_false]at hF;subst hF;rw[errP_ne z1]at ca;(try clear Z);clear hcz;simp only[errV]at ca;refine uG0 Tryz.func53 Tryz.ntmps53 Tryz.results53 Ty.hb_53 ?_;replace Z:=U q q5;(repeat'(first|refine G fun K J=>?_|refine uR Z ?_|refine uK ?_|refine uC1 Z ?_|(refine O J ?_;clear J)|apply zI));refine uU trivial (hbg _) ?_;replace Z:=U @Bool.not_true (U @Bool.not_false (U r0 q0));(repeat'(first|refine G fun K J=>?_|refine uR Z ?_|refine uK ?_|refine uC1 Z ?_|(refine O J ?_;clear J)|apply zI));refine uU (U r0 q0) (hkc _) ?_;replace Z:=U @Bool.not_true (U @Bool.not_false (U r0 (U q0 (U e0 (U e1 (U e2 (U e3 e4)))))));(repeat'(first|refine G fun K J=>?_|refine a_block ?_|refine uR Z ?_|refine uK ?_|(refine O J ?_;clear J)|apply zI));refine uU trivial (ca _) ?_;replace Z:=U @nsucc (U @Bool.not_false @Bool.not_true);(repeat'(first|refine G fun K J=>?_|refine uR Z ?_|refine uT Z ?_|(refine O J ?_;clear J)|apply zI));exact⟨efBad_frz z1,Grow.refl _⟩
         |true=>
          rw[z1,cond_true]at hF;subst hF;rw[errP_z z1]at ca;have hcz:=hcz 1 an aa;generalize chgS ⟨P,W⟩ 1 an aa zeroEx=C at*;obtain⟨ck,cp,⟨gop,gna,gar,gpa,gex,gki⟩,cn,cas,⟨eop,ena,en,ear,eki⟩⟩:=C;simp only[chRow,Fm.cells,Ex.cells,List.cons_append,List.nil_append]at hcz;refine uG0 Tryz.func53 Tryz.ntmps53 Tryz.results53 Ty.hb_53 ?_;replace Z:=U q q5;(repeat'(first|refine G fun K J=>?_|refine uR Z ?_|refine uK ?_|refine uC1 Z ?_|(refine O J ?_;clear J)|apply zI));refine uU trivial (hbg _) ?_;replace Z:=U @Bool.not_true (U @Bool.not_false (U r0 q0));(repeat'(first|refine G fun K J=>?_|refine uR Z ?_|refine uK ?_|refine uC1 Z ?_|(refine O J ?_;clear J)|apply zI));refine uU (U r0 q0) (hkc _) ?_;replace Z:=U @Bool.not_true (U @Bool.not_false (U r0 (U q0 (U e0 (U e1 (U e2 (U e3 e4)))))));(repeat'(first|refine G fun K J=>?_|refine a_block ?_|refine uR Z ?_|refine uK ?_|(refine O J ?_;clear J)|apply zI));refine uU trivial (ca _) ?_;replace Z:=U @nsucc (U @Bool.not_false @Bool.not_true);(repeat'(first|refine G fun K J=>?_|refine uR Z ?_|refine uK ?_|refine uC1 Z ?_|(refine O J ?_;clear J)|apply zI));refine uU trivial (hcz _) ?_;(repeat'(first|refine uT trivial ?_|(refine O J ?_;clear J)|apply zI));exact⟨eff_frz _ _ [_] 0,Grow.refl _⟩
theorem effect_n: ∀ (n:Nat)(x:Sx),x.nodes≤n→x.ok→x.small→EffC x
 |0,x,h,_,_=>by have:=Sx.nodes_pos x;omega
 |n+1,.mk kind value line col text kids,h,hok,hsm=>by
  have hks: ∀ z∈kids,z.ok:=by simp only[Sx.ok]at hok;exact Sx.oks_iff.1 hok.2.2.2.2
  have hkm: ∀ z∈kids,z.small:=by simp only[Sx.small]at hsm;exact Sx.smalls_iff.1 hsm.2
  refine effect_step (fun e he=>effect_n n e ?_ (hks e he) (hkm e he)) hok hsm;have:=Sx.nodes_le he;simp only[Sx.nodes]at h;omega
theorem effect_c{x:Sx}(hok:x.ok)(hsm:x.small):EffC x:=effect_n _ x (Nat.le_refl _) hok hsm
set_option maxHeartbeats 2000000
structure Sco.okN(S:Sco)(n:Nat):Prop where
 params: ∀ p∈S.params,p.ok
 plen:S.params.length+n≤1048576
 whens: ∀ f∈S.whens,f.ok∧f.small
 wlen:S.whens.length+n≤1048576
theorem Sco.okN.mono{S:Sco}{n m:Nat}(h:S.okN n)(hm:m≤n):S.okN m:=⟨h.params,by have:=h.plen;omega,h.whens,by have:=h.wlen;omega⟩
theorem andFm_sm:andFm.ok∧andFm.small:=fm_mk_ok (by decide) (by decide) (by simp) (by simp) (by simp) (by simp) (by simp) (by simp) (by simp) (by simp)
theorem condS_ok{l:List Fm}(h: ∀ f∈l,f.ok∧f.small)(hl:l.length≤1048576):(condS l).ok∧(condS l).small:=by
 match l,h,hl with
 |[],_,_=>exact andFm_sm
 |[f],h,_=>exact h f (by simp)
 |f::g::l,h,hl=>exact fm_mk_ok (by decide) (by decide) (by simp) (by simp) (by simp) (by simp) (by simp) (by simp) hl h
theorem chgS_ok{S:Sco}{m:Nat}(hS:S.okN m){k:Int}{n:ByteArray}{a:List ByteArray}{v:Ex}(hk:0≤k∧k≤5)(hn:n.size≤bigN)(ha:a.length≤1048576)(has: ∀ s∈a,s.size≤bigN)(hv:v.ok∧v.small):(chgS S k n a v).ok∧ChSm (chgS S k n a v):=by
 have hc:=condS_ok hS.whens (by have:=hS.wlen;omega);have hp:=hS.plen;refine⟨⟨⟨by simp only[chgS,bigN];omega,hS.params⟩,hc.1,⟨by simp only[chgS,bigN];omega,has⟩,hv.1,hn,by simp only[chgS];omega⟩,⟨hc.2,hv.2,by simp only[chgS];omega,ha⟩⟩
theorem dAtomP_ok{x:Sx}(hok:x.ok)(hsm:x.small):(dAtomP x).1.size≤bigN∧(dAtomP x).2.1.length≤1048576∧ ∀ s∈(dAtomP x).2.1,s.size≤bigN:=by
 unfold dAtomP;cases hD:headM x with
 |none=>exact⟨by decide,by simp,by simp⟩
 |some wl=>
  obtain⟨w,l⟩:=wl;obtain⟨h1,h2,h3⟩:=headM_okS hok hsm hD;have ht:=termsM_ok h3;simp only;cases nameB w with
  |false=>exact⟨(by decide:(⟨#[]⟩:ByteArray).size≤bigN),by simp,by simp⟩
  |true=>
   simp only[cond_true];cases(termsM l).2==0 with
   |false=>exact⟨(by decide:(⟨#[]⟩:ByteArray).size≤bigN),by simp,by simp⟩
   |true=>exact⟨h1,by simp only[cond_true];omega,ht.1⟩
theorem parseE_ok{x:Sx}(hok:x.ok):(parseE x).1.ok∧(parseE x).1.small:=by
 unfold parseE;split
 ·rename_i h;split
  ·split
   ·exact exprP_ok x hok (svalid_small h)
   ·exact zeroEx_ok
  ·exact zeroEx_ok
 ·exact zeroEx_ok
theorem oneP_ok{S:Sco}{m:Nat}(hS:S.okN m){k:Int}(hk:0≤k∧k≤5){a:Sx}(hok:a.ok)(hsm:a.small): ∀ c∈(oneP S k a).1,c.ok∧ChSm c:=by
 unfold oneP;obtain⟨h1,h2,h3⟩:=dAtomP_ok hok hsm;cases(dAtomP a).2.2==0 with
 |false=>simp
 |true=>
  intro c hc;simp only[cond_true,List.mem_singleton]at hc;subst hc;exact chgS_ok hS hk h1 h2 h3 zeroEx_ok
theorem numP_ok{S:Sco}{m:Nat}(hS:S.okN m){k:Int}(hk:0≤k∧k≤5): ∀ {l:List Sx},(∀ x∈l,x.ok)→(∀ x∈l,x.small)→ ∀ c∈(numP S k l).1,c.ok∧ChSm c
 |[],_,_=>by simp[numP]
 |[_],_,_=>by simp[numP]
 |[a,e],hok,hsm=>by
  obtain⟨h1,h2,h3⟩:=dAtomP_ok (hok a (by simp)) (hsm a (by simp));have hv:=parseE_ok (hok e (by simp));simp only[numP];cases(dAtomP a).2.2==0 with
  |false=>simp
  |true=>
   cases(parseE e).2==0 with
   |false=>simp
   |true=>
    intro c hc;simp only[cond_true,List.mem_singleton]at hc;subst hc;exact chgS_ok hS hk h1 h2 h3 hv
 |_::_::_::_,_,_=>by simp[numP]
theorem effsP_ok{S:Sco}: ∀ l:List Sx,(∀ x∈l, ∀ c∈(effP x S).1,c.ok∧ChSm c)→ ∀ c∈(effsP l S).1,c.ok∧ChSm c
 |[],_=>by rw[effsP];simp
 |x::l,hx=>by
  have ih:=effsP_ok l (fun y hy=>hx y (by simp[hy]));have h1:=hx x (by simp);rw[effsP.eq_def];simp only;generalize effP x S=A at*;obtain⟨a,c⟩:=A;simp only at h1⊢;cases c==0 with
  |false=>simp
  |true=>
   simp only[cond_true];generalize effsP l S=B at*;obtain⟨b,c'⟩:=B;simp only at ih⊢;cases c'==0 with
   |false=>simp
   |true=>
    simp only[cond_true,List.mem_append];rintro d (hd|hd)
    ·exact h1 d hd
    ·exact ih d hd
theorem effP_ok: ∀ (n:Nat)(x:Sx),x.nodes≤n→ ∀ S:Sco,x.ok→x.small→S.okN x.nodes→ ∀ c∈(effP x S).1,c.ok∧ChSm c
 |0,x,h,_=>by have:=Sx.nodes_pos x;omega
 |n+1,.mk kind v l c t kids,h,S=>by
  intro hok hsm hS;have ih:=effP_ok n;have hks: ∀ z∈kids,z.ok:=by simp only[Sx.ok]at hok;exact Sx.oks_iff.1 hok.2.2.2.2
  have hkm: ∀ z∈kids,z.small:=by simp only[Sx.small]at hsm;exact Sx.smalls_iff.1 hsm.2
  simp only[Sx.nodes]at h hS;rw[effP.eq_def];simp only;cases kind==3 with
  |false=>simp
  |true=>
   simp only[cond_true];cases kids with
   |nil=>simp
   |cons x rest=>
    have hx:=Sx.nodes_pos x;simp only[Sx.nodess]at h hS;simp only;cases kindOf x==1 with
    |false=>simp
    |true=>
     simp only[cond_true];cases hk0:!(kindW (textOf x)==0)with
     |true=>
      simp only[cond_true];exact numP_ok (k:=kindW (textOf x)) hS (by rcases kindW_cases (textOf x)with h|h|h|h<;>omega) (fun z hz=>hks z (by simp[hz])) (fun z hz=>hkm z (by simp[hz]))
     |false=>
      simp only[cond_false];cases bEq (textOf x) opWhen with
      |true=>
       simp only[cond_true]
       match rest,h,hS,hks,hkm with
       |[],_,_,_,_=>simp
       |[_],_,_,_,_=>simp
       |[f,e],h,hS,hks,hkm=>
        simp only[Sx.nodess]at h hS;simp only;have hfn:=Sx.nodes_pos f;have hf:=parseF_ok (hks f (by simp));cases(parseF f).2==0 with
        |false=>simp
        |true=>
         simp only[cond_true];refine ih e (by omega) _ (hks e (by simp)) (hkm e (by simp)) ⟨hS.params,?_,?_,?_⟩
         ·have:=hS.plen;simp only;omega
         ·intro g hg;simp only[List.mem_append,List.mem_singleton]at hg;rcases hg with hg|rfl
          ·exact hS.whens g hg
          ·exact hf
         ·have:=hS.wlen;simp only[List.length_append,List.length_cons,List.length_nil];omega
       |_::_::_::_,_,_,_,_=>simp
      |false=>
       simp only[cond_false];cases bEq (textOf x) opAll with
       |true=>
        simp only[cond_true]
        match rest,h,hS,hks,hkm with
        |[],_,_,_,_=>simp
        |[_],_,_,_,_=>simp
        |[p,e],h,hS,hks,hkm=>
         simp only[Sx.nodess]at h hS;simp only;cases kindOf p==3 with
         |false=>simp
         |true=>
          simp only[cond_true];have hpo:=hks p (by simp);obtain⟨pk,pv,pl,pc,pt,ps⟩:=p;simp only[Sx.ok]at hpo;simp only[kidsOf];simp only[Sx.nodes]at h hS;have hpl:=paramsL_ok true ps.length ps (Nat.le_refl _) (Sx.oks_iff.1 hpo.2.2.2.2) [] [] (by simp) (by simp);simp only[List.length_nil,Nat.zero_add]at hpl;have hln:=Sx.len_nodess ps;change (∀ p∈(paramsP true ps).1,p.ok)∧(paramsP true ps).1.length≤ps.length at hpl;cases(paramsP true ps).2==0 with
          |false=>simp
          |true=>
           simp only[cond_true];refine ih e (by omega) _ (hks e (by simp)) (hkm e (by simp)) ⟨?_,?_,hS.whens,?_⟩
           ·intro g hg;simp only[List.mem_append]at hg;rcases hg with hg|hg
            ·exact hS.params g hg
            ·exact hpl.1 g hg
           ·have:=hS.plen;simp only[List.length_append];omega
           ·have:=hS.wlen;simp only;omega
        |_::_::_::_,_,_,_,_=>simp
       |false=>
        simp only[cond_false];cases bEq (textOf x) opAnd with
        |true=>
         simp only[cond_true];refine effsP_ok rest fun y hy=>?_;have:=Sx.nodes_le hy;exact ih y (by omega) S (hks y (by simp[hy])) (hkm y (by simp[hy])) (hS.mono (by omega))
        |false=>
         simp only[cond_false];cases bEq (textOf x) opNot with
         |true=>
          simp only[cond_true]
          match rest,hks,hkm with
          |[],_,_=>simp
          |[a],hks,hkm=>exact oneP_ok hS (by omega) (hks a (by simp)) (hkm a (by simp))
          |_::_::_,_,_=>simp
         |false=>
          simp only[cond_false];exact oneP_ok hS (by omega) hok hsm
theorem zSx_ok:(Sx.mk 0 0 0 0 ⟨#[]⟩ []).ok:=⟨⟨by decide,by decide⟩,⟨by decide,by decide⟩,by decide,by simp,trivial⟩
theorem fmX_ok{f:Fm}(h:f.ok)(hs:f.small):(fmX f).ok:=by
 unfold fmX;cases hv:validF f with
 |false=>exact zSx_ok
 |true=>exact fmW_ok f h hs (validF_shaped hv)
theorem exX_ok{e:Ex}(h:e.ok)(hs:e.small):(exX e).ok:=by
 unfold exX;cases validE e with
 |false=>exact zSx_ok
 |true=>exact exW_ok e h hs
theorem ok2{a b:Sx}(ha:a.ok)(hb:b.ok):(listM [a,b]).ok:=listM_ok (by simp[bigN]) ⟨ha,hb,trivial⟩
theorem ok3{a b c:Sx}(ha:a.ok)(hb:b.ok)(hc:c.ok):(listM [a,b,c]).ok:=listM_ok (by simp[bigN]) ⟨ha,hb,hc,trivial⟩
theorem kwK_ok(k:Int):(wordM (kwK k)).ok:=by
 unfold kwK;cases k==3<;>cases k==4<;>exact wordM_ok (by decide)
theorem ch1_ok{c:Ch}(h:c.ok)(hs:ChSm c):(ch1 c).ok:=by
 have hw:(wordsM c.name c.args).ok:=wordsM_ok h.name hs.args h.args.2;unfold ch1;cases c.kind==1 with
 |true=>exact hw
 |false=>
  simp only[cond_false];cases c.kind==2 with
  |true=>exact ok2 (wordM_ok (by decide)) hw
  |false=>
   simp only[cond_false];cases c.kind==3||c.kind==4||c.kind==5 with
   |true=>exact ok3 (kwK_ok _) hw (exX_ok h.value hs.value)
   |false=>exact hw
theorem ch2_ok{c:Ch}(h:c.ok)(hs:ChSm c):(ch2 c).ok:=by
 have h1:=ch1_ok h hs;unfold ch2;cases isAlw c.cond with
 |true=>exact h1
 |false=>exact ok3 (wordM_ok (by decide)) (fmX_ok h.cond hs.cond) h1
theorem chX_ok{c:Ch}(h:c.ok)(hs:ChSm c):(chX c).ok:=by
 have h2:=ch2_ok h hs;unfold chX;cases c.params.isEmpty with
 |true=>exact h2
 |false=>exact ok3 (wordM_ok (by decide)) (listM_ok (by rw[paramsW_len];have:=hs.params;unfold bigN;omega) (paramsW_ok _ h.params.2)) h2
theorem effX_ok{l:List Ch}(hl:l.length≤1048576)(h: ∀ c∈l,c.ok∧ChSm c):(effX l).ok:=by
 unfold effX;cases l.isEmpty with
 |true=>exact listM_ok (by simp) trivial
 |false=>
  refine listM_ok (by simp only[List.length_cons,List.length_map,bigN];omega) ⟨wordM_ok (by decide),?_⟩;rw[Sx.oks_iff];intro k hk;rw[List.mem_map]at hk;obtain⟨c,hc,rfl⟩:=hk;exact chX_ok (h c hc).1 (h c hc).2
theorem nameB_not{s w:ByteArray}(h:nameB s=true)(hw:w∈words):bEq s w=false:=by
 unfold nameB at h;simp only[Bool.and_eq_true,Bool.not_eq_true',List.any_eq_false]at h;simpa using h.2 w hw
theorem dAtomP_words{n:ByteArray}{a:List ByteArray}(hn:nameB n=true)(ha:a.all termB=true):dAtomP (wordsM n a)=(n,a,0):=by
 have e:headM (wordsM n a)=some (n,a.map wordM):=rfl;unfold dAtomP;rw[e];simp only[hn,cond_true,termsM_words a ha,beq_self_eq_true]
theorem oneP_words{S:Sco}{k:Int}{n:ByteArray}{a:List ByteArray}(hn:nameB n=true)(ha:a.all termB=true):oneP S k (wordsM n a)=([chgS S k n a zeroEx],0):=by
 unfold oneP;rw[dAtomP_words hn ha];try rfl
theorem kindW_name{n:ByteArray}(hn:nameB n=true):kindW n=0:=by
 unfold kindW;rw[nameB_not hn (w:=opAsg) (by simp[words,opAsg]),nameB_not hn (w:=opInc) (by simp[words,opInc]),nameB_not hn (w:=opDec) (by simp[words,opDec])];try rfl
theorem effP_words{S:Sco}{n:ByteArray}{a:List ByteArray}(hn:nameB n=true)(ha:a.all termB=true):effP (wordsM n a) S=([chgS S 1 n a zeroEx],0):=by
 have e:wordsM n a= .mk 3 0 0 0 ⟨#[]⟩ (wordM n::a.map wordM):=rfl;have ho:=oneP_words (S:=S) (k:=1) hn ha;rw[e]at ho⊢;rw[effP.eq_def];have k1:kindOf (wordM n)=1:=rfl;have k2:textOf (wordM n)=n:=rfl;simp only[k1,k2,kindW_name hn,nameB_not hn (w:=opWhen) (by simp[words,opWhen]),nameB_not hn (w:=opAll) (by simp[words,opAll]),nameB_not hn (w:=opAnd) (by simp[words,opAnd]),nameB_not hn (w:=opNot) (by simp[words,opNot]),beq_self_eq_true,cond_true,cond_false,Bool.not_true];exact ho
theorem effP_not{S:Sco}(x:Sx):effP (listM [wordM opNot,x]) S=oneP S 2 x:=by
 have e:listM [wordM opNot,x]= .mk 3 0 0 0 ⟨#[]⟩ [wordM opNot,x]:=rfl;rw[e,effP.eq_def];try rfl
theorem effP_when{S:Sco}(f x:Sx):effP (listM [wordM opWhen,f,x]) S=bif (parseF f).2==0 then effP x ⟨S.params,S.whens++[(parseF f).1]⟩else([],(parseF f).2):=by
 have e:listM [wordM opWhen,f,x]= .mk 3 0 0 0 ⟨#[]⟩ [wordM opWhen,f,x]:=rfl;rw[e,effP.eq_def];try rfl
theorem effP_all{S:Sco}(l:List Sx)(x:Sx):effP (listM [wordM opAll,listM l,x]) S=bif (paramsP true l).2==0 then effP x ⟨S.params++(paramsP true l).1,S.whens⟩else([],(paramsP true l).2):=by
 have e:listM [wordM opAll,listM l,x]= .mk 3 0 0 0 ⟨#[]⟩ [wordM opAll,listM l,x]:=rfl;rw[e,effP.eq_def];try rfl
theorem isAlw_eq{f:Fm}(h:isAlw f=true):f=andFm:=by
 obtain⟨op,na,a,p,e,k⟩:=f;simp only[isAlw,andFm,Fm.same,Bool.and_eq_true]at h;obtain⟨⟨⟨⟨⟨h1,h2⟩,h3⟩,h4⟩,h5⟩,h6⟩:=h;have e1:=bEq_eq h1;have e2:=bEq_eq h2;have e3:a=[]:=by cases a<;>simp_all [bsEq]
 have e4:p=[]:=by cases p<;>simp_all [pmsEq]
 have e5:e=[]:=by cases e<;>simp_all [Ex.sames]
 have e6:k=[]:=by cases k<;>simp_all [Fm.sames]
 rw[e1,e2,e3,e4,e5,e6];try rfl
theorem validE_shp{e:Ex}(h:validE e=true):shapedE e=true:=by
 unfold validE at h;simp only[Bool.and_eq_true]at h;exact formedM_shaped e 0 0 h.1
theorem rterm_c{h:Heap}{s:ByteArray}(hs:s.size≤bigN):PCall Tryz.prog 158 [sPV s] h fun r h'=>r= .sc (.bool (termB s))∧h'=h:=by
 have hs':s.size≤9223372036854775807:=by unfold bigN at hs;omega
 cases c1:nameB s with
 |true=>
  have:termB s=true:=by simp[termB,c1]
  refine uG0 Tryz.func158 Tryz.ntmps158 Tryz.results158 Ty.hb_158 ?_;repeat'(first|refine G fun K J=>?_|refine uR trivial ?_|(refine O J ?_;clear J)|apply zI)
  refine uU c1 (rname_c (s:=s) hs') ?_;repeat'(first|refine uT c1 ?_|(refine O J ?_;clear J)|apply zI)
  rw[this]
 |false=>
  have:termB s=varB s:=by simp[termB,c1]
  refine uG0 Tryz.func158 Tryz.ntmps158 Tryz.results158 Ty.hb_158 ?_;repeat'(first|refine G fun K J=>?_|refine uR trivial ?_|(refine O J ?_;clear J)|apply zI)
  refine uU c1 (rname_c (s:=s) hs') ?_;try apply zI
  refine uU c1 (rvariable_c (s:=s) hs') ?_;repeat'(first|refine uT c1 ?_|(refine O J ?_;clear J)|apply zI)
  rw[this]
theorem rall_c{h:Heap}{l:List ByteArray}(hl:l.length≤bigN)(hs: ∀ s∈l,s.size≤bigN):PCall Tryz.prog 130 [.imm 1 (strRows l)] h fun r h'=>r= .sc (.bool (l.all termB))∧h'=h:=by
 unfold bigN at hl;have hlen:=strRows_len l;refine uG0 Tryz.func130 Tryz.ntmps130 Tryz.results130 Ty.hb_130 ?_;repeat'(first|refine G fun K J=>?_|refine a_block ?_|refine uR hlen ?_|(refine O J ?_;clear J)|apply zI)
 refine a_loop (fun m S h'=>h'=h∧S 0= .imm 1 (strRows l)∧ ∃ k:Nat,S 3= .sc (.int .i64 k)∧k≤l.length∧m=l.length-k∧l.all termB=(l.drop k).all termB) l.length ?_ ?_
 ·simp only[Ty.w,simprocAttr];exact⟨0,rfl,by omega,rfl,by simp⟩
 ·rintro m S h' ⟨rfl,g0,k,g3,hk,rfl,hinv⟩;by_cases hlt:k<l.length
  ·have hd:decide ((k:Int)<(l.length:Int))=true:=(by simp;omega);have w7:IntKind.i64.wrap ((k:Int)+1)=k+1:=(by rw[wrap64 (by omega) (by omega)]);obtain⟨w,hx⟩: ∃ w,l[k]? =some w:=⟨l[k],List.getElem?_eq_getElem hlt⟩;have hr:=strRows_get hx;have hc:=fun h:Heap=>rterm_c (h:=h) (hs w (List.mem_of_getElem? hx));rw[drop_of_get hx,List.all_cons]at hinv;generalize termB w=b at hc hinv;cases b with
   |false=>
    rw[Bool.false_and]at hinv;replace Z:=U g0 (U g3 (U hd hr));(repeat'(first|refine G fun K J=>?_|refine uR Z ?_|refine uK ?_|(refine uC Z (fun hb=>?_) (fun hb=>?_)<;>(try simp only[hb0,simprocAttr]at hb)<;>(try(exfalso;omega)))|(refine O J ?_;clear J)|apply zI));replace Z:=U g0 (U g3 (U hd (U hr @Bool.not_false)));refine uU Z (hc _) ?_;replace Z:=U g0 (U g3 @Bool.not_false);(repeat'(first|refine G fun K J=>?_|refine uR Z ?_|refine uT Z ?_|(refine O J ?_;clear J)|apply zI));rw[hinv]
   |true=>
    rw[Bool.true_and]at hinv;replace Z:=U g0 (U g3 (U hd hr));(repeat'(first|refine G fun K J=>?_|refine uR Z ?_|refine uK ?_|(refine uC Z (fun hb=>?_) (fun hb=>?_)<;>(try simp only[hb0,simprocAttr]at hb)<;>(try(exfalso;omega)))|(refine O J ?_;clear J)|apply zI));replace Z:=U g0 (U g3 (U hd (U hr @Bool.not_true)));refine uU Z (hc _) ?_;replace Z:=U g0 (U g3 (U w7 @Bool.not_true));(repeat'(first|refine a_block ?_|refine uR Z ?_|refine uK ?_|(refine O J ?_;clear J)|apply zI));exact⟨l.length-(k+1),by omega,k+1,by simp,by omega,rfl,hinv⟩
  ·have hd:decide ((k:Int)<(l.length:Int))=false:=(by simp;omega);rw[List.drop_eq_nil_of_le (by omega)]at hinv;replace Z:=U g0 (U g3 (U hlen hd));(repeat'(first|refine G fun K J=>?_|refine uR Z ?_|refine uT Z ?_|refine uX ?_|(refine uC Z (fun hb=>?_) (fun hb=>?_)<;>(try simp only[hb0,simprocAttr]at hb)<;>(try(exfalso;omega)))|(refine O J ?_;clear J)|(clear J;refine O J ?_;clear J)|apply zI));rw[hinv];try rfl
theorem rwd_c{h:Heap}{s:ByteArray}:PCall Tryz.prog 79 [sPV s] h fun r h'=>r= .agg (wordM s).cells∧h'=h:=by
 refine PCall.frz Ty.hb_79 ?_;refine uG0 Tryz.func79 Tryz.ntmps79 Tryz.results79 Ty.hb_79 ?_;repeat'(first|refine G fun K J=>?_|refine uR trivial ?_|refine uT trivial ?_|(refine O J ?_;clear J)|apply zI)
 refine⟨?_,((Grow.refl h).new _).set (Nat.le_refl _) _⟩;simp only[wordM,Sx.cells,Sx.rows,FrzTo,FrzL];exact⟨_,rfl,rfl,rfl,rfl,rfl,rfl,.inr (.inl ⟨rfl,.inr rfl⟩),trivial⟩
theorem rlist_c{h:Heap}{first:ByteArray}{l:List ByteArray}(hl:l.length≤1048576):PCall Tryz.prog 81 [sPV first,.imm 1 (strRows l)] h fun r h'=>r= .agg (wordsM first l).cells∧h'=h:=by
 refine PCall.frz Ty.hb_81 ?_;have hll:=strRows_len l;have hw: ∀ (s:ByteArray)(h:Heap),PCall Tryz.prog 79 [sPV s] h fun r h'=>r= .agg (wordM s).cells∧h'=h:=fun s h=>rwd_c;simp only[wordM,Sx.cells,Sx.rows]at hw;refine uG (ow:=fun t=>t==9) (wf:=fun _=>false) Tryz.func81 Tryz.ntmps81 Tryz.results81 Ty.hb_81 ?_;repeat'(first|refine G fun K J=>?_|refine uR trivial ?_|(refine O J ?_;clear J)|apply zI)
 refine uU trivial (hw first _) ?_;repeat'(first|refine G fun K J=>?_|refine a_block ?_|refine uR hll ?_|(refine O J ?_;clear J)|apply zI)
 refine a_loop (fun m S h'=>S 1= .imm 1 (strRows l)∧S 4= .ptr h.next 0 0∧ ∃ k id:Nat,S 6= .sc (.int .i64 k)∧S 5= .own id 0 (k+1)∧k≤l.length∧m=l.length-k∧Grow h h'∧h.next<id∧id<h'.next∧
  h'.obj h.next=some (.arr 6 [[.sc (.int .i64 0),.sc (.int .i64 0),.sc (.int .i64 0),.sc (.int .i64 0),.sc (.string ⟨#[]⟩),.sc (.slice none 0 0)]])∧h'.obj id=some (.arr 6 (Sx.rows ((first::l.take k).map wordM)))) l.length ?_ ?_
 ·simp only[Ty.w,simprocAttr];have e1:¬ h.next=h.next+1:=by omega
  refine⟨0,h.next+1,rfl,rfl,by omega,rfl,((Grow.refl h).new _).new _,by omega,by simp[Heap.new],?_,?_⟩
  ·simp [Heap.new]
  ·simp [Heap.new,wordM,Sx.rows,Sx.cells]
 ·rintro m S h' ⟨g1,g4,k,id,g6,g5,hk,rfl,hg,hlo,hhi,o1,o3⟩;by_cases hlt:k<l.length
  ·have hd:decide ((k:Int)<(l.length:Int))=true:=(by simp;omega);have w7:IntKind.i64.wrap ((k:Int)+1)=k+1:=(by rw[wrap64 (by omega) (by omega)]);obtain⟨s,hx⟩: ∃ s,l[k]? =some s:=⟨_,List.getElem?_eq_getElem hlt⟩;have hr:=strRows_get hx;have hrl:(Sx.rows ((first::l.take k).map wordM)).length=k+1:=(by rw[Sx.rows_len];simp;omega);generalize hR:Sx.rows ((first::l.take k).map wordM)=R at o3 hrl;have htk:List.take (k+1) R=R:=List.take_of_length_le (by omega);have hb:(k+1+1)*72≤140737488355328:=(by omega);replace Z:=U g1 (U g4 (U g5 (U g6 (U hll (U hd (U hr (U w7 o3)))))));(repeat'(first|refine G fun K J=>?_|refine a_block ?_|refine uR Z ?_|refine uQ Z fun K J=>?_|refine uK ?_|(refine uC Z (fun hb=>?_) (fun hb=>?_)<;>(try simp only[hb0,simprocAttr]at hb)<;>(try(exfalso;omega)))|(refine O J ?_;clear J)|apply zI));replace Z:=U g1 (U g4 (U g5 (U g6 (U hll (U hd (U hr (U w7 (U o3 (U hrl (U htk hb))))))))));refine uU Z (hw s _) ?_;replace Z:=U g1 (U g4 (U g5 (U g6 (U w7 (U o3 (U hrl (U htk hb)))))));(repeat'(first|refine uR Z ?_|(refine O J ?_;clear J)|(rw[if_pos];rotate_left 1;omega;simp(maxSteps:=2000000) only[Ty.w,simprocAttr,g1,g4,g5,g6,w7,o3,hrl,htk,hb])|apply zI));refine⟨l.length-(k+1),by omega,k+1,h'.next,by simp,rfl,by omega,rfl,(hg.kill (by omega)).new _,by omega,by simp[Heap.new,Heap.kill],?_,?_⟩
   ·have a2:¬ h.next=h'.next:=by omega
    have a3:¬ h.next=id:=by omega
    simp only[Heap.new,Heap.kill,a2,a3,if_false];exact o1
   ·simp only[Heap.new,Heap.kill,if_true];rw[List.take_add_one,hx, ← hR];simp only[Sx.rows_map,List.map_cons,List.map_append,List.map_nil,Option.toList_some,List.cons_append,wordM,Sx.cells]
  ·have hd:decide ((k:Int)<(l.length:Int))=false:=(by simp;omega);have hke:k=l.length:=(by omega);subst hke;rw[List.take_length]at o3;replace Z:=U g1 (U g4 (U g5 (U g6 (U hll (U hd (U o1 o3))))));(repeat'(first|refine G fun K J=>?_|refine uR Z ?_|refine uT Z ?_|refine uX ?_|(refine uC Z (fun hb=>?_) (fun hb=>?_)<;>(try simp only[hb0,simprocAttr]at hb)<;>(try(exfalso;omega)))|(refine O J ?_;clear J)|(clear J;refine O J ?_;clear J)|apply zI));refine⟨?_,hg.set (Nat.le_refl _) _⟩;simp only[wordsM,listM,Sx.cells,FrzTo,FrzL];refine⟨_,rfl,rfl,rfl,rfl,rfl,rfl,.inr (.inr ⟨id,0,l.length+1,Sx.rows ((first::l).map wordM),rfl,by omega,?_,?_,?_⟩),trivial⟩
   ·simp only[Heap.set];rw[if_neg (by omega)];exact o3
   ·rw [Sx.rows_len];simp
   ·rw [List.drop_zero,List.take_of_length_le (by rw[Sx.rows_len];simp)];exact sxs_frz _ _ _
theorem rwriteE_c: ∀ e:Ex,e.small→shapedE e=true→ ∀ h:Heap,PCall Tryz.prog 82 [.agg e.cells] h fun r h'=>r= .agg (exW e).cells∧h'=h:=by
 refine Ex.ind ?_;intro op name n args kids ih hsm hsh h;simp only[Ex.small]at hsm;obtain⟨hal,hks⟩:=hsm;rw[Ex.smalls_iff]at hks;unfold shapedE at hsh;unfold exW;refine PCall.frz Ty.hb_82 ?_;cases c1:bEq op opNum with
 |true=>
  have c1':(op.data.toList==(#[110,117,109,98,101,114]:Array UInt8).toList)=true:=c1;simp only[if_true,Ex.cells];refine uG0 Tryz.func82 Tryz.ntmps82 Tryz.results82 Ty.hb_82 ?_;repeat'(first|refine G fun K J=>?_|refine uR c1' ?_|refine uT c1' ?_|(refine O J ?_;clear J)|apply zI)
  refine⟨?_,((Grow.refl h).new _).set (Nat.le_refl _) _⟩;simp only[Sx.cells,Sx.rows,FrzTo,FrzL];exact⟨_,rfl,rfl,rfl,rfl,rfl,rfl,.inr (.inl ⟨rfl,.inr rfl⟩),trivial⟩
 |false=>
  have c1':(op.data.toList==(#[110,117,109,98,101,114]:Array UInt8).toList)=false:=c1;rw[c1]at hsh;simp only[Bool.false_eq_true,if_false]at hsh⊢;cases c2:bEq op opFlu with
  |true=>
   have c2':(op.data.toList==(#[102,108,117,101,110,116]:Array UInt8).toList)=true:=c2;have hw:=fun h:Heap=>rlist_c (h:=h) (first:=name) hal;have hfz:=fun(n:Nat)(h:Heap)=>sx_frz n h (wordsM name args);simp only[if_true,Ex.cells];generalize wordsM name args=X at hw hfz;obtain⟨ki,va,li,co,te,ks⟩:=X;simp only[Sx.cells]at hw hfz⊢;refine uG0 Tryz.func82 Tryz.ntmps82 Tryz.results82 Ty.hb_82 ?_;(repeat'(first|refine G fun K J=>?_|refine uR (U c1' c2') ?_|(refine O J ?_;clear J)|apply zI));refine uU (U c1' c2') (hw _) ?_;(repeat'(first|refine uT trivial ?_|(refine O J ?_;clear J)|apply zI));refine⟨?_,((Grow.refl h).new _).set (Nat.le_refl _) _⟩;simp only[FrzTo];exact⟨_,rfl,hfz _ _⟩
  |false=>
   have c2':(op.data.toList==(#[102,108,117,101,110,116]:Array UInt8).toList)=false:=c2;rw[c2]at hsh;simp only[Bool.false_eq_true,if_false]at hsh⊢;split at hsh
   case isFalse=>simp at hsh
   simp only[Bool.and_eq_true]at hsh;obtain⟨⟨⟨_,_⟩,_⟩,hsh⟩:=hsh;split at hsh
   case h_2=>simp at hsh
   rename_i a b;simp only[Bool.and_eq_true]at hsh;have ca:=ih a (by simp) (hks a (by simp)) hsh.1;have cb:=ih b (by simp) (hks b (by simp)) hsh.2;have hw:=fun h:Heap=>rwd_c (h:=h) (s:=op);have hfz:=fun(n:Nat)(h:Heap)=>sx_frz n h (listM [wordM op,exW a,exW b]);generalize exW a=xa at ca hfz⊢;generalize exW b=xb at cb hfz⊢;(try clear Z);clear ih hks hsh;obtain⟨aop,aname,an,aargs,akids⟩:=a;obtain⟨bop,bname,bn,bargs,bkids⟩:=b;obtain⟨ki,va,li,co,te,ks⟩:=xa;obtain⟨ki2,va2,li2,co2,te2,ks2⟩:=xb;simp only[Ex.cells,Ex.rows,listM,Sx.cells,Sx.rows,wordM]at ca cb hw hfz⊢;refine uG0 Tryz.func82 Tryz.ntmps82 Tryz.results82 Ty.hb_82 ?_;replace Z:=U c1' c2';(repeat'(first|refine G fun K J=>?_|refine a_block ?_|refine uR Z ?_|refine uD Z ?_|refine uK ?_|(refine O J ?_;clear J)|apply zI));(first|refine uV trivial (hw _) ?_|refine uA trivial (hw _) ?_);(try apply zI);(first|refine uV trivial (ca _) ?_|refine uA trivial (ca _) ?_);(try apply zI);(first|refine uV trivial (cb _) ?_|refine uA trivial (cb _) ?_);(repeat'(first|refine uT trivial ?_|(refine O J ?_;clear J)|refine uB trivial ?_|apply zI));refine⟨?_,((Grow.refl h).new _).set (Nat.le_refl _) _⟩;simp only[FrzTo];exact⟨_,rfl,hfz _ _⟩
set_option maxHeartbeats 8000000
def opB(op name:ByteArray)(v:Int)(args:List ByteArray)(kids:List Ex):Bool:=
 if(op.data.toList==(#[110,117,109,98,101,114]:Array UInt8).toList)then decide (v≥ -1099511627776)&&(decide (v≤1099511627776)&&((name.data.toList==(#[]:Array UInt8).toList)&&(((args.length:Int)==0)&&((kids.length:Int)==0))))
 else if(op.data.toList==(#[102,108,117,101,110,116]:Array UInt8).toList)then(v==0)&&(nameB name&&(args.all termB&&((kids.length:Int)==0)))
 else if((op.data.toList==(#[43]:Array UInt8).toList)||((op.data.toList==(#[45]:Array UInt8).toList)||(op.data.toList==(#[42]:Array UInt8).toList)))then(v==0)&&((name.data.toList==(#[]:Array UInt8).toList)&&(((args.length:Int)==0)&&((kids.length:Int)==2)))
 else false
theorem shapedE_kid{op name:ByteArray}{v:Int}{args:List ByteArray}{kids:List Ex}(h:shapedE (.mk op name v args kids)=true): ∀ k∈kids,shapedE k=true:=by
 unfold shapedE at h;intro k hk;split at h
 ·simp only[Bool.and_eq_true,List.isEmpty_iff]at h;rw[h.1.2]at hk;simp at hk
 ·split at h
  ·simp only[Bool.and_eq_true,List.isEmpty_iff]at h;rw[h.1.1.2]at hk;simp at hk
  ·split at h
   ·simp only[Bool.and_eq_true]at h;obtain⟨_,h⟩:=h;split at h
    ·simp only[Bool.and_eq_true]at h;simp only[List.mem_cons,List.not_mem_nil,or_false]at hk;rcases hk with rfl|rfl
     ·exact h.1
     ·exact h.2
    ·simp at h
   ·simp at h
theorem shapedE_op{op name:ByteArray}{v:Int}{args:List ByteArray}{kids:List Ex}(h: ∀ k∈kids,shapedE k=true):shapedE (.mk op name v args kids)=opB op name v args kids:=by
 have n1:bEq op opNum=(op.data.toList==(#[110,117,109,98,101,114]:Array UInt8).toList):=rfl;have n2:bEq op opFlu=(op.data.toList==(#[102,108,117,101,110,116]:Array UInt8).toList):=rfl;have n3:bEq op opPls=(op.data.toList==(#[43]:Array UInt8).toList):=rfl;have n4:bEq op opMin=(op.data.toList==(#[45]:Array UInt8).toList):=rfl;have n5:bEq op opTim=(op.data.toList==(#[42]:Array UInt8).toList):=rfl;have n6:emptyB name=(name.data.toList==(#[]:Array UInt8).toList):=rfl;have n7:decide (v=0)=(v==0):=by by_cases h0:v=0<;>simp[h0]
 have n8:inNum v=(decide (v≥ -1099511627776)&&decide (v≤1099511627776)):=rfl;unfold shapedE opB;rw[n1,n2,n3,n4,n5,n6,n7,n8, ← emp_len args, ← emp_len kids];split
 ·generalize decide (v≥ -1099511627776)=a;generalize decide (v≤1099511627776)=b;generalize(name.data.toList==(#[]:Array UInt8).toList)=c;generalize((args.length:Int)==0)=d;generalize((kids.length:Int)==0)=e;cases a<;>cases b<;>cases c<;>cases d<;>cases e<;>rfl
 ·split
  ·generalize (v==0)=a;generalize nameB name=b;generalize args.all termB=c;generalize((kids.length:Int)==0)=e;cases a<;>cases b<;>cases c<;>cases e<;>rfl
  ·rw [Bool.or_assoc];split
   ·rw [Bool.and_assoc,Bool.and_assoc];congr 1;congr 1;congr 1
    match kids,h with
    |[],_=>rfl
    |[_],_=>rfl
    |[a,b],h=>simp only[h a (by simp),h b (by simp)];rfl
    |_::_::_::l,_=>simp;omega
   ·rfl
theorem rshapedE_c: ∀ e:Ex,e.ok→ ∀ h:Heap,PCall Tryz.prog 108 [.agg e.cells] h fun r h'=>r= .sc (.bool (shapedE e))∧h'=h:=by
 refine Ex.ind ?_;intro op name v args kids ih hok h;simp only[Ex.ok]at hok;obtain⟨_,hnm,_,⟨hal,hargs⟩,hkl,hks⟩:=hok;rw[Ex.oks_iff]at hks;have hnm':name.size≤9223372036854775807:=by unfold bigN at hnm;omega
 have hlA:=strRows_len args;have hlK:=Ex.rows_len kids;have hkid: ∀ k∈kids,shapedE k=false→shapedE (.mk op name v args kids)=false:=fun k hk hf=>by
  cases hh:shapedE (.mk op name v args kids)with
  |false=>rfl
  |true=>rw[shapedE_kid hh k hk]at hf;simp at hf
 have hop:(∀ k∈kids,shapedE k=true)→shapedE (.mk op name v args kids)=opB op name v args kids:=shapedE_op;generalize shapedE (.mk op name v args kids)=F at hkid hop;simp only[Ex.cells];refine uG0 Tryz.func108 Tryz.ntmps108 Tryz.results108 Ty.hb_108 ?_;repeat'(first|refine G fun K J=>?_|refine a_block ?_|refine uR hlK ?_|(refine O J ?_;clear J)|apply zI)
 refine a_loop (fun m S h'=>h'=h∧S 1= .cptr (Ex.mk op name v args kids).cells∧ ∃ k:Nat,S 3= .sc (.int .i64 k)∧k≤kids.length∧m=kids.length-k∧ ∀ (i:Nat)(e:Ex),i<k→kids[i]? =some e→shapedE e=true) kids.length ?_ ?_
 ·simp only[Ty.w,simprocAttr];exact⟨rfl,0,rfl,by omega,rfl,by omega⟩
 ·rintro m S h' ⟨rfl,g1,k,g3,hkk,rfl,hall⟩;simp only[Ex.cells]at g1;by_cases hlt:k<kids.length
  ·(try clear Z);clear hop;have hd:decide ((k:Int)<(kids.length:Int))=true:=(by simp;omega);have w7:IntKind.i64.wrap ((k:Int)+1)=k+1:=(by unfold bigN at hkl;rw[wrap64 (by omega) (by omega)]);obtain⟨e,hx⟩: ∃ e,kids[k]? =some e:=⟨_,List.getElem?_eq_getElem hlt⟩;have hmem:=List.mem_of_getElem? hx;have hc:=ih e hmem (hks e hmem);have hr:=Ex.rows_get hx;have hbad:=hkid e hmem;have hgood:shapedE e=true→ ∀ (i:Nat)(e:Ex),i<k+1→kids[i]? =some e→shapedE e=true:=fun h1 i e2 hi hw=>by
    by_cases hik:i=k
    ·subst hik;rw[hx]at hw;simp at hw;rw[← hw];exact h1
    ·exact hall i e2 (by omega) hw
   generalize shapedE e=b at hc hbad hgood;(try clear Z);clear hkid hall;obtain⟨op2,name2,n2,args2,kids2⟩:=e;simp only[Ex.cells]at hr hc;cases b with
   |false=>
    have:=hbad rfl;subst this;replace Z:=U g1 (U g3 (U hlK (U hd (U hr w7))));(repeat'(first|refine G fun K J=>?_|refine uR Z ?_|refine uK ?_|refine uC1 Z ?_|(refine O J ?_;clear J)|apply zI));replace Z:=U g1 (U g3 (U hlK (U hd (U hr @Bool.not_false))));refine uU Z (hc _) ?_;replace Z:=U g1 (U g3 (U w7 @Bool.not_false));repeat'(first|refine G fun K J=>?_|refine uR Z ?_|refine uT Z ?_|(refine O J ?_;clear J)|apply zI)
   |true=>
    replace Z:=U g1 (U g3 (U hlK (U hd (U hr w7))));(repeat'(first|refine G fun K J=>?_|refine uR Z ?_|refine uK ?_|refine uC1 Z ?_|(refine O J ?_;clear J)|apply zI));replace Z:=U g1 (U g3 (U hlK (U hd (U hr @Bool.not_true))));refine uU Z (hc _) ?_;replace Z:=U g1 (U g3 (U w7 @Bool.not_true));(repeat'(first|refine a_block ?_|refine uR Z ?_|refine uK ?_|(refine O J ?_;clear J)|apply zI));exact⟨kids.length-(k+1),by omega,rfl,k+1,by simp,by omega,rfl,hgood rfl⟩
  ·have hd:decide ((k:Int)<(kids.length:Int))=false:=(by simp;omega);have hF:=hop fun e he=>by
    obtain⟨i,hi⟩:=List.getElem?_of_mem he;exact hall i e (by have:=(List.getElem?_eq_some_iff.1 hi).1;omega) hi
   (try clear Z);clear hop hall hkid ih;have hn:=fun h:Heap=>rname_c (h:=h) (s:=name) hnm';have hA:=fun h:Heap=>rall_c (h:=h) hal hargs;unfold opB at hF;cases k1:(op.data.toList==(#[110,117,109,98,101,114]:Array UInt8).toList)with
   |true=>
    rw[k1]at hF;simp only[if_true]at hF;cases q1:decide (v≥ -1099511627776)with
    |false=>
     rw[q1]at hF;simp only[Bool.false_and]at hF;subst hF;replace Z:=U g1 (U g3 (U hd (U hlA (U hlK (U k1 q1)))));repeat'(first|refine G fun K J=>?_|refine uR Z ?_|refine uT Z ?_|refine uX ?_|refine uC1 Z ?_|(refine O J ?_;clear J)|(clear J;refine O J ?_;clear J)|apply zI)
    |true=>
     rw[q1,Bool.true_and]at hF;cases q2:decide (v≤1099511627776)with
     |false=>
      rw[q2]at hF;simp only[Bool.false_and]at hF;subst hF;replace Z:=U g1 (U g3 (U hd (U hlA (U hlK (U k1 (U q1 q2))))));repeat'(first|refine G fun K J=>?_|refine uR Z ?_|refine uT Z ?_|refine uX ?_|refine uC1 Z ?_|(refine O J ?_;clear J)|(clear J;refine O J ?_;clear J)|apply zI)
     |true=>
      rw[q2,Bool.true_and]at hF;cases q3:(name.data.toList==(#[]:Array UInt8).toList)with
      |false=>
       rw[q3]at hF;simp only[Bool.false_and]at hF;subst hF;replace Z:=U g1 (U g3 (U hd (U hlA (U hlK (U k1 (U q1 (U q2 q3)))))));repeat'(first|refine G fun K J=>?_|refine uR Z ?_|refine uT Z ?_|refine uX ?_|refine uC1 Z ?_|(refine O J ?_;clear J)|(clear J;refine O J ?_;clear J)|apply zI)
      |true=>
       rw[q3,Bool.true_and]at hF;cases q4:((args.length:Int)==0)with
       |false=>
        rw[q4]at hF;simp only[Bool.false_and]at hF;subst hF;replace Z:=U g1 (U g3 (U hd (U hlA (U hlK (U k1 (U q1 (U q2 (U q3 q4))))))));repeat'(first|refine G fun K J=>?_|refine uR Z ?_|refine uT Z ?_|refine uX ?_|refine uC1 Z ?_|(refine O J ?_;clear J)|(clear J;refine O J ?_;clear J)|apply zI)
       |true=>
        rw[q4,Bool.true_and]at hF;subst hF;replace Z:=U g1 (U g3 (U hd (U hlA (U hlK (U k1 (U q1 (U q2 (U q3 q4))))))));repeat'(first|refine G fun K J=>?_|refine uR Z ?_|refine uT Z ?_|refine uX ?_|refine uC1 Z ?_|(refine O J ?_;clear J)|(clear J;refine O J ?_;clear J)|apply zI)
   |false=>
    rw[k1]at hF;simp only[Bool.false_eq_true,if_false]at hF;cases k2:(op.data.toList==(#[102,108,117,101,110,116]:Array UInt8).toList)with
    |true=>
     rw[k2]at hF;simp only[if_true]at hF;cases q1:(v==0)with
     |false=>
      rw[q1]at hF;simp only[Bool.false_and]at hF;subst hF;replace Z:=U g1 (U g3 (U hd (U hlA (U hlK (U k1 (U k2 q1))))));repeat'(first|refine G fun K J=>?_|refine uR Z ?_|refine uT Z ?_|refine uX ?_|refine uC1 Z ?_|(refine O J ?_;clear J)|(clear J;refine O J ?_;clear J)|apply zI)
     |true=>
      rw[q1,Bool.true_and]at hF;generalize nameB name=bn at hn hF;cases bn with
      |false=>
       simp only[Bool.false_and]at hF;subst hF;replace Z:=U g1 (U g3 (U hd (U hlA (U hlK (U k1 (U k2 q1))))));(repeat'(first|refine G fun K J=>?_|refine uR Z ?_|refine uX ?_|refine uC1 Z ?_|(refine O J ?_;clear J)|(clear J;refine O J ?_;clear J)|apply zI));refine uU Z (hn _) ?_;repeat'(first|refine uT Z ?_|(refine O J ?_;clear J)|apply zI)
      |true=>
       rw[Bool.true_and]at hF;generalize args.all termB=ba at hA hF;cases ba with
       |false=>
        simp only[Bool.false_and]at hF;subst hF;replace Z:=U g1 (U g3 (U hd (U hlA (U hlK (U k1 (U k2 q1))))));(repeat'(first|refine G fun K J=>?_|refine uR Z ?_|refine uX ?_|refine uC1 Z ?_|(refine O J ?_;clear J)|(clear J;refine O J ?_;clear J)|apply zI));refine uU Z (hn _) ?_;(try apply zI);refine uU Z (hA _) ?_;repeat'(first|refine uT Z ?_|(refine O J ?_;clear J)|apply zI)
       |true=>
        rw[Bool.true_and]at hF;subst hF;replace Z:=U g1 (U g3 (U hd (U hlA (U hlK (U k1 (U k2 q1))))));(repeat'(first|refine G fun K J=>?_|refine uR Z ?_|refine uX ?_|refine uC1 Z ?_|(refine O J ?_;clear J)|(clear J;refine O J ?_;clear J)|apply zI));refine uU Z (hn _) ?_;(try apply zI);refine uU Z (hA _) ?_;repeat'(first|refine uT Z ?_|(refine O J ?_;clear J)|apply zI)
    |false=>
     rw[k2]at hF;simp only[Bool.false_eq_true,if_false]at hF;(try clear Z);clear hn hA;cases k3:(op.data.toList==(#[43]:Array UInt8).toList)with
     |true=>
      rw[k3]at hF;simp only[Bool.true_or,if_true]at hF;cases q1:(v==0)with
      |false=>
       rw[q1]at hF;simp only[Bool.false_and]at hF;subst hF;replace Z:=U g1 (U g3 (U hd (U hlA (U hlK (U k1 (U k2 (U k3 q1)))))));repeat'(first|refine G fun K J=>?_|refine uR Z ?_|refine uT Z ?_|refine uK ?_|refine uX ?_|refine uC1 Z ?_|(refine O J ?_;clear J)|(clear J;refine O J ?_;clear J)|apply zI)
      |true=>
       rw[q1,Bool.true_and]at hF;cases q2:(name.data.toList==(#[]:Array UInt8).toList)with
       |false=>
        rw[q2]at hF;simp only[Bool.false_and]at hF;subst hF;replace Z:=U g1 (U g3 (U hd (U hlA (U hlK (U k1 (U k2 (U k3 (U q1 q2))))))));repeat'(first|refine G fun K J=>?_|refine uR Z ?_|refine uT Z ?_|refine uK ?_|refine uX ?_|refine uC1 Z ?_|(refine O J ?_;clear J)|(clear J;refine O J ?_;clear J)|apply zI)
       |true=>
        rw[q2,Bool.true_and]at hF;cases q3:((args.length:Int)==0)with
        |false=>
         rw[q3]at hF;simp only[Bool.false_and]at hF;subst hF;replace Z:=U g1 (U g3 (U hd (U hlA (U hlK (U k1 (U k2 (U k3 (U q1 (U q2 q3)))))))));repeat'(first|refine G fun K J=>?_|refine uR Z ?_|refine uT Z ?_|refine uK ?_|refine uX ?_|refine uC1 Z ?_|(refine O J ?_;clear J)|(clear J;refine O J ?_;clear J)|apply zI)
        |true=>
         rw[q3,Bool.true_and]at hF;subst hF;replace Z:=U g1 (U g3 (U hd (U hlA (U hlK (U k1 (U k2 (U k3 (U q1 (U q2 q3)))))))));repeat'(first|refine G fun K J=>?_|refine uR Z ?_|refine uT Z ?_|refine uK ?_|refine uX ?_|refine uC1 Z ?_|(refine O J ?_;clear J)|(clear J;refine O J ?_;clear J)|apply zI)
     |false=>
      rw[k3]at hF;simp only[Bool.false_or]at hF;cases k4:(op.data.toList==(#[45]:Array UInt8).toList)with
      |true=>
       rw[k4]at hF;simp only[Bool.true_or,if_true]at hF;cases q1:(v==0)with
       |false=>
        rw[q1]at hF;simp only[Bool.false_and]at hF;subst hF;replace Z:=U g1 (U g3 (U hd (U hlA (U hlK (U k1 (U k2 (U k3 (U k4 q1))))))));repeat'(first|refine G fun K J=>?_|refine uR Z ?_|refine uT Z ?_|refine uK ?_|refine uX ?_|refine uC1 Z ?_|(refine O J ?_;clear J)|(clear J;refine O J ?_;clear J)|apply zI)
       |true=>
        rw[q1,Bool.true_and]at hF;cases q2:(name.data.toList==(#[]:Array UInt8).toList)with
        |false=>
         rw[q2]at hF;simp only[Bool.false_and]at hF;subst hF;replace Z:=U g1 (U g3 (U hd (U hlA (U hlK (U k1 (U k2 (U k3 (U k4 (U q1 q2)))))))));repeat'(first|refine G fun K J=>?_|refine uR Z ?_|refine uT Z ?_|refine uK ?_|refine uX ?_|refine uC1 Z ?_|(refine O J ?_;clear J)|(clear J;refine O J ?_;clear J)|apply zI)
        |true=>
         rw[q2,Bool.true_and]at hF;cases q3:((args.length:Int)==0)with
         |false=>
          rw[q3]at hF;simp only[Bool.false_and]at hF;subst hF;replace Z:=U g1 (U g3 (U hd (U hlA (U hlK (U k1 (U k2 (U k3 (U k4 (U q1 (U q2 q3))))))))));repeat'(first|refine G fun K J=>?_|refine uR Z ?_|refine uT Z ?_|refine uK ?_|refine uX ?_|refine uC1 Z ?_|(refine O J ?_;clear J)|(clear J;refine O J ?_;clear J)|apply zI)
         |true=>
          rw[q3,Bool.true_and]at hF;subst hF;replace Z:=U g1 (U g3 (U hd (U hlA (U hlK (U k1 (U k2 (U k3 (U k4 (U q1 (U q2 q3))))))))));repeat'(first|refine G fun K J=>?_|refine uR Z ?_|refine uT Z ?_|refine uK ?_|refine uX ?_|refine uC1 Z ?_|(refine O J ?_;clear J)|(clear J;refine O J ?_;clear J)|apply zI)
      |false=>
       rw[k4]at hF;simp only[Bool.false_or]at hF;cases k5:(op.data.toList==(#[42]:Array UInt8).toList)with
       |true=>
        rw[k5]at hF;simp only[if_true]at hF;cases q1:(v==0)with
        |false=>
         rw[q1]at hF;simp only[Bool.false_and]at hF;subst hF;replace Z:=U g1 (U g3 (U hd (U hlA (U hlK (U k1 (U k2 (U k3 (U k4 (U k5 q1)))))))));repeat'(first|refine G fun K J=>?_|refine uR Z ?_|refine uT Z ?_|refine uX ?_|refine uC1 Z ?_|(refine O J ?_;clear J)|(clear J;refine O J ?_;clear J)|apply zI)
        |true=>
         rw[q1,Bool.true_and]at hF;cases q2:(name.data.toList==(#[]:Array UInt8).toList)with
         |false=>
          rw[q2]at hF;simp only[Bool.false_and]at hF;subst hF;replace Z:=U g1 (U g3 (U hd (U hlA (U hlK (U k1 (U k2 (U k3 (U k4 (U k5 (U q1 q2))))))))));repeat'(first|refine G fun K J=>?_|refine uR Z ?_|refine uT Z ?_|refine uX ?_|refine uC1 Z ?_|(refine O J ?_;clear J)|(clear J;refine O J ?_;clear J)|apply zI)
         |true=>
          rw[q2,Bool.true_and]at hF;cases q3:((args.length:Int)==0)with
          |false=>
           rw[q3]at hF;simp only[Bool.false_and]at hF;subst hF;replace Z:=U g1 (U g3 (U hd (U hlA (U hlK (U k1 (U k2 (U k3 (U k4 (U k5 (U q1 (U q2 q3)))))))))));repeat'(first|refine G fun K J=>?_|refine uR Z ?_|refine uT Z ?_|refine uX ?_|refine uC1 Z ?_|(refine O J ?_;clear J)|(clear J;refine O J ?_;clear J)|apply zI)
          |true=>
           rw[q3,Bool.true_and]at hF;subst hF;replace Z:=U g1 (U g3 (U hd (U hlA (U hlK (U k1 (U k2 (U k3 (U k4 (U k5 (U q1 (U q2 q3)))))))))));repeat'(first|refine G fun K J=>?_|refine uR Z ?_|refine uT Z ?_|refine uX ?_|refine uC1 Z ?_|(refine O J ?_;clear J)|(clear J;refine O J ?_;clear J)|apply zI)
       |false=>
        rw[k5]at hF;simp only[Bool.false_eq_true,if_false]at hF;subst hF;replace Z:=U g1 (U g3 (U hd (U hlA (U hlK (U k1 (U k2 (U k3 (U k4 k5))))))));repeat'(first|refine G fun K J=>?_|refine a_block ?_|refine uR Z ?_|refine uT Z ?_|refine uK ?_|refine uX ?_|refine uC1 Z ?_|(refine O J ?_;clear J)|(clear J;refine O J ?_;clear J)|apply zI)
def opF(op name:ByteArray)(args:List ByteArray)(params:List Pm)(ne nk:Nat):Bool:=
 if bEq op opAtom then nameB name&&(args.all termB&&((((params.length:Int)+ne)+nk)==0))
 else if bEq op opSame then bEq name ⟨#[]⟩&&(((args.length:Int)==2)&&(args.all termB&&((((params.length:Int)+ne)+nk)==0)))
 else if(bEq op opLt||(bEq op opLe||bEq op opEq))then bEq name ⟨#[]⟩&&(((((args.length:Int)+params.length)+nk)==0)&&((ne:Int)==2))
 else if(bEq op opAnd||bEq op opOr)then bEq name ⟨#[]⟩&&((((args.length:Int)+params.length)+ne)==0)
 else if bEq op opNot then bEq name ⟨#[]⟩&&(((((args.length:Int)+params.length)+ne)==0)&&((nk:Int)==1))
 else if bEq op opImp then bEq name ⟨#[]⟩&&(((((args.length:Int)+params.length)+ne)==0)&&((nk:Int)==2))
 else if(bEq op opAll||bEq op opSome)then bEq name ⟨#[]⟩&&((((args.length:Int)+ne)==0)&&(((nk:Int)==1)&&params.all pmOk))
 else false
theorem partsOk_opF(op name:ByteArray)(args:List ByteArray)(params:List Pm)(ne nk:Nat):partsOk op name args params ne nk=opF op name args params ne nk:=by
 have ea:args.isEmpty=decide (args.length=0):=by cases args<;>simp
 have ep:params.isEmpty=decide (params.length=0):=by cases params<;>simp
 have ep2:params.length=0→params.all pmOk=true:=fun h=>by rw[List.length_eq_zero_iff.1 h];try rfl
 have en:emptyB name=bEq name ⟨#[]⟩:=rfl;unfold partsOk shapeOf termsOk opF;rw[ea,en,ep];generalize args.all termB=ta;generalize params.all pmOk=pa at ep2;generalize bEq name ⟨#[]⟩=nm;generalize nameB name=nn;generalize args.length=la;generalize params.length=lp at ep2;cases k1:bEq op opAtom
 ·cases k2:bEq op opSame
  ·cases k3:bEq op opLt
   ·cases k4:bEq op opLe
    ·cases k5:bEq op opEq
     ·cases k6:bEq op opAnd
      ·cases k7:bEq op opOr
       ·cases k8:bEq op opNot
        ·cases k9:bEq op opImp
         ·cases k10:bEq op opAll
          ·cases k11:bEq op opSome
           ·simp
           ·rw [Bool.eq_iff_iff];simp;cases nm<;>cases pa<;>simp<;>omega
          ·rw [Bool.eq_iff_iff];simp;cases nm<;>cases pa<;>simp<;>omega
         ·rw [Bool.eq_iff_iff];simp;cases nm<;>cases pa<;>simp at ep2⊢ <;>omega
        ·rw [Bool.eq_iff_iff];simp;cases nm<;>cases pa<;>simp at ep2⊢ <;>omega
       ·rw [Bool.eq_iff_iff];simp;cases nm<;>cases pa<;>simp at ep2⊢ <;>omega
      ·rw [Bool.eq_iff_iff];simp;cases nm<;>cases pa<;>simp at ep2⊢ <;>omega
     ·rw [Bool.eq_iff_iff];simp;cases nm<;>cases pa<;>simp at ep2⊢ <;>omega
    ·rw [Bool.eq_iff_iff];simp;cases nm<;>cases pa<;>simp at ep2⊢ <;>omega
   ·rw [Bool.eq_iff_iff];simp;cases nm<;>cases pa<;>simp at ep2⊢ <;>omega
  ·rw [Bool.eq_iff_iff];simp;cases nm<;>cases pa<;>cases ta<;>simp at ep2⊢ <;>omega
 ·rw [Bool.eq_iff_iff];simp;cases nn<;>cases pa<;>cases ta<;>simp at ep2⊢ <;>omega
theorem shapedF_op{op name:ByteArray}{args:List ByteArray}{params:List Pm}{exprs:List Ex}{kids:List Fm}(hE: ∀ e∈exprs,shapedE e=true)(J: ∀ k∈kids,shapedF k=true):
  shapedF (.mk op name args params exprs kids)=opF op name args params exprs.length kids.length:=by
 have h1:exprs.all shapedE=true:=List.all_eq_true.2 hE;have h2:shapedFs kids=true:=shapedFs_iff.2 J;simp only[shapedF,h1,h2,Bool.and_true,partsOk_opF]
theorem shapedF_kid{op name:ByteArray}{args:List ByteArray}{params:List Pm}{exprs:List Ex}{kids:List Fm}(h:shapedF (.mk op name args params exprs kids)=true):(∀ e∈exprs,shapedE e=true)∧ ∀ k∈kids,shapedF k=true:=by
 simp only[shapedF,Bool.and_eq_true]at h;exact⟨List.all_eq_true.1 h.1.2,shapedFs_iff.1 h.2⟩
def pmR(v:Bool)(p:Pm):Bool:=(if v=true then varB p.name else nameB p.name)&&typedB p.type
theorem pmR_ok:pmR true=pmOk:=rfl
theorem a_genR{P:Program}{ow:Nat→Bool}{wf:FuncId→Bool}{n:Nat}{Q:Post}{s:Slots}{h:Heap}{c:Code}(I:Slots→Heap→Prop)(hi:I s h)(hh: ∀ s h,I s h→awp P ow wf n c Q s h):awp P ow wf n c Q s h:=hh _ _ hi
theorem rshapedPs_c{v:Bool}{l:List Pm}(hl:l.length≤bigN)(hp: ∀ p∈l,p.ok)(h:Heap):PCall Tryz.prog 29 [.imm 2 (pmRows l),.sc (.bool v)] h fun r h'=>r= .sc (.bool (l.all (pmR v)))∧h'=h:=by
 unfold bigN at hl;have hlen:=pmRows_len l;cases v with
 |true=>
  refine uG0 Tryz.func29 Tryz.ntmps29 Tryz.results29 Ty.hb_29 ?_;repeat'(first|refine G fun K J=>?_|refine a_block ?_|refine uR hlen ?_|(refine O J ?_;clear J)|apply zI)
  refine a_loop (fun m S h'=>h'=h∧S 0= .imm 2 (pmRows l)∧S 1= .sc (.bool true)∧ ∃ k:Nat,S 5= .sc (.int .i64 k)∧k≤l.length∧m=l.length-k∧l.all (pmR true)=(l.drop k).all (pmR true)) l.length ?_ ?_
  ·simp only[Ty.w,simprocAttr];exact⟨0,rfl,by omega,rfl,by simp⟩
  ·rintro m S h' ⟨rfl,g0,g1,k,g5,hk,rfl,hinv⟩;by_cases hlt:k<l.length
   ·have hd:decide ((k:Int)<(l.length:Int))=true:=(by simp;omega);have w7:IntKind.i64.wrap ((k:Int)+1)=k+1:=(by rw[wrap64 (by omega) (by omega)]);obtain⟨p,hx⟩: ∃ p,l[k]? =some p:=⟨l[k],List.getElem?_eq_getElem hlt⟩;have hr:=pmRows_get hx;have hpo:=hp p (List.mem_of_getElem? hx);have h1:p.name.size≤9223372036854775807:=(by have:=hpo.1;unfold bigN at this;omega);have h2:p.type.size≤9223372036854775807:=(by have:=hpo.2;unfold bigN at this;omega);have hc:=fun h:Heap=>rvariable_c (h:=h) (s:=p.name) h1;have hc2:=fun h:Heap=>rname_c (h:=h) (s:=p.type) h2;rw[drop_of_get hx,List.all_cons]at hinv;have hq:pmR true p=(varB p.name&&(nameB p.type||(p.type.data.toList==(#[111,98,106,101,99,116]:Array UInt8).toList))):=rfl;rw[hq]at hinv;(try clear Z);clear hq;generalize varB p.name=b at hc hinv;generalize nameB p.type=b2 at hc2 hinv;cases b with
    |false=>
     simp only[Bool.false_and]at hinv;(repeat'(first|refine G fun K J=>?_|(refine a_regionS ?_;simp(maxSteps:=2000000) only[Ty.w,simprocAttr,g0,g1,g5,hd,hr,bne,Bool.not_true,Bool.not_false])|(refine a_skip ?_;(try simp only[pst0,simprocAttr]))|(refine a_cond _ (by(try simp(maxSteps:=2000000) only[Ty.w,simprocAttr,g0,g1,g5,hd,hr,bne,Bool.not_true,Bool.not_false]);rfl) (fun hb=>?_) (fun hb=>?_)<;>(try simp only[hb0,decide_eq_true_eq,decide_eq_false_iff_not,simprocAttr]at hb)<;>(try(exfalso;omega)))|(refine J _ _ ?_;clear J;(try simp only[pst0,simprocAttr]))));refine owp_useQ (hc _) (by(try simp only[Ty.w,simprocAttr,g0,g1,g5,hd,hr,bne,Bool.not_true,Bool.not_false]);try rfl) ?_;simp(maxSteps:=2000000) only[Ty.w,simprocAttr,g0,g1,g5,hd,hr,bne,Bool.not_true,Bool.not_false];(repeat'(first|refine G fun K J=>?_|((first|refine a_regionS ?_|refine a_ret ?_);simp(maxSteps:=2000000) only[Ty.w,simprocAttr,g0,g1,g5,hd,hr,bne,Bool.not_true,Bool.not_false])|(refine J _ _ ?_;clear J;(try simp only[pst0,simprocAttr]))));rw[hinv]
    |true=>
     cases q:(p.type.data.toList==(#[111,98,106,101,99,116]:Array UInt8).toList)with
     |true=>
      simp only[q,Bool.or_true,Bool.true_and]at hinv;(repeat'(first|refine G fun K J=>?_|(refine a_regionS ?_;simp(maxSteps:=2000000) only[Ty.w,simprocAttr,g0,g1,g5,hd,hr,bne,Bool.not_true,Bool.not_false,q])|(refine a_skip ?_;(try simp only[pst0,simprocAttr]))|(refine a_cond _ (by(try simp(maxSteps:=2000000) only[Ty.w,simprocAttr,g0,g1,g5,hd,hr,bne,Bool.not_true,Bool.not_false,q]);rfl) (fun hb=>?_) (fun hb=>?_)<;>(try simp only[hb0,decide_eq_true_eq,decide_eq_false_iff_not,simprocAttr]at hb)<;>(try(exfalso;omega)))|(refine J _ _ ?_;clear J;(try simp only[pst0,simprocAttr]))));refine owp_useQ (hc _) (by(try simp only[Ty.w,simprocAttr,g0,g1,g5,hd,hr,bne,Bool.not_true,Bool.not_false,q]);try rfl) ?_;simp(maxSteps:=2000000) only[Ty.w,simprocAttr,g0,g1,g5,hd,hr,bne,Bool.not_true,Bool.not_false,q];(repeat'(first|(refine a_block ?_)|(refine a_regionS ?_;simp(maxSteps:=2000000) only[Ty.w,simprocAttr,g0,g1,g5,hd,hr,bne,Bool.not_true,Bool.not_false,q,w7])|(refine a_skip ?_;(try simp only[pst0,simprocAttr]))|(refine J _ _ ?_;clear J;(try simp only[pst0,simprocAttr]))));exact⟨l.length-(k+1),by omega,k+1,by simp,by omega,rfl,hinv⟩
     |false=>
      cases b2 with
      |false=>
       simp only[q,Bool.or_false,Bool.false_and,Bool.and_false]at hinv;(repeat'(first|refine G fun K J=>?_|(refine a_regionS ?_;simp(maxSteps:=2000000) only[Ty.w,simprocAttr,g0,g1,g5,hd,hr,bne,Bool.not_true,Bool.not_false,q])|(refine a_skip ?_;(try simp only[pst0,simprocAttr]))|(refine a_cond _ (by(try simp(maxSteps:=2000000) only[Ty.w,simprocAttr,g0,g1,g5,hd,hr,bne,Bool.not_true,Bool.not_false,q]);rfl) (fun hb=>?_) (fun hb=>?_)<;>(try simp only[hb0,decide_eq_true_eq,decide_eq_false_iff_not,simprocAttr]at hb)<;>(try(exfalso;omega)))|(refine J _ _ ?_;clear J;(try simp only[pst0,simprocAttr]))));refine owp_useQ (hc _) (by(try simp only[Ty.w,simprocAttr,g0,g1,g5,hd,hr,bne,Bool.not_true,Bool.not_false,q]);try rfl) ?_;simp(maxSteps:=2000000) only[Ty.w,simprocAttr,g0,g1,g5,hd,hr,bne,Bool.not_true,Bool.not_false,q];skip
       refine owp_useQ (hc2 _) (by(try simp only[Ty.w,simprocAttr,g0,g1,g5,hd,hr,bne,Bool.not_true,Bool.not_false,q]);try rfl) ?_;simp(maxSteps:=2000000) only[Ty.w,simprocAttr,g0,g1,g5,hd,hr,bne,Bool.not_true,Bool.not_false,q];(repeat'(first|refine G fun K J=>?_|((first|refine a_regionS ?_|refine a_ret ?_);simp(maxSteps:=2000000) only[Ty.w,simprocAttr,g0,g1,g5,hd,hr,bne,Bool.not_true,Bool.not_false,q])|(refine J _ _ ?_;clear J;(try simp only[pst0,simprocAttr]))));rw[hinv]
      |true=>
       simp only[q,Bool.or_false,Bool.true_and]at hinv;(repeat'(first|refine G fun K J=>?_|(refine a_regionS ?_;simp(maxSteps:=2000000) only[Ty.w,simprocAttr,g0,g1,g5,hd,hr,bne,Bool.not_true,Bool.not_false,q])|(refine a_skip ?_;(try simp only[pst0,simprocAttr]))|(refine a_cond _ (by(try simp(maxSteps:=2000000) only[Ty.w,simprocAttr,g0,g1,g5,hd,hr,bne,Bool.not_true,Bool.not_false,q]);rfl) (fun hb=>?_) (fun hb=>?_)<;>(try simp only[hb0,decide_eq_true_eq,decide_eq_false_iff_not,simprocAttr]at hb)<;>(try(exfalso;omega)))|(refine J _ _ ?_;clear J;(try simp only[pst0,simprocAttr]))));refine owp_useQ (hc _) (by(try simp only[Ty.w,simprocAttr,g0,g1,g5,hd,hr,bne,Bool.not_true,Bool.not_false,q]);try rfl) ?_;simp(maxSteps:=2000000) only[Ty.w,simprocAttr,g0,g1,g5,hd,hr,bne,Bool.not_true,Bool.not_false,q];skip
       refine owp_useQ (hc2 _) (by(try simp only[Ty.w,simprocAttr,g0,g1,g5,hd,hr,bne,Bool.not_true,Bool.not_false,q]);try rfl) ?_;simp(maxSteps:=2000000) only[Ty.w,simprocAttr,g0,g1,g5,hd,hr,bne,Bool.not_true,Bool.not_false,q];(repeat'(first|(refine a_block ?_)|(refine a_regionS ?_;simp(maxSteps:=2000000) only[Ty.w,simprocAttr,g0,g1,g5,hd,hr,bne,Bool.not_true,Bool.not_false,q,w7])|(refine a_skip ?_;(try simp only[pst0,simprocAttr]))|(refine J _ _ ?_;clear J;(try simp only[pst0,simprocAttr]))));exact⟨l.length-(k+1),by omega,k+1,by simp,by omega,rfl,hinv⟩
   ·have hd:decide ((k:Int)<(l.length:Int))=false:=(by simp;omega);rw[List.drop_eq_nil_of_le (by omega)]at hinv;replace Z:=U g0 (U g1 (U g5 (U hlen hd)));(repeat'(first|refine G fun K J=>?_|refine uR Z ?_|refine uT Z ?_|refine uX ?_|refine uC1 Z ?_|(refine O J ?_;clear J)|(clear J;refine O J ?_;clear J)|apply zI));rw[hinv];try rfl
 |false=>
  refine uG0 Tryz.func29 Tryz.ntmps29 Tryz.results29 Ty.hb_29 ?_;repeat'(first|refine G fun K J=>?_|refine a_block ?_|refine uR hlen ?_|(refine O J ?_;clear J)|apply zI)
  refine a_loop (fun m S h'=>h'=h∧S 0= .imm 2 (pmRows l)∧S 1= .sc (.bool false)∧ ∃ k:Nat,S 5= .sc (.int .i64 k)∧k≤l.length∧m=l.length-k∧l.all (pmR false)=(l.drop k).all (pmR false)) l.length ?_ ?_
  ·simp only[Ty.w,simprocAttr];exact⟨0,rfl,by omega,rfl,by simp⟩
  ·rintro m S h' ⟨rfl,g0,g1,k,g5,hk,rfl,hinv⟩;by_cases hlt:k<l.length
   ·have hd:decide ((k:Int)<(l.length:Int))=true:=(by simp;omega);have w7:IntKind.i64.wrap ((k:Int)+1)=k+1:=(by rw[wrap64 (by omega) (by omega)]);obtain⟨p,hx⟩: ∃ p,l[k]? =some p:=⟨l[k],List.getElem?_eq_getElem hlt⟩;have hr:=pmRows_get hx;have hpo:=hp p (List.mem_of_getElem? hx);have h1:p.name.size≤9223372036854775807:=(by have:=hpo.1;unfold bigN at this;omega);have h2:p.type.size≤9223372036854775807:=(by have:=hpo.2;unfold bigN at this;omega);have hc:=fun h:Heap=>rname_c (h:=h) (s:=p.name) h1;have hc2:=fun h:Heap=>rname_c (h:=h) (s:=p.type) h2;rw[drop_of_get hx,List.all_cons]at hinv;have hq:pmR false p=(nameB p.name&&(nameB p.type||(p.type.data.toList==(#[111,98,106,101,99,116]:Array UInt8).toList))):=rfl;rw[hq]at hinv;(try clear Z);clear hq;generalize nameB p.name=b at hc hinv;generalize nameB p.type=b2 at hc2 hinv;cases b with
    |false=>
     simp only[Bool.false_and]at hinv;(repeat'(first|refine G fun K J=>?_|(refine a_regionS ?_;simp(maxSteps:=2000000) only[Ty.w,simprocAttr,g0,g1,g5,hd,hr,bne,Bool.not_true,Bool.not_false])|(refine a_skip ?_;(try simp only[pst0,simprocAttr]))|(refine a_cond _ (by(try simp(maxSteps:=2000000) only[Ty.w,simprocAttr,g0,g1,g5,hd,hr,bne,Bool.not_true,Bool.not_false]);rfl) (fun hb=>?_) (fun hb=>?_)<;>(try simp only[hb0,decide_eq_true_eq,decide_eq_false_iff_not,simprocAttr]at hb)<;>(try(exfalso;omega)))|(refine J _ _ ?_;clear J;(try simp only[pst0,simprocAttr]))));refine owp_useQ (hc _) (by(try simp only[Ty.w,simprocAttr,g0,g1,g5,hd,hr,bne,Bool.not_true,Bool.not_false]);try rfl) ?_;simp(maxSteps:=2000000) only[Ty.w,simprocAttr,g0,g1,g5,hd,hr,bne,Bool.not_true,Bool.not_false];(repeat'(first|refine G fun K J=>?_|((first|refine a_regionS ?_|refine a_ret ?_);simp(maxSteps:=2000000) only[Ty.w,simprocAttr,g0,g1,g5,hd,hr,bne,Bool.not_true,Bool.not_false])|(refine J _ _ ?_;clear J;(try simp only[pst0,simprocAttr]))));rw[hinv]
    |true=>
     cases q:(p.type.data.toList==(#[111,98,106,101,99,116]:Array UInt8).toList)with
     |true=>
      simp only[q,Bool.or_true,Bool.true_and]at hinv;(repeat'(first|refine G fun K J=>?_|(refine a_regionS ?_;simp(maxSteps:=2000000) only[Ty.w,simprocAttr,g0,g1,g5,hd,hr,bne,Bool.not_true,Bool.not_false,q])|(refine a_skip ?_;(try simp only[pst0,simprocAttr]))|(refine a_cond _ (by(try simp(maxSteps:=2000000) only[Ty.w,simprocAttr,g0,g1,g5,hd,hr,bne,Bool.not_true,Bool.not_false,q]);rfl) (fun hb=>?_) (fun hb=>?_)<;>(try simp only[hb0,decide_eq_true_eq,decide_eq_false_iff_not,simprocAttr]at hb)<;>(try(exfalso;omega)))|(refine J _ _ ?_;clear J;(try simp only[pst0,simprocAttr]))));refine owp_useQ (hc _) (by(try simp only[Ty.w,simprocAttr,g0,g1,g5,hd,hr,bne,Bool.not_true,Bool.not_false,q]);try rfl) ?_;simp(maxSteps:=2000000) only[Ty.w,simprocAttr,g0,g1,g5,hd,hr,bne,Bool.not_true,Bool.not_false,q];(repeat'(first|(refine a_block ?_)|(refine a_regionS ?_;simp(maxSteps:=2000000) only[Ty.w,simprocAttr,g0,g1,g5,hd,hr,bne,Bool.not_true,Bool.not_false,q,w7])|(refine a_skip ?_;(try simp only[pst0,simprocAttr]))|(refine J _ _ ?_;clear J;(try simp only[pst0,simprocAttr]))));exact⟨l.length-(k+1),by omega,k+1,by simp,by omega,rfl,hinv⟩
     |false=>
      cases b2 with
      |false=>
       simp only[q,Bool.or_false,Bool.false_and,Bool.and_false]at hinv;(repeat'(first|refine G fun K J=>?_|(refine a_regionS ?_;simp(maxSteps:=2000000) only[Ty.w,simprocAttr,g0,g1,g5,hd,hr,bne,Bool.not_true,Bool.not_false,q])|(refine a_skip ?_;(try simp only[pst0,simprocAttr]))|(refine a_cond _ (by(try simp(maxSteps:=2000000) only[Ty.w,simprocAttr,g0,g1,g5,hd,hr,bne,Bool.not_true,Bool.not_false,q]);rfl) (fun hb=>?_) (fun hb=>?_)<;>(try simp only[hb0,decide_eq_true_eq,decide_eq_false_iff_not,simprocAttr]at hb)<;>(try(exfalso;omega)))|(refine J _ _ ?_;clear J;(try simp only[pst0,simprocAttr]))));refine owp_useQ (hc _) (by(try simp only[Ty.w,simprocAttr,g0,g1,g5,hd,hr,bne,Bool.not_true,Bool.not_false,q]);try rfl) ?_;simp(maxSteps:=2000000) only[Ty.w,simprocAttr,g0,g1,g5,hd,hr,bne,Bool.not_true,Bool.not_false,q];skip
       refine owp_useQ (hc2 _) (by(try simp only[Ty.w,simprocAttr,g0,g1,g5,hd,hr,bne,Bool.not_true,Bool.not_false,q]);try rfl) ?_;simp(maxSteps:=2000000) only[Ty.w,simprocAttr,g0,g1,g5,hd,hr,bne,Bool.not_true,Bool.not_false,q];(repeat'(first|refine G fun K J=>?_|((first|refine a_regionS ?_|refine a_ret ?_);simp(maxSteps:=2000000) only[Ty.w,simprocAttr,g0,g1,g5,hd,hr,bne,Bool.not_true,Bool.not_false,q])|(refine J _ _ ?_;clear J;(try simp only[pst0,simprocAttr]))));rw[hinv]
      |true=>
       simp only[q,Bool.or_false,Bool.true_and]at hinv;(repeat'(first|refine G fun K J=>?_|(refine a_regionS ?_;simp(maxSteps:=2000000) only[Ty.w,simprocAttr,g0,g1,g5,hd,hr,bne,Bool.not_true,Bool.not_false,q])|(refine a_skip ?_;(try simp only[pst0,simprocAttr]))|(refine a_cond _ (by(try simp(maxSteps:=2000000) only[Ty.w,simprocAttr,g0,g1,g5,hd,hr,bne,Bool.not_true,Bool.not_false,q]);rfl) (fun hb=>?_) (fun hb=>?_)<;>(try simp only[hb0,decide_eq_true_eq,decide_eq_false_iff_not,simprocAttr]at hb)<;>(try(exfalso;omega)))|(refine J _ _ ?_;clear J;(try simp only[pst0,simprocAttr]))));refine owp_useQ (hc _) (by(try simp only[Ty.w,simprocAttr,g0,g1,g5,hd,hr,bne,Bool.not_true,Bool.not_false,q]);try rfl) ?_;simp(maxSteps:=2000000) only[Ty.w,simprocAttr,g0,g1,g5,hd,hr,bne,Bool.not_true,Bool.not_false,q];skip
       refine owp_useQ (hc2 _) (by(try simp only[Ty.w,simprocAttr,g0,g1,g5,hd,hr,bne,Bool.not_true,Bool.not_false,q]);try rfl) ?_;simp(maxSteps:=2000000) only[Ty.w,simprocAttr,g0,g1,g5,hd,hr,bne,Bool.not_true,Bool.not_false,q];(repeat'(first|(refine a_block ?_)|(refine a_regionS ?_;simp(maxSteps:=2000000) only[Ty.w,simprocAttr,g0,g1,g5,hd,hr,bne,Bool.not_true,Bool.not_false,q,w7])|(refine a_skip ?_;(try simp only[pst0,simprocAttr]))|(refine J _ _ ?_;clear J;(try simp only[pst0,simprocAttr]))));exact⟨l.length-(k+1),by omega,k+1,by simp,by omega,rfl,hinv⟩
   ·have hd:decide ((k:Int)<(l.length:Int))=false:=(by simp;omega);rw[List.drop_eq_nil_of_le (by omega)]at hinv;replace Z:=U g0 (U g1 (U g5 (U hlen hd)));(repeat'(first|refine G fun K J=>?_|refine uR Z ?_|refine uT Z ?_|refine uX ?_|refine uC1 Z ?_|(refine O J ?_;clear J)|(clear J;refine O J ?_;clear J)|apply zI));rw[hinv];try rfl
theorem rshapedF_c: ∀ f:Fm,f.ok→ ∀ h:Heap,PCall Tryz.prog 80 [.agg f.cells] h fun r h'=>r= .sc (.bool (shapedF f))∧h'=h:=by
 refine Fm.ind ?_;intro op name args params exprs kids ih hok h;simp only[Fm.ok]at hok;obtain⟨_,hnm,⟨hal,hargs⟩,⟨hpl,hps⟩,⟨hel,hes⟩,hkl,hks⟩:=hok;rw[Ex.oks_iff]at hes;rw[Fm.oks_iff]at hks;have hnm':name.size≤9223372036854775807:=by unfold bigN at hnm;omega
 have hP:=fun h:Heap=>rshapedPs_c (v:=true) hpl hps h;rw[pmR_ok]at hP;have hA:=fun h:Heap=>rall_c (h:=h) hal hargs;have hN:=fun h:Heap=>rname_c (h:=h) (s:=name) hnm';unfold bigN at hal hpl hel hkl;have hlA:=strRows_len args;have hlP:=pmRows_len params;have hlE:=Ex.rows_len exprs;have hlK:=Fm.rows_len kids;have hbK: ∀ k∈kids,shapedF k=false→shapedF (.mk op name args params exprs kids)=false:=fun k hk hf=>by
  cases hh:shapedF (.mk op name args params exprs kids)with
  |false=>rfl
  |true=>rw[(shapedF_kid hh).2 k hk]at hf;simp at hf
 have hbE: ∀ e∈exprs,shapedE e=false→shapedF (.mk op name args params exprs kids)=false:=fun k hk hf=>by
  cases hh:shapedF (.mk op name args params exprs kids)with
  |false=>rfl
  |true=>rw[(shapedF_kid hh).1 k hk]at hf;simp at hf
 have hop:(∀ e∈exprs,shapedE e=true)→(∀ k∈kids,shapedF k=true)→shapedF (.mk op name args params exprs kids)=opF op name args params exprs.length kids.length:=shapedF_op;generalize shapedF (.mk op name args params exprs kids)=F at hbK hbE hop;simp only[Fm.cells];refine uG0 Tryz.func80 Tryz.ntmps80 Tryz.results80 Ty.hb_80 ?_;repeat'(first|refine G fun K J=>?_|refine a_block ?_|refine uR hlK ?_|(refine O J ?_;clear J)|apply zI)
 refine a_loop (fun m S h'=>h'=h∧S 1= .cptr (Fm.mk op name args params exprs kids).cells∧ ∃ k:Nat,S 3= .sc (.int .i64 k)∧k≤kids.length∧m=kids.length-k∧ ∀ (i:Nat)(e:Fm),i<k→kids[i]? =some e→shapedF e=true) kids.length ?_ ?_
 ·simp only[Ty.w,simprocAttr];exact⟨rfl,0,rfl,by omega,rfl,by omega⟩
 ·rintro m S h' ⟨rfl,g1,k,g3,hkk,rfl,hall⟩;simp only[Fm.cells]at g1;by_cases hlt:k<kids.length
  ·(try clear Z);clear hop hbE;have hd:decide ((k:Int)<(kids.length:Int))=true:=(by simp;omega);have w7:IntKind.i64.wrap ((k:Int)+1)=k+1:=(by rw[wrap64 (by omega) (by omega)]);obtain⟨e,hx⟩: ∃ e,kids[k]? =some e:=⟨_,List.getElem?_eq_getElem hlt⟩;have hmem:=List.mem_of_getElem? hx;have hc:=ih e hmem (hks e hmem);have hr:=Fm.rows_get hx;have hbad:=hbK e hmem;have hgood:shapedF e=true→ ∀ (i:Nat)(e:Fm),i<k+1→kids[i]? =some e→shapedF e=true:=fun h1 i e2 hi hw=>by
    by_cases hik:i=k
    ·subst hik;rw[hx]at hw;simp at hw;rw[← hw];exact h1
    ·exact hall i e2 (by omega) hw
   generalize shapedF e=b at hc hbad hgood;(try clear Z);clear hbK hall;obtain⟨o2,n2,a2,p2,e2,k2⟩:=e;simp only[Fm.cells]at hr hc;cases b with
   |false=>
    have:=hbad rfl;subst this;replace Z:=U g1 (U g3 (U hlK (U hd (U hr w7))));(repeat'(first|refine G fun K J=>?_|refine uR Z ?_|refine uK ?_|refine uC1 Z ?_|(refine O J ?_;clear J)|apply zI));replace Z:=U g1 (U g3 (U hlK (U hd (U hr @Bool.not_false))));refine uU Z (hc _) ?_;replace Z:=U g1 (U g3 (U w7 @Bool.not_false));repeat'(first|refine G fun K J=>?_|refine uR Z ?_|refine uT Z ?_|(refine O J ?_;clear J)|apply zI)
   |true=>
    replace Z:=U g1 (U g3 (U hlK (U hd (U hr w7))));(repeat'(first|refine G fun K J=>?_|refine uR Z ?_|refine uK ?_|refine uC1 Z ?_|(refine O J ?_;clear J)|apply zI));replace Z:=U g1 (U g3 (U hlK (U hd (U hr @Bool.not_true))));refine uU Z (hc _) ?_;replace Z:=U g1 (U g3 (U w7 @Bool.not_true));(repeat'(first|refine a_block ?_|refine uR Z ?_|refine uK ?_|(refine O J ?_;clear J)|apply zI));exact⟨kids.length-(k+1),by omega,rfl,k+1,by simp,by omega,rfl,hgood rfl⟩
  ·have hd:decide ((k:Int)<(kids.length:Int))=false:=(by simp;omega);have hop2:=fun hE=>hop hE fun e he=>by
    obtain⟨i,hi⟩:=List.getElem?_of_mem he;exact hall i e (by have:=(List.getElem?_eq_some_iff.1 hi).1;omega) hi
   (try clear Z);clear hop hall hbK ih;replace Z:=U g1 (U g3 (U hlK hd));(repeat'(first|refine G fun K J=>?_|refine a_block ?_|refine uR Z ?_|refine uX ?_|refine uC1 Z ?_|(refine O J ?_;clear J)|(clear J;refine O J ?_;clear J)|apply zI));(try clear Z);clear g3 hd;refine a_loop (fun m S h2=>h2=h'∧S 1= .cptr (Fm.mk op name args params exprs kids).cells∧ ∃ k:Nat,S 4= .sc (.int .i64 k)∧k≤exprs.length∧m=exprs.length-k∧ ∀ (i:Nat)(e:Ex),i<k→exprs[i]? =some e→shapedE e=true) exprs.length ?_ ?_
   ·simp only[Ty.w,simprocAttr,g1];exact⟨rfl,0,rfl,by omega,rfl,by omega⟩
   ·(try clear Z);clear g1 S;rintro m S h2 ⟨rfl,g1,k,g3,hkk,rfl,hall⟩;simp only[Fm.cells]at g1;by_cases hlt:k<exprs.length
    ·(try clear Z);clear hop2;have hd:decide ((k:Int)<(exprs.length:Int))=true:=(by simp;omega);have w7:IntKind.i64.wrap ((k:Int)+1)=k+1:=(by rw[wrap64 (by omega) (by omega)]);obtain⟨e,hx⟩: ∃ e,exprs[k]? =some e:=⟨_,List.getElem?_eq_getElem hlt⟩;have hmem:=List.mem_of_getElem? hx;have hc:=rshapedE_c e (hes e hmem);have hr:=Ex.rows_get hx;have hbad:=hbE e hmem;have hgood:shapedE e=true→ ∀ (i:Nat)(e:Ex),i<k+1→exprs[i]? =some e→shapedE e=true:=fun h1 i e2 hi hw=>by
      by_cases hik:i=k
      ·subst hik;rw[hx]at hw;simp at hw;rw[← hw];exact h1
      ·exact hall i e2 (by omega) hw
     generalize shapedE e=b at hc hbad hgood;(try clear Z);clear hbE hall;obtain⟨o2,n2,v2,a2,k2⟩:=e;simp only[Ex.cells]at hr hc;cases b with
     |false=>
      have:=hbad rfl;subst this;replace Z:=U g1 (U g3 (U hlE (U hd (U hr w7))));(repeat'(first|refine G fun K J=>?_|refine uR Z ?_|refine uK ?_|refine uC1 Z ?_|(refine O J ?_;clear J)|apply zI));replace Z:=U g1 (U g3 (U hlE (U hd (U hr @Bool.not_false))));refine uU Z (hc _) ?_;replace Z:=U g1 (U g3 (U w7 @Bool.not_false));repeat'(first|refine G fun K J=>?_|refine uR Z ?_|refine uT Z ?_|(refine O J ?_;clear J)|apply zI)
     |true=>
      replace Z:=U g1 (U g3 (U hlE (U hd (U hr w7))));(repeat'(first|refine G fun K J=>?_|refine uR Z ?_|refine uK ?_|refine uC1 Z ?_|(refine O J ?_;clear J)|apply zI));replace Z:=U g1 (U g3 (U hlE (U hd (U hr @Bool.not_true))));refine uU Z (hc _) ?_;replace Z:=U g1 (U g3 (U w7 @Bool.not_true));(repeat'(first|refine a_block ?_|refine uR Z ?_|refine uK ?_|(refine O J ?_;clear J)|apply zI));exact⟨exprs.length-(k+1),by omega,rfl,k+1,by simp,by omega,rfl,hgood rfl⟩
    ·have hd:decide ((k:Int)<(exprs.length:Int))=false:=(by simp;omega);have hF:=hop2 fun e he=>by
      obtain⟨i,hi⟩:=List.getElem?_of_mem he;exact hall i e (by have:=(List.getElem?_eq_some_iff.1 hi).1;omega) hi
     (try clear Z);clear hop2 hall hbE;have wa:IntKind.i64.wrap ((params.length:Int)+exprs.length)=(params.length:Int)+exprs.length:=(by rw[wrap64 (by omega) (by omega)]);have wb:IntKind.i64.wrap (((params.length:Int)+exprs.length)+kids.length)=((params.length:Int)+exprs.length)+kids.length:=(by rw[wrap64 (by omega) (by omega)]);have wc:IntKind.i64.wrap ((args.length:Int)+params.length)=(args.length:Int)+params.length:=(by rw[wrap64 (by omega) (by omega)]);have wd:IntKind.i64.wrap (((args.length:Int)+params.length)+kids.length)=((args.length:Int)+params.length)+kids.length:=(by rw[wrap64 (by omega) (by omega)]);have we:IntKind.i64.wrap (((args.length:Int)+params.length)+exprs.length)=((args.length:Int)+params.length)+exprs.length:=(by rw[wrap64 (by omega) (by omega)]);have wf:IntKind.i64.wrap ((args.length:Int)+exprs.length)=(args.length:Int)+exprs.length:=(by rw[wrap64 (by omega) (by omega)]);unfold opF at hF;simp only[opAtom,opSame,opLt,opLe,opEq,opAnd,opOr,opNot,opImp,opAll,opSome,bEq]at hF;(repeat'(first|(with_reducible refine a_hold 12 ?_)|(first|refine G fun K J=>?_|((first|refine a_regionS ?_|refine a_drawS (by decide+kernel) ?_);simp(maxSteps:=2000000) only[Ty.w,simprocAttr,g1,g3,hd,hlA,hlP,hlE,hlK,bne])|(refine a_exit ?_;(try simp only[pst0,simprocAttr]))|(refine a_cond _ (by(try simp(maxSteps:=2000000) only[Ty.w,simprocAttr,g1,g3,hd,hlA,hlP,hlE,hlK,bne]);rfl) (fun hb=>?_) (fun hb=>?_)<;>(try simp only[hb0,decide_eq_true_eq,decide_eq_false_iff_not,simprocAttr]at hb)<;>(try(exfalso;omega)))|((first|refine J _ _ ?_|(clear J;refine J _ _ ?_));clear J;(try simp only[pst0,simprocAttr])))));refine⟨?_⟩;refine a_genR (fun S h3=>S 1= .cptr (Fm.mk op name args params exprs kids).cells∧S 5= .sc (.bool (!(name.data.toList==(#[]:Array UInt8).toList)))∧S 6= .sc (.int .i64 args.length)∧S 7= .sc (.int .i64 params.length)∧S 8= .sc (.int .i64 exprs.length)∧S 9= .sc (.int .i64 kids.length)∧h3=h2) ?_ ?_
     ·simp only[Ty.w,simprocAttr,g1,Fm.cells];try trivial
     (try clear Z);clear g1 g3 hd S hlA hlP hlE hlK;rintro S h2 ⟨g1,g5,g6,g7,g8,g9,rfl⟩;simp only[Fm.cells]at g1;cases k1:(op.data.toList==(#[97,116,111,109]:Array UInt8).toList)with
     |true=>
      simp only[k1,Bool.true_or,Bool.or_true,Bool.false_or,if_true,Bool.false_eq_true,if_false]at hF;generalize nameB name=bN at hN hF;cases bN with
      |false=>
       (try simp only[Bool.false_and,Bool.and_false]at hF);subst hF;replace Z:=U g1 (U g5 (U g6 (U g7 (U g8 (U g9 (U @Bool.not_true (U @Bool.not_false (U wa (U wb (U wc (U wd (U we (U wf k1)))))))))))));(repeat'(first|refine G fun K J=>?_|refine uR Z ?_|(refine O J ?_;clear J)|apply zI));refine uU Z (hN _) ?_;(repeat'(first|refine uT Z ?_|(refine O J ?_;clear J)|apply zI));all_goals rfl
      |true=>
       (try simp only[Bool.true_and,Bool.and_true]at hF);generalize args.all termB=bA at hA hF;cases bA with
       |false=>
        (try simp only[Bool.false_and,Bool.and_false]at hF);subst hF;replace Z:=U g1 (U g5 (U g6 (U g7 (U g8 (U g9 (U @Bool.not_true (U @Bool.not_false (U wa (U wb (U wc (U wd (U we (U wf k1)))))))))))));(repeat'(first|refine G fun K J=>?_|refine uR Z ?_|(refine O J ?_;clear J)|apply zI));refine uU Z (hN _) ?_;(try apply zI);refine uU Z (hA _) ?_;(repeat'(first|refine uT Z ?_|(refine O J ?_;clear J)|apply zI));all_goals rfl
       |true=>
        (try simp only[Bool.true_and,Bool.and_true]at hF);cases q2:((((params.length:Int)+exprs.length)+kids.length)==0)with
        |false=>
         simp only[q2,Bool.false_and,Bool.and_false]at hF;subst hF;replace Z:=U g1 (U g5 (U g6 (U g7 (U g8 (U g9 (U @Bool.not_true (U @Bool.not_false (U wa (U wb (U wc (U wd (U we (U wf (U k1 q2))))))))))))));(repeat'(first|refine G fun K J=>?_|refine uR Z ?_|(refine O J ?_;clear J)|apply zI));refine uU Z (hN _) ?_;(try apply zI);refine uU Z (hA _) ?_;(repeat'(first|refine uT Z ?_|(refine O J ?_;clear J)|apply zI));all_goals rfl
        |true=>
         simp only[q2,Bool.true_and,Bool.and_true]at hF;subst hF;replace Z:=U g1 (U g5 (U g6 (U g7 (U g8 (U g9 (U @Bool.not_true (U @Bool.not_false (U wa (U wb (U wc (U wd (U we (U wf (U k1 q2))))))))))))));(repeat'(first|refine G fun K J=>?_|refine uR Z ?_|(refine O J ?_;clear J)|apply zI));refine uU Z (hN _) ?_;(try apply zI);refine uU Z (hA _) ?_;(repeat'(first|refine uT Z ?_|(refine O J ?_;clear J)|apply zI));all_goals rfl
     |false=>
      simp only[k1,Bool.true_or,Bool.or_true,Bool.false_or,if_true,Bool.false_eq_true,if_false]at hF;cases k2:(op.data.toList==(#[115,97,109,101]:Array UInt8).toList)with
      |true=>
       simp only[k2,Bool.true_or,Bool.or_true,Bool.false_or,if_true,Bool.false_eq_true,if_false]at hF;cases q0:(name.data.toList==(#[]:Array UInt8).toList)with
       |false=>
        simp only[q0,Bool.false_and,Bool.and_false]at hF;subst hF;replace Z:=U g1 (U g5 (U g6 (U g7 (U g8 (U g9 (U @Bool.not_true (U @Bool.not_false (U wa (U wb (U wc (U wd (U we (U wf (U k1 (U k2 q0)))))))))))))));(repeat'(first|refine G fun K J=>?_|refine uR Z ?_|refine uT Z ?_|(refine O J ?_;clear J)|apply zI));all_goals rfl
       |true=>
        simp only[q0,Bool.true_and,Bool.and_true]at hF;cases q1:((args.length:Int)==2)with
        |false=>
         simp only[q1,Bool.false_and,Bool.and_false]at hF;subst hF;replace Z:=U g1 (U g5 (U g6 (U g7 (U g8 (U g9 (U @Bool.not_true (U @Bool.not_false (U wa (U wb (U wc (U wd (U we (U wf (U k1 (U k2 (U q0 q1))))))))))))))));(repeat'(first|refine G fun K J=>?_|refine uR Z ?_|refine uT Z ?_|(refine O J ?_;clear J)|apply zI));all_goals rfl
        |true=>
         simp only[q1,Bool.true_and,Bool.and_true]at hF;generalize args.all termB=bA at hA hF;cases bA with
         |false=>
          (try simp only[Bool.false_and,Bool.and_false]at hF);subst hF;replace Z:=U g1 (U g5 (U g6 (U g7 (U g8 (U g9 (U @Bool.not_true (U @Bool.not_false (U wa (U wb (U wc (U wd (U we (U wf (U k1 (U k2 (U q0 q1))))))))))))))));(repeat'(first|refine G fun K J=>?_|refine uR Z ?_|(refine O J ?_;clear J)|apply zI));refine uU Z (hA _) ?_;(repeat'(first|refine uT Z ?_|(refine O J ?_;clear J)|apply zI));all_goals rfl
         |true=>
          (try simp only[Bool.true_and,Bool.and_true]at hF);cases q3:((((params.length:Int)+exprs.length)+kids.length)==0)with
          |false=>
           simp only[q3,Bool.false_and,Bool.and_false]at hF;subst hF;replace Z:=U g1 (U g5 (U g6 (U g7 (U g8 (U g9 (U @Bool.not_true (U @Bool.not_false (U wa (U wb (U wc (U wd (U we (U wf (U k1 (U k2 (U q0 (U q1 q3)))))))))))))))));(repeat'(first|refine G fun K J=>?_|refine uR Z ?_|(refine O J ?_;clear J)|apply zI));refine uU Z (hA _) ?_;(repeat'(first|refine uT Z ?_|(refine O J ?_;clear J)|apply zI));all_goals rfl
          |true=>
           simp only[q3,Bool.true_and,Bool.and_true]at hF;subst hF;replace Z:=U g1 (U g5 (U g6 (U g7 (U g8 (U g9 (U @Bool.not_true (U @Bool.not_false (U wa (U wb (U wc (U wd (U we (U wf (U k1 (U k2 (U q0 (U q1 q3)))))))))))))))));(repeat'(first|refine G fun K J=>?_|refine uR Z ?_|(refine O J ?_;clear J)|apply zI));refine uU Z (hA _) ?_;(repeat'(first|refine uT Z ?_|(refine O J ?_;clear J)|apply zI));all_goals rfl
      |false=>
       simp only[k2,Bool.true_or,Bool.or_true,Bool.false_or,if_true,Bool.false_eq_true,if_false]at hF;cases k3:(op.data.toList==(#[60]:Array UInt8).toList)with
       |true=>
        simp only[k3,Bool.true_or,Bool.or_true,Bool.false_or,if_true,Bool.false_eq_true,if_false]at hF;cases q0:(name.data.toList==(#[]:Array UInt8).toList)with
        |false=>
         simp only[q0,Bool.false_and,Bool.and_false]at hF;subst hF;replace Z:=U g1 (U g5 (U g6 (U g7 (U g8 (U g9 (U @Bool.not_true (U @Bool.not_false (U wa (U wb (U wc (U wd (U we (U wf (U k1 (U k2 (U k3 q0))))))))))))))));(repeat'(first|refine G fun K J=>?_|refine uR Z ?_|refine uT Z ?_|refine uK ?_|refine uC1 Z ?_|(refine O J ?_;clear J)|apply zI));all_goals rfl
        |true=>
         simp only[q0,Bool.true_and,Bool.and_true]at hF;cases q1:((((args.length:Int)+params.length)+kids.length)==0)with
         |false=>
          simp only[q1,Bool.false_and,Bool.and_false]at hF;subst hF;replace Z:=U g1 (U g5 (U g6 (U g7 (U g8 (U g9 (U @Bool.not_true (U @Bool.not_false (U wa (U wb (U wc (U wd (U we (U wf (U k1 (U k2 (U k3 (U q0 q1)))))))))))))))));(repeat'(first|refine G fun K J=>?_|refine uR Z ?_|refine uT Z ?_|refine uK ?_|refine uC1 Z ?_|(refine O J ?_;clear J)|apply zI));all_goals rfl
         |true=>
          simp only[q1,Bool.true_and,Bool.and_true]at hF;cases q2:((exprs.length:Int)==2)with
          |false=>
           simp only[q2,Bool.false_and,Bool.and_false]at hF;subst hF;replace Z:=U g1 (U g5 (U g6 (U g7 (U g8 (U g9 (U @Bool.not_true (U @Bool.not_false (U wa (U wb (U wc (U wd (U we (U wf (U k1 (U k2 (U k3 (U q0 (U q1 q2))))))))))))))))));(repeat'(first|refine G fun K J=>?_|refine uR Z ?_|refine uT Z ?_|refine uK ?_|refine uC1 Z ?_|(refine O J ?_;clear J)|apply zI));all_goals rfl
          |true=>
           simp only[q2,Bool.true_and,Bool.and_true]at hF;subst hF;replace Z:=U g1 (U g5 (U g6 (U g7 (U g8 (U g9 (U @Bool.not_true (U @Bool.not_false (U wa (U wb (U wc (U wd (U we (U wf (U k1 (U k2 (U k3 (U q0 (U q1 q2))))))))))))))))));(repeat'(first|refine G fun K J=>?_|refine uR Z ?_|refine uT Z ?_|refine uK ?_|refine uC1 Z ?_|(refine O J ?_;clear J)|apply zI));all_goals rfl
       |false=>
        simp only[k3,Bool.true_or,Bool.or_true,Bool.false_or,if_true,Bool.false_eq_true,if_false]at hF;cases k4:(op.data.toList==(#[60,61]:Array UInt8).toList)with
        |true=>
         simp only[k4,Bool.true_or,Bool.or_true,Bool.false_or,if_true,Bool.false_eq_true,if_false]at hF;cases q0:(name.data.toList==(#[]:Array UInt8).toList)with
         |false=>
          simp only[q0,Bool.false_and,Bool.and_false]at hF;subst hF;replace Z:=U g1 (U g5 (U g6 (U g7 (U g8 (U g9 (U @Bool.not_true (U @Bool.not_false (U wa (U wb (U wc (U wd (U we (U wf (U k1 (U k2 (U k3 (U k4 q0)))))))))))))))));(repeat'(first|refine G fun K J=>?_|refine uR Z ?_|refine uT Z ?_|refine uK ?_|refine uC1 Z ?_|(refine O J ?_;clear J)|apply zI));all_goals rfl
         |true=>
          simp only[q0,Bool.true_and,Bool.and_true]at hF;cases q1:((((args.length:Int)+params.length)+kids.length)==0)with
          |false=>
           simp only[q1,Bool.false_and,Bool.and_false]at hF;subst hF;replace Z:=U g1 (U g5 (U g6 (U g7 (U g8 (U g9 (U @Bool.not_true (U @Bool.not_false (U wa (U wb (U wc (U wd (U we (U wf (U k1 (U k2 (U k3 (U k4 (U q0 q1))))))))))))))))));(repeat'(first|refine G fun K J=>?_|refine uR Z ?_|refine uT Z ?_|refine uK ?_|refine uC1 Z ?_|(refine O J ?_;clear J)|apply zI));all_goals rfl
          |true=>
           simp only[q1,Bool.true_and,Bool.and_true]at hF;cases q2:((exprs.length:Int)==2)with
           |false=>
            simp only[q2,Bool.false_and,Bool.and_false]at hF;subst hF;replace Z:=U g1 (U g5 (U g6 (U g7 (U g8 (U g9 (U @Bool.not_true (U @Bool.not_false (U wa (U wb (U wc (U wd (U we (U wf (U k1 (U k2 (U k3 (U k4 (U q0 (U q1 q2)))))))))))))))))));(repeat'(first|refine G fun K J=>?_|refine uR Z ?_|refine uT Z ?_|refine uK ?_|refine uC1 Z ?_|(refine O J ?_;clear J)|apply zI));all_goals rfl
           |true=>
            simp only[q2,Bool.true_and,Bool.and_true]at hF;subst hF;replace Z:=U g1 (U g5 (U g6 (U g7 (U g8 (U g9 (U @Bool.not_true (U @Bool.not_false (U wa (U wb (U wc (U wd (U we (U wf (U k1 (U k2 (U k3 (U k4 (U q0 (U q1 q2)))))))))))))))))));(repeat'(first|refine G fun K J=>?_|refine uR Z ?_|refine uT Z ?_|refine uK ?_|refine uC1 Z ?_|(refine O J ?_;clear J)|apply zI));all_goals rfl
        |false=>
         simp only[k4,Bool.true_or,Bool.or_true,Bool.false_or,if_true,Bool.false_eq_true,if_false]at hF;cases k5:(op.data.toList==(#[61]:Array UInt8).toList)with
         |true=>
          simp only[k5,Bool.true_or,Bool.or_true,Bool.false_or,if_true,Bool.false_eq_true,if_false]at hF;cases q0:(name.data.toList==(#[]:Array UInt8).toList)with
          |false=>
           simp only[q0,Bool.false_and,Bool.and_false]at hF;subst hF;replace Z:=U g1 (U g5 (U g6 (U g7 (U g8 (U g9 (U @Bool.not_true (U @Bool.not_false (U wa (U wb (U wc (U wd (U we (U wf (U k1 (U k2 (U k3 (U k4 (U k5 q0))))))))))))))))));(repeat'(first|refine G fun K J=>?_|refine uR Z ?_|refine uT Z ?_|refine uC1 Z ?_|(refine O J ?_;clear J)|apply zI));all_goals rfl
          |true=>
           simp only[q0,Bool.true_and,Bool.and_true]at hF;cases q1:((((args.length:Int)+params.length)+kids.length)==0)with
           |false=>
            simp only[q1,Bool.false_and,Bool.and_false]at hF;subst hF;replace Z:=U g1 (U g5 (U g6 (U g7 (U g8 (U g9 (U @Bool.not_true (U @Bool.not_false (U wa (U wb (U wc (U wd (U we (U wf (U k1 (U k2 (U k3 (U k4 (U k5 (U q0 q1)))))))))))))))))));(repeat'(first|refine G fun K J=>?_|refine uR Z ?_|refine uT Z ?_|refine uC1 Z ?_|(refine O J ?_;clear J)|apply zI));all_goals rfl
           |true=>
            simp only[q1,Bool.true_and,Bool.and_true]at hF;cases q2:((exprs.length:Int)==2)with
            |false=>
             simp only[q2,Bool.false_and,Bool.and_false]at hF;subst hF;replace Z:=U g1 (U g5 (U g6 (U g7 (U g8 (U g9 (U @Bool.not_true (U @Bool.not_false (U wa (U wb (U wc (U wd (U we (U wf (U k1 (U k2 (U k3 (U k4 (U k5 (U q0 (U q1 q2))))))))))))))))))));(repeat'(first|refine G fun K J=>?_|refine uR Z ?_|refine uT Z ?_|refine uC1 Z ?_|(refine O J ?_;clear J)|apply zI));all_goals rfl
            |true=>
             simp only[q2,Bool.true_and,Bool.and_true]at hF;subst hF;replace Z:=U g1 (U g5 (U g6 (U g7 (U g8 (U g9 (U @Bool.not_true (U @Bool.not_false (U wa (U wb (U wc (U wd (U we (U wf (U k1 (U k2 (U k3 (U k4 (U k5 (U q0 (U q1 q2))))))))))))))))))));(repeat'(first|refine G fun K J=>?_|refine uR Z ?_|refine uT Z ?_|refine uC1 Z ?_|(refine O J ?_;clear J)|apply zI));all_goals rfl
         |false=>
          simp only[k5,Bool.true_or,Bool.or_true,Bool.false_or,if_true,Bool.false_eq_true,if_false]at hF;cases k6:(op.data.toList==(#[97,110,100]:Array UInt8).toList)with
          |true=>
           simp only[k6,Bool.true_or,Bool.or_true,Bool.false_or,if_true,Bool.false_eq_true,if_false]at hF;cases q0:(name.data.toList==(#[]:Array UInt8).toList)with
           |false=>
            simp only[q0,Bool.false_and,Bool.and_false]at hF;subst hF;replace Z:=U g1 (U g5 (U g6 (U g7 (U g8 (U g9 (U @Bool.not_true (U @Bool.not_false (U wa (U wb (U wc (U wd (U we (U wf (U k1 (U k2 (U k3 (U k4 (U k5 (U k6 q0)))))))))))))))))));(repeat'(first|refine G fun K J=>?_|refine uR Z ?_|refine uT Z ?_|refine uK ?_|refine uC1 Z ?_|(refine O J ?_;clear J)|apply zI));all_goals rfl
           |true=>
            simp only[q0,Bool.true_and,Bool.and_true]at hF;cases q1:((((args.length:Int)+params.length)+exprs.length)==0)with
            |false=>
             simp only[q1,Bool.false_and,Bool.and_false]at hF;subst hF;replace Z:=U g1 (U g5 (U g6 (U g7 (U g8 (U g9 (U @Bool.not_true (U @Bool.not_false (U wa (U wb (U wc (U wd (U we (U wf (U k1 (U k2 (U k3 (U k4 (U k5 (U k6 (U q0 q1))))))))))))))))))));(repeat'(first|refine G fun K J=>?_|refine uR Z ?_|refine uT Z ?_|refine uK ?_|refine uC1 Z ?_|(refine O J ?_;clear J)|apply zI));all_goals rfl
            |true=>
             simp only[q1,Bool.true_and,Bool.and_true]at hF;subst hF;replace Z:=U g1 (U g5 (U g6 (U g7 (U g8 (U g9 (U @Bool.not_true (U @Bool.not_false (U wa (U wb (U wc (U wd (U we (U wf (U k1 (U k2 (U k3 (U k4 (U k5 (U k6 (U q0 q1))))))))))))))))))));(repeat'(first|refine G fun K J=>?_|refine uR Z ?_|refine uT Z ?_|refine uK ?_|refine uC1 Z ?_|(refine O J ?_;clear J)|apply zI));all_goals rfl
          |false=>
           simp only[k6,Bool.true_or,Bool.or_true,Bool.false_or,if_true,Bool.false_eq_true,if_false]at hF;cases k7:(op.data.toList==(#[111,114]:Array UInt8).toList)with
           |true=>
            simp only[k7,Bool.true_or,Bool.or_true,Bool.false_or,if_true,Bool.false_eq_true,if_false]at hF;cases q0:(name.data.toList==(#[]:Array UInt8).toList)with
            |false=>
             simp only[q0,Bool.false_and,Bool.and_false]at hF;subst hF;replace Z:=U g1 (U g5 (U g6 (U g7 (U g8 (U g9 (U @Bool.not_true (U @Bool.not_false (U wa (U wb (U wc (U wd (U we (U wf (U k1 (U k2 (U k3 (U k4 (U k5 (U k6 (U k7 q0))))))))))))))))))));(repeat'(first|refine G fun K J=>?_|refine uR Z ?_|refine uT Z ?_|refine uC1 Z ?_|(refine O J ?_;clear J)|apply zI));all_goals rfl
            |true=>
             simp only[q0,Bool.true_and,Bool.and_true]at hF;cases q1:((((args.length:Int)+params.length)+exprs.length)==0)with
             |false=>
              simp only[q1,Bool.false_and,Bool.and_false]at hF;subst hF;replace Z:=U g1 (U g5 (U g6 (U g7 (U g8 (U g9 (U @Bool.not_true (U @Bool.not_false (U wa (U wb (U wc (U wd (U we (U wf (U k1 (U k2 (U k3 (U k4 (U k5 (U k6 (U k7 (U q0 q1)))))))))))))))))))));(repeat'(first|refine G fun K J=>?_|refine uR Z ?_|refine uT Z ?_|refine uC1 Z ?_|(refine O J ?_;clear J)|apply zI));all_goals rfl
             |true=>
              simp only[q1,Bool.true_and,Bool.and_true]at hF;subst hF;replace Z:=U g1 (U g5 (U g6 (U g7 (U g8 (U g9 (U @Bool.not_true (U @Bool.not_false (U wa (U wb (U wc (U wd (U we (U wf (U k1 (U k2 (U k3 (U k4 (U k5 (U k6 (U k7 (U q0 q1)))))))))))))))))))));(repeat'(first|refine G fun K J=>?_|refine uR Z ?_|refine uT Z ?_|refine uC1 Z ?_|(refine O J ?_;clear J)|apply zI));all_goals rfl
           |false=>
            simp only[k7,Bool.true_or,Bool.or_true,Bool.false_or,if_true,Bool.false_eq_true,if_false]at hF;cases k8:(op.data.toList==(#[110,111,116]:Array UInt8).toList)with
            |true=>
             simp only[k8,Bool.true_or,Bool.or_true,Bool.false_or,if_true,Bool.false_eq_true,if_false]at hF;cases q0:(name.data.toList==(#[]:Array UInt8).toList)with
             |false=>
              simp only[q0,Bool.false_and,Bool.and_false]at hF;subst hF;replace Z:=U g1 (U g5 (U g6 (U g7 (U g8 (U g9 (U @Bool.not_true (U @Bool.not_false (U wa (U wb (U wc (U wd (U we (U wf (U k1 (U k2 (U k3 (U k4 (U k5 (U k6 (U k7 (U k8 q0)))))))))))))))))))));(repeat'(first|refine G fun K J=>?_|refine uR Z ?_|refine uT Z ?_|refine uC1 Z ?_|(refine O J ?_;clear J)|apply zI));all_goals rfl
             |true=>
              simp only[q0,Bool.true_and,Bool.and_true]at hF;cases q1:((((args.length:Int)+params.length)+exprs.length)==0)with
              |false=>
               simp only[q1,Bool.false_and,Bool.and_false]at hF;subst hF;replace Z:=U g1 (U g5 (U g6 (U g7 (U g8 (U g9 (U @Bool.not_true (U @Bool.not_false (U wa (U wb (U wc (U wd (U we (U wf (U k1 (U k2 (U k3 (U k4 (U k5 (U k6 (U k7 (U k8 (U q0 q1))))))))))))))))))))));(repeat'(first|refine G fun K J=>?_|refine uR Z ?_|refine uT Z ?_|refine uC1 Z ?_|(refine O J ?_;clear J)|apply zI));all_goals rfl
              |true=>
               simp only[q1,Bool.true_and,Bool.and_true]at hF;cases q2:((kids.length:Int)==1)with
               |false=>
                simp only[q2,Bool.false_and,Bool.and_false]at hF;subst hF;replace Z:=U g1 (U g5 (U g6 (U g7 (U g8 (U g9 (U @Bool.not_true (U @Bool.not_false (U wa (U wb (U wc (U wd (U we (U wf (U k1 (U k2 (U k3 (U k4 (U k5 (U k6 (U k7 (U k8 (U q0 (U q1 q2)))))))))))))))))))))));(repeat'(first|refine G fun K J=>?_|refine uR Z ?_|refine uT Z ?_|refine uC1 Z ?_|(refine O J ?_;clear J)|apply zI));all_goals rfl
               |true=>
                simp only[q2,Bool.true_and,Bool.and_true]at hF;subst hF;replace Z:=U g1 (U g5 (U g6 (U g7 (U g8 (U g9 (U @Bool.not_true (U @Bool.not_false (U wa (U wb (U wc (U wd (U we (U wf (U k1 (U k2 (U k3 (U k4 (U k5 (U k6 (U k7 (U k8 (U q0 (U q1 q2)))))))))))))))))))))));(repeat'(first|refine G fun K J=>?_|refine uR Z ?_|refine uT Z ?_|refine uC1 Z ?_|(refine O J ?_;clear J)|apply zI));all_goals rfl
            |false=>
             simp only[k8,Bool.true_or,Bool.or_true,Bool.false_or,if_true,Bool.false_eq_true,if_false]at hF;cases k9:(op.data.toList==(#[105,109,112,108,121]:Array UInt8).toList)with
             |true=>
              simp only[k9,Bool.true_or,Bool.or_true,Bool.false_or,if_true,Bool.false_eq_true,if_false]at hF;cases q0:(name.data.toList==(#[]:Array UInt8).toList)with
              |false=>
               simp only[q0,Bool.false_and,Bool.and_false]at hF;subst hF;replace Z:=U g1 (U g5 (U g6 (U g7 (U g8 (U g9 (U @Bool.not_true (U @Bool.not_false (U wa (U wb (U wc (U wd (U we (U wf (U k1 (U k2 (U k3 (U k4 (U k5 (U k6 (U k7 (U k8 (U k9 q0))))))))))))))))))))));(repeat'(first|refine G fun K J=>?_|refine uR Z ?_|refine uT Z ?_|refine uC1 Z ?_|(refine O J ?_;clear J)|apply zI));all_goals rfl
              |true=>
               simp only[q0,Bool.true_and,Bool.and_true]at hF;cases q1:((((args.length:Int)+params.length)+exprs.length)==0)with
               |false=>
                simp only[q1,Bool.false_and,Bool.and_false]at hF;subst hF;replace Z:=U g1 (U g5 (U g6 (U g7 (U g8 (U g9 (U @Bool.not_true (U @Bool.not_false (U wa (U wb (U wc (U wd (U we (U wf (U k1 (U k2 (U k3 (U k4 (U k5 (U k6 (U k7 (U k8 (U k9 (U q0 q1)))))))))))))))))))))));(repeat'(first|refine G fun K J=>?_|refine uR Z ?_|refine uT Z ?_|refine uC1 Z ?_|(refine O J ?_;clear J)|apply zI));all_goals rfl
               |true=>
                simp only[q1,Bool.true_and,Bool.and_true]at hF;cases q2:((kids.length:Int)==2)with
                |false=>
                 simp only[q2,Bool.false_and,Bool.and_false]at hF;subst hF;replace Z:=U g1 (U g5 (U g6 (U g7 (U g8 (U g9 (U @Bool.not_true (U @Bool.not_false (U wa (U wb (U wc (U wd (U we (U wf (U k1 (U k2 (U k3 (U k4 (U k5 (U k6 (U k7 (U k8 (U k9 (U q0 (U q1 q2))))))))))))))))))))))));(repeat'(first|refine G fun K J=>?_|refine uR Z ?_|refine uT Z ?_|refine uC1 Z ?_|(refine O J ?_;clear J)|apply zI));all_goals rfl
                |true=>
                 simp only[q2,Bool.true_and,Bool.and_true]at hF;subst hF;replace Z:=U g1 (U g5 (U g6 (U g7 (U g8 (U g9 (U @Bool.not_true (U @Bool.not_false (U wa (U wb (U wc (U wd (U we (U wf (U k1 (U k2 (U k3 (U k4 (U k5 (U k6 (U k7 (U k8 (U k9 (U q0 (U q1 q2))))))))))))))))))))))));(repeat'(first|refine G fun K J=>?_|refine uR Z ?_|refine uT Z ?_|refine uC1 Z ?_|(refine O J ?_;clear J)|apply zI));all_goals rfl
             |false=>
              simp only[k9,Bool.true_or,Bool.or_true,Bool.false_or,if_true,Bool.false_eq_true,if_false]at hF;cases k10:(op.data.toList==(#[102,111,114,97,108,108]:Array UInt8).toList)with
              |true=>
               simp only[k10,Bool.true_or,Bool.or_true,Bool.false_or,if_true,Bool.false_eq_true,if_false]at hF;cases q0:(name.data.toList==(#[]:Array UInt8).toList)with
               |false=>
                simp only[q0,Bool.false_and,Bool.and_false]at hF;subst hF;replace Z:=U g1 (U g5 (U g6 (U g7 (U g8 (U g9 (U @Bool.not_true (U @Bool.not_false (U wa (U wb (U wc (U wd (U we (U wf (U k1 (U k2 (U k3 (U k4 (U k5 (U k6 (U k7 (U k8 (U k9 (U k10 q0)))))))))))))))))))))));(repeat'(first|refine G fun K J=>?_|refine uR Z ?_|refine uT Z ?_|refine uK ?_|refine uC1 Z ?_|(refine O J ?_;clear J)|apply zI));all_goals rfl
               |true=>
                simp only[q0,Bool.true_and,Bool.and_true]at hF;cases q1:(((args.length:Int)+exprs.length)==0)with
                |false=>
                 simp only[q1,Bool.false_and,Bool.and_false]at hF;subst hF;replace Z:=U g1 (U g5 (U g6 (U g7 (U g8 (U g9 (U @Bool.not_true (U @Bool.not_false (U wa (U wb (U wc (U wd (U we (U wf (U k1 (U k2 (U k3 (U k4 (U k5 (U k6 (U k7 (U k8 (U k9 (U k10 (U q0 q1))))))))))))))))))))))));(repeat'(first|refine G fun K J=>?_|refine uR Z ?_|refine uT Z ?_|refine uK ?_|refine uC1 Z ?_|(refine O J ?_;clear J)|apply zI));all_goals rfl
                |true=>
                 simp only[q1,Bool.true_and,Bool.and_true]at hF;cases q2:((kids.length:Int)==1)with
                 |false=>
                  simp only[q2,Bool.false_and,Bool.and_false]at hF;subst hF;replace Z:=U g1 (U g5 (U g6 (U g7 (U g8 (U g9 (U @Bool.not_true (U @Bool.not_false (U wa (U wb (U wc (U wd (U we (U wf (U k1 (U k2 (U k3 (U k4 (U k5 (U k6 (U k7 (U k8 (U k9 (U k10 (U q0 (U q1 q2)))))))))))))))))))))))));(repeat'(first|refine G fun K J=>?_|refine uR Z ?_|refine uT Z ?_|refine uK ?_|refine uC1 Z ?_|(refine O J ?_;clear J)|apply zI));all_goals rfl
                 |true=>
                  simp only[q2,Bool.true_and,Bool.and_true]at hF;generalize params.all pmOk=bP at hP hF;cases bP with
                  |false=>
                   (try simp only[Bool.false_and,Bool.and_false]at hF);subst hF;replace Z:=U g1 (U g5 (U g6 (U g7 (U g8 (U g9 (U @Bool.not_true (U @Bool.not_false (U wa (U wb (U wc (U wd (U we (U wf (U k1 (U k2 (U k3 (U k4 (U k5 (U k6 (U k7 (U k8 (U k9 (U k10 (U q0 (U q1 q2)))))))))))))))))))))))));(repeat'(first|refine G fun K J=>?_|refine uR Z ?_|refine uK ?_|refine uC1 Z ?_|(refine O J ?_;clear J)|apply zI));refine uU Z (hP _) ?_;(repeat'(first|refine uT Z ?_|(refine O J ?_;clear J)|apply zI));all_goals rfl
                  |true=>
                   (try simp only[Bool.true_and,Bool.and_true]at hF);subst hF;replace Z:=U g1 (U g5 (U g6 (U g7 (U g8 (U g9 (U @Bool.not_true (U @Bool.not_false (U wa (U wb (U wc (U wd (U we (U wf (U k1 (U k2 (U k3 (U k4 (U k5 (U k6 (U k7 (U k8 (U k9 (U k10 (U q0 (U q1 q2)))))))))))))))))))))))));(repeat'(first|refine G fun K J=>?_|refine uR Z ?_|refine uK ?_|refine uC1 Z ?_|(refine O J ?_;clear J)|apply zI));refine uU Z (hP _) ?_;(repeat'(first|refine uT Z ?_|(refine O J ?_;clear J)|apply zI));all_goals rfl
              |false=>
               simp only[k10,Bool.true_or,Bool.or_true,Bool.false_or,if_true,Bool.false_eq_true,if_false]at hF;cases k11:(op.data.toList==(#[101,120,105,115,116,115]:Array UInt8).toList)with
               |true=>
                simp only[k11,Bool.true_or,Bool.or_true,Bool.false_or,if_true,Bool.false_eq_true,if_false]at hF;cases q0:(name.data.toList==(#[]:Array UInt8).toList)with
                |false=>
                 simp only[q0,Bool.false_and,Bool.and_false]at hF;subst hF;replace Z:=U g1 (U g5 (U g6 (U g7 (U g8 (U g9 (U @Bool.not_true (U @Bool.not_false (U wa (U wb (U wc (U wd (U we (U wf (U k1 (U k2 (U k3 (U k4 (U k5 (U k6 (U k7 (U k8 (U k9 (U k10 (U k11 q0))))))))))))))))))))))));(repeat'(first|refine G fun K J=>?_|refine uR Z ?_|refine uT Z ?_|refine uC1 Z ?_|(refine O J ?_;clear J)|apply zI));all_goals rfl
                |true=>
                 simp only[q0,Bool.true_and,Bool.and_true]at hF;cases q1:(((args.length:Int)+exprs.length)==0)with
                 |false=>
                  simp only[q1,Bool.false_and,Bool.and_false]at hF;subst hF;replace Z:=U g1 (U g5 (U g6 (U g7 (U g8 (U g9 (U @Bool.not_true (U @Bool.not_false (U wa (U wb (U wc (U wd (U we (U wf (U k1 (U k2 (U k3 (U k4 (U k5 (U k6 (U k7 (U k8 (U k9 (U k10 (U k11 (U q0 q1)))))))))))))))))))))))));(repeat'(first|refine G fun K J=>?_|refine uR Z ?_|refine uT Z ?_|refine uC1 Z ?_|(refine O J ?_;clear J)|apply zI));all_goals rfl
                 |true=>
                  simp only[q1,Bool.true_and,Bool.and_true]at hF;cases q2:((kids.length:Int)==1)with
                  |false=>
                   simp only[q2,Bool.false_and,Bool.and_false]at hF;subst hF;replace Z:=U g1 (U g5 (U g6 (U g7 (U g8 (U g9 (U @Bool.not_true (U @Bool.not_false (U wa (U wb (U wc (U wd (U we (U wf (U k1 (U k2 (U k3 (U k4 (U k5 (U k6 (U k7 (U k8 (U k9 (U k10 (U k11 (U q0 (U q1 q2))))))))))))))))))))))))));(repeat'(first|refine G fun K J=>?_|refine uR Z ?_|refine uT Z ?_|refine uC1 Z ?_|(refine O J ?_;clear J)|apply zI));all_goals rfl
                  |true=>
                   simp only[q2,Bool.true_and,Bool.and_true]at hF;generalize params.all pmOk=bP at hP hF;cases bP with
                   |false=>
                    (try simp only[Bool.false_and,Bool.and_false]at hF);subst hF;replace Z:=U g1 (U g5 (U g6 (U g7 (U g8 (U g9 (U @Bool.not_true (U @Bool.not_false (U wa (U wb (U wc (U wd (U we (U wf (U k1 (U k2 (U k3 (U k4 (U k5 (U k6 (U k7 (U k8 (U k9 (U k10 (U k11 (U q0 (U q1 q2))))))))))))))))))))))))));(repeat'(first|refine G fun K J=>?_|refine uR Z ?_|refine uC1 Z ?_|(refine O J ?_;clear J)|apply zI));refine uU Z (hP _) ?_;(repeat'(first|refine uT Z ?_|(refine O J ?_;clear J)|apply zI));all_goals rfl
                   |true=>
                    (try simp only[Bool.true_and,Bool.and_true]at hF);subst hF;replace Z:=U g1 (U g5 (U g6 (U g7 (U g8 (U g9 (U @Bool.not_true (U @Bool.not_false (U wa (U wb (U wc (U wd (U we (U wf (U k1 (U k2 (U k3 (U k4 (U k5 (U k6 (U k7 (U k8 (U k9 (U k10 (U k11 (U q0 (U q1 q2))))))))))))))))))))))))));(repeat'(first|refine G fun K J=>?_|refine uR Z ?_|refine uC1 Z ?_|(refine O J ?_;clear J)|apply zI));refine uU Z (hP _) ?_;(repeat'(first|refine uT Z ?_|(refine O J ?_;clear J)|apply zI));all_goals rfl
               |false=>
                simp only[k11,Bool.true_or,Bool.or_true,Bool.false_or,if_true,Bool.false_eq_true,if_false]at hF;subst hF;replace Z:=U g1 (U g5 (U g6 (U g7 (U g8 (U g9 (U @Bool.not_true (U @Bool.not_false (U wa (U wb (U wc (U wd (U we (U wf (U k1 (U k2 (U k3 (U k4 (U k5 (U k6 (U k7 (U k8 (U k9 (U k10 k11)))))))))))))))))))))));repeat'(first|refine G fun K J=>?_|refine a_block ?_|refine uR Z ?_|refine uT Z ?_|refine uK ?_|refine uC1 Z ?_|(refine O J ?_;clear J)|apply zI)
set_option maxHeartbeats 4000000
theorem rwriteParams_c{l:List Pm}(hl:l.length≤1048576)(h:Heap):PCall Tryz.prog 30 [.imm 2 (pmRows l)] h fun r h'=>r= .imm 6 (Sx.rows (paramsW l))∧h'=h:=by
 refine PCall.frz Ty.hb_30 ?_;have hll:=pmRows_len l;have hw: ∀ (s:ByteArray)(h:Heap),PCall Tryz.prog 79 [sPV s] h fun r h'=>r= .agg (wordM s).cells∧h'=h:=fun s h=>rwd_c;simp only[wordM,Sx.cells,Sx.rows]at hw;refine uG0 Tryz.func30 Tryz.ntmps30 Tryz.results30 Ty.hb_30 ?_;repeat'(first|refine G fun K J=>?_|refine a_block ?_|refine uR hll ?_|(refine O J ?_;clear J)|apply zI)
 refine a_loop (fun m S h'=>S 0= .imm 2 (pmRows l)∧ ∃ (k:Nat)(o:PV),S 4= .sc (.int .i64 k)∧S 3=o∧k≤l.length∧m=l.length-k∧Grow h h'∧Tl h' h.next 6 o (Sx.rows (paramsW (l.take k)))) l.length ?_ ?_
 ·simp only[Ty.w,simprocAttr];exact⟨0,_,rfl,rfl,by omega,rfl,Grow.refl _,Tl.nil⟩
 ·rintro m S h' ⟨g0,k,o,g4,g3,hk,rfl,hg,tl⟩;by_cases hlt:k<l.length
  ·have hd:decide ((k:Int)<(l.length:Int))=true:=(by simp;omega);have w7:IntKind.i64.wrap ((k:Int)+1)=k+1:=(by rw[wrap64 (by omega) (by omega)]);obtain⟨p,hx⟩: ∃ p,l[k]? =some p:=⟨_,List.getElem?_eq_getElem hlt⟩;have hr:=pmRows_get hx;obtain⟨H,t1,t2,t3,t4,t5⟩:=tl.tail;have hpr:(Sx.rows (paramsW (l.take k))).length=3*k:=(by rw[Sx.rows_len,paramsW_len,List.length_take];omega);have hb:(3*k+3)*72≤140737488355328:=(by omega);have hR:Sx.rows (paramsW (l.take (k+1)))=Sx.rows (paramsW (l.take k))++[[.sc (.int .i64 1),.sc (.int .i64 0),.sc (.int .i64 0),.sc (.int .i64 0),sPV p.name,.imm 6 []],[.sc (.int .i64 1),.sc (.int .i64 0),.sc (.int .i64 0),.sc (.int .i64 0),sPV ⟨#[45]⟩,.imm 6 []],[.sc (.int .i64 1),.sc (.int .i64 0),.sc (.int .i64 0),.sc (.int .i64 0),sPV p.type,.imm 6 []]]:=by
    rw[List.take_add_one,hx,paramsW_append];simp only[Sx.rows_map,List.map_append,Option.toList_some,paramsW,List.map_cons,List.map_nil,wordM,Sx.cells]
   generalize Sx.rows (paramsW (l.take k))=R at tl t1 t2 hpr hR;replace Z:=U g0 (U g4 (U g3 (U hd (U hr hll))));(repeat'(first|refine G fun K J=>?_|refine a_block ?_|refine uR Z ?_|refine uE Z fun K J=>?_|refine uK ?_|refine uC1 Z ?_|(refine O J ?_;clear J)|apply zI));replace Z:=U g0 (U g4 (U g3 hr));(first|refine uV Z (hw p.name _) ?_|refine uA Z (hw p.name _) ?_);(try apply zI);(first|refine uV Z (hw ⟨#[45]⟩ _) ?_|refine uA Z (hw ⟨#[45]⟩ _) ?_);(try apply zI);(first|refine uV Z (hw p.type _) ?_|refine uA Z (hw p.type _) ?_);replace Z:=U g0 (U g4 (U g3 (U hr (U w7 (U t1 (U t2 (U hpr hb)))))));(repeat'(first|refine uR Z ?_|(refine O J ?_;clear J)|refine uB Z ?_|(rw[if_pos];rotate_left 1;omega;simp(maxSteps:=2000000) only[Ty.w,simprocAttr,g0,g4,g3,hr,w7,t1,t2,hpr,hb])|apply zI));have hkp:=t5 h ⟨hg.le,hg.old⟩ (Nat.le_refl _);have hgH:Grow h H:=⟨hkp.1,hkp.2⟩;rw[← hR];have hRl:3*k+3=(Sx.rows (paramsW (l.take (k+1)))).length:=(by rw[Sx.rows_len,paramsW_len,List.length_take];omega);exact⟨l.length-(k+1),by omega,k+1,.own H.next 0 (3*k+3),by simp,by first|rfl|rw[t3],by omega,rfl,hgH.new _,Tl.grow hkp.1 hRl⟩
  ·have hd:decide ((k:Int)<(l.length:Int))=false:=(by simp;omega);have hke:k=l.length:=(by omega);subst hke;rw[List.take_length]at tl;replace Z:=U g0 (U g4 (U g3 (U hd hll)));(repeat'(first|refine G fun K J=>?_|refine uR Z ?_|refine uT Z ?_|refine uX ?_|refine uC1 Z ?_|(refine O J ?_;clear J)|(clear J;refine O J ?_;clear J)|apply zI));exact⟨tl_frzX tl,hg⟩
theorem rwriteF_c: ∀ f:Fm,f.small→shapedF f=true→ ∀ h:Heap,PCall Tryz.prog 33 [.agg f.cells] h fun r h'=>r= .agg (fmW f).cells∧h'=h:=by
 refine Fm.ind ?_;intro op name args params exprs kids ih hsm hsh h;simp only[Fm.small]at hsm;obtain⟨hal,hpl,hes,hkl,hks⟩:=hsm;rw[Ex.smalls_iff]at hes;rw[Fm.smalls_iff]at hks;simp only[shapedF,Bool.and_eq_true]at hsh;obtain⟨⟨hpo,hse⟩,hsk⟩:=hsh;rw[shapedFs_iff]at hsk;rw[List.all_eq_true]at hse;have hlK:=Fm.rows_len kids;unfold fmW;refine PCall.frz Ty.hb_33 ?_;cases k1:(op.data.toList==(#[97,116,111,109]:Array UInt8).toList)with
 |true=>
  rw[if_pos (show bEq op opAtom=true from k1)];have hw: ∀ h:Heap,PCall Tryz.prog 81 [sPV name,.imm 1 (strRows args)] h fun r h'=>r= .agg (wordsM name args).cells∧h'=h:=fun h=>rlist_c hal;have hfz:=fun(n:Nat)(h:Heap)=>sx_frz n h (wordsM name args);simp only[Fm.cells];generalize wordsM name args=X at hw hfz⊢;obtain⟨ki,va,li,co,te,ks⟩:=X;simp only[Sx.cells]at hw hfz⊢;refine uG0 Tryz.func33 Tryz.ntmps33 Tryz.results33 Ty.hb_33 ?_;repeat'(first|refine G fun K J=>?_|refine uR k1 ?_|(refine O J ?_;clear J)|apply zI)
  refine uU k1 (hw _) ?_;repeat'(first|refine uT trivial ?_|(refine O J ?_;clear J)|apply zI)
  refine⟨?_,((Grow.refl h).new _).set (Nat.le_refl _) _⟩;simp only[FrzTo];exact⟨_,rfl,hfz _ _⟩
 |false=>
  cases k2:(op.data.toList==(#[115,97,109,101]:Array UInt8).toList)with
  |true=>
   rw[if_neg (by rw[(show bEq op opAtom=false from k1)];simp)];rw[if_pos (show bEq op opSame=true from k2)];have hw: ∀ h:Heap,PCall Tryz.prog 81 [sPV ⟨#[61]⟩,.imm 1 (strRows args)] h fun r h'=>r= .agg (wordsM opEq args).cells∧h'=h:=fun h=>rlist_c hal;have hfz:=fun(n:Nat)(h:Heap)=>sx_frz n h (wordsM opEq args);simp only[Fm.cells];generalize wordsM opEq args=X at hw hfz⊢;obtain⟨ki,va,li,co,te,ks⟩:=X;simp only[Sx.cells]at hw hfz⊢;refine uG0 Tryz.func33 Tryz.ntmps33 Tryz.results33 Ty.hb_33 ?_;(repeat'(first|refine G fun K J=>?_|refine uR (U k1 k2) ?_|(refine O J ?_;clear J)|apply zI));refine uU (U k1 k2) (hw _) ?_;(repeat'(first|refine uT trivial ?_|(refine O J ?_;clear J)|apply zI));refine⟨?_,((Grow.refl h).new _).set (Nat.le_refl _) _⟩;simp only[FrzTo];exact⟨_,rfl,hfz _ _⟩
  |false=>
   rw[if_neg (by rw[(show bEq op opAtom=false from k1)];simp),if_neg (by rw[(show bEq op opSame=false from k2)];simp)];cases k3:(op.data.toList==(#[60]:Array UInt8).toList)with
   |true=>
    rw[if_pos (by simp[isCmp,(show bEq op opAtom=false from k1),(show bEq op opSame=false from k2),(show bEq op opLt=true from k3)])];have hx2:exprs.length=2:=(by have q:=hpo;simp[partsOk,shapeOf,(show bEq op opAtom=false from k1),(show bEq op opSame=false from k2),(show bEq op opLt=true from k3)]at q;omega);obtain⟨a,b,rfl⟩: ∃ a b,exprs=[a,b]:=by
     match exprs,hx2 with
     |[a,b],_=>exact⟨a,b,rfl⟩
    have ca:=rwriteE_c a (hes a (by simp)) (hse a (by simp));have cb:=rwriteE_c b (hes b (by simp)) (hse b (by simp));have hw:=fun h:Heap=>rwd_c (h:=h) (s:=op);simp only[List.map_cons,List.map_nil];have hfz:=fun(n:Nat)(h:Heap)=>sx_frz n h (listM [wordM op,exW a,exW b]);generalize exW a=xa at ca hfz⊢;generalize exW b=xb at cb hfz⊢;(try clear Z);clear ih hks hpo hse hsk hes;obtain⟨aop,aname,an,aargs,akids⟩:=a;obtain⟨bop,bname,bn,bargs,bkids⟩:=b;obtain⟨ki,va,li,co,te,ks⟩:=xa;obtain⟨ki2,va2,li2,co2,te2,ks2⟩:=xb;simp only[Fm.cells,Ex.cells,Ex.rows,listM,Sx.cells,Sx.rows,wordM]at ca cb hw hfz⊢;refine uG0 Tryz.func33 Tryz.ntmps33 Tryz.results33 Ty.hb_33 ?_;replace Z:=U k1 (U k2 k3);(repeat'(first|refine G fun K J=>?_|refine uR Z ?_|refine uD Z ?_|refine uK ?_|refine uC1 Z ?_|(refine O J ?_;clear J)|apply zI));(first|refine uV trivial (hw _) ?_|refine uA trivial (hw _) ?_);(try apply zI);(first|refine uV trivial (ca _) ?_|refine uA trivial (ca _) ?_);(try apply zI);(first|refine uV trivial (cb _) ?_|refine uA trivial (cb _) ?_);(repeat'(first|refine uT trivial ?_|(refine O J ?_;clear J)|refine uB trivial ?_|apply zI));refine⟨?_,((Grow.refl h).new _).set (Nat.le_refl _) _⟩;simp only[FrzTo];exact⟨_,rfl,hfz _ _⟩
   |false=>
    cases k4:(op.data.toList==(#[60,61]:Array UInt8).toList)with
    |true=>
     rw[if_pos (by simp[isCmp,(show bEq op opAtom=false from k1),(show bEq op opSame=false from k2),(show bEq op opLt=false from k3),(show bEq op opLe=true from k4)])];have hx2:exprs.length=2:=(by have q:=hpo;simp[partsOk,shapeOf,(show bEq op opAtom=false from k1),(show bEq op opSame=false from k2),(show bEq op opLt=false from k3),(show bEq op opLe=true from k4)]at q;omega);obtain⟨a,b,rfl⟩: ∃ a b,exprs=[a,b]:=by
      match exprs,hx2 with
      |[a,b],_=>exact⟨a,b,rfl⟩
     have ca:=rwriteE_c a (hes a (by simp)) (hse a (by simp));have cb:=rwriteE_c b (hes b (by simp)) (hse b (by simp));have hw:=fun h:Heap=>rwd_c (h:=h) (s:=op);simp only[List.map_cons,List.map_nil];have hfz:=fun(n:Nat)(h:Heap)=>sx_frz n h (listM [wordM op,exW a,exW b]);generalize exW a=xa at ca hfz⊢;generalize exW b=xb at cb hfz⊢;(try clear Z);clear ih hks hpo hse hsk hes;obtain⟨aop,aname,an,aargs,akids⟩:=a;obtain⟨bop,bname,bn,bargs,bkids⟩:=b;obtain⟨ki,va,li,co,te,ks⟩:=xa;obtain⟨ki2,va2,li2,co2,te2,ks2⟩:=xb;simp only[Fm.cells,Ex.cells,Ex.rows,listM,Sx.cells,Sx.rows,wordM]at ca cb hw hfz⊢;refine uG0 Tryz.func33 Tryz.ntmps33 Tryz.results33 Ty.hb_33 ?_;replace Z:=U k1 (U k2 (U k3 k4));(repeat'(first|refine G fun K J=>?_|refine uR Z ?_|refine uD Z ?_|refine uK ?_|refine uC1 Z ?_|(refine O J ?_;clear J)|apply zI));(first|refine uV trivial (hw _) ?_|refine uA trivial (hw _) ?_);(try apply zI);(first|refine uV trivial (ca _) ?_|refine uA trivial (ca _) ?_);(try apply zI);(first|refine uV trivial (cb _) ?_|refine uA trivial (cb _) ?_);(repeat'(first|refine uT trivial ?_|(refine O J ?_;clear J)|refine uB trivial ?_|apply zI));refine⟨?_,((Grow.refl h).new _).set (Nat.le_refl _) _⟩;simp only[FrzTo];exact⟨_,rfl,hfz _ _⟩
    |false=>
     cases k5:(op.data.toList==(#[61]:Array UInt8).toList)with
     |true=>
      rw[if_pos (by simp[isCmp,(show bEq op opAtom=false from k1),(show bEq op opSame=false from k2),(show bEq op opLt=false from k3),(show bEq op opLe=false from k4),(show bEq op opEq=true from k5)])];have hx2:exprs.length=2:=(by have q:=hpo;simp[partsOk,shapeOf,(show bEq op opAtom=false from k1),(show bEq op opSame=false from k2),(show bEq op opLt=false from k3),(show bEq op opLe=false from k4),(show bEq op opEq=true from k5)]at q;omega);obtain⟨a,b,rfl⟩: ∃ a b,exprs=[a,b]:=by
       match exprs,hx2 with
       |[a,b],_=>exact⟨a,b,rfl⟩
      have ca:=rwriteE_c a (hes a (by simp)) (hse a (by simp));have cb:=rwriteE_c b (hes b (by simp)) (hse b (by simp));have hw:=fun h:Heap=>rwd_c (h:=h) (s:=op);simp only[List.map_cons,List.map_nil];have hfz:=fun(n:Nat)(h:Heap)=>sx_frz n h (listM [wordM op,exW a,exW b]);generalize exW a=xa at ca hfz⊢;generalize exW b=xb at cb hfz⊢;(try clear Z);clear ih hks hpo hse hsk hes;obtain⟨aop,aname,an,aargs,akids⟩:=a;obtain⟨bop,bname,bn,bargs,bkids⟩:=b;obtain⟨ki,va,li,co,te,ks⟩:=xa;obtain⟨ki2,va2,li2,co2,te2,ks2⟩:=xb;simp only[Fm.cells,Ex.cells,Ex.rows,listM,Sx.cells,Sx.rows,wordM]at ca cb hw hfz⊢;refine uG0 Tryz.func33 Tryz.ntmps33 Tryz.results33 Ty.hb_33 ?_;replace Z:=U k1 (U k2 (U k3 (U k4 k5)));(repeat'(first|refine G fun K J=>?_|refine uR Z ?_|refine uD Z ?_|refine uC1 Z ?_|(refine O J ?_;clear J)|apply zI));(first|refine uV trivial (hw _) ?_|refine uA trivial (hw _) ?_);(try apply zI);(first|refine uV trivial (ca _) ?_|refine uA trivial (ca _) ?_);(try apply zI);(first|refine uV trivial (cb _) ?_|refine uA trivial (cb _) ?_);(repeat'(first|refine uT trivial ?_|(refine O J ?_;clear J)|refine uB trivial ?_|apply zI));refine⟨?_,((Grow.refl h).new _).set (Nat.le_refl _) _⟩;simp only[FrzTo];exact⟨_,rfl,hfz _ _⟩
     |false=>
      rw[if_neg (by simp[isCmp,(show bEq op opLt=false from k3),(show bEq op opLe=false from k4),(show bEq op opEq=false from k5)])];(try clear Z);clear hse hes hpo;have n6:bEq op opAnd=(op.data.toList==(#[97,110,100]:Array UInt8).toList):=rfl;by_cases hz:(bEq op opAnd&&kids.isEmpty)=true
      ·have hz2:=hz;rw[Bool.and_eq_true]at hz2;have k6:(op.data.toList==(#[97,110,100]:Array UInt8).toList)=true:=hz2.1;have hk0:kids=[]:=List.isEmpty_iff.1 hz2.2;have hq:isQ op=false:=(by rw[bEq_eq hz2.1];try rfl);subst hk0;rw[if_pos hz,hq];simp only[Bool.false_eq_true,if_false,fmWs,List.append_nil,Fm.cells,Fm.rows];refine uG0 Tryz.func33 Tryz.ntmps33 Tryz.results33 Ty.hb_33 ?_;replace Z:=U k1 (U k2 (U k3 (U k4 (U k5 k6))));(repeat'(first|refine G fun K J=>?_|refine a_block ?_|refine uR Z ?_|refine uT Z ?_|refine uK ?_|refine uC1 Z ?_|(refine O J ?_;clear J)|apply zI));refine⟨?_,((Grow.refl h).new _).set (Nat.le_refl _) _⟩;simp only[listM,Sx.cells,Sx.rows,FrzTo,FrzL];exact⟨_,rfl,rfl,rfl,rfl,rfl,rfl,.inr (.inl ⟨rfl,.inr rfl⟩),trivial⟩
      ·rw [if_neg hz];have hw: ∀ (s:ByteArray)(h:Heap),PCall Tryz.prog 79 [sPV s] h fun r h'=>r= .agg (wordM s).cells∧h'=h:=fun s h=>rwd_c;simp only[wordM,Sx.cells,Sx.rows]at hw;simp only[Fm.cells];refine uG (ow:=fun t=>t==51) (wf:=fun _=>false) Tryz.func33 Tryz.ntmps33 Tryz.results33 Ty.hb_33 ?_;replace Z:=U k1 (U k2 (U k3 (U k4 k5)));(repeat'(first|with_reducible refine a_hold 10 ?_|refine G fun K J=>?_|refine a_block ?_|refine uR Z ?_|refine uK ?_|refine uC1 Z ?_|(refine O J ?_;clear J)|apply zI));refine⟨?_⟩;refine a_cut (fun S h'=>S 1= .cptr (Fm.mk op name args params exprs kids).cells∧S 2= .ptr h.next 0 0∧h'=h.new (.arr 6 [[.sc (.int .i64 0),.sc (.int .i64 0),.sc (.int .i64 0),.sc (.int .i64 0),.sc (.string ⟨#[]⟩),.sc (.slice none 0 0)]])) ?_ ?_
       ·cases k6:(op.data.toList==(#[97,110,100]:Array UInt8).toList)with
        |false=>
         (repeat'(first|refine G fun K J=>?_|refine uR k6 ?_|refine uK ?_|refine uC1 k6 ?_|(refine O J ?_;clear J)|apply zI));all_goals first|rfl|trivial|((try refine⟨?_,?_,?_⟩)<;>first|rfl|trivial)|((try refine⟨?_,?_⟩)<;>first|rfl|trivial)
        |true=>
         have hk0:((kids.length:Int)==0)=false:=by
          cases kids with
          |nil=>exact absurd (by rw[n6,k6];try rfl) hz
          |cons a l=>simp;omega
         replace Z:=U k6 (U hk0 hlK);(repeat'(first|refine G fun K J=>?_|refine uR Z ?_|refine uK ?_|refine uC1 Z ?_|(refine O J ?_;clear J)|apply zI));all_goals first|rfl|trivial|((try refine⟨?_,?_,?_⟩)<;>first|rfl|trivial)|((try refine⟨?_,?_⟩)<;>first|rfl|trivial)
       ·rintro S h' ⟨g1,g2,rfl⟩;simp only[Fm.cells]at g1;(repeat'(first|refine G fun K J=>?_|refine uR (U g1 g2) ?_|apply zI));refine uU (U g1 g2) (hw op _) ?_;(repeat'(first|with_reducible refine a_hold 13 ?_|(refine O J ?_;clear J)|apply zI));refine⟨?_⟩;refine a_cut (fun S h'=>S 1= .cptr (Fm.mk op name args params exprs kids).cells∧S 2= .ptr h.next 0 0∧ ∃ id,S 3= .own id 0 (wordM op::(if isQ op=true then[listM (paramsW params)]else[])).length∧Grow h h'∧h.next<id∧id<h'.next∧h'.obj h.next=some (.arr 6 [[.sc (.int .i64 0),.sc (.int .i64 0),.sc (.int .i64 0),.sc (.int .i64 0),.sc (.string ⟨#[]⟩),.sc (.slice none 0 0)]])∧h'.obj id=some (.arr 6 (Sx.rows (wordM op::(if isQ op=true then[listM (paramsW params)]else[]))))) ?_ ?_
        ·have n7:bEq op opAll=(op.data.toList==(#[102,111,114,97,108,108]:Array UInt8).toList):=rfl;have n8:bEq op opSome=(op.data.toList==(#[101,120,105,115,116,115]:Array UInt8).toList):=rfl;cases k7:(op.data.toList==(#[102,111,114,97,108,108]:Array UInt8).toList)with
         |true=>
          rw[if_pos (by simp[isQ,n7,n8,k7])];have hwp:=rwriteParams_c (l:=params) hpl;simp only[listM,wordM,Sx.rows,Sx.cells,List.length_cons,List.length_nil];generalize Sx.rows (paramsW params)=PR at hwp⊢;replace Z:=U g1 (U g2 (U k7 (U @nsucc (U @Nat.add_eq_left @Nat.one_ne_zero))));(repeat'(first|refine G fun K J=>?_|refine uR Z ?_|refine uC1 Z ?_|(refine O J ?_;clear J)|apply zI));refine uU (U g1 (U g2 k7)) (hwp _) ?_;(try apply zI);refine⟨rfl,h.next+1+1,?_,((((Grow.refl h).new _).new _).kill (Nat.le_succ _)).new _,by omega,by simp[Heap.new,Heap.kill],?_,?_⟩;all_goals first|rfl|(simp[Heap.new,Heap.kill];done)|(simp[Heap.new,Heap.kill];omega)
         |false=>
          cases k8:(op.data.toList==(#[101,120,105,115,116,115]:Array UInt8).toList)with
          |true=>
           rw[if_pos (by simp[isQ,n7,n8,k7,k8])];have hwp:=rwriteParams_c (l:=params) hpl;simp only[listM,wordM,Sx.rows,Sx.cells,List.length_cons,List.length_nil];generalize Sx.rows (paramsW params)=PR at hwp⊢;replace Z:=U g1 (U g2 (U k7 (U k8 (U @nsucc (U @Nat.add_eq_left @Nat.one_ne_zero)))));(repeat'(first|refine G fun K J=>?_|refine uR Z ?_|refine uC1 Z ?_|(refine O J ?_;clear J)|apply zI));replace Z:=U g1 (U g2 (U k7 k8));refine uU Z (hwp _) ?_;(try apply zI);refine⟨rfl,h.next+1+1,?_,((((Grow.refl h).new _).new _).kill (Nat.le_succ _)).new _,by omega,by simp[Heap.new,Heap.kill],?_,?_⟩;all_goals first|rfl|(simp[Heap.new,Heap.kill];done)|(simp[Heap.new,Heap.kill];omega)
          |false=>
           rw[if_neg (by simp[isQ,n7,n8,k7,k8])];simp only[wordM,Sx.rows,Sx.cells,List.length_cons,List.length_nil];replace Z:=U g1 (U g2 (U k7 k8));repeat'(first|refine G fun K J=>?_|refine uR Z ?_|refine uK ?_|refine uC1 Z ?_|(refine O J ?_;clear J)|apply zI)
           (try simp(maxSteps:=2000000) only[Ty.w,simprocAttr,Ty.all,g1,g2])
           refine⟨rfl,h.next+1,?_,((Grow.refl h).new _).new _,by omega,by simp[Heap.new],?_,?_⟩;all_goals first|rfl|simp[Heap.new]
        ·(try clear Z);clear g1 g2 S;obtain⟨L1,hL1,hl1⟩: ∃ L1:List Sx,(wordM op::(if isQ op=true then[listM (paramsW params)]else[]))=L1∧L1.length≤2:=⟨_,rfl,by split<;>simp⟩;have hfin:[wordM op]++(if isQ op=true then[listM (paramsW params)]else[])++fmWs kids=L1++kids.map fmW:=(by rw[← hL1,fmWs_map];try rfl);rw[hfin,hL1];(try clear Z);clear hL1 hfin;rintro S h' ⟨g1,g2,id,g3,hg,hlo,hhi,o1,o2⟩;simp only[Fm.cells]at g1;have hrl: ∀ k,(L1++(kids.take k).map fmW).length≤1048578:=fun k=>(by simp;omega);replace Z:=U g1 (U g2 (U g3 hlK));(repeat'(first|refine G fun K J=>?_|refine a_block ?_|refine uR Z ?_|(refine O J ?_;clear J)|apply zI));refine a_loop (fun c S h'=>S 1= .cptr (Fm.mk op name args params exprs kids).cells∧S 2= .ptr h.next 0 0∧ ∃ k id:Nat,S 4= .sc (.int .i64 k)∧S 3= .own id 0 (L1++(kids.take k).map fmW).length∧k≤kids.length∧c=kids.length-k∧Grow h h'∧h.next<id∧id<h'.next∧h'.obj h.next=some (.arr 6 [[.sc (.int .i64 0),.sc (.int .i64 0),.sc (.int .i64 0),.sc (.int .i64 0),.sc (.string ⟨#[]⟩),.sc (.slice none 0 0)]])∧h'.obj id=some (.arr 6 (Sx.rows (L1++(kids.take k).map fmW)))) kids.length ?_ ?_
         ·simp only[Ty.w,simprocAttr,g1,g2,g3];exact⟨rfl,0,id,rfl,by simp,by omega,rfl,hg,hlo,hhi,o1,by simpa using o2⟩
         ·(try clear Z);clear g1 g2 g3 o1 o2 hg hlo hhi S;rintro c S h' ⟨g1,g2,k,id,g4,g3,hk,rfl,hg,hlo,hhi,o1,o2⟩;simp only[Fm.cells]at g1;by_cases hlt:k<kids.length
          ·have hdk:decide ((k:Int)<(kids.length:Int))=true:=(by simp;omega);have w7:IntKind.i64.wrap ((k:Int)+1)=k+1:=(by rw[wrap64 (by omega) (by omega)]);obtain⟨x,hx⟩: ∃ x,kids[k]? =some x:=⟨_,List.getElem?_eq_getElem hlt⟩;have hmem:=List.mem_of_getElem? hx;have hr:=Fm.rows_get hx;have hcx:=ih x hmem (hks x hmem) (hsk x hmem);have hL:L1++(kids.take (k+1)).map fmW=L1++(kids.take k).map fmW++[fmW x]:=(by rw[List.take_add_one,hx];simp);have hrk:=hrl k;generalize L1++(kids.take k).map fmW=L2 at g3 o2 hrk hL;generalize fmW x=X at hcx hL;obtain⟨xo,xn,xa,xp,xe,xk⟩:=x;obtain⟨ki,va,li,co,te,ks⟩:=X;simp only[Fm.cells,Sx.cells]at hr hcx;have hR:Sx.rows (L2++[.mk ki va li co te ks])=Sx.rows L2++[[.sc (.int .i64 ki),.sc (.int .i64 va),.sc (.int .i64 li),.sc (.int .i64 co),sPV te,.imm 6 (Sx.rows ks)]]:=(by simp[Sx.rows_map,Sx.cells]);have hpr:=Sx.rows_len L2;generalize Sx.rows L2=R at o2 hpr hR;have htk:List.take L2.length R=R:=List.take_of_length_le (by omega);have hb:(L2.length+1)*72≤140737488355328:=(by omega);replace Z:=U g1 (U g2 (U g3 (U g4 (U hlK (U hdk (U hr o2))))));(repeat'(first|refine G fun K J=>?_|refine a_block ?_|refine uR Z ?_|refine uQ Z fun K J=>?_|refine uK ?_|refine uC1 Z ?_|(refine O J ?_;clear J)|apply zI));replace Z:=U g1 (U g2 (U g3 (U g4 (U o2 (U hpr (U htk hb))))));refine uU Z (hcx _) ?_;replace Z:=U g1 (U g2 (U g3 (U g4 (U w7 (U o2 (U hpr (U htk hb)))))));(repeat'(first|refine uR Z ?_|(refine O J ?_;clear J)|(rw[if_pos];rotate_left 1;omega;simp(maxSteps:=2000000) only[Ty.w,simprocAttr,g1,g2,g3,g4,w7,o2,hpr,htk,hb])|apply zI));refine⟨kids.length-(k+1),by omega,rfl,k+1,h'.next,by simp,?_,by omega,rfl,(hg.kill (by omega)).new _,by omega,by simp[Heap.new,Heap.kill],?_,?_⟩
           ·rw [hL];simp
           ·rw [if_neg (by omega),if_neg (by omega)];exact o1
           ·rw [hL,hR];simp[Heap.new,Heap.kill]
          ·have hdk:decide ((k:Int)<(kids.length:Int))=false:=(by simp;omega);have hke:k=kids.length:=(by omega);subst hke;rw[List.take_length]at o2 g3;replace Z:=U g1 (U g2 (U g3 (U g4 (U hlK (U hdk (U o1 o2))))));(repeat'(first|refine G fun K J=>?_|refine uR Z ?_|refine uT Z ?_|refine uX ?_|refine uC1 Z ?_|(refine O J ?_;clear J)|(clear J;refine O J ?_;clear J)|apply zI));refine⟨?_,hg.set (Nat.le_refl _) _⟩;simp only[listM,Sx.cells,FrzTo,FrzL];refine⟨_,rfl,rfl,rfl,rfl,rfl,rfl,.inr (.inr ⟨id,0,_,Sx.rows (L1++kids.map fmW),rfl,by omega,?_,?_,?_⟩),trivial⟩
           ·simp only[Heap.set];rw[if_neg (by omega)];exact o2
           ·rw [Sx.rows_len];omega
           ·rw [List.drop_zero,List.take_of_length_le (by rw[Sx.rows_len];omega)];exact sxs_frz _ _ _
set_option maxHeartbeats 8000000
def atF(c:Ch):Fm:= .mk opAtom c.name c.args [] [] []
def chR(c:Ch):Bool:=!(decide (c.kind<1))&&(!(decide (5<c.kind))&&(c.params.all (pmR true)&&(shapedF c.cond&&(shapedF (atF c)&&(bif decide (c.kind≤2)then c.value.same zeroEx else shapedE c.value)))))
theorem d9word_c{h:Heap}{s:ByteArray}:PCall Tryz.prog 103 [sPV s] h fun r h'=>r= .agg (wordM s).cells∧h'=h:=by
 refine PCall.frz Ty.hb_103 ?_;refine uG0 Tryz.func103 Tryz.ntmps103 Tryz.results103 Ty.hb_103 ?_;repeat'(first|refine G fun K J=>?_|refine uR trivial ?_|refine uT trivial ?_|(refine O J ?_;clear J)|apply zI)
 refine⟨?_,((Grow.refl h).new _).set (Nat.le_refl _) _⟩;simp only[wordM,Sx.cells,Sx.rows,FrzTo,FrzL];exact⟨_,rfl,rfl,rfl,rfl,rfl,rfl,.inr (.inl ⟨rfl,.inr rfl⟩),trivial⟩
theorem d9list_c{s:ByteArray}{l:List Sx}(hl:l.length≤1099511627776)(h:Heap):PCall Tryz.prog 86 [sPV s,.imm 6 (Sx.rows l)] h fun r h'=>r= .agg (listM (wordM s::l)).cells∧h'=h:=by
 refine PCall.frz Ty.hb_86 ?_;have hll:=Sx.rows_len l;have hwd: ∀ (h:Heap),PCall Tryz.prog 103 [sPV s] h fun r h'=>r= .agg (wordM s).cells∧h'=h:=fun h=>d9word_c;simp only[wordM,Sx.cells,Sx.rows]at hwd;have hbb:(1+l.length)*72≤140737488355328:=by omega
 have n1:(h.next=h.next+1+1)=False:=eq_false (by omega);refine uG (ow:=fun t=>t==7) (wf:=fun _=>false) Tryz.func86 Tryz.ntmps86 Tryz.results86 Ty.hb_86 ?_;repeat'(first|refine G fun K J=>?_|refine uR trivial ?_|(refine O J ?_;clear J)|apply zI)
 refine uU trivial (hwd _) ?_;replace Z:=U hll (U hbb (U n1 @nsucc));repeat'(first|refine uT Z ?_|(refine O J ?_;clear J)|(rw[if_pos];rotate_left 1;omega;simp(maxSteps:=2000000) only[Ty.w,simprocAttr,hll,hbb,n1,nsucc])|apply zI)
 refine⟨?_,(((((Grow.refl h).new _).new _).kill (show h.next≤h.next+1 by omega)).new _).set (Nat.le_refl _) _⟩;simp only[listM,Sx.cells,FrzTo,FrzL];refine⟨_,rfl,rfl,rfl,rfl,rfl,rfl,.inr (.inr ⟨h.next+1+1,0,1+l.length,Sx.rows (wordM s::l),rfl,by omega,?_,?_,?_⟩),trivial⟩
 ·rw [obj_set (by omega)];simp only[Heap.new,Heap.kill,if_true,Sx.rows,wordM,Sx.cells]
 ·rw [Sx.rows_len];simp;omega
 ·rw [List.drop_zero,List.take_of_length_le (by rw[Sx.rows_len];simp;omega)];exact sxs_frz _ _ _
def tru(f:Fm):Bool:=match f with| .mk op _ _ _ _ kids=>bEq op opAnd&&(((Fm.rows kids).length:Int)==0)
theorem rtrue_c(f:Fm)(h:Heap):PCall Tryz.prog 106 [.agg f.cells] h fun r h'=>r= .sc (.bool (tru f))∧h'=h:=by
 refine PCall.quiet Ty.hb_106 ?_;obtain⟨gop,gna,gar,gpa,gex,gki⟩:=f;simp only[Fm.cells,tru];have e0:bEq gop opAnd=(gop.data.toList==[97,110,100]):=rfl;rw[e0];cases e1:(gop.data.toList==[97,110,100])with
 |false=>
  refine uG0 Tryz.func106 Tryz.ntmps106 Tryz.results106 Ty.hb_106 ?_;repeat'(first|refine G fun K J=>?_|refine uR e1 ?_|refine uT e1 ?_|(refine O J ?_;clear J)|apply zI)
  all_goals first|exact Grow.refl _|exact⟨rfl,Grow.refl _⟩
 |true=>
  refine uG0 Tryz.func106 Tryz.ntmps106 Tryz.results106 Ty.hb_106 ?_;repeat'(first|refine G fun K J=>?_|refine uR e1 ?_|refine uT e1 ?_|(refine O J ?_;clear J)|apply zI)
  all_goals first|exact Grow.refl _|exact⟨rfl,Grow.refl _⟩
def ch1W(c:Ch):Sx:=bif c.kind==2 then listM [wordM opNot,fmW (atF c)]else bif c.kind==3 then listM [wordM opAsg,fmW (atF c),exW c.value]else bif c.kind==4 then listM [wordM opInc,fmW (atF c),exW c.value]else bif c.kind==5 then listM [wordM opDec,fmW (atF c),exW c.value]else fmW (atF c)
def ch2W(c:Ch):Sx:=bif tru c.cond then ch1W c else listM [wordM opWhen,fmW c.cond,ch1W c]
def chW(c:Ch):Sx:=bif c.params.isEmpty then ch2W c else listM [wordM opAll,listM (paramsW c.params),ch2W c]
theorem sxA_frz(n:Nat)(H:Heap)(X:Sx):FrzTo n H (.agg X.cells) (.agg X.cells):=by
 obtain⟨k,v,l,c,t,ks⟩:=X;simp only[Sx.cells,FrzTo,FrzL];exact⟨_,rfl,rfl,rfl,rfl,rfl,rfl,.inl ⟨rfl,sxs_in _ _⟩,trivial⟩
structure SgI(h:Heap)(X:Sx)(H:Heap):Prop where
 grow:Grow h H
 nx:h.next+1<H.next
 res:H.obj h.next=some (.arr 6 [[.sc (.int .i64 0),.sc (.int .i64 0),.sc (.int .i64 0),.sc (.int .i64 0),.sc (.string ⟨#[]⟩),.sc (.slice none 0 0)]])
 at_:H.obj (h.next+1)=some (.arr 6 [X.cells])
theorem SgI.put{h H:Heap}{X Y:Sx}(i:SgI h X H):SgI h Y (H.set (h.next+1) (.arr 6 [Y.cells])):=
 ⟨i.grow.set (by omega) _,i.nx,by simp only[Heap.set];rw[if_neg (by omega)];exact i.res,by simp only[Heap.set,if_true]⟩
theorem single_c{c:Ch}(hR:chR c=true)(hok:c.ok)(hcs:c.cond.small)(hvs:c.value.small)(hal:c.args.length≤1048576)(hpl:c.params.length≤1048576)(h:Heap):PCall Tryz.prog 85 [.agg (chRow c)] h fun r h'=>r= .agg (chW c).cells∧h'=h:=by
 refine PCall.frz Ty.hb_85 ?_;simp only[chR,Bool.and_eq_true,Bool.not_eq_true']at hR;obtain⟨k1,k2,r3,r4,r5,r6⟩:=hR;have hat:=fun h:Heap=>PCall.nz (rwriteF_c (atF c) ⟨hal,by simp,trivial,by simp,trivial⟩ r5 h) (xs:=[.agg [sPV opAtom,sPV c.name,.imm 1 (strRows c.args),.sc (.slice none 0 0),.sc (.slice none 0 0),.sc (.slice none 0 0)]]) (nz_cons (nz_agg (nz_cons (Nz.refl _) (nz_cons (Nz.refl _) (nz_cons (Nz.refl _) (nz_cons nz_nil (nz_cons nz_nil (nz_cons nz_nil (NzL.refl _)))))))) (NzL.refl _));have hcw:=fun h:Heap=>rwriteF_c c.cond hcs r4 h;have htr:=fun h:Heap=>rtrue_c c.cond h;have hex:decide (c.kind≤2)=false→ ∀ h:Heap,PCall Tryz.prog 82 [.agg c.value.cells] h fun r h'=>r= .agg (exW c.value).cells∧h'=h:=fun hk h=>rwriteE_c c.value hvs (by rw[hk]at r6;exact r6) h;have hwp:=fun h:Heap=>rwriteParams_c (l:=c.params) hpl h;have hl2:=fun(s:ByteArray)(X:Sx)(h:Heap)=>d9list_c (s:=s) (l:=[X]) (by simp) h;have hl3:=fun(s:ByteArray)(X Y:Sx)(h:Heap)=>d9list_c (s:=s) (l:=[X,Y]) (by simp) h;generalize hF:chW c=F;unfold chW at hF;unfold ch2W at hF;try clear Z
 clear r3 r4 r5 r6 hok hcs hvs hal;generalize fmW c.cond=X2 at hcw hF;have hc1:ch1W c=bif c.kind==2 then listM [wordM opNot,fmW (atF c)]else bif c.kind==3 then listM [wordM opAsg,fmW (atF c),exW c.value]else bif c.kind==4 then listM [wordM opInc,fmW (atF c),exW c.value]else bif c.kind==5 then listM [wordM opDec,fmW (atF c),exW c.value]else fmW (atF c):=rfl
 generalize ch1W c=X1 at hF hc1;generalize fmW (atF c)=X0 at hat hc1;generalize exW c.value=E at hex hc1;generalize paramsW c.params=L at*;generalize tru c.cond=tb at*;have hpe:decide ((0:Int)<((pmRows c.params).length:Int))=!c.params.isEmpty:=by
  cases c.params<;>simp[pmRows]<;>omega
 generalize c.params.isEmpty=pe at hF hpe;obtain⟨kind,P,⟨gop,gna,gar,gpa,gex,gki⟩,nm,aa,⟨eop,ena,en,ear,eki⟩⟩:=c;simp only at hc1 k1 k2 hex hwp hat hpe;simp only[Fm.cells,Ex.cells,opAtom,sPV]at hcw htr hex hat;simp only[chRow,Fm.cells,Ex.cells,List.cons_append,List.nil_append];generalize pmRows P=PR at*;obtain⟨ek,ev,el,ec,et,es⟩:=E;obtain⟨ck,cv,cl,cc,ct,cs⟩:=X2;obtain⟨ak,av,al,ac,at_,as_⟩:=X0;simp only[Sx.cells]at hcw hex hat;refine uG (ow:=fun t=>t==3) (wf:=fun _=>false) Tryz.func85 Tryz.ntmps85 Tryz.results85 Ty.hb_85 ?_;repeat'(first|with_reducible refine a_holdR 2 ?_|refine G fun K J=>?_|refine uR trivial ?_|(refine O J ?_;clear J)|apply zI)
 refine uU trivial (hat _) ?_;repeat'(first|with_reducible refine a_holdR 2 ?_|refine G fun K J=>?_|(refine O J ?_;clear J)|apply zI)
 refine⟨?_⟩;refine a_genX (fun S H=>S 1= .cptr [.sc (.int .i64 kind),.imm 2 PR,sPV gop,sPV gna,.imm 1 (strRows gar),.imm 2 (pmRows gpa),.imm 5 (Ex.rows gex),.imm 6 (Fm.rows gki),sPV nm,.imm 1 (strRows aa),sPV eop,sPV ena,.sc (.int .i64 en),.imm 1 (strRows ear),.imm 5 (Ex.rows eki)]∧S 2= .ptr h.next 0 0∧S 3= .ptr (h.next+1) 0 0∧SgI h (.mk ak av al ac at_ as_) H) ⟨by simp only[Ty.w,simprocAttr],by simp only[Ty.w,simprocAttr],by simp only[Ty.w,simprocAttr],⟨(((Grow.refl h).new _).new _).set (by omega) _,by simp[Heap.new,Heap.set],by simp[Heap.new,Heap.set],by simp[Heap.new,Heap.set,Sx.cells]⟩⟩ ?_;try clear Z
 clear hat;rintro S H ⟨s1,s2,s3,hI⟩;refine a_cutK (fun S H=>S 1= .cptr [.sc (.int .i64 kind),.imm 2 PR,sPV gop,sPV gna,.imm 1 (strRows gar),.imm 2 (pmRows gpa),.imm 5 (Ex.rows gex),.imm 6 (Fm.rows gki),sPV nm,.imm 1 (strRows aa),sPV eop,sPV ena,.sc (.int .i64 en),.imm 1 (strRows ear),.imm 5 (Ex.rows eki)]∧S 2= .ptr h.next 0 0∧S 3= .ptr (h.next+1) 0 0∧SgI h X1 H) ?_ ?_
 ·have hat2:=hI.at_;simp only[Sx.cells]at hat2;try clear Z
  clear hcw htr hwp hF hpe J;cases q2:(kind==2)with
  |true=>
   simp only[q2,cond_true,cond_false]at hc1;subst hc1;have hq:=hl2 opNot (.mk ak av al ac at_ as_);simp only[wordM,opNot,listM,Sx.cells,Sx.rows]at hq;replace Z:=U s1 (U s2 (U s3 (U hat2 q2)));(repeat'(first|refine G fun K J=>?_|refine a_block ?_|refine uR Z ?_|refine uQ Z fun K J=>?_|(refine O J ?_;clear J)|apply zI));refine uU Z (hq _) ?_;(repeat'(first|(refine O J ?_;clear J)|apply zI));first|exact hI.put|exact⟨by simp only[Ty.w,simprocAttr,s1],by simp only[Ty.w,simprocAttr,s2],by simp only[Ty.w,simprocAttr,s3],hI.put⟩
  |false=>
   simp only[q2,cond_false]at hc1;cases q3:(kind==3)with
   |true=>
    simp only[q3,cond_true,cond_false]at hc1;subst hc1;have hq:=hl3 opAsg (.mk ak av al ac at_ as_) (.mk ek ev el ec et es);have hex:=hex (by simp at q3⊢;omega);simp only[wordM,opAsg,listM,Sx.cells,Sx.rows]at hq;replace Z:=U s1 (U s2 (U s3 (U hat2 (U q2 q3))));(repeat'(first|refine G fun K J=>?_|refine a_block ?_|refine uR Z ?_|refine uE Z fun K J=>?_|(refine O J ?_;clear J)|apply zI));(first|refine uV Z (hex _) ?_|refine uA Z (hex _) ?_);(try apply zI);(first|refine uV Z (hq _) ?_|refine uA Z (hq _) ?_);(repeat'(first|(refine O J ?_;clear J)|refine uB Z ?_|apply zI));first|exact hI.put|exact⟨by simp only[Ty.w,simprocAttr,s1],by simp only[Ty.w,simprocAttr,s2],by simp only[Ty.w,simprocAttr,s3],hI.put⟩
   |false=>
    simp only[q3,cond_false]at hc1;cases q4:(kind==4)with
    |true=>
     simp only[q4,cond_true,cond_false]at hc1;subst hc1;have hq:=hl3 opInc (.mk ak av al ac at_ as_) (.mk ek ev el ec et es);have hex:=hex (by simp at q4⊢;omega);simp only[wordM,opInc,listM,Sx.cells,Sx.rows]at hq;replace Z:=U s1 (U s2 (U s3 (U hat2 (U q2 (U q3 q4)))));(repeat'(first|refine G fun K J=>?_|refine a_block ?_|refine uR Z ?_|refine uE Z fun K J=>?_|(refine O J ?_;clear J)|apply zI));(first|refine uV Z (hex _) ?_|refine uA Z (hex _) ?_);(try apply zI);(first|refine uV Z (hq _) ?_|refine uA Z (hq _) ?_);(repeat'(first|(refine O J ?_;clear J)|refine uB Z ?_|apply zI));first|exact hI.put|exact⟨by simp only[Ty.w,simprocAttr,s1],by simp only[Ty.w,simprocAttr,s2],by simp only[Ty.w,simprocAttr,s3],hI.put⟩
    |false=>
     simp only[q4,cond_false]at hc1;cases q5:(kind==5)with
     |true=>
      simp only[q5,cond_true,cond_false]at hc1;subst hc1;have hq:=hl3 opDec (.mk ak av al ac at_ as_) (.mk ek ev el ec et es);have hex:=hex (by simp at q5⊢;omega);simp only[wordM,opDec,listM,Sx.cells,Sx.rows]at hq;replace Z:=U s1 (U s2 (U s3 (U hat2 (U q2 (U q3 (U q4 q5))))));(repeat'(first|refine G fun K J=>?_|refine a_block ?_|refine uR Z ?_|refine uE Z fun K J=>?_|(refine O J ?_;clear J)|apply zI));(first|refine uV Z (hex _) ?_|refine uA Z (hex _) ?_);(try apply zI);(first|refine uV Z (hq _) ?_|refine uA Z (hq _) ?_);(repeat'(first|(refine O J ?_;clear J)|refine uB Z ?_|apply zI));first|exact hI.put|exact⟨by simp only[Ty.w,simprocAttr,s1],by simp only[Ty.w,simprocAttr,s2],by simp only[Ty.w,simprocAttr,s3],hI.put⟩
     |false=>
      simp only[q5,cond_false]at hc1;subst hc1;replace Z:=U s1 (U s2 (U s3 (U hat2 (U q2 (U q3 (U q4 q5))))));(repeat'(first|refine G fun K J=>?_|refine a_block ?_|refine uR Z ?_|refine uK ?_|(refine O J ?_;clear J)|apply zI));first|exact hI|exact⟨by simp only[Ty.w,simprocAttr,s1],by simp only[Ty.w,simprocAttr,s2],by simp only[Ty.w,simprocAttr,s3],hI⟩
 ·try clear Z
  clear s1 s2 s3 hI hc1 hex hl2;rintro S H ⟨s1,s2,s3,hI⟩;refine J _ _ ?_;try clear Z
  clear J;obtain⟨xk,xv,xl,xc,xt,xs⟩:=X1;repeat'(first|with_reducible refine a_holdR 11 ?_|refine G fun K J=>?_|apply zI)
  refine⟨?_⟩;refine a_cutK (fun S H=>S 1= .cptr [.sc (.int .i64 kind),.imm 2 PR,sPV gop,sPV gna,.imm 1 (strRows gar),.imm 2 (pmRows gpa),.imm 5 (Ex.rows gex),.imm 6 (Fm.rows gki),sPV nm,.imm 1 (strRows aa),sPV eop,sPV ena,.sc (.int .i64 en),.imm 1 (strRows ear),.imm 5 (Ex.rows eki)]∧S 2= .ptr h.next 0 0∧S 3= .ptr (h.next+1) 0 0∧SgI h (bif tb then(Sx.mk xk xv xl xc xt xs)else listM [wordM opWhen,(.mk ck cv cl cc ct cs),.mk xk xv xl xc xt xs]) H) ?_ ?_
  ·have hat2:=hI.at_;simp only[Sx.cells]at hat2;cases tb with
   |true=>
    simp only[cond_true];replace Z:=U s1 (U s2 (U s3 hat2));(repeat'(first|refine G fun K J=>?_|refine uR Z ?_|apply zI));refine uU Z (htr _) ?_;replace Z:=U s1 (U s2 (U s3 (U hat2 @Bool.not_true)));(repeat'(first|refine uK ?_|refine uC1 Z ?_|(refine O J ?_;clear J)|apply zI));first|exact hI|exact⟨by simp only[Ty.w,simprocAttr,s1],by simp only[Ty.w,simprocAttr,s2],by simp only[Ty.w,simprocAttr,s3],hI⟩
   |false=>
    simp only[cond_false];have hq:=hl3 opWhen (.mk ck cv cl cc ct cs) (.mk xk xv xl xc xt xs);simp only[wordM,opWhen,listM,Sx.cells,Sx.rows]at hq;replace Z:=U s1 (U s2 (U s3 hat2));(repeat'(first|refine G fun K J=>?_|refine uR Z ?_|apply zI));refine uU Z (htr _) ?_;replace Z:=U s1 (U s2 (U s3 (U hat2 @Bool.not_false)));(repeat'(first|refine uD Z ?_|refine uC1 Z ?_|(refine O J ?_;clear J)|apply zI));replace Z:=U s1 (U s2 (U s3 hat2));(first|refine uV Z (hcw _) ?_|refine uA Z (hcw _) ?_);(try apply zI);(first|refine uV Z (hq _) ?_|refine uA Z (hq _) ?_);(repeat'(first|refine uB Z ?_|apply zI));first|exact hI.put|exact⟨by simp only[Ty.w,simprocAttr,s1],by simp only[Ty.w,simprocAttr,s2],by simp only[Ty.w,simprocAttr,s3],hI.put⟩
  ·(try clear Z);clear s1 s2 s3 hI;rintro S H ⟨s1,s2,s3,hI⟩;refine J _ _ ?_;(try clear Z);clear J;generalize(bif tb then Sx.mk xk xv xl xc xt xs else listM [wordM opWhen,(.mk ck cv cl cc ct cs),.mk xk xv xl xc xt xs])=Y at hI hF;obtain⟨yk,yv,yl,yc,yt,ys⟩:=Y;have hat2:=hI.at_;have hre:=hI.res;have hgr:=hI.grow;have hnx:=hI.nx;simp only[Sx.cells]at hat2;have n1:(h.next+1=h.next)=False:=eq_false (by omega);have n2:(h.next=h.next+1)=False:=eq_false (by omega);cases pe with
   |true=>
    simp only[cond_true]at hF;subst hF;replace Z:=U s1 (U s2 (U s3 (U hat2 (U hre (U hpe (U @Bool.not_true (U n1 n2)))))));(repeat'(first|refine G fun K J=>?_|refine uR Z ?_|refine uT Z ?_|refine uK ?_|refine uC1 Z ?_|(refine O J ?_;clear J)|apply zI));exact⟨sxA_frz _ _ _,hgr.set (Nat.le_refl _) _⟩
   |false=>
    simp only[cond_false]at hF;subst hF;have hq:=hl3 opAll (listM L) (.mk yk yv yl yc yt ys);simp only[wordM,opAll,listM,Sx.cells,Sx.rows]at hq;replace Z:=U s1 (U s2 (U s3 (U hat2 (U hre (U hpe (U @Bool.not_false (U n1 n2)))))));(repeat'(first|refine G fun K J=>?_|refine uR Z ?_|refine uD Z ?_|refine uC1 Z ?_|(refine O J ?_;clear J)|apply zI));replace Z:=U s1 (U s2 (U s3 (U hat2 (U hre (U hpe (U n1 n2))))));(first|refine uV Z (hwp _) ?_|refine uA Z (hwp _) ?_);(try apply zI);(first|refine uV Z (hq _) ?_|refine uA Z (hq _) ?_);(repeat'(first|refine G fun K J=>?_|refine uR Z ?_|refine uT Z ?_|(refine O J ?_;clear J)|refine uB Z ?_|apply zI));exact⟨sxA_frz _ _ (listM [wordM opAll,listM L,.mk yk yv yl yc yt ys]),(hgr.set (by omega) _).set (Nat.le_refl _) _⟩
set_option maxHeartbeats 4000000
def exprs2:List Sx→List Ex × Int
 |[a,b]=>(match exprP a with
  | (ea, ca) => bif ca == 0 then (match exprP b with
   |(eb,cb)=>bif cb==0 then([ea,eb],0)else([],cb))else([],ca))
 |_=>([],2)
theorem rvalidS_c{x:Sx}(hok:x.ok)(hn:x.nodes≤bigN)(hd:x.depth≤bigN)(h:Heap):PCall Tryz.prog 34 [.agg x.cells] h fun r h'=>r= .sc (.bool (svalid x 0 0).1)∧h'=h:=by
 rw[valid_same hn];exact rvalid_c hok hd h
set_option maxHeartbeats 8000000
def effW(l:List Ch):Sx:=bif l.isEmpty then listM []else listM (wordM opAnd::l.map chW)
theorem rEffect_c{l:List Ch}(hl:l.length≤1048576)(hs: ∀ c∈l, ∀ h:Heap,PCall Tryz.prog 85 [.agg (chRow c)] h fun r h'=>r= .agg (chW c).cells∧h'=h)(h:Heap):
  PCall Tryz.prog 35 [.imm 15 (chRows l)] h fun r h'=>r= .agg (effW l).cells∧h'=h:=by
 refine PCall.frz Ty.hb_35 ?_;have hlen:=chRows_len l;cases q:((l.length:Int)==0)with
 |true=>
  have e:l=[]:=by
   cases l with
   |nil=>rfl
   |cons c l=>simp only[List.length_cons,beq_iff_eq]at q;omega
  subst e;simp only[List.length_nil]at hlen;have hx:effW []=listM []:=rfl;rw[hx];try clear Z
  clear hs;have q:((0:Int)==0)=true:=rfl;refine uG0 Tryz.func35 Tryz.ntmps35 Tryz.results35 Ty.hb_35 ?_;replace Z:=U hlen q;repeat'(first|refine G fun K J=>?_|refine uR Z ?_|refine uT Z ?_|(refine O J ?_;clear J)|apply zI)
  refine⟨?_,((Grow.refl h).new _).set (Nat.le_refl _) _⟩;simp only[listM,Sx.cells,Sx.rows,FrzTo,FrzL];exact⟨_,rfl,rfl,rfl,rfl,rfl,rfl,.inr (.inl ⟨rfl,.inr rfl⟩),trivial⟩
 |false=>
  have hne:l.isEmpty=false:=by
   cases l with
   |nil=>simp at q
   |cons c l=>rfl
  have hx:effW l=listM (wordM opAnd::l.map chW):=by unfold effW;rw[hne];try rfl
  rw[hx];refine uG0 Tryz.func35 Tryz.ntmps35 Tryz.results35 Ty.hb_35 ?_;replace Z:=U hlen q;repeat'(first|refine G fun K J=>?_|refine a_block ?_|refine uR Z ?_|refine uK ?_|(refine uC Z (fun hb=>?_) (fun hb=>?_)<;>(try simp only[hb0,simprocAttr]at hb)<;>(try(exfalso;omega)))|(refine O J ?_;clear J)|apply zI)
  refine a_loop (fun m S H=>S 0= .imm 15 (chRows l)∧S 2= .ptr h.next 0 0∧ ∃ (k:Nat)(p:PV),S 4= .sc (.int .i64 k)∧S 3=p∧k≤l.length∧m=l.length-k∧Grow h H∧h.next+1≤H.next∧H.obj h.next=some (.arr 6 [[.sc (.int .i64 0),.sc (.int .i64 0),.sc (.int .i64 0),.sc (.int .i64 0),.sc (.string ⟨#[]⟩),.sc (.slice none 0 0)]])∧Tl H (h.next+1) 6 p (Sx.rows ((l.take k).map chW))) l.length ?_ ?_
  ·simp only[Ty.w,simprocAttr];first
    |exact⟨0,_,rfl,rfl,by omega,rfl,(Grow.refl h).new _,by simp[Heap.new],by simp[Heap.new],Tl.nil⟩
    |exact⟨0,_,rfl,rfl,by omega,rfl,(Grow.refl h).new _,by simp[Heap.new],Tl.nil⟩
  ·rintro m S H ⟨g0,g2,k,p,g4,g3,hk,rfl,hg,hnx,hre,tl⟩;by_cases hlt:k<l.length
   ·have hd:decide ((k:Int)<(l.length:Int))=true:=(by simp;omega);have w7:IntKind.i64.wrap ((k:Int)+1)=k+1:=(by rw[wrap64 (by omega) (by omega)]);obtain⟨c,hx⟩: ∃ c,l[k]? =some c:=⟨_,List.getElem?_eq_getElem hlt⟩;have hr:=chRows_get hx;have hc:=hs c (List.mem_of_getElem? hx);have htk:Sx.rows ((l.take (k+1)).map chW)=Sx.rows ((l.take k).map chW)++[(chW c).cells]:=(by rw[List.take_add_one,hx];simp[Sx.rows_map]);have hpr:(Sx.rows ((l.take k).map chW)).length=k:=(by rw[Sx.rows_len,List.length_map,List.length_take];omega);generalize chW c=X at hc htk;generalize Sx.rows ((l.take k).map chW)=R at tl htk hpr;(try clear Z);clear hs;obtain⟨kind,P,⟨gop,gna,gar,gpa,gex,gki⟩,nm,aa,⟨eop,ena,en,ear,eki⟩⟩:=c;simp only[chRow,Fm.cells,Ex.cells,List.cons_append,List.nil_append]at hr hc;obtain⟨xk,xv,xl,xc,xt,xs⟩:=X;simp only[Sx.cells]at hc htk;obtain⟨Hk,t1,t2,t3,t4,t5⟩:=tl.tail;have hb:(k+1)*72≤140737488355328:=(by omega);replace Z:=U g0 (U g2 (U g3 (U g4 (U hd hr))));(repeat'(first|refine G fun K J=>?_|refine a_block ?_|refine uR Z ?_|refine uQ Z fun K J=>?_|refine uK ?_|(refine uC Z (fun hb=>?_) (fun hb=>?_)<;>(try simp only[hb0,simprocAttr]at hb)<;>(try(exfalso;omega)))|(refine O J ?_;clear J)|apply zI));replace Z:=U g0 (U g2 (U g3 (U g4 hr)));refine uU Z (hc _) ?_;replace Z:=U g0 (U g2 (U g3 (U g4 (U w7 (U t1 (U t2 (U hpr hb)))))));(repeat'(first|refine uR Z ?_|(refine O J ?_;clear J)|(rw[if_pos];rotate_left 1;omega;simp(maxSteps:=2000000) only[Ty.w,simprocAttr,g0,g2,g3,g4,w7,t1,t2,hpr,hb])|apply zI));have hkp:=t5 h ⟨hg.le,hg.old⟩ (by omega);have hgk:Grow h Hk:=⟨hkp.1,hkp.2⟩;rw[← htk];refine⟨l.length-(k+1),by omega,k+1,.own Hk.next 0 (k+1),by simp,by rw[t3],by omega,rfl,hgk.new _,by first|omega|(simp only[Heap.new];omega),?_,Tl.grow (by omega) (by rw[htk];simp[hpr])⟩;(try simp only[Heap.new]);rw[if_neg (by omega),t4 _ (by omega)];exact hre
   ·have hd:decide ((k:Int)<(l.length:Int))=false:=(by simp;omega);have hke:k=l.length:=(by omega);rw[hke,List.take_length]at tl;have hq:=fun h:Heap=>d9list_c (s:=opAnd) (l:=l.map chW) (by rw[List.length_map];omega) h;(try clear Z);clear hx;generalize hL:l.map chW=L at tl hq;simp only[listM,Sx.cells,opAnd,sPV]at hq;generalize hLa:wordM ⟨#[97,110,100]⟩::L=L2 at hq;generalize hL2:Sx.rows L2=R2 at hq;replace Z:=U g0 (U g2 (U g3 (U g4 hd)));(repeat'(first|with_reducible refine a_holdR 8 ?_|refine G fun K J=>?_|refine uR Z ?_|refine uX ?_|(refine uC Z (fun hb=>?_) (fun hb=>?_)<;>(try simp only[hb0,simprocAttr]at hb)<;>(try(exfalso;omega)))|(refine O J ?_;clear J)|(clear J;refine O J ?_;clear J)|apply zI));refine⟨?_⟩;refine a_drop (h.next+1) [(3,.imm 6 (Sx.rows L))] rfl hnx ?_ ?_
    ·intro x hx;simp only[List.mem_cons,List.not_mem_nil,or_false]at hx;subst hx;have g3b:S 3=p:=g3;simp only[Ty.w,simprocAttr,g3];exact tl_frzX tl
    refine a_genX (fun S H=>S 2= .ptr h.next 0 0∧S 3= .imm 6 (Sx.rows L)∧Grow h H∧H.obj h.next=some (.arr 6 [[.sc (.int .i64 0),.sc (.int .i64 0),.sc (.int .i64 0),.sc (.int .i64 0),.sc (.string ⟨#[]⟩),.sc (.slice none 0 0)]])) ⟨by simp only[frzS,Ty.w,simprocAttr,g2],by simp only[frzS,Ty.w,simprocAttr],⟨hg.le,fun j hj=>by simp only[below];rw[if_pos (by omega)];exact hg.old j hj⟩,by simp only[below];rw[if_pos (by omega)];exact hre⟩ ?_;(try clear Z);clear g0 g2 g3 g4 tl hg hnx hre hd hs;rintro S H ⟨g2,g3,hg,hre⟩;(repeat'(first|refine G fun K J=>?_|refine uR (U g2 (U g3 hre)) ?_|apply zI));refine uU (U g2 (U g3 hre)) (hq _) ?_;(repeat'(first|refine uT (U g2 (U g3 hre)) ?_|(refine O J ?_;clear J)|apply zI));rw[hL];subst hL2;subst hLa;exact⟨sxA_frz _ _ (listM (wordM opAnd::L)),hg.set (Nat.le_refl _) _⟩
def writeRB(l:List Ch):Bool:=l.all chR&&(svalid (effW l) 0 0).1
theorem nodess_append: ∀ l m:List Sx,Sx.nodess (l++m)=Sx.nodess l+Sx.nodess m
 |[],m=>by simp[Sx.nodess]
 |k::l,m=>by simp only[List.cons_append,Sx.nodess,nodess_append l m];omega
theorem list_nodes(l:List Sx):(listM l).nodes=Sx.nodess l+1:=by simp only[listM,Sx.nodes]
theorem word_nodes(s:ByteArray):(wordM s).nodes=1:=by simp[wordM,Sx.nodes,Sx.nodess]
theorem formed_of: ∀ (e:Ex),shapedE e=true→ ∀ (d n:Nat),d+(exW e).depth≤32→n+(exW e).nodes≤4096→(formedM e d n).1=true∧(formedM e d n).2≤n+(exW e).nodes:=by
 refine Ex.ind ?_;intro op name v args kids ih hs d n hd hn;unfold shapedE at hs;unfold exW at hd hn⊢;unfold formedM;cases c1:bEq op opNum with
 |true=>
  rw[c1]at hs hd hn;simp only[if_true]at hs hd hn⊢;simp only[Sx.nodes,Sx.nodess]at hn⊢;rw[if_pos ⟨by omega,by omega⟩];exact⟨hs,by simp only;omega⟩
 |false=>
  rw[c1]at hs hd hn;simp only[Bool.false_eq_true,if_false]at hs hd hn⊢;cases c2:bEq op opFlu with
  |true=>
   rw[c2]at hs hd hn;simp only[if_true]at hs hd hn⊢;simp only[wordsM,listM,Sx.nodes]at hn⊢;rw[if_pos ⟨by omega,by omega⟩];exact⟨hs,by simp only;omega⟩
  |false=>
   rw[c2]at hs hd hn;simp only[Bool.false_eq_true,if_false]at hs hd hn⊢;split at hs
   case isFalse=>simp at hs
   rename_i hop;rw[if_pos hop];rw[Bool.and_eq_true]at hs;obtain⟨h1,h2⟩:=hs;rw[h1];simp only[if_true];split at h2
   case h_2=>simp at h2
   rename_i a b;simp only[Bool.and_eq_true]at h2;simp only[listM,Sx.depth,Sx.depths,Sx.nodes,Sx.nodess,wordM,if_true]at hd hn⊢;have k1:¬ ((1:Int)=3):=(by omega);rw[if_neg k1]at hd;rw[if_pos ⟨by omega,by omega⟩];obtain⟨f1,f2⟩:=ih a (by simp) h2.1 (d+1) (n+1) (by omega) (by omega);cases hw:formedM a (d+1) (n+1)with
   |mk x c=>
    rw[hw]at f1 f2;simp only at f1 f2;subst f1;simp only;obtain⟨g1,g2⟩:=ih b (by simp) h2.2 (d+1) c (by omega) (by omega);exact⟨g1,by omega⟩
theorem validE_same{e:Ex}(hn:(exW e).nodes≤bigN):validE e=(shapedE e&&rvalidB (exW e)):=by
 unfold validE;rw[valid_same hn];cases hs:shapedE e with
 |false=>
  have:(formedM e 0 0).1=false:=by
   cases h:(formedM e 0 0).1 with
   |false=>rfl
   |true=>rw[formedM_shaped e 0 0 h]at hs;simp at hs
  simp only[this,Bool.false_and]
 |true=>
  cases hv:rvalidB (exW e)with
  |false=>simp
  |true=>
   have h1:=(svalid_iff (exW e) 0 0 (by omega) (by omega)).1.1 (by rw[valid_same hn];exact hv);rw[(formed_of e hs 0 0 h1.2.1 h1.2.2).1]
section
variable {name:ByteArray}{args:List ByteArray}{params:List Pm}{exprs:List Ex}{kids p q:List Fm}{s:Bool}
end
theorem sf_cases{C:Fm→Prop}(f:Fm)(hf:shapedF f=true)
  (h1: ∀ name args,nameB name=true→args.all termB=true→C (.mk opAtom name args [] [] []))
  (h2: ∀ args,args.length=2→args.all termB=true→C (.mk opSame ⟨#[]⟩ args [] [] []))
  (h3: ∀ op a b,(op=opLt∨op=opLe∨op=opEq)→shapedE a=true→shapedE b=true→C (.mk op ⟨#[]⟩ [] [] [a,b] []))
  (h4: ∀ op kids,(op=opAnd∨op=opOr)→(∀ k∈kids,shapedF k=true)→C (.mk op ⟨#[]⟩ [] [] [] kids))
  (h5: ∀ k,shapedF k=true→C (.mk opNot ⟨#[]⟩ [] [] [] [k]))
  (h6: ∀ a b,shapedF a=true→shapedF b=true→C (.mk opImp ⟨#[]⟩ [] [] [] [a,b]))
  (h7: ∀ op params k,(op=opAll∨op=opSome)→params.all pmOk=true→shapedF k=true→C (.mk op ⟨#[]⟩ [] params [] [k])):C f:=by
 obtain⟨op,name,args,params,exprs,kids⟩:=f;simp only[shapedF,Bool.and_eq_true,List.all_eq_true]at hf;obtain⟨⟨hp,he⟩,hk⟩:=hf;rw[shapedFs_iff]at hk;rcases partsOk_cases hp with⟨rfl,a1,a2,rfl,a3,a4⟩|⟨rfl,rfl,a1,a2,rfl,a3,a4⟩|⟨a1,rfl,rfl,rfl,a3,a4⟩|⟨a1,rfl,rfl,rfl,a3⟩|⟨a1,rfl,rfl,a3,a4,a5⟩
 ·obtain rfl:=List.eq_nil_of_length_eq_zero a3;obtain rfl:=List.eq_nil_of_length_eq_zero a4;exact h1 _ _ a1 a2
 ·obtain rfl:=List.eq_nil_of_length_eq_zero a3;obtain rfl:=List.eq_nil_of_length_eq_zero a4;exact h2 _ a1 a2
 ·obtain rfl:=List.eq_nil_of_length_eq_zero a4
  match exprs,a3,he with
  |[a,b],_,he=>exact h3 _ _ _ a1 (he a (by simp)) (he b (by simp))
 ·obtain rfl:=List.eq_nil_of_length_eq_zero a3;rcases a1 with rfl|rfl|⟨rfl,a4⟩|⟨rfl,a4⟩
  ·exact h4 _ _ (.inl rfl) hk
  ·exact h4 _ _ (.inr rfl) hk
  ·match kids,a4,hk with
   |[k],_,hk=>exact h5 _ (hk k (by simp))
  ·match kids,a4,hk with
   |[a,b],_,hk=>exact h6 _ _ (hk a (by simp)) (hk b (by simp))
 ·obtain rfl:=List.eq_nil_of_length_eq_zero a3
  match kids,a4,hk with
  |[k],_,hk=>exact h7 _ _ _ a1 a5 (hk k (by simp))
theorem list_depth{l:List Sx}{k:Sx}(h:k∈l):k.depth+1≤(listM l).depth:=by
 have:=Sx.depths_mem 0 h;simp only[listM,Sx.depth,if_true];omega
theorem fmW_rest{op name:ByteArray}{args:List ByteArray}{params:List Pm}{exprs:List Ex}{kids:List Fm}(h1:bEq op opAtom=false)(h2:bEq op opSame=false)(h3:isCmp op=false): ∃ pre,fmW (.mk op name args params exprs kids)=listM (pre++kids.map fmW):=by
 unfold fmW;rw[h1,h2,h3,fmWs_map];exact⟨_,rfl⟩
theorem fmW_parts: ∀ f,shapedF f=true→match f with
  | .mk _ _ _ _ exprs kids=>1+Sx.nodess (exprs.map exW)+Sx.nodess (kids.map fmW)≤(fmW f).nodes∧1≤(fmW f).depth∧(∀ e∈exprs,(exW e).depth+1≤(fmW f).depth)∧(∀ k∈kids,(fmW k).depth+1≤(fmW f).depth):=by
 intro f hf;have d1: ∀ l:List Sx,1≤(listM l).depth:=fun l=>by simp only[listM,Sx.depth,if_true];omega
 have rest: ∀ {op:ByteArray}{params:List Pm}{kids:List Fm}{pre:List Sx},fmW (.mk op ⟨#[]⟩ [] params [] kids)=listM (pre++kids.map fmW)→
   1+Sx.nodess (([]:List Ex).map exW)+Sx.nodess (kids.map fmW)≤(fmW (.mk op ⟨#[]⟩ [] params [] kids)).nodes∧1≤(fmW (.mk op ⟨#[]⟩ [] params [] kids)).depth∧(∀ e∈([]:List Ex),(exW e).depth+1≤(fmW (.mk op ⟨#[]⟩ [] params [] kids)).depth)∧(∀ k∈kids,(fmW k).depth+1≤(fmW (.mk op ⟨#[]⟩ [] params [] kids)).depth):=by
  intro op params kids pre e;rw[e];refine⟨?_,d1 _,by simp,fun k hk=>list_depth (List.mem_append.2 (.inr (List.mem_map.2 ⟨k,hk,rfl⟩)))⟩;rw[list_nodes,nodess_append];simp only[List.map_nil,Sx.nodess];omega
 refine sf_cases (C:=fun f=>match f with
  | .mk _ _ _ _ exprs kids=>1+Sx.nodess (exprs.map exW)+Sx.nodess (kids.map fmW)≤(fmW f).nodes∧1≤(fmW f).depth∧(∀ e∈exprs,(exW e).depth+1≤(fmW f).depth)∧(∀ k∈kids,(fmW k).depth+1≤(fmW f).depth)) f hf ?_ ?_ ?_ ?_ ?_ ?_ ?_
 ·intro name args _ _;have e:fmW (.mk opAtom name args [] [] [])=wordsM name args:=rfl;simp only[e];exact⟨by simp only[wordsM,list_nodes,List.map_nil,Sx.nodess];omega,d1 _,by simp,by simp⟩
 ·intro args _ _;have e:fmW (.mk opSame ⟨#[]⟩ args [] [] [])=wordsM opEq args:=rfl;simp only[e];exact⟨by simp only[wordsM,list_nodes,List.map_nil,Sx.nodess];omega,d1 _,by simp,by simp⟩
 ·intro op a b ho _ _;have e:fmW (.mk op ⟨#[]⟩ [] [] [a,b] [])=listM [wordM op,exW a,exW b]:=by rcases ho with rfl|rfl|rfl<;>rfl
  simp only[e];refine⟨?_,d1 _,?_,by simp⟩
  ·simp only[list_nodes,List.map_cons,List.map_nil,Sx.nodess,word_nodes];omega
  ·intro x hx;simp only[List.mem_cons,List.not_mem_nil,or_false]at hx;rcases hx with rfl|rfl<;>exact list_depth (by simp)
 ·intro op kids ho _;obtain⟨pre,e⟩: ∃ pre,fmW (.mk op ⟨#[]⟩ [] [] [] kids)=listM (pre++kids.map fmW):=by rcases ho with rfl|rfl<;>exact fmW_rest rfl rfl rfl
  exact rest e
 ·intro k _;obtain⟨pre,e⟩: ∃ pre,fmW (.mk opNot ⟨#[]⟩ [] [] [] [k])=listM (pre++[k].map fmW):=fmW_rest rfl rfl rfl;exact rest e
 ·intro a b _ _;obtain⟨pre,e⟩: ∃ pre,fmW (.mk opImp ⟨#[]⟩ [] [] [] [a,b])=listM (pre++[a,b].map fmW):=fmW_rest rfl rfl rfl;exact rest e
 ·intro op params k ho _ _;obtain⟨pre,e⟩: ∃ pre,fmW (.mk op ⟨#[]⟩ [] params [] [k])=listM (pre++[k].map fmW):=by rcases ho with rfl|rfl<;>exact fmW_rest rfl rfl rfl
  exact rest e
theorem formeds_of: ∀ (l:List Ex),(∀ e∈l,shapedE e=true)→ ∀ (d n:Nat),(∀ e∈l,d+(exW e).depth≤32)→n+Sx.nodess (l.map exW)≤4096→(formedMs l d n).1=true∧(formedMs l d n).2≤n+Sx.nodess (l.map exW)
 |[],_,d,n,_,hn=>by simp[formedMs,Sx.nodess]
 |e::l,hs,d,n,hd,hn=>by
  simp only[List.map_cons,Sx.nodess]at hn⊢;obtain⟨f1,f2⟩:=formed_of e (hs e (by simp)) d n (hd e (by simp)) (by omega);unfold formedMs;cases hw:formedM e d n with
  |mk x c=>
   rw[hw]at f1 f2;simp only at f1 f2;subst f1;simp only;obtain⟨g1,g2⟩:=formeds_of l (fun q hq=>hs q (by simp[hq])) d c (fun q hq=>hd q (by simp[hq])) (by omega);exact⟨g1,by omega⟩
theorem shapeds_of: ∀ (l:List Fm)(d:Nat),(∀ k∈l, ∀ n,n+(fmW k).nodes≤4096→(shapedM k d n).1=true∧(shapedM k d n).2≤n+(fmW k).nodes)→ ∀ n,n+Sx.nodess (l.map fmW)≤4096→(shapedMs l d n).1=true∧(shapedMs l d n).2≤n+Sx.nodess (l.map fmW)
 |[],_,_,n,hn=>by simp[shapedMs,Sx.nodess]
 |k::l,d,h,n,hn=>by
  simp only[List.map_cons,Sx.nodess]at hn⊢;obtain⟨f1,f2⟩:=h k (by simp) n (by omega);unfold shapedMs;cases hw:shapedM k d n with
  |mk x c=>
   rw[hw]at f1 f2;simp only at f1 f2;subst f1;simp only;obtain⟨g1,g2⟩:=shapeds_of l d (fun q hq=>h q (by simp[hq])) c (by omega);exact⟨g1,by omega⟩
theorem shaped_of: ∀ (f:Fm),shapedF f=true→ ∀ (d n:Nat),d+(fmW f).depth≤32→n+(fmW f).nodes≤4096→(shapedM f d n).1=true∧(shapedM f d n).2≤n+(fmW f).nodes:=by
 refine Fm.ind ?_;intro op name args params exprs kids ih hs d n hd hn;have hp:=fmW_parts _ hs;simp only at hp;obtain⟨p1,p2,p3,p4⟩:=hp;have hs2:=hs;simp only[shapedF,Bool.and_eq_true,List.all_eq_true]at hs2;obtain⟨⟨h1,h2⟩,h3⟩:=hs2;rw[shapedFs_iff]at h3;generalize fmW (.mk op name args params exprs kids)=X at*;unfold shapedM;rw[if_pos ⟨by omega,by omega⟩,if_pos h1];obtain⟨f1,f2⟩:=formeds_of exprs h2 (d+1) (n+1) (fun e he=>by have:=p3 e he;omega) (by omega);cases hw:formedMs exprs (d+1) (n+1)with
 |mk x c=>
  rw[hw]at f1 f2;simp only at f1 f2;subst f1;simp only;obtain⟨g1,g2⟩:=shapeds_of kids (d+1) (fun k hk m hm=>ih k hk (h3 k hk) (d+1) m (by have:=p4 k hk;omega) hm) c (by omega);exact⟨g1,by omega⟩
theorem validF_same{f:Fm}(hn:(fmW f).nodes≤bigN):validF f=(shapedF f&&rvalidB (fmW f)):=by
 unfold validF;rw[valid_same hn];cases hs:shapedF f with
 |false=>
  have:(shapedM f 0 0).1=false:=by
   cases h:(shapedM f 0 0).1 with
   |false=>rfl
   |true=>rw[shapedM_F f 0 0 h]at hs;simp at hs
  simp only[this,Bool.false_and]
 |true=>
  cases hv:rvalidB (fmW f)with
  |false=>simp
  |true=>
   have h1:=(svalid_iff (fmW f) 0 0 (by omega) (by omega)).1.1 (by rw[valid_same hn];exact hv);rw[(shaped_of f hs 0 0 h1.2.1 h1.2.2).1]
set_option maxHeartbeats 2000000
def VS(x:Sx):Prop:=shapedS x=true∧x.depth≤32∧x.nodes≤4096
theorem VS_iff{x:Sx}:(svalid x 0 0).1=true↔VS x:=by
 have:=(svalid_iff x 0 0 (by omega) (by omega)).1;simpa[VS]using this
theorem shapedSs_mem{k:Sx}: ∀ {l:List Sx},shapedSs l=true→k∈l→shapedS k=true
 |x::l,h,hk=>by
  simp only[shapedSs,Bool.and_eq_true]at h;rcases List.mem_cons.1 hk with rfl|hk
  ·exact h.1
  ·exact shapedSs_mem h.2 hk
theorem depths_mem{k:Sx}: ∀ {l:List Sx}(n:Nat),k∈l→k.depth≤Sx.depths n l
 |x::l,n,hk=>by
  simp only[Sx.depths];rcases List.mem_cons.1 hk with rfl|hk
  ·exact Nat.le_trans (Nat.le_max_right _ _) (Sx.depths_le l _)
  ·exact depths_mem _ hk
theorem VS_kid{l:List Sx}(h:VS (listM l)){k:Sx}(hk:k∈l):VS k:=by
 obtain⟨h1,h2,h3⟩:=h;simp only[listM,shapedS,Bool.and_eq_true]at h1;simp only[listM,Sx.depth]at h2;simp only[listM,Sx.nodes]at h3;have n1:=Sx.nodes_le hk;have d1:=depths_mem 0 hk;refine⟨?_,?_,by omega⟩
 ·simp at h1;exact shapedSs_mem h1 hk
 ·simp only[if_true]at h2;omega
theorem validE_of{e:Ex}(hs:shapedE e=true)(h:VS (exW e)):validE e=true:=by
 have hn:(exW e).nodes≤bigN:=by have:=h.2.2;unfold bigN;omega
 rw[validE_same hn,hs, ← valid_same hn,VS_iff.2 h];try rfl
theorem validF_of{f:Fm}(hs:shapedF f=true)(h:VS (fmW f)):validF f=true:=by
 have hn:(fmW f).nodes≤bigN:=by have:=h.2.2;unfold bigN;omega
 rw[validF_same hn,hs, ← valid_same hn,VS_iff.2 h];try rfl
theorem shapedF_atF(c:Ch):shapedF (atF c)=(nameB c.name&&c.args.all termB):=by
 simp[atF,shapedF,partsOk,shapeOf,termsOk,bEq_refl,shapedFs]
theorem fmW_atF(c:Ch):fmW (atF c)=wordsM c.name c.args:=by
 simp[atF,fmW,bEq_refl]
theorem tru_eq{f:Fm}(h:shapedF f=true):tru f=isAlw f:=by
 cases ha:isAlw f with
 |true=>rw[isAlw_eq ha];try rfl
 |false=>
  cases ht:tru f with
  |false=>rfl
  |true=>
   exfalso;obtain⟨op,na,a,p,e,k⟩:=f;simp only[tru,Bool.and_eq_true]at ht;have e1:=bEq_eq ht.1;have e2:k=[]:=by
    have:=ht.2;simp only[Fm.rows_len,beq_iff_eq]at this;cases k with
    |nil=>rfl
    |cons x k=>simp only[List.length_cons]at this;omega
   subst e1 e2;simp only[shapedF,partsOk,Bool.and_eq_true]at h;have hs:shapeOf opAnd ([]:List Fm).length=some (0,0,false):=rfl;rw[hs]at h;have ht2:termsOk opAnd na a=(emptyB na&&a.isEmpty):=rfl;simp only[ht2,Bool.and_eq_true,Bool.or_false,decide_eq_true_eq,List.isEmpty_iff]at h;obtain⟨⟨⟨⟨⟨⟨⟨h1,h2⟩,h3⟩,h4⟩,h5⟩,h6⟩,h7⟩,h8⟩:=h;have e3:e=[]:=List.length_eq_zero_iff.1 h3;have e4:na=⟨#[]⟩:=bEq_eq h1;subst h2 e3 h5 e4;simp[isAlw,andFm,Fm.same,bEq_refl,bsEq,pmsEq,Ex.sames,Fm.sames]at ha
theorem parB_pmR(p:Pm):parB true p=pmR true p:=by
 unfold parB pmR typedB;simp only[cond_true,if_true];rw[Bool.or_comm]
theorem chB_kind{c:Ch}(h:chB c=true):1≤c.kind∧c.kind≤5:=by
 unfold chB at h;simp only[Bool.and_eq_true]at h;obtain⟨⟨⟨_,hv⟩,_⟩,_⟩:=h;cases k1:c.kind==1||c.kind==2 with
 |true=>
  simp only[Bool.or_eq_true,beq_iff_eq]at k1;omega
 |false=>
  rw[k1,cond_false]at hv;cases k3:c.kind==3||c.kind==4||c.kind==5 with
  |false=>rw[k3]at hv;simp at hv
  |true=>
   simp only[Bool.or_eq_true,beq_iff_eq]at k3;omega
theorem chB_chR{c:Ch}(h:chB c=true):chR c=true∧chX c=chW c:=by
 have hk:=chB_kind h;unfold chB at h;simp only[Bool.and_eq_true]at h;obtain⟨⟨⟨⟨hn,ha⟩,hv⟩,hf⟩,hp⟩:=h;have hat:shapedF (atF c)=true:=by rw[shapedF_atF,hn,ha];try rfl
 have hcs:shapedF c.cond=true:=by
  simp only[Bool.or_eq_true]at hf;rcases hf with hf|hf
  ·rw [isAlw_eq hf];try rfl
  ·exact validF_shaped hf
 have hpp:c.params.all (pmR true)=true:=by
  rw[List.all_eq_true]at hp⊢;intro x hx;rw[← parB_pmR];exact hp x hx
 have hval:(bif decide (c.kind≤2)then c.value.same zeroEx else shapedE c.value)=true∧(2<c.kind→exX c.value=exW c.value):=by
  cases k1:c.kind==1||c.kind==2 with
  |true=>
   rw[k1,cond_true]at hv;simp only[Bool.or_eq_true,beq_iff_eq]at k1;have:decide (c.kind≤2)=true:=(by simp;omega);rw[this];exact⟨hv,fun h=>by omega⟩
  |false=>
   rw[k1,cond_false]at hv;cases k3:c.kind==3||c.kind==4||c.kind==5 with
   |false=>rw[k3]at hv;simp at hv
   |true=>
    rw[k3,cond_true]at hv;simp only[Bool.or_eq_true,beq_iff_eq]at k3;have:decide (c.kind≤2)=false:=(by simp;omega);rw[this];exact⟨validE_shp hv,fun _=>by unfold exX;rw[hv];try rfl⟩
 refine⟨?_,?_⟩
 ·unfold chR;have q1:decide (c.kind<1)=false:=by simp;omega
  have q2:decide (5<c.kind)=false:=by simp;omega
  rw[q1,q2,hpp,hcs,hat,hval.1];try rfl
 ·have h1:ch1 c=ch1W c:=by
   unfold ch1 ch1W;rw[fmW_atF];have hk5:c.kind=1∨c.kind=2∨c.kind=3∨c.kind=4∨c.kind=5:=(by omega);rcases hk5 with k|k|k|k|k
   ·rw [k];try rfl
   ·rw [k];try rfl
   ·rw [hval.2 (by omega),k];try rfl
   ·rw [hval.2 (by omega),k];try rfl
   ·rw [hval.2 (by omega),k];try rfl
  have h2:ch2 c=ch2W c:=by
   unfold ch2 ch2W;rw[tru_eq hcs,h1];cases q:isAlw c.cond with
   |true=>rfl
   |false=>
    rw[q,Bool.false_or]at hf;have:fmX c.cond=fmW c.cond:=(by unfold fmX;rw[hf];try rfl);rw[this]
  unfold chX chW;rw[h2]
theorem chR_chB{c:Ch}(h:chR c=true)(hv:VS (chW c)):chB c=true:=by
 unfold chR at h;simp only[Bool.and_eq_true,Bool.not_eq_true',decide_eq_false_iff_not]at h;obtain⟨q1,q2,hpp,hcs,hat,hval⟩:=h;rw[shapedF_atF,Bool.and_eq_true]at hat;have v2:VS (ch2W c):=by
  unfold chW at hv;cases q:c.params.isEmpty with
  |true=>rw[q]at hv;exact hv
  |false=>rw[q]at hv;exact VS_kid hv (by simp)
 have v1:VS (ch1W c)∧(isAlw c.cond||validF c.cond)=true:=by
  unfold ch2W at v2;rw[tru_eq hcs]at v2;cases q:isAlw c.cond with
  |true=>rw[q]at v2;exact⟨v2,rfl⟩
  |false=>
   rw[q,cond_false]at v2;exact⟨VS_kid v2 (by simp),by rw[Bool.false_or];exact validF_of hcs (VS_kid v2 (by simp))⟩
 have vv:(bif c.kind==1||c.kind==2 then c.value.same zeroEx else(bif c.kind==3||c.kind==4||c.kind==5 then validE c.value else false))=true:=by
  have hk5:c.kind=1∨c.kind=2∨c.kind=3∨c.kind=4∨c.kind=5:=by omega
  have w:=v1.1;unfold ch1W at w;rcases hk5 with k|k|k|k|k
  ·rw [k]at hval⊢;exact hval
  ·rw [k]at hval⊢;exact hval
  all_goals
   rw[k]at hval w⊢;exact validE_of hval (VS_kid (l:=[wordM _,fmW (atF c),exW c.value]) w (by simp))
 unfold chB;rw[hat.1,hat.2,vv,v1.2];simp only[Bool.true_and];rw[List.all_eq_true]at hpp⊢;intro x hx;rw[parB_pmR];exact hpp x hx
theorem effX_W{l:List Ch}(h:l.all chB=true):l.all chR=true∧effX l=effW l:=by
 rw[List.all_eq_true]at h;refine⟨List.all_eq_true.2 fun c hc=>(chB_chR (h c hc)).1,?_⟩;have:l.map chX=l.map chW:=List.map_congr_left fun c hc=>(chB_chR (h c hc)).2;unfold effX effW;rw[this]
theorem effW_all{l:List Ch}(h:writeRB l=true):l.all chB=true:=by
 unfold writeRB at h;simp only[Bool.and_eq_true]at h;have hv:=VS_iff.1 h.2;rw[List.all_eq_true];intro c hc;refine chR_chB (List.all_eq_true.1 h.1 c hc) ?_;unfold effW at hv;cases l with
 |nil=>simp at hc
 |cons d l=>exact VS_kid hv (List.mem_cons_of_mem _ (List.mem_map_of_mem hc))
theorem write_same(l:List Ch):writeEB l=writeRB l:=by
 cases hr:writeRB l with
 |true=>
  have hb:=effW_all hr;have hx:=effX_W hb;unfold writeRB at hr;simp only[Bool.and_eq_true]at hr;unfold writeEB;rw[hb,hx.2,hr.2];try rfl
 |false=>
  cases he:writeEB l with
  |false=>rfl
  |true=>
   unfold writeEB at he;simp only[Bool.and_eq_true]at he;have hx:=effX_W he.1;unfold writeRB at hr;rw[hx.1, ← hx.2,he.2]at hr;exact hr
end Go.Proofs.YtblgchkahpgdjaaGreat
