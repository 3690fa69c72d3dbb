/- What the claim rests on, part 8: the abstract machine, contracts of the functions, plain data. -/
import Derived.Test.YtblgchkahpgdjaaGreatRows
import Derived.Test.YtblgchkahpgdjaaGreatZn7
set_option linter.unusedVariables false
set_option linter.unusedSimpArgs false
set_option linter.unusedSectionVars false
namespace Go.Proofs.YtblgchkahpgdjaaGreat
open Go.AM
set_option maxHeartbeats 8000000
set_option maxRecDepth 20000
theorem ParseEffect_c{x:Sx}(hok:x.ok)(h:Heap):PCall Tryz.prog 19 [.agg x.cells] h fun r h'=>
  r= .tup [.imm 15 (chRows (parseEf x).1),errP (parseEf x).2]∧h'=h:=by
 refine PCall.frz Ty.hb_19 ?_;have hV:=fun h:Heap=>svalid_c (x:=x) hok h;generalize hF:parseEf x=F;unfold parseEf at hF;cases v:(svalid x 0 0).1 with
 |false=>
  rw[v,if_neg (by simp)]at hF;subst hF;rw[v]at hV;obtain⟨kind,value,line,col,text,kids⟩:=x;simp only[Sx.cells]at hV⊢;refine uG0 Tryz.func19 Tryz.ntmps19 Tryz.results19 Ty.hb_19 ?_;repeat'(first|refine G fun K J=>?_|refine uR trivial ?_|(refine O J ?_;clear J)|apply zI)
  refine uU trivial (hV _) ?_;repeat'(first|refine G fun K J=>?_|refine uR @Bool.not_false ?_|refine uT @Bool.not_false ?_|(refine O J ?_;clear J)|apply zI)
  exact⟨efBad_frz (c:=2) rfl,Grow.refl _⟩
 |true=>
  rw[v,if_pos rfl]at hF;have hsm:=svalid_small v;have hnd:=((svalid_iff x 0 0 (by omega) (by omega)).1.1 v).2.2;have hS:Sco.okN ⟨[],[]⟩ x.nodes:=⟨by simp,by simp only[List.length_nil];omega,by simp,by simp only[List.length_nil];omega⟩;have hcs:=effP_ok _ x (Nat.le_refl _) ⟨[],[]⟩ hok hsm hS;have hln:=effP_len _ x (Nat.le_refl _) ⟨[],[]⟩;have hE:=fun h:Heap=>PCall.nz (effect_c hok hsm [] [] (by simp only[List.length_nil];omega) (by simp only[List.length_nil];omega) h) (xs:=[.agg [.sc (.slice none 0 0),.sc (.slice none 0 0)],.agg x.cells]) (nz_cons (nz_agg (nz_cons nz_nil (nz_cons nz_nil (NzL.refl _)))) (NzL.refl _));rw[v]at hV;generalize effP x ⟨[],[]⟩=E at*;obtain⟨l,c⟩:=E;simp only at hF hcs hln hE;have hW:=fun h:Heap=>WriteEffect_c (l:=l) (by omega) (fun c hc=>(hcs c hc).1) (fun c hc=>(hcs c hc).2) (effX_ok (by omega) hcs) h;try clear Z
  clear hcs hS hsm;obtain⟨kind,value,line,col,text,kids⟩:=x;simp only[Sx.cells]at hV hE⊢;cases z1:(c==0)with
  |false=>
   have z2:¬ c=0:=(by simpa using z1);rw[if_neg z2]at hF;subst hF;rw[errP_ne z1]at hE;simp only[errV]at hE;(try clear Z);clear hW;refine uG0 Tryz.func19 Tryz.ntmps19 Tryz.results19 Ty.hb_19 ?_;(repeat'(first|refine G fun K J=>?_|refine uR trivial ?_|(refine O J ?_;clear J)|apply zI));refine uU trivial (hV _) ?_;(repeat'(first|refine G fun K J=>?_|refine uR @Bool.not_true ?_|refine uK ?_|refine uC1 @Bool.not_true ?_|(refine O J ?_;clear J)|apply zI));refine uU trivial (hE _) ?_;(repeat'(first|refine G fun K J=>?_|refine uR @nsucc ?_|refine uT @nsucc ?_|(refine O J ?_;clear J)|apply zI));exact⟨efBad_frz z1,Grow.refl _⟩
  |true=>
   have z2:c=0:=(by simpa using z1);subst z2;rw[if_pos rfl]at hF;rw[errP_z z1]at hE;generalize effX l=X at hW;obtain⟨xk,xv,xl,xc,xt,xs⟩:=X;simp only[Sx.cells,zeroSx,errV]at hW;cases hw:writeEB l with
   |false=>
    rw[hw,if_neg (by simp)]at hF;subst hF;simp only[hw,Bool.false_eq_true,if_false]at hW;refine uG0 Tryz.func19 Tryz.ntmps19 Tryz.results19 Ty.hb_19 ?_;(repeat'(first|refine G fun K J=>?_|refine uR trivial ?_|(refine O J ?_;clear J)|apply zI));refine uU trivial (hV _) ?_;(repeat'(first|refine G fun K J=>?_|refine uR @Bool.not_true ?_|refine uK ?_|refine uC1 @Bool.not_true ?_|(refine O J ?_;clear J)|apply zI));refine uU trivial (hE _) ?_;(repeat'(first|refine G fun K J=>?_|refine uR trivial ?_|refine uK ?_|refine uC1 trivial ?_|(refine O J ?_;clear J)|apply zI));refine uU trivial (hW _) ?_;(repeat'(first|refine G fun K J=>?_|refine uR @nsucc ?_|refine uT @nsucc ?_|(refine O J ?_;clear J)|apply zI));exact⟨efBad_frz (c:=5) rfl,((Grow.refl h).new _).set (Nat.le_refl _) _⟩
   |true=>
    rw[hw,if_pos rfl]at hF;subst hF;simp only[hw,if_true]at hW;refine uG0 Tryz.func19 Tryz.ntmps19 Tryz.results19 Ty.hb_19 ?_;(repeat'(first|refine G fun K J=>?_|refine uR trivial ?_|(refine O J ?_;clear J)|apply zI));refine uU trivial (hV _) ?_;(repeat'(first|refine G fun K J=>?_|refine uR @Bool.not_true ?_|refine uK ?_|refine uC1 @Bool.not_true ?_|(refine O J ?_;clear J)|apply zI));refine uU trivial (hE _) ?_;(repeat'(first|refine G fun K J=>?_|refine uR trivial ?_|refine uK ?_|refine uC1 trivial ?_|(refine O J ?_;clear J)|apply zI));refine uU trivial (hW _) ?_;(repeat'(first|refine G fun K J=>?_|refine uR trivial ?_|refine uT trivial ?_|refine uK ?_|refine uC1 trivial ?_|(refine O J ?_;clear J)|apply zI));exact⟨eff_frz _ _ _ 0,((Grow.refl h).new _).set (Nat.le_refl _) _⟩
end Go.Proofs.YtblgchkahpgdjaaGreat
namespace Go.AM
theorem Grow.bump{h h':Heap}(g:Grow h h')(k:Nat):Grow h ⟨h'.next+k,h'.obj⟩:=⟨Nat.le_add_right_of_le g.1,g.2⟩
end Go.AM
namespace Go.Proofs.YtblgchkahpgdjaaGreat
open Go.AM
set_option maxHeartbeats 4000000
set_option maxRecDepth 20000
theorem a_genD{P:Program}{ow:Nat→Bool}{wf:FuncId→Bool}{n:Nat}{Q:Post}{s:Slots}{h:Heap}{c:Code}(I:Slots→Heap→Prop)(hi:I s h)(hh: ∀ s h,I s h→awp P ow wf n c Q s h):awp P ow wf n c Q s h:=hh _ _ hi
theorem dtexts_c{h:Heap}{l m:List ByteArray}(hl:l.length≤bigN)(hm:m.length≤bigN):PCall Tryz.prog 54 [.imm 1 (strRows l),.imm 1 (strRows m)] h fun r h'=>r= .sc (.bool (bsEq l m))∧h'=h:=by
 unfold bigN at hl hm;have hll:=strRows_len l;have hlm:=strRows_len m;refine uG0 Tryz.func54 Tryz.ntmps54 Tryz.results54 Ty.hb_54 ?_;cases hne:((l.length:Int) !=m.length)with
 |true=>
  have:bsEq l m=false:=bsEq_len (by simp at hne;omega);replace Z:=U hll (U hlm hne);repeat'(first|refine G fun K J=>?_|refine uR Z ?_|refine uT Z ?_|(refine O J ?_;clear J)|apply zI)
  rw[this]
 |false=>
  have hlen:l.length=m.length:=by simp at hne;omega
  replace Z:=U hll (U hlm hne);repeat'(first|refine G fun K J=>?_|refine a_block ?_|refine uR Z ?_|refine uK ?_|refine uC1 Z ?_|(refine O J ?_;clear J)|apply zI)
  refine a_loop (fun c S h'=>h'=h∧S 0= .imm 1 (strRows l)∧S 1= .imm 1 (strRows m)∧ ∃ k:Nat,S 5= .sc (.int .i64 k)∧k≤l.length∧c=l.length-k∧bsEq l m=bsEq (l.drop k) (m.drop k)) l.length ?_ ?_
  ·simp only[Ty.w,simprocAttr];exact⟨0,rfl,by omega,rfl,by simp⟩
  ·rintro c S h' ⟨rfl,g0,g1,k,gk,hkl,rfl,hinv⟩;by_cases hlt:k<l.length
   ·have hd:decide ((k:Int)<(l.length:Int))=true:=(by simp;omega);have w7:IntKind.i64.wrap ((k:Int)+1)=k+1:=(by rw[wrap64 (by omega) (by omega)]);obtain⟨a,hx⟩: ∃ a,l[k]? =some a:=⟨_,List.getElem?_eq_getElem hlt⟩;obtain⟨b,hy⟩: ∃ b,m[k]? =some b:=⟨_,List.getElem?_eq_getElem (by omega)⟩;rw[drop_of_get hx,drop_of_get hy]at hinv;simp only[bsEq]at hinv;have hr:=strRows_get hx;have hr2:=strRows_get hy;cases he:(a.data.toList==b.data.toList)with
    |false=>
     simp only[bEq,he,Bool.false_and]at hinv;replace Z:=U g0 (U g1 (U gk (U hll (U hlm (U hd (U hr (U hr2 (U he (U w7 @Bool.not_false)))))))));(repeat'(first|refine G fun K J=>?_|refine uR Z ?_|refine uD Z ?_|refine uT Z ?_|refine uK ?_|refine uC1 Z ?_|(refine O J ?_;clear J)|apply zI));rw[hinv]
    |true=>
     simp only[bEq,he,Bool.true_and]at hinv;replace Z:=U g0 (U g1 (U gk (U hll (U hlm (U hd (U hr (U hr2 (U he (U w7 @Bool.not_true)))))))));(repeat'(first|refine G fun K J=>?_|refine a_block ?_|refine uR Z ?_|refine uD Z ?_|refine uK ?_|refine uC1 Z ?_|(refine O J ?_;clear J)|apply zI));exact⟨l.length-(k+1),by omega,k+1,by simp,by omega,rfl,hinv⟩
   ·have hd:decide ((k:Int)<(l.length:Int))=false:=(by simp;omega);rw[List.drop_eq_nil_of_le (by omega),List.drop_eq_nil_of_le (by omega)]at hinv;simp only[bsEq]at hinv;replace Z:=U g0 (U g1 (U gk (U hll hd)));(repeat'(first|refine G fun K J=>?_|refine uR Z ?_|refine uT Z ?_|refine uX ?_|refine uC1 Z ?_|(refine O J ?_;clear J)|(clear J;refine O J ?_;clear J)|apply zI));rw[hinv]
theorem rsameChs_c{l m:List Ch}(hl:Chs.ok l)(hm:Chs.ok m)(h:Heap):PCall Tryz.prog 20 [.imm 15 (chRows l),.imm 15 (chRows m)] h fun r h'=>r= .sc (.bool (chsEq l m))∧h'=h:=by
 obtain⟨hl,hlo⟩:=hl;obtain⟨hm,hmo⟩:=hm;unfold bigN at hl;have hll:=chRows_len l;have hlm:=chRows_len m;refine PCall.quiet Ty.hb_20 ?_;refine uG0 Tryz.func20 Tryz.ntmps20 Tryz.results20 Ty.hb_20 ?_;cases hne:((l.length:Int) !=m.length)with
 |true=>
  have:chsEq l m=false:=chsEq_len (by simp at hne;omega);replace Z:=U hll (U hlm hne);repeat'(first|refine G fun K J=>?_|refine uR Z ?_|refine uT Z ?_|(refine O J ?_;clear J)|apply zI)
  rw[this];exact⟨rfl,Grow.refl _⟩
 |false=>
  have hlen:l.length=m.length:=by simp at hne;omega
  replace Z:=U hll (U hlm hne);repeat'(first|refine G fun K J=>?_|refine a_block ?_|refine uR Z ?_|refine uK ?_|refine uC1 Z ?_|(refine O J ?_;clear J)|apply zI)
  refine a_loop (fun c S h'=>Grow h h'∧S 0= .imm 15 (chRows l)∧S 1= .imm 15 (chRows m)∧ ∃ k:Nat,S 5= .sc (.int .i64 k)∧k≤l.length∧c=l.length-k∧chsEq l m=chsEq (l.drop k) (m.drop k)) l.length ?_ ?_
  ·simp only[Ty.w,simprocAttr];exact⟨Grow.refl _,0,rfl,by omega,rfl,by simp⟩
  ·rintro c S h' ⟨hg,g0,g1,k,g5,hkl,rfl,hinv⟩;by_cases hlt:k<l.length
   ·have hd:decide ((k:Int)<(l.length:Int))=true:=(by simp;omega);have w7:IntKind.i64.wrap ((k:Int)+1)=k+1:=(by rw[wrap64 (by omega) (by omega)]);obtain⟨a,hx⟩: ∃ a,l[k]? =some a:=⟨_,List.getElem?_eq_getElem hlt⟩;obtain⟨b,hy⟩: ∃ b,m[k]? =some b:=⟨_,List.getElem?_eq_getElem (by omega)⟩;have ha:=hlo a (List.mem_of_getElem? hx);have hb:=hmo b (List.mem_of_getElem? hy);rw[drop_of_get hx,drop_of_get hy]at hinv;simp only[chsEq,Ch.same]at hinv;have hr:=chRows_get hx;have hr2:=chRows_get hy;have c1:=fun h:Heap=>dtexts_c (h:=h) (l:=a.args) (m:=b.args) ha.args.1 hb.args.1;have c2:=fun h:Heap=>rparams_c (h:=h) (l:=a.params) (m:=b.params) ha.params.1 hb.params.1;have c3:=rsame_c a.cond ha.cond b.cond hb.cond;have c4:=rsameE_c a.value ha.value b.value hb.value;generalize bsEq a.args b.args=v1 at c1 hinv;generalize pmsEq a.params b.params=v2 at c2 hinv;generalize a.cond.same b.cond=v3 at c3 hinv;generalize a.value.same b.value=v4 at c4 hinv;(try clear Z);clear ha hb;obtain⟨kind2,params2,⟨fopc2,fnac2,farc2,fpac2,fexc2,fkic2⟩,name2,args2,⟨eopv2,enav2,env2,earv2,ekiv2⟩⟩:=a;obtain⟨kind3,params3,⟨fopc3,fnac3,farc3,fpac3,fexc3,fkic3⟩,name3,args3,⟨eopv3,enav3,env3,earv3,ekiv3⟩⟩:=b;simp only[chRow,Fm.cells,Ex.cells,List.cons_append,List.nil_append]at hr hr2 c1 c2 c3 c4;simp only[bEq]at hinv;replace Z:=U g0 (U g1 (U g5 (U hll hd)));(repeat'(first|refine G fun K J=>?_|refine uR Z ?_|refine uK ?_|refine uC1 Z ?_|(refine O J ?_;clear J)|apply zI));refine a_draw3S (by decide+kernel) ?_;refine d3_quiet _ (by decide) rfl rfl (fun H=>by(try simp(maxSteps:=2000000) only[Ty.w,simprocAttr,Ty.all,g0,g1,g5]);first|rfl|exact⟨rfl,rfl⟩) ?_;refine d3_quiet _ (by decide) rfl rfl (fun H=>by(try simp(maxSteps:=2000000) only[Ty.w,simprocAttr,Ty.all,g0,g1,g5]);first|rfl|exact⟨rfl,rfl⟩) ?_;refine d3_quiet _ (by decide) rfl rfl (fun H=>by(try simp(maxSteps:=2000000) only[Ty.w,simprocAttr,Ty.all,g0,g1,g5,hr]);first|rfl|exact⟨rfl,rfl⟩) ?_;refine d3_quiet _ (by decide) rfl rfl (fun H=>by(try simp(maxSteps:=2000000) only[Ty.w,simprocAttr,Ty.all,g0,g1,g5,hr]);first|rfl|exact⟨rfl,rfl⟩) ?_;refine d3_quiet _ (by decide) rfl rfl (fun H=>by(try simp(maxSteps:=2000000) only[Ty.w,simprocAttr,Ty.all,g0,g1,g5]);first|rfl|exact⟨rfl,rfl⟩) ?_;refine d3_quiet _ (by decide) rfl rfl (fun H=>by(try simp(maxSteps:=2000000) only[Ty.w,simprocAttr,Ty.all,g0,g1,g5]);first|rfl|exact⟨rfl,rfl⟩) ?_;refine d3_quiet _ (by decide) rfl rfl (fun H=>by(try simp(maxSteps:=2000000) only[Ty.w,simprocAttr,Ty.all,g0,g1,g5,hr2]);first|rfl|exact⟨rfl,rfl⟩) ?_;refine d3_quiet _ (by decide) rfl rfl (fun H=>by(try simp(maxSteps:=2000000) only[Ty.w,simprocAttr,Ty.all,g0,g1,g5,hr2]);first|rfl|exact⟨rfl,rfl⟩) ?_;refine d3_alloc rfl (by decide) rfl (by simp only[Ty.all];rfl) (by decide) (by intro x hx;repeat'(first|(exact absurd hx (List.not_mem_nil))|(rcases List.mem_cons.1 hx with rfl|hx)|exact .inl (by dsimp only;decide+kernel)|exact .inl (by decide+kernel)|exact .inr (by(try dsimp only);omega))) ?_;refine d3_alloc rfl (by decide) rfl (by simp only[Ty.all];rfl) (by decide) (by intro x hx;repeat'(first|(exact absurd hx (List.not_mem_nil))|(rcases List.mem_cons.1 hx with rfl|hx)|exact .inl (by dsimp only;decide+kernel)|exact .inl (by decide+kernel)|exact .inr (by(try dsimp only);omega))) ?_;refine d3_store rfl (by decide) rfl (by(try simp(maxSteps:=2000000) only[Ty.w,simprocAttr,Ty.all,nsucc,Nat.add_eq_left,Nat.one_ne_zero]);rfl) (by(try simp(maxSteps:=2000000) only[Ty.w,simprocAttr,Ty.all,nsucc,Nat.add_eq_left,Nat.one_ne_zero]);first|rfl|exact⟨rfl,rfl⟩) (fun f q hf _ _ hq=>absurd hf (by rw[Nat.add_left_cancel hq];decide)) (by intro x hx;repeat'(first|(exact absurd hx (List.not_mem_nil))|(rcases List.mem_cons.1 hx with rfl|hx)|exact .inl (by dsimp only;decide+kernel)|exact .inl (by decide+kernel)|exact .inr (by(try dsimp only);omega))) ?_
    refine d3_store rfl (by decide) rfl (by(try simp(maxSteps:=2000000) only[Ty.w,simprocAttr,Ty.all,nsucc,Nat.add_eq_left,Nat.one_ne_zero]);rfl) (by(try simp(maxSteps:=2000000) only[Ty.w,simprocAttr,Ty.all,nsucc,Nat.add_eq_left,Nat.one_ne_zero]);first|rfl|exact⟨rfl,rfl⟩) (fun f q hf _ _ hq=>absurd hf (by rw[Nat.add_left_cancel hq];decide)) (by intro x hx;repeat'(first|(exact absurd hx (List.not_mem_nil))|(rcases List.mem_cons.1 hx with rfl|hx)|exact .inl (by dsimp only;decide+kernel)|exact .inl (by decide+kernel)|exact .inr (by(try dsimp only);omega))) ?_;refine d3_end ?_;refine J _ _ ?_;(try clear Z);clear J K;refine a_genD (fun S2 h2=>Grow h h2∧S2 0= .imm 15 (chRows l)∧S2 1= .imm 15 (chRows m)∧S2 5= .sc (.int .i64 k)∧S2 6= .ptr (h'.next+8) 0 0∧S2 7= .ptr (h'.next+9) 0 0∧h2.obj (h'.next+8)=some (.arr 15 [[.sc (.int .i64 kind2),.imm 2 (pmRows params2),sPV fopc2,sPV fnac2,.imm 1 (strRows farc2),.imm 2 (pmRows fpac2),.imm 5 (Ex.rows fexc2),.imm 6 (Fm.rows fkic2),sPV name2,.imm 1 (strRows args2),sPV eopv2,sPV enav2,.sc (.int .i64 env2),.imm 1 (strRows earv2),.imm 5 (Ex.rows ekiv2)]])∧h2.obj (h'.next+9)=some (.arr 15 [[.sc (.int .i64 kind3),.imm 2 (pmRows params3),sPV fopc3,sPV fnac3,.imm 1 (strRows farc3),.imm 2 (pmRows fpac3),.imm 5 (Ex.rows fexc3),.imm 6 (Fm.rows fkic3),sPV name3,.imm 1 (strRows args3),sPV eopv3,sPV enav3,.sc (.int .i64 env3),.imm 1 (strRows earv3),.imm 5 (Ex.rows ekiv3)]])) ?_ ?_
    ·simp (maxSteps:=2000000) only[Ty.w,simprocAttr,g0,g1,g5,nsucc,Nat.add_eq_left,Nat.one_ne_zero];exact(((((hg.bump _).set (Nat.le_add_right_of_le hg.le) _).set (Nat.le_add_right_of_le hg.le) _).set (Nat.le_add_right_of_le hg.le) _).set (Nat.le_add_right_of_le hg.le) _)
    ·rintro S2 h2 ⟨hg2,k0,k1,k5,k6,k7,o6,o7⟩;(try clear Z);clear hg;refine a_cutK (fun S h'=>h'=h2∧S 0= .imm 15 (chRows l)∧S 1= .imm 15 (chRows m)∧S 5= .sc (.int .i64 k)∧S 70= .sc (.bool (!((kind2==kind3)&&(v2&&(v3&&((name2.data.toList==name3.data.toList)&&(v1&&v4)))))))) ?_ ?_
     ·(try clear Z);clear hinv;cases q0:(kind2==kind3)with
      |false=>
       (repeat'(refine a_regionS ?_;simp(maxSteps:=2000000) only[Ty.w,simprocAttr,k0,k1,k5,k6,k7,o6,o7,bne,Bool.not_true,Bool.not_false,q0]));all_goals(simp(maxSteps:=2000000) only[Ty.w,simprocAttr,k0,k1,k5,bne,Bool.true_and,Bool.false_and,Bool.and_false,Bool.and_true,Bool.not_true,Bool.not_false,q0];try exact⟨rfl,rfl⟩)
      |true=>
       cases q1:(name2.data.toList==name3.data.toList)with
       |false=>
        (repeat'(refine a_regionS ?_;simp(maxSteps:=2000000) only[Ty.w,simprocAttr,k0,k1,k5,k6,k7,o6,o7,bne,Bool.not_true,Bool.not_false,q0,q1]));all_goals(simp(maxSteps:=2000000) only[Ty.w,simprocAttr,k0,k1,k5,bne,Bool.true_and,Bool.false_and,Bool.and_false,Bool.and_true,Bool.not_true,Bool.not_false,q0,q1];try exact⟨rfl,rfl⟩)
       |true=>
        (repeat'(refine a_regionS ?_;simp(maxSteps:=2000000) only[Ty.w,simprocAttr,k0,k1,k5,k6,k7,o6,o7,bne,Bool.not_true,Bool.not_false,q0,q1]));cases v1 with
        |false=>
         refine owp_useQ (c1 _) (by(try simp only[Ty.w,simprocAttr,k0,k1,k5,k6,k7,o6,o7,bne,Bool.not_true,Bool.not_false,q0,q1]);try rfl) ?_;simp(maxSteps:=2000000) only[Ty.w,simprocAttr,k0,k1,k5,k6,k7,o6,o7,bne,Bool.not_true,Bool.not_false,q0,q1];skip
         all_goals(simp(maxSteps:=2000000) only[Ty.w,simprocAttr,k0,k1,k5,bne,Bool.true_and,Bool.false_and,Bool.and_false,Bool.and_true,Bool.not_true,Bool.not_false,q0,q1];try exact⟨rfl,rfl⟩)
        |true=>
         refine owp_useQ (c1 _) (by(try simp only[Ty.w,simprocAttr,k0,k1,k5,k6,k7,o6,o7,bne,Bool.not_true,Bool.not_false,q0,q1]);try rfl) ?_;simp(maxSteps:=2000000) only[Ty.w,simprocAttr,k0,k1,k5,k6,k7,o6,o7,bne,Bool.not_true,Bool.not_false,q0,q1];skip
         cases v2 with
         |false=>
          refine owp_useQ (c2 _) (by(try simp only[Ty.w,simprocAttr,k0,k1,k5,k6,k7,o6,o7,bne,Bool.not_true,Bool.not_false,q0,q1]);try rfl) ?_;simp(maxSteps:=2000000) only[Ty.w,simprocAttr,k0,k1,k5,k6,k7,o6,o7,bne,Bool.not_true,Bool.not_false,q0,q1];skip
          all_goals(simp(maxSteps:=2000000) only[Ty.w,simprocAttr,k0,k1,k5,bne,Bool.true_and,Bool.false_and,Bool.and_false,Bool.and_true,Bool.not_true,Bool.not_false,q0,q1];try exact⟨rfl,rfl⟩)
         |true=>
          refine owp_useQ (c2 _) (by(try simp only[Ty.w,simprocAttr,k0,k1,k5,k6,k7,o6,o7,bne,Bool.not_true,Bool.not_false,q0,q1]);try rfl) ?_;simp(maxSteps:=2000000) only[Ty.w,simprocAttr,k0,k1,k5,k6,k7,o6,o7,bne,Bool.not_true,Bool.not_false,q0,q1];skip
          cases v3 with
          |false=>
           refine owp_useQ (c3 _) (by(try simp only[Ty.w,simprocAttr,k0,k1,k5,k6,k7,o6,o7,bne,Bool.not_true,Bool.not_false,q0,q1]);try rfl) ?_;simp(maxSteps:=2000000) only[Ty.w,simprocAttr,k0,k1,k5,k6,k7,o6,o7,bne,Bool.not_true,Bool.not_false,q0,q1];skip
           all_goals(simp(maxSteps:=2000000) only[Ty.w,simprocAttr,k0,k1,k5,bne,Bool.true_and,Bool.false_and,Bool.and_false,Bool.and_true,Bool.not_true,Bool.not_false,q0,q1];try exact⟨rfl,rfl⟩)
          |true=>
           refine owp_useQ (c3 _) (by(try simp only[Ty.w,simprocAttr,k0,k1,k5,k6,k7,o6,o7,bne,Bool.not_true,Bool.not_false,q0,q1]);try rfl) ?_;simp(maxSteps:=2000000) only[Ty.w,simprocAttr,k0,k1,k5,k6,k7,o6,o7,bne,Bool.not_true,Bool.not_false,q0,q1];skip
           cases v4 with
           |false=>
            refine owp_useQ (c4 _) (by(try simp only[Ty.w,simprocAttr,k0,k1,k5,k6,k7,o6,o7,bne,Bool.not_true,Bool.not_false,q0,q1]);try rfl) ?_;simp(maxSteps:=2000000) only[Ty.w,simprocAttr,k0,k1,k5,k6,k7,o6,o7,bne,Bool.not_true,Bool.not_false,q0,q1];skip
            all_goals(simp(maxSteps:=2000000) only[Ty.w,simprocAttr,k0,k1,k5,bne,Bool.true_and,Bool.false_and,Bool.and_false,Bool.and_true,Bool.not_true,Bool.not_false,q0,q1];try exact⟨rfl,rfl⟩)
           |true=>
            refine owp_useQ (c4 _) (by(try simp only[Ty.w,simprocAttr,k0,k1,k5,k6,k7,o6,o7,bne,Bool.not_true,Bool.not_false,q0,q1]);try rfl) ?_;simp(maxSteps:=2000000) only[Ty.w,simprocAttr,k0,k1,k5,k6,k7,o6,o7,bne,Bool.not_true,Bool.not_false,q0,q1];skip
            all_goals(simp(maxSteps:=2000000) only[Ty.w,simprocAttr,k0,k1,k5,bne,Bool.true_and,Bool.false_and,Bool.and_false,Bool.and_true,Bool.not_true,Bool.not_false,q0,q1];try exact⟨rfl,rfl⟩)
     ·rintro S h' ⟨rfl,g0,g1,g5,g70⟩;generalize((kind2==kind3)&&(v2&&(v3&&((name2.data.toList==name3.data.toList)&&(v1&&v4)))))=e at g70 hinv;cases e with
      |false=>
       simp only[Bool.not_false]at g70;(repeat'(first|refine G fun K J=>?_|refine uR g70 ?_|refine uT g70 ?_|refine uC1 g70 ?_|(refine O J ?_;clear J)|apply zI));rw[hinv,Bool.false_and];exact⟨rfl,hg2⟩
      |true=>
       simp only[Bool.not_true]at g70;replace Z:=U g0 (U g1 (U g5 (U g70 w7)));(repeat'(first|refine uR Z ?_|refine uK ?_|refine uC1 Z ?_|(refine O J ?_;clear J)|apply zI));rw[Bool.true_and]at hinv;exact⟨l.length-(k+1),by omega,hg2,k+1,by simp,by omega,rfl,hinv⟩
   ·have hd:decide ((k:Int)<(l.length:Int))=false:=(by simp;omega);rw[List.drop_eq_nil_of_le (by omega),List.drop_eq_nil_of_le (by omega)]at hinv;simp only[chsEq]at hinv;replace Z:=U g0 (U g1 (U g5 (U hll hd)));(repeat'(first|refine G fun K J=>?_|refine uR Z ?_|refine uT Z ?_|refine uX ?_|refine uC1 Z ?_|(refine O J ?_;clear J)|(clear J;refine O J ?_;clear J)|apply zI));rw[hinv];exact⟨rfl,hg⟩
end Go.Proofs.YtblgchkahpgdjaaGreat
namespace Go.AM
def mnO:Option Nat→Option Nat→Option Nat
 |none,b=>b
 |some a,none=>some a
 |some a,some b=>if a≤b then some a else some b
def Tch(q:Option Nat)(h h':Heap):Prop:=match q with
 |none=>h'=h
 |some m=>h.next≤h'.next∧ ∀ id,id<m→h'.obj id=h.obj id
theorem Tch.trans{q q':Option Nat}{h h1 h':Heap}(a:Tch q h h1)(b:Tch q' h1 h'):Tch (mnO q q') h h':=by
 cases q with
 |none=>simp only[Tch]at a;subst a;simpa only[mnO]using b
 |some m=>
  cases q' with
  |none=>simp only[Tch]at b;subst b;simpa only[mnO]using a
  |some m'=>
   simp only[Tch]at a b;simp only[mnO];split<;>simp only[Tch]<;>refine⟨by omega,fun id hid=>?_⟩
   ·rw [b.2 id (by omega),a.2 id hid]
   ·rw [b.2 id hid,a.2 id (by omega)]
def ptrOf:PV→Nat
 | .ptr id _ _=>id
 |_=>0
def mapOf:PV→Nat
 | .mp id=>id
 |_=>0
def ownOf(n:Nat):PV→Nat
 | .own id _ _=>if id≤n then id else n
 |_=>n
def tchO(op:Op)(ρ:Operand→PV)(h:Heap):Nat:=match op with
 | .store _ a _=>ptrOf (ρ a)
 | .mapUpdate _ x _ _=>mapOf (ρ x)
 | .call {callee:= .builtin .append,args:=args,.. }=>(match args.toList with
  |x::_=>ownOf h.next (ρ x)
  |[]=>0)
 |_=>h.next
theorem tch_new{h:Heap}{o:AObj}:Tch (some h.next) h (h.new o):=by
 simp only[Tch,new_next];exact⟨by omega,fun id hid=>by rw[new_obj,if_neg (by omega)]⟩
theorem tch_set{h:Heap}{i:Nat}{o:AObj}:Tch (some i) h (h.set i o):=by
 simp only[Tch,set_next];exact⟨by omega,fun id hid=>by rw[set_obj,if_neg (by omega)]⟩
theorem tch_id{h:Heap}{m:Nat}:Tch (some m) h h:=⟨Nat.le_refl _,fun _ _=>rfl⟩
theorem app_tch{z bytes:Nat}{h h':Heap}{x y v:PV}(ha:app z bytes h x y=some (v,h')):Tch (some (ownOf h.next x)) h h':=by
 unfold app at ha;split at ha
 case isFalse=>simp at ha
 split at ha
 case h_2=>simp at ha
 rename_i nw h1 old hv ht;split at ha
 case isFalse=>simp at ha
 simp only[Option.some.injEq,Prod.mk.injEq]at ha;obtain⟨_,rfl⟩:=ha;unfold isTail at ht;split at ht
 ·simp only[Option.some.injEq,Prod.mk.injEq]at ht;obtain⟨rfl,rfl⟩:=ht;exact tch_new
 ·simp only[Option.some.injEq,Prod.mk.injEq]at ht;obtain⟨rfl,rfl⟩:=ht;exact tch_new
 ·split at ht
  case h_2=>simp at ht
  split at ht
  case isFalse=>simp at ht
  simp only[Option.some.injEq,Prod.mk.injEq]at ht;obtain⟨rfl,rfl⟩:=ht;simp only[Tch,new_next,kill_next,ownOf];refine⟨by omega,fun id hid=>?_⟩;rw[new_obj,kill_next];split at hid
  ·rw [if_neg (by omega),kill_obj,if_neg (by omega)]
  ·rw [if_neg (by omega),kill_obj,if_neg (by omega)]
 ·simp at ht
theorem wr_tch{h h':Heap}{vc:List PV}{p:PV}(hw:wr h vc p=some h'):Tch (some (ptrOf p)) h h':=by
 cases p with
 |ptr id i f=>
  simp only[wr]at hw;split at hw
  ·split at hw
   ·split at hw
    ·simp at hw;subst hw;exact tch_set
    ·simp at hw
   ·simp at hw
  ·simp at hw
 |_=>simp[wr]at hw
theorem eff_tch{P:Program}{ow:Bool}{op:Op}{ρ:Operand→PV}{h h':Heap}{v:PV}(he:eff P ow op ρ h=some (v,h')):Tch (some (tchO op ρ h)) h h':=by
  unfold eff at he;split at he;all_goals(repeat'(split at he))
  all_goals first
    |(simp[Option.bind_eq_some_iff,Option.map_eq_some_iff]at he;done)
    |(simp only[Option.some.injEq,Prod.mk.injEq]at he;obtain⟨_,rfl⟩:=he;exact tch_id)
    |(simp only[Option.some.injEq,Prod.mk.injEq]at he;obtain⟨_,rfl⟩:=he;exact tch_new)
    |(simp only[Option.map_eq_some_iff,Prod.mk.injEq]at he;obtain⟨_,_,_,rfl⟩:=he;exact tch_id)
    |(simp[Option.bind_eq_some_iff,Option.map_eq_some_iff]at he;grind [tch_id,tch_new,tch_set])
    | (simp only [Option.bind_eq_some_iff] at he
       obtain⟨_,_,he⟩:=he
       (first
         | (split at he
            · simp only[Option.some.injEq,Prod.mk.injEq]at he;obtain⟨_,rfl⟩:=he;exact tch_new
            · simp at he)
         | (obtain ⟨_, _, he⟩ := he
            split at he
            · simp only [Option.bind_eq_some_iff] at he;obtain⟨_,_,he⟩:=he;simp only[Option.some.injEq,Prod.mk.injEq]at he;obtain⟨_,rfl⟩:=he;exact tch_new
            · simp at he)
         | (obtain ⟨_, _, _, _, _, _, he⟩ := he
            split at he
            · simp only[Option.some.injEq,Prod.mk.injEq]at he;obtain⟨_,rfl⟩:=he;exact tch_new
            · simp at he)
         | (split at he
            · simp only [Option.map_eq_some_iff, Prod.mk.injEq] at he;obtain⟨_,hw,_,rfl⟩:=he;exact wr_tch hw
            · simp at he)))
    |skip
  · rename_i hid _ _ _ _;simp only[Option.bind_eq_some_iff]at he;obtain⟨_,_,he⟩:=he;split at he
    · simp only [Option.map_eq_some_iff, Prod.mk.injEq] at he;obtain⟨es',_,_,rfl⟩:=he;simp only[tchO];simp only[*,mapOf];exact tch_set
    · simp at he
  · rename_i hl htu;simp only[Option.bind_eq_some_iff]at he;obtain⟨_,_,he⟩:=he;have:=app_tch he;simp only[tchO];simp only[*]
mutual
def inNb(n:Nat):PV→Bool
 | .sc _=>true
 | .ptr id _ _=>decide (id<n)
 | .cptr cs=>inNLb n cs
 | .own id _ _=>decide (id<n)
 | .imm _ rows=>inNRb n rows
 | .emp=>true
 | .mp id=>decide (id<n)
 | .agg cs=>inNLb n cs
 | .tup cs=>inNLb n cs
 | .fn _ a b=>inNLb n a&&inNLb n b
 | .ab _ _ _ _ _=>true
def inNLb(n:Nat):List PV→Bool
 |[]=>true
 |p::ps=>inNb n p&&inNLb n ps
def inNRb(n:Nat):List (List PV)→Bool
 |[]=>true
 |r::rs=>inNLb n r&&inNRb n rs
end
mutual
theorem inNb_ok{n:Nat}:(p:PV)→inNb n p=true→inN n p
 | .sc _,_=>by simp only[inN]
 | .ptr _ _ _,h=>by simp only[inNb,decide_eq_true_eq]at h;simpa only[inN]using h
 | .cptr cs,h=>by simp only[inNb]at h;simp only[inN];exact inNLb_ok cs h
 | .own _ _ _,h=>by simp only[inNb,decide_eq_true_eq]at h;simpa only[inN]using h
 | .imm _ rows,h=>by simp only[inNb]at h;simp only[inN];exact inNRb_ok rows h
 | .emp,_=>by simp only[inN]
 | .mp _,h=>by simp only[inNb,decide_eq_true_eq]at h;simpa only[inN]using h
 | .agg cs,h=>by simp only[inNb]at h;simp only[inN];exact inNLb_ok cs h
 | .tup cs,h=>by simp only[inNb]at h;simp only[inN];exact inNLb_ok cs h
 | .fn _ a b,h=>by simp only[inNb,Bool.and_eq_true]at h;simp only[inN];exact⟨inNLb_ok a h.1,inNLb_ok b h.2⟩
 | .ab _ _ _ _ _,_=>by simp only[inN]
theorem inNLb_ok{n:Nat}:(l:List PV)→inNLb n l=true→inNL n l
 |[],_=>by simp only[inNL]
 |p::ps,h=>by simp only[inNLb,Bool.and_eq_true]at h;simp only[inNL];exact⟨inNb_ok p h.1,inNLb_ok ps h.2⟩
theorem inNRb_ok{n:Nat}:(l:List (List PV))→inNRb n l=true→inNR n l
 |[],_=>by simp only[inNR]
 |p::ps,h=>by simp only[inNRb,Bool.and_eq_true]at h;simp only[inNR];exact⟨inNLb_ok p h.1,inNRb_ok ps h.2⟩
end
mutual
def frzP(h':Heap)(n:Nat):Nat→PV→Option PV
 |0,_=>none
 |k+1,p=>match p with
  | .sc v=>some (.sc v)
  | .ptr id i f=>if id<n then some (.ptr id i f)else match h'.obj id with
   |some (.arr _ rows)=>(match rows[i]? with
    |some q=>(frzL h' n k (q.drop f)).map .cptr
    |none=>none)
   |_=>none
  | .own id off len=>if id<n then some (.own id off len)else match h'.obj id with
   |some (.arr z rows)=>if off+len≤rows.length then(frzR h' n k ((rows.drop off).take len)).map (.imm z)else none
   |_=>none
  | .imm z rows=>if inNRb n rows=true then some (.imm z rows)else none
  | .cptr cs=>if inNLb n cs=true then some (.cptr cs)else none
  | .emp=>some .emp
  | .mp id=>if id<n then some (.mp id)else none
  | .agg cs=>(frzL h' n k cs).map .agg
  | .tup cs=>(frzL h' n k cs).map .tup
  | .fn f a b=>if(inNLb n a&&inNLb n b)=true then some (.fn f a b)else none
  | .ab k lo hi m r=>some (.ab k lo hi m r)
def frzL(h':Heap)(n:Nat):Nat→List PV→Option (List PV)
 |0,_=>none
 |_+1,[]=>some []
 |k+1,p::ps=>match frzP h' n k p with
  |some q=>(frzL h' n k ps).map (q::·)
  |none=>none
def frzR(h':Heap)(n:Nat):Nat→List (List PV)→Option (List (List PV))
 |0,_=>none
 |_+1,[]=>some []
 |k+1,p::ps=>match frzL h' n k p with
  |some q=>(frzR h' n k ps).map (q::·)
  |none=>none
end
mutual
theorem frzP_ok{h':Heap}{n:Nat}: ∀ (k:Nat)(p:PV){r:PV},frzP h' n k p=some r→FrzTo n h' r p
 |0,_,_,h=>by simp[frzP]at h
 |k+1,p,r,h=>by
  unfold frzP at h;split at h
  ·simp at h;subst h;simp only[FrzTo]
  ·split at h
   ·rename_i hid;simp at h;subst h;simp only[FrzTo];exact⟨trivial,hid⟩
   ·rename_i id i f hid;split at h
    ·rename_i z rows hob;split at h
     ·rename_i q hq;simp only[Option.map_eq_some_iff]at h;obtain⟨cs,hc,rfl⟩:=h;simp only[FrzTo];exact .inr ⟨id,i,f,z,rows,q,rfl,by omega,hob,hq,frzL_ok k _ hc⟩
     ·simp at h
    ·simp at h
  ·split at h
   ·rename_i hid;simp at h;subst h;simp only[FrzTo];exact⟨trivial,hid⟩
   ·rename_i id off len hid;split at h
    ·rename_i z rows hob;split at h
     ·rename_i hle;simp only[Option.map_eq_some_iff]at h;obtain⟨rs,hc,rfl⟩:=h;simp only[FrzTo];exact .inr (.inr ⟨id,off,len,rows,rfl,by omega,hob,hle,frzR_ok k _ hc⟩)
     ·simp at h
    ·simp at h
  ·split at h
   ·rename_i hi;simp at h;subst h;simp only[FrzTo];exact .inl ⟨trivial,inNRb_ok _ hi⟩
   ·simp at h
  ·split at h
   ·rename_i hi;simp at h;subst h;simp only[FrzTo];exact .inl ⟨trivial,inNLb_ok _ hi⟩
   ·simp at h
  ·simp at h;subst h;simp only[FrzTo]
  ·split at h
   ·rename_i hid;simp at h;subst h;simp only[FrzTo];exact⟨trivial,hid⟩
   ·simp at h
  ·simp only[Option.map_eq_some_iff]at h;obtain⟨cs,hc,rfl⟩:=h;simp only[FrzTo];exact⟨_,rfl,frzL_ok k _ hc⟩
  ·simp only[Option.map_eq_some_iff]at h;obtain⟨cs,hc,rfl⟩:=h;simp only[FrzTo];exact⟨_,rfl,frzL_ok k _ hc⟩
  ·split at h
   ·rename_i hi;simp only[Bool.and_eq_true]at hi;simp at h;subst h;simp only[FrzTo];exact⟨trivial,inNLb_ok _ hi.1,inNLb_ok _ hi.2⟩
   ·simp at h
  ·simp at h;subst h;simp only[FrzTo]
theorem frzL_ok{h':Heap}{n:Nat}: ∀ (k:Nat)(l:List PV){r:List PV},frzL h' n k l=some r→FrzL n h' r l
 |0,_,_,h=>by simp[frzL]at h
 |k+1,[],r,h=>by simp[frzL]at h;subst h;simp only[FrzL]
 |k+1,p::ps,r,h=>by
  unfold frzL at h;split at h
  ·rename_i q hq;simp only[Option.map_eq_some_iff]at h;obtain⟨qs,hc,rfl⟩:=h;simp only[FrzL];exact⟨frzP_ok k p hq,frzL_ok k ps hc⟩
  ·simp at h
theorem frzR_ok{h':Heap}{n:Nat}: ∀ (k:Nat)(l:List (List PV)){r:List (List PV)},frzR h' n k l=some r→FrzR n h' r l
 |0,_,_,h=>by simp[frzR]at h
 |k+1,[],r,h=>by simp[frzR]at h;subst h;simp only[FrzR]
 |k+1,p::ps,r,h=>by
  unfold frzR at h;split at h
  ·rename_i q hq;simp only[Option.map_eq_some_iff]at h;obtain⟨qs,hc,rfl⟩:=h;simp only[FrzR];exact⟨frzL_ok k p hq,frzR_ok k ps hc⟩
  ·simp at h
end
def dropB(q:Option Nat)(n:Nat):Bool:=match q with
 |none=>true
 |some t=>decide (n≤t)
def endS:Option (Exit × Slots × Option Nat × Heap)→Option (Slots × Option Nat × Heap)
 |some (.normal,r)=>some r
 |some (.ret,r)=>some r
 |_=>none
theorem endS_some{x:Option (Exit × Slots × Option Nat × Heap)}{r:Slots × Option Nat × Heap}(h:endS x=some r): ∃ e,(e= .normal∨e= .ret)∧x=some (e,r):=by
 unfold endS at h;split at h
 ·simp at h;subst h;exact⟨_,.inl rfl,rfl⟩
 ·simp at h;subst h;exact⟨_,.inr rfl,rfl⟩
 ·simp at h
abbrev CallR2:=FuncId→List PV→Heap→Option (PV × Option Nat × Heap)
section
variable (P:Program)(wf:FuncId→Bool)(own:FuncId→Nat→Bool)(ext:FuncId→List PV→Heap→Option PV)
def xop2(call:CallR2)(ow:Nat→Bool)(o:Oper)(ρ:Operand→PV)(h:Heap):Option (PV × Option Nat × Heap):=
 match callee ρ o.op with
 |some (f,args)=>call f args h
 |none=>match eff P (o.dst.any ow) o.op ρ h with
  |some (v,h')=>some (v,(if isW ow wf o=true then some (tchO o.op ρ h)else none),h')
  |none=>none
def xagain2(call:CallR2)(ow:Nat→Bool)(o:Oper)(ρ:Operand→PV)(h:Heap)(v:PV):Bool:=
 match xop2 P wf call ow o ρ h with
 |some (v',q,_)=>q.isNone&&pvEq v' v
 |none=>false
def xl2(call:CallR2)(ow:Nat→Bool)(n:Nat)(ops:List Oper):List Oper→Slots→Option Nat→Heap→Option (Slots × Option Nat × Heap)
 |[],s,q,h=>some (s,q,h)
 | o :: rest, s, q, h => if o.dst.all (fun d => decide (d < n)) = true then
   match wantedB ops s o with
   |none=>none
   |some false=>xl2 call ow n ops rest (updO s o.dst (.sc undef)) q h
   |some true=>match xop2 P wf call ow o (pev s) h with
    |some (v,q',h')=>xl2 call ow n ops rest (updO s o.dst v) (mnO q q') h'
    |none=>none
  else none
def xopR(call:CallR2)(ow:Nat→Bool)(id:Nat)(o:Oper)(ρ:Operand→PV)(h:Heap):Option (PV × Option Nat × Heap):=
 match o.op with
 | .alloc t=>match zeroT P t with
  |some zs=>if 0<zs.length then some (.ptr id 0 0,some id,h.set id (.arr zs.length [zs.map .sc]))else none
  |none=>none
 |_=>xop2 P wf call ow o ρ h
def xd2(call:CallR2)(ow:Nat→Bool)(n:Nat)(ops:List Oper):Nat→List Oper→List (Nat × Oper × Slots × PV)→List (Nat × Heap)→Slots→Option Nat→Heap→Option (Slots × Option Nat × Heap)
 |_,[],_,_,s,q,h=>some (s,q,h)
 | k, o :: rest, past, hist, s, q, h => if o.dst.all (fun d => decide (d < n)) = true then
   match wantedB ops s o with
   |none=>none
   |some false=>xd2 call ow n ops (k+1) rest past hist (updO s o.dst (.sc undef)) q h
   |some true=>match xop2 P wf call ow o (pev s) h with
    |none=>none
    |some (v,q',h')=>
     if isW ow wf o=true then
      (if past.all (fun x=>pre ops x.1 k||xagain2 P wf call ow x.2.1 (pev x.2.2.1) h' x.2.2.2)=true then xd2 call ow n ops (k+1) rest past ((k,h)::hist) (updO s o.dst v) (mnO q q') h' else none)
     else if q'.isNone=true then
      (if hist.all (fun x=>pre ops x.1 k||xagain2 P wf call ow o (pev s) x.2 v)=true then xd2 call ow n ops (k+1) rest ((k,o,s,v)::past) hist (updO s o.dst v) q h else none)
     else none
  else none
def xd3(call:CallR2)(ow:Nat→Bool)(n:Nat)(ops:List Oper)(base:Nat):Nat→List Oper→List (Nat × Oper × Slots × PV)→List (Nat × Heap)→Slots→Option Nat→Heap→Option (Slots × Option Nat × Heap)
 |_,[],_,_,s,q,h=>some (s,q,h)
 | k, o :: rest, past, hist, s, q, h => if o.dst.all (fun d => decide (d < n)) = true then
   match wantedB ops s o with
   |none=>none
   |some false=>xd3 call ow n ops base (k+1) rest past hist (updO s o.dst (.sc undef)) q h
   |some true=>match xopR P wf call ow (base+k) o (pev s) h with
    |none=>none
    |some (v,q',h')=>
     if isW ow wf o=true then
      (if(past.all (fun x=>pre ops x.1 k||xagain2 P wf call ow x.2.1 (pev x.2.2.1) h' x.2.2.2)&&((List.range ops.length).all fun f=>!(decide (k<f)&&alB ops f)||(h'.obj (base+f)).isNone))=true then xd3 call ow n ops base (k+1) rest past ((k,h)::hist) (updO s o.dst v) (mnO q q') h' else none)
     else if q'.isNone=true then
      (if hist.all (fun x=>pre ops x.1 k||xagain2 P wf call ow o (pev s) x.2 v)=true then xd3 call ow n ops base (k+1) rest ((k,o,s,v)::past) hist (updO s o.dst v) q h else none)
     else none
  else none
structure Rc where
 s:Slots
 h:Heap
 v:PV
 l:Option (Nat × AObj)
 b:Bool
def unoB(ops:List Oper)(x f:Nat):Bool:=!(x==f)&&!(pre ops x f)&&!(pre ops f x)
def laterA(ow:Nat→Bool)(ops:List Oper)(k:Nat):List Nat:=(List.range ops.length).filter fun f=>decide (k<f)&&(ops[f]?).any (isA ow)
def killsAt(ow:Nat→Bool)(ops:List Oper)(base k:Nat)(ls:List (Nat × Nat)):List Nat:=(ls.filterMap fun p=>if unoB ops k p.1=true then some p.2 else none)++(laterA ow ops k).map (base+·)
def x4(call:CallR2)(ow:Nat→Bool)(ops:List Oper)(base k:Nat)(ls:List (Nat × Nat))(o:Oper)(s:Slots)(h:Heap):Option (PV × Option Nat × Heap × Option (Nat × AObj)× Bool):=
 if isW ow wf o=true then
  (if isA ow o = true then (match aop P ow (base + k) o (pev s) with
   |some (v,ob)=>some (v,some (base+k),h.set (base+k) ob,some (base+k,ob),false)
   |none=>none)
  else match o.op with
   | .store t x y=>(match pev s x with
    | .ptr id _ _=>(match eff P (o.dst.any ow) (.store t x y) (pev s) h with
     |some (v,h')=>(match h'.obj id with
      |some ob=>some (v,some id,h.set id ob,some (id,ob),false)
      |none=>none)
     |none=>none)
    |_=>none)
   |_=>(match xop2 P wf call ow o (pev s) (killL h (killsAt ow ops base k ls))with
    |some (v,q,h')=>if((killsAt ow ops base k ls).all (fun id=>(h'.obj id).isNone)&&(laterA ow ops k).all (fun f=>(h.obj (base+f)).isNone))=true then some (v,q,putL h' h (killsAt ow ops base k ls),none,true)else none
    |none=>none))
 else match xop2 P wf call ow o (pev s) (killL h (killsAt ow ops base k ls))with
  |some (v,q,_)=>if q.isNone=true then some (v,none,h,none,false)else none
  |none=>none
def addL(k:Nat)(l:Option (Nat × AObj))(ls:List (Nat × Nat)):List (Nat × Nat):=match l with
 |some p=>(k,p.1)::ls
 |none=>ls
def xr4(call:CallR2)(ow:Nat→Bool)(n:Nat)(ops:List Oper)(base:Nat):Nat→List Oper→List (Nat × Nat)→Slots→Option Nat→Heap→Option (List Rc × Slots × Option Nat × Heap)
 |_,[],_,s,q,h=>some ([],s,q,h)
 | k, o :: rest, ls, s, q, h => if o.dst.all (fun d => decide (d < n)) = true then
   match wantedB ops s o with
   |none=>none
   |some false=>(xr4 call ow n ops base (k+1) rest ls (updO s o.dst (.sc undef)) q h).map fun r=>(⟨s,h,.emp,none,false⟩::r.1,r.2)
   |some true=>match x4 P wf call ow ops base k ls o s h with
    |none=>none
    |some (v,q',h',l,b)=>(xr4 call ow n ops base (k+1) rest (addL k l ls) (updO s o.dst v) (mnO q q') h').map fun r=>(⟨s,h,v,l,b⟩::r.1,r.2)
  else none
def gS(rs:List Rc)(sf:Slots)(j:Nat):Slots:=match rs[j]? with|some r=>r.s|none=>sf
def gH(rs:List Rc)(hf:Heap)(j:Nat):Heap:=match rs[j]? with|some r=>r.h|none=>hf
def gV(rs:List Rc)(j:Nat):PV:=match rs[j]? with|some r=>r.v|none=> .emp
def gL(rs:List Rc)(j:Nat):Option (Nat × AObj):=match rs[j]? with|some r=>r.l|none=>none
def gB(rs:List Rc)(j:Nat):Bool:=match rs[j]? with|some r=>r.b|none=>false
def rng(n:Nat)(p:Nat→Bool):Bool:=(List.range n).all p
def wwB(ow:Nat→Bool)(ops:List Oper)(lt:Nat→Option (Nat × AObj))(br:Nat→Bool):Bool:=
 rng ops.length fun j=>!(br j||(lt j).isSome)||rng j fun i=>!(br i||(lt i).isSome)||pre ops i j||(match lt i,lt j with|some p,some q=>!(p.1==q.1)|_,_=>false)||(br i&&(lt j).isSome&&(ops[j]?).any (isA ow))||((lt i).isSome&&br j&&(ops[i]?).any (isA ow))
def lateB(ow:Nat→Bool)(ops:List Oper)(base:Nat)(hk:Nat→Heap)(lt:Nat→Option (Nat × AObj))(br:Nat→Bool):Bool:=
 rng ops.length fun j=>(!(br j||(lt j).isSome))||rng ops.length fun f=>!(decide (j<f)&&(ops[f]?).any (isA ow))||(if br j=true then((hk (j+1)).obj (base+f)).isNone else match lt j with|some p=>!(base+f==p.1)|none=>true)
def isSt(o:Oper):Bool:=match o.op with
 | .store _ _ _=>true
 |_=>false
def lastBr(br:Nat→Bool)(k:Nat):Nat:=lastOf br k
def cutB(ops:List Oper)(br:Nat→Bool)(x M:Nat):Bool:=(M==0||br (M-1))&&rng ops.length fun b=>!(br b)||(if b<M then !(pre ops x b)else !(pre ops b x))
def noSt(ops:List Oper)(k:Nat):Bool:=rng ops.length fun f=>!(decide (k<f)&&(ops[f]?).any isSt&&unoB ops k f)
def quietB(call:CallR2)(ow:Nat→Bool)(ops:List Oper)(sk:Nat→Slots)(hk:Nat→Heap)(vk:Nat→PV)(lt:Nat→Option (Nat × AObj))(br:Nat→Bool):Bool:=
 rng ops.length fun k=>match ops[k]? with
  |none=>true
  |some o=>isW ow wf o||(match wantedB ops (sk k) o with
   |some true=>rng (ops.length+1) fun M=>!(cutB ops br k M)||((M==lastBr br k)&&noSt ops k)||xagain2 P wf call ow o (pev (sk k)) (gx ops lt hk k M (kx ow ops lt k)) (vk k)
   |_=>true)
def xd4(call:CallR2)(ow:Nat→Bool)(n:Nat)(ops:List Oper)(base:Nat)(s:Slots)(q:Option Nat)(h:Heap):Option (Slots × Option Nat × Heap):=
 match xr4 P wf call ow n ops base 0 ops [] s q h with
 |none=>none
 |some (rs,sf,qf,hf)=>if(wwB ow ops (gL rs) (gB rs)&&lateB ow ops base (gH rs hf) (gL rs) (gB rs)&&quietB P wf call ow ops (gS rs sf) (gH rs hf) (gV rs) (gL rs) (gB rs))=true then some (sf,qf,hf)else none
def xc2(call:CallR2)(ow:Nat→Bool)(n:Nat):Nat→Code→Slots→Option Nat→Heap→Option (Exit × Slots × Option Nat × Heap)
 |0,_,_,_,_=>none
 |k+1,c,s,q,h=>match c with
  | .skip=>some (.normal,s,q,h)
  | .region _ ops true => if dOk ow wf ops.toList = true then (xd2 P wf call ow n ops.toList 0 ops.toList [] [] s q h).map (Exit.normal, ·)
    else if dOk2 ow wf ops.toList=true then(xd3 P wf call ow n ops.toList h.next 0 ops.toList [] [] s (mnO q (some h.next)) ⟨h.next+ops.toList.length,h.obj⟩).map (Exit.normal,·)
    else if dOk3 ops.toList=true then(xd4 P wf call ow n ops.toList h.next s (mnO q (some h.next)) ⟨h.next+ops.toList.length,h.obj⟩).map (Exit.normal,·)else none
  | .region _ ops false=>(xl2 P wf call ow n ops.toList ops.toList s q h).map (Exit.normal,·)
  | .seq a b=>match xc2 call ow n k a s q h with
   |some (.normal,s',q',h')=>xc2 call ow n k b s' q' h'
   |r=>r
  | .cond c x y=>match pev s c with
   | .sc (.bool true)=>xc2 call ow n k x s q h
   | .sc (.bool false)=>xc2 call ow n k y s q h
   |_=>none
  | .block id c=>match xc2 call ow n k c s q h with
   |some (.exit id',s',q',h')=>some (if id'=id then .normal else .exit id',s',q',h')
   |r=>r
  | .loop c=>match xc2 call ow n k c s q h with
   |some (.normal,s',q',h')=>xc2 call ow n k (.loop c) s' q' h'
   |r=>r
  | .exit id=>some (.exit id,s,q,h)
  | .ret=>some (.ret,s,q,h)
  |_=>none
def xf2(keep:FuncId→Bool)(m:Nat):Nat→CallR2
  |0,_,_,_=>none
  |k+1,f,args,h=>match ext f args h with
   |some r=>some (r,none,h)
   |none=>match P.funcs[f]? with
    |none=>none
    |some fn=>if hasBody P f=true∧args.length≤fn.ntmps then match fn.body with
        |none=>none
        |some c=>match endS (xc2 P wf (xf2 keep m k) (own f) fn.ntmps m c (slots0 args) none h)with
          |some (s,q,h')=>match resAll P s h' fn.results.toList with
            |none=>none
            |some vs=>if(!(keep f)&&dropB q h.next)=true then(match frzP h' h.next 1000 (resV vs)with
                |some r=>some (r,none,h)
                |none=>some (resV vs,q,h'))else some (resV vs,q,h')
          |none=>none
      else none
end
section
variable {P:Program}{wf:FuncId→Bool}{own:FuncId→Nat→Bool}
def ExtOk2(P:Program)(ext:FuncId→List PV→Heap→Option PV):Prop:= ∀ f args r h,ext f args h=some r→PCall P f args h (fun r' h'=>r'=r∧h'=h)
def CallOk2(P:Program)(call:CallR2):Prop:= ∀ f args h v q h',call f args h=some (v,q,h')→PCall P f args h (fun r h''=>r=v∧h''=h')∧Tch q h h'
theorem xop_ok2{call:CallR2}(hk:CallOk2 P call){ow:Nat→Bool}{o:Oper}{ρ:Operand→PV}{h h':Heap}{v:PV}{q:Option Nat}(hx:xop2 P wf call ow o ρ h=some (v,q,h')):Does P ow o ρ h v h'∧Tch q h h':=by
 unfold xop2 at hx;unfold Does;split at hx
 ·rename_i f args hc;rw[hc];exact hk _ _ _ _ _ _ hx
 ·rename_i hc;rw[hc];split at hx
  ·rename_i v1 h1 he;simp only[Option.some.injEq,Prod.mk.injEq]at hx;obtain⟨rfl,rfl,rfl⟩:=hx;refine⟨he,?_⟩;split
   ·exact eff_tch he
   ·rename_i hw;exact eff_same (by simpa using hw) hc he
  ·simp at hx
theorem xagain_ok2{call:CallR2}(hk:CallOk2 P call){ow:Nat→Bool}{o:Oper}{ρ:Operand→PV}{h:Heap}{v:PV}(hx:xagain2 P wf call ow o ρ h v=true):Does P ow o ρ h v h:=by
 unfold xagain2 at hx;split at hx
 ·rename_i v' q h' hp;simp only[Bool.and_eq_true,Option.isNone_iff_eq_none]at hx;obtain⟨rfl,hx⟩:=hx;obtain⟨h1,h2⟩:=xop_ok2 hk hp;simp only[Tch]at h2;rw[h2,pvEq_eq _ _ hx]at h1;exact h1
 ·simp at hx
theorem xl_ok2{call:CallR2}(hk:CallOk2 P call){ow:Nat→Bool}{n:Nat}{ops:List Oper}{K:Slots→Heap→Prop}: ∀ (l:List Oper){s s':Slots}{q q':Option Nat}{h h':Heap},xl2 P wf call ow n ops l s q h=some (s',q',h')→
  (K s' h'→lwp P ow n ops l K s h)∧(∀ h0,Tch q h0 h→Tch q' h0 h')
 |[],s,s',q,q',h,h',hx=>by
  simp only[xl2,Option.some.injEq,Prod.mk.injEq]at hx;obtain⟨rfl,rfl,rfl⟩:=hx;exact⟨fun J=>J,fun h0 hq=>hq⟩
 |o::rest,s,s',q,q',h,h',hx=>by
  unfold xl2 at hx;split at hx
  ·rename_i hd;unfold lwp;split at hx
   ·simp at hx
   ·rename_i hw;obtain⟨h1,h2⟩:=xl_ok2 (K:=K) hk rest hx;rw[hw];exact⟨fun J=>⟨hd,by simpa using h1 J⟩,h2⟩
   ·rename_i hw;split at hx
    ·rename_i v q1 h1 hp;obtain⟨d1,d2⟩:=xop_ok2 hk hp;obtain⟨g1,g2⟩:=xl_ok2 (K:=K) hk rest hx;rw[hw];exact⟨fun J=>⟨hd,by simpa using d1.owp (g1 J)⟩,fun h0 hq=>g2 h0 (hq.trans d2)⟩
    ·simp at hx
  ·simp at hx
theorem xd_ok2{call:CallR2}(hk:CallOk2 P call){ow:Nat→Bool}{n:Nat}{ops:List Oper}{K:Slots→Heap→Prop}: ∀ (l:List Oper)(k:Nat){past:List (Nat × Oper × Slots × PV)}{hist:List (Nat × Heap)}{s s':Slots}{q q':Option Nat}{h h':Heap},xd2 P wf call ow n ops k l past hist s q h=some (s',q',h')→
  (K s' h'→drun P ow wf n ops k l (past.map fun x=>(x.1,fun h2=>Does P ow x.2.1 (pev x.2.2.1) h2 x.2.2.2 h2)) hist K s h)∧(∀ h0,Tch q h0 h→Tch q' h0 h')
 |[],k,past,hist,s,s',q,q',h,h',hx=>by
  simp only[xd2,Option.some.injEq,Prod.mk.injEq]at hx;obtain⟨rfl,rfl,rfl⟩:=hx;exact⟨fun J=>J,fun h0 hq=>hq⟩
 |o::rest,k,past,hist,s,s',q,q',h,h',hx=>by
  unfold xd2 at hx;split at hx
  ·rename_i hd;unfold drun;split at hx
   ·simp at hx
   ·rename_i hw;obtain⟨h1,h2⟩:=xd_ok2 (K:=K) hk rest (k+1) hx;rw[hw];exact⟨fun J=>⟨hd,by simpa using h1 J⟩,h2⟩
   ·rename_i hw;split at hx
    ·simp at hx
    ·rename_i v q1 h1 hp;obtain⟨d1,d2⟩:=xop_ok2 hk hp;rw[hw];split at hx
     ·rename_i hiw;split at hx
      ·rename_i hpast;obtain⟨g1,g2⟩:=xd_ok2 (K:=K) hk rest (k+1) hx;refine⟨fun J=>⟨hd,?_⟩,fun h0 hq=>g2 h0 (hq.trans d2)⟩
       ·simp only[hiw,if_true];refine⟨v,h1,d1,?_,g1 J⟩;intro x hx1;obtain⟨y,hy,rfl⟩:=List.mem_map.1 hx1;have:=List.all_eq_true.1 hpast y hy;simp only[Bool.or_eq_true]at this;exact this.imp id (fun t=>xagain_ok2 hk t)
      ·simp at hx
     ·rename_i hiw;split at hx
      ·rename_i hq1;split at hx
       ·rename_i hhist;obtain⟨g1,g2⟩:=xd_ok2 (K:=K) hk rest (k+1) hx;refine⟨fun J=>⟨hd,?_⟩,g2⟩;simp only[hiw,if_true,Bool.false_eq_true,if_false];have e1:h1=h:=(by rw[Option.isNone_iff_eq_none]at hq1;subst hq1;exact d2);subst e1;refine⟨v,d1,?_,g1 J⟩;intro x hx1;have:=List.all_eq_true.1 hhist x hx1;simp only[Bool.or_eq_true]at this;exact this.imp id (fun t=>xagain_ok2 hk t)
       ·simp at hx
      ·simp at hx
  ·simp at hx
theorem xopR_ok{call:CallR2}(hk:CallOk2 P call){ow:Nat→Bool}{id:Nat}{o:Oper}{ρ:Operand→PV}{h h':Heap}{v:PV}{q:Option Nat}(hx:xopR P wf call ow id o ρ h=some (v,q,h')):DoesR P ow id o ρ h v h'∧Tch q h h':=by
 unfold xopR at hx;unfold DoesR;split at hx
 ·rename_i t hop;simp only[hop];split at hx
  ·rename_i zs hz;split at hx
   ·rename_i hpos;simp only[Option.some.injEq,Prod.mk.injEq]at hx;obtain⟨rfl,rfl,rfl⟩:=hx;exact⟨⟨zs,hz,hpos,rfl,rfl⟩,tch_set⟩
   ·simp at hx
  ·simp at hx
 ·rename_i hop;obtain⟨d1,d2⟩:=xop_ok2 hk hx;refine⟨?_,d2⟩;split
  ·rename_i t he;exact(hop t he).elim
  ·exact d1
theorem xd_ok3{call:CallR2}(hk:CallOk2 P call){ow:Nat→Bool}{n base:Nat}{ops:List Oper}{K:Slots→Heap→Prop}: ∀ (l:List Oper)(k:Nat){past:List (Nat × Oper × Slots × PV)}{hist:List (Nat × Heap)}{s s':Slots}{q q':Option Nat}{h h':Heap},xd3 P wf call ow n ops base k l past hist s q h=some (s',q',h')→
  (K s' h'→drun2 P ow wf n ops base k l (past.map fun x=>(x.1,fun h2=>Does P ow x.2.1 (pev x.2.2.1) h2 x.2.2.2 h2)) hist K s h)∧(∀ h0,Tch q h0 h→Tch q' h0 h')
 |[],k,past,hist,s,s',q,q',h,h',hx=>by
  simp only[xd3,Option.some.injEq,Prod.mk.injEq]at hx;obtain⟨rfl,rfl,rfl⟩:=hx;exact⟨fun J=>J,fun h0 hq=>hq⟩
 |o::rest,k,past,hist,s,s',q,q',h,h',hx=>by
  unfold xd3 at hx;split at hx
  ·rename_i hd;unfold drun2;split at hx
   ·simp at hx
   ·rename_i hw;obtain⟨h1,h2⟩:=xd_ok3 (K:=K) hk rest (k+1) hx;rw[hw];exact⟨fun J=>⟨hd,by simpa using h1 J⟩,h2⟩
   ·rename_i hw;split at hx
    ·simp at hx
    ·rename_i v q1 h1 hp;obtain⟨d1,d2⟩:=xopR_ok hk hp;rw[hw];split at hx
     ·rename_i hiw;split at hx
      ·rename_i hpn;simp only[Bool.and_eq_true]at hpn;obtain⟨hpast,hnone⟩:=hpn;obtain⟨g1,g2⟩:=xd_ok3 (K:=K) hk rest (k+1) hx;refine⟨fun J=>⟨hd,?_⟩,fun h0 hq=>g2 h0 (hq.trans d2)⟩
       ·simp only[hiw,if_true];refine⟨v,h1,d1,fun f hf ha=>?_,?_,g1 J⟩
        ·have hfl:f<ops.length:=by
          unfold alB at ha;split at ha
          ·rename_i hq;exact(List.getElem?_eq_some_iff.1 hq).1
          ·simp at ha
         have:=List.all_eq_true.1 hnone f (List.mem_range.2 hfl);simpa[hf,ha]using this
        intro x hx1;obtain⟨y,hy,rfl⟩:=List.mem_map.1 hx1;have:=List.all_eq_true.1 hpast y hy;simp only[Bool.or_eq_true]at this;exact this.imp id (fun t=>xagain_ok2 hk t)
      ·simp at hx
     ·rename_i hiw;split at hx
      ·rename_i hq1;split at hx
       ·rename_i hhist;obtain⟨g1,g2⟩:=xd_ok3 (K:=K) hk rest (k+1) hx;refine⟨fun J=>⟨hd,?_⟩,g2⟩;simp only[hiw,if_true,Bool.false_eq_true,if_false];have e1:h1=h:=(by rw[Option.isNone_iff_eq_none]at hq1;subst hq1;exact d2);subst e1;refine⟨v,(doesR_of (by simpa using hiw)).1 d1,?_,g1 J⟩;intro x hx1;have:=List.all_eq_true.1 hhist x hx1;simp only[Bool.or_eq_true]at this;exact this.imp id (fun t=>xagain_ok2 hk t)
       ·simp at hx
      ·simp at hx
  ·simp at hx
theorem rng_iff{n:Nat}{p:Nat→Bool}:rng n p=true↔ ∀ i,i<n→p i=true:=by simp[rng]
structure S4(P:Program)(ow:Nat→Bool)(wf:FuncId→Bool)(n:Nat)(ops:List Oper)(base:Nat)(k:Nat)(o:Oper)(s s':Slots)(h h':Heap)(v:PV)(l:Option (Nat × AObj))(b:Bool)(ls:List (Nat × Nat)):Prop where
 dst:o.dst.all (fun d=>decide (d<n))=true
 ok: ∃ w,wantedB ops s o=some w∧(w=false→s'=updO s o.dst (.sc undef)∧h'=h∧l=none∧b=false)∧
  (w = true → s' = updO s o.dst v ∧
   (isW ow wf o=false→h'=h∧l=none∧b=false∧Does P ow o (pev s) (killL h (killsAt ow ops base k ls)) v (killL h (killsAt ow ops base k ls)))∧
   (isW ow wf o = true →
    (b=true∧l=none∧ ∃ H',Does P ow o (pev s) (killL h (killsAt ow ops base k ls)) v H'∧(∀ id∈killsAt ow ops base k ls,H'.obj id=none)∧h'=putL H' h (killsAt ow ops base k ls)∧ ∀ f∈laterA ow ops k,h.obj (base+f)=none)∨
    (b=false∧isA ow o=true∧ ∃ ob,l=some (base+k,ob)∧aop P ow (base+k) o (pev s)=some (v,ob)∧h'=h.set (base+k) ob)∨
    (b=false∧ ∃ t x y id r f ob,o.op= .store t x y∧pev s x= .ptr id r f∧l=some (id,ob)∧h'=h.set id ob∧eff P (o.dst.any ow) o.op (pev s) h=some (v,h'))))
theorem store_set{t:TypeId}{x y:Operand}{b:Bool}{ρ:Operand→PV}{H H':Heap}{id r f:Nat}{ob:AObj}{v:PV}(hx:ρ x= .ptr id r f)(he:eff P b (.store t x y) ρ H=some (v,H'))(ho:H'.obj id=some ob):H'=H.set id ob:=by
 simp only[eff,Option.bind_eq_some_iff]at he;obtain⟨m,_,he⟩:=he;split at he
 ·simp only[Option.map_eq_some_iff,Prod.mk.injEq,hx,wr]at he;obtain⟨h2,hw,_,rfl⟩:=he;split at hw
  ·split at hw
   ·split at hw
    ·simp at hw;subst hw;simp[Heap.set]at ho;rw[ho]
    ·simp at hw
   ·simp at hw
  ·simp at hw
 ·simp at he
theorem tch_put{q:Option Nat}{h H':Heap}{l:List Nat}(hn: ∀ id∈l,H'.obj id=none)(ht:Tch q (killL h l) H'):Tch q h (putL H' h l):=by
 cases q with
 |none=>
  simp only[Tch]at ht⊢;subst ht;exact putL_killL
 |some m=>
  simp only[Tch]at ht⊢;refine⟨ht.1,fun id hid=>?_⟩;have h2:=ht.2 id hid;simp only[killL]at h2;simp only[putL];by_cases hc:id∈l
  ·have hc':l.contains id=true:=(by simpa using hc);cases ho:h.obj id with
   |none=>simp[hn id hc]
   |some o=>simp[hc]
  ·have hc':l.contains id=false:=(by simpa using hc);rw[if_neg (by simp[hc])];rw[hc']at h2;simpa using h2
theorem x4_ok{call:CallR2}(hk:CallOk2 P call){ow:Nat→Bool}{n:Nat}{ops:List Oper}{base k:Nat}{ls:List (Nat × Nat)}{o:Oper}{s:Slots}{h h':Heap}{v:PV}{q:Option Nat}{l:Option (Nat × AObj)}{b:Bool}(hd:o.dst.all (fun d=>decide (d<n))=true)(hw:wantedB ops s o=some true)(hx:x4 P wf call ow ops base k ls o s h=some (v,q,h',l,b)):
  S4 P ow wf n ops base k o s (updO s o.dst v) h h' v l b ls∧Tch q h h':=by
 unfold x4 at hx;split at hx
 ·rename_i hiw;split at hx
  ·rename_i hA;split at hx
   ·rename_i v1 ob ha;simp only[Option.some.injEq,Prod.mk.injEq]at hx;obtain⟨rfl,rfl,rfl,rfl,rfl⟩:=hx;exact⟨⟨hd,true,hw,(fun hc=>by cases hc),fun _=>⟨rfl,(fun hc=>by rw[hiw]at hc;cases hc),fun _=> .inr (.inl ⟨rfl,hA,ob,rfl,ha,rfl⟩)⟩⟩,tch_set⟩
   ·simp at hx
  ·split at hx
   ·rename_i t x y hop;split at hx
    ·rename_i id r f hp;split at hx
     ·rename_i v1 h1 he;split at hx
      ·rename_i ob hob;simp only[Option.some.injEq,Prod.mk.injEq]at hx;obtain⟨rfl,rfl,rfl,rfl,rfl⟩:=hx;have hs:=store_set hp he hob;refine⟨⟨hd,true,hw,(fun hc=>by cases hc),fun _=>⟨rfl,(fun hc=>by rw[hiw]at hc;cases hc),fun _=> .inr (.inr ⟨rfl,t,x,y,id,r,f,ob,hop,hp,rfl,rfl,?_⟩)⟩⟩,tch_set⟩;rw[hop,he,hs]
      ·simp at hx
     ·simp at hx
    ·simp at hx
   ·split at hx
    ·rename_i v1 q1 h1 hp;split at hx
     ·rename_i hno;simp only[Bool.and_eq_true,List.all_eq_true,Option.isNone_iff_eq_none]at hno;simp only[Option.some.injEq,Prod.mk.injEq]at hx;obtain⟨rfl,rfl,rfl,rfl,rfl⟩:=hx;obtain⟨d1,d2⟩:=xop_ok2 hk hp;exact⟨⟨hd,true,hw,(fun hc=>by cases hc),fun _=>⟨rfl,(fun hc=>by rw[hiw]at hc;cases hc),fun _=> .inl ⟨rfl,rfl,h1,d1,hno.1,rfl,hno.2⟩⟩⟩,tch_put hno.1 d2⟩
     ·simp at hx
    ·simp at hx
 ·rename_i hiw;split at hx
  ·rename_i v1 q1 h1 hp;split at hx
   ·rename_i hq;simp only[Option.some.injEq,Prod.mk.injEq]at hx;obtain⟨rfl,rfl,rfl,rfl,rfl⟩:=hx;obtain⟨d1,d2⟩:=xop_ok2 hk hp;rw[Option.isNone_iff_eq_none]at hq;subst hq;simp only[Tch]at d2;subst d2;exact⟨⟨hd,true,hw,(fun hc=>by cases hc),fun _=>⟨rfl,fun _=>⟨rfl,rfl,rfl,d1⟩,fun hc=>by rw[hc]at hiw;simp at hiw⟩⟩,rfl⟩
   ·simp at hx
  ·simp at hx
def lsAt(rs:List Rc):Nat→List (Nat × Nat)→Nat→List (Nat × Nat)
 |_,ls,0=>ls
 |k,ls,i+1=>match rs with
  |r::rs=>lsAt rs (k+1) (addL k r.l ls) i
  |[]=>ls
theorem lsAt_mem: ∀ (rs:List Rc)(k:Nat)(ls:List (Nat × Nat))(i f:Nat)(q:Nat × AObj),i≤rs.length→f<i→gL rs f=some q→(k+f,q.1)∈lsAt rs k ls i:=by
 have keep: ∀ (rs:List Rc)(k:Nat)(ls:List (Nat × Nat))(i:Nat)(x:Nat × Nat),x∈ls→x∈lsAt rs k ls i:=by
  intro rs
  induction rs with
  |nil=>intro k ls i x hx;cases i<;>simpa only[lsAt]using hx
  |cons r rs ih=>
   intro k ls i x hx;cases i with
   |zero=>simpa only[lsAt]using hx
   |succ i=>
    simp only[lsAt];refine ih _ _ _ _ ?_;unfold addL;split
    ·simp [hx]
    ·exact hx
 intro rs
 induction rs with
 |nil=>intro k ls i f q h1 h2 _;simp at h1;omega
 |cons r rs ih=>
  intro k ls i f q h1 h2 h3;cases i with
  |zero=>omega
  |succ i=>
   simp only[lsAt];cases f with
   |zero=>
    refine keep _ _ _ _ _ ?_;simp only[gL,List.getElem?_cons_zero]at h3;unfold addL;rw[h3];simp
   |succ f=>
    have:=ih (k+1) (addL k r.l ls) i f q (by simp at h1;omega) (by omega) (by simpa only[gL,List.getElem?_cons_succ]using h3);rw[show k+(f+1)=k+1+f by omega];exact this
theorem lsAt_inv: ∀ (rs:List Rc)(k:Nat)(ls:List (Nat × Nat))(i:Nat)(x:Nat × Nat),x∈lsAt rs k ls i→x∈ls∨ ∃ f q,f<i∧gL rs f=some q∧x=(k+f,q.1)
 |rs,k,ls,0,x,h=>by
  unfold lsAt at h;exact .inl h
 |[],k,ls,i+1,x,h=>by
  simp only[lsAt]at h;exact .inl h
 |r::rs,k,ls,i+1,x,h=>by
  simp only[lsAt]at h;rcases lsAt_inv rs (k+1) _ i x h with h1|⟨f,q,h1,h2,h3⟩
  ·unfold addL at h1;cases hl:r.l with
   |none=>rw[hl]at h1;exact .inl h1
   |some p=>
    rw[hl]at h1;simp only[List.mem_cons]at h1;rcases h1 with h1|h1
    ·exact .inr ⟨0,p,by omega,by simp only[gL,List.getElem?_cons_zero];exact hl,h1⟩
    ·exact .inl h1
  ·exact .inr ⟨f+1,q,by omega,by simpa only[gL,List.getElem?_cons_succ]using h2,by rw[h3];congr 1;omega⟩
theorem xr4_ok{call:CallR2}(hk:CallOk2 P call){ow:Nat→Bool}{n:Nat}{ops:List Oper}{base:Nat}: ∀ (l:List Oper)(k:Nat){ls:List (Nat × Nat)}{s sf:Slots}{q qf:Option Nat}{h hf:Heap}{rs:List Rc},xr4 P wf call ow n ops base k l ls s q h=some (rs,sf,qf,hf)→
  rs.length=l.length∧gS rs sf 0=s∧gH rs hf 0=h∧(∀ h0,Tch q h0 h→Tch qf h0 hf)∧
   ∀ i o,l[i]? =some o→S4 P ow wf n ops base (k+i) o (gS rs sf i) (gS rs sf (i+1)) (gH rs hf i) (gH rs hf (i+1)) (gV rs i) (gL rs i) (gB rs i) (lsAt rs k ls i)
 |[],k,ls,s,sf,q,qf,h,hf,rs,hx=>by
  simp only[xr4,Option.some.injEq,Prod.mk.injEq]at hx;obtain⟨rfl,rfl,rfl,rfl⟩:=hx;exact⟨rfl,rfl,rfl,fun _ hq=>hq,fun i o ho=>by simp at ho⟩
 |o::rest,k,ls,s,sf,q,qf,h,hf,rs,hx=>by
  unfold xr4 at hx;split at hx
  case isFalse=>simp at hx
  rename_i hd;have fin: ∀ (v:PV)(q':Option Nat)(h':Heap)(l:Option (Nat × AObj))(b:Bool)(s':Slots)(rs':List Rc),rs=⟨s,h,v,l,b⟩::rs'→xr4 P wf call ow n ops base (k+1) rest (addL k l ls) s' (mnO q q') h'=some (rs',sf,qf,hf)→S4 P ow wf n ops base k o s s' h h' v l b ls→Tch q' h h'→
    rs.length=(o::rest).length∧gS rs sf 0=s∧gH rs hf 0=h∧(∀ h0,Tch q h0 h→Tch qf h0 hf)∧
     ∀ i o',(o::rest)[i]? =some o'→S4 P ow wf n ops base (k+i) o' (gS rs sf i) (gS rs sf (i+1)) (gH rs hf i) (gH rs hf (i+1)) (gV rs i) (gL rs i) (gB rs i) (lsAt rs k ls i):=by
   intro v q' h' l b s' rs' hrs hrec hS ht;obtain⟨g1,g2,g3,g4,g5⟩:=xr4_ok hk rest (k+1) hrec;subst hrs;refine⟨by simp[g1],rfl,rfl,fun h0 hq=>g4 h0 (hq.trans ht),fun i o' ho'=>?_⟩;cases i with
   |zero=>
    simp at ho';subst ho';have e1:gS (⟨s,h,v,l,b⟩::rs') sf (0+1)=s':=g2;have e2:gH (⟨s,h,v,l,b⟩::rs') hf (0+1)=h':=g3;rw[e1,e2];exact hS
   |succ i=>
    have:=g5 i o' (by simpa using ho');rw[show k+(i+1)=k+1+i by omega];exact this
  split at hx
  ·simp at hx
  ·rename_i hw;simp only[Option.map_eq_some_iff]at hx;obtain⟨⟨rs',sf',qf',hf'⟩,hrec,he⟩:=hx;simp only[Prod.mk.injEq]at he;obtain⟨h1,rfl,rfl,rfl⟩:=he;refine fin .emp none h none false _ rs' h1.symm (by
    have:mnO q none=q:=(by cases q<;>rfl);rw[this];exact hrec) ⟨hd,false,hw,(fun _=>⟨rfl,rfl,rfl,rfl⟩),fun hc=>by cases hc⟩ rfl
  ·rename_i hw;split at hx
   ·simp at hx
   ·rename_i v q' h' l b hx4;simp only[Option.map_eq_some_iff]at hx;obtain⟨⟨rs',sf',qf',hf'⟩,hrec,he⟩:=hx;simp only[Prod.mk.injEq]at he;obtain⟨h1,rfl,rfl,rfl⟩:=he;obtain⟨t1,t2⟩:=x4_ok hk hd hw hx4;exact fin v q' h' l b _ rs' h1.symm hrec t1 t2
theorem xd4_ok{call:CallR2}(hk:CallOk2 P call){ow:Nat→Bool}{n:Nat}{ops:List Oper}{s sf:Slots}{q qf:Option Nat}{h hf:Heap}(hpre: ∀ i j,j<ops.length→pre ops i j=true→i<j)(hx:xd4 P wf call ow n ops h.next s q ⟨h.next+ops.length,h.obj⟩=some (sf,qf,hf)):
  (∀ K:Slots→Heap→Prop,K sf hf→ ∃ sk hk vk lt br,sk 0=s∧hk 0=⟨h.next+ops.length,h.obj⟩∧K (sk ops.length) (hk ops.length)∧Facts P ow wf n ops h.next sk hk vk lt br)∧(∀ h0,Tch q h0 ⟨h.next+ops.length,h.obj⟩→Tch qf h0 hf):=by
 unfold xd4 at hx;split at hx
 ·simp at hx
 rename_i rs sf' qf' hf' hr;split at hx
 case isFalse=>simp at hx
 rename_i hc;simp only[Option.some.injEq,Prod.mk.injEq]at hx;obtain⟨rfl,rfl,rfl⟩:=hx;simp only[Bool.and_eq_true]at hc;obtain⟨⟨hww,hlate⟩,hquiet⟩:=hc;obtain⟨hlen,g2,g3,g4,g5⟩:=xr4_ok hk ops 0 hr;refine⟨fun K J=>⟨gS rs sf',gH rs hf',gV rs,gL rs,gB rs,g2,g3,?_,?_⟩,g4⟩
 ·have e1:gS rs sf' ops.length=sf':=by unfold gS;rw[List.getElem?_eq_none (by omega)]
  have e2:gH rs hf' ops.length=hf':=by unfold gH;rw[List.getElem?_eq_none (by omega)]
  rw[e1,e2];exact J
 ·have late: ∀ j f o,j<ops.length→(gB rs j||(gL rs j).isSome)=true→j<f→ops[f]? =some o→isA ow o=true→(if gB rs j=true then((gH rs hf' (j+1)).obj (h.next+f)).isNone else match gL rs j with|some p=>!(h.next+f==p.1)|none=>true)=true:=by
   intro j f o hj hb hjf ho ha;have h1:=rng_iff.1 hlate j hj;rw[hb]at h1;simp only[Bool.not_true,Bool.false_or]at h1;have h2:=rng_iff.1 h1 f (List.getElem?_eq_some_iff.1 ho).1;have h3:(decide (j<f)&&(ops[f]?).any (isA ow))=true:=(by rw[ho];simp[hjf,ha]);rw[h3]at h2;simpa using h2
  have segA: ∀ (M d:Nat),M+d≤ops.length→(∀ j,M≤j→j<M+d→gB rs j=false)→gH rs hf' (M+d)=lob (gL rs) (fun f=>decide (M≤f)) (gH rs hf' M) (M+d):=by
   intro M d
   induction d with
   |zero=>
    intro _ _;have:=lob_hi (lt:=gL rs) (p:=fun f=>decide (M≤f)) (H:=gH rs hf' M) (m:=0) M (fun f _ hf _=>by simp;omega);rw[Nat.zero_add]at this;rw[Nat.add_zero,this];try rfl
   |succ d ih=>
    intro h1 h2;have ih:=ih (by omega) (fun j a b=>h2 j a (by omega));have hS:=g5 (M+d) ops[M+d] (List.getElem?_eq_getElem (by omega));have hb:=h2 (M+d) (by omega) (by omega);obtain⟨w,_,k1,k2⟩:=hS.ok;rw[show M+(d+1)=M+d+1 by omega,lob_succ];have key:gH rs hf' (M+d+1)=match gL rs (M+d)with|some q=>(gH rs hf' (M+d)).set q.1 q.2|none=>gH rs hf' (M+d):=by
     cases w with
     |false=>rw[(k1 rfl).2.2.1];exact(k1 rfl).2.1
     |true=>
      cases hiw:isW ow wf ops[M+d]with
      |false=>rw[((k2 rfl).2.1 hiw).2.1];exact((k2 rfl).2.1 hiw).1
      |true=>
       rcases(k2 rfl).2.2 hiw with k3|k3|k3
       ·rw [k3.1]at hb;simp at hb
       ·obtain ⟨_,_,ob,k4,_,k5⟩:=k3;rw[k4];simpa using k5
       ·obtain ⟨_,_,_,_,_,_,_,ob,_,_,k4,k5,_⟩:=k3;rw[k4];exact k5
    rw[key];cases hl:gL rs (M+d)with
    |none=>simp only;exact ih
    |some q=>simp only[show decide (M≤M+d)=true by simp,if_true];rw[ih]
  have wwP: ∀ i j,i<j→j<ops.length→(gB rs i=true∨(gL rs i).isSome=true)→(gB rs j=true∨(gL rs j).isSome=true)→
    pre ops i j=true∨(∃ p q,gL rs i=some p∧gL rs j=some q∧p.1≠q.1)∨(gB rs i=true∧(gL rs j).isSome=true∧ ∃ o,ops[j]? =some o∧isA ow o=true)∨((gL rs i).isSome=true∧gB rs j=true∧ ∃ o,ops[i]? =some o∧isA ow o=true):=by
   intro i j hij hj hi hj2;have h1:=rng_iff.1 hww j hj;have hj3:(gB rs j||(gL rs j).isSome)=true:=(by simpa using hj2);have hi3:(gB rs i||(gL rs i).isSome)=true:=(by simpa using hi);rw[hj3]at h1;simp only[Bool.not_true,Bool.false_or]at h1;have h2:=rng_iff.1 h1 i hij;rw[hi3]at h2;simp only[Bool.not_true,Bool.false_or,Bool.or_eq_true]at h2;rcases h2 with((h2|h2)|h2)|h2
   ·exact .inl h2
   ·right;left;split at h2
    ·rename_i p q e1 e2;exact⟨p,q,e1,e2,by simpa using h2⟩
    ·simp at h2
   ·simp only[Bool.and_eq_true]at h2;refine .inr (.inr (.inl ⟨h2.1.1,h2.1.2,ops[j],List.getElem?_eq_getElem hj,?_⟩));have:=h2.2;rw[List.getElem?_eq_getElem hj]at this;simpa using this
   ·simp only[Bool.and_eq_true]at h2;refine .inr (.inr (.inr ⟨h2.1.1,h2.1.2,ops[i],List.getElem?_eq_getElem (by omega),?_⟩));have:=h2.2;rw[List.getElem?_eq_getElem (by omega)]at this;simpa using this
  have kxL: ∀ j,j<ops.length→(∀ f p,j<f→(hf:f<ops.length)→gL rs f=some p→isA ow ops[f]=false→pre ops j f=true)→ ∀ id∈kx ow ops (gL rs) j,id∈killsAt ow ops h.next j (lsAt rs 0 [] j):=by
   intro j hjl hst id hid;obtain⟨f,p,m1,m2,m3,m4,m5,m6⟩:=kx_mem hid;unfold killsAt;rw[List.mem_append];rcases Nat.lt_trichotomy f j with m7|m7|m7
   ·left;rw[List.mem_filterMap];have:=lsAt_mem rs 0 [] j f p (by omega) m7 m5;rw[Nat.zero_add]at this;have hjf:pre ops j f=false:=by
     cases hpp:pre ops j f with
     |false=>rfl
     |true=>have:=hpre j f m1 hpp;omega
    exact⟨_,this,by simp[unoB,m2,m3,hjf,m6]⟩
   ·exact (m2 m7.symm).elim
   ·right;have hSf:=g5 f ops[f] (List.getElem?_eq_getElem m1);rw[Nat.zero_add]at hSf;have fA:isA ow ops[f]=true:=by
     cases hA:isA ow ops[f]with
     |true=>rfl
     |false=>
      rcases m4 with m4|m4
      ·rw [hst f p m7 m1 m5 hA]at m4;simp at m4
      ·rw [hA]at m4;simp at m4
    obtain⟨wf',_,f1,f2⟩:=hSf.ok;cases wf' with
    |false=>rw[(f1 rfl).2.2.1]at m5;simp at m5
    |true=>
     cases hiwf:isW ow wf ops[f]with
     |false=>rw[((f2 rfl).2.1 hiwf).2.1]at m5;simp at m5
     |true=>
      rcases(f2 rfl).2.2 hiwf with f3|f3|f3
      ·rw [f3.2.1]at m5;simp at m5
      ·obtain ⟨_,_,ob,f4,_⟩:=f3;rw[f4]at m5;simp at m5;rw[List.mem_map];refine⟨f,?_,by rw[← m6, ← m5]⟩;unfold laterA;rw[List.mem_filter];exact⟨List.mem_range.2 m1,by rw[List.getElem?_eq_getElem m1];simp[m7,fA]⟩
      ·obtain ⟨_,_,_,_,_,_,_,_,f4,_⟩:=f3;unfold isA at fA;rw[f4]at fA;simp at fA
  refine⟨fun j o ho=>?_,fun i j hij hj hi hj2=>?_⟩
  ·have hS:=g5 j o ho;rw[Nat.zero_add]at hS;have hjl:j<ops.length:=(List.getElem?_eq_some_iff.1 ho).1;obtain⟨w,k0,k1,k2⟩:=hS.ok;refine⟨hS.dst,w,k0,k1,fun hw=>?_⟩;obtain⟨k3,k4,k5⟩:=k2 hw;refine⟨k3,fun hiw=>?_,fun hiw=>?_⟩
   ·obtain ⟨t1,t2,t3,t4⟩:=k4 hiw;refine⟨t1,t2,t3,fun M hM=>?_⟩;have hq:=rng_iff.1 hquiet j hjl;rw[ho]at hq;simp only[hiw,Bool.false_or]at hq;rw[hw]at k0;rw[k0]at hq;simp only at hq;have hq2:=rng_iff.1 hq M (by have:=hM.1;omega);have hcut:cutB ops (gB rs) j M=true:=by
     unfold cutB;simp only[Bool.and_eq_true,Bool.or_eq_true,beq_iff_eq];refine⟨hM.2.2.2,rng_iff.2 fun b hb=>?_⟩;cases hbb:gB rs b with
     |false=>rfl
     |true=>
      simp only[Bool.not_true,Bool.false_or];split
      ·rename_i hbm;rw[hM.2.1 b hbm hbb];try rfl
      ·rename_i hbm;rw[hM.2.2.1 b (by omega) hbb];try rfl
    rw[hcut]at hq2;simp only[Bool.not_true,Bool.false_or,Bool.or_eq_true]at hq2;rcases hq2 with hq2|hq2
    ·simp only[Bool.and_eq_true,beq_iff_eq]at hq2;obtain⟨hMl,hns⟩:=hq2;refine⟨killsAt ow ops h.next j (lsAt rs 0 [] j),kxL j hjl (fun f p m1 m2 m3 m4=>?_),?_⟩
     ·have hSf:=g5 f ops[f] (List.getElem?_eq_getElem m2);obtain⟨wf',_,f1,f2⟩:=hSf.ok;cases wf' with
      |false=>rw[(f1 rfl).2.2.1]at m3;simp at m3
      |true=>
       cases hiwf:isW ow wf ops[f]with
       |false=>rw[((f2 rfl).2.1 hiwf).2.1]at m3;simp at m3
       |true=>
        rcases(f2 rfl).2.2 hiwf with f3|f3|f3
        ·rw [f3.2.1]at m3;simp at m3
        ·obtain ⟨_,fA,_⟩:=f3;rw[fA]at m4;simp at m4
        ·obtain ⟨_,_,_,_,_,_,_,_,f4,_⟩:=f3;have:=rng_iff.1 hns f m2;rw[List.getElem?_eq_getElem m2]at this;simp[m1,isSt,f4,unoB,show ¬ j=f by omega]at this;cases hpp:pre ops f j with
         |true=>have:=hpre f j hjl hpp;omega
         |false=>exact this.resolve_right (by rw[hpp];simp)
     ·-- the heap at k, with what stands apart hidden
      have hMj:M≤j:=(by rw[hMl];exact(lastOf_spec _ _).1);have hnb: ∀ b,M≤b→b<M+(j-M)→gB rs b=false:=by
       intro b b1 b2;have:=(lastOf_spec (gB rs) j).2.2 b (by rw[hMl]at b1;exact b1) (by omega);simpa using this
      have hseg:=segA M (j-M) (by omega) hnb;rw[show M+(j-M)=j by omega]at hseg;have hgx:gx ops (gL rs) (gH rs hf') j M (killsAt ow ops h.next j (lsAt rs 0 [] j))=killL (gH rs hf' j) (killsAt ow ops h.next j (lsAt rs 0 [] j)):=by
       unfold gx;obtain⟨d,hdd⟩: ∃ d,ops.length=j+d:=⟨ops.length-j,by omega⟩;have h2:gH rs hf' j=lob (gL rs) (fun f=>decide (M≤f)&&decide (f<j)) (gH rs hf' M) ops.length:=by
        rw[hseg,hdd,lob_hi d (fun f a _ _=>by simp;omega)];exact lob_congr _ fun f hf _=>by simp[hf]
       rw[h2];refine lob_kill _ fun f p hf hl=>?_;by_cases hMf:M≤f
       ·simp only[hMf,decide_true,Bool.true_and];cases hp:pre ops f j with
        |true=>
         rcases Nat.lt_or_ge f j with m7|m7
         ·left;simp[m7]
         ·right
          -- it stands behind and before: looked at as apart only when it is; else nothing is noted
          exact absurd hp (by
           have:=hpre f j hjl hp;omega)
        |false=>
         rcases Nat.lt_or_ge f j with m7|m7
         ·right;unfold killsAt;rw[List.mem_append];left;rw[List.mem_filterMap];have hm:=lsAt_mem rs 0 [] j f p (by omega) m7 hl;rw[Nat.zero_add]at hm;have hjf:pre ops j f=false:=by
           cases hpp:pre ops j f with
           |false=>rfl
           |true=>have:=hpre j f hf hpp;omega
          exact⟨_,hm,by simp[unoB,hp,hjf,show ¬ j=f by omega]⟩
         ·left;simp;omega
       ·left;simp[hMf]
      rw[hgx];exact t4
    ·exact ⟨kx ow ops (gL rs) j,fun id hid=>hid,xagain_ok2 hk hq2⟩
   ·rcases k5 hiw with⟨t1,t2,H',t3,t4,t5,t6⟩|⟨t1,t2,t3⟩|⟨t1,t,x,y,id,r,f,ob,u1,u2,u3,u4,u5⟩
    ·have hkL: ∀ id∈kx ow ops (gL rs) j,id∈killsAt ow ops h.next j (lsAt rs 0 [] j):=kxL j hjl (fun f p m1 m2 m3 m4=>by
      rcases wwP j f m1 m2 (.inl t1) (.inr (by rw[m3];try rfl))with h5|⟨_,_,h5,_⟩|⟨_,_,o2,h5,h6⟩|⟨h5,_⟩
      ·exact h5
      ·rw [t2]at h5;simp at h5
      ·rw [List.getElem?_eq_getElem m2]at h5;simp at h5;rw[h5,h6]at m4;simp at m4
      ·rw [t2]at h5;simp at h5)
     have hLk: ∀ id∈killsAt ow ops h.next j (lsAt rs 0 [] j),id∈kx ow ops (gL rs) j∨(gH rs hf' j).obj id=none:=fun id hid=>by
      unfold killsAt at hid;rw[List.mem_append]at hid;rcases hid with hid|hid
      ·rw [List.mem_filterMap]at hid;obtain⟨x,m1,m2⟩:=hid;rcases lsAt_inv _ _ _ _ _ m1 with m3|⟨f,p,m3,m4,rfl⟩
       ·simp at m3
       ·left;split at m2
        ·rename_i hu;simp at m2;simp[unoB]at hu;rw[← m2];exact mem_kx (show f<ops.length by omega) hu.1.1 hu.2 (.inl hu.1.2) m4
        ·simp at m2
      ·rw [List.mem_map]at hid;obtain⟨f,m1,rfl⟩:=hid;exact .inr (t6 f m1)
     have eK:killL (gH rs hf' j) (kx ow ops (gL rs) j)=killL (gH rs hf' j) (killsAt ow ops h.next j (lsAt rs 0 [] j)):=heap_ext rfl fun id=>by
      simp only[killL];by_cases m1:id∈kx ow ops (gL rs) j
      ·simp [m1,hkL id m1]
      ·by_cases m2:id∈killsAt ow ops h.next j (lsAt rs 0 [] j)
       ·have:=(hLk id m2).resolve_left m1;simp[m1,m2,this]
       ·simp [m1,m2]
     have eP:putL H' (gH rs hf' j) (kx ow ops (gL rs) j)=putL H' (gH rs hf' j) (killsAt ow ops h.next j (lsAt rs 0 [] j)):=heap_ext rfl fun id=>by
      simp only[putL];by_cases m1:id∈kx ow ops (gL rs) j
      ·simp [m1,hkL id m1]
      ·by_cases m2:id∈killsAt ow ops h.next j (lsAt rs 0 [] j)
       ·have:=(hLk id m2).resolve_left m1;simp[m1,m2,this]
       ·simp [m1,m2]
     refine .inl ⟨t1,t2,⟨H',by rw[eK];exact t3,fun id hid=>t4 id (hkL id hid),by rw[eP];exact t5⟩,fun f q hjf hq ha=>?_⟩;have:=late j f q hjl (by simp[t1]) hjf hq ha;rw[if_pos t1]at this;simpa using this
    ·exact .inr (.inl ⟨t1,t2,t3⟩)
    ·refine .inr (.inr ⟨t1,t,x,y,id,r,f,ob,u1,u2,u3,u4,fun f' q hjf hq ha=>?_,u5⟩);have:=late j f' q hjl (by simp[u3]) hjf hq ha;rw[if_neg (by simp[t1]),u3]at this;simpa using this
  ·exact wwP i j hij hj hi hj2
theorem xc_ok2{call:CallR2}(hk:CallOk2 P call){ow:Nat→Bool}{n:Nat}: ∀ (m:Nat)(c:Code){s s':Slots}{q q':Option Nat}{h h':Heap}{e:Exit},xc2 P wf call ow n m c s q h=some (e,s',q',h')→
  (∀ Q:Post,Q e s' h'→awp P ow wf n c Q s h)∧(∀ h0,Tch q h0 h→Tch q' h0 h')
 |0,c,s,s',q,q',h,h',e,hx=>by simp[xc2]at hx
 |m+1,c,s,s',q,q',h,h',e,hx=>by
  unfold xc2 at hx;split at hx
  ·simp only[Option.some.injEq,Prod.mk.injEq]at hx;obtain⟨rfl,rfl,rfl,rfl⟩:=hx;exact⟨fun Q hQ=>by simpa only[awp]using hQ,fun h0 hq=>hq⟩
  ·rename_i id ops;split at hx
   ·rename_i hdo;simp only[Option.map_eq_some_iff,Prod.mk.injEq]at hx;obtain⟨⟨s1,q1,h1⟩,hx,rfl,rfl,rfl,rfl⟩:=hx;have:=fun(Q:Post)=>xd_ok2 (K:=Q .normal) hk _ _ hx;exact⟨fun Q hQ=>by simp only[awp,if_true];exact⟨_,_,.refl,.inl ⟨hdo,(this Q).1 hQ⟩⟩,(this (fun _ _ _=>True)).2⟩
   ·split at hx
    ·rename_i hdo;simp only[Option.map_eq_some_iff,Prod.mk.injEq]at hx;obtain⟨⟨s1,q1,h1⟩,hx,rfl,rfl,rfl,rfl⟩:=hx;have:=fun(Q:Post)=>xd_ok3 (K:=Q .normal) hk _ _ hx;refine⟨fun Q hQ=>by simp only[awp,if_true];exact⟨_,_,.refl,.inr (.inl ⟨hdo,(this Q).1 hQ⟩)⟩,fun h0 hq=>(this (fun _ _ _=>True)).2 h0 (hq.trans ?_)⟩;exact⟨Nat.le_add_right _ _,fun _ _=>rfl⟩
    ·split at hx
     ·rename_i hdo;simp only[Option.map_eq_some_iff,Prod.mk.injEq]at hx;obtain⟨⟨s1,q1,h1⟩,hx,rfl,rfl,rfl,rfl⟩:=hx;obtain⟨t1,t2⟩:=xd4_ok hk (fun i j hj hp=>pre_lt3 (DOk3.of hdo) j i hj hp) hx;refine⟨fun Q hQ=>by simp only[awp,if_true];exact⟨_,_,.refl,.inr (.inr ⟨hdo,t1 (Q .normal) hQ⟩)⟩,fun h0 hq=>t2 h0 (hq.trans ?_)⟩;exact⟨Nat.le_add_right _ _,fun _ _=>rfl⟩
     ·simp at hx
  ·rename_i id ops;simp only[Option.map_eq_some_iff,Prod.mk.injEq]at hx;obtain⟨⟨s1,q1,h1⟩,hx,rfl,rfl,rfl,rfl⟩:=hx;have:=fun(Q:Post)=>xl_ok2 (K:=Q .normal) hk _ hx;exact⟨fun Q hQ=>by simp only[awp,Bool.false_eq_true,if_false];exact⟨_,_,.refl,(this Q).1 hQ⟩,(this (fun _ _ _=>True)).2⟩
  ·rename_i a b;split at hx
   ·rename_i s1 q1 h1 ha;obtain⟨a1,a2⟩:=xc_ok2 hk m a ha;obtain⟨b1,b2⟩:=xc_ok2 hk m b hx;exact⟨fun Q hQ=>by simp only[awp];exact a1 _ (b1 Q hQ),fun h0 hq=>b2 h0 (a2 h0 hq)⟩
   ·rename_i hne;obtain⟨a1,a2⟩:=xc_ok2 hk m a hx;refine⟨fun Q hQ=>?_,a2⟩;simp only[awp];refine a1 _ ?_;cases e<;>simp only[Post.seq]<;>first|exact hQ|exact(hne _ _ _ hx).elim
  ·rename_i c x y;split at hx
   ·rename_i hc;obtain⟨a1,a2⟩:=xc_ok2 hk m x hx;exact⟨fun Q hQ=>by simp only[awp,hc,if_true];exact a1 Q hQ,a2⟩
   ·rename_i hc;obtain⟨a1,a2⟩:=xc_ok2 hk m y hx;exact⟨fun Q hQ=>by simp only[awp,hc,Bool.false_eq_true,if_false];exact a1 Q hQ,a2⟩
   ·simp at hx
  ·rename_i id c;split at hx
   ·rename_i id' s1 q1 h1 ha;obtain⟨a1,a2⟩:=xc_ok2 hk m c ha;simp only[Option.some.injEq,Prod.mk.injEq]at hx;obtain⟨rfl,rfl,rfl,rfl⟩:=hx;refine⟨fun Q hQ=>?_,a2⟩;simp only[awp];refine a1 _ ?_;simp only[Post.block];split<;>rename_i hid<;>simpa only[hid,if_true,if_false]using hQ
   ·rename_i hne;obtain⟨a1,a2⟩:=xc_ok2 hk m c hx;refine⟨fun Q hQ=>?_,a2⟩;simp only[awp];refine a1 _ ?_;cases e<;>simp only[Post.block]<;>first|exact hQ|exact(hne _ _ _ _ hx).elim
  ·rename_i c;split at hx
   ·rename_i s1 q1 h1 ha;obtain⟨a1,a2⟩:=xc_ok2 hk m c ha;obtain⟨b1,b2⟩:=xc_ok2 hk m (.loop c) hx;refine⟨fun Q hQ=>?_,fun h0 hq=>b2 h0 (a2 h0 hq)⟩;have:=b1 Q hQ;simp only[awp]at this⊢;obtain⟨j,hj⟩:=this;exact⟨j+1,a1 _ hj⟩
   ·rename_i hne;obtain⟨a1,a2⟩:=xc_ok2 hk m c hx;refine⟨fun Q hQ=>?_,a2⟩;simp only[awp];refine⟨1,a1 _ ?_⟩;cases e<;>simp only[Post.seq]<;>first|exact hQ|exact(hne _ _ _ hx).elim
  ·simp only[Option.some.injEq,Prod.mk.injEq]at hx;obtain⟨rfl,rfl,rfl,rfl⟩:=hx;exact⟨fun Q hQ=>by simpa only[awp]using hQ,fun h0 hq=>hq⟩
  ·simp only[Option.some.injEq,Prod.mk.injEq]at hx;obtain⟨rfl,rfl,rfl,rfl⟩:=hx;exact⟨fun Q hQ=>by simpa only[awp]using hQ,fun h0 hq=>hq⟩
  ·simp at hx
theorem xf_ok2(hm:P.follows .mixedOrders=true){ext:FuncId→List PV→Heap→Option PV}(hext:ExtOk2 P ext){keep:FuncId→Bool}{m:Nat}: ∀ k,CallOk2 P (xf2 P wf own ext keep m k)
 |0,f,args,h,v,q,h',hx=>by simp[xf2]at hx
 |k+1,f,args,h,v,q,h',hx=>by
  unfold xf2 at hx;split at hx
  ·rename_i r hr;simp only[Option.some.injEq,Prod.mk.injEq]at hx;obtain⟨rfl,rfl,rfl⟩:=hx;exact⟨hext _ _ _ _ hr,rfl⟩
  split at hx
  ·simp at hx
  ·rename_i fn hf;split at hx
   case isFalse=>simp at hx
   rename_i hh;split at hx
   ·simp at hx
   ·rename_i c hb;split at hx
    case h_2=>simp at hx
    rename_i s q1 h1 hc;split at hx
    ·simp at hx
    ·rename_i vs hr;have main:PCall P f args h (fun r h2=>r=resV vs∧h2=h1)∧Tch q1 h h1:=by
      obtain⟨e,he,hc⟩:=endS_some hc;obtain⟨a1,a2⟩:=xc_ok2 (xf_ok2 hm hext k) m c hc;refine⟨pcall_body hm hf hb hh.1 hh.2 (a1 _ ?_),a2 h rfl⟩;rcases he with rfl|rfl<;>simp only[retPost,hr]<;>exact⟨trivial,trivial⟩
     split at hx
     ·rename_i hkp;simp only[Bool.and_eq_true]at hkp;split at hx
      ·rename_i r hfr;simp only[Option.some.injEq,Prod.mk.injEq]at hx;obtain⟨rfl,rfl,rfl⟩:=hx;refine⟨pcall_wf hh.1 fun hwf=>PCall.drop (main.1.mono ?_),rfl⟩;rintro r' h' ⟨rfl,rfl⟩;have hold: ∀ id,id<h.next→h'.obj id=h.obj id:=by
        intro id hid;have ht:=main.2;cases q1 with
        |none=>simp only[Tch]at ht;rw[ht]
        |some t=>
         simp only[Tch]at ht;have:=hkp.2;simp[dropB]at this;exact ht.2 id (by omega)
       refine⟨r,h,⟨rfl,rfl⟩,frzP_ok _ _ hfr,Nat.le_refl _,fun id o ho=>?_⟩;have hid:=hwf id (by rw[ho];try rfl);exact⟨by rw[hold id hid];exact ho,hid,.inl ho⟩
      ·simp only[Option.some.injEq,Prod.mk.injEq]at hx;obtain⟨rfl,rfl,rfl⟩:=hx;exact main
     ·simp only[Option.some.injEq,Prod.mk.injEq]at hx;obtain⟨rfl,rfl,rfl⟩:=hx;exact main
def xgives2(r:Option (PV × Option Nat × Heap))(v:PV):Bool:=match r with
 |some (u,_,_)=>pvEq u v
 |none=>false
theorem pcall_run2(hm:P.follows .mixedOrders=true){ext:FuncId→List PV→Heap→Option PV}(hext:ExtOk2 P ext){keep:FuncId→Bool}{m k:Nat}{f:FuncId}{args:List PV}{h:Heap}{v:PV}(hx:xgives2 (xf2 P wf own ext keep m k f args h) v=true):PCall P f args h (fun r _=>r=v):=by
 unfold xgives2 at hx;split at hx
 ·rename_i u q h' hr;refine((xf_ok2 hm hext k _ _ _ _ _ _ hr).1).mono (fun r h'' hr=>?_);rw[hr.1,pvEq_eq _ _ hx]
 ·simp at hx
end
end Go.AM
namespace Go.Proofs.YtblgchkahpgdjaaGreat
open Go.AM
set_option maxHeartbeats 2000000
set_option maxRecDepth 100000
def dmOwn(f t:Nat):Bool:=([(161,5),(111,2),(112,2),(174,10),(144,13),(12,18),(12,27),(12,51),(12,72),(166,5),(17,7),(42,15),(45,11),(46,11),(51,13)]:List (Nat × Nat)).contains (f,t)
def dmWf(f:Nat):Bool:=([41,43,100,144,107,51,45,46,97,42,61]:List Nat).contains f
def dmExt(f:FuncId)(args:List PV)(_:Heap):Option PV:=ext f args
theorem dmExt_ok:ExtOk2 Tryz.prog dmExt:=fun f args r h hr=>ext_ok f args r h hr
theorem dmAwake_c:PCall Tryz.prog 11 [] Heap.nil fun r h'=>r= .sc (.bool true)∧h'=Heap.nil:=by
 have h1:PCall Tryz.prog 11 [] Heap.nil fun r _=>r= .sc (.bool true):=pcall_run2 (wf:=dmWf) (own:=dmOwn) (keep:=fun _=>false) Ty.mixed dmExt_ok (m:=2000) (k:=60) (by kernel_rfl);refine PCall.drop (h1.mono ?_);rintro r h' rfl;refine⟨.sc (.bool true),Heap.nil,⟨rfl,rfl⟩,?_,Nat.le_refl _,fun id o ho=>by simp[Heap.nil]at ho⟩;simp only[FrzTo]
end Go.Proofs.YtblgchkahpgdjaaGreat
namespace Go.Proofs.YtblgchkahpgdjaaGreat
open Go.AM
set_option maxHeartbeats 2000000
set_option maxRecDepth 20000
theorem fnum_c{h:Heap}{n:Int}:PCall Tryz.prog 24 [errV n] h fun r h'=>r= .sc (.int .i64 n)∧h'=h:=by
 unfold errV;refine uG0 Tryz.func24 Tryz.ntmps24 Tryz.results24 Ty.hb_24 ?_;repeat'(first|refine G fun K J=>?_|refine uR trivial ?_|refine uT trivial ?_|refine uK ?_|refine uC1 trivial ?_|(refine O J ?_;clear J)|apply zI)
 all_goals rfl
theorem fis_c{h:Heap}{n m:Int}:PCall Tryz.prog 15 [errV n,.sc (.int .i64 m)] h fun r h'=>r= .sc (.bool (n==m))∧h'=h:=by
 have hn:=fun h:Heap=>fnum_c (h:=h) (n:=n);unfold errV at hn⊢;refine uG0 Tryz.func15 Tryz.ntmps15 Tryz.results15 Ty.hb_15 ?_;repeat'(first|refine G fun K J=>?_|refine uR trivial ?_|(refine O J ?_;clear J)|apply zI)
 refine owp_useQ (hn _) (by(try simp only[Ty.w,simprocAttr,eq_self]);try rfl) ?_;simp(maxSteps:=2000000) only[Ty.w,simprocAttr,eq_self];repeat'(first|refine uT trivial ?_|(refine O J ?_;clear J)|apply zI)
end Go.Proofs.YtblgchkahpgdjaaGreat
namespace Go.AM
open Go.ChangeShapes Go.WideShapes
open Go.Proofs.YtblgchkahpgdjaaGreat
mutual
def PV.bulk:PV→Nat
 | .sc (.string s)=>s.size+1
 | .imm _ rows=>PV.bulkR rows+1
 |_=>1
def PV.bulkL:List PV→Nat
 |[]=>0
 |p::ps=>p.bulk+PV.bulkL ps
def PV.bulkR:List (List PV)→Nat
 |[]=>0
 |r::rs=>PV.bulkL r+PV.bulkR rs
end
theorem PV.bulkL_append: ∀ l m:List PV,PV.bulkL (l++m)=PV.bulkL l+PV.bulkL m
 |[],m=>by simp[PV.bulkL]
 |p::l,m=>by simp only[List.cons_append,PV.bulkL,PV.bulkL_append l m];omega
theorem List.getElem?_range_some{k i j:Nat}(h:(List.range k)[i]? =some j):i<k∧i=j:=by
 have h1:=(List.getElem?_eq_some_iff.1 h).1;simp at h1;rw[List.getElem?_range h1]at h;simp at h;exact⟨h1,h⟩
section
variable {H:Type}{enc:TypeId × Value→H}{P:Program}{w:World}{sp:Nat→Bool}{held:Bool}
theorem bulkR_le: ∀ (rows:List (List PV))(ds:List (DataW H)),rows.length=ds.length→(∀ (i:Nat)(r:List PV),rows[i]? =some r→ ∃ d,ds[i]? =some d∧PV.bulkL r≤Rows.uptoBulk d)→PV.bulkR rows≤Rows.uptoBulkAll ds
 |[],_,_,_=>by simp[PV.bulkR]
 |r::rows,[],h,_=>by simp at h
 |r::rows,d::ds,h,hb=>by
  have h1:=bulkR_le rows ds (by simpa using h) fun i q hq=>by simpa using hb (i+1) q (by simpa using hq)
  obtain⟨d',h2,h3⟩:=hb 0 r rfl;simp at h2;subst h2;simp only[PV.bulkR,Rows.uptoBulkAll];omega
theorem parts_rep5{c:Nat}{cs:List Value}:(l:List (Nat × TypeId))→(ds:List (DataW H))→(o:Nat)→inRow P cs.length o l=true→
  (∀ (i:Nat)(p:Nat × TypeId),l[i]? =some p→ ∃ d,ds[i]? =some d∧ ∃ ps,Arg P c p.2 ps∧RA w ps ((cs.drop p.1).take (P.cellsOf p.2))∧PV.bulkL ps≤Rows.uptoBulk d)→
  ∃ ps,RA w ps (cs.drop o)∧(∀ p∈l,Arg P c p.2 ((ps.drop (p.1-o)).take (P.cellsOf p.2)))∧PV.bulkL ps≤Rows.uptoBulkAll ds
 |[],ds,o,h,_=>by
  simp[inRow]at h;refine⟨[],⟨?_,fun β n=>?_⟩,by simp,by simp[PV.bulkL]⟩
  ·rw [List.drop_of_length_le (by omega)];simp
  ·rw [List.drop_of_length_le (by omega)];simp[RepL]
 |p::l,[],o,h,hp=>by
  obtain⟨d,hd,_⟩:=hp 0 p rfl;simp at hd
 |p::l,d::ds,o,h,hp=>by
  have hle:=(inRow_le (p::l) o h).2 p (by simp);simp only[inRow,Bool.and_eq_true,beq_iff_eq]at h;obtain⟨ps,h1,h2,h20⟩:=parts_rep5 l ds _ h.2 (fun i q hq=>by simpa using hp (i+1) q (by simpa using hq));obtain⟨d',hd,ps0,h3,h4,h40⟩:=hp 0 p rfl;simp at hd;subst hd;have hl2:=(inRow_le l _ h.2).2;have e0:p.1=o:=h.1;have l0:ps0.length=P.cellsOf p.2:=by rw[h4.len,List.length_take,List.length_drop];omega
  refine⟨ps0++ps,?_,fun q hq=>?_,by rw[PV.bulkL_append];simp only[Rows.uptoBulkAll];omega⟩
  ·have:cs.drop o=(cs.drop p.1).take (P.cellsOf p.2)++cs.drop (o+P.cellsOf p.2):=by
    rw[e0, ← List.drop_drop,List.take_append_drop]
   rw[this];exact h4.append h1
  ·rcases List.mem_cons.1 hq with rfl|hq
   ·rw [e0,Nat.sub_self,List.drop_zero,List.take_append_of_le_length (by omega),List.take_of_length_le (by omega)];exact h3
   ·have h5:=hl2 q hq;have:q.1-o=ps0.length+(q.1-(o+P.cellsOf p.2)):=(by omega);rw[this, ← List.drop_drop,List.drop_left];exact h2 q hq
theorem arg_rec5{Ts:List TypeId}(hT:covC P Ts=true): ∀ (fuel:Nat)(t:TypeId),Ts.contains t=true→ ∀ (cs:List Value)(x:DataW H × List MemPlace),DataW.trod enc P w 0 sp held fuel t cs=some x→(∀ n∈x.1.weights P t,n≤reachBytes)→
  ∃ ps,Arg P fuel t ps∧RA w ps cs∧PV.bulkL ps≤Rows.uptoBulk x.1
 |0,_,_,_,_,hx,_=>by simp[DataW.trod]at hx
 |c+1,t,ht,cs,x,hx,hw=>by
  have h:=List.all_eq_true.1 hT t (by simpa using ht);split at h
  ·rename_i hu;obtain⟨b,rfl,rfl⟩:=DataW.trod_bool hu hx;refine⟨[.sc (.bool b)],?_,sc_RA rfl,by simp[PV.bulkL,PV.bulk,Rows.uptoBulk]⟩;unfold Arg;rw[hu];exact⟨b,rfl⟩
  ·rename_i k hu;obtain⟨n,rfl,rfl,hwf⟩:=DataW.trod_int hu hx;refine⟨[.sc (.int k n)],?_,sc_RA rfl,by simp[PV.bulkL,PV.bulk,Rows.uptoBulk]⟩;unfold Arg;rw[hu];exact⟨n,hwf,rfl⟩
  ·rename_i hu;obtain⟨s,rfl,rfl,hs⟩:=DataW.trod_string hu hx;refine⟨[.sc (.string s)],?_,sc_RA rfl,by have e:s.data.toList.length=s.size:=by{rw[Array.length_toList];try rfl};simp only[PV.bulkL,PV.bulk,Rows.uptoBulk];omega⟩;unfold Arg;rw[hu];refine⟨s,?_,rfl⟩;have:=hw s.data.toList.length (by simp[DataW.weights]);simpa using this
  ·rename_i e hu;simp only[Bool.and_eq_true,decide_eq_true_eq]at h;obtain⟨hpos,hcov⟩:=h;rcases DataW.trod_slice hu hx with⟨rfl,rfl⟩|⟨a,len,cap,elems,rest,n,hfu,rfl,rfl,hb,hl,hm,hlen,hel,hsp,hns⟩
   ·refine ⟨[.imm (P.cellsOf e) []],?_,⟨fun v hv=>?_,fun β n=>?_⟩,by simp[PV.bulkL,PV.bulk,PV.bulkR,Rows.uptoBulk]⟩
    ·unfold Arg;rw[hu];exact⟨[],rfl,by simp,by simp,by simp⟩
    ·simp at hv;subst hv;rfl
    ·simp only[RepL,Rep];exact⟨⟨none,0,rfl,Nat.le_refl _,Nat.zero_le _,.inl (by trivial)⟩,trivial⟩
   ·obtain rfl:c=n:=(by omega);have each: ∀ i,i<len→ ∃ r:List PV,(r.length=P.cellsOf e∧Arg P c e r∧ ∃ d,(elems.map (·.1))[i]? =some d∧PV.bulkL r≤Rows.uptoBulk d)∧ ∃ ci,RA w r ci∧ci.length=P.cellsOf e∧ ∀ j,j<P.cellsOf e→w.cell? ((a.add (i*P.cellsOf e)).add j)=ci[j]?:=by
     intro i hi;have h1:=hel i hi;have h2:elems[i]? =some (elems[i]'(by omega)):=List.getElem?_eq_getElem _;rw[h2,Option.bind_eq_some_iff]at h1;obtain⟨ci,h3,h4⟩:=h1;obtain⟨_,h5,h6⟩:=World.cells?_some h3;obtain⟨r,h7,h8,h80⟩:=arg_rec5 hT c e hcov ci _ h4 (fun m hm=>hw m (by
      simp only[DataW.weights,hu,List.mem_cons,List.mem_append];exact .inr (.inl (weightsAll_mem (i:=i) (by rw[List.getElem?_map,h2];try rfl) hm))))
     exact⟨r,⟨by rw[h8.len,h5],h7,_,by rw[List.getElem?_map,h2];try rfl,h80⟩,ci,h8,h5,h6⟩
    obtain⟨rows,hrl,hrows⟩:=exists_list len each;refine⟨[.imm (P.cellsOf e) rows],?_,⟨fun v hv=>?_,fun β m=>?_⟩,?_⟩
    ·unfold Arg;rw[hu];refine⟨rows,rfl,?_,by omega,fun r hr=>?_⟩
     ·have:=hw ((elems.map (·.1)).length*P.bytesOf e+(rest.map (·.1)).length*P.bytesOf e) (by
       simp only[DataW.weights,hu,List.mem_cons,Nat.add_mul,true_or])
      have h9:rows.length=(elems.map (·.1)).length:=(by simp[hrl,hlen]);rw[h9];exact Nat.le_trans (Nat.le_add_right _ _) this
     ·obtain ⟨i,hi⟩:=List.getElem?_of_mem hr;exact⟨(hrows i r hi).1.1,(hrows i r hi).1.2.1⟩
    ·simp at hv;subst hv;rfl
    ·simp only[RepL,Rep];refine⟨⟨some a,cap,by rw[hrl],by omega,hm,?_⟩,trivial⟩;by_cases h0:len=0
     ·left;exact List.length_eq_zero_iff.1 (by omega)
     ·right;obtain⟨_,_,c0,_,hc0,hcell0⟩:=each 0 (by omega);have h10:=hcell0 0 hpos;rw[List.getElem?_eq_getElem (by omega)]at h10;simp only[Nat.zero_mul,Addr.add,if_true]at h10;have hs:a.spot=none:=by
       unfold World.cell? at h10;split at h10
       ·split at h10
        ·simp at h10
        ·rename_i hsp;simpa using hsp
       ·simp at h10
      have hblk:a.block<w.heap.size:=by
       unfold World.cell? at h10;split at h10
       ·rename_i hh;exact(Array.getElem?_eq_some_iff.1 hh).1
       ·simp at h10
      refine⟨a.block,a.off,hblk,by cases a;simp only at hs;subst hs;rfl,?_⟩;rw[RepR_iff];intro i r hr;obtain⟨⟨g1,_⟩,ci,g2,g3,g4⟩:=hrows i r hr;refine⟨g1,?_⟩;rw[RepS_iff];intro j p hp;obtain⟨v,hv,hrep⟩:=(g2.2 β m).get hp;have hj:j<P.cellsOf e:=(by rw[← g3];exact(List.getElem?_eq_some_iff.1 hv).1);refine⟨v,?_,g2.1 v (List.mem_of_getElem? hv),hrep⟩;rw[← hv, ← g4 j hj];congr 1;cases a;simp only at hs;subst hs;simp only[Addr.add];split<;>split<;>simp_all<;>omega
    ·have hb5:=bulkR_le rows (elems.map (·.1)) (by simp[hrl,hlen]) fun i r hr=>(hrows i r hr).1.2.2;simp only[PV.bulkL,PV.bulk,Rows.uptoBulk];omega
  ·rename_i fs hu;simp only[Bool.and_eq_true,List.all_eq_true]at h;obtain⟨xs,n,hfu,rfl,hcl,hxl,hp⟩:=DataW.trod_struct hu hx;obtain rfl:c=n:=(by omega);have hpt:partsT P t=fs.toList.map fun f=>(f.offset,f.type):=(by unfold partsT;rw[hu]);obtain⟨ps,h1,h2,h30⟩:=parts_rep5 (w:=w) (c:=c) (cs:=cs) (partsT P t) (xs.map (·.1)) 0 (by rw[hcl];exact h.1) (fun i p hi=>by
    have hcv:=h.2 p (List.mem_of_getElem? hi);rw[hpt]at hi;rw[List.getElem?_map,Option.map_eq_some_iff]at hi;obtain⟨f,hf,rfl⟩:=hi;have hf':fs[i]? =some f:=(by simpa using hf);have hi':i<xs.length:=by
     rw[hxl];exact(Array.getElem?_eq_some_iff.1 hf').1
    have h3:=hp i f hf';rw[List.getElem?_eq_getElem hi']at h3;exact⟨xs[i].1,by rw[List.getElem?_map,List.getElem?_eq_getElem hi'];try rfl,arg_rec5 hT c f.type hcv _ _ h3 (fun m hm=>hw m (by
     simp only[DataW.weights,hu];exact DataW.weights_mem_each (j:=i) (t:=f.type) (d:=xs[i].1) (by rw[List.getElem?_map,hf];try rfl) (by rw[List.getElem?_map,List.getElem?_eq_getElem hi'];try rfl) m hm))⟩)
   refine⟨ps,?_,by simpa using h1,by simp only[Rows.uptoBulk];omega⟩;unfold Arg;rw[hu];exact⟨by rw[h1.len,List.drop_zero,hcl],fun p hpm=>by simpa using h2 p hpm⟩
  ·rename_i k e hu;simp only[Bool.and_eq_true,List.all_eq_true]at h;obtain⟨xs,n,hfu,rfl,hcl,hxl,hp⟩:=DataW.trod_array hu hx;obtain rfl:c=n:=(by omega);have hpt:partsT P t=(List.range k).map fun i=>(i*P.cellsOf e,e):=(by unfold partsT;rw[hu]);obtain⟨ps,h1,h2,h30⟩:=parts_rep5 (w:=w) (c:=c) (cs:=cs) (partsT P t) (xs.map (·.1)) 0 (by rw[hcl];exact h.1) (fun i p hi=>by
    have hcv:=h.2 p (List.mem_of_getElem? hi);rw[hpt,List.getElem?_map,Option.map_eq_some_iff]at hi;obtain⟨j,hj,rfl⟩:=hi;obtain⟨hjk,rfl⟩:=List.getElem?_range_some hj;have hi':i<xs.length:=(by rw[hxl];exact hjk);have h3:=hp i hjk;rw[List.getElem?_eq_getElem hi']at h3;exact⟨xs[i].1,by rw[List.getElem?_map,List.getElem?_eq_getElem hi'];try rfl,arg_rec5 hT c e hcv _ _ h3 (fun m hm=>hw m (by
     simp only[DataW.weights,hu];exact weightsAll_mem (i:=i) (d:=xs[i].1) (by rw[List.getElem?_map,List.getElem?_eq_getElem hi'];try rfl) hm))⟩)
   refine⟨ps,?_,by simpa using h1,by simp only[Rows.uptoBulk];omega⟩;unfold Arg;rw[hu];exact⟨by rw[h1.len,List.drop_zero,hcl],fun p hpm=>by simpa using h2 p hpm⟩
  ·simp at h
end
end Go.AM
namespace Go.AM
theorem bulkR_strs: ∀ l:List ByteArray,l.length≤PV.bulkR (strRows l)
 |[]=>by simp
 |s::l=>by
  have:=bulkR_strs l;simp only[strRows,List.map_cons,PV.bulkR,PV.bulkL,PV.bulk,List.length_cons]at this⊢;omega
mutual
theorem Ex.small_bulk: ∀ (e:Ex),PV.bulkL e.cells≤1048576→e.small
 | .mk op name n args kids,h=>by
  simp only[Ex.cells,PV.bulkL,PV.bulk]at h;simp only[Ex.small];have:=bulkR_strs args;exact⟨by omega,Ex.smalls_bulk kids (by omega)⟩
theorem Ex.smalls_bulk: ∀ (l:List Ex),PV.bulkR (Ex.rows l)≤1048576→Ex.smalls l
 |[],_=>by simp[Ex.smalls]
 |k::ks,h=>by
  simp only[Ex.rows,PV.bulkR]at h;simp only[Ex.smalls];exact⟨Ex.small_bulk k (by omega),Ex.smalls_bulk ks (by omega)⟩
end
mutual
theorem Sx.depth_nodes: ∀ (x:Sx),x.depth≤x.nodes
 | .mk kind _ _ _ _ kids=>by
  have:=Sx.depths_nodes kids 0;simp only[Sx.depth,Sx.nodes];split<;>omega
theorem Sx.depths_nodes: ∀ (l:List Sx)(m:Nat),Sx.depths m l≤max m (Sx.nodess l)
 |[],m=>by simp[Sx.depths,Sx.nodess]
 |k::ks,m=>by
  have h1:=Sx.depth_nodes k;have h2:=Sx.depths_nodes ks (max m k.depth);simp only[Sx.depths,Sx.nodess];omega
end
end Go.AM
namespace Go.Proofs.YtblgchkahpgdjaaGreat
open Go.AM
theorem nodess_words: ∀ l:List ByteArray,Sx.nodess (l.map wordM)=l.length
 |[]=>rfl
 |s::l=>by simp only[List.map_cons,Sx.nodess,word_nodes,nodess_words l,List.length_cons];omega
theorem words_nodes(first:ByteArray)(l:List ByteArray):(wordsM first l).nodes=l.length+2:=by
 simp only[wordsM,list_nodes,nodess_words,List.length_cons]
theorem exW_nodes: ∀ e:Ex,(exW e).nodes≤PV.bulkL e.cells:=by
 refine Ex.ind ?_;intro op name n args kids ih;have h1:=bulkR_strs args;simp only[Ex.cells,PV.bulkL,PV.bulk];unfold exW;split
 ·simp only[Sx.nodes,Sx.nodess];omega
 ·split
  ·rw [words_nodes];omega
  ·split
   ·rename_i a b;have ha:=ih a (by simp);have hb:=ih b (by simp);simp only[Ex.rows,PV.bulkR,list_nodes,Sx.nodess,word_nodes];omega
   ·simp only[list_nodes,Sx.nodess,word_nodes];omega
end Go.Proofs.YtblgchkahpgdjaaGreat
namespace Go.AM
theorem bulkR_pms: ∀ l:List Pm,2*l.length≤PV.bulkR (pmRows l)
 |[]=>by simp
 |s::l=>by
  have:=bulkR_pms l;simp only[pmRows,pmRow,List.map_cons,PV.bulkR,PV.bulkL,PV.bulk,List.length_cons]at this⊢;omega
theorem bulkR_fms: ∀ l:List Fm,l.length≤PV.bulkR (Fm.rows l)
 |[]=>by simp
 |s::l=>by
  have:=bulkR_fms l;cases s;simp only[Fm.rows,Fm.cells,PV.bulkR,PV.bulkL,PV.bulk,List.length_cons]at this⊢;omega
mutual
theorem Fm.small_bulk: ∀ (f:Fm),PV.bulkL f.cells≤1048576→f.small
 | .mk op name args params exprs kids,h=>by
  simp only[Fm.cells,PV.bulkL,PV.bulk]at h;simp only[Fm.small];have:=bulkR_strs args;have:=bulkR_pms params;have:=bulkR_fms kids;exact⟨by omega,by omega,Ex.smalls_bulk exprs (by omega),by omega,Fm.smalls_bulk kids (by omega)⟩
theorem Fm.smalls_bulk: ∀ (l:List Fm),PV.bulkR (Fm.rows l)≤1048576→Fm.smalls l
 |[],_=>by simp[Fm.smalls]
 |k::ks,h=>by
  simp only[Fm.rows,PV.bulkR]at h;simp only[Fm.smalls];exact⟨Fm.small_bulk k (by omega),Fm.smalls_bulk ks (by omega)⟩
end
end Go.AM
namespace Go.Proofs.YtblgchkahpgdjaaGreat
open Go.AM
theorem nodess_params: ∀ l:List Pm,Sx.nodess (paramsW l)=3*l.length
 |[]=>rfl
 |s::l=>by simp only[paramsW,Sx.nodess,word_nodes,nodess_params l,List.length_cons];omega
theorem exWs_nodes: ∀ l:List Ex,Sx.nodess (l.map exW)≤PV.bulkR (Ex.rows l)
 |[]=>by simp[Sx.nodess]
 |e::l=>by
  have h1:=exWs_nodes l;have h2:=exW_nodes e;simp only[List.map_cons,Sx.nodess,Ex.rows,PV.bulkR];omega
mutual
theorem fmW_nodes: ∀ f:Fm,(fmW f).nodes≤2*PV.bulkL f.cells
 | .mk op name args params exprs kids=>by
  have h1:=bulkR_strs args;have h2:=bulkR_pms params;have h3:=exWs_nodes exprs;have h4:=fmWs_nodes kids;simp only[Fm.cells,PV.bulkL,PV.bulk];unfold fmW;split
  ·rw [words_nodes];omega
  ·split
   ·rw [words_nodes];omega
   ·split
    ·simp only[list_nodes,Sx.nodess,word_nodes];omega
    ·simp only[list_nodes,nodess_append];split<;>split<;>simp only[Sx.nodess,word_nodes,list_nodes,nodess_params]<;>omega
theorem fmWs_nodes: ∀ l:List Fm,Sx.nodess (fmWs l)≤2*PV.bulkR (Fm.rows l)
 |[]=>by simp[fmWs,Sx.nodess]
 |k::l=>by
  have h1:=fmW_nodes k;have h2:=fmWs_nodes l;simp only[fmWs,Sx.nodess,Fm.rows,PV.bulkR];omega
end
theorem fmW_nodes_big{f:Fm}(h:PV.bulkL f.cells≤1048576):(fmW f).nodes≤bigN:=by
 have:=fmW_nodes f;unfold bigN;omega
theorem fmW_depth_big{f:Fm}(h:PV.bulkL f.cells≤1048576):(fmW f).depth≤bigN:=by
 have:=fmW_nodes f;have:=Sx.depth_nodes (fmW f);unfold bigN;omega
end Go.Proofs.YtblgchkahpgdjaaGreat
namespace Go.Proofs.YtblgchkahpgdjaaGreat
open Go.AM
set_option maxHeartbeats 4000000
set_option maxRecDepth 20000
theorem ch_bulk(c:Ch):PV.bulkR (pmRows c.params)+PV.bulkL c.cond.cells+PV.bulkR (strRows c.args)+PV.bulkL c.value.cells+4≤PV.bulkL (chRow c):=by
 obtain⟨kd,P,f,n,a,v⟩:=c;simp only[chRow,List.cons_append,List.nil_append,PV.bulkL_append,PV.bulkL,PV.bulk,sPV];omega
theorem nd_word(s:ByteArray):(wordM s).nodes=1:=rfl
theorem nd2(a b:Sx):(listM [a,b]).nodes=a.nodes+b.nodes+1:=by simp only[listM,Sx.nodes,Sx.nodess];omega
theorem nd3(a b c:Sx):(listM [a,b,c]).nodes=a.nodes+b.nodes+c.nodes+1:=by simp only[listM,Sx.nodes,Sx.nodess];omega
theorem ch1W_nodes(c:Ch):(ch1W c).nodes≤c.args.length+PV.bulkL c.value.cells+4:=by
 have e:=exW_nodes c.value;have w:(fmW (atF c)).nodes=c.args.length+2:=by rw[fmW_atF];exact words_nodes _ _
 unfold ch1W;cases c.kind==2<;>cases c.kind==3<;>cases c.kind==4<;>cases c.kind==5<;>simp only[cond_true,cond_false,nd2,nd3,nd_word,w]<;>omega
theorem chW_nodes(c:Ch):(chW c).nodes≤4*PV.bulkL (chRow c):=by
 have h1:=ch1W_nodes c;have hb:=ch_bulk c;have hf:=fmW_nodes c.cond;have p2:=bulkR_strs c.args;have p1:=bulkR_pms c.params;have h2:(ch2W c).nodes≤(ch1W c).nodes+2*PV.bulkL c.cond.cells+2:=by
  unfold ch2W;cases tru c.cond with
  |true=>simp only[cond_true];omega
  |false=>simp only[cond_false,nd3,nd_word];omega
 have h3:(listM (paramsW c.params)).nodes=3*c.params.length+1:=by simp only[listM,Sx.nodes,nodess_params]
 unfold chW;cases c.params.isEmpty with
 |true=>simp only[cond_true];omega
 |false=>simp only[cond_false,nd3,nd_word,h3];omega
theorem chW_ok{c:Ch}(hR:chR c=true)(h:c.ok)(hs:ChSm c):(chW c).ok:=by
 simp only[chR,Bool.and_eq_true,Bool.not_eq_true']at hR;obtain⟨_,_,_,r4,_,_⟩:=hR;have hw:(fmW (atF c)).ok:=by rw[fmW_atF];exact wordsM_ok h.name hs.args h.args.2
 have hx:=exW_ok c.value h.value hs.value;have h1:(ch1W c).ok:=by
  unfold ch1W;cases c.kind==2 with
  |true=>exact ok2 (wordM_ok (by decide)) hw
  |false=>
   cases c.kind==3 with
   |true=>exact ok3 (wordM_ok (by decide)) hw hx
   |false=>
    cases c.kind==4 with
    |true=>exact ok3 (wordM_ok (by decide)) hw hx
    |false=>
     cases c.kind==5 with
     |true=>exact ok3 (wordM_ok (by decide)) hw hx
     |false=>exact hw
 have h2:(ch2W c).ok:=by
  unfold ch2W;cases tru c.cond with
  |true=>exact h1
  |false=>exact ok3 (wordM_ok (by decide)) (fmW_ok _ h.cond hs.cond r4) h1
 unfold chW;cases c.params.isEmpty with
 |true=>exact h2
 |false=>exact ok3 (wordM_ok (by decide)) (listM_ok (by rw[paramsW_len];have:=hs.params;unfold bigN;omega) (paramsW_ok _ h.params.2)) h2
theorem effW_ok{l:List Ch}(hl:l.length≤1048576)(hR:l.all chR=true)(h: ∀ c∈l,c.ok∧ChSm c):(effW l).ok:=by
 rw[List.all_eq_true]at hR;unfold effW;cases l.isEmpty with
 |true=>exact listM_ok (by simp) trivial
 |false=>
  refine listM_ok (by simp only[List.length_cons,List.length_map,bigN];omega) ⟨wordM_ok (by decide),?_⟩;rw[Sx.oks_iff];intro k hk;rw[List.mem_map]at hk;obtain⟨c,hc,rfl⟩:=hk;exact chW_ok (hR c hc) (h c hc).1 (h c hc).2
theorem chs_refl(l:List Ch):chsEq l l=true:=chsEq_refl l
end Go.Proofs.YtblgchkahpgdjaaGreat
namespace Go.Proofs.YtblgchkahpgdjaaGreat
open Go.AM
set_option maxRecDepth 8000
set_option maxHeartbeats 1000000
structure Ly where
 params:List Pm
 cond:Fm
structure Ly.ok(l:Ly):Prop where
 params:l.params.length≤bigN∧ ∀ p∈l.params,p.ok
 cond:l.cond.ok
def lyRow(l:Ly):List PV:= .imm 2 (pmRows l.params)::l.cond.cells
def lyRows(l:List Ly):List (List PV):=l.map lyRow
theorem lyRows_len(l:List Ly):(lyRows l).length=l.length:=by simp[lyRows]
theorem lyRows_get{l:List Ly}{i:Nat}{a:Ly}(h:l[i]? =some a):(lyRows l)[i]? =some (lyRow a):=by simp[lyRows,h]
def lyB(l:Ly):Bool:=bif l.params.isEmpty then validF l.cond else(decide (l.params.length≤8)&&l.params.all (pmR true))
def lyX(l:Ly)(x:Sx):Sx:=bif l.params.isEmpty then listM [wordM opWhen,fmW l.cond,x]else listM [wordM opAll,listM (paramsW l.params),x]
def lyC(l:Ly):List Fm:=bif l.params.isEmpty then[l.cond]else[]
def nestX(ls:List Ly)(x:Sx):Sx:=ls.foldr lyX x
def nestP(ls:List Ly):List Pm:=ls.flatMap (·.params)
def nestC(ls:List Ly):List Fm:=ls.flatMap lyC
theorem effP_nest(x:Sx): ∀ (ls:List Ly)(S:Sco),ls.all lyB=true→effP (nestX ls x) S=effP x ⟨S.params++nestP ls,S.whens++nestC ls⟩
 |[],S,_=>by simp[nestX,nestP,nestC]
 |l::ls,S,h=>by
  rw[List.all_cons,Bool.and_eq_true]at h;have ih:=effP_nest x ls;have hx:nestX (l::ls) x=lyX l (nestX ls x):=rfl;have hp:nestP (l::ls)=l.params++nestP ls:=by simp[nestP]
  have hc:nestC (l::ls)=lyC l++nestC ls:=by simp[nestC]
  rw[hx,hp,hc];have h1:=h.1;unfold lyB at h1;unfold lyX lyC;cases q:l.params.isEmpty with
  |true=>
   rw[q,cond_true]at h1;rw[cond_true,cond_true,effP_when,parseF_fmW h1];simp only[beq_self_eq_true,cond_true];rw[ih _ h.2,List.isEmpty_iff.1 q];simp
  |false=>
   rw[q,cond_false,Bool.and_eq_true]at h1;rw[cond_false,cond_false,effP_all,paramsP_W (l:=l.params) ?_]
   ·simp only[beq_self_eq_true,cond_true];rw[ih _ h.2];simp
   ·have hp:=h1.2;rw[List.all_eq_true]at hp⊢;intro y hy;have:=hp y hy;rw[← parB_pmR]at this;unfold parB at this;unfold pmOk typedB;rw[Bool.or_comm];simpa using this
def nmP:ByteArray:=⟨#[112]⟩
def nmX:ByteArray:=⟨#[63,120]⟩
def atmX(d:Bool):Sx:=bif d then listM [wordM opNot,wordsM nmP [nmX]]else wordsM nmP [nmX]
def nestCh(d:Bool)(ls:List Ly):Ch:=⟨bif d then 2 else 1,nestP ls,condS (nestC ls),nmP,[nmX],zeroEx⟩
theorem nameB_p:nameB nmP=true:=by decide+kernel
theorem termB_x:[nmX].all termB=true:=by decide+kernel
theorem effP_nestX{d:Bool}{ls:List Ly}(h:ls.all lyB=true):effP (nestX ls (atmX d)) ⟨[],[]⟩=([nestCh d ls],0):=by
 rw[effP_nest _ _ _ h];unfold atmX nestCh;cases d with
 |true=>rw[cond_true,effP_not,oneP_words nameB_p termB_x];simp[chgS]
 |false=>rw[cond_false,effP_words nameB_p termB_x];simp[chgS]
theorem parseEf_nest{d:Bool}{ls:List Ly}(h:ls.all lyB=true):parseEf (nestX ls (atmX d))=if(svalid (nestX ls (atmX d)) 0 0).1=true then(if writeRB [nestCh d ls]=true then([nestCh d ls],0)else([],5))else([],2):=by
 unfold parseEf;rw[effP_nestX h];simp only[write_same,if_true]
theorem nestP_ok{ls:List Ly}(h:ls.all lyB=true):(nestP ls).all (pmR true)=true:=by
 rw[List.all_eq_true];intro p hp;obtain⟨l,hl,hp⟩:=List.mem_flatMap.1 hp;have:=List.all_eq_true.1 h l hl;unfold lyB at this;cases q:l.params.isEmpty with
 |true=>rw[List.isEmpty_iff.1 q]at hp;simp at hp
 |false=>
  rw[q,cond_false,Bool.and_eq_true]at this;exact List.all_eq_true.1 this.2 p hp
theorem nestC_ok{ls:List Ly}(h:ls.all lyB=true): ∀ f∈nestC ls,validF f=true:=by
 intro f hf;obtain⟨l,hl,hf⟩:=List.mem_flatMap.1 hf;have:=List.all_eq_true.1 h l hl;unfold lyB at this;unfold lyC at hf;cases q:l.params.isEmpty with
 |true=>rw[q,cond_true]at this hf;rw[List.mem_singleton]at hf;rw[hf];exact this
 |false=>rw[q,cond_false]at hf;simp at hf
theorem shp_and{l:List Fm}:shapedF (.mk opAnd ⟨#[]⟩ [] [] [] l)=shapedFs l:=by
 have h1:shapeOf opAnd l.length=some (0,l.length,false):=by
  unfold shapeOf;rw[if_neg (by decide+kernel),if_neg (by decide+kernel),if_neg (by decide+kernel),if_neg (by decide+kernel),if_neg (by decide+kernel),if_pos (by decide+kernel)]
 have h2:termsOk opAnd ⟨#[]⟩ []=true:=by decide+kernel
 unfold shapedF partsOk;rw[h1,h2];simp
theorem condS_shp{l:List Fm}(h: ∀ f∈l,shapedF f=true):shapedF (condS l)=true:=by
 match l,h with
 |[],_=>exact shp_and
 |[f],h=>exact h f (List.mem_singleton.2 rfl)
 |a::b::l,h=>
  unfold condS;rw[shp_and,shapedFs_iff];exact h
theorem nest_chR{d:Bool}{ls:List Ly}(h:ls.all lyB=true):chR (nestCh d ls)=true:=by
 have h1:shapedF (condS (nestC ls))=true:=condS_shp fun f hf=>validF_shaped (nestC_ok h f hf);have h2:=nestP_ok h;have h3:shapedF (atF (nestCh d ls))=true:=by rw[shapedF_atF];show(nameB nmP&&[nmX].all termB)=true;rw[nameB_p,termB_x];try rfl
 unfold chR;rw[h3];cases d<;>simp[nestCh,h1,h2]<;>decide+kernel
theorem writeRB_nest{d:Bool}{ls:List Ly}(h:ls.all lyB=true):writeRB [nestCh d ls]=(svalid (effW [nestCh d ls]) 0 0).1:=by
 unfold writeRB;rw[List.all_cons,nest_chR h,List.all_nil];simp
theorem nestC_len: ∀ ls:List Ly,(nestC ls).length≤ls.length
 |[]=>by simp[nestC]
 |l::ls=>by
  have ih:=nestC_len ls;have hc:nestC (l::ls)=lyC l++nestC ls:=by simp[nestC]
  have h1:(lyC l).length≤1:=by unfold lyC;cases l.params.isEmpty<;>simp
  rw[hc,List.length_append,List.length_cons];omega
theorem nestP_len: ∀ {ls:List Ly},ls.all lyB=true→(nestP ls).length≤8*ls.length
 |[],_=>by simp[nestP]
 |l::ls,h=>by
  rw[List.all_cons,Bool.and_eq_true]at h;have ih:=nestP_len h.2;have hp:nestP (l::ls)=l.params++nestP ls:=by simp[nestP]
  have h1:=h.1;unfold lyB at h1;have h2:l.params.length≤8:=by
   cases q:l.params.isEmpty with
   |true=>rw[List.isEmpty_iff.1 q];simp
   |false=>rw[q,cond_false,Bool.and_eq_true]at h1;exact of_decide_eq_true h1.1
  rw[hp,List.length_append,List.length_cons];omega
theorem ly_bulk(l:Ly):PV.bulkR (pmRows l.params)+PV.bulkL l.cond.cells+1=PV.bulkL (lyRow l):=by
 simp only[lyRow,PV.bulkL,PV.bulk];omega
theorem lys_bulk_mem{l:Ly}: ∀ {ls:List Ly},l∈ls→PV.bulkL (lyRow l)≤PV.bulkR (lyRows ls)
 |d::ls,h=>by
  have e:lyRows (d::ls)=lyRow d::lyRows ls:=rfl;rw[e];simp only[PV.bulkR];rcases List.mem_cons.1 h with rfl|h
  ·omega
  ·have:=lys_bulk_mem h;omega
theorem bulkR_app: ∀ l m:List (List PV),PV.bulkR (l++m)=PV.bulkR l+PV.bulkR m
 |[],m=>by simp[PV.bulkR]
 |p::l,m=>by simp only[List.cons_append,PV.bulkR,bulkR_app l m];omega
theorem nest_bulk: ∀ ls:List Ly,PV.bulkR (pmRows (nestP ls))+PV.bulkR (Fm.rows (nestC ls))≤PV.bulkR (lyRows ls)
 |[]=>by simp[nestP,nestC,pmRows,Fm.rows,PV.bulkR]
 |l::ls=>by
  have ih:=nest_bulk ls;have hp:nestP (l::ls)=l.params++nestP ls:=by simp[nestP]
  have hc:nestC (l::ls)=lyC l++nestC ls:=by simp[nestC]
  have e:lyRows (l::ls)=lyRow l::lyRows ls:=rfl;have e1:pmRows (l.params++nestP ls)=pmRows l.params++pmRows (nestP ls):=by simp[pmRows]
  have e2:Fm.rows (lyC l++nestC ls)=Fm.rows (lyC l)++Fm.rows (nestC ls):=by simp[Fm.rows_map]
  have h1:PV.bulkR (Fm.rows (lyC l))≤PV.bulkL l.cond.cells:=by
   unfold lyC;cases l.params.isEmpty<;>simp[Fm.rows,PV.bulkR]
  have hb:=ly_bulk l;rw[hp,hc,e,e1,e2,bulkR_app,bulkR_app];simp only[PV.bulkR];omega
theorem condS_bulk(l:List Fm):PV.bulkL (condS l).cells≤PV.bulkR (Fm.rows l)+12:=by
 match l with
 |[]=>decide+kernel
 |[f]=>simp only[condS,Fm.rows,PV.bulkR];omega
 |a::b::l=>
  have:opAnd.size=3:=rfl;have e0:(ByteArray.mk #[]).size=0:=rfl;simp only[condS,Fm.cells,PV.bulkL,PV.bulk,sPV,strRows,pmRows,Ex.rows,List.map_nil,PV.bulkR,this,e0];omega
theorem nestCh_bulk{d:Bool}{ls:List Ly}:PV.bulkL (chRow (nestCh d ls))≤PV.bulkR (lyRows ls)+60:=by
 have h1:=nest_bulk ls;have h2:=condS_bulk (nestC ls);have h3:PV.bulkL zeroEx.cells+PV.bulk (.imm 1 (strRows [nmX]))+PV.bulk (sPV nmP)≤30:=by decide+kernel
 simp only[nestCh,chRow,List.cons_append,List.nil_append,PV.bulkL_append,PV.bulkL];have h4:PV.bulk (.imm 2 (pmRows (nestP ls)))=PV.bulkR (pmRows (nestP ls))+1:=by simp only[PV.bulk]
 simp only[PV.bulk]at h3 h4⊢;omega
structure LyS(l:Ly):Prop where
 ok:l.ok
 sm:l.cond.small
 dep:(fmW l.cond).depth≤bigN
 nod:(fmW l.cond).nodes≤bigN
 plen:l.params.length≤1048576
theorem lyS_of{ls:List Ly}(hok: ∀ l∈ls,l.ok)(hb:PV.bulkR (lyRows ls)≤1048576){l:Ly}(h:l∈ls):LyS l:=by
 have h1:=lys_bulk_mem h;have h2:=ly_bulk l;have h3:=bulkR_pms l.params;exact⟨hok l h,Fm.small_bulk _ (by omega),fmW_depth_big (by omega),fmW_nodes_big (by omega),by omega⟩
theorem nestCh_ok{d:Bool}{ls:List Ly}(hok: ∀ l∈ls,l.ok)(hb:PV.bulkR (lyRows ls)≤1048576):(nestCh d ls).ok∧ChSm (nestCh d ls):=by
 have h1:=nest_bulk ls;have h2:=bulkR_pms (nestP ls);have h3:=bulkR_fms (nestC ls);have hc: ∀ f∈nestC ls,f.ok∧f.small:=by
  intro f hf;obtain⟨l,hl,hf⟩:=List.mem_flatMap.1 hf;have:=lyS_of hok hb hl;unfold lyC at hf;cases q:l.params.isEmpty with
  |true=>rw[q,cond_true,List.mem_singleton]at hf;subst hf;exact⟨this.ok.cond,this.sm⟩
  |false=>rw[q,cond_false]at hf;simp at hf
 have hk:=condS_ok hc (by omega);have hp: ∀ p∈nestP ls,p.ok:=by
  intro p hp;obtain⟨l,hl,hp⟩:=List.mem_flatMap.1 hp;exact(lyS_of hok hb hl).ok.params.2 p hp
 refine⟨⟨⟨by show(nestP ls).length≤bigN;unfold bigN;omega,hp⟩,hk.1,⟨by simp[nestCh,bigN],by simp[nestCh,nmX,bigN];decide⟩,zeroEx_ok.1,by show nmP.size≤bigN;decide+kernel,by cases d<;>simp[nestCh]⟩,⟨hk.2,zeroEx_ok.2,by show(nestP ls).length≤1048576;omega,by simp[nestCh]⟩⟩
theorem effN_nodes{d:Bool}{ls:List Ly}(hb:PV.bulkR (lyRows ls)≤1048576):(effW [nestCh d ls]).nodes≤bigN∧(effW [nestCh d ls]).depth≤bigN:=by
 have h1:=chW_nodes (nestCh d ls);have h2:=nestCh_bulk (d:=d) (ls:=ls);have:(effW [nestCh d ls]).nodes≤bigN:=by
  unfold effW;simp only[List.isEmpty_cons,cond_false,List.map_cons,List.map_nil,nd2,nd_word,bigN];omega
 exact⟨this,Nat.le_trans (Sx.depth_nodes _) this⟩
theorem effN_ok{d:Bool}{ls:List Ly}(h:ls.all lyB=true)(hok: ∀ l∈ls,l.ok)(hb:PV.bulkR (lyRows ls)≤1048576):(effW [nestCh d ls]).ok:=
 effW_ok (by simp) (by rw[List.all_cons,nest_chR h,List.all_nil];try rfl) (fun c hc=>by rw[List.mem_singleton]at hc;subst hc;exact nestCh_ok hok hb)
theorem atmX_ok(d:Bool):(atmX d).ok:=by
 have hw:(wordsM nmP [nmX]).ok:=wordsM_ok (by decide) (by simp) (fun s hs=>by rw[List.mem_singleton]at hs;subst hs;decide);cases d with
 |true=>exact ok2 (wordM_ok (by decide)) hw
 |false=>exact hw
theorem nestX_ok{x:Sx}(hx:x.ok): ∀ {ls:List Ly},ls.all lyB=true→(∀ l∈ls,LyS l)→(nestX ls x).ok
 |[],_,_=>hx
 |l::ls,h,hs=>by
  rw[List.all_cons,Bool.and_eq_true]at h;have ih:=nestX_ok hx h.2 fun y hy=>hs y (List.mem_cons_of_mem _ hy);have hl:=hs l (List.mem_cons_self ..);have hy:nestX (l::ls) x=lyX l (nestX ls x):=rfl;rw[hy];have h1:=h.1;unfold lyB at h1;unfold lyX;cases q:l.params.isEmpty with
  |true=>
   rw[q,cond_true]at h1;exact ok3 (wordM_ok (by decide)) (fmW_ok _ hl.ok.cond hl.sm (validF_shaped h1)) ih
  |false=>exact ok3 (wordM_ok (by decide)) (listM_ok (by rw[paramsW_len];have:=hl.plen;unfold bigN;omega) (paramsW_ok _ hl.ok.params.2)) ih
theorem nestX_nodes{x:Sx}: ∀ ls:List Ly,(nestX ls x).nodes≤4*PV.bulkR (lyRows ls)+x.nodes
 |[]=>by simp[nestX]
 |l::ls=>by
  have ih:=nestX_nodes (x:=x) ls;have hy:nestX (l::ls) x=lyX l (nestX ls x):=rfl;have e:lyRows (l::ls)=lyRow l::lyRows ls:=rfl;have hb:=ly_bulk l;have hf:=fmW_nodes l.cond;have hp:=bulkR_pms l.params;have h3:(listM (paramsW l.params)).nodes=3*l.params.length+1:=by simp only[listM,Sx.nodes,nodess_params]
  rw[hy,e];unfold lyX;have h6:6≤PV.bulkL l.cond.cells:=by obtain⟨_,_,_,_,_,_⟩:=l.cond;simp only[Fm.cells,PV.bulkL,PV.bulk,sPV];omega
  cases q:l.params.isEmpty with
  |true=>simp only[cond_true,nd3,nd_word,PV.bulkR];omega
  |false=>simp only[cond_false,nd3,nd_word,h3,PV.bulkR];omega
theorem atmX_nodes(d:Bool):(atmX d).nodes≤10:=by cases d<;>decide+kernel
theorem nestX_big{d:Bool}{ls:List Ly}(hb:PV.bulkR (lyRows ls)≤1048576):(nestX ls (atmX d)).nodes≤bigN∧(nestX ls (atmX d)).depth≤bigN:=by
 have h1:=nestX_nodes (x:=atmX d) ls;have h2:=atmX_nodes d;have:(nestX ls (atmX d)).nodes≤bigN:=by unfold bigN;omega
 exact⟨this,Nat.le_trans (Sx.depth_nodes _) this⟩
end Go.Proofs.YtblgchkahpgdjaaGreat
namespace Go.Proofs.YtblgchkahpgdjaaGreat
open Go.AM
set_option maxHeartbeats 4000000
set_option maxRecDepth 20000
theorem rvalidF_c{f:Fm}(hok:f.ok)(hsm:f.small)(hd:(fmW f).depth≤bigN)(h:Heap):PCall Tryz.prog 32 [.agg f.cells] h fun r h'=>r= .sc (.bool (shapedF f&&rvalidB (fmW f)))∧h'=h:=by
 have hs:=rshapedF_c f hok;cases hb:shapedF f with
 |false=>
  rw[hb]at hs;obtain⟨op,name,args,params,exprs,kids⟩:=f;simp only[Fm.cells]at hs⊢;refine uG0 Tryz.func32 Tryz.ntmps32 Tryz.results32 Ty.hb_32 ?_;repeat'(first|refine G fun K J=>?_|refine uR trivial ?_|(refine O J ?_;clear J)|apply zI)
  refine uU trivial (hs _) ?_;repeat'(first|refine uT trivial ?_|(refine O J ?_;clear J)|apply zI)
  all_goals rfl
 |true=>
  rw[hb]at hs;have hx:=fmW_ok f hok hsm hb;have hw:=rwriteF_c f hsm hb;have hv:=rvalid_c hx hd;have hq:rvalidB (fmW f)=(shapedS (fmW f)&&decide (((fmW f).depth:Int)≤32)&&decide ((fmW f).count≤4096)):=rfl;rw[← hq]at hv;try clear Z
  clear hq;generalize rvalidB (fmW f)=bb at hv⊢;generalize fmW f=X at hw hv;obtain⟨op,name,args,params,exprs,kids⟩:=f;obtain⟨ki,va,li,co,te,ks⟩:=X;simp only[Fm.cells,Sx.cells,Bool.true_and]at hs hw hv⊢;refine uG0 Tryz.func32 Tryz.ntmps32 Tryz.results32 Ty.hb_32 ?_;repeat'(first|refine G fun K J=>?_|refine uR trivial ?_|(refine O J ?_;clear J)|apply zI)
  refine uU trivial (hs _) ?_;try apply zI
  refine uU trivial (hw _) ?_;try apply zI
  refine uU trivial (hv _) ?_;repeat'(first|refine uT trivial ?_|(refine O J ?_;clear J)|apply zI)
end Go.Proofs.YtblgchkahpgdjaaGreat
namespace Go.Proofs.YtblgchkahpgdjaaGreat
open Go.AM
set_option maxHeartbeats 8000000
set_option maxRecDepth 20000
theorem lword9_c{s:ByteArray}(h:Heap):PCall Tryz.prog 28 [sPV s] h fun r h'=>r= .agg (wordM s).cells∧h'=h:=by
 refine PCall.frz Ty.hb_28 ?_;refine uG0 Tryz.func28 Tryz.ntmps28 Tryz.results28 Ty.hb_28 ?_;repeat'(first|refine G fun K J=>?_|refine uR trivial ?_|refine uT trivial ?_|(refine O J ?_;clear J)|apply zI)
 refine⟨?_,((Grow.refl h).new _).set (Nat.le_refl _) _⟩;simp only[wordM,Sx.cells,Sx.rows,FrzTo,FrzL];exact⟨_,rfl,rfl,rfl,rfl,rfl,rfl,.inr (.inl ⟨rfl,.inr rfl⟩),trivial⟩
theorem llist9_c(l:List Sx)(h:Heap):PCall Tryz.prog 27 [.imm 6 (Sx.rows l)] h fun r h'=>r= .agg (listM l).cells∧h'=h:=by
 refine PCall.frz Ty.hb_27 ?_;refine uG0 Tryz.func27 Tryz.ntmps27 Tryz.results27 Ty.hb_27 ?_;repeat'(first|refine G fun K J=>?_|refine uR trivial ?_|refine uT trivial ?_|(refine O J ?_;clear J)|apply zI)
 refine⟨?_,((Grow.refl h).new _).set (Nat.le_refl _) _⟩;simp only[listM,Sx.cells,FrzTo,FrzL];exact⟨_,rfl,rfl,rfl,rfl,rfl,rfl,.inl ⟨rfl,sxs_in _ _⟩,trivial⟩
theorem a_genN{P:Program}{ow:Nat→Bool}{wf:FuncId→Bool}{n:Nat}{Q:Post}{s:Slots}{h:Heap}{c:Code}(I:Slots→Heap→Prop)(hi:I s h)(hh: ∀ s h,I s h→awp P ow wf n c Q s h):awp P ow wf n c Q s h:=hh _ _ hi
theorem frzN_sc{n:Nat}{H:Heap}{v:Value}:FrzTo n H (.sc v) (.sc v):=by simp only[FrzTo]
theorem frzN_nil{n z:Nat}{H:Heap}:FrzTo n H (.imm z []) (.sc (.slice none 0 0)):=by simp[FrzTo]
theorem frzN_imm{n z:Nat}{H:Heap}{R:List (List PV)}(h:inNR n R):FrzTo n H (.imm z R) (.imm z R):=by simp only[FrzTo];exact .inl ⟨trivial,h⟩
structure NsI(R:List (List PV))(d:Bool)(X:Sx)(P:List Pm)(C:List Fm)(S:Slots)(H:Heap):Prop where
 s0:S 0= .imm 7 R
 s5:S 5= .ptr 0 0 0
 s6:S 6= .sc (.int .i64 (bif d then 2 else 1))
 s7:S 7= .imm 2 (pmRows P)
 s8:S 8= .imm 6 (Fm.rows C)
 nx:1≤H.next
 o0:H.obj 0=some (.arr 6 [X.cells])
theorem domainNested_c{ls:List Ly}{d:Bool}(hok: ∀ l∈ls,l.ok)(hbk:PV.bulkR (lyRows ls)≤1048576):PCall Tryz.prog 7 [.imm 7 (lyRows ls),.sc (.bool d)] Heap.nil fun r _=>r= .sc (.bool true):=by
 have hlen:=lyRows_len ls;cases q8:decide ((ls.length:Int)>8)with
 |true=>
  generalize lyRows ls=R at hlen;refine uG0 Tryz.func7 Tryz.ntmps7 Tryz.results7 Ty.hb_7 ?_;repeat'(first|refine G fun K J=>?_|refine uR (U hlen q8) ?_|(refine O J ?_;clear J)|apply zI)
  refine uU trivial (dmAwake_c) ?_;repeat'(first|refine uT trivial ?_|(refine O J ?_;clear J)|apply zI)
 |false=>
  have hl8:ls.length≤8:=by simp at q8;omega
  have hget: ∀ (k:Nat)(a:Ly),ls[k]? =some a→(lyRows ls)[k]? =some (.imm 2 (pmRows a.params)::a.cond.cells):=fun k a h=>lyRows_get h;have hS:=fun(a:Ly)(ha:a∈ls)=>lyS_of hok hbk ha;have hw1:=fun h=>lword9_c (s:=nmP) h;have hw2:=fun h=>lword9_c (s:=nmX) h;have hw3:=fun h=>lword9_c (s:=opNot) h;have hw4:=fun h=>lword9_c (s:=opAll) h;have hw5:=fun h=>lword9_c (s:=opWhen) h;have hl1:=fun h=>llist9_c [wordM nmP,wordM nmX] h;have hl2:=fun h=>llist9_c [wordM opNot,listM [wordM nmP,wordM nmX]] h;simp only[nmP,nmX,opNot,opAll,opWhen,sPV,wordM,listM,Sx.cells,Sx.rows]at hw1 hw2 hw3 hw4 hw5 hl1 hl2;generalize hR:lyRows ls=R at hlen hget;refine uG (ow:=fun t=>t==5||t==10||t==111) (wf:=fun _=>false) Tryz.func7 Tryz.ntmps7 Tryz.results7 Ty.hb_7 ?_;repeat'(first|refine G fun K J=>?_|refine uR (U hlen q8) ?_|(refine O J ?_;clear J)|apply zI)
  refine uU @Bool.not_true (dmAwake_c) ?_;repeat'(first|refine G fun K J=>?_|refine uR @Bool.not_true ?_|refine uK ?_|refine uC1 @Bool.not_true ?_|(refine O J ?_;clear J)|apply zI)
  refine uU trivial (hw1 _) ?_;try apply zI
  refine uU trivial (hw2 _) ?_;try apply zI
  refine uU trivial (hl1 _) ?_;repeat'(first|with_reducible refine a_hold 4 ?_|(refine O J ?_;clear J)|apply zI)
  refine⟨?_⟩;refine a_cut (fun S H=>S 0= .imm 7 R∧S 5= .ptr 0 0 0∧S 6= .sc (.int .i64 (bif d then 2 else 1))∧H.next=1∧H.obj 0=some (.arr 6 [(atmX d).cells])) ?_ ?_
  ·cases d with
   |false=>
    (repeat'(first|refine G fun K J=>?_|refine uR trivial ?_|refine uK ?_|refine uC1 trivial ?_|(refine O J ?_;clear J)|apply zI));exact⟨by simp only[Ty.w,simprocAttr],by simp only[Ty.w,simprocAttr];rfl,by simp only[Ty.w,simprocAttr,cond_false],rfl,obj_at.trans rfl⟩
   |true=>
    (repeat'(first|refine G fun K J=>?_|refine uR trivial ?_|refine uD trivial ?_|refine uC1 trivial ?_|(refine O J ?_;clear J)|apply zI));(first|refine uV trivial (hw3 _) ?_|refine uA trivial (hw3 _) ?_);(try apply zI);(first|refine uV trivial (hl2 _) ?_|refine uA trivial (hl2 _) ?_);(repeat'(first|refine uB trivial ?_|apply zI));exact⟨rfl,rfl,rfl,(if_pos rfl).trans rfl⟩
  ·rintro S H ⟨s0,s5,s6,nx,o0⟩;(try clear Z);clear hw1 hw2 hw3 hl1 hl2;(repeat'(first|with_reducible refine a_hold 8 ?_|refine G fun K J=>?_|refine uR (U s0 (U s5 s6)) ?_|(refine O J ?_;clear J)|apply zI));refine⟨?_⟩;refine a_drop 1 [(7,.imm 2 []),(8,.imm 6 [])] rfl (by simp only[nx];exact Nat.le_refl _) ?_ ?_
   ·intro x hx;simp only[List.mem_cons,List.not_mem_nil,or_false]at hx;rcases hx with rfl|rfl
    ·simp only[Ty.w,simprocAttr,FrzTo]
    ·simp only[Ty.w,simprocAttr,FrzTo]
   refine a_genN (NsI R d (atmX d) [] []) ⟨by simp only[frzS,Ty.w,simprocAttr,s0],by simp only[frzS,Ty.w,simprocAttr,s5],by simp only[frzS,Ty.w,simprocAttr,s6],by simp only[frzS,Ty.w,simprocAttr];rfl,by simp only[frzS,Ty.w,simprocAttr];rfl,by simp only[below,nx];exact Nat.le_refl _,by simp only[below];exact(if_pos (by omega)).trans o0⟩ ?_;(try clear Z);clear s0 s5 s6 nx o0;rintro S H ⟨s0,s5,s6,s7,s8,nx,o0⟩;(repeat'(first|refine G fun K J=>?_|refine a_block ?_|refine uR (U s0 hlen) ?_|(refine O J ?_;clear J)|apply zI));refine a_loop (fun m S H=>S 9= .sc (.int .i64 ((m:Int)-1))∧m≤ls.length∧(ls.drop m).all lyB=true∧NsI R d (nestX (ls.drop m) (atmX d)) (nestP (ls.drop m)) (nestC (ls.drop m)) S H) ls.length ?_ ?_
   ·simp only[Ty.w,simprocAttr];refine⟨by rw[wrap64 (by omega) (by omega)],Nat.le_refl _,by simp,?_⟩;rw[List.drop_length];exact⟨by simp only[Ty.w,simprocAttr,s0],by simp only[Ty.w,simprocAttr,s5],by simp only[Ty.w,simprocAttr,s6],by simp only[Ty.w,simprocAttr,s7];rfl,by simp only[Ty.w,simprocAttr,s8];rfl,nx,o0⟩
   ·rintro m S H ⟨s9,hm,hB,s0,s5,s6,s7,s8,nx,o0⟩;cases m with
    |zero=>
     have q0:decide (((0:Nat):Int)-1≥0)=false:=(by decide);rw[List.drop_zero]at*;have hcl:=Fm.rows_len (nestC ls);replace Z:=U s5 (U s6 (U s7 (U s8 (U s9 q0))));(repeat'(first|with_reducible refine a_hold 21 ?_|refine G fun K J=>?_|refine uR Z ?_|refine uX ?_|refine uC1 Z ?_|(refine O J ?_;clear J)|(clear J;refine O J ?_;clear J)|apply zI));refine⟨?_⟩;refine a_cut (fun S H=>S 5= .ptr 0 0 0∧H.obj 0=some (.arr 6 [(nestX ls (atmX d)).cells])∧ ∃ id cs,S 10= .ptr id 0 0∧H.obj id=some (.arr 15 [cs])∧ ∀ H',FrzL 0 H' (chRow (nestCh d ls)) cs) ?_ ?_
     ·have hzc:zeroEx.cells=[.sc (.string ⟨#[]⟩),.sc (.string ⟨#[]⟩),.sc (.int .i64 0),.imm 1 [],.imm 5 []]:=rfl;have hcr: ∀ f:Fm,condS (nestC ls)=f→chRow (nestCh d ls)=[.sc (.int .i64 (bif d then 2 else 1)),.imm 2 (pmRows (nestP ls))]++(f.cells++([sPV ⟨#[112]⟩,.imm 1 [[sPV ⟨#[63,120]⟩]]]++[.sc (.string ⟨#[]⟩),.sc (.string ⟨#[]⟩),.sc (.int .i64 0),.imm 1 [],.imm 5 []])):=fun f hf=>by
       subst hf;rfl
      have hfp:=fun H'=>pms_frz 0 H' (nestP ls);have hfk:=fun H'=>fms_frz 0 H' (nestC ls);cases hC:nestC ls with
      |nil=>
       have q1:(((Fm.rows []).length:Int)==1)=false:=rfl;have hcr2:=hcr andFm (by rw[hC];try rfl);rw[hC]at s8;replace Z:=U s5 (U s6 (U s7 (U s8 q1)));(repeat'(first|refine G fun K J=>?_|refine uR Z ?_|refine uK ?_|refine uC1 Z ?_|(refine O J ?_;clear J)|apply zI));refine⟨by simp only[Ty.w,simprocAttr,s5],by simp only[Ty.w,simprocAttr];rw[if_neg (by omega),if_neg (by omega)];exact o0,H.next,_,by simp only[Ty.w,simprocAttr],obj_at,fun H'=>?_⟩;rw[hcr2];simp only[andFm,Fm.cells,strRows,pmRows,Ex.rows,Fm.rows,List.map_nil,List.cons_append,List.nil_append,FrzL,sPV];exact⟨frzN_sc,(frzN_imm (pms_in 0 _)),frzN_sc,frzN_sc,frzN_nil,frzN_nil,frzN_nil,(frzN_imm (fms_in 0 [])),frzN_sc,(frzN_imm (strs_in 0 [nmX])),frzN_sc,frzN_sc,frzN_sc,frzN_nil,frzN_nil,trivial⟩
      |cons f l=>
       rw[hC]at s8 hcl hfk;cases l with
       |nil=>
        have q1:(((Fm.rows [f]).length:Int)==1)=true:=rfl;have hcr2:=hcr f (by rw[hC];try rfl);have hf0:(Fm.rows [f])[0]? =some f.cells:=rfl;obtain⟨op,na,ar,pa,ex,ki⟩:=f;simp only[Fm.cells]at hf0 hcr2;replace Z:=U s5 (U s6 (U s7 (U s8 (U q1 hf0))));(repeat'(first|refine G fun K J=>?_|refine uR Z ?_|refine uC1 Z ?_|(refine O J ?_;clear J)|apply zI));refine⟨by rw[if_neg (by omega),if_neg (by omega),if_neg (by omega)];exact o0,H.next,_,rfl,if_pos rfl,fun H'=>?_⟩;rw[hcr2];have hff:=fm_frz 0 H' (.mk op na ar pa ex ki);simp only[Fm.cells,FrzL]at hff;obtain⟨k1,k2,k3,k4,k5,k6,_⟩:=hff;simp only[List.cons_append,List.nil_append,List.take_succ_cons,List.take_zero,List.drop_succ_cons,List.drop_zero,List.length_cons,List.length_nil,FrzL,sPV];exact⟨frzN_sc,(frzN_imm (pms_in 0 _)),k1,k2,k3,k4,k5,k6,frzN_sc,(frzN_imm (strs_in 0 [nmX])),frzN_sc,frzN_sc,frzN_sc,frzN_nil,frzN_nil,trivial⟩
       |cons g l=>
        have q1:(((Fm.rows (f::g::l)).length:Int)==1)=false:=(by rw[hcl];simp;omega);have hcr2:=hcr (.mk opAnd ⟨#[]⟩ [] [] [] (f::g::l)) (by rw[hC];try rfl);replace Z:=U s5 (U s6 (U s7 (U s8 q1)));(repeat'(first|refine G fun K J=>?_|refine uR Z ?_|refine uK ?_|refine uC1 Z ?_|(refine O J ?_;clear J)|apply zI));refine⟨by simp only[Ty.w,simprocAttr,s5],by simp only[Ty.w,simprocAttr];rw[if_neg (by omega),if_neg (by omega)];exact o0,H.next,_,by simp only[Ty.w,simprocAttr],obj_at,fun H'=>?_⟩;rw[hcr2];simp only[andFm,Fm.cells,strRows,pmRows,Ex.rows,List.map_nil,List.cons_append,List.nil_append,FrzL,sPV];exact⟨frzN_sc,(frzN_imm (pms_in 0 _)),frzN_sc,frzN_sc,frzN_nil,frzN_nil,frzN_nil,(frzN_imm (fms_in 0 (f::g::l))),frzN_sc,(frzN_imm (strs_in 0 [nmX])),frzN_sc,frzN_sc,frzN_sc,frzN_nil,frzN_nil,trivial⟩
     ·rintro S H ⟨s5,o0,id,cs,s10,oc,hfc⟩;have hLs: ∀ l∈ls,LyS l:=hS;have hXo:=nestX_ok (atmX_ok d) hB hLs;have hXn:=nestX_big (d:=d) hbk;have hCo:=nestCh_ok (d:=d) hok hbk;have hEn:=effN_nodes (d:=d) hbk;have hEo:=effN_ok (d:=d) hB hok hbk;have hPE:=fun h:Heap=>ParseEffect_c hXo h;rw[parseEf_nest hB,writeRB_nest hB]at hPE;have hV1:=fun h:Heap=>rvalidS_c hXo hXn.1 hXn.2 h;have hV2:=fun h:Heap=>rvalidS_c hEo hEn.1 hEn.2 h;have hEf:=fun h:Heap=>rEffect_c (l:=[nestCh d ls]) (by simp) (fun c hc h=>by
       rw[List.mem_singleton]at hc;subst hc;exact single_c (nest_chR hB) hCo.1 hCo.2.cond hCo.2.value hCo.2.args hCo.2.params h) h
      have hcs:Chs.ok [nestCh d ls]:=⟨by simp[bigN],fun c hc=>by rw[List.mem_singleton]at hc;subst hc;exact hCo.1⟩;have hC:=fun h:Heap=>rsameChs_c hcs hcs h;rw[chs_refl]at hC;have hcr:chRows [nestCh d ls]=[chRow (nestCh d ls)]:=rfl;rw[hcr]at hC hEf;have hI2:=fun h:Heap=>fis_c (h:=h) (n:=2) (m:=2);have hI5:=fun h:Heap=>fis_c (h:=h) (n:=5) (m:=5);refine a_drop 0 [(5,.cptr (nestX ls (atmX d)).cells),(10,.cptr (chRow (nestCh d ls)))] rfl (Nat.zero_le _) ?_ ?_
      ·intro x hx;simp only[List.mem_cons,List.not_mem_nil,or_false]at hx;rcases hx with rfl|rfl
       ·simp only[FrzTo];exact .inr ⟨0,0,0,6,_,_,s5,Nat.zero_le _,o0,rfl,sx_frz _ _ _⟩
       ·simp only[FrzTo];exact .inr ⟨id,0,0,15,_,_,s10,Nat.zero_le _,oc,rfl,hfc _⟩
      refine a_genN (fun S H=>S 5= .cptr (nestX ls (atmX d)).cells∧S 10= .cptr (chRow (nestCh d ls))) ⟨by simp only[frzS,Ty.w,simprocAttr],by simp only[frzS,Ty.w,simprocAttr]⟩ ?_;(try clear Z);clear s0 s5 s6 s7 s8 s9 s10 nx oc hfc hXo hXn hCo hEn hEo hLs hcs hcr hB hok hbk hS hget hw4 hw5;rintro S H ⟨s5,s10⟩;generalize hW:effW [nestCh d ls]=W at hPE hV2 hEf;generalize nestX ls (atmX d)=X at*;generalize nestCh d ls=C at*;obtain⟨kd,cP,⟨op,na,ar,pa,ex,ki⟩,cn,ca,⟨e1,e2,e3,e4,e5⟩⟩:=C;simp only[chRow,Fm.cells,Ex.cells,List.cons_append,List.nil_append]at s10 hPE hEf hC;generalize hb1:(svalid X 0 0).1=b1 at hPE hV1;generalize hb2:(svalid W 0 0).1=b2 at hPE hV2;obtain⟨xk,xv,xl,xc,xt,xs⟩:=X;obtain⟨yk,yv,yl,yc,yt,ys⟩:=W;simp only[Sx.cells]at s5 hPE hV1 hV2 hEf;cases b1 with
      |false=>
       have e0:errP 2=errV 2:=rfl;simp only[Bool.false_eq_true,if_false,e0,errV]at hPE hI2;(repeat'(first|refine G fun K J=>?_|refine uR s5 ?_|apply zI));refine uU s5 (hPE _) ?_;(repeat'(first|refine G fun K J=>?_|refine uR s5 ?_|(refine O J ?_;clear J)|apply zI));refine uU @Bool.not_false (hV1 _) ?_;(repeat'(first|refine G fun K J=>?_|refine uR @Bool.not_false ?_|(refine O J ?_;clear J)|apply zI));refine uU trivial (hI2 _) ?_;repeat'(first|refine uT trivial ?_|(refine O J ?_;clear J)|apply zI)
      |true=>
       cases b2 with
       |false=>
        have e0:errP 5=errV 5:=rfl;simp only[Bool.false_eq_true,if_false,if_true,e0,errV]at hPE hI5;(repeat'(first|refine G fun K J=>?_|refine uR s5 ?_|apply zI));refine uU (U s5 s10) (hPE _) ?_;(repeat'(first|refine G fun K J=>?_|refine uR (U s5 s10) ?_|(refine O J ?_;clear J)|apply zI));refine uU (U s10 @Bool.not_true) (hV1 _) ?_;replace Z:=U s10 @Bool.not_true;(repeat'(first|refine G fun K J=>?_|refine uR Z ?_|refine uK ?_|refine uC1 Z ?_|(refine O J ?_;clear J)|apply zI));refine uU s10 (hEf _) ?_;(try apply zI);refine uU (U s10 @Bool.not_false) (hV2 _) ?_;(repeat'(first|refine G fun K J=>?_|refine uR @Bool.not_false ?_|(refine O J ?_;clear J)|apply zI));refine uU trivial (hI5 _) ?_;repeat'(first|refine uT trivial ?_|(refine O J ?_;clear J)|apply zI)
       |true=>
        have e0:errP 0= .sc .nilIface:=rfl;simp only[if_true,e0]at hPE;(repeat'(first|refine G fun K J=>?_|refine uR s5 ?_|apply zI));refine uU (U s5 s10) (hPE _) ?_;(repeat'(first|refine G fun K J=>?_|refine uR (U s5 s10) ?_|(refine O J ?_;clear J)|apply zI));refine uU (U s10 @Bool.not_true) (hV1 _) ?_;replace Z:=U s10 @Bool.not_true;(repeat'(first|refine G fun K J=>?_|refine uR Z ?_|refine uK ?_|refine uC1 Z ?_|(refine O J ?_;clear J)|apply zI));refine uU s10 (hEf _) ?_;(try apply zI);refine uU (U s10 @Bool.not_true) (hV2 _) ?_;(repeat'(first|refine G fun K J=>?_|refine uR Z ?_|refine uK ?_|refine uC1 Z ?_|(refine O J ?_;clear J)|apply zI));refine uU s10 (hC _) ?_;repeat'(first|refine uT s10 ?_|(refine O J ?_;clear J)|apply zI)
    |succ k=>
     have e9:((k+1:Nat):Int)-1=(k:Int):=(by omega);rw[e9]at s9;have q0:decide ((k:Int)≥0)=true:=(by simp);obtain⟨a,hx⟩: ∃ a,ls[k]? =some a:=⟨_,List.getElem?_eq_getElem (by omega)⟩;have hd:ls.drop k=a::ls.drop (k+1):=drop_get hx;have hga:=hget k a hx;have hSa:=hS a (List.mem_of_getElem? hx);have hpl:=pmRows_len a.params;have hSz:=fun h:Heap=>rsize_c a.cond hSa.ok.cond h;have hV:=fun h:Heap=>rvalidF_c hSa.ok.cond hSa.sm hSa.dep h;rw[← validF_same hSa.nod]at hV;have hP:=fun h:Heap=>rshapedPs_c (v:=true) hSa.ok.params.1 hSa.ok.params.2 h;have hF:=fun hs h=>rwriteF_c a.cond hSa.sm hs h;have hWp:=fun h:Heap=>rwriteParams_c hSa.plen h;have hlB:lyB a=bif a.params.isEmpty then validF a.cond else(decide (a.params.length≤8)&&a.params.all (pmR true)):=rfl
     have w9:IntKind.i64.wrap ((k:Int)-1)=(k:Int)-1:=(by rw[wrap64 (by omega) (by omega)]);(try clear Z);clear hget hS hSa hok;cases hpe:a.params.isEmpty with
     |true=>
      have hpn:a.params=[]:=List.isEmpty_iff.1 hpe;rw[hpe,cond_true]at hlB;rw[hpn]at hga;have e0:pmRows []=[]:=rfl;rw[e0]at hga;have hlen0:decide ((0:Int)>0)=false:=rfl;cases qs:decide (a.cond.size>30)with
      |true=>
       have qsp:(30<a.cond.size)=True:=eq_true (of_decide_eq_true qs);obtain⟨ps,⟨op,na,ar,pa,ex,ki⟩⟩:=a;simp only[Fm.cells]at hga hSz hV qs qsp;replace Z:=U s0 (U s9 (U q0 (U hga hlen)));(repeat'(first|refine G fun K J=>?_|refine uR Z ?_|refine uK ?_|refine uC1 Z ?_|(refine O J ?_;clear J)|apply zI));refine uU (U qs qsp) (hSz _) ?_;replace Z:=U s0 (U s9 (U q0 (U hga (U hlen (U qs (U qsp @decide_true))))));repeat'(first|refine G fun K J=>?_|refine uR Z ?_|refine uT Z ?_|(refine O J ?_;clear J)|apply zI)
      |false=>
       have qsp:(30<a.cond.size)=False:=eq_false (of_decide_eq_false qs);cases qv:validF a.cond with
       |false=>
        rw[qv]at hV;obtain⟨ps,⟨op,na,ar,pa,ex,ki⟩⟩:=a;simp only[Fm.cells]at hga hSz hV qs qsp;replace Z:=U s0 (U s9 (U q0 (U hga hlen)));(repeat'(first|refine G fun K J=>?_|refine uR Z ?_|refine uK ?_|refine uC1 Z ?_|(refine O J ?_;clear J)|apply zI));replace Z:=U s0 (U s9 (U hga (U hlen (U qs (U qsp decide_false)))));refine uU Z (hSz _) ?_;(try apply zI);refine uU @Bool.not_false (hV _) ?_;repeat'(first|refine G fun K J=>?_|refine uR @Bool.not_false ?_|refine uT @Bool.not_false ?_|(refine O J ?_;clear J)|apply zI)
       |true=>
        rw[qv]at hV hlB;have hF2:=hF (validF_shaped qv);have hl3:=fun h=>llist9_c [wordM opWhen,fmW a.cond,nestX (ls.drop (k+1)) (atmX d)] h;have hxX:nestX (ls.drop k) (atmX d)=listM [wordM opWhen,fmW a.cond,nestX (ls.drop (k+1)) (atmX d)]:=by
         rw[hd];show lyX a _=_;unfold lyX;rw[hpe];try rfl
        have hxP:nestP (ls.drop k)=nestP (ls.drop (k+1)):=(by rw[hd];simp[nestP,hpn]);have hxC:nestC (ls.drop k)=a.cond::nestC (ls.drop (k+1)):=(by rw[hd];simp[nestC,lyC,hpe]);have hxB:(ls.drop k).all lyB=true:=(by rw[hd,List.all_cons,hlB,hB];try rfl);have l6: ∀ x:Sx,(6≤x.cells.length)=True:=fun x=>(by obtain⟨_,_,_,_,_,_⟩:=x;simp[Sx.cells]);have g6: ∀ x:Sx,x.cells.length=6:=fun x=>(by obtain⟨_,_,_,_,_,_⟩:=x;rfl);have t6: ∀ x:Sx,x.cells.take 6=x.cells:=fun x=>(by obtain⟨_,_,_,_,_,_⟩:=x;rfl);have a6: ∀ x:Sx,x.cells.all oneC=true:=fun x=>(by obtain⟨_,_,_,_,_,_⟩:=x;rfl);have d6: ∀ x:Sx,x.cells.drop 6=[]:=fun x=>(by obtain⟨_,_,_,_,_,_⟩:=x;rfl);have hcl:=Fm.rows_len (nestC (ls.drop (k+1)));have hcb:(1+(nestC (ls.drop (k+1))).length)*128≤140737488355328:=by
         have:=nestC_len (ls.drop (k+1));rw[List.length_drop]at this;omega
        generalize hX:nestX (ls.drop (k+1)) (atmX d)=X at o0 hl3 hxX;generalize hCC:nestC (ls.drop (k+1))=C at s8 hcl hcb hxC;obtain⟨ps,⟨op,na,ar,pa,ex,ki⟩⟩:=a;simp only[Fm.cells,opWhen,wordM,listM,Sx.cells,Sx.rows]at hga hSz hV qs qsp hF2 hl3;replace Z:=U s0 (U s9 (U q0 (U hga hlen)));(repeat'(first|refine G fun K J=>?_|refine uR Z ?_|refine uK ?_|refine uC1 Z ?_|(refine O J ?_;clear J)|apply zI));replace Z:=U s0 (U s9 (U hga (U hlen (U qs (U qsp decide_false)))));refine uU Z (hSz _) ?_;(try apply zI);refine uU @Bool.not_true (hV _) ?_;replace Z:=U s0 (U s5 (U s9 (U hga (U hlen (U o0 @Bool.not_true)))));(repeat'(first|refine G fun K J=>?_|refine uD Z ?_|refine uK ?_|refine uC1 Z ?_|(refine O J ?_;clear J)|apply zI));replace Z:=U s0 (U s5 (U s9 (U hga (U hlen o0))));(first|refine uV Z (hw5 _) ?_|refine uA Z (hw5 _) ?_);(try apply zI);replace Z:=U s0 (U s5 (U s9 (U hga (U hlen (U o0 (U l6 (U t6 (U g6 a6))))))));(first|refine uV Z (hF2 _) ?_|refine uA Z (hF2 _) ?_);(try apply zI);replace Z:=U s0 (U s5 (U s8 (U s9 (U hga (U hlen (U o0 (U l6 (U t6 (U g6 (U a6 @Nat.le_refl))))))))));(first|refine uV Z (hl3 _) ?_|refine uA Z (hl3 _) ?_);refine a_past2 (by simp(maxSteps:=4000000) only[List.forall_mem_cons,Ty.w,simprocAttr,Ty.all,s0,s5,s8,s9,hga,hlen,o0,l6,t6,g6,a6,Nat.le_refl];(repeat' apply And.intro)<;>first|exact .inl (by decide+kernel)|exact .inr (Does_use (hl3 _) (by(try simp only[Ty.w,simprocAttr,s0,s5,s8,s9,hga,hlen,o0,l6,t6,g6,a6,Nat.le_refl]);try rfl))|exact .inr (Does_use (hF2 _) (by(try simp only[Ty.w,simprocAttr,s0,s5,s8,s9,hga,hlen,o0,l6,t6,g6,a6,Nat.le_refl]);try rfl))|exact .inr (Does_use (hw5 _) (by(try simp only[Ty.w,simprocAttr,s0,s5,s8,s9,hga,hlen,o0,l6,t6,g6,a6,Nat.le_refl]);try rfl))) ?_;(try simp(maxSteps:=2000000) only[Ty.w,simprocAttr,Ty.all,s0,s5,s8,s9,hga,hlen,o0,l6,t6,g6,a6,Nat.le_refl]);replace Z:=U s0 (U s5 (U s8 (U s9 (U hga (U hlen (U o0 (U l6 (U t6 (U g6 (U a6 (U @Nat.le_refl (U d6 (U hcb hcl)))))))))))));(repeat'(first|with_reducible refine a_holdB 10 ?_|refine uQ Z fun K J=>?_|(refine O J ?_;clear J)|apply zI));refine⟨?_⟩;refine a_drop 1 [(8,.imm 6 (Fm.rows (.mk op na ar pa ex ki::C)))] rfl (by simp only[Ty.w,simprocAttr]<;>omega) ?_ ?_
        ·intro x hx;simp only[List.mem_cons,List.not_mem_nil,or_false]at hx;subst hx;simp only[Ty.w,simprocAttr,Fm.rows,Fm.cells];exact Tl.frzR (id0:=1) (Tl.grow (by simp only[Ty.w,simprocAttr]<;>omega) (by simp only[List.length_cons,hcl];omega)) (Nat.le_refl _) (fms_frz 1 _ (.mk op na ar pa ex ki::C))
        refine a_genN (fun S H=>S 9= .sc (.int .i64 (k:Int))∧NsI R d (listM [wordM opWhen,fmW (.mk op na ar pa ex ki),X]) (nestP (ls.drop (k+1))) (.mk op na ar pa ex ki::C) S H) ⟨by simp only[frzS,Ty.w,simprocAttr,s9],by simp only[frzS,Ty.w,simprocAttr,s0],by simp only[frzS,Ty.w,simprocAttr,s5],by simp only[frzS,Ty.w,simprocAttr,s6],by simp only[frzS,Ty.w,simprocAttr,s7],by simp only[frzS,Ty.w,simprocAttr],by simp only[below,Ty.w,simprocAttr]<;>omega,by simp only[below,Ty.w,simprocAttr];rw[if_neg (by omega),if_neg (by omega)];try rfl⟩ ?_;rintro S H ⟨s9,hI⟩;(repeat'(first|refine uR (U s9 w9) ?_|apply zI));refine⟨k,by omega,rfl,by omega,hxB,?_⟩;rw[hxX,hxP,hxC];exact⟨by simp only[Ty.w,simprocAttr];exact hI.s0,by simp only[Ty.w,simprocAttr];exact hI.s5,by simp only[Ty.w,simprocAttr];exact hI.s6,by simp only[Ty.w,simprocAttr];exact hI.s7,by simp only[Ty.w,simprocAttr];exact hI.s8,hI.nx,hI.o0⟩
     |false=>
      have hpos:0<a.params.length:=by
       cases hh:a.params with
       |nil=>rw[hh]at hpe;cases hpe
       |cons x l=>simp
      rw[hpe,cond_false]at hlB;have qd0:decide ((a.params.length:Int)>0)=true:=(by simp;omega);have qd0p:(0<(a.params.length:Int))=True:=eq_true (by omega);cases qn:decide ((a.params.length:Int)>8)with
      |true=>
       have qnp:(8<(a.params.length:Int))=True:=eq_true (of_decide_eq_true qn);obtain⟨ps,⟨op,na,ar,pa,ex,ki⟩⟩:=a;simp only[Fm.cells]at hga;replace Z:=U s0 (U s9 (U q0 (U hga (U hlen (U hpl (U qd0 (U qd0p (U qn qnp))))))));repeat'(first|refine G fun K J=>?_|refine uR Z ?_|refine uT Z ?_|refine uK ?_|refine uC1 Z ?_|(refine O J ?_;clear J)|apply zI)
      |false=>
       have qnp:(8<(a.params.length:Int))=False:=eq_false (of_decide_eq_false qn);have hn8:a.params.length≤8:=(by simp at qn;omega);cases qv:a.params.all (pmR true)with
       |false=>
        rw[qv]at hP;obtain⟨ps,⟨op,na,ar,pa,ex,ki⟩⟩:=a;simp only[Fm.cells]at hga hP;replace Z:=U s0 (U s9 (U q0 (U hga (U hlen (U hpl (U qd0 (U qd0p (U qn qnp))))))));(repeat'(first|refine G fun K J=>?_|refine uR Z ?_|refine uK ?_|refine uC1 Z ?_|(refine O J ?_;clear J)|apply zI));refine uU @Bool.not_false (hP _) ?_;repeat'(first|refine G fun K J=>?_|refine uR @Bool.not_false ?_|refine uT @Bool.not_false ?_|(refine O J ?_;clear J)|apply zI)
       |true=>
        rw[qv]at hP hlB;rw[show decide (a.params.length≤8)=true from decide_eq_true hn8]at hlB;have hl3:=fun h=>llist9_c [wordM opAll,listM (paramsW a.params),nestX (ls.drop (k+1)) (atmX d)] h;have hxX:nestX (ls.drop k) (atmX d)=listM [wordM opAll,listM (paramsW a.params),nestX (ls.drop (k+1)) (atmX d)]:=by
         rw[hd];show lyX a _=_;unfold lyX;rw[hpe];try rfl
        have hxP:nestP (ls.drop k)=a.params++nestP (ls.drop (k+1)):=(by rw[hd];simp[nestP]);have hxC:nestC (ls.drop k)=nestC (ls.drop (k+1)):=(by rw[hd];simp[nestC,lyC,hpe]);have hxB:(ls.drop k).all lyB=true:=(by rw[hd,List.all_cons,hlB,hB];try rfl);have l6: ∀ x:Sx,(6≤x.cells.length)=True:=fun x=>(by obtain⟨_,_,_,_,_,_⟩:=x;simp[Sx.cells]);have g6: ∀ x:Sx,x.cells.length=6:=fun x=>(by obtain⟨_,_,_,_,_,_⟩:=x;rfl);have t6: ∀ x:Sx,x.cells.take 6=x.cells:=fun x=>(by obtain⟨_,_,_,_,_,_⟩:=x;rfl);have a6: ∀ x:Sx,x.cells.all oneC=true:=fun x=>(by obtain⟨_,_,_,_,_,_⟩:=x;rfl);have d6: ∀ x:Sx,x.cells.drop 6=[]:=fun x=>(by obtain⟨_,_,_,_,_,_⟩:=x;rfl);have hql:=pmRows_len (nestP (ls.drop (k+1)));have hPl:=nestP_len hB;rw[List.length_drop]at hPl;have hbb:a.params.length*32≤140737488355328:=(by omega);have hb2:(a.params.length+(nestP (ls.drop (k+1))).length)*32≤140737488355328:=(by omega);have htk:List.take a.params.length (pmRows a.params)=pmRows a.params:=List.take_of_length_le (by omega);generalize hX:nestX (ls.drop (k+1)) (atmX d)=X at o0 hl3 hxX;generalize hPP:nestP (ls.drop (k+1))=P at s7 hql hPl hb2 hxP;obtain⟨ps,⟨op,na,ar,pa,ex,ki⟩⟩:=a;simp only[Fm.cells,opAll,wordM,listM,Sx.cells,Sx.rows]at hga hP hl3 hWp hpl hbb hb2 htk qd0 qd0p qn qnp;have hpa:pmRows (ps++P)=pmRows ps++pmRows P:=(by simp[pmRows]);replace Z:=U s0 (U s9 (U q0 (U hga (U hlen (U hpl (U qd0 (U qd0p (U qn qnp))))))));(repeat'(first|refine G fun K J=>?_|refine uR Z ?_|refine uK ?_|refine uC1 Z ?_|(refine O J ?_;clear J)|apply zI));replace Z:=U s0 (U s5 (U s9 (U hga (U hlen (U hpl @Bool.not_true)))));refine uU Z (hP _) ?_;replace Z:=U s0 (U s5 (U s9 (U hga (U hlen (U hpl (U o0 @Bool.not_true))))));(repeat'(first|refine G fun K J=>?_|refine uD Z ?_|refine uK ?_|refine uC1 Z ?_|(refine O J ?_;clear J)|apply zI));replace Z:=U s0 (U s5 (U s7 (U s9 (U q0 (U hga (U hlen (U hpl (U qd0 (U qn (U o0 (U l6 (U t6 (U g6 (U a6 @Nat.le_refl))))))))))))));(first|refine uV Z (hw4 _) ?_|refine uA Z (hw4 _) ?_);(try apply zI);(first|refine uV Z (hWp _) ?_|refine uA Z (hWp _) ?_);(try apply zI);(first|refine uV Z (hl3 _) ?_|refine uA Z (hl3 _) ?_);refine a_past2 (by simp(maxSteps:=4000000) only[List.forall_mem_cons,Ty.w,simprocAttr,Ty.all,s0,s5,s7,s9,q0,hga,hlen,hpl,qd0,qn,o0,l6,t6,g6,a6,Nat.le_refl];(repeat' apply And.intro)<;>first|exact .inl (by decide+kernel)|exact .inr (Does_use (hl3 _) (by(try simp only[Ty.w,simprocAttr,s0,s5,s7,s9,q0,hga,hlen,hpl,qd0,qn,o0,l6,t6,g6,a6,Nat.le_refl]);try rfl))|exact .inr (Does_use (hWp _) (by(try simp only[Ty.w,simprocAttr,s0,s5,s7,s9,q0,hga,hlen,hpl,qd0,qn,o0,l6,t6,g6,a6,Nat.le_refl]);try rfl))|exact .inr (Does_use (hw4 _) (by(try simp only[Ty.w,simprocAttr,s0,s5,s7,s9,q0,hga,hlen,hpl,qd0,qn,o0,l6,t6,g6,a6,Nat.le_refl]);try rfl))) ?_;(try simp(maxSteps:=2000000) only[Ty.w,simprocAttr,Ty.all,s0,s5,s7,s9,q0,hga,hlen,hpl,qd0,qn,o0,l6,t6,g6,a6,Nat.le_refl]);replace Z:=U s0 (U s5 (U s7 (U s9 (U q0 (U hga (U hlen (U hpl (U qd0 (U qn (U o0 (U l6 (U t6 (U g6 (U a6 (U @Nat.le_refl (U d6 (U hbb (U hb2 (U htk (U hql @Nat.zero_add))))))))))))))))))));(repeat'(first|with_reducible refine a_holdB 10 ?_|refine G fun K J=>?_|refine uR Z ?_|refine uX ?_|(refine O J ?_;clear J)|(clear J;refine O J ?_;clear J)|apply zI));refine⟨?_⟩;refine a_drop 1 [(7,.imm 2 (pmRows (ps++P)))] rfl (by simp only[Ty.w,simprocAttr]<;>omega) ?_ ?_
        ·intro x hx;simp only[List.mem_cons,List.not_mem_nil,or_false]at hx;subst hx;simp only[Ty.w,simprocAttr];rw[hpa];exact Tl.frzR (id0:=1) (Tl.grow (by simp only[Ty.w,simprocAttr]<;>omega) (by rw[List.length_append,hpl,hql])) (Nat.le_refl _) (by rw[← hpa];exact pms_frz 1 _ _)
        refine a_genN (fun S H=>S 9= .sc (.int .i64 (k:Int))∧NsI R d (listM [wordM opAll,listM (paramsW ps),X]) (ps++P) (nestC (ls.drop (k+1))) S H) ⟨by simp only[frzS,Ty.w,simprocAttr,s9],by simp only[frzS,Ty.w,simprocAttr,s0],by simp only[frzS,Ty.w,simprocAttr,s5],by simp only[frzS,Ty.w,simprocAttr,s6],by simp only[frzS,Ty.w,simprocAttr],by simp only[frzS,Ty.w,simprocAttr,s8],by simp only[below,Ty.w,simprocAttr]<;>omega,by simp only[below,Ty.w,simprocAttr];rw[if_neg (by omega),if_neg (by omega)];try rfl⟩ ?_;rintro S H ⟨s9,hI⟩;(repeat'(first|refine uR (U s9 w9) ?_|apply zI));refine⟨k,by omega,rfl,by omega,hxB,?_⟩;rw[hxX,hxP,hxC];exact⟨by simp only[Ty.w,simprocAttr];exact hI.s0,by simp only[Ty.w,simprocAttr];exact hI.s5,by simp only[Ty.w,simprocAttr];exact hI.s6,by simp only[Ty.w,simprocAttr];exact hI.s7,by simp only[Ty.w,simprocAttr];exact hI.s8,hI.nx,hI.o0⟩
end Go.Proofs.YtblgchkahpgdjaaGreat
namespace Go.Proofs.YtblgchkahpgdjaaGreat
open Go.AM
set_option maxHeartbeats 1000000
set_option maxRecDepth 20000
def lyTs:List TypeId:=recTs++[60,68]
theorem partsLy:partsT Tryz.prog 68=[(0,22),(1,67)]:=by kernel_rfl
theorem coLy:Tryz.prog.cellsOf 68=7:=by kernel_rfl
theorem byLy:0<Tryz.prog.bytesOf 68:=by rw[show Tryz.prog.bytesOf 68=152 by kernel_rfl];omega
theorem arg_ly{c:Nat}{ps:List PV}(h:Arg Tryz.prog c 68 ps): ∃ a:Ly,a.ok∧ps=lyRow a:=by
 cases c with
 |zero=>simp[Arg]at h
 |succ c=>
  obtain⟨h1,h2⟩:=Arg_struct Tryz.underlying68 h;rw[coLy]at h1;rw[partsLy]at h2
  match ps,h1,h2 with
  |[p0,p1,p2,p3,p4,p5,p6],_,h2=>
   have a0:=h2 (0,22) (by simp);have a1:=h2 (1,67) (by simp);simp only[co24,co25,co29,co3,co57,co9,List.drop_zero,List.drop_succ_cons,List.take_succ_cons,List.take_zero]at a0 a1;obtain⟨params,hparams,e0⟩:=arg_pms a0;obtain⟨cond,hcond,e1⟩:=arg_fm _ a1;simp at e0;refine⟨⟨params,cond⟩,⟨hparams,hcond⟩,?_⟩;simp only[lyRow,e0, ← e1]
theorem arg_lys{c:Nat}{ps:List PV}(h:Arg Tryz.prog c 60 ps): ∃ l:List Ly,(l.length≤bigN∧ ∀ a∈l,a.ok)∧ps=[.imm 7 (lyRows l)]:=by
 cases c with
 |zero=>simp[Arg]at h
 |succ c=>
  obtain⟨rows,rfl,h1,_,h2⟩:=Arg_slice Tryz.underlying60 h;obtain⟨xs,rfl,h3⟩:=rows_map (Q:=Ly.ok) (f:=lyRow) rows (fun r hr=>arg_ly (h2 r hr).2);refine⟨xs,⟨len_le (by simpa using h1) byLy,h3⟩,?_⟩;rw[coLy];try rfl
theorem argV_boolN{c:Nat}{a:PV}(h:ArgV Tryz.prog (c+1) 4 a): ∃ b,a= .sc (.bool b):=by
 unfold ArgV at h;rw[Tryz.underlying4]at h;unfold Arg at h;rw[Tryz.underlying4]at h;obtain⟨b,hb⟩:=h;simp at hb;exact⟨b,hb⟩
end Go.Proofs.YtblgchkahpgdjaaGreat
namespace Go.AM
open Go.ChangeShapes Go.WideShapes
open Go.Proofs.YtblgchkahpgdjaaGreat
section
variable {H:Type}{enc:TypeId × Value→H}{P:Program}{w:World}{sp:Nat→Bool}{held:Bool}
theorem arg_value6{Ts:List TypeId}(hT:covC P Ts=true){t u:TypeId}(ht:Ts.contains t=true)(hu:P.underlying t=some (.slice u)){v:Value}{d:DataW H}{pl:List MemPlace}
  (h:DataW.Trod enc P w 0 sp held t v d pl)(hv: ∃ base,Value.okWide P w .any base t v)(hw: ∀ n∈d.weights P t,n≤reachBytes):
  ∃ c p,Arg P c t [p]∧(∀ β n,Rep β n (fun b=>b<w.heap.size) w p v)∧PV.bulkL [p]≤Rows.uptoBulk d:=by
 obtain⟨fuel,hf⟩:=h;obtain⟨ps,h1,h2,h3⟩:=arg_rec5 hT fuel t ht _ _ hf hw;obtain⟨base,hv⟩:=hv;unfold Value.okWide at hv;simp only[hu]at hv;have hc:v.cells.toList=[v]:=by
  cases v with
  |agg cs=>
   exfalso;unfold Cell.okWide at hv;simp only[hu]at hv;unfold Cell.ok at hv;simp[hu]at hv
  |_=>rfl
 rw[hc]at h2;obtain⟨p,rfl⟩: ∃ p,ps=[p]:=by
  cases fuel with
  |zero=>simp[Arg]at h1
  |succ c=>
   obtain⟨rows,rfl,_⟩:=Arg_slice hu h1;exact⟨_,rfl⟩
 refine⟨fuel,p,h1,fun β n=>?_,h3⟩;have:=h2.2 β n;simp only[RepL]at this;exact this.1
end
end Go.AM
