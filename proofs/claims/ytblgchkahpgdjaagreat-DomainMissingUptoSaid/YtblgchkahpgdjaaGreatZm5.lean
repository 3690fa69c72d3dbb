/- What the claim rests on, part 5: the abstract machine, contracts of the functions, plain data. -/
import Derived.Test.YtblgchkahpgdjaaGreatProg
import Derived.Test.YtblgchkahpgdjaaGreatZm4
set_option linter.unusedVariables false
set_option linter.defProp false
set_option linter.unusedSimpArgs false
set_option linter.unusedSectionVars false
namespace Go.Proofs.YtblgchkahpgdjaaGreat
open Go.AM Go.Proofs.Tryz
namespace Ty
theorem Ph:Tryz.prog.follows .mixedOrders=true:=by kernel_rfl
theorem UX:Ab prog 10=true:=by kernel_rfl
theorem fu:Ab prog 11=true:=by kernel_rfl
theorem RX:Ab prog 12=true:=by kernel_rfl
theorem fw:Ab prog 16=true:=by kernel_rfl
theorem Pi:Ab prog 17=true:=by kernel_rfl
theorem Nv:Ab prog 19=true:=by kernel_rfl
theorem fx:Ab prog 21=true:=by kernel_rfl
theorem Lp:Ab prog 22=true:=by kernel_rfl
theorem fy:Ab prog 26=true:=by kernel_rfl
theorem UY:Ab prog 28=true:=by kernel_rfl
theorem UZ:Ab prog 27=true:=by kernel_rfl
theorem gA:Ab prog 31=true:=by kernel_rfl
theorem RZ:Ab prog 34=true:=by kernel_rfl
theorem Pj:Ab prog 36=true:=by kernel_rfl
theorem Ua:Ab prog 37=true:=by kernel_rfl
theorem Ra:Ab prog 38=true:=by kernel_rfl
theorem Ub:Ab prog 40=true:=by kernel_rfl
theorem Rb:Ab prog 41=true:=by kernel_rfl
theorem Uc:Ab prog 39=true:=by kernel_rfl
theorem Ud:Ab prog 43=true:=by kernel_rfl
theorem Ue:Ab prog 42=true:=by kernel_rfl
theorem Uf:Ab prog 44=true:=by kernel_rfl
theorem Rc:Ab prog 45=true:=by kernel_rfl
theorem Rd:Ab prog 46=true:=by kernel_rfl
theorem Ug:Ab prog 47=true:=by kernel_rfl
theorem gB:Ab prog 50=true:=by kernel_rfl
theorem Re:Ab prog 51=true:=by kernel_rfl
theorem Hm:Ab prog 53=true:=by kernel_rfl
theorem Rf:Ab prog 58=true:=by kernel_rfl
theorem Lq:Ab prog 59=true:=by kernel_rfl
theorem Uh:Ab prog 60=true:=by kernel_rfl
theorem Kq:Ab prog 61=true:=by kernel_rfl
theorem gC:Ab prog 69=true:=by kernel_rfl
theorem Ui:Ab prog 71=true:=by kernel_rfl
theorem Uj:Ab prog 72=true:=by kernel_rfl
theorem Ul:Ab prog 73=true:=by kernel_rfl
theorem Um:Ab prog 75=true:=by kernel_rfl
theorem K1:Ab prog 83=true:=by kernel_rfl
theorem gD:Ab prog 84=true:=by kernel_rfl
theorem gE:Ab prog 90=true:=by kernel_rfl
theorem gF:Ab prog 92=true:=by kernel_rfl
theorem gG:Ab prog 94=true:=by kernel_rfl
theorem Pk:Ab prog 95=true:=by kernel_rfl
theorem Un:Ab prog 96=true:=by kernel_rfl
theorem Uo:Ab prog 97=true:=by kernel_rfl
theorem Up:Ab prog 99=true:=by kernel_rfl
theorem gH:Ab prog 98=true:=by kernel_rfl
theorem Uq:Ab prog 100=true:=by kernel_rfl
theorem GU:Ab prog 101=true:=by kernel_rfl
theorem Ur:Ab prog 107=true:=by kernel_rfl
theorem Pl:Ab prog 109=true:=by kernel_rfl
theorem Nw:Ab prog 110=true:=by kernel_rfl
theorem Pn:Ab prog 111=true:=by kernel_rfl
theorem Nx:Ab prog 112=true:=by kernel_rfl
theorem Po:Ab prog 113=true:=by kernel_rfl
theorem Pp:Ab prog 114=true:=by kernel_rfl
theorem gI:Ab prog 116=true:=by kernel_rfl
theorem gJ:Ab prog 117=true:=by kernel_rfl
theorem Us:Ab prog 118=true:=by kernel_rfl
theorem Pq:Ab prog 119=true:=by kernel_rfl
theorem Lr:Ab prog 120=true:=by kernel_rfl
theorem Ut:Ab prog 121=true:=by kernel_rfl
theorem Uu:Ab prog 122=true:=by kernel_rfl
theorem Uv:Ab prog 127=true:=by kernel_rfl
theorem gK:Ab prog 131=true:=by kernel_rfl
theorem gM:Ab prog 88=true:=by kernel_rfl
theorem gN:Ab prog 132=true:=by kernel_rfl
theorem gO:Ab prog 133=true:=by kernel_rfl
theorem gP:Ab prog 134=true:=by kernel_rfl
theorem gQ:Ab prog 135=true:=by kernel_rfl
theorem Uw:Ab prog 136=true:=by kernel_rfl
theorem gR:Ab prog 137=true:=by kernel_rfl
theorem Ux:Ab prog 138=true:=by kernel_rfl
theorem Uy:Ab prog 140=true:=by kernel_rfl
theorem Rg:Ab prog 141=true:=by kernel_rfl
theorem Ps:Ab prog 142=true:=by kernel_rfl
theorem gS:Ab prog 143=true:=by kernel_rfl
theorem Uz:Ab prog 144=true:=by kernel_rfl
theorem gT:Ab prog 145=true:=by kernel_rfl
theorem Rh:Ab prog 146=true:=by kernel_rfl
theorem Ny:Ab prog 147=true:=by kernel_rfl
theorem O0:Ab prog 148=true:=by kernel_rfl
theorem Ls:Ab prog 149=true:=by kernel_rfl
theorem Lt:Ab prog 150=true:=by kernel_rfl
theorem V0:Ab prog 151=true:=by kernel_rfl
theorem V1:Ab prog 152=true:=by kernel_rfl
theorem O1:Ab prog 153=true:=by kernel_rfl
theorem V3:Ab prog 154=true:=by kernel_rfl
theorem Ri:Ab prog 155=true:=by kernel_rfl
theorem V4:Ab prog 156=true:=by kernel_rfl
theorem gU:Ab prog 159=true:=by kernel_rfl
theorem Rj:Ab prog 160=true:=by kernel_rfl
theorem Rk:Ab prog 161=true:=by kernel_rfl
theorem Lu:Ab prog 162=true:=by kernel_rfl
theorem V5:Ab prog 163=true:=by kernel_rfl
theorem gV:Ab prog 164=true:=by kernel_rfl
theorem gW:Ab prog 165=true:=by kernel_rfl
theorem Rl:Ab prog 166=true:=by kernel_rfl
theorem Pt:Ab prog 167=true:=by kernel_rfl
theorem Kr:Ab prog 168=true:=by kernel_rfl
theorem V6:Ab prog 169=true:=by kernel_rfl
theorem gX:Ab prog 172=true:=by kernel_rfl
theorem Pu:Ab prog 173=true:=by kernel_rfl
theorem V7:Ab prog 174=true:=by kernel_rfl
theorem V8:Ab prog 175=true:=by kernel_rfl
theorem gY:Ab prog 176=true:=by kernel_rfl
theorem V9:Ab prog 177=true:=by kernel_rfl
theorem Is:Ab prog 178=true:=by kernel_rfl
theorem Pv:Ab prog 179=true:=by kernel_rfl
theorem VA:Ab prog 180=true:=by kernel_rfl
theorem JK:Ab prog 181=true:=by kernel_rfl
theorem VB:Ab prog 182=true:=by kernel_rfl
theorem VC:Ab prog 183=true:=by kernel_rfl
theorem VD:Ab prog 186=true:=by kernel_rfl
theorem gZ:Ab prog 187=true:=by kernel_rfl
theorem VE:Ab prog 191=true:=by kernel_rfl
theorem VF:Ab prog 189=true:=by kernel_rfl
theorem ga:Ab prog 201=true:=by kernel_rfl
theorem O4:Ab prog 9=true:=by kernel_rfl
theorem gb:Ab prog 68=true:=by kernel_rfl
theorem gf:Ab prog 70=true:=by kernel_rfl
theorem gh:Ab prog 74=true:=by kernel_rfl
theorem gi:Ab prog 76=true:=by kernel_rfl
theorem gj:Ab prog 87=true:=by kernel_rfl
theorem Rm:Ab prog 89=true:=by kernel_rfl
theorem gl:Ab prog 91=true:=by kernel_rfl
theorem gm:Ab prog 93=true:=by kernel_rfl
theorem gp:Ab prog 128=true:=by kernel_rfl
theorem gq:Ab prog 139=true:=by kernel_rfl
theorem gr:Ab prog 188=true:=by kernel_rfl
theorem gu:Ab prog 192=true:=by kernel_rfl
set_option maxRecDepth 20000
theorem VG{p:Program}(h:p=prog):CQ p 28=some 7/\Cj p 28=true/\DP p 33=some [.int .i64 0,.int .i64 0,.int .i64 0,.int .i64 0,.string ⟨#[]⟩,.slice none 0 0]/\CQ p 33=some 6/\Cj p 33=true/\kT p 33=8/\Fy p 33=some [(0,1),(1,1),(2,1),(3,1),(4,1),(5,1)]/\kT p 35=7/\kT p 3=2/\DP p 28=some [.string ⟨#[]⟩,.slice none 0 0,.slice none 0 0,.slice none 0 0,.slice none 0 0,.slice none 0 0,.slice none 0 0]/\BT p 28 0=some (0,1,false)/\CQ p 9=some 1/\Cj p 9=false/\kT p 9=3/\kT p 60=5/\Dc p 31=some (6,72)/\GQ p 31=some [.int .i64 0,.int .i64 0,.int .i64 0,.int .i64 0,.string ⟨#[]⟩,.slice none 0 0]/\Dc p 60=some (7,152)/\BT p 68 0=some (0,1,false)/\CQ p 22=some 1/\Cj p 22=false/\kT p 22=5/\Dc p 22=some (2,32)/\GQ p 22=some [.string ⟨#[]⟩,.string ⟨#[]⟩]/\BT p 68 1=some (1,6,true)/\CQ p 67=some 6/\Cj p 67=true/\Dc p 63=some (6,128)/\GQ p 63=some [.string ⟨#[]⟩,.string ⟨#[]⟩,.slice none 0 0,.slice none 0 0,.slice none 0 0,.slice none 0 0]/\kT p 63=5/\kT p 67=8/\DP p 67=some [.string ⟨#[]⟩,.string ⟨#[]⟩,.slice none 0 0,.slice none 0 0,.slice none 0 0,.slice none 0 0]/\Fy p 67=some [(0,1),(1,1),(2,1),(3,1),(4,1),(5,1)]/\Dc p 64=some (1,16)/\GQ p 64=some [.string ⟨#[]⟩]/\kT p 77=8/\DP p 77=some [.int .i64 0,.slice none 0 0,.string ⟨#[]⟩,.string ⟨#[]⟩,.slice none 0 0,.slice none 0 0,.slice none 0 0,.slice none 0 0,.string ⟨#[]⟩,.slice none 0 0,.string ⟨#[]⟩,.string ⟨#[]⟩,.int .i64 0,.slice none 0 0,.slice none 0 0]/\Fy p 77=some [(0,1),(1,1),(2,6),(8,1),(9,1),(10,5)]/\CQ p 77=some 15/\Cj p 77=true/\BT p 77 2=some (2,6,true)/\Dc p 43=some (15,288)/\GQ p 43=some [.int .i64 0,.slice none 0 0,.string ⟨#[]⟩,.string ⟨#[]⟩,.slice none 0 0,.slice none 0 0,.slice none 0 0,.slice none 0 0,.string ⟨#[]⟩,.slice none 0 0,.string ⟨#[]⟩,.string ⟨#[]⟩,.int .i64 0,.slice none 0 0,.slice none 0 0]/\BT p 33 5=some (5,1,false)/\CQ p 31=some 1/\Cj p 31=false/\kT p 31=5/\BT p 28 1=some (1,1,false)/\BT p 28 2=some (2,1,false)/\BT p 28 3=some (3,1,false)/\CQ p 23=some 1/\Cj p 23=false/\kT p 23=5/\BT p 28 4=some (4,1,false)/\CQ p 24=some 1/\Cj p 24=false/\kT p 24=5/\BT p 28 5=some (5,1,false)/\CQ p 25=some 1/\Cj p 25=false/\kT p 25=5/\Dc p 25=some (10,200)/\BT p 83 3=some (3,6,true)/\BT p 83 4=some (9,1,false)/\CQ p 43=some 1/\Cj p 43=false/\BT p 28 6=some (6,1,false)/\CQ p 26=some 1/\Cj p 26=false/\kT p 26=5/\Dc p 26=some (23,480)/\CQ p 85=some 23/\Cj p 85=true/\DP p 85=some [.string ⟨#[]⟩,.slice none 0 0,.int .i64 0,.string ⟨#[]⟩,.string ⟨#[]⟩,.slice none 0 0,.slice none 0 0,.slice none 0 0,.slice none 0 0,.string ⟨#[]⟩,.string ⟨#[]⟩,.slice none 0 0,.slice none 0 0,.slice none 0 0,.slice none 0 0,.string ⟨#[]⟩,.string ⟨#[]⟩,.slice none 0 0,.slice none 0 0,.slice none 0 0,.slice none 0 0,.slice none 0 0,.slice none 0 0]/\BT p 85 3=some (3,6,true)/\BT p 85 4=some (9,6,true)/\BT p 85 5=some (15,6,true)/\BT p 85 6=some (21,1,false)/\BT p 85 7=some (22,1,false)/\BT p 83 2=some (2,1,false)/\CQ p 3=some 1/\Cj p 3=false/\kT p 43=5/\BT p 77 0=some (0,1,false)/\kT p 89=8/\DP p 89=some [.bool false]/\Fy p 89=some [(0,1)]/\Dc p 23=some (2,40)/\CQ p 94=some 2/\Cj p 94=true/\DP p 94=some [.string ⟨#[]⟩,.slice none 0 0]/\BT p 94 0=some (0,1,false)/\BT p 94 1=some (1,1,false)/\Dc p 24=some (4,56)/\CQ p 96=some 4/\Cj p 96=true/\DP p 96=some [.string ⟨#[]⟩,.slice none 0 0,.int .i64 0,.int .i64 0]/\BT p 96 0=some (0,1,false)/\BT p 96 1=some (1,1,false)/\BT p 96 2=some (2,1,false)/\BT p 96 3=some (3,1,false)/\CQ p 83=some 10/\Cj p 83=true/\DP p 83=some [.string ⟨#[]⟩,.slice none 0 0,.int .i64 0,.string ⟨#[]⟩,.string ⟨#[]⟩,.slice none 0 0,.slice none 0 0,.slice none 0 0,.slice none 0 0,.slice none 0 0]/\BT p 89 0=some (0,1,false)/\CQ p 4=some 1/\Cj p 4=false/\kT p 42=2/\BT p 33 0=some (0,1,false)/\BT p 33 1=some (1,1,false)/\BT p 33 4=some (4,1,false)/\BT p 33 2=some (2,1,false)/\BT p 33 3=some (3,1,false)/\BT p 77 1=some (1,1,false)/\BT p 77 4=some (9,1,false)/\CQ p 64=some 1/\Cj p 64=false/\kT p 64=5/\BT p 77 5=some (10,5,true)/\CQ p 75=some 5/\Cj p 75=true/\kT p 103=8/\DP p 103=some [.slice none 0 0,.slice none 0 0]/\Fy p 103=some [(0,1),(1,1)]/\BT p 77 3=some (8,1,false)/\kT p 28=8/\Fy p 28=some [(0,1),(1,1),(2,1),(3,1),(4,1),(5,1),(6,1)]/\Jn p 110=some (3,(.bool false))/\kT p 5=2/\LZ p 42=some (.int .i64 0)/\BT p 123 0=some (0,1,false)/\BT p 123 1=some (1,1,false)/\BT p 67 4=some (4,1,false)/\CQ p 65=some 1/\Cj p 65=false/\kT p 65=5/\Dc p 65=some (5,88)/\BT p 67 5=some (5,1,false)/\CQ p 63=some 1/\Cj p 63=false/\BT p 67 0=some (0,1,false)/\BT p 67 1=some (1,1,false)/\BT p 67 2=some (2,1,false)/\BT p 67 3=some (3,1,false)/\DP p 50=some [.nilFunc]/\CQ p 50=some 1/\Cj p 50=false/\CQ p 123=some 2/\Cj p 123=true/\DP p 123=some [.string ⟨#[]⟩,.string ⟨#[]⟩]/\BT p 83 0=some (0,1,false)/\BT p 83 1=some (1,1,false)/\BT p 85 0=some (0,1,false)/\BT p 85 1=some (1,1,false)/\BT p 85 2=some (2,1,false)/\DP p 3=some [.int .i64 0]/\BT p 75 4=some (4,1,false)/\kT p 75=8/\DP p 75=some [.string ⟨#[]⟩,.string ⟨#[]⟩,.int .i64 0,.slice none 0 0,.slice none 0 0]/\Fy p 75=some [(0,1),(1,1),(2,1),(3,1),(4,1)]/\CQ p 103=some 2/\Cj p 103=true/\kT p 123=8/\NY p 123=some 2/\BT p 75 0=some (0,1,false)/\BT p 75 1=some (1,1,false)/\BT p 75 2=some (2,1,false)/\BT p 75 3=some (3,1,false)/\GQ p 23=some [.string ⟨#[]⟩,.slice none 0 0]/\GQ p 24=some [.string ⟨#[]⟩,.slice none 0 0,.int .i64 0,.int .i64 0]/\GQ p 25=some [.string ⟨#[]⟩,.slice none 0 0,.int .i64 0,.string ⟨#[]⟩,.string ⟨#[]⟩,.slice none 0 0,.slice none 0 0,.slice none 0 0,.slice none 0 0,.slice none 0 0]/\GQ p 26=some [.string ⟨#[]⟩,.slice none 0 0,.int .i64 0,.string ⟨#[]⟩,.string ⟨#[]⟩,.slice none 0 0,.slice none 0 0,.slice none 0 0,.slice none 0 0,.string ⟨#[]⟩,.string ⟨#[]⟩,.slice none 0 0,.slice none 0 0,.slice none 0 0,.slice none 0 0,.string ⟨#[]⟩,.string ⟨#[]⟩,.slice none 0 0,.slice none 0 0,.slice none 0 0,.slice none 0 0,.slice none 0 0,.slice none 0 0]/\kT p 94=8/\Fy p 94=some [(0,1),(1,1)]/\kT p 96=8/\Fy p 96=some [(0,1),(1,1),(2,1),(3,1)]/\DP p 172=some [.string ⟨#[]⟩,.slice none 0 0,.int .i64 0,.slice none 0 0,.slice none 0 0]/\CQ p 172=some 5/\Cj p 172=true/\BT p 172 0=some (0,1,false)/\BT p 172 1=some (1,1,false)/\BT p 172 2=some (2,1,false)/\BT p 172 3=some (3,1,false)/\BT p 172 4=some (4,1,false)/\CQ p 170=some 1/\Cj p 170=false/\kT p 170=5/\Dc p 170=some (1,24)/\kT p 83=8/\Fy p 83=some [(0,1),(1,1),(2,1),(3,6),(9,1)]/\kT p 85=8/\Fy p 85=some [(0,1),(1,1),(2,1),(3,6),(9,6),(15,6),(21,1),(22,1)]/\BT p 103 1=some (1,1,false)/\BT p 103 0=some (0,1,false)/\Fy p 123=some [(0,1),(1,1)]/\GQ p 170=some [.slice none 0 0]/\kT p 172=8/\Fy p 172=some [(0,1),(1,1),(2,1),(3,1),(4,1)]/\JE p 9=none/\JE p 201=none/\kT p 201=5/\Lc p 201=true/\Dc p 201=some (1,1)/\CQ p 5=some 1/\Cj p 5=false/\GQ p 65=some [.string ⟨#[]⟩,.string ⟨#[]⟩,.int .i64 0,.slice none 0 0,.slice none 0 0]/\kT p 211=8/\DP p 211=some [.int .i64 0]/\Fy p 211=some [(0,1)]/\kT p 222=8/\DP p 222=some [.slice none 0 0,.slice none 0 0]/\Fy p 222=some [(0,1),(1,1)]/\CQ p 222=some 2/\Cj p 222=true/\BT p 211 0=some (0,1,false)/\BT p 222 1=some (1,1,false)/\BT p 222 0=some (0,1,false):=by
 subst h
 (repeat' apply And.intro)<;>kernel_rfl
theorem AX:type_of% (VG rfl):=VG rfl
def w:=uu @w0 @AX
end Ty
section
variable {P:Program}{ow:Nat->Bool}{wf:FuncId->Bool}{n:Nat}{Q:BU}{s:AE}{h:A0}{f q:Prop}
theorem zI:Nonempty Unit:=⟨()⟩
theorem yT:(!true)=false:=rfl
theorem yF:(!false)=true:=rfl
theorem uR{id:Nat}{ops:List Oper}{K:AE->A0->Prop}(W:f)(k:q)(e:f->q->EN P ow n ops ops K s h:=by(first|(intro W k;simp only[Ty.w,simprocAttr,BD,Bv,List.nil_append,Bq,W];exact k)|(refine λW (_:Nonempty Unit)=>?_;simp only[Ty.w,simprocAttr,BD,Bv,List.nil_append,Bq,W]))):Ar P ow wf n (.region id ops.toArray false) (BU.seq K Q) s h:=Bp (e W k)
theorem uQ{id:Nat}{ops:List Oper}{q:(AE->A0->Prop)->Prop}(W:f)(k: ∀ K:AE->A0->Prop,(∀ s h,Q .normal s h->K s h)->q K)(e: ∀ K:AE->A0->Prop,f->q K->EN P ow n ops ops K s h:=by(intro K;first|(intro W k;simp only[Ty.w,simprocAttr,BD,Bv,List.nil_append,Bq,W];exact k)|(refine λW (_:Nonempty Unit)=>?_;simp only[Ty.w,simprocAttr,BD,Bv,List.nil_append,Bq,W]))):Ar P ow wf n (.region id ops.toArray false) Q s h:=FW λK hK=>e K W (k K hK)
theorem uD{id:Nat}{ops:List Oper}{K:AE->A0->Prop}(W:f)(k:q)(hd:Jr ow wf ops=true:=by decide+kernel)(e:f->q->FH P ow wf n ops 0 ops [] [] K s h:=by(first|(intro W k;simp only[Ty.w,simprocAttr,BD,Bv,List.nil_append,Bq,W];exact k)|(refine λW (_:Nonempty Unit)=>?_;simp only[Ty.w,simprocAttr,BD,Bv,List.nil_append,Bq,W]))):Ar P ow wf n (.region id ops.toArray true) (BU.seq K Q) s h:=Nq hd (e W k)
theorem uE{id:Nat}{ops:List Oper}{q:(AE->A0->Prop)->Prop}(W:f)(k: ∀ K:AE->A0->Prop,(∀ s h,Q .normal s h->K s h)->q K)(hd:Jr ow wf ops=true:=by decide+kernel)(e: ∀ K:AE->A0->Prop,f->q K->FH P ow wf n ops 0 ops [] [] K s h:=by(intro K;first|(intro W k;simp only[Ty.w,simprocAttr,BD,Bv,List.nil_append,Bq,W];exact k)|(refine λW (_:Nonempty Unit)=>?_;simp only[Ty.w,simprocAttr,BD,Bv,List.nil_append,Bq,W]))):Ar P ow wf n (.region id ops.toArray true) Q s h:=UU hd λK hK=>e K W (k K hK)
theorem uT(W:f)(k:q)(e:f->q->Q .ret s h:=by(first|(intro W k;simp only[Ty.w,simprocAttr,BD,Bv,List.nil_append,Bq,W];exact k)|(refine λW (_:Nonempty Unit)=>?_;simp only[Ty.w,simprocAttr,BD,Bv,List.nil_append,Bq,W]))):Ar P ow wf n .ret Q s h:=Eu (e W k)
theorem uK(k:q)(e:q->Q .normal s h:=by(first|(intro k;(try simp only[At,simprocAttr]);exact k)|(refine λ(_:Nonempty Unit)=>?_;simp only[At,simprocAttr]))):Ar P ow wf n .skip Q s h:=Gk (e k)
theorem uX{id:Nat}(k:q)(e:q->Q (.exit id) s h:=by(first|(intro k;(try simp only[At,simprocAttr]);exact k)|(refine λ(_:Nonempty Unit)=>?_;simp only[At,simprocAttr]))):Ar P ow wf n (.exit id) Q s h:=bI (e k)
theorem uN{K R:AE->A0->Prop}(hK: ∀ s h,R s h->K s h)(k:q)(e:q->R s h:=by(first|(intro k;(try simp only[At,simprocAttr]);exact k)|(refine λ(_:Nonempty Unit)=>?_;simp only[At,simprocAttr]))):K s h:=hK _ _ (e k)
theorem C3{c:Operand}{x y:Code}{b:Bool}(W:f)(k:q)(e:f->A9 s c= .sc (.bool b):=by(intro W;(try simp only[Ty.w,simprocAttr,BD,Bv,List.nil_append,Bq,W]);rfl))(e2:q->Ar P ow wf n (bif b then x else y) Q s h:=by(intro k;(first|rw[AB]|rw[AJ]);exact k)):Ar P ow wf n (.cond c x y) Q s h:=Eg b (e W) (λhb=>by have:=e2 k;rw[hb,AB]at this;exact this) (λhb=>by have:=e2 k;rw[hb,AJ]at this;exact this)
theorem uP{α:Type}{A:Nat × α->Prop}{ops:List Oper}{kk:Nat}{R:Prop}{l:List (Nat × α)}{is:List Nat}(W:f)(k:q)(h1:l.map (·.1)=is:=by rfl)(h2:is.all (λi=>pre ops i kk)=true:=by decide+kernel)(e:f->q->R:=by(first|(intro W k;(try simp only[Ty.w,simprocAttr,BD,Bv,List.nil_append,Bq,W]);exact k)|(refine λW (_:Nonempty Unit)=>?_;simp only[Ty.w,simprocAttr,BD,Bv,List.nil_append,Bq,W]))):(∀ x∈l,pre ops x.1 kk=true\/A x)/\R:=ew is h1 h2 (e W k)
theorem uB{α:Type}{A:Nat × α->Prop}{ops:List Oper}{kk:Nat}{R:Prop}{l:List (Nat × α)}(W:f)(k:q)(h1:f-> ∀ x∈l,pre ops x.1 kk=true\/A x:=by(intro W;simp only[List.forall_mem_cons,Ty.w,simprocAttr,W]<;>(repeat' apply And.intro)<;>first|exact .inl (by decide+kernel)|exact True.intro))(e:f->q->R:=by(first|(intro W k;(try simp only[Ty.w,simprocAttr,BD,Bv,List.nil_append,Bq,W]);exact k)|(refine λW (_:Nonempty Unit)=>?_;simp only[Ty.w,simprocAttr,BD,Bv,List.nil_append,Bq,W]))):(∀ x∈l,pre ops x.1 kk=true\/A x)/\R:=RT (h1 W) (e W k)
theorem uU{fn:FuncId}{dst:Option Tmp}{args:List Operand}{ts:Array TypeId}{ty:TypeId}{pos:String}{af:Array Edge}{gd:Option (Nat × Bool)}{ag:List PV}{v:PV}{K:AE->A0->Prop}{ops rest:List Oper}(W:f)(hc:A6 P fn ag h λr h'=>r=v/\h'=h)(k:q)(ha:f->args.map (A9 s)=ag:=by(intro W;(try simp only[Ty.w,simprocAttr,W]);try rfl))(e:f->q->EN P ow n ops rest K (Ak s dst v) h:=by(first|(intro W k;simp only[Ty.w,simprocAttr,BD,Bv,List.nil_append,Bq,W];exact k)|(refine λW (_:Nonempty Unit)=>?_;simp only[Ty.w,simprocAttr,BD,Bv,List.nil_append,Bq,W]))):
  CY P ow {dst:=dst,op:= .call {callee:= .value (.func fn),args:=args.toArray,argTypes:=ts},type:=ty,pos:=pos,after:=af,guard:=gd} (Et P ow n ops rest K) s h:=Gy hc (ha W) (e W k)
theorem uV{fn:FuncId}{d:Nat}{args:List Operand}{ts:Array TypeId}{ty:TypeId}{pos:String}{af:Array Edge}{gd:Option (Nat × Bool)}{ag:List PV}{v:PV}{ops rest:List Oper}{kk k':Nat}{past:Gl}{hist:List (Nat × A0)}{K:AE->A0->Prop}(W:f)(hc:A6 P fn ag h λr h'=>r=v/\h'=h)(k:q)(ha:f->args.map (A9 s)=ag:=by(intro W;(try simp only[Ty.w,simprocAttr,W]);try rfl))
  (e:f->q->FH P ow wf n ops kk rest ((k',{dst:=some d,op:= .call {callee:= .value (.func fn),args:=args.toArray,argTypes:=ts},type:=ty,pos:=pos,after:=af,guard:=gd},s,v)::past) hist K (Ci s d v) h:=by(first|(intro W k;simp only[Ty.w,simprocAttr,BD,Bv,List.nil_append,Bq,W];exact k)|(refine λW (_:Nonempty Unit)=>?_;simp only[Ty.w,simprocAttr,BD,Bv,List.nil_append,Bq,W]))):
  ∃ v,Ap P ow {dst:=some d,op:= .call {callee:= .value (.func fn),args:=args.toArray,argTypes:=ts},type:=ty,pos:=pos,after:=af,guard:=gd} (A9 s) h v h/\
   EU P ow wf n ops kk rest (Dj P ow ((k',{dst:=some d,op:= .call {callee:= .value (.func fn),args:=args.toArray,argTypes:=ts},type:=ty,pos:=pos,after:=af,guard:=gd},s,v)::past)) hist K (Ci s d v) h:=Ml hc (ha W) (e W k)
theorem uA{fn:FuncId}{d:Nat}{args:List Operand}{ts:Array TypeId}{ty:TypeId}{pos:String}{af:Array Edge}{gd:Option (Nat × Bool)}{ag:List PV}{v:PV}{ops rest:List Oper}{kk k':Nat}{past:Gl}{hist:List (Nat × A0)}{K:AE->A0->Prop}{A:PV->Prop}(W:f)(hc:A6 P fn ag h λr h'=>r=v/\h'=h)(k:q)(ha:f->args.map (A9 s)=ag:=by(intro W;(try simp only[Ty.w,simprocAttr,W]);try rfl))(hA:f->A v:=by(intro W;simp only[Ty.w,simprocAttr,W];try trivial))
  (e:f->q->FH P ow wf n ops kk rest ((k',{dst:=some d,op:= .call {callee:= .value (.func fn),args:=args.toArray,argTypes:=ts},type:=ty,pos:=pos,after:=af,guard:=gd},s,v)::past) hist K (Ci s d v) h:=by(first|(intro W k;simp only[Ty.w,simprocAttr,BD,Bv,List.nil_append,Bq,W];exact k)|(refine λW (_:Nonempty Unit)=>?_;simp only[Ty.w,simprocAttr,BD,Bv,List.nil_append,Bq,W]))):
  ∃ v,Ap P ow {dst:=some d,op:= .call {callee:= .value (.func fn),args:=args.toArray,argTypes:=ts},type:=ty,pos:=pos,after:=af,guard:=gd} (A9 s) h v h/\A v/\
   EU P ow wf n ops kk rest (Dj P ow ((k',{dst:=some d,op:= .call {callee:= .value (.func fn),args:=args.toArray,argTypes:=ts},type:=ty,pos:=pos,after:=af,guard:=gd},s,v)::past)) hist K (Ci s d v) h:=Iq hc (ha W) (hA W) (e W k)
theorem uZ{fn:FuncId}{d:Nat}{args:List Operand}{ts:Array TypeId}{ty:TypeId}{pos:String}{af:Array Edge}{gd:Option (Nat × Bool)}{ag:List PV}{v:PV}{h1:A0}{ops rest:List Oper}{kk:Nat}{past:Gl}{hist:List (Nat × A0)}{K:AE->A0->Prop}{A:A0->Prop}(W:f)(hc:A6 P fn ag h λr h'=>r=v/\h'=h1)(k:q)(ha:f->args.map (A9 s)=ag:=by(intro W;(try simp only[Ty.w,simprocAttr,W]);try rfl))(hA:f->A h1:=by(intro W;(try simp(maxSteps:=4000000) only[Ty.w,simprocAttr,Dj,List.map_cons,List.map_nil,List.forall_mem_cons,W])<;>((repeat' apply And.intro)<;>first|trivial|exact .inl (by decide+kernel)|exact .inr A4|exact .inr (by simp only[Ty.w,simprocAttr,W])|exact(λ_ hx=>by cases hx))))
  (e:f->q->FH P ow wf n ops kk rest past hist K (Ci s d v) h1:=by(first|(intro W k;simp only[Ty.w,simprocAttr,BD,Bv,List.nil_append,Bq,W];exact k)|(refine λW (_:Nonempty Unit)=>?_;simp only[Ty.w,simprocAttr,BD,Bv,List.nil_append,Bq,W]))):
  ∃ v h',Ap P ow {dst:=some d,op:= .call {callee:= .value (.func fn),args:=args.toArray,argTypes:=ts},type:=ty,pos:=pos,after:=af,guard:=gd} (A9 s) h v h'/\A h'/\
   EU P ow wf n ops kk rest (Dj P ow past) hist K (Ci s d v) h':=Lm hc (ha W) (hA W) (e W k)
theorem uJ{fn:FuncId}{d:Nat}{args:List Operand}{ts:Array TypeId}{ty:TypeId}{pos:String}{af:Array Edge}{gd:Option (Nat × Bool)}{ag:List PV}{v:PV}{ops rest:List Oper}{kk k':Nat}{past:Gl}{hist:List (Nat × A0)}{K:AE->A0->Prop}{A:PV->Prop}(W:f)(hc: ∀ h,A6 P fn ag h λr h'=>r=v/\h'=h)(k:q)(ha:f->args.map (A9 s)=ag:=by(intro W;(try simp only[Ty.w,simprocAttr,W]);try rfl))(hA:f->args.map (A9 s)=ag->A v:=by(intro W hh;(try simp(maxSteps:=4000000) only[List.map_cons,List.map_nil,List.forall_mem_cons,W])<;>((repeat' apply And.intro)<;>first|trivial|exact .inl (by decide+kernel)|exact .inr A4|exact .inr (CT (hc _) hh)|exact(λ_ hx=>by cases hx))))
  (e:f->q->FH P ow wf n ops kk rest ((k',{dst:=some d,op:= .call {callee:= .value (.func fn),args:=args.toArray,argTypes:=ts},type:=ty,pos:=pos,after:=af,guard:=gd},s,v)::past) hist K (Ci s d v) h:=by(first|(intro W k;simp only[Ty.w,simprocAttr,BD,Bv,List.nil_append,Bq,W];exact k)|(refine λW (_:Nonempty Unit)=>?_;simp only[Ty.w,simprocAttr,BD,Bv,List.nil_append,Bq,W]))):
  ∃ v,Ap P ow {dst:=some d,op:= .call {callee:= .value (.func fn),args:=args.toArray,argTypes:=ts},type:=ty,pos:=pos,after:=af,guard:=gd} (A9 s) h v h/\A v/\
   EU P ow wf n ops kk rest (Dj P ow ((k',{dst:=some d,op:= .call {callee:= .value (.func fn),args:=args.toArray,argTypes:=ts},type:=ty,pos:=pos,after:=af,guard:=gd},s,v)::past)) hist K (Ci s d v) h:=Iq (hc h) (ha W) (hA W (ha W)) (e W k)
theorem VH{fn:FuncId}{d:Nat}{args:List Operand}{ts:Array TypeId}{ty:TypeId}{pos:String}{af:Array Edge}{gd:Option (Nat × Bool)}{ag:List PV}{v:PV}{ops rest:List Oper}{kk k':Nat}{past:Gl}{hist:List (Nat × A0)}{K:AE->A0->Prop}{A:PV->Prop}(W:f)(hc:A6 P fn ag h λr h'=>r=v/\h'=h)(k:q)(ha:f->args.map (A9 s)=ag:=by(intro W;(try simp only[Ty.w,simprocAttr,W]);try rfl))(hA:f->A v:=by(intro W;(try simp(maxSteps:=4000000) only[List.map_cons,List.map_nil,List.forall_mem_cons,W])<;>((repeat' apply And.intro)<;>first|trivial|exact .inl (by decide+kernel)|exact .inr A4|exact(λ_ hx=>by cases hx))))
  (e:f->q->FH P ow wf n ops kk rest ((k',{dst:=some d,op:= .call {callee:= .value (.func fn),args:=args.toArray,argTypes:=ts},type:=ty,pos:=pos,after:=af,guard:=gd},s,v)::past) hist K (Ci s d v) h:=by(first|(intro W k;simp only[Ty.w,simprocAttr,BD,Bv,List.nil_append,Bq,W];exact k)|(refine λW (_:Nonempty Unit)=>?_;simp only[Ty.w,simprocAttr,BD,Bv,List.nil_append,Bq,W]))):
  ∃ v,Ap P ow {dst:=some d,op:= .call {callee:= .value (.func fn),args:=args.toArray,argTypes:=ts},type:=ty,pos:=pos,after:=af,guard:=gd} (A9 s) h v h/\A v/\
   EU P ow wf n ops kk rest (Dj P ow ((k',{dst:=some d,op:= .call {callee:= .value (.func fn),args:=args.toArray,argTypes:=ts},type:=ty,pos:=pos,after:=af,guard:=gd},s,v)::past)) hist K (Ci s d v) h:=Iq hc (ha W) (hA W) (e W k)
structure Tk(c:Code)(Q:BU):Type where
@[irreducible] def Kc (P:Program)(ow:Nat->Bool)(wf:FuncId->Bool)(n:Nat)(c:Code)(Q:BU)(_:Tk c Q)(s:AE)(h:A0):Prop:=Ar P ow wf n c Q s h
structure Tq(Q:BU):Type where
@[irreducible] def Kn (Q:BU)(_:Tq Q)(s:AE)(h:A0):Prop:=Q .normal s h
structure Hd(p:Prop):Prop where
 out:p
structure It(n:Nat):Prop where
theorem sK{a b:Code}(k:Ar P ow wf n a (BU.seq (Kc P ow wf n b Q ⟨⟩) Q) s h):Ar P ow wf n (.seq a b) Q s h:=by
 simp only[Ar];unfold Kc at k;exact k
theorem cK{b:Code}{t:Tk b Q}(k:Ar P ow wf n b Q s h):Kc P ow wf n b Q t s h:=by
 unfold Kc;exact k
theorem nK{t:Tq Q}(k:q)(e:q->Q .normal s h:=by(first|(intro k;(try simp only[At,simprocAttr]);exact k)|(refine λ(_:Nonempty Unit)=>?_;simp only[At,simprocAttr]))):Kn Q t s h:=by
 unfold Kn;exact e k
theorem uq{id:Nat}{ops:List Oper}(W:f)(k:q)(e:f->q->EN P ow n ops ops (Kn Q ⟨⟩) s h:=by(first|(intro W k;simp only[Ty.w,simprocAttr,BD,Bv,List.nil_append,Bq,W];exact k)|(refine λW (_:Nonempty Unit)=>?_;simp only[Ty.w,simprocAttr,BD,Bv,List.nil_append,Bq,W]))):Ar P ow wf n (.region id ops.toArray false) Q s h:=by
 simp only[Ar,BQ,AP];have y:=e W k;unfold Kn at y;exact⟨_,_,.refl,Jy _ _ _ y⟩
theorem ue{id:Nat}{ops:List Oper}(W:f)(k:q)(hd:Jr ow wf ops=true:=by decide+kernel)(e:f->q->FH P ow wf n ops 0 ops [] [] (Kn Q ⟨⟩) s h:=by(first|(intro W k;simp only[Ty.w,simprocAttr,BD,Bv,List.nil_append,Bq,W];exact k)|(refine λW (_:Nonempty Unit)=>?_;simp only[Ty.w,simprocAttr,BD,Bv,List.nil_append,Bq,W]))):Ar P ow wf n (.region id ops.toArray true) Q s h:=by
 simp only[Ar,AO];have y:=e W k;unfold Kn at y;exact⟨_,_,.refl,.inl ⟨hd,JI _ _ _ _ _ _ y⟩⟩
theorem yH{id i:Nat}{ops:Array Oper}{d:Bool}{x y:Code}(_:It i)(hh:Hd (Ar P ow wf n (.seq (.seq (.region id ops d) x) y) Q s h))(e:id=i:=by rfl):Ar P ow wf n (.seq (.seq (.region id ops d) x) y) Q s h:=hh.out
theorem yR{id i:Nat}{ops:Array Oper}{d:Bool}{y:Code}(_:It i)(hh:Hd (Ar P ow wf n (.seq (.region id ops d) y) Q s h))(e:id=i:=by rfl):Ar P ow wf n (.seq (.region id ops d) y) Q s h:=hh.out
theorem yB{id i:Nat}{ops:Array Oper}{d:Bool}(_:It i)(hh:Hd (Ar P ow wf n (.region id ops d) Q s h))(e:id=i:=by rfl):Ar P ow wf n (.region id ops d) Q s h:=hh.out
theorem dL{g:Prop}(e:g:=by(intro x hx;repeat'(first|(exact absurd hx (List.not_mem_nil))|(rcases List.mem_cons.1 hx with rfl|hx)|(refine .inr ?_;dsimp only;omega)|(refine .inr ?_;exact List.not_mem_nil)|(refine .inr λhm=>?_;have:=List.mem_singleton.1 hm;omega)|(refine .inl ?_;dsimp only;decide+kernel)))):g:=e
theorem sq{g:Prop}(W:f)(e:f->g:=by(intro W;simp only[Ty.w,simprocAttr,W])):g:=e W
theorem sr{g:Prop}(W:f)(e:f->g:=by(intro W;(try simp only[Ty.w,simprocAttr,W]);try rfl)):g:=e W
theorem wt{g:Prop}(W:f)(k:q)(e:f->q->g:=by(intro W k;(repeat'(first|refine cK ?_|refine nK ?_|refine sK ?_|refine Ck ?_|refine uR W ?_|refine uq W ?_|refine uT W ?_|refine uK ?_|refine uX ?_|refine C3 W ?_|(refine uN hK ?_;clear hK)|(clear hK;refine uN hK ?_;clear hK)|(clear hK;clear hK;refine uN hK ?_;clear hK)|(clear hK;clear hK;clear hK;refine uN hK ?_;clear hK)|apply zI));exact k)):g:=e W k
theorem wm{g:Prop}(W:f)(k:q)(e:f->q->g:=by first|(intro W k;(repeat'(first|refine cK ?_|refine nK ?_|refine sK ?_|refine Ck ?_|refine uR W ?_|refine uq W ?_|refine uT W ?_|refine uK ?_|refine uX ?_|refine C3 W ?_|(refine uN hK ?_;clear hK)|(clear hK;refine uN hK ?_;clear hK)|(clear hK;clear hK;refine uN hK ?_;clear hK)|(clear hK;clear hK;clear hK;refine uN hK ?_;clear hK)|apply zI));exact k)|(refine λW (_:Nonempty Unit)=>?_;repeat'(first|refine cK ?_|refine nK ?_|refine sK ?_|refine Ck ?_|refine uR W ?_|refine uq W ?_|refine uT W ?_|refine uK ?_|refine uX ?_|refine C3 W ?_|(refine uN hK ?_;clear hK)|(clear hK;refine uN hK ?_;clear hK)|(clear hK;clear hK;refine uN hK ?_;clear hK)|(clear hK;clear hK;clear hK;refine uN hK ?_;clear hK)|apply zI))):g:=e W k
theorem wz{g:Prop}(W:f)(e:f->g:=by(intro W;repeat'(first|refine cK ?_|refine nK ?_|refine sK ?_|refine Ck ?_|refine uR W ?_|refine uq W ?_|refine uT W ?_|refine uK ?_|refine uX ?_|refine C3 W ?_|(refine uN hK ?_;clear hK)|(clear hK;refine uN hK ?_;clear hK)|(clear hK;clear hK;refine uN hK ?_;clear hK)|(clear hK;clear hK;clear hK;refine uN hK ?_;clear hK)|apply zI))):g:=e W
theorem wy{g:Prop}(W:f)(k:q)(e:f->q->g:=by(intro W k;(repeat'(first|refine cK ?_|refine nK ?_|refine sK ?_|refine Ck ?_|refine uR W ?_|refine uD W ?_|refine uq W ?_|refine ue W ?_|refine uT W ?_|refine uK ?_|refine uX ?_|refine C3 W ?_|(refine uN hK ?_;clear hK)|(clear hK;refine uN hK ?_;clear hK)|(clear hK;clear hK;refine uN hK ?_;clear hK)|(clear hK;clear hK;clear hK;refine uN hK ?_;clear hK)|refine uP W ?_|refine uB W ?_|apply zI));exact k)):g:=e W k
theorem wo{g:Prop}(W:f)(k:q)(e:f->q->g:=by first|(intro W k;(repeat'(first|refine cK ?_|refine nK ?_|refine sK ?_|refine Ck ?_|refine uR W ?_|refine uD W ?_|refine uq W ?_|refine ue W ?_|refine uT W ?_|refine uK ?_|refine uX ?_|refine C3 W ?_|(refine uN hK ?_;clear hK)|(clear hK;refine uN hK ?_;clear hK)|(clear hK;clear hK;refine uN hK ?_;clear hK)|(clear hK;clear hK;clear hK;refine uN hK ?_;clear hK)|refine uP W ?_|refine uB W ?_|apply zI));exact k)|(refine λW (_:Nonempty Unit)=>?_;repeat'(first|refine cK ?_|refine nK ?_|refine sK ?_|refine Ck ?_|refine uR W ?_|refine uD W ?_|refine uq W ?_|refine ue W ?_|refine uT W ?_|refine uK ?_|refine uX ?_|refine C3 W ?_|(refine uN hK ?_;clear hK)|(clear hK;refine uN hK ?_;clear hK)|(clear hK;clear hK;refine uN hK ?_;clear hK)|(clear hK;clear hK;clear hK;refine uN hK ?_;clear hK)|refine uP W ?_|refine uB W ?_|apply zI))):g:=e W k
theorem xH{g:Prop}(i:Nat)(W:f)(k:q)(e:It i->f->q->g:=by(intro I W k;(repeat'(first|refine cK ?_|(with_reducible refine yH I ?_)|refine cK ?_|refine nK ?_|refine sK ?_|refine Ck ?_|refine uR W ?_|refine uq W ?_|refine uT W ?_|refine uK ?_|refine uX ?_|refine C3 W ?_|(refine uN hK ?_;clear hK)|(clear hK;refine uN hK ?_;clear hK)|(clear hK;clear hK;refine uN hK ?_;clear hK)|(clear hK;clear hK;clear hK;refine uN hK ?_;clear hK)|apply zI));exact k)):g:=e ⟨⟩ W k
theorem xG{g:Prop}(i:Nat)(W:f)(k:q)(e:It i->f->q->g:=by(intro I W k;(repeat'(first|refine cK ?_|(with_reducible refine yR I ?_)|refine cK ?_|refine nK ?_|refine sK ?_|refine Ck ?_|refine uR W ?_|refine uq W ?_|refine uT W ?_|refine uK ?_|refine uX ?_|refine C3 W ?_|(refine uN hK ?_;clear hK)|(clear hK;refine uN hK ?_;clear hK)|(clear hK;clear hK;refine uN hK ?_;clear hK)|(clear hK;clear hK;clear hK;refine uN hK ?_;clear hK)|apply zI));exact k)):g:=e ⟨⟩ W k
theorem xB{g:Prop}(i:Nat)(W:f)(k:q)(e:It i->f->q->g:=by(intro I W k;(repeat'(first|refine cK ?_|(with_reducible refine yB I ?_)|refine cK ?_|refine nK ?_|refine sK ?_|refine Ck ?_|refine uR W ?_|refine uq W ?_|refine uT W ?_|refine uK ?_|refine uX ?_|refine C3 W ?_|(refine uN hK ?_;clear hK)|(clear hK;refine uN hK ?_;clear hK)|(clear hK;clear hK;refine uN hK ?_;clear hK)|(clear hK;clear hK;clear hK;refine uN hK ?_;clear hK)|apply zI));exact k)):g:=e ⟨⟩ W k
theorem uG{fid:FuncId}{fn:Func}{c:Code}{args:List PV}{m:Nat}{rs:Array ResultVar}{K:PV->A0->Prop}(hf:Tryz.prog.funcs[fid]? =some fn)(h1:fn.ntmps=m)(h2:fn.results=rs)(hh:Ab prog fid=true)(hw:Ar prog ow wf m c (Ip prog rs.toList K) (Mf args) h)(hb:fn.body=some c:=by rfl)(hn:args.length<=m:=by simp):A6 prog fid args h K:=by
 subst h1 h2;exact Pc Ty.Ph hf hb hh hn hw
theorem AD{fid:FuncId}{fn:Func}{c:Code}{args:List PV}{m:Nat}{rs:Array ResultVar}{K:PV->A0->Prop}(hf:Tryz.prog.funcs[fid]? =some fn)(h1:fn.ntmps=m)(h2:fn.results=rs)(hh:Ab prog fid=true)(hw:Ar prog (λ_=>false) (λ_=>false) m c (Ip prog rs.toList K) (Mf args) h)(hb:fn.body=some c:=by rfl)(hn:args.length<=m:=by simp):A6 prog fid args h K:=uG hf h1 h2 hh hw hb hn
end
set_option maxHeartbeats 2000000
def HJ:List ByteArray:=[⟨#[97,110,100]⟩,⟨#[111,114]⟩,⟨#[110,111,116]⟩,⟨#[105,109,112,108,121]⟩,⟨#[102,111,114,97,108,108]⟩,⟨#[101,120,105,115,116,115]⟩,⟨#[119,104,101,110]⟩,⟨#[97,115,115,105,103,110]⟩,⟨#[105,110,99,114,101,97,115,101]⟩,⟨#[100,101,99,114,101,97,115,101]⟩,⟨#[111,98,106,101,99,116]⟩]
theorem gv:HJ.length=11:=rfl
def HK(l:List ByteArray)(s:ByteArray):Int:=match l.findIdx? (λw=>A2 s w)with
 |some i=>i
 |none=> -1
theorem K3{l:List ByteArray}{i:Nat}{w:ByteArray}(h:l[i]? =some w):(AL l)[i]? =some [A3 w]:=by simp[AL,h]
theorem GI(l:List ByteArray):(AL l).length=l.length:=by simp[AL]
theorem Rn{h:A0}{l:List ByteArray}{s:ByteArray}(hl:l.length<=9223372036854775807):A6 prog 117 [.A1 1 (AL l),A3 s] h λr h'=>r= qK (HK l s)/\h'=h:=by
 have hlen:=GI l;refine AD func117 ntmps117 results117 Ty.gJ ?_;refine wt hlen ?_;refine By (λm S h'=>h'=h/\S 0= .A1 1 (AL l)/\S 1=A3 s/\S 7= qK l.length/\ ∃ k:Nat,S 8= qK k/\k<=l.length/\m=l.length-k/\ ∀ (i:Nat)(w:ByteArray),i<k->l[i]? =some w->A2 s w=false) l.length ?_ ?_
 ·simp only[Ty.w,simprocAttr];exact⟨0,rfl,by omega,rfl,by omega⟩
 ·rintro m S h' ⟨rfl,g0,g1,g7,k,g8,hk,rfl,hall⟩;by_cases hlt:k<l.length
  ·have hd:decide ((k:Int)<(l.length:Int))=true:=(by simp;omega);have w7:IntKind.i64.wrap ((k:Int)+1)=k+1:=(by rw[BM (by omega) (by omega)]);obtain⟨w,hx⟩: ∃ w,l[k]? =some w:=⟨l[k],List.getElem?_eq_getElem hlt⟩;have hr:=K3 hx;cases he:A2 s w with
   |true=>
    have he':=he;unfold A2 at he';replace zz:=Ad g0 g1 g7 g8 hd hr he';refine wt zz ?_;have:l.findIdx? (λw=>A2 s w)=some k:=by
     rw[List.findIdx?_eq_some_iff_getElem];refine⟨hlt,?_,λj hj=>?_⟩
     ·rw [List.getElem?_eq_getElem hlt]at hx;simp only[BC]at hx;rw[hx];exact he
     ·rw [hall j l[j] hj (List.getElem?_eq_getElem (by omega))];simp
    simp only[HK,this]
   |false=>
    have he':=he;unfold A2 at he';replace zz:=BJ g0 g1 g7 g8 hd hr he' w7;refine wt zz ?_;refine⟨l.length-(k+1),by omega,k+1,by simp,by omega,rfl,λi w2 hi hw=>?_⟩;by_cases hik:i=k
    ·subst hik;rw[hx]at hw;simp at hw;rw[← hw];exact he
    ·exact hall i w2 (by omega) hw
  ·have hd:decide ((k:Int)<(l.length:Int))=false:=(by simp;omega);replace zz:=Ae g0 g1 g7 g8 hd;refine wt zz ?_;have:l.findIdx? (λw=>A2 s w)=none:=by
    rw[List.findIdx?_eq_none_iff];intro w hw;obtain⟨i,hi⟩:=List.getElem?_of_mem hw;have:i<l.length:=(List.getElem?_eq_some_iff.1 hi).1;exact hall i w (by omega) hi
   simp only[HK,this]
theorem gz(l:List ByteArray)(s:ByteArray):decide (HK l s>=0)=l.any (λw=>A2 s w):=by
 unfold HK;cases h:l.findIdx? (λw=>A2 s w)with
 |none=>
  rw[List.findIdx?_eq_none_iff]at h;have:l.any (λw=>A2 s w)=false:=by simpa using h
  rw[this];try rfl
 |some i=>
  rw[List.findIdx?_eq_some_iff_getElem]at h;obtain⟨hi,h1,_⟩:=h;have:l.any (λw=>A2 s w)=true:=List.any_eq_true.2 ⟨l[i],List.getElem_mem hi,h1⟩;rw[this];simp
theorem hJ{h:A0}{l:List ByteArray}{s:ByteArray}(hl:l.length<=9223372036854775807):A6 prog 60 [.A1 1 (AL l),A3 s] h λr h'=>r= .sc (.bool (l.any λw=>A2 s w))/\h'=h:=by
 refine AD func60 ntmps60 results60 Ty.Uh ?_;refine wt A4 ?_;refine uU A4 (Rn (l:=l) (s:=s) hl) ?_;refine wt A4 ?_;rw[← gz]
theorem hZ{h:A0}:A6 prog 135 [] h λr h'=>r= .A1 1 (AL HJ)/\h'=h:=by
 refine AD func135 ntmps135 results135 Ty.gQ ?_;refine wt A4 ?_;rfl
def E2(c:UInt8):Bool:=decide (97<=c.toNat)&&decide (c.toNat<=122)
def F8(c:UInt8):Bool:=E2 c||(decide (48<=c.toNat)&&decide (c.toNat<=57))||decide (c.toNat=45)||decide (c.toNat=95)
def G8(i:Nat)(c:UInt8):Bool:=E2 c||(decide (i≠0)&&F8 c)
def IK:List UInt8->Bool
 |[]=>true
 |c::l=>E2 c&&l.all F8
def As(s:ByteArray):Bool:=IK s.data.toList&&decide (0<s.size)&&decide (s.size<=32)&&!(HJ.any λw=>A2 s w)
def F9(s:ByteArray):Bool:=decide (2<=s.size)&&decide (s.size<=32)&&(match s.data.toList[0]? with|some c=>decide (c.toNat=63)|none=>false)&&As (s.extract 1 s.size)
theorem Lv(s:ByteArray)(i:Nat):s[i]? =s.data.toList[i]?:=by
 rw[getElem?_def];by_cases hi:i<s.size
 ·rw [dif_pos hi,List.getElem?_eq_getElem (by simpa using hi)];rfl
 ·rw [dif_neg hi,List.getElem?_eq_none (by simp;omega)]
theorem VI{c:UInt8}(h:E2 c=true):F8 c=true:=by simp[F8,h]
theorem iA{l:List UInt8}(h: ∀ (j:Nat)(c:UInt8),l[j]? =some c->G8 j c=true):IK l=true:=by
 cases l with
 |nil=>rfl
 |cons c l=>
  simp only[IK,AV,List.all_eq_true];refine⟨by simpa[G8]using h 0 c rfl,λx hx=>?_⟩;obtain⟨i,hi⟩:=List.getElem?_of_mem hx;have:=h (i+1) x (by simpa using hi);simp only[G8,EH,AV]at this;exact this.elim VI (·.2)
theorem iB{l:List UInt8}{j:Nat}{c:UInt8}(hj:l[j]? =some c)(h:G8 j c=false):IK l=false:=by
 cases l with
 |nil=>simp at hj
 |cons d l=>
  cases j with
  |zero=>
   simp at hj;subst hj;simp only[G8]at h;simp at h;simp[IK,h]
  |succ j=>
   simp at hj;have hm:F8 c=false:=(by simp[G8]at h;exact h.2);have:l.all F8=false:=(by rw[List.all_eq_false];exact⟨c,List.mem_of_getElem? hj,by simp[hm]⟩);simp[IK,this]
set_option maxHeartbeats 800000
theorem iC(c:UInt8):(E2 c=true/\decide ((c.toNat:Int)>=97)=true/\decide ((c.toNat:Int)<=122)=true)\/
  (E2 c=false/\decide ((c.toNat:Int)>=97)=false)\/(E2 c=false/\F8 c=false/\decide ((c.toNat:Int)>=97)=true/\decide ((c.toNat:Int)<=122)=false/\decide ((c.toNat:Int)<48)=false/\decide ((c.toNat:Int)>57)=true/\((c.toNat:Int) !=45)=true/\((c.toNat:Int) !=95)=true):=by
 by_cases h1:97<=c.toNat
 ·by_cases h2:c.toNat<=122
  ·exact .inl ⟨by simp[E2,h1,h2],by simp;omega,by simp;omega⟩
  ·refine .inr (.inr ⟨by simp[E2,h1,h2],by simp[F8,E2];omega,by simp;omega,by simp;omega,by simp;omega,by simp;omega,by simp;omega,by simp;omega⟩)
 ·exact .inr (.inl ⟨by simp[E2,h1],by simp;omega⟩)
theorem iD{c:UInt8}(h:decide ((c.toNat:Int)>=97)=false):
  (F8 c=true/\decide ((c.toNat:Int)<48)=true/\((c.toNat:Int) !=45)=false)\/
  (F8 c=false/\decide ((c.toNat:Int)<48)=true/\((c.toNat:Int) !=45)=true/\((c.toNat:Int) !=95)=true)\/
  (F8 c=true/\decide ((c.toNat:Int)<48)=false/\decide ((c.toNat:Int)>57)=false)\/
  (F8 c=true/\decide ((c.toNat:Int)<48)=false/\decide ((c.toNat:Int)>57)=true/\((c.toNat:Int) !=45)=true/\((c.toNat:Int) !=95)=false)\/
  (F8 c=false/\decide ((c.toNat:Int)<48)=false/\decide ((c.toNat:Int)>57)=true/\((c.toNat:Int) !=45)=true/\((c.toNat:Int) !=95)=true):=by
 simp at h;by_cases h1:c.toNat<48
 ·by_cases h2:c.toNat=45
  ·exact .inl ⟨by simp[F8,h2],by simp;omega,by simp;omega⟩
  ·exact .inr (.inl ⟨by simp[F8,E2];omega,by simp;omega,by simp;omega,by simp;omega⟩)
 ·by_cases h2:c.toNat<=57
  ·exact .inr (.inr (.inl ⟨by simp[F8,E2];omega,by simp;omega,by simp;omega⟩))
  ·by_cases h3:c.toNat=95
   ·exact .inr (.inr (.inr (.inl ⟨by simp[F8,h3],by simp;omega,by simp;omega,by simp;omega,by simp;omega⟩)))
   ·exact .inr (.inr (.inr (.inr ⟨by simp[F8,E2];omega,by simp;omega,by simp;omega,by simp;omega,by simp;omega⟩)))
theorem FY{h:A0}{s:ByteArray}(hs:s.size<=9223372036854775807):A6 prog 94 [A3 s] h λr h'=>r= .sc (.bool (As s))/\h'=h:=by
 have hsl:s.data.toList.length=s.size:=by rw[Ed];try rfl
 refine AD func94 ntmps94 results94 Ty.gG ?_;refine wt A4 ?_;refine By (λm S h'=>h'=h/\S 0=A3 s/\S 7= qK s.size/\ ∃ k:Nat,S 8= qK k/\k<=s.size/\m=s.size-k/\ ∀ (i:Nat)(c:UInt8),i<k->s.data.toList[i]? =some c->G8 i c=true) s.size ?_ ?_
 ·simp only[Ty.w,simprocAttr];exact⟨0,rfl,by omega,rfl,by omega⟩
 ·rintro m S h' ⟨rfl,g0,g7,k,g8,hk,rfl,hall⟩;by_cases hlt:k<s.size
  ·have hd:decide ((k:Int)<(s.size:Int))=true:=(by simp;omega);have w7:IntKind.i64.wrap ((k:Int)+1)=k+1:=(by rw[BM (by omega) (by omega)]);obtain⟨c,hx⟩: ∃ c,s.data.toList[k]? =some c:=⟨_,List.getElem?_eq_getElem (by omega)⟩;have hr:s[k]? =some c:=(by rw[Lv];exact hx);have bad:G8 k c=false->As s=false:=λe=>(by simp[As,iB hx e]);have good:G8 k c=true-> ∃ m',m'<s.size-k/\ ∃ k':Nat,(k:Int)+1=k'/\k'<=s.size/\m'=s.size-k'/\ ∀ (i:Nat)(c:UInt8),i<k'->s.data.toList[i]? =some c->G8 i c=true:=λe=>by
    refine⟨s.size-(k+1),by omega,k+1,by simp,by omega,rfl,λi c2 hi hw=>?_⟩;by_cases hik:i=k
    ·subst hik;rw[hx]at hw;simp at hw;rw[← hw];exact e
    ·exact hall i c2 (by omega) hw
   clear hall;have fin1: ∀ {e:Bool},G8 k c=false->e=false->PV.sc (.bool e)= .sc (.bool (As s)):=λh1 h2=>(by rw[h2,bad h1]);rcases iC c with⟨l1,c1,c2⟩|⟨l1,c1⟩|⟨l1,m1,c1,c2,c3,c4,c5,c6⟩
   ·replace zz:=BJ g0 g7 g8 hd hr w7 c1 c2;refine wt zz ?_;have:=good (by simp[G8,l1]);simpa using this
   ·cases k0:((k:Int)==0)with
    |true=>
     have hk0:k=0:=(by simpa using k0);have hbad:=bad (by simp[G8,l1,hk0]);replace zz:=BJ g0 g7 g8 hd hr w7 c1 k0;refine wt zz ?_;rw[hbad]
    |false=>
     have hk0:k≠0:=(by simpa using k0);rcases iD c1 with⟨m1,c3,c5⟩|⟨m1,c3,c5,c6⟩|⟨m1,c3,c4⟩|⟨m1,c3,c4,c5,c6⟩|⟨m1,c3,c4,c5,c6⟩
     ·replace zz:=B6 g0 g7 g8 hd hr w7 c1 k0 c3 c5;refine wt zz ?_;have:=good (by simp[G8,m1,hk0]);simpa using this
     ·have hbad:=bad (by simp[G8,l1,m1]);replace zz:=DX g0 g7 g8 hd hr w7 c1 k0 c3 c5 c6;refine wt zz ?_;rw[hbad]
     ·replace zz:=B6 g0 g7 g8 hd hr w7 c1 k0 c3 c4;refine wt zz ?_;have:=good (by simp[G8,m1,hk0]);simpa using this
     ·replace zz:=AY g0 g7 g8 hd hr w7 c1 k0 c3 c4 c5 c6;refine wt zz ?_;have:=good (by simp[G8,m1,hk0]);simpa using this
     ·have hbad:=bad (by simp[G8,l1,m1]);replace zz:=AY g0 g7 g8 hd hr w7 c1 k0 c3 c4 c5 c6;refine wt zz ?_;rw[hbad]
   ·have hbad:=bad (by simp[G8,l1,m1]);cases k0:((k:Int)==0)with
    |true=>
     replace zz:=BF g0 g7 g8 hd hr w7 c1 c2 k0;refine wt zz ?_;rw[hbad]
    |false=>
     replace zz:=AY g0 g7 g8 hd hr w7 c1 c2 k0 c3 c4 (uu c5 c6);refine wt zz ?_;rw[hbad]
  ·have hd:decide ((k:Int)<(s.size:Int))=false:=(by simp;omega);have hok:IK s.data.toList=true:=iA λj c hj=>hall j c (by have:=(List.getElem?_eq_some_iff.1 hj).1;omega) hj;clear hall;have hn:As s=(!(s.data.toList==(#[]:Array UInt8).toList)&&decide ((s.size:Int)<=32)&&!(HJ.any λw=>A2 s w)):=by
    have e1:decide (0<s.size)=!(s.data.toList==(#[]:Array UInt8).toList):=by
     rw[← hsl];cases s.data.toList<;>simp
    have e2:decide ((s.size:Int)<=32)=decide (s.size<=32):=by
     exact Oy.2 (by omega)
    simp only[As,hok,B7,e1,e2]
   cases b1:(s.data.toList==(#[]:Array UInt8).toList)with
   |true=>
    replace zz:=Ae g0 g7 g8 hd b1;refine wt zz ?_;rw[hn,b1];try rfl
   |false=>
    cases b2:decide ((s.size:Int)<=32)with
    |false=>
     replace zz:=Ah g0 g7 g8 hd b1 b2;refine wt zz ?_;rw[hn,b1,b2];try rfl
    |true=>
     replace zz:=Ah g0 g7 g8 hd b1 b2;refine wt zz ?_;have hwl:HJ.length<=9223372036854775807:=(by rw[gv];omega);refine uU A4 (hZ) ?_;refine uU (AU b1 b2 g0) (hJ (l:=HJ) (s:=s) hwl) ?_;refine wt (AU g0 b1 b2) ?_;rw[hn,b1,b2];try rfl
theorem Lw{h:A0}{s:ByteArray}(hs:s.size<=9223372036854775807):A6 prog 95 [A3 s] h λr h'=>r= .sc (.bool (F9 s))/\h'=h:=by
 cases b1:decide ((s.size:Int)>1)with
 |false=>
  have:F9 s=false:=by simp at b1;simp[F9];omega
  refine AD func95 ntmps95 results95 Ty.Pk ?_;refine wt b1 ?_;rw[this]
 |true=>
  cases b2:decide ((s.size:Int)<=32)with
  |false=>
   have:F9 s=false:=(by simp at b2;simp[F9];omega);refine AD func95 ntmps95 results95 Ty.Pk ?_;refine wt (uu b1 b2) ?_;rw[this]
  |true=>
   simp at b1 b2;have hsl:s.data.toList.length=s.size:=(by rw[Ed];try rfl);obtain⟨c,hx⟩: ∃ c,s.data.toList[0]? =some c:=⟨_,List.getElem?_eq_getElem (by omega)⟩;have hr:s[0]? =some c:=(by rw[Lv];exact hx);have d1:decide ((s.size:Int)>1)=true:=(by simp;omega);have d2:decide ((s.size:Int)<=32)=true:=(by simp;omega);have q1:(1:Int)<=(s.size:Int):=(by omega);have hv:F9 s=(decide (c.toNat=63)&&As (s.extract 1 s.size)):=by
    have e1:decide (2<=s.size)=true:=(by simp;omega);have e2:decide (s.size<=32)=true:=(by simp;omega);simp only[F9,e1,e2,hx,B7]
   cases b3:((c.toNat:Int)==63)with
   |false=>
    have:¬ c.toNat=63:=(by simp at b3;omega);refine AD func95 ntmps95 results95 Ty.Pk ?_;replace zz:=AW d1 d2 hr b3;refine wt zz ?_;rw[hv];simp[this]
   |true=>
    have:c.toNat=63:=(by simp at b3;omega);refine AD func95 ntmps95 results95 Ty.Pk ?_;have hsz:(s.extract 1 s.size).size<=9223372036854775807:=(by simp;omega);replace zz:=Ah d1 d2 hr b3 q1 @CW;refine wt zz ?_;replace zz:=Ah d1 d2 hr b3 q1 @CW;refine uU zz (FY (s:=s.extract 1 s.size) hsz) ?_;refine wt (AU d1 d2 b3) ?_;rw[hv,this];try rfl
end Go.Proofs.YtblgchkahpgdjaaGreat
namespace Go.AM
inductive Sx where
 |mk(kind value line col:Int)(text:ByteArray)(kids:List Sx)
mutual
def Sx.cells:Sx->List PV
 | .mk kind value line col text kids=>[qK kind,qK value,qK line,qK col,A3 text,.A1 6 (Sx.rows kids)]
def Sx.rows:List Sx->List (List PV)
 |[]=>[]
 |k::ks=>k.cells::Sx.rows ks
end
theorem Sx.rows_map: ∀ l:List Sx,Sx.rows l=l.map Sx.cells
 |[]=>rfl
 |k::ks=>by simp[Sx.rows,Sx.rows_map ks]
theorem Sx.B3(l:List Sx):(Sx.rows l).length=l.length:=by simp[Sx.rows_map]
theorem Sx.CG{l:List Sx}{i:Nat}{k:Sx}(h:l[i]? =some k):(Sx.rows l)[i]? =some k.cells:=by simp[Sx.rows_map,h]
theorem Sx.ind{C:Sx->Prop}(hC: ∀ kind value line col text kids,(∀ k∈kids,C k)->C (.mk kind value line col text kids)): ∀ e,C e
 | .mk kind value line col text kids=>hC kind value line col text kids λk hk=>Sx.ind hC k
termination_by e=>SizeOf.sizeOf e
decreasing_by
 have:=List.sizeOf_lt_of_mem hk;simp only[Sx.mk.sizeOf_spec];omega
mutual
def Sx.ok:Sx->Prop
 | .mk kind value line col text kids=>(-9223372036854775808<=kind/\kind<=9223372036854775807)/\(-9223372036854775808<=value/\value<=9223372036854775807)/\text.size<=AF/\kids.length<=AF/\Sx.DK kids
def Sx.DK:List Sx->Prop
 |[]=>True
 |k::ks=>k.ok/\Sx.DK ks
end
theorem Sx.Bs:{l:List Sx}->(Sx.DK l↔ ∀ k∈l,k.ok)
 |[]=>by simp[Sx.DK]
 |k::ks=>by simp[Sx.DK,Sx.Bs (l:=ks)]
end Go.AM
namespace Go.Proofs.YtblgchkahpgdjaaGreat
open Go.AM Go.Proofs.Tryz
def DL(c:UInt8):Bool:=decide (48<=c.toNat)&&decide (c.toNat<=57)
def Lx:List UInt8:=[45,95,63,58,60,62,61,43,42]
def wB(c:UInt8):Bool:=E2 c||DL c||Lx.contains c
def IL(c:UInt8):Bool:=decide (65<=c.toNat)&&decide (c.toNat<=90)
def Ev(c:UInt8):Option UInt8:=if IL c then some (c+32)else if wB c then some c else none
def Eh:List UInt8->Option (List UInt8)
 |[]=>some []
 |c::l=>match Ev c with
  |some d=>(Eh l).map (d::·)
  |none=>none
def FI(s:ByteArray):ByteArray × Bool:=if 0<s.size/\s.size<=32 then(match Eh s.data.toList with|some l=>(⟨l.toArray⟩,true)|none=>(⟨#[]⟩,false))else(⟨#[]⟩,false)
def E3(s:ByteArray):ByteArray:=match s.data.toList with
 |45::l=>⟨l.toArray⟩
 |_=>s
def Hn(s:ByteArray):Bool:=(E3 s).data.toList.all DL&&decide (0<(E3 s).size)
def JL(s:ByteArray):Bool:=(FI s).2&&A2 (FI s).1 s&&!(Hn (FI s).1)
mutual
def CJ:Sx->Nat->Nat->Bool × Nat
 | .mk kind value _ _ text kids,d,n=>
  if n+1>4096 then(false,n+1)
  else if kind=1 then(JL text&&decide (value=0)&&kids.isEmpty,n+1)
  else if kind=2 then(A2 text ⟨#[]⟩&&kids.isEmpty&&decide (-1099511627776<=value)&&decide (value<=1099511627776),n+1)
  else if kind=3 then(if A2 text ⟨#[]⟩=true/\value=0/\d≠32 then H4 kids (d+1) (n+1)else(false,n+1))
  else(false,n+1)
def H4:List Sx->Nat->Nat->Bool × Nat
 |[],_,n=>(true,n)
 |k::ks,d,n=>match CJ k d n with
  |(true,n')=>H4 ks d n'
  |(false,n')=>(false,n')
end
end Go.Proofs.YtblgchkahpgdjaaGreat
namespace Go.AM
def VJ:Value->Value->Bool
 | .int k a,.int k' b=>decide (k=k')&&decide (a=b)
 | .bool a,.bool b=>a==b
 | .string a,.string b=>decide (a.data.toList=b.data.toList)
 | .nilIface,.nilIface=>true
 | .pointer none,.pointer none=>true
 | .map none,.map none=>true
 | .slice none n m,.slice none n' m'=>decide (n=n')&&decide (m=m')
 | .func (.func f) a b,.func (.func f') a' b'=>decide (f=f')&&decide (a.size=0)&&decide (b.size=0)&&decide (a'.size=0)&&decide (b'.size=0)
 | .iface t v,.iface u x=>decide (t=u)&&VJ v x
 |_,_=>false
mutual
def VK:PV->PV->Bool
 | .sc v,.sc u=>VJ v u
 | .ptr a b c,.ptr a' b' c'=>decide (a=a')&&decide (b=b')&&decide (c=c')
 | .own a b c,.own a' b' c'=>decide (a=a')&&decide (b=b')&&decide (c=c')
 | .mp a,.mp b=>decide (a=b)
 | .emp,.emp=>true
 | .Aj l,.Aj l'=>Ly l l'
 | .agg l,.agg l'=>Ly l l'
 | .Al l,.Al l'=>Ly l l'
 | .fn f a b,.fn f' a' b'=>decide (f=f')&&Ly a a'&&Ly b b'
 | .ab k a b c d,.ab k' a' b' c' d'=>decide (k=k')&&decide (a=a')&&decide (b=b')&&decide (c=c')&&decide (d=d')
 | .A1 z r,.A1 z' r'=>decide (z=z')&&VL r r'
 |_,_=>false
def Ly:List PV->List PV->Bool
 |[],[]=>true
 |a::l,b::l'=>VK a b&&Ly l l'
 |_,_=>false
def VL:List (List PV)->List (List PV)->Bool
 |[],[]=>true
 |a::l,b::l'=>Ly a b&&VL l l'
 |_,_=>false
end
abbrev O5:=FuncId->List PV->A0->Option (PV × Bool × A0)
section
variable (P:Program)(wf:FuncId->Bool)(own:FuncId->Nat->Bool)(CS:FuncId->List PV->Option PV)
def Ro(call:O5)(ow:Nat->Bool)(o:Oper)(ρ:Operand->PV)(h:A0):Option (PV × Bool × A0):=
 match callee ρ o.op with
 |some (f,args)=>call f args h
 |none=>match AZ P (o.dst.any ow) o.op ρ h with
  |some (v,h')=>some (v,!(BL ow wf o),h')
  |none=>none
def VM(call:O5)(ow:Nat->Bool)(o:Oper)(ρ:Operand->PV)(h:A0)(v:PV):Bool:=
 match Ro P wf call ow o ρ h with
 |some (v',q,_)=>q&&VK v' v
 |none=>false
def xl(call:O5)(ow:Nat->Bool)(n:Nat)(ops:List Oper):List Oper->AE->Bool->A0->Option (AE × Bool × A0)
 |[],s,q,h=>some (s,q,h)
 | o :: rest, s, q, h => if o.dst.all (λd => decide (d < n)) = true then
   match D4 ops s o with
   |none=>none
   |some false=>xl call ow n ops rest (Ak s o.dst (.sc undef)) q h
   |some true=>match Ro P wf call ow o (A9 s) h with
    |some (v,q',h')=>xl call ow n ops rest (Ak s o.dst v) (q&&q') h'
    |none=>none
  else none
def xd(call:O5)(ow:Nat->Bool)(n:Nat)(ops:List Oper):Nat->List Oper->List (Nat × Oper × AE × PV)->List (Nat × A0)->AE->Bool->A0->Option (AE × Bool × A0)
 |_,[],_,_,s,q,h=>some (s,q,h)
 | k, o :: rest, past, hist, s, q, h => if o.dst.all (λd => decide (d < n)) = true then
   match D4 ops s o with
   |none=>none
   |some false=>xd call ow n ops (k+1) rest past hist (Ak s o.dst (.sc undef)) q h
   |some true=>match Ro P wf call ow o (A9 s) h with
    |none=>none
    |some (v,q',h')=>
     if BL ow wf o=true then
      (if past.all (λx=>pre ops x.1 k||VM P wf call ow x.2.1 (A9 x.2.2.1) h' x.2.2.2)=true then xd call ow n ops (k+1) rest past ((k,h)::hist) (Ak s o.dst v) (q&&q') h' else none)
     else if q'=true then
      (if hist.all (λx=>pre ops x.1 k||VM P wf call ow o (A9 s) x.2 v)=true then xd call ow n ops (k+1) rest ((k,o,s,v)::past) hist (Ak s o.dst v) q h else none)
     else none
  else none
def xc(call:O5)(ow:Nat->Bool)(n:Nat):Nat->Code->AE->Bool->A0->Option (Exit × AE × Bool × A0)
 |0,_,_,_,_=>none
 |k+1,c,s,q,h=>match c with
  | .skip=>some (.normal,s,q,h)
  | .region _ ops true=>if Jr ow wf ops.toList=true then(xd P wf call ow n ops.toList 0 ops.toList [] [] s q h).map (Exit.normal,·)else none
  | .region _ ops false=>(xl P wf call ow n ops.toList ops.toList s q h).map (Exit.normal,·)
  | .seq a b=>match xc call ow n k a s q h with
   |some (.normal,s',q',h')=>xc call ow n k b s' q' h'
   |r=>r
  | .cond c x y=>match A9 s c with
   | .sc (.bool true)=>xc call ow n k x s q h
   | .sc (.bool false)=>xc call ow n k y s q h
   |_=>none
  | .block id c=>match xc call ow n k c s q h with
   |some (.exit id',s',q',h')=>some (if id'=id then .normal else .exit id',s',q',h')
   |r=>r
  | .loop c=>match xc call ow n k c s q h with
   |some (.normal,s',q',h')=>xc call ow n k (.loop c) s' q' h'
   |r=>r
  | .exit id=>some (.exit id,s,q,h)
  | .ret=>some (.ret,s,q,h)
  |_=>none
end
section
variable {P:Program}{wf:FuncId->Bool}{own:FuncId->Nat->Bool}
theorem iE{f:FuncId}{fn:Func}(hf:P.funcs[f]? =some fn)(hname:(fn.name== "runtime.NumGoroutine")=false)(hb:fn.body.isNone=true)(hn:Extern.findNext fn=none)(he:Extern.find fn=some Extern.BytealgIndexByte.indexByte)(s:ByteArray)(c:Int)(h:A0):
  A6 P f [.sc (.string s),.sc (.int .u8 c)] h (λr h'=>r= qK (firstIdx s c.toNat.toUInt8)/\h'=h):=by
 intro β w vals sm hr
 match vals,hr.len,hr with
 |[x,y],_,hr=>
  simp only[AT,AA]at hr;obtain⟨rfl,rfl,_⟩:=hr;exact .inr ⟨_,w,by rw[run_callFunc_extern hf hname hb hn he];simp only[run_indexByte_string];rfl,_,h,β,_,rfl,⟨rfl,rfl⟩,sm,by simp only[AS,AA],BR.refl⟩
end
end Go.AM
namespace Go.Proofs.YtblgchkahpgdjaaGreat
open Go.AM Go.Proofs.Tryz
set_option maxHeartbeats 2000000
set_option maxRecDepth 100000
def CS(f:FuncId)(args:List PV):Option PV:=if f=190 then(match args with|[.sc (.string s),.sc (.int .u8 c)]=>some (qK (firstIdx s c.toNat.toUInt8))|_=>none)else none
theorem Pw:(Tryz.f190.name== "runtime.NumGoroutine")=false/\Tryz.f190.body.isNone=true/\Extern.findNext Tryz.f190=none/\Extern.find Tryz.f190=some Extern.BytealgIndexByte.indexByte:=
 ⟨by kernel_rfl,by kernel_rfl,by kernel_rfl,by kernel_rfl⟩
end Go.Proofs.YtblgchkahpgdjaaGreat
namespace Go.Proofs.YtblgchkahpgdjaaGreat
open Go.AM Go.Proofs.Tryz
set_option maxHeartbeats 2000000
set_option maxRecDepth 20000
variable {h:A0}{s:ByteArray}
theorem A6.q8{P:Program}{f:FuncId}{args:List PV}{v u:Value}(hb:Ab P f=true)(hc:A6 P f args h λr h'=>r= .Al [.sc v,.sc u]/\AH h h'):A6 P f args h λr h'=>r= .Al [.sc v,.sc u]/\h'=h:=by
 refine JJ hb λhw=>A6.drop (hc.mono ?_);rintro r h' ⟨rfl,g⟩;refine⟨.Al [.sc v,.sc u],h,⟨rfl,rfl⟩,by simp only[AI,AN];exact⟨_,rfl,rfl,rfl,trivial⟩,AG _,λid o ho=>?_⟩;have hid:=hw id (by rw[ho];try rfl);exact⟨by rw[g.B1 id hid];exact ho,hid,.inl ho⟩
theorem Iu{c:UInt8}:A6 prog 163 [.sc (.int .u8 c.toNat)] h λr h'=>r= .sc (.bool (DL c))/\h'=h:=by
 cases b1:decide ((c.toNat:Int)>=48)with
 |false=>
  have:DL c=false:=by simp at b1;simp[DL];omega
  refine AD func163 ntmps163 results163 Ty.V5 ?_;refine wt b1 ?_;rw[this]
 |true=>
  have:DL c=decide ((c.toNat:Int)<=57):=by
   simp at b1;have e1:decide (48<=c.toNat)=true:=(by simp;omega);simp only[DL,e1,B7];exact Oy.2 (by omega)
  refine AD func163 ntmps163 results163 Ty.V5 ?_;refine wt b1 ?_;rw[this]
theorem Mo(s:ByteArray)(c:UInt8):decide (firstIdx s c>=0)=s.data.toList.contains c:=by
 unfold firstIdx;have hsl:s.data.toList.length=s.size:=by rw[Ed];try rfl
 have hget: ∀ i,i<s.size->s[i]! =s.data.toList[i]!:=by
  intro i hi;have h1:s[i]? =s.data.toList[i]?:=Lv s i;rw[getElem!_def,getElem!_def,h1]
 cases hf:(List.range s.size).find? λi=>s[i]! ==c with
 |none=>
  rw[List.find?_eq_none]at hf;have:s.data.toList.contains c=false:=by
   rw[Bool.eq_false_iff];intro hc;rw[List.contains_iff_mem]at hc;obtain⟨i,hi,he⟩:=List.getElem_of_mem hc;have h2:=hf i (by simp;omega);rw[hget i (by omega),getElem!_pos s.data.toList i hi,he]at h2;simp at h2
  rw[this];try rfl
 |some i=>
  have h1:=List.find?_some hf;have h2:=List.mem_of_find?_eq_some hf;simp at h2;have:s.data.toList.contains c=true:=by
   rw[List.contains_iff_mem];rw[hget i h2]at h1;rw[getElem!_pos s.data.toList i (by omega)]at h1;have:=F0.1 h1;rw[← this];exact List.getElem_mem _
  rw[this];simp
theorem Mp{c:UInt8}:A6 prog 164 [A3 s,.sc (.int .u8 c.toNat)] h λr h'=>r= qK (firstIdx s c)/\h'=h:=by
 have hx:A6 prog 190 [A3 s,.sc (.int .u8 c.toNat)] h λr h'=>r= qK (firstIdx s c)/\h'=h:=by
  have:=iE (P:=prog) func190 Pw.1 Pw.2.1 Pw.2.2.1 Pw.2.2.2 s c.toNat h;simpa using this
 have hy:A6 prog 176 [A3 s,.sc (.int .u8 c.toNat)] h λr h'=>r= qK (firstIdx s c)/\h'=h:=by
  refine AD func176 ntmps176 results176 Ty.gY ?_;refine wt A4 ?_;refine uU A4 (hx) ?_;exact wz A4
 refine AD func164 ntmps164 results164 Ty.gV ?_;refine wt A4 ?_;refine uU A4 (hy) ?_;exact wz A4
theorem Px{a b:ByteArray}(h:a.data.toList=b.data.toList):a=b:=by
 obtain⟨⟨a⟩⟩:=a;obtain⟨⟨b⟩⟩:=b;simp at h;rw[h]
theorem VN:A6 prog 191 [A3 s,A3 ⟨#[45]⟩] h λr h'=>r= .sc (.bool (match s.data.toList with|45::_=>true|_=>false))/\h'=h:=by
 have hsl:s.data.toList.length=s.size:=by rw[Ed];try rfl
 have h1:(ByteArray.mk #[45]).size=1:=rfl;cases b1:decide ((s.size:Int)>=1)with
 |false=>
  have:(match s.data.toList with|45::_=>true|_=>false)=false:=by
   simp at b1;have:s.data.toList=[]:=List.eq_nil_of_length_eq_zero (by omega);rw[this]
  refine AD func191 ntmps191 results191 Ty.VE ?_;repeat'(first|refine Ai λK hK=>?_|((first|refine Bp ?_|refine Eu ?_);simp only[Ty.w,simprocAttr,h1,TS,b1])|(refine hK _ _ ?_;clear hK;(try simp only[At,simprocAttr])))
  rw[this]
 |true=>
  have b1':=b1;simp at b1';have q1:(1:Int)<=(s.size:Int):=by omega
  have:(match s.data.toList with|45::_=>true|_=>false)=((s.extract 0 1).data.toList==(#[45]:Array UInt8).toList):=by
   have he:(s.extract 0 1).data.toList=s.data.toList.take 1:=(by simp);rw[he];cases hl:s.data.toList with
   |nil=>rw[hl]at hsl;simp at hsl;omega
   |cons c l=>
    simp only[List.take_succ_cons,List.take_zero];by_cases hc:c=45
    ·subst hc;rfl
    ·have:([c]==(#[45]:Array UInt8).toList)=false:=(by simp[hc]);rw[this];split
     ·rename_i heq;simp at heq;exact absurd heq.1 hc
     ·rfl
  refine AD func191 ntmps191 results191 Ty.VE ?_;repeat'(first|refine Ai λK hK=>?_|((first|refine Bp ?_|refine Eu ?_);simp only[Ty.w,simprocAttr,h1,TS,b1,q1,BD,Bv,CW,CX,Int.toNat_zero])|(refine hK _ _ ?_;clear hK;(try simp only[At,simprocAttr])))
  rw[this]
theorem iF:A6 prog 165 [A3 s,A3 ⟨#[45]⟩] h λr h'=>r=A3 (E3 s)/\h'=h:=by
 have hsl:s.data.toList.length=s.size:=by rw[Ed];try rfl
 have h1:(ByteArray.mk #[45]).size=1:=rfl;have hy:A6 prog 177 [A3 s,A3 ⟨#[45]⟩] h λr h'=>r=A3 (E3 s)/\h'=h:=by
  cases b1:(match s.data.toList with|45::_=>true|_=>false)with
  |false=>
   have:E3 s=s:=by
    unfold E3;split
    ·rename_i heq;rw[heq]at b1;simp at b1
    ·rfl
   refine AD func177 ntmps177 results177 Ty.V9 ?_;refine wt A4 ?_;refine uU b1 (VN (s:=s)) ?_;refine wt b1 ?_;rw[this]
  |true=>
   have hq: ∃ l,s.data.toList=45::l:=by
    split at b1
    ·rename_i l heq;exact⟨l,heq⟩
    ·simp at b1
   obtain⟨l,hl⟩:=hq;have q1:(1:Int)<=(s.size:Int):=(by rw[hl]at hsl;simp at hsl;omega);have:E3 s=s.extract 1 s.size:=by
    unfold E3;rw[hl];refine Px ?_;have hl2:=hsl;rw[hl]at hl2;simp at hl2;simp only[Yx,pQ,List.extract_eq_take_drop,hl];rw[List.drop_succ_cons,List.drop_zero,List.take_of_length_le (by omega)]
   refine AD func177 ntmps177 results177 Ty.V9 ?_;refine wt A4 ?_;refine uU b1 (VN (s:=s)) ?_;(repeat'(first|refine cK ?_|(refine nK ?_;try exact zI)|refine Ai λK hK=>?_|((first|refine Bp ?_|refine Eu ?_);simp only[Ty.w,simprocAttr,b1,h1,TS,q1,BD,Bv,CW,CX])|(refine hK _ _ ?_;clear hK;(try simp only[At,simprocAttr]))));rw[this]
 refine AD func165 ntmps165 results165 Ty.gW ?_;refine wt A4 ?_;refine uU A4 (hy) ?_;exact wz A4
theorem Rp(hs:s.size<=AF):A6 prog 143 [A3 s] h λr h'=>r= .sc (.bool (Hn s))/\h'=h:=by
 have htl:(E3 s).data.toList.length=(E3 s).size:=by rw[Ed];try rfl
 have hts:(E3 s).size<=AF:=by
  have hsl:s.data.toList.length=s.size:=by rw[Ed];try rfl
  unfold E3;split
  ·rename_i l heq;rw[heq]at hsl;have:(ByteArray.mk l.toArray).size=l.length:=(by simp[ByteArray.size]);simp at hsl;omega
  ·exact hs
 unfold AF at hts;have hN:Hn s=((E3 s).data.toList.all DL&&decide (0<(E3 s).size)):=rfl;have ht:A6 prog 165 [A3 s,A3 ⟨#[45]⟩] h λr h'=>r=A3 (E3 s)/\h'=h:=iF;generalize E3 s=u at htl hts hN ht;rw[hN]
 clear hN;refine AD func143 ntmps143 results143 Ty.gS ?_;refine wt A4 ?_;refine uU A4 (ht) ?_;refine wt A4 ?_;refine By (λm S h'=>h'=h/\S 0=A3 u/\S 7= qK u.size/\ ∃ k:Nat,S 8= qK k/\k<=u.size/\m=u.size-k/\ ∀ (i:Nat)(c:UInt8),i<k->u.data.toList[i]? =some c->DL c=true) u.size ?_ ?_
 ·simp only[Ty.w,simprocAttr];exact⟨0,rfl,by omega,rfl,by omega⟩
 ·rintro m S h' ⟨rfl,g0,g7,k,g8,hk,rfl,hall⟩;by_cases hlt:k<u.size
  ·have hd:decide ((k:Int)<(u.size:Int))=true:=(by simp;omega);have w7:IntKind.i64.wrap ((k:Int)+1)=k+1:=(by rw[BM (by omega) (by omega)]);obtain⟨c,hx⟩: ∃ c,u.data.toList[k]? =some c:=⟨_,List.getElem?_eq_getElem (by omega)⟩;have hr:u[k]? =some c:=(by rw[Lv];exact hx);cases hg:DL c with
   |false=>
    have:u.data.toList.all DL=false:=(by rw[List.all_eq_false];exact⟨c,List.mem_of_getElem? hx,by simp[hg]⟩);replace zz:=Ae g0 g7 g8 hd hr;refine wt zz ?_;replace zz:=Ah g0 g7 g8 hd hr hg;refine uU zz (Iu (c:=c)) ?_;refine wt (uu hg yF) ?_;rw[this];try rfl
   |true=>
    replace zz:=Ae g0 g7 g8 hd hr;refine wt zz ?_;replace zz:=Ah g0 g7 g8 hd hr hg;refine uU zz (Iu (c:=c)) ?_;replace zz:=Ah g0 g7 g8 hg w7 yT;refine wt zz ?_;refine⟨u.size-(k+1),by omega,k+1,by simp,by omega,rfl,λi c2 hi hw=>?_⟩;by_cases hik:i=k
    ·subst hik;rw[hx]at hw;simp at hw;rw[← hw];exact hg
    ·exact hall i c2 (by omega) hw
  ·have hd:decide ((k:Int)<(u.size:Int))=false:=(by simp;omega);have hok:u.data.toList.all DL=true:=by
    rw[List.all_eq_true];intro c hc;obtain⟨i,hi⟩:=List.getElem?_of_mem hc;exact hall i c (by have:=(List.getElem?_eq_some_iff.1 hi).1;omega) hi
   have e1:decide (0<u.size)=!(u.data.toList==(#[]:Array UInt8).toList):=by
    rw[← htl];cases u.data.toList<;>simp
   clear hall;replace zz:=AW g0 g7 g8 hd;refine wt zz ?_;rw[hok,e1];try rfl
end Go.Proofs.YtblgchkahpgdjaaGreat
namespace Go.Proofs.YtblgchkahpgdjaaGreat
open Go.AM Go.Proofs.Tryz
set_option maxHeartbeats 2000000
set_option maxRecDepth 20000
variable {l:List UInt8}{k:Nat}{c:UInt8}{h:A0}
theorem iG(h:l[k]? =some c)(hc:Ev c=none):Eh l=none:=by
 induction l generalizing k with
 |nil=>simp at h
 |cons d l ih=>
  simp only[Eh];cases k with
  |zero=>simp at h;subst h;rw[hc]
  |succ k=>
   simp at h;rw[ih h];cases Ev d<;>simp
theorem VO{p:List UInt8}{d:UInt8}(h:l[k]? =some c)(hc:Ev c=some d)(hp:Eh (l.take k)=some p):Eh (l.take (k+1))=some (p++[d]):=by
 induction l generalizing k p with
 |nil=>simp at h
 |cons e l ih=>
  cases k with
  |zero=>simp at h;subst h;simp[Eh]at hp;subst hp;simp[Eh,hc]
  |succ k=>
   simp at h;simp only[List.take_succ_cons,Eh]at hp⊢;cases he:Ev e with
   |none=>simp[he]at hp
   |some e'=>
    rw[he]at hp;cases hq:Eh (l.take k)with
    |none=>simp[hq]at hp
    |some p'=>
     simp[hq]at hp;subst hp;rw[ih h hq];simp
theorem Py{p:List UInt8}(h:Eh l=some p):p.length=l.length:=by
 induction l generalizing p with
 |nil=>simp[Eh]at h;subst h;rfl
 |cons e l ih=>
  simp only[Eh]at h;split at h
  ·cases hq:Eh l with
   |none=>simp[hq]at h
   |some p'=>simp[hq]at h;subst h;simp[ih hq]
  ·simp at h
theorem VP(l:List UInt8):(Ef l).length=l.length:=by simp[Ef]
theorem iH(h:l[k]? =some c):(Ef l)[k]? =some [.sc (.int .u8 c.toNat)]:=by simp[Ef,h]
theorem iI(l:List UInt8)(k:Nat)(c:UInt8):(Ef l).set k [.sc (.int .u8 c.toNat)]=Ef (l.set k c):=by simp[Ef,List.map_set]
structure Lz(h:A0)(l:List UInt8)(k:Nat)(h':A0):Prop where
 grow:AH h h'
 ex: ∃ p,Eh (l.take k)=some p/\h'.obj h.next=some (.arr 1 (Ef (p++l.drop k)))
theorem Lz.MV{h':A0}(i:Lz h l k h')(hc:l[k]? =some c)(hl:Ev c=some c):Lz h l (k+1) h':=by
 obtain⟨p,hp,ho⟩:=i.ex;refine⟨i.grow,p++[c],VO hc hl hp,?_⟩;rw[ho];obtain⟨hk,rfl⟩:=List.getElem?_eq_some_iff.1 hc;rw[List.drop_eq_getElem_cons hk];simp
theorem Lz.put{h':A0}{d:UInt8}{rows:List (List PV)}(i:Lz h l k h')(hc:l[k]? =some c)(hl:Ev c=some d)(hr:h'.obj h.next=some (.arr 1 rows)):
  Lz h l (k+1) (h'.set h.next (.arr 1 (rows.set k [.sc (.int .u8 d.toNat)]))):=by
 obtain⟨p,hp,ho⟩:=i.ex;refine⟨i.grow.set (AG _) _,p++[d],VO hc hl hp,?_⟩;rw[ho]at hr;simp at hr;subst hr;have hpl:=Py hp;obtain⟨hk,rfl⟩:=List.getElem?_eq_some_iff.1 hc;simp only[A0.set,AO,iI];rw[List.length_take]at hpl;rw[List.set_append_right _ _ (by omega),List.drop_eq_getElem_cons hk,show k-p.length=0 by omega,List.set_cons_zero];simp
theorem VQ(x:Int)(h0:0<=x)(h1:x<256):IntKind.u8.wrap x=x:=by
 unfold IntKind.wrap;simp[IntKind.signed,IntKind.bits];omega
theorem iJ(c:UInt8):
  (IL c=false/\E2 c=false/\decide ((c.toNat:Int)>=65)=false/\decide ((c.toNat:Int)>=97)=false)\/
  (IL c=true/\decide ((c.toNat:Int)>=65)=true/\decide ((c.toNat:Int)<=90)=true)\/
  (IL c=false/\E2 c=false/\decide ((c.toNat:Int)>=65)=true/\decide ((c.toNat:Int)<=90)=false/\decide ((c.toNat:Int)>=97)=false)\/
  (IL c=false/\E2 c=true/\decide ((c.toNat:Int)>=65)=true/\decide ((c.toNat:Int)<=90)=false/\decide ((c.toNat:Int)>=97)=true/\decide ((c.toNat:Int)<=122)=true)\/
  (IL c=false/\E2 c=false/\decide ((c.toNat:Int)>=65)=true/\decide ((c.toNat:Int)<=90)=false/\decide ((c.toNat:Int)>=97)=true/\decide ((c.toNat:Int)<=122)=false):=by
 simp only[IL,E2,AV,TR,Ba,Cw];omega
theorem iK{s:ByteArray}:A6 prog 142 [A3 s] h λr h'=>r= .Al [A3 (FI s).1,.sc (.bool (FI s).2)]/\h'=h:=by
 have hsl:s.data.toList.length=s.size:=by rw[Ed];try rfl
 refine A6.q8 Ty.Ps ?_;cases b1:(s.data.toList==(#[]:Array UInt8).toList)with
 |true=>
  have:FI s=(⟨#[]⟩,false):=by
   unfold FI;rw[A7];have:s.data.toList=[]:=(by simpa using b1);rw[this]at hsl;simp at hsl;omega
  refine AD func142 ntmps142 results142 Ty.Ps ?_;refine wt b1 ?_;rw[this];exact⟨rfl,AH.refl _⟩
 |false=>
  have hpos:0<s.size:=by
   rcases Nat.eq_zero_or_pos s.size with h0|h0
   ·rw [h0]at hsl;have:=List.eq_nil_of_length_eq_zero hsl;rw[this]at b1;simp at b1
   ·exact h0
  cases b2:decide ((s.size:Int)>32)with
  |true=>
   have:FI s=(⟨#[]⟩,false):=by
    unfold FI;rw[A7];simp at b2;omega
   refine AD func142 ntmps142 results142 Ty.Ps ?_;refine wt (uu b1 b2) ?_;rw[this];exact⟨rfl,AH.refl _⟩
  |false=>
   have h32:s.size<=32:=(by simp at b2;omega);have hsz:s.size<=140737488355328:=(by omega);have hS:FI s=(match Eh s.data.toList with|some l=>(⟨l.toArray⟩,true)|none=>(⟨#[]⟩,false)):=(by unfold FI;rw[AK ⟨hpos,h32⟩];try rfl);refine uG (ow:=λt=>t==15) (wf:=λ_=>false) func142 ntmps142 results142 Ty.Ps ?_;refine wt (AU b1 b2 hsz) ?_;refine By (λm S h'=>S 4= .own h.next 0 s.data.toList.length/\S 16= .own h.next 0 s.data.toList.length/\S 17= qK s.data.toList.length/\ ∃ k:Nat,S 18= qK k/\k<=s.data.toList.length/\m=s.data.toList.length-k/\Lz h s.data.toList k h') s.data.toList.length ?_ ?_
   ·simp only[Ty.w,simprocAttr];refine⟨0,rfl,by omega,rfl,(AH.refl h).new _,[],rfl,?_⟩;simp[A0.new]
   ·rintro m S h' ⟨g4,g16,g17,k,g18,hk,rfl,hI⟩;by_cases hlt:k<s.data.toList.length
    ·have hd:decide ((k:Int)<(s.data.toList.length:Int))=true:=(by simp;omega);have w7:IntKind.i64.wrap ((k:Int)+1)=k+1:=(by rw[BM (by omega) (by omega)]);obtain⟨c,hx⟩: ∃ c,s.data.toList[k]? =some c:=⟨_,List.getElem?_eq_getElem hlt⟩;obtain⟨p,hp,ho⟩:=hI.ex;have hpl:=Py hp;rw[List.length_take]at hpl;have hgr:=hI.grow;have hlen:(Ef (p++s.data.toList.drop k)).length=s.data.toList.length:=(by rw[VP,List.length_append,List.length_drop];omega);have hr:(Ef (p++s.data.toList.drop k))[k]? =some [.sc (.int .u8 c.toNat)]:=by
      refine iH ?_;rw[List.getElem?_append_right (by omega),List.getElem?_drop,show k+(k-p.length)=k by omega];exact hx
     have bad:Ev c=none->PV.Al [.sc (.string ⟨#[]⟩),.sc (.bool false)]= .Al [A3 (FI s).1,.sc (.bool (FI s).2)]:=λe=>(by rw[hS,iG hx e]);generalize hrows:Ef (p++s.data.toList.drop k)=rows at ho hlen hr;have hho:=ho;rcases iJ c with⟨hup,hlet,a1,a3⟩|⟨hup,a1,a2⟩|⟨hup,hlet,a1,a2,a3⟩|⟨hup,hlet,a1,a2,a3,a4⟩|⟨hup,hlet,a1,a2,a3,a4⟩
     ·cases hg:DL c with
      |true=>
       have hw:wB c=true:=(by simp[wB,hg]);replace zz:=AY g4 g16 g17 g18 hd hho hlen hr hlt @C7 a1 a3;refine wt zz ?_;replace zz:=AY g4 g16 g17 g18 hd hho hlen hr hlt @C7 a1 (uu a3 hg);refine uU zz (Iu (c:=c)) ?_;replace zz:=AY g4 g16 g17 g18 hd hho hlen hr hlt @C7 a1 (AU a3 hg w7);refine wt zz ?_;exact⟨s.data.toList.length-(k+1),by omega,k+1,by simp,by omega,rfl,hI.MV hx (by simp[Ev,hup,hw])⟩
      |false=>
       cases hs2:Lx.contains c with
       |true=>
        have hw:wB c=true:=(by simp only[wB,hs2,Dp]);have hfi:decide (firstIdx ⟨#[45,95,63,58,60,62,61,43,42]⟩ c>=0)=true:=(by rw[Mo];exact hs2);replace zz:=AY g4 g16 g17 g18 hd hho hlen hr hlt @C7 a1 a3;refine wt zz ?_;replace zz:=AY g4 g16 g17 g18 hd hho hlen hr hlt @C7 a1 (uu a3 hg);refine uU zz (Iu (c:=c)) ?_;refine wt zz ?_;replace zz:=AY g4 g16 g17 g18 hd hho hlen hr hlt @C7 a1 (AU a3 hg hfi);refine uU zz (Mp (s:=⟨#[45,95,63,58,60,62,61,43,42]⟩) (c:=c)) ?_;replace zz:=AY g4 g16 g17 g18 hd hho hlen hr hlt @C7 a1 (AW a3 hg hfi w7);refine wt zz ?_;exact⟨s.data.toList.length-(k+1),by omega,k+1,by simp,by omega,rfl,hI.MV hx (by simp[Ev,hup,hw])⟩
       |false=>
        have hw:wB c=false:=(by simp only[wB,hs2,hg,hlet,GD]);have hfi:decide (firstIdx ⟨#[45,95,63,58,60,62,61,43,42]⟩ c>=0)=false:=(by rw[Mo];exact hs2);replace zz:=AY g4 g16 g17 g18 hd hho hlen hr hlt @C7 a1 a3;refine wt zz ?_;replace zz:=AY g4 g16 g17 g18 hd hho hlen hr hlt @C7 a1 (uu a3 hg);refine uU zz (Iu (c:=c)) ?_;refine wt zz ?_;replace zz:=AY g4 g16 g17 g18 hd hho hlen hr hlt @C7 a1 (AU a3 hg hfi);refine uU zz (Mp (s:=⟨#[45,95,63,58,60,62,61,43,42]⟩) (c:=c)) ?_;refine wt zz ?_;exact⟨bad (by simp[Ev,hup,hw]),hgr⟩
     ·have hu:65<=c.toNat/\c.toNat<=90:=(by simpa[IL]using hup);have hadd:(c+32).toNat=c.toNat+32:=(by rw[UInt8.toNat_add];simp;omega);have w1:IntKind.u8.wrap ((c.toNat:Int)+97)=(c.toNat:Int)+97:=VQ _ (by omega) (by omega);have w2:IntKind.u8.wrap ((c.toNat:Int)+97-65)=((c+32).toNat:Int):=(by rw[VQ _ (by omega) (by omega),hadd];omega);replace zz:=AY g4 g16 g17 g18 hd hho hlen hr hlt a1 a2 (AW w1 w2 w7 @C7);refine wt zz ?_;exact⟨s.data.toList.length-(k+1),by omega,k+1,by simp,by omega,rfl,hI.put hx (by simp[Ev,hup]) ho⟩
     ·cases hg:DL c with
      |true=>
       have hw:wB c=true:=(by simp[wB,hg]);replace zz:=AY g4 g16 g17 g18 hd hho hlen hr hlt @C7 a1 (uu a2 a3);refine wt zz ?_;replace zz:=AY g4 g16 g17 g18 hd hho hlen hr hlt @C7 a1 (AU a2 a3 hg);refine uU zz (Iu (c:=c)) ?_;replace zz:=AY g4 g16 g17 g18 hd hho hlen hr hlt @C7 a1 (AW a2 a3 hg w7);refine wt zz ?_;exact⟨s.data.toList.length-(k+1),by omega,k+1,by simp,by omega,rfl,hI.MV hx (by simp[Ev,hup,hw])⟩
      |false=>
       cases hs2:Lx.contains c with
       |true=>
        have hw:wB c=true:=(by simp only[wB,hs2,Dp]);have hfi:decide (firstIdx ⟨#[45,95,63,58,60,62,61,43,42]⟩ c>=0)=true:=(by rw[Mo];exact hs2);replace zz:=AY g4 g16 g17 g18 hd hho hlen hr hlt @C7 a1 (uu a2 a3);refine wt zz ?_;replace zz:=AY g4 g16 g17 g18 hd hho hlen hr hlt @C7 a1 (AU a2 a3 hg);refine uU zz (Iu (c:=c)) ?_;refine wt zz ?_;replace zz:=AY g4 g16 g17 g18 hd hho hlen hr hlt @C7 a1 (AW a2 a3 hg hfi);refine uU zz (Mp (s:=⟨#[45,95,63,58,60,62,61,43,42]⟩) (c:=c)) ?_;replace zz:=AY g4 g16 g17 g18 hd hho hlen hr hlt @C7 a1 (Ae a2 a3 hg hfi w7);refine wt zz ?_;exact⟨s.data.toList.length-(k+1),by omega,k+1,by simp,by omega,rfl,hI.MV hx (by simp[Ev,hup,hw])⟩
       |false=>
        have hw:wB c=false:=(by simp only[wB,hs2,hg,hlet,GD]);have hfi:decide (firstIdx ⟨#[45,95,63,58,60,62,61,43,42]⟩ c>=0)=false:=(by rw[Mo];exact hs2);replace zz:=AY g4 g16 g17 g18 hd hho hlen hr hlt @C7 a1 (uu a2 a3);refine wt zz ?_;replace zz:=AY g4 g16 g17 g18 hd hho hlen hr hlt @C7 a1 (AU a2 a3 hg);refine uU zz (Iu (c:=c)) ?_;refine wt zz ?_;replace zz:=AY g4 g16 g17 g18 hd hho hlen hr hlt @C7 a1 (AW a2 a3 hg hfi);refine uU zz (Mp (s:=⟨#[45,95,63,58,60,62,61,43,42]⟩) (c:=c)) ?_;refine wt zz ?_;exact⟨bad (by simp[Ev,hup,hw]),hgr⟩
     ·replace zz:=AY g4 g16 g17 g18 hd hho hlen hr hlt a1 a2 (AW a3 a4 w7 @C7);refine wt zz ?_;exact⟨s.data.toList.length-(k+1),by omega,k+1,by simp,by omega,rfl,hI.MV hx (by simp[Ev,hup,wB,hlet])⟩
     ·cases hg:DL c with
      |true=>
       have hw:wB c=true:=(by simp[wB,hg]);replace zz:=AY g4 g16 g17 g18 hd hho hlen hr hlt @C7 a1 (AU a2 a3 a4);refine wt zz ?_;replace zz:=AY g4 g16 g17 g18 hd hho hlen hr hlt @C7 a1 (AW a2 a3 a4 hg);refine uU zz (Iu (c:=c)) ?_;replace zz:=AY g4 g16 g17 g18 hd hho hlen hr hlt @C7 a1 (Ae a2 a3 a4 hg w7);refine wt zz ?_;exact⟨s.data.toList.length-(k+1),by omega,k+1,by simp,by omega,rfl,hI.MV hx (by simp[Ev,hup,hw])⟩
      |false=>
       cases hs2:Lx.contains c with
       |true=>
        have hw:wB c=true:=(by simp only[wB,hs2,Dp]);have hfi:decide (firstIdx ⟨#[45,95,63,58,60,62,61,43,42]⟩ c>=0)=true:=(by rw[Mo];exact hs2);replace zz:=AY g4 g16 g17 g18 hd hho hlen hr hlt @C7 a1 (AU a2 a3 a4);refine wt zz ?_;replace zz:=AY g4 g16 g17 g18 hd hho hlen hr hlt @C7 a1 (AW a2 a3 a4 hg);refine uU zz (Iu (c:=c)) ?_;refine wt zz ?_;replace zz:=AY g4 g16 g17 g18 hd hho hlen hr hlt @C7 a1 (Ae a2 a3 a4 hg hfi);refine uU zz (Mp (s:=⟨#[45,95,63,58,60,62,61,43,42]⟩) (c:=c)) ?_;replace zz:=AY g4 g16 g17 g18 hd hho hlen hr hlt @C7 a1 (Ah a2 a3 a4 hg hfi w7);refine wt zz ?_;exact⟨s.data.toList.length-(k+1),by omega,k+1,by simp,by omega,rfl,hI.MV hx (by simp[Ev,hup,hw])⟩
       |false=>
        have hw:wB c=false:=(by simp only[wB,hs2,hg,hlet,GD]);have hfi:decide (firstIdx ⟨#[45,95,63,58,60,62,61,43,42]⟩ c>=0)=false:=(by rw[Mo];exact hs2);replace zz:=AY g4 g16 g17 g18 hd hho hlen hr hlt @C7 a1 (AU a2 a3 a4);refine wt zz ?_;replace zz:=AY g4 g16 g17 g18 hd hho hlen hr hlt @C7 a1 (AW a2 a3 a4 hg);refine uU zz (Iu (c:=c)) ?_;refine wt zz ?_;replace zz:=AY g4 g16 g17 g18 hd hho hlen hr hlt @C7 a1 (Ae a2 a3 a4 hg hfi);refine uU zz (Mp (s:=⟨#[45,95,63,58,60,62,61,43,42]⟩) (c:=c)) ?_;refine wt zz ?_;exact⟨bad (by simp[Ev,hup,hw]),hgr⟩
    ·have hd:decide ((k:Int)<(s.data.toList.length:Int))=false:=(by simp;omega);have hke:k=s.data.toList.length:=(by omega);subst hke;obtain⟨p,hp,ho⟩:=hI.ex;rw[List.take_length]at hp;rw[List.drop_length,List.append_nil]at ho;have hpl:=Py hp;have hlen:(Ef p).length=s.data.toList.length:=(by rw[VP];exact hpl);have htk:List.take s.data.toList.length (Ef p)=Ef p:=(by rw[List.take_of_length_le (by omega)]);have hbr:=ZM p;replace zz:=B6 g4 g16 g17 g18 hd ho hlen htk hbr @C7;(repeat'(first|refine cK ?_|refine nK ?_|refine Ai λK hK=>?_|refine uR zz ?_|refine uT zz ?_|refine uX ?_|refine C3 zz ?_|(refine uN hK ?_;clear hK)|(clear hK;refine uN hK ?_;clear hK)|(rw[AK];rotate_left 1;omega;simp only[Ty.w,simprocAttr,g4,g16,g17,g18,hd,ho,hlen,htk,hbr,C7])|apply zI));rw[hS,hp];exact⟨rfl,hI.grow⟩
end Go.Proofs.YtblgchkahpgdjaaGreat
namespace Go.Proofs.YtblgchkahpgdjaaGreat
open Go.AM Go.Proofs.Tryz
set_option maxHeartbeats 2000000
set_option maxRecDepth 20000
theorem Ca{α:Type}{l:List α}{k:Nat}{a:α}(h:l[k]? =some a):l.drop k=a::l.drop (k+1):=by
 obtain⟨hl,rfl⟩:=List.getElem?_eq_some_iff.1 h;exact List.drop_eq_getElem_cons hl
theorem VR: ∀ {l m:List ByteArray},¬ l.length=m.length->FX l m=false
 |[],[],h=>by simp at h
 |[],_::_,_=>rfl
 |_::_,[],_=>rfl
 |a::l,b::m,h=>by simp only[FX,VR (l:=l) (m:=m) (by simpa using h),BA]
theorem VT: ∀ {l m:List Pm},¬ l.length=m.length->Dq l m=false
 |[],[],h=>by simp at h
 |[],_::_,_=>rfl
 |_::_,[],_=>rfl
 |a::l,b::m,h=>by simp only[Dq,VT (l:=l) (m:=m) (by simpa using h),BA]
theorem O6{h:A0}{l m:List ByteArray}(hl:l.length<=AF)(hm:m.length<=AF):A6 prog 137 [.A1 1 (AL l),.A1 1 (AL m)] h λr h'=>r= .sc (.bool (FX l m))/\h'=h:=by
 unfold AF at hl hm;have hll:=GI l;have hlm:=GI m;refine AD func137 ntmps137 results137 Ty.gR ?_;cases hne:((l.length:Int) !=m.length)with
 |true=>
  have:FX l m=false:=VR (by simp at hne;omega);refine wt (AU hll hlm hne) ?_;rw[this]
 |false=>
  have hlen:l.length=m.length:=by simp at hne;omega
  refine wt (AU hll hlm hne) ?_;refine By (λc S h'=>h'=h/\S 0= .A1 1 (AL l)/\S 1= .A1 1 (AL m)/\S 12= qK l.length/\ ∃ k:Nat,S 13= qK k/\k<=l.length/\c=l.length-k/\FX l m=FX (l.drop k) (m.drop k)) l.length ?_ ?_
  ·simp only[Ty.w,simprocAttr];exact⟨0,rfl,by omega,rfl,by simp⟩
  ·rintro c S h' ⟨rfl,g0,g1,g12,k,gk,hkl,rfl,hinv⟩;by_cases hlt:k<l.length
   ·have hd:decide ((k:Int)<(l.length:Int))=true:=(by simp;omega);have w7:IntKind.i64.wrap ((k:Int)+1)=k+1:=(by rw[BM (by omega) (by omega)]);obtain⟨a,hx⟩: ∃ a,l[k]? =some a:=⟨_,List.getElem?_eq_getElem hlt⟩;obtain⟨b,hy⟩: ∃ b,m[k]? =some b:=⟨_,List.getElem?_eq_getElem (by omega)⟩;rw[Ca hx,Ca hy]at hinv;simp only[FX]at hinv;have hr:=K3 hx;have hr2:=K3 hy;cases he:(a.data.toList==b.data.toList)with
    |false=>
     simp only[A2,he,B5]at hinv;replace zz:=AY g0 g1 g12 gk hll hlm hd hr hr2 he w7 yF;refine wy zz ?_;rw[hinv]
    |true=>
     simp only[A2,he,B7]at hinv;replace zz:=AY g0 g1 g12 gk hll hlm hd hr hr2 he w7 yT;refine wy zz ?_;exact⟨l.length-(k+1),by omega,k+1,by simp,by omega,rfl,hinv⟩
   ·have hd:decide ((k:Int)<(l.length:Int))=false:=(by simp;omega);rw[List.drop_eq_nil_of_le (by omega),List.drop_eq_nil_of_le (by omega)]at hinv;simp only[FX]at hinv;replace zz:=Ah g0 g1 g12 gk hll hd;refine wt zz ?_;rw[hinv]
theorem K4{h:A0}{l m:List Pm}(hl:l.length<=AF)(hm:m.length<=AF):A6 prog 69 [.A1 2 (A8 l),.A1 2 (A8 m)] h λr h'=>r= .sc (.bool (Dq l m))/\h'=h:=by
 unfold AF at hl hm;have hll:=Gz l;have hlm:=Gz m;refine AD func69 ntmps69 results69 Ty.gC ?_;cases hne:((l.length:Int) !=m.length)with
 |true=>
  have:Dq l m=false:=VT (by simp at hne;omega);refine wt (AU hll hlm hne) ?_;rw[this]
 |false=>
  have hlen:l.length=m.length:=by simp at hne;omega
  refine wt (AU hll hlm hne) ?_;refine By (λc S h'=>h'=h/\S 0= .A1 2 (A8 l)/\S 1= .A1 2 (A8 m)/\S 12= qK l.length/\ ∃ k:Nat,S 13= qK k/\k<=l.length/\c=l.length-k/\Dq l m=Dq (l.drop k) (m.drop k)) l.length ?_ ?_
  ·simp only[Ty.w,simprocAttr];exact⟨0,rfl,by omega,rfl,by simp⟩
  ·rintro c S h' ⟨rfl,g0,g1,g12,k,gk,hkl,rfl,hinv⟩;by_cases hlt:k<l.length
   ·have hd:decide ((k:Int)<(l.length:Int))=true:=(by simp;omega);have w7:IntKind.i64.wrap ((k:Int)+1)=k+1:=(by rw[BM (by omega) (by omega)]);obtain⟨a,hx⟩: ∃ a,l[k]? =some a:=⟨_,List.getElem?_eq_getElem hlt⟩;obtain⟨b,hy⟩: ∃ b,m[k]? =some b:=⟨_,List.getElem?_eq_getElem (by omega)⟩;rw[Ca hx,Ca hy]at hinv;simp only[Dq]at hinv;have hr:=Nr hx;have hr2:=Nr hy;cases he:RU a b with
    |false=>
     have he':(a.name.data.toList==b.name.data.toList&&a.type.data.toList==b.type.data.toList)=false:=he;rw[he,B5]at hinv;replace zz:=AY g0 g1 g12 gk hll hlm hd hr hr2 he' w7 yF;refine wy zz ?_;rw[hinv]
    |true=>
     have he':(a.name.data.toList==b.name.data.toList&&a.type.data.toList==b.type.data.toList)=true:=he;rw[he,B7]at hinv;replace zz:=AY g0 g1 g12 gk hll hlm hd hr hr2 he' w7 yT;refine wy zz ?_;exact⟨l.length-(k+1),by omega,k+1,by simp,by omega,rfl,hinv⟩
   ·have hd:decide ((k:Int)<(l.length:Int))=false:=(by simp;omega);rw[List.drop_eq_nil_of_le (by omega),List.drop_eq_nil_of_le (by omega)]at hinv;simp only[Dq]at hinv;replace zz:=Ah g0 g1 g12 gk hll hd;refine wt zz ?_;rw[hinv]
end Go.Proofs.YtblgchkahpgdjaaGreat
namespace Go.AM
def Tl(h:A0)(id0 z:Nat)(p:PV)(rows:List (List PV)):Prop:=
 (rows=[]/\(p= .sc (.slice none 0 0)\/p= .emp))\/ ∃ id,id0<=id/\id<h.next/\p= .own id 0 rows.length/\h.obj id=some (.arr z rows)
variable {h:A0}{id0 z:Nat}{p:PV}{rows:List (List PV)}
theorem Tl.nil:Tl h id0 z (.sc (.slice none 0 0)) []:= .inl ⟨rfl,.inl rfl⟩
theorem Tl.sl(t:Tl h id0 z p rows):Sl h z p rows:=by
 rcases t with⟨rfl,rfl|rfl⟩|⟨id,_,_,rfl,ho⟩
 ·exact Sl.nil
 ·exact Sl.emp
 ·exact Sl.pz ho
theorem Tl.tail(t:Tl h id0 z p rows): ∃ H,F3 h p=some (H,rows)/\Dx h z p=true/\H.next=h.next/\(∀ j,j<id0->H.obj j=h.obj j)/\(∀ h0,Pg h0 h->h0.next<=id0->Pg h0 H):=by
 rcases t with⟨rfl,rfl|rfl⟩|⟨id,h1,h2,rfl,ho⟩
 ·exact ⟨h,rfl,rfl,rfl,λ_ _=>rfl,λ_ hk _=>hk⟩
 ·exact ⟨h,rfl,rfl,rfl,λ_ _=>rfl,λ_ hk _=>hk⟩
 ·refine ⟨h.kill id,by simp[F3,ho],by simp[Dx,ho],rfl,λj hj=>?_,λh0 hk hn=>ez (by omega) hk⟩;rw[RN,A7 (by omega)]
theorem Tl.grow{H:A0}{len:Nat}(hn:id0<=H.next)(hl:len=rows.length):Tl (H.new (.arr z rows)) id0 z (.own H.next 0 len) rows:=
 .inr ⟨H.next,hn,Nat.lt_succ_self _,by rw[hl],by rw[UR,AK rfl]⟩
theorem Tl.up{h':A0}(t:Tl h id0 z p rows)(hn:h.next<=h'.next)(ho: ∀ j,id0<=j->j<h.next->h'.obj j=h.obj j):Tl h' id0 z p rows:=by
 rcases t with ht|⟨id,h1,h2,rfl,h3⟩
 ·exact .inl ht
 ·exact .inr ⟨id,h1,by omega,rfl,by rw[ho id h1 h2];exact h3⟩
theorem VU{n:Nat}:(l:List PV)->(∀ p∈l, ∃ v,p= .sc v)->AN n h l l
 |[],_=>by simp only[AN]
 |p::l,hp=>by
  obtain⟨v,hv⟩:=hp p (by simp);simp only[AN];exact⟨by rw[hv];simp only[AI],VU l (λq hq=>hp q (by simp[hq]))⟩
theorem Rq{n:Nat}:(l:List (List PV))->(∀ r∈l, ∀ p∈r, ∃ v,p= .sc v)->DE n h l l
 |[],_=>by simp only[DE]
 |r::l,hp=>by
  simp only[DE];exact⟨VU r (hp r (by simp)),Rq l (λq hq=>hp q (by simp[hq]))⟩
theorem Tl.CD(t:Tl h id0 z p rows)(hs: ∀ r∈rows, ∀ p∈r, ∃ v,p= .sc v):AI id0 h (.A1 z rows) p:=by
 simp only[AI];rcases t with⟨h1,h2⟩|⟨id,h1,h2,rfl,ho⟩
 ·exact .inr (.inl ⟨h1,h2.symm⟩)
 ·refine .inr (.inr ⟨id,0,_,_,rfl,h1,ho,by omega,?_⟩);rw[List.drop_zero,List.take_of_length_le (by omega)];exact Rq _ hs
theorem DM{P:Program}{ow:Nat->Bool}{n:Nat}{s:AE}{f:FuncId}{dst:Option Tmp}{args:List Operand}{ts:Array TypeId}{ty:TypeId}{pos:String}{af:Array Edge}{gd:Option (Nat × Bool)}{ags:List PV}{v:PV}{h1:A0}{K:AE->A0->Prop}{ops rest:List Oper}
  (hc:A6 P f ags h λr h'=>r=v/\h'=h1)(ha:args.map (A9 s)=ags)(hk:EN P ow n ops rest K (Ak s dst v) h1):
  CY P ow {dst:=dst,op:= .call {callee:= .value (.func f),args:=args.toArray,argTypes:=ts},type:=ty,pos:=pos,after:=af,guard:=gd} (Et P ow n ops rest K) s h:=
 RS hc ha λr h' hr=>by rw[hr.1,hr.2];exact hk
end Go.AM
namespace Go.Proofs.YtblgchkahpgdjaaGreat
open Go.AM Go.Proofs.Tryz
set_option maxHeartbeats 2000000
set_option maxRecDepth 20000
variable {h' h:A0}{id:Nat}{o o2:Am}
structure CP(h:A0)(id:Nat)(o:Am)(h':A0):Prop where
 le:h.next<=h'.next
 B1: ∀ i,i<h.next->i≠id->h'.obj i=h.obj i
 at_:h'.obj id=some o
theorem CP.new(g:CP h id o h')(hid:id<h.next):CP h id o (h'.new o2):=
 ⟨ER g.le (by simp[A0.new]),λi hi hne=>by simp only[A0.new];rw[A7 (by have:=g.le;omega)];exact g.B1 i hi hne,by simp only[A0.new];rw[A7 (by have:=g.le;omega)];exact g.at_⟩
theorem CP.set{j:Nat}(g:CP h id o h')(hid:id<h.next)(hj:h.next<=j):CP h id o (h'.set j o2):=
 ⟨g.le,λi hi hne=>by simp only[A0.set];rw[A7 (by omega)];exact g.B1 i hi hne,by simp only[A0.set];rw[A7 (by omega)];exact g.at_⟩
theorem CP.put(g:CP h id o h'):CP h id o2 (h'.set id o2):=
 ⟨g.le,λi hi hne=>by simp only[A0.set];rw[A7 hne];exact g.B1 i hi hne,by simp[A0.set]⟩
theorem CP.refl(ho:h.obj id=some o):CP h id o h:=⟨AG _,λ_ _ _=>rfl,ho⟩
theorem A6.ZA{P:Program}{f:FuncId}{args:List PV}{v:Value}{o0:Am}(hb:Ab P f=true)(hid:h.obj id=some o0)(hfl:F7 h.next o)(hc:A6 P f args h λr h'=>r= .sc v/\CP h id o h'):
  A6 P f args h λr h'=>r= .sc v/\h'=h.set id o:=by
 refine JJ hb λhw=>A6.drop (hc.mono ?_);rintro r h' ⟨rfl,g⟩;refine⟨.sc v,h.set id o,⟨rfl,rfl⟩,by simp only[AI],AG _,λi oo ho=>?_⟩;have hlt:=hw id (by rw[hid];try rfl);simp only[A0.set]at ho;split at ho
 ·rename_i hi;subst hi;simp at ho;subst ho;exact⟨g.at_,hlt,.inr hfl⟩
 ·rename_i hi;have h1:=hw i (by rw[ho];try rfl);exact⟨by rw[g.B1 i h1 hi];exact ho,h1,.inl ho⟩
theorem iL(s:ByteArray):(FI s).1.size<=32:=by
 unfold FI;split
 ·rename_i hc;split
  ·rename_i l hl;have h1:=Py hl;have hsl:s.data.toList.length=s.size:=(by rw[Ed];try rfl);have:(ByteArray.mk l.toArray).size=l.length:=(by simp[ByteArray.size]);simp only[this];omega
  ·simp [ByteArray.size]
 ·simp [ByteArray.size]
mutual
theorem VV: ∀ (x:Sx)(d n:Nat),(CJ x d n).1=true->(CJ x d n).2<=4096
 | .mk kind value line col text kids,d,n=>by
  unfold CJ;split
  ·simp
  ·rename_i hn;split
   ·intro _;simp only;omega
   ·split
    ·intro _;simp only;omega
    ·split
     ·split
      ·exact VW kids (d+1) (n+1) (by omega)
      ·simp
     ·simp
theorem VW: ∀ (l:List Sx)(d n:Nat),n<=4096->(H4 l d n).1=true->(H4 l d n).2<=4096
 |[],d,n,hn=>by simp[H4,hn]
 |k::ks,d,n,hn=>by
  unfold H4;have h1:=VV k d n;split
  ·rename_i n' he;rw[he]at h1;exact VW ks d n' (h1 rfl)
  ·simp
end
theorem M0(n:Nat):((n+1:Nat):Int)=(n:Int)+1:=by simp
def D5(n:Nat):Am:= .arr 1 [[qK n]]
theorem iM: ∀ (x:Sx),x.ok-> ∀ (d n:Nat),d<=32->n<=4096-> ∀ (id:Nat)(h:A0),h.obj id=some (D5 n)->
  A6 prog 101 [.agg x.cells,qK d,.ptr id 0 0] h λr h'=>r= .sc (.bool (CJ x d n).1)/\h'=h.set id (D5 (CJ x d n).2):=by
 refine Sx.ind ?_;intro kind value line col text kids ih hok d n hd hn id h ho;simp only[Sx.ok]at hok;obtain⟨_,_,ht,hk,hks⟩:=hok;rw[Sx.Bs]at hks;have hlen:=Sx.B3 kids;have wn:IntKind.i64.wrap ((n:Int)+1)=(n:Int)+1:=by rw[BM (by omega) (by omega)]
 refine JJ Ty.GU λhwf=>?_;have hid:id<h.next:=hwf id (by rw[ho];try rfl)
 refine A6.ZA Ty.GU ho (by simp[D5,F7,B9,Bo,Bc]) ?_;have ho':=ho;simp only[D5]at ho';have G1:CP h id (D5 (n+1)) (h.set id (.arr 1 [[qK ((n:Int)+1)]])):=by
  have:=(CP.refl ho).put (o2:=D5 (n+1));simp only[D5,M0]at this⊢;exact this
 unfold CJ;simp only[Sx.cells];cases b0:decide ((n:Int)+1>4096)with
 |true=>
  rw[AK (by simp at b0;omega)];refine AD func101 ntmps101 results101 Ty.GU ?_;refine wt (AU ho' wn b0) ?_;first|exact G1|exact⟨rfl,G1⟩
 |false=>
  rw[A7 (by simp at b0;omega)];cases k1:(kind==1)with
  |true=>
   have hk1:kind=1:=(by simpa using k1);rw[AK hk1];have e1:(kids.isEmpty)=((kids.length:Int)==0):=(by cases kids<;>simp;omega);have hlow:=λh:A0=>iK (h:=h) (s:=text);have hsz:=iL text;have hW:JL text=((FI text).2&&((FI text).1.data.toList==text.data.toList)&&!(Hn (FI text).1)):=rfl;generalize hL:FI text=L at hlow hsz hW;obtain⟨w,ok⟩:=L;simp only at hlow hsz hW;have hwb:w.size<=AF:=(by unfold AF;omega);rw[hW];cases ok with
   |false=>
    refine AD func101 ntmps101 results101 Ty.GU ?_;replace zz:=AW ho' wn b0 k1;refine wt zz ?_;replace zz:=AW ho' wn b0 k1;refine uU zz (hlow _) ?_;refine wt zz ?_;first|exact G1|exact⟨rfl,G1⟩
   |true=>
    cases c1:(w.data.toList==text.data.toList)with
    |false=>
     refine AD func101 ntmps101 results101 Ty.GU ?_;replace zz:=AW ho' wn b0 k1;refine wt zz ?_;replace zz:=AW ho' wn b0 k1;refine uU zz (hlow _) ?_;replace zz:=Ae ho' wn b0 k1 c1;refine wt zz ?_;first|exact G1|exact⟨rfl,G1⟩
    |true=>
     cases c2:Hn w with
     |true=>
      refine AD func101 ntmps101 results101 Ty.GU ?_;replace zz:=AW ho' wn b0 k1;refine wt zz ?_;replace zz:=AW ho' wn b0 k1;refine uU zz (hlow _) ?_;replace zz:=Ae ho' wn b0 k1 c1;refine wt zz ?_;replace zz:=Ad ho' wn b0 k1 c1 c2 yT;refine uU zz (Rp (s:=w) hwb) ?_;refine wt zz ?_;first|exact G1|exact⟨rfl,G1⟩
     |false=>
      cases c3:(value==0)with
      |false=>
       have c3':decide (value=0)=false:=(by simpa using c3);refine AD func101 ntmps101 results101 Ty.GU ?_;replace zz:=AW ho' wn b0 k1;refine wt zz ?_;replace zz:=AW ho' wn b0 k1;refine uU zz (hlow _) ?_;replace zz:=Ae ho' wn b0 k1 c1;refine wt zz ?_;replace zz:=BF ho' wn b0 k1 c1 c2 c3 hlen yF;refine uU zz (Rp (s:=w) hwb) ?_;replace zz:=BJ ho' wn b0 k1 c1 c2 c3 yF;refine wt zz ?_;first|exact G1|exact⟨by simp only[c3',BA,B5],G1⟩
      |true=>
       have c3':decide (value=0)=true:=(by simpa using c3);refine AD func101 ntmps101 results101 Ty.GU ?_;replace zz:=AW ho' wn b0 k1;refine wt zz ?_;replace zz:=AW ho' wn b0 k1;refine uU zz (hlow _) ?_;replace zz:=Ae ho' wn b0 k1 c1;refine wt zz ?_;replace zz:=BF ho' wn b0 k1 c1 c2 c3 hlen yF;refine uU zz (Rp (s:=w) hwb) ?_;replace zz:=BF ho' wn b0 k1 c1 c2 c3 yF hlen;refine wt zz ?_;exact⟨by simp only[c3',e1,CB,B7],G1⟩
  |false=>
   have hk1:¬ kind=1:=(by simpa using k1);rw[A7 hk1];cases k2:(kind==2)with
   |true=>
    have hk2:kind=2:=(by simpa using k2);rw[AK hk2];have e1:(kids.isEmpty)=((kids.length:Int)==0):=(by cases kids<;>simp;omega);cases c1:(text.data.toList==(#[]:Array UInt8).toList)with
    |false=>
     refine AD func101 ntmps101 results101 Ty.GU ?_;replace zz:=Ah ho' wn b0 k1 k2 c1;refine wt zz ?_;first|exact⟨by simp only[A2,c1,B5],G1⟩|(simp only[A2,c1,e1,c2,B7];exact G1)|exact G1
    |true=>
     cases c2:((kids.length:Int)==0)with
     |false=>
      refine AD func101 ntmps101 results101 Ty.GU ?_;replace zz:=BJ ho' wn b0 k1 k2 c1 c2 hlen;refine wt zz ?_;first|exact⟨by simp only[A2,c1,e1,c2,BA,B5],G1⟩|(simp only[A2,c1,e1,c2,B7];exact G1)|exact G1
     |true=>
      cases c3:decide (value>= -1099511627776)with
      |false=>
       refine AD func101 ntmps101 results101 Ty.GU ?_;replace zz:=BF ho' wn b0 k1 k2 c1 c2 c3 hlen;refine wt zz ?_;have c3':decide (-1099511627776<=value)=false:=c3;first|exact⟨by simp only[A2,c1,e1,c2,c3',BA,B5],G1⟩|(simp only[A2,c1,e1,c2,B7];exact G1)|exact G1
      |true=>
       refine AD func101 ntmps101 results101 Ty.GU ?_;replace zz:=BF ho' wn b0 k1 k2 c1 c2 c3 hlen;refine wt zz ?_;have c3':decide (-1099511627776<=value)=true:=c3;first|exact⟨by simp only[A2,c1,e1,c2,c3',B7],G1⟩|(simp only[A2,c1,e1,c2,B7];exact G1)|exact G1
   |false=>
    have hk2:¬ kind=2:=(by simpa using k2);rw[A7 hk2];cases k3:(kind==3)with
    |false=>
     have hk3:¬ kind=3:=(by simpa using k3);rw[A7 hk3];refine AD func101 ntmps101 results101 Ty.GU ?_;replace zz:=Ah ho' wn b0 k1 k2 k3;refine wt zz ?_;first|exact G1|exact⟨rfl,G1⟩
    |true=>
     have hk3:kind=3:=(by simpa using k3);rw[AK hk3];cases c1:(text.data.toList==(#[]:Array UInt8).toList)with
     |false=>
      rw[A7 (by simp[A2,c1])];refine AD func101 ntmps101 results101 Ty.GU ?_;replace zz:=BJ ho' wn b0 k1 k2 k3 c1 yF;refine wt zz ?_;first|exact G1|exact⟨rfl,G1⟩
     |true=>
      cases c2:(value !=0)with
      |true=>
       rw[A7 (by simp at c2;simp[c2])];refine AD func101 ntmps101 results101 Ty.GU ?_;replace zz:=BF ho' wn b0 k1 k2 k3 c1 c2 yT;refine wt zz ?_;first|exact G1|exact⟨rfl,G1⟩
      |false=>
       cases c3:((d:Int)==32)with
       |true=>
        rw[A7 (by simp at c3;simp;omega)];refine AD func101 ntmps101 results101 Ty.GU ?_;replace zz:=B6 ho' wn b0 k1 k2 k3 c1 c2 c3 yT;refine wt zz ?_;first|exact G1|exact⟨rfl,G1⟩
       |false=>
        rw[AK (by simp at c2 c3;exact⟨c1,c2,by omega⟩)];refine AD func101 ntmps101 results101 Ty.GU ?_;replace zz:=DX ho' wn b0 k1 k2 k3 c1 c2 c3 yT hlen;refine wt zz ?_;generalize hV:H4 kids (d+1) (n+1)=V;refine By (λc S h'=>S 1= qK d/\S 2= .ptr id 0 0/\S 89= .A1 6 (Sx.rows kids)/\S 90= qK kids.length/\ ∃ k n':Nat,S 91= qK k/\k<=kids.length/\c=kids.length-k/\n'<=4096/\CP h id (D5 n') h'/\V=H4 (kids.drop k) (d+1) n') kids.length ?_ ?_
        ·simp only[Ty.w,simprocAttr];exact⟨0,n+1,rfl,by omega,rfl,by simp at b0;omega,G1,hV.symm⟩
        ·clear G1 ho';rintro c S h' ⟨g1,g2,g89,g90,k,n',g91,hkl,rfl,hn',hG,hinv⟩;by_cases hlt:k<kids.length
         ·have hdk:decide ((k:Int)<(kids.length:Int))=true:=(by simp;omega);have w7:IntKind.i64.wrap ((k:Int)+1)=k+1:=(by unfold AF at hk;rw[BM (by omega) (by omega)]);have wd:IntKind.i64.wrap ((d:Int)+1)=(d:Int)+1:=(by rw[BM (by omega) (by omega)]);obtain⟨e,hx⟩: ∃ e,kids[k]? =some e:=⟨_,List.getElem?_eq_getElem hlt⟩;have hmem:=List.mem_of_getElem? hx;have hc:=ih e hmem (hks e hmem) (d+1) n' (by simp at c3;omega) hn' id;have hle:=VV e (d+1) n';rw[Ca hx]at hinv;simp only[H4]at hinv;generalize CJ e (d+1) n'=W at hc hle hinv;obtain⟨b,n''⟩:=W;simp only[M0]at hc hle hinv;have hr:=Sx.CG hx;have hne:id≠h'.next:=by have:=hG.le;omega
          have hne':(h'.next=id)=False:=(by simp;omega);have hc2:=hc ((h'.new (.arr 6 [[qK 0,qK 0,qK 0,qK 0,.sc (.string ⟨#[]⟩),.sc (.slice none 0 0)]])).set h'.next (.arr 6 [e.cells])) (by simp only[A0.set,A0.new];rw[A7 hne,A7 hne];exact hG.at_);have hG2:CP h id (D5 n') ((h'.new (.arr 6 [[qK 0,qK 0,qK 0,qK 0,.sc (.string ⟨#[]⟩),.sc (.slice none 0 0)]])).set h'.next (.arr 6 [e.cells])):=(hG.new hid).set hid hG.le;obtain⟨ki,va,li,co,te,ks⟩:=e;simp only[Sx.cells]at hr hc2 hG2;replace zz:=BF g1 g2 g89 g90 g91 hlen hdk hr wd;refine wt zz ?_;refine DM (hc2) (sr (BF g1 g2 g89 g90 g91 hlen hdk hr wd)) ?_;simp only[Ty.w,simprocAttr,g1,g2,g89,g90,g91,hlen,hdk,hr,wd];cases b with
          |false=>
           subst hinv;replace zz:=Ad g1 g2 g89 g90 g91 w7 yF;refine wt zz ?_;exact hG2.put
          |true=>
           replace zz:=Ad g1 g2 g89 g90 g91 w7 yT;refine wt zz ?_;exact⟨kids.length-(k+1),by omega,k+1,n'',by simp,by omega,rfl,hle rfl,hG2.put,hinv⟩
         ·have hdk:decide ((k:Int)<(kids.length:Int))=false:=(by simp;omega);rw[List.drop_eq_nil_of_le (by omega)]at hinv;simp only[H4]at hinv;subst hinv;replace zz:=Ah g1 g2 g89 g90 g91 hdk;refine wt zz ?_;(try rw[hV]);first|exact⟨rfl,hG⟩|exact hG
theorem JM{x:Sx}(hx:x.ok)(h:A0):A6 prog 47 [.agg x.cells] h λr h'=>r= .sc (.bool (CJ x 0 0).1)/\h'=h:=by
 have hc:=iM x hx 0 0 (by omega) (by omega) h.next ((h.new (.arr 1 [[qK 0]])).set h.next (.arr 1 [[qK 0]])) (by simp[A0.set,D5])
 refine A6.quiet Ty.Ug ?_;generalize CJ x 0 0=W at hc;obtain⟨b,n⟩:=W;obtain⟨ki,va,li,co,te,ks⟩:=x;simp only[Sx.cells,Qj]at hc⊢;refine AD func47 ntmps47 results47 Ty.Ug ?_;refine wt A4 ?_;refine DM (hc) (sr A4) ?_;simp only[Ty.w,simprocAttr];refine wt A4 ?_;exact(((AH.refl h).new _).set (AG _) _).set (AG _) _
end Go.Proofs.YtblgchkahpgdjaaGreat
namespace Go.Proofs.YtblgchkahpgdjaaGreat
open Go.AM Go.Proofs.Tryz
set_option maxHeartbeats 2000000
set_option maxRecDepth 20000
variable {h:A0}
theorem iN(n:Nat): ∀ x:Sx,Bo n x.cells:=by
 refine Sx.ind ?_;intro kind value line col text kids ih;have:B9 n (Sx.rows kids):=by
  clear kind value line col text
  induction kids with
  |nil=>simp only[Sx.rows,B9]
  |cons k ks ih2=>
   simp only[Sx.rows,B9];exact⟨ih k (by simp),ih2 λq hq=>ih q (by simp[hq])⟩
 simp only[Sx.cells,Bo,Bc,Do,Fk];exact this
theorem HL(n:Nat): ∀ l:List Sx,B9 n (Sx.rows l)
 |[]=>by simp only[Sx.rows,B9]
 |k::ks=>by simp only[Sx.rows,B9];exact⟨iN n k,HL n ks⟩
theorem FZ(n:Nat)(h:A0)(x:Sx):AN n h x.cells x.cells:=by
 obtain⟨kind,value,line,col,text,kids⟩:=x;simp only[Sx.cells,AN,AI,Do,Fk];exact .inl (HL n kids)
theorem IM(n:Nat)(h:A0): ∀ l:List Sx,DE n h (Sx.rows l) (Sx.rows l)
 |[]=>by simp only[Sx.rows,DE]
 |k::ks=>by simp only[Sx.rows,DE];exact⟨FZ n h k,IM n h ks⟩
theorem A6.CD{P:Program}{f:FuncId}{args:List PV}{v:PV}(hb:Ab P f=true)(hc:A6 P f args h λr' h'=>AI h.next h' v r'/\AH h h'):A6 P f args h λr h'=>r=v/\h'=h:=by
 refine JJ hb λhw=>A6.drop (hc.mono ?_);rintro r' h' ⟨hf,g⟩;refine⟨v,h,⟨rfl,rfl⟩,hf,AG _,λid o ho=>?_⟩;have hid:=hw id (by rw[ho];try rfl);exact⟨by rw[g.B1 id hid];exact ho,hid,.inl ho⟩
theorem Ks{n id off len:Nat}{h':A0}(hid:id<n):AI n h' (.own id off len) (.own id off len):=by simp only[AI];exact⟨trivial,hid⟩
def A5(s:ByteArray):Sx:= .mk 1 0 0 0 s []
def AC(l:List Sx):Sx:= .mk 3 0 0 0 ⟨#[]⟩ l
def Cu(first:ByteArray)(l:List ByteArray):Sx:=AC ((first::l).map A5)
theorem Kt{s:ByteArray}:A6 prog 136 [A3 s] h λr h'=>r= .agg (A5 s).cells/\h'=h:=by
 refine A6.CD Ty.Uw ?_;refine AD func136 ntmps136 results136 Ty.Uw ?_;refine wt A4 ?_;refine⟨?_,((AH.refl h).new _).set (AG _) _⟩;simp only[A5,Sx.cells,Sx.rows,AI,AN];exact⟨_,rfl,rfl,rfl,rfl,rfl,rfl,.inr (.inl ⟨rfl,.inr rfl⟩),trivial⟩
theorem Ku{p:PV}(h1:Cs p=true)(hf: ∀ h',AI h.next h' p p):A6 prog 175 [p] h λr h'=>r= .agg [qK 3,qK 0,qK 0,qK 0,.sc (.string ⟨#[]⟩),p]/\h'=h:=by
 refine A6.CD Ty.V8 ?_;have hc:p.cells=[p]:=by cases p<;>simp[Cs]at h1<;>rfl
 refine AD func175 ntmps175 results175 Ty.V8 ?_;refine wt (uu hc h1) ?_;refine⟨?_,((AH.refl h).new _).set (AG _) _⟩;simp only[AI,AN];exact⟨_,rfl,rfl,rfl,rfl,rfl,rfl,hf _,trivial⟩
structure iO(h:A0)(first:ByteArray)(l:List ByteArray)(k:Nat)(h':A0):Prop where
 grow:AH h h'
 ex: ∃ id,h.next+1+1<h'.next/\id≠h.next+1+1/\h.next<id/\id<h'.next/\
  h'.obj h.next=some (.arr 6 [[qK 0,qK 0,qK 0,qK 0,.sc (.string ⟨#[]⟩),.sc (.slice none 0 0)]])/\
  h'.obj (h.next+1+1)=some (.arr 6 [[qK 3,qK 0,qK 0,qK 0,.sc (.string ⟨#[]⟩),.own id 0 (k+1)]])/\
  h'.obj id=some (.arr 6 (Sx.rows ((first::l.take k).map A5)))
theorem Rr{first:ByteArray}{l:List ByteArray}(hl:l.length<=1048576):A6 prog 174 [A3 first,.A1 1 (AL l)] h λr h'=>r= .agg (Cu first l).cells/\h'=h:=by
 refine A6.CD Ty.V7 ?_;have hll:=GI l;have hw: ∀ (s:ByteArray)(h:A0),A6 prog 136 [A3 s] h λr h'=>r= .agg (A5 s).cells/\h'=h:=λs h=>Kt;simp only[A5,Sx.cells,Sx.rows]at hw;refine uG (ow:=λt=>t==10) (wf:=λ_=>false) func174 ntmps174 results174 Ty.V7 ?_;refine wt A4 ?_;refine uU A4 (hw first _) ?_;refine wt A4 ?_;refine uU A4 (Ku (p:= .own (h.next+1) 0 1) rfl (λ_=>Ks (by simp[A0.new]))) ?_;refine wt hll ?_;refine By (λm S h'=>S 4= .ptr h.next 0 0/\S 5= .ptr (h.next+1+1) 0 0/\S 12= .A1 1 (AL l)/\S 13= qK l.length/\ ∃ k:Nat,S 14= qK k/\k<=l.length/\m=l.length-k/\iO h first l k h') l.length ?_ ?_
 ·simp only[Ty.w,simprocAttr];refine⟨0,rfl,by omega,rfl,?_⟩;have e1:¬ h.next=h.next+1+1:=by omega
  refine⟨(((((AH.refl h).new _).new _).new _).set (show h.next<=h.next+1+1 by omega) _),h.next+1,by simp[A0.new,A0.set],by omega,by omega,by simp[A0.new,A0.set],?_,?_,?_⟩
  ·simp [A0.new,A0.set,e1]
  ·simp [A0.new,A0.set]
  ·simp [A0.new,A0.set,A5,Sx.rows,Sx.cells]
 ·rintro m S h' ⟨g4,g5,g12,g13,k,g14,hk,rfl,hI⟩;obtain⟨hg,id,hn2,hne,hlo,hhi,o1,o2,o3⟩:=hI;by_cases hlt:k<l.length
  ·have hd:decide ((k:Int)<(l.length:Int))=true:=(by simp;omega);have w7:IntKind.i64.wrap ((k:Int)+1)=k+1:=(by rw[BM (by omega) (by omega)]);obtain⟨s,hx⟩: ∃ s,l[k]? =some s:=⟨_,List.getElem?_eq_getElem hlt⟩;have hr:=K3 hx;have hrl:(Sx.rows ((first::l.take k).map A5)).length=k+1:=(by rw[Sx.B3];simp;omega);generalize hR:Sx.rows ((first::l.take k).map A5)=R at o3 hrl;have n1:(h.next+1+1=id)=False:=(by simp;omega);have n2:(h.next+1+1=h'.next)=False:=(by simp;omega);have htk:List.take (k+1) R=R:=List.take_of_length_le (by omega);have hb:(k+1+1)*72<=140737488355328:=(by omega);replace zz:=B6 g4 g5 g12 g13 g14 hd hr w7 o2 o3;refine wy zz ?_;replace zz:=Ad g4 g5 g12 g13 g14 o2 o3;(first|refine uV zz (hw s _) ?_|refine uA zz (hw s _) ?_);replace zz:=AY g4 g5 g12 g13 g14 w7 o2 o3 n1 n2 hrl (uu htk hb);(repeat'(first|refine cK ?_|refine nK ?_|refine uR zz ?_|(refine uN hK ?_;clear hK)|refine uB zz ?_|(rw[AK];rotate_left 1;omega;simp only[Ty.w,simprocAttr,g4,g5,g12,g13,g14,w7,o2,o3,n1,n2,hrl,htk,hb])|apply zI));refine⟨l.length-(k+1),by omega,k+1,by simp,by omega,rfl,((hg.kill (by omega)).new _).set (by omega) _,h'.next,?_,?_,?_,?_,?_,?_,?_⟩
   ·simp only[A0.set,A0.new,A0.kill];omega
   ·omega
   ·omega
   ·simp only[A0.set,A0.new,A0.kill];omega
   ·have a1:¬ h.next=h.next+1+1:=by omega
    have a2:¬ h.next=h'.next:=by omega
    have a3:¬ h.next=id:=by omega
    simp only[A0.set,A0.new,A0.kill,a1,a2,a3,AP];exact o1
   ·simp only[A0.set,AO]
   ·have a1:¬ h'.next=h.next+1+1:=by omega
    simp only[A0.set,A0.new,A0.kill,a1,AP,AO];rw[List.take_add_one,hx, ← hR];simp only[Sx.rows_map,List.map_cons,List.map_append,List.map_nil,Yy,List.cons_append,A5,Sx.cells]
  ·have hd:decide ((k:Int)<(l.length:Int))=false:=(by simp;omega);have hke:k=l.length:=(by omega);subst hke;rw[List.take_length]at o3;have n1:(h.next+1+1=h.next)=False:=(by simp;omega);replace zz:=BF g4 g5 g12 g13 g14 hd o1 o2 o3;refine wt zz ?_;refine⟨?_,hg.set (AG _) _⟩;simp only[Cu,AC,Sx.cells,AI,AN];refine⟨_,rfl,rfl,rfl,rfl,rfl,rfl,.inr (.inr ⟨id,0,l.length+1,Sx.rows ((first::l).map A5),rfl,by omega,?_,?_,?_⟩),trivial⟩
   ·simp only[A0.set];rw[A7 (by omega)];exact o3
   ·rw [Sx.B3];simp
   ·rw [List.drop_zero,List.take_of_length_le (by rw[Sx.B3];simp)];exact IM _ _ _
end Go.Proofs.YtblgchkahpgdjaaGreat
namespace Go.AM
mutual
def Ex.small:Ex->Prop
 | .mk _ _ _ args kids=>args.length<=1048576/\Ex.Db kids
def Ex.Db:List Ex->Prop
 |[]=>True
 |k::ks=>k.small/\Ex.Db ks
end
theorem Ex.Es:{l:List Ex}->(Ex.Db l↔ ∀ k∈l,k.small)
 |[]=>by simp[Ex.Db]
 |k::ks=>by simp[Ex.Db,Ex.Es (l:=ks)]
end Go.AM
namespace Go.Proofs.YtblgchkahpgdjaaGreat
open Go.AM Go.Proofs.Tryz
set_option maxHeartbeats 2000000
set_option maxRecDepth 20000
def Iv:ByteArray:=⟨#[110,117,109,98,101,114]⟩
def Iw:ByteArray:=⟨#[102,108,117,101,110,116]⟩
def M1:ByteArray:=⟨#[43]⟩
def GJ:ByteArray:=⟨#[45]⟩
def M3:ByteArray:=⟨#[42]⟩
def HM(s:ByteArray):Bool:=A2 s ⟨#[]⟩
def CH(s:ByteArray):Bool:=As s||F9 s
def Rs(n:Int):Bool:=decide (-1099511627776<=n)&&decide (n<=1099511627776)
def FJ:Ex->Bool
 | .mk op name n args kids=>
  if A2 op Iv then HM name&&args.isEmpty&&kids.isEmpty&&Rs n
  else if A2 op Iw then decide (n=0)&&kids.isEmpty&&As name&&args.all CH
  else if A2 op M1||A2 op GJ||A2 op M3 then decide (n=0)&&HM name&&args.isEmpty&&(match kids with
   |[a,b]=>FJ a&&FJ b
   |_=>false)
  else false
termination_by e=>SizeOf.sizeOf e
decreasing_by all_goals(simp_wf;omega)
def EW:Ex->Nat->Nat->Bool × Nat
 | .mk op name n args kids,d,c=>
  if c+1<=4096/\d<=32 then
   if A2 op Iv then(HM name&&args.isEmpty&&kids.isEmpty&&Rs n,c+1)
   else if A2 op Iw then(decide (n=0)&&kids.isEmpty&&As name&&args.all CH,c+1)
   else if A2 op M1||A2 op GJ||A2 op M3 then
    (if (decide (n = 0) && HM name && args.isEmpty) = true then (match kids with
     |[a,b]=>(match EW a (d+1) (c+1)with
      |(true,c')=>EW b (d+1) c'
      |(false,c')=>(false,c'))
     |_=>(false,c+1))else(false,c+1))
   else(false,c+1)
  else(false,c+1)
termination_by e=>SizeOf.sizeOf e
decreasing_by all_goals(simp_wf;omega)
def BG:Ex->Sx
 | .mk op name n args kids=>
  if A2 op Iv then .mk 2 n 0 0 ⟨#[]⟩ []
  else if A2 op Iw then Cu name args
  else match kids with
   |[a,b]=>AC [A5 op,BG a,BG b]
   |_=>AC [A5 op]
termination_by e=>SizeOf.sizeOf e
decreasing_by all_goals(simp_wf;omega)
theorem K5{n z:Nat}{h':A0}{rows:List (List PV)}(h:B9 n rows):AI n h' (.A1 z rows) (.A1 z rows):=by simp only[AI];exact .inl ⟨trivial,h⟩
theorem Kv: ∀ e:Ex,e.small->FJ e=true-> ∀ h:A0,A6 prog 167 [.agg e.cells] h λr h'=>r= .agg (BG e).cells/\h'=h:=by
 refine Ex.ind ?_;intro op name n args kids ih hsm hsh h;simp only[Ex.small]at hsm;obtain⟨hal,hks⟩:=hsm;rw[Ex.Es]at hks;unfold FJ at hsh;unfold BG;refine A6.CD Ty.Pt ?_;cases c1:A2 op Iv with
 |true=>
  have c1':(op.data.toList==(#[110,117,109,98,101,114]:Array UInt8).toList)=true:=c1;simp only[AO,Ex.cells];refine AD func167 ntmps167 results167 Ty.Pt ?_;refine wt c1' ?_;refine⟨?_,((AH.refl h).new _).set (AG _) _⟩;simp only[Sx.cells,Sx.rows,AI,AN];exact⟨_,rfl,rfl,rfl,rfl,rfl,rfl,.inr (.inl ⟨rfl,.inr rfl⟩),trivial⟩
 |false=>
  have c1':(op.data.toList==(#[110,117,109,98,101,114]:Array UInt8).toList)=false:=c1;rw[c1]at hsh;simp only[BQ,AP]at hsh⊢;cases c2:A2 op Iw with
  |true=>
   have c2':(op.data.toList==(#[102,108,117,101,110,116]:Array UInt8).toList)=true:=c2;have hw:=λh:A0=>Rr (h:=h) (first:=name) hal;have hfz:=λ(n:Nat)(h:A0)=>FZ n h (Cu name args);simp only[AO,Ex.cells];generalize Cu name args=X at hw hfz;obtain⟨ki,va,li,co,te,ks⟩:=X;simp only[Sx.cells]at hw hfz⊢;refine AD func167 ntmps167 results167 Ty.Pt ?_;refine wt (uu c1' c2') ?_;refine uU (uu c1' c2') (hw _) ?_;refine wt A4 ?_;refine⟨?_,((AH.refl h).new _).set (AG _) _⟩;simp only[AI];exact⟨_,rfl,hfz _ _⟩
  |false=>
   have c2':(op.data.toList==(#[102,108,117,101,110,116]:Array UInt8).toList)=false:=c2;rw[c2]at hsh;simp only[BQ,AP]at hsh⊢;split at hsh
   case isFalse=>simp at hsh
   simp only[AV]at hsh;obtain⟨⟨⟨_,_⟩,_⟩,hsh⟩:=hsh;split at hsh
   case h_2=>simp at hsh
   rename_i a b;simp only[AV]at hsh;have ca:=ih a (by simp) (hks a (by simp)) hsh.1;have cb:=ih b (by simp) (hks b (by simp)) hsh.2;have hw:=λh:A0=>Kt (h:=h) (s:=op);have hfz:=λ(n:Nat)(h:A0)=>FZ n h (AC [A5 op,BG a,BG b]);have hl:=λh:A0=>Ku (h:=h) (p:= .A1 6 (Sx.rows [A5 op,BG a,BG b])) rfl (λ_=>K5 (HL _ _));generalize BG a=xa at ca hfz hl⊢;generalize BG b=xb at cb hfz hl⊢;clear ih hks hsh;obtain⟨F5,aname,an,aargs,akids⟩:=a;obtain⟨bop,bname,bn,bargs,bkids⟩:=b;obtain⟨ki,va,li,co,te,ks⟩:=xa;obtain⟨ki2,va2,li2,co2,te2,ks2⟩:=xb;simp only[Ex.cells,Ex.rows,AC,Sx.cells,Sx.rows,A5]at ca cb hw hfz hl⊢;refine AD func167 ntmps167 results167 Ty.Pt ?_;refine wy (uu c1' c2') ?_;(first|refine uV A4 (hw _) ?_|refine uA A4 (hw _) ?_);refine wy A4 ?_;(first|refine uV A4 (ca _) ?_|refine uA A4 (ca _) ?_);refine wy A4 ?_;(first|refine uV A4 (cb _) ?_|refine uA A4 (cb _) ?_);refine wy A4 ?_;(first|refine uV A4 (hl _) ?_|refine uA A4 (hl _) ?_);refine wy A4 ?_;refine⟨?_,((AH.refl h).new _).set (AG _) _⟩;simp only[AI];exact⟨_,rfl,hfz _ _⟩
end Go.Proofs.YtblgchkahpgdjaaGreat
